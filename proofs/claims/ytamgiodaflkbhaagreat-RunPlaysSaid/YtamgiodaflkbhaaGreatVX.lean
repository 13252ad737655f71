import Derived.Test.YtamgiodaflkbhaaGreatVW
import Derived.Test.YtamgiodaflkbhaaGreatVV
set_option linter.all false
set_option maxRecDepth 100000
set_option maxHeartbeats 4000000
namespace Go.Wor
open Go.Ab Go.Proofs Tryz Go.Hy Go.Gat Go.Nam Go.Hos Go.Con Go.Sna
variable{d:Int}{c:fV}{m:fx}{v:fC}
abbrev AK(w:Wor)(m:fx):fx:={m with version:=w.current,zp:=0,end_:=0,other:=0,slot:=0,listen:=zZ w.zc m.op.listen,pc:=4}
abbrev FD(e:fF):fF:={e with jo:=true}
def NU(w:Wor)(m:fx)(hl:w.zc.length<4611686018427387904):
  th 209 [oW w,oM m] [.agg tg] (Ce (FD (fI m 1 3 w.current))) [oW w,oM (if zZ w.zc m.op.listen<0 then kB (AK w m) 2 else AK w m)]:=by
 refine aa func209 ?_;refine .inr ⟨⟨[0,2,5,6],[0,1,2],true⟩,ak,λ_=>V,_,uH ?_,λt2 H2 h=>h⟩;refine⟨_,ag [1] (jn m 1 3 w.current),uH ?_⟩;refine zbj ?_
 refine zbj ?_
 refine zaM ?_
 refine .inl ⟨⟨true,[],[],[12]⟩,ak,uH ?_⟩;refine af (vr w.zc m.op.listen hl) ?_;refine tc ?_
 refine⟨λh1=>?_,λh1=>?_⟩
 .have e1:zZ w.zc m.op.listen<0:=by simpa using h1
  rw[pD e1];refine dd ?_;refine ae [1] (xU (AK w m) 2) ?_;exact dk
 .have e1:¬zZ w.zc m.op.listen<0:=by simpa using h1
  rw[pA e1];refine dd ?_;exact dk
def Sf(w:Wor)(m:fx)(sw:z6 w)(ok:fG w)(hl:i64 m.listen)(hs:zG w m=true):
  th 222 [oW w,oM m] [.agg tg] (Ce {BL m with done:=true,answer:=m.answer}) [oW (mJ w m.zm.toNat 0),oM ({m with done:=true})]:=by
 refine aa func222 ?_;refine .inr ⟨⟨[1,3,5,7,8],[0,1,2],true⟩,ak,λ_=>V,λt H=>t=(.za::.ref 2 [] 2 0 0::.ref 3 [] 23 0 0::.ref 4 [] 8 0 0::.ref 5 [] 23 0 0::mL (mL (mL ([.za,.za,.za,.za]))))/\H=[oW w,oM m,⟨1,229,2,[tg],0⟩,oE zW,oW (mJ w m.zm.toNat 0),oE (BL m)],?_,?_⟩
 .conv=>whnf
  refine⟨_,ag [] (U5 w m sw ok hl hs),uH ?_⟩;repeat' (first|(exact trivial)|(refine⟨rfl,uH ?_⟩)|(exact⟨_,_,zl.fD [0,1,2,3,4,5] [1,2,3,4] _ _ V V V V,rfl,rfl⟩)|(exact⟨_,_,zl.fD [0,1,2,3,5,4] [1,2,3,4] _ _ V V V V,rfl,rfl⟩)|(refine And.intro ?_ ?_ <;> (conv=>whnf)))
 rintro _ _ ⟨rfl,rfl⟩;conv=>whnf
 refine .inr ⟨⟨[1,3],[2],true⟩,ak,λ_=>V,λt H=>t=(.za::.ref 2 [] 2 0 0::.ref 3 [] 23 0 0::.za::.ref 5 [] 23 0 0::mL (mL (mL ([.za,.za,.za,.za]))))/\H=[oW (mJ w m.zm.toNat 0),oM ({m with done:=true}),⟨1,229,2,[tg],0⟩,oE zW,oW (mJ w m.zm.toNat 0),oE ({BL m with done:=true,answer:=m.answer})],?_,?_⟩
 .conv=>whnf
  repeat' (first|(exact trivial)|(refine⟨rfl,uH ?_⟩)|(exact⟨_,_,zl.mask [1,2,4] _ _,rfl,rfl⟩)|(refine And.intro ?_ ?_ <;> (conv=>whnf)))
 rintro _ _ ⟨rfl,rfl⟩;conv=>whnf
 exact dk
def yg(c:fV)(d:Int):Int:=((ft c)[(d%(ft c).length).toNat]?).getD 0
def yA(c:fV)(d0 d1:Int):Int×Int×Int:=if (ft c).length=0 then (0,0,5) else (yg c d0,yg c d1,0)
def TO{n:Nat}(hd:i64 d)(hn:0<n)(hm:n<1000000000000):IntKind.i64.wrap (d.tmod n+n)=d.tmod n+n/\(d.tmod n+n).tmod n=d%n:=by
 have h1:=Int.tmod_lt_of_pos d (show(0:Int)<n by omega);have h2:=Int.lt_tmod_of_pos d (show(0:Int)<n by omega);refine⟨jF an an,?_⟩;rw[tq an,Int.add_emod_right];rw[Int.tmod_def,fa]
def LS(hd:i64 d)(hn:0<(ft c).length)(hm:(ft c).length<1000000000000){n:Nat}(e:n=(ft c).length):
  0<=(IntKind.i64.wrap (d.tmod n+n)).tmod n/\((ft c).map encI)[((IntKind.i64.wrap (d.tmod n+n)).tmod n).toNat]?=some [I (yg c d)]:=by
 subst e;obtain⟨e1,e2⟩:=TO hd hn hm;rw[e1,e2];have h0:(0:Int)<(ft c).length:=an
 have h1:=sP d (show((ft c).length:Int)≠0 by omega);have h2:=sN d h0;refine⟨h1,?_⟩;have hi:(ft c)[(d%((ft c).length:Int)).toNat]?=some ((ft c)[(d%((ft c).length:Int)).toNat]'an):=pq _;unfold yg;rw[pw,hi]
 rfl
def RW(c:fV)(d0 d1:Int)(h0:i64 d0)(h1:i64 d1)(hl:c.zM.length<1000000000000)(hh:(ft c).length<=c.zM.length):th 285 [] [Cc c,I d0,I d1] (.fy [I (yA c d0 d1).1,I (yA c d0 d1).2.1,I (yA c d0 d1).2.2]) []:=by
 have ml:((ft c).map encI).length=(ft c).length:=pz ..;refine ab func285 ?_;refine af (IH c hl) ?_;rw[ml];refine⟨λhz=>?_,λhz=>?_⟩
 .unfold yA;have hz:=pC hz;rw[pD an];exact dB
 .unfold yA;have hz:=pB hz;rw[pA an];refine dd ?_;have hw:(((ft c).length:Nat):Int)≠0:=by omega
  refine AY.FB 3 (LoopN.step ?_);conv=>whnf
  refine td ?_
  (refine⟨aj,aj,dd ?_⟩)
  split;(rotate_left;(rename_i hno;exact(hno _ (jU V V V hw)).elim));(rename_i v e;cases e.symm.trans (jU rfl rfl rfl hw));refine dd ?_
  split;(rotate_left;(rename_i hno;exact(hno _ (jU V V V hw)).elim));(rename_i v e;cases e.symm.trans (jU rfl rfl rfl hw));refine dd ?_
  obtain⟨p0,p1⟩:=LS h0 (c:=c) an an V;refine⟨p0,_,p1,dd ?_⟩;(refine⟨aj,aj,dd ?_⟩)
  refine .inl ⟨rfl,LoopN.step (uH ?_)⟩;refine td ?_
  (refine⟨aj,aj,dd ?_⟩)
  split;(rotate_left;(rename_i hno;exact(hno _ (jU V V V hw)).elim));(rename_i v e;cases e.symm.trans (jU rfl rfl rfl hw));refine dd ?_
  split;(rotate_left;(rename_i hno;exact(hno _ (jU V V V hw)).elim));(rename_i v e;cases e.symm.trans (jU rfl rfl rfl hw));refine dd ?_
  obtain⟨p2,p3⟩:=LS h1 (c:=c) an an V;refine⟨p2,_,p3,dd ?_⟩;(refine⟨aj,aj,dd ?_⟩)
  refine .inl ⟨rfl,LoopN.step (uH ?_)⟩;refine td ?_
  refine zaW ?_;refine uE ?_;(refine⟨aj,aj,dd ?_⟩)
  (refine⟨aj,aj,dd ?_⟩)
  exact uI
abbrev xx(m:fx)(v:fC):Int×Int:=kN v.snap m.op.listen m.op.host m.op.path
def yu(m:fx)(v:fC):fx:=if (xx m v).2≠0 then kB m 2 else match v.snap.zj[(xx m v).1.toNat]? with
 |none=>m
 |some c=>if (yA c m.op.d0 m.op.d1).2.2≠0 then kB {m with zp:=(xx m v).1} 3
  else if c.jP=1 then {m with zp:=(xx m v).1,pc:=6}
  else {m with zp:=(xx m v).1,end_:=(yA c m.op.d0 m.op.d1).1,other:=(yA c m.op.d0 m.op.d1).2.1,pc:=7}
structure CK(m:fx)(v:fC):Prop where
 small:Hl v.snap
 host:m.op.host.length<4000000000000
 path:m.op.path.length<4000000000000
 d0:i64 m.op.d0
 d1:i64 m.op.d1
 Nw:(xx m v).2=0->0<=(xx m v).1/\∃c,v.snap.zj[(xx m v).1.toNat]?=some c/\c.zM.length<1000000000000
def EK(c:fV):(ft c).length<=c.zM.length:=C5 c.zM c.zM.length
def K9(h:(xx m v).2≠0):yu m v=kB m 2:=pD h
def Jr(h:(xx m v).2=0)(hc:v.snap.zj[(xx m v).1.toNat]?=some c)(hd:(yA c m.op.d0 m.op.d1).2.2≠0):yu m v=kB {m with zp:=(xx m v).1} 3:=by
 unfold yu;rw[pA an,hc];exact pD hd
def Ki(h:(xx m v).2=0)(hc:v.snap.zj[(xx m v).1.toNat]?=some c)(hd:(yA c m.op.d0 m.op.d1).2.2=0)(hp:c.jP=1):yu m v={m with zp:=(xx m v).1,pc:=6}:=by
 unfold yu;rw[pA an,hc];exact(pA an).trans (pD hp)
def Kj(h:(xx m v).2=0)(hc:v.snap.zj[(xx m v).1.toNat]?=some c)(hd:(yA c m.op.d0 m.op.d1).2.2=0)(hp:c.jP≠1):
  yu m v={m with zp:=(xx m v).1,end_:=(yA c m.op.d0 m.op.d1).1,other:=(yA c m.op.d0 m.op.d1).2.1,pc:=7}:=by
 unfold yu;rw[pA an,hc];exact(pA an).trans (pA hp)
def Ra(w:Wor)(m:fx)(v:fC)(hv:mK w m v)(h:CK m v):th 260 [oW w,oM m] [.agg tg] (.fy []) [oW w,oM (yu m v)]:=by
 have h0:=hv.v0;have hr:=hv.row;refine aa func260 ?_;refine uE ?_;(refine⟨h0,_,hr,dd ?_⟩)
 refine af (R7 v.snap m.op.listen m.op.host m.op.path h.small h.host h.path) ?_;refine⟨λh1=>?_,λh1=>?_⟩
 .have h2:(xx m v).2≠0:=by simpa using h1
  rw[K9 h2];refine dd ?_;refine ae [1] (xU m 2) ?_;exact dk
 .have h2:(xx m v).2=0:=by simpa using h1
  obtain⟨g0,c,hc,hcl⟩:=h.Nw h2;refine dd ?_;refine .inr ⟨⟨[0,1,6,11,12],[0,1,2],true⟩,ak,λ_=>V,_,uH ?_,λt2 H2 h=>h⟩;refine⟨_,ag [0,1] (kp w {m with zp:=(xx m v).1} v c ⟨hv.v0,hv.at_⟩ g0 hc),uH ?_⟩;refine⟨_,ag [] (RW c m.op.d0 m.op.d1 h.d0 h.d1 hcl (EK c)),uH ?_⟩;refine zaM ?_
  refine⟨λh3=>?_,λh3=>?_⟩
  .have h4:(yA c m.op.d0 m.op.d1).2.2≠0:=by simpa using h3
   rw[Jr h2 hc h4];refine dd ?_;refine ae [1] (xU {m with zp:=(xx m v).1} 3) ?_;exact⟨.inr V,_,_,.refl _,rfl,cE 2⟩
  .have h4:(yA c m.op.d0 m.op.d1).2.2=0:=by simpa using h3
   refine dd ?_;refine ae [0,1] (kp w {m with zp:=(xx m v).1} v c ⟨hv.v0,hv.at_⟩ g0 hc) ?_;refine⟨λh5=>?_,λh5=>?_⟩
   .have h6:c.jP=1:=by simpa using h5
    rw[Ki h2 hc h4 h6];refine dd ?_;exact⟨.inr V,_,_,.refl _,rfl,cE 2⟩
   .have h6:c.jP≠1:=by simpa using h5
    rw[Kj h2 hc h4 h6];refine dd ?_;exact⟨.inr V,_,_,.refl _,rfl,cE 2⟩
def Og(w:Wor)(m:fx)(v:fC)(hv:mK w m v)(h:CK m v){l:fO}(l0:0<=m.listen)(hl:w.zc[m.listen.toNat]?=some l):
  th 211 [oW w,oM m] [.agg tg] (Ce (if l.drain then {fI m 1 4 1 with jo:=true} else fI m 1 4 0)) [oW w,oM (if l.drain then kB m 5 else yu m v)]:=by
 have lr:(w.zc.map zT)[m.listen.toNat]?=some (zT l):=by rw[pw,hl];rfl
 obtain⟨ln,ld,la,lc⟩:=l;cases ld
 all_goals
  refine aa func211 ?_;refine uE ?_;(refine⟨l0,_,lr,dd ?_⟩)
 ·(refine yb (dd ?_))
  refine ae [0,1] (Ra w m v hv h) ?_
  have et:(yu m v).zm=m.zm:=by
   unfold yu;split
   .rfl
   .split
    .rfl
    .split
     .rfl
     .split <;> rfl
  have ee:fI m 1 4 0=fI (yu m v) 1 4 0:=by unfold fI;rw[et]
  have eg:(if ({name:=ln,drain:=false,zo:=la,closed:=lc}:fO).drain then {fI m 1 4 1 with jo:=true} else fI m 1 4 0)=fI (yu m v) 1 4 0:=ee;rw[eg];refine ae [1] (jn (yu m v) 1 4 0) ?_;exact dk
 ·(refine ya (dd ?_))
  refine ae [1] (jn m 1 4 1) ?_;refine ae [1] (xU m 5) ?_;exact dk
def Oo(w:Wor)(m:fx)(v0:fC)(g0:Gr)(e0:En)(c:fV)(hv:nn w m v0 g0)(hc:v0.snap.zj[m.zp.toNat]?=some c):th 263 (hE w m m v0 g0 e0 g0.zC e0.head e0.zo []) [.agg tg] (Cc c) (hE w m m v0 g0 e0 g0.zC e0.head e0.zo []):=by
 have h0:=hv.pv;have g0':=hv.pg;have lv:m.version.toNat<w.zd.length:=hv.lv;have cr:(v0.snap.zj.map jx)[m.zp.toNat]?=some (jx c):=by rw[pw,hc];rfl
 have lowV:∀r∈fX w m v0 3,∀c∈r,qE 6 9 c=true:=zE (enc:=zt) (λ_=>V) V _ _;have lowG:∀r∈fT m v0 g0 g0.zC 4,∀c∈r,qE 6 9 c=true:=zE (enc:=zy) (λ_=>V) V _ _;have lowE:∀r∈fP m g0 e0 e0.head 5 e0.zo,∀c∈r,qE 6 9 c=true:=zE (enc:=zx) (λ_=>V) V _ _;have e1:0+m.version.toNat=m.version.toNat:=pK _;have gv:(fX w m v0 3)[m.version.toNat]?=some (fR 3 v0):=pH (ai lv);refine aa func263 ?_;refine uE ?_;refine⟨h0,lv,dd ?_⟩;rw[e1];refine⟨_,gv,(by show 2+1<=5;decide),dd ?_⟩;refine⟨g0',_,cr,dd ?_⟩;exact dw
def Gc(w:Wor)(m:fx)(v0:fC)(g0:Gr)(e0:En)(hv:nn w m v0 g0)(x p a b c:Int):th 264 (hE w ({m with end_:=x,pc:=p}) m v0 g0 e0 g0.zC e0.head e0.zo []) [.agg tg,I a,I b,I c] (Ce (ib m v0 a b c)) (hE w ({m with end_:=x,pc:=p}) m v0 g0 e0 g0.zC e0.head e0.zo []):=by
 have h0:=hv.pv;have lv:m.version.toNat<w.zd.length:=hv.lv;have e1:0+m.version.toNat=m.version.toNat:=pK _
 clear hv
 obtain⟨sn,gs,fr⟩:=v0;cases fr
 all_goals
  have ownV:∀b,∀r∈(w.zd.map zt).set m.version.toNat (qV sn++[C.sl 3 [] 2 0 gs.length false,Bo b]),∀c∈r,zF c=true:=λb=>zE (enc:=zt) (λ_=>V) V _ _
  have ownG:∀r∈(gs.map zy).set m.zp.toNat (fN 4 g0),∀c∈r,zF c=true:=zE (enc:=zy) (λ_=>V) V _ _;have ownE:∀r∈fP m g0 e0 e0.head 5 e0.zo,∀c∈r,zF c=true:=zE (enc:=zx) (λ_=>V) V _ _;have lowV:∀b,∀r∈(w.zd.map zt).set m.version.toNat (qV sn++[C.sl 3 [] 2 0 gs.length false,Bo b]),∀c∈r,qE 6 9 c=true:=λb=>zE (enc:=zt) (λ_=>V) V _ _
  have gv:∀b,((w.zd.map zt).set m.version.toNat (qV sn++[C.sl 3 [] 2 0 gs.length false,Bo b]))[m.version.toNat]?=some (qV sn++[C.sl 3 [] 2 0 gs.length false,Bo b]):=λb=>pH (ai lv)
  have lowG:∀r∈(gs.map zy).set m.zp.toNat (fN 4 g0),∀c∈r,qE 6 9 c=true:=zE (enc:=zy) (λ_=>V) V _ _;have lowE:∀r∈fP m g0 e0 e0.head 5 e0.zo,∀c∈r,qE 6 9 c=true:=zE (enc:=zx) (λ_=>V) V _ _;refine aa func264 ?_;refine zU [1] [⟨1,38,8,[(ir w 2)],0⟩,oM ({m with end_:=x,pc:=p}),⟨1,0,5,(w.zd.map zt).set m.version.toNat (qV sn++[C.sl 3 [] 2 0 gs.length false,Bo _]),0⟩,⟨1,0,2,(gs.map zy).set m.zp.toNat (fN 4 g0),0⟩,⟨1,0,3,fP m g0 e0 e0.head 5 e0.zo,0⟩,oN e0,⟨1,229,2,[tg],0⟩,oE zW] (rx:=Ce (fI m a b c)) (jn {m with end_:=x,pc:=p} a b c) V V V V V (ze V (ze V (ze (zf (ownV _)) (ze (zf ownG) (ze (zf ownE) V))))) V V (dd ?_);refine .inl ⟨⟨false,[6,9,11,14,17],[0,1,2,6],[]⟩,ak,uH ?_⟩;refine⟨h0,lv,dd ?_⟩;rw[e1];refine⟨_,gv _,(by show 4+1<=5;decide),dd ?_⟩
  first|((refine ya (dd ?_)))|((refine yb (dd ?_)))
  refine tc ?_
  exact⟨.inl V,_,_,.refl _,rfl,zl.jd 6 ta V V V (zR V (zR V (zR (qm (lowV _)) (zR (qm lowG) (zR (qm lowE) V))))) V⟩
abbrev EC(m:fx)(c:fV)(t:Int):fx:={m with end_:=(nR c t).1,pc:=9}
abbrev HX(g:Gr):Gr:={g with zC:=IntKind.u64.wrap (g.zC+1)}
def P2(w:Wor)(m:fx)(v0:fC)(g0:Gr)(e0:En)(c:fV)(hv:nn w m v0 g0)(hc:v0.snap.zj[m.zp.toNat]?=some c)(ht:u64 g0.zC)(hl:c.zM.length<1000000000000):
  th 212 (hE w m m v0 g0 e0 g0.zC e0.head e0.zo []) [.agg tg] (Ce (ib m v0 3 6 (IntKind.i64.wrap g0.zC))) (hE w (EC m c g0.zC) m v0 g0 e0 (IntKind.u64.wrap (g0.zC+1)) e0.head e0.zo []):=by
 have lg:=hv.lg;have ownV:∀r∈fX w m v0 3,∀c∈r,zF c=true:=zE (enc:=zt) (λ_=>V) V _ _;have ownG:∀r∈fT m v0 g0 g0.zC 4,∀c∈r,zF c=true:=zE (enc:=zy) (λ_=>V) V _ _;have ownE:∀r∈fP m g0 e0 e0.head 5 e0.zo,∀c∈r,zF c=true:=zE (enc:=zx) (λ_=>V) V _ _;have gg:(fT m v0 g0 g0.zC 4)[m.zp.toNat]?=some (fN 4 g0):=pH (ai lg);refine aa func212 ?_;refine zbo ?_;refine zbo ?_;refine⟨_,gg,rfl,dd ?_⟩;rw[rb];have ownG2:∀r∈fT m v0 g0 (IntKind.u64.wrap (g0.zC+1)) 4,∀c∈r,zF c=true:=zE (enc:=zy) (λ_=>V) V _ _;have lowV:∀r∈fX w m v0 3,∀c∈r,qE 6 9 c=true:=zE (enc:=zt) (λ_=>V) V _ _;have lowG:∀r∈fT m v0 g0 (IntKind.u64.wrap (g0.zC+1)) 4,∀c∈r,qE 6 9 c=true:=zE (enc:=zy) (λ_=>V) V _ _;have lowE:∀r∈fP m g0 e0 e0.head 5 e0.zo,∀c∈r,qE 6 9 c=true:=zE (enc:=zx) (λ_=>V) V _ _;have hv2:nn w m v0 (HX g0):=⟨hv.pv,hv.lv,hv.pg,hv.lg,hv.pe,hv.le⟩;refine .inl ⟨⟨true,[],[],[3,5]⟩,ak,uH ?_⟩;refine zU [0,1,2,3,4,5] (hE w m m v0 g0 e0 (IntKind.u64.wrap (g0.zC+1)) e0.head e0.zo [⟨1,229,2,[tg],0⟩,oE zW]) (rx:=Cc c) (Oo w m v0 (HX g0) e0 c hv2 hc) (ze V (ze V (ze (zf ownV) (ze (zf ownG2) (ze (zf ownE) V))))) uR V V V (ze V (ze V (ze (zf ownV) (ze (zf ownG2) (ze (zf ownE) V))))) uS V (dd ?_);refine zU [] (hE w m m v0 g0 e0 (IntKind.u64.wrap (g0.zC+1)) e0.head e0.zo [⟨1,229,2,[tg],0⟩,oE zW]) (rx:=.fy [I (nR c g0.zC).1,I (nR c g0.zC).2]) (TF c g0.zC ht hl (EK c)) V V V V V (ze V (ze V (ze (zf ownV) (ze (zf ownG2) (ze (zf ownE) V))))) V V (dd ?_);refine zU [0,1,2,3,4,5] (hE w (EC m c g0.zC) m v0 g0 e0 (IntKind.u64.wrap (g0.zC+1)) e0.head e0.zo [⟨1,229,2,[tg],0⟩,oE zW]) (rx:=Ce (ib m v0 3 6 (IntKind.i64.wrap g0.zC))) (Gc w m v0 (HX g0) e0 hv2 (nR c g0.zC).1 9 3 6 (IntKind.i64.wrap g0.zC)) (ze V (ze V (ze (zf ownV) (ze (zf ownG2) (ze (zf ownE) V))))) uR V V V (ze V (ze V (ze (zf ownV) (ze (zf ownG2) (ze (zf ownE) V))))) uS V (dd ?_);exact dw
def Ol(w:Wor)(m:fx)(v0:fC)(g0:Gr)(e0:En)(hv:nn w m v0 g0)(hw:u64 m.word)(l0: -1<=m.link)(l1:m.link<=2147483646)(hh:u64 e0.head)(hne:e0.head≠m.word):
  th 217 (hE w m m v0 g0 e0 g0.zC e0.head e0.zo []) [.agg tg] (Ce (ib m v0 5 8 (e0.head%4294967296-1))) (hE w ({m with pc:=9}) m v0 g0 e0 g0.zC e0.head e0.zo []):=by
 (have le:=hv.le);(have ownV:∀r∈fX w m v0 3,∀c∈r,zF c=true:=zE (enc:=zt) (λ_=>V) V _ _);(have ownG:∀r∈fT m v0 g0 g0.zC 4,∀c∈r,zF c=true:=zE (enc:=zy) (λ_=>V) V _ _);(have ownE:∀r∈fP m g0 e0 e0.head 5 e0.zo,∀c∈r,zF c=true:=zE (enc:=zx) (λ_=>V) V _ _);(have lowV:∀r∈fX w m v0 3,∀c∈r,qE 6 9 c=true:=zE (enc:=zt) (λ_=>V) V _ _);(have lowG:∀r∈fT m v0 g0 g0.zC 4,∀c∈r,qE 6 9 c=true:=zE (enc:=zy) (λ_=>V) V _ _)
 have lowE:∀r∈fP m g0 e0 e0.head 5 e0.zo,∀c∈r,qE 6 9 c=true:=zE (enc:=zx) (λ_=>V) V _ _;have ge:(fP m g0 e0 e0.head 5 e0.zo)[m.end_.toNat]?=some (fL 5 e0):=pH (ai le);have hv2:nn w {m with pc:=9} v0 g0:=⟨hv.pv,hv.lv,hv.pg,hv.lg,hv.pe,hv.le⟩;refine zaT ?_;refine⟨λ_=>dd ?_,λh=>absurd h (ai hne)⟩;refine .inl ⟨⟨true,[],[],[2,6,7]⟩,ak,uH ?_⟩;refine zU [0,1,2,3,4,5] (hE w ({m with pc:=9}) m v0 g0 e0 g0.zC e0.head e0.zo [⟨1,229,2,[tg],0⟩,oE zW]) (rx:=.ref 4 [] 3 m.end_.toNat 0) (vY w _ v0 g0 e0 hv2) (ze V (ze V (ze (zf ownV) (ze (zf ownG) (ze (zf ownE) V))))) uR V V V (ze V (ze V (ze (zf ownV) (ze (zf ownG) (ze (zf ownE) V))))) uS V (dd ?_);refine⟨_,ge,mE,dd ?_⟩;refine zU [] (hE w ({m with pc:=9}) m v0 g0 e0 g0.zC e0.head e0.zo [⟨1,229,2,[tg],0⟩,oE zW]) (rx:=I (e0.head%4294967296-1)) (Slp.qI e0.head hh) V V V V V (ze V (ze V (ze (zf ownV) (ze (zf ownG) (ze (zf ownE) V))))) V V (dd ?_);refine zU [0,1,2,3,4,5] (hE w ({m with pc:=9}) m v0 g0 e0 g0.zC e0.head e0.zo [⟨1,229,2,[tg],0⟩,oE zW]) (rx:=Ce (ib m v0 5 8 (e0.head%4294967296-1))) (Gc w m v0 g0 e0 hv m.end_ 9 5 8 (e0.head%4294967296-1)) (ze V (ze V (ze (zf ownV) (ze (zf ownG) (ze (zf ownE) V))))) uR V V V (ze V (ze V (ze (zf ownV) (ze (zf ownG) (ze (zf ownE) V))))) uS V (dd ?_);exact dw
def N2(w:Wor)(m:fx)(v0:fC)(g0:Gr)(e0:En)(hv:nn w m v0 g0)(hw:u64 m.word)(l0: -1<=m.link)(l1:m.link<=2147483646)(hne:e0.head=m.word):
  th 217 (hE w m m v0 g0 e0 g0.zC e0.head e0.zo []) [.agg tg] (Ce (ib m v0 4 8 m.slot)) (hE w ({m with pc:=12}) m v0 g0 e0 g0.zC (Slp.vq m.word m.link) e0.zo []):=by
 (have le:=hv.le);(have ownV:∀r∈fX w m v0 3,∀c∈r,zF c=true:=zE (enc:=zt) (λ_=>V) V _ _);(have ownG:∀r∈fT m v0 g0 g0.zC 4,∀c∈r,zF c=true:=zE (enc:=zy) (λ_=>V) V _ _);(have ownE:∀r∈fP m g0 e0 e0.head 5 e0.zo,∀c∈r,zF c=true:=zE (enc:=zx) (λ_=>V) V _ _);(have lowV:∀r∈fX w m v0 3,∀c∈r,qE 6 9 c=true:=zE (enc:=zt) (λ_=>V) V _ _);(have lowG:∀r∈fT m v0 g0 g0.zC 4,∀c∈r,qE 6 9 c=true:=zE (enc:=zy) (λ_=>V) V _ _)
 have lowE:∀r∈fP m g0 e0 (Slp.vq m.word m.link) 5 e0.zo,∀c∈r,qE 6 9 c=true:=zE (enc:=zx) (λ_=>V) V _ _;have ownE2:∀r∈fP m g0 e0 (Slp.vq m.word m.link) 5 e0.zo,∀c∈r,zF c=true:=zE (enc:=zx) (λ_=>V) V _ _;have ge:(fP m g0 e0 e0.head 5 e0.zo)[m.end_.toNat]?=some (fL 5 e0):=pH (ai le);refine zaT ?_;refine⟨λh=>absurd h (by simp[hne]),λ_=>dd ?_⟩;refine td ?_
 refine zby ?_;refine⟨_,ge,rfl,dd ?_⟩;rw[rb];refine dd ?_;refine .inl ⟨⟨true,[],[],[5]⟩,ak,uH ?_⟩;refine zU [0,1,2,3,4,5] (hE w ({m with pc:=12}) m v0 g0 e0 g0.zC (Slp.vq m.word m.link) e0.zo [⟨1,229,2,[tg],0⟩,oE zW]) (rx:=Ce (ib m v0 4 8 m.slot)) (Gc w m v0 g0 {e0 with head:=Slp.vq m.word m.link} hv m.end_ 12 4 8 m.slot) (ze V (ze V (ze (zf ownV) (ze (zf ownG) (ze (zf ownE2) V))))) uR V V V (ze V (ze V (ze (zf ownV) (ze (zf ownG) (ze (zf ownE2) V))))) uS V (dd ?_);exact dw
end Go.Wor
namespace Go.Wor
open Go.Ab Go.Proofs Tryz Go.Hy
abbrev nf:C:=.v .nilFunc
abbrev pf(f:FuncId):C:=.fn f [] []
abbrev XV:List C:=[nf,nf,nf,pf 209,pf 210,pf 211,pf 212,pf 213,pf 214,pf 215,pf 216,pf 217,pf 218,nf,nf,nf,nf,nf,nf,nf,pf 219,pf 220,pf 221,pf 222]
def jq:th 172 [] [] (.agg XV) []:=by
 refine ab func172 ?_;exact uI
end Go.Wor
namespace Go.Wor
open Go.Ab Go.Proofs Tryz Go.Hy Go.Gat Go.Nam Go.Hos Go.Con Go.Sna
variable{w w':Wor}{m m':fx}{e:fF}{ls:List fO}{v0:fC}{g0:Gr}{e0:En}
def VV(sw:z6 w)(ok:fG w)(hl:i64 m.listen)(hpc:m.pc=3)(hs:zG w m=true)(h:th 209 [oW w,oM m] [.agg tg] (Ce e) [oW w',oM m']):th 137 [] [Cw w,Cm m] (.fy [Cw w',Cm m',Ce e]) []:=by
 by_cases hn:m.listen<0
 all_goals
  refine zbC ?_
  refine zbq ?_
  refine zah ?_
  refine zaE ?_
  (refine⟨an,an,pf 209,di,dd ?_⟩)
  refine td ?_
  refine zbA ?_
  exact uI
def Vq(sw:z6 w)(ok:fG w)(hl:i64 m.listen)(hpc:m.pc=5)(hs:zG w m=true)(hli:0<=m.listen)(h:th 211 [oW w,oM m] [.agg tg] (Ce e) [oW w',oM m']):th 137 [] [Cw w,Cm m] (.fy [Cw w',Cm m',Ce e]) []:=by
 have hn:¬m.listen<0:=an
 all_goals
  refine zbC ?_
  refine zbq ?_
  refine zah ?_
  refine zaE ?_
  (refine⟨an,an,pf 211,di,dd ?_⟩)
  refine td ?_
  refine zbA ?_
  exact uI
def Vs(sw:z6 w)(ok:fG w)(hl:i64 m.listen)(hpc:m.pc=7)(hs:zG w m=true)(h:th 213 [oW w,oM m] [.agg tg] (Ce e) [oW w',oM m']):th 137 [] [Cw w,Cm m] (.fy [Cw w',Cm m',Ce e]) []:=by
 by_cases hn:m.listen<0
 all_goals
  refine zbC ?_
  refine zbq ?_
  refine zah ?_
  refine zaE ?_
  (refine⟨an,an,pf 213,di,dd ?_⟩)
  refine td ?_
  refine zbA ?_
  exact uI
def Vt(sw:z6 w)(ok:fG w)(hl:i64 m.listen)(hpc:m.pc=8)(hs:zG w m=true)(h:th 214 [oW w,oM m] [.agg tg] (Ce e) [oW w',oM m']):th 137 [] [Cw w,Cm m] (.fy [Cw w',Cm m',Ce e]) []:=by
 by_cases hn:m.listen<0
 all_goals
  refine zbC ?_
  refine zbq ?_
  refine zah ?_
  refine zaE ?_
  (refine⟨an,an,pf 214,di,dd ?_⟩)
  refine td ?_
  refine zbA ?_
  exact uI
def Lq(sw:z6 w)(ok:fG w)(hl:i64 m.listen)(hpc:m.pc=9)(hs:zG w m=true)(h:th 215 [oW w,oM m] [.agg tg] (Ce e) [oW w',oM m']):th 137 [] [Cw w,Cm m] (.fy [Cw w',Cm m',Ce e]) []:=by
 by_cases hn:m.listen<0
 all_goals
  refine zbC ?_
  refine zbq ?_
  refine zah ?_
  refine zaE ?_
  (refine⟨an,an,pf 215,di,dd ?_⟩)
  refine td ?_
  refine zbA ?_
  exact uI
def T6(sw:z6 w)(ok:fG w)(hl:i64 m.listen)(hpc:m.pc=10)(hs:zG w m=true)(h:th 216 [oW w,oM m] [.agg tg] (Ce e) [oW w',oM m']):th 137 [] [Cw w,Cm m] (.fy [Cw w',Cm m',Ce e]) []:=by
 by_cases hn:m.listen<0
 all_goals
  refine zbC ?_
  refine zbq ?_
  refine zah ?_
  refine zaE ?_
  (refine⟨an,an,pf 216,di,dd ?_⟩)
  refine td ?_
  refine zbA ?_
  exact uI
def Ub(sw:z6 w)(ok:fG w)(hl:i64 m.listen)(hpc:m.pc=23)(hs:zG w m=true)(h:th 222 [oW w,oM m] [.agg tg] (Ce e) [oW w',oM m']):th 137 [] [Cw w,Cm m] (.fy [Cw w',Cm m',Ce e]) []:=by
 by_cases hn:m.listen<0
 all_goals
  refine zbC ?_
  refine zbq ?_
  refine zah ?_
  refine zaE ?_
  (refine⟨an,an,pf 222,di,dd ?_⟩)
  refine td ?_
  refine zbA ?_
  exact uI
def D0(h0:0<=m.pc)(h3:m.pc<3)(h:th 170 [] [Cw w,Cm m] (.fy [Cw w',Cm m',Ce e]) []):th 137 [] [Cw w,Cm m] (.fy [Cw w',Cm m',Ce e]) []:=by
 refine ab func137 ?_;refine zbW ?_;refine zbW ?_;refine af h ?_;exact uI
def VW(sw:z6 w)(ok:fG w)(hl:i64 m.listen)(hpc:m.pc=4)(hs:zG w m=true)(hli:0<=m.listen)(hll:ls.length=w.zc.length)(h:th 210 [⟨1,38,8,[iU 2 w],0⟩,oM m,⟨2,98,4,(w.zc).map zT,0⟩] [.agg tg] (Ce e) [⟨1,38,8,[iU 2 w],0⟩,oM m',⟨2,98,4,(ls).map zT,0⟩]):th 137 [] [Cw w,Cm m] (.fy [Cw {w with zc:=ls},Cm m',Ce e]) []:=by
 have hn:¬m.listen<0:=an
 obtain⟨x,l,hx⟩:∃x l,w.zc=x::l:=by
  obtain⟨v,g,e,su⟩:=kl hs;cases h:w.zc with
  |nil=>have:=su.listen;rw[h]at this;exact dL
  |cons x l=>exact⟨x,l,rfl⟩
 refine zbC ?_
 refine zbq ?_
 refine zah ?_
 refine zaE ?_
 (refine⟨an,an,pf 210,di,dd ?_⟩)
 refine td ?_
 refine ae [] (vz w sw x l hx) ?_;refine ae [6,7,5] (h) ?_;refine zbK ?_
 exact gP
def Ua(sw:z6 w)(ok:fG w)(hl:i64 m.listen)(hpc:m.pc=22)(hs:zG w m=true)(hli:0<=m.listen)(hll:ls.length=w.zc.length)(h:th 221 [⟨1,38,8,[iU 2 w],0⟩,oM m,⟨2,98,4,(w.zc).map zT,0⟩] [.agg tg] (Ce e) [⟨1,38,8,[iU 2 w],0⟩,oM m',⟨2,98,4,(ls).map zT,0⟩]):th 137 [] [Cw w,Cm m] (.fy [Cw {w with zc:=ls},Cm m',Ce e]) []:=by
 have hn:¬m.listen<0:=an
 obtain⟨x,l,hx⟩:∃x l,w.zc=x::l:=by
  obtain⟨v,g,e,su⟩:=kl hs;cases h:w.zc with
  |nil=>have:=su.listen;rw[h]at this;exact dL
  |cons x l=>exact⟨x,l,rfl⟩
 refine zbC ?_
 refine zbq ?_
 refine zah ?_
 refine zaE ?_
 (refine⟨an,an,pf 221,di,dd ?_⟩)
 refine td ?_
 refine ae [] (vz w sw x l hx) ?_;refine ae [6,7,5] (h) ?_;refine zbK ?_
 exact gP
def T8{r0 r1:List Int}(sw:z6 w)(ok:fG w)(hl:i64 m.listen)(hpc:m.pc=20)(hs:zG w m=true)(t0:0<=m.zm)(hr:w.counts[m.zm.toNat]?=some r0)(hne:r0≠[])(hll:r1.length=r0.length)
 (h:th 219 [⟨1,38,8,[iO 2 w],0⟩,oM m,⟨1,0,1,(w.counts.map zA).set m.zm.toNat [C.sl (3) [] 1 0 r0.length false],0⟩,⟨2,52,1,(r0).map qD,0⟩] [.agg tg] (Ce e) [⟨1,38,8,[iO 2 w],0⟩,oM m',⟨1,0,1,(w.counts.map zA).set m.zm.toNat [C.sl (3) [] 1 0 r0.length false],0⟩,⟨2,52,1,(r1).map qD,0⟩]):th 137 [] [Cw w,Cm m] (.fy [Cw {w with counts:=w.counts.set m.zm.toNat r1},Cm m',Ce e]) []:=by
 have ml:((w.counts.map zA)).length=w.counts.length:=pz ..;have ml1:(r1.map qD).length=r1.length:=pz ..;have ft:m.zm.toNat<w.counts.length:=(px.1 hr).1;have own:∀i,∀r∈(w.counts.map zA).set m.zm.toNat ([C.sl i [] 1 0 r0.length false]),∀c∈r,zF c=true:=λi=>zE (enc:=zA) (λ_=>V) V _ _
 have gt:((w.counts.map zA).set m.zm.toNat ([C.sl 6 [] 1 0 r0.length false]))[m.zm.toNat]?=some ([C.sl 6 [] 1 0 r0.length false]):=pH mF;have est:(((w.counts.map zA).set m.zm.toNat ([C.sl 6 [] 1 0 r0.length false])).set m.zm.toNat [.fq 0 1 (r1.map qD)])=(w.counts.set m.zm.toNat r1).map zA:=cY
 have esh:∀r∈(((w.counts.map zA).set m.zm.toNat ([C.sl 6 [] 1 0 r0.length false])).set m.zm.toNat [.fq 0 1 (r1.map qD)]),∀c∈r,jV c=true/\zF c=true:=by
  rw[est];exact shut_map (enc:=zA) (λ_=>V) _
 have hp:Bz w.counts m.zm.toNat r0:=⟨sw.counts,hr,hne⟩;by_cases hn:m.listen<0
 all_goals
  refine zbC ?_
  refine zbq ?_
  refine zah ?_
  refine zaE ?_
  (refine⟨an,an,pf 219,di,dd ?_⟩)
  refine td ?_
  refine zaR ?_
  refine zaU ?_
  rfl
def T9{r0 r1:List Int}(sw:z6 w)(ok:fG w)(hl:i64 m.listen)(hpc:m.pc=21)(hs:zG w m=true)(t0:0<=m.zm)(hr:w.counts[m.zm.toNat]?=some r0)(hne:r0≠[])(hll:r1.length=r0.length)
 (h:th 220 [⟨1,38,8,[iO 2 w],0⟩,oM m,⟨1,0,1,(w.counts.map zA).set m.zm.toNat [C.sl (3) [] 1 0 r0.length false],0⟩,⟨2,52,1,(r0).map qD,0⟩] [.agg tg] (Ce e) [⟨1,38,8,[iO 2 w],0⟩,oM m',⟨1,0,1,(w.counts.map zA).set m.zm.toNat [C.sl (3) [] 1 0 r0.length false],0⟩,⟨2,52,1,(r1).map qD,0⟩]):th 137 [] [Cw w,Cm m] (.fy [Cw {w with counts:=w.counts.set m.zm.toNat r1},Cm m',Ce e]) []:=by
 have ml:((w.counts.map zA)).length=w.counts.length:=pz ..;have ml1:(r1.map qD).length=r1.length:=pz ..;have ft:m.zm.toNat<w.counts.length:=(px.1 hr).1;have own:∀i,∀r∈(w.counts.map zA).set m.zm.toNat ([C.sl i [] 1 0 r0.length false]),∀c∈r,zF c=true:=λi=>zE (enc:=zA) (λ_=>V) V _ _
 have gt:((w.counts.map zA).set m.zm.toNat ([C.sl 6 [] 1 0 r0.length false]))[m.zm.toNat]?=some ([C.sl 6 [] 1 0 r0.length false]):=pH mF;have est:(((w.counts.map zA).set m.zm.toNat ([C.sl 6 [] 1 0 r0.length false])).set m.zm.toNat [.fq 0 1 (r1.map qD)])=(w.counts.set m.zm.toNat r1).map zA:=cY
 have esh:∀r∈(((w.counts.map zA).set m.zm.toNat ([C.sl 6 [] 1 0 r0.length false])).set m.zm.toNat [.fq 0 1 (r1.map qD)]),∀c∈r,jV c=true/\zF c=true:=by
  rw[est];exact shut_map (enc:=zA) (λ_=>V) _
 have hp:Bz w.counts m.zm.toNat r0:=⟨sw.counts,hr,hne⟩;by_cases hn:m.listen<0
 all_goals
  refine zbC ?_
  refine zbq ?_
  refine zah ?_
  refine zaE ?_
  (refine⟨an,an,pf 220,di,dd ?_⟩)
  refine td ?_
  refine zaR ?_
  refine zaU ?_
  rfl
def vD{α β:Type}(f:α->β)(l:List α)(i:Nat)(a:α)(r:β)(h:f a=r):(l.map f).set i r=(l.set i a).map f:=by rw[sA,h]
abbrev vN(e0:En)(hd ac:Int):En:={e0 with head:=hd,zo:=ac}
abbrev nN(m:fx)(g0:Gr)(e0:En)(tk hd ac:Int):Gr:={g0 with zC:=tk,ends:=g0.ends.set m.end_.toNat (vN e0 hd ac)}
abbrev xL(m:fx)(v0:fC)(g0:Gr)(e0:En)(tk hd ac:Int):fC:={v0 with zg:=v0.zg.set m.zp.toNat (nN m g0 e0 tk hd ac)}
abbrev vO(w:Wor)(m:fx)(v0:fC)(g0:Gr)(e0:En)(tk hd ac:Int):Wor:={w with zd:=w.zd.set m.version.toNat (xL m v0 g0 e0 tk hd ac)}
def wI(tk hd ac:Int)(sw:z6 w)(hat:ig w m v0 g0 e0)(hne:e0.next≠[]):
  DA w.zd m.version.toNat v0 m.zp.toNat g0 m.end_.toNat e0/\(∀i,∀r∈fX w m v0 (i),∀c∈r,zF c=true)/\(∀i t,∀r∈fT m v0 g0 (t) (i),∀c∈r,zF c=true)/\
  (∀i a b,∀r∈fP m g0 e0 (a) (i) (b),∀c∈r,zF c=true)/\(fX w m v0 (6))[m.version.toNat]?=some (fR (6) v0)/\(∀t,(fT m v0 g0 (t) (7))[m.zp.toNat]?=some ([U (t),C.sl (7) [] 3 0 g0.ends.length false]))/\
  (∀a b,(fP m g0 e0 (a) (8) (b))[m.end_.toNat]?=some ([U (a),C.sl (8) [] 1 0 e0.next.length false,I (b)]))/\((fP m g0 e0 (hd) (8) (ac)).set m.end_.toNat [U hd,C.fq 0 1 (e0.next.map encI),I ac])=(g0.ends.set m.end_.toNat (vN e0 hd ac)).map zx/\((fT m v0 g0 (tk) (7)).set m.zp.toNat [U tk,C.fq 0 3 (((g0.ends.set m.end_.toNat (vN e0 hd ac)).map zx))])=(v0.zg.set m.zp.toNat (nN m g0 e0 tk hd ac)).map zy/\
  ((fX w m v0 (6)).set m.version.toNat (qV v0.snap++[C.fq 0 2 (((v0.zg.set m.zp.toNat (nN m g0 e0 tk hd ac)).map zy)),Bo v0.qH]))=(w.zd.set m.version.toNat (xL m v0 g0 e0 tk hd ac)).map zt/\(∀r∈((fP m g0 e0 (hd) (8) (ac)).set m.end_.toNat [U hd,C.fq 0 1 (e0.next.map encI),I ac]),∀c∈r,jV c=true/\zF c=true)/\(∀r∈((fT m v0 g0 (tk) (7)).set m.zp.toNat [U tk,C.fq 0 3 ((fP m g0 e0 (hd) (8) (ac)).set m.end_.toNat [U hd,C.fq 0 1 (e0.next.map encI),I ac])]),∀c∈r,jV c=true/\zF c=true)/\(∀r∈((fX w m v0 (6)).set m.version.toNat (qV v0.snap++[C.fq 0 2 ((fT m v0 g0 (tk) (7)).set m.zp.toNat [U tk,C.fq 0 3 ((fP m g0 e0 (hd) (8) (ac)).set m.end_.toNat [U hd,C.fq 0 1 (e0.next.map encI),I ac])]),Bo v0.qH])),∀c∈r,jV c=true/\zF c=true):=by
 have lv:=hat.ln.lv;have lg:=hat.ln.lg;have le:=hat.ln.le;have CQ:=sw.zd.2 v0 (pE hat.at_);have estE:((fP m g0 e0 (hd) (8) (ac)).set m.end_.toNat [U hd,C.fq 0 1 (e0.next.map encI),I ac])=(g0.ends.set m.end_.toNat (vN e0 hd ac)).map zx:=by rw[rb];exact vD zx _ _ (vN e0 hd ac) _ V
 have estG:((fT m v0 g0 (tk) (7)).set m.zp.toNat [U tk,C.fq 0 3 (((g0.ends.set m.end_.toNat (vN e0 hd ac)).map zx))])=(v0.zg.set m.zp.toNat (nN m g0 e0 tk hd ac)).map zy:=by rw[rb];exact vD zy _ _ (nN m g0 e0 tk hd ac) _ V
 have estV:((fX w m v0 (6)).set m.version.toNat (qV v0.snap++[C.fq 0 2 (((v0.zg.set m.zp.toNat (nN m g0 e0 tk hd ac)).map zy)),Bo v0.qH]))=(w.zd.set m.version.toNat (xL m v0 g0 e0 tk hd ac)).map zt:=by rw[rb];exact vD zt _ _ (xL m v0 g0 e0 tk hd ac) _ V
 refine⟨⟨⟨⟨CQ.2 g0 (pE hat.iC),hat.iM,hne⟩,CQ,hat.iC⟩,sw.zd,hat.at_⟩,λi=>zE (enc:=zt) (λ_=>V) V _ _,λi t=>zE (enc:=zy) (λ_=>V) V _ _,λi a b=>zE (enc:=zx) (λ_=>V) V _ _,pH (ai lv),λt=>pH (ai lg),λa b=>pH (ai le),estE,estG,estV,?_,?_,?_⟩
 .rw[estE];exact shut_map (enc:=zx) (λ_=>V) _
 .rw[estE,estG];exact shut_map (enc:=zy) (λ_=>V) _
 .rw[estE,estG,estV];exact shut_map (enc:=zt) (λ_=>V) _
def Vr{tk hd ac:Int}(sw:z6 w)(ok:fG w)(hl:i64 m.listen)(hpc:m.pc=6)(hs:zG w m=true)(hat:ig w m v0 g0 e0)(hne:e0.next≠[])
 (h:th 212 [⟨1,38,8,[(ir w 2)],0⟩,oM m,⟨1,0,5,fX w m v0 (3),0⟩,⟨1,0,2,fT m v0 g0 (g0.zC) (4),0⟩,⟨1,0,3,fP m g0 e0 (e0.head) (5) (e0.zo),0⟩,oN e0] [.agg tg] (Ce e) [⟨1,38,8,[(ir w 2)],0⟩,oM m',⟨1,0,5,fX w m v0 (3),0⟩,⟨1,0,2,fT m v0 g0 (tk) (4),0⟩,⟨1,0,3,fP m g0 e0 (hd) (5) (ac),0⟩,oN e0]):th 137 [] [Cw w,Cm m] (.fy [Cw (vO w m v0 g0 e0 tk hd ac),Cm m',Ce e]) []:=by
 obtain⟨hp,ownV,ownG,ownE,gv,gg,ge,estE,estG,estV,eshE,eshG,eshV⟩:=wI tk hd ac sw hat hne;by_cases hn:m.listen<0
 all_goals
  refine zbC ?_
  refine zbq ?_
  refine zah ?_
  refine zaE ?_
  (refine⟨an,an,pf 212,di,dd ?_⟩)
  refine td ?_
  refine zal ?_
  refine zas ?_;refine zaJ ?_
  rfl
def KL{tk hd ac:Int}(sw:z6 w)(ok:fG w)(hl:i64 m.listen)(hpc:m.pc=11)(hs:zG w m=true)(hat:ig w m v0 g0 e0)(hne:e0.next≠[])
 (h:th 217 [⟨1,38,8,[(ir w 2)],0⟩,oM m,⟨1,0,5,fX w m v0 (3),0⟩,⟨1,0,2,fT m v0 g0 (g0.zC) (4),0⟩,⟨1,0,3,fP m g0 e0 (e0.head) (5) (e0.zo),0⟩,oN e0] [.agg tg] (Ce e) [⟨1,38,8,[(ir w 2)],0⟩,oM m',⟨1,0,5,fX w m v0 (3),0⟩,⟨1,0,2,fT m v0 g0 (tk) (4),0⟩,⟨1,0,3,fP m g0 e0 (hd) (5) (ac),0⟩,oN e0]):th 137 [] [Cw w,Cm m] (.fy [Cw (vO w m v0 g0 e0 tk hd ac),Cm m',Ce e]) []:=by
 obtain⟨hp,ownV,ownG,ownE,gv,gg,ge,estE,estG,estV,eshE,eshG,eshV⟩:=wI tk hd ac sw hat hne;by_cases hn:m.listen<0
 all_goals
  refine zbC ?_
  refine zbq ?_
  refine zah ?_
  refine zaE ?_
  (refine⟨an,an,pf 217,di,dd ?_⟩)
  refine td ?_
  refine zal ?_
  refine zas ?_;refine zaJ ?_
  rfl
def T7{tk hd ac:Int}(sw:z6 w)(ok:fG w)(hl:i64 m.listen)(hpc:m.pc=12)(hs:zG w m=true)(hat:ig w m v0 g0 e0)(hne:e0.next≠[])
 (h:th 218 [⟨1,38,8,[(ir w 2)],0⟩,oM m,⟨1,0,5,fX w m v0 (3),0⟩,⟨1,0,2,fT m v0 g0 (g0.zC) (4),0⟩,⟨1,0,3,fP m g0 e0 (e0.head) (5) (e0.zo),0⟩,oN e0] [.agg tg] (Ce e) [⟨1,38,8,[(ir w 2)],0⟩,oM m',⟨1,0,5,fX w m v0 (3),0⟩,⟨1,0,2,fT m v0 g0 (tk) (4),0⟩,⟨1,0,3,fP m g0 e0 (hd) (5) (ac),0⟩,oN e0]):th 137 [] [Cw w,Cm m] (.fy [Cw (vO w m v0 g0 e0 tk hd ac),Cm m',Ce e]) []:=by
 obtain⟨hp,ownV,ownG,ownE,gv,gg,ge,estE,estG,estV,eshE,eshG,eshV⟩:=wI tk hd ac sw hat hne;by_cases hn:m.listen<0
 all_goals
  refine zbC ?_
  refine zbq ?_
  refine zah ?_
  refine zaE ?_
  (refine⟨an,an,pf 218,di,dd ?_⟩)
  refine td ?_
  refine zal ?_
  refine zas ?_;refine zaJ ?_
  rfl
end Go.Wor
