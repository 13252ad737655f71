import Derived.Test.YtamgiodaflkbhaaGreatTW
import Derived.Test.YtamgiodaflkbhaaGreatTV
set_option linter.all false
set_option maxRecDepth 100000
set_option maxHeartbeats 4000000
namespace Go.Wor
open Go.Ab Go.Proofs Tryz Go.Hy Go.Gat Go.Nam Go.Hos Go.Con Go.Sna
variable{d:Int}{c:fq}{m:eQ}{v:eX}
abbrev Aa(w:Wor)(m:eQ):eQ:={m with version:=w.current,zp:=0,end_:=0,other:=0,slot:=0,listen:=z7 w.zc m.op.listen,pc:=4}
abbrev EU(e:e7):e7:={e with jj:=true}
def Nc(w:Wor)(m:eQ)(hl:w.zc.length<4611686018427387904):
  th 209 [oW w,oM m] [.agg tg] (Ce (EU (fc m 1 3 w.current))) [oW w,oM (if z7 w.zc m.op.listen<0 then kf (Aa w m) 2 else Aa w m)]:=by
 refine aa func209 ?_;refine .inr ⟨⟨[0,2,5,6],[0,1,2],true⟩,ak,λ_=>V,_,uH ?_,λt2 H2 h=>h⟩;refine⟨_,ag [1] (ji m 1 3 w.current),uH ?_⟩;refine za5 ?_
 refine za5 ?_
 refine zaC ?_
 refine .inl ⟨⟨true,[],[],[12]⟩,ak,uH ?_⟩;refine af (va w.zc m.op.listen hl) ?_;refine tc ?_
 refine⟨λh1=>?_,λh1=>?_⟩
 .have e1:z7 w.zc m.op.listen<0:=by simpa using h1
  rw[gS e1];refine dd ?_;refine ae [1] (xM (Aa w m) 2) ?_;exact cX
 .have e1:¬z7 w.zc m.op.listen<0:=by simpa using h1
  rw[gP e1];refine dd ?_;exact cX
def QH(w:Wor)(m:eQ)(sw:z6 w)(ok:fa w)(hl:i64 m.listen)(hs:zE w m=true):
  th 222 [oW w,oM m] [.agg tg] (Ce {AX m with done:=true,answer:=m.answer}) [oW (lN w m.zl.toNat 0),oM ({m with done:=true})]:=by
 refine aa func222 ?_;refine .inr ⟨⟨[1,3,5,7,8],[0,1,2],true⟩,ak,λ_=>V,λt H=>t=(.za::.ref 2 [] 2 0 0::.ref 3 [] 23 0 0::.ref 4 [] 8 0 0::.ref 5 [] 23 0 0::mK (mK (mK ([.za,.za,.za,.za]))))/\H=[oW w,oM m,⟨1,229,2,[tg],0⟩,oE zY,oW (lN w m.zl.toNat 0),oE (AX m)],?_,?_⟩
 .conv=>whnf
  refine⟨_,ag [] (TG w m sw ok hl hs),uH ?_⟩;repeat' (first|(exact trivial)|(refine⟨rfl,uH ?_⟩)|(exact⟨_,_,zk.eZ [0,1,2,3,4,5] [1,2,3,4] _ _ V V V V,rfl,rfl⟩)|(exact⟨_,_,zk.eZ [0,1,2,3,5,4] [1,2,3,4] _ _ V V V V,rfl,rfl⟩)|(refine And.intro ?_ ?_ <;> (conv=>whnf)))
 rintro _ _ ⟨rfl,rfl⟩;conv=>whnf
 refine .inr ⟨⟨[1,3],[2],true⟩,ak,λ_=>V,λt H=>t=(.za::.ref 2 [] 2 0 0::.ref 3 [] 23 0 0::.za::.ref 5 [] 23 0 0::mK (mK (mK ([.za,.za,.za,.za]))))/\H=[oW (lN w m.zl.toNat 0),oM ({m with done:=true}),⟨1,229,2,[tg],0⟩,oE zY,oW (lN w m.zl.toNat 0),oE ({AX m with done:=true,answer:=m.answer})],?_,?_⟩
 .conv=>whnf
  repeat' (first|(exact trivial)|(refine⟨rfl,uH ?_⟩)|(exact⟨_,_,zk.mask [1,2,4] _ _,rfl,rfl⟩)|(refine And.intro ?_ ?_ <;> (conv=>whnf)))
 rintro _ _ ⟨rfl,rfl⟩;conv=>whnf
 exact cX
def kF(c:fq)(d:Int):Int:=((eP c)[(d%(eP c).length).toNat]?).getD 0
def yr(c:fq)(d0 d1:Int):Int×Int×Int:=if (eP c).length=0 then (0,0,5) else (kF c d0,kF c d1,0)
def Tr{n:Nat}(hd:i64 d)(hn:0<n)(hm:n<1000000000000):IntKind.i64.wrap (d.tmod n+n)=d.tmod n+n/\(d.tmod n+n).tmod n=d%n:=by
 have h1:=Int.tmod_lt_of_pos d (show(0:Int)<n by omega);have h2:=Int.lt_tmod_of_pos d (show(0:Int)<n by omega);refine⟨jB an an,?_⟩;rw[so an,Int.add_emod_right];rw[Int.tmod_def,ed]
def KK(hd:i64 d)(hn:0<(eP c).length)(hm:(eP c).length<1000000000000){n:Nat}(e:n=(eP c).length):
  0<=(IntKind.i64.wrap (d.tmod n+n)).tmod n/\((eP c).map encI)[((IntKind.i64.wrap (d.tmod n+n)).tmod n).toNat]?=some [I (kF c d)]:=by
 subst e;obtain⟨e1,e2⟩:=Tr hd hn hm;rw[e1,e2];have h0:(0:Int)<(eP c).length:=an
 have h1:=sB d (show((eP c).length:Int)≠0 by omega);have h2:=ss d h0;refine⟨h1,?_⟩;have hi:(eP c)[(d%((eP c).length:Int)).toNat]?=some ((eP c)[(d%((eP c).length:Int)).toNat]'an):=gL _;unfold kF;rw[gM,hi]
 rfl
def RN(c:fq)(d0 d1:Int)(h0:i64 d0)(h1:i64 d1)(hl:c.zL.length<1000000000000)(hh:(eP c).length<=c.zL.length):th 285 [] [Cc c,I d0,I d1] (.eR [I (yr c d0 d1).1,I (yr c d0 d1).2.1,I (yr c d0 d1).2.2]) []:=by
 have ml:((eP c).map encI).length=(eP c).length:=gO ..;refine ab func285 ?_;refine af (HV c hl) ?_;rw[ml];refine⟨λhz=>?_,λhz=>?_⟩
 .unfold yr;have hz:=gQ hz;rw[gS an];exact dg
 .unfold yr;have hz:=gR hz;rw[gP an];refine dd ?_;have hw:(((eP c).length:Nat):Int)≠0:=by omega
  refine An.ES 3 (LoopN.step ?_);conv=>whnf
  refine td ?_
  (refine⟨aj,aj,dd ?_⟩)
  split;(rotate_left;(rename_i hno;exact(hno _ (jV V V V hw)).elim));(rename_i v e;cases e.symm.trans (jV rfl rfl rfl hw));refine dd ?_
  split;(rotate_left;(rename_i hno;exact(hno _ (jV V V V hw)).elim));(rename_i v e;cases e.symm.trans (jV rfl rfl rfl hw));refine dd ?_
  obtain⟨p0,p1⟩:=KK h0 (c:=c) an an V;refine⟨p0,_,p1,dd ?_⟩;(refine⟨aj,aj,dd ?_⟩)
  refine .inl ⟨rfl,LoopN.step (uH ?_)⟩;refine td ?_
  (refine⟨aj,aj,dd ?_⟩)
  split;(rotate_left;(rename_i hno;exact(hno _ (jV V V V hw)).elim));(rename_i v e;cases e.symm.trans (jV rfl rfl rfl hw));refine dd ?_
  split;(rotate_left;(rename_i hno;exact(hno _ (jV V V V hw)).elim));(rename_i v e;cases e.symm.trans (jV rfl rfl rfl hw));refine dd ?_
  obtain⟨p2,p3⟩:=KK h1 (c:=c) an an V;refine⟨p2,_,p3,dd ?_⟩;(refine⟨aj,aj,dd ?_⟩)
  refine .inl ⟨rfl,LoopN.step (uH ?_)⟩;refine td ?_
  refine zaN ?_;refine uE ?_;(refine⟨aj,aj,dd ?_⟩)
  (refine⟨aj,aj,dd ?_⟩)
  exact uI
abbrev xq(m:eQ)(v:eX):Int×Int:=ks v.snap m.op.listen m.op.host m.op.path
def yl(m:eQ)(v:eX):eQ:=if (xq m v).2≠0 then kf m 2 else match v.snap.zi[(xq m v).1.toNat]? with
 |none=>m
 |some c=>if (yr c m.op.d0 m.op.d1).2.2≠0 then kf {m with zp:=(xq m v).1} 3
  else if c.jJ=1 then {m with zp:=(xq m v).1,pc:=6}
  else {m with zp:=(xq m v).1,end_:=(yr c m.op.d0 m.op.d1).1,other:=(yr c m.op.d0 m.op.d1).2.1,pc:=7}
structure B2(m:eQ)(v:eX):Prop where
 small:Gu v.snap
 host:m.op.host.length<4000000000000
 path:m.op.path.length<4000000000000
 d0:i64 m.op.d0
 d1:i64 m.op.d1
 MN:(xq m v).2=0->0<=(xq m v).1/\∃c,v.snap.zi[(xq m v).1.toNat]?=some c/\c.zL.length<1000000000000
def D7(c:fq):(eP c).length<=c.zL.length:=Cx c.zL c.zL.length
def J8(h:(xq m v).2≠0):yl m v=kf m 2:=gS h
def Jn(h:(xq m v).2=0)(hc:v.snap.zi[(xq m v).1.toNat]?=some c)(hd:(yr c m.op.d0 m.op.d1).2.2≠0):yl m v=kf {m with zp:=(xq m v).1} 3:=by
 unfold yl;rw[gP an,hc];exact gS hd
def JU(h:(xq m v).2=0)(hc:v.snap.zi[(xq m v).1.toNat]?=some c)(hd:(yr c m.op.d0 m.op.d1).2.2=0)(hp:c.jJ=1):yl m v={m with zp:=(xq m v).1,pc:=6}:=by
 unfold yl;rw[gP an,hc];exact(gP an).trans (gS hp)
def JV(h:(xq m v).2=0)(hc:v.snap.zi[(xq m v).1.toNat]?=some c)(hd:(yr c m.op.d0 m.op.d1).2.2=0)(hp:c.jJ≠1):
  yl m v={m with zp:=(xq m v).1,end_:=(yr c m.op.d0 m.op.d1).1,other:=(yr c m.op.d0 m.op.d1).2.1,pc:=7}:=by
 unfold yl;rw[gP an,hc];exact(gP an).trans (gP hp)
def Q3(w:Wor)(m:eQ)(v:eX)(hv:lS w m v)(h:B2 m v):th 260 [oW w,oM m] [.agg tg] (.eR []) [oW w,oM (yl m v)]:=by
 have h0:=hv.v0;have hr:=hv.row;refine aa func260 ?_;refine uE ?_;(refine⟨h0,_,hr,dd ?_⟩)
 refine af (Rh v.snap m.op.listen m.op.host m.op.path h.small h.host h.path) ?_;refine⟨λh1=>?_,λh1=>?_⟩
 .have h2:(xq m v).2≠0:=by simpa using h1
  rw[J8 h2];refine dd ?_;refine ae [1] (xM m 2) ?_;exact cX
 .have h2:(xq m v).2=0:=by simpa using h1
  obtain⟨g0,c,hc,hcl⟩:=h.MN h2;refine dd ?_;refine .inr ⟨⟨[0,1,6,11,12],[0,1,2],true⟩,ak,λ_=>V,_,uH ?_,λt2 H2 h=>h⟩;refine⟨_,ag [0,1] (vY w {m with zp:=(xq m v).1} v c ⟨hv.v0,hv.at_⟩ g0 hc),uH ?_⟩;refine⟨_,ag [] (RN c m.op.d0 m.op.d1 h.d0 h.d1 hcl (D7 c)),uH ?_⟩;refine zaC ?_
  refine⟨λh3=>?_,λh3=>?_⟩
  .have h4:(yr c m.op.d0 m.op.d1).2.2≠0:=by simpa using h3
   rw[Jn h2 hc h4];refine dd ?_;refine ae [1] (xM {m with zp:=(xq m v).1} 3) ?_;exact⟨.inr V,_,_,.refl _,rfl,cE 2⟩
  .have h4:(yr c m.op.d0 m.op.d1).2.2=0:=by simpa using h3
   refine dd ?_;refine ae [0,1] (vY w {m with zp:=(xq m v).1} v c ⟨hv.v0,hv.at_⟩ g0 hc) ?_;refine⟨λh5=>?_,λh5=>?_⟩
   .have h6:c.jJ=1:=by simpa using h5
    rw[JU h2 hc h4 h6];refine dd ?_;exact⟨.inr V,_,_,.refl _,rfl,cE 2⟩
   .have h6:c.jJ≠1:=by simpa using h5
    rw[JV h2 hc h4 h6];refine dd ?_;exact⟨.inr V,_,_,.refl _,rfl,cE 2⟩
def NA(w:Wor)(m:eQ)(v:eX)(hv:lS w m v)(h:B2 m v){l:fj}(l0:0<=m.listen)(hl:w.zc[m.listen.toNat]?=some l):
  th 211 [oW w,oM m] [.agg tg] (Ce (if l.drain then {fc m 1 4 1 with jj:=true} else fc m 1 4 0)) [oW w,oM (if l.drain then kf m 5 else yl m v)]:=by
 have lr:(w.zc.map zU)[m.listen.toNat]?=some (zU l):=by rw[gM,hl];rfl
 obtain⟨ln,ld,la,lc⟩:=l;cases ld
 all_goals
  refine aa func211 ?_;refine uE ?_;(refine⟨l0,_,lr,dd ?_⟩)
 ·(refine yb (dd ?_))
  refine ae [0,1] (Q3 w m v hv h) ?_
  have et:(yl m v).zl=m.zl:=by
   unfold yl;split
   .rfl
   .split
    .rfl
    .split
     .rfl
     .split <;> rfl
  have ee:fc m 1 4 0=fc (yl m v) 1 4 0:=by unfold fc;rw[et]
  have eg:(if ({name:=ln,drain:=false,zo:=la,closed:=lc}:fj).drain then {fc m 1 4 1 with jj:=true} else fc m 1 4 0)=fc (yl m v) 1 4 0:=ee;rw[eg];refine ae [1] (ji (yl m v) 1 4 0) ?_;exact cX
 ·(refine ya (dd ?_))
  refine ae [1] (ji m 1 4 1) ?_;refine ae [1] (xM m 5) ?_;exact cX
def NN(w:Wor)(m:eQ)(v0:eX)(g0:Gr)(e0:En)(c:fq)(hv:mq w m v0 g0)(hc:v0.snap.zi[m.zp.toNat]?=some c):th 263 (hE w m m v0 g0 e0 g0.zC e0.head e0.zo []) [.agg tg] (Cc c) (hE w m m v0 g0 e0 g0.zC e0.head e0.zo []):=by
 have h0:=hv.pv;have g0':=hv.pg;have lv:m.version.toNat<w.zd.length:=hv.lv;have cr:(v0.snap.zi.map jl)[m.zp.toNat]?=some (jl c):=by rw[gM,hc];rfl
 have lowV:∀r∈fy w m v0 3,∀c∈r,qE 6 9 c=true:=zF (enc:=zt) (λ_=>V) V _ _;have lowG:∀r∈fp m v0 g0 g0.zC 4,∀c∈r,qE 6 9 c=true:=zF (enc:=zy) (λ_=>V) V _ _;have lowE:∀r∈fk m g0 e0 e0.head 5 e0.zo,∀c∈r,qE 6 9 c=true:=zF (enc:=zu) (λ_=>V) V _ _;have e1:0+m.version.toNat=m.version.toNat:=gZ _;have gv:(fy w m v0 3)[m.version.toNat]?=some (fl 3 v0):=gX (ai lv);refine aa func263 ?_;refine uE ?_;refine⟨h0,lv,dd ?_⟩;rw[e1];refine⟨_,gv,(by show 2+1<=5;decide),dd ?_⟩;refine⟨g0',_,cr,dd ?_⟩;exact c8
def Fs(w:Wor)(m:eQ)(v0:eX)(g0:Gr)(e0:En)(hv:mq w m v0 g0)(x p a b c:Int):th 264 (hE w ({m with end_:=x,pc:=p}) m v0 g0 e0 g0.zC e0.head e0.zo []) [.agg tg,I a,I b,I c] (Ce (fD m v0 a b c)) (hE w ({m with end_:=x,pc:=p}) m v0 g0 e0 g0.zC e0.head e0.zo []):=by
 have h0:=hv.pv;have lv:m.version.toNat<w.zd.length:=hv.lv;have e1:0+m.version.toNat=m.version.toNat:=gZ _
 clear hv
 obtain⟨sn,gs,fr⟩:=v0;cases fr
 all_goals
  have ownV:∀b,∀r∈(w.zd.map zt).set m.version.toNat (qP sn++[C.sl 3 [] 2 0 gs.length false,Bo b]),∀c∈r,zG c=true:=λb=>zF (enc:=zt) (λ_=>V) V _ _
  have ownG:∀r∈(gs.map zy).set m.zp.toNat (fi 4 g0),∀c∈r,zG c=true:=zF (enc:=zy) (λ_=>V) V _ _;have ownE:∀r∈fk m g0 e0 e0.head 5 e0.zo,∀c∈r,zG c=true:=zF (enc:=zu) (λ_=>V) V _ _;have lowV:∀b,∀r∈(w.zd.map zt).set m.version.toNat (qP sn++[C.sl 3 [] 2 0 gs.length false,Bo b]),∀c∈r,qE 6 9 c=true:=λb=>zF (enc:=zt) (λ_=>V) V _ _
  have gv:∀b,((w.zd.map zt).set m.version.toNat (qP sn++[C.sl 3 [] 2 0 gs.length false,Bo b]))[m.version.toNat]?=some (qP sn++[C.sl 3 [] 2 0 gs.length false,Bo b]):=λb=>gX (ai lv)
  have lowG:∀r∈(gs.map zy).set m.zp.toNat (fi 4 g0),∀c∈r,qE 6 9 c=true:=zF (enc:=zy) (λ_=>V) V _ _;have lowE:∀r∈fk m g0 e0 e0.head 5 e0.zo,∀c∈r,qE 6 9 c=true:=zF (enc:=zu) (λ_=>V) V _ _;refine aa func264 ?_;refine zW [1] [⟨1,38,8,[(fL w 2)],0⟩,oM ({m with end_:=x,pc:=p}),⟨1,0,5,(w.zd.map zt).set m.version.toNat (qP sn++[C.sl 3 [] 2 0 gs.length false,Bo _]),0⟩,⟨1,0,2,(gs.map zy).set m.zp.toNat (fi 4 g0),0⟩,⟨1,0,3,fk m g0 e0 e0.head 5 e0.zo,0⟩,oN e0,⟨1,229,2,[tg],0⟩,oE zY] (rx:=Ce (fc m a b c)) (ji {m with end_:=x,pc:=p} a b c) V V V V V (ze V (ze V (ze (zf (ownV _)) (ze (zf ownG) (ze (zf ownE) V))))) V V (dd ?_);refine .inl ⟨⟨false,[6,9,11,14,17],[0,1,2,6],[]⟩,ak,uH ?_⟩;refine⟨h0,lv,dd ?_⟩;rw[e1];refine⟨_,gv _,(by show 4+1<=5;decide),dd ?_⟩
  first|((refine ya (dd ?_)))|((refine yb (dd ?_)))
  refine tc ?_
  exact⟨.inl V,_,_,.refl _,rfl,zk.jq 6 ta V V V (zS V (zS V (zS (qi (lowV _)) (zS (qi lowG) (zS (qi lowE) V))))) V⟩
abbrev DZ(m:eQ)(c:fq)(t:Int):eQ:={m with end_:=(nh c t).1,pc:=9}
abbrev Hb(g:Gr):Gr:={g with zC:=IntKind.u64.wrap (g.zC+1)}
def Px(w:Wor)(m:eQ)(v0:eX)(g0:Gr)(e0:En)(c:fq)(hv:mq w m v0 g0)(hc:v0.snap.zi[m.zp.toNat]?=some c)(ht:u64 g0.zC)(hl:c.zL.length<1000000000000):
  th 212 (hE w m m v0 g0 e0 g0.zC e0.head e0.zo []) [.agg tg] (Ce (fD m v0 3 6 (IntKind.i64.wrap g0.zC))) (hE w (DZ m c g0.zC) m v0 g0 e0 (IntKind.u64.wrap (g0.zC+1)) e0.head e0.zo []):=by
 have lg:=hv.lg;have ownV:∀r∈fy w m v0 3,∀c∈r,zG c=true:=zF (enc:=zt) (λ_=>V) V _ _;have ownG:∀r∈fp m v0 g0 g0.zC 4,∀c∈r,zG c=true:=zF (enc:=zy) (λ_=>V) V _ _;have ownE:∀r∈fk m g0 e0 e0.head 5 e0.zo,∀c∈r,zG c=true:=zF (enc:=zu) (λ_=>V) V _ _;have gg:(fp m v0 g0 g0.zC 4)[m.zp.toNat]?=some (fi 4 g0):=gX (ai lg);refine aa func212 ?_;refine zbb ?_;refine zbb ?_;refine⟨_,gg,rfl,dd ?_⟩;rw[pL];have ownG2:∀r∈fp m v0 g0 (IntKind.u64.wrap (g0.zC+1)) 4,∀c∈r,zG c=true:=zF (enc:=zy) (λ_=>V) V _ _;have lowV:∀r∈fy w m v0 3,∀c∈r,qE 6 9 c=true:=zF (enc:=zt) (λ_=>V) V _ _;have lowG:∀r∈fp m v0 g0 (IntKind.u64.wrap (g0.zC+1)) 4,∀c∈r,qE 6 9 c=true:=zF (enc:=zy) (λ_=>V) V _ _;have lowE:∀r∈fk m g0 e0 e0.head 5 e0.zo,∀c∈r,qE 6 9 c=true:=zF (enc:=zu) (λ_=>V) V _ _;have hv2:mq w m v0 (Hb g0):=⟨hv.pv,hv.lv,hv.pg,hv.lg,hv.pe,hv.le⟩;refine .inl ⟨⟨true,[],[],[3,5]⟩,ak,uH ?_⟩;refine zW [0,1,2,3,4,5] (hE w m m v0 g0 e0 (IntKind.u64.wrap (g0.zC+1)) e0.head e0.zo [⟨1,229,2,[tg],0⟩,oE zY]) (rx:=Cc c) (NN w m v0 (Hb g0) e0 c hv2 hc) (ze V (ze V (ze (zf ownV) (ze (zf ownG2) (ze (zf ownE) V))))) uR V V V (ze V (ze V (ze (zf ownV) (ze (zf ownG2) (ze (zf ownE) V))))) uS V (dd ?_);refine zW [] (hE w m m v0 g0 e0 (IntKind.u64.wrap (g0.zC+1)) e0.head e0.zo [⟨1,229,2,[tg],0⟩,oE zY]) (rx:=.eR [I (nh c g0.zC).1,I (nh c g0.zC).2]) (R2 c g0.zC ht hl (D7 c)) V V V V V (ze V (ze V (ze (zf ownV) (ze (zf ownG2) (ze (zf ownE) V))))) V V (dd ?_);refine zW [0,1,2,3,4,5] (hE w (DZ m c g0.zC) m v0 g0 e0 (IntKind.u64.wrap (g0.zC+1)) e0.head e0.zo [⟨1,229,2,[tg],0⟩,oE zY]) (rx:=Ce (fD m v0 3 6 (IntKind.i64.wrap g0.zC))) (Fs w m v0 (Hb g0) e0 hv2 (nh c g0.zC).1 9 3 6 (IntKind.i64.wrap g0.zC)) (ze V (ze V (ze (zf ownV) (ze (zf ownG2) (ze (zf ownE) V))))) uR V V V (ze V (ze V (ze (zf ownV) (ze (zf ownG2) (ze (zf ownE) V))))) uS V (dd ?_);exact c8
def Nw(w:Wor)(m:eQ)(v0:eX)(g0:Gr)(e0:En)(hv:mq w m v0 g0)(hw:u64 m.word)(l0: -1<=m.link)(l1:m.link<=2147483646)(hh:u64 e0.head)(hne:e0.head≠m.word):
  th 217 (hE w m m v0 g0 e0 g0.zC e0.head e0.zo []) [.agg tg] (Ce (fD m v0 5 8 (e0.head%4294967296-1))) (hE w ({m with pc:=9}) m v0 g0 e0 g0.zC e0.head e0.zo []):=by
 (have le:=hv.le);(have ownV:∀r∈fy w m v0 3,∀c∈r,zG c=true:=zF (enc:=zt) (λ_=>V) V _ _);(have ownG:∀r∈fp m v0 g0 g0.zC 4,∀c∈r,zG c=true:=zF (enc:=zy) (λ_=>V) V _ _);(have ownE:∀r∈fk m g0 e0 e0.head 5 e0.zo,∀c∈r,zG c=true:=zF (enc:=zu) (λ_=>V) V _ _);(have lowV:∀r∈fy w m v0 3,∀c∈r,qE 6 9 c=true:=zF (enc:=zt) (λ_=>V) V _ _);(have lowG:∀r∈fp m v0 g0 g0.zC 4,∀c∈r,qE 6 9 c=true:=zF (enc:=zy) (λ_=>V) V _ _)
 have lowE:∀r∈fk m g0 e0 e0.head 5 e0.zo,∀c∈r,qE 6 9 c=true:=zF (enc:=zu) (λ_=>V) V _ _;have ge:(fk m g0 e0 e0.head 5 e0.zo)[m.end_.toNat]?=some (fh 5 e0):=gX (ai le);have hv2:mq w {m with pc:=9} v0 g0:=⟨hv.pv,hv.lv,hv.pg,hv.lg,hv.pe,hv.le⟩;refine zaI ?_;refine⟨λ_=>dd ?_,λh=>absurd h (ai hne)⟩;refine .inl ⟨⟨true,[],[],[2,6,7]⟩,ak,uH ?_⟩;refine zW [0,1,2,3,4,5] (hE w ({m with pc:=9}) m v0 g0 e0 g0.zC e0.head e0.zo [⟨1,229,2,[tg],0⟩,oE zY]) (rx:=.ref 4 [] 3 m.end_.toNat 0) (vF w _ v0 g0 e0 hv2) (ze V (ze V (ze (zf ownV) (ze (zf ownG) (ze (zf ownE) V))))) uR V V V (ze V (ze V (ze (zf ownV) (ze (zf ownG) (ze (zf ownE) V))))) uS V (dd ?_);refine⟨_,ge,mC,dd ?_⟩;refine zW [] (hE w ({m with pc:=9}) m v0 g0 e0 g0.zC e0.head e0.zo [⟨1,229,2,[tg],0⟩,oE zY]) (rx:=I (e0.head%4294967296-1)) (Slp.qG e0.head hh) V V V V V (ze V (ze V (ze (zf ownV) (ze (zf ownG) (ze (zf ownE) V))))) V V (dd ?_);refine zW [0,1,2,3,4,5] (hE w ({m with pc:=9}) m v0 g0 e0 g0.zC e0.head e0.zo [⟨1,229,2,[tg],0⟩,oE zY]) (rx:=Ce (fD m v0 5 8 (e0.head%4294967296-1))) (Fs w m v0 g0 e0 hv m.end_ 9 5 8 (e0.head%4294967296-1)) (ze V (ze V (ze (zf ownV) (ze (zf ownG) (ze (zf ownE) V))))) uR V V V (ze V (ze V (ze (zf ownV) (ze (zf ownG) (ze (zf ownE) V))))) uS V (dd ?_);exact c8
def Nu(w:Wor)(m:eQ)(v0:eX)(g0:Gr)(e0:En)(hv:mq w m v0 g0)(hw:u64 m.word)(l0: -1<=m.link)(l1:m.link<=2147483646)(hne:e0.head=m.word):
  th 217 (hE w m m v0 g0 e0 g0.zC e0.head e0.zo []) [.agg tg] (Ce (fD m v0 4 8 m.slot)) (hE w ({m with pc:=12}) m v0 g0 e0 g0.zC (Slp.y9 m.word m.link) e0.zo []):=by
 (have le:=hv.le);(have ownV:∀r∈fy w m v0 3,∀c∈r,zG c=true:=zF (enc:=zt) (λ_=>V) V _ _);(have ownG:∀r∈fp m v0 g0 g0.zC 4,∀c∈r,zG c=true:=zF (enc:=zy) (λ_=>V) V _ _);(have ownE:∀r∈fk m g0 e0 e0.head 5 e0.zo,∀c∈r,zG c=true:=zF (enc:=zu) (λ_=>V) V _ _);(have lowV:∀r∈fy w m v0 3,∀c∈r,qE 6 9 c=true:=zF (enc:=zt) (λ_=>V) V _ _);(have lowG:∀r∈fp m v0 g0 g0.zC 4,∀c∈r,qE 6 9 c=true:=zF (enc:=zy) (λ_=>V) V _ _)
 have lowE:∀r∈fk m g0 e0 (Slp.y9 m.word m.link) 5 e0.zo,∀c∈r,qE 6 9 c=true:=zF (enc:=zu) (λ_=>V) V _ _;have ownE2:∀r∈fk m g0 e0 (Slp.y9 m.word m.link) 5 e0.zo,∀c∈r,zG c=true:=zF (enc:=zu) (λ_=>V) V _ _;have ge:(fk m g0 e0 e0.head 5 e0.zo)[m.end_.toNat]?=some (fh 5 e0):=gX (ai le);refine zaI ?_;refine⟨λh=>absurd h (by simp[hne]),λ_=>dd ?_⟩;refine td ?_
 refine zbl ?_;refine⟨_,ge,rfl,dd ?_⟩;rw[pL];refine dd ?_;refine .inl ⟨⟨true,[],[],[5]⟩,ak,uH ?_⟩;refine zW [0,1,2,3,4,5] (hE w ({m with pc:=12}) m v0 g0 e0 g0.zC (Slp.y9 m.word m.link) e0.zo [⟨1,229,2,[tg],0⟩,oE zY]) (rx:=Ce (fD m v0 4 8 m.slot)) (Fs w m v0 g0 {e0 with head:=Slp.y9 m.word m.link} hv m.end_ 12 4 8 m.slot) (ze V (ze V (ze (zf ownV) (ze (zf ownG) (ze (zf ownE2) V))))) uR V V V (ze V (ze V (ze (zf ownV) (ze (zf ownG) (ze (zf ownE2) V))))) uS V (dd ?_);exact c8
end Go.Wor
namespace Go.Wor
open Go.Ab Go.Proofs Tryz Go.Hy
abbrev nf:C:=.v .nilFunc
abbrev pf(f:FuncId):C:=.fn f [] []
abbrev Xk:List C:=[nf,nf,nf,pf 209,pf 210,pf 211,pf 212,pf 213,pf 214,pf 215,pf 216,pf 217,pf 218,nf,nf,nf,nf,nf,nf,nf,pf 219,pf 220,pf 221,pf 222]
def jk:th 172 [] [] (.agg Xk) []:=by
 refine ab func172 ?_;exact uI
end Go.Wor
namespace Go.Wor
open Go.Ab Go.Proofs Tryz Go.Hy Go.Gat Go.Nam Go.Hos Go.Con Go.Sna
variable{w w':Wor}{m m':eQ}{e:e7}{ls:List fj}{v0:eX}{g0:Gr}{e0:En}
def Vc(sw:z6 w)(ok:fa w)(hl:i64 m.listen)(hpc:m.pc=3)(hs:zE w m=true)(h:th 209 [oW w,oM m] [.agg tg] (Ce e) [oW w',oM m']):th 137 [] [Cw w,Cm m] (.eR [Cw w',Cm m',Ce e]) []:=by
 by_cases hn:m.listen<0
 all_goals
  refine zbp ?_
  refine zbd ?_
  refine zad ?_
  refine zau ?_
  (refine⟨an,an,pf 209,cV,dd ?_⟩)
  refine td ?_
  refine zbn ?_
  exact uI
def Ve(sw:z6 w)(ok:fa w)(hl:i64 m.listen)(hpc:m.pc=5)(hs:zE w m=true)(hli:0<=m.listen)(h:th 211 [oW w,oM m] [.agg tg] (Ce e) [oW w',oM m']):th 137 [] [Cw w,Cm m] (.eR [Cw w',Cm m',Ce e]) []:=by
 have hn:¬m.listen<0:=an
 all_goals
  refine zbp ?_
  refine zbd ?_
  refine zad ?_
  refine zau ?_
  (refine⟨an,an,pf 211,cV,dd ?_⟩)
  refine td ?_
  refine zbn ?_
  exact uI
def Vg(sw:z6 w)(ok:fa w)(hl:i64 m.listen)(hpc:m.pc=7)(hs:zE w m=true)(h:th 213 [oW w,oM m] [.agg tg] (Ce e) [oW w',oM m']):th 137 [] [Cw w,Cm m] (.eR [Cw w',Cm m',Ce e]) []:=by
 by_cases hn:m.listen<0
 all_goals
  refine zbp ?_
  refine zbd ?_
  refine zad ?_
  refine zau ?_
  (refine⟨an,an,pf 213,cV,dd ?_⟩)
  refine td ?_
  refine zbn ?_
  exact uI
def Vh(sw:z6 w)(ok:fa w)(hl:i64 m.listen)(hpc:m.pc=8)(hs:zE w m=true)(h:th 214 [oW w,oM m] [.agg tg] (Ce e) [oW w',oM m']):th 137 [] [Cw w,Cm m] (.eR [Cw w',Cm m',Ce e]) []:=by
 by_cases hn:m.listen<0
 all_goals
  refine zbp ?_
  refine zbd ?_
  refine zad ?_
  refine zau ?_
  (refine⟨an,an,pf 214,cV,dd ?_⟩)
  refine td ?_
  refine zbn ?_
  exact uI
def KO(sw:z6 w)(ok:fa w)(hl:i64 m.listen)(hpc:m.pc=9)(hs:zE w m=true)(h:th 215 [oW w,oM m] [.agg tg] (Ce e) [oW w',oM m']):th 137 [] [Cw w,Cm m] (.eR [Cw w',Cm m',Ce e]) []:=by
 by_cases hn:m.listen<0
 all_goals
  refine zbp ?_
  refine zbd ?_
  refine zad ?_
  refine zau ?_
  (refine⟨an,an,pf 215,cV,dd ?_⟩)
  refine td ?_
  refine zbn ?_
  exact uI
def T2(sw:z6 w)(ok:fa w)(hl:i64 m.listen)(hpc:m.pc=10)(hs:zE w m=true)(h:th 216 [oW w,oM m] [.agg tg] (Ce e) [oW w',oM m']):th 137 [] [Cw w,Cm m] (.eR [Cw w',Cm m',Ce e]) []:=by
 by_cases hn:m.listen<0
 all_goals
  refine zbp ?_
  refine zbd ?_
  refine zad ?_
  refine zau ?_
  (refine⟨an,an,pf 216,cV,dd ?_⟩)
  refine td ?_
  refine zbn ?_
  exact uI
def T7(sw:z6 w)(ok:fa w)(hl:i64 m.listen)(hpc:m.pc=23)(hs:zE w m=true)(h:th 222 [oW w,oM m] [.agg tg] (Ce e) [oW w',oM m']):th 137 [] [Cw w,Cm m] (.eR [Cw w',Cm m',Ce e]) []:=by
 by_cases hn:m.listen<0
 all_goals
  refine zbp ?_
  refine zbd ?_
  refine zad ?_
  refine zau ?_
  (refine⟨an,an,pf 222,cV,dd ?_⟩)
  refine td ?_
  refine zbn ?_
  exact uI
def Dr(h0:0<=m.pc)(h3:m.pc<3)(h:th 170 [] [Cw w,Cm m] (.eR [Cw w',Cm m',Ce e]) []):th 137 [] [Cw w,Cm m] (.eR [Cw w',Cm m',Ce e]) []:=by
 refine ab func137 ?_;refine zbH ?_;refine zbH ?_;refine af h ?_;exact uI
def Vd(sw:z6 w)(ok:fa w)(hl:i64 m.listen)(hpc:m.pc=4)(hs:zE w m=true)(hli:0<=m.listen)(hll:ls.length=w.zc.length)(h:th 210 [⟨1,38,8,[iv 2 w],0⟩,oM m,⟨2,98,4,(w.zc).map zU,0⟩] [.agg tg] (Ce e) [⟨1,38,8,[iv 2 w],0⟩,oM m',⟨2,98,4,(ls).map zU,0⟩]):th 137 [] [Cw w,Cm m] (.eR [Cw {w with zc:=ls},Cm m',Ce e]) []:=by
 have hn:¬m.listen<0:=an
 obtain⟨x,l,hx⟩:∃x l,w.zc=x::l:=by
  obtain⟨v,g,e,su⟩:=vU hs;cases h:w.zc with
  |nil=>have:=su.listen;rw[h]at this;exact dt
  |cons x l=>exact⟨x,l,rfl⟩
 refine zbp ?_
 refine zbd ?_
 refine zad ?_
 refine zau ?_
 (refine⟨an,an,pf 210,cV,dd ?_⟩)
 refine td ?_
 refine ae [] (vh w sw x l hx) ?_;refine ae [6,7,5] (h) ?_;refine zbx ?_
 exact gh
def T6(sw:z6 w)(ok:fa w)(hl:i64 m.listen)(hpc:m.pc=22)(hs:zE w m=true)(hli:0<=m.listen)(hll:ls.length=w.zc.length)(h:th 221 [⟨1,38,8,[iv 2 w],0⟩,oM m,⟨2,98,4,(w.zc).map zU,0⟩] [.agg tg] (Ce e) [⟨1,38,8,[iv 2 w],0⟩,oM m',⟨2,98,4,(ls).map zU,0⟩]):th 137 [] [Cw w,Cm m] (.eR [Cw {w with zc:=ls},Cm m',Ce e]) []:=by
 have hn:¬m.listen<0:=an
 obtain⟨x,l,hx⟩:∃x l,w.zc=x::l:=by
  obtain⟨v,g,e,su⟩:=vU hs;cases h:w.zc with
  |nil=>have:=su.listen;rw[h]at this;exact dt
  |cons x l=>exact⟨x,l,rfl⟩
 refine zbp ?_
 refine zbd ?_
 refine zad ?_
 refine zau ?_
 (refine⟨an,an,pf 221,cV,dd ?_⟩)
 refine td ?_
 refine ae [] (vh w sw x l hx) ?_;refine ae [6,7,5] (h) ?_;refine zbx ?_
 exact gh
def T4{r0 r1:List Int}(sw:z6 w)(ok:fa w)(hl:i64 m.listen)(hpc:m.pc=20)(hs:zE w m=true)(t0:0<=m.zl)(hr:w.counts[m.zl.toNat]?=some r0)(hne:r0≠[])(hll:r1.length=r0.length)
 (h:th 219 [⟨1,38,8,[ik 2 w],0⟩,oM m,⟨1,0,1,(w.counts.map zA).set m.zl.toNat [C.sl (3) [] 1 0 r0.length false],0⟩,⟨2,52,1,(r0).map qB,0⟩] [.agg tg] (Ce e) [⟨1,38,8,[ik 2 w],0⟩,oM m',⟨1,0,1,(w.counts.map zA).set m.zl.toNat [C.sl (3) [] 1 0 r0.length false],0⟩,⟨2,52,1,(r1).map qB,0⟩]):th 137 [] [Cw w,Cm m] (.eR [Cw {w with counts:=w.counts.set m.zl.toNat r1},Cm m',Ce e]) []:=by
 have ml:((w.counts.map zA)).length=w.counts.length:=gO ..;have ml1:(r1.map qB).length=r1.length:=gO ..;have eP:m.zl.toNat<w.counts.length:=(gN.1 hr).1;have own:∀i,∀r∈(w.counts.map zA).set m.zl.toNat ([C.sl i [] 1 0 r0.length false]),∀c∈r,zG c=true:=λi=>zF (enc:=zA) (λ_=>V) V _ _
 have gt:((w.counts.map zA).set m.zl.toNat ([C.sl 6 [] 1 0 r0.length false]))[m.zl.toNat]?=some ([C.sl 6 [] 1 0 r0.length false]):=gX mD;have est:(((w.counts.map zA).set m.zl.toNat ([C.sl 6 [] 1 0 r0.length false])).set m.zl.toNat [.eM 0 1 (r1.map qB)])=(w.counts.set m.zl.toNat r1).map zA:=cQ
 have esh:∀r∈(((w.counts.map zA).set m.zl.toNat ([C.sl 6 [] 1 0 r0.length false])).set m.zl.toNat [.eM 0 1 (r1.map qB)]),∀c∈r,jM c=true/\zG c=true:=by
  rw[est];exact shut_map (enc:=zA) (λ_=>V) _
 have hp:AN w.counts m.zl.toNat r0:=⟨sw.counts,hr,hne⟩;by_cases hn:m.listen<0
 all_goals
  refine zbp ?_
  refine zbd ?_
  refine zad ?_
  refine zau ?_
  (refine⟨an,an,pf 219,cV,dd ?_⟩)
  refine td ?_
  refine zaG ?_
  refine zaJ ?_
  rfl
def T5{r0 r1:List Int}(sw:z6 w)(ok:fa w)(hl:i64 m.listen)(hpc:m.pc=21)(hs:zE w m=true)(t0:0<=m.zl)(hr:w.counts[m.zl.toNat]?=some r0)(hne:r0≠[])(hll:r1.length=r0.length)
 (h:th 220 [⟨1,38,8,[ik 2 w],0⟩,oM m,⟨1,0,1,(w.counts.map zA).set m.zl.toNat [C.sl (3) [] 1 0 r0.length false],0⟩,⟨2,52,1,(r0).map qB,0⟩] [.agg tg] (Ce e) [⟨1,38,8,[ik 2 w],0⟩,oM m',⟨1,0,1,(w.counts.map zA).set m.zl.toNat [C.sl (3) [] 1 0 r0.length false],0⟩,⟨2,52,1,(r1).map qB,0⟩]):th 137 [] [Cw w,Cm m] (.eR [Cw {w with counts:=w.counts.set m.zl.toNat r1},Cm m',Ce e]) []:=by
 have ml:((w.counts.map zA)).length=w.counts.length:=gO ..;have ml1:(r1.map qB).length=r1.length:=gO ..;have eP:m.zl.toNat<w.counts.length:=(gN.1 hr).1;have own:∀i,∀r∈(w.counts.map zA).set m.zl.toNat ([C.sl i [] 1 0 r0.length false]),∀c∈r,zG c=true:=λi=>zF (enc:=zA) (λ_=>V) V _ _
 have gt:((w.counts.map zA).set m.zl.toNat ([C.sl 6 [] 1 0 r0.length false]))[m.zl.toNat]?=some ([C.sl 6 [] 1 0 r0.length false]):=gX mD;have est:(((w.counts.map zA).set m.zl.toNat ([C.sl 6 [] 1 0 r0.length false])).set m.zl.toNat [.eM 0 1 (r1.map qB)])=(w.counts.set m.zl.toNat r1).map zA:=cQ
 have esh:∀r∈(((w.counts.map zA).set m.zl.toNat ([C.sl 6 [] 1 0 r0.length false])).set m.zl.toNat [.eM 0 1 (r1.map qB)]),∀c∈r,jM c=true/\zG c=true:=by
  rw[est];exact shut_map (enc:=zA) (λ_=>V) _
 have hp:AN w.counts m.zl.toNat r0:=⟨sw.counts,hr,hne⟩;by_cases hn:m.listen<0
 all_goals
  refine zbp ?_
  refine zbd ?_
  refine zad ?_
  refine zau ?_
  (refine⟨an,an,pf 220,cV,dd ?_⟩)
  refine td ?_
  refine zaG ?_
  refine zaJ ?_
  rfl
def vm{α β:Type}(f:α->β)(l:List α)(i:Nat)(a:α)(r:β)(h:f a=r):(l.map f).set i r=(l.set i a).map f:=by rw[r3,h]
abbrev vu(e0:En)(hd ac:Int):En:={e0 with head:=hd,zo:=ac}
abbrev mZ(m:eQ)(g0:Gr)(e0:En)(tk hd ac:Int):Gr:={g0 with zC:=tk,ends:=g0.ends.set m.end_.toNat (vu e0 hd ac)}
abbrev xE(m:eQ)(v0:eX)(g0:Gr)(e0:En)(tk hd ac:Int):eX:={v0 with zg:=v0.zg.set m.zp.toNat (mZ m g0 e0 tk hd ac)}
abbrev vv(w:Wor)(m:eQ)(v0:eX)(g0:Gr)(e0:En)(tk hd ac:Int):Wor:={w with zd:=w.zd.set m.version.toNat (xE m v0 g0 e0 tk hd ac)}
def wm(tk hd ac:Int)(sw:z6 w)(hat:fF w m v0 g0 e0)(hne:e0.next≠[]):
  CU w.zd m.version.toNat v0 m.zp.toNat g0 m.end_.toNat e0/\(∀i,∀r∈fy w m v0 (i),∀c∈r,zG c=true)/\(∀i t,∀r∈fp m v0 g0 (t) (i),∀c∈r,zG c=true)/\
  (∀i a b,∀r∈fk m g0 e0 (a) (i) (b),∀c∈r,zG c=true)/\(fy w m v0 (6))[m.version.toNat]?=some (fl (6) v0)/\(∀t,(fp m v0 g0 (t) (7))[m.zp.toNat]?=some ([U (t),C.sl (7) [] 3 0 g0.ends.length false]))/\
  (∀a b,(fk m g0 e0 (a) (8) (b))[m.end_.toNat]?=some ([U (a),C.sl (8) [] 1 0 e0.next.length false,I (b)]))/\((fk m g0 e0 (hd) (8) (ac)).set m.end_.toNat [U hd,C.eM 0 1 (e0.next.map encI),I ac])=(g0.ends.set m.end_.toNat (vu e0 hd ac)).map zu/\((fp m v0 g0 (tk) (7)).set m.zp.toNat [U tk,C.eM 0 3 (((g0.ends.set m.end_.toNat (vu e0 hd ac)).map zu))])=(v0.zg.set m.zp.toNat (mZ m g0 e0 tk hd ac)).map zy/\
  ((fy w m v0 (6)).set m.version.toNat (qP v0.snap++[C.eM 0 2 (((v0.zg.set m.zp.toNat (mZ m g0 e0 tk hd ac)).map zy)),Bo v0.qF]))=(w.zd.set m.version.toNat (xE m v0 g0 e0 tk hd ac)).map zt/\(∀r∈((fk m g0 e0 (hd) (8) (ac)).set m.end_.toNat [U hd,C.eM 0 1 (e0.next.map encI),I ac]),∀c∈r,jM c=true/\zG c=true)/\(∀r∈((fp m v0 g0 (tk) (7)).set m.zp.toNat [U tk,C.eM 0 3 ((fk m g0 e0 (hd) (8) (ac)).set m.end_.toNat [U hd,C.eM 0 1 (e0.next.map encI),I ac])]),∀c∈r,jM c=true/\zG c=true)/\(∀r∈((fy w m v0 (6)).set m.version.toNat (qP v0.snap++[C.eM 0 2 ((fp m v0 g0 (tk) (7)).set m.zp.toNat [U tk,C.eM 0 3 ((fk m g0 e0 (hd) (8) (ac)).set m.end_.toNat [U hd,C.eM 0 1 (e0.next.map encI),I ac])]),Bo v0.qF])),∀c∈r,jM c=true/\zG c=true):=by
 have lv:=hat.ln.lv;have lg:=hat.ln.lg;have le:=hat.ln.le;have B7:=sw.zd.2 v0 (gT hat.at_);have estE:((fk m g0 e0 (hd) (8) (ac)).set m.end_.toNat [U hd,C.eM 0 1 (e0.next.map encI),I ac])=(g0.ends.set m.end_.toNat (vu e0 hd ac)).map zu:=by rw[pL];exact vm zu _ _ (vu e0 hd ac) _ V
 have estG:((fp m v0 g0 (tk) (7)).set m.zp.toNat [U tk,C.eM 0 3 (((g0.ends.set m.end_.toNat (vu e0 hd ac)).map zu))])=(v0.zg.set m.zp.toNat (mZ m g0 e0 tk hd ac)).map zy:=by rw[pL];exact vm zy _ _ (mZ m g0 e0 tk hd ac) _ V
 have estV:((fy w m v0 (6)).set m.version.toNat (qP v0.snap++[C.eM 0 2 (((v0.zg.set m.zp.toNat (mZ m g0 e0 tk hd ac)).map zy)),Bo v0.qF]))=(w.zd.set m.version.toNat (xE m v0 g0 e0 tk hd ac)).map zt:=by rw[pL];exact vm zt _ _ (xE m v0 g0 e0 tk hd ac) _ V
 refine⟨⟨⟨⟨B7.2 g0 (gT hat.fV),hat.ig,hne⟩,B7,hat.fV⟩,sw.zd,hat.at_⟩,λi=>zF (enc:=zt) (λ_=>V) V _ _,λi t=>zF (enc:=zy) (λ_=>V) V _ _,λi a b=>zF (enc:=zu) (λ_=>V) V _ _,gX (ai lv),λt=>gX (ai lg),λa b=>gX (ai le),estE,estG,estV,?_,?_,?_⟩
 .rw[estE];exact shut_map (enc:=zu) (λ_=>V) _
 .rw[estE,estG];exact shut_map (enc:=zy) (λ_=>V) _
 .rw[estE,estG,estV];exact shut_map (enc:=zt) (λ_=>V) _
def Vf{tk hd ac:Int}(sw:z6 w)(ok:fa w)(hl:i64 m.listen)(hpc:m.pc=6)(hs:zE w m=true)(hat:fF w m v0 g0 e0)(hne:e0.next≠[])
 (h:th 212 [⟨1,38,8,[(fL w 2)],0⟩,oM m,⟨1,0,5,fy w m v0 (3),0⟩,⟨1,0,2,fp m v0 g0 (g0.zC) (4),0⟩,⟨1,0,3,fk m g0 e0 (e0.head) (5) (e0.zo),0⟩,oN e0] [.agg tg] (Ce e) [⟨1,38,8,[(fL w 2)],0⟩,oM m',⟨1,0,5,fy w m v0 (3),0⟩,⟨1,0,2,fp m v0 g0 (tk) (4),0⟩,⟨1,0,3,fk m g0 e0 (hd) (5) (ac),0⟩,oN e0]):th 137 [] [Cw w,Cm m] (.eR [Cw (vv w m v0 g0 e0 tk hd ac),Cm m',Ce e]) []:=by
 obtain⟨hp,ownV,ownG,ownE,gv,gg,ge,estE,estG,estV,eshE,eshG,eshV⟩:=wm tk hd ac sw hat hne;by_cases hn:m.listen<0
 all_goals
  refine zbp ?_
  refine zbd ?_
  refine zad ?_
  refine zau ?_
  (refine⟨an,an,pf 212,cV,dd ?_⟩)
  refine td ?_
  refine zah ?_
  refine zak ?_;refine zaz ?_
  rfl
def Ks{tk hd ac:Int}(sw:z6 w)(ok:fa w)(hl:i64 m.listen)(hpc:m.pc=11)(hs:zE w m=true)(hat:fF w m v0 g0 e0)(hne:e0.next≠[])
 (h:th 217 [⟨1,38,8,[(fL w 2)],0⟩,oM m,⟨1,0,5,fy w m v0 (3),0⟩,⟨1,0,2,fp m v0 g0 (g0.zC) (4),0⟩,⟨1,0,3,fk m g0 e0 (e0.head) (5) (e0.zo),0⟩,oN e0] [.agg tg] (Ce e) [⟨1,38,8,[(fL w 2)],0⟩,oM m',⟨1,0,5,fy w m v0 (3),0⟩,⟨1,0,2,fp m v0 g0 (tk) (4),0⟩,⟨1,0,3,fk m g0 e0 (hd) (5) (ac),0⟩,oN e0]):th 137 [] [Cw w,Cm m] (.eR [Cw (vv w m v0 g0 e0 tk hd ac),Cm m',Ce e]) []:=by
 obtain⟨hp,ownV,ownG,ownE,gv,gg,ge,estE,estG,estV,eshE,eshG,eshV⟩:=wm tk hd ac sw hat hne;by_cases hn:m.listen<0
 all_goals
  refine zbp ?_
  refine zbd ?_
  refine zad ?_
  refine zau ?_
  (refine⟨an,an,pf 217,cV,dd ?_⟩)
  refine td ?_
  refine zah ?_
  refine zak ?_;refine zaz ?_
  rfl
def T3{tk hd ac:Int}(sw:z6 w)(ok:fa w)(hl:i64 m.listen)(hpc:m.pc=12)(hs:zE w m=true)(hat:fF w m v0 g0 e0)(hne:e0.next≠[])
 (h:th 218 [⟨1,38,8,[(fL w 2)],0⟩,oM m,⟨1,0,5,fy w m v0 (3),0⟩,⟨1,0,2,fp m v0 g0 (g0.zC) (4),0⟩,⟨1,0,3,fk m g0 e0 (e0.head) (5) (e0.zo),0⟩,oN e0] [.agg tg] (Ce e) [⟨1,38,8,[(fL w 2)],0⟩,oM m',⟨1,0,5,fy w m v0 (3),0⟩,⟨1,0,2,fp m v0 g0 (tk) (4),0⟩,⟨1,0,3,fk m g0 e0 (hd) (5) (ac),0⟩,oN e0]):th 137 [] [Cw w,Cm m] (.eR [Cw (vv w m v0 g0 e0 tk hd ac),Cm m',Ce e]) []:=by
 obtain⟨hp,ownV,ownG,ownE,gv,gg,ge,estE,estG,estV,eshE,eshG,eshV⟩:=wm tk hd ac sw hat hne;by_cases hn:m.listen<0
 all_goals
  refine zbp ?_
  refine zbd ?_
  refine zad ?_
  refine zau ?_
  (refine⟨an,an,pf 218,cV,dd ?_⟩)
  refine td ?_
  refine zah ?_
  refine zak ?_;refine zaz ?_
  rfl
end Go.Wor
