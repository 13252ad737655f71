import Derived.Test.YtllehbdigpdinaaGreatTW
import Derived.Test.YtllehbdigpdinaaGreatTV
set_option linter.all false
set_option maxRecDepth 100000
set_option maxHeartbeats 4000000
namespace Go.Wor
open Go.Ab Go.Proofs Tryz Go.Hy Go.Gat Go.Nam Go.Hos Go.Con Go.Sna
variable{d:Int}{c:ij}{m:fD}{v:fI}
abbrev DL(w:Wor)(m:fD):fD:={m with version:=w.current,zg:=0,end_:=0,other:=0,slot:=0,listen:=zT w.zc m.op.listen,pc:=4}
abbrev Nu(e:fG):fG:={e with jd:=true}
def VE(w:Wor)(m:fD)(hl:w.zc.length<4611686018427387904):
  tj 196 [oW w,oM m] [.agg tf] (Ce (Nu (fX m 1 3 w.current))) [oW w,oM (if zT w.zc m.op.listen<0 then oX (DL w m) 2 else DL w m)]:=by
 refine aa func196 ?_;refine .inr ⟨⟨[0,2,5,6],[0,1,2],true⟩,au,λ_=>V,_,uH ?_,λt2 H2 h=>h⟩;refine⟨_,ai [1] (jC m 1 3 w.current),uH ?_⟩;refine zaK ?_
 refine zaK ?_
 refine zaU ?_
 refine .inl ⟨⟨true,[],[],[12]⟩,au,uH ?_⟩;refine ah (wR w.zc m.op.listen hl) ?_;refine hU ?_
 refine⟨λh1=>?_,λh1=>?_⟩
 .have e1:zT w.zc m.op.listen<0:=by simpa using h1
  rw[gz e1];refine dd ?_;refine af [1] (kS (DL w m) 2) ?_;exact cW
 .have e1:¬zT w.zc m.op.listen<0:=by simpa using h1
  rw[gp e1];refine dd ?_;exact cW
def X3(w:Wor)(m:fD)(sw:jg w)(ok:iw w)(hl:i64 m.listen)(hs:z8 w m=true):
  tj 209 [oW w,oM m] [.agg tf] (Ce {GB m with done:=true,answer:=m.answer}) [oW (nT w m.zf.toNat 0),oM ({m with done:=true})]:=by
 refine aa func209 ?_;refine .inr ⟨⟨[1,3,5,7,8],[0,1,2],true⟩,au,λ_=>V,λt H=>t=(.za::.ref 2 [] 2 0 0::.ref 3 [] 23 0 0::.ref 4 [] 8 0 0::.ref 5 [] 23 0 0::tY (tY (tY ([.za,.za,.za,.za]))))/\H=[oW w,oM m,⟨1,260,2,[tf],0⟩,oE qJ,oW (nT w m.zf.toNat 0),oE (GB m)],?_,?_⟩
 .conv=>whnf
  refine⟨_,ai [] (ztK w m sw ok hl hs),uH ?_⟩;repeat' (first|(exact trivial)|(refine⟨rfl,uH ?_⟩)|(exact⟨_,_,zp.fL [0,1,2,3,4,5] [1,2,3,4] _ _ V V V V,rfl,rfl⟩)|(exact⟨_,_,zp.fL [0,1,2,3,5,4] [1,2,3,4] _ _ V V V V,rfl,rfl⟩)|(refine And.intro ?_ ?_ <;> (conv=>whnf)))
 rintro _ _ ⟨rfl,rfl⟩;conv=>whnf
 refine .inr ⟨⟨[1,3],[2],true⟩,au,λ_=>V,λt H=>t=(.za::.ref 2 [] 2 0 0::.ref 3 [] 23 0 0::.za::.ref 5 [] 23 0 0::tY (tY (tY ([.za,.za,.za,.za]))))/\H=[oW (nT w m.zf.toNat 0),oM ({m with done:=true}),⟨1,260,2,[tf],0⟩,oE qJ,oW (nT w m.zf.toNat 0),oE ({GB m with done:=true,answer:=m.answer})],?_,?_⟩
 .conv=>whnf
  repeat' (first|(exact trivial)|(refine⟨rfl,uH ?_⟩)|(exact⟨_,_,zp.mask [1,2,4] _ _,rfl,rfl⟩)|(refine And.intro ?_ ?_ <;> (conv=>whnf)))
 rintro _ _ ⟨rfl,rfl⟩;conv=>whnf
 exact cW
def yF(c:ij)(d:Int):Int:=((fE c)[(d%(fE c).length).toNat]?).getD 0
def vt(c:ij)(d0 d1:Int):Int×Int×Int:=if (fE c).length=0 then (0,0,5) else (yF c d0,yF c d1,0)
def ztt{n:Nat}(hd:i64 d)(hn:0<n)(hm:n<1000000000000):IntKind.i64.wrap (d.tmod n+n)=d.tmod n+n/\(d.tmod n+n).tmod n=d%n:=by
 have h1:=Int.tmod_lt_of_pos d (show(0:Int)<n by omega);have h2:=Int.lt_tmod_of_pos d (show(0:Int)<n by omega);refine⟨z7 aw aw,?_⟩;rw[sD aw,Int.add_emod_right];rw[Int.tmod_def,Int.sub_mul_emod_self_left]
def Ry(hd:i64 d)(hn:0<(fE c).length)(hm:(fE c).length<1000000000000){n:Nat}(e:n=(fE c).length):
  0<=(IntKind.i64.wrap (d.tmod n+n)).tmod n/\((fE c).map encI)[((IntKind.i64.wrap (d.tmod n+n)).tmod n).toNat]?=some [I (yF c d)]:=by
 subst e;obtain⟨e1,e2⟩:=ztt hd hn hm;rw[e1,e2];have h0:(0:Int)<(fE c).length:=aw
 have h1:=sS d (show((fE c).length:Int)≠0 by omega);have h2:=sT d h0;refine⟨h1,?_⟩;have hi:(fE c)[(d%((fE c).length:Int)).toNat]?=some ((fE c)[(d%((fE c).length:Int)).toNat]'aw):=gk _;unfold yF;rw[gy,hi]
 rfl
def YV(c:ij)(d0 d1:Int)(h0:i64 d0)(h1:i64 d1)(hl:c.zS.length<1000000000000)(hh:(fE c).length<=c.zS.length):tj 254 [] [Cc c,I d0,I d1] (.fJ [I (vt c d0 d1).1,I (vt c d0 d1).2.1,I (vt c d0 d1).2.2]) []:=by
 have ml:((fE c).map encI).length=(fE c).length:=gC ..;refine ab func254 ?_;refine ah (NZ c hl) ?_;rw[ml];refine⟨λhz=>?_,λhz=>?_⟩
 .unfold vt;have hz:=gL hz;rw[gz aw];exact dp
 .unfold vt;have hz:=rE hz;rw[gp aw];refine dd ?_;have hw:(((fE c).length:Nat):Int)≠0:=by omega
  refine Aw.BV 3 (LoopN.step ?_);conv=>whnf
  refine hZ ?_
  (refine⟨ar,ar,dd ?_⟩)
  split;(rotate_left;(rename_i hno;exact(hno _ (yA V V V hw)).elim));(rename_i v e;cases e.symm.trans (yA rfl rfl rfl hw));refine dd ?_
  split;(rotate_left;(rename_i hno;exact(hno _ (yA V V V hw)).elim));(rename_i v e;cases e.symm.trans (yA rfl rfl rfl hw));refine dd ?_
  obtain⟨p0,p1⟩:=Ry h0 (c:=c) aw aw V;refine⟨p0,_,p1,dd ?_⟩;(refine⟨ar,ar,dd ?_⟩)
  refine .inl ⟨rfl,LoopN.step (uH ?_)⟩;refine hZ ?_
  (refine⟨ar,ar,dd ?_⟩)
  split;(rotate_left;(rename_i hno;exact(hno _ (yA V V V hw)).elim));(rename_i v e;cases e.symm.trans (yA rfl rfl rfl hw));refine dd ?_
  split;(rotate_left;(rename_i hno;exact(hno _ (yA V V V hw)).elim));(rename_i v e;cases e.symm.trans (yA rfl rfl rfl hw));refine dd ?_
  obtain⟨p2,p3⟩:=Ry h1 (c:=c) aw aw V;refine⟨p2,_,p3,dd ?_⟩;(refine⟨ar,ar,dd ?_⟩)
  refine .inl ⟨rfl,LoopN.step (uH ?_)⟩;refine hZ ?_
  refine zaJ ?_;refine uE ?_;(refine⟨ar,ar,dd ?_⟩)
  (refine⟨ar,ar,dd ?_⟩)
  exact uI
abbrev xP(m:fD)(v:fI):Int×Int:=B1 v.snap m.op.listen m.op.host m.op.path
def j8(m:fD)(v:fI):fD:=if (xP m v).2≠0 then oX m 2 else match v.snap.zo[(xP m v).1.toNat]? with
 |none=>m
 |some c=>if (vt c m.op.d0 m.op.d1).2.2≠0 then oX {m with zg:=(xP m v).1} 3
  else if c.x9=1 then {m with zg:=(xP m v).1,pc:=6}
  else {m with zg:=(xP m v).1,end_:=(vt c m.op.d0 m.op.d1).1,other:=(vt c m.op.d0 m.op.d1).2.1,pc:=7}
structure Jd(m:fD)(v:fI):Prop where
 small:Sz v.snap
 host:m.op.host.length<1000000000000000
 path:m.op.path.length<1000000000000000
 d0:i64 m.op.d0
 d1:i64 m.op.d1
 M0:(xP m v).2=0->0<=(xP m v).1/\∃c,v.snap.zo[(xP m v).1.toNat]?=some c/\c.zS.length<1000000000000
def SD(c:ij):(fE c).length<=c.zS.length:=HK c.zS c.zS.length
def P2(h:(xP m v).2≠0):j8 m v=oX m 2:=gz h
def Pd(h:(xP m v).2=0)(hc:v.snap.zo[(xP m v).1.toNat]?=some c)(hd:(vt c m.op.d0 m.op.d1).2.2≠0):j8 m v=oX {m with zg:=(xP m v).1} 3:=by
 unfold j8;rw[gp aw,hc];exact gz hd
def PR(h:(xP m v).2=0)(hc:v.snap.zo[(xP m v).1.toNat]?=some c)(hd:(vt c m.op.d0 m.op.d1).2.2=0)(hp:c.x9=1):j8 m v={m with zg:=(xP m v).1,pc:=6}:=by
 unfold j8;rw[gp aw,hc];exact(gp aw).trans (gz hp)
def PS(h:(xP m v).2=0)(hc:v.snap.zo[(xP m v).1.toNat]?=some c)(hd:(vt c m.op.d0 m.op.d1).2.2=0)(hp:c.x9≠1):
  j8 m v={m with zg:=(xP m v).1,end_:=(vt c m.op.d0 m.op.d1).1,other:=(vt c m.op.d0 m.op.d1).2.1,pc:=7}:=by
 unfold j8;rw[gp aw,hc];exact(gp aw).trans (gp hp)
def Yb(w:Wor)(m:fD)(v:fI)(hv:AH w m v)(h:Jd m v):tj 238 [oW w,oM m] [.agg tf] (.fJ []) [oW w,oM (j8 m v)]:=by
 have h0:=hv.v0;have hr:=hv.row;refine aa func238 ?_;refine uE ?_;(refine⟨h0,_,hr,dd ?_⟩)
 refine ah (Ys v.snap m.op.listen m.op.host m.op.path h.small h.host h.path) ?_;refine⟨λh1=>?_,λh1=>?_⟩
 .have h2:(xP m v).2≠0:=by simpa using h1
  rw[P2 h2];refine dd ?_;refine af [1] (kS m 2) ?_;exact cW
 .have h2:(xP m v).2=0:=by simpa using h1
  obtain⟨g0,c,hc,hcl⟩:=h.M0 h2;refine dd ?_;refine .inr ⟨⟨[0,1,6,11,12],[0,1,2],true⟩,au,λ_=>V,_,uH ?_,λt2 H2 h=>h⟩;refine⟨_,ai [0,1] (wo w {m with zg:=(xP m v).1} v c ⟨hv.v0,hv.at_⟩ g0 hc),uH ?_⟩;refine⟨_,ai [] (YV c m.op.d0 m.op.d1 h.d0 h.d1 hcl (SD c)),uH ?_⟩;refine zaU ?_
  refine⟨λh3=>?_,λh3=>?_⟩
  .have h4:(vt c m.op.d0 m.op.d1).2.2≠0:=by simpa using h3
   rw[Pd h2 hc h4];refine dd ?_;refine af [1] (kS {m with zg:=(xP m v).1} 3) ?_;exact⟨.inr V,_,_,.refl _,rfl,cE 2⟩
  .have h4:(vt c m.op.d0 m.op.d1).2.2=0:=by simpa using h3
   refine dd ?_;refine af [0,1] (wo w {m with zg:=(xP m v).1} v c ⟨hv.v0,hv.at_⟩ g0 hc) ?_;refine⟨λh5=>?_,λh5=>?_⟩
   .have h6:c.x9=1:=by simpa using h5
    rw[PR h2 hc h4 h6];refine dd ?_;exact⟨.inr V,_,_,.refl _,rfl,cE 2⟩
   .have h6:c.x9≠1:=by simpa using h5
    rw[PS h2 hc h4 h6];refine dd ?_;exact⟨.inr V,_,_,.refl _,rfl,cE 2⟩
def VW(w:Wor)(m:fD)(v:fI)(hv:AH w m v)(h:Jd m v){l:fT}(l0:0<=m.listen)(hl:w.zc[m.listen.toNat]?=some l):
  tj 198 [oW w,oM m] [.agg tf] (Ce (if l.drain then {fX m 1 4 1 with jd:=true} else fX m 1 4 0)) [oW w,oM (if l.drain then oX m 5 else j8 m v)]:=by
 have lr:(w.zc.map qO)[m.listen.toNat]?=some (qO l):=by rw[gy,hl];rfl
 obtain⟨ln,ld,la,lc⟩:=l;cases ld
 all_goals
  refine aa func198 ?_;refine uE ?_;(refine⟨l0,_,lr,dd ?_⟩)
 ·(refine yb (dd ?_))
  refine af [0,1] (Yb w m v hv h) ?_
  have et:(j8 m v).zf=m.zf:=by
   unfold j8;split
   .rfl
   .split
    .rfl
    .split
     .rfl
     .split <;> rfl
  have ee:fX m 1 4 0=fX (j8 m v) 1 4 0:=by unfold fX;rw[et]
  have eg:(if ({name:=ln,drain:=false,zj:=la,closed:=lc}:fT).drain then {fX m 1 4 1 with jd:=true} else fX m 1 4 0)=fX (j8 m v) 1 4 0:=ee;rw[eg];refine af [1] (jC (j8 m v) 1 4 0) ?_;exact cW
 ·(refine ya (dd ?_))
  refine af [1] (jC m 1 4 1) ?_;refine af [1] (kS m 5) ?_;exact cW
def V6(w:Wor)(m:fD)(v0:fI)(g0:Gr)(e0:En)(c:ij)(hv:oK w m v0 g0)(hc:v0.snap.zo[m.zg.toNat]?=some c):tj 241 (hE w m m v0 g0 e0 g0.zx e0.head e0.zj []) [.agg tf] (Cc c) (hE w m m v0 g0 e0 g0.zx e0.head e0.zj []):=by
 have h0:=hv.pv;have g0':=hv.pg;have lv:m.version.toNat<w.ze.length:=hv.lv;have cr:(v0.snap.zo.map vo)[m.zg.toNat]?=some (vo c):=by rw[gy,hc];rfl
 have lowV:∀r∈iO w m v0 3,∀c∈r,je 6 9 c=true:=zD (enc:=zM) (λ_=>V) V _ _;have lowG:∀r∈iK m v0 g0 g0.zx 4,∀c∈r,je 6 9 c=true:=zD (enc:=zK) (λ_=>V) V _ _;have lowE:∀r∈iD m g0 e0 e0.head 5 e0.zj,∀c∈r,je 6 9 c=true:=zD (enc:=zE) (λ_=>V) V _ _;have e1:0+m.version.toNat=m.version.toNat:=gU _;have gv:(iO w m v0 3)[m.version.toNat]?=some (iY 3 v0):=gD (aq lv);refine aa func241 ?_;refine uE ?_;refine⟨h0,lv,dd ?_⟩;rw[e1];refine⟨_,gv,(by show 2+1<=5;decide),dd ?_⟩;refine⟨g0',_,cr,dd ?_⟩;exact cY
def Ki(w:Wor)(m:fD)(v0:fI)(g0:Gr)(e0:En)(hv:oK w m v0 g0)(x p a b c:Int):tj 242 (hE w ({m with end_:=x,pc:=p}) m v0 g0 e0 g0.zx e0.head e0.zj []) [.agg tf,I a,I b,I c] (Ce (iP m v0 a b c)) (hE w ({m with end_:=x,pc:=p}) m v0 g0 e0 g0.zx e0.head e0.zj []):=by
 have h0:=hv.pv;have lv:m.version.toNat<w.ze.length:=hv.lv;have e1:0+m.version.toNat=m.version.toNat:=gU _
 clear hv
 obtain⟨sn,gs,fr⟩:=v0;cases fr
 all_goals
  have ownV:∀b,∀r∈(w.ze.map zM).set m.version.toNat (encS sn++[C.sl 3 [] 2 0 gs.length false,Bo b]),∀c∈r,zB c=true:=λb=>zD (enc:=zM) (λ_=>V) V _ _
  have ownG:∀r∈(gs.map zK).set m.zg.toNat (im 4 g0),∀c∈r,zB c=true:=zD (enc:=zK) (λ_=>V) V _ _;have ownE:∀r∈iD m g0 e0 e0.head 5 e0.zj,∀c∈r,zB c=true:=zD (enc:=zE) (λ_=>V) V _ _;have lowV:∀b,∀r∈(w.ze.map zM).set m.version.toNat (encS sn++[C.sl 3 [] 2 0 gs.length false,Bo b]),∀c∈r,je 6 9 c=true:=λb=>zD (enc:=zM) (λ_=>V) V _ _
  have gv:∀b,((w.ze.map zM).set m.version.toNat (encS sn++[C.sl 3 [] 2 0 gs.length false,Bo b]))[m.version.toNat]?=some (encS sn++[C.sl 3 [] 2 0 gs.length false,Bo b]):=λb=>gD (aq lv)
  have lowG:∀r∈(gs.map zK).set m.zg.toNat (im 4 g0),∀c∈r,je 6 9 c=true:=zD (enc:=zK) (λ_=>V) V _ _;have lowE:∀r∈iD m g0 e0 e0.head 5 e0.zj,∀c∈r,je 6 9 c=true:=zD (enc:=zE) (λ_=>V) V _ _;refine aa func242 ?_;refine zX [1] [⟨1,38,8,[(l7 w 2)],0⟩,oM ({m with end_:=x,pc:=p}),⟨1,0,5,(w.ze.map zM).set m.version.toNat (encS sn++[C.sl 3 [] 2 0 gs.length false,Bo _]),0⟩,⟨1,0,2,(gs.map zK).set m.zg.toNat (im 4 g0),0⟩,⟨1,0,3,iD m g0 e0 e0.head 5 e0.zj,0⟩,oN e0,⟨1,260,2,[tf],0⟩,oE qJ] (rx:=Ce (fX m a b c)) (jC {m with end_:=x,pc:=p} a b c) V V V V V (zd V (zd V (zd (zi (ownV _)) (zd (zi ownG) (zd (zi ownE) V))))) V V (dd ?_);refine .inl ⟨⟨false,[6,9,11,14,17],[0,1,2,6],[]⟩,au,uH ?_⟩;refine⟨h0,lv,dd ?_⟩;rw[e1];refine⟨_,gv _,(by show 4+1<=5;decide),dd ?_⟩
  first|((refine ya (dd ?_)))|((refine yb (dd ?_)))
  refine hU ?_
  exact⟨.inl V,_,_,.refl _,rfl,zp.xO 6 hC V V V (zI V (zI V (zI (qp (lowV _)) (zI (qp lowG) (zI (qp lowE) V))))) V⟩
abbrev Ii(m:fD)(c:ij)(t:Int):fD:={m with end_:=(oU c t).1,pc:=9}
abbrev MN(g:Gr):Gr:={g with zx:=IntKind.u64.wrap (g.zx+1)}
def W6(w:Wor)(m:fD)(v0:fI)(g0:Gr)(e0:En)(c:ij)(hv:oK w m v0 g0)(hc:v0.snap.zo[m.zg.toNat]?=some c)(ht:u64 g0.zx)(hl:c.zS.length<1000000000000):
  tj 199 (hE w m m v0 g0 e0 g0.zx e0.head e0.zj []) [.agg tf] (Ce (iP m v0 3 6 (IntKind.i64.wrap g0.zx))) (hE w (Ii m c g0.zx) m v0 g0 e0 (IntKind.u64.wrap (g0.zx+1)) e0.head e0.zj []):=by
 have lg:=hv.lg;have ownV:∀r∈iO w m v0 3,∀c∈r,zB c=true:=zD (enc:=zM) (λ_=>V) V _ _;have ownG:∀r∈iK m v0 g0 g0.zx 4,∀c∈r,zB c=true:=zD (enc:=zK) (λ_=>V) V _ _;have ownE:∀r∈iD m g0 e0 e0.head 5 e0.zj,∀c∈r,zB c=true:=zD (enc:=zE) (λ_=>V) V _ _;have gg:(iK m v0 g0 g0.zx 4)[m.zg.toNat]?=some (im 4 g0):=gD (aq lg);refine aa func199 ?_;refine zaM ?_;refine zaM ?_;refine⟨_,gg,rfl,dd ?_⟩;rw[pA];have ownG2:∀r∈iK m v0 g0 (IntKind.u64.wrap (g0.zx+1)) 4,∀c∈r,zB c=true:=zD (enc:=zK) (λ_=>V) V _ _;have lowV:∀r∈iO w m v0 3,∀c∈r,je 6 9 c=true:=zD (enc:=zM) (λ_=>V) V _ _;have lowG:∀r∈iK m v0 g0 (IntKind.u64.wrap (g0.zx+1)) 4,∀c∈r,je 6 9 c=true:=zD (enc:=zK) (λ_=>V) V _ _;have lowE:∀r∈iD m g0 e0 e0.head 5 e0.zj,∀c∈r,je 6 9 c=true:=zD (enc:=zE) (λ_=>V) V _ _;have hv2:oK w m v0 (MN g0):=⟨hv.pv,hv.lv,hv.pg,hv.lg,hv.pe,hv.le⟩;refine .inl ⟨⟨true,[],[],[3,5]⟩,au,uH ?_⟩;refine zX [0,1,2,3,4,5] (hE w m m v0 g0 e0 (IntKind.u64.wrap (g0.zx+1)) e0.head e0.zj [⟨1,260,2,[tf],0⟩,oE qJ]) (rx:=Cc c) (V6 w m v0 (MN g0) e0 c hv2 hc) (zd V (zd V (zd (zi ownV) (zd (zi ownG2) (zd (zi ownE) V))))) uU V V V (zd V (zd V (zd (zi ownV) (zd (zi ownG2) (zd (zi ownE) V))))) uV V (dd ?_);refine zX [] (hE w m m v0 g0 e0 (IntKind.u64.wrap (g0.zx+1)) e0.head e0.zj [⟨1,260,2,[tf],0⟩,oE qJ]) (rx:=.fJ [I (oU c g0.zx).1,I (oU c g0.zx).2]) (ZP c g0.zx ht hl (SD c)) V V V V V (zd V (zd V (zd (zi ownV) (zd (zi ownG2) (zd (zi ownE) V))))) V V (dd ?_);refine zX [0,1,2,3,4,5] (hE w (Ii m c g0.zx) m v0 g0 e0 (IntKind.u64.wrap (g0.zx+1)) e0.head e0.zj [⟨1,260,2,[tf],0⟩,oE qJ]) (rx:=Ce (iP m v0 3 6 (IntKind.i64.wrap g0.zx))) (Ki w m v0 (MN g0) e0 hv2 (oU c g0.zx).1 9 3 6 (IntKind.i64.wrap g0.zx)) (zd V (zd V (zd (zi ownV) (zd (zi ownG2) (zd (zi ownE) V))))) uU V V V (zd V (zd V (zd (zi ownV) (zd (zi ownG2) (zd (zi ownE) V))))) uV V (dd ?_);exact cY
def VT(w:Wor)(m:fD)(v0:fI)(g0:Gr)(e0:En)(hv:oK w m v0 g0)(hw:u64 m.word)(l0: -1<=m.link)(l1:m.link<=2147483646)(hh:u64 e0.head)(hne:e0.head≠m.word):
  tj 204 (hE w m m v0 g0 e0 g0.zx e0.head e0.zj []) [.agg tf] (Ce (iP m v0 5 8 (e0.head%4294967296-1))) (hE w ({m with pc:=9}) m v0 g0 e0 g0.zx e0.head e0.zj []):=by
 (have le:=hv.le);(have ownV:∀r∈iO w m v0 3,∀c∈r,zB c=true:=zD (enc:=zM) (λ_=>V) V _ _);(have ownG:∀r∈iK m v0 g0 g0.zx 4,∀c∈r,zB c=true:=zD (enc:=zK) (λ_=>V) V _ _);(have ownE:∀r∈iD m g0 e0 e0.head 5 e0.zj,∀c∈r,zB c=true:=zD (enc:=zE) (λ_=>V) V _ _);(have lowV:∀r∈iO w m v0 3,∀c∈r,je 6 9 c=true:=zD (enc:=zM) (λ_=>V) V _ _);(have lowG:∀r∈iK m v0 g0 g0.zx 4,∀c∈r,je 6 9 c=true:=zD (enc:=zK) (λ_=>V) V _ _)
 have lowE:∀r∈iD m g0 e0 e0.head 5 e0.zj,∀c∈r,je 6 9 c=true:=zD (enc:=zE) (λ_=>V) V _ _;have ge:(iD m g0 e0 e0.head 5 e0.zj)[m.end_.toNat]?=some (ia 5 e0):=gD (aq le);have hv2:oK w {m with pc:=9} v0 g0:=⟨hv.pv,hv.lv,hv.pg,hv.lg,hv.pe,hv.le⟩;refine zat ?_;refine⟨λ_=>dd ?_,λh=>absurd h (aq hne)⟩;refine .inl ⟨⟨true,[],[],[2,6,7]⟩,au,uH ?_⟩;refine zX [0,1,2,3,4,5] (hE w ({m with pc:=9}) m v0 g0 e0 g0.zx e0.head e0.zj [⟨1,260,2,[tf],0⟩,oE qJ]) (rx:=.ref 4 [] 3 m.end_.toNat 0) (kQ w _ v0 g0 e0 hv2) (zd V (zd V (zd (zi ownV) (zd (zi ownG) (zd (zi ownE) V))))) uU V V V (zd V (zd V (zd (zi ownV) (zd (zi ownG) (zd (zi ownE) V))))) uV V (dd ?_);refine⟨_,ge,cT,dd ?_⟩;refine zX [] (hE w ({m with pc:=9}) m v0 g0 e0 g0.zx e0.head e0.zj [⟨1,260,2,[tf],0⟩,oE qJ]) (rx:=I (e0.head%4294967296-1)) (Slp.qT e0.head hh) V V V V V (zd V (zd V (zd (zi ownV) (zd (zi ownG) (zd (zi ownE) V))))) V V (dd ?_);refine zX [0,1,2,3,4,5] (hE w ({m with pc:=9}) m v0 g0 e0 g0.zx e0.head e0.zj [⟨1,260,2,[tf],0⟩,oE qJ]) (rx:=Ce (iP m v0 5 8 (e0.head%4294967296-1))) (Ki w m v0 g0 e0 hv m.end_ 9 5 8 (e0.head%4294967296-1)) (zd V (zd V (zd (zi ownV) (zd (zi ownG) (zd (zi ownE) V))))) uU V V V (zd V (zd V (zd (zi ownV) (zd (zi ownG) (zd (zi ownE) V))))) uV V (dd ?_);exact cY
def VP(w:Wor)(m:fD)(v0:fI)(g0:Gr)(e0:En)(hv:oK w m v0 g0)(hw:u64 m.word)(l0: -1<=m.link)(l1:m.link<=2147483646)(hne:e0.head=m.word):
  tj 204 (hE w m m v0 g0 e0 g0.zx e0.head e0.zj []) [.agg tf] (Ce (iP m v0 4 8 m.slot)) (hE w ({m with pc:=12}) m v0 g0 e0 g0.zx (Slp.qY m.word m.link) e0.zj []):=by
 (have le:=hv.le);(have ownV:∀r∈iO w m v0 3,∀c∈r,zB c=true:=zD (enc:=zM) (λ_=>V) V _ _);(have ownG:∀r∈iK m v0 g0 g0.zx 4,∀c∈r,zB c=true:=zD (enc:=zK) (λ_=>V) V _ _);(have ownE:∀r∈iD m g0 e0 e0.head 5 e0.zj,∀c∈r,zB c=true:=zD (enc:=zE) (λ_=>V) V _ _);(have lowV:∀r∈iO w m v0 3,∀c∈r,je 6 9 c=true:=zD (enc:=zM) (λ_=>V) V _ _);(have lowG:∀r∈iK m v0 g0 g0.zx 4,∀c∈r,je 6 9 c=true:=zD (enc:=zK) (λ_=>V) V _ _)
 have lowE:∀r∈iD m g0 e0 (Slp.qY m.word m.link) 5 e0.zj,∀c∈r,je 6 9 c=true:=zD (enc:=zE) (λ_=>V) V _ _;have ownE2:∀r∈iD m g0 e0 (Slp.qY m.word m.link) 5 e0.zj,∀c∈r,zB c=true:=zD (enc:=zE) (λ_=>V) V _ _;have ge:(iD m g0 e0 e0.head 5 e0.zj)[m.end_.toNat]?=some (ia 5 e0):=gD (aq le);refine zat ?_;refine⟨λh=>absurd h (by simp[hne]),λ_=>dd ?_⟩;refine hZ ?_
 refine zaR ?_;refine⟨_,ge,rfl,dd ?_⟩;rw[pA];refine dd ?_;refine .inl ⟨⟨true,[],[],[5]⟩,au,uH ?_⟩;refine zX [0,1,2,3,4,5] (hE w ({m with pc:=12}) m v0 g0 e0 g0.zx (Slp.qY m.word m.link) e0.zj [⟨1,260,2,[tf],0⟩,oE qJ]) (rx:=Ce (iP m v0 4 8 m.slot)) (Ki w m v0 g0 {e0 with head:=Slp.qY m.word m.link} hv m.end_ 12 4 8 m.slot) (zd V (zd V (zd (zi ownV) (zd (zi ownG) (zd (zi ownE2) V))))) uU V V V (zd V (zd V (zd (zi ownV) (zd (zi ownG) (zd (zi ownE2) V))))) uV V (dd ?_);exact cY
end Go.Wor
namespace Go.Wor
open Go.Ab Go.Proofs Tryz Go.Hy
abbrev nf:C:=.v .nilFunc
abbrev pf(f:FuncId):C:=.fn f [] []
abbrev Vt:List C:=[nf,nf,nf,pf 196,pf 197,pf 198,pf 199,pf 200,pf 201,pf 202,pf 203,pf 204,pf 205,nf,nf,nf,nf,nf,nf,nf,pf 206,pf 207,pf 208,pf 209]
def jE:tj 161 [] [] (.agg Vt) []:=by
 refine ab func161 ?_;exact uI
end Go.Wor
namespace Go.Wor
open Go.Ab Go.Proofs Tryz Go.Hy Go.Gat Go.Nam Go.Hos Go.Con Go.Sna
variable{w w':Wor}{m m':fD}{e:fG}{ls:List fT}{v0:fI}{g0:Gr}
def zvx(sw:jg w)(ok:iw w)(hl:i64 m.listen)(hpc:m.pc=3)(hs:z8 w m=true)(h:tj 196 [oW w,oM m] [.agg tf] (Ce e) [oW w',oM m']):tj 133 [] [Cw w,Cm m] (.fJ [Cw w',Cm m',Ce e]) []:=by
 by_cases hn:m.listen<0
 all_goals
  refine zaS ?_
  refine zaO ?_
  refine zac ?_
  refine zak ?_
  (refine⟨aw,aw,pf 196,cU,dd ?_⟩)
  refine hZ ?_
  refine zau ?_
  exact uI
def zvz(sw:jg w)(ok:iw w)(hl:i64 m.listen)(hpc:m.pc=5)(hs:z8 w m=true)(hli:0<=m.listen)(h:tj 198 [oW w,oM m] [.agg tf] (Ce e) [oW w',oM m']):tj 133 [] [Cw w,Cm m] (.fJ [Cw w',Cm m',Ce e]) []:=by
 have hn:¬m.listen<0:=aw
 all_goals
  refine zaS ?_
  refine zaO ?_
  refine zac ?_
  refine zak ?_
  (refine⟨aw,aw,pf 198,cU,dd ?_⟩)
  refine hZ ?_
  refine zau ?_
  exact uI
def zvB(sw:jg w)(ok:iw w)(hl:i64 m.listen)(hpc:m.pc=7)(hs:z8 w m=true)(h:tj 200 [oW w,oM m] [.agg tf] (Ce e) [oW w',oM m']):tj 133 [] [Cw w,Cm m] (.fJ [Cw w',Cm m',Ce e]) []:=by
 by_cases hn:m.listen<0
 all_goals
  refine zaS ?_
  refine zaO ?_
  refine zac ?_
  refine zak ?_
  (refine⟨aw,aw,pf 200,cU,dd ?_⟩)
  refine hZ ?_
  refine zau ?_
  exact uI
def zvC(sw:jg w)(ok:iw w)(hl:i64 m.listen)(hpc:m.pc=8)(hs:z8 w m=true)(h:tj 201 [oW w,oM m] [.agg tf] (Ce e) [oW w',oM m']):tj 133 [] [Cw w,Cm m] (.fJ [Cw w',Cm m',Ce e]) []:=by
 by_cases hn:m.listen<0
 all_goals
  refine zaS ?_
  refine zaO ?_
  refine zac ?_
  refine zak ?_
  (refine⟨aw,aw,pf 201,cU,dd ?_⟩)
  refine hZ ?_
  refine zau ?_
  exact uI
def Q0(sw:jg w)(ok:iw w)(hl:i64 m.listen)(hpc:m.pc=9)(hs:z8 w m=true)(h:tj 202 [oW w,oM m] [.agg tf] (Ce e) [oW w',oM m']):tj 133 [] [Cw w,Cm m] (.fJ [Cw w',Cm m',Ce e]) []:=by
 by_cases hn:m.listen<0
 all_goals
  refine zaS ?_
  refine zaO ?_
  refine zac ?_
  refine zak ?_
  (refine⟨aw,aw,pf 202,cU,dd ?_⟩)
  refine hZ ?_
  refine zau ?_
  exact uI
def Z3(sw:jg w)(ok:iw w)(hl:i64 m.listen)(hpc:m.pc=10)(hs:z8 w m=true)(h:tj 203 [oW w,oM m] [.agg tf] (Ce e) [oW w',oM m']):tj 133 [] [Cw w,Cm m] (.fJ [Cw w',Cm m',Ce e]) []:=by
 by_cases hn:m.listen<0
 all_goals
  refine zaS ?_
  refine zaO ?_
  refine zac ?_
  refine zak ?_
  (refine⟨aw,aw,pf 203,cU,dd ?_⟩)
  refine hZ ?_
  refine zau ?_
  exact uI
def zta(sw:jg w)(ok:iw w)(hl:i64 m.listen)(hpc:m.pc=23)(hs:z8 w m=true)(h:tj 209 [oW w,oM m] [.agg tf] (Ce e) [oW w',oM m']):tj 133 [] [Cw w,Cm m] (.fJ [Cw w',Cm m',Ce e]) []:=by
 by_cases hn:m.listen<0
 all_goals
  refine zaS ?_
  refine zaO ?_
  refine zac ?_
  refine zak ?_
  (refine⟨aw,aw,pf 209,cU,dd ?_⟩)
  refine hZ ?_
  refine zau ?_
  exact uI
def Ke(h0:0<=m.pc)(h3:m.pc<3)(h:tj 159 [] [Cw w,Cm m] (.fJ [Cw w',Cm m',Ce e]) []):tj 133 [] [Cw w,Cm m] (.fJ [Cw w',Cm m',Ce e]) []:=by
 refine ab func133 ?_;refine⟨λ_=>dd ?_,λh=>absurd h aA⟩;refine⟨λ_=>dd ?_,λh=>absurd h aA⟩;refine ah h ?_;exact uI
def zvy(sw:jg w)(ok:iw w)(hl:i64 m.listen)(hpc:m.pc=4)(hs:z8 w m=true)(hli:0<=m.listen)(hll:ls.length=w.zc.length)(h:tj 197 [⟨1,38,8,[nG 2 w],0⟩,oM m,⟨2,144,4,(w.zc).map qO,0⟩] [.agg tf] (Ce e) [⟨1,38,8,[nG 2 w],0⟩,oM m',⟨2,144,4,(ls).map qO,0⟩]):tj 133 [] [Cw w,Cm m] (.fJ [Cw {w with zc:=ls},Cm m',Ce e]) []:=by
 have hn:¬m.listen<0:=aw
 obtain⟨x,l,hx⟩:∃x l,w.zc=x::l:=by
  obtain⟨v,g,e,su⟩:=xN hs;cases h:w.zc with
  |nil=>have:=su.listen;rw[h]at this;exact dc
  |cons x l=>exact⟨x,l,rfl⟩
 refine zaS ?_
 refine zaO ?_
 refine zac ?_
 refine zak ?_
 (refine⟨aw,aw,pf 197,cU,dd ?_⟩)
 refine hZ ?_
 refine af [] (kj w sw x l hx) ?_;refine af [6,7,5] (h) ?_;refine .inl ⟨⟨false,[0,1,2],[6,7,8],[]⟩,au,uH ?_⟩;refine hU ?_
 exact dJ
def Z7(sw:jg w)(ok:iw w)(hl:i64 m.listen)(hpc:m.pc=22)(hs:z8 w m=true)(hli:0<=m.listen)(hll:ls.length=w.zc.length)(h:tj 208 [⟨1,38,8,[nG 2 w],0⟩,oM m,⟨2,144,4,(w.zc).map qO,0⟩] [.agg tf] (Ce e) [⟨1,38,8,[nG 2 w],0⟩,oM m',⟨2,144,4,(ls).map qO,0⟩]):tj 133 [] [Cw w,Cm m] (.fJ [Cw {w with zc:=ls},Cm m',Ce e]) []:=by
 have hn:¬m.listen<0:=aw
 obtain⟨x,l,hx⟩:∃x l,w.zc=x::l:=by
  obtain⟨v,g,e,su⟩:=xN hs;cases h:w.zc with
  |nil=>have:=su.listen;rw[h]at this;exact dc
  |cons x l=>exact⟨x,l,rfl⟩
 refine zaS ?_
 refine zaO ?_
 refine zac ?_
 refine zak ?_
 (refine⟨aw,aw,pf 208,cU,dd ?_⟩)
 refine hZ ?_
 refine af [] (kj w sw x l hx) ?_;refine af [6,7,5] (h) ?_;refine .inl ⟨⟨false,[0,1,2],[6,7,8],[]⟩,au,uH ?_⟩;refine hU ?_
 exact dJ
def Z5{r0 r1:List Int}(sw:jg w)(ok:iw w)(hl:i64 m.listen)(hpc:m.pc=20)(hs:z8 w m=true)(t0:0<=m.zf)(hr:w.counts[m.zf.toNat]?=some r0)(hne:r0≠[])(hll:r1.length=r0.length)
 (h:tj 206 [⟨1,38,8,[mH 2 w],0⟩,oM m,⟨1,0,1,(w.counts.map zQ).set m.zf.toNat [C.sl (3) [] 1 0 r0.length false],0⟩,⟨2,63,1,(r0).map j4,0⟩] [.agg tf] (Ce e) [⟨1,38,8,[mH 2 w],0⟩,oM m',⟨1,0,1,(w.counts.map zQ).set m.zf.toNat [C.sl (3) [] 1 0 r0.length false],0⟩,⟨2,63,1,(r1).map j4,0⟩]):tj 133 [] [Cw w,Cm m] (.fJ [Cw {w with counts:=w.counts.set m.zf.toNat r1},Cm m',Ce e]) []:=by
 have ml:((w.counts.map zQ)).length=w.counts.length:=gC ..;have ml1:(r1.map j4).length=r1.length:=gC ..;have fE:m.zf.toNat<w.counts.length:=(gh.1 hr).1;have own:∀i,∀r∈(w.counts.map zQ).set m.zf.toNat ([C.sl i [] 1 0 r0.length false]),∀c∈r,zB c=true:=λi=>zD (enc:=zQ) (λ_=>V) V _ _
 have gt:((w.counts.map zQ).set m.zf.toNat ([C.sl 6 [] 1 0 r0.length false]))[m.zf.toNat]?=some ([C.sl 6 [] 1 0 r0.length false]):=gD tR;have est:(((w.counts.map zQ).set m.zf.toNat ([C.sl 6 [] 1 0 r0.length false])).set m.zf.toNat [.fF 0 1 (r1.map j4)])=(w.counts.set m.zf.toNat r1).map zQ:=by rw[pA,rp];rfl
 have esh:∀r∈(((w.counts.map zQ).set m.zf.toNat ([C.sl 6 [] 1 0 r0.length false])).set m.zf.toNat [.fF 0 1 (r1.map j4)]),∀c∈r,xm c=true/\zB c=true:=by
  rw[est];exact shut_map (enc:=zQ) (λ_=>V) _
 have hp:IK w.counts m.zf.toNat r0:=⟨sw.counts,hr,hne⟩;by_cases hn:m.listen<0
 all_goals
  refine zaS ?_
  refine zaO ?_
  refine zac ?_
  refine zak ?_
  (refine⟨aw,aw,pf 206,cU,dd ?_⟩)
  refine hZ ?_
  refine zas ?_
  refine zaL ?_
  rfl
def Z6{r0 r1:List Int}(sw:jg w)(ok:iw w)(hl:i64 m.listen)(hpc:m.pc=21)(hs:z8 w m=true)(t0:0<=m.zf)(hr:w.counts[m.zf.toNat]?=some r0)(hne:r0≠[])(hll:r1.length=r0.length)
 (h:tj 207 [⟨1,38,8,[mH 2 w],0⟩,oM m,⟨1,0,1,(w.counts.map zQ).set m.zf.toNat [C.sl (3) [] 1 0 r0.length false],0⟩,⟨2,63,1,(r0).map j4,0⟩] [.agg tf] (Ce e) [⟨1,38,8,[mH 2 w],0⟩,oM m',⟨1,0,1,(w.counts.map zQ).set m.zf.toNat [C.sl (3) [] 1 0 r0.length false],0⟩,⟨2,63,1,(r1).map j4,0⟩]):tj 133 [] [Cw w,Cm m] (.fJ [Cw {w with counts:=w.counts.set m.zf.toNat r1},Cm m',Ce e]) []:=by
 have ml:((w.counts.map zQ)).length=w.counts.length:=gC ..;have ml1:(r1.map j4).length=r1.length:=gC ..;have fE:m.zf.toNat<w.counts.length:=(gh.1 hr).1;have own:∀i,∀r∈(w.counts.map zQ).set m.zf.toNat ([C.sl i [] 1 0 r0.length false]),∀c∈r,zB c=true:=λi=>zD (enc:=zQ) (λ_=>V) V _ _
 have gt:((w.counts.map zQ).set m.zf.toNat ([C.sl 6 [] 1 0 r0.length false]))[m.zf.toNat]?=some ([C.sl 6 [] 1 0 r0.length false]):=gD tR;have est:(((w.counts.map zQ).set m.zf.toNat ([C.sl 6 [] 1 0 r0.length false])).set m.zf.toNat [.fF 0 1 (r1.map j4)])=(w.counts.set m.zf.toNat r1).map zQ:=by rw[pA,rp];rfl
 have esh:∀r∈(((w.counts.map zQ).set m.zf.toNat ([C.sl 6 [] 1 0 r0.length false])).set m.zf.toNat [.fF 0 1 (r1.map j4)]),∀c∈r,xm c=true/\zB c=true:=by
  rw[est];exact shut_map (enc:=zQ) (λ_=>V) _
 have hp:IK w.counts m.zf.toNat r0:=⟨sw.counts,hr,hne⟩;by_cases hn:m.listen<0
 all_goals
  refine zaS ?_
  refine zaO ?_
  refine zac ?_
  refine zak ?_
  (refine⟨aw,aw,pf 207,cU,dd ?_⟩)
  refine hZ ?_
  refine zas ?_
  refine zaL ?_
  rfl
def Ee{α β:Type}(f:α->β)(l:List α)(i:Nat)(a:α)(r:β)(h:f a=r):(l.map f).set i r=(l.set i a).map f:=by rw[rp,h]
abbrev qK(e0:En)(hd ac:Int):En:={e0 with head:=hd,zj:=ac}
abbrev BF(m:fD)(g0:Gr)(e0:En)(tk hd ac:Int):Gr:={g0 with zx:=tk,ends:=g0.ends.set m.end_.toNat (qK e0 hd ac)}
abbrev vN(m:fD)(v0:fI)(g0:Gr)(e0:En)(tk hd ac:Int):fI:={v0 with zq:=v0.zq.set m.zg.toNat (BF m g0 e0 tk hd ac)}
abbrev va(w:Wor)(m:fD)(v0:fI)(g0:Gr)(e0:En)(tk hd ac:Int):Wor:={w with ze:=w.ze.set m.version.toNat (vN m v0 g0 e0 tk hd ac)}
def EC{e0:En}(tk hd ac:Int)(sw:jg w)(hat:iB w m v0 g0 e0)(hne:e0.next≠[]):
  Ms w.ze m.version.toNat v0 m.zg.toNat g0 m.end_.toNat e0/\(∀i,∀r∈iO w m v0 (i),∀c∈r,zB c=true)/\(∀i t,∀r∈iK m v0 g0 (t) (i),∀c∈r,zB c=true)/\
  (∀i a b,∀r∈iD m g0 e0 (a) (i) (b),∀c∈r,zB c=true)/\(iO w m v0 (6))[m.version.toNat]?=some (iY (6) v0)/\(∀t,(iK m v0 g0 (t) (7))[m.zg.toNat]?=some ([U (t),C.sl (7) [] 3 0 g0.ends.length false]))/\
  (∀a b,(iD m g0 e0 (a) (8) (b))[m.end_.toNat]?=some ([U (a),C.sl (8) [] 1 0 e0.next.length false,I (b)]))/\((iD m g0 e0 (hd) (8) (ac)).set m.end_.toNat [U hd,C.fF 0 1 (e0.next.map encI),I ac])=(g0.ends.set m.end_.toNat (qK e0 hd ac)).map zE/\((iK m v0 g0 (tk) (7)).set m.zg.toNat [U tk,C.fF 0 3 (((g0.ends.set m.end_.toNat (qK e0 hd ac)).map zE))])=(v0.zq.set m.zg.toNat (BF m g0 e0 tk hd ac)).map zK/\
  ((iO w m v0 (6)).set m.version.toNat (encS v0.snap++[C.fF 0 2 (((v0.zq.set m.zg.toNat (BF m g0 e0 tk hd ac)).map zK)),Bo v0.qX]))=(w.ze.set m.version.toNat (vN m v0 g0 e0 tk hd ac)).map zM/\(∀r∈((iD m g0 e0 (hd) (8) (ac)).set m.end_.toNat [U hd,C.fF 0 1 (e0.next.map encI),I ac]),∀c∈r,xm c=true/\zB c=true)/\(∀r∈((iK m v0 g0 (tk) (7)).set m.zg.toNat [U tk,C.fF 0 3 ((iD m g0 e0 (hd) (8) (ac)).set m.end_.toNat [U hd,C.fF 0 1 (e0.next.map encI),I ac])]),∀c∈r,xm c=true/\zB c=true)/\(∀r∈((iO w m v0 (6)).set m.version.toNat (encS v0.snap++[C.fF 0 2 ((iK m v0 g0 (tk) (7)).set m.zg.toNat [U tk,C.fF 0 3 ((iD m g0 e0 (hd) (8) (ac)).set m.end_.toNat [U hd,C.fF 0 1 (e0.next.map encI),I ac])]),Bo v0.qX])),∀c∈r,xm c=true/\zB c=true):=by
 have lv:=hat.ln.lv;have lg:=hat.ln.lg;have le:=hat.ln.le;have Fl:=sw.ze.2 v0 (gu hat.at_);have estE:((iD m g0 e0 (hd) (8) (ac)).set m.end_.toNat [U hd,C.fF 0 1 (e0.next.map encI),I ac])=(g0.ends.set m.end_.toNat (qK e0 hd ac)).map zE:=by rw[pA];exact Ee zE _ _ (qK e0 hd ac) _ V
 have estG:((iK m v0 g0 (tk) (7)).set m.zg.toNat [U tk,C.fF 0 3 (((g0.ends.set m.end_.toNat (qK e0 hd ac)).map zE))])=(v0.zq.set m.zg.toNat (BF m g0 e0 tk hd ac)).map zK:=by rw[pA];exact Ee zK _ _ (BF m g0 e0 tk hd ac) _ V
 have estV:((iO w m v0 (6)).set m.version.toNat (encS v0.snap++[C.fF 0 2 (((v0.zq.set m.zg.toNat (BF m g0 e0 tk hd ac)).map zK)),Bo v0.qX]))=(w.ze.set m.version.toNat (vN m v0 g0 e0 tk hd ac)).map zM:=by rw[pA];exact Ee zM _ _ (vN m v0 g0 e0 tk hd ac) _ V
 refine⟨⟨⟨⟨Fl.2 g0 (gu hat.fY),hat.ib,hne⟩,Fl,hat.fY⟩,sw.ze,hat.at_⟩,λi=>zD (enc:=zM) (λ_=>V) V _ _,λi t=>zD (enc:=zK) (λ_=>V) V _ _,λi a b=>zD (enc:=zE) (λ_=>V) V _ _,gD (aq lv),λt=>gD (aq lg),λa b=>gD (aq le),estE,estG,estV,?_,?_,?_⟩
 .rw[estE];exact shut_map (enc:=zE) (λ_=>V) _
 .rw[estE,estG];exact shut_map (enc:=zK) (λ_=>V) _
 .rw[estE,estG,estV];exact shut_map (enc:=zM) (λ_=>V) _
def zvA{e0:En}{tk hd ac:Int}(sw:jg w)(ok:iw w)(hl:i64 m.listen)(hpc:m.pc=6)(hs:z8 w m=true)(hat:iB w m v0 g0 e0)(hne:e0.next≠[])
 (h:tj 199 [⟨1,38,8,[(l7 w 2)],0⟩,oM m,⟨1,0,5,iO w m v0 (3),0⟩,⟨1,0,2,iK m v0 g0 (g0.zx) (4),0⟩,⟨1,0,3,iD m g0 e0 (e0.head) (5) (e0.zj),0⟩,oN e0] [.agg tf] (Ce e) [⟨1,38,8,[(l7 w 2)],0⟩,oM m',⟨1,0,5,iO w m v0 (3),0⟩,⟨1,0,2,iK m v0 g0 (tk) (4),0⟩,⟨1,0,3,iD m g0 e0 (hd) (5) (ac),0⟩,oN e0]):tj 133 [] [Cw w,Cm m] (.fJ [Cw (va w m v0 g0 e0 tk hd ac),Cm m',Ce e]) []:=by
 obtain⟨hp,ownV,ownG,ownE,gv,gg,ge,estE,estG,estV,eshE,eshG,eshV⟩:=EC tk hd ac sw hat hne;by_cases hn:m.listen<0
 all_goals
  refine zaS ?_
  refine zaO ?_
  refine zac ?_
  refine zak ?_
  (refine⟨aw,aw,pf 199,cU,dd ?_⟩)
  refine hZ ?_
  refine zae ?_
  refine zaD ?_
  rfl
def Qg{e0:En}{tk hd ac:Int}(sw:jg w)(ok:iw w)(hl:i64 m.listen)(hpc:m.pc=11)(hs:z8 w m=true)(hat:iB w m v0 g0 e0)(hne:e0.next≠[])
 (h:tj 204 [⟨1,38,8,[(l7 w 2)],0⟩,oM m,⟨1,0,5,iO w m v0 (3),0⟩,⟨1,0,2,iK m v0 g0 (g0.zx) (4),0⟩,⟨1,0,3,iD m g0 e0 (e0.head) (5) (e0.zj),0⟩,oN e0] [.agg tf] (Ce e) [⟨1,38,8,[(l7 w 2)],0⟩,oM m',⟨1,0,5,iO w m v0 (3),0⟩,⟨1,0,2,iK m v0 g0 (tk) (4),0⟩,⟨1,0,3,iD m g0 e0 (hd) (5) (ac),0⟩,oN e0]):tj 133 [] [Cw w,Cm m] (.fJ [Cw (va w m v0 g0 e0 tk hd ac),Cm m',Ce e]) []:=by
 obtain⟨hp,ownV,ownG,ownE,gv,gg,ge,estE,estG,estV,eshE,eshG,eshV⟩:=EC tk hd ac sw hat hne;by_cases hn:m.listen<0
 all_goals
  refine zaS ?_
  refine zaO ?_
  refine zac ?_
  refine zak ?_
  (refine⟨aw,aw,pf 204,cU,dd ?_⟩)
  refine hZ ?_
  refine zae ?_
  refine zaD ?_
  rfl
def Z4{e0:En}{tk hd ac:Int}(sw:jg w)(ok:iw w)(hl:i64 m.listen)(hpc:m.pc=12)(hs:z8 w m=true)(hat:iB w m v0 g0 e0)(hne:e0.next≠[])
 (h:tj 205 [⟨1,38,8,[(l7 w 2)],0⟩,oM m,⟨1,0,5,iO w m v0 (3),0⟩,⟨1,0,2,iK m v0 g0 (g0.zx) (4),0⟩,⟨1,0,3,iD m g0 e0 (e0.head) (5) (e0.zj),0⟩,oN e0] [.agg tf] (Ce e) [⟨1,38,8,[(l7 w 2)],0⟩,oM m',⟨1,0,5,iO w m v0 (3),0⟩,⟨1,0,2,iK m v0 g0 (tk) (4),0⟩,⟨1,0,3,iD m g0 e0 (hd) (5) (ac),0⟩,oN e0]):tj 133 [] [Cw w,Cm m] (.fJ [Cw (va w m v0 g0 e0 tk hd ac),Cm m',Ce e]) []:=by
 obtain⟨hp,ownV,ownG,ownE,gv,gg,ge,estE,estG,estV,eshE,eshG,eshV⟩:=EC tk hd ac sw hat hne;by_cases hn:m.listen<0
 all_goals
  refine zaS ?_
  refine zaO ?_
  refine zac ?_
  refine zak ?_
  (refine⟨aw,aw,pf 205,cU,dd ?_⟩)
  refine hZ ?_
  refine zae ?_
  refine zaD ?_
  rfl
end Go.Wor
