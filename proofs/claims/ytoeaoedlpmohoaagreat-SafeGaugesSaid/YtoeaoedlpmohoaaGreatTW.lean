import Derived.Test.YtoeaoedlpmohoaaGreatTV
set_option linter.all false
set_option maxRecDepth 100000
set_option maxHeartbeats 4000000
namespace Go.Wor
open Go.Ab Go.Proofs Tryz Go.Hy Go.Gat Go.Nam Go.Hos Go.Con Go.Sna
abbrev fK(m:fi)(a b c:Int):fk:=⟨m.zf,0,a,b, -1,false,c,false,false,false,nh⟩
abbrev iz(m:fi)(v:fp)(a b c:Int):fk:=⟨m.zf,0,a,b,m.version,v.zW,c,false,false,false,nh⟩
def jz(m:fi)(a b c:Int):tj 230 [oM m] [.agg [.za,.ref 0 [] 44 0 0],I a,I b,I c] (Ce (fK m a b c)) [oM m]:=by
 refine aa func230 ?_;exact dL
abbrev mj(n:Int):fA:=⟨n,0,0,0,0,0,0,⟨0,0,0,0,0,0⟩⟩
abbrev nO(m:fi)(n:Int):fi:={m with answer:=mj n,pc:=20}
def km(m:fi)(n:Int):tj 231 [oM m] [.agg [.za,.ref 0 [] 44 0 0],I n] (.fq []) [oM (nO m n)]:=by
 refine aa func231 ?_;refine .inl ⟨⟨false,[3],[1],[]⟩,au,uH ?_⟩;refine hU ?_
 exact⟨.inr J,_,_,.refl _,rfl,cE 1⟩
structure oT(w:Wor)(m:fi)(v:fp):Prop where
 v0:0<=m.version
 at_:w.zd[m.version.toNat]?=some v
def oT.row{w:Wor}{m:fi}{v:fp}(h:oT w m v):(w.zd.map zH)[m.version.toNat]?=some (zH v):=by rw[gf,h.at_];rfl
def wR(w:Wor)(m:fi)(v:fp)(hv:oT w m v)(a b c:Int):tj 236 [oW w,oM m] [.agg tf,I a,I b,I c] (Ce (iz m v a b c)) [oW w,oM m]:=by
 have h0:=hv.v0;have hr:=hv.row;obtain⟨sn,gs,fr⟩:=v;cases fr
 all_goals
  refine aa func236 ?_;refine af [1] (jz m a b c) ?_;refine .inl ⟨⟨false,[6,9,11,14,17],[0,1,2],[]⟩,au,uH ?_⟩;(refine⟨h0,_,hr,dd ?_⟩)
  first|((refine ya (dd ?_)))|((refine yb (dd ?_)))
  refine hU ?_
  exact cN
def F1{P:Program}{f:FuncId}(sel:List Nat){K H0 H':zm}{args args0:List C}{r:C}(h:zb P f H0 args0 r H')(hR:qt H'=true)
 (hH:xC sel K=H0)(ha:args.map (xO sel 9)=args0)(z8:sel.all (λid=>Nat.blt id K.length)=true)(iw:yl sel=true)(fW:qt K=true){k:C->zm->Prop}
 (hk:BM (wC sel K H') λX=>qR (vn (jf sel K.length) 9 r) λc=>k c X):∃R',qI P f K args R'/\∀r H2,R' r H2->k r H2:=
 L4 sel (h.iO (R:=λx X=>x=r/\X=H') ⟨rfl,rfl⟩) (λ_ _ e=>e.2 ▸ hR) hH ha z8 iw fW (by rintro _ _ ⟨rfl,rfl⟩;exact hk)
structure DA(w:Wor)(m:fi)(v:fp)(g:Gr):Prop extends oT w m v where
 g0:0<=m.zg
 fG:v.zo[m.zg.toNat]?=some g
def DA.zzu{w:Wor}{m:fi}{v:fp}{g:Gr}(h:DA w m v g):(v.zo.map zE)[m.zg.toNat]?=some (zE g):=by rw[gf,h.fG];rfl
structure ic(w:Wor)(m:fi)(v:fp)(g:Gr)(e:En):Prop extends DA w m v g where
 e0:0<=m.end_
 fP:g.ends[m.end_.toNat]?=some e
def ic.zzt{w:Wor}{m:fi}{v:fp}{g:Gr}{e:En}(h:ic w m v g e):(g.ends.map zA)[m.end_.toNat]?=some (zA e):=by rw[gf,h.fP];rfl
def LS(w:Wor)(m:fi)(v:fp)(g:Gr)(hv:DA w m v g):tj 233 [oW w,oM m] [.agg tf] (.jt (zE g)) [oW w,oM m]:=by
 have h0:=hv.v0;have hr:=hv.row;have g0:=hv.g0;have gr:=hv.zzu;refine aa func233 ?_;refine uE ?_;(refine⟨h0,_,hr,dd ?_⟩)
 (refine⟨g0,_,gr,dd ?_⟩)
 exact cN
def wH(w:Wor)(m:fi)(v:fp)(g:Gr)(e:En)(hv:ic w m v g e):tj 237 [oW w,oM m] [.agg tf] (.jt (zA e)) [oW w,oM m]:=by
 have e0:=hv.e0;have er:=hv.zzt;refine aa func237 ?_;refine .inl ⟨⟨true,[],[],[1]⟩,au,uH ?_⟩;refine af [0,1] (LS w m v g hv.toDA) ?_;refine hU ?_
 (refine⟨e0,_,er,dd ?_⟩)
 exact cN
def kG(w:Wor)(m:fi)(v:fp)(c:fV)(hv:oT w m v)(c0:0<=m.zg)(hc:v.snap.zn[m.zg.toNat]?=some c):tj 235 [oW w,oM m] [.agg tf] (Cc c) [oW w,oM m]:=by
 have h0:=hv.v0;have hr:=hv.row;have cr:(v.snap.zn.map yY)[m.zg.toNat]?=some (yY c):=by rw[gf,hc];rfl
 refine aa func235 ?_;refine uE ?_;(refine⟨h0,_,hr,dd ?_⟩)
 (refine⟨c0,_,cr,dd ?_⟩)
 exact cN
def Ru(w:Wor)(m:fi)(v:fp)(g:Gr)(e:En)(hv:ic w m v g e){x:Int}(s0:0<=m.slot)(hx:e.next[m.slot.toNat]?=some x):
  tj 191 [oW w,oM m] [.agg tf] (Ce (iz m v 1 9 x)) [oW w,oM ({m with link:=x,pc:=11})]:=by
 have er:(e.next.map encI)[m.slot.toNat]?=some (encI x):=by rw[gf,hx];rfl
 refine aa func191 ?_;refine .inl ⟨⟨true,[3],[2],[5]⟩,au,uH ?_⟩;refine af [0,1] (wH w m v g e hv) ?_;refine hU ?_
 (refine⟨s0,_,er,dd ?_⟩)
 refine hU ?_
 refine .inl ⟨⟨true,[],[],[]⟩,au,uH ?_⟩;refine af [0,1] (wR w {m with link:=x,pc:=11} v ⟨hv.v0,hv.at_⟩ 1 9 x) ?_;exact cN
def QL(w:Wor)(m:fi)(v:fp)(g:Gr)(e:En)(hv:ic w m v g e):
  tj 188 [oW w,oM m] [.agg tf] (Ce (iz m v 1 7 e.zi)) [oW w,oM ({m with i:=e.zi,pc:=8})]:=by
 refine aa func188 ?_;refine .inl ⟨⟨true,[3],[2],[5]⟩,au,uH ?_⟩;refine af [0,1] (wH w m v g e hv) ?_;refine hU ?_
 refine hU ?_
 refine .inl ⟨⟨true,[],[],[]⟩,au,uH ?_⟩;refine af [0,1] (wR w {m with i:=e.zi,pc:=8} v ⟨hv.v0,hv.at_⟩ 1 7 e.zi) ?_;exact cN
def Rt(w:Wor)(m:fi)(v:fp)(g:Gr)(e:En)(hv:ic w m v g e)(he:u64 e.head)(hi:0<=e.head%4294967296-1/\e.head%4294967296-1<e.next.length):
  tj 190 [oW w,oM m] [.agg tf] (Ce (iz m v 1 8 (e.head%4294967296-1))) [oW w,oM ({m with word:=e.head,slot:=e.head%4294967296-1,pc:=10})]:=by
 have hi1:=hi.1;have hi2:=hi.2;have ml:(e.next.map encI).length=e.next.length:=gu ..;refine aa func190 ?_;refine F1 [0,1] (wH w m v g e hv) J J J J J J (dd ?_);refine ah (Slp.qN e.head he) ?_;refine⟨λh=>absurd h aA,λ_=>dd ?_⟩;refine F1 [0,1] (wH w {m with word:=e.head} v g e ⟨⟨⟨hv.v0,hv.at_⟩,hv.g0,hv.fG⟩,hv.e0,hv.fP⟩) J J J J J J (dd ?_);rw[ml];refine⟨λh=>absurd h aA,λ_=>dd ?_⟩;refine af [0,1] (wR w {m with word:=e.head,slot:=e.head%4294967296-1,pc:=10} v ⟨hv.v0,hv.at_⟩ 1 8 (e.head%4294967296-1)) ?_;exact cN
def SR(w:Wor)(m:fi)(x:fI)(h0:0<=m.listen)(hx:w.ze[m.listen.toNat]?=some x):
  tj 185 [⟨1,38,8,[[I w.zl,I w.current,I w.lock,lI w.pins,lV w.zd,.sl 2 [] 4 0 w.ze.length false,fU w.counts,lR w.zp]],0⟩,oM m,⟨2,76,4,(w.ze).map qP,0⟩] [.agg tf] (Ce (fK m 3 5 (IntKind.i64.wrap (x.zi+1))))
   [⟨1,38,8,[[I w.zl,I w.current,I w.lock,lI w.pins,lV w.zd,.sl 2 [] 4 0 w.ze.length false,fU w.counts,lR w.zp]],0⟩,oM ({m with pc:=5}),⟨2,76,4,(w.ze.set m.listen.toNat {x with zi:=IntKind.i64.wrap (x.zi+1)}).map qP,0⟩]:=by
 have e1:0+m.listen.toNat=m.listen.toNat:=gP _;have fj:m.listen.toNat<w.ze.length:=(dW.1 hx).1;have gx:(w.ze.map qP)[m.listen.toNat]?=some (qP x):=by rw[gf,hx];rfl
 refine aa func185 ?_;have hst:(w.ze.map qP).set m.listen.toNat [Tx x.name,Bo x.drain,I (IntKind.i64.wrap (x.zi+1)),Bo x.closed]=(w.ze.set m.listen.toNat {x with zi:=IntKind.i64.wrap (x.zi+1)}).map qP:=bR
 have gx2:((w.ze.set m.listen.toNat {x with zi:=IntKind.i64.wrap (x.zi+1)}).map qP)[m.listen.toNat]?=some (qP {x with zi:=IntKind.i64.wrap (x.zi+1)}):=by rw[gf,gk fj];rfl
 refine uE ?_;refine⟨h0,fj,dd ?_⟩;rw[e1];refine⟨_,gx,cz,dd ?_⟩;refine⟨_,gx,rfl,dd ?_⟩;rw[hst];refine .inl ⟨⟨true,[],[],[]⟩,au,uH ?_⟩;refine⟨_,gx2,cz,dd ?_⟩;refine af [1] (jz {m with pc:=5} 3 5 (IntKind.i64.wrap (x.zi+1))) ?_;exact⟨.inl J,_,_,.refl _,rfl,cE 3⟩
def SC(w:Wor)(m:fi)(x:fI)(h0:0<=m.listen)(hx:w.ze[m.listen.toNat]?=some x):
  tj 196 [⟨1,38,8,[[I w.zl,I w.current,I w.lock,lI w.pins,lV w.zd,.sl 2 [] 4 0 w.ze.length false,fU w.counts,lR w.zp]],0⟩,oM m,⟨2,76,4,(w.ze).map qP,0⟩] [.agg tf] (Ce (fK m 3 5 (IntKind.i64.wrap (x.zi-1))))
   [⟨1,38,8,[[I w.zl,I w.current,I w.lock,lI w.pins,lV w.zd,.sl 2 [] 4 0 w.ze.length false,fU w.counts,lR w.zp]],0⟩,oM ({m with pc:=23}),⟨2,76,4,(w.ze.set m.listen.toNat {x with zi:=IntKind.i64.wrap (x.zi-1)}).map qP,0⟩]:=by
 have e1:0+m.listen.toNat=m.listen.toNat:=gP _;have fj:m.listen.toNat<w.ze.length:=(dW.1 hx).1;have gx:(w.ze.map qP)[m.listen.toNat]?=some (qP x):=by rw[gf,hx];rfl
 refine aa func196 ?_;have hst:(w.ze.map qP).set m.listen.toNat [Tx x.name,Bo x.drain,I (IntKind.i64.wrap (x.zi-1)),Bo x.closed]=(w.ze.set m.listen.toNat {x with zi:=IntKind.i64.wrap (x.zi-1)}).map qP:=bR
 have gx2:((w.ze.set m.listen.toNat {x with zi:=IntKind.i64.wrap (x.zi-1)}).map qP)[m.listen.toNat]?=some (qP {x with zi:=IntKind.i64.wrap (x.zi-1)}):=by rw[gf,gk fj];rfl
 refine uE ?_;refine⟨h0,fj,dd ?_⟩;rw[e1];refine⟨_,gx,cz,dd ?_⟩;refine⟨_,gx,rfl,dd ?_⟩;rw[hst];refine .inl ⟨⟨true,[],[],[]⟩,au,uH ?_⟩;refine⟨_,gx2,cz,dd ?_⟩;refine af [1] (jz {m with pc:=23} 3 5 (IntKind.i64.wrap (x.zi-1))) ?_;exact⟨.inl J,_,_,.refl _,rfl,cE 3⟩
def zZ{P:Program}{f:FuncId}(sel:List Nat)(Kx:zm){K H0 H':zm}{args args0:List C}{r rx:C}(h:zb P f H0 args0 r H')(hR:qt H'=true)
 (hH:xC sel K=H0)(ha:args.map (xO sel 9)=args0)(z8:sel.all (λid=>Nat.blt id K.length)=true)(iw:yl sel=true)(fW:qt K=true){k:C->zm->Prop}
 (hp:wC sel K H'=Kx)(hr:vn (jf sel K.length) 9 r=rx)(hk:okB rx λc=>k c Kx):∃r H2,zb P f K args r H2/\okB r λc=>k c H2:=
 ⟨_,_,h.part sel hR hH ha z8 iw fW,by rw[hp,hr];exact hk⟩
def zJ{n:Nat}{x:Ob}{H:zm}(h1:zX n [x]=true)(h2:zX n H=true):zX n (x::H)=true:=by
 unfold zX at *;exact dw
def qm{n ty sz fz:Nat}{rows:List (List C)}(h:∀r∈rows,∀c∈r,qX n 9 c=true):zX n [⟨1,ty,sz,rows,fz⟩]=true:=by
 unfold zX;simp only[rW,sZ,sq];have:(rows.all λr=>r.all (qX n 9))=true:=gz.2 λr hr=>gz.2 λc hc=>h r hr c hc
 rw[this];simp
def Rc(w:Wor)(m:fi)(r0:List Int)(x:Int)(h0:0<=m.zf)(hr:w.counts[m.zf.toNat]?=some r0)(hx:r0[0]?=some x):
  tj 195 [⟨1,38,8,[[I w.zl,I w.current,I w.lock,lI w.pins,lV w.zd,lL w.ze,.sl 2 [] 1 0 w.counts.length false,lR w.zp]],0⟩,oM m,⟨1,0,1,(w.counts.map zN).set m.zf.toNat [C.sl 3 [] 1 0 r0.length false],0⟩,⟨2,48,1,(r0).map jZ,0⟩] [.agg tf] (Ce (fK m 3 10 0))
   [⟨1,38,8,[[I w.zl,I w.current,I w.lock,lI w.pins,lV w.zd,lL w.ze,.sl 2 [] 1 0 w.counts.length false,lR w.zp]],0⟩,oM ({m with pc:=if m.answer.kind=1\/m.listen<0 then 23 else 22}),⟨1,0,1,(w.counts.map zN).set m.zf.toNat [C.sl 3 [] 1 0 r0.length false],0⟩,⟨2,48,1,(r0.set 0 (IntKind.u64.wrap (x+1))).map jZ,0⟩]:=by
 have e1:0+m.zf.toNat=m.zf.toNat:=gP _;have fj:m.zf.toNat<w.counts.length:=(dW.1 hr).1;have gt:((w.counts.map zN).set m.zf.toNat [C.sl 3 [] 1 0 r0.length false])[m.zf.toNat]?=some [C.sl 3 [] 1 0 r0.length false]:=gk tS;have gx:(r0.map jZ)[0]?=some (jZ x):=by rw[gf,hx];rfl
 have hl0:0<r0.length:=(dW.1 hx).1;have hst:(r0.map jZ).set 0 [U (IntKind.u64.wrap (x+1))]=(r0.set 0 (IntKind.u64.wrap (x+1))).map jZ:=bR
 have own:∀r∈(w.counts.map zN).set m.zf.toNat [C.sl 3 [] 1 0 r0.length false],∀c∈r,zx c=true:=zy (enc:=zN) (λ_=>J) J _ _;have low:∀r∈(w.counts.map zN).set m.zf.toNat [C.sl 3 [] 1 0 r0.length false],∀c∈r,qX 4 9 c=true:=zy (enc:=zN) (λ_=>J) J _ _;refine aa func195 ?_;refine uE ?_;refine⟨h0,fj,dd ?_⟩;rw[e1];refine⟨_,gt,tR,dd ?_⟩;refine⟨ar,hl0,dd ?_⟩;refine⟨_,gx,tR,dd ?_⟩;refine⟨ar,hl0,dd ?_⟩;refine⟨_,gx,rfl,dd ?_⟩;have hst2:(r0.map jZ).set (0+Int.toNat 0) [U (IntKind.u64.wrap (x+1))]=(r0.set 0 (IntKind.u64.wrap (x+1))).map jZ:=hst;rw[hst2];refine⟨λh1=>?_,λh1=>?_⟩
 ·rw[gh (.inl (gJ h1))];refine dd ?_;refine hZ ?_
  refine zZ [1] [⟨1,38,8,[[I w.zl,I w.current,I w.lock,lI w.pins,lV w.zd,lL w.ze,.sl 2 [] 1 0 w.counts.length false,lR w.zp]],0⟩,oM ({m with pc:=23}),⟨1,0,1,(w.counts.map zN).set m.zf.toNat [C.sl 3 [] 1 0 r0.length false],0⟩,⟨2,48,1,(r0.set 0 (IntKind.u64.wrap (x+1))).map jZ,0⟩,⟨1,245,2,[tf],0⟩,oE qG] (rx:=Ce (fK {m with pc:=23} 3 10 0)) (jz {m with pc:=23} 3 10 0) J J J J J (zc J (zc J (zc (zj own) J))) J J (dd ?_);exact cV
 ·refine dd ?_;refine⟨λh2=>?_,λh2=>?_⟩
  ·rw[gh (.inr (gJ h2))];refine dd ?_;refine hZ ?_
   refine zZ [1] [⟨1,38,8,[[I w.zl,I w.current,I w.lock,lI w.pins,lV w.zd,lL w.ze,.sl 2 [] 1 0 w.counts.length false,lR w.zp]],0⟩,oM ({m with pc:=23}),⟨1,0,1,(w.counts.map zN).set m.zf.toNat [C.sl 3 [] 1 0 r0.length false],0⟩,⟨2,48,1,(r0.set 0 (IntKind.u64.wrap (x+1))).map jZ,0⟩,⟨1,245,2,[tf],0⟩,oE qG] (rx:=Ce (fK {m with pc:=23} 3 10 0)) (jz {m with pc:=23} 3 10 0) J J J J J (zc J (zc J (zc (zj own) J))) J J (dd ?_);exact cV
  ·rw[dZ (λh=>h.elim (ru h1) (ru h2))];refine dd ?_;refine hZ ?_
   refine zZ [1] [⟨1,38,8,[[I w.zl,I w.current,I w.lock,lI w.pins,lV w.zd,lL w.ze,.sl 2 [] 1 0 w.counts.length false,lR w.zp]],0⟩,oM ({m with pc:=22}),⟨1,0,1,(w.counts.map zN).set m.zf.toNat [C.sl 3 [] 1 0 r0.length false],0⟩,⟨2,48,1,(r0.set 0 (IntKind.u64.wrap (x+1))).map jZ,0⟩,⟨1,245,2,[tf],0⟩,oE qG] (rx:=Ce (fK {m with pc:=22} 3 10 0)) (jz {m with pc:=22} 3 10 0) J J J J J (zc J (zc J (zc (zj own) J))) J J (dd ?_);exact cV
def Ac(n:Int):Int:=if n<1\/5<n then 0 else n
def Q7(w:Wor)(m:fi)(r0:List Int)(x k:Int)(hk:Ac m.answer.kind=k)(h0:0<=m.zf)(hr:w.counts[m.zf.toNat]?=some r0)(hx:r0[k.toNat]?=some x):
  tj 194 [⟨1,38,8,[[I w.zl,I w.current,I w.lock,lI w.pins,lV w.zd,lL w.ze,.sl 2 [] 1 0 w.counts.length false,lR w.zp]],0⟩,oM m,⟨1,0,1,(w.counts.map zN).set m.zf.toNat [C.sl 3 [] 1 0 r0.length false],0⟩,⟨2,48,1,(r0).map jZ,0⟩] [.agg tf] (Ce (fK m 3 10 k))
   [⟨1,38,8,[[I w.zl,I w.current,I w.lock,lI w.pins,lV w.zd,lL w.ze,.sl 2 [] 1 0 w.counts.length false,lR w.zp]],0⟩,oM ({m with pc:=21}),⟨1,0,1,(w.counts.map zN).set m.zf.toNat [C.sl 3 [] 1 0 r0.length false],0⟩,⟨2,48,1,(r0.set k.toNat (IntKind.u64.wrap (x+1))).map jZ,0⟩]:=by
 have e1:0+m.zf.toNat=m.zf.toNat:=gP _;have k0:0<=k:=by rw[<-hk];unfold Ac;split <;> omega
 have k1:k.toNat<r0.length:=(dW.1 hx).1;have fj:m.zf.toNat<w.counts.length:=(dW.1 hr).1;have gt:((w.counts.map zN).set m.zf.toNat [C.sl 3 [] 1 0 r0.length false])[m.zf.toNat]?=some [C.sl 3 [] 1 0 r0.length false]:=gk tS;have gx:(r0.map jZ)[0+k.toNat]?=some (jZ x):=by rw[gP,gf,hx];rfl
 have hst:(r0.map jZ).set (0+k.toNat) [U (IntKind.u64.wrap (x+1))]=(r0.set k.toNat (IntKind.u64.wrap (x+1))).map jZ:=by rw[gP,rj];rfl
 have own:∀r∈(w.counts.map zN).set m.zf.toNat [C.sl 3 [] 1 0 r0.length false],∀c∈r,zx c=true:=zy (enc:=zN) (λ_=>J) J _ _;have low:∀r∈(w.counts.map zN).set m.zf.toNat [C.sl 3 [] 1 0 r0.length false],∀c∈r,qX 4 9 c=true:=zy (enc:=zN) (λ_=>J) J _ _;refine aa func194 ?_;refine⟨λh1=>?_,λh1=>?_⟩
 ·obtain rfl:k=0:=by rw[<-hk];unfold Ac;rw[gh (.inl (gJ h1))]
  refine dd ?_;refine hZ ?_
  refine uE ?_;(refine⟨h0,fj,dd ?_⟩);(rw[e1]);(refine⟨_,gt,tR,dd ?_⟩);(refine⟨k0,k1,dd ?_⟩);(refine⟨_,gx,tR,dd ?_⟩);(refine⟨k0,k1,dd ?_⟩);(refine⟨_,gx,rfl,dd ?_⟩);(rw[hst]);(refine zZ [1] [⟨1,38,8,[[I w.zl,I w.current,I w.lock,lI w.pins,lV w.zd,lL w.ze,.sl 2 [] 1 0 w.counts.length false,lR w.zp]],0⟩,oM ({m with pc:=21}),⟨1,0,1,(w.counts.map zN).set m.zf.toNat [C.sl 3 [] 1 0 r0.length false],0⟩,⟨2,48,1,(r0.set ((0:Int)).toNat (IntKind.u64.wrap (x+1))).map jZ,0⟩,⟨1,245,2,[tf],0⟩,oE qG] (rx:=Ce (fK {m with pc:=21} 3 10 ((0:Int)))) (jz {m with pc:=21} 3 10 ((0:Int))) J J J J J (zc J (zc J (zc (zj own) J))) J J (dd ?_));exact cV
 ·refine dd ?_;refine hZ ?_
  refine⟨λh2=>?_,λh2=>?_⟩
  ·obtain rfl:k=0:=by rw[<-hk];unfold Ac;rw[gh (.inr (gJ h2))]
   refine dd ?_;refine hZ ?_
   refine uE ?_;(refine⟨h0,fj,dd ?_⟩);(rw[e1]);(refine⟨_,gt,tR,dd ?_⟩);(refine⟨k0,k1,dd ?_⟩);(refine⟨_,gx,tR,dd ?_⟩);(refine⟨k0,k1,dd ?_⟩);(refine⟨_,gx,rfl,dd ?_⟩);(rw[hst]);(refine zZ [1] [⟨1,38,8,[[I w.zl,I w.current,I w.lock,lI w.pins,lV w.zd,lL w.ze,.sl 2 [] 1 0 w.counts.length false,lR w.zp]],0⟩,oM ({m with pc:=21}),⟨1,0,1,(w.counts.map zN).set m.zf.toNat [C.sl 3 [] 1 0 r0.length false],0⟩,⟨2,48,1,(r0.set ((0:Int)).toNat (IntKind.u64.wrap (x+1))).map jZ,0⟩,⟨1,245,2,[tf],0⟩,oE qG] (rx:=Ce (fK {m with pc:=21} 3 10 ((0:Int)))) (jz {m with pc:=21} 3 10 ((0:Int))) J J J J J (zc J (zc J (zc (zj own) J))) J J (dd ?_));exact cV
  ·obtain rfl:k=m.answer.kind:=by rw[<-hk];unfold Ac;rw[dZ (λh=>h.elim (ru h1) (ru h2))]
   refine dd ?_;refine hZ ?_
   refine uE ?_;(refine⟨h0,fj,dd ?_⟩);(rw[e1]);(refine⟨_,gt,tR,dd ?_⟩);(refine⟨k0,k1,dd ?_⟩);(refine⟨_,gx,tR,dd ?_⟩);(refine⟨k0,k1,dd ?_⟩);(refine⟨_,gx,rfl,dd ?_⟩);(rw[hst]);(refine zZ [1] [⟨1,38,8,[[I w.zl,I w.current,I w.lock,lI w.pins,lV w.zd,lL w.ze,.sl 2 [] 1 0 w.counts.length false,lR w.zp]],0⟩,oM ({m with pc:=21}),⟨1,0,1,(w.counts.map zN).set m.zf.toNat [C.sl 3 [] 1 0 r0.length false],0⟩,⟨2,48,1,(r0.set (m.answer.kind).toNat (IntKind.u64.wrap (x+1))).map jZ,0⟩,⟨1,245,2,[tf],0⟩,oE qG] (rx:=Ce (fK {m with pc:=21} 3 10 (m.answer.kind))) (jz {m with pc:=21} 3 10 (m.answer.kind)) J J J J J (zc J (zc J (zc (zj own) J))) J J (dd ?_));exact cV
def yq{P:Program}{o:Oper}{σ:Operand->Value}{t t':TypeId}{x y:Operand}{k:IntKind}{n m:Int}(ho:o.op=.binOp .rem t x y t')(hx:σ x=.int k n)(hy:σ y=.int k m)(hm:m≠0):
  mE P (execOp σ o)=some (.value (.int k (n.tmod m))):=by
 have hi:Op.intDiv .rem k n m=pure (.int k (n.tmod m)):=by unfold Op.intDiv;rw[dZ hm]
 have hg:eqGuard .rem t x y (σ x) (σ y)=pure ():=rfl
 have hb:binOp .rem t (σ x) (σ y)=pure (.int k (n.tmod m)):=by
  rw[hx,hy];simp only[binOp,hi];exact dZ aj
 unfold execOp;rw[ho];dsimp only;rw[hg,hb]
 rfl
def P4{n:Int}(h:0<=n)(h':n<18446744073709551616):IntKind.u64.wrap n=n:=by
 simp only[IntKind.wrap,IntKind.signed,IntKind.bits,ff,sd,if_false];omega
abbrev fj(c:fV):List Int:=lZ c.zR c.zR.length
def nX(c:fV)(n:Int):Int×Int:=if (fj c).length=0 then (0,5) else (((fj c)[(n%(fj c).length).toNat]?).getD 0,0)
def UM(c:fV)(n:Int)(hn:u64 n)(hl:c.zR.length<1000000000000)(hh:(fj c).length<=c.zR.length):tj 234 [] [Cc c,U n] (.fq [I (nX c n).1,I (nX c n).2]) []:=by
 have ml:((fj c).map encI).length=(fj c).length:=gu ..;refine ab func234 ?_;refine ah (KN c hl) ?_;rw[ml];refine⟨λh0=>?_,λh0=>?_⟩
 ·unfold nX;have h0:=gJ h0;rw[gh aw];exact uI
 ·unfold nX;have h0:=ru h0;rw[dZ aw];refine dd ?_
  have hw:IntKind.u64.wrap ((((fj c).map encI).length:Nat):Int)≠0:=by
   have hk:=ml;have:IntKind.u64.wrap ((((fj c).map encI).length:Nat):Int)=(fj c).length:=by rw[ml];exact P4 aw aw
   omega
  split
  rotate_left
  ·rename_i hno;exact(hno _ (yq J J J hw)).elim
  ·rename_i v e;have e':=e.symm.trans (yq J J J hw);cases e'
   refine dd ?_;have ew:IntKind.u64.wrap ((((fj c).map encI).length:Nat):Int)=(fj c).length:=by rw[ml];exact P4 aw aw
   have et:n.tmod (IntKind.u64.wrap ((((fj c).map encI).length:Nat):Int))=n%(fj c).length:=by rw[ew];exact sg hn.1
   have b0:0<=n%((fj c).length:Int):=sG _ h0;have b1:n%((fj c).length:Int)<(fj c).length:=sH _ aw;have hi:(n%((fj c).length:Int)).toNat<(fj c).length:=aw
   have gx:((fj c).map encI)[(n.tmod (IntKind.u64.wrap ((((fj c).map encI).length:Nat):Int))).toNat]?=some (encI ((fj c)[(n%((fj c).length:Int)).toNat]'hi)):=by rw[et,gf,dX hi];rfl
   refine⟨by show 0<=n.tmod (IntKind.u64.wrap ((((fj c).map encI).length:Nat):Int));rw[et];exact b0,_,gx,dd ?_⟩;rw[dX hi];exact uI
def Tw(a x b y:Int):tj 24 [] [I a,I x,I b,I y] (I (if y<x then b else a)) []:=by
 refine ab func24 ?_;refine⟨λh=>?_,λh=>?_⟩
 ·rw[gh (gJ h)];exact dk
 ·rw[dZ (ru h)];exact dk
def QK(w:Wor)(m:fi)(v:fp)(g:Gr)(e:En)(hv:DA w m v g)(o0:0<=m.other)(ho:g.ends[m.other.toNat]?=some e):
  tj 189 [oW w,oM m] [.agg tf] (Ce (iz m v 1 7 e.zi)) [oW w,oM ({m with end_:=if e.zi<m.i then m.other else m.end_,pc:=9})]:=by
 have er:(g.ends.map zA)[m.other.toNat]?=some (zA e):=by rw[gf,ho];rfl
 refine aa func189 ?_;refine .inl ⟨⟨true,[],[],[1]⟩,au,uH ?_⟩;refine af [0,1] (LS w m v g hv) ?_;refine hU ?_
 (refine⟨o0,_,er,dd ?_⟩)
 refine .inl ⟨⟨true,[],[],[15]⟩,au,uH ?_⟩;refine ah (Tw m.end_ m.i m.other e.zi) ?_;refine hU ?_
 refine af [0,1] (wR w {m with end_:=if e.zi<m.i then m.other else m.end_,pc:=9} v ⟨hv.v0,hv.at_⟩ 1 7 e.zi) ?_;exact cN
structure nI(w:Wor)(m:fi)(v0:fp)(g0:Gr):Prop where
 pv:0<=m.version
 lv:m.version.toNat<w.zd.length
 pg:0<=m.zg
 lg:m.zg.toNat<v0.zo.length
 pe:0<=m.end_
 le:m.end_.toNat<g0.ends.length
def ic.ln{w:Wor}{m:fi}{v0:fp}{g0:Gr}{e0:En}(h:ic w m v0 g0 e0):nI w m v0 g0:=⟨h.v0,(dW.1 h.at_).1,h.g0,(dW.1 h.fG).1,h.e0,(dW.1 h.fP).1⟩
def FQ{P:Program}{f:FuncId}(sel:List Nat)(Kx:zm){K H0 H':zm}{args args0:List C}{r rx:C}(h:zb P f H0 args0 r H')(hR:qt H'=true)
 (hH:xC sel K=H0)(ha:args.map (xO sel 9)=args0)(z8:sel.all (λid=>Nat.blt id K.length)=true)(iw:yl sel=true)(fW:qt K=true){k:C->zm->Prop}
 (hp:wC sel K H'=Kx)(hr:vn (jf sel K.length) 9 r=rx)(hk:k rx Kx):∃R,qI P f K args R/\∀r H2,R r H2->k r H2:=
 ⟨λx X=>x=rx/\X=Kx,(h.part sel hR hH ha z8 iw fW).iO ⟨hr,hp⟩,by rintro _ _ ⟨rfl,rfl⟩;exact hk⟩
def Hw(w:Wor)(m:fi)(v0:fp)(g0:Gr)(e0:En)(hv:nI w m v0 g0):tj 233 (hE w m m v0 g0 e0 g0.zu e0.head e0.zi []) [.agg tf] (.ref 3 [] 2 m.zg.toNat 0) (hE w m m v0 g0 e0 g0.zu e0.head e0.zi []):=by
 have h0:=hv.pv;have g0':=hv.pg;have lv:m.version.toNat<w.zd.length:=hv.lv;have lg:m.zg.toNat<v0.zo.length:=hv.lg;have lowV:∀r∈fS w m v0 3,∀c∈r,qX 6 9 c=true:=zy (enc:=zH) (λ_=>J) J _ _;have lowG:∀r∈fL m v0 g0 g0.zu 4,∀c∈r,qX 6 9 c=true:=zy (enc:=zE) (λ_=>J) J _ _;have lowE:∀r∈fF m g0 e0 e0.head 5 e0.zi,∀c∈r,qX 6 9 c=true:=zy (enc:=zA) (λ_=>J) J _ _;have e1:0+m.version.toNat=m.version.toNat:=gP _;have e2:0+m.zg.toNat=m.zg.toNat:=gP _;have gv:(fS w m v0 3)[m.version.toNat]?=some ((encS v0.snap++[C.sl 3 [] 2 0 v0.zo.length false,Bo v0.zW])):=gk tP;refine aa func233 ?_;refine uE ?_;refine⟨h0,lv,dd ?_⟩;rw[e1];refine⟨_,gv,cD,dd ?_⟩;refine⟨g0',lg,dd ?_⟩;rw[e2];exact cQ
def ki(w:Wor)(m:fi)(v0:fp)(g0:Gr)(e0:En)(hv:nI w m v0 g0):tj 237 (hE w m m v0 g0 e0 g0.zu e0.head e0.zi []) [.agg tf] (.ref 4 [] 3 m.end_.toNat 0) (hE w m m v0 g0 e0 g0.zu e0.head e0.zi []):=by
 have h0:=hv.pe;have lg:m.zg.toNat<v0.zo.length:=hv.lg;have le:m.end_.toNat<g0.ends.length:=hv.le;have ownV:∀r∈fS w m v0 3,∀c∈r,zx c=true:=zy (enc:=zH) (λ_=>J) J _ _;have ownG:∀r∈fL m v0 g0 g0.zu 4,∀c∈r,zx c=true:=zy (enc:=zE) (λ_=>J) J _ _;have ownE:∀r∈fF m g0 e0 e0.head 5 e0.zi,∀c∈r,zx c=true:=zy (enc:=zA) (λ_=>J) J _ _;have lowV:∀r∈fS w m v0 3,∀c∈r,qX 6 9 c=true:=zy (enc:=zH) (λ_=>J) J _ _;have lowG:∀r∈fL m v0 g0 g0.zu 4,∀c∈r,qX 6 9 c=true:=zy (enc:=zE) (λ_=>J) J _ _;have lowE:∀r∈fF m g0 e0 e0.head 5 e0.zi,∀c∈r,qX 6 9 c=true:=zy (enc:=zA) (λ_=>J) J _ _;have e2:0+m.end_.toNat=m.end_.toNat:=gP _;have gg:(fL m v0 g0 g0.zu 4)[m.zg.toNat]?=some ([U g0.zu,C.sl 4 [] 3 0 g0.ends.length false]):=gk tM;refine aa func237 ?_;refine .inl ⟨⟨true,[],[],[1]⟩,au,uH ?_⟩;refine zZ [0,1,2,3,4,5] (hE w m m v0 g0 e0 g0.zu e0.head e0.zi [⟨1,245,2,[tf],0⟩]) (rx:=.ref 3 [] 2 m.zg.toNat 0) (Hw w m v0 g0 e0 hv) (zc J (zc J (zc (zj ownV) (zc (zj ownG) (zc (zj ownE) J))))) uT J J J (zc J (zc J (zc (zj ownV) (zc (zj ownG) (zc (zj ownE) J))))) uU J (dd ?_);refine⟨_,gg,cF,dd ?_⟩;refine⟨h0,le,dd ?_⟩;rw[e2];exact cQ
def UY(w:Wor)(m:fi)(v0:fp)(g0:Gr)(e0:En)(hv:nI w m v0 g0)(a b c:Int):tj 236 (hE w m m v0 g0 e0 g0.zu e0.head e0.zi []) [.agg tf,I a,I b,I c] (Ce (iz m v0 a b c)) (hE w m m v0 g0 e0 g0.zu e0.head e0.zi []):=by
 have h0:=hv.pv;have lv:m.version.toNat<w.zd.length:=hv.lv;have e1:0+m.version.toNat=m.version.toNat:=gP _
 clear hv
 obtain⟨sn,gs,fr⟩:=v0;cases fr
 all_goals
  have ownV:∀b,∀r∈(w.zd.map zH).set m.version.toNat (encS sn++[C.sl 3 [] 2 0 gs.length false,Bo b]),∀c∈r,zx c=true:=λb=>zy (enc:=zH) (λ_=>J) J _ _
  have ownG:∀r∈(gs.map zE).set m.zg.toNat ([U g0.zu,C.sl 4 [] 3 0 g0.ends.length false]),∀c∈r,zx c=true:=zy (enc:=zE) (λ_=>J) J _ _;have ownE:∀r∈fF m g0 e0 e0.head 5 e0.zi,∀c∈r,zx c=true:=zy (enc:=zA) (λ_=>J) J _ _;have lowV:∀b,∀r∈(w.zd.map zH).set m.version.toNat (encS sn++[C.sl 3 [] 2 0 gs.length false,Bo b]),∀c∈r,qX 6 9 c=true:=λb=>zy (enc:=zH) (λ_=>J) J _ _
  have gv:∀b,((w.zd.map zH).set m.version.toNat (encS sn++[C.sl 3 [] 2 0 gs.length false,Bo b]))[m.version.toNat]?=some (encS sn++[C.sl 3 [] 2 0 gs.length false,Bo b]):=λb=>gk tP
  have lowG:∀r∈(gs.map zE).set m.zg.toNat ([U g0.zu,C.sl 4 [] 3 0 g0.ends.length false]),∀c∈r,qX 6 9 c=true:=zy (enc:=zE) (λ_=>J) J _ _;have lowE:∀r∈fF m g0 e0 e0.head 5 e0.zi,∀c∈r,qX 6 9 c=true:=zy (enc:=zA) (λ_=>J) J _ _;refine aa func236 ?_;refine zZ [1] [⟨1,38,8,[(iZ w 2)],0⟩,oM m,⟨1,0,5,(w.zd.map zH).set m.version.toNat (encS sn++[C.sl 3 [] 2 0 gs.length false,Bo _]),0⟩,⟨1,0,2,(gs.map zE).set m.zg.toNat ([U g0.zu,C.sl 4 [] 3 0 g0.ends.length false]),0⟩,⟨1,0,3,fF m g0 e0 e0.head 5 e0.zi,0⟩,⟨2,3,1,e0.next.map encI,0⟩,⟨1,245,2,[tf],0⟩,oE qG] (rx:=Ce (fK m a b c)) (jz m a b c) J J J J J (zc J (zc J (zc (zj (ownV _)) (zc (zj ownG) (zc (zj ownE) J))))) J J (dd ?_);refine .inl ⟨⟨false,[6,9,11,14,17],[0,1,2,6],[]⟩,au,uH ?_⟩;refine⟨h0,lv,dd ?_⟩;rw[e1];refine⟨_,gv _,(by show 4+1<=5;decide),dd ?_⟩
  first|((refine ya (dd ?_)))|((refine yb (dd ?_)))
  refine hU ?_
  exact⟨.inl J,_,_,.refl _,rfl,zq.xG 6 hC J J J (zJ J (zJ J (zJ (qm (lowV _)) (zJ (qm lowG) (zJ (qm lowE) J))))) J⟩
abbrev Qg(e:En)(n:Int):En:={e with zi:=IntKind.i64.wrap (e.zi+n)}
def R4(w:Wor)(m:fi)(v0:fp)(g0:Gr)(e0:En)(hv:nI w m v0 g0):tj 193 (hE w m m v0 g0 e0 g0.zu e0.head e0.zi []) [.agg tf] (Ce (iz m v0 3 7 (IntKind.i64.wrap (e0.zi+1))))
  [⟨1,38,8,[(iZ w 2)],0⟩,oM ({m with answer:=⟨1,m.version,m.zg,m.end_,m.slot,m.listen,0,⟨0,0,0,0,0,0⟩⟩,pc:=20}),⟨1,0,5,fS w m v0 3,0⟩,⟨1,0,2,fL m v0 g0 g0.zu 4,0⟩,⟨1,0,3,(g0.ends.map zA).set m.end_.toNat [U e0.head,C.sl 5 [] 1 0 e0.next.length false,I (IntKind.i64.wrap (e0.zi+1))],0⟩,⟨2,3,1,e0.next.map encI,0⟩]:=by
 have le:=hv.le;have ownV:∀r∈fS w m v0 3,∀c∈r,zx c=true:=zy (enc:=zH) (λ_=>J) J _ _;have ownG:∀r∈fL m v0 g0 g0.zu 4,∀c∈r,zx c=true:=zy (enc:=zE) (λ_=>J) J _ _;have ownE:∀r∈fF m g0 e0 e0.head 5 e0.zi,∀c∈r,zx c=true:=zy (enc:=zA) (λ_=>J) J _ _;have ge:(fF m g0 e0 e0.head 5 e0.zi)[m.end_.toNat]?=some ([U e0.head,C.sl 5 [] 1 0 e0.next.length false,I e0.zi]):=gk tJ;refine aa func193 ?_;refine FQ [0,1,2,3,4,5] (hE w m m v0 g0 e0 g0.zu e0.head e0.zi [⟨1,245,2,[tf],0⟩,oE qG]) (rx:=.ref 4 [] 3 m.end_.toNat 0) (ki w m v0 g0 e0 hv) (zc J (zc J (zc (zj ownV) (zc (zj ownG) (zc (zj ownE) J))))) uT J J J (zc J (zc J (zc (zj ownV) (zc (zj ownG) (zc (zj ownE) J))))) uU J (dd ?_);refine⟨_,ge,cG,dd ?_⟩;refine⟨_,ge,rfl,dd ?_⟩;rw[pb];refine uE ?_;have ownE2:∀r∈(g0.ends.map zA).set m.end_.toNat [U e0.head,C.sl 5 [] 1 0 e0.next.length false,I (IntKind.i64.wrap (e0.zi+1))],∀c∈r,zx c=true:=zy (enc:=zA) (λ_=>J) J _ _;refine .inl ⟨⟨true,[],[],[2,6]⟩,au,uH ?_⟩;have hv2:nI w {m with answer:=⟨1,m.version,m.zg,m.end_,m.slot,m.listen,0,⟨0,0,0,0,0,0⟩⟩,pc:=20} v0 g0:=⟨hv.pv,hv.lv,hv.pg,hv.lg,hv.pe,hv.le⟩;have ge2:((g0.ends.map zA).set m.end_.toNat [U e0.head,C.sl 5 [] 1 0 e0.next.length false,I (IntKind.i64.wrap (e0.zi+1))])[m.end_.toNat]?=some [U e0.head,C.sl 5 [] 1 0 e0.next.length false,I (IntKind.i64.wrap (e0.zi+1))]:=gk tJ;have lowV:∀r∈fS w m v0 3,∀c∈r,qX 6 9 c=true:=zy (enc:=zH) (λ_=>J) J _ _;have lowG:∀r∈fL m v0 g0 g0.zu 4,∀c∈r,qX 6 9 c=true:=zy (enc:=zE) (λ_=>J) J _ _;have lowE:∀r∈(g0.ends.map zA).set m.end_.toNat [U e0.head,C.sl 5 [] 1 0 e0.next.length false,I (IntKind.i64.wrap (e0.zi+1))],∀c∈r,qX 6 9 c=true:=zy (enc:=zA) (λ_=>J) J _ _;refine zZ [0,1,2,3,4,5] [⟨1,38,8,[(iZ w 2)],0⟩,oM ({m with answer:=⟨1,m.version,m.zg,m.end_,m.slot,m.listen,0,⟨0,0,0,0,0,0⟩⟩,pc:=20}),⟨1,0,5,fS w m v0 3,0⟩,⟨1,0,2,fL m v0 g0 g0.zu 4,0⟩,⟨1,0,3,(g0.ends.map zA).set m.end_.toNat [U e0.head,C.sl 5 [] 1 0 e0.next.length false,I (IntKind.i64.wrap (e0.zi+1))],0⟩,⟨2,3,1,e0.next.map encI,0⟩,⟨1,245,2,[tf],0⟩,oE qG] (rx:=.ref 4 [] 3 m.end_.toNat 0) (ki w _ v0 g0 (Qg e0 1) hv2) (zc J (zc J (zc (zj ownV) (zc (zj ownG) (zc (zj ownE2) J))))) uT J J J (zc J (zc J (zc (zj ownV) (zc (zj ownG) (zc (zj ownE2) J))))) uU J (dd ?_);refine⟨_,ge2,cG,dd ?_⟩;refine zZ [0,1,2,3,4,5] [⟨1,38,8,[(iZ w 2)],0⟩,oM ({m with answer:=⟨1,m.version,m.zg,m.end_,m.slot,m.listen,0,⟨0,0,0,0,0,0⟩⟩,pc:=20}),⟨1,0,5,fS w m v0 3,0⟩,⟨1,0,2,fL m v0 g0 g0.zu 4,0⟩,⟨1,0,3,(g0.ends.map zA).set m.end_.toNat [U e0.head,C.sl 5 [] 1 0 e0.next.length false,I (IntKind.i64.wrap (e0.zi+1))],0⟩,⟨2,3,1,e0.next.map encI,0⟩,⟨1,245,2,[tf],0⟩,oE qG] (rx:=Ce (iz m v0 3 7 (IntKind.i64.wrap (e0.zi+1)))) (UY w _ v0 g0 (Qg e0 1) hv2 3 7 (IntKind.i64.wrap (e0.zi+1))) (zc J (zc J (zc (zj ownV) (zc (zj ownG) (zc (zj ownE2) J))))) uT J J J (zc J (zc J (zc (zj ownV) (zc (zj ownG) (zc (zj ownE2) J))))) uU J (dd ?_);exact cQ
end Go.Wor
