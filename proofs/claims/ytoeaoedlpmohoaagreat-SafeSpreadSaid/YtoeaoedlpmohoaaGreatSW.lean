import Derived.Test.YtoeaoedlpmohoaaGreatSV
set_option linter.all false
set_option maxRecDepth 100000
set_option maxHeartbeats 4000000
namespace Go.Wor
open Go.Ab Go.Proofs Tryz Go.Hy Go.Gat Go.Nam Go.Hos Go.Con Go.Sna
abbrev mD(m:lh)(a b c:Int):lD:=⟨m.zg,0,a,b, -1,false,c,false,false,false,BC⟩
abbrev nr(m:lh)(v:lJ)(a b c:Int):lD:=⟨m.zg,0,a,b,m.version,v.qd,c,false,false,false,BC⟩
def jY(m:lh)(a b c:Int):tp 230 [oM m] [.agg [.za,.ref 0 [] 44 0 0],I a,I b,I c] (Ce (mD m a b c)) [oM m]:=by
 refine aa func230 ?_;exact gK
abbrev Ah(n:Int):lM:=⟨n,0,0,0,0,0,0,⟨0,0,0,0,0,0⟩⟩
abbrev BB(m:lh)(n:Int):lh:={m with answer:=Ah n,pc:=20}
def wO(m:lh)(n:Int):tp 231 [oM m] [.agg [.za,.ref 0 [] 44 0 0],I n] (.lK []) [oM (BB m n)]:=by
 refine aa func231 ?_;refine .inl ⟨⟨false,[3],[1],[]⟩,au,uH ?_⟩;refine td ?_
 exact⟨.inr O,_,_,.refl _,rfl,cE 1⟩
structure CT(w:Wor)(m:lh)(v:lJ):Prop where
 v0:0<=m.version
 at_:w.zd[m.version.toNat]?=some v
def CT.row{w:Wor}{m:lh}{v:lJ}(h:CT w m v):(w.zd.map zJ)[m.version.toNat]?=some (zJ v):=by rw[pj,h.at_];rfl
def Gc(w:Wor)(m:lh)(v:lJ)(hv:CT w m v)(a b c:Int):tp 236 [oW w,oM m] [.agg to,I a,I b,I c] (Ce (nr m v a b c)) [oW w,oM m]:=by
 have h0:=hv.v0;have hr:=hv.row;obtain⟨sn,gs,fr⟩:=v;cases fr
 all_goals
  refine aa func236 ?_;refine af [1] (jY m a b c) ?_;refine .inl ⟨⟨false,[6,9,11,14,17],[0,1,2],[]⟩,au,uH ?_⟩;(refine⟨h0,_,hr,dd ?_⟩)
  first|((refine ya (dd ?_)))|((refine yb (dd ?_)))
  refine td ?_
  exact di
def KP{P:Program}{f:FuncId}(sel:List Nat){K H0 H':zo}{args args0:List C}{r:C}(h:zc P f H0 args0 r H')(hR:qC H'=true)
 (hH:x7 sel K=H0)(ha:args.map (yq sel 9)=args0)(qj:sel.all (λid=>Nat.blt id K.length)=true)(m8:yI sel=true)(mU:qC K=true){k:C->zo->Prop}
 (hk:D4 (nR sel K H') λX=>jk (kb (jz sel K.length) 9 r) λc=>k c X):∃R',qF P f K args R'/\∀r H2,R' r H2->k r H2:=
 SY sel (h.nO (R:=λx X=>x=r/\X=H') ⟨rfl,rfl⟩) (λ_ _ e=>e.2 ▸ hR) hH ha qj m8 mU (by rintro _ _ ⟨rfl,rfl⟩;exact hk)
structure Hw(w:Wor)(m:lh)(v:lJ)(g:Gr):Prop extends CT w m v where
 g0:0<=m.zi
 mn:v.zp[m.zi.toNat]?=some g
def Hw.zEw{w:Wor}{m:lh}{v:lJ}{g:Gr}(h:Hw w m v g):(v.zp.map zI)[m.zi.toNat]?=some (zI g):=by rw[pj,h.mn];rfl
structure m7(w:Wor)(m:lh)(v:lJ)(g:Gr)(e:En):Prop extends Hw w m v g where
 e0:0<=m.end_
 mM:g.ends[m.end_.toNat]?=some e
def m7.zEv{w:Wor}{m:lh}{v:lJ}{g:Gr}{e:En}(h:m7 w m v g e):(g.ends.map zF)[m.end_.toNat]?=some (zF e):=by rw[pj,h.mM];rfl
def Sz(w:Wor)(m:lh)(v:lJ)(g:Gr)(hv:Hw w m v g):tp 233 [oW w,oM m] [.agg to] (.jK (zI g)) [oW w,oM m]:=by
 have h0:=hv.v0;have hr:=hv.row;have g0:=hv.g0;have gr:=hv.zEw;refine aa func233 ?_;refine uE ?_;(refine⟨h0,_,hr,dd ?_⟩)
 (refine⟨g0,_,gr,dd ?_⟩)
 exact di
def F3(w:Wor)(m:lh)(v:lJ)(g:Gr)(e:En)(hv:m7 w m v g e):tp 237 [oW w,oM m] [.agg to] (.jK (zF e)) [oW w,oM m]:=by
 have e0:=hv.e0;have er:=hv.zEv;refine aa func237 ?_;refine .inl ⟨⟨true,[],[],[1]⟩,au,uH ?_⟩;refine af [0,1] (Sz w m v g hv.toHw) ?_;refine td ?_
 (refine⟨e0,_,er,dd ?_⟩)
 exact di
def JM(w:Wor)(m:lh)(v:lJ)(c:mG)(hv:CT w m v)(c0:0<=m.zi)(hc:v.snap.zm[m.zi.toNat]?=some c):tp 235 [oW w,oM m] [.agg to] (Cc c) [oW w,oM m]:=by
 have h0:=hv.v0;have hr:=hv.row;have cr:(v.snap.zm.map y6)[m.zi.toNat]?=some (y6 c):=by rw[pj,hc];rfl
 refine aa func235 ?_;refine uE ?_;(refine⟨h0,_,hr,dd ?_⟩)
 (refine⟨c0,_,cr,dd ?_⟩)
 exact di
def zkl(w:Wor)(m:lh)(v:lJ)(g:Gr)(e:En)(hv:m7 w m v g e){x:Int}(s0:0<=m.slot)(hx:e.next[m.slot.toNat]?=some x):
  tp 191 [oW w,oM m] [.agg to] (Ce (nr m v 1 9 x)) [oW w,oM ({m with link:=x,pc:=11})]:=by
 have er:(e.next.map encI)[m.slot.toNat]?=some (encI x):=by rw[pj,hx];rfl
 refine aa func191 ?_;refine .inl ⟨⟨true,[3],[2],[5]⟩,au,uH ?_⟩;refine af [0,1] (F3 w m v g e hv) ?_;refine td ?_
 (refine⟨s0,_,er,dd ?_⟩)
 refine td ?_
 refine .inl ⟨⟨true,[],[],[]⟩,au,uH ?_⟩;refine af [0,1] (Gc w {m with link:=x,pc:=11} v ⟨hv.v0,hv.at_⟩ 1 9 x) ?_;exact di
def zgq(w:Wor)(m:lh)(v:lJ)(g:Gr)(e:En)(hv:m7 w m v g e):
  tp 188 [oW w,oM m] [.agg to] (Ce (nr m v 1 7 e.zj)) [oW w,oM ({m with i:=e.zj,pc:=8})]:=by
 refine aa func188 ?_;refine .inl ⟨⟨true,[3],[2],[5]⟩,au,uH ?_⟩;refine af [0,1] (F3 w m v g e hv) ?_;refine td ?_
 refine td ?_
 refine .inl ⟨⟨true,[],[],[]⟩,au,uH ?_⟩;refine af [0,1] (Gc w {m with i:=e.zj,pc:=8} v ⟨hv.v0,hv.at_⟩ 1 7 e.zj) ?_;exact di
def zkk(w:Wor)(m:lh)(v:lJ)(g:Gr)(e:En)(hv:m7 w m v g e)(he:u64 e.head)(hi:0<=e.head%4294967296-1/\e.head%4294967296-1<e.next.length):
  tp 190 [oW w,oM m] [.agg to] (Ce (nr m v 1 8 (e.head%4294967296-1))) [oW w,oM ({m with word:=e.head,slot:=e.head%4294967296-1,pc:=10})]:=by
 have hi1:=hi.1;have hi2:=hi.2;have ml:(e.next.map encI).length=e.next.length:=pB ..;refine aa func190 ?_;refine KP [0,1] (F3 w m v g e hv) O O O O O O (dd ?_);refine ah (Slp.je e.head he) ?_;refine⟨λh=>absurd h aA,λ_=>dd ?_⟩;refine KP [0,1] (F3 w {m with word:=e.head} v g e ⟨⟨⟨hv.v0,hv.at_⟩,hv.g0,hv.mn⟩,hv.e0,hv.mM⟩) O O O O O O (dd ?_);rw[ml];refine⟨λh=>absurd h aA,λ_=>dd ?_⟩;refine af [0,1] (Gc w {m with word:=e.head,slot:=e.head%4294967296-1,pc:=10} v ⟨hv.v0,hv.at_⟩ 1 8 (e.head%4294967296-1)) ?_;exact di
def zo6(w:Wor)(m:lh)(x:mj)(h0:0<=m.listen)(hx:w.zf[m.listen.toNat]?=some x):
  tp 185 [⟨1,38,8,[[I w.zn,I w.current,I w.lock,lI w.pins,lV w.zd,.sl 2 [] 4 0 w.zf.length false,mQ w.counts,lR w.zr]],0⟩,oM m,⟨2,76,4,(w.zf).map ji,0⟩] [.agg to] (Ce (mD m 3 5 (IntKind.i64.wrap (x.zj+1))))
   [⟨1,38,8,[[I w.zn,I w.current,I w.lock,lI w.pins,lV w.zd,.sl 2 [] 4 0 w.zf.length false,mQ w.counts,lR w.zr]],0⟩,oM ({m with pc:=5}),⟨2,76,4,(w.zf.set m.listen.toNat {x with zj:=IntKind.i64.wrap (x.zj+1)}).map ji,0⟩]:=by
 have e1:0+m.listen.toNat=m.listen.toNat:=pR _;have lu:m.listen.toNat<w.zf.length:=(gZ.1 hx).1;have gx:(w.zf.map ji)[m.listen.toNat]?=some (ji x):=by rw[pj,hx];rfl
 refine aa func185 ?_;have hst:(w.zf.map ji).set m.listen.toNat [Tx x.name,Bo x.drain,I (IntKind.i64.wrap (x.zj+1)),Bo x.closed]=(w.zf.set m.listen.toNat {x with zj:=IntKind.i64.wrap (x.zj+1)}).map ji:=bU
 have gx2:((w.zf.set m.listen.toNat {x with zj:=IntKind.i64.wrap (x.zj+1)}).map ji)[m.listen.toNat]?=some (ji {x with zj:=IntKind.i64.wrap (x.zj+1)}):=by rw[pj,pC lu];rfl
 refine uE ?_;refine⟨h0,lu,dd ?_⟩;rw[e1];refine⟨_,gx,c7,dd ?_⟩;refine⟨_,gx,rfl,dd ?_⟩;rw[hst];refine .inl ⟨⟨true,[],[],[]⟩,au,uH ?_⟩;refine⟨_,gx2,c7,dd ?_⟩;refine af [1] (jY {m with pc:=5} 3 5 (IntKind.i64.wrap (x.zj+1))) ?_;exact⟨.inl O,_,_,.refl _,rfl,cE 3⟩
def zpv(w:Wor)(m:lh)(x:mj)(h0:0<=m.listen)(hx:w.zf[m.listen.toNat]?=some x):
  tp 196 [⟨1,38,8,[[I w.zn,I w.current,I w.lock,lI w.pins,lV w.zd,.sl 2 [] 4 0 w.zf.length false,mQ w.counts,lR w.zr]],0⟩,oM m,⟨2,76,4,(w.zf).map ji,0⟩] [.agg to] (Ce (mD m 3 5 (IntKind.i64.wrap (x.zj-1))))
   [⟨1,38,8,[[I w.zn,I w.current,I w.lock,lI w.pins,lV w.zd,.sl 2 [] 4 0 w.zf.length false,mQ w.counts,lR w.zr]],0⟩,oM ({m with pc:=23}),⟨2,76,4,(w.zf.set m.listen.toNat {x with zj:=IntKind.i64.wrap (x.zj-1)}).map ji,0⟩]:=by
 have e1:0+m.listen.toNat=m.listen.toNat:=pR _;have lu:m.listen.toNat<w.zf.length:=(gZ.1 hx).1;have gx:(w.zf.map ji)[m.listen.toNat]?=some (ji x):=by rw[pj,hx];rfl
 refine aa func196 ?_;have hst:(w.zf.map ji).set m.listen.toNat [Tx x.name,Bo x.drain,I (IntKind.i64.wrap (x.zj-1)),Bo x.closed]=(w.zf.set m.listen.toNat {x with zj:=IntKind.i64.wrap (x.zj-1)}).map ji:=bU
 have gx2:((w.zf.set m.listen.toNat {x with zj:=IntKind.i64.wrap (x.zj-1)}).map ji)[m.listen.toNat]?=some (ji {x with zj:=IntKind.i64.wrap (x.zj-1)}):=by rw[pj,pC lu];rfl
 refine uE ?_;refine⟨h0,lu,dd ?_⟩;rw[e1];refine⟨_,gx,c7,dd ?_⟩;refine⟨_,gx,rfl,dd ?_⟩;rw[hst];refine .inl ⟨⟨true,[],[],[]⟩,au,uH ?_⟩;refine⟨_,gx2,c7,dd ?_⟩;refine af [1] (jY {m with pc:=23} 3 5 (IntKind.i64.wrap (x.zj-1))) ?_;exact⟨.inl O,_,_,.refl _,rfl,cE 3⟩
def qg{P:Program}{f:FuncId}(sel:List Nat)(Kx:zo){K H0 H':zo}{args args0:List C}{r rx:C}(h:zc P f H0 args0 r H')(hR:qC H'=true)
 (hH:x7 sel K=H0)(ha:args.map (yq sel 9)=args0)(qj:sel.all (λid=>Nat.blt id K.length)=true)(m8:yI sel=true)(mU:qC K=true){k:C->zo->Prop}
 (hp:nR sel K H'=Kx)(hr:kb (jz sel K.length) 9 r=rx)(hk:okB rx λc=>k c Kx):∃r H2,zc P f K args r H2/\okB r λc=>k c H2:=
 ⟨_,_,h.part sel hR hH ha qj m8 mU,by rw[hp,hr];exact hk⟩
def zO{n:Nat}{x:Ob}{H:zo}(h1:qf n [x]=true)(h2:qf n H=true):qf n (x::H)=true:=by
 unfold qf at *;exact gf
def qx{n ty sz fz:Nat}{rows:List (List C)}(h:∀r∈rows,∀c∈r,jv n 9 c=true):qf n [⟨1,ty,sz,rows,fz⟩]=true:=by
 unfold qf;simp only[uq,fI,eJ];have:(rows.all λr=>r.all (jv n 9))=true:=pH.2 λr hr=>pH.2 λc hc=>h r hr c hc
 rw[this];simp
def zjP(w:Wor)(m:lh)(r0:List Int)(x:Int)(h0:0<=m.zg)(hr:w.counts[m.zg.toNat]?=some r0)(hx:r0[0]?=some x):
  tp 195 [⟨1,38,8,[[I w.zn,I w.current,I w.lock,lI w.pins,lV w.zd,lL w.zf,.sl 2 [] 1 0 w.counts.length false,lR w.zr]],0⟩,oM m,⟨1,0,1,(w.counts.map zT).set m.zg.toNat [C.sl 3 [] 1 0 r0.length false],0⟩,⟨2,48,1,(r0).map xy,0⟩] [.agg to] (Ce (mD m 3 10 0))
   [⟨1,38,8,[[I w.zn,I w.current,I w.lock,lI w.pins,lV w.zd,lL w.zf,.sl 2 [] 1 0 w.counts.length false,lR w.zr]],0⟩,oM ({m with pc:=if m.answer.kind=1\/m.listen<0 then 23 else 22}),⟨1,0,1,(w.counts.map zT).set m.zg.toNat [C.sl 3 [] 1 0 r0.length false],0⟩,⟨2,48,1,(r0.set 0 (IntKind.u64.wrap (x+1))).map xy,0⟩]:=by
 have e1:0+m.zg.toNat=m.zg.toNat:=pR _;have lu:m.zg.toNat<w.counts.length:=(gZ.1 hr).1;have gt:((w.counts.map zT).set m.zg.toNat [C.sl 3 [] 1 0 r0.length false])[m.zg.toNat]?=some [C.sl 3 [] 1 0 r0.length false]:=pC mB;have gx:(r0.map xy)[0]?=some (xy x):=by rw[pj,hx];rfl
 have hl0:0<r0.length:=(gZ.1 hx).1;have hst:(r0.map xy).set 0 [U (IntKind.u64.wrap (x+1))]=(r0.set 0 (IntKind.u64.wrap (x+1))).map xy:=bU
 have own:∀r∈(w.counts.map zT).set m.zg.toNat [C.sl 3 [] 1 0 r0.length false],∀c∈r,zB c=true:=zC (enc:=zT) (λ_=>O) O _ _;have low:∀r∈(w.counts.map zT).set m.zg.toNat [C.sl 3 [] 1 0 r0.length false],∀c∈r,jv 4 9 c=true:=zC (enc:=zT) (λ_=>O) O _ _;refine aa func195 ?_;refine uE ?_;refine⟨h0,lu,dd ?_⟩;rw[e1];refine⟨_,gt,tM,dd ?_⟩;refine⟨ar,hl0,dd ?_⟩;refine⟨_,gx,tM,dd ?_⟩;refine⟨ar,hl0,dd ?_⟩;refine⟨_,gx,rfl,dd ?_⟩;have hst2:(r0.map xy).set (0+Int.toNat 0) [U (IntKind.u64.wrap (x+1))]=(r0.set 0 (IntKind.u64.wrap (x+1))).map xy:=hst;rw[hst2];refine⟨λh1=>?_,λh1=>?_⟩
 ·rw[pA (.inl (pF h1))];refine dd ?_;refine tf ?_
  refine qg [1] [⟨1,38,8,[[I w.zn,I w.current,I w.lock,lI w.pins,lV w.zd,lL w.zf,.sl 2 [] 1 0 w.counts.length false,lR w.zr]],0⟩,oM ({m with pc:=23}),⟨1,0,1,(w.counts.map zT).set m.zg.toNat [C.sl 3 [] 1 0 r0.length false],0⟩,⟨2,48,1,(r0.set 0 (IntKind.u64.wrap (x+1))).map xy,0⟩,⟨1,245,2,[to],0⟩,oE qV] (rx:=Ce (mD {m with pc:=23} 3 10 0)) (jY {m with pc:=23} 3 10 0) O O O O O (ze O (ze O (ze (zl own) O))) O O (dd ?_);exact dy
 ·refine dd ?_;refine⟨λh2=>?_,λh2=>?_⟩
  ·rw[pA (.inr (pF h2))];refine dd ?_;refine tf ?_
   refine qg [1] [⟨1,38,8,[[I w.zn,I w.current,I w.lock,lI w.pins,lV w.zd,lL w.zf,.sl 2 [] 1 0 w.counts.length false,lR w.zr]],0⟩,oM ({m with pc:=23}),⟨1,0,1,(w.counts.map zT).set m.zg.toNat [C.sl 3 [] 1 0 r0.length false],0⟩,⟨2,48,1,(r0.set 0 (IntKind.u64.wrap (x+1))).map xy,0⟩,⟨1,245,2,[to],0⟩,oE qV] (rx:=Ce (mD {m with pc:=23} 3 10 0)) (jY {m with pc:=23} 3 10 0) O O O O O (ze O (ze O (ze (zl own) O))) O O (dd ?_);exact dy
  ·rw[pw (λh=>h.elim (sK h1) (sK h2))];refine dd ?_;refine tf ?_
   refine qg [1] [⟨1,38,8,[[I w.zn,I w.current,I w.lock,lI w.pins,lV w.zd,lL w.zf,.sl 2 [] 1 0 w.counts.length false,lR w.zr]],0⟩,oM ({m with pc:=22}),⟨1,0,1,(w.counts.map zT).set m.zg.toNat [C.sl 3 [] 1 0 r0.length false],0⟩,⟨2,48,1,(r0.set 0 (IntKind.u64.wrap (x+1))).map xy,0⟩,⟨1,245,2,[to],0⟩,oE qV] (rx:=Ce (mD {m with pc:=22} 3 10 0)) (jY {m with pc:=22} 3 10 0) O O O O O (ze O (ze O (ze (zl own) O))) O O (dd ?_);exact dy
def C8(n:Int):Int:=if n<1\/5<n then 0 else n
def ziQ(w:Wor)(m:lh)(r0:List Int)(x k:Int)(hk:C8 m.answer.kind=k)(h0:0<=m.zg)(hr:w.counts[m.zg.toNat]?=some r0)(hx:r0[k.toNat]?=some x):
  tp 194 [⟨1,38,8,[[I w.zn,I w.current,I w.lock,lI w.pins,lV w.zd,lL w.zf,.sl 2 [] 1 0 w.counts.length false,lR w.zr]],0⟩,oM m,⟨1,0,1,(w.counts.map zT).set m.zg.toNat [C.sl 3 [] 1 0 r0.length false],0⟩,⟨2,48,1,(r0).map xy,0⟩] [.agg to] (Ce (mD m 3 10 k))
   [⟨1,38,8,[[I w.zn,I w.current,I w.lock,lI w.pins,lV w.zd,lL w.zf,.sl 2 [] 1 0 w.counts.length false,lR w.zr]],0⟩,oM ({m with pc:=21}),⟨1,0,1,(w.counts.map zT).set m.zg.toNat [C.sl 3 [] 1 0 r0.length false],0⟩,⟨2,48,1,(r0.set k.toNat (IntKind.u64.wrap (x+1))).map xy,0⟩]:=by
 have e1:0+m.zg.toNat=m.zg.toNat:=pR _;have k0:0<=k:=by rw[<-hk];unfold C8;split <;> omega
 have k1:k.toNat<r0.length:=(gZ.1 hx).1;have lu:m.zg.toNat<w.counts.length:=(gZ.1 hr).1;have gt:((w.counts.map zT).set m.zg.toNat [C.sl 3 [] 1 0 r0.length false])[m.zg.toNat]?=some [C.sl 3 [] 1 0 r0.length false]:=pC mB;have gx:(r0.map xy)[0+k.toNat]?=some (xy x):=by rw[pR,pj,hx];rfl
 have hst:(r0.map xy).set (0+k.toNat) [U (IntKind.u64.wrap (x+1))]=(r0.set k.toNat (IntKind.u64.wrap (x+1))).map xy:=by rw[pR,r6];rfl
 have own:∀r∈(w.counts.map zT).set m.zg.toNat [C.sl 3 [] 1 0 r0.length false],∀c∈r,zB c=true:=zC (enc:=zT) (λ_=>O) O _ _;have low:∀r∈(w.counts.map zT).set m.zg.toNat [C.sl 3 [] 1 0 r0.length false],∀c∈r,jv 4 9 c=true:=zC (enc:=zT) (λ_=>O) O _ _;refine aa func194 ?_;refine⟨λh1=>?_,λh1=>?_⟩
 ·obtain rfl:k=0:=by rw[<-hk];unfold C8;rw[pA (.inl (pF h1))]
  refine dd ?_;refine tf ?_
  refine uE ?_;(refine⟨h0,lu,dd ?_⟩);(rw[e1]);(refine⟨_,gt,tM,dd ?_⟩);(refine⟨k0,k1,dd ?_⟩);(refine⟨_,gx,tM,dd ?_⟩);(refine⟨k0,k1,dd ?_⟩);(refine⟨_,gx,rfl,dd ?_⟩);(rw[hst]);(refine qg [1] [⟨1,38,8,[[I w.zn,I w.current,I w.lock,lI w.pins,lV w.zd,lL w.zf,.sl 2 [] 1 0 w.counts.length false,lR w.zr]],0⟩,oM ({m with pc:=21}),⟨1,0,1,(w.counts.map zT).set m.zg.toNat [C.sl 3 [] 1 0 r0.length false],0⟩,⟨2,48,1,(r0.set ((0:Int)).toNat (IntKind.u64.wrap (x+1))).map xy,0⟩,⟨1,245,2,[to],0⟩,oE qV] (rx:=Ce (mD {m with pc:=21} 3 10 ((0:Int)))) (jY {m with pc:=21} 3 10 ((0:Int))) O O O O O (ze O (ze O (ze (zl own) O))) O O (dd ?_));exact dy
 ·refine dd ?_;refine tf ?_
  refine⟨λh2=>?_,λh2=>?_⟩
  ·obtain rfl:k=0:=by rw[<-hk];unfold C8;rw[pA (.inr (pF h2))]
   refine dd ?_;refine tf ?_
   refine uE ?_;(refine⟨h0,lu,dd ?_⟩);(rw[e1]);(refine⟨_,gt,tM,dd ?_⟩);(refine⟨k0,k1,dd ?_⟩);(refine⟨_,gx,tM,dd ?_⟩);(refine⟨k0,k1,dd ?_⟩);(refine⟨_,gx,rfl,dd ?_⟩);(rw[hst]);(refine qg [1] [⟨1,38,8,[[I w.zn,I w.current,I w.lock,lI w.pins,lV w.zd,lL w.zf,.sl 2 [] 1 0 w.counts.length false,lR w.zr]],0⟩,oM ({m with pc:=21}),⟨1,0,1,(w.counts.map zT).set m.zg.toNat [C.sl 3 [] 1 0 r0.length false],0⟩,⟨2,48,1,(r0.set ((0:Int)).toNat (IntKind.u64.wrap (x+1))).map xy,0⟩,⟨1,245,2,[to],0⟩,oE qV] (rx:=Ce (mD {m with pc:=21} 3 10 ((0:Int)))) (jY {m with pc:=21} 3 10 ((0:Int))) O O O O O (ze O (ze O (ze (zl own) O))) O O (dd ?_));exact dy
  ·obtain rfl:k=m.answer.kind:=by rw[<-hk];unfold C8;rw[pw (λh=>h.elim (sK h1) (sK h2))]
   refine dd ?_;refine tf ?_
   refine uE ?_;(refine⟨h0,lu,dd ?_⟩);(rw[e1]);(refine⟨_,gt,tM,dd ?_⟩);(refine⟨k0,k1,dd ?_⟩);(refine⟨_,gx,tM,dd ?_⟩);(refine⟨k0,k1,dd ?_⟩);(refine⟨_,gx,rfl,dd ?_⟩);(rw[hst]);(refine qg [1] [⟨1,38,8,[[I w.zn,I w.current,I w.lock,lI w.pins,lV w.zd,lL w.zf,.sl 2 [] 1 0 w.counts.length false,lR w.zr]],0⟩,oM ({m with pc:=21}),⟨1,0,1,(w.counts.map zT).set m.zg.toNat [C.sl 3 [] 1 0 r0.length false],0⟩,⟨2,48,1,(r0.set (m.answer.kind).toNat (IntKind.u64.wrap (x+1))).map xy,0⟩,⟨1,245,2,[to],0⟩,oE qV] (rx:=Ce (mD {m with pc:=21} 3 10 (m.answer.kind))) (jY {m with pc:=21} 3 10 (m.answer.kind)) O O O O O (ze O (ze O (ze (zl own) O))) O O (dd ?_));exact dy
def yn{P:Program}{o:Oper}{σ:Operand->Value}{t t':TypeId}{x y:Operand}{k:IntKind}{n m:Int}(ho:o.op=.binOp .rem t x y t')(hx:σ x=.int k n)(hy:σ y=.int k m)(hm:m≠0):
  AA P (execOp σ o)=some (.value (.int k (n.tmod m))):=by
 have hi:Op.intDiv .rem k n m=pure (.int k (n.tmod m)):=bd
 have hg:eqGuard .rem t x y (σ x) (σ y)=pure ():=rfl
 have hb:binOp .rem t (σ x) (σ y)=pure (.int k (n.tmod m)):=by
  rw[hx,hy];simp only[binOp,hi];exact pw aj
 unfold execOp;rw[ho];dsimp only;rw[hg,hb]
 rfl
def Jn{n:Int}(h:0<=n)(h':n<18446744073709551616):IntKind.u64.wrap n=n:=by
 simp only[IntKind.wrap,IntKind.signed,IntKind.bits,ue,ug,if_false];omega
abbrev lu(c:mG):List Int:=oq c.zE c.zE.length
def Be(c:mG)(n:Int):Int×Int:=if (lu c).length=0 then (0,5) else (((lu c)[(n%(lu c).length).toNat]?).getD 0,0)
def zs9(c:mG)(n:Int)(hn:u64 n)(hl:c.zE.length<1000000000000)(hh:(lu c).length<=c.zE.length):tp 234 [] [Cc c,U n] (.lK [I (Be c n).1,I (Be c n).2]) []:=by
 have ml:((lu c).map encI).length=(lu c).length:=pB ..;refine ab func234 ?_;refine ah (xW c hl) ?_;rw[ml];refine⟨λh0=>?_,λh0=>?_⟩
 ·unfold Be;have h0:=pF h0;rw[pA aw];exact uI
 ·unfold Be;have h0:=sK h0;rw[pw aw];refine dd ?_
  have hw:IntKind.u64.wrap ((((lu c).map encI).length:Nat):Int)≠0:=by
   have hk:=ml;have:IntKind.u64.wrap ((((lu c).map encI).length:Nat):Int)=(lu c).length:=by rw[ml];exact Jn aw aw
   omega
  split
  rotate_left
  ·rename_i hno;exact(hno _ (yn O O O hw)).elim
  ·rename_i v e;have e':=e.symm.trans (yn O O O hw);cases e'
   refine dd ?_;have ew:IntKind.u64.wrap ((((lu c).map encI).length:Nat):Int)=(lu c).length:=by rw[ml];exact Jn aw aw
   have et:n.tmod (IntKind.u64.wrap ((((lu c).map encI).length:Nat):Int))=n%(lu c).length:=by rw[ew];exact uo hn.1
   have b0:0<=n%((lu c).length:Int):=eF _ h0;have b1:n%((lu c).length:Int)<(lu c).length:=eu _ aw;have hi:(n%((lu c).length:Int)).toNat<(lu c).length:=aw
   have gx:((lu c).map encI)[(n.tmod (IntKind.u64.wrap ((((lu c).map encI).length:Nat):Int))).toNat]?=some (encI ((lu c)[(n%((lu c).length:Int)).toNat]'hi)):=by rw[et,pj,pa hi];rfl
   refine⟨by show 0<=n.tmod (IntKind.u64.wrap ((((lu c).map encI).length:Nat):Int));rw[et];exact b0,_,gx,dd ?_⟩;rw[pa hi];exact uI
def Tu(a x b y:Int):tp 24 [] [I a,I x,I b,I y] (I (if y<x then b else a)) []:=by
 refine ab func24 ?_;refine⟨λh=>?_,λh=>?_⟩
 ·rw[pA (pF h)];exact dT
 ·rw[pw (sK h)];exact dT
def zgN(w:Wor)(m:lh)(v:lJ)(g:Gr)(e:En)(hv:Hw w m v g)(o0:0<=m.other)(ho:g.ends[m.other.toNat]?=some e):
  tp 189 [oW w,oM m] [.agg to] (Ce (nr m v 1 7 e.zj)) [oW w,oM ({m with end_:=if e.zj<m.i then m.other else m.end_,pc:=9})]:=by
 have er:(g.ends.map zF)[m.other.toNat]?=some (zF e):=by rw[pj,ho];rfl
 refine aa func189 ?_;refine .inl ⟨⟨true,[],[],[1]⟩,au,uH ?_⟩;refine af [0,1] (Sz w m v g hv) ?_;refine td ?_
 (refine⟨o0,_,er,dd ?_⟩)
 refine .inl ⟨⟨true,[],[],[15]⟩,au,uH ?_⟩;refine ah (Tu m.end_ m.i m.other e.zj) ?_;refine td ?_
 refine af [0,1] (Gc w {m with end_:=if e.zj<m.i then m.other else m.end_,pc:=9} v ⟨hv.v0,hv.at_⟩ 1 7 e.zj) ?_;exact di
structure BP(w:Wor)(m:lh)(v0:lJ)(g0:Gr):Prop where
 pv:0<=m.version
 lv:m.version.toNat<w.zd.length
 pg:0<=m.zi
 lg:m.zi.toNat<v0.zp.length
 pe:0<=m.end_
 le:m.end_.toNat<g0.ends.length
def m7.ln{w:Wor}{m:lh}{v0:lJ}{g0:Gr}{e0:En}(h:m7 w m v0 g0 e0):BP w m v0 g0:=⟨h.v0,(gZ.1 h.at_).1,h.g0,(gZ.1 h.mn).1,h.e0,(gZ.1 h.mM).1⟩
def Kp{P:Program}{f:FuncId}(sel:List Nat)(Kx:zo){K H0 H':zo}{args args0:List C}{r rx:C}(h:zc P f H0 args0 r H')(hR:qC H'=true)
 (hH:x7 sel K=H0)(ha:args.map (yq sel 9)=args0)(qj:sel.all (λid=>Nat.blt id K.length)=true)(m8:yI sel=true)(mU:qC K=true){k:C->zo->Prop}
 (hp:nR sel K H'=Kx)(hr:kb (jz sel K.length) 9 r=rx)(hk:k rx Kx):∃R,qF P f K args R/\∀r H2,R r H2->k r H2:=
 ⟨λx X=>x=rx/\X=Kx,(h.part sel hR hH ha qj m8 mU).nO ⟨hr,hp⟩,by rintro _ _ ⟨rfl,rfl⟩;exact hk⟩
def MN(w:Wor)(m:lh)(v0:lJ)(g0:Gr)(e0:En)(hv:BP w m v0 g0):tp 233 (hE w m m v0 g0 e0 g0.zx e0.head e0.zj []) [.agg to] (.ref 3 [] 2 m.zi.toNat 0) (hE w m m v0 g0 e0 g0.zx e0.head e0.zj []):=by
 have h0:=hv.pv;have g0':=hv.pg;have lv:m.version.toNat<w.zd.length:=hv.lv;have lg:m.zi.toNat<v0.zp.length:=hv.lg;have lowV:∀r∈mN w m v0 3,∀c∈r,jv 6 9 c=true:=zC (enc:=zJ) (λ_=>O) O _ _;have lowG:∀r∈mE m v0 g0 g0.zx 4,∀c∈r,jv 6 9 c=true:=zC (enc:=zI) (λ_=>O) O _ _;have lowE:∀r∈mr m g0 e0 e0.head 5 e0.zj,∀c∈r,jv 6 9 c=true:=zC (enc:=zF) (λ_=>O) O _ _;have e1:0+m.version.toNat=m.version.toNat:=pR _;have e2:0+m.zi.toNat=m.zi.toNat:=pR _;have gv:(mN w m v0 3)[m.version.toNat]?=some ((encS v0.snap++[C.sl 3 [] 2 0 v0.zp.length false,Bo v0.qd])):=pC hU;refine aa func233 ?_;refine uE ?_;refine⟨h0,lv,dd ?_⟩;rw[e1];refine⟨_,gv,c8,dd ?_⟩;refine⟨g0',lg,dd ?_⟩;rw[e2];exact dp
def wM(w:Wor)(m:lh)(v0:lJ)(g0:Gr)(e0:En)(hv:BP w m v0 g0):tp 237 (hE w m m v0 g0 e0 g0.zx e0.head e0.zj []) [.agg to] (.ref 4 [] 3 m.end_.toNat 0) (hE w m m v0 g0 e0 g0.zx e0.head e0.zj []):=by
 have h0:=hv.pe;have lg:m.zi.toNat<v0.zp.length:=hv.lg;have le:m.end_.toNat<g0.ends.length:=hv.le;have ownV:∀r∈mN w m v0 3,∀c∈r,zB c=true:=zC (enc:=zJ) (λ_=>O) O _ _;have ownG:∀r∈mE m v0 g0 g0.zx 4,∀c∈r,zB c=true:=zC (enc:=zI) (λ_=>O) O _ _;have ownE:∀r∈mr m g0 e0 e0.head 5 e0.zj,∀c∈r,zB c=true:=zC (enc:=zF) (λ_=>O) O _ _;have lowV:∀r∈mN w m v0 3,∀c∈r,jv 6 9 c=true:=zC (enc:=zJ) (λ_=>O) O _ _;have lowG:∀r∈mE m v0 g0 g0.zx 4,∀c∈r,jv 6 9 c=true:=zC (enc:=zI) (λ_=>O) O _ _;have lowE:∀r∈mr m g0 e0 e0.head 5 e0.zj,∀c∈r,jv 6 9 c=true:=zC (enc:=zF) (λ_=>O) O _ _;have e2:0+m.end_.toNat=m.end_.toNat:=pR _;have gg:(mE m v0 g0 g0.zx 4)[m.zi.toNat]?=some ([U g0.zx,C.sl 4 [] 3 0 g0.ends.length false]):=pC tT;refine aa func237 ?_;refine .inl ⟨⟨true,[],[],[1]⟩,au,uH ?_⟩;refine qg [0,1,2,3,4,5] (hE w m m v0 g0 e0 g0.zx e0.head e0.zj [⟨1,245,2,[to],0⟩]) (rx:=.ref 3 [] 2 m.zi.toNat 0) (MN w m v0 g0 e0 hv) (ze O (ze O (ze (zl ownV) (ze (zl ownG) (ze (zl ownE) O))))) uT O O O (ze O (ze O (ze (zl ownV) (ze (zl ownG) (ze (zl ownE) O))))) uU O (dd ?_);refine⟨_,gg,c9,dd ?_⟩;refine⟨h0,le,dd ?_⟩;rw[e2];exact dp
def zst(w:Wor)(m:lh)(v0:lJ)(g0:Gr)(e0:En)(hv:BP w m v0 g0)(a b c:Int):tp 236 (hE w m m v0 g0 e0 g0.zx e0.head e0.zj []) [.agg to,I a,I b,I c] (Ce (nr m v0 a b c)) (hE w m m v0 g0 e0 g0.zx e0.head e0.zj []):=by
 have h0:=hv.pv;have lv:m.version.toNat<w.zd.length:=hv.lv;have e1:0+m.version.toNat=m.version.toNat:=pR _
 clear hv
 obtain⟨sn,gs,fr⟩:=v0;cases fr
 all_goals
  have ownV:∀b,∀r∈(w.zd.map zJ).set m.version.toNat (encS sn++[C.sl 3 [] 2 0 gs.length false,Bo b]),∀c∈r,zB c=true:=λb=>zC (enc:=zJ) (λ_=>O) O _ _
  have ownG:∀r∈(gs.map zI).set m.zi.toNat ([U g0.zx,C.sl 4 [] 3 0 g0.ends.length false]),∀c∈r,zB c=true:=zC (enc:=zI) (λ_=>O) O _ _;have ownE:∀r∈mr m g0 e0 e0.head 5 e0.zj,∀c∈r,zB c=true:=zC (enc:=zF) (λ_=>O) O _ _;have lowV:∀b,∀r∈(w.zd.map zJ).set m.version.toNat (encS sn++[C.sl 3 [] 2 0 gs.length false,Bo b]),∀c∈r,jv 6 9 c=true:=λb=>zC (enc:=zJ) (λ_=>O) O _ _
  have gv:∀b,((w.zd.map zJ).set m.version.toNat (encS sn++[C.sl 3 [] 2 0 gs.length false,Bo b]))[m.version.toNat]?=some (encS sn++[C.sl 3 [] 2 0 gs.length false,Bo b]):=λb=>pC hU
  have lowG:∀r∈(gs.map zI).set m.zi.toNat ([U g0.zx,C.sl 4 [] 3 0 g0.ends.length false]),∀c∈r,jv 6 9 c=true:=zC (enc:=zI) (λ_=>O) O _ _;have lowE:∀r∈mr m g0 e0 e0.head 5 e0.zj,∀c∈r,jv 6 9 c=true:=zC (enc:=zF) (λ_=>O) O _ _;refine aa func236 ?_;refine qg [1] [⟨1,38,8,[(oF w 2)],0⟩,oM m,⟨1,0,5,(w.zd.map zJ).set m.version.toNat (encS sn++[C.sl 3 [] 2 0 gs.length false,Bo _]),0⟩,⟨1,0,2,(gs.map zI).set m.zi.toNat ([U g0.zx,C.sl 4 [] 3 0 g0.ends.length false]),0⟩,⟨1,0,3,mr m g0 e0 e0.head 5 e0.zj,0⟩,⟨2,3,1,e0.next.map encI,0⟩,⟨1,245,2,[to],0⟩,oE qV] (rx:=Ce (mD m a b c)) (jY m a b c) O O O O O (ze O (ze O (ze (zl (ownV _)) (ze (zl ownG) (ze (zl ownE) O))))) O O (dd ?_);refine .inl ⟨⟨false,[6,9,11,14,17],[0,1,2,6],[]⟩,au,uH ?_⟩;refine⟨h0,lv,dd ?_⟩;rw[e1];refine⟨_,gv _,(by show 4+1<=5;decide),dd ?_⟩
  first|((refine ya (dd ?_)))|((refine yb (dd ?_)))
  refine td ?_
  exact⟨.inl O,_,_,.refl _,rfl,zt.yi 6 tc O O O (zO O (zO O (zO (qx (lowV _)) (zO (qx lowG) (zO (qx lowE) O))))) O⟩
abbrev Rn(e:En)(n:Int):En:={e with zj:=IntKind.i64.wrap (e.zj+n)}
def zmH(w:Wor)(m:lh)(v0:lJ)(g0:Gr)(e0:En)(hv:BP w m v0 g0):tp 193 (hE w m m v0 g0 e0 g0.zx e0.head e0.zj []) [.agg to] (Ce (nr m v0 3 7 (IntKind.i64.wrap (e0.zj+1))))
  [⟨1,38,8,[(oF w 2)],0⟩,oM ({m with answer:=⟨1,m.version,m.zi,m.end_,m.slot,m.listen,0,⟨0,0,0,0,0,0⟩⟩,pc:=20}),⟨1,0,5,mN w m v0 3,0⟩,⟨1,0,2,mE m v0 g0 g0.zx 4,0⟩,⟨1,0,3,(g0.ends.map zF).set m.end_.toNat [U e0.head,C.sl 5 [] 1 0 e0.next.length false,I (IntKind.i64.wrap (e0.zj+1))],0⟩,⟨2,3,1,e0.next.map encI,0⟩]:=by
 have le:=hv.le;have ownV:∀r∈mN w m v0 3,∀c∈r,zB c=true:=zC (enc:=zJ) (λ_=>O) O _ _;have ownG:∀r∈mE m v0 g0 g0.zx 4,∀c∈r,zB c=true:=zC (enc:=zI) (λ_=>O) O _ _;have ownE:∀r∈mr m g0 e0 e0.head 5 e0.zj,∀c∈r,zB c=true:=zC (enc:=zF) (λ_=>O) O _ _;have ge:(mr m g0 e0 e0.head 5 e0.zj)[m.end_.toNat]?=some ([U e0.head,C.sl 5 [] 1 0 e0.next.length false,I e0.zj]):=pC tO;refine aa func193 ?_;refine Kp [0,1,2,3,4,5] (hE w m m v0 g0 e0 g0.zx e0.head e0.zj [⟨1,245,2,[to],0⟩,oE qV]) (rx:=.ref 4 [] 3 m.end_.toNat 0) (wM w m v0 g0 e0 hv) (ze O (ze O (ze (zl ownV) (ze (zl ownG) (ze (zl ownE) O))))) uT O O O (ze O (ze O (ze (zl ownV) (ze (zl ownG) (ze (zl ownE) O))))) uU O (dd ?_);refine⟨_,ge,da,dd ?_⟩;refine⟨_,ge,rfl,dd ?_⟩;rw[rz];refine uE ?_;have ownE2:∀r∈(g0.ends.map zF).set m.end_.toNat [U e0.head,C.sl 5 [] 1 0 e0.next.length false,I (IntKind.i64.wrap (e0.zj+1))],∀c∈r,zB c=true:=zC (enc:=zF) (λ_=>O) O _ _;refine .inl ⟨⟨true,[],[],[2,6]⟩,au,uH ?_⟩;have hv2:BP w {m with answer:=⟨1,m.version,m.zi,m.end_,m.slot,m.listen,0,⟨0,0,0,0,0,0⟩⟩,pc:=20} v0 g0:=⟨hv.pv,hv.lv,hv.pg,hv.lg,hv.pe,hv.le⟩;have ge2:((g0.ends.map zF).set m.end_.toNat [U e0.head,C.sl 5 [] 1 0 e0.next.length false,I (IntKind.i64.wrap (e0.zj+1))])[m.end_.toNat]?=some [U e0.head,C.sl 5 [] 1 0 e0.next.length false,I (IntKind.i64.wrap (e0.zj+1))]:=pC tO;have lowV:∀r∈mN w m v0 3,∀c∈r,jv 6 9 c=true:=zC (enc:=zJ) (λ_=>O) O _ _;have lowG:∀r∈mE m v0 g0 g0.zx 4,∀c∈r,jv 6 9 c=true:=zC (enc:=zI) (λ_=>O) O _ _;have lowE:∀r∈(g0.ends.map zF).set m.end_.toNat [U e0.head,C.sl 5 [] 1 0 e0.next.length false,I (IntKind.i64.wrap (e0.zj+1))],∀c∈r,jv 6 9 c=true:=zC (enc:=zF) (λ_=>O) O _ _;refine qg [0,1,2,3,4,5] [⟨1,38,8,[(oF w 2)],0⟩,oM ({m with answer:=⟨1,m.version,m.zi,m.end_,m.slot,m.listen,0,⟨0,0,0,0,0,0⟩⟩,pc:=20}),⟨1,0,5,mN w m v0 3,0⟩,⟨1,0,2,mE m v0 g0 g0.zx 4,0⟩,⟨1,0,3,(g0.ends.map zF).set m.end_.toNat [U e0.head,C.sl 5 [] 1 0 e0.next.length false,I (IntKind.i64.wrap (e0.zj+1))],0⟩,⟨2,3,1,e0.next.map encI,0⟩,⟨1,245,2,[to],0⟩,oE qV] (rx:=.ref 4 [] 3 m.end_.toNat 0) (wM w _ v0 g0 (Rn e0 1) hv2) (ze O (ze O (ze (zl ownV) (ze (zl ownG) (ze (zl ownE2) O))))) uT O O O (ze O (ze O (ze (zl ownV) (ze (zl ownG) (ze (zl ownE2) O))))) uU O (dd ?_);refine⟨_,ge2,da,dd ?_⟩;refine qg [0,1,2,3,4,5] [⟨1,38,8,[(oF w 2)],0⟩,oM ({m with answer:=⟨1,m.version,m.zi,m.end_,m.slot,m.listen,0,⟨0,0,0,0,0,0⟩⟩,pc:=20}),⟨1,0,5,mN w m v0 3,0⟩,⟨1,0,2,mE m v0 g0 g0.zx 4,0⟩,⟨1,0,3,(g0.ends.map zF).set m.end_.toNat [U e0.head,C.sl 5 [] 1 0 e0.next.length false,I (IntKind.i64.wrap (e0.zj+1))],0⟩,⟨2,3,1,e0.next.map encI,0⟩,⟨1,245,2,[to],0⟩,oE qV] (rx:=Ce (nr m v0 3 7 (IntKind.i64.wrap (e0.zj+1)))) (zst w _ v0 g0 (Rn e0 1) hv2 3 7 (IntKind.i64.wrap (e0.zj+1))) (ze O (ze O (ze (zl ownV) (ze (zl ownG) (ze (zl ownE2) O))))) uT O O O (ze O (ze O (ze (zl ownV) (ze (zl ownG) (ze (zl ownE2) O))))) uU O (dd ?_);exact dp
end Go.Wor
