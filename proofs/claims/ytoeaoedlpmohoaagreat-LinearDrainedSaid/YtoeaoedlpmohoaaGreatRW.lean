import Derived.Test.YtoeaoedlpmohoaaGreatRV
set_option linter.all false
set_option maxRecDepth 100000
set_option maxHeartbeats 4000000
namespace Go.Wor
open Go.Ab Go.Proofs Tryz Go.Hy Go.Gat Go.Nam Go.Hos Go.Con Go.Sna
abbrev fV(m:fq)(a b c:Int):fx:=⟨m.zf,0,a,b, -1,false,c,false,false,false,m8⟩
abbrev iF(m:fq)(v:fB)(a b c:Int):fx:=⟨m.zf,0,a,b,m.version,v.qt,c,false,false,false,m8⟩
def jx(m:fq)(a b c:Int):tn 230 [⟨1,95,44,[zE (m)],0⟩] [.agg [.za,.ref 0 [] 44 0 0],I a,I b,I c] (Ce (fV m a b c)) [⟨1,95,44,[zE (m)],0⟩]:=by
 refine aa func230 ?_;exact dS
abbrev mq(n:Int):fF:=⟨n,0,0,0,0,0,0,⟨0,0,0,0,0,0⟩⟩
abbrev nD(m:fq)(n:Int):fq:={ m with answer:=mq n,pc:=20 }
def vR(m:fq)(n:Int):tn 231 [⟨1,95,44,[zE (m)],0⟩] [.agg [.za,.ref 0 [] 44 0 0],I n] (.fC []) [⟨1,95,44,[zE (nD m n)],0⟩]:=by
 refine aa func231 ?_;refine .inl ⟨⟨false,[3],[1],[]⟩,au,uH ?_⟩;refine hZ ?_
 exact⟨.inr rfl,_,_,.refl _,rfl,cE 1⟩
structure oA(w:Wor)(m:fq)(v:fB):Prop where
 v0:0<=m.version
 at_:w.ze[m.version.toNat]?=some v
def oA.row{w:Wor}{m:fq}{v:fB}(h:oA w m v):(w.ze.map zK)[m.version.toNat]?=some (zK v):=by rw[gz,h.at_];rfl
def wz(w:Wor)(m:fq)(v:fB)(hv:oA w m v)(a b c:Int):tn 236 [⟨1,38,8,[zU w],0⟩,⟨1,95,44,[zE (m)],0⟩] [.agg tj,I a,I b,I c] (Ce (iF m v a b c)) [⟨1,38,8,[zU w],0⟩,⟨1,95,44,[zE (m)],0⟩]:=by
 have h0:=hv.v0;have hr:=hv.row;obtain⟨sn,gs,fr⟩:=v;cases fr
 all_goals
  refine aa func236 ?_;refine af [1] (jx m a b c) ?_;refine .inl ⟨⟨false,[6,9,11,14,17],[0,1,2],[]⟩,au,uH ?_⟩;(refine⟨h0,_,hr,dd ?_⟩)
  first|((refine ya (dd ?_)))|((refine yb (dd ?_)))
  refine hZ ?_
  exact cW
def FP{P:Program}{f:FuncId}(sel:List Nat){K H0 H':zl}{args args0:List C}{r:C}(h:zb P f H0 args0 r H')(hR:qY H'=true)
 (hH:xA sel K=H0)(ha:args.map (xW sel 9)=args0)(qc:sel.all (λid=>Nat.blt id K.length)=true)(iv:yd sel=true)(ir:qY K=true){k:C->zl->Prop}
 (hk:AA (wc sel K H') λX=>qT (yP (jc sel K.length) 9 r) λc=>k c X):∃R',qs P f K args R'/\∀r H2,R' r H2->k r H2:=
 Lk sel (h.mi (R:=λx X=>x=r/\X=H') ⟨rfl,rfl⟩) (λ_ _ e=>e.2 ▸ hR) hH ha qc iv ir (by rintro _ _ ⟨rfl,rfl⟩;exact hk)
structure Df(w:Wor)(m:fq)(v:fB)(g:Gr):Prop extends oA w m v where
 g0:0<=m.zg
 fR:v.zm[m.zg.toNat]?=some g
def Df.zyk{w:Wor}{m:fq}{v:fB}{g:Gr}(h:Df w m v g):(v.zm.map zF)[m.zg.toNat]?=some (zF g):=by rw[gz,h.fR];rfl
structure iz(w:Wor)(m:fq)(v:fB)(g:Gr)(e:En):Prop extends Df w m v g where
 e0:0<=m.end_
 ia:g.ends[m.end_.toNat]?=some e
def iz.zyj{w:Wor}{m:fq}{v:fB}{g:Gr}{e:En}(h:iz w m v g e):(g.ends.map zx)[m.end_.toNat]?=some (zx e):=by rw[gz,h.ia];rfl
def Lh(w:Wor)(m:fq)(v:fB)(g:Gr)(hv:Df w m v g):tn 233 [⟨1,38,8,[zU w],0⟩,⟨1,95,44,[zE (m)],0⟩] [.agg tj] (.jU (zF g)) [⟨1,38,8,[zU w],0⟩,⟨1,95,44,[zE (m)],0⟩]:=by
 have h0:=hv.v0;have hr:=hv.row;have g0:=hv.g0;have gr:=hv.zyk;refine aa func233 ?_;refine uE ?_;(refine⟨h0,_,hr,dd ?_⟩)
 (refine⟨g0,_,gr,dd ?_⟩)
 exact cW
def wj(w:Wor)(m:fq)(v:fB)(g:Gr)(e:En)(hv:iz w m v g e):tn 237 [⟨1,38,8,[zU w],0⟩,⟨1,95,44,[zE (m)],0⟩] [.agg tj] (.jU (zx e)) [⟨1,38,8,[zU w],0⟩,⟨1,95,44,[zE (m)],0⟩]:=by
 have e0:=hv.e0;have er:=hv.zyj;refine aa func237 ?_;refine .inl ⟨⟨true,[],[],[1]⟩,au,uH ?_⟩;refine af [0,1] (Lh w m v g hv.toDf) ?_;refine hZ ?_
 (refine⟨e0,_,er,dd ?_⟩)
 exact cW
def ki(w:Wor)(m:fq)(v:fB)(c:ic)(hv:oA w m v)(c0:0<=m.zg)(hc:v.snap.zk[m.zg.toNat]?=some c):tn 235 [⟨1,38,8,[zU w],0⟩,⟨1,95,44,[zE (m)],0⟩] [.agg tj] (Cc c) [⟨1,38,8,[zU w],0⟩,⟨1,95,44,[zE (m)],0⟩]:=by
 have h0:=hv.v0;have hr:=hv.row;have cr:(v.snap.zk.map xc)[m.zg.toNat]?=some (xc c):=by rw[gz,hc];rfl
 refine aa func235 ?_;refine uE ?_;(refine⟨h0,_,hr,dd ?_⟩)
 (refine⟨c0,_,cr,dd ?_⟩)
 exact cW
def QK(w:Wor)(m:fq)(v:fB)(g:Gr)(e:En)(hv:iz w m v g e){x:Int}(s0:0<=m.slot)(hx:e.next[m.slot.toNat]?=some x):
  tn 191 [⟨1,38,8,[zU w],0⟩,⟨1,95,44,[zE (m)],0⟩] [.agg tj] (Ce (iF m v 1 9 x)) [⟨1,38,8,[zU w],0⟩,⟨1,95,44,[zE ({ m with link:=x,pc:=11 })],0⟩]:=by
 have er:(e.next.map encI)[m.slot.toNat]?=some (encI x):=by rw[gz,hx];rfl
 refine aa func191 ?_;refine .inl ⟨⟨true,[3],[2],[5]⟩,au,uH ?_⟩;refine af [0,1] (wj w m v g e hv) ?_;refine hZ ?_
 (refine⟨s0,_,er,dd ?_⟩)
 refine hZ ?_
 refine .inl ⟨⟨true,[],[],[]⟩,au,uH ?_⟩;refine af [0,1] (wz w { m with link:=x,pc:=11 } v ⟨hv.v0,hv.at_⟩ 1 9 x) ?_;exact cW
def Qn(w:Wor)(m:fq)(v:fB)(g:Gr)(e:En)(hv:iz w m v g e):
  tn 188 [⟨1,38,8,[zU w],0⟩,⟨1,95,44,[zE (m)],0⟩] [.agg tj] (Ce (iF m v 1 7 e.zi)) [⟨1,38,8,[zU w],0⟩,⟨1,95,44,[zE ({ m with i:=e.zi,pc:=8 })],0⟩]:=by
 refine aa func188 ?_;refine .inl ⟨⟨true,[3],[2],[5]⟩,au,uH ?_⟩;refine af [0,1] (wj w m v g e hv) ?_;refine hZ ?_
 refine hZ ?_
 refine .inl ⟨⟨true,[],[],[]⟩,au,uH ?_⟩;refine af [0,1] (wz w { m with i:=e.zi,pc:=8 } v ⟨hv.v0,hv.at_⟩ 1 7 e.zi) ?_;exact cW
def QJ(w:Wor)(m:fq)(v:fB)(g:Gr)(e:En)(hv:iz w m v g e)(he:u64 e.head)(hi:0<=e.head%4294967296-1/\e.head%4294967296-1<e.next.length):
  tn 190 [⟨1,38,8,[zU w],0⟩,⟨1,95,44,[zE (m)],0⟩] [.agg tj] (Ce (iF m v 1 8 (e.head%4294967296-1))) [⟨1,38,8,[zU w],0⟩,⟨1,95,44,[zE ({ m with word:=e.head,slot:=e.head%4294967296-1,pc:=10 })],0⟩]:=by
 have hi1:=hi.1;have hi2:=hi.2;have ml:(e.next.map encI).length=e.next.length:=gE ..;refine aa func190 ?_;refine FP [0,1] (wj w m v g e hv) rfl rfl rfl rfl rfl rfl (dd ?_);refine ah (Slp.qQ e.head he) ?_;refine⟨λh=>absurd h aA,λ_=>dd ?_⟩;refine FP [0,1] (wj w { m with word:=e.head } v g e ⟨⟨⟨hv.v0,hv.at_⟩,hv.g0,hv.fR⟩,hv.e0,hv.ia⟩) rfl rfl rfl rfl rfl rfl (dd ?_);rw[ml];refine⟨λh=>absurd h aA,λ_=>dd ?_⟩;refine af [0,1] (wz w { m with word:=e.head,slot:=e.head%4294967296-1,pc:=10 } v ⟨hv.v0,hv.at_⟩ 1 8 (e.head%4294967296-1)) ?_;exact cW
def R9(w:Wor)(m:fq)(x:fQ)(h0:0<=m.listen)(hx:w.zd[m.listen.toNat]?=some x):
  tn 185 [⟨1,38,8,[[I w.zr,I w.current,I w.lock,lI w.pins,lV w.ze,.sl 2 [] 4 0 w.zd.length false,ig w.counts,lR w.zu]],0⟩,⟨1,95,44,[zE (m)],0⟩,⟨2,76,4,(w.zd).map qW,0⟩] [.agg tj] (Ce (fV m 3 5 (IntKind.i64.wrap (x.zi+1))))
   [⟨1,38,8,[[I w.zr,I w.current,I w.lock,lI w.pins,lV w.ze,.sl 2 [] 4 0 w.zd.length false,ig w.counts,lR w.zu]],0⟩,⟨1,95,44,[zE ({ m with pc:=5 })],0⟩,⟨2,76,4,(w.zd.set m.listen.toNat { x with zi:=IntKind.i64.wrap (x.zi+1) }).map qW,0⟩]:=by
 have e1:0+m.listen.toNat=m.listen.toNat:=gN _;have ft:m.listen.toNat<w.zd.length:=(gm.1 hx).1;have gx:(w.zd.map qW)[m.listen.toNat]?=some (qW x):=by rw[gz,hx];rfl
 refine aa func185 ?_;have hst:(w.zd.map qW).set m.listen.toNat [Tx x.name,Bo x.drain,I (IntKind.i64.wrap (x.zi+1)),Bo x.closed]=(w.zd.set m.listen.toNat { x with zi:=IntKind.i64.wrap (x.zi+1) }).map qW:=bR
 have gx2:((w.zd.set m.listen.toNat { x with zi:=IntKind.i64.wrap (x.zi+1) }).map qW)[m.listen.toNat]?=some (qW { x with zi:=IntKind.i64.wrap (x.zi+1) }):=by rw[gz,gD ft];rfl
 refine uE ?_;refine⟨h0,ft,dd ?_⟩;rw[e1];refine⟨_,gx,cM,dd ?_⟩;refine⟨_,gx,rfl,dd ?_⟩;rw[hst];refine .inl ⟨⟨true,[],[],[]⟩,au,uH ?_⟩;refine⟨_,gx2,cM,dd ?_⟩;refine af [1] (jx { m with pc:=5 } 3 5 (IntKind.i64.wrap (x.zi+1))) ?_;exact⟨.inl rfl,_,_,.refl _,rfl,cE 3⟩
def R0(w:Wor)(m:fq)(x:fQ)(h0:0<=m.listen)(hx:w.zd[m.listen.toNat]?=some x):
  tn 196 [⟨1,38,8,[[I w.zr,I w.current,I w.lock,lI w.pins,lV w.ze,.sl 2 [] 4 0 w.zd.length false,ig w.counts,lR w.zu]],0⟩,⟨1,95,44,[zE (m)],0⟩,⟨2,76,4,(w.zd).map qW,0⟩] [.agg tj] (Ce (fV m 3 5 (IntKind.i64.wrap (x.zi-1))))
   [⟨1,38,8,[[I w.zr,I w.current,I w.lock,lI w.pins,lV w.ze,.sl 2 [] 4 0 w.zd.length false,ig w.counts,lR w.zu]],0⟩,⟨1,95,44,[zE ({ m with pc:=23 })],0⟩,⟨2,76,4,(w.zd.set m.listen.toNat { x with zi:=IntKind.i64.wrap (x.zi-1) }).map qW,0⟩]:=by
 have e1:0+m.listen.toNat=m.listen.toNat:=gN _;have ft:m.listen.toNat<w.zd.length:=(gm.1 hx).1;have gx:(w.zd.map qW)[m.listen.toNat]?=some (qW x):=by rw[gz,hx];rfl
 refine aa func196 ?_;have hst:(w.zd.map qW).set m.listen.toNat [Tx x.name,Bo x.drain,I (IntKind.i64.wrap (x.zi-1)),Bo x.closed]=(w.zd.set m.listen.toNat { x with zi:=IntKind.i64.wrap (x.zi-1) }).map qW:=bR
 have gx2:((w.zd.set m.listen.toNat { x with zi:=IntKind.i64.wrap (x.zi-1) }).map qW)[m.listen.toNat]?=some (qW { x with zi:=IntKind.i64.wrap (x.zi-1) }):=by rw[gz,gD ft];rfl
 refine uE ?_;refine⟨h0,ft,dd ?_⟩;rw[e1];refine⟨_,gx,cM,dd ?_⟩;refine⟨_,gx,rfl,dd ?_⟩;rw[hst];refine .inl ⟨⟨true,[],[],[]⟩,au,uH ?_⟩;refine⟨_,gx2,cM,dd ?_⟩;refine af [1] (jx { m with pc:=23 } 3 5 (IntKind.i64.wrap (x.zi-1))) ?_;exact⟨.inl rfl,_,_,.refl _,rfl,cE 3⟩
def zY{P:Program}{f:FuncId}(sel:List Nat)(Kx:zl){K H0 H':zl}{args args0:List C}{r rx:C}(h:zb P f H0 args0 r H')(hR:qY H'=true)
 (hH:xA sel K=H0)(ha:args.map (xW sel 9)=args0)(qc:sel.all (λid=>Nat.blt id K.length)=true)(iv:yd sel=true)(ir:qY K=true){k:C->zl->Prop}
 (hp:wc sel K H'=Kx)(hr:yP (jc sel K.length) 9 r=rx)(hk:okB rx λc=>k c Kx):∃r H2,zb P f K args r H2/\okB r λc=>k c H2:=
 ⟨_,_,h.part sel hR hH ha qc iv ir,by rw[hp,hr];exact hk⟩
def zJ{n:Nat}{x:Ob}{H:zl}(h1:qV n [x]=true)(h2:qV n H=true):qV n (x::H)=true:=by
 unfold qV at *;simp only[sg,uw,uh] at *;rw[h1,h2];rfl
def qk{n ty sz fz:Nat}{rows:List (List C)}(h:∀r∈rows,∀c∈r,jg n 9 c=true):qV n [⟨1,ty,sz,rows,fz⟩]=true:=by
 unfold qV;simp only[sg,uw,uh];have:(rows.all λr=>r.all (jg n 9))=true:=gI.2 λr hr=>gI.2 λc hc=>h r hr c hc
 rw[this];simp
def QO(w:Wor)(m:fq)(r0:List Int)(x:Int)(h0:0<=m.zf)(hr:w.counts[m.zf.toNat]?=some r0)(hx:r0[0]?=some x):
  tn 195 [⟨1,38,8,[[I w.zr,I w.current,I w.lock,lI w.pins,lV w.ze,lL w.zd,.sl 2 [] 1 0 w.counts.length false,lR w.zu]],0⟩,⟨1,95,44,[zE (m)],0⟩,⟨1,0,1,(w.counts.map zP).set m.zf.toNat [C.sl 3 [] 1 0 r0.length false],0⟩,⟨2,48,1,(r0).map jW,0⟩] [.agg tj] (Ce (fV m 3 10 0))
   [⟨1,38,8,[[I w.zr,I w.current,I w.lock,lI w.pins,lV w.ze,lL w.zd,.sl 2 [] 1 0 w.counts.length false,lR w.zu]],0⟩,⟨1,95,44,[zE ({ m with pc:=if m.answer.kind=1\/m.listen<0 then 23 else 22 })],0⟩,⟨1,0,1,(w.counts.map zP).set m.zf.toNat [C.sl 3 [] 1 0 r0.length false],0⟩,⟨2,48,1,(r0.set 0 (IntKind.u64.wrap (x+1))).map jW,0⟩]:=by
 have e1:0+m.zf.toNat=m.zf.toNat:=gN _;have ft:m.zf.toNat<w.counts.length:=(gm.1 hr).1;have gt:((w.counts.map zP).set m.zf.toNat [C.sl 3 [] 1 0 r0.length false])[m.zf.toNat]?=some [C.sl 3 [] 1 0 r0.length false]:=gD (aq ft);have gx:(r0.map jW)[0]?=some (jW x):=by rw[gz,hx];rfl
 have hl0:0<r0.length:=(gm.1 hx).1;have hst:(r0.map jW).set 0 [U (IntKind.u64.wrap (x+1))]=(r0.set 0 (IntKind.u64.wrap (x+1))).map jW:=bR
 have own:∀r∈(w.counts.map zP).set m.zf.toNat [C.sl 3 [] 1 0 r0.length false],∀c∈r,zy c=true:=zB (enc:=zP) (λ_=>rfl) rfl _ _;have low:∀r∈(w.counts.map zP).set m.zf.toNat [C.sl 3 [] 1 0 r0.length false],∀c∈r,jg 4 9 c=true:=zB (enc:=zP) (λ_=>rfl) rfl _ _;refine aa func195 ?_;refine uE ?_;refine⟨h0,ft,dd ?_⟩;rw[e1];refine⟨_,gt,hC,dd ?_⟩;refine⟨ar,hl0,dd ?_⟩;refine⟨_,gx,hC,dd ?_⟩;refine⟨ar,hl0,dd ?_⟩;refine⟨_,gx,rfl,dd ?_⟩;have hst2:(r0.map jW).set (0+Int.toNat 0) [U (IntKind.u64.wrap (x+1))]=(r0.set 0 (IntKind.u64.wrap (x+1))).map jW:=hst;rw[hst2];refine⟨λh1=>?_,λh1=>?_⟩
 ·rw[gC (.inl (pA h1))];refine dd ?_;refine tc ?_
  refine zY [1] [⟨1,38,8,[[I w.zr,I w.current,I w.lock,lI w.pins,lV w.ze,lL w.zd,.sl 2 [] 1 0 w.counts.length false,lR w.zu]],0⟩,⟨1,95,44,[zE ({ m with pc:=23 })],0⟩,⟨1,0,1,(w.counts.map zP).set m.zf.toNat [C.sl 3 [] 1 0 r0.length false],0⟩,⟨2,48,1,(r0.set 0 (IntKind.u64.wrap (x+1))).map jW,0⟩,⟨1,245,2,[tj],0⟩,⟨1,55,23,[zS qH],0⟩] (rx:=Ce (fV { m with pc:=23 } 3 10 0)) (jx { m with pc:=23 } 3 10 0) rfl rfl rfl rfl rfl (zc rfl (zc rfl (zc (zj own) rfl))) rfl rfl (dd ?_);exact c9
 ·refine dd ?_;refine⟨λh2=>?_,λh2=>?_⟩
  ·rw[gC (.inr (pA h2))];refine dd ?_;refine tc ?_
   refine zY [1] [⟨1,38,8,[[I w.zr,I w.current,I w.lock,lI w.pins,lV w.ze,lL w.zd,.sl 2 [] 1 0 w.counts.length false,lR w.zu]],0⟩,⟨1,95,44,[zE ({ m with pc:=23 })],0⟩,⟨1,0,1,(w.counts.map zP).set m.zf.toNat [C.sl 3 [] 1 0 r0.length false],0⟩,⟨2,48,1,(r0.set 0 (IntKind.u64.wrap (x+1))).map jW,0⟩,⟨1,245,2,[tj],0⟩,⟨1,55,23,[zS qH],0⟩] (rx:=Ce (fV { m with pc:=23 } 3 10 0)) (jx { m with pc:=23 } 3 10 0) rfl rfl rfl rfl rfl (zc rfl (zc rfl (zc (zj own) rfl))) rfl rfl (dd ?_);exact c9
  ·rw[gu (λh=>h.elim (rD h1) (rD h2))];refine dd ?_;refine tc ?_
   refine zY [1] [⟨1,38,8,[[I w.zr,I w.current,I w.lock,lI w.pins,lV w.ze,lL w.zd,.sl 2 [] 1 0 w.counts.length false,lR w.zu]],0⟩,⟨1,95,44,[zE ({ m with pc:=22 })],0⟩,⟨1,0,1,(w.counts.map zP).set m.zf.toNat [C.sl 3 [] 1 0 r0.length false],0⟩,⟨2,48,1,(r0.set 0 (IntKind.u64.wrap (x+1))).map jW,0⟩,⟨1,245,2,[tj],0⟩,⟨1,55,23,[zS qH],0⟩] (rx:=Ce (fV { m with pc:=22 } 3 10 0)) (jx { m with pc:=22 } 3 10 0) rfl rfl rfl rfl rfl (zc rfl (zc rfl (zc (zj own) rfl))) rfl rfl (dd ?_);exact c9
def oK(n:Int):Int:=if n<1\/5<n then 0 else n
def QH(w:Wor)(m:fq)(r0:List Int)(x k:Int)(hk:oK m.answer.kind=k)(h0:0<=m.zf)(hr:w.counts[m.zf.toNat]?=some r0)(hx:r0[k.toNat]?=some x):
  tn 194 [⟨1,38,8,[[I w.zr,I w.current,I w.lock,lI w.pins,lV w.ze,lL w.zd,.sl 2 [] 1 0 w.counts.length false,lR w.zu]],0⟩,⟨1,95,44,[zE (m)],0⟩,⟨1,0,1,(w.counts.map zP).set m.zf.toNat [C.sl 3 [] 1 0 r0.length false],0⟩,⟨2,48,1,(r0).map jW,0⟩] [.agg tj] (Ce (fV m 3 10 k))
   [⟨1,38,8,[[I w.zr,I w.current,I w.lock,lI w.pins,lV w.ze,lL w.zd,.sl 2 [] 1 0 w.counts.length false,lR w.zu]],0⟩,⟨1,95,44,[zE ({ m with pc:=21 })],0⟩,⟨1,0,1,(w.counts.map zP).set m.zf.toNat [C.sl 3 [] 1 0 r0.length false],0⟩,⟨2,48,1,(r0.set k.toNat (IntKind.u64.wrap (x+1))).map jW,0⟩]:=by
 have e1:0+m.zf.toNat=m.zf.toNat:=gN _;have k0:0<=k:=by rw[<-hk];unfold oK;split <;> omega
 have k1:k.toNat<r0.length:=(gm.1 hx).1;have ft:m.zf.toNat<w.counts.length:=(gm.1 hr).1;have gt:((w.counts.map zP).set m.zf.toNat [C.sl 3 [] 1 0 r0.length false])[m.zf.toNat]?=some [C.sl 3 [] 1 0 r0.length false]:=gD (aq ft);have gx:(r0.map jW)[0+k.toNat]?=some (jW x):=by rw[gN,gz,hx];rfl
 have hst:(r0.map jW).set (0+k.toNat) [U (IntKind.u64.wrap (x+1))]=(r0.set k.toNat (IntKind.u64.wrap (x+1))).map jW:=by rw[gN,rH];rfl
 have own:∀r∈(w.counts.map zP).set m.zf.toNat [C.sl 3 [] 1 0 r0.length false],∀c∈r,zy c=true:=zB (enc:=zP) (λ_=>rfl) rfl _ _;have low:∀r∈(w.counts.map zP).set m.zf.toNat [C.sl 3 [] 1 0 r0.length false],∀c∈r,jg 4 9 c=true:=zB (enc:=zP) (λ_=>rfl) rfl _ _;refine aa func194 ?_;refine⟨λh1=>?_,λh1=>?_⟩
 ·obtain rfl:k=0:=by rw[<-hk];unfold oK;rw[gC (.inl (pA h1))]
  refine dd ?_;refine tc ?_
  refine uE ?_;(refine⟨h0,ft,dd ?_⟩);(rw[e1]);(refine⟨_,gt,hC,dd ?_⟩);(refine⟨k0,k1,dd ?_⟩);(refine⟨_,gx,hC,dd ?_⟩);(refine⟨k0,k1,dd ?_⟩);(refine⟨_,gx,rfl,dd ?_⟩);(rw[hst]);(refine zY [1] [⟨1,38,8,[[I w.zr,I w.current,I w.lock,lI w.pins,lV w.ze,lL w.zd,.sl 2 [] 1 0 w.counts.length false,lR w.zu]],0⟩,⟨1,95,44,[zE ({ m with pc:=21 })],0⟩,⟨1,0,1,(w.counts.map zP).set m.zf.toNat [C.sl 3 [] 1 0 r0.length false],0⟩,⟨2,48,1,(r0.set ((0:Int)).toNat (IntKind.u64.wrap (x+1))).map jW,0⟩,⟨1,245,2,[tj],0⟩,⟨1,55,23,[zS qH],0⟩] (rx:=Ce (fV { m with pc:=21 } 3 10 ((0:Int)))) (jx { m with pc:=21 } 3 10 ((0:Int))) rfl rfl rfl rfl rfl (zc rfl (zc rfl (zc (zj own) rfl))) rfl rfl (dd ?_));exact c9
 ·refine dd ?_;refine tc ?_
  refine⟨λh2=>?_,λh2=>?_⟩
  ·obtain rfl:k=0:=by rw[<-hk];unfold oK;rw[gC (.inr (pA h2))]
   refine dd ?_;refine tc ?_
   refine uE ?_;(refine⟨h0,ft,dd ?_⟩);(rw[e1]);(refine⟨_,gt,hC,dd ?_⟩);(refine⟨k0,k1,dd ?_⟩);(refine⟨_,gx,hC,dd ?_⟩);(refine⟨k0,k1,dd ?_⟩);(refine⟨_,gx,rfl,dd ?_⟩);(rw[hst]);(refine zY [1] [⟨1,38,8,[[I w.zr,I w.current,I w.lock,lI w.pins,lV w.ze,lL w.zd,.sl 2 [] 1 0 w.counts.length false,lR w.zu]],0⟩,⟨1,95,44,[zE ({ m with pc:=21 })],0⟩,⟨1,0,1,(w.counts.map zP).set m.zf.toNat [C.sl 3 [] 1 0 r0.length false],0⟩,⟨2,48,1,(r0.set ((0:Int)).toNat (IntKind.u64.wrap (x+1))).map jW,0⟩,⟨1,245,2,[tj],0⟩,⟨1,55,23,[zS qH],0⟩] (rx:=Ce (fV { m with pc:=21 } 3 10 ((0:Int)))) (jx { m with pc:=21 } 3 10 ((0:Int))) rfl rfl rfl rfl rfl (zc rfl (zc rfl (zc (zj own) rfl))) rfl rfl (dd ?_));exact c9
  ·obtain rfl:k=m.answer.kind:=by rw[<-hk];unfold oK;rw[gu (λh=>h.elim (rD h1) (rD h2))]
   refine dd ?_;refine tc ?_
   refine uE ?_;(refine⟨h0,ft,dd ?_⟩);(rw[e1]);(refine⟨_,gt,hC,dd ?_⟩);(refine⟨k0,k1,dd ?_⟩);(refine⟨_,gx,hC,dd ?_⟩);(refine⟨k0,k1,dd ?_⟩);(refine⟨_,gx,rfl,dd ?_⟩);(rw[hst]);(refine zY [1] [⟨1,38,8,[[I w.zr,I w.current,I w.lock,lI w.pins,lV w.ze,lL w.zd,.sl 2 [] 1 0 w.counts.length false,lR w.zu]],0⟩,⟨1,95,44,[zE ({ m with pc:=21 })],0⟩,⟨1,0,1,(w.counts.map zP).set m.zf.toNat [C.sl 3 [] 1 0 r0.length false],0⟩,⟨2,48,1,(r0.set (m.answer.kind).toNat (IntKind.u64.wrap (x+1))).map jW,0⟩,⟨1,245,2,[tj],0⟩,⟨1,55,23,[zS qH],0⟩] (rx:=Ce (fV { m with pc:=21 } 3 10 (m.answer.kind))) (jx { m with pc:=21 } 3 10 (m.answer.kind)) rfl rfl rfl rfl rfl (zc rfl (zc rfl (zc (zj own) rfl))) rfl rfl (dd ?_));exact c9
def yi{P:Program}{o:Oper}{σ:Operand->Value}{t t':TypeId}{x y:Operand}{k:IntKind}{n m:Int}(ho:o.op=.binOp .rem t x y t')(hx:σ x=.int k n)(hy:σ y=.int k m)(hm:m≠0):
  mJ P (execOp σ o)=some (.value (.int k (n.tmod m))):=by
 have hi:Op.intDiv .rem k n m=pure (.int k (n.tmod m)):=by unfold Op.intDiv;rw[gu hm]
 have hg:eqGuard .rem t x y (σ x) (σ y)=pure ():=rfl
 have hb:binOp .rem t (σ x) (σ y)=pure (.int k (n.tmod m)):=by
  rw[hx,hy];simp only[binOp,hi];exact gu aj
 unfold execOp;rw[ho];dsimp only;rw[hg,hb]
 rfl
def Pg{n:Int}(h:0<=n)(h':n<18446744073709551616):IntKind.u64.wrap n=n:=by
 simp only[IntKind.wrap,IntKind.signed,IntKind.bits,r3,sF,if_false];omega
abbrev ft(c:ic):List Int:=lD c.zL c.zL.length
def nB(c:ic)(n:Int):Int×Int:=if (ft c).length=0 then (0,5) else (((ft c)[(n%(ft c).length).toNat]?).getD 0,0)
def UJ(c:ic)(n:Int)(hn:u64 n)(hl:c.zL.length<1000000000000)(hh:(ft c).length<=c.zL.length):tn 234 [] [Cc c,U n] (.fC [I (nB c n).1,I (nB c n).2]) []:=by
 have ml:((ft c).map encI).length=(ft c).length:=gE ..;refine ab func234 ?_;refine ah (vU c hl) ?_;rw[ml];refine⟨λh0=>?_,λh0=>?_⟩
 ·unfold nB;have h0:=pA h0;rw[gC aw];exact uI
 ·unfold nB;have h0:=rD h0;rw[gu aw];refine dd ?_
  have hw:IntKind.u64.wrap ((((ft c).map encI).length:Nat):Int)≠0:=by
   have hk:=ml;have:IntKind.u64.wrap ((((ft c).map encI).length:Nat):Int)=(ft c).length:=by rw[ml];exact Pg aw aw
   omega
  split
  rotate_left
  ·rename_i hno;exact(hno _ (yi rfl rfl rfl hw)).elim
  ·rename_i v e;have e':=e.symm.trans (yi rfl rfl rfl hw);cases e'
   refine dd ?_;have ew:IntKind.u64.wrap ((((ft c).map encI).length:Nat):Int)=(ft c).length:=by rw[ml];exact Pg aw aw
   have et:n.tmod (IntKind.u64.wrap ((((ft c).map encI).length:Nat):Int))=n%(ft c).length:=by rw[ew];exact sI hn.1
   have b0:0<=n%((ft c).length:Int):=sR _ h0;have b1:n%((ft c).length:Int)<(ft c).length:=sS _ aw;have hi:(n%((ft c).length:Int)).toNat<(ft c).length:=aw
   have gx:((ft c).map encI)[(n.tmod (IntKind.u64.wrap ((((ft c).map encI).length:Nat):Int))).toNat]?=some (encI ((ft c)[(n%((ft c).length:Int)).toNat]'hi)):=by rw[et,gz,gp hi];rfl
   refine⟨by show 0<=n.tmod (IntKind.u64.wrap ((((ft c).map encI).length:Nat):Int));rw[et];exact b0,_,gx,dd ?_⟩;rw[gp hi];exact uI
def Us(a x b y:Int):tn 24 [] [I a,I x,I b,I y] (I (if y<x then b else a)) []:=by
 refine ab func24 ?_;refine⟨λh=>?_,λh=>?_⟩
 ·rw[gC (pA h)];exact dA
 ·rw[gu (rD h)];exact dA
def Ql(w:Wor)(m:fq)(v:fB)(g:Gr)(e:En)(hv:Df w m v g)(o0:0<=m.other)(ho:g.ends[m.other.toNat]?=some e):
  tn 189 [⟨1,38,8,[zU w],0⟩,⟨1,95,44,[zE (m)],0⟩] [.agg tj] (Ce (iF m v 1 7 e.zi)) [⟨1,38,8,[zU w],0⟩,⟨1,95,44,[zE ({ m with end_:=if e.zi<m.i then m.other else m.end_,pc:=9 })],0⟩]:=by
 have er:(g.ends.map zx)[m.other.toNat]?=some (zx e):=by rw[gz,ho];rfl
 refine aa func189 ?_;refine .inl ⟨⟨true,[],[],[1]⟩,au,uH ?_⟩;refine af [0,1] (Lh w m v g hv) ?_;refine hZ ?_
 (refine⟨o0,_,er,dd ?_⟩)
 refine .inl ⟨⟨true,[],[],[15]⟩,au,uH ?_⟩;refine ah (Us m.end_ m.i m.other e.zi) ?_;refine hZ ?_
 refine af [0,1] (wz w { m with end_:=if e.zi<m.i then m.other else m.end_,pc:=9 } v ⟨hv.v0,hv.at_⟩ 1 7 e.zi) ?_;exact cW
structure ns(w:Wor)(m:fq)(v0:fB)(g0:Gr):Prop where
 pv:0<=m.version
 lv:m.version.toNat<w.ze.length
 pg:0<=m.zg
 lg:m.zg.toNat<v0.zm.length
 pe:0<=m.end_
 le:m.end_.toNat<g0.ends.length
def iz.ln{w:Wor}{m:fq}{v0:fB}{g0:Gr}{e0:En}(h:iz w m v0 g0 e0):ns w m v0 g0:=⟨h.v0,(gm.1 h.at_).1,h.g0,(gm.1 h.fR).1,h.e0,(gm.1 h.ia).1⟩
def Fw{P:Program}{f:FuncId}(sel:List Nat)(Kx:zl){K H0 H':zl}{args args0:List C}{r rx:C}(h:zb P f H0 args0 r H')(hR:qY H'=true)
 (hH:xA sel K=H0)(ha:args.map (xW sel 9)=args0)(qc:sel.all (λid=>Nat.blt id K.length)=true)(iv:yd sel=true)(ir:qY K=true){k:C->zl->Prop}
 (hp:wc sel K H'=Kx)(hr:yP (jc sel K.length) 9 r=rx)(hk:k rx Kx):∃R,qs P f K args R/\∀r H2,R r H2->k r H2:=
 ⟨λx X=>x=rx/\X=Kx,(h.part sel hR hH ha qc iv ir).mi ⟨hr,hp⟩,by rintro _ _ ⟨rfl,rfl⟩;exact hk⟩
def Hl(w:Wor)(m:fq)(v0:fB)(g0:Gr)(e0:En)(hv:ns w m v0 g0):tn 233 [⟨1,38,8,[(il w 2)],0⟩,⟨1,95,44,[zE (m)],0⟩,⟨1,0,5,fM w m v0 3,0⟩,⟨1,0,2,fK m v0 g0 g0.zt 4,0⟩,⟨1,0,3,fH m g0 e0 e0.head 5 e0.zi,0⟩,⟨2,3,1,e0.next.map encI,0⟩] [.agg tj] (.ref 3 [] 2 m.zg.toNat 0) [⟨1,38,8,[(il w 2)],0⟩,⟨1,95,44,[zE (m)],0⟩,⟨1,0,5,fM w m v0 3,0⟩,⟨1,0,2,fK m v0 g0 g0.zt 4,0⟩,⟨1,0,3,fH m g0 e0 e0.head 5 e0.zi,0⟩,⟨2,3,1,e0.next.map encI,0⟩]:=by
 have h0:=hv.pv;have g0':=hv.pg;have lv:m.version.toNat<w.ze.length:=hv.lv;have lg:m.zg.toNat<v0.zm.length:=hv.lg;have lowV:∀r∈fM w m v0 3,∀c∈r,jg 6 9 c=true:=zB (enc:=zK) (λ_=>rfl) rfl _ _;have lowG:∀r∈fK m v0 g0 g0.zt 4,∀c∈r,jg 6 9 c=true:=zB (enc:=zF) (λ_=>rfl) rfl _ _;have lowE:∀r∈fH m g0 e0 e0.head 5 e0.zi,∀c∈r,jg 6 9 c=true:=zB (enc:=zx) (λ_=>rfl) rfl _ _;have e1:0+m.version.toNat=m.version.toNat:=gN _;have e2:0+m.zg.toNat=m.zg.toNat:=gN _;have gv:(fM w m v0 3)[m.version.toNat]?=some ((ql v0.snap++[C.sl 3 [] 2 0 v0.zm.length false,Bo v0.qt])):=gD tY;refine aa func233 ?_;refine uE ?_;refine⟨h0,lv,dd ?_⟩;rw[e1];refine⟨_,gv,cN,dd ?_⟩;refine⟨g0',lg,dd ?_⟩;rw[e2];exact cX
def vP(w:Wor)(m:fq)(v0:fB)(g0:Gr)(e0:En)(hv:ns w m v0 g0):tn 237 [⟨1,38,8,[(il w 2)],0⟩,⟨1,95,44,[zE (m)],0⟩,⟨1,0,5,fM w m v0 3,0⟩,⟨1,0,2,fK m v0 g0 g0.zt 4,0⟩,⟨1,0,3,fH m g0 e0 e0.head 5 e0.zi,0⟩,⟨2,3,1,e0.next.map encI,0⟩] [.agg tj] (.ref 4 [] 3 m.end_.toNat 0) [⟨1,38,8,[(il w 2)],0⟩,⟨1,95,44,[zE (m)],0⟩,⟨1,0,5,fM w m v0 3,0⟩,⟨1,0,2,fK m v0 g0 g0.zt 4,0⟩,⟨1,0,3,fH m g0 e0 e0.head 5 e0.zi,0⟩,⟨2,3,1,e0.next.map encI,0⟩]:=by
 have h0:=hv.pe;have lg:m.zg.toNat<v0.zm.length:=hv.lg;have le:m.end_.toNat<g0.ends.length:=hv.le;have ownV:∀r∈fM w m v0 3,∀c∈r,zy c=true:=zB (enc:=zK) (λ_=>rfl) rfl _ _;have ownG:∀r∈fK m v0 g0 g0.zt 4,∀c∈r,zy c=true:=zB (enc:=zF) (λ_=>rfl) rfl _ _;have ownE:∀r∈fH m g0 e0 e0.head 5 e0.zi,∀c∈r,zy c=true:=zB (enc:=zx) (λ_=>rfl) rfl _ _;have lowV:∀r∈fM w m v0 3,∀c∈r,jg 6 9 c=true:=zB (enc:=zK) (λ_=>rfl) rfl _ _;have lowG:∀r∈fK m v0 g0 g0.zt 4,∀c∈r,jg 6 9 c=true:=zB (enc:=zF) (λ_=>rfl) rfl _ _;have lowE:∀r∈fH m g0 e0 e0.head 5 e0.zi,∀c∈r,jg 6 9 c=true:=zB (enc:=zx) (λ_=>rfl) rfl _ _;have e2:0+m.end_.toNat=m.end_.toNat:=gN _;have gg:(fK m v0 g0 g0.zt 4)[m.zg.toNat]?=some ([U g0.zt,C.sl 4 [] 3 0 g0.ends.length false]):=gD tS;refine aa func237 ?_;refine .inl ⟨⟨true,[],[],[1]⟩,au,uH ?_⟩;refine zY [0,1,2,3,4,5] [⟨1,38,8,[(il w 2)],0⟩,⟨1,95,44,[zE (m)],0⟩,⟨1,0,5,fM w m v0 3,0⟩,⟨1,0,2,fK m v0 g0 g0.zt 4,0⟩,⟨1,0,3,fH m g0 e0 e0.head 5 e0.zi,0⟩,⟨2,3,1,e0.next.map encI,0⟩,⟨1,245,2,[tj],0⟩] (rx:=.ref 3 [] 2 m.zg.toNat 0) (Hl w m v0 g0 e0 hv) (zc rfl (zc rfl (zc (zj ownV) (zc (zj ownG) (zc (zj ownE) rfl))))) uT rfl rfl rfl (zc rfl (zc rfl (zc (zj ownV) (zc (zj ownG) (zc (zj ownE) rfl))))) uU rfl (dd ?_);refine⟨_,gg,cO,dd ?_⟩;refine⟨h0,le,dd ?_⟩;rw[e2];exact cX
def T6(w:Wor)(m:fq)(v0:fB)(g0:Gr)(e0:En)(hv:ns w m v0 g0)(a b c:Int):tn 236 [⟨1,38,8,[(il w 2)],0⟩,⟨1,95,44,[zE (m)],0⟩,⟨1,0,5,fM w m v0 3,0⟩,⟨1,0,2,fK m v0 g0 g0.zt 4,0⟩,⟨1,0,3,fH m g0 e0 e0.head 5 e0.zi,0⟩,⟨2,3,1,e0.next.map encI,0⟩] [.agg tj,I a,I b,I c] (Ce (iF m v0 a b c)) [⟨1,38,8,[(il w 2)],0⟩,⟨1,95,44,[zE (m)],0⟩,⟨1,0,5,fM w m v0 3,0⟩,⟨1,0,2,fK m v0 g0 g0.zt 4,0⟩,⟨1,0,3,fH m g0 e0 e0.head 5 e0.zi,0⟩,⟨2,3,1,e0.next.map encI,0⟩]:=by
 have h0:=hv.pv;have lv:m.version.toNat<w.ze.length:=hv.lv;have e1:0+m.version.toNat=m.version.toNat:=gN _
 clear hv
 obtain⟨sn,gs,fr⟩:=v0;cases fr
 all_goals
  have ownV:∀b,∀r∈(w.ze.map zK).set m.version.toNat (ql sn++[C.sl 3 [] 2 0 gs.length false,Bo b]),∀c∈r,zy c=true:=λb=>zB (enc:=zK) (λ_=>rfl) rfl _ _
  have ownG:∀r∈(gs.map zF).set m.zg.toNat ([U g0.zt,C.sl 4 [] 3 0 g0.ends.length false]),∀c∈r,zy c=true:=zB (enc:=zF) (λ_=>rfl) rfl _ _;have ownE:∀r∈fH m g0 e0 e0.head 5 e0.zi,∀c∈r,zy c=true:=zB (enc:=zx) (λ_=>rfl) rfl _ _;have lowV:∀b,∀r∈(w.ze.map zK).set m.version.toNat (ql sn++[C.sl 3 [] 2 0 gs.length false,Bo b]),∀c∈r,jg 6 9 c=true:=λb=>zB (enc:=zK) (λ_=>rfl) rfl _ _
  have gv:∀b,((w.ze.map zK).set m.version.toNat (ql sn++[C.sl 3 [] 2 0 gs.length false,Bo b]))[m.version.toNat]?=some (ql sn++[C.sl 3 [] 2 0 gs.length false,Bo b]):=λb=>gD tY
  have lowG:∀r∈(gs.map zF).set m.zg.toNat ([U g0.zt,C.sl 4 [] 3 0 g0.ends.length false]),∀c∈r,jg 6 9 c=true:=zB (enc:=zF) (λ_=>rfl) rfl _ _;have lowE:∀r∈fH m g0 e0 e0.head 5 e0.zi,∀c∈r,jg 6 9 c=true:=zB (enc:=zx) (λ_=>rfl) rfl _ _;refine aa func236 ?_;refine zY [1] [⟨1,38,8,[(il w 2)],0⟩,⟨1,95,44,[zE (m)],0⟩,⟨1,0,5,(w.ze.map zK).set m.version.toNat (ql sn++[C.sl 3 [] 2 0 gs.length false,Bo _]),0⟩,⟨1,0,2,(gs.map zF).set m.zg.toNat ([U g0.zt,C.sl 4 [] 3 0 g0.ends.length false]),0⟩,⟨1,0,3,fH m g0 e0 e0.head 5 e0.zi,0⟩,⟨2,3,1,e0.next.map encI,0⟩,⟨1,245,2,[tj],0⟩,⟨1,55,23,[zS qH],0⟩] (rx:=Ce (fV m a b c)) (jx m a b c) rfl rfl rfl rfl rfl (zc rfl (zc rfl (zc (zj (ownV _)) (zc (zj ownG) (zc (zj ownE) rfl))))) rfl rfl (dd ?_);refine .inl ⟨⟨false,[6,9,11,14,17],[0,1,2,6],[]⟩,au,uH ?_⟩;refine⟨h0,lv,dd ?_⟩;rw[e1];refine⟨_,gv _,(by show 4+1<=5;decide),dd ?_⟩
  first|((refine ya (dd ?_)))|((refine yb (dd ?_)))
  refine hZ ?_
  exact⟨.inl rfl,_,_,.refl _,rfl,zp.xy 6 hU rfl rfl rfl (zJ rfl (zJ rfl (zJ (qk (lowV _)) (zJ (qk lowG) (zJ (qk lowE) rfl))))) rfl⟩
abbrev Pw(e:En)(n:Int):En:={ e with zi:=IntKind.i64.wrap (e.zi+n) }
def Rq(w:Wor)(m:fq)(v0:fB)(g0:Gr)(e0:En)(hv:ns w m v0 g0):tn 193 [⟨1,38,8,[(il w 2)],0⟩,⟨1,95,44,[zE (m)],0⟩,⟨1,0,5,fM w m v0 3,0⟩,⟨1,0,2,fK m v0 g0 g0.zt 4,0⟩,⟨1,0,3,fH m g0 e0 e0.head 5 e0.zi,0⟩,⟨2,3,1,e0.next.map encI,0⟩] [.agg tj] (Ce (iF m v0 3 7 (IntKind.i64.wrap (e0.zi+1))))
  [⟨1,38,8,[(il w 2)],0⟩,⟨1,95,44,[zE ({ m with answer:=⟨1,m.version,m.zg,m.end_,m.slot,m.listen,0,⟨0,0,0,0,0,0⟩⟩,pc:=20 })],0⟩,⟨1,0,5,fM w m v0 3,0⟩,⟨1,0,2,fK m v0 g0 g0.zt 4,0⟩,⟨1,0,3,(g0.ends.map zx).set m.end_.toNat [U e0.head,C.sl 5 [] 1 0 e0.next.length false,I (IntKind.i64.wrap (e0.zi+1))],0⟩,⟨2,3,1,e0.next.map encI,0⟩]:=by
 have le:=hv.le;have ownV:∀r∈fM w m v0 3,∀c∈r,zy c=true:=zB (enc:=zK) (λ_=>rfl) rfl _ _;have ownG:∀r∈fK m v0 g0 g0.zt 4,∀c∈r,zy c=true:=zB (enc:=zF) (λ_=>rfl) rfl _ _;have ownE:∀r∈fH m g0 e0 e0.head 5 e0.zi,∀c∈r,zy c=true:=zB (enc:=zx) (λ_=>rfl) rfl _ _;have ge:(fH m g0 e0 e0.head 5 e0.zi)[m.end_.toNat]?=some ([U e0.head,C.sl 5 [] 1 0 e0.next.length false,I e0.zi]):=gD tN;refine aa func193 ?_;refine Fw [0,1,2,3,4,5] [⟨1,38,8,[(il w 2)],0⟩,⟨1,95,44,[zE (m)],0⟩,⟨1,0,5,fM w m v0 3,0⟩,⟨1,0,2,fK m v0 g0 g0.zt 4,0⟩,⟨1,0,3,fH m g0 e0 e0.head 5 e0.zi,0⟩,⟨2,3,1,e0.next.map encI,0⟩,⟨1,245,2,[tj],0⟩,⟨1,55,23,[zS qH],0⟩] (rx:=.ref 4 [] 3 m.end_.toNat 0) (vP w m v0 g0 e0 hv) (zc rfl (zc rfl (zc (zj ownV) (zc (zj ownG) (zc (zj ownE) rfl))))) uT rfl rfl rfl (zc rfl (zc rfl (zc (zj ownV) (zc (zj ownG) (zc (zj ownE) rfl))))) uU rfl (dd ?_);refine⟨_,ge,cP,dd ?_⟩;refine⟨_,ge,rfl,dd ?_⟩;rw[pw];refine uE ?_;have ownE2:∀r∈(g0.ends.map zx).set m.end_.toNat [U e0.head,C.sl 5 [] 1 0 e0.next.length false,I (IntKind.i64.wrap (e0.zi+1))],∀c∈r,zy c=true:=zB (enc:=zx) (λ_=>rfl) rfl _ _;refine .inl ⟨⟨true,[],[],[2,6]⟩,au,uH ?_⟩;have hv2:ns w { m with answer:=⟨1,m.version,m.zg,m.end_,m.slot,m.listen,0,⟨0,0,0,0,0,0⟩⟩,pc:=20 } v0 g0:=⟨hv.pv,hv.lv,hv.pg,hv.lg,hv.pe,hv.le⟩;have ge2:((g0.ends.map zx).set m.end_.toNat [U e0.head,C.sl 5 [] 1 0 e0.next.length false,I (IntKind.i64.wrap (e0.zi+1))])[m.end_.toNat]?=some [U e0.head,C.sl 5 [] 1 0 e0.next.length false,I (IntKind.i64.wrap (e0.zi+1))]:=gD tN;have lowV:∀r∈fM w m v0 3,∀c∈r,jg 6 9 c=true:=zB (enc:=zK) (λ_=>rfl) rfl _ _;have lowG:∀r∈fK m v0 g0 g0.zt 4,∀c∈r,jg 6 9 c=true:=zB (enc:=zF) (λ_=>rfl) rfl _ _;have lowE:∀r∈(g0.ends.map zx).set m.end_.toNat [U e0.head,C.sl 5 [] 1 0 e0.next.length false,I (IntKind.i64.wrap (e0.zi+1))],∀c∈r,jg 6 9 c=true:=zB (enc:=zx) (λ_=>rfl) rfl _ _;refine zY [0,1,2,3,4,5] [⟨1,38,8,[(il w 2)],0⟩,⟨1,95,44,[zE ({ m with answer:=⟨1,m.version,m.zg,m.end_,m.slot,m.listen,0,⟨0,0,0,0,0,0⟩⟩,pc:=20 })],0⟩,⟨1,0,5,fM w m v0 3,0⟩,⟨1,0,2,fK m v0 g0 g0.zt 4,0⟩,⟨1,0,3,(g0.ends.map zx).set m.end_.toNat [U e0.head,C.sl 5 [] 1 0 e0.next.length false,I (IntKind.i64.wrap (e0.zi+1))],0⟩,⟨2,3,1,e0.next.map encI,0⟩,⟨1,245,2,[tj],0⟩,⟨1,55,23,[zS qH],0⟩] (rx:=.ref 4 [] 3 m.end_.toNat 0) (vP w _ v0 g0 (Pw e0 1) hv2) (zc rfl (zc rfl (zc (zj ownV) (zc (zj ownG) (zc (zj ownE2) rfl))))) uT rfl rfl rfl (zc rfl (zc rfl (zc (zj ownV) (zc (zj ownG) (zc (zj ownE2) rfl))))) uU rfl (dd ?_);refine⟨_,ge2,cP,dd ?_⟩;refine zY [0,1,2,3,4,5] [⟨1,38,8,[(il w 2)],0⟩,⟨1,95,44,[zE ({ m with answer:=⟨1,m.version,m.zg,m.end_,m.slot,m.listen,0,⟨0,0,0,0,0,0⟩⟩,pc:=20 })],0⟩,⟨1,0,5,fM w m v0 3,0⟩,⟨1,0,2,fK m v0 g0 g0.zt 4,0⟩,⟨1,0,3,(g0.ends.map zx).set m.end_.toNat [U e0.head,C.sl 5 [] 1 0 e0.next.length false,I (IntKind.i64.wrap (e0.zi+1))],0⟩,⟨2,3,1,e0.next.map encI,0⟩,⟨1,245,2,[tj],0⟩,⟨1,55,23,[zS qH],0⟩] (rx:=Ce (iF m v0 3 7 (IntKind.i64.wrap (e0.zi+1)))) (T6 w _ v0 g0 (Pw e0 1) hv2 3 7 (IntKind.i64.wrap (e0.zi+1))) (zc rfl (zc rfl (zc (zj ownV) (zc (zj ownG) (zc (zj ownE2) rfl))))) uT rfl rfl rfl (zc rfl (zc rfl (zc (zj ownV) (zc (zj ownG) (zc (zj ownE2) rfl))))) uU rfl (dd ?_);exact cX
end Go.Wor
