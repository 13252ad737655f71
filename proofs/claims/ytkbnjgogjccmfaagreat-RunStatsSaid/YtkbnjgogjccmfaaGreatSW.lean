import Derived.Test.YtkbnjgogjccmfaaGreatSV
set_option linter.all false
set_option maxRecDepth 100000
set_option maxHeartbeats 4000000
namespace Go.Wor
open Go.Ab Go.Proofs Tryz Go.Hy Go.Gat Go.Nam Go.Hos Go.Con Go.Sna
abbrev eI (m:u3) (a b c:Int):u6:=⟨m.zg,0,a,b, -1,false,c,false,false,false,wW⟩
abbrev fx (m:u3) (v:u9) (a b c:Int):u6:=⟨m.zg,0,a,b,m.version,v.qn,c,false,false,false,wW⟩
def jq (m:u3) (a b c:Int):to 178 [⟨1,69,44,[zD (m)],0⟩] [.agg [.za,.ref 0 [] 44 0 0],I a,I b,I c] (Ce (eI m a b c)) [⟨1,69,44,[zD (m)],0⟩]:=by
 refine aa func178 ?_;exact dC
abbrev iK (n:Int):eC:=⟨n,0,0,0,0,0,0,⟨0,0,0,0,0,0⟩⟩
abbrev mq (m:u3) (n:Int):u3:={ m with answer:=iK n,pc:=20 }
def vC (m:u3) (n:Int):to 179 [⟨1,69,44,[zD (m)],0⟩] [.agg [.za,.ref 0 [] 44 0 0],I n] (.u7 []) [⟨1,69,44,[zD (mq m n)],0⟩]:=by
 refine aa func179 ?_;refine .inl ⟨⟨false,[3],[1],[]⟩,au,uH ?_⟩;refine tc ?_
 exact ⟨.inr rfl,_,_,.refl _,rfl,cE 1⟩
structure mX (w:Wor) (m:u3) (v:u9):Prop where
 v0:0<=m.version
 at_:w.ze[m.version.toNat]?= some v
def mX.row {w:Wor} {m:u3} {v:u9} (h:mX w m v):(w.ze.map zF)[m.version.toNat]?= some (zF v):=by rw [dT,h.at_];rfl
def kX (w:Wor) (m:u3) (v:u9) (hv:mX w m v) (a b c:Int):to 184 [⟨1,37,8,[zJ w],0⟩,⟨1,69,44,[zD (m)],0⟩] [.agg tn,I a,I b,I c] (Ce (fx m v a b c)) [⟨1,37,8,[zJ w],0⟩,⟨1,69,44,[zD (m)],0⟩]:=by
 have h0:=hv.v0;have hr:=hv.row;obtain ⟨sn,gs,fr⟩:=v;cases fr
 all_goals
  refine aa func184 ?_;refine af [1] (jq m a b c) ?_;refine .inl ⟨⟨false,[6,9,11,14,17],[0,1,2],[]⟩,au,uH ?_⟩;(refine ⟨h0,_,hr,dd ?_⟩)
  first | ((refine ya (dd ?_))) | ((refine yb (dd ?_)))
  refine tc ?_
  exact cJ
def DO {P:Program} {f:FuncId} (sel:List Nat) {K H0 H':zl} {args args0:List C} {r:C} (h:zb P f H0 args0 r H') (hR:qS H'=true)
  (hH:xC sel K=H0) (ha:args.map (yf sel 9)=args0) (z8:sel.all (fun id=>Nat.blt id K.length)=true) (fp:yq sel=true) (fg:qS K=true) {k:C->zl->Prop}
  (hk:oU (wC sel K H') fun X=>qO (yX (ja sel K.length) 9 r) fun c=>k c X):∃ R',qE P f K args R'∧∀ r H2,R' r H2->k r H2:=
 JE sel (h.lf (R:=fun x X=>x=r∧X=H') ⟨rfl,rfl⟩) (fun _ _ e=>e.2 ▸ hR) hH ha z8 fp fg (by rintro _ _ ⟨rfl,rfl⟩;exact hk)
structure BI (w:Wor) (m:u3) (v:u9) (g:Gr):Prop extends mX w m v where
 g0:0<=m.zi
 eG:v.zm[m.zi.toNat]?= some g
def BI.W7 {w:Wor} {m:u3} {v:u9} {g:Gr} (h:BI w m v g):(v.zm.map zE)[m.zi.toNat]?= some (zE g):=by rw [dT,h.eG];rfl
structure fk (w:Wor) (m:u3) (v:u9) (g:Gr) (e:En):Prop extends BI w m v g where
 e0:0<=m.end_
 eS:g.ends[m.end_.toNat]?= some e
def fk.W6 {w:Wor} {m:u3} {v:u9} {g:Gr} {e:En} (h:fk w m v g e):(g.ends.map zx)[m.end_.toNat]?= some (zx e):=by rw [dT,h.eS];rfl
def Ji (w:Wor) (m:u3) (v:u9) (g:Gr) (hv:BI w m v g):to 181 [⟨1,37,8,[zJ w],0⟩,⟨1,69,44,[zD (m)],0⟩] [.agg tn] (.jS (zE g)) [⟨1,37,8,[zJ w],0⟩,⟨1,69,44,[zD (m)],0⟩]:=by
 have h0:=hv.v0;have hr:=hv.row;have g0:=hv.g0;have gr:=hv.W7;refine aa func181 ?_;refine uE ?_;(refine ⟨h0,_,hr,dd ?_⟩)
 (refine ⟨g0,_,gr,dd ?_⟩)
 exact cJ
def kQ (w:Wor) (m:u3) (v:u9) (g:Gr) (e:En) (hv:fk w m v g e):to 185 [⟨1,37,8,[zJ w],0⟩,⟨1,69,44,[zD (m)],0⟩] [.agg tn] (.jS (zx e)) [⟨1,37,8,[zJ w],0⟩,⟨1,69,44,[zD (m)],0⟩]:=by
 have e0:=hv.e0;have er:=hv.W6;refine aa func185 ?_;refine .inl ⟨⟨true,[],[],[1]⟩,au,uH ?_⟩;refine af [0,1] (Ji w m v g hv.toBI) ?_;refine tc ?_
 (refine ⟨e0,_,er,dd ?_⟩)
 exact cJ
def vQ (w:Wor) (m:u3) (v:u9) (c:eV) (hv:mX w m v) (c0:0<=m.zi) (hc:v.snap.zk[m.zi.toNat]?= some c):to 183 [⟨1,37,8,[zJ w],0⟩,⟨1,69,44,[zD (m)],0⟩] [.agg tn] (Cc c) [⟨1,37,8,[zJ w],0⟩,⟨1,69,44,[zD (m)],0⟩]:=by
 have h0:=hv.v0;have hr:=hv.row;have cr:(v.snap.zk.map xa)[m.zi.toNat]?= some (xa c):=by rw [dT,hc];rfl
 refine aa func183 ?_;refine uE ?_;(refine ⟨h0,_,hr,dd ?_⟩)
 (refine ⟨c0,_,cr,dd ?_⟩)
 exact cJ
def NU (w:Wor) (m:u3) (v:u9) (g:Gr) (e:En) (hv:fk w m v g e) {x:Int} (s0:0<=m.slot) (hx:e.next[m.slot.toNat]?= some x):
  to 148 [⟨1,37,8,[zJ w],0⟩,⟨1,69,44,[zD (m)],0⟩] [.agg tn] (Ce (fx m v 1 9 x)) [⟨1,37,8,[zJ w],0⟩,⟨1,69,44,[zD ({ m with link:=x,pc:=11 })],0⟩]:=by
 have er:(e.next.map encI)[m.slot.toNat]?= some (encI x):=by rw [dT,hx];rfl
 refine aa func148 ?_;refine .inl ⟨⟨true,[3],[2],[5]⟩,au,uH ?_⟩;refine af [0,1] (kQ w m v g e hv) ?_;refine tc ?_
 (refine ⟨s0,_,er,dd ?_⟩)
 refine tc ?_
 refine .inl ⟨⟨true,[],[],[]⟩,au,uH ?_⟩;refine af [0,1] (kX w { m with link:=x,pc:=11 } v ⟨hv.v0,hv.at_⟩ 1 9 x) ?_;exact cJ
def Nv (w:Wor) (m:u3) (v:u9) (g:Gr) (e:En) (hv:fk w m v g e):
  to 145 [⟨1,37,8,[zJ w],0⟩,⟨1,69,44,[zD (m)],0⟩] [.agg tn] (Ce (fx m v 1 7 e.zf)) [⟨1,37,8,[zJ w],0⟩,⟨1,69,44,[zD ({ m with i:=e.zf,pc:=8 })],0⟩]:=by
 refine aa func145 ?_;refine .inl ⟨⟨true,[3],[2],[5]⟩,au,uH ?_⟩;refine af [0,1] (kQ w m v g e hv) ?_;refine tc ?_
 refine tc ?_
 refine .inl ⟨⟨true,[],[],[]⟩,au,uH ?_⟩;refine af [0,1] (kX w { m with i:=e.zf,pc:=8 } v ⟨hv.v0,hv.at_⟩ 1 7 e.zf) ?_;exact cJ
def NT (w:Wor) (m:u3) (v:u9) (g:Gr) (e:En) (hv:fk w m v g e) (he:u64 e.head) (hi:0<=e.head % 4294967296 - 1∧e.head % 4294967296 - 1 < e.next.length):
  to 147 [⟨1,37,8,[zJ w],0⟩,⟨1,69,44,[zD (m)],0⟩] [.agg tn] (Ce (fx m v 1 8 (e.head % 4294967296 - 1))) [⟨1,37,8,[zJ w],0⟩,⟨1,69,44,[zD ({ m with word:=e.head,slot:=e.head % 4294967296 - 1,pc:=10 })],0⟩]:=by
 have hi1:=hi.1;have hi2:=hi.2;have ml:(e.next.map encI).length=e.next.length:=dV ..;refine aa func147 ?_;refine DO [0,1] (kQ w m v g e hv) rfl rfl rfl rfl rfl rfl (dd ?_);refine ah (Slp.qJ e.head he) ?_;refine ⟨fun h=>absurd h aA,fun _=>dd ?_⟩;refine DO [0,1] (kQ w { m with word:=e.head } v g e ⟨⟨⟨hv.v0,hv.at_⟩,hv.g0,hv.eG⟩,hv.e0,hv.eS⟩) rfl rfl rfl rfl rfl rfl (dd ?_);rw [ml];refine ⟨fun h=>absurd h aA,fun _=>dd ?_⟩;refine af [0,1] (kX w { m with word:=e.head,slot:=e.head % 4294967296 - 1,pc:=10 } v ⟨hv.v0,hv.at_⟩ 1 8 (e.head % 4294967296 - 1)) ?_;exact cJ
def O6 (w:Wor) (m:u3) (x:eL) (h0:0<=m.listen) (hx:w.zd[m.listen.toNat]?= some x):
  to 142 [⟨1,37,8,[[I w.zn,I w.current,I w.lock,lI w.pins,lV w.ze,.sl 2 [] 4 0 w.zd.length false,eM w.counts,lR w.zr]],0⟩,⟨1,69,44,[zD (m)],0⟩,⟨2,85,4,(w.zd).map qK,0⟩] [.agg tn] (Ce (eI m 3 5 (IntKind.i64.wrap (x.zf+1))))
   [⟨1,37,8,[[I w.zn,I w.current,I w.lock,lI w.pins,lV w.ze,.sl 2 [] 4 0 w.zd.length false,eM w.counts,lR w.zr]],0⟩,⟨1,69,44,[zD ({ m with pc:=5 })],0⟩,⟨2,85,4,(w.zd.set m.listen.toNat { x with zf:=IntKind.i64.wrap (x.zf+1) }).map qK,0⟩]:=by
 have e1:0+m.listen.toNat=m.listen.toNat:=gz _;have u4:m.listen.toNat < w.zd.length:=(dP.1 hx).1;have gx:(w.zd.map qK)[m.listen.toNat]?= some (qK x):=by rw [dT,hx];rfl
 refine aa func142 ?_;have hst:(w.zd.map qK).set m.listen.toNat [Tx x.name,Bo x.drain,I (IntKind.i64.wrap (x.zf+1)),Bo x.closed]=(w.zd.set m.listen.toNat { x with zf:=IntKind.i64.wrap (x.zf+1) }).map qK:=bR
 have gx2:((w.zd.set m.listen.toNat { x with zf:=IntKind.i64.wrap (x.zf+1) }).map qK)[m.listen.toNat]?= some (qK { x with zf:=IntKind.i64.wrap (x.zf+1) }):=by rw [dT,dW u4];rfl
 refine uE ?_;refine ⟨h0,u4,dd ?_⟩;rw [e1];refine ⟨_,gx,cx,dd ?_⟩;refine ⟨_,gx,rfl,dd ?_⟩;rw [hst];refine .inl ⟨⟨true,[],[],[]⟩,au,uH ?_⟩;refine ⟨_,gx2,cx,dd ?_⟩;refine af [1] (jq { m with pc:=5 } 3 5 (IntKind.i64.wrap (x.zf+1))) ?_;exact ⟨.inl rfl,_,_,.refl _,rfl,cE 3⟩
def PD (w:Wor) (m:u3) (x:eL) (h0:0<=m.listen) (hx:w.zd[m.listen.toNat]?= some x):
  to 153 [⟨1,37,8,[[I w.zn,I w.current,I w.lock,lI w.pins,lV w.ze,.sl 2 [] 4 0 w.zd.length false,eM w.counts,lR w.zr]],0⟩,⟨1,69,44,[zD (m)],0⟩,⟨2,85,4,(w.zd).map qK,0⟩] [.agg tn] (Ce (eI m 3 5 (IntKind.i64.wrap (x.zf - 1))))
   [⟨1,37,8,[[I w.zn,I w.current,I w.lock,lI w.pins,lV w.ze,.sl 2 [] 4 0 w.zd.length false,eM w.counts,lR w.zr]],0⟩,⟨1,69,44,[zD ({ m with pc:=23 })],0⟩,⟨2,85,4,(w.zd.set m.listen.toNat { x with zf:=IntKind.i64.wrap (x.zf - 1) }).map qK,0⟩]:=by
 have e1:0+m.listen.toNat=m.listen.toNat:=gz _;have u4:m.listen.toNat < w.zd.length:=(dP.1 hx).1;have gx:(w.zd.map qK)[m.listen.toNat]?= some (qK x):=by rw [dT,hx];rfl
 refine aa func153 ?_;have hst:(w.zd.map qK).set m.listen.toNat [Tx x.name,Bo x.drain,I (IntKind.i64.wrap (x.zf - 1)),Bo x.closed]=(w.zd.set m.listen.toNat { x with zf:=IntKind.i64.wrap (x.zf - 1) }).map qK:=bR
 have gx2:((w.zd.set m.listen.toNat { x with zf:=IntKind.i64.wrap (x.zf - 1) }).map qK)[m.listen.toNat]?= some (qK { x with zf:=IntKind.i64.wrap (x.zf - 1) }):=by rw [dT,dW u4];rfl
 refine uE ?_;refine ⟨h0,u4,dd ?_⟩;rw [e1];refine ⟨_,gx,cx,dd ?_⟩;refine ⟨_,gx,rfl,dd ?_⟩;rw [hst];refine .inl ⟨⟨true,[],[],[]⟩,au,uH ?_⟩;refine ⟨_,gx2,cx,dd ?_⟩;refine af [1] (jq { m with pc:=23 } 3 5 (IntKind.i64.wrap (x.zf - 1))) ?_;exact ⟨.inl rfl,_,_,.refl _,rfl,cE 3⟩
def zZ {P:Program} {f:FuncId} (sel:List Nat) (Kx:zl) {K H0 H':zl} {args args0:List C} {r rx:C} (h:zb P f H0 args0 r H') (hR:qS H'=true)
  (hH:xC sel K=H0) (ha:args.map (yf sel 9)=args0) (z8:sel.all (fun id=>Nat.blt id K.length)=true) (fp:yq sel=true) (fg:qS K=true) {k:C->zl->Prop}
  (hp:wC sel K H'=Kx) (hr:yX (ja sel K.length) 9 r=rx) (hk:okB rx fun c=>k c Kx):∃ r H2,zb P f K args r H2∧okB r fun c=>k c H2:=
 ⟨_,_,h.part sel hR hH ha z8 fp fg,by rw [hp,hr];exact hk⟩
def zI {n:Nat} {x:Ob} {H:zl} (h1:qP n [x]=true) (h2:qP n H=true):qP n (x::H)=true:=by
 unfold qP at *;simp only [rJ,sQ,sF] at *;rw [h1,h2];rfl
def qh {n ty sz fz:Nat} {rows:List (List C)} (h:∀ r ∈ rows,∀ c ∈ r,q8 n 9 c=true):qP n [⟨1,ty,sz,rows,fz⟩]=true:=by
 unfold qP;simp only [rJ,sQ,sF];have:(rows.all fun r=>r.all (q8 n 9))=true:=dZ.2 fun r hr=>dZ.2 fun c hc=>h r hr c hc
 rw [this];simp
def NW (w:Wor) (m:u3) (r0:List Int) (x:Int) (h0:0<=m.zg) (hr:w.counts[m.zg.toNat]?= some r0) (hx:r0[0]?= some x):
  to 152 [⟨1,37,8,[[I w.zn,I w.current,I w.lock,lI w.pins,lV w.ze,lL w.zd,.sl 2 [] 1 0 w.counts.length false,lR w.zr]],0⟩,⟨1,69,44,[zD (m)],0⟩,⟨1,0,1,(w.counts.map zN).set m.zg.toNat [C.sl 3 [] 1 0 r0.length false],0⟩,⟨2,43,1,(r0).map jL,0⟩] [.agg tn] (Ce (eI m 3 10 0))
   [⟨1,37,8,[[I w.zn,I w.current,I w.lock,lI w.pins,lV w.ze,lL w.zd,.sl 2 [] 1 0 w.counts.length false,lR w.zr]],0⟩,⟨1,69,44,[zD ({ m with pc:=if m.answer.kind=1∨m.listen < 0 then 23 else 22 })],0⟩,⟨1,0,1,(w.counts.map zN).set m.zg.toNat [C.sl 3 [] 1 0 r0.length false],0⟩,⟨2,43,1,(r0.set 0 (IntKind.u64.wrap (x+1))).map jL,0⟩]:=by
 have e1:0+m.zg.toNat=m.zg.toNat:=gz _;have u4:m.zg.toNat < w.counts.length:=(dP.1 hr).1;have gt:((w.counts.map zN).set m.zg.toNat [C.sl 3 [] 1 0 r0.length false])[m.zg.toNat]?= some [C.sl 3 [] 1 0 r0.length false]:=dW (aq u4);have gx:(r0.map jL)[0]?= some (jL x):=by rw [dT,hx];rfl
 have hl0:0 < r0.length:=(dP.1 hx).1;have hst:(r0.map jL).set 0 [U (IntKind.u64.wrap (x+1))]=(r0.set 0 (IntKind.u64.wrap (x+1))).map jL:=bR
 have own:∀ r ∈ (w.counts.map zN).set m.zg.toNat [C.sl 3 [] 1 0 r0.length false],∀ c ∈ r,zy c=true:=zA (enc:=zN) (fun _=>rfl) rfl _ _;have low:∀ r ∈ (w.counts.map zN).set m.zg.toNat [C.sl 3 [] 1 0 r0.length false],∀ c ∈ r,q8 4 9 c=true:=zA (enc:=zN) (fun _=>rfl) rfl _ _;refine aa func152 ?_;refine uE ?_;refine ⟨h0,u4,dd ?_⟩;rw [e1];refine ⟨_,gt,tT,dd ?_⟩;refine ⟨ar,hl0,dd ?_⟩;refine ⟨_,gx,tT,dd ?_⟩;refine ⟨ar,hl0,dd ?_⟩;refine ⟨_,gx,rfl,dd ?_⟩;have hst2:(r0.map jL).set (0+Int.toNat 0) [U (IntKind.u64.wrap (x+1))]=(r0.set 0 (IntKind.u64.wrap (x+1))).map jL:=hst;rw [hst2];refine ⟨fun h1=>?_,fun h1=>?_⟩
 ·rw [dU (.inl (gd h1))];refine dd ?_;refine td ?_
  refine zZ [1] [⟨1,37,8,[[I w.zn,I w.current,I w.lock,lI w.pins,lV w.ze,lL w.zd,.sl 2 [] 1 0 w.counts.length false,lR w.zr]],0⟩,⟨1,69,44,[zD ({ m with pc:=23 })],0⟩,⟨1,0,1,(w.counts.map zN).set m.zg.toNat [C.sl 3 [] 1 0 r0.length false],0⟩,⟨2,43,1,(r0.set 0 (IntKind.u64.wrap (x+1))).map jL,0⟩,⟨1,213,2,[tn],0⟩,⟨1,48,23,[zP qC],0⟩] (rx:=Ce (eI { m with pc:=23 } 3 10 0)) (jq { m with pc:=23 } 3 10 0) rfl rfl rfl rfl rfl (zc rfl (zc rfl (zc (zj own) rfl))) rfl rfl (dd ?_);exact cP
 ·refine dd ?_;refine ⟨fun h2=>?_,fun h2=>?_⟩
  ·rw [dU (.inr (gd h2))];refine dd ?_;refine td ?_
   refine zZ [1] [⟨1,37,8,[[I w.zn,I w.current,I w.lock,lI w.pins,lV w.ze,lL w.zd,.sl 2 [] 1 0 w.counts.length false,lR w.zr]],0⟩,⟨1,69,44,[zD ({ m with pc:=23 })],0⟩,⟨1,0,1,(w.counts.map zN).set m.zg.toNat [C.sl 3 [] 1 0 r0.length false],0⟩,⟨2,43,1,(r0.set 0 (IntKind.u64.wrap (x+1))).map jL,0⟩,⟨1,213,2,[tn],0⟩,⟨1,48,23,[zP qC],0⟩] (rx:=Ce (eI { m with pc:=23 } 3 10 0)) (jq { m with pc:=23 } 3 10 0) rfl rfl rfl rfl rfl (zc rfl (zc rfl (zc (zj own) rfl))) rfl rfl (dd ?_);exact cP
  ·rw [dR (fun h=>h.elim (pM h1) (pM h2))];refine dd ?_;refine td ?_
   refine zZ [1] [⟨1,37,8,[[I w.zn,I w.current,I w.lock,lI w.pins,lV w.ze,lL w.zd,.sl 2 [] 1 0 w.counts.length false,lR w.zr]],0⟩,⟨1,69,44,[zD ({ m with pc:=22 })],0⟩,⟨1,0,1,(w.counts.map zN).set m.zg.toNat [C.sl 3 [] 1 0 r0.length false],0⟩,⟨2,43,1,(r0.set 0 (IntKind.u64.wrap (x+1))).map jL,0⟩,⟨1,213,2,[tn],0⟩,⟨1,48,23,[zP qC],0⟩] (rx:=Ce (eI { m with pc:=22 } 3 10 0)) (jq { m with pc:=22 } 3 10 0) rfl rfl rfl rfl rfl (zc rfl (zc rfl (zc (zj own) rfl))) rfl rfl (dd ?_);exact cP
def mI (n:Int):Int:=if n < 1∨5 < n then 0 else n
def NO (w:Wor) (m:u3) (r0:List Int) (x k:Int) (hk:mI m.answer.kind=k) (h0:0<=m.zg) (hr:w.counts[m.zg.toNat]?= some r0) (hx:r0[k.toNat]?= some x):
  to 151 [⟨1,37,8,[[I w.zn,I w.current,I w.lock,lI w.pins,lV w.ze,lL w.zd,.sl 2 [] 1 0 w.counts.length false,lR w.zr]],0⟩,⟨1,69,44,[zD (m)],0⟩,⟨1,0,1,(w.counts.map zN).set m.zg.toNat [C.sl 3 [] 1 0 r0.length false],0⟩,⟨2,43,1,(r0).map jL,0⟩] [.agg tn] (Ce (eI m 3 10 k))
   [⟨1,37,8,[[I w.zn,I w.current,I w.lock,lI w.pins,lV w.ze,lL w.zd,.sl 2 [] 1 0 w.counts.length false,lR w.zr]],0⟩,⟨1,69,44,[zD ({ m with pc:=21 })],0⟩,⟨1,0,1,(w.counts.map zN).set m.zg.toNat [C.sl 3 [] 1 0 r0.length false],0⟩,⟨2,43,1,(r0.set k.toNat (IntKind.u64.wrap (x+1))).map jL,0⟩]:=by
 have e1:0+m.zg.toNat=m.zg.toNat:=gz _;have k0:0<=k:=by rw [<- hk];unfold mI;split <;> omega
 have k1:k.toNat < r0.length:=(dP.1 hx).1;have u4:m.zg.toNat < w.counts.length:=(dP.1 hr).1;have gt:((w.counts.map zN).set m.zg.toNat [C.sl 3 [] 1 0 r0.length false])[m.zg.toNat]?= some [C.sl 3 [] 1 0 r0.length false]:=dW (aq u4);have gx:(r0.map jL)[0+k.toNat]?= some (jL x):=by rw [gz,dT,hx];rfl
 have hst:(r0.map jL).set (0+k.toNat) [U (IntKind.u64.wrap (x+1))]=(r0.set k.toNat (IntKind.u64.wrap (x+1))).map jL:=by rw [gz,pL];rfl
 have own:∀ r ∈ (w.counts.map zN).set m.zg.toNat [C.sl 3 [] 1 0 r0.length false],∀ c ∈ r,zy c=true:=zA (enc:=zN) (fun _=>rfl) rfl _ _;have low:∀ r ∈ (w.counts.map zN).set m.zg.toNat [C.sl 3 [] 1 0 r0.length false],∀ c ∈ r,q8 4 9 c=true:=zA (enc:=zN) (fun _=>rfl) rfl _ _;refine aa func151 ?_;refine ⟨fun h1=>?_,fun h1=>?_⟩
 ·obtain rfl:k=0:=by rw [<- hk];unfold mI;rw [dU (.inl (gd h1))]
  refine dd ?_;refine td ?_
  refine uE ?_;(refine ⟨h0,u4,dd ?_⟩);(rw [e1]);(refine ⟨_,gt,tT,dd ?_⟩);(refine ⟨k0,k1,dd ?_⟩);(refine ⟨_,gx,tT,dd ?_⟩);(refine ⟨k0,k1,dd ?_⟩);(refine ⟨_,gx,rfl,dd ?_⟩);(rw [hst]);(refine zZ [1] [⟨1,37,8,[[I w.zn,I w.current,I w.lock,lI w.pins,lV w.ze,lL w.zd,.sl 2 [] 1 0 w.counts.length false,lR w.zr]],0⟩,⟨1,69,44,[zD ({ m with pc:=21 })],0⟩,⟨1,0,1,(w.counts.map zN).set m.zg.toNat [C.sl 3 [] 1 0 r0.length false],0⟩,⟨2,43,1,(r0.set ((0:Int)).toNat (IntKind.u64.wrap (x+1))).map jL,0⟩,⟨1,213,2,[tn],0⟩,⟨1,48,23,[zP qC],0⟩] (rx:=Ce (eI { m with pc:=21 } 3 10 ((0:Int)))) (jq { m with pc:=21 } 3 10 ((0:Int))) rfl rfl rfl rfl rfl (zc rfl (zc rfl (zc (zj own) rfl))) rfl rfl (dd ?_));exact cP
 ·refine dd ?_;refine td ?_
  refine ⟨fun h2=>?_,fun h2=>?_⟩
  ·obtain rfl:k=0:=by rw [<- hk];unfold mI;rw [dU (.inr (gd h2))]
   refine dd ?_;refine td ?_
   refine uE ?_;(refine ⟨h0,u4,dd ?_⟩);(rw [e1]);(refine ⟨_,gt,tT,dd ?_⟩);(refine ⟨k0,k1,dd ?_⟩);(refine ⟨_,gx,tT,dd ?_⟩);(refine ⟨k0,k1,dd ?_⟩);(refine ⟨_,gx,rfl,dd ?_⟩);(rw [hst]);(refine zZ [1] [⟨1,37,8,[[I w.zn,I w.current,I w.lock,lI w.pins,lV w.ze,lL w.zd,.sl 2 [] 1 0 w.counts.length false,lR w.zr]],0⟩,⟨1,69,44,[zD ({ m with pc:=21 })],0⟩,⟨1,0,1,(w.counts.map zN).set m.zg.toNat [C.sl 3 [] 1 0 r0.length false],0⟩,⟨2,43,1,(r0.set ((0:Int)).toNat (IntKind.u64.wrap (x+1))).map jL,0⟩,⟨1,213,2,[tn],0⟩,⟨1,48,23,[zP qC],0⟩] (rx:=Ce (eI { m with pc:=21 } 3 10 ((0:Int)))) (jq { m with pc:=21 } 3 10 ((0:Int))) rfl rfl rfl rfl rfl (zc rfl (zc rfl (zc (zj own) rfl))) rfl rfl (dd ?_));exact cP
  ·obtain rfl:k=m.answer.kind:=by rw [<- hk];unfold mI;rw [dR (fun h=>h.elim (pM h1) (pM h2))]
   refine dd ?_;refine td ?_
   refine uE ?_;(refine ⟨h0,u4,dd ?_⟩);(rw [e1]);(refine ⟨_,gt,tT,dd ?_⟩);(refine ⟨k0,k1,dd ?_⟩);(refine ⟨_,gx,tT,dd ?_⟩);(refine ⟨k0,k1,dd ?_⟩);(refine ⟨_,gx,rfl,dd ?_⟩);(rw [hst]);(refine zZ [1] [⟨1,37,8,[[I w.zn,I w.current,I w.lock,lI w.pins,lV w.ze,lL w.zd,.sl 2 [] 1 0 w.counts.length false,lR w.zr]],0⟩,⟨1,69,44,[zD ({ m with pc:=21 })],0⟩,⟨1,0,1,(w.counts.map zN).set m.zg.toNat [C.sl 3 [] 1 0 r0.length false],0⟩,⟨2,43,1,(r0.set (m.answer.kind).toNat (IntKind.u64.wrap (x+1))).map jL,0⟩,⟨1,213,2,[tn],0⟩,⟨1,48,23,[zP qC],0⟩] (rx:=Ce (eI { m with pc:=21 } 3 10 (m.answer.kind))) (jq { m with pc:=21 } 3 10 (m.answer.kind)) rfl rfl rfl rfl rfl (zc rfl (zc rfl (zc (zj own) rfl))) rfl rfl (dd ?_));exact cP
def yh {P:Program} {o:Oper} {σ:Operand->Value} {t t':TypeId} {x y:Operand} {k:IntKind} {n m:Int} (ho:o.op=.binOp .rem t x y t') (hx:σ x=.int k n) (hy:σ y=.int k m) (hm:m≠0):
  iQ P (execOp σ o)=some (.value (.int k (n.tmod m))):=by
 have hi:Op.intDiv .rem k n m=pure (.int k (n.tmod m)):=by unfold Op.intDiv;rw [dR hm]
 have hg:eqGuard .rem t x y (σ x) (σ y)=pure ():=rfl
 have hb:binOp .rem t (σ x) (σ y)=pure (.int k (n.tmod m)):=by
  rw [hx,hy];simp only [binOp,hi];exact dR aj
 unfold execOp;rw [ho];dsimp only;rw [hg,hb]
 rfl
def M6 {n:Int} (h:0<=n) (h':n < 18446744073709551616):IntKind.u64.wrap n=n:=by
 simp only [IntKind.wrap,IntKind.signed,IntKind.bits,Bool.false_and,rZ,if_false];omega
abbrev u4 (c:eV):List Int:=iA c.zL c.zL.length
def mo (c:eV) (n:Int):Int × Int:=if (u4 c).length=0 then (0,5) else (((u4 c)[(n % (u4 c).length).toNat]?).getD 0,0)
def Rt (c:eV) (n:Int) (hn:u64 n) (hl:c.zL.length < 1000000000000) (hh:(u4 c).length<=c.zL.length):to 182 [] [Cc c,U n] (.u7 [I (mo c n).1,I (mo c n).2]) []:=by
 have ml:((u4 c).map encI).length=(u4 c).length:=dV ..;refine ab func182 ?_;refine ah (Ii c hl) ?_;rw [ml];refine ⟨fun h0=>?_,fun h0=>?_⟩
 ·unfold mo;have h0:=gd h0;rw [dU aw];exact uI
 ·unfold mo;have h0:=pM h0;rw [dR aw];refine dd ?_
  have hw:IntKind.u64.wrap ((((u4 c).map encI).length:Nat):Int)≠0:=by
   have hk:=ml;have:IntKind.u64.wrap ((((u4 c).map encI).length:Nat):Int)=(u4 c).length:=by rw [ml];exact M6 aw aw
   omega
  split
  rotate_left
  ·rename_i hno;exact (hno _ (yh rfl rfl rfl hw)).elim
  ·rename_i v e;have e':=e.symm.trans (yh rfl rfl rfl hw);cases e'
   refine dd ?_;have ew:IntKind.u64.wrap ((((u4 c).map encI).length:Nat):Int)=(u4 c).length:=by rw [ml];exact M6 aw aw
   have et:n.tmod (IntKind.u64.wrap ((((u4 c).map encI).length:Nat):Int))=n % (u4 c).length:=by rw [ew];exact rR hn.1
   have b0:0<=n % ((u4 c).length:Int):=r4 _ h0;have b1:n % ((u4 c).length:Int) < (u4 c).length:=r5 _ aw;have hi:(n % ((u4 c).length:Int)).toNat < (u4 c).length:=aw
   have gx:((u4 c).map encI)[(n.tmod (IntKind.u64.wrap ((((u4 c).map encI).length:Nat):Int))).toNat]?= some (encI ((u4 c)[(n % ((u4 c).length:Int)).toNat]'hi)):=by rw [et,dT,dQ hi];rfl
   refine ⟨by show 0<=n.tmod (IntKind.u64.wrap ((((u4 c).map encI).length:Nat):Int));rw [et];exact b0,_,gx,dd ?_⟩;rw [dQ hi];exact uI
def Q8 (a x b y:Int):to 186 [] [I a,I x,I b,I y] (I (if y < x then b else a)) []:=by
 refine ab func186 ?_;refine ⟨fun h=>?_,fun h=>?_⟩
 ·rw [dU (gd h)];exact di
 ·rw [dR (pM h)];exact di
def Nt (w:Wor) (m:u3) (v:u9) (g:Gr) (e:En) (hv:BI w m v g) (o0:0<=m.other) (ho:g.ends[m.other.toNat]?= some e):
  to 146 [⟨1,37,8,[zJ w],0⟩,⟨1,69,44,[zD (m)],0⟩] [.agg tn] (Ce (fx m v 1 7 e.zf)) [⟨1,37,8,[zJ w],0⟩,⟨1,69,44,[zD ({ m with end_:=if e.zf < m.i then m.other else m.end_,pc:=9 })],0⟩]:=by
 have er:(g.ends.map zx)[m.other.toNat]?= some (zx e):=by rw [dT,ho];rfl
 refine aa func146 ?_;refine .inl ⟨⟨true,[],[],[1]⟩,au,uH ?_⟩;refine af [0,1] (Ji w m v g hv) ?_;refine tc ?_
 (refine ⟨o0,_,er,dd ?_⟩)
 refine .inl ⟨⟨true,[],[],[15]⟩,au,uH ?_⟩;refine ah (Q8 m.end_ m.i m.other e.zf) ?_;refine tc ?_
 refine af [0,1] (kX w { m with end_:=if e.zf < m.i then m.other else m.end_,pc:=9 } v ⟨hv.v0,hv.at_⟩ 1 7 e.zf) ?_;exact cJ
structure l7 (w:Wor) (m:u3) (v0:u9) (g0:Gr):Prop where
 pv:0<=m.version
 lv:m.version.toNat < w.ze.length
 pg:0<=m.zi
 lg:m.zi.toNat < v0.zm.length
 pe:0<=m.end_
 le:m.end_.toNat < g0.ends.length
def fk.ln {w:Wor} {m:u3} {v0:u9} {g0:Gr} {e0:En} (h:fk w m v0 g0 e0):l7 w m v0 g0:=⟨h.v0,(dP.1 h.at_).1,h.g0,(dP.1 h.eG).1,h.e0,(dP.1 h.eS).1⟩
def DG {P:Program} {f:FuncId} (sel:List Nat) (Kx:zl) {K H0 H':zl} {args args0:List C} {r rx:C} (h:zb P f H0 args0 r H') (hR:qS H'=true)
  (hH:xC sel K=H0) (ha:args.map (yf sel 9)=args0) (z8:sel.all (fun id=>Nat.blt id K.length)=true) (fp:yq sel=true) (fg:qS K=true) {k:C->zl->Prop}
  (hp:wC sel K H'=Kx) (hr:yX (ja sel K.length) 9 r=rx) (hk:k rx Kx):∃ R,qE P f K args R∧∀ r H2,R r H2->k r H2:=
 ⟨fun x X=>x=rx∧X=Kx,(h.part sel hR hH ha z8 fp fg).lf ⟨hr,hp⟩,by rintro _ _ ⟨rfl,rfl⟩;exact hk⟩
def EX (w:Wor) (m:u3) (v0:u9) (g0:Gr) (e0:En) (hv:l7 w m v0 g0):to 181 [⟨1,37,8,[(eZ w 2)],0⟩,⟨1,69,44,[zD (m)],0⟩,⟨1,0,5,eD w m v0 3,0⟩,⟨1,0,2,ez m v0 g0 g0.zt 4,0⟩,⟨1,0,3,ej m g0 e0 e0.head 5 e0.zf,0⟩,⟨2,3,1,e0.next.map encI,0⟩] [.agg tn] (.ref 3 [] 2 m.zi.toNat 0) [⟨1,37,8,[(eZ w 2)],0⟩,⟨1,69,44,[zD (m)],0⟩,⟨1,0,5,eD w m v0 3,0⟩,⟨1,0,2,ez m v0 g0 g0.zt 4,0⟩,⟨1,0,3,ej m g0 e0 e0.head 5 e0.zf,0⟩,⟨2,3,1,e0.next.map encI,0⟩]:=by
 have h0:=hv.pv;have g0':=hv.pg;have lv:m.version.toNat < w.ze.length:=hv.lv;have lg:m.zi.toNat < v0.zm.length:=hv.lg;have lowV:∀ r ∈ eD w m v0 3,∀ c ∈ r,q8 6 9 c=true:=zA (enc:=zF) (fun _=>rfl) rfl _ _;have lowG:∀ r ∈ ez m v0 g0 g0.zt 4,∀ c ∈ r,q8 6 9 c=true:=zA (enc:=zE) (fun _=>rfl) rfl _ _;have lowE:∀ r ∈ ej m g0 e0 e0.head 5 e0.zf,∀ c ∈ r,q8 6 9 c=true:=zA (enc:=zx) (fun _=>rfl) rfl _ _;have e1:0+m.version.toNat=m.version.toNat:=gz _;have e2:0+m.zi.toNat=m.zi.toNat:=gz _;have gv:(eD w m v0 3)[m.version.toNat]?= some ((qN v0.snap++[C.sl 3 [] 2 0 v0.zm.length false,Bo v0.qn])):=dW tR;refine aa func181 ?_;refine uE ?_;refine ⟨h0,lv,dd ?_⟩;rw [e1];refine ⟨_,gv,cy,dd ?_⟩;refine ⟨g0',lg,dd ?_⟩;rw [e2];exact cK
def vA (w:Wor) (m:u3) (v0:u9) (g0:Gr) (e0:En) (hv:l7 w m v0 g0):to 185 [⟨1,37,8,[(eZ w 2)],0⟩,⟨1,69,44,[zD (m)],0⟩,⟨1,0,5,eD w m v0 3,0⟩,⟨1,0,2,ez m v0 g0 g0.zt 4,0⟩,⟨1,0,3,ej m g0 e0 e0.head 5 e0.zf,0⟩,⟨2,3,1,e0.next.map encI,0⟩] [.agg tn] (.ref 4 [] 3 m.end_.toNat 0) [⟨1,37,8,[(eZ w 2)],0⟩,⟨1,69,44,[zD (m)],0⟩,⟨1,0,5,eD w m v0 3,0⟩,⟨1,0,2,ez m v0 g0 g0.zt 4,0⟩,⟨1,0,3,ej m g0 e0 e0.head 5 e0.zf,0⟩,⟨2,3,1,e0.next.map encI,0⟩]:=by
 have h0:=hv.pe;have lg:m.zi.toNat < v0.zm.length:=hv.lg;have le:m.end_.toNat < g0.ends.length:=hv.le;have ownV:∀ r ∈ eD w m v0 3,∀ c ∈ r,zy c=true:=zA (enc:=zF) (fun _=>rfl) rfl _ _;have ownG:∀ r ∈ ez m v0 g0 g0.zt 4,∀ c ∈ r,zy c=true:=zA (enc:=zE) (fun _=>rfl) rfl _ _;have ownE:∀ r ∈ ej m g0 e0 e0.head 5 e0.zf,∀ c ∈ r,zy c=true:=zA (enc:=zx) (fun _=>rfl) rfl _ _;have lowV:∀ r ∈ eD w m v0 3,∀ c ∈ r,q8 6 9 c=true:=zA (enc:=zF) (fun _=>rfl) rfl _ _;have lowG:∀ r ∈ ez m v0 g0 g0.zt 4,∀ c ∈ r,q8 6 9 c=true:=zA (enc:=zE) (fun _=>rfl) rfl _ _;have lowE:∀ r ∈ ej m g0 e0 e0.head 5 e0.zf,∀ c ∈ r,q8 6 9 c=true:=zA (enc:=zx) (fun _=>rfl) rfl _ _;have e2:0+m.end_.toNat=m.end_.toNat:=gz _;have gg:(ez m v0 g0 g0.zt 4)[m.zi.toNat]?= some ([U g0.zt,C.sl 4 [] 3 0 g0.ends.length false]):=dW tO;refine aa func185 ?_;refine .inl ⟨⟨true,[],[],[1]⟩,au,uH ?_⟩;refine zZ [0,1,2,3,4,5] [⟨1,37,8,[(eZ w 2)],0⟩,⟨1,69,44,[zD (m)],0⟩,⟨1,0,5,eD w m v0 3,0⟩,⟨1,0,2,ez m v0 g0 g0.zt 4,0⟩,⟨1,0,3,ej m g0 e0 e0.head 5 e0.zf,0⟩,⟨2,3,1,e0.next.map encI,0⟩,⟨1,213,2,[tn],0⟩] (rx:=.ref 3 [] 2 m.zi.toNat 0) (EX w m v0 g0 e0 hv) (zc rfl (zc rfl (zc (zj ownV) (zc (zj ownG) (zc (zj ownE) rfl))))) uT rfl rfl rfl (zc rfl (zc rfl (zc (zj ownV) (zc (zj ownG) (zc (zj ownE) rfl))))) uU rfl (dd ?_);refine ⟨_,gg,cz,dd ?_⟩;refine ⟨h0,le,dd ?_⟩;rw [e2];exact cK
def QI (w:Wor) (m:u3) (v0:u9) (g0:Gr) (e0:En) (hv:l7 w m v0 g0) (a b c:Int):to 184 [⟨1,37,8,[(eZ w 2)],0⟩,⟨1,69,44,[zD (m)],0⟩,⟨1,0,5,eD w m v0 3,0⟩,⟨1,0,2,ez m v0 g0 g0.zt 4,0⟩,⟨1,0,3,ej m g0 e0 e0.head 5 e0.zf,0⟩,⟨2,3,1,e0.next.map encI,0⟩] [.agg tn,I a,I b,I c] (Ce (fx m v0 a b c)) [⟨1,37,8,[(eZ w 2)],0⟩,⟨1,69,44,[zD (m)],0⟩,⟨1,0,5,eD w m v0 3,0⟩,⟨1,0,2,ez m v0 g0 g0.zt 4,0⟩,⟨1,0,3,ej m g0 e0 e0.head 5 e0.zf,0⟩,⟨2,3,1,e0.next.map encI,0⟩]:=by
 have h0:=hv.pv;have lv:m.version.toNat < w.ze.length:=hv.lv;have e1:0+m.version.toNat=m.version.toNat:=gz _
 clear hv
 obtain ⟨sn,gs,fr⟩:=v0;cases fr
 all_goals
  have ownV:∀ b,∀ r ∈ (w.ze.map zF).set m.version.toNat (qN sn++[C.sl 3 [] 2 0 gs.length false,Bo b]),∀ c ∈ r,zy c=true:=fun b=>zA (enc:=zF) (fun _=>rfl) rfl _ _
  have ownG:∀ r ∈ (gs.map zE).set m.zi.toNat ([U g0.zt,C.sl 4 [] 3 0 g0.ends.length false]),∀ c ∈ r,zy c=true:=zA (enc:=zE) (fun _=>rfl) rfl _ _;have ownE:∀ r ∈ ej m g0 e0 e0.head 5 e0.zf,∀ c ∈ r,zy c=true:=zA (enc:=zx) (fun _=>rfl) rfl _ _;have lowV:∀ b,∀ r ∈ (w.ze.map zF).set m.version.toNat (qN sn++[C.sl 3 [] 2 0 gs.length false,Bo b]),∀ c ∈ r,q8 6 9 c=true:=fun b=>zA (enc:=zF) (fun _=>rfl) rfl _ _
  have gv:∀ b,((w.ze.map zF).set m.version.toNat (qN sn++[C.sl 3 [] 2 0 gs.length false,Bo b]))[m.version.toNat]?= some (qN sn++[C.sl 3 [] 2 0 gs.length false,Bo b]):=fun b=>dW tR
  have lowG:∀ r ∈ (gs.map zE).set m.zi.toNat ([U g0.zt,C.sl 4 [] 3 0 g0.ends.length false]),∀ c ∈ r,q8 6 9 c=true:=zA (enc:=zE) (fun _=>rfl) rfl _ _;have lowE:∀ r ∈ ej m g0 e0 e0.head 5 e0.zf,∀ c ∈ r,q8 6 9 c=true:=zA (enc:=zx) (fun _=>rfl) rfl _ _;refine aa func184 ?_;refine zZ [1] [⟨1,37,8,[(eZ w 2)],0⟩,⟨1,69,44,[zD (m)],0⟩,⟨1,0,5,(w.ze.map zF).set m.version.toNat (qN sn++[C.sl 3 [] 2 0 gs.length false,Bo _]),0⟩,⟨1,0,2,(gs.map zE).set m.zi.toNat ([U g0.zt,C.sl 4 [] 3 0 g0.ends.length false]),0⟩,⟨1,0,3,ej m g0 e0 e0.head 5 e0.zf,0⟩,⟨2,3,1,e0.next.map encI,0⟩,⟨1,213,2,[tn],0⟩,⟨1,48,23,[zP qC],0⟩] (rx:=Ce (eI m a b c)) (jq m a b c) rfl rfl rfl rfl rfl (zc rfl (zc rfl (zc (zj (ownV _)) (zc (zj ownG) (zc (zj ownE) rfl))))) rfl rfl (dd ?_);refine .inl ⟨⟨false,[6,9,11,14,17],[0,1,2,6],[]⟩,au,uH ?_⟩;refine ⟨h0,lv,dd ?_⟩;rw [e1];refine ⟨_,gv _,(by show 4+1<=5;decide),dd ?_⟩
  first | ((refine ya (dd ?_))) | ((refine yb (dd ?_)))
  refine tc ?_
  exact ⟨.inl rfl,_,_,.refl _,rfl,zp.xx 6 hU rfl rfl rfl (zI rfl (zI rfl (zI (qh (lowV _)) (zI (qh lowG) (zI (qh lowE) rfl))))) rfl⟩
abbrev MY (e:En) (n:Int):En:={ e with zf:=IntKind.i64.wrap (e.zf+n) }
def OH (w:Wor) (m:u3) (v0:u9) (g0:Gr) (e0:En) (hv:l7 w m v0 g0):to 150 [⟨1,37,8,[(eZ w 2)],0⟩,⟨1,69,44,[zD (m)],0⟩,⟨1,0,5,eD w m v0 3,0⟩,⟨1,0,2,ez m v0 g0 g0.zt 4,0⟩,⟨1,0,3,ej m g0 e0 e0.head 5 e0.zf,0⟩,⟨2,3,1,e0.next.map encI,0⟩] [.agg tn] (Ce (fx m v0 3 7 (IntKind.i64.wrap (e0.zf+1))))
  [⟨1,37,8,[(eZ w 2)],0⟩,⟨1,69,44,[zD ({ m with answer:=⟨1,m.version,m.zi,m.end_,m.slot,m.listen,0,⟨0,0,0,0,0,0⟩⟩,pc:=20 })],0⟩,⟨1,0,5,eD w m v0 3,0⟩,⟨1,0,2,ez m v0 g0 g0.zt 4,0⟩,⟨1,0,3,(g0.ends.map zx).set m.end_.toNat [U e0.head,C.sl 5 [] 1 0 e0.next.length false,I (IntKind.i64.wrap (e0.zf+1))],0⟩,⟨2,3,1,e0.next.map encI,0⟩]:=by
 have le:=hv.le;have ownV:∀ r ∈ eD w m v0 3,∀ c ∈ r,zy c=true:=zA (enc:=zF) (fun _=>rfl) rfl _ _;have ownG:∀ r ∈ ez m v0 g0 g0.zt 4,∀ c ∈ r,zy c=true:=zA (enc:=zE) (fun _=>rfl) rfl _ _;have ownE:∀ r ∈ ej m g0 e0 e0.head 5 e0.zf,∀ c ∈ r,zy c=true:=zA (enc:=zx) (fun _=>rfl) rfl _ _;have ge:(ej m g0 e0 e0.head 5 e0.zf)[m.end_.toNat]?= some ([U e0.head,C.sl 5 [] 1 0 e0.next.length false,I e0.zf]):=dW tL;refine aa func150 ?_;refine DG [0,1,2,3,4,5] [⟨1,37,8,[(eZ w 2)],0⟩,⟨1,69,44,[zD (m)],0⟩,⟨1,0,5,eD w m v0 3,0⟩,⟨1,0,2,ez m v0 g0 g0.zt 4,0⟩,⟨1,0,3,ej m g0 e0 e0.head 5 e0.zf,0⟩,⟨2,3,1,e0.next.map encI,0⟩,⟨1,213,2,[tn],0⟩,⟨1,48,23,[zP qC],0⟩] (rx:=.ref 4 [] 3 m.end_.toNat 0) (vA w m v0 g0 e0 hv) (zc rfl (zc rfl (zc (zj ownV) (zc (zj ownG) (zc (zj ownE) rfl))))) uT rfl rfl rfl (zc rfl (zc rfl (zc (zj ownV) (zc (zj ownG) (zc (zj ownE) rfl))))) uU rfl (dd ?_);refine ⟨_,ge,cA,dd ?_⟩;refine ⟨_,ge,rfl,dd ?_⟩;rw [gI];refine uE ?_;have ownE2:∀ r ∈ (g0.ends.map zx).set m.end_.toNat [U e0.head,C.sl 5 [] 1 0 e0.next.length false,I (IntKind.i64.wrap (e0.zf+1))],∀ c ∈ r,zy c=true:=zA (enc:=zx) (fun _=>rfl) rfl _ _;refine .inl ⟨⟨true,[],[],[2,6]⟩,au,uH ?_⟩;have hv2:l7 w { m with answer:=⟨1,m.version,m.zi,m.end_,m.slot,m.listen,0,⟨0,0,0,0,0,0⟩⟩,pc:=20 } v0 g0:=⟨hv.pv,hv.lv,hv.pg,hv.lg,hv.pe,hv.le⟩;have ge2:((g0.ends.map zx).set m.end_.toNat [U e0.head,C.sl 5 [] 1 0 e0.next.length false,I (IntKind.i64.wrap (e0.zf+1))])[m.end_.toNat]?= some [U e0.head,C.sl 5 [] 1 0 e0.next.length false,I (IntKind.i64.wrap (e0.zf+1))]:=dW tL;have lowV:∀ r ∈ eD w m v0 3,∀ c ∈ r,q8 6 9 c=true:=zA (enc:=zF) (fun _=>rfl) rfl _ _;have lowG:∀ r ∈ ez m v0 g0 g0.zt 4,∀ c ∈ r,q8 6 9 c=true:=zA (enc:=zE) (fun _=>rfl) rfl _ _;have lowE:∀ r ∈ (g0.ends.map zx).set m.end_.toNat [U e0.head,C.sl 5 [] 1 0 e0.next.length false,I (IntKind.i64.wrap (e0.zf+1))],∀ c ∈ r,q8 6 9 c=true:=zA (enc:=zx) (fun _=>rfl) rfl _ _;refine zZ [0,1,2,3,4,5] [⟨1,37,8,[(eZ w 2)],0⟩,⟨1,69,44,[zD ({ m with answer:=⟨1,m.version,m.zi,m.end_,m.slot,m.listen,0,⟨0,0,0,0,0,0⟩⟩,pc:=20 })],0⟩,⟨1,0,5,eD w m v0 3,0⟩,⟨1,0,2,ez m v0 g0 g0.zt 4,0⟩,⟨1,0,3,(g0.ends.map zx).set m.end_.toNat [U e0.head,C.sl 5 [] 1 0 e0.next.length false,I (IntKind.i64.wrap (e0.zf+1))],0⟩,⟨2,3,1,e0.next.map encI,0⟩,⟨1,213,2,[tn],0⟩,⟨1,48,23,[zP qC],0⟩] (rx:=.ref 4 [] 3 m.end_.toNat 0) (vA w _ v0 g0 (MY e0 1) hv2) (zc rfl (zc rfl (zc (zj ownV) (zc (zj ownG) (zc (zj ownE2) rfl))))) uT rfl rfl rfl (zc rfl (zc rfl (zc (zj ownV) (zc (zj ownG) (zc (zj ownE2) rfl))))) uU rfl (dd ?_);refine ⟨_,ge2,cA,dd ?_⟩;refine zZ [0,1,2,3,4,5] [⟨1,37,8,[(eZ w 2)],0⟩,⟨1,69,44,[zD ({ m with answer:=⟨1,m.version,m.zi,m.end_,m.slot,m.listen,0,⟨0,0,0,0,0,0⟩⟩,pc:=20 })],0⟩,⟨1,0,5,eD w m v0 3,0⟩,⟨1,0,2,ez m v0 g0 g0.zt 4,0⟩,⟨1,0,3,(g0.ends.map zx).set m.end_.toNat [U e0.head,C.sl 5 [] 1 0 e0.next.length false,I (IntKind.i64.wrap (e0.zf+1))],0⟩,⟨2,3,1,e0.next.map encI,0⟩,⟨1,213,2,[tn],0⟩,⟨1,48,23,[zP qC],0⟩] (rx:=Ce (fx m v0 3 7 (IntKind.i64.wrap (e0.zf+1)))) (QI w _ v0 g0 (MY e0 1) hv2 3 7 (IntKind.i64.wrap (e0.zf+1))) (zc rfl (zc rfl (zc (zj ownV) (zc (zj ownG) (zc (zj ownE2) rfl))))) uT rfl rfl rfl (zc rfl (zc rfl (zc (zj ownV) (zc (zj ownG) (zc (zj ownE2) rfl))))) uU rfl (dd ?_);exact cK
end Go.Wor
