import Derived.Test.YtkbnjgogjccmfaaGreatRV
set_option linter.all false
set_option maxRecDepth 100000
set_option maxHeartbeats 4000000
namespace Go.Wor
open Go.Ab Go.Proofs Tryz Go.Hy Go.Gat Go.Nam Go.Hos Go.Con Go.Sna
abbrev u6 (m:uk) (a b c:Int):uv:=⟨m.zj,0,a,b, -1,false,c,false,false,false,wu⟩
abbrev eX (m:uk) (v:uq) (a b c:Int):uv:=⟨m.zj,0,a,b,m.version,v.qk,c,false,false,false,wu⟩
def jg (m:uk) (a b c:Int):tn 178 [⟨1,69,44,[zD (m)],0⟩] [.agg [.za,.ref 0 [] 44 0 0],I a,I b,I c] (Ce (u6 m a b c)) [⟨1,69,44,[zD (m)],0⟩]:=by
 refine aa func178 ?_;exact dx
abbrev ib (n:Int):u3:=⟨n,0,0,0,0,0,0,⟨0,0,0,0,0,0⟩⟩
abbrev wN (m:uk) (n:Int):uk:={ m with answer:=ib n,pc:=20 }
def vm (m:uk) (n:Int):tn 179 [⟨1,69,44,[zD (m)],0⟩] [.agg [.za,.ref 0 [] 44 0 0],I n] (.uo []) [⟨1,69,44,[zD (wN m n)],0⟩]:=by
 refine aa func179 ?_;refine .inl ⟨⟨false,[3],[1],[]⟩,au,uH ?_⟩;refine hZ ?_
 exact ⟨.inr rfl,_,_,.refl _,rfl,cE 1⟩
structure mr (w:Wor) (m:uk) (v:uq):Prop where
 v0:0<=m.version
 at_:w.ze[m.version.toNat]?= some v
def mr.row {w:Wor} {m:uk} {v:uq} (h:mr w m v):(w.ze.map zF)[m.version.toNat]?= some (zF v):=by rw [dN,h.at_];rfl
def kz (w:Wor) (m:uk) (v:uq) (hv:mr w m v) (a b c:Int):tn 184 [⟨1,37,8,[zJ w],0⟩,⟨1,69,44,[zD (m)],0⟩] [.agg tj,I a,I b,I c] (Ce (eX m v a b c)) [⟨1,37,8,[zJ w],0⟩,⟨1,69,44,[zD (m)],0⟩]:=by
 have h0:=hv.v0;have hr:=hv.row;obtain ⟨sn,gs,fr⟩:=v;cases fr
 all_goals
  refine aa func184 ?_;refine af [1] (jg m a b c) ?_;refine .inl ⟨⟨false,[6,9,11,14,17],[0,1,2],[]⟩,au,uH ?_⟩;(refine ⟨h0,_,hr,dd ?_⟩)
  first | ((refine ya (dd ?_))) | ((refine yb (dd ?_)))
  refine hZ ?_
  exact cG
def CY {P:Program} {f:FuncId} (sel:List Nat) {K H0 H':zl} {args args0:List C} {r:C} (h:zb P f H0 args0 r H') (hR:qN H'=true)
  (hH:xn sel K=H0) (ha:args.map (xO sel 9)=args0) (z7:sel.all (fun id=>Nat.blt id K.length)=true) (eS:x9 sel=true) (eL:qN K=true) {k:C->zl->Prop}
  (hk:n9 (kW sel K H') fun X=>qK (yF (qX sel K.length) 9 r) fun c=>k c X):∃ R',qB P f K args R'∧∀ r H2,R' r H2->k r H2:=
 Ig sel (h.iG (R:=fun x X=>x=r∧X=H') ⟨rfl,rfl⟩) (fun _ _ e=>e.2 ▸ hR) hH ha z7 eS eL (by rintro _ _ ⟨rfl,rfl⟩;exact hk)
structure AS (w:Wor) (m:uk) (v:uq) (g:Gr):Prop extends mr w m v where
 g0:0<=m.zg
 u9:v.zm[m.zg.toNat]?= some g
def AS.Vv {w:Wor} {m:uk} {v:uq} {g:Gr} (h:AS w m v g):(v.zm.map zE)[m.zg.toNat]?= some (zE g):=by rw [dN,h.u9];rfl
structure eQ (w:Wor) (m:uk) (v:uq) (g:Gr) (e:En):Prop extends AS w m v g where
 e0:0<=m.end_
 eE:g.ends[m.end_.toNat]?= some e
def eQ.Vu {w:Wor} {m:uk} {v:uq} {g:Gr} {e:En} (h:eQ w m v g e):(g.ends.map zx)[m.end_.toNat]?= some (zx e):=by rw [dN,h.eE];rfl
def HP (w:Wor) (m:uk) (v:uq) (g:Gr) (hv:AS w m v g):tn 181 [⟨1,37,8,[zJ w],0⟩,⟨1,69,44,[zD (m)],0⟩] [.agg tj] (.jH (zE g)) [⟨1,37,8,[zJ w],0⟩,⟨1,69,44,[zD (m)],0⟩]:=by
 have h0:=hv.v0;have hr:=hv.row;have g0:=hv.g0;have gr:=hv.Vv;refine aa func181 ?_;refine uE ?_;(refine ⟨h0,_,hr,dd ?_⟩)
 (refine ⟨g0,_,gr,dd ?_⟩)
 exact cG
def km (w:Wor) (m:uk) (v:uq) (g:Gr) (e:En) (hv:eQ w m v g e):tn 185 [⟨1,37,8,[zJ w],0⟩,⟨1,69,44,[zD (m)],0⟩] [.agg tj] (.jH (zx e)) [⟨1,37,8,[zJ w],0⟩,⟨1,69,44,[zD (m)],0⟩]:=by
 have e0:=hv.e0;have er:=hv.Vu;refine aa func185 ?_;refine .inl ⟨⟨true,[],[],[1]⟩,au,uH ?_⟩;refine af [0,1] (HP w m v g hv.toAS) ?_;refine hZ ?_
 (refine ⟨e0,_,er,dd ?_⟩)
 exact cG
def vz (w:Wor) (m:uk) (v:uq) (c:eC) (hv:mr w m v) (c0:0<=m.zg) (hc:v.snap.zk[m.zg.toNat]?= some c):tn 183 [⟨1,37,8,[zJ w],0⟩,⟨1,69,44,[zD (m)],0⟩] [.agg tj] (Cc c) [⟨1,37,8,[zJ w],0⟩,⟨1,69,44,[zD (m)],0⟩]:=by
 have h0:=hv.v0;have hr:=hv.row;have cr:(v.snap.zk.map jV)[m.zg.toNat]?= some (jV c):=by rw [dN,hc];rfl
 refine aa func183 ?_;refine uE ?_;(refine ⟨h0,_,hr,dd ?_⟩)
 (refine ⟨c0,_,cr,dd ?_⟩)
 exact cG
def Mz (w:Wor) (m:uk) (v:uq) (g:Gr) (e:En) (hv:eQ w m v g e) {x:Int} (s0:0<=m.slot) (hx:e.next[m.slot.toNat]?= some x):
  tn 148 [⟨1,37,8,[zJ w],0⟩,⟨1,69,44,[zD (m)],0⟩] [.agg tj] (Ce (eX m v 1 9 x)) [⟨1,37,8,[zJ w],0⟩,⟨1,69,44,[zD ({ m with link:=x,pc:=11 })],0⟩]:=by
 have er:(e.next.map encI)[m.slot.toNat]?= some (encI x):=by rw [dN,hx];rfl
 refine aa func148 ?_;refine .inl ⟨⟨true,[3],[2],[5]⟩,au,uH ?_⟩;refine af [0,1] (km w m v g e hv) ?_;refine hZ ?_
 (refine ⟨s0,_,er,dd ?_⟩)
 refine hZ ?_
 refine .inl ⟨⟨true,[],[],[]⟩,au,uH ?_⟩;refine af [0,1] (kz w { m with link:=x,pc:=11 } v ⟨hv.v0,hv.at_⟩ 1 9 x) ?_;exact cG
def L6 (w:Wor) (m:uk) (v:uq) (g:Gr) (e:En) (hv:eQ w m v g e):
  tn 145 [⟨1,37,8,[zJ w],0⟩,⟨1,69,44,[zD (m)],0⟩] [.agg tj] (Ce (eX m v 1 7 e.zf)) [⟨1,37,8,[zJ w],0⟩,⟨1,69,44,[zD ({ m with i:=e.zf,pc:=8 })],0⟩]:=by
 refine aa func145 ?_;refine .inl ⟨⟨true,[3],[2],[5]⟩,au,uH ?_⟩;refine af [0,1] (km w m v g e hv) ?_;refine hZ ?_
 refine hZ ?_
 refine .inl ⟨⟨true,[],[],[]⟩,au,uH ?_⟩;refine af [0,1] (kz w { m with i:=e.zf,pc:=8 } v ⟨hv.v0,hv.at_⟩ 1 7 e.zf) ?_;exact cG
def My (w:Wor) (m:uk) (v:uq) (g:Gr) (e:En) (hv:eQ w m v g e) (he:u64 e.head) (hi:0<=e.head % 4294967296 - 1∧e.head % 4294967296 - 1 < e.next.length):
  tn 147 [⟨1,37,8,[zJ w],0⟩,⟨1,69,44,[zD (m)],0⟩] [.agg tj] (Ce (eX m v 1 8 (e.head % 4294967296 - 1))) [⟨1,37,8,[zJ w],0⟩,⟨1,69,44,[zD ({ m with word:=e.head,slot:=e.head % 4294967296 - 1,pc:=10 })],0⟩]:=by
 have hi1:=hi.1;have hi2:=hi.2;have ml:(e.next.map encI).length=e.next.length:=dP ..;refine aa func147 ?_;refine CY [0,1] (km w m v g e hv) rfl rfl rfl rfl rfl rfl (dd ?_);refine ah (Slp.qE e.head he) ?_;refine ⟨fun h=>absurd h aA,fun _=>dd ?_⟩;refine CY [0,1] (km w { m with word:=e.head } v g e ⟨⟨⟨hv.v0,hv.at_⟩,hv.g0,hv.u9⟩,hv.e0,hv.eE⟩) rfl rfl rfl rfl rfl rfl (dd ?_);rw [ml];refine ⟨fun h=>absurd h aA,fun _=>dd ?_⟩;refine af [0,1] (kz w { m with word:=e.head,slot:=e.head % 4294967296 - 1,pc:=10 } v ⟨hv.v0,hv.at_⟩ 1 8 (e.head % 4294967296 - 1)) ?_;exact cG
def Ng (w:Wor) (m:uk) (x:ec) (h0:0<=m.listen) (hx:w.zd[m.listen.toNat]?= some x):
  tn 142 [⟨1,37,8,[[I w.zn,I w.current,I w.lock,lI w.pins,lV w.ze,.sl 2 [] 4 0 w.zd.length false,eh w.counts,lR w.zr]],0⟩,⟨1,69,44,[zD (m)],0⟩,⟨2,85,4,(w.zd).map qF,0⟩] [.agg tj] (Ce (u6 m 3 5 (IntKind.i64.wrap (x.zf+1))))
   [⟨1,37,8,[[I w.zn,I w.current,I w.lock,lI w.pins,lV w.ze,.sl 2 [] 4 0 w.zd.length false,eh w.counts,lR w.zr]],0⟩,⟨1,69,44,[zD ({ m with pc:=5 })],0⟩,⟨2,85,4,(w.zd.set m.listen.toNat { x with zf:=IntKind.i64.wrap (x.zf+1) }).map qF,0⟩]:=by
 have e1:0+m.listen.toNat=m.listen.toNat:=gf _;have uj:m.listen.toNat < w.zd.length:=(dJ.1 hx).1;have gx:(w.zd.map qF)[m.listen.toNat]?= some (qF x):=by rw [dN,hx];rfl
 refine aa func142 ?_;have hst:(w.zd.map qF).set m.listen.toNat [Tx x.name,Bo x.drain,I (IntKind.i64.wrap (x.zf+1)),Bo x.closed]=(w.zd.set m.listen.toNat { x with zf:=IntKind.i64.wrap (x.zf+1) }).map qF:=bP
 have gx2:((w.zd.set m.listen.toNat { x with zf:=IntKind.i64.wrap (x.zf+1) }).map qF)[m.listen.toNat]?= some (qF { x with zf:=IntKind.i64.wrap (x.zf+1) }):=by rw [dN,dQ uj];rfl
 refine uE ?_;refine ⟨h0,uj,dd ?_⟩;rw [e1];refine ⟨_,gx,cp,dd ?_⟩;refine ⟨_,gx,rfl,dd ?_⟩;rw [hst];refine .inl ⟨⟨true,[],[],[]⟩,au,uH ?_⟩;refine ⟨_,gx2,cp,dd ?_⟩;refine af [1] (jg { m with pc:=5 } 3 5 (IntKind.i64.wrap (x.zf+1))) ?_;exact ⟨.inl rfl,_,_,.refl _,rfl,cE 3⟩
def N5 (w:Wor) (m:uk) (x:ec) (h0:0<=m.listen) (hx:w.zd[m.listen.toNat]?= some x):
  tn 153 [⟨1,37,8,[[I w.zn,I w.current,I w.lock,lI w.pins,lV w.ze,.sl 2 [] 4 0 w.zd.length false,eh w.counts,lR w.zr]],0⟩,⟨1,69,44,[zD (m)],0⟩,⟨2,85,4,(w.zd).map qF,0⟩] [.agg tj] (Ce (u6 m 3 5 (IntKind.i64.wrap (x.zf - 1))))
   [⟨1,37,8,[[I w.zn,I w.current,I w.lock,lI w.pins,lV w.ze,.sl 2 [] 4 0 w.zd.length false,eh w.counts,lR w.zr]],0⟩,⟨1,69,44,[zD ({ m with pc:=23 })],0⟩,⟨2,85,4,(w.zd.set m.listen.toNat { x with zf:=IntKind.i64.wrap (x.zf - 1) }).map qF,0⟩]:=by
 have e1:0+m.listen.toNat=m.listen.toNat:=gf _;have uj:m.listen.toNat < w.zd.length:=(dJ.1 hx).1;have gx:(w.zd.map qF)[m.listen.toNat]?= some (qF x):=by rw [dN,hx];rfl
 refine aa func153 ?_;have hst:(w.zd.map qF).set m.listen.toNat [Tx x.name,Bo x.drain,I (IntKind.i64.wrap (x.zf - 1)),Bo x.closed]=(w.zd.set m.listen.toNat { x with zf:=IntKind.i64.wrap (x.zf - 1) }).map qF:=bP
 have gx2:((w.zd.set m.listen.toNat { x with zf:=IntKind.i64.wrap (x.zf - 1) }).map qF)[m.listen.toNat]?= some (qF { x with zf:=IntKind.i64.wrap (x.zf - 1) }):=by rw [dN,dQ uj];rfl
 refine uE ?_;refine ⟨h0,uj,dd ?_⟩;rw [e1];refine ⟨_,gx,cp,dd ?_⟩;refine ⟨_,gx,rfl,dd ?_⟩;rw [hst];refine .inl ⟨⟨true,[],[],[]⟩,au,uH ?_⟩;refine ⟨_,gx2,cp,dd ?_⟩;refine af [1] (jg { m with pc:=23 } 3 5 (IntKind.i64.wrap (x.zf - 1))) ?_;exact ⟨.inl rfl,_,_,.refl _,rfl,cE 3⟩
def zX {P:Program} {f:FuncId} (sel:List Nat) (Kx:zl) {K H0 H':zl} {args args0:List C} {r rx:C} (h:zb P f H0 args0 r H') (hR:qN H'=true)
  (hH:xn sel K=H0) (ha:args.map (xO sel 9)=args0) (z7:sel.all (fun id=>Nat.blt id K.length)=true) (eS:x9 sel=true) (eL:qN K=true) {k:C->zl->Prop}
  (hp:kW sel K H'=Kx) (hr:yF (qX sel K.length) 9 r=rx) (hk:okB rx fun c=>k c Kx):∃ r H2,zb P f K args r H2∧okB r fun c=>k c H2:=
 ⟨_,_,h.part sel hR hH ha z7 eS eL,by rw [hp,hr];exact hk⟩
def zI {n:Nat} {x:Ob} {H:zl} (h1:qL n [x]=true) (h2:qL n H=true):qL n (x::H)=true:=by
 unfold qL at *;simp only [ry,sD,sf] at *;rw [h1,h2];rfl
def qd {n ty sz fz:Nat} {rows:List (List C)} (h:∀ r ∈ rows,∀ c ∈ r,qW n 9 c=true):qL n [⟨1,ty,sz,rows,fz⟩]=true:=by
 unfold qL;simp only [ry,sD,sf];have:(rows.all fun r=>r.all (qW n 9))=true:=dT.2 fun r hr=>dT.2 fun c hc=>h r hr c hc
 rw [this];simp
def Mi (w:Wor) (m:uk) (r0:List Int) (x:Int) (h0:0<=m.zj) (hr:w.counts[m.zj.toNat]?= some r0) (hx:r0[0]?= some x):
  tn 152 [⟨1,37,8,[[I w.zn,I w.current,I w.lock,lI w.pins,lV w.ze,lL w.zd,.sl 2 [] 1 0 w.counts.length false,lR w.zr]],0⟩,⟨1,69,44,[zD (m)],0⟩,⟨1,0,1,(w.counts.map zN).set m.zj.toNat [C.sl 3 [] 1 0 r0.length false],0⟩,⟨2,43,1,(r0).map jA,0⟩] [.agg tj] (Ce (u6 m 3 10 0))
   [⟨1,37,8,[[I w.zn,I w.current,I w.lock,lI w.pins,lV w.ze,lL w.zd,.sl 2 [] 1 0 w.counts.length false,lR w.zr]],0⟩,⟨1,69,44,[zD ({ m with pc:=if m.answer.kind=1∨m.listen < 0 then 23 else 22 })],0⟩,⟨1,0,1,(w.counts.map zN).set m.zj.toNat [C.sl 3 [] 1 0 r0.length false],0⟩,⟨2,43,1,(r0.set 0 (IntKind.u64.wrap (x+1))).map jA,0⟩]:=by
 have e1:0+m.zj.toNat=m.zj.toNat:=gf _;have uj:m.zj.toNat < w.counts.length:=(dJ.1 hr).1;have gt:((w.counts.map zN).set m.zj.toNat [C.sl 3 [] 1 0 r0.length false])[m.zj.toNat]?= some [C.sl 3 [] 1 0 r0.length false]:=dQ (aq uj);have gx:(r0.map jA)[0]?= some (jA x):=by rw [dN,hx];rfl
 have hl0:0 < r0.length:=(dJ.1 hx).1;have hst:(r0.map jA).set 0 [U (IntKind.u64.wrap (x+1))]=(r0.set 0 (IntKind.u64.wrap (x+1))).map jA:=bP
 have own:∀ r ∈ (w.counts.map zN).set m.zj.toNat [C.sl 3 [] 1 0 r0.length false],∀ c ∈ r,zy c=true:=zA (enc:=zN) (fun _=>rfl) rfl _ _;have low:∀ r ∈ (w.counts.map zN).set m.zj.toNat [C.sl 3 [] 1 0 r0.length false],∀ c ∈ r,qW 4 9 c=true:=zA (enc:=zN) (fun _=>rfl) rfl _ _;refine aa func152 ?_;refine uE ?_;refine ⟨h0,uj,dd ?_⟩;rw [e1];refine ⟨_,gt,tS,dd ?_⟩;refine ⟨ar,hl0,dd ?_⟩;refine ⟨_,gx,tS,dd ?_⟩;refine ⟨ar,hl0,dd ?_⟩;refine ⟨_,gx,rfl,dd ?_⟩;have hst2:(r0.map jA).set (0+Int.toNat 0) [U (IntKind.u64.wrap (x+1))]=(r0.set 0 (IntKind.u64.wrap (x+1))).map jA:=hst;rw [hst2];refine ⟨fun h1=>?_,fun h1=>?_⟩
 ·rw [dO (.inl (pn h1))];refine dd ?_;refine tc ?_
  refine zX [1] [⟨1,37,8,[[I w.zn,I w.current,I w.lock,lI w.pins,lV w.ze,lL w.zd,.sl 2 [] 1 0 w.counts.length false,lR w.zr]],0⟩,⟨1,69,44,[zD ({ m with pc:=23 })],0⟩,⟨1,0,1,(w.counts.map zN).set m.zj.toNat [C.sl 3 [] 1 0 r0.length false],0⟩,⟨2,43,1,(r0.set 0 (IntKind.u64.wrap (x+1))).map jA,0⟩,⟨1,213,2,[tj],0⟩,⟨1,48,23,[zR qz],0⟩] (rx:=Ce (u6 { m with pc:=23 } 3 10 0)) (jg { m with pc:=23 } 3 10 0) rfl rfl rfl rfl rfl (zc rfl (zc rfl (zc (zi own) rfl))) rfl rfl (dd ?_);exact cM
 ·refine dd ?_;refine ⟨fun h2=>?_,fun h2=>?_⟩
  ·rw [dO (.inr (pn h2))];refine dd ?_;refine tc ?_
   refine zX [1] [⟨1,37,8,[[I w.zn,I w.current,I w.lock,lI w.pins,lV w.ze,lL w.zd,.sl 2 [] 1 0 w.counts.length false,lR w.zr]],0⟩,⟨1,69,44,[zD ({ m with pc:=23 })],0⟩,⟨1,0,1,(w.counts.map zN).set m.zj.toNat [C.sl 3 [] 1 0 r0.length false],0⟩,⟨2,43,1,(r0.set 0 (IntKind.u64.wrap (x+1))).map jA,0⟩,⟨1,213,2,[tj],0⟩,⟨1,48,23,[zR qz],0⟩] (rx:=Ce (u6 { m with pc:=23 } 3 10 0)) (jg { m with pc:=23 } 3 10 0) rfl rfl rfl rfl rfl (zc rfl (zc rfl (zc (zi own) rfl))) rfl rfl (dd ?_);exact cM
  ·rw [dL (fun h=>h.elim (pC h1) (pC h2))];refine dd ?_;refine tc ?_
   refine zX [1] [⟨1,37,8,[[I w.zn,I w.current,I w.lock,lI w.pins,lV w.ze,lL w.zd,.sl 2 [] 1 0 w.counts.length false,lR w.zr]],0⟩,⟨1,69,44,[zD ({ m with pc:=22 })],0⟩,⟨1,0,1,(w.counts.map zN).set m.zj.toNat [C.sl 3 [] 1 0 r0.length false],0⟩,⟨2,43,1,(r0.set 0 (IntKind.u64.wrap (x+1))).map jA,0⟩,⟨1,213,2,[tj],0⟩,⟨1,48,23,[zR qz],0⟩] (rx:=Ce (u6 { m with pc:=22 } 3 10 0)) (jg { m with pc:=22 } 3 10 0) rfl rfl rfl rfl rfl (zc rfl (zc rfl (zc (zi own) rfl))) rfl rfl (dd ?_);exact cM
def nM (n:Int):Int:=if n < 1∨5 < n then 0 else n
def Mk (w:Wor) (m:uk) (r0:List Int) (x k:Int) (hk:nM m.answer.kind=k) (h0:0<=m.zj) (hr:w.counts[m.zj.toNat]?= some r0) (hx:r0[k.toNat]?= some x):
  tn 151 [⟨1,37,8,[[I w.zn,I w.current,I w.lock,lI w.pins,lV w.ze,lL w.zd,.sl 2 [] 1 0 w.counts.length false,lR w.zr]],0⟩,⟨1,69,44,[zD (m)],0⟩,⟨1,0,1,(w.counts.map zN).set m.zj.toNat [C.sl 3 [] 1 0 r0.length false],0⟩,⟨2,43,1,(r0).map jA,0⟩] [.agg tj] (Ce (u6 m 3 10 k))
   [⟨1,37,8,[[I w.zn,I w.current,I w.lock,lI w.pins,lV w.ze,lL w.zd,.sl 2 [] 1 0 w.counts.length false,lR w.zr]],0⟩,⟨1,69,44,[zD ({ m with pc:=21 })],0⟩,⟨1,0,1,(w.counts.map zN).set m.zj.toNat [C.sl 3 [] 1 0 r0.length false],0⟩,⟨2,43,1,(r0.set k.toNat (IntKind.u64.wrap (x+1))).map jA,0⟩]:=by
 have e1:0+m.zj.toNat=m.zj.toNat:=gf _;have k0:0<=k:=by rw [<- hk];unfold nM;split <;> omega
 have k1:k.toNat < r0.length:=(dJ.1 hx).1;have uj:m.zj.toNat < w.counts.length:=(dJ.1 hr).1;have gt:((w.counts.map zN).set m.zj.toNat [C.sl 3 [] 1 0 r0.length false])[m.zj.toNat]?= some [C.sl 3 [] 1 0 r0.length false]:=dQ (aq uj);have gx:(r0.map jA)[0+k.toNat]?= some (jA x):=by rw [gf,dN,hx];rfl
 have hst:(r0.map jA).set (0+k.toNat) [U (IntKind.u64.wrap (x+1))]=(r0.set k.toNat (IntKind.u64.wrap (x+1))).map jA:=by rw [gf,pH];rfl
 have own:∀ r ∈ (w.counts.map zN).set m.zj.toNat [C.sl 3 [] 1 0 r0.length false],∀ c ∈ r,zy c=true:=zA (enc:=zN) (fun _=>rfl) rfl _ _;have low:∀ r ∈ (w.counts.map zN).set m.zj.toNat [C.sl 3 [] 1 0 r0.length false],∀ c ∈ r,qW 4 9 c=true:=zA (enc:=zN) (fun _=>rfl) rfl _ _;refine aa func151 ?_;refine ⟨fun h1=>?_,fun h1=>?_⟩
 ·obtain rfl:k=0:=by rw [<- hk];unfold nM;rw [dO (.inl (pn h1))]
  refine dd ?_;refine tc ?_
  refine uE ?_;(refine ⟨h0,uj,dd ?_⟩);(rw [e1]);(refine ⟨_,gt,tS,dd ?_⟩);(refine ⟨k0,k1,dd ?_⟩);(refine ⟨_,gx,tS,dd ?_⟩);(refine ⟨k0,k1,dd ?_⟩);(refine ⟨_,gx,rfl,dd ?_⟩);(rw [hst]);(refine zX [1] [⟨1,37,8,[[I w.zn,I w.current,I w.lock,lI w.pins,lV w.ze,lL w.zd,.sl 2 [] 1 0 w.counts.length false,lR w.zr]],0⟩,⟨1,69,44,[zD ({ m with pc:=21 })],0⟩,⟨1,0,1,(w.counts.map zN).set m.zj.toNat [C.sl 3 [] 1 0 r0.length false],0⟩,⟨2,43,1,(r0.set ((0:Int)).toNat (IntKind.u64.wrap (x+1))).map jA,0⟩,⟨1,213,2,[tj],0⟩,⟨1,48,23,[zR qz],0⟩] (rx:=Ce (u6 { m with pc:=21 } 3 10 ((0:Int)))) (jg { m with pc:=21 } 3 10 ((0:Int))) rfl rfl rfl rfl rfl (zc rfl (zc rfl (zc (zi own) rfl))) rfl rfl (dd ?_));exact cM
 ·refine dd ?_;refine tc ?_
  refine ⟨fun h2=>?_,fun h2=>?_⟩
  ·obtain rfl:k=0:=by rw [<- hk];unfold nM;rw [dO (.inr (pn h2))]
   refine dd ?_;refine tc ?_
   refine uE ?_;(refine ⟨h0,uj,dd ?_⟩);(rw [e1]);(refine ⟨_,gt,tS,dd ?_⟩);(refine ⟨k0,k1,dd ?_⟩);(refine ⟨_,gx,tS,dd ?_⟩);(refine ⟨k0,k1,dd ?_⟩);(refine ⟨_,gx,rfl,dd ?_⟩);(rw [hst]);(refine zX [1] [⟨1,37,8,[[I w.zn,I w.current,I w.lock,lI w.pins,lV w.ze,lL w.zd,.sl 2 [] 1 0 w.counts.length false,lR w.zr]],0⟩,⟨1,69,44,[zD ({ m with pc:=21 })],0⟩,⟨1,0,1,(w.counts.map zN).set m.zj.toNat [C.sl 3 [] 1 0 r0.length false],0⟩,⟨2,43,1,(r0.set ((0:Int)).toNat (IntKind.u64.wrap (x+1))).map jA,0⟩,⟨1,213,2,[tj],0⟩,⟨1,48,23,[zR qz],0⟩] (rx:=Ce (u6 { m with pc:=21 } 3 10 ((0:Int)))) (jg { m with pc:=21 } 3 10 ((0:Int))) rfl rfl rfl rfl rfl (zc rfl (zc rfl (zc (zi own) rfl))) rfl rfl (dd ?_));exact cM
  ·obtain rfl:k=m.answer.kind:=by rw [<- hk];unfold nM;rw [dL (fun h=>h.elim (pC h1) (pC h2))]
   refine dd ?_;refine tc ?_
   refine uE ?_;(refine ⟨h0,uj,dd ?_⟩);(rw [e1]);(refine ⟨_,gt,tS,dd ?_⟩);(refine ⟨k0,k1,dd ?_⟩);(refine ⟨_,gx,tS,dd ?_⟩);(refine ⟨k0,k1,dd ?_⟩);(refine ⟨_,gx,rfl,dd ?_⟩);(rw [hst]);(refine zX [1] [⟨1,37,8,[[I w.zn,I w.current,I w.lock,lI w.pins,lV w.ze,lL w.zd,.sl 2 [] 1 0 w.counts.length false,lR w.zr]],0⟩,⟨1,69,44,[zD ({ m with pc:=21 })],0⟩,⟨1,0,1,(w.counts.map zN).set m.zj.toNat [C.sl 3 [] 1 0 r0.length false],0⟩,⟨2,43,1,(r0.set (m.answer.kind).toNat (IntKind.u64.wrap (x+1))).map jA,0⟩,⟨1,213,2,[tj],0⟩,⟨1,48,23,[zR qz],0⟩] (rx:=Ce (u6 { m with pc:=21 } 3 10 (m.answer.kind))) (jg { m with pc:=21 } 3 10 (m.answer.kind)) rfl rfl rfl rfl rfl (zc rfl (zc rfl (zc (zi own) rfl))) rfl rfl (dd ?_));exact cM
def xQ {P:Program} {o:Oper} {σ:Operand->Value} {t t':TypeId} {x y:Operand} {k:IntKind} {n m:Int} (ho:o.op=.binOp .rem t x y t') (hx:σ x=.int k n) (hy:σ y=.int k m) (hm:m≠0):
  ix P (execOp σ o)=some (.value (.int k (n.tmod m))):=by
 have hi:Op.intDiv .rem k n m=pure (.int k (n.tmod m)):=by unfold Op.intDiv;rw [dL hm]
 have hg:eqGuard .rem t x y (σ x) (σ y)=pure ():=rfl
 have hb:binOp .rem t (σ x) (σ y)=pure (.int k (n.tmod m)):=by
  rw [hx,hy];simp only [binOp,hi];exact dL aj
 unfold execOp;rw [ho];dsimp only;rw [hg,hb]
 rfl
def Lq {n:Int} (h:0<=n) (h':n < 18446744073709551616):IntKind.u64.wrap n=n:=by
 simp only [IntKind.wrap,IntKind.signed,IntKind.bits,Bool.false_and,rO,if_false];omega
abbrev uj (c:eC):List Int:=fV c.zL c.zL.length
def lx (c:eC) (n:Int):Int × Int:=if (uj c).length=0 then (0,5) else (((uj c)[(n % (uj c).length).toNat]?).getD 0,0)
def PU (c:eC) (n:Int) (hn:u64 n) (hl:c.zL.length < 1000000000000) (hh:(uj c).length<=c.zL.length):tn 182 [] [Cc c,U n] (.uo [I (lx c n).1,I (lx c n).2]) []:=by
 have ml:((uj c).map encI).length=(uj c).length:=dP ..;refine ab func182 ?_;refine ah (wV c hl) ?_;rw [ml];refine ⟨fun h0=>?_,fun h0=>?_⟩
 ·unfold lx;have h0:=pn h0;rw [dO aw];exact uI
 ·unfold lx;have h0:=pC h0;rw [dL aw];refine dd ?_
  have hw:IntKind.u64.wrap ((((uj c).map encI).length:Nat):Int)≠0:=by
   have hk:=ml;have:IntKind.u64.wrap ((((uj c).map encI).length:Nat):Int)=(uj c).length:=by rw [ml];exact Lq aw aw
   omega
  split
  rotate_left
  ·rename_i hno;exact (hno _ (xQ rfl rfl rfl hw)).elim
  ·rename_i v e;have e':=e.symm.trans (xQ rfl rfl rfl hw);cases e'
   refine dd ?_;have ew:IntKind.u64.wrap ((((uj c).map encI).length:Nat):Int)=(uj c).length:=by rw [ml];exact Lq aw aw
   have et:n.tmod (IntKind.u64.wrap ((((uj c).map encI).length:Nat):Int))=n % (uj c).length:=by rw [ew];exact rE hn.1
   have b0:0<=n % ((uj c).length:Int):=rP _ h0;have b1:n % ((uj c).length:Int) < (uj c).length:=rQ _ aw;have hi:(n % ((uj c).length:Int)).toNat < (uj c).length:=aw
   have gx:((uj c).map encI)[(n.tmod (IntKind.u64.wrap ((((uj c).map encI).length:Nat):Int))).toNat]?= some (encI ((uj c)[(n % ((uj c).length:Int)).toNat]'hi)):=by rw [et,dN,dK hi];rfl
   refine ⟨by show 0<=n.tmod (IntKind.u64.wrap ((((uj c).map encI).length:Nat):Int));rw [et];exact b0,_,gx,dd ?_⟩;rw [dK hi];exact uI
def PE (a x b y:Int):tn 186 [] [I a,I x,I b,I y] (I (if y < x then b else a)) []:=by
 refine ab func186 ?_;refine ⟨fun h=>?_,fun h=>?_⟩
 ·rw [dO (pn h)];exact de
 ·rw [dL (pC h)];exact de
def L8 (w:Wor) (m:uk) (v:uq) (g:Gr) (e:En) (hv:AS w m v g) (o0:0<=m.other) (ho:g.ends[m.other.toNat]?= some e):
  tn 146 [⟨1,37,8,[zJ w],0⟩,⟨1,69,44,[zD (m)],0⟩] [.agg tj] (Ce (eX m v 1 7 e.zf)) [⟨1,37,8,[zJ w],0⟩,⟨1,69,44,[zD ({ m with end_:=if e.zf < m.i then m.other else m.end_,pc:=9 })],0⟩]:=by
 have er:(g.ends.map zx)[m.other.toNat]?= some (zx e):=by rw [dN,ho];rfl
 refine aa func146 ?_;refine .inl ⟨⟨true,[],[],[1]⟩,au,uH ?_⟩;refine af [0,1] (HP w m v g hv) ?_;refine hZ ?_
 (refine ⟨o0,_,er,dd ?_⟩)
 refine .inl ⟨⟨true,[],[],[15]⟩,au,uH ?_⟩;refine ah (PE m.end_ m.i m.other e.zf) ?_;refine hZ ?_
 refine af [0,1] (kz w { m with end_:=if e.zf < m.i then m.other else m.end_,pc:=9 } v ⟨hv.v0,hv.at_⟩ 1 7 e.zf) ?_;exact cG
structure lb (w:Wor) (m:uk) (v0:uq) (g0:Gr):Prop where
 pv:0<=m.version
 lv:m.version.toNat < w.ze.length
 pg:0<=m.zg
 lg:m.zg.toNat < v0.zm.length
 pe:0<=m.end_
 le:m.end_.toNat < g0.ends.length
def eQ.ln {w:Wor} {m:uk} {v0:uq} {g0:Gr} {e0:En} (h:eQ w m v0 g0 e0):lb w m v0 g0:=⟨h.v0,(dJ.1 h.at_).1,h.g0,(dJ.1 h.u9).1,h.e0,(dJ.1 h.eE).1⟩
def CG {P:Program} {f:FuncId} (sel:List Nat) (Kx:zl) {K H0 H':zl} {args args0:List C} {r rx:C} (h:zb P f H0 args0 r H') (hR:qN H'=true)
  (hH:xn sel K=H0) (ha:args.map (xO sel 9)=args0) (z7:sel.all (fun id=>Nat.blt id K.length)=true) (eS:x9 sel=true) (eL:qN K=true) {k:C->zl->Prop}
  (hp:kW sel K H'=Kx) (hr:yF (qX sel K.length) 9 r=rx) (hk:k rx Kx):∃ R,qB P f K args R∧∀ r H2,R r H2->k r H2:=
 ⟨fun x X=>x=rx∧X=Kx,(h.part sel hR hH ha z7 eS eL).iG ⟨hr,hp⟩,by rintro _ _ ⟨rfl,rfl⟩;exact hk⟩
def DZ (w:Wor) (m:uk) (v0:uq) (g0:Gr) (e0:En) (hv:lb w m v0 g0):tn 181 [⟨1,37,8,[(eD w 2)],0⟩,⟨1,69,44,[zD (m)],0⟩,⟨1,0,5,u4 w m v0 3,0⟩,⟨1,0,2,u1 m v0 g0 g0.zt 4,0⟩,⟨1,0,3,ux m g0 e0 e0.head 5 e0.zf,0⟩,⟨2,3,1,e0.next.map encI,0⟩] [.agg tj] (.ref 3 [] 2 m.zg.toNat 0) [⟨1,37,8,[(eD w 2)],0⟩,⟨1,69,44,[zD (m)],0⟩,⟨1,0,5,u4 w m v0 3,0⟩,⟨1,0,2,u1 m v0 g0 g0.zt 4,0⟩,⟨1,0,3,ux m g0 e0 e0.head 5 e0.zf,0⟩,⟨2,3,1,e0.next.map encI,0⟩]:=by
 have h0:=hv.pv;have g0':=hv.pg;have lv:m.version.toNat < w.ze.length:=hv.lv;have lg:m.zg.toNat < v0.zm.length:=hv.lg;have lowV:∀ r ∈ u4 w m v0 3,∀ c ∈ r,qW 6 9 c=true:=zA (enc:=zF) (fun _=>rfl) rfl _ _;have lowG:∀ r ∈ u1 m v0 g0 g0.zt 4,∀ c ∈ r,qW 6 9 c=true:=zA (enc:=zE) (fun _=>rfl) rfl _ _;have lowE:∀ r ∈ ux m g0 e0 e0.head 5 e0.zf,∀ c ∈ r,qW 6 9 c=true:=zA (enc:=zx) (fun _=>rfl) rfl _ _;have e1:0+m.version.toNat=m.version.toNat:=gf _;have e2:0+m.zg.toNat=m.zg.toNat:=gf _;have gv:(u4 w m v0 3)[m.version.toNat]?= some ((qJ v0.snap++[C.sl 3 [] 2 0 v0.zm.length false,Bo v0.qk])):=dQ tP;refine aa func181 ?_;refine uE ?_;refine ⟨h0,lv,dd ?_⟩;rw [e1];refine ⟨_,gv,cq,dd ?_⟩;refine ⟨g0',lg,dd ?_⟩;rw [e2];exact cH
def vi (w:Wor) (m:uk) (v0:uq) (g0:Gr) (e0:En) (hv:lb w m v0 g0):tn 185 [⟨1,37,8,[(eD w 2)],0⟩,⟨1,69,44,[zD (m)],0⟩,⟨1,0,5,u4 w m v0 3,0⟩,⟨1,0,2,u1 m v0 g0 g0.zt 4,0⟩,⟨1,0,3,ux m g0 e0 e0.head 5 e0.zf,0⟩,⟨2,3,1,e0.next.map encI,0⟩] [.agg tj] (.ref 4 [] 3 m.end_.toNat 0) [⟨1,37,8,[(eD w 2)],0⟩,⟨1,69,44,[zD (m)],0⟩,⟨1,0,5,u4 w m v0 3,0⟩,⟨1,0,2,u1 m v0 g0 g0.zt 4,0⟩,⟨1,0,3,ux m g0 e0 e0.head 5 e0.zf,0⟩,⟨2,3,1,e0.next.map encI,0⟩]:=by
 have h0:=hv.pe;have lg:m.zg.toNat < v0.zm.length:=hv.lg;have le:m.end_.toNat < g0.ends.length:=hv.le;have ownV:∀ r ∈ u4 w m v0 3,∀ c ∈ r,zy c=true:=zA (enc:=zF) (fun _=>rfl) rfl _ _;have ownG:∀ r ∈ u1 m v0 g0 g0.zt 4,∀ c ∈ r,zy c=true:=zA (enc:=zE) (fun _=>rfl) rfl _ _;have ownE:∀ r ∈ ux m g0 e0 e0.head 5 e0.zf,∀ c ∈ r,zy c=true:=zA (enc:=zx) (fun _=>rfl) rfl _ _;have lowV:∀ r ∈ u4 w m v0 3,∀ c ∈ r,qW 6 9 c=true:=zA (enc:=zF) (fun _=>rfl) rfl _ _;have lowG:∀ r ∈ u1 m v0 g0 g0.zt 4,∀ c ∈ r,qW 6 9 c=true:=zA (enc:=zE) (fun _=>rfl) rfl _ _;have lowE:∀ r ∈ ux m g0 e0 e0.head 5 e0.zf,∀ c ∈ r,qW 6 9 c=true:=zA (enc:=zx) (fun _=>rfl) rfl _ _;have e2:0+m.end_.toNat=m.end_.toNat:=gf _;have gg:(u1 m v0 g0 g0.zt 4)[m.zg.toNat]?= some ([U g0.zt,C.sl 4 [] 3 0 g0.ends.length false]):=dQ tN;refine aa func185 ?_;refine .inl ⟨⟨true,[],[],[1]⟩,au,uH ?_⟩;refine zX [0,1,2,3,4,5] [⟨1,37,8,[(eD w 2)],0⟩,⟨1,69,44,[zD (m)],0⟩,⟨1,0,5,u4 w m v0 3,0⟩,⟨1,0,2,u1 m v0 g0 g0.zt 4,0⟩,⟨1,0,3,ux m g0 e0 e0.head 5 e0.zf,0⟩,⟨2,3,1,e0.next.map encI,0⟩,⟨1,213,2,[tj],0⟩] (rx:=.ref 3 [] 2 m.zg.toNat 0) (DZ w m v0 g0 e0 hv) (zc rfl (zc rfl (zc (zi ownV) (zc (zi ownG) (zc (zi ownE) rfl))))) uT rfl rfl rfl (zc rfl (zc rfl (zc (zi ownV) (zc (zi ownG) (zc (zi ownE) rfl))))) uU rfl (dd ?_);refine ⟨_,gg,cw,dd ?_⟩;refine ⟨h0,le,dd ?_⟩;rw [e2];exact cH
def Pd (w:Wor) (m:uk) (v0:uq) (g0:Gr) (e0:En) (hv:lb w m v0 g0) (a b c:Int):tn 184 [⟨1,37,8,[(eD w 2)],0⟩,⟨1,69,44,[zD (m)],0⟩,⟨1,0,5,u4 w m v0 3,0⟩,⟨1,0,2,u1 m v0 g0 g0.zt 4,0⟩,⟨1,0,3,ux m g0 e0 e0.head 5 e0.zf,0⟩,⟨2,3,1,e0.next.map encI,0⟩] [.agg tj,I a,I b,I c] (Ce (eX m v0 a b c)) [⟨1,37,8,[(eD w 2)],0⟩,⟨1,69,44,[zD (m)],0⟩,⟨1,0,5,u4 w m v0 3,0⟩,⟨1,0,2,u1 m v0 g0 g0.zt 4,0⟩,⟨1,0,3,ux m g0 e0 e0.head 5 e0.zf,0⟩,⟨2,3,1,e0.next.map encI,0⟩]:=by
 have h0:=hv.pv;have lv:m.version.toNat < w.ze.length:=hv.lv;have e1:0+m.version.toNat=m.version.toNat:=gf _
 clear hv
 obtain ⟨sn,gs,fr⟩:=v0;cases fr
 all_goals
  have ownV:∀ b,∀ r ∈ (w.ze.map zF).set m.version.toNat (qJ sn++[C.sl 3 [] 2 0 gs.length false,Bo b]),∀ c ∈ r,zy c=true:=fun b=>zA (enc:=zF) (fun _=>rfl) rfl _ _
  have ownG:∀ r ∈ (gs.map zE).set m.zg.toNat ([U g0.zt,C.sl 4 [] 3 0 g0.ends.length false]),∀ c ∈ r,zy c=true:=zA (enc:=zE) (fun _=>rfl) rfl _ _;have ownE:∀ r ∈ ux m g0 e0 e0.head 5 e0.zf,∀ c ∈ r,zy c=true:=zA (enc:=zx) (fun _=>rfl) rfl _ _;have lowV:∀ b,∀ r ∈ (w.ze.map zF).set m.version.toNat (qJ sn++[C.sl 3 [] 2 0 gs.length false,Bo b]),∀ c ∈ r,qW 6 9 c=true:=fun b=>zA (enc:=zF) (fun _=>rfl) rfl _ _
  have gv:∀ b,((w.ze.map zF).set m.version.toNat (qJ sn++[C.sl 3 [] 2 0 gs.length false,Bo b]))[m.version.toNat]?= some (qJ sn++[C.sl 3 [] 2 0 gs.length false,Bo b]):=fun b=>dQ tP
  have lowG:∀ r ∈ (gs.map zE).set m.zg.toNat ([U g0.zt,C.sl 4 [] 3 0 g0.ends.length false]),∀ c ∈ r,qW 6 9 c=true:=zA (enc:=zE) (fun _=>rfl) rfl _ _;have lowE:∀ r ∈ ux m g0 e0 e0.head 5 e0.zf,∀ c ∈ r,qW 6 9 c=true:=zA (enc:=zx) (fun _=>rfl) rfl _ _;refine aa func184 ?_;refine zX [1] [⟨1,37,8,[(eD w 2)],0⟩,⟨1,69,44,[zD (m)],0⟩,⟨1,0,5,(w.ze.map zF).set m.version.toNat (qJ sn++[C.sl 3 [] 2 0 gs.length false,Bo _]),0⟩,⟨1,0,2,(gs.map zE).set m.zg.toNat ([U g0.zt,C.sl 4 [] 3 0 g0.ends.length false]),0⟩,⟨1,0,3,ux m g0 e0 e0.head 5 e0.zf,0⟩,⟨2,3,1,e0.next.map encI,0⟩,⟨1,213,2,[tj],0⟩,⟨1,48,23,[zR qz],0⟩] (rx:=Ce (u6 m a b c)) (jg m a b c) rfl rfl rfl rfl rfl (zc rfl (zc rfl (zc (zi (ownV _)) (zc (zi ownG) (zc (zi ownE) rfl))))) rfl rfl (dd ?_);refine .inl ⟨⟨false,[6,9,11,14,17],[0,1,2,6],[]⟩,au,uH ?_⟩;refine ⟨h0,lv,dd ?_⟩;rw [e1];refine ⟨_,gv _,(by show 4+1<=5;decide),dd ?_⟩
  first | ((refine ya (dd ?_))) | ((refine yb (dd ?_)))
  refine hZ ?_
  exact ⟨.inl rfl,_,_,.refl _,rfl,zo.xi 6 hU rfl rfl rfl (zI rfl (zI rfl (zI (qd (lowV _)) (zI (qd lowG) (zI (qd lowE) rfl))))) rfl⟩
abbrev Ly (e:En) (n:Int):En:={ e with zf:=IntKind.i64.wrap (e.zf+n) }
def M9 (w:Wor) (m:uk) (v0:uq) (g0:Gr) (e0:En) (hv:lb w m v0 g0):tn 150 [⟨1,37,8,[(eD w 2)],0⟩,⟨1,69,44,[zD (m)],0⟩,⟨1,0,5,u4 w m v0 3,0⟩,⟨1,0,2,u1 m v0 g0 g0.zt 4,0⟩,⟨1,0,3,ux m g0 e0 e0.head 5 e0.zf,0⟩,⟨2,3,1,e0.next.map encI,0⟩] [.agg tj] (Ce (eX m v0 3 7 (IntKind.i64.wrap (e0.zf+1))))
  [⟨1,37,8,[(eD w 2)],0⟩,⟨1,69,44,[zD ({ m with answer:=⟨1,m.version,m.zg,m.end_,m.slot,m.listen,0,⟨0,0,0,0,0,0⟩⟩,pc:=20 })],0⟩,⟨1,0,5,u4 w m v0 3,0⟩,⟨1,0,2,u1 m v0 g0 g0.zt 4,0⟩,⟨1,0,3,(g0.ends.map zx).set m.end_.toNat [U e0.head,C.sl 5 [] 1 0 e0.next.length false,I (IntKind.i64.wrap (e0.zf+1))],0⟩,⟨2,3,1,e0.next.map encI,0⟩]:=by
 have le:=hv.le;have ownV:∀ r ∈ u4 w m v0 3,∀ c ∈ r,zy c=true:=zA (enc:=zF) (fun _=>rfl) rfl _ _;have ownG:∀ r ∈ u1 m v0 g0 g0.zt 4,∀ c ∈ r,zy c=true:=zA (enc:=zE) (fun _=>rfl) rfl _ _;have ownE:∀ r ∈ ux m g0 e0 e0.head 5 e0.zf,∀ c ∈ r,zy c=true:=zA (enc:=zx) (fun _=>rfl) rfl _ _;have ge:(ux m g0 e0 e0.head 5 e0.zf)[m.end_.toNat]?= some ([U e0.head,C.sl 5 [] 1 0 e0.next.length false,I e0.zf]):=dQ tK;refine aa func150 ?_;refine CG [0,1,2,3,4,5] [⟨1,37,8,[(eD w 2)],0⟩,⟨1,69,44,[zD (m)],0⟩,⟨1,0,5,u4 w m v0 3,0⟩,⟨1,0,2,u1 m v0 g0 g0.zt 4,0⟩,⟨1,0,3,ux m g0 e0 e0.head 5 e0.zf,0⟩,⟨2,3,1,e0.next.map encI,0⟩,⟨1,213,2,[tj],0⟩,⟨1,48,23,[zR qz],0⟩] (rx:=.ref 4 [] 3 m.end_.toNat 0) (vi w m v0 g0 e0 hv) (zc rfl (zc rfl (zc (zi ownV) (zc (zi ownG) (zc (zi ownE) rfl))))) uT rfl rfl rfl (zc rfl (zc rfl (zc (zi ownV) (zc (zi ownG) (zc (zi ownE) rfl))))) uU rfl (dd ?_);refine ⟨_,ge,cx,dd ?_⟩;refine ⟨_,ge,rfl,dd ?_⟩;rw [gA];refine uE ?_;have ownE2:∀ r ∈ (g0.ends.map zx).set m.end_.toNat [U e0.head,C.sl 5 [] 1 0 e0.next.length false,I (IntKind.i64.wrap (e0.zf+1))],∀ c ∈ r,zy c=true:=zA (enc:=zx) (fun _=>rfl) rfl _ _;refine .inl ⟨⟨true,[],[],[2,6]⟩,au,uH ?_⟩;have hv2:lb w { m with answer:=⟨1,m.version,m.zg,m.end_,m.slot,m.listen,0,⟨0,0,0,0,0,0⟩⟩,pc:=20 } v0 g0:=⟨hv.pv,hv.lv,hv.pg,hv.lg,hv.pe,hv.le⟩;have ge2:((g0.ends.map zx).set m.end_.toNat [U e0.head,C.sl 5 [] 1 0 e0.next.length false,I (IntKind.i64.wrap (e0.zf+1))])[m.end_.toNat]?= some [U e0.head,C.sl 5 [] 1 0 e0.next.length false,I (IntKind.i64.wrap (e0.zf+1))]:=dQ tK;have lowV:∀ r ∈ u4 w m v0 3,∀ c ∈ r,qW 6 9 c=true:=zA (enc:=zF) (fun _=>rfl) rfl _ _;have lowG:∀ r ∈ u1 m v0 g0 g0.zt 4,∀ c ∈ r,qW 6 9 c=true:=zA (enc:=zE) (fun _=>rfl) rfl _ _;have lowE:∀ r ∈ (g0.ends.map zx).set m.end_.toNat [U e0.head,C.sl 5 [] 1 0 e0.next.length false,I (IntKind.i64.wrap (e0.zf+1))],∀ c ∈ r,qW 6 9 c=true:=zA (enc:=zx) (fun _=>rfl) rfl _ _;refine zX [0,1,2,3,4,5] [⟨1,37,8,[(eD w 2)],0⟩,⟨1,69,44,[zD ({ m with answer:=⟨1,m.version,m.zg,m.end_,m.slot,m.listen,0,⟨0,0,0,0,0,0⟩⟩,pc:=20 })],0⟩,⟨1,0,5,u4 w m v0 3,0⟩,⟨1,0,2,u1 m v0 g0 g0.zt 4,0⟩,⟨1,0,3,(g0.ends.map zx).set m.end_.toNat [U e0.head,C.sl 5 [] 1 0 e0.next.length false,I (IntKind.i64.wrap (e0.zf+1))],0⟩,⟨2,3,1,e0.next.map encI,0⟩,⟨1,213,2,[tj],0⟩,⟨1,48,23,[zR qz],0⟩] (rx:=.ref 4 [] 3 m.end_.toNat 0) (vi w _ v0 g0 (Ly e0 1) hv2) (zc rfl (zc rfl (zc (zi ownV) (zc (zi ownG) (zc (zi ownE2) rfl))))) uT rfl rfl rfl (zc rfl (zc rfl (zc (zi ownV) (zc (zi ownG) (zc (zi ownE2) rfl))))) uU rfl (dd ?_);refine ⟨_,ge2,cx,dd ?_⟩;refine zX [0,1,2,3,4,5] [⟨1,37,8,[(eD w 2)],0⟩,⟨1,69,44,[zD ({ m with answer:=⟨1,m.version,m.zg,m.end_,m.slot,m.listen,0,⟨0,0,0,0,0,0⟩⟩,pc:=20 })],0⟩,⟨1,0,5,u4 w m v0 3,0⟩,⟨1,0,2,u1 m v0 g0 g0.zt 4,0⟩,⟨1,0,3,(g0.ends.map zx).set m.end_.toNat [U e0.head,C.sl 5 [] 1 0 e0.next.length false,I (IntKind.i64.wrap (e0.zf+1))],0⟩,⟨2,3,1,e0.next.map encI,0⟩,⟨1,213,2,[tj],0⟩,⟨1,48,23,[zR qz],0⟩] (rx:=Ce (eX m v0 3 7 (IntKind.i64.wrap (e0.zf+1)))) (Pd w _ v0 g0 (Ly e0 1) hv2 3 7 (IntKind.i64.wrap (e0.zf+1))) (zc rfl (zc rfl (zc (zi ownV) (zc (zi ownG) (zc (zi ownE2) rfl))))) uT rfl rfl rfl (zc rfl (zc rfl (zc (zi ownV) (zc (zi ownG) (zc (zi ownE2) rfl))))) uU rfl (dd ?_);exact cH
end Go.Wor
