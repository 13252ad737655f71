import Derived.Test.YtkbnjgogjccmfaaGreatTV
set_option linter.all false
set_option maxRecDepth 100000
set_option maxHeartbeats 4000000
namespace Go.Wor
open Go.Ab Go.Proofs Tryz Go.Hy Go.Gat Go.Nam Go.Hos Go.Con Go.Sna
abbrev ez (m:uw) (a b c:Int):uz:=⟨m.zf,0,a,b, -1,false,c,false,false,false,wR⟩
abbrev fi (m:uw) (v:u3) (a b c:Int):uz:=⟨m.zf,0,a,b,m.version,v.qm,c,false,false,false,wR⟩
def jk (m:uw) (a b c:Int):tn 178 [⟨1,69,44,[zD (m)],0⟩] [.agg [.za,.ref 0 [] 44 0 0],I a,I b,I c] (Ce (ez m a b c)) [⟨1,69,44,[zD (m)],0⟩]:=by
 refine aa func178 ?_;exact dz
abbrev iA (n:Int):ef:=⟨n,0,0,0,0,0,0,⟨0,0,0,0,0,0⟩⟩
abbrev lX (m:uw) (n:Int):uw:={ m with answer:=iA n,pc:=20 }
def vz (m:uw) (n:Int):tn 179 [⟨1,69,44,[zD (m)],0⟩] [.agg [.za,.ref 0 [] 44 0 0],I n] (.u1 []) [⟨1,69,44,[zD (lX m n)],0⟩]:=by
 refine aa func179 ?_;refine .inl ⟨⟨false,[3],[1],[]⟩,au,uH ?_⟩;refine hZ ?_
 exact ⟨.inr rfl,_,_,.refl _,rfl,cE 1⟩
structure mN (w:Wor) (m:uw) (v:u3):Prop where
 v0:0<=m.version
 at_:w.ze[m.version.toNat]?= some v
def mN.row {w:Wor} {m:uw} {v:u3} (h:mN w m v):(w.ze.map zF)[m.version.toNat]?= some (zF v):=by rw [dP,h.at_];rfl
def kT (w:Wor) (m:uw) (v:u3) (hv:mN w m v) (a b c:Int):tn 184 [⟨1,37,8,[zJ w],0⟩,⟨1,69,44,[zD (m)],0⟩] [.agg tj,I a,I b,I c] (Ce (fi m v a b c)) [⟨1,37,8,[zJ w],0⟩,⟨1,69,44,[zD (m)],0⟩]:=by
 have h0:=hv.v0;have hr:=hv.row;obtain ⟨sn,gs,fr⟩:=v;cases fr
 all_goals
  refine aa func184 ?_;refine af [1] (jk m a b c) ?_;refine .inl ⟨⟨false,[6,9,11,14,17],[0,1,2],[]⟩,au,uH ?_⟩;(refine ⟨h0,_,hr,dd ?_⟩)
  first | ((refine ya (dd ?_))) | ((refine yb (dd ?_)))
  refine hZ ?_
  exact cI
def DP {P:Program} {f:FuncId} (sel:List Nat) {K H0 H':zl} {args args0:List C} {r:C} (h:zb P f H0 args0 r H') (hR:qP H'=true)
  (hH:xA sel K=H0) (ha:args.map (x9 sel 9)=args0) (z7:sel.all (fun id=>Nat.blt id K.length)=true) (ff:ym sel=true) (eX:qP K=true) {k:C->zl->Prop}
  (hk:oL (wx sel K H') fun X=>qL (yQ (qZ sel K.length) 9 r) fun c=>k c X):∃ R',qC P f K args R'∧∀ r H2,R' r H2->k r H2:=
 Jp sel (h.iS (R:=fun x X=>x=r∧X=H') ⟨rfl,rfl⟩) (fun _ _ e=>e.2 ▸ hR) hH ha z7 ff eX (by rintro _ _ ⟨rfl,rfl⟩;exact hk)
structure Bz (w:Wor) (m:uw) (v:u3) (g:Gr):Prop extends mN w m v where
 g0:0<=m.zi
 ey:v.zm[m.zi.toNat]?= some g
def Bz.WW {w:Wor} {m:uw} {v:u3} {g:Gr} (h:Bz w m v g):(v.zm.map zE)[m.zi.toNat]?= some (zE g):=by rw [dP,h.ey];rfl
structure fc (w:Wor) (m:uw) (v:u3) (g:Gr) (e:En):Prop extends Bz w m v g where
 e0:0<=m.end_
 eL:g.ends[m.end_.toNat]?= some e
def fc.WV {w:Wor} {m:uw} {v:u3} {g:Gr} {e:En} (h:fc w m v g e):(g.ends.map zx)[m.end_.toNat]?= some (zx e):=by rw [dP,h.eL];rfl
def IU (w:Wor) (m:uw) (v:u3) (g:Gr) (hv:Bz w m v g):tn 181 [⟨1,37,8,[zJ w],0⟩,⟨1,69,44,[zD (m)],0⟩] [.agg tj] (.jN (zE g)) [⟨1,37,8,[zJ w],0⟩,⟨1,69,44,[zD (m)],0⟩]:=by
 have h0:=hv.v0;have hr:=hv.row;have g0:=hv.g0;have gr:=hv.WW;refine aa func181 ?_;refine uE ?_;(refine ⟨h0,_,hr,dd ?_⟩)
 (refine ⟨g0,_,gr,dd ?_⟩)
 exact cI
def kM (w:Wor) (m:uw) (v:u3) (g:Gr) (e:En) (hv:fc w m v g e):tn 185 [⟨1,37,8,[zJ w],0⟩,⟨1,69,44,[zD (m)],0⟩] [.agg tj] (.jN (zx e)) [⟨1,37,8,[zJ w],0⟩,⟨1,69,44,[zD (m)],0⟩]:=by
 have e0:=hv.e0;have er:=hv.WV;refine aa func185 ?_;refine .inl ⟨⟨true,[],[],[1]⟩,au,uH ?_⟩;refine af [0,1] (IU w m v g hv.toBz) ?_;refine hZ ?_
 (refine ⟨e0,_,er,dd ?_⟩)
 exact cI
def vM (w:Wor) (m:uw) (v:u3) (c:eM) (hv:mN w m v) (c0:0<=m.zi) (hc:v.snap.zk[m.zi.toNat]?= some c):tn 183 [⟨1,37,8,[zJ w],0⟩,⟨1,69,44,[zD (m)],0⟩] [.agg tj] (Cc c) [⟨1,37,8,[zJ w],0⟩,⟨1,69,44,[zD (m)],0⟩]:=by
 have h0:=hv.v0;have hr:=hv.row;have cr:(v.snap.zk.map j6)[m.zi.toNat]?= some (j6 c):=by rw [dP,hc];rfl
 refine aa func183 ?_;refine uE ?_;(refine ⟨h0,_,hr,dd ?_⟩)
 (refine ⟨c0,_,cr,dd ?_⟩)
 exact cI
def Nv (w:Wor) (m:uw) (v:u3) (g:Gr) (e:En) (hv:fc w m v g e) {x:Int} (s0:0<=m.slot) (hx:e.next[m.slot.toNat]?= some x):
  tn 148 [⟨1,37,8,[zJ w],0⟩,⟨1,69,44,[zD (m)],0⟩] [.agg tj] (Ce (fi m v 1 9 x)) [⟨1,37,8,[zJ w],0⟩,⟨1,69,44,[zD ({ m with link:=x,pc:=11 })],0⟩]:=by
 have er:(e.next.map encI)[m.slot.toNat]?= some (encI x):=by rw [dP,hx];rfl
 refine aa func148 ?_;refine .inl ⟨⟨true,[3],[2],[5]⟩,au,uH ?_⟩;refine af [0,1] (kM w m v g e hv) ?_;refine hZ ?_
 (refine ⟨s0,_,er,dd ?_⟩)
 refine hZ ?_
 refine .inl ⟨⟨true,[],[],[]⟩,au,uH ?_⟩;refine af [0,1] (kT w { m with link:=x,pc:=11 } v ⟨hv.v0,hv.at_⟩ 1 9 x) ?_;exact cI
def M3 (w:Wor) (m:uw) (v:u3) (g:Gr) (e:En) (hv:fc w m v g e):
  tn 145 [⟨1,37,8,[zJ w],0⟩,⟨1,69,44,[zD (m)],0⟩] [.agg tj] (Ce (fi m v 1 7 e.zg)) [⟨1,37,8,[zJ w],0⟩,⟨1,69,44,[zD ({ m with i:=e.zg,pc:=8 })],0⟩]:=by
 refine aa func145 ?_;refine .inl ⟨⟨true,[3],[2],[5]⟩,au,uH ?_⟩;refine af [0,1] (kM w m v g e hv) ?_;refine hZ ?_
 refine hZ ?_
 refine .inl ⟨⟨true,[],[],[]⟩,au,uH ?_⟩;refine af [0,1] (kT w { m with i:=e.zg,pc:=8 } v ⟨hv.v0,hv.at_⟩ 1 7 e.zg) ?_;exact cI
def Nu (w:Wor) (m:uw) (v:u3) (g:Gr) (e:En) (hv:fc w m v g e) (he:u64 e.head) (hi:0<=e.head % 4294967296 - 1∧e.head % 4294967296 - 1 < e.next.length):
  tn 147 [⟨1,37,8,[zJ w],0⟩,⟨1,69,44,[zD (m)],0⟩] [.agg tj] (Ce (fi m v 1 8 (e.head % 4294967296 - 1))) [⟨1,37,8,[zJ w],0⟩,⟨1,69,44,[zD ({ m with word:=e.head,slot:=e.head % 4294967296 - 1,pc:=10 })],0⟩]:=by
 have hi1:=hi.1;have hi2:=hi.2;have ml:(e.next.map encI).length=e.next.length:=dR ..;refine aa func147 ?_;refine DP [0,1] (kM w m v g e hv) rfl rfl rfl rfl rfl rfl (dd ?_);refine ah (Slp.qG e.head he) ?_;refine ⟨fun h=>absurd h aA,fun _=>dd ?_⟩;refine DP [0,1] (kM w { m with word:=e.head } v g e ⟨⟨⟨hv.v0,hv.at_⟩,hv.g0,hv.ey⟩,hv.e0,hv.eL⟩) rfl rfl rfl rfl rfl rfl (dd ?_);rw [ml];refine ⟨fun h=>absurd h aA,fun _=>dd ?_⟩;refine af [0,1] (kT w { m with word:=e.head,slot:=e.head % 4294967296 - 1,pc:=10 } v ⟨hv.v0,hv.at_⟩ 1 8 (e.head % 4294967296 - 1)) ?_;exact cI
def OB (w:Wor) (m:uw) (x:eE) (h0:0<=m.listen) (hx:w.zd[m.listen.toNat]?= some x):
  tn 142 [⟨1,37,8,[[I w.zn,I w.current,I w.lock,lI w.pins,lV w.ze,.sl 2 [] 4 0 w.zd.length false,eG w.counts,lR w.zr]],0⟩,⟨1,69,44,[zD (m)],0⟩,⟨2,85,4,(w.zd).map qH,0⟩] [.agg tj] (Ce (ez m 3 5 (IntKind.i64.wrap (x.zg+1))))
   [⟨1,37,8,[[I w.zn,I w.current,I w.lock,lI w.pins,lV w.ze,.sl 2 [] 4 0 w.zd.length false,eG w.counts,lR w.zr]],0⟩,⟨1,69,44,[zD ({ m with pc:=5 })],0⟩,⟨2,85,4,(w.zd.set m.listen.toNat { x with zg:=IntKind.i64.wrap (x.zg+1) }).map qH,0⟩]:=by
 have e1:0+m.listen.toNat=m.listen.toNat:=gp _;have ux:m.listen.toNat < w.zd.length:=(dL.1 hx).1;have gx:(w.zd.map qH)[m.listen.toNat]?= some (qH x):=by rw [dP,hx];rfl
 refine aa func142 ?_;have hst:(w.zd.map qH).set m.listen.toNat [Tx x.name,Bo x.drain,I (IntKind.i64.wrap (x.zg+1)),Bo x.closed]=(w.zd.set m.listen.toNat { x with zg:=IntKind.i64.wrap (x.zg+1) }).map qH:=bR
 have gx2:((w.zd.set m.listen.toNat { x with zg:=IntKind.i64.wrap (x.zg+1) }).map qH)[m.listen.toNat]?= some (qH { x with zg:=IntKind.i64.wrap (x.zg+1) }):=by rw [dP,dS ux];rfl
 refine uE ?_;refine ⟨h0,ux,dd ?_⟩;rw [e1];refine ⟨_,gx,cw,dd ?_⟩;refine ⟨_,gx,rfl,dd ?_⟩;rw [hst];refine .inl ⟨⟨true,[],[],[]⟩,au,uH ?_⟩;refine ⟨_,gx2,cw,dd ?_⟩;refine af [1] (jk { m with pc:=5 } 3 5 (IntKind.i64.wrap (x.zg+1))) ?_;exact ⟨.inl rfl,_,_,.refl _,rfl,cE 3⟩
def Ox (w:Wor) (m:uw) (x:eE) (h0:0<=m.listen) (hx:w.zd[m.listen.toNat]?= some x):
  tn 153 [⟨1,37,8,[[I w.zn,I w.current,I w.lock,lI w.pins,lV w.ze,.sl 2 [] 4 0 w.zd.length false,eG w.counts,lR w.zr]],0⟩,⟨1,69,44,[zD (m)],0⟩,⟨2,85,4,(w.zd).map qH,0⟩] [.agg tj] (Ce (ez m 3 5 (IntKind.i64.wrap (x.zg - 1))))
   [⟨1,37,8,[[I w.zn,I w.current,I w.lock,lI w.pins,lV w.ze,.sl 2 [] 4 0 w.zd.length false,eG w.counts,lR w.zr]],0⟩,⟨1,69,44,[zD ({ m with pc:=23 })],0⟩,⟨2,85,4,(w.zd.set m.listen.toNat { x with zg:=IntKind.i64.wrap (x.zg - 1) }).map qH,0⟩]:=by
 have e1:0+m.listen.toNat=m.listen.toNat:=gp _;have ux:m.listen.toNat < w.zd.length:=(dL.1 hx).1;have gx:(w.zd.map qH)[m.listen.toNat]?= some (qH x):=by rw [dP,hx];rfl
 refine aa func153 ?_;have hst:(w.zd.map qH).set m.listen.toNat [Tx x.name,Bo x.drain,I (IntKind.i64.wrap (x.zg - 1)),Bo x.closed]=(w.zd.set m.listen.toNat { x with zg:=IntKind.i64.wrap (x.zg - 1) }).map qH:=bR
 have gx2:((w.zd.set m.listen.toNat { x with zg:=IntKind.i64.wrap (x.zg - 1) }).map qH)[m.listen.toNat]?= some (qH { x with zg:=IntKind.i64.wrap (x.zg - 1) }):=by rw [dP,dS ux];rfl
 refine uE ?_;refine ⟨h0,ux,dd ?_⟩;rw [e1];refine ⟨_,gx,cw,dd ?_⟩;refine ⟨_,gx,rfl,dd ?_⟩;rw [hst];refine .inl ⟨⟨true,[],[],[]⟩,au,uH ?_⟩;refine ⟨_,gx2,cw,dd ?_⟩;refine af [1] (jk { m with pc:=23 } 3 5 (IntKind.i64.wrap (x.zg - 1))) ?_;exact ⟨.inl rfl,_,_,.refl _,rfl,cE 3⟩
def zX {P:Program} {f:FuncId} (sel:List Nat) (Kx:zl) {K H0 H':zl} {args args0:List C} {r rx:C} (h:zb P f H0 args0 r H') (hR:qP H'=true)
  (hH:xA sel K=H0) (ha:args.map (x9 sel 9)=args0) (z7:sel.all (fun id=>Nat.blt id K.length)=true) (ff:ym sel=true) (eX:qP K=true) {k:C->zl->Prop}
  (hp:wx sel K H'=Kx) (hr:yQ (qZ sel K.length) 9 r=rx) (hk:okB rx fun c=>k c Kx):∃ r H2,zb P f K args r H2∧okB r fun c=>k c H2:=
 ⟨_,_,h.part sel hR hH ha z7 ff eX,by rw [hp,hr];exact hk⟩
def zI {n:Nat} {x:Ob} {H:zl} (h1:qM n [x]=true) (h2:qM n H=true):qM n (x::H)=true:=by
 unfold qM at *;simp only [rD,sM,sC] at *;rw [h1,h2];rfl
def qg {n ty sz fz:Nat} {rows:List (List C)} (h:∀ r ∈ rows,∀ c ∈ r,qY n 9 c=true):qM n [⟨1,ty,sz,rows,fz⟩]=true:=by
 unfold qM;simp only [rD,sM,sC];have:(rows.all fun r=>r.all (qY n 9))=true:=dV.2 fun r hr=>dV.2 fun c hc=>h r hr c hc
 rw [this];simp
def NA (w:Wor) (m:uw) (r0:List Int) (x:Int) (h0:0<=m.zf) (hr:w.counts[m.zf.toNat]?= some r0) (hx:r0[0]?= some x):
  tn 152 [⟨1,37,8,[[I w.zn,I w.current,I w.lock,lI w.pins,lV w.ze,lL w.zd,.sl 2 [] 1 0 w.counts.length false,lR w.zr]],0⟩,⟨1,69,44,[zD (m)],0⟩,⟨1,0,1,(w.counts.map zN).set m.zf.toNat [C.sl 3 [] 1 0 r0.length false],0⟩,⟨2,43,1,(r0).map jH,0⟩] [.agg tj] (Ce (ez m 3 10 0))
   [⟨1,37,8,[[I w.zn,I w.current,I w.lock,lI w.pins,lV w.ze,lL w.zd,.sl 2 [] 1 0 w.counts.length false,lR w.zr]],0⟩,⟨1,69,44,[zD ({ m with pc:=if m.answer.kind=1∨m.listen < 0 then 23 else 22 })],0⟩,⟨1,0,1,(w.counts.map zN).set m.zf.toNat [C.sl 3 [] 1 0 r0.length false],0⟩,⟨2,43,1,(r0.set 0 (IntKind.u64.wrap (x+1))).map jH,0⟩]:=by
 have e1:0+m.zf.toNat=m.zf.toNat:=gp _;have ux:m.zf.toNat < w.counts.length:=(dL.1 hr).1;have gt:((w.counts.map zN).set m.zf.toNat [C.sl 3 [] 1 0 r0.length false])[m.zf.toNat]?= some [C.sl 3 [] 1 0 r0.length false]:=dS (aq ux);have gx:(r0.map jH)[0]?= some (jH x):=by rw [dP,hx];rfl
 have hl0:0 < r0.length:=(dL.1 hx).1;have hst:(r0.map jH).set 0 [U (IntKind.u64.wrap (x+1))]=(r0.set 0 (IntKind.u64.wrap (x+1))).map jH:=bR
 have own:∀ r ∈ (w.counts.map zN).set m.zf.toNat [C.sl 3 [] 1 0 r0.length false],∀ c ∈ r,zy c=true:=zA (enc:=zN) (fun _=>rfl) rfl _ _;have low:∀ r ∈ (w.counts.map zN).set m.zf.toNat [C.sl 3 [] 1 0 r0.length false],∀ c ∈ r,qY 4 9 c=true:=zA (enc:=zN) (fun _=>rfl) rfl _ _;refine aa func152 ?_;refine uE ?_;refine ⟨h0,ux,dd ?_⟩;rw [e1];refine ⟨_,gt,tS,dd ?_⟩;refine ⟨ar,hl0,dd ?_⟩;refine ⟨_,gx,tS,dd ?_⟩;refine ⟨ar,hl0,dd ?_⟩;refine ⟨_,gx,rfl,dd ?_⟩;have hst2:(r0.map jH).set (0+Int.toNat 0) [U (IntKind.u64.wrap (x+1))]=(r0.set 0 (IntKind.u64.wrap (x+1))).map jH:=hst;rw [hst2];refine ⟨fun h1=>?_,fun h1=>?_⟩
 ·rw [dQ (.inl (gK h1))];refine dd ?_;refine tc ?_
  refine zX [1] [⟨1,37,8,[[I w.zn,I w.current,I w.lock,lI w.pins,lV w.ze,lL w.zd,.sl 2 [] 1 0 w.counts.length false,lR w.zr]],0⟩,⟨1,69,44,[zD ({ m with pc:=23 })],0⟩,⟨1,0,1,(w.counts.map zN).set m.zf.toNat [C.sl 3 [] 1 0 r0.length false],0⟩,⟨2,43,1,(r0.set 0 (IntKind.u64.wrap (x+1))).map jH,0⟩,⟨1,213,2,[tj],0⟩,⟨1,48,23,[zR qA],0⟩] (rx:=Ce (ez { m with pc:=23 } 3 10 0)) (jk { m with pc:=23 } 3 10 0) rfl rfl rfl rfl rfl (zc rfl (zc rfl (zc (zj own) rfl))) rfl rfl (dd ?_);exact cO
 ·refine dd ?_;refine ⟨fun h2=>?_,fun h2=>?_⟩
  ·rw [dQ (.inr (gK h2))];refine dd ?_;refine tc ?_
   refine zX [1] [⟨1,37,8,[[I w.zn,I w.current,I w.lock,lI w.pins,lV w.ze,lL w.zd,.sl 2 [] 1 0 w.counts.length false,lR w.zr]],0⟩,⟨1,69,44,[zD ({ m with pc:=23 })],0⟩,⟨1,0,1,(w.counts.map zN).set m.zf.toNat [C.sl 3 [] 1 0 r0.length false],0⟩,⟨2,43,1,(r0.set 0 (IntKind.u64.wrap (x+1))).map jH,0⟩,⟨1,213,2,[tj],0⟩,⟨1,48,23,[zR qA],0⟩] (rx:=Ce (ez { m with pc:=23 } 3 10 0)) (jk { m with pc:=23 } 3 10 0) rfl rfl rfl rfl rfl (zc rfl (zc rfl (zc (zj own) rfl))) rfl rfl (dd ?_);exact cO
  ·rw [dN (fun h=>h.elim (pF h1) (pF h2))];refine dd ?_;refine tc ?_
   refine zX [1] [⟨1,37,8,[[I w.zn,I w.current,I w.lock,lI w.pins,lV w.ze,lL w.zd,.sl 2 [] 1 0 w.counts.length false,lR w.zr]],0⟩,⟨1,69,44,[zD ({ m with pc:=22 })],0⟩,⟨1,0,1,(w.counts.map zN).set m.zf.toNat [C.sl 3 [] 1 0 r0.length false],0⟩,⟨2,43,1,(r0.set 0 (IntKind.u64.wrap (x+1))).map jH,0⟩,⟨1,213,2,[tj],0⟩,⟨1,48,23,[zR qA],0⟩] (rx:=Ce (ez { m with pc:=22 } 3 10 0)) (jk { m with pc:=22 } 3 10 0) rfl rfl rfl rfl rfl (zc rfl (zc rfl (zc (zj own) rfl))) rfl rfl (dd ?_);exact cO
def mW (n:Int):Int:=if n < 1∨5 < n then 0 else n
def Nm (w:Wor) (m:uw) (r0:List Int) (x k:Int) (hk:mW m.answer.kind=k) (h0:0<=m.zf) (hr:w.counts[m.zf.toNat]?= some r0) (hx:r0[k.toNat]?= some x):
  tn 151 [⟨1,37,8,[[I w.zn,I w.current,I w.lock,lI w.pins,lV w.ze,lL w.zd,.sl 2 [] 1 0 w.counts.length false,lR w.zr]],0⟩,⟨1,69,44,[zD (m)],0⟩,⟨1,0,1,(w.counts.map zN).set m.zf.toNat [C.sl 3 [] 1 0 r0.length false],0⟩,⟨2,43,1,(r0).map jH,0⟩] [.agg tj] (Ce (ez m 3 10 k))
   [⟨1,37,8,[[I w.zn,I w.current,I w.lock,lI w.pins,lV w.ze,lL w.zd,.sl 2 [] 1 0 w.counts.length false,lR w.zr]],0⟩,⟨1,69,44,[zD ({ m with pc:=21 })],0⟩,⟨1,0,1,(w.counts.map zN).set m.zf.toNat [C.sl 3 [] 1 0 r0.length false],0⟩,⟨2,43,1,(r0.set k.toNat (IntKind.u64.wrap (x+1))).map jH,0⟩]:=by
 have e1:0+m.zf.toNat=m.zf.toNat:=gp _;have k0:0<=k:=by rw [<- hk];unfold mW;split <;> omega
 have k1:k.toNat < r0.length:=(dL.1 hx).1;have ux:m.zf.toNat < w.counts.length:=(dL.1 hr).1;have gt:((w.counts.map zN).set m.zf.toNat [C.sl 3 [] 1 0 r0.length false])[m.zf.toNat]?= some [C.sl 3 [] 1 0 r0.length false]:=dS (aq ux);have gx:(r0.map jH)[0+k.toNat]?= some (jH x):=by rw [gp,dP,hx];rfl
 have hst:(r0.map jH).set (0+k.toNat) [U (IntKind.u64.wrap (x+1))]=(r0.set k.toNat (IntKind.u64.wrap (x+1))).map jH:=by rw [gp,pM];rfl
 have own:∀ r ∈ (w.counts.map zN).set m.zf.toNat [C.sl 3 [] 1 0 r0.length false],∀ c ∈ r,zy c=true:=zA (enc:=zN) (fun _=>rfl) rfl _ _;have low:∀ r ∈ (w.counts.map zN).set m.zf.toNat [C.sl 3 [] 1 0 r0.length false],∀ c ∈ r,qY 4 9 c=true:=zA (enc:=zN) (fun _=>rfl) rfl _ _;refine aa func151 ?_;refine ⟨fun h1=>?_,fun h1=>?_⟩
 ·obtain rfl:k=0:=by rw [<- hk];unfold mW;rw [dQ (.inl (gK h1))]
  refine dd ?_;refine tc ?_
  refine uE ?_;(refine ⟨h0,ux,dd ?_⟩);(rw [e1]);(refine ⟨_,gt,tS,dd ?_⟩);(refine ⟨k0,k1,dd ?_⟩);(refine ⟨_,gx,tS,dd ?_⟩);(refine ⟨k0,k1,dd ?_⟩);(refine ⟨_,gx,rfl,dd ?_⟩);(rw [hst]);(refine zX [1] [⟨1,37,8,[[I w.zn,I w.current,I w.lock,lI w.pins,lV w.ze,lL w.zd,.sl 2 [] 1 0 w.counts.length false,lR w.zr]],0⟩,⟨1,69,44,[zD ({ m with pc:=21 })],0⟩,⟨1,0,1,(w.counts.map zN).set m.zf.toNat [C.sl 3 [] 1 0 r0.length false],0⟩,⟨2,43,1,(r0.set ((0:Int)).toNat (IntKind.u64.wrap (x+1))).map jH,0⟩,⟨1,213,2,[tj],0⟩,⟨1,48,23,[zR qA],0⟩] (rx:=Ce (ez { m with pc:=21 } 3 10 ((0:Int)))) (jk { m with pc:=21 } 3 10 ((0:Int))) rfl rfl rfl rfl rfl (zc rfl (zc rfl (zc (zj own) rfl))) rfl rfl (dd ?_));exact cO
 ·refine dd ?_;refine tc ?_
  refine ⟨fun h2=>?_,fun h2=>?_⟩
  ·obtain rfl:k=0:=by rw [<- hk];unfold mW;rw [dQ (.inr (gK h2))]
   refine dd ?_;refine tc ?_
   refine uE ?_;(refine ⟨h0,ux,dd ?_⟩);(rw [e1]);(refine ⟨_,gt,tS,dd ?_⟩);(refine ⟨k0,k1,dd ?_⟩);(refine ⟨_,gx,tS,dd ?_⟩);(refine ⟨k0,k1,dd ?_⟩);(refine ⟨_,gx,rfl,dd ?_⟩);(rw [hst]);(refine zX [1] [⟨1,37,8,[[I w.zn,I w.current,I w.lock,lI w.pins,lV w.ze,lL w.zd,.sl 2 [] 1 0 w.counts.length false,lR w.zr]],0⟩,⟨1,69,44,[zD ({ m with pc:=21 })],0⟩,⟨1,0,1,(w.counts.map zN).set m.zf.toNat [C.sl 3 [] 1 0 r0.length false],0⟩,⟨2,43,1,(r0.set ((0:Int)).toNat (IntKind.u64.wrap (x+1))).map jH,0⟩,⟨1,213,2,[tj],0⟩,⟨1,48,23,[zR qA],0⟩] (rx:=Ce (ez { m with pc:=21 } 3 10 ((0:Int)))) (jk { m with pc:=21 } 3 10 ((0:Int))) rfl rfl rfl rfl rfl (zc rfl (zc rfl (zc (zj own) rfl))) rfl rfl (dd ?_));exact cO
  ·obtain rfl:k=m.answer.kind:=by rw [<- hk];unfold mW;rw [dN (fun h=>h.elim (pF h1) (pF h2))]
   refine dd ?_;refine tc ?_
   refine uE ?_;(refine ⟨h0,ux,dd ?_⟩);(rw [e1]);(refine ⟨_,gt,tS,dd ?_⟩);(refine ⟨k0,k1,dd ?_⟩);(refine ⟨_,gx,tS,dd ?_⟩);(refine ⟨k0,k1,dd ?_⟩);(refine ⟨_,gx,rfl,dd ?_⟩);(rw [hst]);(refine zX [1] [⟨1,37,8,[[I w.zn,I w.current,I w.lock,lI w.pins,lV w.ze,lL w.zd,.sl 2 [] 1 0 w.counts.length false,lR w.zr]],0⟩,⟨1,69,44,[zD ({ m with pc:=21 })],0⟩,⟨1,0,1,(w.counts.map zN).set m.zf.toNat [C.sl 3 [] 1 0 r0.length false],0⟩,⟨2,43,1,(r0.set (m.answer.kind).toNat (IntKind.u64.wrap (x+1))).map jH,0⟩,⟨1,213,2,[tj],0⟩,⟨1,48,23,[zR qA],0⟩] (rx:=Ce (ez { m with pc:=21 } 3 10 (m.answer.kind))) (jk { m with pc:=21 } 3 10 (m.answer.kind)) rfl rfl rfl rfl rfl (zc rfl (zc rfl (zc (zj own) rfl))) rfl rfl (dd ?_));exact cO
def yd {P:Program} {o:Oper} {σ:Operand->Value} {t t':TypeId} {x y:Operand} {k:IntKind} {n m:Int} (ho:o.op=.binOp .rem t x y t') (hx:σ x=.int k n) (hy:σ y=.int k m) (hm:m≠0):
  iK P (execOp σ o)=some (.value (.int k (n.tmod m))):=by
 have hi:Op.intDiv .rem k n m=pure (.int k (n.tmod m)):=by unfold Op.intDiv;rw [dN hm]
 have hg:eqGuard .rem t x y (σ x) (σ y)=pure ():=rfl
 have hb:binOp .rem t (σ x) (σ y)=pure (.int k (n.tmod m)):=by
  rw [hx,hy];simp only [binOp,hi];exact dN aj
 unfold execOp;rw [ho];dsimp only;rw [hg,hb]
 rfl
def Mu {n:Int} (h:0<=n) (h':n < 18446744073709551616):IntKind.u64.wrap n=n:=by
 simp only [IntKind.wrap,IntKind.signed,IntKind.bits,Bool.false_and,rU,if_false];omega
abbrev ux (c:eM):List Int:=iq c.zL c.zL.length
def lS (c:eM) (n:Int):Int × Int:=if (ux c).length=0 then (0,5) else (((ux c)[(n % (ux c).length).toNat]?).getD 0,0)
def Qj (c:eM) (n:Int) (hn:u64 n) (hl:c.zL.length < 1000000000000) (hh:(ux c).length<=c.zL.length):tn 182 [] [Cc c,U n] (.u1 [I (lS c n).1,I (lS c n).2]) []:=by
 have ml:((ux c).map encI).length=(ux c).length:=dR ..;refine ab func182 ?_;refine ah (HV c hl) ?_;rw [ml];refine ⟨fun h0=>?_,fun h0=>?_⟩
 ·unfold lS;have h0:=gK h0;rw [dQ aw];exact uI
 ·unfold lS;have h0:=pF h0;rw [dN aw];refine dd ?_
  have hw:IntKind.u64.wrap ((((ux c).map encI).length:Nat):Int)≠0:=by
   have hk:=ml;have:IntKind.u64.wrap ((((ux c).map encI).length:Nat):Int)=(ux c).length:=by rw [ml];exact Mu aw aw
   omega
  split
  rotate_left
  ·rename_i hno;exact (hno _ (yd rfl rfl rfl hw)).elim
  ·rename_i v e;have e':=e.symm.trans (yd rfl rfl rfl hw);cases e'
   refine dd ?_;have ew:IntKind.u64.wrap ((((ux c).map encI).length:Nat):Int)=(ux c).length:=by rw [ml];exact Mu aw aw
   have et:n.tmod (IntKind.u64.wrap ((((ux c).map encI).length:Nat):Int))=n % (ux c).length:=by rw [ew];exact rK hn.1
   have b0:0<=n % ((ux c).length:Int):=rV _ h0;have b1:n % ((ux c).length:Int) < (ux c).length:=rW _ aw;have hi:(n % ((ux c).length:Int)).toNat < (ux c).length:=aw
   have gx:((ux c).map encI)[(n.tmod (IntKind.u64.wrap ((((ux c).map encI).length:Nat):Int))).toNat]?= some (encI ((ux c)[(n % ((ux c).length:Int)).toNat]'hi)):=by rw [et,dP,dM hi];rfl
   refine ⟨by show 0<=n.tmod (IntKind.u64.wrap ((((ux c).map encI).length:Nat):Int));rw [et];exact b0,_,gx,dd ?_⟩;rw [dM hi];exact uI
def QM (a x b y:Int):tn 186 [] [I a,I x,I b,I y] (I (if y < x then b else a)) []:=by
 refine ab func186 ?_;refine ⟨fun h=>?_,fun h=>?_⟩
 ·rw [dQ (gK h)];exact df
 ·rw [dN (pF h)];exact df
def M5 (w:Wor) (m:uw) (v:u3) (g:Gr) (e:En) (hv:Bz w m v g) (o0:0<=m.other) (ho:g.ends[m.other.toNat]?= some e):
  tn 146 [⟨1,37,8,[zJ w],0⟩,⟨1,69,44,[zD (m)],0⟩] [.agg tj] (Ce (fi m v 1 7 e.zg)) [⟨1,37,8,[zJ w],0⟩,⟨1,69,44,[zD ({ m with end_:=if e.zg < m.i then m.other else m.end_,pc:=9 })],0⟩]:=by
 have er:(g.ends.map zx)[m.other.toNat]?= some (zx e):=by rw [dP,ho];rfl
 refine aa func146 ?_;refine .inl ⟨⟨true,[],[],[1]⟩,au,uH ?_⟩;refine af [0,1] (IU w m v g hv) ?_;refine hZ ?_
 (refine ⟨o0,_,er,dd ?_⟩)
 refine .inl ⟨⟨true,[],[],[15]⟩,au,uH ?_⟩;refine ah (QM m.end_ m.i m.other e.zg) ?_;refine hZ ?_
 refine af [0,1] (kT w { m with end_:=if e.zg < m.i then m.other else m.end_,pc:=9 } v ⟨hv.v0,hv.at_⟩ 1 7 e.zg) ?_;exact cI
structure lJ (w:Wor) (m:uw) (v0:u3) (g0:Gr):Prop where
 pv:0<=m.version
 lv:m.version.toNat < w.ze.length
 pg:0<=m.zi
 lg:m.zi.toNat < v0.zm.length
 pe:0<=m.end_
 le:m.end_.toNat < g0.ends.length
def fc.ln {w:Wor} {m:uw} {v0:u3} {g0:Gr} {e0:En} (h:fc w m v0 g0 e0):lJ w m v0 g0:=⟨h.v0,(dL.1 h.at_).1,h.g0,(dL.1 h.ey).1,h.e0,(dL.1 h.eL).1⟩
def Dv {P:Program} {f:FuncId} (sel:List Nat) (Kx:zl) {K H0 H':zl} {args args0:List C} {r rx:C} (h:zb P f H0 args0 r H') (hR:qP H'=true)
  (hH:xA sel K=H0) (ha:args.map (x9 sel 9)=args0) (z7:sel.all (fun id=>Nat.blt id K.length)=true) (ff:ym sel=true) (eX:qP K=true) {k:C->zl->Prop}
  (hp:wx sel K H'=Kx) (hr:yQ (qZ sel K.length) 9 r=rx) (hk:k rx Kx):∃ R,qC P f K args R∧∀ r H2,R r H2->k r H2:=
 ⟨fun x X=>x=rx∧X=Kx,(h.part sel hR hH ha z7 ff eX).iS ⟨hr,hp⟩,by rintro _ _ ⟨rfl,rfl⟩;exact hk⟩
def EM (w:Wor) (m:uw) (v0:u3) (g0:Gr) (e0:En) (hv:lJ w m v0 g0):tn 181 [⟨1,37,8,[(eR w 2)],0⟩,⟨1,69,44,[zD (m)],0⟩,⟨1,0,5,eh w m v0 3,0⟩,⟨1,0,2,ed m v0 g0 g0.zt 4,0⟩,⟨1,0,3,u7 m g0 e0 e0.head 5 e0.zg,0⟩,⟨2,3,1,e0.next.map encI,0⟩] [.agg tj] (.ref 3 [] 2 m.zi.toNat 0) [⟨1,37,8,[(eR w 2)],0⟩,⟨1,69,44,[zD (m)],0⟩,⟨1,0,5,eh w m v0 3,0⟩,⟨1,0,2,ed m v0 g0 g0.zt 4,0⟩,⟨1,0,3,u7 m g0 e0 e0.head 5 e0.zg,0⟩,⟨2,3,1,e0.next.map encI,0⟩]:=by
 have h0:=hv.pv;have g0':=hv.pg;have lv:m.version.toNat < w.ze.length:=hv.lv;have lg:m.zi.toNat < v0.zm.length:=hv.lg;have lowV:∀ r ∈ eh w m v0 3,∀ c ∈ r,qY 6 9 c=true:=zA (enc:=zF) (fun _=>rfl) rfl _ _;have lowG:∀ r ∈ ed m v0 g0 g0.zt 4,∀ c ∈ r,qY 6 9 c=true:=zA (enc:=zE) (fun _=>rfl) rfl _ _;have lowE:∀ r ∈ u7 m g0 e0 e0.head 5 e0.zg,∀ c ∈ r,qY 6 9 c=true:=zA (enc:=zx) (fun _=>rfl) rfl _ _;have e1:0+m.version.toNat=m.version.toNat:=gp _;have e2:0+m.zi.toNat=m.zi.toNat:=gp _;have gv:(eh w m v0 3)[m.version.toNat]?= some ((qK v0.snap++[C.sl 3 [] 2 0 v0.zm.length false,Bo v0.qm])):=dS tP;refine aa func181 ?_;refine uE ?_;refine ⟨h0,lv,dd ?_⟩;rw [e1];refine ⟨_,gv,cx,dd ?_⟩;refine ⟨g0',lg,dd ?_⟩;rw [e2];exact cJ
def vx (w:Wor) (m:uw) (v0:u3) (g0:Gr) (e0:En) (hv:lJ w m v0 g0):tn 185 [⟨1,37,8,[(eR w 2)],0⟩,⟨1,69,44,[zD (m)],0⟩,⟨1,0,5,eh w m v0 3,0⟩,⟨1,0,2,ed m v0 g0 g0.zt 4,0⟩,⟨1,0,3,u7 m g0 e0 e0.head 5 e0.zg,0⟩,⟨2,3,1,e0.next.map encI,0⟩] [.agg tj] (.ref 4 [] 3 m.end_.toNat 0) [⟨1,37,8,[(eR w 2)],0⟩,⟨1,69,44,[zD (m)],0⟩,⟨1,0,5,eh w m v0 3,0⟩,⟨1,0,2,ed m v0 g0 g0.zt 4,0⟩,⟨1,0,3,u7 m g0 e0 e0.head 5 e0.zg,0⟩,⟨2,3,1,e0.next.map encI,0⟩]:=by
 have h0:=hv.pe;have lg:m.zi.toNat < v0.zm.length:=hv.lg;have le:m.end_.toNat < g0.ends.length:=hv.le;have ownV:∀ r ∈ eh w m v0 3,∀ c ∈ r,zy c=true:=zA (enc:=zF) (fun _=>rfl) rfl _ _;have ownG:∀ r ∈ ed m v0 g0 g0.zt 4,∀ c ∈ r,zy c=true:=zA (enc:=zE) (fun _=>rfl) rfl _ _;have ownE:∀ r ∈ u7 m g0 e0 e0.head 5 e0.zg,∀ c ∈ r,zy c=true:=zA (enc:=zx) (fun _=>rfl) rfl _ _;have lowV:∀ r ∈ eh w m v0 3,∀ c ∈ r,qY 6 9 c=true:=zA (enc:=zF) (fun _=>rfl) rfl _ _;have lowG:∀ r ∈ ed m v0 g0 g0.zt 4,∀ c ∈ r,qY 6 9 c=true:=zA (enc:=zE) (fun _=>rfl) rfl _ _;have lowE:∀ r ∈ u7 m g0 e0 e0.head 5 e0.zg,∀ c ∈ r,qY 6 9 c=true:=zA (enc:=zx) (fun _=>rfl) rfl _ _;have e2:0+m.end_.toNat=m.end_.toNat:=gp _;have gg:(ed m v0 g0 g0.zt 4)[m.zi.toNat]?= some ([U g0.zt,C.sl 4 [] 3 0 g0.ends.length false]):=dS tN;refine aa func185 ?_;refine .inl ⟨⟨true,[],[],[1]⟩,au,uH ?_⟩;refine zX [0,1,2,3,4,5] [⟨1,37,8,[(eR w 2)],0⟩,⟨1,69,44,[zD (m)],0⟩,⟨1,0,5,eh w m v0 3,0⟩,⟨1,0,2,ed m v0 g0 g0.zt 4,0⟩,⟨1,0,3,u7 m g0 e0 e0.head 5 e0.zg,0⟩,⟨2,3,1,e0.next.map encI,0⟩,⟨1,213,2,[tj],0⟩] (rx:=.ref 3 [] 2 m.zi.toNat 0) (EM w m v0 g0 e0 hv) (zc rfl (zc rfl (zc (zj ownV) (zc (zj ownG) (zc (zj ownE) rfl))))) uT rfl rfl rfl (zc rfl (zc rfl (zc (zj ownV) (zc (zj ownG) (zc (zj ownE) rfl))))) uU rfl (dd ?_);refine ⟨_,gg,cy,dd ?_⟩;refine ⟨h0,le,dd ?_⟩;rw [e2];exact cJ
def Q4 (w:Wor) (m:uw) (v0:u3) (g0:Gr) (e0:En) (hv:lJ w m v0 g0) (a b c:Int):tn 184 [⟨1,37,8,[(eR w 2)],0⟩,⟨1,69,44,[zD (m)],0⟩,⟨1,0,5,eh w m v0 3,0⟩,⟨1,0,2,ed m v0 g0 g0.zt 4,0⟩,⟨1,0,3,u7 m g0 e0 e0.head 5 e0.zg,0⟩,⟨2,3,1,e0.next.map encI,0⟩] [.agg tj,I a,I b,I c] (Ce (fi m v0 a b c)) [⟨1,37,8,[(eR w 2)],0⟩,⟨1,69,44,[zD (m)],0⟩,⟨1,0,5,eh w m v0 3,0⟩,⟨1,0,2,ed m v0 g0 g0.zt 4,0⟩,⟨1,0,3,u7 m g0 e0 e0.head 5 e0.zg,0⟩,⟨2,3,1,e0.next.map encI,0⟩]:=by
 have h0:=hv.pv;have lv:m.version.toNat < w.ze.length:=hv.lv;have e1:0+m.version.toNat=m.version.toNat:=gp _
 clear hv
 obtain ⟨sn,gs,fr⟩:=v0;cases fr
 all_goals
  have ownV:∀ b,∀ r ∈ (w.ze.map zF).set m.version.toNat (qK sn++[C.sl 3 [] 2 0 gs.length false,Bo b]),∀ c ∈ r,zy c=true:=fun b=>zA (enc:=zF) (fun _=>rfl) rfl _ _
  have ownG:∀ r ∈ (gs.map zE).set m.zi.toNat ([U g0.zt,C.sl 4 [] 3 0 g0.ends.length false]),∀ c ∈ r,zy c=true:=zA (enc:=zE) (fun _=>rfl) rfl _ _;have ownE:∀ r ∈ u7 m g0 e0 e0.head 5 e0.zg,∀ c ∈ r,zy c=true:=zA (enc:=zx) (fun _=>rfl) rfl _ _;have lowV:∀ b,∀ r ∈ (w.ze.map zF).set m.version.toNat (qK sn++[C.sl 3 [] 2 0 gs.length false,Bo b]),∀ c ∈ r,qY 6 9 c=true:=fun b=>zA (enc:=zF) (fun _=>rfl) rfl _ _
  have gv:∀ b,((w.ze.map zF).set m.version.toNat (qK sn++[C.sl 3 [] 2 0 gs.length false,Bo b]))[m.version.toNat]?= some (qK sn++[C.sl 3 [] 2 0 gs.length false,Bo b]):=fun b=>dS tP
  have lowG:∀ r ∈ (gs.map zE).set m.zi.toNat ([U g0.zt,C.sl 4 [] 3 0 g0.ends.length false]),∀ c ∈ r,qY 6 9 c=true:=zA (enc:=zE) (fun _=>rfl) rfl _ _;have lowE:∀ r ∈ u7 m g0 e0 e0.head 5 e0.zg,∀ c ∈ r,qY 6 9 c=true:=zA (enc:=zx) (fun _=>rfl) rfl _ _;refine aa func184 ?_;refine zX [1] [⟨1,37,8,[(eR w 2)],0⟩,⟨1,69,44,[zD (m)],0⟩,⟨1,0,5,(w.ze.map zF).set m.version.toNat (qK sn++[C.sl 3 [] 2 0 gs.length false,Bo _]),0⟩,⟨1,0,2,(gs.map zE).set m.zi.toNat ([U g0.zt,C.sl 4 [] 3 0 g0.ends.length false]),0⟩,⟨1,0,3,u7 m g0 e0 e0.head 5 e0.zg,0⟩,⟨2,3,1,e0.next.map encI,0⟩,⟨1,213,2,[tj],0⟩,⟨1,48,23,[zR qA],0⟩] (rx:=Ce (ez m a b c)) (jk m a b c) rfl rfl rfl rfl rfl (zc rfl (zc rfl (zc (zj (ownV _)) (zc (zj ownG) (zc (zj ownE) rfl))))) rfl rfl (dd ?_);refine .inl ⟨⟨false,[6,9,11,14,17],[0,1,2,6],[]⟩,au,uH ?_⟩;refine ⟨h0,lv,dd ?_⟩;rw [e1];refine ⟨_,gv _,(by show 4+1<=5;decide),dd ?_⟩
  first | ((refine ya (dd ?_))) | ((refine yb (dd ?_)))
  refine hZ ?_
  exact ⟨.inl rfl,_,_,.refl _,rfl,zo.xv 6 hU rfl rfl rfl (zI rfl (zI rfl (zI (qg (lowV _)) (zI (qg lowG) (zI (qg lowE) rfl))))) rfl⟩
abbrev ME (e:En) (n:Int):En:={ e with zg:=IntKind.i64.wrap (e.zg+n) }
def NZ (w:Wor) (m:uw) (v0:u3) (g0:Gr) (e0:En) (hv:lJ w m v0 g0):tn 150 [⟨1,37,8,[(eR w 2)],0⟩,⟨1,69,44,[zD (m)],0⟩,⟨1,0,5,eh w m v0 3,0⟩,⟨1,0,2,ed m v0 g0 g0.zt 4,0⟩,⟨1,0,3,u7 m g0 e0 e0.head 5 e0.zg,0⟩,⟨2,3,1,e0.next.map encI,0⟩] [.agg tj] (Ce (fi m v0 3 7 (IntKind.i64.wrap (e0.zg+1))))
  [⟨1,37,8,[(eR w 2)],0⟩,⟨1,69,44,[zD ({ m with answer:=⟨1,m.version,m.zi,m.end_,m.slot,m.listen,0,⟨0,0,0,0,0,0⟩⟩,pc:=20 })],0⟩,⟨1,0,5,eh w m v0 3,0⟩,⟨1,0,2,ed m v0 g0 g0.zt 4,0⟩,⟨1,0,3,(g0.ends.map zx).set m.end_.toNat [U e0.head,C.sl 5 [] 1 0 e0.next.length false,I (IntKind.i64.wrap (e0.zg+1))],0⟩,⟨2,3,1,e0.next.map encI,0⟩]:=by
 have le:=hv.le;have ownV:∀ r ∈ eh w m v0 3,∀ c ∈ r,zy c=true:=zA (enc:=zF) (fun _=>rfl) rfl _ _;have ownG:∀ r ∈ ed m v0 g0 g0.zt 4,∀ c ∈ r,zy c=true:=zA (enc:=zE) (fun _=>rfl) rfl _ _;have ownE:∀ r ∈ u7 m g0 e0 e0.head 5 e0.zg,∀ c ∈ r,zy c=true:=zA (enc:=zx) (fun _=>rfl) rfl _ _;have ge:(u7 m g0 e0 e0.head 5 e0.zg)[m.end_.toNat]?= some ([U e0.head,C.sl 5 [] 1 0 e0.next.length false,I e0.zg]):=dS tK;refine aa func150 ?_;refine Dv [0,1,2,3,4,5] [⟨1,37,8,[(eR w 2)],0⟩,⟨1,69,44,[zD (m)],0⟩,⟨1,0,5,eh w m v0 3,0⟩,⟨1,0,2,ed m v0 g0 g0.zt 4,0⟩,⟨1,0,3,u7 m g0 e0 e0.head 5 e0.zg,0⟩,⟨2,3,1,e0.next.map encI,0⟩,⟨1,213,2,[tj],0⟩,⟨1,48,23,[zR qA],0⟩] (rx:=.ref 4 [] 3 m.end_.toNat 0) (vx w m v0 g0 e0 hv) (zc rfl (zc rfl (zc (zj ownV) (zc (zj ownG) (zc (zj ownE) rfl))))) uT rfl rfl rfl (zc rfl (zc rfl (zc (zj ownV) (zc (zj ownG) (zc (zj ownE) rfl))))) uU rfl (dd ?_);refine ⟨_,ge,cz,dd ?_⟩;refine ⟨_,ge,rfl,dd ?_⟩;rw [gF];refine uE ?_;have ownE2:∀ r ∈ (g0.ends.map zx).set m.end_.toNat [U e0.head,C.sl 5 [] 1 0 e0.next.length false,I (IntKind.i64.wrap (e0.zg+1))],∀ c ∈ r,zy c=true:=zA (enc:=zx) (fun _=>rfl) rfl _ _;refine .inl ⟨⟨true,[],[],[2,6]⟩,au,uH ?_⟩;have hv2:lJ w { m with answer:=⟨1,m.version,m.zi,m.end_,m.slot,m.listen,0,⟨0,0,0,0,0,0⟩⟩,pc:=20 } v0 g0:=⟨hv.pv,hv.lv,hv.pg,hv.lg,hv.pe,hv.le⟩;have ge2:((g0.ends.map zx).set m.end_.toNat [U e0.head,C.sl 5 [] 1 0 e0.next.length false,I (IntKind.i64.wrap (e0.zg+1))])[m.end_.toNat]?= some [U e0.head,C.sl 5 [] 1 0 e0.next.length false,I (IntKind.i64.wrap (e0.zg+1))]:=dS tK;have lowV:∀ r ∈ eh w m v0 3,∀ c ∈ r,qY 6 9 c=true:=zA (enc:=zF) (fun _=>rfl) rfl _ _;have lowG:∀ r ∈ ed m v0 g0 g0.zt 4,∀ c ∈ r,qY 6 9 c=true:=zA (enc:=zE) (fun _=>rfl) rfl _ _;have lowE:∀ r ∈ (g0.ends.map zx).set m.end_.toNat [U e0.head,C.sl 5 [] 1 0 e0.next.length false,I (IntKind.i64.wrap (e0.zg+1))],∀ c ∈ r,qY 6 9 c=true:=zA (enc:=zx) (fun _=>rfl) rfl _ _;refine zX [0,1,2,3,4,5] [⟨1,37,8,[(eR w 2)],0⟩,⟨1,69,44,[zD ({ m with answer:=⟨1,m.version,m.zi,m.end_,m.slot,m.listen,0,⟨0,0,0,0,0,0⟩⟩,pc:=20 })],0⟩,⟨1,0,5,eh w m v0 3,0⟩,⟨1,0,2,ed m v0 g0 g0.zt 4,0⟩,⟨1,0,3,(g0.ends.map zx).set m.end_.toNat [U e0.head,C.sl 5 [] 1 0 e0.next.length false,I (IntKind.i64.wrap (e0.zg+1))],0⟩,⟨2,3,1,e0.next.map encI,0⟩,⟨1,213,2,[tj],0⟩,⟨1,48,23,[zR qA],0⟩] (rx:=.ref 4 [] 3 m.end_.toNat 0) (vx w _ v0 g0 (ME e0 1) hv2) (zc rfl (zc rfl (zc (zj ownV) (zc (zj ownG) (zc (zj ownE2) rfl))))) uT rfl rfl rfl (zc rfl (zc rfl (zc (zj ownV) (zc (zj ownG) (zc (zj ownE2) rfl))))) uU rfl (dd ?_);refine ⟨_,ge2,cz,dd ?_⟩;refine zX [0,1,2,3,4,5] [⟨1,37,8,[(eR w 2)],0⟩,⟨1,69,44,[zD ({ m with answer:=⟨1,m.version,m.zi,m.end_,m.slot,m.listen,0,⟨0,0,0,0,0,0⟩⟩,pc:=20 })],0⟩,⟨1,0,5,eh w m v0 3,0⟩,⟨1,0,2,ed m v0 g0 g0.zt 4,0⟩,⟨1,0,3,(g0.ends.map zx).set m.end_.toNat [U e0.head,C.sl 5 [] 1 0 e0.next.length false,I (IntKind.i64.wrap (e0.zg+1))],0⟩,⟨2,3,1,e0.next.map encI,0⟩,⟨1,213,2,[tj],0⟩,⟨1,48,23,[zR qA],0⟩] (rx:=Ce (fi m v0 3 7 (IntKind.i64.wrap (e0.zg+1)))) (Q4 w _ v0 g0 (ME e0 1) hv2 3 7 (IntKind.i64.wrap (e0.zg+1))) (zc rfl (zc rfl (zc (zj ownV) (zc (zj ownG) (zc (zj ownE2) rfl))))) uT rfl rfl rfl (zc rfl (zc rfl (zc (zj ownV) (zc (zj ownG) (zc (zj ownE2) rfl))))) uU rfl (dd ?_);exact cJ
end Go.Wor
