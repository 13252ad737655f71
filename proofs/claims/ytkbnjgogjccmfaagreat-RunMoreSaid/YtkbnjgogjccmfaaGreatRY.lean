import Derived.Test.YtkbnjgogjccmfaaGreatRX
set_option linter.all false
set_option maxRecDepth 100000
set_option maxHeartbeats 4000000
namespace Go.Wor
open Go.Ab Go.Proofs Tryz Go.Hy Go.Gat Go.Nam Go.Hos Go.Con Go.Sna
def yH (w:Wor) (m:uk) (v:uq) (hv:mr w m v) (a b c:Int):tn 115 [] [Cw w,Cm m,I a,I b,I c] (Ce (eX m v a b c)) []:=by
 have h0:=hv.v0;have hr:=hv.row;obtain ⟨sn,gs,fr⟩:=v;cases fr
 all_goals
  refine ab func115 ?_;refine uE ?_;(refine ⟨h0,_,hr,dd ?_⟩)
  first | ((refine ya (dd ?_))) | ((refine yb (dd ?_)))
  exact uI
def OC (w:Wor) (m:uk) (v:uq) (g:Gr) (e:En) (sw:qV w) (ok:eR w) (hl:i64 m.listen) (hpc:m.pc=0) (hs:zY w m=true) (hat:eQ w m v g e) (hw:u64 m.word) (hh:u64 e.head):
  tn 97 [] [Cw w,Cm m] (.uo [Cw w,Cm { m with word:=e.head,pc:=1 },Ce (eX m v 1 8 (e.head % 4294967296 - 1))]) []:=by
 have a0:=hat.v0;have a1:=hat.tomr.row;have b0:=hat.g0;have b1:(v.zm.map zE)[m.zg.toNat]?= some (zE g):=by rw [dN,hat.u9];rfl
 have c0:=hat.e0;have c1:(g.ends.map zx)[m.end_.toNat]?= some (zx e):=by rw [dN,hat.eE];rfl
 refine ab func97 ?_;(repeat (first | refine uA ?_ | refine uB ?_))
 refine ah (zO w m ok hl) ?_;refine ⟨fun _=>dd ?_,fun h=>absurd ((hs).symm.trans h:true=false) ar⟩;(repeat (first | refine uA ?_ | refine uB ?_))
 refine tc ?_
 refine ah (qt w sw) ?_;refine uE ?_;(refine ⟨a0,_,a1,dd ?_⟩)
 (refine ⟨b0,_,b1,dd ?_⟩)
 (refine ⟨c0,_,c1,dd ?_⟩)
 refine ah (Slp.qE m.word hw) ?_;refine .inr ⟨⟨[0,1,5,6,7],[0,1],true⟩,au,fun _=>rfl,_,uH ?_,fun t2 H2 h=>h⟩;refine ⟨_,ai [] (Slp.qE e.head hh),uH ?_⟩;refine ⟨_,ai [] (yH w m v hat.tomr 1 8 (e.head % 4294967296 - 1)),uH ?_⟩;(refine ⟨uH ?_,trivial⟩);refine hZ ?_
 (refine ⟨uH ?_,trivial⟩);refine hZ ?_
 (refine ⟨_,_,.refl _,uH ?_⟩)
 (repeat (first | refine uA ?_ | refine uB ?_))
 refine wc.go rfl (uH ?_);rw [show IntKind.i64.wrap (m.pc+1)=1 from cz];refine .inl ⟨⟨false,[0,1,2],[5,1,6],[]⟩,au,uH ?_⟩;refine hZ ?_
 exact uI
abbrev Lh (m:uk):uv:={ qz with zj:=m.zj,access:=1,version:= -1,done:=true,answer:=ib 7 }
def Oe (w:Wor) (m:uk) (v:uq) (g:Gr) (e:En) (sw:qV w) (ok:eR w) (hl:i64 m.listen) (hpc:m.pc=9) (hs:zY w m=true) (hat:eQ w m v g e) (hw:u64 m.word) (hh:u64 e.head):
  tn 97 [] [Cw w,Cm m] (.uo [Cw w,Cm { m with answer:=ib 7,done:=true },Ce (Lh m)]) []:=by
 have a0:=hat.v0;have a1:=hat.tomr.row;have b0:=hat.g0;have b1:(v.zm.map zE)[m.zg.toNat]?= some (zE g):=by rw [dN,hat.u9];rfl
 have c0:=hat.e0;have c1:(g.ends.map zx)[m.end_.toNat]?= some (zx e):=by rw [dN,hat.eE];rfl
 refine ab func97 ?_;(repeat (first | refine uA ?_ | refine uB ?_))
 refine ah (zO w m ok hl) ?_;refine ⟨fun _=>dd ?_,fun h=>absurd ((hs).symm.trans h:true=false) ar⟩;(repeat (first | refine uA ?_ | refine uB ?_))
 refine tc ?_
 refine ah (qt w sw) ?_;refine uE ?_;(refine ⟨a0,_,a1,dd ?_⟩)
 (refine ⟨b0,_,b1,dd ?_⟩)
 (refine ⟨c0,_,c1,dd ?_⟩)
 refine ah (Slp.qE m.word hw) ?_;refine .inr ⟨⟨[0,1,5,6,7],[0,1],true⟩,au,fun _=>rfl,_,uH ?_,fun t2 H2 h=>h⟩;refine ⟨_,ai [] (Slp.qE e.head hh),uH ?_⟩;refine ⟨_,ai [] (yH w m v hat.tomr 1 8 (e.head % 4294967296 - 1)),uH ?_⟩;(refine ⟨uH ?_,trivial⟩);refine hZ ?_
 (refine ⟨uH ?_,trivial⟩);refine hZ ?_
 (refine ⟨_,_,.refl _,uH ?_⟩)
 (repeat (first | refine uA ?_ | refine uB ?_))
 refine wc.go rfl (uH ?_);refine .inl ⟨⟨false,[0,1,2],[5,1,6],[]⟩,au,uH ?_⟩;refine hZ ?_
 exact uI
def Oc (w:Wor) (m:uk) (v0:uq) (g0:Gr) (e0:En) (sw:qV w) (ok:eR w) (hl:i64 m.listen) (hpc:m.pc=3) (hs:zY w m=true) (hat:eQ w m v0 g0 e0) (hne:e0.next≠[]) (hw:u64 m.word) (hh:u64 e0.head) {tk hd ac:Int} (htk:tk=g0.zt) (hhd:hd=e0.head) (hac:ac=IntKind.i64.wrap (e0.zf - 1)):
  tn 97 [] [Cw w,Cm m] (.uo [Cw (wz w m v0 g0 e0 tk hd ac),Cm { m with pc:=4 },Ce (eX m v0 3 7 ac)]) []:=by
 have lv:=hat.ln.lv;have lg:=hat.ln.lg;have le:=hat.ln.le;have fM:=sw.ze.2 v0 (dM hat.at_);have hp:oz w.ze m.version.toNat v0 m.zg.toNat g0 m.end_.toNat e0:=⟨⟨⟨fM.2 g0 (dM hat.u9),hat.eE,hne⟩,fM,hat.u9⟩,sw.ze,hat.at_⟩;have ownV:∀ i,∀ r ∈ u4 w m v0 (i),∀ c ∈ r,zy c=true:=fun i=>zA (enc:=zF) (fun _=>rfl) rfl _ _
 have ownG:∀ i t,∀ r ∈ u1 m v0 g0 (t) (i),∀ c ∈ r,zy c=true:=fun i t=>zA (enc:=zE) (fun _=>rfl) rfl _ _
 have ownE:∀ i a b,∀ r ∈ ux m g0 e0 (a) (i) (b),∀ c ∈ r,zy c=true:=fun i a b=>zA (enc:=zx) (fun _=>rfl) rfl _ _
 have gv:(u4 w m v0 (6))[m.version.toNat]?= some ((qJ v0.snap++[C.sl (6) [] 2 0 v0.zm.length false,Bo v0.qk])):=dQ tP;have gg:(u1 m v0 g0 (tk) (7))[m.zg.toNat]?= some ([U (tk),C.sl (7) [] 3 0 g0.ends.length false]):=dQ tN;have ge:(ux m g0 e0 (hd) (8) (ac))[m.end_.toNat]?= some ([U (hd),C.sl (8) [] 1 0 e0.next.length false,I (ac)]):=dQ tK;have estE:((ux m g0 e0 (hd) (8) (ac)).set m.end_.toNat [U hd,C.ui 0 1 (e0.next.map encI),I ac])=(g0.ends.set m.end_.toNat (qq e0 hd ac)).map zx:=cB
 have estG:((u1 m v0 g0 (tk) (7)).set m.zg.toNat [U tk,C.ui 0 3 (((g0.ends.set m.end_.toNat (qq e0 hd ac)).map zx))])=(v0.zm.set m.zg.toNat (yq m g0 e0 tk hd ac)).map zE:=cD
 have estV:((u4 w m v0 (6)).set m.version.toNat (qJ v0.snap++[C.ui 0 2 (((v0.zm.set m.zg.toNat (yq m g0 e0 tk hd ac)).map zE)),Bo v0.qk]))=(w.ze.set m.version.toNat (j9 m v0 g0 e0 tk hd ac)).map zF:=cF
 have eshE:∀ r ∈ ((ux m g0 e0 (hd) (8) (ac)).set m.end_.toNat [U hd,C.ui 0 1 (e0.next.map encI),I ac]),∀ c ∈ r,jc c=true∧zy c=true:=by
  exact c9
 have eshG:∀ r ∈ ((u1 m v0 g0 (tk) (7)).set m.zg.toNat [U tk,C.ui 0 3 ((ux m g0 e0 (hd) (8) (ac)).set m.end_.toNat [U hd,C.ui 0 1 (e0.next.map encI),I ac])]),∀ c ∈ r,jc c=true∧zy c=true:=by
  exact c6
 have eshV:∀ r ∈ ((u4 w m v0 (6)).set m.version.toNat (qJ v0.snap++[C.ui 0 2 ((u1 m v0 g0 (tk) (7)).set m.zg.toNat [U tk,C.ui 0 3 ((ux m g0 e0 (hd) (8) (ac)).set m.end_.toNat [U hd,C.ui 0 1 (e0.next.map encI),I ac])]),Bo v0.qk])),∀ c ∈ r,jc c=true∧zy c=true:=by
  exact cX
 have a0:=hat.v0;have b0:=hat.g0;have c0:=hat.e0;have e1:0+m.version.toNat=m.version.toNat:=gf _;have e2:0+m.zg.toNat=m.zg.toNat:=gf _;have e3:0+m.end_.toNat=m.end_.toNat:=gf _;have gg0:(u1 m v0 g0 (g0.zt) (7))[m.zg.toNat]?= some ([U (g0.zt),C.sl (7) [] 3 0 g0.ends.length false]):=dQ tN;have ge0:(ux m g0 e0 (e0.head) (8) (e0.zf))[m.end_.toNat]?= some ([U (e0.head),C.sl (8) [] 1 0 e0.next.length false,I (e0.zf)]):=dQ tK;refine ab func97 ?_;(repeat (first | refine uA ?_ | refine uB ?_))
 refine ah (zO w m ok hl) ?_;refine ⟨fun _=>dd ?_,fun h=>absurd ((hs).symm.trans h:true=false) ar⟩;(repeat (first | refine uA ?_ | refine uB ?_))
 refine tc ?_
 refine zX [] [⟨1,37,8,[zJ w],0⟩,⟨1,69,44,[zD m],0⟩,⟨1,37,8,[fx],0⟩,⟨1,69,44,[ft],0⟩,⟨1,48,23,[zR qz],0⟩,⟨1,0,5,u4 w m v0 (6),0⟩,⟨1,0,2,u1 m v0 g0 (g0.zt) (7),0⟩,⟨1,0,3,ux m g0 e0 (e0.head) (8) (e0.zf),0⟩,⟨2,3,1,e0.next.map encI,0⟩] (rx:=.agg (eD w 5)) (yr w sw w.ze rfl hp) (zc (zi (ownV 1)) (zc (zi (ownG 2 _)) (zc (zi (ownE 3 _ _)) rfl))) rfl rfl rfl rfl rfl uV rfl (dd ?_);refine uE ?_;refine ⟨a0,lv,dd ?_⟩;rw [e1];refine ⟨_,gv,cq,dd ?_⟩;refine ⟨b0,lg,dd ?_⟩;rw [e2];refine ⟨_,gg0,cw,dd ?_⟩;refine ⟨c0,le,dd ?_⟩;rw [e3];refine ah (Slp.qE m.word hw) ?_;refine .inr ⟨⟨[0,1,5,6,7],[0,1,7],true⟩,au,fun _=>(zc rfl (zc rfl (zc rfl (zc rfl (zc rfl (zc (zi (ownV 6)) (zc (zi (ownG 7 _)) (zc (zi (ownE 8 _ _)) rfl)))))))),_,uH ?_,fun t2 H2 h=>h⟩;refine ⟨_,ge0,cy,uH ?_⟩;refine ⟨_,ai [] (Slp.qE e0.head hh),uH ?_⟩;refine ⟨_,ai [] (yH w m v0 hat.tomr 1 8 (e0.head % 4294967296 - 1)),uH ?_⟩;(refine ⟨uH ?_,trivial⟩);(refine ⟨(zc rfl (zc rfl (zc rfl (zc rfl (zc rfl (zc (zi (ownV 6)) (zc (zi (ownG 7 _)) (zc (zi (ownE 8 _ _)) rfl)))))))),uH ?_⟩);refine hZ ?_
 (refine ⟨uH ?_,trivial⟩);(refine ⟨(zc rfl (zc rfl (zc rfl (zc rfl (zc rfl (zc (zi (ownV 6)) (zc (zi (ownG 7 _)) (zc (zi (ownE 8 _ _)) rfl)))))))),uH ?_⟩);refine hZ ?_
 (refine ⟨_,_,.refl _,uH ?_⟩)
 (repeat (first | refine uA ?_ | refine uB ?_))
 refine ⟨_,ge0,cx,dd ?_⟩;refine ⟨_,ge0,rfl,dd ?_⟩;rw [gA];subst htk hhd hac;refine .inl ⟨⟨false,[3],[7],[]⟩,au,uH ?_⟩;refine ⟨_,ge,cx,dd ?_⟩;refine hZ ?_
 refine wc.go rfl (uH ?_);rw [show IntKind.i64.wrap (m.pc+1)=4 from cz];refine .inl ⟨⟨false,[0,1,2],[9,1,10],[]⟩,au,uH ?_⟩;refine hZ ?_
 refine ⟨.inl rfl,_,(((zo.zU 7 m.end_.toNat 1 rfl ge rfl rfl (.inr rfl) aj aj (shut_map (enc:=encI) (fun _=>rfl) _) (ownE 8 _ _)).trans (zo.zU 6 m.zg.toNat 1 rfl gg rfl rfl (.inl rfl) aj aj eshE (ownG 7 _))).trans (zo.zU 5 m.version.toNat 3 rfl gv rfl rfl (.inl rfl) aj aj eshG (ownV 6))).trans (zo.zU 2 0 4 rfl rfl rfl rfl (.inl rfl) aj aj eshV (zZ rfl)),?_⟩;show _=some (C.uo [C.agg [I w.zn,I w.current,I w.lock,lI w.pins,C.ui 0 5 ((w.ze.set m.version.toNat (j9 m v0 g0 e0 g0.zt e0.head (IntKind.i64.wrap (e0.zf - 1)))).map zF),lL w.zd,eh w.counts,lR w.zr],Cm { m with pc:=4 },Ce (eX m v0 3 7 (IntKind.i64.wrap (e0.zf - 1)))]);rw [<- estV,<- estG,<- estE]
 rfl
def Oa (w:Wor) (m:uk) (v0:uq) (g0:Gr) (e0:En) (sw:qV w) (ok:eR w) (hl:i64 m.listen) (hpc:m.pc=2) (hs:zY w m=true) (hat:eQ w m v0 g0 e0) (hne:e0.next≠[]) (hw:u64 m.word) (hh:u64 e0.head) (heq:e0.head=m.word) (s0: -1<=m.slot) (s1:m.slot<=2147483646) {tk hd ac:Int} (htk:tk=g0.zt) (hhd:hd=Slp.qT m.word m.slot) (hac:ac=e0.zf):
  tn 97 [] [Cw w,Cm m] (.uo [Cw (wz w m v0 g0 e0 tk hd ac),Cm { m with pc:=3 },Ce { eX m v0 4 8 m.slot with qP:=true }]) []:=by
 have lv:=hat.ln.lv;have lg:=hat.ln.lg;have le:=hat.ln.le;have fM:=sw.ze.2 v0 (dM hat.at_);have hp:oz w.ze m.version.toNat v0 m.zg.toNat g0 m.end_.toNat e0:=⟨⟨⟨fM.2 g0 (dM hat.u9),hat.eE,hne⟩,fM,hat.u9⟩,sw.ze,hat.at_⟩;have ownV:∀ i,∀ r ∈ u4 w m v0 (i),∀ c ∈ r,zy c=true:=fun i=>zA (enc:=zF) (fun _=>rfl) rfl _ _
 have ownG:∀ i t,∀ r ∈ u1 m v0 g0 (t) (i),∀ c ∈ r,zy c=true:=fun i t=>zA (enc:=zE) (fun _=>rfl) rfl _ _
 have ownE:∀ i a b,∀ r ∈ ux m g0 e0 (a) (i) (b),∀ c ∈ r,zy c=true:=fun i a b=>zA (enc:=zx) (fun _=>rfl) rfl _ _
 have gv:(u4 w m v0 (6))[m.version.toNat]?= some ((qJ v0.snap++[C.sl (6) [] 2 0 v0.zm.length false,Bo v0.qk])):=dQ tP;have gg:(u1 m v0 g0 (tk) (7))[m.zg.toNat]?= some ([U (tk),C.sl (7) [] 3 0 g0.ends.length false]):=dQ tN;have ge:(ux m g0 e0 (hd) (8) (ac))[m.end_.toNat]?= some ([U (hd),C.sl (8) [] 1 0 e0.next.length false,I (ac)]):=dQ tK;have estE:((ux m g0 e0 (hd) (8) (ac)).set m.end_.toNat [U hd,C.ui 0 1 (e0.next.map encI),I ac])=(g0.ends.set m.end_.toNat (qq e0 hd ac)).map zx:=cB
 have estG:((u1 m v0 g0 (tk) (7)).set m.zg.toNat [U tk,C.ui 0 3 (((g0.ends.set m.end_.toNat (qq e0 hd ac)).map zx))])=(v0.zm.set m.zg.toNat (yq m g0 e0 tk hd ac)).map zE:=cD
 have estV:((u4 w m v0 (6)).set m.version.toNat (qJ v0.snap++[C.ui 0 2 (((v0.zm.set m.zg.toNat (yq m g0 e0 tk hd ac)).map zE)),Bo v0.qk]))=(w.ze.set m.version.toNat (j9 m v0 g0 e0 tk hd ac)).map zF:=cF
 have eshE:∀ r ∈ ((ux m g0 e0 (hd) (8) (ac)).set m.end_.toNat [U hd,C.ui 0 1 (e0.next.map encI),I ac]),∀ c ∈ r,jc c=true∧zy c=true:=by
  exact c9
 have eshG:∀ r ∈ ((u1 m v0 g0 (tk) (7)).set m.zg.toNat [U tk,C.ui 0 3 ((ux m g0 e0 (hd) (8) (ac)).set m.end_.toNat [U hd,C.ui 0 1 (e0.next.map encI),I ac])]),∀ c ∈ r,jc c=true∧zy c=true:=by
  exact c6
 have eshV:∀ r ∈ ((u4 w m v0 (6)).set m.version.toNat (qJ v0.snap++[C.ui 0 2 ((u1 m v0 g0 (tk) (7)).set m.zg.toNat [U tk,C.ui 0 3 ((ux m g0 e0 (hd) (8) (ac)).set m.end_.toNat [U hd,C.ui 0 1 (e0.next.map encI),I ac])]),Bo v0.qk])),∀ c ∈ r,jc c=true∧zy c=true:=by
  exact cX
 have a0:=hat.v0;have b0:=hat.g0;have c0:=hat.e0;have e1:0+m.version.toNat=m.version.toNat:=gf _;have e2:0+m.zg.toNat=m.zg.toNat:=gf _;have e3:0+m.end_.toNat=m.end_.toNat:=gf _;have gg0:(u1 m v0 g0 (g0.zt) (7))[m.zg.toNat]?= some ([U (g0.zt),C.sl (7) [] 3 0 g0.ends.length false]):=dQ tN;have ge0:(ux m g0 e0 (e0.head) (8) (e0.zf))[m.end_.toNat]?= some ([U (e0.head),C.sl (8) [] 1 0 e0.next.length false,I (e0.zf)]):=dQ tK;refine ab func97 ?_;(repeat (first | refine uA ?_ | refine uB ?_))
 refine ah (zO w m ok hl) ?_;refine ⟨fun _=>dd ?_,fun h=>absurd ((hs).symm.trans h:true=false) ar⟩;(repeat (first | refine uA ?_ | refine uB ?_))
 refine tc ?_
 refine zX [] [⟨1,37,8,[zJ w],0⟩,⟨1,69,44,[zD m],0⟩,⟨1,37,8,[fx],0⟩,⟨1,69,44,[ft],0⟩,⟨1,48,23,[zR qz],0⟩,⟨1,0,5,u4 w m v0 (6),0⟩,⟨1,0,2,u1 m v0 g0 (g0.zt) (7),0⟩,⟨1,0,3,ux m g0 e0 (e0.head) (8) (e0.zf),0⟩,⟨2,3,1,e0.next.map encI,0⟩] (rx:=.agg (eD w 5)) (yr w sw w.ze rfl hp) (zc (zi (ownV 1)) (zc (zi (ownG 2 _)) (zc (zi (ownE 3 _ _)) rfl))) rfl rfl rfl rfl rfl uV rfl (dd ?_);refine uE ?_;refine ⟨a0,lv,dd ?_⟩;rw [e1];refine ⟨_,gv,cq,dd ?_⟩;refine ⟨b0,lg,dd ?_⟩;rw [e2];refine ⟨_,gg0,cw,dd ?_⟩;refine ⟨c0,le,dd ?_⟩;rw [e3];refine ah (Slp.qE m.word hw) ?_;refine .inr ⟨⟨[0,1,5,6,7],[0,1,7],true⟩,au,fun _=>(zc rfl (zc rfl (zc rfl (zc rfl (zc rfl (zc (zi (ownV 6)) (zc (zi (ownG 7 _)) (zc (zi (ownE 8 _ _)) rfl)))))))),_,uH ?_,fun t2 H2 h=>h⟩;refine ⟨_,ge0,cy,uH ?_⟩;refine ⟨_,ai [] (Slp.qE e0.head hh),uH ?_⟩;refine ⟨_,ai [] (yH w m v0 hat.tomr 1 8 (e0.head % 4294967296 - 1)),uH ?_⟩;(refine ⟨uH ?_,trivial⟩);(refine ⟨(zc rfl (zc rfl (zc rfl (zc rfl (zc rfl (zc (zi (ownV 6)) (zc (zi (ownG 7 _)) (zc (zi (ownE 8 _ _)) rfl)))))))),uH ?_⟩);refine hZ ?_
 (refine ⟨uH ?_,trivial⟩);(refine ⟨(zc rfl (zc rfl (zc rfl (zc rfl (zc rfl (zc (zi (ownV 6)) (zc (zi (ownG 7 _)) (zc (zi (ownE 8 _ _)) rfl)))))))),uH ?_⟩);refine hZ ?_
 (refine ⟨_,_,.refl _,uH ?_⟩)
 (repeat (first | refine uA ?_ | refine uB ?_))
 refine uE ?_;refine ⟨_,ge0,cy,dd ?_⟩;refine ⟨fun h=>absurd h (by simp [heq]),fun _=>dd ?_⟩;refine ah (Slp.D7 m.word m.slot hw s0 s1) ?_;refine ⟨_,ge0,rfl,dd ?_⟩;rw [gA];subst htk hhd hac;refine .inl ⟨⟨false,[1],[1],[]⟩,au,uH ?_⟩;refine hZ ?_
 refine wc.go rfl (uH ?_);rw [show IntKind.i64.wrap (m.pc+1)=3 from cz];refine .inl ⟨⟨false,[0,1,2],[9,1,10],[]⟩,au,uH ?_⟩;refine hZ ?_
 refine ⟨.inl rfl,_,(((zo.zU 7 m.end_.toNat 1 rfl ge rfl rfl (.inr rfl) aj aj (shut_map (enc:=encI) (fun _=>rfl) _) (ownE 8 _ _)).trans (zo.zU 6 m.zg.toNat 1 rfl gg rfl rfl (.inl rfl) aj aj eshE (ownG 7 _))).trans (zo.zU 5 m.version.toNat 3 rfl gv rfl rfl (.inl rfl) aj aj eshG (ownV 6))).trans (zo.zU 2 0 4 rfl rfl rfl rfl (.inl rfl) aj aj eshV (zZ rfl)),?_⟩;show _=some (C.uo [C.agg [I w.zn,I w.current,I w.lock,lI w.pins,C.ui 0 5 ((w.ze.set m.version.toNat (j9 m v0 g0 e0 g0.zt (Slp.qT m.word m.slot) e0.zf)).map zF),lL w.zd,eh w.counts,lR w.zr],Cm { m with pc:=3 },Ce { eX m v0 4 8 m.slot with qP:=true }]);rw [<- estV,<- estG,<- estE]
 rfl
abbrev yU (m:uk) (e0:En):En:={ e0 with next:=(e0.next.set m.slot.toNat (m.word % 4294967296 - 1)) }
def N9 (w:Wor) (m:uk) (v0:uq) (g0:Gr) (e0:En) (sw:qV w) (ok:eR w) (hl:i64 m.listen) (hpc:m.pc=1) (hs:zY w m=true) (hat:eQ w m v0 g0 e0) (hne:e0.next≠[]) (hw:u64 m.word) (hh:u64 e0.head) (s0:0<=m.slot) (s1:m.slot.toNat < e0.next.length) {tk hd ac:Int} (htk:tk=g0.zt) (hhd:hd=e0.head) (hac:ac=e0.zf):
  tn 97 [] [Cw w,Cm m] (.uo [Cw (wz w m v0 g0 (yU m e0) tk hd ac),Cm { m with pc:=2 },Ce (eX m v0 2 9 (m.word % 4294967296 - 1))]) []:=by
 have estE1:((ux m g0 e0 (e0.head) (8) (e0.zf)).set m.end_.toNat [U e0.head,C.ui 0 1 ((e0.next.set m.slot.toNat (m.word % 4294967296 - 1)).map encI),I e0.zf])=(g0.ends.set m.end_.toNat (qq (yU m e0) e0.head e0.zf)).map zx:=by rw [gA];exact jk zx _ _ (qq (yU m e0) e0.head e0.zf) _ rfl
 have estG1:((u1 m v0 g0 (g0.zt) (7)).set m.zg.toNat [U g0.zt,C.ui 0 3 (((g0.ends.set m.end_.toNat (qq (yU m e0) e0.head e0.zf)).map zx))])=(v0.zm.set m.zg.toNat (yq m g0 (yU m e0) g0.zt e0.head e0.zf)).map zE:=by rw [gA];exact jk zE _ _ (yq m g0 (yU m e0) g0.zt e0.head e0.zf) _ rfl
 have estV1:((u4 w m v0 (6)).set m.version.toNat (qJ v0.snap++[C.ui 0 2 (((v0.zm.set m.zg.toNat (yq m g0 (yU m e0) g0.zt e0.head e0.zf)).map zE)),Bo v0.qk]))=(w.ze.set m.version.toNat (j9 m v0 g0 (yU m e0) g0.zt e0.head e0.zf)).map zF:=by rw [gA];exact jk zF _ _ (j9 m v0 g0 (yU m e0) g0.zt e0.head e0.zf) _ rfl
 have eshE1:∀ r ∈ ((ux m g0 e0 (e0.head) (8) (e0.zf)).set m.end_.toNat [U e0.head,C.ui 0 1 ((e0.next.set m.slot.toNat (m.word % 4294967296 - 1)).map encI),I e0.zf]),∀ c ∈ r,jc c=true∧zy c=true:=by
  rw [estE1];exact shut_map (enc:=zx) (fun _=>rfl) _
 have eshG1:∀ r ∈ ((u1 m v0 g0 (g0.zt) (7)).set m.zg.toNat [U g0.zt,C.ui 0 3 ((ux m g0 e0 (e0.head) (8) (e0.zf)).set m.end_.toNat [U e0.head,C.ui 0 1 ((e0.next.set m.slot.toNat (m.word % 4294967296 - 1)).map encI),I e0.zf])]),∀ c ∈ r,jc c=true∧zy c=true:=by
  rw [estE1,estG1];exact shut_map (enc:=zE) (fun _=>rfl) _
 have eshV1:∀ r ∈ ((u4 w m v0 (6)).set m.version.toNat (qJ v0.snap++[C.ui 0 2 ((u1 m v0 g0 (g0.zt) (7)).set m.zg.toNat [U g0.zt,C.ui 0 3 ((ux m g0 e0 (e0.head) (8) (e0.zf)).set m.end_.toNat [U e0.head,C.ui 0 1 ((e0.next.set m.slot.toNat (m.word % 4294967296 - 1)).map encI),I e0.zf])]),Bo v0.qk])),∀ c ∈ r,jc c=true∧zy c=true:=by
  rw [estE1,estG1,estV1];exact shut_map (enc:=zF) (fun _=>rfl) _
 have gn:(e0.next.map Hy.encI)[m.slot.toNat]?= some (Hy.encI (e0.next[m.slot.toNat]'s1)):=by rw [dN,dK s1];rfl
 have hst:(e0.next.map Hy.encI).set m.slot.toNat [I (m.word % 4294967296 - 1)]=(e0.next.set m.slot.toNat (m.word % 4294967296 - 1)).map Hy.encI:=bP
 have e4:0+m.slot.toNat=m.slot.toNat:=gf _;have lv:=hat.ln.lv;have lg:=hat.ln.lg;have le:=hat.ln.le;have fM:=sw.ze.2 v0 (dM hat.at_);have hp:oz w.ze m.version.toNat v0 m.zg.toNat g0 m.end_.toNat e0:=⟨⟨⟨fM.2 g0 (dM hat.u9),hat.eE,hne⟩,fM,hat.u9⟩,sw.ze,hat.at_⟩;have ownV:∀ i,∀ r ∈ u4 w m v0 (i),∀ c ∈ r,zy c=true:=fun i=>zA (enc:=zF) (fun _=>rfl) rfl _ _
 have ownG:∀ i t,∀ r ∈ u1 m v0 g0 (t) (i),∀ c ∈ r,zy c=true:=fun i t=>zA (enc:=zE) (fun _=>rfl) rfl _ _
 have ownE:∀ i a b,∀ r ∈ ux m g0 e0 (a) (i) (b),∀ c ∈ r,zy c=true:=fun i a b=>zA (enc:=zx) (fun _=>rfl) rfl _ _
 have gv:(u4 w m v0 (6))[m.version.toNat]?= some ((qJ v0.snap++[C.sl (6) [] 2 0 v0.zm.length false,Bo v0.qk])):=dQ tP;have gg:(u1 m v0 g0 (tk) (7))[m.zg.toNat]?= some ([U (tk),C.sl (7) [] 3 0 g0.ends.length false]):=dQ tN;have ge:(ux m g0 e0 (hd) (8) (ac))[m.end_.toNat]?= some ([U (hd),C.sl (8) [] 1 0 e0.next.length false,I (ac)]):=dQ tK;have estE:((ux m g0 e0 (hd) (8) (ac)).set m.end_.toNat [U hd,C.ui 0 1 (e0.next.map encI),I ac])=(g0.ends.set m.end_.toNat (qq e0 hd ac)).map zx:=cB
 have estG:((u1 m v0 g0 (tk) (7)).set m.zg.toNat [U tk,C.ui 0 3 (((g0.ends.set m.end_.toNat (qq e0 hd ac)).map zx))])=(v0.zm.set m.zg.toNat (yq m g0 e0 tk hd ac)).map zE:=cD
 have estV:((u4 w m v0 (6)).set m.version.toNat (qJ v0.snap++[C.ui 0 2 (((v0.zm.set m.zg.toNat (yq m g0 e0 tk hd ac)).map zE)),Bo v0.qk]))=(w.ze.set m.version.toNat (j9 m v0 g0 e0 tk hd ac)).map zF:=cF
 have eshE:∀ r ∈ ((ux m g0 e0 (hd) (8) (ac)).set m.end_.toNat [U hd,C.ui 0 1 (e0.next.map encI),I ac]),∀ c ∈ r,jc c=true∧zy c=true:=by
  exact c9
 have eshG:∀ r ∈ ((u1 m v0 g0 (tk) (7)).set m.zg.toNat [U tk,C.ui 0 3 ((ux m g0 e0 (hd) (8) (ac)).set m.end_.toNat [U hd,C.ui 0 1 (e0.next.map encI),I ac])]),∀ c ∈ r,jc c=true∧zy c=true:=by
  exact c6
 have eshV:∀ r ∈ ((u4 w m v0 (6)).set m.version.toNat (qJ v0.snap++[C.ui 0 2 ((u1 m v0 g0 (tk) (7)).set m.zg.toNat [U tk,C.ui 0 3 ((ux m g0 e0 (hd) (8) (ac)).set m.end_.toNat [U hd,C.ui 0 1 (e0.next.map encI),I ac])]),Bo v0.qk])),∀ c ∈ r,jc c=true∧zy c=true:=by
  exact cX
 have a0:=hat.v0;have b0:=hat.g0;have c0:=hat.e0;have e1:0+m.version.toNat=m.version.toNat:=gf _;have e2:0+m.zg.toNat=m.zg.toNat:=gf _;have e3:0+m.end_.toNat=m.end_.toNat:=gf _;have gg0:(u1 m v0 g0 (g0.zt) (7))[m.zg.toNat]?= some ([U (g0.zt),C.sl (7) [] 3 0 g0.ends.length false]):=dQ tN;have ge0:(ux m g0 e0 (e0.head) (8) (e0.zf))[m.end_.toNat]?= some ([U (e0.head),C.sl (8) [] 1 0 e0.next.length false,I (e0.zf)]):=dQ tK;refine ab func97 ?_;(repeat (first | refine uA ?_ | refine uB ?_))
 refine ah (zO w m ok hl) ?_;refine ⟨fun _=>dd ?_,fun h=>absurd ((hs).symm.trans h:true=false) ar⟩;(repeat (first | refine uA ?_ | refine uB ?_))
 refine tc ?_
 refine zX [] [⟨1,37,8,[zJ w],0⟩,⟨1,69,44,[zD m],0⟩,⟨1,37,8,[fx],0⟩,⟨1,69,44,[ft],0⟩,⟨1,48,23,[zR qz],0⟩,⟨1,0,5,u4 w m v0 (6),0⟩,⟨1,0,2,u1 m v0 g0 (g0.zt) (7),0⟩,⟨1,0,3,ux m g0 e0 (e0.head) (8) (e0.zf),0⟩,⟨2,3,1,e0.next.map encI,0⟩] (rx:=.agg (eD w 5)) (yr w sw w.ze rfl hp) (zc (zi (ownV 1)) (zc (zi (ownG 2 _)) (zc (zi (ownE 3 _ _)) rfl))) rfl rfl rfl rfl rfl uV rfl (dd ?_);refine uE ?_;refine ⟨a0,lv,dd ?_⟩;rw [e1];refine ⟨_,gv,cq,dd ?_⟩;refine ⟨b0,lg,dd ?_⟩;rw [e2];refine ⟨_,gg0,cw,dd ?_⟩;refine ⟨c0,le,dd ?_⟩;rw [e3];refine ah (Slp.qE m.word hw) ?_;refine .inr ⟨⟨[0,1,5,6,7],[0,1,7],true⟩,au,fun _=>(zc rfl (zc rfl (zc rfl (zc rfl (zc rfl (zc (zi (ownV 6)) (zc (zi (ownG 7 _)) (zc (zi (ownE 8 _ _)) rfl)))))))),_,uH ?_,fun t2 H2 h=>h⟩;refine ⟨_,ge0,cy,uH ?_⟩;refine ⟨_,ai [] (Slp.qE e0.head hh),uH ?_⟩;refine ⟨_,ai [] (yH w m v0 hat.tomr 1 8 (e0.head % 4294967296 - 1)),uH ?_⟩;(refine ⟨uH ?_,trivial⟩);(refine ⟨(zc rfl (zc rfl (zc rfl (zc rfl (zc rfl (zc (zi (ownV 6)) (zc (zi (ownG 7 _)) (zc (zi (ownE 8 _ _)) rfl)))))))),uH ?_⟩);refine hZ ?_
 (refine ⟨uH ?_,trivial⟩);(refine ⟨(zc rfl (zc rfl (zc rfl (zc rfl (zc rfl (zc (zi (ownV 6)) (zc (zi (ownG 7 _)) (zc (zi (ownE 8 _ _)) rfl)))))))),uH ?_⟩);refine hZ ?_
 (refine ⟨_,_,.refl _,uH ?_⟩)
 (repeat (first | refine uA ?_ | refine uB ?_))
 subst htk hhd hac;refine uE ?_;refine ⟨_,ge0,(by show 1+1<=3;decide),dd ?_⟩;refine ⟨s0,s1,dd ?_⟩;rw [e4];refine ⟨_,gn,rfl,dd ?_⟩;rw [hst];refine wc.go rfl (uH ?_);rw [show IntKind.i64.wrap (m.pc+1)=2 from cz];refine .inl ⟨⟨false,[0,1,2],[9,1,10],[]⟩,au,uH ?_⟩;refine hZ ?_
 refine ⟨.inl rfl,_,(((zo.zU 7 m.end_.toNat 1 rfl ge rfl rfl (.inr rfl) aj aj (shut_map (enc:=encI) (fun _=>rfl) _) (ownE 8 _ _)).trans (zo.zU 6 m.zg.toNat 1 rfl gg rfl rfl (.inl rfl) aj aj eshE1 (ownG 7 _))).trans (zo.zU 5 m.version.toNat 3 rfl gv rfl rfl (.inl rfl) aj aj eshG1 (ownV 6))).trans (zo.zU 2 0 4 rfl rfl rfl rfl (.inl rfl) aj aj eshV1 (zZ rfl)),?_⟩;show _=some (C.uo [C.agg [I w.zn,I w.current,I w.lock,lI w.pins,C.ui 0 5 ((w.ze.set m.version.toNat (j9 m v0 g0 (yU m e0) g0.zt e0.head e0.zf)).map zF),lL w.zd,eh w.counts,lR w.zr],Cm { m with pc:=2 },Ce (eX m v0 2 9 (m.word % 4294967296 - 1))]);rw [<- estV1,<- estG1,<- estE1]
 rfl
abbrev Gb (m:uk):u3:=⟨6,m.version,m.zg,m.end_,m.slot,m.listen,0,⟨0,0,0,0,0,0⟩⟩
abbrev K9 (m:uk) (x:ec):uv:={ qz with zj:=m.zj,access:=3,cell:=5,version:= -1,value:=IntKind.i64.wrap (x.zf - 1),done:=true,answer:=Gb m }
abbrev ot (x:ec):ec:={ x with zf:=IntKind.i64.wrap (x.zf - 1) }
def Od (w:Wor) (m:uk) (v:uq) (g:Gr) (e:En) (x:ec) (sw:qV w) (ok:eR w) (hl:i64 m.listen) (hpc:m.pc=4) (hs:zY w m=true) (hat:eQ w m v g e) (hw:u64 m.word) (hh:u64 e.head) (hli:0<=m.listen) (hx:w.zd[m.listen.toNat]?= some x):
  tn 97 [] [Cw w,Cm m] (.uo [Cw { w with zd:=w.zd.set m.listen.toNat (ot x) },Cm { m with answer:=Gb m,done:=true },Ce (K9 m x)]) []:=by
 have a0:=hat.v0;have a1:=hat.tomr.row;have b0:=hat.g0;have b1:(v.zm.map zE)[m.zg.toNat]?= some (zE g):=by rw [dN,hat.u9];rfl
 have c0:=hat.e0;have c1:(g.ends.map zx)[m.end_.toNat]?= some (zx e):=by rw [dN,hat.eE];rfl
 have hn:¬m.listen < 0:=aw
 have lt:m.listen.toNat < w.zd.length:=(dJ.1 hx).1;have gl:(w.zd.map qF)[m.listen.toNat]?= some (qF x):=by rw [dN,hx];rfl
 have hst:(w.zd.map qF).set m.listen.toNat [Tx x.name,Bo x.drain,I (IntKind.i64.wrap (x.zf - 1)),Bo x.closed]=(w.zd.set m.listen.toNat (ot x)).map qF:=bP
 have gl2:((w.zd.set m.listen.toNat (ot x)).map qF)[m.listen.toNat]?= some (qF (ot x)):=by rw [dN,dQ lt];rfl
 have e1:0+m.listen.toNat=m.listen.toNat:=gf _
 obtain ⟨y,l,hy⟩:∃ y l,w.zd=y::l:=by
  cases h:w.zd with
  | nil=>rw [h] at lt;simp at lt
  | cons y l=>exact ⟨y,l,rfl⟩
 refine ab func97 ?_;(repeat (first | refine uA ?_ | refine uB ?_))
 refine ah (zO w m ok hl) ?_;refine ⟨fun _=>dd ?_,fun h=>absurd ((hs).symm.trans h:true=false) ar⟩;(repeat (first | refine uA ?_ | refine uB ?_))
 refine tc ?_
 refine af [] (yQ w sw y l hy) ?_;refine uE ?_;(refine ⟨a0,_,a1,dd ?_⟩)
 (refine ⟨b0,_,b1,dd ?_⟩)
 (refine ⟨c0,_,c1,dd ?_⟩)
 refine ah (Slp.qE m.word hw) ?_;refine .inr ⟨⟨[0,1,5,6,7],[0,1],true⟩,au,fun _=>rfl,_,uH ?_,fun t2 H2 h=>h⟩;refine ⟨_,ai [] (Slp.qE e.head hh),uH ?_⟩;refine ⟨_,ai [] (yH w m v hat.tomr 1 8 (e.head % 4294967296 - 1)),uH ?_⟩;(refine ⟨uH ?_,trivial⟩);refine hZ ?_
 (refine ⟨uH ?_,trivial⟩);refine hZ ?_
 (refine ⟨_,_,.refl _,uH ?_⟩)
 (repeat (first | refine uA ?_ | refine uB ?_))
 refine ⟨hli,lt,dd ?_⟩;rw [e1];refine ⟨_,gl,cp,dd ?_⟩;refine ⟨_,gl,rfl,dd ?_⟩;rw [hst];refine uE ?_;refine ⟨_,gl2,cp,dd ?_⟩;refine wc.go rfl (uH ?_);refine .inl ⟨⟨false,[0,1,2],[6,1,7],[]⟩,au,uH ?_⟩;refine hZ ?_
 exact ⟨.inl rfl,_,zo.zU 2 0 5 rfl rfl rfl rfl (.inr rfl) aj aj (shut_map (enc:=qF) (fun _=>rfl) _) (zZ rfl),rfl⟩
end Go.Wor
