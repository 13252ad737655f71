import Derived.Test.YtkbnjgogjccmfaaGreatTX
set_option linter.all false
set_option maxRecDepth 100000
set_option maxHeartbeats 4000000
namespace Go.Wor
open Go.Ab Go.Proofs Tryz Go.Hy Go.Gat Go.Nam Go.Hos Go.Con Go.Sna
def yS (w:Wor) (m:uw) (v:u3) (hv:mN w m v) (a b c:Int):tn 115 [] [Cw w,Cm m,I a,I b,I c] (Ce (fi m v a b c)) []:=by
 have h0:=hv.v0;have hr:=hv.row;obtain ⟨sn,gs,fr⟩:=v;cases fr
 all_goals
  refine ab func115 ?_;refine uE ?_;(refine ⟨h0,_,hr,dd ?_⟩)
  first | ((refine ya (dd ?_))) | ((refine yb (dd ?_)))
  exact uI
def PF (w:Wor) (m:uw) (v:u3) (g:Gr) (e:En) (sw:qX w) (ok:fe w) (hl:i64 m.listen) (hpc:m.pc=0) (hs:zY w m=true) (hat:fc w m v g e) (hw:u64 m.word) (hh:u64 e.head):
  tn 97 [] [Cw w,Cm m] (.u1 [Cw w,Cm { m with word:=e.head,pc:=1 },Ce (fi m v 1 8 (e.head % 4294967296 - 1))]) []:=by
 have a0:=hat.v0;have a1:=hat.tomN.row;have b0:=hat.g0;have b1:(v.zm.map zE)[m.zi.toNat]?= some (zE g):=by rw [dP,hat.ey];rfl
 have c0:=hat.e0;have c1:(g.ends.map zx)[m.end_.toNat]?= some (zx e):=by rw [dP,hat.eL];rfl
 refine ab func97 ?_;(repeat (first | refine uA ?_ | refine uB ?_))
 refine ah (zO w m ok hl) ?_;refine ⟨fun _=>dd ?_,fun h=>absurd ((hs).symm.trans h:true=false) ar⟩;(repeat (first | refine uA ?_ | refine uB ?_))
 refine tc ?_
 refine ah (qw w sw) ?_;refine uE ?_;(refine ⟨a0,_,a1,dd ?_⟩)
 (refine ⟨b0,_,b1,dd ?_⟩)
 (refine ⟨c0,_,c1,dd ?_⟩)
 refine ah (Slp.qG m.word hw) ?_;refine .inr ⟨⟨[0,1,5,6,7],[0,1],true⟩,au,fun _=>rfl,_,uH ?_,fun t2 H2 h=>h⟩;refine ⟨_,ai [] (Slp.qG e.head hh),uH ?_⟩;refine ⟨_,ai [] (yS w m v hat.tomN 1 8 (e.head % 4294967296 - 1)),uH ?_⟩;(refine ⟨uH ?_,trivial⟩);refine hZ ?_
 (refine ⟨uH ?_,trivial⟩);refine hZ ?_
 (refine ⟨_,_,.refl _,uH ?_⟩)
 (repeat (first | refine uA ?_ | refine uB ?_))
 refine wG.go rfl (uH ?_);rw [show IntKind.i64.wrap (m.pc+1)=1 from cB];refine .inl ⟨⟨false,[0,1,2],[5,1,6],[]⟩,au,uH ?_⟩;refine hZ ?_
 exact uI
abbrev Ml (m:uw):uz:={ qA with zf:=m.zf,access:=1,version:= -1,done:=true,answer:=iA 7 }
def PK (w:Wor) (m:uw) (v:u3) (g:Gr) (e:En) (sw:qX w) (ok:fe w) (hl:i64 m.listen) (hpc:m.pc=9) (hs:zY w m=true) (hat:fc w m v g e) (hw:u64 m.word) (hh:u64 e.head):
  tn 97 [] [Cw w,Cm m] (.u1 [Cw w,Cm { m with answer:=iA 7,done:=true },Ce (Ml m)]) []:=by
 have a0:=hat.v0;have a1:=hat.tomN.row;have b0:=hat.g0;have b1:(v.zm.map zE)[m.zi.toNat]?= some (zE g):=by rw [dP,hat.ey];rfl
 have c0:=hat.e0;have c1:(g.ends.map zx)[m.end_.toNat]?= some (zx e):=by rw [dP,hat.eL];rfl
 refine ab func97 ?_;(repeat (first | refine uA ?_ | refine uB ?_))
 refine ah (zO w m ok hl) ?_;refine ⟨fun _=>dd ?_,fun h=>absurd ((hs).symm.trans h:true=false) ar⟩;(repeat (first | refine uA ?_ | refine uB ?_))
 refine tc ?_
 refine ah (qw w sw) ?_;refine uE ?_;(refine ⟨a0,_,a1,dd ?_⟩)
 (refine ⟨b0,_,b1,dd ?_⟩)
 (refine ⟨c0,_,c1,dd ?_⟩)
 refine ah (Slp.qG m.word hw) ?_;refine .inr ⟨⟨[0,1,5,6,7],[0,1],true⟩,au,fun _=>rfl,_,uH ?_,fun t2 H2 h=>h⟩;refine ⟨_,ai [] (Slp.qG e.head hh),uH ?_⟩;refine ⟨_,ai [] (yS w m v hat.tomN 1 8 (e.head % 4294967296 - 1)),uH ?_⟩;(refine ⟨uH ?_,trivial⟩);refine hZ ?_
 (refine ⟨uH ?_,trivial⟩);refine hZ ?_
 (refine ⟨_,_,.refl _,uH ?_⟩)
 (repeat (first | refine uA ?_ | refine uB ?_))
 refine wG.go rfl (uH ?_);refine .inl ⟨⟨false,[0,1,2],[5,1,6],[]⟩,au,uH ?_⟩;refine hZ ?_
 exact uI
def PI (w:Wor) (m:uw) (v0:u3) (g0:Gr) (e0:En) (sw:qX w) (ok:fe w) (hl:i64 m.listen) (hpc:m.pc=3) (hs:zY w m=true) (hat:fc w m v0 g0 e0) (hne:e0.next≠[]) (hw:u64 m.word) (hh:u64 e0.head) {tk hd ac:Int} (htk:tk=g0.zt) (hhd:hd=e0.head) (hac:ac=IntKind.i64.wrap (e0.zg - 1)):
  tn 97 [] [Cw w,Cm m] (.u1 [Cw (wU w m v0 g0 e0 tk hd ac),Cm { m with pc:=4 },Ce (fi m v0 3 7 ac)]) []:=by
 have lv:=hat.ln.lv;have lg:=hat.ln.lg;have le:=hat.ln.le;have fW:=sw.ze.2 v0 (dO hat.at_);have hp:oP w.ze m.version.toNat v0 m.zi.toNat g0 m.end_.toNat e0:=⟨⟨⟨fW.2 g0 (dO hat.ey),hat.eL,hne⟩,fW,hat.ey⟩,sw.ze,hat.at_⟩;have ownV:∀ i,∀ r ∈ eh w m v0 (i),∀ c ∈ r,zy c=true:=fun i=>zA (enc:=zF) (fun _=>rfl) rfl _ _
 have ownG:∀ i t,∀ r ∈ ed m v0 g0 (t) (i),∀ c ∈ r,zy c=true:=fun i t=>zA (enc:=zE) (fun _=>rfl) rfl _ _
 have ownE:∀ i a b,∀ r ∈ u7 m g0 e0 (a) (i) (b),∀ c ∈ r,zy c=true:=fun i a b=>zA (enc:=zx) (fun _=>rfl) rfl _ _
 have gv:(eh w m v0 (6))[m.version.toNat]?= some ((qK v0.snap++[C.sl (6) [] 2 0 v0.zm.length false,Bo v0.qm])):=dS tP;have gg:(ed m v0 g0 (tk) (7))[m.zi.toNat]?= some ([U (tk),C.sl (7) [] 3 0 g0.ends.length false]):=dS tN;have ge:(u7 m g0 e0 (hd) (8) (ac))[m.end_.toNat]?= some ([U (hd),C.sl (8) [] 1 0 e0.next.length false,I (ac)]):=dS tK;have estE:((u7 m g0 e0 (hd) (8) (ac)).set m.end_.toNat [U hd,C.uv 0 1 (e0.next.map encI),I ac])=(g0.ends.set m.end_.toNat (qt e0 hd ac)).map zx:=cF
 have estG:((ed m v0 g0 (tk) (7)).set m.zi.toNat [U tk,C.uv 0 3 (((g0.ends.set m.end_.toNat (qt e0 hd ac)).map zx))])=(v0.zm.set m.zi.toNat (yE m g0 e0 tk hd ac)).map zE:=cG
 have estV:((eh w m v0 (6)).set m.version.toNat (qK v0.snap++[C.uv 0 2 (((v0.zm.set m.zi.toNat (yE m g0 e0 tk hd ac)).map zE)),Bo v0.qm]))=(w.ze.set m.version.toNat (xk m v0 g0 e0 tk hd ac)).map zF:=cH
 have eshE:∀ r ∈ ((u7 m g0 e0 (hd) (8) (ac)).set m.end_.toNat [U hd,C.uv 0 1 (e0.next.map encI),I ac]),∀ c ∈ r,jf c=true∧zy c=true:=by
  exact da
 have eshG:∀ r ∈ ((ed m v0 g0 (tk) (7)).set m.zi.toNat [U tk,C.uv 0 3 ((u7 m g0 e0 (hd) (8) (ac)).set m.end_.toNat [U hd,C.uv 0 1 (e0.next.map encI),I ac])]),∀ c ∈ r,jf c=true∧zy c=true:=by
  exact c6
 have eshV:∀ r ∈ ((eh w m v0 (6)).set m.version.toNat (qK v0.snap++[C.uv 0 2 ((ed m v0 g0 (tk) (7)).set m.zi.toNat [U tk,C.uv 0 3 ((u7 m g0 e0 (hd) (8) (ac)).set m.end_.toNat [U hd,C.uv 0 1 (e0.next.map encI),I ac])]),Bo v0.qm])),∀ c ∈ r,jf c=true∧zy c=true:=by
  exact cY
 have a0:=hat.v0;have b0:=hat.g0;have c0:=hat.e0;have e1:0+m.version.toNat=m.version.toNat:=gp _;have e2:0+m.zi.toNat=m.zi.toNat:=gp _;have e3:0+m.end_.toNat=m.end_.toNat:=gp _;have gg0:(ed m v0 g0 (g0.zt) (7))[m.zi.toNat]?= some ([U (g0.zt),C.sl (7) [] 3 0 g0.ends.length false]):=dS tN;have ge0:(u7 m g0 e0 (e0.head) (8) (e0.zg))[m.end_.toNat]?= some ([U (e0.head),C.sl (8) [] 1 0 e0.next.length false,I (e0.zg)]):=dS tK;refine ab func97 ?_;(repeat (first | refine uA ?_ | refine uB ?_))
 refine ah (zO w m ok hl) ?_;refine ⟨fun _=>dd ?_,fun h=>absurd ((hs).symm.trans h:true=false) ar⟩;(repeat (first | refine uA ?_ | refine uB ?_))
 refine tc ?_
 refine zX [] [⟨1,37,8,[zJ w],0⟩,⟨1,69,44,[zD m],0⟩,⟨1,37,8,[fI],0⟩,⟨1,69,44,[fH],0⟩,⟨1,48,23,[zR qA],0⟩,⟨1,0,5,eh w m v0 (6),0⟩,⟨1,0,2,ed m v0 g0 (g0.zt) (7),0⟩,⟨1,0,3,u7 m g0 e0 (e0.head) (8) (e0.zg),0⟩,⟨2,3,1,e0.next.map encI,0⟩] (rx:=.agg (eR w 5)) (yF w sw w.ze rfl hp) (zc (zj (ownV 1)) (zc (zj (ownG 2 _)) (zc (zj (ownE 3 _ _)) rfl))) rfl rfl rfl rfl rfl uV rfl (dd ?_);refine uE ?_;refine ⟨a0,lv,dd ?_⟩;rw [e1];refine ⟨_,gv,cx,dd ?_⟩;refine ⟨b0,lg,dd ?_⟩;rw [e2];refine ⟨_,gg0,cy,dd ?_⟩;refine ⟨c0,le,dd ?_⟩;rw [e3];refine ah (Slp.qG m.word hw) ?_;refine .inr ⟨⟨[0,1,5,6,7],[0,1,7],true⟩,au,fun _=>(zc rfl (zc rfl (zc rfl (zc rfl (zc rfl (zc (zj (ownV 6)) (zc (zj (ownG 7 _)) (zc (zj (ownE 8 _ _)) rfl)))))))),_,uH ?_,fun t2 H2 h=>h⟩;refine ⟨_,ge0,cA,uH ?_⟩;refine ⟨_,ai [] (Slp.qG e0.head hh),uH ?_⟩;refine ⟨_,ai [] (yS w m v0 hat.tomN 1 8 (e0.head % 4294967296 - 1)),uH ?_⟩;(refine ⟨uH ?_,trivial⟩);(refine ⟨(zc rfl (zc rfl (zc rfl (zc rfl (zc rfl (zc (zj (ownV 6)) (zc (zj (ownG 7 _)) (zc (zj (ownE 8 _ _)) rfl)))))))),uH ?_⟩);refine hZ ?_
 (refine ⟨uH ?_,trivial⟩);(refine ⟨(zc rfl (zc rfl (zc rfl (zc rfl (zc rfl (zc (zj (ownV 6)) (zc (zj (ownG 7 _)) (zc (zj (ownE 8 _ _)) rfl)))))))),uH ?_⟩);refine hZ ?_
 (refine ⟨_,_,.refl _,uH ?_⟩)
 (repeat (first | refine uA ?_ | refine uB ?_))
 refine ⟨_,ge0,cz,dd ?_⟩;refine ⟨_,ge0,rfl,dd ?_⟩;rw [gF];subst htk hhd hac;refine .inl ⟨⟨false,[3],[7],[]⟩,au,uH ?_⟩;refine ⟨_,ge,cz,dd ?_⟩;refine hZ ?_
 refine wG.go rfl (uH ?_);rw [show IntKind.i64.wrap (m.pc+1)=4 from cB];refine .inl ⟨⟨false,[0,1,2],[9,1,10],[]⟩,au,uH ?_⟩;refine hZ ?_
 refine ⟨.inl rfl,_,(((zo.zV 7 m.end_.toNat 1 rfl ge rfl rfl (.inr rfl) aj aj (shut_map (enc:=encI) (fun _=>rfl) _) (ownE 8 _ _)).trans (zo.zV 6 m.zi.toNat 1 rfl gg rfl rfl (.inl rfl) aj aj eshE (ownG 7 _))).trans (zo.zV 5 m.version.toNat 3 rfl gv rfl rfl (.inl rfl) aj aj eshG (ownV 6))).trans (zo.zV 2 0 4 rfl rfl rfl rfl (.inl rfl) aj aj eshV (z5 rfl)),?_⟩;show _=some (C.u1 [C.agg [I w.zn,I w.current,I w.lock,lI w.pins,C.uv 0 5 ((w.ze.set m.version.toNat (xk m v0 g0 e0 g0.zt e0.head (IntKind.i64.wrap (e0.zg - 1)))).map zF),lL w.zd,eG w.counts,lR w.zr],Cm { m with pc:=4 },Ce (fi m v0 3 7 (IntKind.i64.wrap (e0.zg - 1)))]);rw [<- estV,<- estG,<- estE]
 rfl
def PH (w:Wor) (m:uw) (v0:u3) (g0:Gr) (e0:En) (sw:qX w) (ok:fe w) (hl:i64 m.listen) (hpc:m.pc=2) (hs:zY w m=true) (hat:fc w m v0 g0 e0) (hne:e0.next≠[]) (hw:u64 m.word) (hh:u64 e0.head) (heq:e0.head=m.word) (s0: -1<=m.slot) (s1:m.slot<=2147483646) {tk hd ac:Int} (htk:tk=g0.zt) (hhd:hd=Slp.qV m.word m.slot) (hac:ac=e0.zg):
  tn 97 [] [Cw w,Cm m] (.u1 [Cw (wU w m v0 g0 e0 tk hd ac),Cm { m with pc:=3 },Ce { fi m v0 4 8 m.slot with qR:=true }]) []:=by
 have lv:=hat.ln.lv;have lg:=hat.ln.lg;have le:=hat.ln.le;have fW:=sw.ze.2 v0 (dO hat.at_);have hp:oP w.ze m.version.toNat v0 m.zi.toNat g0 m.end_.toNat e0:=⟨⟨⟨fW.2 g0 (dO hat.ey),hat.eL,hne⟩,fW,hat.ey⟩,sw.ze,hat.at_⟩;have ownV:∀ i,∀ r ∈ eh w m v0 (i),∀ c ∈ r,zy c=true:=fun i=>zA (enc:=zF) (fun _=>rfl) rfl _ _
 have ownG:∀ i t,∀ r ∈ ed m v0 g0 (t) (i),∀ c ∈ r,zy c=true:=fun i t=>zA (enc:=zE) (fun _=>rfl) rfl _ _
 have ownE:∀ i a b,∀ r ∈ u7 m g0 e0 (a) (i) (b),∀ c ∈ r,zy c=true:=fun i a b=>zA (enc:=zx) (fun _=>rfl) rfl _ _
 have gv:(eh w m v0 (6))[m.version.toNat]?= some ((qK v0.snap++[C.sl (6) [] 2 0 v0.zm.length false,Bo v0.qm])):=dS tP;have gg:(ed m v0 g0 (tk) (7))[m.zi.toNat]?= some ([U (tk),C.sl (7) [] 3 0 g0.ends.length false]):=dS tN;have ge:(u7 m g0 e0 (hd) (8) (ac))[m.end_.toNat]?= some ([U (hd),C.sl (8) [] 1 0 e0.next.length false,I (ac)]):=dS tK;have estE:((u7 m g0 e0 (hd) (8) (ac)).set m.end_.toNat [U hd,C.uv 0 1 (e0.next.map encI),I ac])=(g0.ends.set m.end_.toNat (qt e0 hd ac)).map zx:=cF
 have estG:((ed m v0 g0 (tk) (7)).set m.zi.toNat [U tk,C.uv 0 3 (((g0.ends.set m.end_.toNat (qt e0 hd ac)).map zx))])=(v0.zm.set m.zi.toNat (yE m g0 e0 tk hd ac)).map zE:=cG
 have estV:((eh w m v0 (6)).set m.version.toNat (qK v0.snap++[C.uv 0 2 (((v0.zm.set m.zi.toNat (yE m g0 e0 tk hd ac)).map zE)),Bo v0.qm]))=(w.ze.set m.version.toNat (xk m v0 g0 e0 tk hd ac)).map zF:=cH
 have eshE:∀ r ∈ ((u7 m g0 e0 (hd) (8) (ac)).set m.end_.toNat [U hd,C.uv 0 1 (e0.next.map encI),I ac]),∀ c ∈ r,jf c=true∧zy c=true:=by
  exact da
 have eshG:∀ r ∈ ((ed m v0 g0 (tk) (7)).set m.zi.toNat [U tk,C.uv 0 3 ((u7 m g0 e0 (hd) (8) (ac)).set m.end_.toNat [U hd,C.uv 0 1 (e0.next.map encI),I ac])]),∀ c ∈ r,jf c=true∧zy c=true:=by
  exact c6
 have eshV:∀ r ∈ ((eh w m v0 (6)).set m.version.toNat (qK v0.snap++[C.uv 0 2 ((ed m v0 g0 (tk) (7)).set m.zi.toNat [U tk,C.uv 0 3 ((u7 m g0 e0 (hd) (8) (ac)).set m.end_.toNat [U hd,C.uv 0 1 (e0.next.map encI),I ac])]),Bo v0.qm])),∀ c ∈ r,jf c=true∧zy c=true:=by
  exact cY
 have a0:=hat.v0;have b0:=hat.g0;have c0:=hat.e0;have e1:0+m.version.toNat=m.version.toNat:=gp _;have e2:0+m.zi.toNat=m.zi.toNat:=gp _;have e3:0+m.end_.toNat=m.end_.toNat:=gp _;have gg0:(ed m v0 g0 (g0.zt) (7))[m.zi.toNat]?= some ([U (g0.zt),C.sl (7) [] 3 0 g0.ends.length false]):=dS tN;have ge0:(u7 m g0 e0 (e0.head) (8) (e0.zg))[m.end_.toNat]?= some ([U (e0.head),C.sl (8) [] 1 0 e0.next.length false,I (e0.zg)]):=dS tK;refine ab func97 ?_;(repeat (first | refine uA ?_ | refine uB ?_))
 refine ah (zO w m ok hl) ?_;refine ⟨fun _=>dd ?_,fun h=>absurd ((hs).symm.trans h:true=false) ar⟩;(repeat (first | refine uA ?_ | refine uB ?_))
 refine tc ?_
 refine zX [] [⟨1,37,8,[zJ w],0⟩,⟨1,69,44,[zD m],0⟩,⟨1,37,8,[fI],0⟩,⟨1,69,44,[fH],0⟩,⟨1,48,23,[zR qA],0⟩,⟨1,0,5,eh w m v0 (6),0⟩,⟨1,0,2,ed m v0 g0 (g0.zt) (7),0⟩,⟨1,0,3,u7 m g0 e0 (e0.head) (8) (e0.zg),0⟩,⟨2,3,1,e0.next.map encI,0⟩] (rx:=.agg (eR w 5)) (yF w sw w.ze rfl hp) (zc (zj (ownV 1)) (zc (zj (ownG 2 _)) (zc (zj (ownE 3 _ _)) rfl))) rfl rfl rfl rfl rfl uV rfl (dd ?_);refine uE ?_;refine ⟨a0,lv,dd ?_⟩;rw [e1];refine ⟨_,gv,cx,dd ?_⟩;refine ⟨b0,lg,dd ?_⟩;rw [e2];refine ⟨_,gg0,cy,dd ?_⟩;refine ⟨c0,le,dd ?_⟩;rw [e3];refine ah (Slp.qG m.word hw) ?_;refine .inr ⟨⟨[0,1,5,6,7],[0,1,7],true⟩,au,fun _=>(zc rfl (zc rfl (zc rfl (zc rfl (zc rfl (zc (zj (ownV 6)) (zc (zj (ownG 7 _)) (zc (zj (ownE 8 _ _)) rfl)))))))),_,uH ?_,fun t2 H2 h=>h⟩;refine ⟨_,ge0,cA,uH ?_⟩;refine ⟨_,ai [] (Slp.qG e0.head hh),uH ?_⟩;refine ⟨_,ai [] (yS w m v0 hat.tomN 1 8 (e0.head % 4294967296 - 1)),uH ?_⟩;(refine ⟨uH ?_,trivial⟩);(refine ⟨(zc rfl (zc rfl (zc rfl (zc rfl (zc rfl (zc (zj (ownV 6)) (zc (zj (ownG 7 _)) (zc (zj (ownE 8 _ _)) rfl)))))))),uH ?_⟩);refine hZ ?_
 (refine ⟨uH ?_,trivial⟩);(refine ⟨(zc rfl (zc rfl (zc rfl (zc rfl (zc rfl (zc (zj (ownV 6)) (zc (zj (ownG 7 _)) (zc (zj (ownE 8 _ _)) rfl)))))))),uH ?_⟩);refine hZ ?_
 (refine ⟨_,_,.refl _,uH ?_⟩)
 (repeat (first | refine uA ?_ | refine uB ?_))
 refine uE ?_;refine ⟨_,ge0,cA,dd ?_⟩;refine ⟨fun h=>absurd h (by simp [heq]),fun _=>dd ?_⟩;refine ah (Slp.EY m.word m.slot hw s0 s1) ?_;refine ⟨_,ge0,rfl,dd ?_⟩;rw [gF];subst htk hhd hac;refine .inl ⟨⟨false,[1],[1],[]⟩,au,uH ?_⟩;refine hZ ?_
 refine wG.go rfl (uH ?_);rw [show IntKind.i64.wrap (m.pc+1)=3 from cB];refine .inl ⟨⟨false,[0,1,2],[9,1,10],[]⟩,au,uH ?_⟩;refine hZ ?_
 refine ⟨.inl rfl,_,(((zo.zV 7 m.end_.toNat 1 rfl ge rfl rfl (.inr rfl) aj aj (shut_map (enc:=encI) (fun _=>rfl) _) (ownE 8 _ _)).trans (zo.zV 6 m.zi.toNat 1 rfl gg rfl rfl (.inl rfl) aj aj eshE (ownG 7 _))).trans (zo.zV 5 m.version.toNat 3 rfl gv rfl rfl (.inl rfl) aj aj eshG (ownV 6))).trans (zo.zV 2 0 4 rfl rfl rfl rfl (.inl rfl) aj aj eshV (z5 rfl)),?_⟩;show _=some (C.u1 [C.agg [I w.zn,I w.current,I w.lock,lI w.pins,C.uv 0 5 ((w.ze.set m.version.toNat (xk m v0 g0 e0 g0.zt (Slp.qV m.word m.slot) e0.zg)).map zF),lL w.zd,eG w.counts,lR w.zr],Cm { m with pc:=3 },Ce { fi m v0 4 8 m.slot with qR:=true }]);rw [<- estV,<- estG,<- estE]
 rfl
abbrev vg (m:uw) (e0:En):En:={ e0 with next:=(e0.next.set m.slot.toNat (m.word % 4294967296 - 1)) }
def PG (w:Wor) (m:uw) (v0:u3) (g0:Gr) (e0:En) (sw:qX w) (ok:fe w) (hl:i64 m.listen) (hpc:m.pc=1) (hs:zY w m=true) (hat:fc w m v0 g0 e0) (hne:e0.next≠[]) (hw:u64 m.word) (hh:u64 e0.head) (s0:0<=m.slot) (s1:m.slot.toNat < e0.next.length) {tk hd ac:Int} (htk:tk=g0.zt) (hhd:hd=e0.head) (hac:ac=e0.zg):
  tn 97 [] [Cw w,Cm m] (.u1 [Cw (wU w m v0 g0 (vg m e0) tk hd ac),Cm { m with pc:=2 },Ce (fi m v0 2 9 (m.word % 4294967296 - 1))]) []:=by
 have estE1:((u7 m g0 e0 (e0.head) (8) (e0.zg)).set m.end_.toNat [U e0.head,C.uv 0 1 ((e0.next.set m.slot.toNat (m.word % 4294967296 - 1)).map encI),I e0.zg])=(g0.ends.set m.end_.toNat (qt (vg m e0) e0.head e0.zg)).map zx:=by rw [gF];exact jr zx _ _ (qt (vg m e0) e0.head e0.zg) _ rfl
 have estG1:((ed m v0 g0 (g0.zt) (7)).set m.zi.toNat [U g0.zt,C.uv 0 3 (((g0.ends.set m.end_.toNat (qt (vg m e0) e0.head e0.zg)).map zx))])=(v0.zm.set m.zi.toNat (yE m g0 (vg m e0) g0.zt e0.head e0.zg)).map zE:=by rw [gF];exact jr zE _ _ (yE m g0 (vg m e0) g0.zt e0.head e0.zg) _ rfl
 have estV1:((eh w m v0 (6)).set m.version.toNat (qK v0.snap++[C.uv 0 2 (((v0.zm.set m.zi.toNat (yE m g0 (vg m e0) g0.zt e0.head e0.zg)).map zE)),Bo v0.qm]))=(w.ze.set m.version.toNat (xk m v0 g0 (vg m e0) g0.zt e0.head e0.zg)).map zF:=by rw [gF];exact jr zF _ _ (xk m v0 g0 (vg m e0) g0.zt e0.head e0.zg) _ rfl
 have eshE1:∀ r ∈ ((u7 m g0 e0 (e0.head) (8) (e0.zg)).set m.end_.toNat [U e0.head,C.uv 0 1 ((e0.next.set m.slot.toNat (m.word % 4294967296 - 1)).map encI),I e0.zg]),∀ c ∈ r,jf c=true∧zy c=true:=by
  rw [estE1];exact shut_map (enc:=zx) (fun _=>rfl) _
 have eshG1:∀ r ∈ ((ed m v0 g0 (g0.zt) (7)).set m.zi.toNat [U g0.zt,C.uv 0 3 ((u7 m g0 e0 (e0.head) (8) (e0.zg)).set m.end_.toNat [U e0.head,C.uv 0 1 ((e0.next.set m.slot.toNat (m.word % 4294967296 - 1)).map encI),I e0.zg])]),∀ c ∈ r,jf c=true∧zy c=true:=by
  rw [estE1,estG1];exact shut_map (enc:=zE) (fun _=>rfl) _
 have eshV1:∀ r ∈ ((eh w m v0 (6)).set m.version.toNat (qK v0.snap++[C.uv 0 2 ((ed m v0 g0 (g0.zt) (7)).set m.zi.toNat [U g0.zt,C.uv 0 3 ((u7 m g0 e0 (e0.head) (8) (e0.zg)).set m.end_.toNat [U e0.head,C.uv 0 1 ((e0.next.set m.slot.toNat (m.word % 4294967296 - 1)).map encI),I e0.zg])]),Bo v0.qm])),∀ c ∈ r,jf c=true∧zy c=true:=by
  rw [estE1,estG1,estV1];exact shut_map (enc:=zF) (fun _=>rfl) _
 have gn:(e0.next.map Hy.encI)[m.slot.toNat]?= some (Hy.encI (e0.next[m.slot.toNat]'s1)):=by rw [dP,dM s1];rfl
 have hst:(e0.next.map Hy.encI).set m.slot.toNat [I (m.word % 4294967296 - 1)]=(e0.next.set m.slot.toNat (m.word % 4294967296 - 1)).map Hy.encI:=bR
 have e4:0+m.slot.toNat=m.slot.toNat:=gp _;have lv:=hat.ln.lv;have lg:=hat.ln.lg;have le:=hat.ln.le;have fW:=sw.ze.2 v0 (dO hat.at_);have hp:oP w.ze m.version.toNat v0 m.zi.toNat g0 m.end_.toNat e0:=⟨⟨⟨fW.2 g0 (dO hat.ey),hat.eL,hne⟩,fW,hat.ey⟩,sw.ze,hat.at_⟩;have ownV:∀ i,∀ r ∈ eh w m v0 (i),∀ c ∈ r,zy c=true:=fun i=>zA (enc:=zF) (fun _=>rfl) rfl _ _
 have ownG:∀ i t,∀ r ∈ ed m v0 g0 (t) (i),∀ c ∈ r,zy c=true:=fun i t=>zA (enc:=zE) (fun _=>rfl) rfl _ _
 have ownE:∀ i a b,∀ r ∈ u7 m g0 e0 (a) (i) (b),∀ c ∈ r,zy c=true:=fun i a b=>zA (enc:=zx) (fun _=>rfl) rfl _ _
 have gv:(eh w m v0 (6))[m.version.toNat]?= some ((qK v0.snap++[C.sl (6) [] 2 0 v0.zm.length false,Bo v0.qm])):=dS tP;have gg:(ed m v0 g0 (tk) (7))[m.zi.toNat]?= some ([U (tk),C.sl (7) [] 3 0 g0.ends.length false]):=dS tN;have ge:(u7 m g0 e0 (hd) (8) (ac))[m.end_.toNat]?= some ([U (hd),C.sl (8) [] 1 0 e0.next.length false,I (ac)]):=dS tK;have estE:((u7 m g0 e0 (hd) (8) (ac)).set m.end_.toNat [U hd,C.uv 0 1 (e0.next.map encI),I ac])=(g0.ends.set m.end_.toNat (qt e0 hd ac)).map zx:=cF
 have estG:((ed m v0 g0 (tk) (7)).set m.zi.toNat [U tk,C.uv 0 3 (((g0.ends.set m.end_.toNat (qt e0 hd ac)).map zx))])=(v0.zm.set m.zi.toNat (yE m g0 e0 tk hd ac)).map zE:=cG
 have estV:((eh w m v0 (6)).set m.version.toNat (qK v0.snap++[C.uv 0 2 (((v0.zm.set m.zi.toNat (yE m g0 e0 tk hd ac)).map zE)),Bo v0.qm]))=(w.ze.set m.version.toNat (xk m v0 g0 e0 tk hd ac)).map zF:=cH
 have eshE:∀ r ∈ ((u7 m g0 e0 (hd) (8) (ac)).set m.end_.toNat [U hd,C.uv 0 1 (e0.next.map encI),I ac]),∀ c ∈ r,jf c=true∧zy c=true:=by
  exact da
 have eshG:∀ r ∈ ((ed m v0 g0 (tk) (7)).set m.zi.toNat [U tk,C.uv 0 3 ((u7 m g0 e0 (hd) (8) (ac)).set m.end_.toNat [U hd,C.uv 0 1 (e0.next.map encI),I ac])]),∀ c ∈ r,jf c=true∧zy c=true:=by
  exact c6
 have eshV:∀ r ∈ ((eh w m v0 (6)).set m.version.toNat (qK v0.snap++[C.uv 0 2 ((ed m v0 g0 (tk) (7)).set m.zi.toNat [U tk,C.uv 0 3 ((u7 m g0 e0 (hd) (8) (ac)).set m.end_.toNat [U hd,C.uv 0 1 (e0.next.map encI),I ac])]),Bo v0.qm])),∀ c ∈ r,jf c=true∧zy c=true:=by
  exact cY
 have a0:=hat.v0;have b0:=hat.g0;have c0:=hat.e0;have e1:0+m.version.toNat=m.version.toNat:=gp _;have e2:0+m.zi.toNat=m.zi.toNat:=gp _;have e3:0+m.end_.toNat=m.end_.toNat:=gp _;have gg0:(ed m v0 g0 (g0.zt) (7))[m.zi.toNat]?= some ([U (g0.zt),C.sl (7) [] 3 0 g0.ends.length false]):=dS tN;have ge0:(u7 m g0 e0 (e0.head) (8) (e0.zg))[m.end_.toNat]?= some ([U (e0.head),C.sl (8) [] 1 0 e0.next.length false,I (e0.zg)]):=dS tK;refine ab func97 ?_;(repeat (first | refine uA ?_ | refine uB ?_))
 refine ah (zO w m ok hl) ?_;refine ⟨fun _=>dd ?_,fun h=>absurd ((hs).symm.trans h:true=false) ar⟩;(repeat (first | refine uA ?_ | refine uB ?_))
 refine tc ?_
 refine zX [] [⟨1,37,8,[zJ w],0⟩,⟨1,69,44,[zD m],0⟩,⟨1,37,8,[fI],0⟩,⟨1,69,44,[fH],0⟩,⟨1,48,23,[zR qA],0⟩,⟨1,0,5,eh w m v0 (6),0⟩,⟨1,0,2,ed m v0 g0 (g0.zt) (7),0⟩,⟨1,0,3,u7 m g0 e0 (e0.head) (8) (e0.zg),0⟩,⟨2,3,1,e0.next.map encI,0⟩] (rx:=.agg (eR w 5)) (yF w sw w.ze rfl hp) (zc (zj (ownV 1)) (zc (zj (ownG 2 _)) (zc (zj (ownE 3 _ _)) rfl))) rfl rfl rfl rfl rfl uV rfl (dd ?_);refine uE ?_;refine ⟨a0,lv,dd ?_⟩;rw [e1];refine ⟨_,gv,cx,dd ?_⟩;refine ⟨b0,lg,dd ?_⟩;rw [e2];refine ⟨_,gg0,cy,dd ?_⟩;refine ⟨c0,le,dd ?_⟩;rw [e3];refine ah (Slp.qG m.word hw) ?_;refine .inr ⟨⟨[0,1,5,6,7],[0,1,7],true⟩,au,fun _=>(zc rfl (zc rfl (zc rfl (zc rfl (zc rfl (zc (zj (ownV 6)) (zc (zj (ownG 7 _)) (zc (zj (ownE 8 _ _)) rfl)))))))),_,uH ?_,fun t2 H2 h=>h⟩;refine ⟨_,ge0,cA,uH ?_⟩;refine ⟨_,ai [] (Slp.qG e0.head hh),uH ?_⟩;refine ⟨_,ai [] (yS w m v0 hat.tomN 1 8 (e0.head % 4294967296 - 1)),uH ?_⟩;(refine ⟨uH ?_,trivial⟩);(refine ⟨(zc rfl (zc rfl (zc rfl (zc rfl (zc rfl (zc (zj (ownV 6)) (zc (zj (ownG 7 _)) (zc (zj (ownE 8 _ _)) rfl)))))))),uH ?_⟩);refine hZ ?_
 (refine ⟨uH ?_,trivial⟩);(refine ⟨(zc rfl (zc rfl (zc rfl (zc rfl (zc rfl (zc (zj (ownV 6)) (zc (zj (ownG 7 _)) (zc (zj (ownE 8 _ _)) rfl)))))))),uH ?_⟩);refine hZ ?_
 (refine ⟨_,_,.refl _,uH ?_⟩)
 (repeat (first | refine uA ?_ | refine uB ?_))
 subst htk hhd hac;refine uE ?_;refine ⟨_,ge0,(by show 1+1<=3;decide),dd ?_⟩;refine ⟨s0,s1,dd ?_⟩;rw [e4];refine ⟨_,gn,rfl,dd ?_⟩;rw [hst];refine wG.go rfl (uH ?_);rw [show IntKind.i64.wrap (m.pc+1)=2 from cB];refine .inl ⟨⟨false,[0,1,2],[9,1,10],[]⟩,au,uH ?_⟩;refine hZ ?_
 refine ⟨.inl rfl,_,(((zo.zV 7 m.end_.toNat 1 rfl ge rfl rfl (.inr rfl) aj aj (shut_map (enc:=encI) (fun _=>rfl) _) (ownE 8 _ _)).trans (zo.zV 6 m.zi.toNat 1 rfl gg rfl rfl (.inl rfl) aj aj eshE1 (ownG 7 _))).trans (zo.zV 5 m.version.toNat 3 rfl gv rfl rfl (.inl rfl) aj aj eshG1 (ownV 6))).trans (zo.zV 2 0 4 rfl rfl rfl rfl (.inl rfl) aj aj eshV1 (z5 rfl)),?_⟩;show _=some (C.u1 [C.agg [I w.zn,I w.current,I w.lock,lI w.pins,C.uv 0 5 ((w.ze.set m.version.toNat (xk m v0 g0 (vg m e0) g0.zt e0.head e0.zg)).map zF),lL w.zd,eG w.counts,lR w.zr],Cm { m with pc:=2 },Ce (fi m v0 2 9 (m.word % 4294967296 - 1))]);rw [<- estV1,<- estG1,<- estE1]
 rfl
abbrev Hb (m:uw):ef:=⟨6,m.version,m.zi,m.end_,m.slot,m.listen,0,⟨0,0,0,0,0,0⟩⟩
abbrev Me (m:uw) (x:eE):uz:={ qA with zf:=m.zf,access:=3,cell:=5,version:= -1,value:=IntKind.i64.wrap (x.zg - 1),done:=true,answer:=Hb m }
abbrev oS (x:eE):eE:={ x with zg:=IntKind.i64.wrap (x.zg - 1) }
def PJ (w:Wor) (m:uw) (v:u3) (g:Gr) (e:En) (x:eE) (sw:qX w) (ok:fe w) (hl:i64 m.listen) (hpc:m.pc=4) (hs:zY w m=true) (hat:fc w m v g e) (hw:u64 m.word) (hh:u64 e.head) (hli:0<=m.listen) (hx:w.zd[m.listen.toNat]?= some x):
  tn 97 [] [Cw w,Cm m] (.u1 [Cw { w with zd:=w.zd.set m.listen.toNat (oS x) },Cm { m with answer:=Hb m,done:=true },Ce (Me m x)]) []:=by
 have a0:=hat.v0;have a1:=hat.tomN.row;have b0:=hat.g0;have b1:(v.zm.map zE)[m.zi.toNat]?= some (zE g):=by rw [dP,hat.ey];rfl
 have c0:=hat.e0;have c1:(g.ends.map zx)[m.end_.toNat]?= some (zx e):=by rw [dP,hat.eL];rfl
 have hn:¬m.listen < 0:=aw
 have lt:m.listen.toNat < w.zd.length:=(dL.1 hx).1;have gl:(w.zd.map qH)[m.listen.toNat]?= some (qH x):=by rw [dP,hx];rfl
 have hst:(w.zd.map qH).set m.listen.toNat [Tx x.name,Bo x.drain,I (IntKind.i64.wrap (x.zg - 1)),Bo x.closed]=(w.zd.set m.listen.toNat (oS x)).map qH:=bR
 have gl2:((w.zd.set m.listen.toNat (oS x)).map qH)[m.listen.toNat]?= some (qH (oS x)):=by rw [dP,dS lt];rfl
 have e1:0+m.listen.toNat=m.listen.toNat:=gp _
 obtain ⟨y,l,hy⟩:∃ y l,w.zd=y::l:=by
  cases h:w.zd with
  | nil=>rw [h] at lt;simp at lt
  | cons y l=>exact ⟨y,l,rfl⟩
 refine ab func97 ?_;(repeat (first | refine uA ?_ | refine uB ?_))
 refine ah (zO w m ok hl) ?_;refine ⟨fun _=>dd ?_,fun h=>absurd ((hs).symm.trans h:true=false) ar⟩;(repeat (first | refine uA ?_ | refine uB ?_))
 refine tc ?_
 refine af [] (va w sw y l hy) ?_;refine uE ?_;(refine ⟨a0,_,a1,dd ?_⟩)
 (refine ⟨b0,_,b1,dd ?_⟩)
 (refine ⟨c0,_,c1,dd ?_⟩)
 refine ah (Slp.qG m.word hw) ?_;refine .inr ⟨⟨[0,1,5,6,7],[0,1],true⟩,au,fun _=>rfl,_,uH ?_,fun t2 H2 h=>h⟩;refine ⟨_,ai [] (Slp.qG e.head hh),uH ?_⟩;refine ⟨_,ai [] (yS w m v hat.tomN 1 8 (e.head % 4294967296 - 1)),uH ?_⟩;(refine ⟨uH ?_,trivial⟩);refine hZ ?_
 (refine ⟨uH ?_,trivial⟩);refine hZ ?_
 (refine ⟨_,_,.refl _,uH ?_⟩)
 (repeat (first | refine uA ?_ | refine uB ?_))
 refine ⟨hli,lt,dd ?_⟩;rw [e1];refine ⟨_,gl,cw,dd ?_⟩;refine ⟨_,gl,rfl,dd ?_⟩;rw [hst];refine uE ?_;refine ⟨_,gl2,cw,dd ?_⟩;refine wG.go rfl (uH ?_);refine .inl ⟨⟨false,[0,1,2],[6,1,7],[]⟩,au,uH ?_⟩;refine hZ ?_
 exact ⟨.inl rfl,_,zo.zV 2 0 5 rfl rfl rfl rfl (.inr rfl) aj aj (shut_map (enc:=qH) (fun _=>rfl) _) (z5 rfl),rfl⟩
end Go.Wor
