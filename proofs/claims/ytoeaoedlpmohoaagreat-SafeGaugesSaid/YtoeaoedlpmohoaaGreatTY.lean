import Derived.Test.YtoeaoedlpmohoaaGreatTX
set_option linter.all false
set_option maxRecDepth 100000
set_option maxHeartbeats 4000000
namespace Go.Wor
open Go.Ab Go.Proofs Tryz Go.Hy Go.Gat Go.Nam Go.Hos Go.Con Go.Sna
def vp(w:Wor)(m:fi)(v:fp)(hv:oT w m v)(a b c:Int):tj 153 [] [Cw w,Cm m,I a,I b,I c] (Ce (iz m v a b c)) []:=by
 have h0:=hv.v0;have hr:=hv.row;obtain⟨sn,gs,fr⟩:=v;cases fr
 all_goals
  refine ab func153 ?_;refine uE ?_;(refine⟨h0,_,hr,dd ?_⟩)
  first|((refine ya (dd ?_)))|((refine yb (dd ?_)))
  exact uI
def Uf(w:Wor)(m:fi)(v:fp)(g:Gr)(e:En)(sw:jd w)(ok:ir w)(hl:i64 m.listen)(hpc:m.pc=0)(hs:qd w m=true)(hat:ic w m v g e)(hw:u64 m.word)(hh:u64 e.head):
  tj 127 [] [Cw w,Cm m] (.fq [Cw w,Cm {m with word:=e.head,pc:=1},Ce (iz m v 1 8 (e.head%4294967296-1))]) []:=by
 have a0:=hat.v0;have a1:=hat.tooT.row;have b0:=hat.g0;have b1:(v.zo.map zE)[m.zg.toNat]?=some (zE g):=by rw[gf,hat.fG];rfl
 have c0:=hat.e0;have c1:(g.ends.map zA)[m.end_.toNat]?=some (zA e):=by rw[gf,hat.fP];rfl
 refine ab func127 ?_;(repeat (first|refine uA ?_|refine uB ?_))
 refine ah (zP w m ok hl) ?_;refine⟨λ_=>dd ?_,λh=>absurd ((hs).symm.trans h:true=false) ar⟩;(repeat (first|refine uA ?_|refine uB ?_))
 refine hZ ?_
 refine ah (qC w sw) ?_;refine uE ?_;(refine⟨a0,_,a1,dd ?_⟩)
 (refine⟨b0,_,b1,dd ?_⟩)
 (refine⟨c0,_,c1,dd ?_⟩)
 refine ah (Slp.qN m.word hw) ?_;refine .inr ⟨⟨[0,1,5,6,7],[0,1],true⟩,au,λ_=>J,_,uH ?_,λt2 H2 h=>h⟩;refine⟨_,ai [] (Slp.qN e.head hh),uH ?_⟩;refine⟨_,ai [] (vp w m v hat.tooT 1 8 (e.head%4294967296-1)),uH ?_⟩;(refine⟨uH ?_,trivial⟩);refine hU ?_
 (refine⟨uH ?_,trivial⟩);refine hU ?_
 (refine⟨_,_,.refl _,uH ?_⟩)
 (repeat (first|refine uA ?_|refine uB ?_))
 refine nn.go J (uH ?_);rw[show IntKind.i64.wrap (m.pc+1)=1 from cI];refine .inl ⟨⟨false,[0,1,2],[5,1,6],[]⟩,au,uH ?_⟩;refine hU ?_
 exact uI
abbrev PQ(m:fi):fk:={qG with zf:=m.zf,access:=1,version:= -1,done:=true,answer:=mj 7}
def Uk(w:Wor)(m:fi)(v:fp)(g:Gr)(e:En)(sw:jd w)(ok:ir w)(hl:i64 m.listen)(hpc:m.pc=9)(hs:qd w m=true)(hat:ic w m v g e)(hw:u64 m.word)(hh:u64 e.head):
  tj 127 [] [Cw w,Cm m] (.fq [Cw w,Cm {m with answer:=mj 7,done:=true},Ce (PQ m)]) []:=by
 have a0:=hat.v0;have a1:=hat.tooT.row;have b0:=hat.g0;have b1:(v.zo.map zE)[m.zg.toNat]?=some (zE g):=by rw[gf,hat.fG];rfl
 have c0:=hat.e0;have c1:(g.ends.map zA)[m.end_.toNat]?=some (zA e):=by rw[gf,hat.fP];rfl
 refine ab func127 ?_;(repeat (first|refine uA ?_|refine uB ?_))
 refine ah (zP w m ok hl) ?_;refine⟨λ_=>dd ?_,λh=>absurd ((hs).symm.trans h:true=false) ar⟩;(repeat (first|refine uA ?_|refine uB ?_))
 refine hZ ?_
 refine ah (qC w sw) ?_;refine uE ?_;(refine⟨a0,_,a1,dd ?_⟩)
 (refine⟨b0,_,b1,dd ?_⟩)
 (refine⟨c0,_,c1,dd ?_⟩)
 refine ah (Slp.qN m.word hw) ?_;refine .inr ⟨⟨[0,1,5,6,7],[0,1],true⟩,au,λ_=>J,_,uH ?_,λt2 H2 h=>h⟩;refine⟨_,ai [] (Slp.qN e.head hh),uH ?_⟩;refine⟨_,ai [] (vp w m v hat.tooT 1 8 (e.head%4294967296-1)),uH ?_⟩;(refine⟨uH ?_,trivial⟩);refine hU ?_
 (refine⟨uH ?_,trivial⟩);refine hU ?_
 (refine⟨_,_,.refl _,uH ?_⟩)
 (repeat (first|refine uA ?_|refine uB ?_))
 refine nn.go J (uH ?_);refine .inl ⟨⟨false,[0,1,2],[5,1,6],[]⟩,au,uH ?_⟩;refine hU ?_
 exact uI
def Ui(w:Wor)(m:fi)(v0:fp)(g0:Gr)(e0:En)(sw:jd w)(ok:ir w)(hl:i64 m.listen)(hpc:m.pc=3)(hs:qd w m=true)(hat:ic w m v0 g0 e0)(hne:e0.next≠[])(hw:u64 m.word)(hh:u64 e0.head){tk hd ac:Int}(htk:tk=g0.zu)(hhd:hd=e0.head)(hac:ac=IntKind.i64.wrap (e0.zi-1)):
  tj 127 [] [Cw w,Cm m] (.fq [Cw (mU w m v0 g0 e0 tk hd ac),Cm {m with pc:=4},Ce (iz m v0 3 7 ac)]) []:=by
 have lv:=hat.ln.lv;have lg:=hat.ln.lg;have le:=hat.ln.le;have lF:=sw.zd.2 v0 (dY hat.at_);have hp:BO w.zd m.version.toNat v0 m.zg.toNat g0 m.end_.toNat e0:=⟨⟨⟨lF.2 g0 (dY hat.fG),hat.fP,hne⟩,lF,hat.fG⟩,sw.zd,hat.at_⟩;have ownV:∀i,∀r∈fS w m v0 (i),∀c∈r,zx c=true:=λi=>zy (enc:=zH) (λ_=>J) J _ _
 have ownG:∀i t,∀r∈fL m v0 g0 (t) (i),∀c∈r,zx c=true:=λi t=>zy (enc:=zE) (λ_=>J) J _ _
 have ownE:∀i a b,∀r∈fF m g0 e0 (a) (i) (b),∀c∈r,zx c=true:=λi a b=>zy (enc:=zA) (λ_=>J) J _ _
 have gv:(fS w m v0 (6))[m.version.toNat]?=some ((encS v0.snap++[C.sl (6) [] 2 0 v0.zo.length false,Bo v0.zW])):=gk tP;have gg:(fL m v0 g0 (tk) (7))[m.zg.toNat]?=some ([U (tk),C.sl (7) [] 3 0 g0.ends.length false]):=gk tM;have ge:(fF m g0 e0 (hd) (8) (ac))[m.end_.toNat]?=some ([U (hd),C.sl (8) [] 1 0 e0.next.length false,I (ac)]):=gk tJ;have estE:((fF m g0 e0 (hd) (8) (ac)).set m.end_.toNat [U hd,C.fh 0 1 (e0.next.map encI),I ac])=(g0.ends.set m.end_.toNat (qs e0 hd ac)).map zA:=cK
 have estG:((fL m v0 g0 (tk) (7)).set m.zg.toNat [U tk,C.fh 0 3 (((g0.ends.set m.end_.toNat (qs e0 hd ac)).map zA))])=(v0.zo.set m.zg.toNat (yT m g0 e0 tk hd ac)).map zE:=cL
 have estV:((fS w m v0 (6)).set m.version.toNat (encS v0.snap++[C.fh 0 2 (((v0.zo.set m.zg.toNat (yT m g0 e0 tk hd ac)).map zE)),Bo v0.zW]))=(w.zd.set m.version.toNat (xq m v0 g0 e0 tk hd ac)).map zH:=cM
 have eshE:∀r∈((fF m g0 e0 (hd) (8) (ac)).set m.end_.toNat [U hd,C.fh 0 1 (e0.next.map encI),I ac]),∀c∈r,jc c=true/\zx c=true:=by
  exact dg
 have eshG:∀r∈((fL m v0 g0 (tk) (7)).set m.zg.toNat [U tk,C.fh 0 3 ((fF m g0 e0 (hd) (8) (ac)).set m.end_.toNat [U hd,C.fh 0 1 (e0.next.map encI),I ac])]),∀c∈r,jc c=true/\zx c=true:=by
  exact de
 have eshV:∀r∈((fS w m v0 (6)).set m.version.toNat (encS v0.snap++[C.fh 0 2 ((fL m v0 g0 (tk) (7)).set m.zg.toNat [U tk,C.fh 0 3 ((fF m g0 e0 (hd) (8) (ac)).set m.end_.toNat [U hd,C.fh 0 1 (e0.next.map encI),I ac])]),Bo v0.zW])),∀c∈r,jc c=true/\zx c=true:=by
  exact dc
 have a0:=hat.v0;have b0:=hat.g0;have c0:=hat.e0;have e1:0+m.version.toNat=m.version.toNat:=gP _;have e2:0+m.zg.toNat=m.zg.toNat:=gP _;have e3:0+m.end_.toNat=m.end_.toNat:=gP _;have gg0:(fL m v0 g0 (g0.zu) (7))[m.zg.toNat]?=some ([U (g0.zu),C.sl (7) [] 3 0 g0.ends.length false]):=gk tM;have ge0:(fF m g0 e0 (e0.head) (8) (e0.zi))[m.end_.toNat]?=some ([U (e0.head),C.sl (8) [] 1 0 e0.next.length false,I (e0.zi)]):=gk tJ;refine ab func127 ?_;(repeat (first|refine uA ?_|refine uB ?_))
 refine ah (zP w m ok hl) ?_;refine⟨λ_=>dd ?_,λh=>absurd ((hs).symm.trans h:true=false) ar⟩;(repeat (first|refine uA ?_|refine uB ?_))
 refine hZ ?_
 refine zZ [] [oW w,oM m,⟨1,38,8,[iQ],0⟩,⟨1,95,44,[iP],0⟩,oE qG,⟨1,0,5,fS w m v0 (6),0⟩,⟨1,0,2,fL m v0 g0 (g0.zu) (7),0⟩,⟨1,0,3,fF m g0 e0 (e0.head) (8) (e0.zi),0⟩,⟨2,3,1,e0.next.map encI,0⟩] (rx:=.agg (iZ w 5)) (yU w sw w.zd J hp) (zc (zj (ownV 1)) (zc (zj (ownG 2 _)) (zc (zj (ownE 3 _ _)) J))) J J J J J uV J (dd ?_);refine uE ?_;refine⟨a0,lv,dd ?_⟩;rw[e1];refine⟨_,gv,cD,dd ?_⟩;refine⟨b0,lg,dd ?_⟩;rw[e2];refine⟨_,gg0,cF,dd ?_⟩;refine⟨c0,le,dd ?_⟩;rw[e3];refine ah (Slp.qN m.word hw) ?_;refine .inr ⟨⟨[0,1,5,6,7],[0,1,7],true⟩,au,λ_=>(zc J (zc J (zc J (zc J (zc J (zc (zj (ownV 6)) (zc (zj (ownG 7 _)) (zc (zj (ownE 8 _ _)) J)))))))),_,uH ?_,λt2 H2 h=>h⟩;refine⟨_,ge0,cH,uH ?_⟩;refine⟨_,ai [] (Slp.qN e0.head hh),uH ?_⟩;refine⟨_,ai [] (vp w m v0 hat.tooT 1 8 (e0.head%4294967296-1)),uH ?_⟩;(refine⟨uH ?_,trivial⟩);(refine⟨(zc J (zc J (zc J (zc J (zc J (zc (zj (ownV 6)) (zc (zj (ownG 7 _)) (zc (zj (ownE 8 _ _)) J)))))))),uH ?_⟩);refine hU ?_
 (refine⟨uH ?_,trivial⟩);(refine⟨(zc J (zc J (zc J (zc J (zc J (zc (zj (ownV 6)) (zc (zj (ownG 7 _)) (zc (zj (ownE 8 _ _)) J)))))))),uH ?_⟩);refine hU ?_
 (refine⟨_,_,.refl _,uH ?_⟩)
 (repeat (first|refine uA ?_|refine uB ?_))
 refine⟨_,ge0,cG,dd ?_⟩;refine⟨_,ge0,rfl,dd ?_⟩;rw[pb];subst htk hhd hac;refine .inl ⟨⟨false,[3],[7],[]⟩,au,uH ?_⟩;refine⟨_,ge,cG,dd ?_⟩;refine hU ?_
 refine nn.go J (uH ?_);rw[show IntKind.i64.wrap (m.pc+1)=4 from cI];refine .inl ⟨⟨false,[0,1,2],[9,1,10],[]⟩,au,uH ?_⟩;refine hU ?_
 refine⟨.inl J,_,(((zq.zV 7 m.end_.toNat 1 J ge J J (.inr J) aj aj (shut_map (enc:=encI) (λ_=>J) _) (ownE 8 _ _)).trans (zq.zV 6 m.zg.toNat 1 J gg J J (.inl J) aj aj eshE (ownG 7 _))).trans (zq.zV 5 m.version.toNat 3 J gv J J (.inl J) aj aj eshG (ownV 6))).trans (zq.zV 2 0 4 J J J J (.inl J) aj aj eshV (qa J)),?_⟩;show _=some (C.fq [C.agg [I w.zl,I w.current,I w.lock,lI w.pins,C.fh 0 5 ((w.zd.set m.version.toNat (xq m v0 g0 e0 g0.zu e0.head (IntKind.i64.wrap (e0.zi-1)))).map zH),lL w.ze,fU w.counts,lR w.zp],Cm {m with pc:=4},Ce (iz m v0 3 7 (IntKind.i64.wrap (e0.zi-1)))]);rw[<-estV,<-estG,<-estE]
 rfl
def Uh(w:Wor)(m:fi)(v0:fp)(g0:Gr)(e0:En)(sw:jd w)(ok:ir w)(hl:i64 m.listen)(hpc:m.pc=2)(hs:qd w m=true)(hat:ic w m v0 g0 e0)(hne:e0.next≠[])(hw:u64 m.word)(hh:u64 e0.head)(heq:e0.head=m.word)(s0: -1<=m.slot)(s1:m.slot<=2147483646){tk hd ac:Int}(htk:tk=g0.zu)(hhd:hd=Slp.ja m.word m.slot)(hac:ac=e0.zi):
  tj 127 [] [Cw w,Cm m] (.fq [Cw (mU w m v0 g0 e0 tk hd ac),Cm {m with pc:=3},Ce {iz m v0 4 8 m.slot with qY:=true}]) []:=by
 have lv:=hat.ln.lv;have lg:=hat.ln.lg;have le:=hat.ln.le;have lF:=sw.zd.2 v0 (dY hat.at_);have hp:BO w.zd m.version.toNat v0 m.zg.toNat g0 m.end_.toNat e0:=⟨⟨⟨lF.2 g0 (dY hat.fG),hat.fP,hne⟩,lF,hat.fG⟩,sw.zd,hat.at_⟩;have ownV:∀i,∀r∈fS w m v0 (i),∀c∈r,zx c=true:=λi=>zy (enc:=zH) (λ_=>J) J _ _
 have ownG:∀i t,∀r∈fL m v0 g0 (t) (i),∀c∈r,zx c=true:=λi t=>zy (enc:=zE) (λ_=>J) J _ _
 have ownE:∀i a b,∀r∈fF m g0 e0 (a) (i) (b),∀c∈r,zx c=true:=λi a b=>zy (enc:=zA) (λ_=>J) J _ _
 have gv:(fS w m v0 (6))[m.version.toNat]?=some ((encS v0.snap++[C.sl (6) [] 2 0 v0.zo.length false,Bo v0.zW])):=gk tP;have gg:(fL m v0 g0 (tk) (7))[m.zg.toNat]?=some ([U (tk),C.sl (7) [] 3 0 g0.ends.length false]):=gk tM;have ge:(fF m g0 e0 (hd) (8) (ac))[m.end_.toNat]?=some ([U (hd),C.sl (8) [] 1 0 e0.next.length false,I (ac)]):=gk tJ;have estE:((fF m g0 e0 (hd) (8) (ac)).set m.end_.toNat [U hd,C.fh 0 1 (e0.next.map encI),I ac])=(g0.ends.set m.end_.toNat (qs e0 hd ac)).map zA:=cK
 have estG:((fL m v0 g0 (tk) (7)).set m.zg.toNat [U tk,C.fh 0 3 (((g0.ends.set m.end_.toNat (qs e0 hd ac)).map zA))])=(v0.zo.set m.zg.toNat (yT m g0 e0 tk hd ac)).map zE:=cL
 have estV:((fS w m v0 (6)).set m.version.toNat (encS v0.snap++[C.fh 0 2 (((v0.zo.set m.zg.toNat (yT m g0 e0 tk hd ac)).map zE)),Bo v0.zW]))=(w.zd.set m.version.toNat (xq m v0 g0 e0 tk hd ac)).map zH:=cM
 have eshE:∀r∈((fF m g0 e0 (hd) (8) (ac)).set m.end_.toNat [U hd,C.fh 0 1 (e0.next.map encI),I ac]),∀c∈r,jc c=true/\zx c=true:=by
  exact dg
 have eshG:∀r∈((fL m v0 g0 (tk) (7)).set m.zg.toNat [U tk,C.fh 0 3 ((fF m g0 e0 (hd) (8) (ac)).set m.end_.toNat [U hd,C.fh 0 1 (e0.next.map encI),I ac])]),∀c∈r,jc c=true/\zx c=true:=by
  exact de
 have eshV:∀r∈((fS w m v0 (6)).set m.version.toNat (encS v0.snap++[C.fh 0 2 ((fL m v0 g0 (tk) (7)).set m.zg.toNat [U tk,C.fh 0 3 ((fF m g0 e0 (hd) (8) (ac)).set m.end_.toNat [U hd,C.fh 0 1 (e0.next.map encI),I ac])]),Bo v0.zW])),∀c∈r,jc c=true/\zx c=true:=by
  exact dc
 have a0:=hat.v0;have b0:=hat.g0;have c0:=hat.e0;have e1:0+m.version.toNat=m.version.toNat:=gP _;have e2:0+m.zg.toNat=m.zg.toNat:=gP _;have e3:0+m.end_.toNat=m.end_.toNat:=gP _;have gg0:(fL m v0 g0 (g0.zu) (7))[m.zg.toNat]?=some ([U (g0.zu),C.sl (7) [] 3 0 g0.ends.length false]):=gk tM;have ge0:(fF m g0 e0 (e0.head) (8) (e0.zi))[m.end_.toNat]?=some ([U (e0.head),C.sl (8) [] 1 0 e0.next.length false,I (e0.zi)]):=gk tJ;refine ab func127 ?_;(repeat (first|refine uA ?_|refine uB ?_))
 refine ah (zP w m ok hl) ?_;refine⟨λ_=>dd ?_,λh=>absurd ((hs).symm.trans h:true=false) ar⟩;(repeat (first|refine uA ?_|refine uB ?_))
 refine hZ ?_
 refine zZ [] [oW w,oM m,⟨1,38,8,[iQ],0⟩,⟨1,95,44,[iP],0⟩,oE qG,⟨1,0,5,fS w m v0 (6),0⟩,⟨1,0,2,fL m v0 g0 (g0.zu) (7),0⟩,⟨1,0,3,fF m g0 e0 (e0.head) (8) (e0.zi),0⟩,⟨2,3,1,e0.next.map encI,0⟩] (rx:=.agg (iZ w 5)) (yU w sw w.zd J hp) (zc (zj (ownV 1)) (zc (zj (ownG 2 _)) (zc (zj (ownE 3 _ _)) J))) J J J J J uV J (dd ?_);refine uE ?_;refine⟨a0,lv,dd ?_⟩;rw[e1];refine⟨_,gv,cD,dd ?_⟩;refine⟨b0,lg,dd ?_⟩;rw[e2];refine⟨_,gg0,cF,dd ?_⟩;refine⟨c0,le,dd ?_⟩;rw[e3];refine ah (Slp.qN m.word hw) ?_;refine .inr ⟨⟨[0,1,5,6,7],[0,1,7],true⟩,au,λ_=>(zc J (zc J (zc J (zc J (zc J (zc (zj (ownV 6)) (zc (zj (ownG 7 _)) (zc (zj (ownE 8 _ _)) J)))))))),_,uH ?_,λt2 H2 h=>h⟩;refine⟨_,ge0,cH,uH ?_⟩;refine⟨_,ai [] (Slp.qN e0.head hh),uH ?_⟩;refine⟨_,ai [] (vp w m v0 hat.tooT 1 8 (e0.head%4294967296-1)),uH ?_⟩;(refine⟨uH ?_,trivial⟩);(refine⟨(zc J (zc J (zc J (zc J (zc J (zc (zj (ownV 6)) (zc (zj (ownG 7 _)) (zc (zj (ownE 8 _ _)) J)))))))),uH ?_⟩);refine hU ?_
 (refine⟨uH ?_,trivial⟩);(refine⟨(zc J (zc J (zc J (zc J (zc J (zc (zj (ownV 6)) (zc (zj (ownG 7 _)) (zc (zj (ownE 8 _ _)) J)))))))),uH ?_⟩);refine hU ?_
 (refine⟨_,_,.refl _,uH ?_⟩)
 (repeat (first|refine uA ?_|refine uB ?_))
 refine uE ?_;refine⟨_,ge0,cH,dd ?_⟩;refine⟨λh=>absurd h (by simp[heq]),λ_=>dd ?_⟩;refine ah (Slp.HY m.word m.slot hw s0 s1) ?_;refine⟨_,ge0,rfl,dd ?_⟩;rw[pb];subst htk hhd hac;refine .inl ⟨⟨false,[1],[1],[]⟩,au,uH ?_⟩;refine hU ?_
 refine nn.go J (uH ?_);rw[show IntKind.i64.wrap (m.pc+1)=3 from cI];refine .inl ⟨⟨false,[0,1,2],[9,1,10],[]⟩,au,uH ?_⟩;refine hU ?_
 refine⟨.inl J,_,(((zq.zV 7 m.end_.toNat 1 J ge J J (.inr J) aj aj (shut_map (enc:=encI) (λ_=>J) _) (ownE 8 _ _)).trans (zq.zV 6 m.zg.toNat 1 J gg J J (.inl J) aj aj eshE (ownG 7 _))).trans (zq.zV 5 m.version.toNat 3 J gv J J (.inl J) aj aj eshG (ownV 6))).trans (zq.zV 2 0 4 J J J J (.inl J) aj aj eshV (qa J)),?_⟩;show _=some (C.fq [C.agg [I w.zl,I w.current,I w.lock,lI w.pins,C.fh 0 5 ((w.zd.set m.version.toNat (xq m v0 g0 e0 g0.zu (Slp.ja m.word m.slot) e0.zi)).map zH),lL w.ze,fU w.counts,lR w.zp],Cm {m with pc:=3},Ce {iz m v0 4 8 m.slot with qY:=true}]);rw[<-estV,<-estG,<-estE]
 rfl
abbrev vQ(m:fi)(e0:En):En:={e0 with next:=(e0.next.set m.slot.toNat (m.word%4294967296-1))}
def Ug(w:Wor)(m:fi)(v0:fp)(g0:Gr)(e0:En)(sw:jd w)(ok:ir w)(hl:i64 m.listen)(hpc:m.pc=1)(hs:qd w m=true)(hat:ic w m v0 g0 e0)(hne:e0.next≠[])(hw:u64 m.word)(hh:u64 e0.head)(s0:0<=m.slot)(s1:m.slot.toNat<e0.next.length){tk hd ac:Int}(htk:tk=g0.zu)(hhd:hd=e0.head)(hac:ac=e0.zi):
  tj 127 [] [Cw w,Cm m] (.fq [Cw (mU w m v0 g0 (vQ m e0) tk hd ac),Cm {m with pc:=2},Ce (iz m v0 2 9 (m.word%4294967296-1))]) []:=by
 have estE1:((fF m g0 e0 (e0.head) (8) (e0.zi)).set m.end_.toNat [U e0.head,C.fh 0 1 ((e0.next.set m.slot.toNat (m.word%4294967296-1)).map encI),I e0.zi])=(g0.ends.set m.end_.toNat (qs (vQ m e0) e0.head e0.zi)).map zA:=by rw[pb];exact jF zA _ _ (qs (vQ m e0) e0.head e0.zi) _ J
 have estG1:((fL m v0 g0 (g0.zu) (7)).set m.zg.toNat [U g0.zu,C.fh 0 3 (((g0.ends.set m.end_.toNat (qs (vQ m e0) e0.head e0.zi)).map zA))])=(v0.zo.set m.zg.toNat (yT m g0 (vQ m e0) g0.zu e0.head e0.zi)).map zE:=by rw[pb];exact jF zE _ _ (yT m g0 (vQ m e0) g0.zu e0.head e0.zi) _ J
 have estV1:((fS w m v0 (6)).set m.version.toNat (encS v0.snap++[C.fh 0 2 (((v0.zo.set m.zg.toNat (yT m g0 (vQ m e0) g0.zu e0.head e0.zi)).map zE)),Bo v0.zW]))=(w.zd.set m.version.toNat (xq m v0 g0 (vQ m e0) g0.zu e0.head e0.zi)).map zH:=by rw[pb];exact jF zH _ _ (xq m v0 g0 (vQ m e0) g0.zu e0.head e0.zi) _ J
 have eshE1:∀r∈((fF m g0 e0 (e0.head) (8) (e0.zi)).set m.end_.toNat [U e0.head,C.fh 0 1 ((e0.next.set m.slot.toNat (m.word%4294967296-1)).map encI),I e0.zi]),∀c∈r,jc c=true/\zx c=true:=by
  rw[estE1];exact shut_map (enc:=zA) (λ_=>J) _
 have eshG1:∀r∈((fL m v0 g0 (g0.zu) (7)).set m.zg.toNat [U g0.zu,C.fh 0 3 ((fF m g0 e0 (e0.head) (8) (e0.zi)).set m.end_.toNat [U e0.head,C.fh 0 1 ((e0.next.set m.slot.toNat (m.word%4294967296-1)).map encI),I e0.zi])]),∀c∈r,jc c=true/\zx c=true:=by
  rw[estE1,estG1];exact shut_map (enc:=zE) (λ_=>J) _
 have eshV1:∀r∈((fS w m v0 (6)).set m.version.toNat (encS v0.snap++[C.fh 0 2 ((fL m v0 g0 (g0.zu) (7)).set m.zg.toNat [U g0.zu,C.fh 0 3 ((fF m g0 e0 (e0.head) (8) (e0.zi)).set m.end_.toNat [U e0.head,C.fh 0 1 ((e0.next.set m.slot.toNat (m.word%4294967296-1)).map encI),I e0.zi])]),Bo v0.zW])),∀c∈r,jc c=true/\zx c=true:=by
  rw[estE1,estG1,estV1];exact shut_map (enc:=zH) (λ_=>J) _
 have gn:(e0.next.map Hy.encI)[m.slot.toNat]?=some (Hy.encI (e0.next[m.slot.toNat]'s1)):=by rw[gf,dX s1];rfl
 have hst:(e0.next.map Hy.encI).set m.slot.toNat [I (m.word%4294967296-1)]=(e0.next.set m.slot.toNat (m.word%4294967296-1)).map Hy.encI:=bR
 have e4:0+m.slot.toNat=m.slot.toNat:=gP _;have lv:=hat.ln.lv;have lg:=hat.ln.lg;have le:=hat.ln.le;have lF:=sw.zd.2 v0 (dY hat.at_);have hp:BO w.zd m.version.toNat v0 m.zg.toNat g0 m.end_.toNat e0:=⟨⟨⟨lF.2 g0 (dY hat.fG),hat.fP,hne⟩,lF,hat.fG⟩,sw.zd,hat.at_⟩;have ownV:∀i,∀r∈fS w m v0 (i),∀c∈r,zx c=true:=λi=>zy (enc:=zH) (λ_=>J) J _ _
 have ownG:∀i t,∀r∈fL m v0 g0 (t) (i),∀c∈r,zx c=true:=λi t=>zy (enc:=zE) (λ_=>J) J _ _
 have ownE:∀i a b,∀r∈fF m g0 e0 (a) (i) (b),∀c∈r,zx c=true:=λi a b=>zy (enc:=zA) (λ_=>J) J _ _
 have gv:(fS w m v0 (6))[m.version.toNat]?=some ((encS v0.snap++[C.sl (6) [] 2 0 v0.zo.length false,Bo v0.zW])):=gk tP;have gg:(fL m v0 g0 (tk) (7))[m.zg.toNat]?=some ([U (tk),C.sl (7) [] 3 0 g0.ends.length false]):=gk tM;have ge:(fF m g0 e0 (hd) (8) (ac))[m.end_.toNat]?=some ([U (hd),C.sl (8) [] 1 0 e0.next.length false,I (ac)]):=gk tJ;have estE:((fF m g0 e0 (hd) (8) (ac)).set m.end_.toNat [U hd,C.fh 0 1 (e0.next.map encI),I ac])=(g0.ends.set m.end_.toNat (qs e0 hd ac)).map zA:=cK
 have estG:((fL m v0 g0 (tk) (7)).set m.zg.toNat [U tk,C.fh 0 3 (((g0.ends.set m.end_.toNat (qs e0 hd ac)).map zA))])=(v0.zo.set m.zg.toNat (yT m g0 e0 tk hd ac)).map zE:=cL
 have estV:((fS w m v0 (6)).set m.version.toNat (encS v0.snap++[C.fh 0 2 (((v0.zo.set m.zg.toNat (yT m g0 e0 tk hd ac)).map zE)),Bo v0.zW]))=(w.zd.set m.version.toNat (xq m v0 g0 e0 tk hd ac)).map zH:=cM
 have eshE:∀r∈((fF m g0 e0 (hd) (8) (ac)).set m.end_.toNat [U hd,C.fh 0 1 (e0.next.map encI),I ac]),∀c∈r,jc c=true/\zx c=true:=by
  exact dg
 have eshG:∀r∈((fL m v0 g0 (tk) (7)).set m.zg.toNat [U tk,C.fh 0 3 ((fF m g0 e0 (hd) (8) (ac)).set m.end_.toNat [U hd,C.fh 0 1 (e0.next.map encI),I ac])]),∀c∈r,jc c=true/\zx c=true:=by
  exact de
 have eshV:∀r∈((fS w m v0 (6)).set m.version.toNat (encS v0.snap++[C.fh 0 2 ((fL m v0 g0 (tk) (7)).set m.zg.toNat [U tk,C.fh 0 3 ((fF m g0 e0 (hd) (8) (ac)).set m.end_.toNat [U hd,C.fh 0 1 (e0.next.map encI),I ac])]),Bo v0.zW])),∀c∈r,jc c=true/\zx c=true:=by
  exact dc
 have a0:=hat.v0;have b0:=hat.g0;have c0:=hat.e0;have e1:0+m.version.toNat=m.version.toNat:=gP _;have e2:0+m.zg.toNat=m.zg.toNat:=gP _;have e3:0+m.end_.toNat=m.end_.toNat:=gP _;have gg0:(fL m v0 g0 (g0.zu) (7))[m.zg.toNat]?=some ([U (g0.zu),C.sl (7) [] 3 0 g0.ends.length false]):=gk tM;have ge0:(fF m g0 e0 (e0.head) (8) (e0.zi))[m.end_.toNat]?=some ([U (e0.head),C.sl (8) [] 1 0 e0.next.length false,I (e0.zi)]):=gk tJ;refine ab func127 ?_;(repeat (first|refine uA ?_|refine uB ?_))
 refine ah (zP w m ok hl) ?_;refine⟨λ_=>dd ?_,λh=>absurd ((hs).symm.trans h:true=false) ar⟩;(repeat (first|refine uA ?_|refine uB ?_))
 refine hZ ?_
 refine zZ [] [oW w,oM m,⟨1,38,8,[iQ],0⟩,⟨1,95,44,[iP],0⟩,oE qG,⟨1,0,5,fS w m v0 (6),0⟩,⟨1,0,2,fL m v0 g0 (g0.zu) (7),0⟩,⟨1,0,3,fF m g0 e0 (e0.head) (8) (e0.zi),0⟩,⟨2,3,1,e0.next.map encI,0⟩] (rx:=.agg (iZ w 5)) (yU w sw w.zd J hp) (zc (zj (ownV 1)) (zc (zj (ownG 2 _)) (zc (zj (ownE 3 _ _)) J))) J J J J J uV J (dd ?_);refine uE ?_;refine⟨a0,lv,dd ?_⟩;rw[e1];refine⟨_,gv,cD,dd ?_⟩;refine⟨b0,lg,dd ?_⟩;rw[e2];refine⟨_,gg0,cF,dd ?_⟩;refine⟨c0,le,dd ?_⟩;rw[e3];refine ah (Slp.qN m.word hw) ?_;refine .inr ⟨⟨[0,1,5,6,7],[0,1,7],true⟩,au,λ_=>(zc J (zc J (zc J (zc J (zc J (zc (zj (ownV 6)) (zc (zj (ownG 7 _)) (zc (zj (ownE 8 _ _)) J)))))))),_,uH ?_,λt2 H2 h=>h⟩;refine⟨_,ge0,cH,uH ?_⟩;refine⟨_,ai [] (Slp.qN e0.head hh),uH ?_⟩;refine⟨_,ai [] (vp w m v0 hat.tooT 1 8 (e0.head%4294967296-1)),uH ?_⟩;(refine⟨uH ?_,trivial⟩);(refine⟨(zc J (zc J (zc J (zc J (zc J (zc (zj (ownV 6)) (zc (zj (ownG 7 _)) (zc (zj (ownE 8 _ _)) J)))))))),uH ?_⟩);refine hU ?_
 (refine⟨uH ?_,trivial⟩);(refine⟨(zc J (zc J (zc J (zc J (zc J (zc (zj (ownV 6)) (zc (zj (ownG 7 _)) (zc (zj (ownE 8 _ _)) J)))))))),uH ?_⟩);refine hU ?_
 (refine⟨_,_,.refl _,uH ?_⟩)
 (repeat (first|refine uA ?_|refine uB ?_))
 subst htk hhd hac;refine uE ?_;refine⟨_,ge0,(by show 1+1<=3;decide),dd ?_⟩;refine⟨s0,s1,dd ?_⟩;rw[e4];refine⟨_,gn,rfl,dd ?_⟩;rw[hst];refine nn.go J (uH ?_);rw[show IntKind.i64.wrap (m.pc+1)=2 from cI];refine .inl ⟨⟨false,[0,1,2],[9,1,10],[]⟩,au,uH ?_⟩;refine hU ?_
 refine⟨.inl J,_,(((zq.zV 7 m.end_.toNat 1 J ge J J (.inr J) aj aj (shut_map (enc:=encI) (λ_=>J) _) (ownE 8 _ _)).trans (zq.zV 6 m.zg.toNat 1 J gg J J (.inl J) aj aj eshE1 (ownG 7 _))).trans (zq.zV 5 m.version.toNat 3 J gv J J (.inl J) aj aj eshG1 (ownV 6))).trans (zq.zV 2 0 4 J J J J (.inl J) aj aj eshV1 (qa J)),?_⟩;show _=some (C.fq [C.agg [I w.zl,I w.current,I w.lock,lI w.pins,C.fh 0 5 ((w.zd.set m.version.toNat (xq m v0 g0 (vQ m e0) g0.zu e0.head e0.zi)).map zH),lL w.ze,fU w.counts,lR w.zp],Cm {m with pc:=2},Ce (iz m v0 2 9 (m.word%4294967296-1))]);rw[<-estV1,<-estG1,<-estE1]
 rfl
abbrev JY(m:fi):fA:=⟨6,m.version,m.zg,m.end_,m.slot,m.listen,0,⟨0,0,0,0,0,0⟩⟩
abbrev PH(m:fi)(x:fI):fk:={qG with zf:=m.zf,access:=3,cell:=5,version:= -1,value:=IntKind.i64.wrap (x.zi-1),done:=true,answer:=JY m}
abbrev BT(x:fI):fI:={x with zi:=IntKind.i64.wrap (x.zi-1)}
def Uj(w:Wor)(m:fi)(v:fp)(g:Gr)(e:En)(x:fI)(sw:jd w)(ok:ir w)(hl:i64 m.listen)(hpc:m.pc=4)(hs:qd w m=true)(hat:ic w m v g e)(hw:u64 m.word)(hh:u64 e.head)(hli:0<=m.listen)(hx:w.ze[m.listen.toNat]?=some x):
  tj 127 [] [Cw w,Cm m] (.fq [Cw {w with ze:=w.ze.set m.listen.toNat (BT x)},Cm {m with answer:=JY m,done:=true},Ce (PH m x)]) []:=by
 have a0:=hat.v0;have a1:=hat.tooT.row;have b0:=hat.g0;have b1:(v.zo.map zE)[m.zg.toNat]?=some (zE g):=by rw[gf,hat.fG];rfl
 have c0:=hat.e0;have c1:(g.ends.map zA)[m.end_.toNat]?=some (zA e):=by rw[gf,hat.fP];rfl
 have hn:¬m.listen<0:=aw
 have lt:m.listen.toNat<w.ze.length:=(dW.1 hx).1;have gl:(w.ze.map qP)[m.listen.toNat]?=some (qP x):=by rw[gf,hx];rfl
 have hst:(w.ze.map qP).set m.listen.toNat [Tx x.name,Bo x.drain,I (IntKind.i64.wrap (x.zi-1)),Bo x.closed]=(w.ze.set m.listen.toNat (BT x)).map qP:=bR
 have gl2:((w.ze.set m.listen.toNat (BT x)).map qP)[m.listen.toNat]?=some (qP (BT x)):=by rw[gf,gk lt];rfl
 have e1:0+m.listen.toNat=m.listen.toNat:=gP _
 obtain⟨y,l,hy⟩:∃y l,w.ze=y::l:=by
  cases h:w.ze with
  |nil=>rw[h]at lt;simp at lt
  |cons y l=>exact⟨y,l,rfl⟩
 refine ab func127 ?_;(repeat (first|refine uA ?_|refine uB ?_))
 refine ah (zP w m ok hl) ?_;refine⟨λ_=>dd ?_,λh=>absurd ((hs).symm.trans h:true=false) ar⟩;(repeat (first|refine uA ?_|refine uB ?_))
 refine hZ ?_
 refine af [] (vG w sw y l hy) ?_;refine uE ?_;(refine⟨a0,_,a1,dd ?_⟩)
 (refine⟨b0,_,b1,dd ?_⟩)
 (refine⟨c0,_,c1,dd ?_⟩)
 refine ah (Slp.qN m.word hw) ?_;refine .inr ⟨⟨[0,1,5,6,7],[0,1],true⟩,au,λ_=>J,_,uH ?_,λt2 H2 h=>h⟩;refine⟨_,ai [] (Slp.qN e.head hh),uH ?_⟩;refine⟨_,ai [] (vp w m v hat.tooT 1 8 (e.head%4294967296-1)),uH ?_⟩;(refine⟨uH ?_,trivial⟩);refine hU ?_
 (refine⟨uH ?_,trivial⟩);refine hU ?_
 (refine⟨_,_,.refl _,uH ?_⟩)
 (repeat (first|refine uA ?_|refine uB ?_))
 refine⟨hli,lt,dd ?_⟩;rw[e1];refine⟨_,gl,cz,dd ?_⟩;refine⟨_,gl,rfl,dd ?_⟩;rw[hst];refine uE ?_;refine⟨_,gl2,cz,dd ?_⟩;refine nn.go J (uH ?_);refine .inl ⟨⟨false,[0,1,2],[6,1,7],[]⟩,au,uH ?_⟩;refine hU ?_
 exact⟨.inl J,_,zq.zV 2 0 5 J J J J (.inr J) aj aj (shut_map (enc:=qP) (λ_=>J) _) (qa J),rfl⟩
end Go.Wor
