import Derived.Test.YtllehbdigpdinaaGreatSX
set_option linter.all false
set_option maxRecDepth 100000
set_option maxHeartbeats 4000000
namespace Go.Wor
open Go.Ab Go.Proofs Tryz Go.Hy Go.Gat Go.Nam Go.Hos Go.Con Go.Sna
def vb(w:Wor)(m:eR)(v:fc)(hv:oq w m v)(a b c:Int):tn 164 [] [Cw w,Cm m,I a,I b,I c] (Ce (ib m v a b c)) []:=by
 have h0:=hv.v0;have hr:=hv.row;obtain⟨sn,gs,fr⟩:=v;cases fr
 all_goals
  refine ab func164 ?_;refine uE ?_;(refine⟨h0,_,hr,dd ?_⟩)
  first|((refine ya (dd ?_)))|((refine yb (dd ?_)))
  exact uI
def Uw(w:Wor)(m:eR)(v:fc)(g:Gr)(e:En)(sw:q8 w)(ok:fY w)(hl:i64 m.listen)(hpc:m.pc=0)(hs:zY w m=true)(hat:fS w m v g e)(hw:u64 m.word)(hh:u64 e.head):
  tn 134 [] [Cw w,Cm m] (.fb [Cw w,Cm {m with word:=e.head,pc:=1},Ce (ib m v 1 8 (e.head%4294967296-1))]) []:=by
 have a0:=hat.v0;have a1:=hat.tooq.row;have b0:=hat.g0;have b1:(v.zq.map zK)[m.zj.toNat]?=some (zK g):=by rw[gj,hat.fE];rfl
 have c0:=hat.e0;have c1:(g.ends.map zD)[m.end_.toNat]?=some (zD e):=by rw[gj,hat.fL];rfl
 refine ab func134 ?_;(repeat (first|refine uA ?_|refine uB ?_))
 refine ah (zO w m ok hl) ?_;refine⟨λ_=>dd ?_,λh=>absurd ((hs).symm.trans h:true=false) ar⟩;(repeat (first|refine uA ?_|refine uB ?_))
 refine tc ?_
 refine ah (qw w sw) ?_;refine uE ?_;(refine⟨a0,_,a1,dd ?_⟩)
 (refine⟨b0,_,b1,dd ?_⟩)
 (refine⟨c0,_,c1,dd ?_⟩)
 refine ah (Slp.qI m.word hw) ?_;refine .inr ⟨⟨[0,1,5,6,7],[0,1],true⟩,au,λ_=>O,_,uH ?_,λt2 H2 h=>h⟩;refine⟨_,ai [] (Slp.qI e.head hh),uH ?_⟩;refine⟨_,ai [] (vb w m v hat.tooq 1 8 (e.head%4294967296-1)),uH ?_⟩;(refine⟨uH ?_,trivial⟩);refine hZ ?_
 (refine⟨uH ?_,trivial⟩);refine hZ ?_
 (refine⟨_,_,.refl _,uH ?_⟩)
 (repeat (first|refine uA ?_|refine uB ?_))
 refine mP.go O (uH ?_);rw[show IntKind.i64.wrap (m.pc+1)=1 from cU];refine .inl ⟨⟨false,[0,1,2],[5,1,6],[]⟩,au,uH ?_⟩;refine hZ ?_
 exact uI
abbrev PI(m:eR):eV:={qz with zf:=m.zf,access:=1,version:= -1,done:=true,answer:=lH 7}
def UB(w:Wor)(m:eR)(v:fc)(g:Gr)(e:En)(sw:q8 w)(ok:fY w)(hl:i64 m.listen)(hpc:m.pc=9)(hs:zY w m=true)(hat:fS w m v g e)(hw:u64 m.word)(hh:u64 e.head):
  tn 134 [] [Cw w,Cm m] (.fb [Cw w,Cm {m with answer:=lH 7,done:=true},Ce (PI m)]) []:=by
 have a0:=hat.v0;have a1:=hat.tooq.row;have b0:=hat.g0;have b1:(v.zq.map zK)[m.zj.toNat]?=some (zK g):=by rw[gj,hat.fE];rfl
 have c0:=hat.e0;have c1:(g.ends.map zD)[m.end_.toNat]?=some (zD e):=by rw[gj,hat.fL];rfl
 refine ab func134 ?_;(repeat (first|refine uA ?_|refine uB ?_))
 refine ah (zO w m ok hl) ?_;refine⟨λ_=>dd ?_,λh=>absurd ((hs).symm.trans h:true=false) ar⟩;(repeat (first|refine uA ?_|refine uB ?_))
 refine tc ?_
 refine ah (qw w sw) ?_;refine uE ?_;(refine⟨a0,_,a1,dd ?_⟩)
 (refine⟨b0,_,b1,dd ?_⟩)
 (refine⟨c0,_,c1,dd ?_⟩)
 refine ah (Slp.qI m.word hw) ?_;refine .inr ⟨⟨[0,1,5,6,7],[0,1],true⟩,au,λ_=>O,_,uH ?_,λt2 H2 h=>h⟩;refine⟨_,ai [] (Slp.qI e.head hh),uH ?_⟩;refine⟨_,ai [] (vb w m v hat.tooq 1 8 (e.head%4294967296-1)),uH ?_⟩;(refine⟨uH ?_,trivial⟩);refine hZ ?_
 (refine⟨uH ?_,trivial⟩);refine hZ ?_
 (refine⟨_,_,.refl _,uH ?_⟩)
 (repeat (first|refine uA ?_|refine uB ?_))
 refine mP.go O (uH ?_);refine .inl ⟨⟨false,[0,1,2],[5,1,6],[]⟩,au,uH ?_⟩;refine hZ ?_
 exact uI
def Uz(w:Wor)(m:eR)(v0:fc)(g0:Gr)(e0:En)(sw:q8 w)(ok:fY w)(hl:i64 m.listen)(hpc:m.pc=3)(hs:zY w m=true)(hat:fS w m v0 g0 e0)(hne:e0.next≠[])(hw:u64 m.word)(hh:u64 e0.head){tk hd ac:Int}(htk:tk=g0.zt)(hhd:hd=e0.head)(hac:ac=IntKind.i64.wrap (e0.zi-1)):
  tn 134 [] [Cw w,Cm m] (.fb [Cw (mE w m v0 g0 e0 tk hd ac),Cm {m with pc:=4},Ce (ib m v0 3 7 ac)]) []:=by
 obtain⟨hp,ownV,ownG,ownE,gv,gg,ge,estE,estG,estV,eshE,eshG,eshV⟩:=C0 tk hd ac sw hat hne;have a0:=hat.v0;have b0:=hat.g0;have c0:=hat.e0;have e1:0+m.version.toNat=m.version.toNat:=gI _;have e2:0+m.zj.toNat=m.zj.toNat:=gI _;have e3:0+m.end_.toNat=m.end_.toNat:=gI _;refine ab func134 ?_;(repeat (first|refine uA ?_|refine uB ?_))
 refine ah (zO w m ok hl) ?_;refine⟨λ_=>dd ?_,λh=>absurd ((hs).symm.trans h:true=false) ar⟩;(repeat (first|refine uA ?_|refine uB ?_))
 refine tc ?_
 refine zX [] [oW w,oM m,⟨1,38,8,[iG],0⟩,⟨1,68,44,[iF],0⟩,oE qz,⟨1,0,5,ia w m v0 (6),0⟩,⟨1,0,2,fX m v0 g0 (g0.zt) (7),0⟩,⟨1,0,3,fQ m g0 e0 (e0.head) (8) (e0.zi),0⟩,⟨2,3,1,e0.next.map encI,0⟩] (rx:=.agg (iL w 5)) (yM w sw w.ze O hp) (zc (zg (ownV 1)) (zc (zg (ownG 2 _)) (zc (zg (ownE 3 _ _)) O))) O O O O O uV O (dd ?_);refine uE ?_;refine⟨a0,hat.ln.lv,dd ?_⟩;rw[e1];refine⟨_,gv,cQ,dd ?_⟩;refine⟨b0,hat.ln.lg,dd ?_⟩;rw[e2];refine⟨_,gg _,cR,dd ?_⟩;refine⟨c0,hat.ln.le,dd ?_⟩;rw[e3];refine ah (Slp.qI m.word hw) ?_;refine .inr ⟨⟨[0,1,5,6,7],[0,1,7],true⟩,au,λ_=>(zc O (zc O (zc O (zc O (zc O (zc (zg (ownV 6)) (zc (zg (ownG 7 _)) (zc (zg (ownE 8 _ _)) O)))))))),_,uH ?_,λt2 H2 h=>h⟩;refine⟨_,ge _ _,cT,uH ?_⟩;refine⟨_,ai [] (Slp.qI e0.head hh),uH ?_⟩;refine⟨_,ai [] (vb w m v0 hat.tooq 1 8 (e0.head%4294967296-1)),uH ?_⟩;(refine⟨uH ?_,trivial⟩);(refine⟨(zc O (zc O (zc O (zc O (zc O (zc (zg (ownV 6)) (zc (zg (ownG 7 _)) (zc (zg (ownE 8 _ _)) O)))))))),uH ?_⟩);refine hZ ?_
 (refine⟨uH ?_,trivial⟩);(refine⟨(zc O (zc O (zc O (zc O (zc O (zc (zg (ownV 6)) (zc (zg (ownG 7 _)) (zc (zg (ownE 8 _ _)) O)))))))),uH ?_⟩);refine hZ ?_
 (refine⟨_,_,.refl _,uH ?_⟩)
 (repeat (first|refine uA ?_|refine uB ?_))
 refine⟨_,ge _ _,cS,dd ?_⟩;refine⟨_,ge _ _,rfl,dd ?_⟩;rw[g8];subst htk hhd hac;refine .inl ⟨⟨false,[3],[7],[]⟩,au,uH ?_⟩;refine⟨_,ge _ _,cS,dd ?_⟩;refine hZ ?_
 refine mP.go O (uH ?_);rw[show IntKind.i64.wrap (m.pc+1)=4 from cU];refine .inl ⟨⟨false,[0,1,2],[9,1,10],[]⟩,au,uH ?_⟩;refine hZ ?_
 refine⟨.inl O,_,(((zn.zS 7 m.end_.toNat 1 O (ge _ _) O O (.inr O) aj aj (shut_map (enc:=encI) (λ_=>O) _) (ownE 8 _ _)).trans (zn.zS 6 m.zj.toNat 1 O (gg _) O O (.inl O) aj aj eshE (ownG 7 _))).trans (zn.zS 5 m.version.toNat 3 O gv O O (.inl O) aj aj eshG (ownV 6))).trans (zn.zS 2 0 4 O O O O (.inl O) aj aj eshV (z5 O)),?_⟩;show _=some (C.fb [C.agg [I w.zo,I w.current,I w.lock,lI w.pins,C.eS 0 5 ((w.ze.set m.version.toNat (kA m v0 g0 e0 g0.zt e0.head (IntKind.i64.wrap (e0.zi-1)))).map zN),lL w.zd,fK w.counts,lR w.zr],Cm {m with pc:=4},Ce (ib m v0 3 7 (IntKind.i64.wrap (e0.zi-1)))]);rw[<-estV,<-estG,<-estE]
 rfl
def Uy(w:Wor)(m:eR)(v0:fc)(g0:Gr)(e0:En)(sw:q8 w)(ok:fY w)(hl:i64 m.listen)(hpc:m.pc=2)(hs:zY w m=true)(hat:fS w m v0 g0 e0)(hne:e0.next≠[])(hw:u64 m.word)(hh:u64 e0.head)(heq:e0.head=m.word)(s0: -1<=m.slot)(s1:m.slot<=2147483646){tk hd ac:Int}(htk:tk=g0.zt)(hhd:hd=Slp.jb m.word m.slot)(hac:ac=e0.zi):
  tn 134 [] [Cw w,Cm m] (.fb [Cw (mE w m v0 g0 e0 tk hd ac),Cm {m with pc:=3},Ce {ib m v0 4 8 m.slot with zI:=true}]) []:=by
 obtain⟨hp,ownV,ownG,ownE,gv,gg,ge,estE,estG,estV,eshE,eshG,eshV⟩:=C0 tk hd ac sw hat hne;have a0:=hat.v0;have b0:=hat.g0;have c0:=hat.e0;have e1:0+m.version.toNat=m.version.toNat:=gI _;have e2:0+m.zj.toNat=m.zj.toNat:=gI _;have e3:0+m.end_.toNat=m.end_.toNat:=gI _;refine ab func134 ?_;(repeat (first|refine uA ?_|refine uB ?_))
 refine ah (zO w m ok hl) ?_;refine⟨λ_=>dd ?_,λh=>absurd ((hs).symm.trans h:true=false) ar⟩;(repeat (first|refine uA ?_|refine uB ?_))
 refine tc ?_
 refine zX [] [oW w,oM m,⟨1,38,8,[iG],0⟩,⟨1,68,44,[iF],0⟩,oE qz,⟨1,0,5,ia w m v0 (6),0⟩,⟨1,0,2,fX m v0 g0 (g0.zt) (7),0⟩,⟨1,0,3,fQ m g0 e0 (e0.head) (8) (e0.zi),0⟩,⟨2,3,1,e0.next.map encI,0⟩] (rx:=.agg (iL w 5)) (yM w sw w.ze O hp) (zc (zg (ownV 1)) (zc (zg (ownG 2 _)) (zc (zg (ownE 3 _ _)) O))) O O O O O uV O (dd ?_);refine uE ?_;refine⟨a0,hat.ln.lv,dd ?_⟩;rw[e1];refine⟨_,gv,cQ,dd ?_⟩;refine⟨b0,hat.ln.lg,dd ?_⟩;rw[e2];refine⟨_,gg _,cR,dd ?_⟩;refine⟨c0,hat.ln.le,dd ?_⟩;rw[e3];refine ah (Slp.qI m.word hw) ?_;refine .inr ⟨⟨[0,1,5,6,7],[0,1,7],true⟩,au,λ_=>(zc O (zc O (zc O (zc O (zc O (zc (zg (ownV 6)) (zc (zg (ownG 7 _)) (zc (zg (ownE 8 _ _)) O)))))))),_,uH ?_,λt2 H2 h=>h⟩;refine⟨_,ge _ _,cT,uH ?_⟩;refine⟨_,ai [] (Slp.qI e0.head hh),uH ?_⟩;refine⟨_,ai [] (vb w m v0 hat.tooq 1 8 (e0.head%4294967296-1)),uH ?_⟩;(refine⟨uH ?_,trivial⟩);(refine⟨(zc O (zc O (zc O (zc O (zc O (zc (zg (ownV 6)) (zc (zg (ownG 7 _)) (zc (zg (ownE 8 _ _)) O)))))))),uH ?_⟩);refine hZ ?_
 (refine⟨uH ?_,trivial⟩);(refine⟨(zc O (zc O (zc O (zc O (zc O (zc (zg (ownV 6)) (zc (zg (ownG 7 _)) (zc (zg (ownE 8 _ _)) O)))))))),uH ?_⟩);refine hZ ?_
 (refine⟨_,_,.refl _,uH ?_⟩)
 (repeat (first|refine uA ?_|refine uB ?_))
 refine uE ?_;refine⟨_,ge _ _,cT,dd ?_⟩;refine⟨λh=>absurd h (by simp[heq]),λ_=>dd ?_⟩;refine ah (Slp.HB m.word m.slot hw s0 s1) ?_;refine⟨_,ge _ _,rfl,dd ?_⟩;rw[g8];subst htk hhd hac;refine .inl ⟨⟨false,[1],[1],[]⟩,au,uH ?_⟩;refine hZ ?_
 refine mP.go O (uH ?_);rw[show IntKind.i64.wrap (m.pc+1)=3 from cU];refine .inl ⟨⟨false,[0,1,2],[9,1,10],[]⟩,au,uH ?_⟩;refine hZ ?_
 refine⟨.inl O,_,(((zn.zS 7 m.end_.toNat 1 O (ge _ _) O O (.inr O) aj aj (shut_map (enc:=encI) (λ_=>O) _) (ownE 8 _ _)).trans (zn.zS 6 m.zj.toNat 1 O (gg _) O O (.inl O) aj aj eshE (ownG 7 _))).trans (zn.zS 5 m.version.toNat 3 O gv O O (.inl O) aj aj eshG (ownV 6))).trans (zn.zS 2 0 4 O O O O (.inl O) aj aj eshV (z5 O)),?_⟩;show _=some (C.fb [C.agg [I w.zo,I w.current,I w.lock,lI w.pins,C.eS 0 5 ((w.ze.set m.version.toNat (kA m v0 g0 e0 g0.zt (Slp.jb m.word m.slot) e0.zi)).map zN),lL w.zd,fK w.counts,lR w.zr],Cm {m with pc:=3},Ce {ib m v0 4 8 m.slot with zI:=true}]);rw[<-estV,<-estG,<-estE]
 rfl
abbrev vD(m:eR)(e0:En):En:={e0 with next:=(e0.next.set m.slot.toNat (m.word%4294967296-1))}
def Ux(w:Wor)(m:eR)(v0:fc)(g0:Gr)(e0:En)(sw:q8 w)(ok:fY w)(hl:i64 m.listen)(hpc:m.pc=1)(hs:zY w m=true)(hat:fS w m v0 g0 e0)(hne:e0.next≠[])(hw:u64 m.word)(hh:u64 e0.head)(s0:0<=m.slot)(s1:m.slot.toNat<e0.next.length){tk hd ac:Int}(htk:tk=g0.zt)(hhd:hd=e0.head)(hac:ac=e0.zi):
  tn 134 [] [Cw w,Cm m] (.fb [Cw (mE w m v0 g0 (vD m e0) tk hd ac),Cm {m with pc:=2},Ce (ib m v0 2 9 (m.word%4294967296-1))]) []:=by
 have estE1:((fQ m g0 e0 (e0.head) (8) (e0.zi)).set m.end_.toNat [U e0.head,C.eS 0 1 ((e0.next.set m.slot.toNat (m.word%4294967296-1)).map encI),I e0.zi])=(g0.ends.set m.end_.toNat (qV (vD m e0) e0.head e0.zi)).map zD:=by rw[g8];exact CB zD _ _ (qV (vD m e0) e0.head e0.zi) _ O
 have estG1:((fX m v0 g0 (g0.zt) (7)).set m.zj.toNat [U g0.zt,C.eS 0 3 (((g0.ends.set m.end_.toNat (qV (vD m e0) e0.head e0.zi)).map zD))])=(v0.zq.set m.zj.toNat (Ak m g0 (vD m e0) g0.zt e0.head e0.zi)).map zK:=by rw[g8];exact CB zK _ _ (Ak m g0 (vD m e0) g0.zt e0.head e0.zi) _ O
 have estV1:((ia w m v0 (6)).set m.version.toNat (qv v0.snap++[C.eS 0 2 (((v0.zq.set m.zj.toNat (Ak m g0 (vD m e0) g0.zt e0.head e0.zi)).map zK)),Bo v0.qQ]))=(w.ze.set m.version.toNat (kA m v0 g0 (vD m e0) g0.zt e0.head e0.zi)).map zN:=by rw[g8];exact CB zN _ _ (kA m v0 g0 (vD m e0) g0.zt e0.head e0.zi) _ O
 have eshE1:∀r∈((fQ m g0 e0 (e0.head) (8) (e0.zi)).set m.end_.toNat [U e0.head,C.eS 0 1 ((e0.next.set m.slot.toNat (m.word%4294967296-1)).map encI),I e0.zi]),∀c∈r,xm c=true/\zB c=true:=by
  rw[estE1];exact shut_map (enc:=zD) (λ_=>O) _
 have eshG1:∀r∈((fX m v0 g0 (g0.zt) (7)).set m.zj.toNat [U g0.zt,C.eS 0 3 ((fQ m g0 e0 (e0.head) (8) (e0.zi)).set m.end_.toNat [U e0.head,C.eS 0 1 ((e0.next.set m.slot.toNat (m.word%4294967296-1)).map encI),I e0.zi])]),∀c∈r,xm c=true/\zB c=true:=by
  rw[estE1,estG1];exact shut_map (enc:=zK) (λ_=>O) _
 have eshV1:∀r∈((ia w m v0 (6)).set m.version.toNat (qv v0.snap++[C.eS 0 2 ((fX m v0 g0 (g0.zt) (7)).set m.zj.toNat [U g0.zt,C.eS 0 3 ((fQ m g0 e0 (e0.head) (8) (e0.zi)).set m.end_.toNat [U e0.head,C.eS 0 1 ((e0.next.set m.slot.toNat (m.word%4294967296-1)).map encI),I e0.zi])]),Bo v0.qQ])),∀c∈r,xm c=true/\zB c=true:=by
  rw[estE1,estG1,estV1];exact shut_map (enc:=zN) (λ_=>O) _
 have gn:(e0.next.map Hy.encI)[m.slot.toNat]?=some (Hy.encI (e0.next[m.slot.toNat]'s1)):=by rw[gj,dZ s1];rfl
 have hst:(e0.next.map Hy.encI).set m.slot.toNat [I (m.word%4294967296-1)]=(e0.next.set m.slot.toNat (m.word%4294967296-1)).map Hy.encI:=bT
 have e4:0+m.slot.toNat=m.slot.toNat:=gI _;obtain⟨hp,ownV,ownG,ownE,gv,gg,ge,estE,estG,estV,eshE,eshG,eshV⟩:=C0 tk hd ac sw hat hne;have a0:=hat.v0;have b0:=hat.g0;have c0:=hat.e0;have e1:0+m.version.toNat=m.version.toNat:=gI _;have e2:0+m.zj.toNat=m.zj.toNat:=gI _;have e3:0+m.end_.toNat=m.end_.toNat:=gI _;refine ab func134 ?_;(repeat (first|refine uA ?_|refine uB ?_))
 refine ah (zO w m ok hl) ?_;refine⟨λ_=>dd ?_,λh=>absurd ((hs).symm.trans h:true=false) ar⟩;(repeat (first|refine uA ?_|refine uB ?_))
 refine tc ?_
 refine zX [] [oW w,oM m,⟨1,38,8,[iG],0⟩,⟨1,68,44,[iF],0⟩,oE qz,⟨1,0,5,ia w m v0 (6),0⟩,⟨1,0,2,fX m v0 g0 (g0.zt) (7),0⟩,⟨1,0,3,fQ m g0 e0 (e0.head) (8) (e0.zi),0⟩,⟨2,3,1,e0.next.map encI,0⟩] (rx:=.agg (iL w 5)) (yM w sw w.ze O hp) (zc (zg (ownV 1)) (zc (zg (ownG 2 _)) (zc (zg (ownE 3 _ _)) O))) O O O O O uV O (dd ?_);refine uE ?_;refine⟨a0,hat.ln.lv,dd ?_⟩;rw[e1];refine⟨_,gv,cQ,dd ?_⟩;refine⟨b0,hat.ln.lg,dd ?_⟩;rw[e2];refine⟨_,gg _,cR,dd ?_⟩;refine⟨c0,hat.ln.le,dd ?_⟩;rw[e3];refine ah (Slp.qI m.word hw) ?_;refine .inr ⟨⟨[0,1,5,6,7],[0,1,7],true⟩,au,λ_=>(zc O (zc O (zc O (zc O (zc O (zc (zg (ownV 6)) (zc (zg (ownG 7 _)) (zc (zg (ownE 8 _ _)) O)))))))),_,uH ?_,λt2 H2 h=>h⟩;refine⟨_,ge _ _,cT,uH ?_⟩;refine⟨_,ai [] (Slp.qI e0.head hh),uH ?_⟩;refine⟨_,ai [] (vb w m v0 hat.tooq 1 8 (e0.head%4294967296-1)),uH ?_⟩;(refine⟨uH ?_,trivial⟩);(refine⟨(zc O (zc O (zc O (zc O (zc O (zc (zg (ownV 6)) (zc (zg (ownG 7 _)) (zc (zg (ownE 8 _ _)) O)))))))),uH ?_⟩);refine hZ ?_
 (refine⟨uH ?_,trivial⟩);(refine⟨(zc O (zc O (zc O (zc O (zc O (zc (zg (ownV 6)) (zc (zg (ownG 7 _)) (zc (zg (ownE 8 _ _)) O)))))))),uH ?_⟩);refine hZ ?_
 (refine⟨_,_,.refl _,uH ?_⟩)
 (repeat (first|refine uA ?_|refine uB ?_))
 subst htk hhd hac;refine uE ?_;refine⟨_,ge _ _,(by show 1+1<=3;decide),dd ?_⟩;refine⟨s0,s1,dd ?_⟩;rw[e4];refine⟨_,gn,rfl,dd ?_⟩;rw[hst];refine mP.go O (uH ?_);rw[show IntKind.i64.wrap (m.pc+1)=2 from cU];refine .inl ⟨⟨false,[0,1,2],[9,1,10],[]⟩,au,uH ?_⟩;refine hZ ?_
 refine⟨.inl O,_,(((zn.zS 7 m.end_.toNat 1 O (ge _ _) O O (.inr O) aj aj (shut_map (enc:=encI) (λ_=>O) _) (ownE 8 _ _)).trans (zn.zS 6 m.zj.toNat 1 O (gg _) O O (.inl O) aj aj eshE1 (ownG 7 _))).trans (zn.zS 5 m.version.toNat 3 O gv O O (.inl O) aj aj eshG1 (ownV 6))).trans (zn.zS 2 0 4 O O O O (.inl O) aj aj eshV1 (z5 O)),?_⟩;show _=some (C.fb [C.agg [I w.zo,I w.current,I w.lock,lI w.pins,C.eS 0 5 ((w.ze.set m.version.toNat (kA m v0 g0 (vD m e0) g0.zt e0.head e0.zi)).map zN),lL w.zd,fK w.counts,lR w.zr],Cm {m with pc:=2},Ce (ib m v0 2 9 (m.word%4294967296-1))]);rw[<-estV1,<-estG1,<-estE1]
 rfl
abbrev JV(m:eR):ff:=⟨6,m.version,m.zj,m.end_,m.slot,m.listen,0,⟨0,0,0,0,0,0⟩⟩
abbrev Px(m:eR)(x:fq):eV:={qz with zf:=m.zf,access:=3,cell:=5,version:= -1,value:=IntKind.i64.wrap (x.zi-1),done:=true,answer:=JV m}
abbrev Bw(x:fq):fq:={x with zi:=IntKind.i64.wrap (x.zi-1)}
def UA(w:Wor)(m:eR)(v:fc)(g:Gr)(e:En)(x:fq)(sw:q8 w)(ok:fY w)(hl:i64 m.listen)(hpc:m.pc=4)(hs:zY w m=true)(hat:fS w m v g e)(hw:u64 m.word)(hh:u64 e.head)(hli:0<=m.listen)(hx:w.zd[m.listen.toNat]?=some x):
  tn 134 [] [Cw w,Cm m] (.fb [Cw {w with zd:=w.zd.set m.listen.toNat (Bw x)},Cm {m with answer:=JV m,done:=true},Ce (Px m x)]) []:=by
 have a0:=hat.v0;have a1:=hat.tooq.row;have b0:=hat.g0;have b1:(v.zq.map zK)[m.zj.toNat]?=some (zK g):=by rw[gj,hat.fE];rfl
 have c0:=hat.e0;have c1:(g.ends.map zD)[m.end_.toNat]?=some (zD e):=by rw[gj,hat.fL];rfl
 have hn:¬m.listen<0:=aw
 have lt:m.listen.toNat<w.zd.length:=(dY.1 hx).1;have gl:(w.zd.map qN)[m.listen.toNat]?=some (qN x):=by rw[gj,hx];rfl
 have hst:(w.zd.map qN).set m.listen.toNat [Tx x.name,Bo x.drain,I (IntKind.i64.wrap (x.zi-1)),Bo x.closed]=(w.zd.set m.listen.toNat (Bw x)).map qN:=bT
 have gl2:((w.zd.set m.listen.toNat (Bw x)).map qN)[m.listen.toNat]?=some (qN (Bw x)):=by rw[gj,gu lt];rfl
 have e1:0+m.listen.toNat=m.listen.toNat:=gI _
 obtain⟨y,l,hy⟩:∃y l,w.zd=y::l:=by
  cases h:w.zd with
  |nil=>rw[h]at lt;simp at lt
  |cons y l=>exact⟨y,l,rfl⟩
 refine ab func134 ?_;(repeat (first|refine uA ?_|refine uB ?_))
 refine ah (zO w m ok hl) ?_;refine⟨λ_=>dd ?_,λh=>absurd ((hs).symm.trans h:true=false) ar⟩;(repeat (first|refine uA ?_|refine uB ?_))
 refine tc ?_
 refine af [] (vx w sw y l hy) ?_;refine uE ?_;(refine⟨a0,_,a1,dd ?_⟩)
 (refine⟨b0,_,b1,dd ?_⟩)
 (refine⟨c0,_,c1,dd ?_⟩)
 refine ah (Slp.qI m.word hw) ?_;refine .inr ⟨⟨[0,1,5,6,7],[0,1],true⟩,au,λ_=>O,_,uH ?_,λt2 H2 h=>h⟩;refine⟨_,ai [] (Slp.qI e.head hh),uH ?_⟩;refine⟨_,ai [] (vb w m v hat.tooq 1 8 (e.head%4294967296-1)),uH ?_⟩;(refine⟨uH ?_,trivial⟩);refine hZ ?_
 (refine⟨uH ?_,trivial⟩);refine hZ ?_
 (refine⟨_,_,.refl _,uH ?_⟩)
 (repeat (first|refine uA ?_|refine uB ?_))
 refine⟨hli,lt,dd ?_⟩;rw[e1];refine⟨_,gl,cP,dd ?_⟩;refine⟨_,gl,rfl,dd ?_⟩;rw[hst];refine uE ?_;refine⟨_,gl2,cP,dd ?_⟩;refine mP.go O (uH ?_);refine .inl ⟨⟨false,[0,1,2],[6,1,7],[]⟩,au,uH ?_⟩;refine hZ ?_
 exact⟨.inl O,_,zn.zS 2 0 5 O O O O (.inr O) aj aj (shut_map (enc:=qN) (λ_=>O) _) (z5 O),rfl⟩
end Go.Wor
