import Derived.Test.YtoeaoedlpmohoaaGreatSX
set_option linter.all false
set_option maxRecDepth 100000
set_option maxHeartbeats 4000000
namespace Go.Wor
open Go.Ab Go.Proofs Tryz Go.Hy Go.Gat Go.Nam Go.Hos Go.Con Go.Sna
def kG(w:Wor)(m:lh)(v:lJ)(hv:CT w m v)(a b c:Int):tp 153 [] [Cw w,Cm m,I a,I b,I c] (Ce (nr m v a b c)) []:=by
 have h0:=hv.v0;have hr:=hv.row;obtain⟨sn,gs,fr⟩:=v;cases fr
 all_goals
  refine ab func153 ?_;refine uE ?_;(refine⟨h0,_,hr,dd ?_⟩)
  first|((refine ya (dd ?_)))|((refine yb (dd ?_)))
  exact uI
def zrr(w:Wor)(m:lh)(v:lJ)(g:Gr)(e:En)(sw:jF w)(ok:nk w)(hl:i64 m.listen)(hpc:m.pc=0)(hs:ql w m=true)(hat:m7 w m v g e)(hw:u64 m.word)(hh:u64 e.head):
  tp 127 [] [Cw w,Cm m] (.lK [Cw w,Cm {m with word:=e.head,pc:=1},Ce (nr m v 1 8 (e.head%4294967296-1))]) []:=by
 have a0:=hat.v0;have a1:=hat.toCT.row;have b0:=hat.g0;have b1:(v.zp.map zI)[m.zi.toNat]?=some (zI g):=by rw[pj,hat.mn];rfl
 have c0:=hat.e0;have c1:(g.ends.map zF)[m.end_.toNat]?=some (zF e):=by rw[pj,hat.mM];rfl
 refine ab func127 ?_;(repeat (first|refine uA ?_|refine uB ?_))
 refine ah (zV w m ok hl) ?_;refine⟨λ_=>dd ?_,λh=>absurd ((hs).symm.trans h:true=false) ar⟩;(repeat (first|refine uA ?_|refine uB ?_))
 refine tf ?_
 refine ah (qP w sw) ?_;refine uE ?_;(refine⟨a0,_,a1,dd ?_⟩)
 (refine⟨b0,_,b1,dd ?_⟩)
 (refine⟨c0,_,c1,dd ?_⟩)
 refine ah (Slp.je m.word hw) ?_;refine .inr ⟨⟨[0,1,5,6,7],[0,1],true⟩,au,λ_=>O,_,uH ?_,λt2 H2 h=>h⟩;refine⟨_,ai [] (Slp.je e.head hh),uH ?_⟩;refine⟨_,ai [] (kG w m v hat.toCT 1 8 (e.head%4294967296-1)),uH ?_⟩;(refine⟨uH ?_,trivial⟩);refine td ?_
 (refine⟨uH ?_,trivial⟩);refine td ?_
 (refine⟨_,_,.refl _,uH ?_⟩)
 (repeat (first|refine uA ?_|refine uB ?_))
 refine Bz.go O (uH ?_);rw[show IntKind.i64.wrap (m.pc+1)=1 from dc];refine .inl ⟨⟨false,[0,1,2],[5,1,6],[]⟩,au,uH ?_⟩;refine td ?_
 exact uI
abbrev QZ(m:lh):lD:={qV with zg:=m.zg,access:=1,version:= -1,done:=true,answer:=Ah 7}
def zrw(w:Wor)(m:lh)(v:lJ)(g:Gr)(e:En)(sw:jF w)(ok:nk w)(hl:i64 m.listen)(hpc:m.pc=9)(hs:ql w m=true)(hat:m7 w m v g e)(hw:u64 m.word)(hh:u64 e.head):
  tp 127 [] [Cw w,Cm m] (.lK [Cw w,Cm {m with answer:=Ah 7,done:=true},Ce (QZ m)]) []:=by
 have a0:=hat.v0;have a1:=hat.toCT.row;have b0:=hat.g0;have b1:(v.zp.map zI)[m.zi.toNat]?=some (zI g):=by rw[pj,hat.mn];rfl
 have c0:=hat.e0;have c1:(g.ends.map zF)[m.end_.toNat]?=some (zF e):=by rw[pj,hat.mM];rfl
 refine ab func127 ?_;(repeat (first|refine uA ?_|refine uB ?_))
 refine ah (zV w m ok hl) ?_;refine⟨λ_=>dd ?_,λh=>absurd ((hs).symm.trans h:true=false) ar⟩;(repeat (first|refine uA ?_|refine uB ?_))
 refine tf ?_
 refine ah (qP w sw) ?_;refine uE ?_;(refine⟨a0,_,a1,dd ?_⟩)
 (refine⟨b0,_,b1,dd ?_⟩)
 (refine⟨c0,_,c1,dd ?_⟩)
 refine ah (Slp.je m.word hw) ?_;refine .inr ⟨⟨[0,1,5,6,7],[0,1],true⟩,au,λ_=>O,_,uH ?_,λt2 H2 h=>h⟩;refine⟨_,ai [] (Slp.je e.head hh),uH ?_⟩;refine⟨_,ai [] (kG w m v hat.toCT 1 8 (e.head%4294967296-1)),uH ?_⟩;(refine⟨uH ?_,trivial⟩);refine td ?_
 (refine⟨uH ?_,trivial⟩);refine td ?_
 (refine⟨_,_,.refl _,uH ?_⟩)
 (repeat (first|refine uA ?_|refine uB ?_))
 refine Bz.go O (uH ?_);refine .inl ⟨⟨false,[0,1,2],[5,1,6],[]⟩,au,uH ?_⟩;refine td ?_
 exact uI
def zru(w:Wor)(m:lh)(v0:lJ)(g0:Gr)(e0:En)(sw:jF w)(ok:nk w)(hl:i64 m.listen)(hpc:m.pc=3)(hs:ql w m=true)(hat:m7 w m v0 g0 e0)(hne:e0.next≠[])(hw:u64 m.word)(hh:u64 e0.head){tk hd ac:Int}(htk:tk=g0.zx)(hhd:hd=e0.head)(hac:ac=IntKind.i64.wrap (e0.zj-1)):
  tp 127 [] [Cw w,Cm m] (.lK [Cw (Aw w m v0 g0 e0 tk hd ac),Cm {m with pc:=4},Ce (nr m v0 3 7 ac)]) []:=by
 have lv:=hat.ln.lv;have lg:=hat.ln.lg;have le:=hat.ln.le;have oX:=sw.zd.2 v0 (pq hat.at_);have hp:EW w.zd m.version.toNat v0 m.zi.toNat g0 m.end_.toNat e0:=⟨⟨⟨oX.2 g0 (pq hat.mn),hat.mM,hne⟩,oX,hat.mn⟩,sw.zd,hat.at_⟩;have ownV:∀i,∀r∈mN w m v0 (i),∀c∈r,zB c=true:=λi=>zC (enc:=zJ) (λ_=>O) O _ _
 have ownG:∀i t,∀r∈mE m v0 g0 (t) (i),∀c∈r,zB c=true:=λi t=>zC (enc:=zI) (λ_=>O) O _ _
 have ownE:∀i a b,∀r∈mr m g0 e0 (a) (i) (b),∀c∈r,zB c=true:=λi a b=>zC (enc:=zF) (λ_=>O) O _ _
 have gv:(mN w m v0 (6))[m.version.toNat]?=some ((encS v0.snap++[C.sl (6) [] 2 0 v0.zp.length false,Bo v0.qd])):=pC hU;have gg:(mE m v0 g0 (tk) (7))[m.zi.toNat]?=some ([U (tk),C.sl (7) [] 3 0 g0.ends.length false]):=pC tT;have ge:(mr m g0 e0 (hd) (8) (ac))[m.end_.toNat]?=some ([U (hd),C.sl (8) [] 1 0 e0.next.length false,I (ac)]):=pC tO;have estE:((mr m g0 e0 (hd) (8) (ac)).set m.end_.toNat [U hd,C.lq 0 1 (e0.next.map encI),I ac])=(g0.ends.set m.end_.toNat (qE e0 hd ac)).map zF:=df
 have estG:((mE m v0 g0 (tk) (7)).set m.zi.toNat [U tk,C.lq 0 3 (((g0.ends.set m.end_.toNat (qE e0 hd ac)).map zF))])=(v0.zp.set m.zi.toNat (vC m g0 e0 tk hd ac)).map zI:=dg
 have estV:((mN w m v0 (6)).set m.version.toNat (encS v0.snap++[C.lq 0 2 (((v0.zp.set m.zi.toNat (vC m g0 e0 tk hd ac)).map zI)),Bo v0.qd]))=(w.zd.set m.version.toNat (xN m v0 g0 e0 tk hd ac)).map zJ:=dh
 have eshE:∀r∈((mr m g0 e0 (hd) (8) (ac)).set m.end_.toNat [U hd,C.lq 0 1 (e0.next.map encI),I ac]),∀c∈r,jE c=true/\zB c=true:=by
  exact dQ
 have eshG:∀r∈((mE m v0 g0 (tk) (7)).set m.zi.toNat [U tk,C.lq 0 3 ((mr m g0 e0 (hd) (8) (ac)).set m.end_.toNat [U hd,C.lq 0 1 (e0.next.map encI),I ac])]),∀c∈r,jE c=true/\zB c=true:=by
  exact dM
 have eshV:∀r∈((mN w m v0 (6)).set m.version.toNat (encS v0.snap++[C.lq 0 2 ((mE m v0 g0 (tk) (7)).set m.zi.toNat [U tk,C.lq 0 3 ((mr m g0 e0 (hd) (8) (ac)).set m.end_.toNat [U hd,C.lq 0 1 (e0.next.map encI),I ac])]),Bo v0.qd])),∀c∈r,jE c=true/\zB c=true:=by
  exact dL
 have a0:=hat.v0;have b0:=hat.g0;have c0:=hat.e0;have e1:0+m.version.toNat=m.version.toNat:=pR _;have e2:0+m.zi.toNat=m.zi.toNat:=pR _;have e3:0+m.end_.toNat=m.end_.toNat:=pR _;have gg0:(mE m v0 g0 (g0.zx) (7))[m.zi.toNat]?=some ([U (g0.zx),C.sl (7) [] 3 0 g0.ends.length false]):=pC tT;have ge0:(mr m g0 e0 (e0.head) (8) (e0.zj))[m.end_.toNat]?=some ([U (e0.head),C.sl (8) [] 1 0 e0.next.length false,I (e0.zj)]):=pC tO;refine ab func127 ?_;(repeat (first|refine uA ?_|refine uB ?_))
 refine ah (zV w m ok hl) ?_;refine⟨λ_=>dd ?_,λh=>absurd ((hs).symm.trans h:true=false) ar⟩;(repeat (first|refine uA ?_|refine uB ?_))
 refine tf ?_
 refine qg [] [oW w,oM m,⟨1,38,8,[nU],0⟩,⟨1,95,44,[nT],0⟩,oE qV,⟨1,0,5,mN w m v0 (6),0⟩,⟨1,0,2,mE m v0 g0 (g0.zx) (7),0⟩,⟨1,0,3,mr m g0 e0 (e0.head) (8) (e0.zj),0⟩,⟨2,3,1,e0.next.map encI,0⟩] (rx:=.agg (oF w 5)) (vU w sw w.zd O hp) (ze (zl (ownV 1)) (ze (zl (ownG 2 _)) (ze (zl (ownE 3 _ _)) O))) O O O O O uV O (dd ?_);refine uE ?_;refine⟨a0,lv,dd ?_⟩;rw[e1];refine⟨_,gv,c8,dd ?_⟩;refine⟨b0,lg,dd ?_⟩;rw[e2];refine⟨_,gg0,c9,dd ?_⟩;refine⟨c0,le,dd ?_⟩;rw[e3];refine ah (Slp.je m.word hw) ?_;refine .inr ⟨⟨[0,1,5,6,7],[0,1,7],true⟩,au,λ_=>(ze O (ze O (ze O (ze O (ze O (ze (zl (ownV 6)) (ze (zl (ownG 7 _)) (ze (zl (ownE 8 _ _)) O)))))))),_,uH ?_,λt2 H2 h=>h⟩;refine⟨_,ge0,db,uH ?_⟩;refine⟨_,ai [] (Slp.je e0.head hh),uH ?_⟩;refine⟨_,ai [] (kG w m v0 hat.toCT 1 8 (e0.head%4294967296-1)),uH ?_⟩;(refine⟨uH ?_,trivial⟩);(refine⟨(ze O (ze O (ze O (ze O (ze O (ze (zl (ownV 6)) (ze (zl (ownG 7 _)) (ze (zl (ownE 8 _ _)) O)))))))),uH ?_⟩);refine td ?_
 (refine⟨uH ?_,trivial⟩);(refine⟨(ze O (ze O (ze O (ze O (ze O (ze (zl (ownV 6)) (ze (zl (ownG 7 _)) (ze (zl (ownE 8 _ _)) O)))))))),uH ?_⟩);refine td ?_
 (refine⟨_,_,.refl _,uH ?_⟩)
 (repeat (first|refine uA ?_|refine uB ?_))
 refine⟨_,ge0,da,dd ?_⟩;refine⟨_,ge0,rfl,dd ?_⟩;rw[rz];subst htk hhd hac;refine .inl ⟨⟨false,[3],[7],[]⟩,au,uH ?_⟩;refine⟨_,ge,da,dd ?_⟩;refine td ?_
 refine Bz.go O (uH ?_);rw[show IntKind.i64.wrap (m.pc+1)=4 from dc];refine .inl ⟨⟨false,[0,1,2],[9,1,10],[]⟩,au,uH ?_⟩;refine td ?_
 refine⟨.inl O,_,(((zt.qa 7 m.end_.toNat 1 O ge O O (.inr O) aj aj (shut_map (enc:=encI) (λ_=>O) _) (ownE 8 _ _)).trans (zt.qa 6 m.zi.toNat 1 O gg O O (.inl O) aj aj eshE (ownG 7 _))).trans (zt.qa 5 m.version.toNat 3 O gv O O (.inl O) aj aj eshG (ownV 6))).trans (zt.qa 2 0 4 O O O O (.inl O) aj aj eshV (qk O)),?_⟩;show _=some (C.lK [C.agg [I w.zn,I w.current,I w.lock,lI w.pins,C.lq 0 5 ((w.zd.set m.version.toNat (xN m v0 g0 e0 g0.zx e0.head (IntKind.i64.wrap (e0.zj-1)))).map zJ),lL w.zf,mQ w.counts,lR w.zr],Cm {m with pc:=4},Ce (nr m v0 3 7 (IntKind.i64.wrap (e0.zj-1)))]);rw[<-estV,<-estG,<-estE]
 rfl
def zrt(w:Wor)(m:lh)(v0:lJ)(g0:Gr)(e0:En)(sw:jF w)(ok:nk w)(hl:i64 m.listen)(hpc:m.pc=2)(hs:ql w m=true)(hat:m7 w m v0 g0 e0)(hne:e0.next≠[])(hw:u64 m.word)(hh:u64 e0.head)(heq:e0.head=m.word)(s0: -1<=m.slot)(s1:m.slot<=2147483646){tk hd ac:Int}(htk:tk=g0.zx)(hhd:hd=Slp.jC m.word m.slot)(hac:ac=e0.zj):
  tp 127 [] [Cw w,Cm m] (.lK [Cw (Aw w m v0 g0 e0 tk hd ac),Cm {m with pc:=3},Ce {nr m v0 4 8 m.slot with zQ:=true}]) []:=by
 have lv:=hat.ln.lv;have lg:=hat.ln.lg;have le:=hat.ln.le;have oX:=sw.zd.2 v0 (pq hat.at_);have hp:EW w.zd m.version.toNat v0 m.zi.toNat g0 m.end_.toNat e0:=⟨⟨⟨oX.2 g0 (pq hat.mn),hat.mM,hne⟩,oX,hat.mn⟩,sw.zd,hat.at_⟩;have ownV:∀i,∀r∈mN w m v0 (i),∀c∈r,zB c=true:=λi=>zC (enc:=zJ) (λ_=>O) O _ _
 have ownG:∀i t,∀r∈mE m v0 g0 (t) (i),∀c∈r,zB c=true:=λi t=>zC (enc:=zI) (λ_=>O) O _ _
 have ownE:∀i a b,∀r∈mr m g0 e0 (a) (i) (b),∀c∈r,zB c=true:=λi a b=>zC (enc:=zF) (λ_=>O) O _ _
 have gv:(mN w m v0 (6))[m.version.toNat]?=some ((encS v0.snap++[C.sl (6) [] 2 0 v0.zp.length false,Bo v0.qd])):=pC hU;have gg:(mE m v0 g0 (tk) (7))[m.zi.toNat]?=some ([U (tk),C.sl (7) [] 3 0 g0.ends.length false]):=pC tT;have ge:(mr m g0 e0 (hd) (8) (ac))[m.end_.toNat]?=some ([U (hd),C.sl (8) [] 1 0 e0.next.length false,I (ac)]):=pC tO;have estE:((mr m g0 e0 (hd) (8) (ac)).set m.end_.toNat [U hd,C.lq 0 1 (e0.next.map encI),I ac])=(g0.ends.set m.end_.toNat (qE e0 hd ac)).map zF:=df
 have estG:((mE m v0 g0 (tk) (7)).set m.zi.toNat [U tk,C.lq 0 3 (((g0.ends.set m.end_.toNat (qE e0 hd ac)).map zF))])=(v0.zp.set m.zi.toNat (vC m g0 e0 tk hd ac)).map zI:=dg
 have estV:((mN w m v0 (6)).set m.version.toNat (encS v0.snap++[C.lq 0 2 (((v0.zp.set m.zi.toNat (vC m g0 e0 tk hd ac)).map zI)),Bo v0.qd]))=(w.zd.set m.version.toNat (xN m v0 g0 e0 tk hd ac)).map zJ:=dh
 have eshE:∀r∈((mr m g0 e0 (hd) (8) (ac)).set m.end_.toNat [U hd,C.lq 0 1 (e0.next.map encI),I ac]),∀c∈r,jE c=true/\zB c=true:=by
  exact dQ
 have eshG:∀r∈((mE m v0 g0 (tk) (7)).set m.zi.toNat [U tk,C.lq 0 3 ((mr m g0 e0 (hd) (8) (ac)).set m.end_.toNat [U hd,C.lq 0 1 (e0.next.map encI),I ac])]),∀c∈r,jE c=true/\zB c=true:=by
  exact dM
 have eshV:∀r∈((mN w m v0 (6)).set m.version.toNat (encS v0.snap++[C.lq 0 2 ((mE m v0 g0 (tk) (7)).set m.zi.toNat [U tk,C.lq 0 3 ((mr m g0 e0 (hd) (8) (ac)).set m.end_.toNat [U hd,C.lq 0 1 (e0.next.map encI),I ac])]),Bo v0.qd])),∀c∈r,jE c=true/\zB c=true:=by
  exact dL
 have a0:=hat.v0;have b0:=hat.g0;have c0:=hat.e0;have e1:0+m.version.toNat=m.version.toNat:=pR _;have e2:0+m.zi.toNat=m.zi.toNat:=pR _;have e3:0+m.end_.toNat=m.end_.toNat:=pR _;have gg0:(mE m v0 g0 (g0.zx) (7))[m.zi.toNat]?=some ([U (g0.zx),C.sl (7) [] 3 0 g0.ends.length false]):=pC tT;have ge0:(mr m g0 e0 (e0.head) (8) (e0.zj))[m.end_.toNat]?=some ([U (e0.head),C.sl (8) [] 1 0 e0.next.length false,I (e0.zj)]):=pC tO;refine ab func127 ?_;(repeat (first|refine uA ?_|refine uB ?_))
 refine ah (zV w m ok hl) ?_;refine⟨λ_=>dd ?_,λh=>absurd ((hs).symm.trans h:true=false) ar⟩;(repeat (first|refine uA ?_|refine uB ?_))
 refine tf ?_
 refine qg [] [oW w,oM m,⟨1,38,8,[nU],0⟩,⟨1,95,44,[nT],0⟩,oE qV,⟨1,0,5,mN w m v0 (6),0⟩,⟨1,0,2,mE m v0 g0 (g0.zx) (7),0⟩,⟨1,0,3,mr m g0 e0 (e0.head) (8) (e0.zj),0⟩,⟨2,3,1,e0.next.map encI,0⟩] (rx:=.agg (oF w 5)) (vU w sw w.zd O hp) (ze (zl (ownV 1)) (ze (zl (ownG 2 _)) (ze (zl (ownE 3 _ _)) O))) O O O O O uV O (dd ?_);refine uE ?_;refine⟨a0,lv,dd ?_⟩;rw[e1];refine⟨_,gv,c8,dd ?_⟩;refine⟨b0,lg,dd ?_⟩;rw[e2];refine⟨_,gg0,c9,dd ?_⟩;refine⟨c0,le,dd ?_⟩;rw[e3];refine ah (Slp.je m.word hw) ?_;refine .inr ⟨⟨[0,1,5,6,7],[0,1,7],true⟩,au,λ_=>(ze O (ze O (ze O (ze O (ze O (ze (zl (ownV 6)) (ze (zl (ownG 7 _)) (ze (zl (ownE 8 _ _)) O)))))))),_,uH ?_,λt2 H2 h=>h⟩;refine⟨_,ge0,db,uH ?_⟩;refine⟨_,ai [] (Slp.je e0.head hh),uH ?_⟩;refine⟨_,ai [] (kG w m v0 hat.toCT 1 8 (e0.head%4294967296-1)),uH ?_⟩;(refine⟨uH ?_,trivial⟩);(refine⟨(ze O (ze O (ze O (ze O (ze O (ze (zl (ownV 6)) (ze (zl (ownG 7 _)) (ze (zl (ownE 8 _ _)) O)))))))),uH ?_⟩);refine td ?_
 (refine⟨uH ?_,trivial⟩);(refine⟨(ze O (ze O (ze O (ze O (ze O (ze (zl (ownV 6)) (ze (zl (ownG 7 _)) (ze (zl (ownE 8 _ _)) O)))))))),uH ?_⟩);refine td ?_
 (refine⟨_,_,.refl _,uH ?_⟩)
 (repeat (first|refine uA ?_|refine uB ?_))
 refine uE ?_;refine⟨_,ge0,db,dd ?_⟩;refine⟨λh=>absurd h (by simp[heq]),λ_=>dd ?_⟩;refine ah (Slp.M7 m.word m.slot hw s0 s1) ?_;refine⟨_,ge0,rfl,dd ?_⟩;rw[rz];subst htk hhd hac;refine .inl ⟨⟨false,[1],[1],[]⟩,au,uH ?_⟩;refine td ?_
 refine Bz.go O (uH ?_);rw[show IntKind.i64.wrap (m.pc+1)=3 from dc];refine .inl ⟨⟨false,[0,1,2],[9,1,10],[]⟩,au,uH ?_⟩;refine td ?_
 refine⟨.inl O,_,(((zt.qa 7 m.end_.toNat 1 O ge O O (.inr O) aj aj (shut_map (enc:=encI) (λ_=>O) _) (ownE 8 _ _)).trans (zt.qa 6 m.zi.toNat 1 O gg O O (.inl O) aj aj eshE (ownG 7 _))).trans (zt.qa 5 m.version.toNat 3 O gv O O (.inl O) aj aj eshG (ownV 6))).trans (zt.qa 2 0 4 O O O O (.inl O) aj aj eshV (qk O)),?_⟩;show _=some (C.lK [C.agg [I w.zn,I w.current,I w.lock,lI w.pins,C.lq 0 5 ((w.zd.set m.version.toNat (xN m v0 g0 e0 g0.zx (Slp.jC m.word m.slot) e0.zj)).map zJ),lL w.zf,mQ w.counts,lR w.zr],Cm {m with pc:=3},Ce {nr m v0 4 8 m.slot with zQ:=true}]);rw[<-estV,<-estG,<-estE]
 rfl
abbrev wj(m:lh)(e0:En):En:={e0 with next:=(e0.next.set m.slot.toNat (m.word%4294967296-1))}
def zrs(w:Wor)(m:lh)(v0:lJ)(g0:Gr)(e0:En)(sw:jF w)(ok:nk w)(hl:i64 m.listen)(hpc:m.pc=1)(hs:ql w m=true)(hat:m7 w m v0 g0 e0)(hne:e0.next≠[])(hw:u64 m.word)(hh:u64 e0.head)(s0:0<=m.slot)(s1:m.slot.toNat<e0.next.length){tk hd ac:Int}(htk:tk=g0.zx)(hhd:hd=e0.head)(hac:ac=e0.zj):
  tp 127 [] [Cw w,Cm m] (.lK [Cw (Aw w m v0 g0 (wj m e0) tk hd ac),Cm {m with pc:=2},Ce (nr m v0 2 9 (m.word%4294967296-1))]) []:=by
 have estE1:((mr m g0 e0 (e0.head) (8) (e0.zj)).set m.end_.toNat [U e0.head,C.lq 0 1 ((e0.next.set m.slot.toNat (m.word%4294967296-1)).map encI),I e0.zj])=(g0.ends.set m.end_.toNat (qE (wj m e0) e0.head e0.zj)).map zF:=by rw[rz];exact j8 zF _ _ (qE (wj m e0) e0.head e0.zj) _ O
 have estG1:((mE m v0 g0 (g0.zx) (7)).set m.zi.toNat [U g0.zx,C.lq 0 3 (((g0.ends.set m.end_.toNat (qE (wj m e0) e0.head e0.zj)).map zF))])=(v0.zp.set m.zi.toNat (vC m g0 (wj m e0) g0.zx e0.head e0.zj)).map zI:=by rw[rz];exact j8 zI _ _ (vC m g0 (wj m e0) g0.zx e0.head e0.zj) _ O
 have estV1:((mN w m v0 (6)).set m.version.toNat (encS v0.snap++[C.lq 0 2 (((v0.zp.set m.zi.toNat (vC m g0 (wj m e0) g0.zx e0.head e0.zj)).map zI)),Bo v0.qd]))=(w.zd.set m.version.toNat (xN m v0 g0 (wj m e0) g0.zx e0.head e0.zj)).map zJ:=by rw[rz];exact j8 zJ _ _ (xN m v0 g0 (wj m e0) g0.zx e0.head e0.zj) _ O
 have eshE1:∀r∈((mr m g0 e0 (e0.head) (8) (e0.zj)).set m.end_.toNat [U e0.head,C.lq 0 1 ((e0.next.set m.slot.toNat (m.word%4294967296-1)).map encI),I e0.zj]),∀c∈r,jE c=true/\zB c=true:=by
  rw[estE1];exact shut_map (enc:=zF) (λ_=>O) _
 have eshG1:∀r∈((mE m v0 g0 (g0.zx) (7)).set m.zi.toNat [U g0.zx,C.lq 0 3 ((mr m g0 e0 (e0.head) (8) (e0.zj)).set m.end_.toNat [U e0.head,C.lq 0 1 ((e0.next.set m.slot.toNat (m.word%4294967296-1)).map encI),I e0.zj])]),∀c∈r,jE c=true/\zB c=true:=by
  rw[estE1,estG1];exact shut_map (enc:=zI) (λ_=>O) _
 have eshV1:∀r∈((mN w m v0 (6)).set m.version.toNat (encS v0.snap++[C.lq 0 2 ((mE m v0 g0 (g0.zx) (7)).set m.zi.toNat [U g0.zx,C.lq 0 3 ((mr m g0 e0 (e0.head) (8) (e0.zj)).set m.end_.toNat [U e0.head,C.lq 0 1 ((e0.next.set m.slot.toNat (m.word%4294967296-1)).map encI),I e0.zj])]),Bo v0.qd])),∀c∈r,jE c=true/\zB c=true:=by
  rw[estE1,estG1,estV1];exact shut_map (enc:=zJ) (λ_=>O) _
 have gn:(e0.next.map Hy.encI)[m.slot.toNat]?=some (Hy.encI (e0.next[m.slot.toNat]'s1)):=by rw[pj,pa s1];rfl
 have hst:(e0.next.map Hy.encI).set m.slot.toNat [I (m.word%4294967296-1)]=(e0.next.set m.slot.toNat (m.word%4294967296-1)).map Hy.encI:=bU
 have e4:0+m.slot.toNat=m.slot.toNat:=pR _;have lv:=hat.ln.lv;have lg:=hat.ln.lg;have le:=hat.ln.le;have oX:=sw.zd.2 v0 (pq hat.at_);have hp:EW w.zd m.version.toNat v0 m.zi.toNat g0 m.end_.toNat e0:=⟨⟨⟨oX.2 g0 (pq hat.mn),hat.mM,hne⟩,oX,hat.mn⟩,sw.zd,hat.at_⟩;have ownV:∀i,∀r∈mN w m v0 (i),∀c∈r,zB c=true:=λi=>zC (enc:=zJ) (λ_=>O) O _ _
 have ownG:∀i t,∀r∈mE m v0 g0 (t) (i),∀c∈r,zB c=true:=λi t=>zC (enc:=zI) (λ_=>O) O _ _
 have ownE:∀i a b,∀r∈mr m g0 e0 (a) (i) (b),∀c∈r,zB c=true:=λi a b=>zC (enc:=zF) (λ_=>O) O _ _
 have gv:(mN w m v0 (6))[m.version.toNat]?=some ((encS v0.snap++[C.sl (6) [] 2 0 v0.zp.length false,Bo v0.qd])):=pC hU;have gg:(mE m v0 g0 (tk) (7))[m.zi.toNat]?=some ([U (tk),C.sl (7) [] 3 0 g0.ends.length false]):=pC tT;have ge:(mr m g0 e0 (hd) (8) (ac))[m.end_.toNat]?=some ([U (hd),C.sl (8) [] 1 0 e0.next.length false,I (ac)]):=pC tO;have estE:((mr m g0 e0 (hd) (8) (ac)).set m.end_.toNat [U hd,C.lq 0 1 (e0.next.map encI),I ac])=(g0.ends.set m.end_.toNat (qE e0 hd ac)).map zF:=df
 have estG:((mE m v0 g0 (tk) (7)).set m.zi.toNat [U tk,C.lq 0 3 (((g0.ends.set m.end_.toNat (qE e0 hd ac)).map zF))])=(v0.zp.set m.zi.toNat (vC m g0 e0 tk hd ac)).map zI:=dg
 have estV:((mN w m v0 (6)).set m.version.toNat (encS v0.snap++[C.lq 0 2 (((v0.zp.set m.zi.toNat (vC m g0 e0 tk hd ac)).map zI)),Bo v0.qd]))=(w.zd.set m.version.toNat (xN m v0 g0 e0 tk hd ac)).map zJ:=dh
 have eshE:∀r∈((mr m g0 e0 (hd) (8) (ac)).set m.end_.toNat [U hd,C.lq 0 1 (e0.next.map encI),I ac]),∀c∈r,jE c=true/\zB c=true:=by
  exact dQ
 have eshG:∀r∈((mE m v0 g0 (tk) (7)).set m.zi.toNat [U tk,C.lq 0 3 ((mr m g0 e0 (hd) (8) (ac)).set m.end_.toNat [U hd,C.lq 0 1 (e0.next.map encI),I ac])]),∀c∈r,jE c=true/\zB c=true:=by
  exact dM
 have eshV:∀r∈((mN w m v0 (6)).set m.version.toNat (encS v0.snap++[C.lq 0 2 ((mE m v0 g0 (tk) (7)).set m.zi.toNat [U tk,C.lq 0 3 ((mr m g0 e0 (hd) (8) (ac)).set m.end_.toNat [U hd,C.lq 0 1 (e0.next.map encI),I ac])]),Bo v0.qd])),∀c∈r,jE c=true/\zB c=true:=by
  exact dL
 have a0:=hat.v0;have b0:=hat.g0;have c0:=hat.e0;have e1:0+m.version.toNat=m.version.toNat:=pR _;have e2:0+m.zi.toNat=m.zi.toNat:=pR _;have e3:0+m.end_.toNat=m.end_.toNat:=pR _;have gg0:(mE m v0 g0 (g0.zx) (7))[m.zi.toNat]?=some ([U (g0.zx),C.sl (7) [] 3 0 g0.ends.length false]):=pC tT;have ge0:(mr m g0 e0 (e0.head) (8) (e0.zj))[m.end_.toNat]?=some ([U (e0.head),C.sl (8) [] 1 0 e0.next.length false,I (e0.zj)]):=pC tO;refine ab func127 ?_;(repeat (first|refine uA ?_|refine uB ?_))
 refine ah (zV w m ok hl) ?_;refine⟨λ_=>dd ?_,λh=>absurd ((hs).symm.trans h:true=false) ar⟩;(repeat (first|refine uA ?_|refine uB ?_))
 refine tf ?_
 refine qg [] [oW w,oM m,⟨1,38,8,[nU],0⟩,⟨1,95,44,[nT],0⟩,oE qV,⟨1,0,5,mN w m v0 (6),0⟩,⟨1,0,2,mE m v0 g0 (g0.zx) (7),0⟩,⟨1,0,3,mr m g0 e0 (e0.head) (8) (e0.zj),0⟩,⟨2,3,1,e0.next.map encI,0⟩] (rx:=.agg (oF w 5)) (vU w sw w.zd O hp) (ze (zl (ownV 1)) (ze (zl (ownG 2 _)) (ze (zl (ownE 3 _ _)) O))) O O O O O uV O (dd ?_);refine uE ?_;refine⟨a0,lv,dd ?_⟩;rw[e1];refine⟨_,gv,c8,dd ?_⟩;refine⟨b0,lg,dd ?_⟩;rw[e2];refine⟨_,gg0,c9,dd ?_⟩;refine⟨c0,le,dd ?_⟩;rw[e3];refine ah (Slp.je m.word hw) ?_;refine .inr ⟨⟨[0,1,5,6,7],[0,1,7],true⟩,au,λ_=>(ze O (ze O (ze O (ze O (ze O (ze (zl (ownV 6)) (ze (zl (ownG 7 _)) (ze (zl (ownE 8 _ _)) O)))))))),_,uH ?_,λt2 H2 h=>h⟩;refine⟨_,ge0,db,uH ?_⟩;refine⟨_,ai [] (Slp.je e0.head hh),uH ?_⟩;refine⟨_,ai [] (kG w m v0 hat.toCT 1 8 (e0.head%4294967296-1)),uH ?_⟩;(refine⟨uH ?_,trivial⟩);(refine⟨(ze O (ze O (ze O (ze O (ze O (ze (zl (ownV 6)) (ze (zl (ownG 7 _)) (ze (zl (ownE 8 _ _)) O)))))))),uH ?_⟩);refine td ?_
 (refine⟨uH ?_,trivial⟩);(refine⟨(ze O (ze O (ze O (ze O (ze O (ze (zl (ownV 6)) (ze (zl (ownG 7 _)) (ze (zl (ownE 8 _ _)) O)))))))),uH ?_⟩);refine td ?_
 (refine⟨_,_,.refl _,uH ?_⟩)
 (repeat (first|refine uA ?_|refine uB ?_))
 subst htk hhd hac;refine uE ?_;refine⟨_,ge0,(by show 1+1<=3;decide),dd ?_⟩;refine⟨s0,s1,dd ?_⟩;rw[e4];refine⟨_,gn,rfl,dd ?_⟩;rw[hst];refine Bz.go O (uH ?_);rw[show IntKind.i64.wrap (m.pc+1)=2 from dc];refine .inl ⟨⟨false,[0,1,2],[9,1,10],[]⟩,au,uH ?_⟩;refine td ?_
 refine⟨.inl O,_,(((zt.qa 7 m.end_.toNat 1 O ge O O (.inr O) aj aj (shut_map (enc:=encI) (λ_=>O) _) (ownE 8 _ _)).trans (zt.qa 6 m.zi.toNat 1 O gg O O (.inl O) aj aj eshE1 (ownG 7 _))).trans (zt.qa 5 m.version.toNat 3 O gv O O (.inl O) aj aj eshG1 (ownV 6))).trans (zt.qa 2 0 4 O O O O (.inl O) aj aj eshV1 (qk O)),?_⟩;show _=some (C.lK [C.agg [I w.zn,I w.current,I w.lock,lI w.pins,C.lq 0 5 ((w.zd.set m.version.toNat (xN m v0 g0 (wj m e0) g0.zx e0.head e0.zj)).map zJ),lL w.zf,mQ w.counts,lR w.zr],Cm {m with pc:=2},Ce (nr m v0 2 9 (m.word%4294967296-1))]);rw[<-estV1,<-estG1,<-estE1]
 rfl
abbrev P2(m:lh):lM:=⟨6,m.version,m.zi,m.end_,m.slot,m.listen,0,⟨0,0,0,0,0,0⟩⟩
abbrev QN(m:lh)(x:mj):lD:={qV with zg:=m.zg,access:=3,cell:=5,version:= -1,value:=IntKind.i64.wrap (x.zj-1),done:=true,answer:=P2 m}
abbrev EZ(x:mj):mj:={x with zj:=IntKind.i64.wrap (x.zj-1)}
def zrv(w:Wor)(m:lh)(v:lJ)(g:Gr)(e:En)(x:mj)(sw:jF w)(ok:nk w)(hl:i64 m.listen)(hpc:m.pc=4)(hs:ql w m=true)(hat:m7 w m v g e)(hw:u64 m.word)(hh:u64 e.head)(hli:0<=m.listen)(hx:w.zf[m.listen.toNat]?=some x):
  tp 127 [] [Cw w,Cm m] (.lK [Cw {w with zf:=w.zf.set m.listen.toNat (EZ x)},Cm {m with answer:=P2 m,done:=true},Ce (QN m x)]) []:=by
 have a0:=hat.v0;have a1:=hat.toCT.row;have b0:=hat.g0;have b1:(v.zp.map zI)[m.zi.toNat]?=some (zI g):=by rw[pj,hat.mn];rfl
 have c0:=hat.e0;have c1:(g.ends.map zF)[m.end_.toNat]?=some (zF e):=by rw[pj,hat.mM];rfl
 have hn:¬m.listen<0:=aw
 have lt:m.listen.toNat<w.zf.length:=(gZ.1 hx).1;have gl:(w.zf.map ji)[m.listen.toNat]?=some (ji x):=by rw[pj,hx];rfl
 have hst:(w.zf.map ji).set m.listen.toNat [Tx x.name,Bo x.drain,I (IntKind.i64.wrap (x.zj-1)),Bo x.closed]=(w.zf.set m.listen.toNat (EZ x)).map ji:=bU
 have gl2:((w.zf.set m.listen.toNat (EZ x)).map ji)[m.listen.toNat]?=some (ji (EZ x)):=by rw[pj,pC lt];rfl
 have e1:0+m.listen.toNat=m.listen.toNat:=pR _
 obtain⟨y,l,hy⟩:∃y l,w.zf=y::l:=by
  cases h:w.zf with
  |nil=>rw[h]at lt;simp at lt
  |cons y l=>exact⟨y,l,rfl⟩
 refine ab func127 ?_;(repeat (first|refine uA ?_|refine uB ?_))
 refine ah (zV w m ok hl) ?_;refine⟨λ_=>dd ?_,λh=>absurd ((hs).symm.trans h:true=false) ar⟩;(repeat (first|refine uA ?_|refine uB ?_))
 refine tf ?_
 refine af [] (k9 w sw y l hy) ?_;refine uE ?_;(refine⟨a0,_,a1,dd ?_⟩)
 (refine⟨b0,_,b1,dd ?_⟩)
 (refine⟨c0,_,c1,dd ?_⟩)
 refine ah (Slp.je m.word hw) ?_;refine .inr ⟨⟨[0,1,5,6,7],[0,1],true⟩,au,λ_=>O,_,uH ?_,λt2 H2 h=>h⟩;refine⟨_,ai [] (Slp.je e.head hh),uH ?_⟩;refine⟨_,ai [] (kG w m v hat.toCT 1 8 (e.head%4294967296-1)),uH ?_⟩;(refine⟨uH ?_,trivial⟩);refine td ?_
 (refine⟨uH ?_,trivial⟩);refine td ?_
 (refine⟨_,_,.refl _,uH ?_⟩)
 (repeat (first|refine uA ?_|refine uB ?_))
 refine⟨hli,lt,dd ?_⟩;rw[e1];refine⟨_,gl,c7,dd ?_⟩;refine⟨_,gl,rfl,dd ?_⟩;rw[hst];refine uE ?_;refine⟨_,gl2,c7,dd ?_⟩;refine Bz.go O (uH ?_);refine .inl ⟨⟨false,[0,1,2],[6,1,7],[]⟩,au,uH ?_⟩;refine td ?_
 exact⟨.inl O,_,zt.qa 2 0 5 O O O O (.inr O) aj aj (shut_map (enc:=ji) (λ_=>O) _) (qk O),rfl⟩
end Go.Wor
