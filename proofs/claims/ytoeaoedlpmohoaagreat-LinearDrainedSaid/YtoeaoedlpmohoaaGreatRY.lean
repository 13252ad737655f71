import Derived.Test.YtoeaoedlpmohoaaGreatRX
set_option linter.all false
set_option maxRecDepth 100000
set_option maxHeartbeats 4000000
namespace Go.Wor
open Go.Ab Go.Proofs Tryz Go.Hy Go.Gat Go.Nam Go.Hos Go.Con Go.Sna
def y7(w:Wor)(m:fq)(v:fB)(hv:oA w m v)(a b c:Int):tn 153 [] [Cw w,Cm m,I a,I b,I c] (Ce (iF m v a b c)) []:=by
 have h0:=hv.v0;have hr:=hv.row;obtain⟨sn,gs,fr⟩:=v;cases fr
 all_goals
  refine ab func153 ?_;refine uE ?_;(refine⟨h0,_,hr,dd ?_⟩)
  first|((refine ya (dd ?_)))|((refine yb (dd ?_)))
  exact uI
def Tn(w:Wor)(m:fq)(v:fB)(g:Gr)(e:En)(sw:jf w)(ok:iC w)(hl:i64 m.listen)(hpc:m.pc=0)(hs:z7 w m=true)(hat:iz w m v g e)(hw:u64 m.word)(hh:u64 e.head):
  tn 127 [] [Cw w,Cm m] (.fC [Cw w,Cm { m with word:=e.head,pc:=1 },Ce (iF m v 1 8 (e.head%4294967296-1))]) []:=by
 have a0:=hat.v0;have a1:=hat.tooA.row;have b0:=hat.g0;have b1:(v.zm.map zF)[m.zg.toNat]?=some (zF g):=by rw[gz,hat.fR];rfl
 have c0:=hat.e0;have c1:(g.ends.map zx)[m.end_.toNat]?=some (zx e):=by rw[gz,hat.ia];rfl
 refine ab func127 ?_;(repeat (first|refine uA ?_|refine uB ?_))
 refine ah (zR w m ok hl) ?_;refine⟨λ_=>dd ?_,λh=>absurd ((hs).symm.trans h:true=false) ar⟩;(repeat (first|refine uA ?_|refine uB ?_))
 refine tc ?_
 refine ah (qE w sw) ?_;refine uE ?_;(refine⟨a0,_,a1,dd ?_⟩)
 (refine⟨b0,_,b1,dd ?_⟩)
 (refine⟨c0,_,c1,dd ?_⟩)
 refine ah (Slp.qQ m.word hw) ?_;refine .inr ⟨⟨[0,1,5,6,7],[0,1],true⟩,au,λ_=>rfl,_,uH ?_,λt2 H2 h=>h⟩;refine⟨_,ai [] (Slp.qQ e.head hh),uH ?_⟩;refine⟨_,ai [] (y7 w m v hat.tooA 1 8 (e.head%4294967296-1)),uH ?_⟩;(refine⟨uH ?_,trivial⟩);refine hZ ?_
 (refine⟨uH ?_,trivial⟩);refine hZ ?_
 (refine⟨_,_,.refl _,uH ?_⟩)
 (repeat (first|refine uA ?_|refine uB ?_))
 refine w7.go rfl (uH ?_);rw[show IntKind.i64.wrap (m.pc+1)=1 from cR];refine .inl ⟨⟨false,[0,1,2],[5,1,6],[]⟩,au,uH ?_⟩;refine hZ ?_
 exact uI
abbrev OZ(m:fq):fx:={ qH with zf:=m.zf,access:=1,version:= -1,done:=true,answer:=mq 7 }
def Tt(w:Wor)(m:fq)(v:fB)(g:Gr)(e:En)(sw:jf w)(ok:iC w)(hl:i64 m.listen)(hpc:m.pc=9)(hs:z7 w m=true)(hat:iz w m v g e)(hw:u64 m.word)(hh:u64 e.head):
  tn 127 [] [Cw w,Cm m] (.fC [Cw w,Cm { m with answer:=mq 7,done:=true },Ce (OZ m)]) []:=by
 have a0:=hat.v0;have a1:=hat.tooA.row;have b0:=hat.g0;have b1:(v.zm.map zF)[m.zg.toNat]?=some (zF g):=by rw[gz,hat.fR];rfl
 have c0:=hat.e0;have c1:(g.ends.map zx)[m.end_.toNat]?=some (zx e):=by rw[gz,hat.ia];rfl
 refine ab func127 ?_;(repeat (first|refine uA ?_|refine uB ?_))
 refine ah (zR w m ok hl) ?_;refine⟨λ_=>dd ?_,λh=>absurd ((hs).symm.trans h:true=false) ar⟩;(repeat (first|refine uA ?_|refine uB ?_))
 refine tc ?_
 refine ah (qE w sw) ?_;refine uE ?_;(refine⟨a0,_,a1,dd ?_⟩)
 (refine⟨b0,_,b1,dd ?_⟩)
 (refine⟨c0,_,c1,dd ?_⟩)
 refine ah (Slp.qQ m.word hw) ?_;refine .inr ⟨⟨[0,1,5,6,7],[0,1],true⟩,au,λ_=>rfl,_,uH ?_,λt2 H2 h=>h⟩;refine⟨_,ai [] (Slp.qQ e.head hh),uH ?_⟩;refine⟨_,ai [] (y7 w m v hat.tooA 1 8 (e.head%4294967296-1)),uH ?_⟩;(refine⟨uH ?_,trivial⟩);refine hZ ?_
 (refine⟨uH ?_,trivial⟩);refine hZ ?_
 (refine⟨_,_,.refl _,uH ?_⟩)
 (repeat (first|refine uA ?_|refine uB ?_))
 refine w7.go rfl (uH ?_);refine .inl ⟨⟨false,[0,1,2],[5,1,6],[]⟩,au,uH ?_⟩;refine hZ ?_
 exact uI
def Tq(w:Wor)(m:fq)(v0:fB)(g0:Gr)(e0:En)(sw:jf w)(ok:iC w)(hl:i64 m.listen)(hpc:m.pc=3)(hs:z7 w m=true)(hat:iz w m v0 g0 e0)(hne:e0.next≠[])(hw:u64 m.word)(hh:u64 e0.head){tk hd ac:Int}(htk:tk=g0.zt)(hhd:hd=e0.head)(hac:ac=IntKind.i64.wrap (e0.zi-1)):
  tn 127 [] [Cw w,Cm m] (.fC [Cw (na w m v0 g0 e0 tk hd ac),Cm { m with pc:=4 },Ce (iF m v0 3 7 ac)]) []:=by
 have lv:=hat.ln.lv;have lg:=hat.ln.lg;have le:=hat.ln.le;have lq:=sw.ze.2 v0 (gA hat.at_);have hp:Br w.ze m.version.toNat v0 m.zg.toNat g0 m.end_.toNat e0:=⟨⟨⟨lq.2 g0 (gA hat.fR),hat.ia,hne⟩,lq,hat.fR⟩,sw.ze,hat.at_⟩;have ownV:∀i,∀r∈fM w m v0 (i),∀c∈r,zy c=true:=λi=>zB (enc:=zK) (λ_=>rfl) rfl _ _
 have ownG:∀i t,∀r∈fK m v0 g0 (t) (i),∀c∈r,zy c=true:=λi t=>zB (enc:=zF) (λ_=>rfl) rfl _ _
 have ownE:∀i a b,∀r∈fH m g0 e0 (a) (i) (b),∀c∈r,zy c=true:=λi a b=>zB (enc:=zx) (λ_=>rfl) rfl _ _
 have gv:(fM w m v0 (6))[m.version.toNat]?=some ((ql v0.snap++[C.sl (6) [] 2 0 v0.zm.length false,Bo v0.qt])):=gD tY;have gg:(fK m v0 g0 (tk) (7))[m.zg.toNat]?=some ([U (tk),C.sl (7) [] 3 0 g0.ends.length false]):=gD tS;have ge:(fH m g0 e0 (hd) (8) (ac))[m.end_.toNat]?=some ([U (hd),C.sl (8) [] 1 0 e0.next.length false,I (ac)]):=gD tN;have estE:((fH m g0 e0 (hd) (8) (ac)).set m.end_.toNat [U hd,C.fp 0 1 (e0.next.map encI),I ac])=(g0.ends.set m.end_.toNat (qA e0 hd ac)).map zx:=cT
 have estG:((fK m v0 g0 (tk) (7)).set m.zg.toNat [U tk,C.fp 0 3 (((g0.ends.set m.end_.toNat (qA e0 hd ac)).map zx))])=(v0.zm.set m.zg.toNat (yD m g0 e0 tk hd ac)).map zF:=cU
 have estV:((fM w m v0 (6)).set m.version.toNat (ql v0.snap++[C.fp 0 2 (((v0.zm.set m.zg.toNat (yD m g0 e0 tk hd ac)).map zF)),Bo v0.qt]))=(w.ze.set m.version.toNat (xq m v0 g0 e0 tk hd ac)).map zK:=cV
 have eshE:∀r∈((fH m g0 e0 (hd) (8) (ac)).set m.end_.toNat [U hd,C.fp 0 1 (e0.next.map encI),I ac]),∀c∈r,ju c=true/\zy c=true:=by
  exact dx
 have eshG:∀r∈((fK m v0 g0 (tk) (7)).set m.zg.toNat [U tk,C.fp 0 3 ((fH m g0 e0 (hd) (8) (ac)).set m.end_.toNat [U hd,C.fp 0 1 (e0.next.map encI),I ac])]),∀c∈r,ju c=true/\zy c=true:=by
  exact dq
 have eshV:∀r∈((fM w m v0 (6)).set m.version.toNat (ql v0.snap++[C.fp 0 2 ((fK m v0 g0 (tk) (7)).set m.zg.toNat [U tk,C.fp 0 3 ((fH m g0 e0 (hd) (8) (ac)).set m.end_.toNat [U hd,C.fp 0 1 (e0.next.map encI),I ac])]),Bo v0.qt])),∀c∈r,ju c=true/\zy c=true:=by
  exact dp
 have a0:=hat.v0;have b0:=hat.g0;have c0:=hat.e0;have e1:0+m.version.toNat=m.version.toNat:=gN _;have e2:0+m.zg.toNat=m.zg.toNat:=gN _;have e3:0+m.end_.toNat=m.end_.toNat:=gN _;have gg0:(fK m v0 g0 (g0.zt) (7))[m.zg.toNat]?=some ([U (g0.zt),C.sl (7) [] 3 0 g0.ends.length false]):=gD tS;have ge0:(fH m g0 e0 (e0.head) (8) (e0.zi))[m.end_.toNat]?=some ([U (e0.head),C.sl (8) [] 1 0 e0.next.length false,I (e0.zi)]):=gD tN;refine ab func127 ?_;(repeat (first|refine uA ?_|refine uB ?_))
 refine ah (zR w m ok hl) ?_;refine⟨λ_=>dd ?_,λh=>absurd ((hs).symm.trans h:true=false) ar⟩;(repeat (first|refine uA ?_|refine uB ?_))
 refine tc ?_
 refine zY [] [⟨1,38,8,[zU w],0⟩,⟨1,95,44,[zE m],0⟩,⟨1,38,8,[iT],0⟩,⟨1,95,44,[iS],0⟩,⟨1,55,23,[zS qH],0⟩,⟨1,0,5,fM w m v0 (6),0⟩,⟨1,0,2,fK m v0 g0 (g0.zt) (7),0⟩,⟨1,0,3,fH m g0 e0 (e0.head) (8) (e0.zi),0⟩,⟨2,3,1,e0.next.map encI,0⟩] (rx:=.agg (il w 5)) (yF w sw w.ze rfl hp) (zc (zj (ownV 1)) (zc (zj (ownG 2 _)) (zc (zj (ownE 3 _ _)) rfl))) rfl rfl rfl rfl rfl uV rfl (dd ?_);refine uE ?_;refine⟨a0,lv,dd ?_⟩;rw[e1];refine⟨_,gv,cN,dd ?_⟩;refine⟨b0,lg,dd ?_⟩;rw[e2];refine⟨_,gg0,cO,dd ?_⟩;refine⟨c0,le,dd ?_⟩;rw[e3];refine ah (Slp.qQ m.word hw) ?_;refine .inr ⟨⟨[0,1,5,6,7],[0,1,7],true⟩,au,λ_=>(zc rfl (zc rfl (zc rfl (zc rfl (zc rfl (zc (zj (ownV 6)) (zc (zj (ownG 7 _)) (zc (zj (ownE 8 _ _)) rfl)))))))),_,uH ?_,λt2 H2 h=>h⟩;refine⟨_,ge0,cQ,uH ?_⟩;refine⟨_,ai [] (Slp.qQ e0.head hh),uH ?_⟩;refine⟨_,ai [] (y7 w m v0 hat.tooA 1 8 (e0.head%4294967296-1)),uH ?_⟩;(refine⟨uH ?_,trivial⟩);(refine⟨(zc rfl (zc rfl (zc rfl (zc rfl (zc rfl (zc (zj (ownV 6)) (zc (zj (ownG 7 _)) (zc (zj (ownE 8 _ _)) rfl)))))))),uH ?_⟩);refine hZ ?_
 (refine⟨uH ?_,trivial⟩);(refine⟨(zc rfl (zc rfl (zc rfl (zc rfl (zc rfl (zc (zj (ownV 6)) (zc (zj (ownG 7 _)) (zc (zj (ownE 8 _ _)) rfl)))))))),uH ?_⟩);refine hZ ?_
 (refine⟨_,_,.refl _,uH ?_⟩)
 (repeat (first|refine uA ?_|refine uB ?_))
 refine⟨_,ge0,cP,dd ?_⟩;refine⟨_,ge0,rfl,dd ?_⟩;rw[pw];subst htk hhd hac;refine .inl ⟨⟨false,[3],[7],[]⟩,au,uH ?_⟩;refine⟨_,ge,cP,dd ?_⟩;refine hZ ?_
 refine w7.go rfl (uH ?_);rw[show IntKind.i64.wrap (m.pc+1)=4 from cR];refine .inl ⟨⟨false,[0,1,2],[9,1,10],[]⟩,au,uH ?_⟩;refine hZ ?_
 refine⟨.inl rfl,_,(((zp.zV 7 m.end_.toNat 1 rfl ge rfl rfl (.inr rfl) aj aj (shut_map (enc:=encI) (λ_=>rfl) _) (ownE 8 _ _)).trans (zp.zV 6 m.zg.toNat 1 rfl gg rfl rfl (.inl rfl) aj aj eshE (ownG 7 _))).trans (zp.zV 5 m.version.toNat 3 rfl gv rfl rfl (.inl rfl) aj aj eshG (ownV 6))).trans (zp.zV 2 0 4 rfl rfl rfl rfl (.inl rfl) aj aj eshV (z6 rfl)),?_⟩;show _=some (C.fC [C.agg [I w.zr,I w.current,I w.lock,lI w.pins,C.fp 0 5 ((w.ze.set m.version.toNat (xq m v0 g0 e0 g0.zt e0.head (IntKind.i64.wrap (e0.zi-1)))).map zK),lL w.zd,ig w.counts,lR w.zu],Cm { m with pc:=4 },Ce (iF m v0 3 7 (IntKind.i64.wrap (e0.zi-1)))]);rw[<-estV,<-estG,<-estE]
 rfl
def Tp(w:Wor)(m:fq)(v0:fB)(g0:Gr)(e0:En)(sw:jf w)(ok:iC w)(hl:i64 m.listen)(hpc:m.pc=2)(hs:z7 w m=true)(hat:iz w m v0 g0 e0)(hne:e0.next≠[])(hw:u64 m.word)(hh:u64 e0.head)(heq:e0.head=m.word)(s0: -1<=m.slot)(s1:m.slot<=2147483646){tk hd ac:Int}(htk:tk=g0.zt)(hhd:hd=Slp.je m.word m.slot)(hac:ac=e0.zi):
  tn 127 [] [Cw w,Cm m] (.fC [Cw (na w m v0 g0 e0 tk hd ac),Cm { m with pc:=3 },Ce { iF m v0 4 8 m.slot with z5:=true }]) []:=by
 have lv:=hat.ln.lv;have lg:=hat.ln.lg;have le:=hat.ln.le;have lq:=sw.ze.2 v0 (gA hat.at_);have hp:Br w.ze m.version.toNat v0 m.zg.toNat g0 m.end_.toNat e0:=⟨⟨⟨lq.2 g0 (gA hat.fR),hat.ia,hne⟩,lq,hat.fR⟩,sw.ze,hat.at_⟩;have ownV:∀i,∀r∈fM w m v0 (i),∀c∈r,zy c=true:=λi=>zB (enc:=zK) (λ_=>rfl) rfl _ _
 have ownG:∀i t,∀r∈fK m v0 g0 (t) (i),∀c∈r,zy c=true:=λi t=>zB (enc:=zF) (λ_=>rfl) rfl _ _
 have ownE:∀i a b,∀r∈fH m g0 e0 (a) (i) (b),∀c∈r,zy c=true:=λi a b=>zB (enc:=zx) (λ_=>rfl) rfl _ _
 have gv:(fM w m v0 (6))[m.version.toNat]?=some ((ql v0.snap++[C.sl (6) [] 2 0 v0.zm.length false,Bo v0.qt])):=gD tY;have gg:(fK m v0 g0 (tk) (7))[m.zg.toNat]?=some ([U (tk),C.sl (7) [] 3 0 g0.ends.length false]):=gD tS;have ge:(fH m g0 e0 (hd) (8) (ac))[m.end_.toNat]?=some ([U (hd),C.sl (8) [] 1 0 e0.next.length false,I (ac)]):=gD tN;have estE:((fH m g0 e0 (hd) (8) (ac)).set m.end_.toNat [U hd,C.fp 0 1 (e0.next.map encI),I ac])=(g0.ends.set m.end_.toNat (qA e0 hd ac)).map zx:=cT
 have estG:((fK m v0 g0 (tk) (7)).set m.zg.toNat [U tk,C.fp 0 3 (((g0.ends.set m.end_.toNat (qA e0 hd ac)).map zx))])=(v0.zm.set m.zg.toNat (yD m g0 e0 tk hd ac)).map zF:=cU
 have estV:((fM w m v0 (6)).set m.version.toNat (ql v0.snap++[C.fp 0 2 (((v0.zm.set m.zg.toNat (yD m g0 e0 tk hd ac)).map zF)),Bo v0.qt]))=(w.ze.set m.version.toNat (xq m v0 g0 e0 tk hd ac)).map zK:=cV
 have eshE:∀r∈((fH m g0 e0 (hd) (8) (ac)).set m.end_.toNat [U hd,C.fp 0 1 (e0.next.map encI),I ac]),∀c∈r,ju c=true/\zy c=true:=by
  exact dx
 have eshG:∀r∈((fK m v0 g0 (tk) (7)).set m.zg.toNat [U tk,C.fp 0 3 ((fH m g0 e0 (hd) (8) (ac)).set m.end_.toNat [U hd,C.fp 0 1 (e0.next.map encI),I ac])]),∀c∈r,ju c=true/\zy c=true:=by
  exact dq
 have eshV:∀r∈((fM w m v0 (6)).set m.version.toNat (ql v0.snap++[C.fp 0 2 ((fK m v0 g0 (tk) (7)).set m.zg.toNat [U tk,C.fp 0 3 ((fH m g0 e0 (hd) (8) (ac)).set m.end_.toNat [U hd,C.fp 0 1 (e0.next.map encI),I ac])]),Bo v0.qt])),∀c∈r,ju c=true/\zy c=true:=by
  exact dp
 have a0:=hat.v0;have b0:=hat.g0;have c0:=hat.e0;have e1:0+m.version.toNat=m.version.toNat:=gN _;have e2:0+m.zg.toNat=m.zg.toNat:=gN _;have e3:0+m.end_.toNat=m.end_.toNat:=gN _;have gg0:(fK m v0 g0 (g0.zt) (7))[m.zg.toNat]?=some ([U (g0.zt),C.sl (7) [] 3 0 g0.ends.length false]):=gD tS;have ge0:(fH m g0 e0 (e0.head) (8) (e0.zi))[m.end_.toNat]?=some ([U (e0.head),C.sl (8) [] 1 0 e0.next.length false,I (e0.zi)]):=gD tN;refine ab func127 ?_;(repeat (first|refine uA ?_|refine uB ?_))
 refine ah (zR w m ok hl) ?_;refine⟨λ_=>dd ?_,λh=>absurd ((hs).symm.trans h:true=false) ar⟩;(repeat (first|refine uA ?_|refine uB ?_))
 refine tc ?_
 refine zY [] [⟨1,38,8,[zU w],0⟩,⟨1,95,44,[zE m],0⟩,⟨1,38,8,[iT],0⟩,⟨1,95,44,[iS],0⟩,⟨1,55,23,[zS qH],0⟩,⟨1,0,5,fM w m v0 (6),0⟩,⟨1,0,2,fK m v0 g0 (g0.zt) (7),0⟩,⟨1,0,3,fH m g0 e0 (e0.head) (8) (e0.zi),0⟩,⟨2,3,1,e0.next.map encI,0⟩] (rx:=.agg (il w 5)) (yF w sw w.ze rfl hp) (zc (zj (ownV 1)) (zc (zj (ownG 2 _)) (zc (zj (ownE 3 _ _)) rfl))) rfl rfl rfl rfl rfl uV rfl (dd ?_);refine uE ?_;refine⟨a0,lv,dd ?_⟩;rw[e1];refine⟨_,gv,cN,dd ?_⟩;refine⟨b0,lg,dd ?_⟩;rw[e2];refine⟨_,gg0,cO,dd ?_⟩;refine⟨c0,le,dd ?_⟩;rw[e3];refine ah (Slp.qQ m.word hw) ?_;refine .inr ⟨⟨[0,1,5,6,7],[0,1,7],true⟩,au,λ_=>(zc rfl (zc rfl (zc rfl (zc rfl (zc rfl (zc (zj (ownV 6)) (zc (zj (ownG 7 _)) (zc (zj (ownE 8 _ _)) rfl)))))))),_,uH ?_,λt2 H2 h=>h⟩;refine⟨_,ge0,cQ,uH ?_⟩;refine⟨_,ai [] (Slp.qQ e0.head hh),uH ?_⟩;refine⟨_,ai [] (y7 w m v0 hat.tooA 1 8 (e0.head%4294967296-1)),uH ?_⟩;(refine⟨uH ?_,trivial⟩);(refine⟨(zc rfl (zc rfl (zc rfl (zc rfl (zc rfl (zc (zj (ownV 6)) (zc (zj (ownG 7 _)) (zc (zj (ownE 8 _ _)) rfl)))))))),uH ?_⟩);refine hZ ?_
 (refine⟨uH ?_,trivial⟩);(refine⟨(zc rfl (zc rfl (zc rfl (zc rfl (zc rfl (zc (zj (ownV 6)) (zc (zj (ownG 7 _)) (zc (zj (ownE 8 _ _)) rfl)))))))),uH ?_⟩);refine hZ ?_
 (refine⟨_,_,.refl _,uH ?_⟩)
 (repeat (first|refine uA ?_|refine uB ?_))
 refine uE ?_;refine⟨_,ge0,cQ,dd ?_⟩;refine⟨λh=>absurd h (by simp[heq]),λ_=>dd ?_⟩;refine ah (Slp.Hw m.word m.slot hw s0 s1) ?_;refine⟨_,ge0,rfl,dd ?_⟩;rw[pw];subst htk hhd hac;refine .inl ⟨⟨false,[1],[1],[]⟩,au,uH ?_⟩;refine hZ ?_
 refine w7.go rfl (uH ?_);rw[show IntKind.i64.wrap (m.pc+1)=3 from cR];refine .inl ⟨⟨false,[0,1,2],[9,1,10],[]⟩,au,uH ?_⟩;refine hZ ?_
 refine⟨.inl rfl,_,(((zp.zV 7 m.end_.toNat 1 rfl ge rfl rfl (.inr rfl) aj aj (shut_map (enc:=encI) (λ_=>rfl) _) (ownE 8 _ _)).trans (zp.zV 6 m.zg.toNat 1 rfl gg rfl rfl (.inl rfl) aj aj eshE (ownG 7 _))).trans (zp.zV 5 m.version.toNat 3 rfl gv rfl rfl (.inl rfl) aj aj eshG (ownV 6))).trans (zp.zV 2 0 4 rfl rfl rfl rfl (.inl rfl) aj aj eshV (z6 rfl)),?_⟩;show _=some (C.fC [C.agg [I w.zr,I w.current,I w.lock,lI w.pins,C.fp 0 5 ((w.ze.set m.version.toNat (xq m v0 g0 e0 g0.zt (Slp.je m.word m.slot) e0.zi)).map zK),lL w.zd,ig w.counts,lR w.zu],Cm { m with pc:=3 },Ce { iF m v0 4 8 m.slot with z5:=true }]);rw[<-estV,<-estG,<-estE]
 rfl
abbrev vy(m:fq)(e0:En):En:={ e0 with next:=(e0.next.set m.slot.toNat (m.word%4294967296-1)) }
def To(w:Wor)(m:fq)(v0:fB)(g0:Gr)(e0:En)(sw:jf w)(ok:iC w)(hl:i64 m.listen)(hpc:m.pc=1)(hs:z7 w m=true)(hat:iz w m v0 g0 e0)(hne:e0.next≠[])(hw:u64 m.word)(hh:u64 e0.head)(s0:0<=m.slot)(s1:m.slot.toNat<e0.next.length){tk hd ac:Int}(htk:tk=g0.zt)(hhd:hd=e0.head)(hac:ac=e0.zi):
  tn 127 [] [Cw w,Cm m] (.fC [Cw (na w m v0 g0 (vy m e0) tk hd ac),Cm { m with pc:=2 },Ce (iF m v0 2 9 (m.word%4294967296-1))]) []:=by
 have estE1:((fH m g0 e0 (e0.head) (8) (e0.zi)).set m.end_.toNat [U e0.head,C.fp 0 1 ((e0.next.set m.slot.toNat (m.word%4294967296-1)).map encI),I e0.zi])=(g0.ends.set m.end_.toNat (qA (vy m e0) e0.head e0.zi)).map zx:=by rw[pw];exact jC zx _ _ (qA (vy m e0) e0.head e0.zi) _ rfl
 have estG1:((fK m v0 g0 (g0.zt) (7)).set m.zg.toNat [U g0.zt,C.fp 0 3 (((g0.ends.set m.end_.toNat (qA (vy m e0) e0.head e0.zi)).map zx))])=(v0.zm.set m.zg.toNat (yD m g0 (vy m e0) g0.zt e0.head e0.zi)).map zF:=by rw[pw];exact jC zF _ _ (yD m g0 (vy m e0) g0.zt e0.head e0.zi) _ rfl
 have estV1:((fM w m v0 (6)).set m.version.toNat (ql v0.snap++[C.fp 0 2 (((v0.zm.set m.zg.toNat (yD m g0 (vy m e0) g0.zt e0.head e0.zi)).map zF)),Bo v0.qt]))=(w.ze.set m.version.toNat (xq m v0 g0 (vy m e0) g0.zt e0.head e0.zi)).map zK:=by rw[pw];exact jC zK _ _ (xq m v0 g0 (vy m e0) g0.zt e0.head e0.zi) _ rfl
 have eshE1:∀r∈((fH m g0 e0 (e0.head) (8) (e0.zi)).set m.end_.toNat [U e0.head,C.fp 0 1 ((e0.next.set m.slot.toNat (m.word%4294967296-1)).map encI),I e0.zi]),∀c∈r,ju c=true/\zy c=true:=by
  rw[estE1];exact shut_map (enc:=zx) (λ_=>rfl) _
 have eshG1:∀r∈((fK m v0 g0 (g0.zt) (7)).set m.zg.toNat [U g0.zt,C.fp 0 3 ((fH m g0 e0 (e0.head) (8) (e0.zi)).set m.end_.toNat [U e0.head,C.fp 0 1 ((e0.next.set m.slot.toNat (m.word%4294967296-1)).map encI),I e0.zi])]),∀c∈r,ju c=true/\zy c=true:=by
  rw[estE1,estG1];exact shut_map (enc:=zF) (λ_=>rfl) _
 have eshV1:∀r∈((fM w m v0 (6)).set m.version.toNat (ql v0.snap++[C.fp 0 2 ((fK m v0 g0 (g0.zt) (7)).set m.zg.toNat [U g0.zt,C.fp 0 3 ((fH m g0 e0 (e0.head) (8) (e0.zi)).set m.end_.toNat [U e0.head,C.fp 0 1 ((e0.next.set m.slot.toNat (m.word%4294967296-1)).map encI),I e0.zi])]),Bo v0.qt])),∀c∈r,ju c=true/\zy c=true:=by
  rw[estE1,estG1,estV1];exact shut_map (enc:=zK) (λ_=>rfl) _
 have gn:(e0.next.map Hy.encI)[m.slot.toNat]?=some (Hy.encI (e0.next[m.slot.toNat]'s1)):=by rw[gz,gp s1];rfl
 have hst:(e0.next.map Hy.encI).set m.slot.toNat [I (m.word%4294967296-1)]=(e0.next.set m.slot.toNat (m.word%4294967296-1)).map Hy.encI:=bR
 have e4:0+m.slot.toNat=m.slot.toNat:=gN _;have lv:=hat.ln.lv;have lg:=hat.ln.lg;have le:=hat.ln.le;have lq:=sw.ze.2 v0 (gA hat.at_);have hp:Br w.ze m.version.toNat v0 m.zg.toNat g0 m.end_.toNat e0:=⟨⟨⟨lq.2 g0 (gA hat.fR),hat.ia,hne⟩,lq,hat.fR⟩,sw.ze,hat.at_⟩;have ownV:∀i,∀r∈fM w m v0 (i),∀c∈r,zy c=true:=λi=>zB (enc:=zK) (λ_=>rfl) rfl _ _
 have ownG:∀i t,∀r∈fK m v0 g0 (t) (i),∀c∈r,zy c=true:=λi t=>zB (enc:=zF) (λ_=>rfl) rfl _ _
 have ownE:∀i a b,∀r∈fH m g0 e0 (a) (i) (b),∀c∈r,zy c=true:=λi a b=>zB (enc:=zx) (λ_=>rfl) rfl _ _
 have gv:(fM w m v0 (6))[m.version.toNat]?=some ((ql v0.snap++[C.sl (6) [] 2 0 v0.zm.length false,Bo v0.qt])):=gD tY;have gg:(fK m v0 g0 (tk) (7))[m.zg.toNat]?=some ([U (tk),C.sl (7) [] 3 0 g0.ends.length false]):=gD tS;have ge:(fH m g0 e0 (hd) (8) (ac))[m.end_.toNat]?=some ([U (hd),C.sl (8) [] 1 0 e0.next.length false,I (ac)]):=gD tN;have estE:((fH m g0 e0 (hd) (8) (ac)).set m.end_.toNat [U hd,C.fp 0 1 (e0.next.map encI),I ac])=(g0.ends.set m.end_.toNat (qA e0 hd ac)).map zx:=cT
 have estG:((fK m v0 g0 (tk) (7)).set m.zg.toNat [U tk,C.fp 0 3 (((g0.ends.set m.end_.toNat (qA e0 hd ac)).map zx))])=(v0.zm.set m.zg.toNat (yD m g0 e0 tk hd ac)).map zF:=cU
 have estV:((fM w m v0 (6)).set m.version.toNat (ql v0.snap++[C.fp 0 2 (((v0.zm.set m.zg.toNat (yD m g0 e0 tk hd ac)).map zF)),Bo v0.qt]))=(w.ze.set m.version.toNat (xq m v0 g0 e0 tk hd ac)).map zK:=cV
 have eshE:∀r∈((fH m g0 e0 (hd) (8) (ac)).set m.end_.toNat [U hd,C.fp 0 1 (e0.next.map encI),I ac]),∀c∈r,ju c=true/\zy c=true:=by
  exact dx
 have eshG:∀r∈((fK m v0 g0 (tk) (7)).set m.zg.toNat [U tk,C.fp 0 3 ((fH m g0 e0 (hd) (8) (ac)).set m.end_.toNat [U hd,C.fp 0 1 (e0.next.map encI),I ac])]),∀c∈r,ju c=true/\zy c=true:=by
  exact dq
 have eshV:∀r∈((fM w m v0 (6)).set m.version.toNat (ql v0.snap++[C.fp 0 2 ((fK m v0 g0 (tk) (7)).set m.zg.toNat [U tk,C.fp 0 3 ((fH m g0 e0 (hd) (8) (ac)).set m.end_.toNat [U hd,C.fp 0 1 (e0.next.map encI),I ac])]),Bo v0.qt])),∀c∈r,ju c=true/\zy c=true:=by
  exact dp
 have a0:=hat.v0;have b0:=hat.g0;have c0:=hat.e0;have e1:0+m.version.toNat=m.version.toNat:=gN _;have e2:0+m.zg.toNat=m.zg.toNat:=gN _;have e3:0+m.end_.toNat=m.end_.toNat:=gN _;have gg0:(fK m v0 g0 (g0.zt) (7))[m.zg.toNat]?=some ([U (g0.zt),C.sl (7) [] 3 0 g0.ends.length false]):=gD tS;have ge0:(fH m g0 e0 (e0.head) (8) (e0.zi))[m.end_.toNat]?=some ([U (e0.head),C.sl (8) [] 1 0 e0.next.length false,I (e0.zi)]):=gD tN;refine ab func127 ?_;(repeat (first|refine uA ?_|refine uB ?_))
 refine ah (zR w m ok hl) ?_;refine⟨λ_=>dd ?_,λh=>absurd ((hs).symm.trans h:true=false) ar⟩;(repeat (first|refine uA ?_|refine uB ?_))
 refine tc ?_
 refine zY [] [⟨1,38,8,[zU w],0⟩,⟨1,95,44,[zE m],0⟩,⟨1,38,8,[iT],0⟩,⟨1,95,44,[iS],0⟩,⟨1,55,23,[zS qH],0⟩,⟨1,0,5,fM w m v0 (6),0⟩,⟨1,0,2,fK m v0 g0 (g0.zt) (7),0⟩,⟨1,0,3,fH m g0 e0 (e0.head) (8) (e0.zi),0⟩,⟨2,3,1,e0.next.map encI,0⟩] (rx:=.agg (il w 5)) (yF w sw w.ze rfl hp) (zc (zj (ownV 1)) (zc (zj (ownG 2 _)) (zc (zj (ownE 3 _ _)) rfl))) rfl rfl rfl rfl rfl uV rfl (dd ?_);refine uE ?_;refine⟨a0,lv,dd ?_⟩;rw[e1];refine⟨_,gv,cN,dd ?_⟩;refine⟨b0,lg,dd ?_⟩;rw[e2];refine⟨_,gg0,cO,dd ?_⟩;refine⟨c0,le,dd ?_⟩;rw[e3];refine ah (Slp.qQ m.word hw) ?_;refine .inr ⟨⟨[0,1,5,6,7],[0,1,7],true⟩,au,λ_=>(zc rfl (zc rfl (zc rfl (zc rfl (zc rfl (zc (zj (ownV 6)) (zc (zj (ownG 7 _)) (zc (zj (ownE 8 _ _)) rfl)))))))),_,uH ?_,λt2 H2 h=>h⟩;refine⟨_,ge0,cQ,uH ?_⟩;refine⟨_,ai [] (Slp.qQ e0.head hh),uH ?_⟩;refine⟨_,ai [] (y7 w m v0 hat.tooA 1 8 (e0.head%4294967296-1)),uH ?_⟩;(refine⟨uH ?_,trivial⟩);(refine⟨(zc rfl (zc rfl (zc rfl (zc rfl (zc rfl (zc (zj (ownV 6)) (zc (zj (ownG 7 _)) (zc (zj (ownE 8 _ _)) rfl)))))))),uH ?_⟩);refine hZ ?_
 (refine⟨uH ?_,trivial⟩);(refine⟨(zc rfl (zc rfl (zc rfl (zc rfl (zc rfl (zc (zj (ownV 6)) (zc (zj (ownG 7 _)) (zc (zj (ownE 8 _ _)) rfl)))))))),uH ?_⟩);refine hZ ?_
 (refine⟨_,_,.refl _,uH ?_⟩)
 (repeat (first|refine uA ?_|refine uB ?_))
 subst htk hhd hac;refine uE ?_;refine⟨_,ge0,(by show 1+1<=3;decide),dd ?_⟩;refine⟨s0,s1,dd ?_⟩;rw[e4];refine⟨_,gn,rfl,dd ?_⟩;rw[hst];refine w7.go rfl (uH ?_);rw[show IntKind.i64.wrap (m.pc+1)=2 from cR];refine .inl ⟨⟨false,[0,1,2],[9,1,10],[]⟩,au,uH ?_⟩;refine hZ ?_
 refine⟨.inl rfl,_,(((zp.zV 7 m.end_.toNat 1 rfl ge rfl rfl (.inr rfl) aj aj (shut_map (enc:=encI) (λ_=>rfl) _) (ownE 8 _ _)).trans (zp.zV 6 m.zg.toNat 1 rfl gg rfl rfl (.inl rfl) aj aj eshE1 (ownG 7 _))).trans (zp.zV 5 m.version.toNat 3 rfl gv rfl rfl (.inl rfl) aj aj eshG1 (ownV 6))).trans (zp.zV 2 0 4 rfl rfl rfl rfl (.inl rfl) aj aj eshV1 (z6 rfl)),?_⟩;show _=some (C.fC [C.agg [I w.zr,I w.current,I w.lock,lI w.pins,C.fp 0 5 ((w.ze.set m.version.toNat (xq m v0 g0 (vy m e0) g0.zt e0.head e0.zi)).map zK),lL w.zd,ig w.counts,lR w.zu],Cm { m with pc:=2 },Ce (iF m v0 2 9 (m.word%4294967296-1))]);rw[<-estV1,<-estG1,<-estE1]
 rfl
abbrev JA(m:fq):fF:=⟨6,m.version,m.zg,m.end_,m.slot,m.listen,0,⟨0,0,0,0,0,0⟩⟩
abbrev OR(m:fq)(x:fQ):fx:={ qH with zf:=m.zf,access:=3,cell:=5,version:= -1,value:=IntKind.i64.wrap (x.zi-1),done:=true,answer:=JA m }
abbrev Bn(x:fQ):fQ:={ x with zi:=IntKind.i64.wrap (x.zi-1) }
def Ts(w:Wor)(m:fq)(v:fB)(g:Gr)(e:En)(x:fQ)(sw:jf w)(ok:iC w)(hl:i64 m.listen)(hpc:m.pc=4)(hs:z7 w m=true)(hat:iz w m v g e)(hw:u64 m.word)(hh:u64 e.head)(hli:0<=m.listen)(hx:w.zd[m.listen.toNat]?=some x):
  tn 127 [] [Cw w,Cm m] (.fC [Cw { w with zd:=w.zd.set m.listen.toNat (Bn x) },Cm { m with answer:=JA m,done:=true },Ce (OR m x)]) []:=by
 have a0:=hat.v0;have a1:=hat.tooA.row;have b0:=hat.g0;have b1:(v.zm.map zF)[m.zg.toNat]?=some (zF g):=by rw[gz,hat.fR];rfl
 have c0:=hat.e0;have c1:(g.ends.map zx)[m.end_.toNat]?=some (zx e):=by rw[gz,hat.ia];rfl
 have hn:¬m.listen<0:=aw
 have lt:m.listen.toNat<w.zd.length:=(gm.1 hx).1;have gl:(w.zd.map qW)[m.listen.toNat]?=some (qW x):=by rw[gz,hx];rfl
 have hst:(w.zd.map qW).set m.listen.toNat [Tx x.name,Bo x.drain,I (IntKind.i64.wrap (x.zi-1)),Bo x.closed]=(w.zd.set m.listen.toNat (Bn x)).map qW:=bR
 have gl2:((w.zd.set m.listen.toNat (Bn x)).map qW)[m.listen.toNat]?=some (qW (Bn x)):=by rw[gz,gD lt];rfl
 have e1:0+m.listen.toNat=m.listen.toNat:=gN _
 obtain⟨y,l,hy⟩:∃y l,w.zd=y::l:=by
  cases h:w.zd with
  |nil=>rw[h]at lt;simp at lt
  |cons y l=>exact⟨y,l,rfl⟩
 refine ab func127 ?_;(repeat (first|refine uA ?_|refine uB ?_))
 refine ah (zR w m ok hl) ?_;refine⟨λ_=>dd ?_,λh=>absurd ((hs).symm.trans h:true=false) ar⟩;(repeat (first|refine uA ?_|refine uB ?_))
 refine tc ?_
 refine af [] (vu w sw y l hy) ?_;refine uE ?_;(refine⟨a0,_,a1,dd ?_⟩)
 (refine⟨b0,_,b1,dd ?_⟩)
 (refine⟨c0,_,c1,dd ?_⟩)
 refine ah (Slp.qQ m.word hw) ?_;refine .inr ⟨⟨[0,1,5,6,7],[0,1],true⟩,au,λ_=>rfl,_,uH ?_,λt2 H2 h=>h⟩;refine⟨_,ai [] (Slp.qQ e.head hh),uH ?_⟩;refine⟨_,ai [] (y7 w m v hat.tooA 1 8 (e.head%4294967296-1)),uH ?_⟩;(refine⟨uH ?_,trivial⟩);refine hZ ?_
 (refine⟨uH ?_,trivial⟩);refine hZ ?_
 (refine⟨_,_,.refl _,uH ?_⟩)
 (repeat (first|refine uA ?_|refine uB ?_))
 refine⟨hli,lt,dd ?_⟩;rw[e1];refine⟨_,gl,cM,dd ?_⟩;refine⟨_,gl,rfl,dd ?_⟩;rw[hst];refine uE ?_;refine⟨_,gl2,cM,dd ?_⟩;refine w7.go rfl (uH ?_);refine .inl ⟨⟨false,[0,1,2],[6,1,7],[]⟩,au,uH ?_⟩;refine hZ ?_
 exact⟨.inl rfl,_,zp.zV 2 0 5 rfl rfl rfl rfl (.inr rfl) aj aj (shut_map (enc:=qW) (λ_=>rfl) _) (z6 rfl),rfl⟩
end Go.Wor
