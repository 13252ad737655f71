import Derived.Test.YtamgiodaflkbhaaGreatVX
set_option linter.all false
set_option maxRecDepth 100000
set_option maxHeartbeats 4000000
namespace Go.Wor
open Go.Ab Go.Proofs Tryz Go.Hy Go.Gat Go.Nam Go.Hos Go.Con Go.Sna
def vc(w:Wor)(m:fx)(v:fC)(hv:mK w m v)(a b c:Int):th 174 [] [Cw w,Cm m,I a,I b,I c] (Ce (ib m v a b c)) []:=by
 have h0:=hv.v0;have hr:=hv.row;obtain⟨sn,gs,fr⟩:=v;cases fr
 all_goals
  refine ab func174 ?_;refine uE ?_;(refine⟨h0,_,hr,dd ?_⟩)
  first|((refine ya (dd ?_)))|((refine yb (dd ?_)))
  exact uI
def R0(w:Wor)(m:fx)(v:fC)(g:Gr)(e:En)(sw:z6 w)(ok:fG w)(hl:i64 m.listen)(hpc:m.pc=0)(hs:zG w m=true)(hat:ig w m v g e)(hw:u64 m.word)(hh:u64 e.head):
  th 138 [] [Cw w,Cm m] (.fy [Cw w,Cm {m with word:=e.head,pc:=1},Ce (ib m v 1 8 (e.head%4294967296-1))]) []:=by
 have a0:=hat.v0;have a1:=hat.tomK.row;have b0:=hat.g0;have b1:(v.zg.map zy)[m.zp.toNat]?=some (zy g):=by rw[pw,hat.iC];rfl
 have c0:=hat.e0;have c1:(g.ends.map zx)[m.end_.toNat]?=some (zx e):=by rw[pw,hat.iM];rfl
 refine ab func138 ?_;refine zah ?_
 refine zcs ?_
 refine td ?_
 refine af (qz w sw) ?_;refine uE ?_;(refine⟨a0,_,a1,dd ?_⟩)
 (refine⟨b0,_,b1,dd ?_⟩)
 (refine⟨c0,_,c1,dd ?_⟩)
 refine zaI ?_
 refine zbj ?_
 refine zaM ?_
 refine zah ?_
 refine mU.go V (uH ?_);rw[show IntKind.i64.wrap (m.pc+1)=1 from di];refine zbw ?_
 exact uI
abbrev HT(m:fx):fF:={zW with zm:=m.zm,access:=1,version:= -1,done:=true,answer:=wW 7}
def R6(w:Wor)(m:fx)(v:fC)(g:Gr)(e:En)(sw:z6 w)(ok:fG w)(hl:i64 m.listen)(hpc:m.pc=9)(hs:zG w m=true)(hat:ig w m v g e)(hw:u64 m.word)(hh:u64 e.head):
  th 138 [] [Cw w,Cm m] (.fy [Cw w,Cm {m with answer:=wW 7,done:=true},Ce (HT m)]) []:=by
 have a0:=hat.v0;have a1:=hat.tomK.row;have b0:=hat.g0;have b1:(v.zg.map zy)[m.zp.toNat]?=some (zy g):=by rw[pw,hat.iC];rfl
 have c0:=hat.e0;have c1:(g.ends.map zx)[m.end_.toNat]?=some (zx e):=by rw[pw,hat.iM];rfl
 refine ab func138 ?_;refine zah ?_
 refine zcs ?_
 refine td ?_
 refine af (qz w sw) ?_;refine uE ?_;(refine⟨a0,_,a1,dd ?_⟩)
 (refine⟨b0,_,b1,dd ?_⟩)
 (refine⟨c0,_,c1,dd ?_⟩)
 refine zaI ?_
 refine zbj ?_
 refine zaM ?_
 refine zah ?_
 refine mU.go V (uH ?_);refine zbw ?_
 exact uI
def R4(w:Wor)(m:fx)(v0:fC)(g0:Gr)(e0:En)(sw:z6 w)(ok:fG w)(hl:i64 m.listen)(hpc:m.pc=3)(hs:zG w m=true)(hat:ig w m v0 g0 e0)(hne:e0.next≠[])(hw:u64 m.word)(hh:u64 e0.head){tk hd ac:Int}(htk:tk=g0.zC)(hhd:hd=e0.head)(hac:ac=IntKind.i64.wrap (e0.zo-1)):
  th 138 [] [Cw w,Cm m] (.fy [Cw (vO w m v0 g0 e0 tk hd ac),Cm {m with pc:=4},Ce (ib m v0 3 7 ac)]) []:=by
 obtain⟨hp,ownV,ownG,ownE,gv,gg,ge,estE,estG,estV,eshE,eshG,eshV⟩:=wI tk hd ac sw hat hne;have a0:=hat.v0;have b0:=hat.g0;have c0:=hat.e0;have e1:0+m.version.toNat=m.version.toNat:=pK _;have e2:0+m.zp.toNat=m.zp.toNat:=pK _;have e3:0+m.end_.toNat=m.end_.toNat:=pK _;refine ab func138 ?_;refine zah ?_
 refine zcs ?_
 refine td ?_
 refine zaA ?_;refine tc ?_
 refine zbs ?_
 refine zaM ?_
 refine zah ?_
 refine⟨_,ge _ _,mH,dd ?_⟩;refine⟨_,ge _ _,rfl,dd ?_⟩;rw[rb];subst htk hhd hac;refine .inl ⟨⟨false,[3],[7],[]⟩,ak,uH ?_⟩;refine⟨_,ge _ _,mH,dd ?_⟩;refine tc ?_
 refine mU.go V (uH ?_);rw[show IntKind.i64.wrap (m.pc+1)=4 from di];refine .inl ⟨⟨false,[0,1,2],[9,1,10],[]⟩,ak,uH ?_⟩;refine tc ?_
 refine zas ?_;show _=some (C.fy [C.agg [I w.zr,I w.current,I w.lock,lI w.pins,C.fq 0 5 ((w.zd.set m.version.toNat (xL m v0 g0 e0 g0.zC e0.head (IntKind.i64.wrap (e0.zo-1)))).map zt),lL w.zc,fJ w.counts,lR w.zn],Cm {m with pc:=4},Ce (ib m v0 3 7 (IntKind.i64.wrap (e0.zo-1)))]);rw[<-estV,<-estG,<-estE]
 rfl
def R3(w:Wor)(m:fx)(v0:fC)(g0:Gr)(e0:En)(sw:z6 w)(ok:fG w)(hl:i64 m.listen)(hpc:m.pc=2)(hs:zG w m=true)(hat:ig w m v0 g0 e0)(hne:e0.next≠[])(hw:u64 m.word)(hh:u64 e0.head)(heq:e0.head=m.word)(s0: -1<=m.slot)(s1:m.slot<=2147483646){tk hd ac:Int}(htk:tk=g0.zC)(hhd:hd=Slp.vq m.word m.slot)(hac:ac=e0.zo):
  th 138 [] [Cw w,Cm m] (.fy [Cw (vO w m v0 g0 e0 tk hd ac),Cm {m with pc:=3},Ce {ib m v0 4 8 m.slot with jo:=true}]) []:=by
 obtain⟨hp,ownV,ownG,ownE,gv,gg,ge,estE,estG,estV,eshE,eshG,eshV⟩:=wI tk hd ac sw hat hne;have a0:=hat.v0;have b0:=hat.g0;have c0:=hat.e0;have e1:0+m.version.toNat=m.version.toNat:=pK _;have e2:0+m.zp.toNat=m.zp.toNat:=pK _;have e3:0+m.end_.toNat=m.end_.toNat:=pK _;refine ab func138 ?_;refine zah ?_
 refine zcs ?_
 refine td ?_
 refine zaA ?_;refine tc ?_
 refine zbs ?_
 refine zaM ?_
 refine zah ?_
 refine uE ?_;refine⟨_,ge _ _,mE,dd ?_⟩;refine⟨λh=>absurd h (by simp[heq]),λ_=>dd ?_⟩;refine af (Slp.Gb m.word m.slot hw s0 s1) ?_;refine⟨_,ge _ _,rfl,dd ?_⟩;rw[rb];subst htk hhd hac;refine zb2 ?_
 refine mU.go V (uH ?_);rw[show IntKind.i64.wrap (m.pc+1)=3 from di];refine .inl ⟨⟨false,[0,1,2],[9,1,10],[]⟩,ak,uH ?_⟩;refine tc ?_
 refine zas ?_;show _=some (C.fy [C.agg [I w.zr,I w.current,I w.lock,lI w.pins,C.fq 0 5 ((w.zd.set m.version.toNat (xL m v0 g0 e0 g0.zC (Slp.vq m.word m.slot) e0.zo)).map zt),lL w.zc,fJ w.counts,lR w.zn],Cm {m with pc:=3},Ce {ib m v0 4 8 m.slot with jo:=true}]);rw[<-estV,<-estG,<-estE]
 rfl
abbrev yw(m:fx)(e0:En):En:={e0 with next:=(e0.next.set m.slot.toNat (m.word%4294967296-1))}
def R2(w:Wor)(m:fx)(v0:fC)(g0:Gr)(e0:En)(sw:z6 w)(ok:fG w)(hl:i64 m.listen)(hpc:m.pc=1)(hs:zG w m=true)(hat:ig w m v0 g0 e0)(hne:e0.next≠[])(hw:u64 m.word)(hh:u64 e0.head)(s0:0<=m.slot)(s1:m.slot.toNat<e0.next.length){tk hd ac:Int}(htk:tk=g0.zC)(hhd:hd=e0.head)(hac:ac=e0.zo):
  th 138 [] [Cw w,Cm m] (.fy [Cw (vO w m v0 g0 (yw m e0) tk hd ac),Cm {m with pc:=2},Ce (ib m v0 2 9 (m.word%4294967296-1))]) []:=by
 have estE1:((fP m g0 e0 (e0.head) (8) (e0.zo)).set m.end_.toNat [U e0.head,C.fq 0 1 ((e0.next.set m.slot.toNat (m.word%4294967296-1)).map encI),I e0.zo])=(g0.ends.set m.end_.toNat (vN (yw m e0) e0.head e0.zo)).map zx:=cV
 have estG1:((fT m v0 g0 (g0.zC) (7)).set m.zp.toNat [U g0.zC,C.fq 0 3 (((g0.ends.set m.end_.toNat (vN (yw m e0) e0.head e0.zo)).map zx))])=(v0.zg.set m.zp.toNat (nN m g0 (yw m e0) g0.zC e0.head e0.zo)).map zy:=cW
 have estV1:((fX w m v0 (6)).set m.version.toNat (qV v0.snap++[C.fq 0 2 (((v0.zg.set m.zp.toNat (nN m g0 (yw m e0) g0.zC e0.head e0.zo)).map zy)),Bo v0.qH]))=(w.zd.set m.version.toNat (xL m v0 g0 (yw m e0) g0.zC e0.head e0.zo)).map zt:=cX
 have eshE1:∀r∈((fP m g0 e0 (e0.head) (8) (e0.zo)).set m.end_.toNat [U e0.head,C.fq 0 1 ((e0.next.set m.slot.toNat (m.word%4294967296-1)).map encI),I e0.zo]),∀c∈r,jV c=true/\zF c=true:=by
  rw[estE1];exact shut_map (enc:=zx) (λ_=>V) _
 have eshG1:∀r∈((fT m v0 g0 (g0.zC) (7)).set m.zp.toNat [U g0.zC,C.fq 0 3 ((fP m g0 e0 (e0.head) (8) (e0.zo)).set m.end_.toNat [U e0.head,C.fq 0 1 ((e0.next.set m.slot.toNat (m.word%4294967296-1)).map encI),I e0.zo])]),∀c∈r,jV c=true/\zF c=true:=by
  rw[estE1,estG1];exact shut_map (enc:=zy) (λ_=>V) _
 have eshV1:∀r∈((fX w m v0 (6)).set m.version.toNat (qV v0.snap++[C.fq 0 2 ((fT m v0 g0 (g0.zC) (7)).set m.zp.toNat [U g0.zC,C.fq 0 3 ((fP m g0 e0 (e0.head) (8) (e0.zo)).set m.end_.toNat [U e0.head,C.fq 0 1 ((e0.next.set m.slot.toNat (m.word%4294967296-1)).map encI),I e0.zo])]),Bo v0.qH])),∀c∈r,jV c=true/\zF c=true:=by
  rw[estE1,estG1,estV1];exact shut_map (enc:=zt) (λ_=>V) _
 have gn:(e0.next.map Hy.encI)[m.slot.toNat]?=some (Hy.encI (e0.next[m.slot.toNat]'s1)):=by rw[pw,pq s1];rfl
 have hst:(e0.next.map Hy.encI).set m.slot.toNat [I (m.word%4294967296-1)]=(e0.next.set m.slot.toNat (m.word%4294967296-1)).map Hy.encI:=bO
 have e4:0+m.slot.toNat=m.slot.toNat:=pK _;obtain⟨hp,ownV,ownG,ownE,gv,gg,ge,estE,estG,estV,eshE,eshG,eshV⟩:=wI tk hd ac sw hat hne;have a0:=hat.v0;have b0:=hat.g0;have c0:=hat.e0;have e1:0+m.version.toNat=m.version.toNat:=pK _;have e2:0+m.zp.toNat=m.zp.toNat:=pK _;have e3:0+m.end_.toNat=m.end_.toNat:=pK _;refine ab func138 ?_;refine zah ?_
 refine zcs ?_
 refine td ?_
 refine zaA ?_;refine tc ?_
 refine zbs ?_
 refine zaM ?_
 refine zah ?_
 subst htk hhd hac;refine uE ?_;refine⟨_,ge _ _,(by show 1+1<=3;decide),dd ?_⟩;refine⟨s0,s1,dd ?_⟩;rw[e4];refine⟨_,gn,rfl,dd ?_⟩;rw[hst];refine mU.go V (uH ?_);rw[show IntKind.i64.wrap (m.pc+1)=2 from di];refine .inl ⟨⟨false,[0,1,2],[9,1,10],[]⟩,ak,uH ?_⟩;refine tc ?_
 refine⟨.inl V,_,(((zl.zN 7 m.end_.toNat 1 V (ge _ _) V V (.inr V) ah ah (shut_map (enc:=encI) (λ_=>V) _) (ownE 8 _ _)).trans (zl.zN 6 m.zp.toNat 1 V (gg _) V V (.inl V) ah ah eshE1 (ownG 7 _))).trans (zl.zN 5 m.version.toNat 3 V gv V V (.inl V) ah ah eshG1 (ownV 6))).trans (zl.zN 2 0 4 V V V V (.inl V) ah ah eshV1 (zB V)),?_⟩;show _=some (C.fy [C.agg [I w.zr,I w.current,I w.lock,lI w.pins,C.fq 0 5 ((w.zd.set m.version.toNat (xL m v0 g0 (yw m e0) g0.zC e0.head e0.zo)).map zt),lL w.zc,fJ w.counts,lR w.zn],Cm {m with pc:=2},Ce (ib m v0 2 9 (m.word%4294967296-1))]);rw[<-estV1,<-estG1,<-estE1]
 rfl
abbrev Du(m:fx):fM:=⟨6,m.version,m.zp,m.end_,m.slot,m.listen,0,⟨0,0,0,0,0,0⟩⟩
abbrev HW(m:fx)(x:fO):fF:={zW with zm:=m.zm,access:=3,cell:=5,version:= -1,value:=IntKind.i64.wrap (x.zo-1),done:=true,answer:=Du m}
abbrev kF(x:fO):fO:={x with zo:=IntKind.i64.wrap (x.zo-1)}
def R5(w:Wor)(m:fx)(v:fC)(g:Gr)(e:En)(x:fO)(sw:z6 w)(ok:fG w)(hl:i64 m.listen)(hpc:m.pc=4)(hs:zG w m=true)(hat:ig w m v g e)(hw:u64 m.word)(hh:u64 e.head)(hli:0<=m.listen)(hx:w.zc[m.listen.toNat]?=some x):
  th 138 [] [Cw w,Cm m] (.fy [Cw {w with zc:=w.zc.set m.listen.toNat (kF x)},Cm {m with answer:=Du m,done:=true},Ce (HW m x)]) []:=by
 have a0:=hat.v0;have a1:=hat.tomK.row;have b0:=hat.g0;have b1:(v.zg.map zy)[m.zp.toNat]?=some (zy g):=by rw[pw,hat.iC];rfl
 have c0:=hat.e0;have c1:(g.ends.map zx)[m.end_.toNat]?=some (zx e):=by rw[pw,hat.iM];rfl
 have hn:¬m.listen<0:=an
 have lt:m.listen.toNat<w.zc.length:=(px.1 hx).1;have gl:(w.zc.map zT)[m.listen.toNat]?=some (zT x):=by rw[pw,hx];rfl
 have hst:(w.zc.map zT).set m.listen.toNat [Tx x.name,Bo x.drain,I (IntKind.i64.wrap (x.zo-1)),Bo x.closed]=(w.zc.set m.listen.toNat (kF x)).map zT:=bO
 have gl2:((w.zc.set m.listen.toNat (kF x)).map zT)[m.listen.toNat]?=some (zT (kF x)):=by rw[pw,pH lt];rfl
 have e1:0+m.listen.toNat=m.listen.toNat:=pK _
 obtain⟨y,l,hy⟩:∃y l,w.zc=y::l:=by
  cases h:w.zc with
  |nil=>rw[h]at lt;simp at lt
  |cons y l=>exact⟨y,l,rfl⟩
 refine ab func138 ?_;refine zah ?_
 refine zcs ?_
 refine td ?_
 refine ae [] (vz w sw y l hy) ?_;refine uE ?_;(refine⟨a0,_,a1,dd ?_⟩)
 (refine⟨b0,_,b1,dd ?_⟩)
 (refine⟨c0,_,c1,dd ?_⟩)
 refine zaI ?_
 refine zbj ?_
 refine zaM ?_
 refine zah ?_
 refine⟨hli,lt,dd ?_⟩;rw[e1];refine⟨_,gl,tZ,dd ?_⟩;refine⟨_,gl,rfl,dd ?_⟩;rw[hst];refine uE ?_;refine⟨_,gl2,tZ,dd ?_⟩;refine mU.go V (uH ?_);refine .inl ⟨⟨false,[0,1,2],[6,1,7],[]⟩,ak,uH ?_⟩;refine tc ?_
 exact gQ
end Go.Wor
