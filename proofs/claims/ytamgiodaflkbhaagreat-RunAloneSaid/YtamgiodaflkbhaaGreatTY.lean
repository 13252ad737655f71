import Derived.Test.YtamgiodaflkbhaaGreatTX
set_option linter.all false
set_option maxRecDepth 100000
set_option maxHeartbeats 4000000
namespace Go.Wor
open Go.Ab Go.Proofs Tryz Go.Hy Go.Gat Go.Nam Go.Hos Go.Con Go.Sna
def yW(w:Wor)(m:eQ)(v:eX)(hv:lS w m v)(a b c:Int):th 174 [] [Cw w,Cm m,I a,I b,I c] (Ce (fD m v a b c)) []:=by
 have h0:=hv.v0;have hr:=hv.row;obtain⟨sn,gs,fr⟩:=v;cases fr
 all_goals
  refine ab func174 ?_;refine uE ?_;(refine⟨h0,_,hr,dd ?_⟩)
  first|((refine ya (dd ?_)))|((refine yb (dd ?_)))
  exact uI
def RR(w:Wor)(m:eQ)(v:eX)(g:Gr)(e:En)(sw:z6 w)(ok:fa w)(hl:i64 m.listen)(hpc:m.pc=0)(hs:zE w m=true)(hat:fF w m v g e)(hw:u64 m.word)(hh:u64 e.head):
  th 138 [] [Cw w,Cm m] (.eR [Cw w,Cm {m with word:=e.head,pc:=1},Ce (fD m v 1 8 (e.head%4294967296-1))]) []:=by
 have a0:=hat.v0;have a1:=hat.tolS.row;have b0:=hat.g0;have b1:(v.zg.map zy)[m.zp.toNat]?=some (zy g):=by rw[gM,hat.fV];rfl
 have c0:=hat.e0;have c1:(g.ends.map zu)[m.end_.toNat]?=some (zu e):=by rw[gM,hat.ig];rfl
 refine ab func138 ?_;refine zad ?_
 refine zce ?_
 refine td ?_
 refine af (qx w sw) ?_;refine uE ?_;(refine⟨a0,_,a1,dd ?_⟩)
 (refine⟨b0,_,b1,dd ?_⟩)
 (refine⟨c0,_,c1,dd ?_⟩)
 refine zax ?_
 refine za5 ?_
 refine zaC ?_
 refine zad ?_
 refine wK.go V (uH ?_);rw[show IntKind.i64.wrap (m.pc+1)=1 from cV];refine zbj ?_
 exact uI
abbrev G6(m:eQ):e7:={zY with zl:=m.zl,access:=1,version:= -1,done:=true,answer:=wG 7}
def Rg(w:Wor)(m:eQ)(v:eX)(g:Gr)(e:En)(sw:z6 w)(ok:fa w)(hl:i64 m.listen)(hpc:m.pc=9)(hs:zE w m=true)(hat:fF w m v g e)(hw:u64 m.word)(hh:u64 e.head):
  th 138 [] [Cw w,Cm m] (.eR [Cw w,Cm {m with answer:=wG 7,done:=true},Ce (G6 m)]) []:=by
 have a0:=hat.v0;have a1:=hat.tolS.row;have b0:=hat.g0;have b1:(v.zg.map zy)[m.zp.toNat]?=some (zy g):=by rw[gM,hat.fV];rfl
 have c0:=hat.e0;have c1:(g.ends.map zu)[m.end_.toNat]?=some (zu e):=by rw[gM,hat.ig];rfl
 refine ab func138 ?_;refine zad ?_
 refine zce ?_
 refine td ?_
 refine af (qx w sw) ?_;refine uE ?_;(refine⟨a0,_,a1,dd ?_⟩)
 (refine⟨b0,_,b1,dd ?_⟩)
 (refine⟨c0,_,c1,dd ?_⟩)
 refine zax ?_
 refine za5 ?_
 refine zaC ?_
 refine zad ?_
 refine wK.go V (uH ?_);refine zbj ?_
 exact uI
def RU(w:Wor)(m:eQ)(v0:eX)(g0:Gr)(e0:En)(sw:z6 w)(ok:fa w)(hl:i64 m.listen)(hpc:m.pc=3)(hs:zE w m=true)(hat:fF w m v0 g0 e0)(hne:e0.next≠[])(hw:u64 m.word)(hh:u64 e0.head){tk hd ac:Int}(htk:tk=g0.zC)(hhd:hd=e0.head)(hac:ac=IntKind.i64.wrap (e0.zo-1)):
  th 138 [] [Cw w,Cm m] (.eR [Cw (vv w m v0 g0 e0 tk hd ac),Cm {m with pc:=4},Ce (fD m v0 3 7 ac)]) []:=by
 obtain⟨hp,ownV,ownG,ownE,gv,gg,ge,estE,estG,estV,eshE,eshG,eshV⟩:=wm tk hd ac sw hat hne;have a0:=hat.v0;have b0:=hat.g0;have c0:=hat.e0;have e1:0+m.version.toNat=m.version.toNat:=gZ _;have e2:0+m.zp.toNat=m.zp.toNat:=gZ _;have e3:0+m.end_.toNat=m.end_.toNat:=gZ _;refine ab func138 ?_;refine zad ?_
 refine zce ?_
 refine td ?_
 refine zar ?_;refine tc ?_
 refine zbf ?_
 refine zaC ?_
 refine zad ?_
 refine⟨_,ge _ _,mF,dd ?_⟩;refine⟨_,ge _ _,rfl,dd ?_⟩;rw[pL];subst htk hhd hac;refine .inl ⟨⟨false,[3],[7],[]⟩,ak,uH ?_⟩;refine⟨_,ge _ _,mF,dd ?_⟩;refine tc ?_
 refine wK.go V (uH ?_);rw[show IntKind.i64.wrap (m.pc+1)=4 from cV];refine .inl ⟨⟨false,[0,1,2],[9,1,10],[]⟩,ak,uH ?_⟩;refine tc ?_
 refine zak ?_;show _=some (C.eR [C.agg [I w.zr,I w.current,I w.lock,lI w.pins,C.eM 0 5 ((w.zd.set m.version.toNat (xE m v0 g0 e0 g0.zC e0.head (IntKind.i64.wrap (e0.zo-1)))).map zt),lL w.zc,ff w.counts,lR w.zn],Cm {m with pc:=4},Ce (fD m v0 3 7 (IntKind.i64.wrap (e0.zo-1)))]);rw[<-estV,<-estG,<-estE]
 rfl
def RT(w:Wor)(m:eQ)(v0:eX)(g0:Gr)(e0:En)(sw:z6 w)(ok:fa w)(hl:i64 m.listen)(hpc:m.pc=2)(hs:zE w m=true)(hat:fF w m v0 g0 e0)(hne:e0.next≠[])(hw:u64 m.word)(hh:u64 e0.head)(heq:e0.head=m.word)(s0: -1<=m.slot)(s1:m.slot<=2147483646){tk hd ac:Int}(htk:tk=g0.zC)(hhd:hd=Slp.y9 m.word m.slot)(hac:ac=e0.zo):
  th 138 [] [Cw w,Cm m] (.eR [Cw (vv w m v0 g0 e0 tk hd ac),Cm {m with pc:=3},Ce {fD m v0 4 8 m.slot with jj:=true}]) []:=by
 obtain⟨hp,ownV,ownG,ownE,gv,gg,ge,estE,estG,estV,eshE,eshG,eshV⟩:=wm tk hd ac sw hat hne;have a0:=hat.v0;have b0:=hat.g0;have c0:=hat.e0;have e1:0+m.version.toNat=m.version.toNat:=gZ _;have e2:0+m.zp.toNat=m.zp.toNat:=gZ _;have e3:0+m.end_.toNat=m.end_.toNat:=gZ _;refine ab func138 ?_;refine zad ?_
 refine zce ?_
 refine td ?_
 refine zar ?_;refine tc ?_
 refine zbf ?_
 refine zaC ?_
 refine zad ?_
 refine uE ?_;refine⟨_,ge _ _,mC,dd ?_⟩;refine⟨λh=>absurd h (by simp[heq]),λ_=>dd ?_⟩;refine af (Slp.Fq m.word m.slot hw s0 s1) ?_;refine⟨_,ge _ _,rfl,dd ?_⟩;rw[pL];subst htk hhd hac;refine zbN ?_
 refine wK.go V (uH ?_);rw[show IntKind.i64.wrap (m.pc+1)=3 from cV];refine .inl ⟨⟨false,[0,1,2],[9,1,10],[]⟩,ak,uH ?_⟩;refine tc ?_
 refine zak ?_;show _=some (C.eR [C.agg [I w.zr,I w.current,I w.lock,lI w.pins,C.eM 0 5 ((w.zd.set m.version.toNat (xE m v0 g0 e0 g0.zC (Slp.y9 m.word m.slot) e0.zo)).map zt),lL w.zc,ff w.counts,lR w.zn],Cm {m with pc:=3},Ce {fD m v0 4 8 m.slot with jj:=true}]);rw[<-estV,<-estG,<-estE]
 rfl
abbrev yn(m:eQ)(e0:En):En:={e0 with next:=(e0.next.set m.slot.toNat (m.word%4294967296-1))}
def RS(w:Wor)(m:eQ)(v0:eX)(g0:Gr)(e0:En)(sw:z6 w)(ok:fa w)(hl:i64 m.listen)(hpc:m.pc=1)(hs:zE w m=true)(hat:fF w m v0 g0 e0)(hne:e0.next≠[])(hw:u64 m.word)(hh:u64 e0.head)(s0:0<=m.slot)(s1:m.slot.toNat<e0.next.length){tk hd ac:Int}(htk:tk=g0.zC)(hhd:hd=e0.head)(hac:ac=e0.zo):
  th 138 [] [Cw w,Cm m] (.eR [Cw (vv w m v0 g0 (yn m e0) tk hd ac),Cm {m with pc:=2},Ce (fD m v0 2 9 (m.word%4294967296-1))]) []:=by
 have estE1:((fk m g0 e0 (e0.head) (8) (e0.zo)).set m.end_.toNat [U e0.head,C.eM 0 1 ((e0.next.set m.slot.toNat (m.word%4294967296-1)).map encI),I e0.zo])=(g0.ends.set m.end_.toNat (vu (yn m e0) e0.head e0.zo)).map zu:=cN
 have estG1:((fp m v0 g0 (g0.zC) (7)).set m.zp.toNat [U g0.zC,C.eM 0 3 (((g0.ends.set m.end_.toNat (vu (yn m e0) e0.head e0.zo)).map zu))])=(v0.zg.set m.zp.toNat (mZ m g0 (yn m e0) g0.zC e0.head e0.zo)).map zy:=cO
 have estV1:((fy w m v0 (6)).set m.version.toNat (qP v0.snap++[C.eM 0 2 (((v0.zg.set m.zp.toNat (mZ m g0 (yn m e0) g0.zC e0.head e0.zo)).map zy)),Bo v0.qF]))=(w.zd.set m.version.toNat (xE m v0 g0 (yn m e0) g0.zC e0.head e0.zo)).map zt:=cP
 have eshE1:∀r∈((fk m g0 e0 (e0.head) (8) (e0.zo)).set m.end_.toNat [U e0.head,C.eM 0 1 ((e0.next.set m.slot.toNat (m.word%4294967296-1)).map encI),I e0.zo]),∀c∈r,jM c=true/\zG c=true:=by
  rw[estE1];exact shut_map (enc:=zu) (λ_=>V) _
 have eshG1:∀r∈((fp m v0 g0 (g0.zC) (7)).set m.zp.toNat [U g0.zC,C.eM 0 3 ((fk m g0 e0 (e0.head) (8) (e0.zo)).set m.end_.toNat [U e0.head,C.eM 0 1 ((e0.next.set m.slot.toNat (m.word%4294967296-1)).map encI),I e0.zo])]),∀c∈r,jM c=true/\zG c=true:=by
  rw[estE1,estG1];exact shut_map (enc:=zy) (λ_=>V) _
 have eshV1:∀r∈((fy w m v0 (6)).set m.version.toNat (qP v0.snap++[C.eM 0 2 ((fp m v0 g0 (g0.zC) (7)).set m.zp.toNat [U g0.zC,C.eM 0 3 ((fk m g0 e0 (e0.head) (8) (e0.zo)).set m.end_.toNat [U e0.head,C.eM 0 1 ((e0.next.set m.slot.toNat (m.word%4294967296-1)).map encI),I e0.zo])]),Bo v0.qF])),∀c∈r,jM c=true/\zG c=true:=by
  rw[estE1,estG1,estV1];exact shut_map (enc:=zt) (λ_=>V) _
 have gn:(e0.next.map Hy.encI)[m.slot.toNat]?=some (Hy.encI (e0.next[m.slot.toNat]'s1)):=by rw[gM,gL s1];rfl
 have hst:(e0.next.map Hy.encI).set m.slot.toNat [I (m.word%4294967296-1)]=(e0.next.set m.slot.toNat (m.word%4294967296-1)).map Hy.encI:=bE
 have e4:0+m.slot.toNat=m.slot.toNat:=gZ _;obtain⟨hp,ownV,ownG,ownE,gv,gg,ge,estE,estG,estV,eshE,eshG,eshV⟩:=wm tk hd ac sw hat hne;have a0:=hat.v0;have b0:=hat.g0;have c0:=hat.e0;have e1:0+m.version.toNat=m.version.toNat:=gZ _;have e2:0+m.zp.toNat=m.zp.toNat:=gZ _;have e3:0+m.end_.toNat=m.end_.toNat:=gZ _;refine ab func138 ?_;refine zad ?_
 refine zce ?_
 refine td ?_
 refine zar ?_;refine tc ?_
 refine zbf ?_
 refine zaC ?_
 refine zad ?_
 subst htk hhd hac;refine uE ?_;refine⟨_,ge _ _,(by show 1+1<=3;decide),dd ?_⟩;refine⟨s0,s1,dd ?_⟩;rw[e4];refine⟨_,gn,rfl,dd ?_⟩;rw[hst];refine wK.go V (uH ?_);rw[show IntKind.i64.wrap (m.pc+1)=2 from cV];refine .inl ⟨⟨false,[0,1,2],[9,1,10],[]⟩,ak,uH ?_⟩;refine tc ?_
 refine⟨.inl V,_,(((zk.zN 7 m.end_.toNat 1 V (ge _ _) V V (.inr V) ah ah (shut_map (enc:=encI) (λ_=>V) _) (ownE 8 _ _)).trans (zk.zN 6 m.zp.toNat 1 V (gg _) V V (.inl V) ah ah eshE1 (ownG 7 _))).trans (zk.zN 5 m.version.toNat 3 V gv V V (.inl V) ah ah eshG1 (ownV 6))).trans (zk.zN 2 0 4 V V V V (.inl V) ah ah eshV1 (zB V)),?_⟩;show _=some (C.eR [C.agg [I w.zr,I w.current,I w.lock,lI w.pins,C.eM 0 5 ((w.zd.set m.version.toNat (xE m v0 g0 (yn m e0) g0.zC e0.head e0.zo)).map zt),lL w.zc,ff w.counts,lR w.zn],Cm {m with pc:=2},Ce (fD m v0 2 9 (m.word%4294967296-1))]);rw[<-estV1,<-estG1,<-estE1]
 rfl
abbrev C0(m:eQ):fe:=⟨6,m.version,m.zp,m.end_,m.slot,m.listen,0,⟨0,0,0,0,0,0⟩⟩
abbrev G8(m:eQ)(x:fj):e7:={zY with zl:=m.zl,access:=3,cell:=5,version:= -1,value:=IntKind.i64.wrap (x.zo-1),done:=true,answer:=C0 m}
abbrev kj(x:fj):fj:={x with zo:=IntKind.i64.wrap (x.zo-1)}
def RV(w:Wor)(m:eQ)(v:eX)(g:Gr)(e:En)(x:fj)(sw:z6 w)(ok:fa w)(hl:i64 m.listen)(hpc:m.pc=4)(hs:zE w m=true)(hat:fF w m v g e)(hw:u64 m.word)(hh:u64 e.head)(hli:0<=m.listen)(hx:w.zc[m.listen.toNat]?=some x):
  th 138 [] [Cw w,Cm m] (.eR [Cw {w with zc:=w.zc.set m.listen.toNat (kj x)},Cm {m with answer:=C0 m,done:=true},Ce (G8 m x)]) []:=by
 have a0:=hat.v0;have a1:=hat.tolS.row;have b0:=hat.g0;have b1:(v.zg.map zy)[m.zp.toNat]?=some (zy g):=by rw[gM,hat.fV];rfl
 have c0:=hat.e0;have c1:(g.ends.map zu)[m.end_.toNat]?=some (zu e):=by rw[gM,hat.ig];rfl
 have hn:¬m.listen<0:=an
 have lt:m.listen.toNat<w.zc.length:=(gN.1 hx).1;have gl:(w.zc.map zU)[m.listen.toNat]?=some (zU x):=by rw[gM,hx];rfl
 have hst:(w.zc.map zU).set m.listen.toNat [Tx x.name,Bo x.drain,I (IntKind.i64.wrap (x.zo-1)),Bo x.closed]=(w.zc.set m.listen.toNat (kj x)).map zU:=bE
 have gl2:((w.zc.set m.listen.toNat (kj x)).map zU)[m.listen.toNat]?=some (zU (kj x)):=by rw[gM,gX lt];rfl
 have e1:0+m.listen.toNat=m.listen.toNat:=gZ _
 obtain⟨y,l,hy⟩:∃y l,w.zc=y::l:=by
  cases h:w.zc with
  |nil=>rw[h]at lt;simp at lt
  |cons y l=>exact⟨y,l,rfl⟩
 refine ab func138 ?_;refine zad ?_
 refine zce ?_
 refine td ?_
 refine ae [] (vh w sw y l hy) ?_;refine uE ?_;(refine⟨a0,_,a1,dd ?_⟩)
 (refine⟨b0,_,b1,dd ?_⟩)
 (refine⟨c0,_,c1,dd ?_⟩)
 refine zax ?_
 refine za5 ?_
 refine zaC ?_
 refine zad ?_
 refine⟨hli,lt,dd ?_⟩;rw[e1];refine⟨_,gl,tY,dd ?_⟩;refine⟨_,gl,rfl,dd ?_⟩;rw[hst];refine uE ?_;refine⟨_,gl2,tY,dd ?_⟩;refine wK.go V (uH ?_);refine .inl ⟨⟨false,[0,1,2],[6,1,7],[]⟩,ak,uH ?_⟩;refine tc ?_
 exact gi
end Go.Wor
