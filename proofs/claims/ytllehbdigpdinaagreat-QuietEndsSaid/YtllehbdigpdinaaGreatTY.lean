import Derived.Test.YtllehbdigpdinaaGreatTX
set_option linter.all false
set_option maxRecDepth 100000
set_option maxHeartbeats 4000000
namespace Go.Wor
open Go.Ab Go.Proofs Tryz Go.Hy Go.Gat Go.Nam Go.Hos Go.Con Go.Sna
def vK(w:Wor)(m:fD)(v:fI)(hv:AH w m v)(a b c:Int):tj 164 [] [Cw w,Cm m,I a,I b,I c] (Ce (iP m v a b c)) []:=by
 have h0:=hv.v0;have hr:=hv.row;obtain⟨sn,gs,fr⟩:=v;cases fr
 all_goals
  refine ab func164 ?_;refine uE ?_;(refine⟨h0,_,hr,dd ?_⟩)
  first|((refine ya (dd ?_)))|((refine yb (dd ?_)))
  exact uI
def Y0(w:Wor)(m:fD)(v:fI)(g:Gr)(e:En)(sw:jg w)(ok:iw w)(hl:i64 m.listen)(hpc:m.pc=0)(hs:z8 w m=true)(hat:iB w m v g e)(hw:u64 m.word)(hh:u64 e.head):
  tj 134 [] [Cw w,Cm m] (.fJ [Cw w,Cm {m with word:=e.head,pc:=1},Ce (iP m v 1 8 (e.head%4294967296-1))]) []:=by
 have a0:=hat.v0;have a1:=hat.toAH.row;have b0:=hat.g0;have b1:(v.zq.map zK)[m.zg.toNat]?=some (zK g):=by rw[gy,hat.fY];rfl
 have c0:=hat.e0;have c1:(g.ends.map zE)[m.end_.toNat]?=some (zE e):=by rw[gy,hat.ib];rfl
 refine ab func134 ?_;refine zac ?_
 refine zbh ?_
 refine hZ ?_
 refine ah (qE w sw) ?_;refine uE ?_;(refine⟨a0,_,a1,dd ?_⟩)
 (refine⟨b0,_,b1,dd ?_⟩)
 (refine⟨c0,_,c1,dd ?_⟩)
 refine zam ?_
 refine zaK ?_
 refine zaU ?_
 refine zac ?_
 refine n9.go V (uH ?_);rw[show IntKind.i64.wrap (m.pc+1)=1 from cU];refine zba ?_
 exact uI
abbrev Tw(m:fD):fG:={qJ with zf:=m.zf,access:=1,version:= -1,done:=true,answer:=mT 7}
def Yr(w:Wor)(m:fD)(v:fI)(g:Gr)(e:En)(sw:jg w)(ok:iw w)(hl:i64 m.listen)(hpc:m.pc=9)(hs:z8 w m=true)(hat:iB w m v g e)(hw:u64 m.word)(hh:u64 e.head):
  tj 134 [] [Cw w,Cm m] (.fJ [Cw w,Cm {m with answer:=mT 7,done:=true},Ce (Tw m)]) []:=by
 have a0:=hat.v0;have a1:=hat.toAH.row;have b0:=hat.g0;have b1:(v.zq.map zK)[m.zg.toNat]?=some (zK g):=by rw[gy,hat.fY];rfl
 have c0:=hat.e0;have c1:(g.ends.map zE)[m.end_.toNat]?=some (zE e):=by rw[gy,hat.ib];rfl
 refine ab func134 ?_;refine zac ?_
 refine zbh ?_
 refine hZ ?_
 refine ah (qE w sw) ?_;refine uE ?_;(refine⟨a0,_,a1,dd ?_⟩)
 (refine⟨b0,_,b1,dd ?_⟩)
 (refine⟨c0,_,c1,dd ?_⟩)
 refine zam ?_
 refine zaK ?_
 refine zaU ?_
 refine zac ?_
 refine n9.go V (uH ?_);refine zba ?_
 exact uI
def Yp(w:Wor)(m:fD)(v0:fI)(g0:Gr)(e0:En)(sw:jg w)(ok:iw w)(hl:i64 m.listen)(hpc:m.pc=3)(hs:z8 w m=true)(hat:iB w m v0 g0 e0)(hne:e0.next≠[])(hw:u64 m.word)(hh:u64 e0.head){tk hd ac:Int}(htk:tk=g0.zx)(hhd:hd=e0.head)(hac:ac=IntKind.i64.wrap (e0.zj-1)):
  tj 134 [] [Cw w,Cm m] (.fJ [Cw (va w m v0 g0 e0 tk hd ac),Cm {m with pc:=4},Ce (iP m v0 3 7 ac)]) []:=by
 obtain⟨hp,ownV,ownG,ownE,gv,gg,ge,estE,estG,estV,eshE,eshG,eshV⟩:=EC tk hd ac sw hat hne;have a0:=hat.v0;have b0:=hat.g0;have c0:=hat.e0;have e1:0+m.version.toNat=m.version.toNat:=gU _;have e2:0+m.zg.toNat=m.zg.toNat:=gU _;have e3:0+m.end_.toNat=m.end_.toNat:=gU _;refine ab func134 ?_;refine zac ?_
 refine zbh ?_
 refine hZ ?_
 refine zah ?_;refine hU ?_
 refine zaP ?_
 refine zaU ?_
 refine zac ?_
 refine⟨_,ge _ _,cS,dd ?_⟩;refine⟨_,ge _ _,rfl,dd ?_⟩;rw[pA];subst htk hhd hac;refine .inl ⟨⟨false,[3],[7],[]⟩,au,uH ?_⟩;refine⟨_,ge _ _,cS,dd ?_⟩;refine hU ?_
 refine n9.go V (uH ?_);rw[show IntKind.i64.wrap (m.pc+1)=4 from cU];refine .inl ⟨⟨false,[0,1,2],[9,1,10],[]⟩,au,uH ?_⟩;refine hU ?_
 refine zaf ?_;show _=some (C.fJ [C.agg [I w.zl,I w.current,I w.lock,lI w.pins,C.fF 0 5 ((w.ze.set m.version.toNat (vN m v0 g0 e0 g0.zx e0.head (IntKind.i64.wrap (e0.zj-1)))).map zM),lL w.zc,iG w.counts,lR w.zm],Cm {m with pc:=4},Ce (iP m v0 3 7 (IntKind.i64.wrap (e0.zj-1)))]);rw[<-estV,<-estG,<-estE]
 rfl
def Yo(w:Wor)(m:fD)(v0:fI)(g0:Gr)(e0:En)(sw:jg w)(ok:iw w)(hl:i64 m.listen)(hpc:m.pc=2)(hs:z8 w m=true)(hat:iB w m v0 g0 e0)(hne:e0.next≠[])(hw:u64 m.word)(hh:u64 e0.head)(heq:e0.head=m.word)(s0: -1<=m.slot)(s1:m.slot<=2147483646){tk hd ac:Int}(htk:tk=g0.zx)(hhd:hd=Slp.qY m.word m.slot)(hac:ac=e0.zj):
  tj 134 [] [Cw w,Cm m] (.fJ [Cw (va w m v0 g0 e0 tk hd ac),Cm {m with pc:=3},Ce {iP m v0 4 8 m.slot with jd:=true}]) []:=by
 obtain⟨hp,ownV,ownG,ownE,gv,gg,ge,estE,estG,estV,eshE,eshG,eshV⟩:=EC tk hd ac sw hat hne;have a0:=hat.v0;have b0:=hat.g0;have c0:=hat.e0;have e1:0+m.version.toNat=m.version.toNat:=gU _;have e2:0+m.zg.toNat=m.zg.toNat:=gU _;have e3:0+m.end_.toNat=m.end_.toNat:=gU _;refine ab func134 ?_;refine zac ?_
 refine zbh ?_
 refine hZ ?_
 refine zah ?_;refine hU ?_
 refine zaP ?_
 refine zaU ?_
 refine zac ?_
 refine uE ?_;refine⟨_,ge _ _,cT,dd ?_⟩;refine⟨λh=>absurd h (by simp[heq]),λ_=>dd ?_⟩;refine ah (Slp.Kh m.word m.slot hw s0 s1) ?_;refine⟨_,ge _ _,rfl,dd ?_⟩;rw[pA];subst htk hhd hac;refine za1 ?_
 refine n9.go V (uH ?_);rw[show IntKind.i64.wrap (m.pc+1)=3 from cU];refine .inl ⟨⟨false,[0,1,2],[9,1,10],[]⟩,au,uH ?_⟩;refine hU ?_
 refine zaf ?_;show _=some (C.fJ [C.agg [I w.zl,I w.current,I w.lock,lI w.pins,C.fF 0 5 ((w.ze.set m.version.toNat (vN m v0 g0 e0 g0.zx (Slp.qY m.word m.slot) e0.zj)).map zM),lL w.zc,iG w.counts,lR w.zm],Cm {m with pc:=3},Ce {iP m v0 4 8 m.slot with jd:=true}]);rw[<-estV,<-estG,<-estE]
 rfl
abbrev vx(m:fD)(e0:En):En:={e0 with next:=(e0.next.set m.slot.toNat (m.word%4294967296-1))}
def Yn(w:Wor)(m:fD)(v0:fI)(g0:Gr)(e0:En)(sw:jg w)(ok:iw w)(hl:i64 m.listen)(hpc:m.pc=1)(hs:z8 w m=true)(hat:iB w m v0 g0 e0)(hne:e0.next≠[])(hw:u64 m.word)(hh:u64 e0.head)(s0:0<=m.slot)(s1:m.slot.toNat<e0.next.length){tk hd ac:Int}(htk:tk=g0.zx)(hhd:hd=e0.head)(hac:ac=e0.zj):
  tj 134 [] [Cw w,Cm m] (.fJ [Cw (va w m v0 g0 (vx m e0) tk hd ac),Cm {m with pc:=2},Ce (iP m v0 2 9 (m.word%4294967296-1))]) []:=by
 have estE1:((iD m g0 e0 (e0.head) (8) (e0.zj)).set m.end_.toNat [U e0.head,C.fF 0 1 ((e0.next.set m.slot.toNat (m.word%4294967296-1)).map encI),I e0.zj])=(g0.ends.set m.end_.toNat (qK (vx m e0) e0.head e0.zj)).map zE:=by rw[pA];exact Ee zE _ _ (qK (vx m e0) e0.head e0.zj) _ V
 have estG1:((iK m v0 g0 (g0.zx) (7)).set m.zg.toNat [U g0.zx,C.fF 0 3 (((g0.ends.set m.end_.toNat (qK (vx m e0) e0.head e0.zj)).map zE))])=(v0.zq.set m.zg.toNat (BF m g0 (vx m e0) g0.zx e0.head e0.zj)).map zK:=by rw[pA];exact Ee zK _ _ (BF m g0 (vx m e0) g0.zx e0.head e0.zj) _ V
 have estV1:((iO w m v0 (6)).set m.version.toNat (encS v0.snap++[C.fF 0 2 (((v0.zq.set m.zg.toNat (BF m g0 (vx m e0) g0.zx e0.head e0.zj)).map zK)),Bo v0.qX]))=(w.ze.set m.version.toNat (vN m v0 g0 (vx m e0) g0.zx e0.head e0.zj)).map zM:=by rw[pA];exact Ee zM _ _ (vN m v0 g0 (vx m e0) g0.zx e0.head e0.zj) _ V
 have eshE1:∀r∈((iD m g0 e0 (e0.head) (8) (e0.zj)).set m.end_.toNat [U e0.head,C.fF 0 1 ((e0.next.set m.slot.toNat (m.word%4294967296-1)).map encI),I e0.zj]),∀c∈r,xm c=true/\zB c=true:=by
  rw[estE1];exact shut_map (enc:=zE) (λ_=>V) _
 have eshG1:∀r∈((iK m v0 g0 (g0.zx) (7)).set m.zg.toNat [U g0.zx,C.fF 0 3 ((iD m g0 e0 (e0.head) (8) (e0.zj)).set m.end_.toNat [U e0.head,C.fF 0 1 ((e0.next.set m.slot.toNat (m.word%4294967296-1)).map encI),I e0.zj])]),∀c∈r,xm c=true/\zB c=true:=by
  rw[estE1,estG1];exact shut_map (enc:=zK) (λ_=>V) _
 have eshV1:∀r∈((iO w m v0 (6)).set m.version.toNat (encS v0.snap++[C.fF 0 2 ((iK m v0 g0 (g0.zx) (7)).set m.zg.toNat [U g0.zx,C.fF 0 3 ((iD m g0 e0 (e0.head) (8) (e0.zj)).set m.end_.toNat [U e0.head,C.fF 0 1 ((e0.next.set m.slot.toNat (m.word%4294967296-1)).map encI),I e0.zj])]),Bo v0.qX])),∀c∈r,xm c=true/\zB c=true:=by
  rw[estE1,estG1,estV1];exact shut_map (enc:=zM) (λ_=>V) _
 have gn:(e0.next.map Hy.encI)[m.slot.toNat]?=some (Hy.encI (e0.next[m.slot.toNat]'s1)):=by rw[gy,gk s1];rfl
 have hst:(e0.next.map Hy.encI).set m.slot.toNat [I (m.word%4294967296-1)]=(e0.next.set m.slot.toNat (m.word%4294967296-1)).map Hy.encI:=bZ
 have e4:0+m.slot.toNat=m.slot.toNat:=gU _;obtain⟨hp,ownV,ownG,ownE,gv,gg,ge,estE,estG,estV,eshE,eshG,eshV⟩:=EC tk hd ac sw hat hne;have a0:=hat.v0;have b0:=hat.g0;have c0:=hat.e0;have e1:0+m.version.toNat=m.version.toNat:=gU _;have e2:0+m.zg.toNat=m.zg.toNat:=gU _;have e3:0+m.end_.toNat=m.end_.toNat:=gU _;refine ab func134 ?_;refine zac ?_
 refine zbh ?_
 refine hZ ?_
 refine zah ?_;refine hU ?_
 refine zaP ?_
 refine zaU ?_
 refine zac ?_
 subst htk hhd hac;refine uE ?_;refine⟨_,ge _ _,(by show 1+1<=3;decide),dd ?_⟩;refine⟨s0,s1,dd ?_⟩;rw[e4];refine⟨_,gn,rfl,dd ?_⟩;rw[hst];refine n9.go V (uH ?_);rw[show IntKind.i64.wrap (m.pc+1)=2 from cU];refine .inl ⟨⟨false,[0,1,2],[9,1,10],[]⟩,au,uH ?_⟩;refine hU ?_
 refine⟨.inl V,_,(((zp.zV 7 m.end_.toNat 1 V (ge _ _) V V (.inr V) aj aj (shut_map (enc:=encI) (λ_=>V) _) (ownE 8 _ _)).trans (zp.zV 6 m.zg.toNat 1 V (gg _) V V (.inl V) aj aj eshE1 (ownG 7 _))).trans (zp.zV 5 m.version.toNat 3 V gv V V (.inl V) aj aj eshG1 (ownV 6))).trans (zp.zV 2 0 4 V V V V (.inl V) aj aj eshV1 (qa V)),?_⟩;show _=some (C.fJ [C.agg [I w.zl,I w.current,I w.lock,lI w.pins,C.fF 0 5 ((w.ze.set m.version.toNat (vN m v0 g0 (vx m e0) g0.zx e0.head e0.zj)).map zM),lL w.zc,iG w.counts,lR w.zm],Cm {m with pc:=2},Ce (iP m v0 2 9 (m.word%4294967296-1))]);rw[<-estV1,<-estG1,<-estE1]
 rfl
abbrev MF(m:fD):fN:=⟨6,m.version,m.zg,m.end_,m.slot,m.listen,0,⟨0,0,0,0,0,0⟩⟩
abbrev To(m:fD)(x:fT):fG:={qJ with zf:=m.zf,access:=3,cell:=5,version:= -1,value:=IntKind.i64.wrap (x.zj-1),done:=true,answer:=MF m}
abbrev CT(x:fT):fT:={x with zj:=IntKind.i64.wrap (x.zj-1)}
def Yq(w:Wor)(m:fD)(v:fI)(g:Gr)(e:En)(x:fT)(sw:jg w)(ok:iw w)(hl:i64 m.listen)(hpc:m.pc=4)(hs:z8 w m=true)(hat:iB w m v g e)(hw:u64 m.word)(hh:u64 e.head)(hli:0<=m.listen)(hx:w.zc[m.listen.toNat]?=some x):
  tj 134 [] [Cw w,Cm m] (.fJ [Cw {w with zc:=w.zc.set m.listen.toNat (CT x)},Cm {m with answer:=MF m,done:=true},Ce (To m x)]) []:=by
 have a0:=hat.v0;have a1:=hat.toAH.row;have b0:=hat.g0;have b1:(v.zq.map zK)[m.zg.toNat]?=some (zK g):=by rw[gy,hat.fY];rfl
 have c0:=hat.e0;have c1:(g.ends.map zE)[m.end_.toNat]?=some (zE e):=by rw[gy,hat.ib];rfl
 have hn:¬m.listen<0:=aw
 have lt:m.listen.toNat<w.zc.length:=(gh.1 hx).1;have gl:(w.zc.map qO)[m.listen.toNat]?=some (qO x):=by rw[gy,hx];rfl
 have hst:(w.zc.map qO).set m.listen.toNat [Tx x.name,Bo x.drain,I (IntKind.i64.wrap (x.zj-1)),Bo x.closed]=(w.zc.set m.listen.toNat (CT x)).map qO:=bZ
 have gl2:((w.zc.set m.listen.toNat (CT x)).map qO)[m.listen.toNat]?=some (qO (CT x)):=by rw[gy,gD lt];rfl
 have e1:0+m.listen.toNat=m.listen.toNat:=gU _
 obtain⟨y,l,hy⟩:∃y l,w.zc=y::l:=by
  cases h:w.zc with
  |nil=>rw[h]at lt;simp at lt
  |cons y l=>exact⟨y,l,rfl⟩
 refine ab func134 ?_;refine zac ?_
 refine zbh ?_
 refine hZ ?_
 refine af [] (kj w sw y l hy) ?_;refine uE ?_;(refine⟨a0,_,a1,dd ?_⟩)
 (refine⟨b0,_,b1,dd ?_⟩)
 (refine⟨c0,_,c1,dd ?_⟩)
 refine zam ?_
 refine zaK ?_
 refine zaU ?_
 refine zac ?_
 refine⟨hli,lt,dd ?_⟩;rw[e1];refine⟨_,gl,cP,dd ?_⟩;refine⟨_,gl,rfl,dd ?_⟩;rw[hst];refine uE ?_;refine⟨_,gl2,cP,dd ?_⟩;refine n9.go V (uH ?_);refine .inl ⟨⟨false,[0,1,2],[6,1,7],[]⟩,au,uH ?_⟩;refine hU ?_
 exact⟨.inl V,_,zp.zV 2 0 5 V V V V (.inr V) aj aj (shut_map (enc:=qO) (λ_=>V) _) (qa V),rfl⟩
end Go.Wor
