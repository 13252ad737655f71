import Derived.Test.YtamgiodaflkbhaaGreatVS4
import Derived.Test.YtamgiodaflkbhaaGreatVS1
import Derived.Test.YtamgiodaflkbhaaGreatVS3
import Derived.Test.YtamgiodaflkbhaaGreatVS2
set_option linter.all false
set_option maxRecDepth 100000
set_option maxHeartbeats 4000000
namespace Go.Wor
open Go.Ab Go.Proofs Tryz Go.Gat Go.Nam Go.Hos Go.Con Go.Sna
open Go.Hy hiding encI
variable{l:fO}{v0:fC}{g0:Gr}{e0:En}
section
variable {w w':Wor} {m m':fx} {e:fF}
def Wq(sw:z6 w)(ok:fG w)(hl:i64 m.listen)(hs:zG w m=true)(hp:0<=m.pc/\m.pc<3)(h:th 88 [] [Cw w,Cm m] (.fy [Cw w',Cm m',Ce e]) []):th 48 [] [Cw w,Cm m] (.fy [Cw w',Cm m',Ce e]) []:=by
 by_cases hn:m.listen<0
 all_goals
  refine ab func48 ?_;refine zaV ?_;((repeat (first|(refine⟨λ_=>?_,?_⟩;rotate_left 1;(focus (intro h;first|(have h:=pC h;omega)|(have h:=pB h;omega)|(have h:=eq_of_beq h;omega)|(exact absurd (rF.2 hpe) uT)));(refine dd ?_))|(refine⟨?_,λ_=>?_⟩;(focus (intro h;first|(have h:=pC h;omega)|(have h:=pB h;omega)|(have h:=eq_of_beq h;omega)|(exact absurd (rF.2 hpe) uT)));(refine dd ?_)))))
  refine af h ?_;refine zaC ?_
  exact uI
def Kk(sw:z6 w)(ok:fG w)(hl:i64 m.listen)(hs:zG w m=true)(hp:m.pc=3\/m.pc=5)(hq:m.pc=5->0<=m.listen)(h:th 90 [] [Cw w,Cw w,Cm m] (.fy [Cw w',Cm m',Ce e]) []):th 48 [] [Cw w,Cm m] (.fy [Cw w',Cm m',Ce e]) []:=by
 (by_cases hn:m.listen<0);all_goals ((refine ab func48 ?_;(refine af (zP w m ok hl) ?_);(rw[hs]);(try (refine td ?_));((repeat (first|(refine⟨λ_=>?_,?_⟩;rotate_left 1;(focus (intro h;first|(have h:=pC h;omega)|(have h:=pB h;omega)|(have h:=eq_of_beq h;omega)|(exact absurd (rF.2 hpe) uT)));(refine dd ?_))|(refine⟨?_,λ_=>?_⟩;(focus (intro h;first|(have h:=pC h;omega)|(have h:=pB h;omega)|(have h:=eq_of_beq h;omega)|(exact absurd (rF.2 hpe) uT)));(refine dd ?_))))));(refine af (qy w sw) ?_);((repeat (first|(refine⟨λ_=>?_,?_⟩;rotate_left 1;(focus (intro h;first|(have h:=pC h;omega)|(have h:=pB h;omega)|(have h:=eq_of_beq h;omega)|(exact absurd (rF.2 hpe) uT)));(refine dd ?_))|(refine⟨?_,λ_=>?_⟩;(focus (intro h;first|(have h:=pC h;omega)|(have h:=pB h;omega)|(have h:=eq_of_beq h;omega)|(exact absurd (rF.2 hpe) uT)));(refine dd ?_)))));(refine af h ?_);(refine .inl ⟨⟨false,[0,1,2],[6,7,8],[]⟩,ak,uH ?_⟩);refine tc ?_;(exact uI))
def Kl(sw:z6 w)(ok:fG w)(hl:i64 m.listen)(hs:zG w m=true)(hp:6<=m.pc/\m.pc<9)(h:th 91 [] [Cw w,Cw w,Cm m] (.fy [Cw w',Cm m',Ce e]) []):th 48 [] [Cw w,Cm m] (.fy [Cw w',Cm m',Ce e]) []:=by
 (by_cases hn:m.listen<0);all_goals ((refine ab func48 ?_;(refine af (zP w m ok hl) ?_);(rw[hs]);(try (refine td ?_));((repeat (first|(refine⟨λ_=>?_,?_⟩;rotate_left 1;(focus (intro h;first|(have h:=pC h;omega)|(have h:=pB h;omega)|(have h:=eq_of_beq h;omega)|(exact absurd (rF.2 hpe) uT)));(refine dd ?_))|(refine⟨?_,λ_=>?_⟩;(focus (intro h;first|(have h:=pC h;omega)|(have h:=pB h;omega)|(have h:=eq_of_beq h;omega)|(exact absurd (rF.2 hpe) uT)));(refine dd ?_))))));(refine af (qy w sw) ?_);((repeat (first|(refine⟨λ_=>?_,?_⟩;rotate_left 1;(focus (intro h;first|(have h:=pC h;omega)|(have h:=pB h;omega)|(have h:=eq_of_beq h;omega)|(exact absurd (rF.2 hpe) uT)));(refine dd ?_))|(refine⟨?_,λ_=>?_⟩;(focus (intro h;first|(have h:=pC h;omega)|(have h:=pB h;omega)|(have h:=eq_of_beq h;omega)|(exact absurd (rF.2 hpe) uT)));(refine dd ?_)))));(refine af h ?_);(refine .inl ⟨⟨false,[0,1,2],[6,7,8],[]⟩,ak,uH ?_⟩);refine tc ?_;(exact uI))
def F1(sw:z6 w)(ok:fG w)(hl:i64 m.listen)(hs:zG w m=true)(hp:9<=m.pc/\m.pc<13)(h:th 92 [] [Cw w,Cw w,Cm m] (.fy [Cw w',Cm m',Ce e]) []):th 48 [] [Cw w,Cm m] (.fy [Cw w',Cm m',Ce e]) []:=by
 (by_cases hn:m.listen<0);all_goals ((refine ab func48 ?_;(refine af (zP w m ok hl) ?_);(rw[hs]);(try (refine td ?_));((repeat (first|(refine⟨λ_=>?_,?_⟩;rotate_left 1;(focus (intro h;first|(have h:=pC h;omega)|(have h:=pB h;omega)|(have h:=eq_of_beq h;omega)|(exact absurd (rF.2 hpe) uT)));(refine dd ?_))|(refine⟨?_,λ_=>?_⟩;(focus (intro h;first|(have h:=pC h;omega)|(have h:=pB h;omega)|(have h:=eq_of_beq h;omega)|(exact absurd (rF.2 hpe) uT)));(refine dd ?_))))));(refine af (qy w sw) ?_);((repeat (first|(refine⟨λ_=>?_,?_⟩;rotate_left 1;(focus (intro h;first|(have h:=pC h;omega)|(have h:=pB h;omega)|(have h:=eq_of_beq h;omega)|(exact absurd (rF.2 hpe) uT)));(refine dd ?_))|(refine⟨?_,λ_=>?_⟩;(focus (intro h;first|(have h:=pC h;omega)|(have h:=pB h;omega)|(have h:=eq_of_beq h;omega)|(exact absurd (rF.2 hpe) uT)));(refine dd ?_)))));(refine af h ?_);(refine .inl ⟨⟨false,[0,1,2],[6,7,8],[]⟩,ak,uH ?_⟩);refine tc ?_;(exact uI))
def Rf(sw:z6 w)(ok:fG w)(hl:i64 m.listen)(hs:zG w m=true)(hp:m.pc=23)(h:th 93 [] [Cw w,Cw w,Cm m] (.fy [Cw w',Cm m',Ce e]) []):th 48 [] [Cw w,Cm m] (.fy [Cw w',Cm m',Ce e]) []:=by
 (by_cases hn:m.listen<0);all_goals ((refine ab func48 ?_;(refine af (zP w m ok hl) ?_);(rw[hs]);(try (refine td ?_));((repeat (first|(refine⟨λ_=>?_,?_⟩;rotate_left 1;(focus (intro h;first|(have h:=pC h;omega)|(have h:=pB h;omega)|(have h:=eq_of_beq h;omega)|(exact absurd (rF.2 hpe) uT)));(refine dd ?_))|(refine⟨?_,λ_=>?_⟩;(focus (intro h;first|(have h:=pC h;omega)|(have h:=pB h;omega)|(have h:=eq_of_beq h;omega)|(exact absurd (rF.2 hpe) uT)));(refine dd ?_))))));(refine af (qy w sw) ?_);((repeat (first|(refine⟨λ_=>?_,?_⟩;rotate_left 1;(focus (intro h;first|(have h:=pC h;omega)|(have h:=pB h;omega)|(have h:=eq_of_beq h;omega)|(exact absurd (rF.2 hpe) uT)));(refine dd ?_))|(refine⟨?_,λ_=>?_⟩;(focus (intro h;first|(have h:=pC h;omega)|(have h:=pB h;omega)|(have h:=eq_of_beq h;omega)|(exact absurd (rF.2 hpe) uT)));(refine dd ?_)))));(refine af h ?_);(refine .inl ⟨⟨false,[0,1,2],[6,7,8],[]⟩,ak,uH ?_⟩);refine tc ?_;(exact uI))
end
section
variable {w:Wor} {m m':fx} {e:fF}
def Xy(sw:z6 w)(ok:fG w)(hl:i64 m.listen)(hs:zG w m=true)(hpc:m.pc=4)(h0:0<=m.listen)(hx:w.zc[m.listen.toNat]?=some l):
  th 48 [] [Cw w,Cm m] (.fy [Cw {w with zc:=w.zc.set m.listen.toNat (BD l)},Cm {m with pc:=5},Ce (fI m 3 5 (IntKind.i64.wrap (l.zo+1)))]) []:=by
 (obtain⟨l0,ls,hq⟩:∃l0 ls,w.zc=l0::ls:=by cases h:w.zc with|nil=>rw[h]at hx;simp at hx|cons a b=>exact⟨a,b,rfl⟩);(refine ab func48 ?_;(refine af (zP w m ok hl) ?_);(rw[hs]);(try (refine td ?_));((repeat (first|(refine⟨λ_=>?_,?_⟩;rotate_left 1;(focus (intro h;first|(have h:=pC h;omega)|(have h:=pB h;omega)|(have h:=eq_of_beq h;omega)|(exact absurd (rF.2 hpc) uT)));(refine dd ?_))|(refine⟨?_,λ_=>?_⟩;(focus (intro h;first|(have h:=pC h;omega)|(have h:=pB h;omega)|(have h:=eq_of_beq h;omega)|(exact absurd (rF.2 hpc) uT)));(refine dd ?_))))));(refine ae [] (yZ w sw l0 ls hq) ?_);refine zaq ?_;(refine ae [5] (Pt w m l hpc h0 hx) ?_);(refine .inl ⟨⟨false,[0,1,2],[7,8,9],[]⟩,ak,uH ?_⟩);refine tc ?_;exact dW
def WJ(sw:z6 w)(ok:fG w)(hl:i64 m.listen)(hs:zG w m=true)(hpc:m.pc=22)(h0:0<=m.listen)(hx:w.zc[m.listen.toNat]?=some l):
  th 48 [] [Cw w,Cm m] (.fy [Cw {w with zc:=w.zc.set m.listen.toNat (kF l)},Cm {m with pc:=23},Ce (fI m 3 5 (IntKind.i64.wrap (l.zo-1)))]) []:=by
 (obtain⟨l0,ls,hq⟩:∃l0 ls,w.zc=l0::ls:=by cases h:w.zc with|nil=>rw[h]at hx;simp at hx|cons a b=>exact⟨a,b,rfl⟩);(refine ab func48 ?_;(refine af (zP w m ok hl) ?_);(rw[hs]);(try (refine td ?_));((repeat (first|(refine⟨λ_=>?_,?_⟩;rotate_left 1;(focus (intro h;first|(have h:=pC h;omega)|(have h:=pB h;omega)|(have h:=eq_of_beq h;omega)|(exact absurd (rF.2 hpc) uT)));(refine dd ?_))|(refine⟨?_,λ_=>?_⟩;(focus (intro h;first|(have h:=pC h;omega)|(have h:=pB h;omega)|(have h:=eq_of_beq h;omega)|(exact absurd (rF.2 hpc) uT)));(refine dd ?_))))));(refine ae [] (yZ w sw l0 ls hq) ?_);refine zaq ?_;(refine ae [5] (OV hpc h0 hx) ?_);(refine .inl ⟨⟨false,[0,1,2],[7,8,9],[]⟩,ak,uH ?_⟩);refine tc ?_;exact dW
def MM{r0 r1:List Int}(sw:z6 w)(ok:fG w)(hl:i64 m.listen)(hs:zG w m=true)(hpc:m.pc=20\/m.pc=21)(t0:0<=m.zm)(hr:w.counts[m.zm.toNat]?=some r0)(hne:r0≠[])(hll:r1.length=r0.length)
 (h:th 93 [⟨1,0,1,(w.counts.map zA).set m.zm.toNat [C.sl (1) [] 1 0 r0.length false],0⟩,⟨2,52,1,(r0).map qD,0⟩] [Cw w,.agg (iO 0 w),Cm m] (.fy [.agg (iO 0 w),Cm m',Ce e]) [⟨1,0,1,(w.counts.map zA).set m.zm.toNat [C.sl (1) [] 1 0 r0.length false],0⟩,⟨2,52,1,(r1).map qD,0⟩]):th 48 [] [Cw w,Cm m] (.fy [Cw {w with counts:=w.counts.set m.zm.toNat r1},Cm m',Ce e]) []:=by
 have ml:((w.counts.map zA)).length=w.counts.length:=pz ..;have ml1:(r1.map qD).length=r1.length:=pz ..;have ft:m.zm.toNat<w.counts.length:=(px.1 hr).1;have own:∀i,∀r∈(w.counts.map zA).set m.zm.toNat ([C.sl i [] 1 0 r0.length false]),∀c∈r,zF c=true:=λi=>zE (enc:=zA) (λ_=>V) V _ _
 have gt:((w.counts.map zA).set m.zm.toNat ([C.sl 6 [] 1 0 r0.length false]))[m.zm.toNat]?=some ([C.sl 6 [] 1 0 r0.length false]):=pH mF;have est:(((w.counts.map zA).set m.zm.toNat ([C.sl 6 [] 1 0 r0.length false])).set m.zm.toNat [.fq 0 1 (r1.map qD)])=(w.counts.set m.zm.toNat r1).map zA:=cY
 have esh:∀r∈(((w.counts.map zA).set m.zm.toNat ([C.sl 6 [] 1 0 r0.length false])).set m.zm.toNat [.fq 0 1 (r1.map qD)]),∀c∈r,jV c=true/\zF c=true:=by
  rw[est];exact shut_map (enc:=zA) (λ_=>V) _
 have hp:Bz w.counts m.zm.toNat r0:=⟨sw.counts,hr,hne⟩;by_cases hn:m.listen<0
 all_goals
  refine ab func48 ?_;refine zaV ?_;refine zaq ?_
  refine zU [] [oW w,oM m,⟨1,38,8,[iE],0⟩,⟨1,64,44,[iD],0⟩,oE zW,⟨1,0,1,(w.counts.map zA).set m.zm.toNat [C.sl (6) [] 1 0 r0.length false],0⟩,⟨2,52,1,(r0).map qD,0⟩] (rx:=.agg (iO 5 w)) (OR w sw hp) (ze (zf (own 1)) V) V V V V V tD V (dd ?_);refine zaO ?_
  refine zU [5,6] [oW w,oM m,⟨1,38,8,[iE],0⟩,⟨1,64,44,[iD],0⟩,oE zW,⟨1,0,1,(w.counts.map zA).set m.zm.toNat [C.sl (6) [] 1 0 r0.length false],0⟩,⟨2,52,1,(r1).map qD,0⟩,⟨1,38,8,[iO 5 w],0⟩] (rx:=.fy [.agg (iO 5 w),Cm m',Ce e]) h (ze (zf (own 1)) V) (by show zJ _ ⟨1,0,1,_,0⟩::_=_;rw[zI (enc:=zA) (λ_=>V)];rfl) V V V (ze V (ze V (ze V (ze V (ze V (ze (zf (own 6)) V)))))) tD V (dd ?_);refine .inl ⟨⟨false,[0,1,2],[8,9,10],[]⟩,ak,uH ?_⟩;refine tc ?_
  refine zaU ?_
  rfl
def WL{tk hd ac:Int}(sw:z6 w)(ok:fG w)(hl:i64 m.listen)(hs:zG w m=true)(hpc:m.pc=6)(hat:ig w m v0 g0 e0)(hne:e0.next≠[])
 (h:th 91 [⟨1,0,5,fX w m v0 (1),0⟩,⟨1,0,2,fT m v0 g0 (g0.zC) (2),0⟩,⟨1,0,3,fP m g0 e0 (e0.head) (3) (e0.zo),0⟩,⟨2,3,1,(e0.next).map Go.Hy.encI,0⟩] [Cw w,.agg (ir w 0),Cm m] (.fy [.agg (ir w 0),Cm m',Ce e]) [⟨1,0,5,fX w m v0 (1),0⟩,⟨1,0,2,fT m v0 g0 (tk) (2),0⟩,⟨1,0,3,fP m g0 e0 (hd) (3) (ac),0⟩,⟨2,3,1,(e0.next).map Go.Hy.encI,0⟩]):
  th 48 [] [Cw w,Cm m] (.fy [Cw (vO w m v0 g0 e0 tk hd ac),Cm m',Ce e]) []:=by
 obtain⟨hp,ownV,ownG,ownE,gv,gg,ge,estE,estG,estV,eshE,eshG,eshV⟩:=wI tk hd ac sw hat hne;by_cases hn:m.listen<0
 all_goals
  refine ab func48 ?_;refine zaV ?_;refine zaq ?_
  refine zar ?_;refine zaO ?_
  refine za1 ?_
  refine zax ?_;refine zaJ ?_
  rfl
def Mo{tk hd ac:Int}(sw:z6 w)(ok:fG w)(hl:i64 m.listen)(hs:zG w m=true)(hpc:m.pc=11\/m.pc=12)(hat:ig w m v0 g0 e0)(hne:e0.next≠[])
 (h:th 92 [⟨1,0,5,fX w m v0 (1),0⟩,⟨1,0,2,fT m v0 g0 (g0.zC) (2),0⟩,⟨1,0,3,fP m g0 e0 (e0.head) (3) (e0.zo),0⟩,⟨2,3,1,(e0.next).map Go.Hy.encI,0⟩] [Cw w,.agg (ir w 0),Cm m] (.fy [.agg (ir w 0),Cm m',Ce e]) [⟨1,0,5,fX w m v0 (1),0⟩,⟨1,0,2,fT m v0 g0 (tk) (2),0⟩,⟨1,0,3,fP m g0 e0 (hd) (3) (ac),0⟩,⟨2,3,1,(e0.next).map Go.Hy.encI,0⟩]):
  th 48 [] [Cw w,Cm m] (.fy [Cw (vO w m v0 g0 e0 tk hd ac),Cm m',Ce e]) []:=by
 obtain⟨hp,ownV,ownG,ownE,gv,gg,ge,estE,estG,estV,eshE,eshG,eshV⟩:=wI tk hd ac sw hat hne;by_cases hn:m.listen<0
 all_goals
  refine ab func48 ?_;refine zaV ?_;refine zaq ?_
  refine zar ?_;refine zaO ?_
  refine za1 ?_
  refine zax ?_;refine zaJ ?_
  rfl
end
end Go.Wor
namespace Go.Wor
open Go.Ab Go.Proofs Tryz Go.Hy Go.Gat Go.Nam Go.Hos Go.Con Go.Sna
section
variable {N:Nat} {w:Wor} {m:fx} {v:fC} {g:Gr} {e:En} {r:Wor×fx×fF}
def Qa(su:jW w m v g e)(hs:zG w m=true)(t:il N w)(tm:iQ m)(hN:N<=100000000)(hpc0:0<=m.pc)(h:AQ w m v g e=some r):yy 48 w m r:=by
 have gw:=qt.1 su.world;have sw:=ns gw t hN;have ok:=mX gw t hN;have hl:=tm.listen;have at_:=su.at_;have gv:=(gw.iP _ v su.iz).1;have oe:=(t.iN v (pE su.iz)).2 g (pE su.iC);have okE:=oe.2 e (pE su.iM)
 have hne:e.next≠[]:=by
  intro h0;have:=su.slot;rw[h0]at this;exact dL
 unfold AQ at h;by_cases h3:m.pc<3
 .rw[pD h3]at h;exact Wq sw ok hl hs ⟨hpc0,h3⟩ (SG sw ok hl hs su.zm.1 su.zm.2 h)
 rw[pA h3]at h;by_cases p:m.pc=3
 .rw[pD p]at h;cases h
  exact Kk sw ok hl hs (.inl p) an (Ps w m p bT)
 rw[pA p]at h
 clear p
 by_cases p:m.pc=4
 .rw[pD p]at h;obtain⟨l0,x,hx,rfl⟩:=vp h;exact Xy sw ok hl hs p l0 hx
 rw[pA p]at h
 clear p
 by_cases p:m.pc=5
 .rw[pD p]at h;obtain⟨l0,x,hx,rfl⟩:=vp h;exact Kk sw ok hl hs (.inr p) (λ_=>l0) (Pu w m v x p at_.tomK (MA gw t tm su.iz) l0 hx)
 rw[pA p]at h
 clear p
 by_cases p:m.pc=6
 .rw[pD p]at h;obtain⟨c,hc,rfl⟩:=rq.1 h;exact WL sw ok hl hs p at_ hne (Qf at_ p hc oe.1 bU)
 rw[pA p]at h
 clear p
 by_cases p:m.pc=7
 .rw[pD p]at h;cases h
  exact Kl sw ok hl hs an (Qg at_ p)
 rw[pA p]at h
 clear p
 by_cases p:m.pc=8
 .rw[pD p]at h;obtain⟨e2,he2,rfl⟩:=rq.1 h;exact Kl sw ok hl hs an (Qh at_ p su.other.1 he2)
 rw[pA p]at h
 clear p
 by_cases p:m.pc=9
 .rw[pD p]at h;cases h
  exact F1 sw ok hl hs an (Qk at_ p okE.1 (by have:=okE.2.1.2;omega))
 rw[pA p]at h
 clear p
 by_cases p:m.pc=10
 .rw[pD p]at h;obtain⟨x,hx,rfl⟩:=rq.1 h;exact F1 sw ok hl hs an (O5 at_ p su.slot.1 hx)
 rw[pA p]at h
 clear p
 by_cases p:m.pc=11
 .rw[pD p]at h;by_cases q:e.head=m.word
  .rw[pD q]at h;cases h
   exact Mo sw ok hl hs (.inl p) at_ hne (O6 at_ p tm.word tm.link.1 tm.link.2 q)
  .rw[pA q]at h;cases h
   exact F1 sw ok hl hs an (OJ at_ p tm.word tm.link.1 tm.link.2 okE.1 q)
 rw[pA p]at h
 clear p
 by_cases p:m.pc=12
 .rw[pD p]at h;cases h
  exact Mo sw ok hl hs (.inr p) at_ hne (O7 at_ p)
 rw[pA p]at h
 clear p
 by_cases p:m.pc=20
 .rw[pD p]at h;obtain⟨r0,x,hr,hx,rfl⟩:=DU h;exact MM sw ok hl hs (.inl p) su.zm.1 hr bV ah (OT p V su.zm.1 hr hx)
 rw[pA p]at h
 clear p
 by_cases p:m.pc=21
 .rw[pD p]at h;obtain⟨r0,x,hr,hx,rfl⟩:=DU h;exact MM sw ok hl hs (.inr p) su.zm.1 hr bV ah (OU p su.zm.1 hr hx)
 rw[pA p]at h
 clear p
 by_cases p:m.pc=22
 .rw[pD p]at h;obtain⟨l0,x,hx,rfl⟩:=vp h;exact WJ sw ok hl hs p l0 hx
 rw[pA p]at h
 clear p
 by_cases p:m.pc=23
 .rw[pD p]at h;cases h
  obtain⟨p0,hp0⟩:∃p0,w.pins[m.zm.toNat]?=some p0:=⟨_,pq (by have:=su.zm;omega)⟩;exact Rf sw ok hl hs p (OW sw ok hl hs p su.zm.1 hp0)
 rw[pA p]at h;cases h
def P6(su:jW w m v g e)(hs:zG w m=true)(t:il N w)(tm:iQ m)(hN:N<=100000000)(h:kX w m v g e=some r):yy 49 w m r:=by
 have gw:=qt.1 su.world;have sw:=ns gw t hN;have ok:=mX gw t hN;have hl:=tm.listen;have at_:=su.at_;have gv:=(gw.iP _ v su.iz).1;have oe:=(t.iN v (pE su.iz)).2 g (pE su.iC);have okE:=oe.2 e (pE su.iM);have ln:=((gv.mQ.2 g (pE su.iC)).2.2 e (pE su.iM)).2
 have hne:e.next≠[]:=by
  intro h0;rw[h0]at ln;simp at ln
 have sl:=su.slot;unfold kX at h;by_cases p:m.pc=0
 .rw[pD p]at h;cases h
  exact Rz sw ok hl hs p at_ okE.1
 rw[pA p]at h
 clear p
 by_cases p:m.pc=1
 .rw[pD p]at h;cases h
  exact RA sw ok hl hs p at_ hne tm.word sl.1 an V V V
 rw[pA p]at h
 clear p
 by_cases p:m.pc=2
 .rw[pD p]at h;by_cases q:e.head=m.word
  .rw[pD q]at h;cases h
   exact RB sw ok hl hs p at_ hne tm.word an an q V V V
  .rw[pA q]at h;cases h
   exact P5 sw ok hl hs p at_ okE.1 q
 rw[pA p]at h
 clear p
 by_cases p:m.pc=3
 .rw[pD p]at h;cases h
  exact RC sw ok hl hs p at_ hne V V V
 rw[pA p]at h
 clear p
 by_cases p:m.pc=4
 .rw[pD p]at h;obtain⟨l0,x,hx,rfl⟩:=vp h;exact RD sw ok hl hs p at_ l0 hx
 rw[pA p]at h
 clear p
 by_cases p:m.pc=9
 .rw[pD p]at h;cases h
  exact RE sw ok hl hs p at_
 rw[pA p]at h;cases h
end
end Go.Wor
namespace Go.Wor
open Go.Ab Go.Proofs Tryz Go.Gat Go.Nam Go.Hos Go.Con Go.Sna
open Go.Hy hiding encI
def Jg(s:Sna)(hs:y6 s):th 71 [] [Cs s] (tV (qf s)) []:=by
 have m1:(s.zj.map jx).length=s.zj.length:=pz ..;refine ab func71 ?_;refine af (IW s hs) ?_;refine⟨λh1=>?_,λh1=>?_⟩
 rotate_left
 .have e:qf s=(Dt,1):=by unfold qf;rw[pA aH]
  rw[e];refine zac ?_
  exact⟨.inl V,_,zl.var 1 V V V (.cons (WC.nil 0 1) (.cons (WC.nil 0 4) (.cons (WC.nil 0 4) (.cons (WC.nil 0 2) (.cons (.refl _) .nil))))),rfl⟩
 have e:qf s=(⟨s,s.zj.map kb,false⟩,0):=by unfold qf;rw[pD h1]
 have hg:=yn h1;have hc4:=hg.zj.2;rw[e];refine zac ?_
 refine zH.seq s.zj.length (λk=>(.za::.ref 0 [] 3 0 0::.ref 1 [] 5 0 0::I 0::.ref 2 [] 5 0 0::I k::mL (jp (mL ([.za,.za,.za,.za]))))) (λk=>[⟨1,86,3,[qV s],0⟩,⟨1,106,5,[[.fq 1 0 [],.fq 1 0 [],.fq 1 0 [],.fq 1 0 [],Bo false]],0⟩,⟨1,106,5,[qV s++[.gl 3 2 (((s.zj.take k).map kb).map zy),Bo false]],0⟩,⟨4,111,2,((s.zj.take k).map kb).map zy,0⟩]) (λk=>True) ?_ trivial (λk hk hr=>?_) (λhr=>?_)
 .refine zl.trans (zl.qN 2 3 111 2 V V (.inl V) V V) ?_;exact cC
 .obtain⟨x,hx⟩:∃x,x=s.zj[k]:=⟨_,rfl⟩;have hgx:(s.zj.map jx)[k]?=some (jx x):=by rw[pw,pq hk,hx];rfl
  have hgood:=hg.all x uY;have h4:=hgood.zM.2;have hlg:(((s.zj.take k).map kb).map zy).length=k:=ar
  have eg:((s.zj.take (k+1)).map kb).map zy=((s.zj.take k).map kb).map zy++[zy (kb x)]:=bM
  have m2:(x.zM.map yK).length=x.zM.length:=pz ..;conv=>whnf
  rw[m1];refine uF ?_;refine zH.seq x.zM.length (λj=>(.za::.ref 0 [] 3 0 0::.ref 1 [] 5 0 0::I 0::.ref 2 [] 5 0 0::I k::.ref 4 [] 2 0 0::I j::mL (jp (mL ([.za,.za]))))) (λj=>[⟨1,86,3,[qV s],0⟩,⟨1,106,5,[[.fq 1 0 [],.fq 1 0 [],.fq 1 0 [],.fq 1 0 [],Bo false]],0⟩,⟨1,106,5,[qV s++[.gl 3 2 (((s.zj.take k).map kb).map zy),Bo false]],0⟩,⟨4,111,2,((s.zj.take k).map kb).map zy,0⟩,⟨1,111,2,[[U 0,.gl 5 3 ((List.replicate j (j6 x)).map zx)]],0⟩,⟨4,151,3,((List.replicate j (j6 x)).map zx),0⟩]) (λk=>True) ?_ trivial (λj hj _=>?_) (λ_=>?_)
  .refine zl.trans (zl.qN 4 1 151 3 V V (.inl V) V V) ?_;exact cC
  .have lE:(((List.replicate j (j6 x)).map zx)).length=j:=by simp
   have eE:((List.replicate (j+1) (j6 x)).map zx)=((List.replicate j (j6 x)).map zx)++[zx (j6 x)]:=by rw[sX,ry];rfl
   have hf:=Go.Slp.P9 x.yi;rw[Lo hgood]at hf;conv=>whnf
   (refine te hgx ?_)
   rw[m2];refine uF ?_;(refine te hgx ?_)
   refine af hf ?_;refine⟨rfl,.inr V,cx,by rw[lE];show(j+1)*40<=_;omega,dd ?_⟩;refine zap ?_;rw[zk an,eE];exact cE 6
  .conv=>whnf
   (refine te hgx ?_)
   rw[m2];refine zaf ?_;refine⟨rfl,.inr V,bN,by rw[hlg];show(k+1)*32<=_;omega,dd ?_⟩;exact gW
 .conv=>whnf
  rw[m1];refine zaf ?_;exact gN
def LN(w:Wor)(m:fx)(hl:w.zn.length<4000000000000000000)(h:yN w m=false):th 99 [] [Cw w,Cm m] (Bo false) []:=by
 have m4:(w.zn.map qk).length=w.zn.length:=pz ..;unfold yN at h;simp only[r4,rD,rk,beq_eq_false_iff_ne]at h;obtain⟨⟨⟨h1,h2⟩,h3⟩,h4⟩:=h;refine ab func99 ?_;refine zH.seq w.zn.length (λk=>(.za::.za::.ref 0 [] 8 0 0::.ref 1 [] 44 0 0::Bo false::I k::mL (mL (mL (mL ([.za])))))) (λk=>[oW w,oM m]) (λk=>True) ?_ trivial (λk hk _=>?_) (λ_=>?_)
 .exact cC
 .obtain⟨x,hx⟩:∃x,x=w.zn[k]:=⟨_,rfl⟩;have hg:(w.zn.map qk)[k]?=some (qk x):=by rw[pw,pq hk,hx];rfl
  have hv:x.version≠m.version:=by have:=h1 x uY;simpa using this
  conv=>whnf
  rw[m4];refine za8 ?_
  refine⟨λq=>absurd (eq_of_beq q) hv,λ_=>dd ?_⟩;exact dH
 .conv=>whnf
  rw[m4];refine zaf ?_;refine⟨λq=>absurd (eq_of_beq q) h2,λ_=>dd ?_⟩;refine⟨λq=>absurd (pC q) h3,λ_=>dd ?_⟩;refine zbI ?_;refine td ?_
  exact uI
def Qi(w:Wor)(m:fx)(f:Int)(sw:z6 w)(hc:qQ m.op.config)(hf:(qB m.op.config).2.1=f)(h0:f≠0):
  th 100 [] [Cw w,Cm m] (.fy [Cw w,Cm {m with done:=true,answer:=oy f},Ce {fI m 1 3 w.current with jo:=true,done:=true,answer:=oy f}]) []:=by
 have hb:=FO m.op.config hc;generalize qB m.op.config=bv at hb hf;obtain⟨sn,e1,e2⟩:=bv;dsimp only at hf;subst hf;refine ab func100 ?_;refine af (qy w sw) ?_;refine af hb ?_;refine⟨λ_=>dd ?_,λh=>absurd uW h0⟩;refine af (zS m 1 3 w.current) ?_;refine af (xP m {fI m 1 3 w.current with jo:=true} (oy e1)) ?_;refine .inl ⟨⟨false,[0,1,2],[5,8,9],[]⟩,ak,uH ?_⟩;refine tc ?_
 exact uI
def Lw{α:Type}{enc:α->List C}{ρ:Nat->Nat}(hf:∀x,(enc x).map (yT ρ 9)=enc x)(l:List α)(ty sz fz:Nat):zL ρ ⟨1,ty,sz,l.map enc,fz⟩=⟨1,ty,sz,l.map enc,fz⟩:=by
 show(⟨1,ty,sz,(l.map enc).map (λr=>r.map (yT ρ 9)),fz⟩:Ob)=_;rw[sJ]
 congr 1
 exact sQ λx _=>hf x
def SI(w:Wor)(m:fx)(sw:z6 w)(hc:qQ m.op.config)(he:nt m.op.config=0):
  th 100 [] [Cw w,Cm m] (.fy [Cw {w with current:=w.zd.length,zd:=w.zd++[nu m.op.config]},Cm (BR m w.current w.zd.length),Ce {fI m 6 3 w.zd.length with jo:=true}]) []:=by
 have hb:=FO m.op.config hc;have hl:=Jg _ (vu hc);have h1:(qB m.op.config).2.1=0:=by rw[wi,<-kL,he]
 have m1:(w.zd.map zt).length=w.zd.length:=pz ..;have own:∀r∈w.zd.map zt,∀c∈r,zF c=true:=λr hr c hc=>(shut_map (enc:=zt) (λ_=>V) _ r hr c hc).2
 have b1:=sw.zd.1;have ev:nu m.op.config=(qf (qB m.op.config).1).1:=rfl;rw[ev]
 have esh:∀x:fC,∀r∈w.zd.map zt++[zt x],∀c∈r,jV c=true/\zF c=true:=λx=>by
  rw[show w.zd.map zt++[zt x]=(w.zd++[x]).map zt from ah];exact shut_map (enc:=zt) (λ_=>V) _
 generalize qB m.op.config=bv at hb hl h1|-;obtain⟨sn,e1,e2⟩:=bv;dsimp only at h1 hl|-;subst h1;generalize qf sn=cv at hl|-;obtain⟨v,e3⟩:=cv;refine ab func100 ?_;refine zU [] [oW w,oM m,⟨1,38,8,[iE],0⟩,⟨1,64,44,[iD],0⟩,oE zW,⟨1,106,5,w.zd.map zt,0⟩] (rx:=.agg (ir w 5)) (Pm w sw) (ze (zf own) V) V V V V V (by show _::_::_::_::_::zL _ ⟨1,106,5,_,0⟩::_=_;rw[Lw (enc:=zt) (λ_=>V)];rfl) V (dd ?_);refine af hb ?_;(refine yb (dd ?_))
 refine af hl ?_;(refine(fE.ji _ V _ _ ⟨rfl,rfl,⟨_,rfl,underlying33⟩,rfl,rfl,rfl⟩ (id:=5) (n:=w.zd.length) V V (.inl V) V m1 own (.inl V) (zB V) (r9 _ _) (by show w.zd.length+1<=maxLen;simp only[maxLen];omega) (by show(w.zd.length+1)*104<=_;omega)).iu (uH ?_))
 rw[m1];refine af (zS (BR m w.current w.zd.length) 6 3 w.zd.length) ?_;refine .inl ⟨⟨false,[0,1,2],[6,1,10],[]⟩,ak,uH ?_⟩;refine tc ?_
 refine⟨.inl V,_,zl.zN 2 0 4 V V V V (.inl V) ah ah (esh v) (zB V),?_⟩;show some (C.fy [C.agg [I w.zr,I w.zd.length,I w.lock,lI w.pins,.fq 0 5 (w.zd.map zt++[zt v]),lL w.zc,fJ w.counts,lR w.zn],_,_])=_;rw[show w.zd.map zt++[zt v]=(w.zd++[v]).map zt from ah]
 rfl
section
variable {w w':Wor} {m m':fx} {e:fF}
def MN(sw:z6 w)(ok:fG w)(hl:i64 m.listen)(hs:zG w m=true)(hpc:m.pc=0)(h:th 100 [] [Cw w,Cm m] (.fy [Cw w',Cm m',Ce e]) []):
  th 50 [] [Cw w,Cm m] (.fy [Cw w',Cm m',Ce e]) []:=by
 refine zao ?_
 refine af h ?_;refine zaC ?_
 exact uI
def Xz(sw:z6 w)(ok:fG w)(hl:i64 m.listen)(hs:zG w m=true)(hpc:m.pc=1):
  th 50 [] [Cw w,Cm m] (.fy [Cw w,Cm {m with zr:=w.zr,pc:=2},Ce (fI m 1 1 w.zr)]) []:=by
 refine zao ?_
 refine af (qy w sw) ?_;refine zag ?_
 refine .inl ⟨⟨true,[0,1,2,4],[0,1,5],[5]⟩,ak,uH ?_⟩;refine af (zS {m with zr:=w.zr,pc:=2} 1 1 w.zr) ?_;refine tc ?_
 exact uI
def XA(sw:z6 w)(ok:fG w)(hl:i64 m.listen)(hs:zG w m=true)(hpc:m.pc=2)(hv:yN w m=false){x:fK}{l:List fK}(hq:w.zn=x::l):
  th 50 [] [Cw w,Cm m] (.fy [Cw {w with zn:=w.zn++[⟨m.version,m.zr,false⟩]},Cm {m with done:=true,answer:=om m},Ce {fI m 2 11 m.version with done:=true,answer:=om m}]) []:=by
 have b1:=sw.zn;have m1:(w.zn.map qk).length=w.zn.length:=pz ..;have hap:(Ob.mk 2 157 3 (w.zn.map qk) 0).rows++[[I m.version,I m.zr,Bo false]]=(w.zn++[(⟨m.version,m.zr,false⟩:fK)]).map qk:=aN
 refine zao ?_
 refine af (LN w m an hv) ?_;refine zag ?_
 refine td ?_
 refine zag ?_
 refine ae [] (Pp w sw x l hq) ?_;refine zag ?_
 refine⟨ah,Nb _,aq,bQ,dd ?_⟩;rw[hap];refine zce ?_;(repeat' (first|(refine And.intro V (uH ?_))|(refine And.intro (uH ?_) trivial)|(refine And.intro ?_ ?_ <;> (conv=>whnf))))
 all_goals
  refine zaM ?_
  refine .inl ⟨⟨false,[0,1,2],[6,8,9],[]⟩,ak,uH ?_⟩;refine tc ?_
  exact⟨.inl V,_,zl.zN 2 0 7 V V V V (.inr V) ah ah (shut_map (enc:=qk) (λ_=>V) _) (zB V),rfl⟩
def WM(sw:z6 w)(ok:fG w)(hl:i64 m.listen)(hs:zG w m=true)(hpc:m.pc=2)(hv:yN w m=false)(hq:w.zn=[]):
  th 50 [] [Cw w,Cm m] (.fy [Cw {w with zn:=w.zn++[⟨m.version,m.zr,false⟩]},Cm {m with done:=true,answer:=om m},Ce {fI m 2 11 m.version with done:=true,answer:=om m}]) []:=by
 have b1:=sw.zn;refine zao ?_
 refine af (LN w m an hv) ?_;refine zag ?_
 refine td ?_
 refine zag ?_
 refine af (OS w sw hq) ?_;refine zag ?_
 refine .inr ⟨.inl V,aj,aj,dd ?_⟩;refine zce ?_;(repeat' (first|(refine And.intro V (uH ?_))|(refine And.intro (uH ?_) trivial)|(refine And.intro ?_ ?_ <;> (conv=>whnf))))
 all_goals
  refine zaM ?_
  refine .inl ⟨⟨false,[0,1,2],[5,7,8],[]⟩,ak,uH ?_⟩;refine tc ?_
  rw[hq];exact⟨.inl V,_,zl.zN 2 0 7 V V V V (.inr V) ah ah (shut_map (enc:=qk) (λ_=>V) [(⟨m.version,m.zr,false⟩:fK)]) (zB V),rfl⟩
end
section
variable {w:Wor} {m:fx}
def X2(sw:z6 w)(ok:fG w)(hl:i64 m.listen)(hpc:m.pc=0)(hs:zG w m=true)(hi:zZ w.zc m.op.listen<0):
  th 51 [] [Cw w,Cm m] (.fy [Cw w,Cm {m with done:=true,answer:=wW 7},Ce {DO m with done:=true,answer:=wW 7}]) []:=by
 have bl:=ok.zc.1;refine ab func51 ?_;refine zaV ?_;refine zae ?_
 refine af (qy w sw) ?_;refine af (vJ w.zc m.op.listen an) ?_;refine zam ?_
 refine .inr ⟨⟨[0,1,2,4],[1],true⟩,ak,λ_=>V,_,uH ?_,λt2 H2 h=>h⟩;refine⟨_,ag [] (zS m 1 0 0),uH ?_⟩;refine⟨_,ag [] (xP m (fI m 1 0 0) (wW 7)),uH (uH ?_)⟩;(repeat' (first|(refine And.intro V (uH ?_))|(refine And.intro (uH ?_) trivial)|(refine And.intro ?_ ?_ <;> (conv=>whnf))))
 all_goals
  refine zaM ?_
  refine zaC ?_
  exact uI
def XQ(sw:z6 w)(ok:fG w)(hl:i64 m.listen)(hpc:m.pc=0)(hs:zG w m=true)(hi:0<=zZ w.zc m.op.listen){x:fO}(hx:w.zc[(zZ w.zc m.op.listen).toNat]?=some x):
  th 51 [] [Cw w,Cm m] (.fy [Cw {w with zc:=w.zc.set (zZ w.zc m.op.listen).toNat (Go.Gat.wH x)},Cm {m with listen:=zZ w.zc m.op.listen,done:=true,answer:=DL (zZ w.zc m.op.listen)},Ce {Fh m with done:=true,answer:=DL (zZ w.zc m.op.listen)}]) []:=by
 have bl:=ok.zc.1;have hpl:=vJ w.zc m.op.listen an;generalize hp:zZ w.zc m.op.listen=p at hi hx hpl;have lt:p.toNat<w.zc.length:=(px.1 hx).1;have gl:(w.zc.map zT)[p.toNat]?=some (zT x):=by rw[pw,hx];rfl
 have hst:(w.zc.map zT).set p.toNat [Tx x.name,Bo true,I x.zo,Bo x.closed]=(w.zc.set p.toNat (Go.Gat.wH x)).map zT:=bO
 have e1:0+p.toNat=p.toNat:=pK _
 obtain⟨y,l,hy⟩:∃y l,w.zc=y::l:=by
  cases h:w.zc with
  |nil=>rw[h]at lt;simp at lt
  |cons y l=>exact⟨y,l,rfl⟩
 refine ab func51 ?_;refine zaV ?_;refine zae ?_
 refine ae [] (yZ w sw y l hy) ?_;refine af hpl ?_;refine zam ?_
 refine⟨hi,lt,dd ?_⟩;rw[e1];refine⟨_,gl,rfl,dd ?_⟩;rw[hst];refine .inr ⟨⟨[0,1,2,5],[1],true⟩,ak,λ_=>V,_,uH ?_,λt2 H2 h=>h⟩;refine⟨_,ag [] (zS {m with listen:=p} 2 4 1),uH ?_⟩;refine⟨_,ag [] (xP {m with listen:=p} (fI {m with listen:=p} 2 4 1) (DL p)),uH (uH ?_)⟩;(repeat' (first|(refine And.intro V (uH ?_))|(refine And.intro (uH ?_) trivial)|(refine And.intro ?_ ?_ <;> (conv=>whnf))))
 all_goals
  refine zaM ?_
  refine zbK ?_
  exact gQ
def XR(sw:z6 w)(ok:fG w)(hl:i64 m.listen)(hpc:m.pc=0)(hs:zG w m=true)(hd:m.done=false){r:List Int}{n:Int}(hc:Ir w m r n)(ha:m.answer=kG):
  th 53 [] [Cw w,Cm m] (.fy [Cw w,Cm (vL w m n),Ce (BB w m n)]) []:=by
 have i0:=hc.i0;have k0:=hc.k0;have k6:=hc.k6;have hi:m.i.toNat<w.counts.length:=(px.1 hc.at_).1;have b1:=sw.counts.1;have ml:(w.counts.map zA).length=w.counts.length:=pz ..;have cr:(w.counts.map zA)[m.i.toNat]?=some (zA r):=by rw[pw,hc.at_];rfl
 have cn:(r.map qD)[m.k.toNat]?=some (qD n):=by rw[pw,hc.row];rfl
 by_cases h5:m.k=5
 .have hk:=h5;have g6:m.k+1=6:=by omega
  have ew:IntKind.i64.wrap (m.i+1)=m.i+1:=jF an an;rw[hk]at cn;by_cases g7:m.i+1=w.counts.length
  .rw[Lc (by rw[Ch g6 g7]),Ch g6 g7];refine zbJ ?_;(refine td ?_)
   rw[ew,ml];refine zam ?_
   refine af (xP {m with counts:=Bb m.counts 5 n,k:=0,i:=m.i+1} (fI m 1 10 5) ⟨13,0,0,0,0,0,0,Bb m.counts 5 n⟩) ?_;refine .inl ⟨⟨false,[0,1,2],[5,7,8],[]⟩,ak,uH ?_⟩;refine tc ?_
   refine⟨.inl V,_,.refl _,?_⟩;unfold MR Dp;rw[hk]
   rfl
  .rw[Ek (by rw[Cg g6 g7];exact hd),Cg g6 g7];refine zbJ ?_;(refine td ?_)
   rw[ew,ml];refine zam ?_
   refine zbw ?_
   refine⟨.inl V,_,.refl _,?_⟩;unfold MQ Dp;rw[hk]
   rfl
 have g6:m.k+1≠6:=an
 have g7:m.i≠w.counts.length:=an
 rw[Ek (by rw[Cd g6 g7];exact hd),Cd g6 g7];obtain hk|hk|hk|hk|hk:m.k=0\/m.k=1\/m.k=2\/m.k=3\/m.k=4:=an
 all_goals
  rw[hk]at cn;refine zbJ ?_;(refine td ?_)
  rw[ml];refine zam ?_
  refine zbw ?_
  refine⟨.inl V,_,.refl _,?_⟩;unfold MP Dp;rw[hk]
  rfl
end
end Go.Wor
namespace Go.Wor
open Go.Ab Go.Proofs Tryz Go.Gat Go.Nam Go.Hos Go.Con Go.Sna Go.Pla
open Go.Hy hiding encI
section
variable {N:Nat} {w:Wor} {m:fx} {v:fC} {g:Gr} {e:En} {r:Wor×fx×fF}
def To(su:jW w m v g e)(hs:zG w m=true)(t:il N w)(tm:iQ m)(hN:N<=100000000)(hc:qQ m.op.config)(h:Aw w m=some r):yy 50 w m r:=by
 have gw:=qt.1 su.world;have sw:=ns gw t hN;have ok:=mX gw t hN;have hl:=tm.listen;unfold Aw at h;by_cases p:m.pc=0
 .rw[pD p]at h;by_cases q:nt m.op.config=0
  .rw[pD q]at h;cases h
   exact MN sw ok hl hs p (SI w m sw hc q)
  .rw[pA q]at h;cases h
   exact MN sw ok hl hs p (Qi w m _ sw hc (by rw[wi,kL]) q)
 rw[pA p]at h
 clear p
 by_cases p:m.pc=1
 .rw[pD p]at h;cases h
  exact Xz sw ok hl hs p
 rw[pA p]at h
 clear p
 by_cases p:m.pc=2
 .rw[pD p]at h;cases q:yN w m
  .rw[q]at h;cases h
   cases hx:w.zn with
   |nil=>have:=WM sw ok hl hs p q hx;rwa [hx]at this
   |cons x l=>have:=XA sw ok hl hs p q hx;rwa [hx]at this
  .rw[q]at h;cases h
 rw[pA p]at h;cases h
def Rw(su:jW w m v g e)(hs:zG w m=true)(t:il N w)(tm:iQ m)(hN:N<=100000000)(h:AS w m=some r):yy 51 w m r:=by
 have gw:=qt.1 su.world;have sw:=ns gw t hN;have ok:=mX gw t hN;have hl:=tm.listen;unfold AS at h;by_cases p:m.pc=0
 .rw[pD p]at h;by_cases q:zZ w.zc m.op.listen<0
  .rw[pD q]at h;cases h
   exact X2 sw ok hl p hs q
  .rw[pA q]at h;obtain⟨x,hx,rfl⟩:=rq.1 h;exact XQ sw ok hl p hs an hx
 rw[pA p]at h;cases h
def Rg(su:jW w m v g e)(hs:zG w m=true)(t:il N w)(tm:iQ m)(hN:N<=100000000)(hk:m.op.kind=6)(h:Ao w m=some r):yy 53 w m r:=by
 have gw:=qt.1 su.world;have sw:=ns gw t hN;have ok:=mX gw t hN;unfold Ao at h;split at h
 rotate_left
 .cases h
 rename_i p;obtain⟨rw_,h1,h2⟩:=r3.1 h;obtain⟨n,h3,rfl⟩:=rq.1 h2;exact XR sw ok tm.listen p.1 hs su.done ⟨su.i,h1,su.k,p.2,h3⟩ (tm.AH hk su.done)
end
section
variable {w:Wor} {m:fx} {r:Wor×fx×fF}
def L5(hk:m.op.kind=1)(h:yy 48 w m r):nB w m r:=by
 refine ab func23 ?_;refine zbD ?_
 refine zaC ?_
 exact uI
def Hc(hk:m.op.kind=2)(h:yy 49 w m r):nB w m r:=by
 refine ab func23 ?_;refine zaZ ?_
 refine zbD ?_
 refine zaC ?_
 exact uI
def Hd(hk:m.op.kind=3)(h:yy 50 w m r):nB w m r:=by
 refine ab func23 ?_;refine zaZ ?_
 refine zaZ ?_
 refine zbD ?_
 refine zaC ?_
 exact uI
def Mm(hk:m.op.kind=4)(h:yy 51 w m r):nB w m r:=by
 refine ab func23 ?_;refine zaZ ?_
 refine zaZ ?_
 refine zaZ ?_
 refine zbD ?_
 refine zaC ?_
 exact uI
def GX(hk:m.op.kind=6)(h:yy 53 w m r):nB w m r:=by
 refine ab func23 ?_;refine zaZ ?_
 refine zaZ ?_
 refine zaZ ?_
 refine zaZ ?_
 refine zaZ ?_
 refine zbD ?_
 refine zaC ?_
 exact uI
end
def Wl{N:Nat}{w:Wor}{m:fx}{r:Wor×fx×fF}(hs:zG w m=true)(t:il N w)(tm:iQ m)(hN:N<=100000000)(p0:0<=m.pc)(hc:m.op.kind=3->qQ m.op.config)(ca:m.op.kind=5->oB w m)(h:oH w m=some r):nB w m r:=by
 obtain⟨v,g,e,su⟩:=kl hs;unfold oH at h;rw[su.iz]at h;dsimp only at h;rw[su.iC]at h;dsimp only at h;rw[su.iM]at h;dsimp only at h;by_cases k:m.op.kind=1
 .rw[pD k]at h;exact L5 k (Qa su hs t tm hN p0 h)
 rw[pA k]at h
 clear k
 by_cases k:m.op.kind=2
 .rw[pD k]at h;exact Hc k (P6 su hs t tm hN h)
 rw[pA k]at h
 clear k
 by_cases k:m.op.kind=3
 .rw[pD k]at h;exact Hd k (To su hs t tm hN (hc k) h)
 rw[pA k]at h
 clear k
 by_cases k:m.op.kind=4
 .rw[pD k]at h;exact Mm k (Rw su hs t tm hN h)
 rw[pA k]at h
 clear k
 by_cases k:m.op.kind=5
 .rw[pD k]at h;exact GW k (SW (qt.1 su.world) t su tm (ca k) hN h)
 rw[pA k]at h
 clear k
 by_cases k:m.op.kind=6
 .rw[pD k]at h;exact GX k (Rg su hs t tm hN k h)
 rw[pA k]at h;cases h
end Go.Wor
