import Derived.Test.YtamgiodaflkbhaaGreatTS4
import Derived.Test.YtamgiodaflkbhaaGreatTS1
import Derived.Test.YtamgiodaflkbhaaGreatTS3
import Derived.Test.YtamgiodaflkbhaaGreatTS2
set_option linter.all false
set_option maxRecDepth 100000
set_option maxHeartbeats 4000000
namespace Go.Wor
open Go.Ab Go.Proofs Tryz Go.Gat Go.Nam Go.Hos Go.Con Go.Sna
open Go.Hy hiding encI
variable{l:fj}{v0:eX}{g0:Gr}{e0:En}
section
variable {w w':Wor} {m m':eQ} {e:e7}
def VS(sw:z6 w)(ok:fa w)(hl:i64 m.listen)(hs:zE w m=true)(hp:0<=m.pc/\m.pc<3)(h:th 88 [] [Cw w,Cm m] (.eR [Cw w',Cm m',Ce e]) []):th 48 [] [Cw w,Cm m] (.eR [Cw w',Cm m',Ce e]) []:=by
 by_cases hn:m.listen<0
 all_goals
  refine ab func48 ?_;refine zan ?_;((repeat (first|(refine⟨λ_=>?_,?_⟩;rotate_left 1;(focus (intro h;first|(have h:=gQ h;omega)|(have h:=gR h;omega)|(have h:=eq_of_beq h;omega)|(exact absurd (pU.2 hpe) uT)));(refine dd ?_))|(refine⟨?_,λ_=>?_⟩;(focus (intro h;first|(have h:=gQ h;omega)|(have h:=gR h;omega)|(have h:=eq_of_beq h;omega)|(exact absurd (pU.2 hpe) uT)));(refine dd ?_)))))
  refine af h ?_;refine zat ?_
  exact uI
def JW(sw:z6 w)(ok:fa w)(hl:i64 m.listen)(hs:zE w m=true)(hp:m.pc=3\/m.pc=5)(hq:m.pc=5->0<=m.listen)(h:th 90 [] [Cw w,Cw w,Cm m] (.eR [Cw w',Cm m',Ce e]) []):th 48 [] [Cw w,Cm m] (.eR [Cw w',Cm m',Ce e]) []:=by
 (by_cases hn:m.listen<0);all_goals ((refine ab func48 ?_;(refine af (zQ w m ok hl) ?_);(rw[hs]);(try (refine td ?_));((repeat (first|(refine⟨λ_=>?_,?_⟩;rotate_left 1;(focus (intro h;first|(have h:=gQ h;omega)|(have h:=gR h;omega)|(have h:=eq_of_beq h;omega)|(exact absurd (pU.2 hpe) uT)));(refine dd ?_))|(refine⟨?_,λ_=>?_⟩;(focus (intro h;first|(have h:=gQ h;omega)|(have h:=gR h;omega)|(have h:=eq_of_beq h;omega)|(exact absurd (pU.2 hpe) uT)));(refine dd ?_))))));(refine af (qw w sw) ?_);((repeat (first|(refine⟨λ_=>?_,?_⟩;rotate_left 1;(focus (intro h;first|(have h:=gQ h;omega)|(have h:=gR h;omega)|(have h:=eq_of_beq h;omega)|(exact absurd (pU.2 hpe) uT)));(refine dd ?_))|(refine⟨?_,λ_=>?_⟩;(focus (intro h;first|(have h:=gQ h;omega)|(have h:=gR h;omega)|(have h:=eq_of_beq h;omega)|(exact absurd (pU.2 hpe) uT)));(refine dd ?_)))));(refine af h ?_);(refine .inl ⟨⟨false,[0,1,2],[6,7,8],[]⟩,ak,uH ?_⟩);refine tc ?_;(exact uI))
def JX(sw:z6 w)(ok:fa w)(hl:i64 m.listen)(hs:zE w m=true)(hp:6<=m.pc/\m.pc<9)(h:th 91 [] [Cw w,Cw w,Cm m] (.eR [Cw w',Cm m',Ce e]) []):th 48 [] [Cw w,Cm m] (.eR [Cw w',Cm m',Ce e]) []:=by
 (by_cases hn:m.listen<0);all_goals ((refine ab func48 ?_;(refine af (zQ w m ok hl) ?_);(rw[hs]);(try (refine td ?_));((repeat (first|(refine⟨λ_=>?_,?_⟩;rotate_left 1;(focus (intro h;first|(have h:=gQ h;omega)|(have h:=gR h;omega)|(have h:=eq_of_beq h;omega)|(exact absurd (pU.2 hpe) uT)));(refine dd ?_))|(refine⟨?_,λ_=>?_⟩;(focus (intro h;first|(have h:=gQ h;omega)|(have h:=gR h;omega)|(have h:=eq_of_beq h;omega)|(exact absurd (pU.2 hpe) uT)));(refine dd ?_))))));(refine af (qw w sw) ?_);((repeat (first|(refine⟨λ_=>?_,?_⟩;rotate_left 1;(focus (intro h;first|(have h:=gQ h;omega)|(have h:=gR h;omega)|(have h:=eq_of_beq h;omega)|(exact absurd (pU.2 hpe) uT)));(refine dd ?_))|(refine⟨?_,λ_=>?_⟩;(focus (intro h;first|(have h:=gQ h;omega)|(have h:=gR h;omega)|(have h:=eq_of_beq h;omega)|(exact absurd (pU.2 hpe) uT)));(refine dd ?_)))));(refine af h ?_);(refine .inl ⟨⟨false,[0,1,2],[6,7,8],[]⟩,ak,uH ?_⟩);refine tc ?_;(exact uI))
def Fw(sw:z6 w)(ok:fa w)(hl:i64 m.listen)(hs:zE w m=true)(hp:9<=m.pc/\m.pc<13)(h:th 92 [] [Cw w,Cw w,Cm m] (.eR [Cw w',Cm m',Ce e]) []):th 48 [] [Cw w,Cm m] (.eR [Cw w',Cm m',Ce e]) []:=by
 (by_cases hn:m.listen<0);all_goals ((refine ab func48 ?_;(refine af (zQ w m ok hl) ?_);(rw[hs]);(try (refine td ?_));((repeat (first|(refine⟨λ_=>?_,?_⟩;rotate_left 1;(focus (intro h;first|(have h:=gQ h;omega)|(have h:=gR h;omega)|(have h:=eq_of_beq h;omega)|(exact absurd (pU.2 hpe) uT)));(refine dd ?_))|(refine⟨?_,λ_=>?_⟩;(focus (intro h;first|(have h:=gQ h;omega)|(have h:=gR h;omega)|(have h:=eq_of_beq h;omega)|(exact absurd (pU.2 hpe) uT)));(refine dd ?_))))));(refine af (qw w sw) ?_);((repeat (first|(refine⟨λ_=>?_,?_⟩;rotate_left 1;(focus (intro h;first|(have h:=gQ h;omega)|(have h:=gR h;omega)|(have h:=eq_of_beq h;omega)|(exact absurd (pU.2 hpe) uT)));(refine dd ?_))|(refine⟨?_,λ_=>?_⟩;(focus (intro h;first|(have h:=gQ h;omega)|(have h:=gR h;omega)|(have h:=eq_of_beq h;omega)|(exact absurd (pU.2 hpe) uT)));(refine dd ?_)))));(refine af h ?_);(refine .inl ⟨⟨false,[0,1,2],[6,7,8],[]⟩,ak,uH ?_⟩);refine tc ?_;(exact uI))
def Q7(sw:z6 w)(ok:fa w)(hl:i64 m.listen)(hs:zE w m=true)(hp:m.pc=23)(h:th 93 [] [Cw w,Cw w,Cm m] (.eR [Cw w',Cm m',Ce e]) []):th 48 [] [Cw w,Cm m] (.eR [Cw w',Cm m',Ce e]) []:=by
 (by_cases hn:m.listen<0);all_goals ((refine ab func48 ?_;(refine af (zQ w m ok hl) ?_);(rw[hs]);(try (refine td ?_));((repeat (first|(refine⟨λ_=>?_,?_⟩;rotate_left 1;(focus (intro h;first|(have h:=gQ h;omega)|(have h:=gR h;omega)|(have h:=eq_of_beq h;omega)|(exact absurd (pU.2 hpe) uT)));(refine dd ?_))|(refine⟨?_,λ_=>?_⟩;(focus (intro h;first|(have h:=gQ h;omega)|(have h:=gR h;omega)|(have h:=eq_of_beq h;omega)|(exact absurd (pU.2 hpe) uT)));(refine dd ?_))))));(refine af (qw w sw) ?_);((repeat (first|(refine⟨λ_=>?_,?_⟩;rotate_left 1;(focus (intro h;first|(have h:=gQ h;omega)|(have h:=gR h;omega)|(have h:=eq_of_beq h;omega)|(exact absurd (pU.2 hpe) uT)));(refine dd ?_))|(refine⟨?_,λ_=>?_⟩;(focus (intro h;first|(have h:=gQ h;omega)|(have h:=gR h;omega)|(have h:=eq_of_beq h;omega)|(exact absurd (pU.2 hpe) uT)));(refine dd ?_)))));(refine af h ?_);(refine .inl ⟨⟨false,[0,1,2],[6,7,8],[]⟩,ak,uH ?_⟩);refine tc ?_;(exact uI))
end
section
variable {w:Wor} {m m':eQ} {e:e7}
def WJ(sw:z6 w)(ok:fa w)(hl:i64 m.listen)(hs:zE w m=true)(hpc:m.pc=4)(h0:0<=m.listen)(hx:w.zc[m.listen.toNat]?=some l):
  th 48 [] [Cw w,Cm m] (.eR [Cw {w with zc:=w.zc.set m.listen.toNat (AK l)},Cm {m with pc:=5},Ce (fc m 3 5 (IntKind.i64.wrap (l.zo+1)))]) []:=by
 (obtain⟨l0,ls,hq⟩:∃l0 ls,w.zc=l0::ls:=by cases h:w.zc with|nil=>rw[h]at hx;simp at hx|cons a b=>exact⟨a,b,rfl⟩);(refine ab func48 ?_;(refine af (zQ w m ok hl) ?_);(rw[hs]);(try (refine td ?_));((repeat (first|(refine⟨λ_=>?_,?_⟩;rotate_left 1;(focus (intro h;first|(have h:=gQ h;omega)|(have h:=gR h;omega)|(have h:=eq_of_beq h;omega)|(exact absurd (pU.2 hpc) uT)));(refine dd ?_))|(refine⟨?_,λ_=>?_⟩;(focus (intro h;first|(have h:=gQ h;omega)|(have h:=gR h;omega)|(have h:=eq_of_beq h;omega)|(exact absurd (pU.2 hpc) uT)));(refine dd ?_))))));(refine ae [] (yL w sw l0 ls hq) ?_);((repeat (first|(refine⟨λ_=>?_,?_⟩;rotate_left 1;(focus (intro h;first|(have h:=gQ h;omega)|(have h:=gR h;omega)|(have h:=eq_of_beq h;omega)|(exact absurd (pU.2 hpc) uT)));(refine dd ?_))|(refine⟨?_,λ_=>?_⟩;(focus (intro h;first|(have h:=gQ h;omega)|(have h:=gR h;omega)|(have h:=eq_of_beq h;omega)|(exact absurd (pU.2 hpc) uT)));(refine dd ?_)))));(refine ae [5] (Ox w m l hpc h0 hx) ?_);(refine .inl ⟨⟨false,[0,1,2],[7,8,9],[]⟩,ak,uH ?_⟩);refine tc ?_;exact dD
def V7(sw:z6 w)(ok:fa w)(hl:i64 m.listen)(hs:zE w m=true)(hpc:m.pc=22)(h0:0<=m.listen)(hx:w.zc[m.listen.toNat]?=some l):
  th 48 [] [Cw w,Cm m] (.eR [Cw {w with zc:=w.zc.set m.listen.toNat (kj l)},Cm {m with pc:=23},Ce (fc m 3 5 (IntKind.i64.wrap (l.zo-1)))]) []:=by
 (obtain⟨l0,ls,hq⟩:∃l0 ls,w.zc=l0::ls:=by cases h:w.zc with|nil=>rw[h]at hx;simp at hx|cons a b=>exact⟨a,b,rfl⟩);(refine ab func48 ?_;(refine af (zQ w m ok hl) ?_);(rw[hs]);(try (refine td ?_));((repeat (first|(refine⟨λ_=>?_,?_⟩;rotate_left 1;(focus (intro h;first|(have h:=gQ h;omega)|(have h:=gR h;omega)|(have h:=eq_of_beq h;omega)|(exact absurd (pU.2 hpc) uT)));(refine dd ?_))|(refine⟨?_,λ_=>?_⟩;(focus (intro h;first|(have h:=gQ h;omega)|(have h:=gR h;omega)|(have h:=eq_of_beq h;omega)|(exact absurd (pU.2 hpc) uT)));(refine dd ?_))))));(refine ae [] (yL w sw l0 ls hq) ?_);((repeat (first|(refine⟨λ_=>?_,?_⟩;rotate_left 1;(focus (intro h;first|(have h:=gQ h;omega)|(have h:=gR h;omega)|(have h:=eq_of_beq h;omega)|(exact absurd (pU.2 hpc) uT)));(refine dd ?_))|(refine⟨?_,λ_=>?_⟩;(focus (intro h;first|(have h:=gQ h;omega)|(have h:=gR h;omega)|(have h:=eq_of_beq h;omega)|(exact absurd (pU.2 hpc) uT)));(refine dd ?_)))));(refine ae [5] (Oj hpc h0 hx) ?_);(refine .inl ⟨⟨false,[0,1,2],[7,8,9],[]⟩,ak,uH ?_⟩);refine tc ?_;exact dD
def L8{r0 r1:List Int}(sw:z6 w)(ok:fa w)(hl:i64 m.listen)(hs:zE w m=true)(hpc:m.pc=20\/m.pc=21)(t0:0<=m.zl)(hr:w.counts[m.zl.toNat]?=some r0)(hne:r0≠[])(hll:r1.length=r0.length)
 (h:th 93 [⟨1,0,1,(w.counts.map zA).set m.zl.toNat [C.sl (1) [] 1 0 r0.length false],0⟩,⟨2,52,1,(r0).map qB,0⟩] [Cw w,.agg (ik 0 w),Cm m] (.eR [.agg (ik 0 w),Cm m',Ce e]) [⟨1,0,1,(w.counts.map zA).set m.zl.toNat [C.sl (1) [] 1 0 r0.length false],0⟩,⟨2,52,1,(r1).map qB,0⟩]):th 48 [] [Cw w,Cm m] (.eR [Cw {w with counts:=w.counts.set m.zl.toNat r1},Cm m',Ce e]) []:=by
 have ml:((w.counts.map zA)).length=w.counts.length:=gO ..;have ml1:(r1.map qB).length=r1.length:=gO ..;have eP:m.zl.toNat<w.counts.length:=(gN.1 hr).1;have own:∀i,∀r∈(w.counts.map zA).set m.zl.toNat ([C.sl i [] 1 0 r0.length false]),∀c∈r,zG c=true:=λi=>zF (enc:=zA) (λ_=>V) V _ _
 have gt:((w.counts.map zA).set m.zl.toNat ([C.sl 6 [] 1 0 r0.length false]))[m.zl.toNat]?=some ([C.sl 6 [] 1 0 r0.length false]):=gX mD;have est:(((w.counts.map zA).set m.zl.toNat ([C.sl 6 [] 1 0 r0.length false])).set m.zl.toNat [.eM 0 1 (r1.map qB)])=(w.counts.set m.zl.toNat r1).map zA:=cQ
 have esh:∀r∈(((w.counts.map zA).set m.zl.toNat ([C.sl 6 [] 1 0 r0.length false])).set m.zl.toNat [.eM 0 1 (r1.map qB)]),∀c∈r,jM c=true/\zG c=true:=by
  rw[est];exact shut_map (enc:=zA) (λ_=>V) _
 have hp:AN w.counts m.zl.toNat r0:=⟨sw.counts,hr,hne⟩;by_cases hn:m.listen<0
 all_goals
  refine ab func48 ?_;refine zan ?_;((repeat (first|(refine⟨λ_=>?_,?_⟩;rotate_left 1;(focus (intro h;first|(have h:=gQ h;omega)|(have h:=gR h;omega)|(have h:=eq_of_beq h;omega)|(exact absurd (pU.2 hpc) uT)));(refine dd ?_))|(refine⟨?_,λ_=>?_⟩;(focus (intro h;first|(have h:=gQ h;omega)|(have h:=gR h;omega)|(have h:=eq_of_beq h;omega)|(exact absurd (pU.2 hpc) uT)));(refine dd ?_)))))
  refine zW [] [oW w,oM m,⟨1,38,8,[fX],0⟩,⟨1,64,44,[fW],0⟩,oE zY,⟨1,0,1,(w.counts.map zA).set m.zl.toNat [C.sl (6) [] 1 0 r0.length false],0⟩,⟨2,52,1,(r0).map qB,0⟩] (rx:=.agg (ik 5 w)) (NF w sw hp) (ze (zf (own 1)) V) V V V V V tD V (dd ?_);(repeat (first|(refine⟨λ_=>?_,?_⟩;rotate_left 1;(focus (intro h;first|(have h:=gQ h;omega)|(have h:=gR h;omega)|(have h:=eq_of_beq h;omega)|(exact absurd (pU.2 hpc) uT)));(refine dd ?_))|(refine⟨?_,λ_=>?_⟩;(focus (intro h;first|(have h:=gQ h;omega)|(have h:=gR h;omega)|(have h:=eq_of_beq h;omega)|(exact absurd (pU.2 hpc) uT)));(refine dd ?_))))
  refine zW [5,6] [oW w,oM m,⟨1,38,8,[fX],0⟩,⟨1,64,44,[fW],0⟩,oE zY,⟨1,0,1,(w.counts.map zA).set m.zl.toNat [C.sl (6) [] 1 0 r0.length false],0⟩,⟨2,52,1,(r1).map qB,0⟩,⟨1,38,8,[ik 5 w],0⟩] (rx:=.eR [.agg (ik 5 w),Cm m',Ce e]) h (ze (zf (own 1)) V) (by show zJ _ ⟨1,0,1,_,0⟩::_=_;rw[zI (enc:=zA) (λ_=>V)];rfl) V V V (ze V (ze V (ze V (ze V (ze V (ze (zf (own 6)) V)))))) tD V (dd ?_);refine .inl ⟨⟨false,[0,1,2],[8,9,10],[]⟩,ak,uH ?_⟩;refine tc ?_
  refine zaJ ?_
  rfl
def V8{tk hd ac:Int}(sw:z6 w)(ok:fa w)(hl:i64 m.listen)(hs:zE w m=true)(hpc:m.pc=6)(hat:fF w m v0 g0 e0)(hne:e0.next≠[])
 (h:th 91 [⟨1,0,5,fy w m v0 (1),0⟩,⟨1,0,2,fp m v0 g0 (g0.zC) (2),0⟩,⟨1,0,3,fk m g0 e0 (e0.head) (3) (e0.zo),0⟩,⟨2,3,1,(e0.next).map Go.Hy.encI,0⟩] [Cw w,.agg (fL w 0),Cm m] (.eR [.agg (fL w 0),Cm m',Ce e]) [⟨1,0,5,fy w m v0 (1),0⟩,⟨1,0,2,fp m v0 g0 (tk) (2),0⟩,⟨1,0,3,fk m g0 e0 (hd) (3) (ac),0⟩,⟨2,3,1,(e0.next).map Go.Hy.encI,0⟩]):
  th 48 [] [Cw w,Cm m] (.eR [Cw (vv w m v0 g0 e0 tk hd ac),Cm m',Ce e]) []:=by
 obtain⟨hp,ownV,ownG,ownE,gv,gg,ge,estE,estG,estV,eshE,eshG,eshV⟩:=wm tk hd ac sw hat hne;by_cases hn:m.listen<0
 all_goals
  refine ab func48 ?_;refine zan ?_;((repeat (first|(refine⟨λ_=>?_,?_⟩;rotate_left 1;(focus (intro h;first|(have h:=gQ h;omega)|(have h:=gR h;omega)|(have h:=eq_of_beq h;omega)|(exact absurd (pU.2 hpc) uT)));(refine dd ?_))|(refine⟨?_,λ_=>?_⟩;(focus (intro h;first|(have h:=gQ h;omega)|(have h:=gR h;omega)|(have h:=eq_of_beq h;omega)|(exact absurd (pU.2 hpc) uT)));(refine dd ?_)))))
  refine zaj ?_;(repeat (first|(refine⟨λ_=>?_,?_⟩;rotate_left 1;(focus (intro h;first|(have h:=gQ h;omega)|(have h:=gR h;omega)|(have h:=eq_of_beq h;omega)|(exact absurd (pU.2 hpc) uT)));(refine dd ?_))|(refine⟨?_,λ_=>?_⟩;(focus (intro h;first|(have h:=gQ h;omega)|(have h:=gR h;omega)|(have h:=eq_of_beq h;omega)|(exact absurd (pU.2 hpc) uT)));(refine dd ?_))))
  refine zaP ?_
  refine zao ?_;refine zaz ?_
  rfl
def Lt{tk hd ac:Int}(sw:z6 w)(ok:fa w)(hl:i64 m.listen)(hs:zE w m=true)(hpc:m.pc=11\/m.pc=12)(hat:fF w m v0 g0 e0)(hne:e0.next≠[])
 (h:th 92 [⟨1,0,5,fy w m v0 (1),0⟩,⟨1,0,2,fp m v0 g0 (g0.zC) (2),0⟩,⟨1,0,3,fk m g0 e0 (e0.head) (3) (e0.zo),0⟩,⟨2,3,1,(e0.next).map Go.Hy.encI,0⟩] [Cw w,.agg (fL w 0),Cm m] (.eR [.agg (fL w 0),Cm m',Ce e]) [⟨1,0,5,fy w m v0 (1),0⟩,⟨1,0,2,fp m v0 g0 (tk) (2),0⟩,⟨1,0,3,fk m g0 e0 (hd) (3) (ac),0⟩,⟨2,3,1,(e0.next).map Go.Hy.encI,0⟩]):
  th 48 [] [Cw w,Cm m] (.eR [Cw (vv w m v0 g0 e0 tk hd ac),Cm m',Ce e]) []:=by
 obtain⟨hp,ownV,ownG,ownE,gv,gg,ge,estE,estG,estV,eshE,eshG,eshV⟩:=wm tk hd ac sw hat hne;by_cases hn:m.listen<0
 all_goals
  refine ab func48 ?_;refine zan ?_;((repeat (first|(refine⟨λ_=>?_,?_⟩;rotate_left 1;(focus (intro h;first|(have h:=gQ h;omega)|(have h:=gR h;omega)|(have h:=eq_of_beq h;omega)|(exact absurd (pU.2 hpc) uT)));(refine dd ?_))|(refine⟨?_,λ_=>?_⟩;(focus (intro h;first|(have h:=gQ h;omega)|(have h:=gR h;omega)|(have h:=eq_of_beq h;omega)|(exact absurd (pU.2 hpc) uT)));(refine dd ?_)))))
  refine zaj ?_;(repeat (first|(refine⟨λ_=>?_,?_⟩;rotate_left 1;(focus (intro h;first|(have h:=gQ h;omega)|(have h:=gR h;omega)|(have h:=eq_of_beq h;omega)|(exact absurd (pU.2 hpc) uT)));(refine dd ?_))|(refine⟨?_,λ_=>?_⟩;(focus (intro h;first|(have h:=gQ h;omega)|(have h:=gR h;omega)|(have h:=eq_of_beq h;omega)|(exact absurd (pU.2 hpc) uT)));(refine dd ?_))))
  refine zaP ?_
  refine zao ?_;refine zaz ?_
  rfl
end
end Go.Wor
namespace Go.Wor
open Go.Ab Go.Proofs Tryz Go.Hy Go.Gat Go.Nam Go.Hos Go.Con Go.Sna
section
variable {N:Nat} {w:Wor} {m:eQ} {v:eX} {g:Gr} {e:En} {r:Wor×eQ×e7}
def PL(su:jN w m v g e)(hs:zE w m=true)(t:fG N w)(tm:im m)(hN:N<=100000000)(hpc0:0<=m.pc)(h:wR w m v g e=some r):yo 48 w m r:=by
 have gw:=qq.1 su.world;have sw:=mH gw t hN;have ok:=wV gw t hN;have hl:=tm.listen;have at_:=su.at_;have gv:=(gw.il _ v su.fR).1;have oe:=(t.ij v (gT su.fR)).2 g (gT su.fV);have okE:=oe.2 e (gT su.ig)
 have hne:e.next≠[]:=by
  intro h0;have:=su.slot;rw[h0]at this;exact dt
 unfold wR at h;by_cases h3:m.pc<3
 .rw[gS h3]at h;exact VS sw ok hl hs ⟨hpc0,h3⟩ (Sg sw ok hl hs su.zl.1 su.zl.2 h)
 rw[gP h3]at h;by_cases p:m.pc=3
 .rw[gS p]at h;cases h
  exact JW sw ok hl hs (.inl p) an (Ow w m p bL)
 rw[gP p]at h
 clear p
 by_cases p:m.pc=4
 .rw[gS p]at h;obtain⟨l0,x,hx,rfl⟩:=y8 h;exact WJ sw ok hl hs p l0 hx
 rw[gP p]at h
 clear p
 by_cases p:m.pc=5
 .rw[gS p]at h;obtain⟨l0,x,hx,rfl⟩:=y8 h;exact JW sw ok hl hs (.inr p) (λ_=>l0) (Oy w m v x p at_.tolS (LV gw t tm su.fR) l0 hx)
 rw[gP p]at h
 clear p
 by_cases p:m.pc=6
 .rw[gS p]at h;obtain⟨c,hc,rfl⟩:=pN.1 h;exact V8 sw ok hl hs p at_ hne (Pm at_ p hc oe.1 bM)
 rw[gP p]at h
 clear p
 by_cases p:m.pc=7
 .rw[gS p]at h;cases h
  exact JX sw ok hl hs an (Pn at_ p)
 rw[gP p]at h
 clear p
 by_cases p:m.pc=8
 .rw[gS p]at h;obtain⟨e2,he2,rfl⟩:=pN.1 h;exact JX sw ok hl hs an (Po at_ p su.other.1 he2)
 rw[gP p]at h
 clear p
 by_cases p:m.pc=9
 .rw[gS p]at h;cases h
  exact Fw sw ok hl hs an (Pr at_ p okE.1 (by have:=okE.2.1.2;omega))
 rw[gP p]at h
 clear p
 by_cases p:m.pc=10
 .rw[gS p]at h;obtain⟨x,hx,rfl⟩:=pN.1 h;exact Fw sw ok hl hs an (OI at_ p su.slot.1 hx)
 rw[gP p]at h
 clear p
 by_cases p:m.pc=11
 .rw[gS p]at h;by_cases q:e.head=m.word
  .rw[gS q]at h;cases h
   exact Lt sw ok hl hs (.inl p) at_ hne (OJ at_ p tm.word tm.link.1 tm.link.2 q)
  .rw[gP q]at h;cases h
   exact Fw sw ok hl hs an (Oq at_ p tm.word tm.link.1 tm.link.2 okE.1 q)
 rw[gP p]at h
 clear p
 by_cases p:m.pc=12
 .rw[gS p]at h;cases h
  exact Lt sw ok hl hs (.inr p) at_ hne (OL at_ p)
 rw[gP p]at h
 clear p
 by_cases p:m.pc=20
 .rw[gS p]at h;obtain⟨r0,x,hr,hx,rfl⟩:=wM h;exact L8 sw ok hl hs (.inl p) su.zl.1 hr bN ah (NH p V su.zl.1 hr hx)
 rw[gP p]at h
 clear p
 by_cases p:m.pc=21
 .rw[gS p]at h;obtain⟨r0,x,hr,hx,rfl⟩:=wM h;exact L8 sw ok hl hs (.inr p) su.zl.1 hr bN ah (NI p su.zl.1 hr hx)
 rw[gP p]at h
 clear p
 by_cases p:m.pc=22
 .rw[gS p]at h;obtain⟨l0,x,hx,rfl⟩:=y8 h;exact V7 sw ok hl hs p l0 hx
 rw[gP p]at h
 clear p
 by_cases p:m.pc=23
 .rw[gS p]at h;cases h
  obtain⟨p0,hp0⟩:∃p0,w.pins[m.zl.toNat]?=some p0:=⟨_,gL (by have:=su.zl;omega)⟩;exact Q7 sw ok hl hs p (Ok sw ok hl hs p su.zl.1 hp0)
 rw[gP p]at h;cases h
def PH(su:jN w m v g e)(hs:zE w m=true)(t:fG N w)(tm:im m)(hN:N<=100000000)(h:kJ w m v g e=some r):yo 49 w m r:=by
 have gw:=qq.1 su.world;have sw:=mH gw t hN;have ok:=wV gw t hN;have hl:=tm.listen;have at_:=su.at_;have gv:=(gw.il _ v su.fR).1;have oe:=(t.ij v (gT su.fR)).2 g (gT su.fV);have okE:=oe.2 e (gT su.ig);have ln:=((gv.lZ.2 g (gT su.fV)).2.2 e (gT su.ig)).2
 have hne:e.next≠[]:=by
  intro h0;rw[h0]at ln;simp at ln
 have sl:=su.slot;unfold kJ at h;by_cases p:m.pc=0
 .rw[gS p]at h;cases h
  exact QK sw ok hl hs p at_ okE.1
 rw[gP p]at h
 clear p
 by_cases p:m.pc=1
 .rw[gS p]at h;cases h
  exact QL sw ok hl hs p at_ hne tm.word sl.1 an V V V
 rw[gP p]at h
 clear p
 by_cases p:m.pc=2
 .rw[gS p]at h;by_cases q:e.head=m.word
  .rw[gS q]at h;cases h
   exact QM sw ok hl hs p at_ hne tm.word an an q V V V
  .rw[gP q]at h;cases h
   exact PG sw ok hl hs p at_ okE.1 q
 rw[gP p]at h
 clear p
 by_cases p:m.pc=3
 .rw[gS p]at h;cases h
  exact QN sw ok hl hs p at_ hne V V V
 rw[gP p]at h
 clear p
 by_cases p:m.pc=4
 .rw[gS p]at h;obtain⟨l0,x,hx,rfl⟩:=y8 h;exact QO sw ok hl hs p at_ l0 hx
 rw[gP p]at h
 clear p
 by_cases p:m.pc=9
 .rw[gS p]at h;cases h
  exact QP sw ok hl hs p at_
 rw[gP p]at h;cases h
end
end Go.Wor
namespace Go.Wor
open Go.Ab Go.Proofs Tryz Go.Gat Go.Nam Go.Hos Go.Con Go.Sna
open Go.Hy hiding encI
def PE(s:Sna)(hs:yR s):th 71 [] [Cs s] (tV (qA s)) []:=by
 have m1:(s.zi.map jl).length=s.zi.length:=gO ..;refine ab func71 ?_;refine af (Ik s hs) ?_;refine⟨λh1=>?_,λh1=>?_⟩
 rotate_left
 .have e:qA s=(CY,1):=by unfold qA;rw[gP aE]
  rw[e];refine zac ?_
  exact⟨.inl V,_,zk.var 1 V V V (.cons (WC.nil 0 1) (.cons (WC.nil 0 4) (.cons (WC.nil 0 4) (.cons (WC.nil 0 2) (.cons (.refl _) .nil))))),rfl⟩
 have e:qA s=(⟨s,s.zi.map vK,false⟩,0):=by unfold qA;rw[gS h1]
 have hg:=yd h1;have hc4:=hg.zi.2;rw[e];refine zac ?_
 refine zH.seq s.zi.length (λk=>(.za::.ref 0 [] 3 0 0::.ref 1 [] 5 0 0::I 0::.ref 2 [] 5 0 0::I k::mK (jp (mK ([.za,.za,.za,.za]))))) (λk=>[⟨1,86,3,[qP s],0⟩,⟨1,106,5,[[.eM 1 0 [],.eM 1 0 [],.eM 1 0 [],.eM 1 0 [],Bo false]],0⟩,⟨1,106,5,[qP s++[.gl 3 2 (((s.zi.take k).map vK).map zy),Bo false]],0⟩,⟨4,111,2,((s.zi.take k).map vK).map zy,0⟩]) (λk=>True) ?_ trivial (λk hk hr=>?_) (λhr=>?_)
 .refine zk.trans (zk.qM 2 3 111 2 V V (.inl V) V V) ?_;exact cC
 .obtain⟨x,hx⟩:∃x,x=s.zi[k]:=⟨_,rfl⟩;have hgx:(s.zi.map jl)[k]?=some (jl x):=by rw[gM,gL hk,hx];rfl
  have hgood:=hg.all x uY;have h4:=hgood.zL.2;have hlg:(((s.zi.take k).map vK).map zy).length=k:=ar
  have eg:((s.zi.take (k+1)).map vK).map zy=((s.zi.take k).map vK).map zy++[zy (vK x)]:=bC
  have m2:(x.zL.map yt).length=x.zL.length:=gO ..;conv=>whnf
  rw[m1];refine uF ?_;refine zH.seq x.zL.length (λj=>(.za::.ref 0 [] 3 0 0::.ref 1 [] 5 0 0::I 0::.ref 2 [] 5 0 0::I k::.ref 4 [] 2 0 0::I j::mK (jp (mK ([.za,.za]))))) (λj=>[⟨1,86,3,[qP s],0⟩,⟨1,106,5,[[.eM 1 0 [],.eM 1 0 [],.eM 1 0 [],.eM 1 0 [],Bo false]],0⟩,⟨1,106,5,[qP s++[.gl 3 2 (((s.zi.take k).map vK).map zy),Bo false]],0⟩,⟨4,111,2,((s.zi.take k).map vK).map zy,0⟩,⟨1,111,2,[[U 0,.gl 5 3 ((List.replicate j (jU x)).map zu)]],0⟩,⟨4,151,3,((List.replicate j (jU x)).map zu),0⟩]) (λk=>True) ?_ trivial (λj hj _=>?_) (λ_=>?_)
  .refine zk.trans (zk.qM 4 1 151 3 V V (.inl V) V V) ?_;exact cC
  .have lE:(((List.replicate j (jU x)).map zu)).length=j:=by simp
   have eE:((List.replicate (j+1) (jU x)).map zu)=((List.replicate j (jU x)).map zu)++[zu (jU x)]:=by rw[s9,pZ];rfl
   have hf:=Go.Slp.PK x.xY;rw[K5 hgood]at hf;conv=>whnf
   (refine te hgx ?_)
   rw[m2];refine uF ?_;(refine te hgx ?_)
   refine af hf ?_;refine⟨rfl,.inr V,cb,by rw[lE];show(j+1)*40<=_;omega,dd ?_⟩;refine zai ?_;rw[zm an,eE];exact cE 6
  .conv=>whnf
   (refine te hgx ?_)
   rw[m2];refine zaf ?_;refine⟨rfl,.inr V,bD,by rw[hlg];show(k+1)*32<=_;omega,dd ?_⟩;exact gE
 .conv=>whnf
  rw[m1];refine zaf ?_;exact dZ
def Lc(w:Wor)(m:eQ)(hl:w.zn.length<4000000000000000000)(h:yD w m=false):th 99 [] [Cw w,Cm m] (Bo false) []:=by
 have m4:(w.zn.map qh).length=w.zn.length:=gO ..;unfold yD at h;simp only[rk,pM,pI,beq_eq_false_iff_ne]at h;obtain⟨⟨⟨h1,h2⟩,h3⟩,h4⟩:=h;refine ab func99 ?_;refine zH.seq w.zn.length (λk=>(.za::.za::.ref 0 [] 8 0 0::.ref 1 [] 44 0 0::Bo false::I k::mK (mK (mK (mK ([.za])))))) (λk=>[oW w,oM m]) (λk=>True) ?_ trivial (λk hk _=>?_) (λ_=>?_)
 .exact cC
 .obtain⟨x,hx⟩:∃x,x=w.zn[k]:=⟨_,rfl⟩;have hg:(w.zn.map qh)[k]?=some (qh x):=by rw[gM,gL hk,hx];rfl
  have hv:x.version≠m.version:=by have:=h1 x uY;simpa using this
  conv=>whnf
  rw[m4];refine zaZ ?_
  refine⟨λq=>absurd (eq_of_beq q) hv,λ_=>dd ?_⟩;exact dU
 .conv=>whnf
  rw[m4];refine zaf ?_;refine⟨λq=>absurd (eq_of_beq q) h2,λ_=>dd ?_⟩;refine⟨λq=>absurd (gQ q) h3,λ_=>dd ?_⟩;refine zbu ?_;refine td ?_
  exact uI
def Pp(w:Wor)(m:eQ)(f:Int)(sw:z6 w)(hc:jv m.op.config)(hf:(qI m.op.config).2.1=f)(h0:f≠0):
  th 100 [] [Cw w,Cm m] (.eR [Cw w,Cm {m with done:=true,answer:=nC f},Ce {fc m 1 3 w.current with jj:=true,done:=true,answer:=nC f}]) []:=by
 have hb:=IB m.op.config hc;generalize qI m.op.config=bv at hb hf;obtain⟨sn,e1,e2⟩:=bv;dsimp only at hf;subst hf;refine ab func100 ?_;refine af (qw w sw) ?_;refine af hb ?_;refine⟨λ_=>dd ?_,λh=>absurd uW h0⟩;refine af (zT m 1 3 w.current) ?_;refine af (xJ m {fc m 1 3 w.current with jj:=true} (nC e1)) ?_;refine .inl ⟨⟨false,[0,1,2],[5,8,9],[]⟩,ak,uH ?_⟩;refine tc ?_
 exact uI
def Vn{α:Type}{enc:α->List C}{ρ:Nat->Nat}(hf:∀x,(enc x).map (yG ρ 9)=enc x)(l:List α)(ty sz fz:Nat):zM ρ ⟨1,ty,sz,l.map enc,fz⟩=⟨1,ty,sz,l.map enc,fz⟩:=by
 show(⟨1,ty,sz,(l.map enc).map (λr=>r.map (yG ρ 9)),fz⟩:Ob)=_;rw[sd]
 congr 1
 exact r9 λx _=>hf x
def Sh(w:Wor)(m:eQ)(sw:z6 w)(hc:jv m.op.config)(he:mI m.op.config=0):
  th 100 [] [Cw w,Cm m] (.eR [Cw {w with current:=w.zd.length,zd:=w.zd++[mJ m.op.config]},Cm (Bd m w.current w.zd.length),Ce {fc m 6 3 w.zd.length with jj:=true}]) []:=by
 have hb:=IB m.op.config hc;have hl:=PE _ (ko hc);have h1:(qI m.op.config).2.1=0:=by rw[Cd,<-kp,he]
 have m1:(w.zd.map zt).length=w.zd.length:=gO ..;have own:∀r∈w.zd.map zt,∀c∈r,zG c=true:=λr hr c hc=>(shut_map (enc:=zt) (λ_=>V) _ r hr c hc).2
 have b1:=sw.zd.1;have ev:mJ m.op.config=(qA (qI m.op.config).1).1:=rfl;rw[ev]
 have esh:∀x:eX,∀r∈w.zd.map zt++[zt x],∀c∈r,jM c=true/\zG c=true:=λx=>by
  rw[show w.zd.map zt++[zt x]=(w.zd++[x]).map zt from ah];exact shut_map (enc:=zt) (λ_=>V) _
 generalize qI m.op.config=bv at hb hl h1|-;obtain⟨sn,e1,e2⟩:=bv;dsimp only at h1 hl|-;subst h1;generalize qA sn=cv at hl|-;obtain⟨v,e3⟩:=cv;refine ab func100 ?_;refine zW [] [oW w,oM m,⟨1,38,8,[fX],0⟩,⟨1,64,44,[fW],0⟩,oE zY,⟨1,106,5,w.zd.map zt,0⟩] (rx:=.agg (fL w 5)) (NY w sw) (ze (zf own) V) V V V V V (by show _::_::_::_::_::zM _ ⟨1,106,5,_,0⟩::_=_;rw[Vn (enc:=zt) (λ_=>V)];rfl) V (dd ?_);refine af hb ?_;(refine yb (dd ?_))
 refine af hl ?_;(refine(e6.je _ V _ _ ⟨rfl,rfl,⟨_,rfl,underlying33⟩,rfl,rfl,rfl⟩ (id:=5) (n:=w.zd.length) V V (.inl V) V m1 own (.inl V) (zB V) (rJ _ _) (by show w.zd.length+1<=maxLen;simp only[maxLen];omega) (by show(w.zd.length+1)*104<=_;omega)).fM (uH ?_))
 rw[m1];refine af (zT (Bd m w.current w.zd.length) 6 3 w.zd.length) ?_;refine .inl ⟨⟨false,[0,1,2],[6,1,10],[]⟩,ak,uH ?_⟩;refine tc ?_
 refine⟨.inl V,_,zk.zN 2 0 4 V V V V (.inl V) ah ah (esh v) (zB V),?_⟩;show some (C.eR [C.agg [I w.zr,I w.zd.length,I w.lock,lI w.pins,.eM 0 5 (w.zd.map zt++[zt v]),lL w.zc,ff w.counts,lR w.zn],_,_])=_;rw[show w.zd.map zt++[zt v]=(w.zd++[v]).map zt from ah]
 rfl
section
variable {w w':Wor} {m m':eQ} {e:e7}
def L9(sw:z6 w)(ok:fa w)(hl:i64 m.listen)(hs:zE w m=true)(hpc:m.pc=0)(h:th 100 [] [Cw w,Cm m] (.eR [Cw w',Cm m',Ce e]) []):
  th 50 [] [Cw w,Cm m] (.eR [Cw w',Cm m',Ce e]) []:=by
 refine ab func50 ?_;refine zan ?_;((repeat (first|(refine⟨λ_=>?_,?_⟩;rotate_left 1;(focus (intro h;first|(exact absurd h aj)|(have h:=gQ h;omega)|(have h:=gR h;omega)|(have h:=eq_of_beq h;omega)|(exact absurd (pU.2 hpc) uT)));(refine dd ?_))|(refine⟨?_,λ_=>?_⟩;(focus (intro h;first|(exact absurd h aj)|(have h:=gQ h;omega)|(have h:=gR h;omega)|(have h:=eq_of_beq h;omega)|(exact absurd (pU.2 hpc) uT)));(refine dd ?_)))))
 refine af h ?_;refine zat ?_
 exact uI
def WL(sw:z6 w)(ok:fa w)(hl:i64 m.listen)(hs:zE w m=true)(hpc:m.pc=1):
  th 50 [] [Cw w,Cm m] (.eR [Cw w,Cm {m with zr:=w.zr,pc:=2},Ce (fc m 1 1 w.zr)]) []:=by
 refine ab func50 ?_;refine zan ?_;((repeat (first|(refine⟨λ_=>?_,?_⟩;rotate_left 1;(focus (intro h;first|(exact absurd h aj)|(have h:=gQ h;omega)|(have h:=gR h;omega)|(have h:=eq_of_beq h;omega)|(exact absurd (pU.2 hpc) uT)));(refine dd ?_))|(refine⟨?_,λ_=>?_⟩;(focus (intro h;first|(exact absurd h aj)|(have h:=gQ h;omega)|(have h:=gR h;omega)|(have h:=eq_of_beq h;omega)|(exact absurd (pU.2 hpc) uT)));(refine dd ?_)))))
 refine af (qw w sw) ?_;(repeat (first|(refine⟨λ_=>?_,?_⟩;rotate_left 1;(focus (intro h;first|(exact absurd h aj)|(have h:=gQ h;omega)|(have h:=gR h;omega)|(have h:=eq_of_beq h;omega)|(exact absurd (pU.2 hpc) uT)));(refine dd ?_))|(refine⟨?_,λ_=>?_⟩;(focus (intro h;first|(exact absurd h aj)|(have h:=gQ h;omega)|(have h:=gR h;omega)|(have h:=eq_of_beq h;omega)|(exact absurd (pU.2 hpc) uT)));(refine dd ?_))))
 refine .inl ⟨⟨true,[0,1,2,4],[0,1,5],[5]⟩,ak,uH ?_⟩;refine af (zT {m with zr:=w.zr,pc:=2} 1 1 w.zr) ?_;refine tc ?_
 exact uI
def WM(sw:z6 w)(ok:fa w)(hl:i64 m.listen)(hs:zE w m=true)(hpc:m.pc=2)(hv:yD w m=false){x:fg}{l:List fg}(hq:w.zn=x::l):
  th 50 [] [Cw w,Cm m] (.eR [Cw {w with zn:=w.zn++[⟨m.version,m.zr,false⟩]},Cm {m with done:=true,answer:=np m},Ce {fc m 2 11 m.version with done:=true,answer:=np m}]) []:=by
 have b1:=sw.zn;have m1:(w.zn.map qh).length=w.zn.length:=gO ..;have hap:(Ob.mk 2 157 3 (w.zn.map qh) 0).rows++[[I m.version,I m.zr,Bo false]]=(w.zn++[(⟨m.version,m.zr,false⟩:fg)]).map qh:=aI
 refine ab func50 ?_;refine zan ?_;((repeat (first|(refine⟨λ_=>?_,?_⟩;rotate_left 1;(focus (intro h;first|(exact absurd h aj)|(have h:=gQ h;omega)|(have h:=gR h;omega)|(have h:=eq_of_beq h;omega)|(exact absurd (pU.2 hpc) uT)));(refine dd ?_))|(refine⟨?_,λ_=>?_⟩;(focus (intro h;first|(exact absurd h aj)|(have h:=gQ h;omega)|(have h:=gR h;omega)|(have h:=eq_of_beq h;omega)|(exact absurd (pU.2 hpc) uT)));(refine dd ?_)))))
 refine af (Lc w m an hv) ?_;(repeat (first|(refine⟨λ_=>?_,?_⟩;rotate_left 1;(focus (intro h;first|(exact absurd h aj)|(have h:=gQ h;omega)|(have h:=gR h;omega)|(have h:=eq_of_beq h;omega)|(exact absurd (pU.2 hpc) uT)));(refine dd ?_))|(refine⟨?_,λ_=>?_⟩;(focus (intro h;first|(exact absurd h aj)|(have h:=gQ h;omega)|(have h:=gR h;omega)|(have h:=eq_of_beq h;omega)|(exact absurd (pU.2 hpc) uT)));(refine dd ?_))))
 refine td ?_
 (repeat (first|(refine⟨λ_=>?_,?_⟩;rotate_left 1;(focus (intro h;first|(exact absurd h aj)|(have h:=gQ h;omega)|(have h:=gR h;omega)|(have h:=eq_of_beq h;omega)|(exact absurd (pU.2 hpc) uT)));(refine dd ?_))|(refine⟨?_,λ_=>?_⟩;(focus (intro h;first|(exact absurd h aj)|(have h:=gQ h;omega)|(have h:=gR h;omega)|(have h:=eq_of_beq h;omega)|(exact absurd (pU.2 hpc) uT)));(refine dd ?_))))
 refine ae [] (N1 w sw x l hq) ?_;(repeat (first|(refine⟨λ_=>?_,?_⟩;rotate_left 1;(focus (intro h;first|(exact absurd h aj)|(have h:=gQ h;omega)|(have h:=gR h;omega)|(have h:=eq_of_beq h;omega)|(exact absurd (pU.2 hpc) uT)));(refine dd ?_))|(refine⟨?_,λ_=>?_⟩;(focus (intro h;first|(exact absurd h aj)|(have h:=gQ h;omega)|(have h:=gR h;omega)|(have h:=eq_of_beq h;omega)|(exact absurd (pU.2 hpc) uT)));(refine dd ?_))))
 refine⟨ah,Mi _,aq,bG,dd ?_⟩;rw[hap];refine zbZ ?_;(repeat' (first|(refine And.intro V (uH ?_))|(refine And.intro (uH ?_) trivial)|(refine And.intro ?_ ?_ <;> (conv=>whnf))))
 all_goals
  refine zaC ?_
  refine .inl ⟨⟨false,[0,1,2],[6,8,9],[]⟩,ak,uH ?_⟩;refine tc ?_
  exact⟨.inl V,_,zk.zN 2 0 7 V V V V (.inr V) ah ah (shut_map (enc:=qh) (λ_=>V) _) (zB V),rfl⟩
def V9(sw:z6 w)(ok:fa w)(hl:i64 m.listen)(hs:zE w m=true)(hpc:m.pc=2)(hv:yD w m=false)(hq:w.zn=[]):
  th 50 [] [Cw w,Cm m] (.eR [Cw {w with zn:=w.zn++[⟨m.version,m.zr,false⟩]},Cm {m with done:=true,answer:=np m},Ce {fc m 2 11 m.version with done:=true,answer:=np m}]) []:=by
 have b1:=sw.zn;refine ab func50 ?_;refine zan ?_;((repeat (first|(refine⟨λ_=>?_,?_⟩;rotate_left 1;(focus (intro h;first|(exact absurd h aj)|(have h:=gQ h;omega)|(have h:=gR h;omega)|(have h:=eq_of_beq h;omega)|(exact absurd (pU.2 hpc) uT)));(refine dd ?_))|(refine⟨?_,λ_=>?_⟩;(focus (intro h;first|(exact absurd h aj)|(have h:=gQ h;omega)|(have h:=gR h;omega)|(have h:=eq_of_beq h;omega)|(exact absurd (pU.2 hpc) uT)));(refine dd ?_)))))
 refine af (Lc w m an hv) ?_;(repeat (first|(refine⟨λ_=>?_,?_⟩;rotate_left 1;(focus (intro h;first|(exact absurd h aj)|(have h:=gQ h;omega)|(have h:=gR h;omega)|(have h:=eq_of_beq h;omega)|(exact absurd (pU.2 hpc) uT)));(refine dd ?_))|(refine⟨?_,λ_=>?_⟩;(focus (intro h;first|(exact absurd h aj)|(have h:=gQ h;omega)|(have h:=gR h;omega)|(have h:=eq_of_beq h;omega)|(exact absurd (pU.2 hpc) uT)));(refine dd ?_))))
 refine td ?_
 (repeat (first|(refine⟨λ_=>?_,?_⟩;rotate_left 1;(focus (intro h;first|(exact absurd h aj)|(have h:=gQ h;omega)|(have h:=gR h;omega)|(have h:=eq_of_beq h;omega)|(exact absurd (pU.2 hpc) uT)));(refine dd ?_))|(refine⟨?_,λ_=>?_⟩;(focus (intro h;first|(exact absurd h aj)|(have h:=gQ h;omega)|(have h:=gR h;omega)|(have h:=eq_of_beq h;omega)|(exact absurd (pU.2 hpc) uT)));(refine dd ?_))))
 refine af (NG w sw hq) ?_;(repeat (first|(refine⟨λ_=>?_,?_⟩;rotate_left 1;(focus (intro h;first|(exact absurd h aj)|(have h:=gQ h;omega)|(have h:=gR h;omega)|(have h:=eq_of_beq h;omega)|(exact absurd (pU.2 hpc) uT)));(refine dd ?_))|(refine⟨?_,λ_=>?_⟩;(focus (intro h;first|(exact absurd h aj)|(have h:=gQ h;omega)|(have h:=gR h;omega)|(have h:=eq_of_beq h;omega)|(exact absurd (pU.2 hpc) uT)));(refine dd ?_))))
 refine .inr ⟨.inl V,aj,aj,dd ?_⟩;refine zbZ ?_;(repeat' (first|(refine And.intro V (uH ?_))|(refine And.intro (uH ?_) trivial)|(refine And.intro ?_ ?_ <;> (conv=>whnf))))
 all_goals
  refine zaC ?_
  refine .inl ⟨⟨false,[0,1,2],[5,7,8],[]⟩,ak,uH ?_⟩;refine tc ?_
  rw[hq];exact⟨.inl V,_,zk.zN 2 0 7 V V V V (.inr V) ah ah (shut_map (enc:=qh) (λ_=>V) [(⟨m.version,m.zr,false⟩:fg)]) (zB V),rfl⟩
end
section
variable {w:Wor} {m:eQ}
def XZ(sw:z6 w)(ok:fa w)(hl:i64 m.listen)(hpc:m.pc=0)(hs:zE w m=true)(hi:z7 w.zc m.op.listen<0):
  th 51 [] [Cw w,Cm m] (.eR [Cw w,Cm {m with done:=true,answer:=wG 7},Ce {Dh m with done:=true,answer:=wG 7}]) []:=by
 have bl:=ok.zc.1;refine ab func51 ?_;refine zan ?_;((repeat (first|(refine⟨λ_=>?_,?_⟩;rotate_left 1;(focus (intro h;first|(exact absurd h aj)|(have h:=gQ h;omega)|(have h:=gR h;omega)|(have h:=eq_of_beq h;omega)|(exact absurd hpc uW)));(refine dd ?_))|(refine⟨?_,λ_=>?_⟩;(focus (intro h;first|(exact absurd h aj)|(have h:=gQ h;omega)|(have h:=gR h;omega)|(have h:=eq_of_beq h;omega)|(exact absurd hpc uW)));(refine dd ?_)))))
 refine af (qw w sw) ?_;refine af (kL w.zc m.op.listen an) ?_;(repeat (first|(refine⟨λ_=>?_,?_⟩;rotate_left 1;(focus (intro h;first|(exact absurd h aj)|(have h:=gQ h;omega)|(have h:=gR h;omega)|(have h:=eq_of_beq h;omega)|(exact absurd hpc uW)));(refine dd ?_))|(refine⟨?_,λ_=>?_⟩;(focus (intro h;first|(exact absurd h aj)|(have h:=gQ h;omega)|(have h:=gR h;omega)|(have h:=eq_of_beq h;omega)|(exact absurd hpc uW)));(refine dd ?_))))
 refine .inr ⟨⟨[0,1,2,4],[1],true⟩,ak,λ_=>V,_,uH ?_,λt2 H2 h=>h⟩;refine⟨_,ag [] (zT m 1 0 0),uH ?_⟩;refine⟨_,ag [] (xJ m (fc m 1 0 0) (wG 7)),uH (uH ?_)⟩;(repeat' (first|(refine And.intro V (uH ?_))|(refine And.intro (uH ?_) trivial)|(refine And.intro ?_ ?_ <;> (conv=>whnf))))
 all_goals
  refine zaC ?_
  refine zat ?_
  exact uI
def XJ(sw:z6 w)(ok:fa w)(hl:i64 m.listen)(hpc:m.pc=0)(hs:zE w m=true)(hi:0<=z7 w.zc m.op.listen){x:fj}(hx:w.zc[(z7 w.zc m.op.listen).toNat]?=some x):
  th 51 [] [Cw w,Cm m] (.eR [Cw {w with zc:=w.zc.set (z7 w.zc m.op.listen).toNat (Go.Gat.wj x)},Cm {m with listen:=z7 w.zc m.op.listen,done:=true,answer:=C6 (z7 w.zc m.op.listen)},Ce {Ex m with done:=true,answer:=C6 (z7 w.zc m.op.listen)}]) []:=by
 have bl:=ok.zc.1;have hpl:=kL w.zc m.op.listen an;generalize hp:z7 w.zc m.op.listen=p at hi hx hpl;have lt:p.toNat<w.zc.length:=(gN.1 hx).1;have gl:(w.zc.map zU)[p.toNat]?=some (zU x):=by rw[gM,hx];rfl
 have hst:(w.zc.map zU).set p.toNat [Tx x.name,Bo true,I x.zo,Bo x.closed]=(w.zc.set p.toNat (Go.Gat.wj x)).map zU:=bE
 have e1:0+p.toNat=p.toNat:=gZ _
 obtain⟨y,l,hy⟩:∃y l,w.zc=y::l:=by
  cases h:w.zc with
  |nil=>rw[h]at lt;simp at lt
  |cons y l=>exact⟨y,l,rfl⟩
 refine ab func51 ?_;refine zan ?_;((repeat (first|(refine⟨λ_=>?_,?_⟩;rotate_left 1;(focus (intro h;first|(exact absurd h aj)|(have h:=gQ h;omega)|(have h:=gR h;omega)|(have h:=eq_of_beq h;omega)|(exact absurd hpc uW)));(refine dd ?_))|(refine⟨?_,λ_=>?_⟩;(focus (intro h;first|(exact absurd h aj)|(have h:=gQ h;omega)|(have h:=gR h;omega)|(have h:=eq_of_beq h;omega)|(exact absurd hpc uW)));(refine dd ?_)))))
 refine ae [] (yL w sw y l hy) ?_;refine af hpl ?_;(repeat (first|(refine⟨λ_=>?_,?_⟩;rotate_left 1;(focus (intro h;first|(exact absurd h aj)|(have h:=gQ h;omega)|(have h:=gR h;omega)|(have h:=eq_of_beq h;omega)|(exact absurd hpc uW)));(refine dd ?_))|(refine⟨?_,λ_=>?_⟩;(focus (intro h;first|(exact absurd h aj)|(have h:=gQ h;omega)|(have h:=gR h;omega)|(have h:=eq_of_beq h;omega)|(exact absurd hpc uW)));(refine dd ?_))))
 refine⟨hi,lt,dd ?_⟩;rw[e1];refine⟨_,gl,rfl,dd ?_⟩;rw[hst];refine .inr ⟨⟨[0,1,2,5],[1],true⟩,ak,λ_=>V,_,uH ?_,λt2 H2 h=>h⟩;refine⟨_,ag [] (zT {m with listen:=p} 2 4 1),uH ?_⟩;refine⟨_,ag [] (xJ {m with listen:=p} (fc {m with listen:=p} 2 4 1) (C6 p)),uH (uH ?_)⟩;(repeat' (first|(refine And.intro V (uH ?_))|(refine And.intro (uH ?_) trivial)|(refine And.intro ?_ ?_ <;> (conv=>whnf))))
 all_goals
  refine zaC ?_
  refine zbx ?_
  exact gi
def Xg(sw:z6 w)(ok:fa w)(hl:i64 m.listen)(hpc:m.pc=0)(hs:zE w m=true)(hd:m.done=false){r:List Int}{n:Int}(hc:HE w m r n)(ha:m.answer=kk):
  th 53 [] [Cw w,Cm m] (.eR [Cw w,Cm (vr w m n),Ce (AP w m n)]) []:=by
 have i0:=hc.i0;have k0:=hc.k0;have k6:=hc.k6;have hi:m.i.toNat<w.counts.length:=(gN.1 hc.at_).1;have b1:=sw.counts.1;have ml:(w.counts.map zA).length=w.counts.length:=gO ..;have cr:(w.counts.map zA)[m.i.toNat]?=some (zA r):=by rw[gM,hc.at_];rfl
 have cn:(r.map qB)[m.k.toNat]?=some (qB n):=by rw[gM,hc.row];rfl
 by_cases h5:m.k=5
 .have hk:=h5;have g6:m.k+1=6:=by omega
  have ew:IntKind.i64.wrap (m.i+1)=m.i+1:=jB an an;rw[hk]at cn;by_cases g7:m.i+1=w.counts.length
  .rw[Ky (by rw[BC g6 g7]),BC g6 g7];refine ab func53 ?_;refine zan ?_;((repeat (first|(refine⟨λ_=>?_,?_⟩;rotate_left 1;(focus (intro h;first|(exact absurd h aj)|(have h:=gQ h;omega)|(have h:=gR h;omega)|(have h:=eq_of_beq h;omega)|(exact absurd hpc uW)));(refine dd ?_))|(refine⟨?_,λ_=>?_⟩;(focus (intro h;first|(exact absurd h aj)|(have h:=gQ h;omega)|(have h:=gR h;omega)|(have h:=eq_of_beq h;omega)|(exact absurd hpc uW)));(refine dd ?_)))));(rw[ml]);((repeat (first|(refine⟨λ_=>?_,?_⟩;rotate_left 1;(focus (intro h;first|(exact absurd h aj)|(have h:=gQ h;omega)|(have h:=gR h;omega)|(have h:=eq_of_beq h;omega)|(exact absurd hpc uW)));(refine dd ?_))|(refine⟨?_,λ_=>?_⟩;(focus (intro h;first|(exact absurd h aj)|(have h:=gQ h;omega)|(have h:=gR h;omega)|(have h:=eq_of_beq h;omega)|(exact absurd hpc uW)));(refine dd ?_)))));refine zba ?_;(refine dd ?_);(refine⟨aj,aj,?_⟩);(refine dd ?_);(refine td ?_)
   rw[ew,ml];(repeat (first|(refine⟨λ_=>?_,?_⟩;rotate_left 1;(focus (intro h;first|(exact absurd h aj)|(have h:=gQ h;omega)|(have h:=gR h;omega)|(have h:=eq_of_beq h;omega)|(exact absurd hpc uW)));(refine dd ?_))|(refine⟨?_,λ_=>?_⟩;(focus (intro h;first|(exact absurd h aj)|(have h:=gQ h;omega)|(have h:=gR h;omega)|(have h:=eq_of_beq h;omega)|(exact absurd hpc uW)));(refine dd ?_))))
   refine af (xJ {m with counts:=Aq m.counts 5 n,k:=0,i:=m.i+1} (fc m 1 10 5) ⟨13,0,0,0,0,0,0,Aq m.counts 5 n⟩) ?_;refine .inl ⟨⟨false,[0,1,2],[5,7,8],[]⟩,ak,uH ?_⟩;refine tc ?_
   refine⟨.inl V,_,.refl _,?_⟩;unfold Md CO;rw[hk]
   rfl
  .rw[DM (by rw[BB g6 g7];exact hd),BB g6 g7];refine ab func53 ?_;refine zan ?_;((repeat (first|(refine⟨λ_=>?_,?_⟩;rotate_left 1;(focus (intro h;first|(exact absurd h aj)|(have h:=gQ h;omega)|(have h:=gR h;omega)|(have h:=eq_of_beq h;omega)|(exact absurd hpc uW)));(refine dd ?_))|(refine⟨?_,λ_=>?_⟩;(focus (intro h;first|(exact absurd h aj)|(have h:=gQ h;omega)|(have h:=gR h;omega)|(have h:=eq_of_beq h;omega)|(exact absurd hpc uW)));(refine dd ?_)))));(rw[ml]);((repeat (first|(refine⟨λ_=>?_,?_⟩;rotate_left 1;(focus (intro h;first|(exact absurd h aj)|(have h:=gQ h;omega)|(have h:=gR h;omega)|(have h:=eq_of_beq h;omega)|(exact absurd hpc uW)));(refine dd ?_))|(refine⟨?_,λ_=>?_⟩;(focus (intro h;first|(exact absurd h aj)|(have h:=gQ h;omega)|(have h:=gR h;omega)|(have h:=eq_of_beq h;omega)|(exact absurd hpc uW)));(refine dd ?_)))));refine zba ?_;(refine dd ?_);(refine⟨aj,aj,?_⟩);(refine dd ?_);(refine td ?_)
   rw[ew,ml];(repeat (first|(refine⟨λ_=>?_,?_⟩;rotate_left 1;(focus (intro h;first|(exact absurd h aj)|(have h:=gQ h;omega)|(have h:=gR h;omega)|(have h:=eq_of_beq h;omega)|(exact absurd hpc uW)));(refine dd ?_))|(refine⟨?_,λ_=>?_⟩;(focus (intro h;first|(exact absurd h aj)|(have h:=gQ h;omega)|(have h:=gR h;omega)|(have h:=eq_of_beq h;omega)|(exact absurd hpc uW)));(refine dd ?_))))
   refine zbj ?_
   refine⟨.inl V,_,.refl _,?_⟩;unfold Mc CO;rw[hk]
   rfl
 have g6:m.k+1≠6:=an
 have g7:m.i≠w.counts.length:=an
 rw[DM (by rw[BA g6 g7];exact hd),BA g6 g7];obtain hk|hk|hk|hk|hk:m.k=0\/m.k=1\/m.k=2\/m.k=3\/m.k=4:=an
 all_goals
  rw[hk]at cn;refine ab func53 ?_;refine zan ?_;((repeat (first|(refine⟨λ_=>?_,?_⟩;rotate_left 1;(focus (intro h;first|(exact absurd h aj)|(have h:=gQ h;omega)|(have h:=gR h;omega)|(have h:=eq_of_beq h;omega)|(exact absurd hpc uW)));(refine dd ?_))|(refine⟨?_,λ_=>?_⟩;(focus (intro h;first|(exact absurd h aj)|(have h:=gQ h;omega)|(have h:=gR h;omega)|(have h:=eq_of_beq h;omega)|(exact absurd hpc uW)));(refine dd ?_)))));(rw[ml]);((repeat (first|(refine⟨λ_=>?_,?_⟩;rotate_left 1;(focus (intro h;first|(exact absurd h aj)|(have h:=gQ h;omega)|(have h:=gR h;omega)|(have h:=eq_of_beq h;omega)|(exact absurd hpc uW)));(refine dd ?_))|(refine⟨?_,λ_=>?_⟩;(focus (intro h;first|(exact absurd h aj)|(have h:=gQ h;omega)|(have h:=gR h;omega)|(have h:=eq_of_beq h;omega)|(exact absurd hpc uW)));(refine dd ?_)))));refine zba ?_;(refine dd ?_);(refine⟨aj,aj,?_⟩);(refine dd ?_);(refine td ?_)
  rw[ml];(repeat (first|(refine⟨λ_=>?_,?_⟩;rotate_left 1;(focus (intro h;first|(exact absurd h aj)|(have h:=gQ h;omega)|(have h:=gR h;omega)|(have h:=eq_of_beq h;omega)|(exact absurd hpc uW)));(refine dd ?_))|(refine⟨?_,λ_=>?_⟩;(focus (intro h;first|(exact absurd h aj)|(have h:=gQ h;omega)|(have h:=gR h;omega)|(have h:=eq_of_beq h;omega)|(exact absurd hpc uW)));(refine dd ?_))))
  refine zbj ?_
  refine⟨.inl V,_,.refl _,?_⟩;unfold Mb CO;rw[hk]
  rfl
end
end Go.Wor
namespace Go.Wor
open Go.Ab Go.Proofs Tryz Go.Gat Go.Nam Go.Hos Go.Con Go.Sna Go.Pla
open Go.Hy hiding encI
section
variable {N:Nat} {w:Wor} {m:eQ} {v:eX} {g:Gr} {e:En} {r:Wor×eQ×e7}
def Si(su:jN w m v g e)(hs:zE w m=true)(t:fG N w)(tm:im m)(hN:N<=100000000)(hc:jv m.op.config)(h:oR w m=some r):yo 50 w m r:=by
 have gw:=qq.1 su.world;have sw:=mH gw t hN;have ok:=wV gw t hN;have hl:=tm.listen;unfold oR at h;by_cases p:m.pc=0
 .rw[gS p]at h;by_cases q:mI m.op.config=0
  .rw[gS q]at h;cases h
   exact L9 sw ok hl hs p (Sh w m sw hc q)
  .rw[gP q]at h;cases h
   exact L9 sw ok hl hs p (Pp w m _ sw hc (by rw[Cd,kp]) q)
 rw[gP p]at h
 clear p
 by_cases p:m.pc=1
 .rw[gS p]at h;cases h
  exact WL sw ok hl hs p
 rw[gP p]at h
 clear p
 by_cases p:m.pc=2
 .rw[gS p]at h;cases q:yD w m
  .rw[q]at h;cases h
   cases hx:w.zn with
   |nil=>have:=V9 sw ok hl hs p q hx;rwa [hx]at this
   |cons x l=>have:=WM sw ok hl hs p q hx;rwa [hx]at this
  .rw[q]at h;cases h
 rw[gP p]at h;cases h
def PV(su:jN w m v g e)(hs:zE w m=true)(t:fG N w)(tm:im m)(hN:N<=100000000)(h:Ag w m=some r):yo 51 w m r:=by
 have gw:=qq.1 su.world;have sw:=mH gw t hN;have ok:=wV gw t hN;have hl:=tm.listen;unfold Ag at h;by_cases p:m.pc=0
 .rw[gS p]at h;by_cases q:z7 w.zc m.op.listen<0
  .rw[gS q]at h;cases h
   exact XZ sw ok hl p hs q
  .rw[gP q]at h;obtain⟨x,hx,rfl⟩:=pN.1 h;exact XJ sw ok hl p hs an hx
 rw[gP p]at h;cases h
def Q8(su:jN w m v g e)(hs:zE w m=true)(t:fG N w)(tm:im m)(hN:N<=100000000)(hk:m.op.kind=6)(h:oI w m=some r):yo 53 w m r:=by
 have gw:=qq.1 su.world;have sw:=mH gw t hN;have ok:=wV gw t hN;unfold oI at h;split at h
 rotate_left
 .cases h
 rename_i p;obtain⟨rw_,h1,h2⟩:=rD.1 h;obtain⟨n,h3,rfl⟩:=pN.1 h2;exact Xg sw ok tm.listen p.1 hs su.done ⟨su.i,h1,su.k,p.2,h3⟩ (tm.o7 hk su.done)
end
section
variable {w:Wor} {m:eQ} {r:Wor×eQ×e7}
def Lr(hk:m.op.kind=1)(h:yo 48 w m r):oa w m r:=by
 refine ab func23 ?_;refine zbq ?_
 refine zat ?_
 exact uI
def Gm(hk:m.op.kind=2)(h:yo 49 w m r):oa w m r:=by
 refine ab func23 ?_;refine zaM ?_
 refine zbq ?_
 refine zat ?_
 exact uI
def Gn(hk:m.op.kind=3)(h:yo 50 w m r):oa w m r:=by
 refine ab func23 ?_;refine zaM ?_
 refine zaM ?_
 refine zbq ?_
 refine zat ?_
 exact uI
def Ls(hk:m.op.kind=4)(h:yo 51 w m r):oa w m r:=by
 refine ab func23 ?_;refine zaM ?_
 refine zaM ?_
 refine zaM ?_
 refine zbq ?_
 refine zat ?_
 exact uI
def Gq(hk:m.op.kind=6)(h:yo 53 w m r):oa w m r:=by
 refine ab func23 ?_;refine zaM ?_
 refine zaM ?_
 refine zaM ?_
 refine zaM ?_
 refine zaM ?_
 refine zbq ?_
 refine zat ?_
 exact uI
end
def UP{N:Nat}{w:Wor}{m:eQ}{r:Wor×eQ×e7}(hs:zE w m=true)(t:fG N w)(tm:im m)(hN:N<=100000000)(p0:0<=m.pc)(hc:m.op.kind=3->jv m.op.config)(ca:m.op.kind=5->nI w m)(h:nJ w m=some r):oa w m r:=by
 obtain⟨v,g,e,su⟩:=vU hs;unfold nJ at h;rw[su.fR]at h;dsimp only at h;rw[su.fV]at h;dsimp only at h;rw[su.ig]at h;dsimp only at h;by_cases k:m.op.kind=1
 .rw[gS k]at h;exact Lr k (PL su hs t tm hN p0 h)
 rw[gP k]at h
 clear k
 by_cases k:m.op.kind=2
 .rw[gS k]at h;exact Gm k (PH su hs t tm hN h)
 rw[gP k]at h
 clear k
 by_cases k:m.op.kind=3
 .rw[gS k]at h;exact Gn k (Si su hs t tm hN (hc k) h)
 rw[gP k]at h
 clear k
 by_cases k:m.op.kind=4
 .rw[gS k]at h;exact Ls k (PV su hs t tm hN h)
 rw[gP k]at h
 clear k
 by_cases k:m.op.kind=5
 .rw[gS k]at h;exact Gp k (R4 (qq.1 su.world) t su tm (ca k) hN h)
 rw[gP k]at h
 clear k
 by_cases k:m.op.kind=6
 .rw[gS k]at h;exact Gq k (Q8 su hs t tm hN k h)
 rw[gP k]at h;cases h
end Go.Wor
