import Derived.Test.YtamgiodaflkbhaaGreatVK
import Derived.Test.YtamgiodaflkbhaaGreatVS5
import Derived.Test.YtamgiodaflkbhaaGreatVQ
import Derived.Test.YtamgiodaflkbhaaGreatV9
set_option linter.all false
set_option maxRecDepth 100000
set_option maxHeartbeats 4000000
namespace Go.Wor
open Go.Ab Go.Proofs Tryz Go.Gat Go.Nam Go.Hos Go.Con Go.Sna Go.Pla
open Go.Hy hiding encI
section
variable {w:Wor} {m:fx}
def Uc(ok:fG w)(hl:i64 m.listen)(h0:3<=m.pc)(h1:m.pc<=23)(hs:zG w m=false):th 137 [] [Cw w,Cm m] (Sr w m zW) []:=by
 refine ab func137 ?_;refine zad ?_
 exact za0
def QE(ok:fG w)(hl:i64 m.listen)(h0:(0<=m.pc/\m.pc<=4)\/m.pc=9)(hs:zG w m=false):th 138 [] [Cw w,Cm m] (Sr w m zW) []:=by
 refine ab func138 ?_;rcases(by omega:(0<=m.pc/\m.pc<=4)\/m.pc=9) with h2|h2
 all_goals
  refine zad ?_
  exact za0
def PX(ok:fG w)(hl:i64 m.listen)(h0:m.pc=4)(h1:m.listen<0)(hs:zG w m=true):th 138 [] [Cw w,Cm m] (Sr w m zW) []:=by
 refine ab func138 ?_;refine zad ?_
 refine zab ?_;refine zad ?_
 exact zaj
def QY(ok:fG w)(hl:i64 m.listen)(h0:0<=m.pc/\m.pc<=2)(hs:zG w m=false):th 139 [] [Cw w,Cm m] (Sr w m zW) []:=by
 refine ab func139 ?_;refine zad ?_
 exact za0
def Pa(ok:fG w)(hl:i64 m.listen)(h0:m.pc=2)(hs:zG w m=true)(hv:yN w m=true):th 139 [] [Cw w,Cm m] (Sr w m zW) []:=by
 refine ab func139 ?_;refine zad ?_
 refine zab ?_;refine zad ?_
 refine td ?_
 refine af (F9 w m ok) ?_;refine⟨λ_=>dd ?_,λh=>absurd ((hv).symm.trans h:true=false) aj⟩;exact zaj
def QR(ok:fG w)(hl:i64 m.listen)(h0:m.pc=0)(hs:zG w m=false):th 140 [] [Cw w,Cm m] (Sr w m zW) []:=by
 refine ab func140 ?_;refine⟨λh=>absurd h (by simp[h0]),λ_=>dd ?_⟩;exact za0
def QQ(ok:fG w)(hl:i64 m.listen)(hs:zG w m=false):th 141 [] [Cw w,Cm m] (Sr w m zW) []:=by
 refine ab func141 ?_;exact za0
def PO(ok:fG w)(hl:i64 m.listen)(hs:zG w m=true)(hm:th 182 [] [Cw w,Cm m] (Bo false) []):th 141 [] [Cw w,Cm m] (Sr w m zW) []:=by
 refine ab func141 ?_;refine zbq ?_
 refine af hm ?_;exact zaj
def Jz(ok:fG w)(hl:i64 m.listen)(h0:m.pc=0)(hk:m.k<6)(hs:zG w m=false\/(w.counts.length:Int)<=m.i):th 142 [] [Cw w,Cm m] (Sr w m zW) []:=by
 have ml:(w.counts.map zA).length=w.counts.length:=pz ..;refine ab func142 ?_;refine⟨λh=>absurd h (by simp[h0]),λ_=>dd ?_⟩;refine za9 ?_;rw[ml];refine⟨λhi=>?_,λhi=>?_⟩
 .refine dd ?_;exact zaj
 .have hs:zG w m=false:=hs.resolve_right λq=>by have hi:=pB hi;omega
  refine dd ?_;exact za0
def Yw(hpc:m.pc=2)(h:(w.pins.length:Int)<=m.i):th 182 [] [Cw w,Cm m] (Bo false) []:=by
 have ml:(w.pins.map Go.Hy.encI).length=w.pins.length:=pz ..;refine zan ?_
 exact uI
def M4(hpc:m.pc=9\/m.pc=10)(h:(w.zc.length:Int)<=m.i):th 182 [] [Cw w,Cm m] (Bo false) []:=by
 have ml:(w.zc.map zT).length=w.zc.length:=pz ..;rcases hpc with hpc|hpc
 all_goals
  refine zan ?_
  (try rw[ml])
  refine zad ?_
  exact uI
def Yx(v:fC)(hf:nF v)(hpc:m.pc=5)(hv:mK w m v)(h:((jf v).length:Int)<=m.k):th 182 [] [Cw w,Cm m] (Bo false) []:=by
 have a0:=hv.v0;have a1:=hv.row;refine zan ?_
 refine .inl ⟨⟨true,[],[],[8]⟩,ak,uH ?_⟩;(refine⟨a0,_,a1,dd ?_⟩)
 refine af (JO v hf) ?_;refine zad ?_
 exact uI
def Yy(hpc:m.pc=6)(h0:0<=m.i)(h:∀r,w.zn[m.i.toNat]?=some r->¬(r.version=m.version/\r.gone=false)):th 182 [] [Cw w,Cm m] (Bo false) []:=by
 have ml:(w.zn.map qk).length=w.zn.length:=pz ..;by_cases hi:m.i<w.zn.length
 .obtain⟨r,hx⟩:∃r,w.zn[m.i.toNat]?=some r:=⟨_,pq an⟩;have hg:(w.zn.map qk)[m.i.toNat]?=some (qk r):=by rw[pw,hx];rfl
  have hn:=h r hx;obtain⟨rv,ra,rg⟩:=r;refine zan ?_
  refine uE ?_;rw[ml];refine zad ?_
  (refine⟨h0,_,hg,dd ?_⟩)
  refine⟨λhq=>?_,λhq=>?_⟩
  .have hq2:rv=m.version:=eq_of_beq hq;have hr:rg=true:=by cases rg with|true=>rfl|false=>exact absurd ⟨hq2,rfl⟩ hn
   subst hr;refine dd ?_;refine zaG ?_
   (refine⟨h0,_,hg,dd ?_⟩)
   refine zaG ?_
   exact uI
  .refine dd ?_;refine zaG ?_
   exact uI
 .refine zan ?_
  refine uE ?_;rw[ml];refine zad ?_
  refine td ?_
  exact uI
def Xr(l:fO)(hpc:m.pc=10)(h0:0<=m.i)(hx:w.zc[m.i.toNat]?=some l)(h1:l.drain=false):th 182 [] [Cw w,Cm m] (Bo false) []:=by
 have hg:(w.zc.map zT)[m.i.toNat]?=some (zT l):=by rw[pw,hx];rfl
 have ft:=(px.1 hx).1;have ml:(w.zc.map zT).length=w.zc.length:=pz ..;obtain⟨ln,ld,la,lc⟩:=l;cases h1
 refine zan ?_
 rw[ml];refine zad ?_
 (refine⟨h0,_,hg,dd ?_⟩)
 refine zaG ?_
 exact uI
def Xh(ok:fG w)(hl:i64 m.listen)(hs:zG w m=false)(h1:m.op.kind=1->0<=m.pc/\m.pc<=23)(h2:m.op.kind=2->(0<=m.pc/\m.pc<=4)\/m.pc=9)(h3:m.op.kind=3->0<=m.pc/\m.pc<=2)(h4:m.op.kind=4->m.pc=0)(h6:m.op.kind=6->m.pc=0/\m.k<6):th 42 [] [Sw w,Sm m] (Sr w m mz) []:=by
 by_cases k:1<=m.op.kind/\m.op.kind<=6
 rotate_left
 .exact Jk w m k
 rcases(by omega:m.op.kind=1\/m.op.kind=2\/m.op.kind=3\/m.op.kind=4\/m.op.kind=5\/m.op.kind=6) with k|k|k|k|k|k
 .refine JA k ?_;by_cases p:m.pc<3
  .exact D0 (h1 k).1 p (Rr w m ok hl (h1 k).1 p hs)
  .exact Uc ok hl an (h1 k).2 hs
 .exact FU k (QE ok hl (h2 k) hs)
 .exact FV k (QY ok hl (h3 k) hs)
 .exact JB k (QR ok hl (h4 k) hs)
 .exact FW k (QQ ok hl hs)
 .exact FX k (Jz ok hl (h6 k).1 (h6 k).2 (.inl hs))
end
section
variable {w:Wor} {m:fx}
def S0(ok:fG w)(hl:i64 m.listen)(hs:zG w m=false):th 48 [] [Cw w,Cm m] (Sr w m zW) []:=by
 refine ab func48 ?_;refine zb0 ?_
 exact zaj
def S1(ok:fG w)(hl:i64 m.listen)(hs:zG w m=false):th 49 [] [Cw w,Cm m] (Sr w m zW) []:=by
 refine ab func49 ?_;refine zb0 ?_
 exact zaj
def Q4(ok:fG w)(hl:i64 m.listen)(h0:m.pc=4)(h1:m.listen<0)(hs:zG w m=true):th 49 [] [Cw w,Cm m] (Sr w m zW) []:=by
 refine ab func49 ?_;refine zb0 ?_
 (try (refine td ?_))
 refine zay ?_
 exact zaj
def S2(ok:fG w)(hl:i64 m.listen)(hs:zG w m=false):th 50 [] [Cw w,Cm m] (Sr w m zW) []:=by
 refine ab func50 ?_;refine zb0 ?_
 exact zaj
def Vg(hl:w.zn.length<4000000000000000000)(h:yN w m=true):th 99 [] [Cw w,Cm m] (Bo true) []:=by
 have m4:(w.zn.map qk).length=w.zn.length:=pz ..;refine ab func99 ?_;refine zH.seq w.zn.length (λk=>(.za::.za::.ref 0 [] 8 0 0::.ref 1 [] 44 0 0::Bo false::I k::mL (mL (mL (mL ([.za])))))) (λk=>[oW w,oM m]) (λk=>∀j,(h:j<w.zn.length)->j<k->(w.zn[j].version == m.version)=false) ?_ ah (λk hk hr=>?_) (λhr=>?_)
 .exact cC
 .obtain⟨x,hx⟩:∃x,x=w.zn[k]:=⟨_,rfl⟩;have hg:(w.zn.map qk)[k]?=some (qk x):=by rw[pw,pq hk,hx];rfl
  conv=>whnf
  rw[m4];refine za8 ?_
  refine⟨λhv=>?_,λhv=>?_⟩
  .refine zbV ?_
   exact uI
  refine dd ?_;refine .inl ⟨rfl,?_,λi hi hij=>?_⟩
  .exact gL
  .by_cases e:i=k
   .subst e;rw[<-hx];exact hv
   .exact hr i hi an
 .have h0:(w.zn.any λr=>r.version == m.version)=false:=by
   rw[rk];intro x hx;obtain⟨i,hi,rfl⟩:=pU.1 hx;simp[hr i hi hi]
  unfold yN at h;rw[h0]at h;simp only[sD,rZ,pY,rF]at h;refine uD ?_;refine⟨λq1=>?_,λq1=>?_⟩
  .refine zac ?_
   exact uI
  refine dd ?_;refine⟨λq2=>?_,λq2=>?_⟩
  .refine zac ?_
   exact uI
  refine dd ?_;refine⟨λ_=>?_,λq=>?_⟩
  .refine zac ?_
   exact uI
  .exfalso
   have q1:¬m.version=w.current:=ai q1
   have q2:=pB q2;have q:=pB q;omega
def Q5(ok:fG w)(hl:i64 m.listen)(h0:m.pc=2)(hs:zG w m=true)(hv:yN w m=true):th 50 [] [Cw w,Cm m] (Sr w m zW) []:=by
 refine ab func50 ?_;refine zb0 ?_
 (try (refine td ?_))
 refine zay ?_
 refine af (Vg (by have:=ok.zn;omega) hv) ?_;exact zaj
def Sz(ok:fG w)(hl:i64 m.listen)(hs:zG w m=false):th 51 [] [Cw w,Cm m] (Sr w m zW) []:=by
 refine ab func51 ?_;refine zb0 ?_
 exact zaj
def Q8(ok:fG w)(hl:i64 m.listen)(hs:zG w m=false):th 102 [] [Cw w,Cm m] (Bo false) []:=by
 refine ab func102 ?_;refine zb0 ?_
 (try (refine td ?_))
 exact uI
def Q6(ok:fG w)(hl:i64 m.listen){v:fC}{g:Gr}{e:En}(su:jW w m v g e)(fv:nF v)(hm:Bc w m=false):th 102 [] [Cw w,Cm m] (Bo false) []:=by
 have m1:(w.pins.map Go.Hy.encI).length=w.pins.length:=pz ..;have m3:(w.zc.map zT).length=w.zc.length:=pz ..;have m4:(w.zn.map qk).length=w.zn.length:=pz ..;have hs:=kk su;have hi:=su.i;unfold Bc at hm;refine ab func102 ?_;refine af (zP w m ok hl) ?_;rw[hs];refine td ?_
 refine⟨λq1=>?_,λq1=>?_⟩
 .refine zac ?_
  exact uI
 refine dd ?_;refine⟨λq2=>?_,λq2=>?_⟩
 .refine zac ?_
  exact uI
 refine dd ?_;refine⟨λq3=>?_,λq3=>?_⟩
 .refine zac ?_
  exact uI
 refine zac ?_
 refine⟨λp2=>?_,λp2=>?_⟩
 .rw[pD (eq_of_beq p2)]at hm;refine dd ?_;rw[m1,hm];refine td ?_
  exact uI
 have n2:¬m.pc=2:=ai p2
 rw[pA n2]at hm;refine dd ?_;refine⟨λp5=>?_,λp5=>?_⟩
 .rw[pD (eq_of_beq p5),su.iz]at hm;have gv:(w.zd.map zt)[m.version.toNat]?=some (zt v):=by rw[pw,su.iz];rfl
  have hm:decide (m.k<(jf v).length)=false:=hm;refine dd ?_;refine uE ?_;refine⟨su.version.1,_,gv,uH ?_⟩;refine af (FQ v fv) ?_;rw[hm];refine td ?_
  exact uI
 have n5:¬m.pc=5:=ai p5
 rw[pA n5]at hm;refine dd ?_;refine⟨λp6=>?_,λp6=>?_⟩
 .rw[pD (eq_of_beq p6)]at hm;refine dd ?_;refine uE ?_;rw[m4];refine⟨λli=>?_,λli=>?_⟩
  .have li:=pC li;obtain⟨r,hr⟩:∃r,w.zn[m.i.toNat]?=some r:=⟨_,pq an⟩;have gr:(w.zn.map qk)[m.i.toNat]?=some (qk r):=by rw[pw,hr];rfl
   rw[hr]at hm;have hm:((r.version == m.version) && !r.gone)=false:=hm;refine dd ?_;refine⟨hi,_,gr,uH ?_⟩;refine⟨λrv=>?_,λrv=>?_⟩
   .rw[rv]at hm;have hm:r.gone=true:=by simpa using hm
    refine dd ?_;refine⟨hi,_,gr,uH ?_⟩;refine⟨λ_=>dd ?_,λq=>absurd (hm.symm.trans q) aj⟩;refine td ?_
    exact uI
   .refine zac ?_
    exact uI
  .refine zac ?_
   exact uI
 have n6:¬m.pc=6:=ai p6
 rw[pA n6]at hm;refine dd ?_;refine⟨λp8=>?_,λp8=>?_⟩
 .have p8:=pC p8;have q2:=pB q2;refine dd ?_;rw[m3];refine⟨λli=>?_,λli=>?_⟩
  .have li:=pC li;obtain⟨l,hr⟩:∃l,w.zc[m.i.toNat]?=some l:=⟨_,pq an⟩;have gl:(w.zc.map zT)[m.i.toNat]?=some (zT l):=by rw[pw,hr];rfl
   have n9:¬m.pc=9:=λq=>by
    rw[pD q]at hm;have:=pB hm;omega
   rw[pA n9,pD an,hr]at hm;have hm:l.drain=false:=hm;refine dd ?_;refine⟨λq=>absurd (eq_of_beq q) n9,λ_=>dd ?_⟩;refine⟨hi,_,gl,uH ?_⟩;refine⟨λq=>absurd (hm.symm.trans q) aj,λ_=>dd ?_⟩;refine td ?_
   exact uI
  .refine zac ?_
   exact uI
 exfalso
 have p8:=pB p8;rw[pA an,pA an]at hm;cases hm
def Q7(hm:th 102 [] [Cw w,Cm m] (Bo false) []):th 52 [] [Cw w,Cm m] (Sr w m zW) []:=by
 refine ab func52 ?_;refine af hm ?_;exact zaj
def SA(ok:fG w)(hl:i64 m.listen)(hs:zG w m=false):th 52 [] [Cw w,Cm m] (Sr w m zW) []:=by
 refine ab func52 ?_;refine af (Q8 ok hl hs) ?_;exact zaj
def SB(ok:fG w)(hl:i64 m.listen)(hs:zG w m=false):th 53 [] [Cw w,Cm m] (Sr w m zW) []:=by
 refine ab func53 ?_;refine zb0 ?_
 exact zaj
def Q9(ok:fG w)(hl:i64 m.listen)(hs:zG w m=true)(h0:m.pc=0)(hi:(w.counts.length:Int)<=m.i):th 53 [] [Cw w,Cm m] (Sr w m zW) []:=by
 have ml:(w.counts.map zA).length=w.counts.length:=pz ..;refine ab func53 ?_;refine zb0 ?_
 (try (refine td ?_))
 refine zay ?_
 (try rw[ml])
 refine zay ?_
 exact zaj
def KC(hk:¬(1<=m.op.kind/\m.op.kind<=6)):th 23 [] [Sw w,Sm m] (Sr w m zW) []:=by
 refine ab func23 ?_;refine zat ?_
 refine zat ?_
 refine zat ?_
 refine zat ?_
 refine zat ?_
 refine zat ?_
 exact zaj
def XY(ok:fG w)(hl:i64 m.listen)(hs:zG w m=false):th 23 [] [Sw w,Sm m] (Sr w m mz) []:=by
 by_cases k:1<=m.op.kind/\m.op.kind<=6
 rotate_left
 .exact KC k
 have go:∀{f},th f [] [Cw w,Cm m] (Sr w m zW) []->th f [] [Cw w,Cm m] (Sr (w,m,zW).1 (w,m,zW).2.1 (w,m,zW).2.2) []:=λh=>h
 rcases(by omega:m.op.kind=1\/m.op.kind=2\/m.op.kind=3\/m.op.kind=4\/m.op.kind=5\/m.op.kind=6) with k|k|k|k|k|k
 .exact L5 (r:=(w,m,zW)) k (S0 ok hl hs)
 .exact Hc (r:=(w,m,zW)) k (S1 ok hl hs)
 .exact Hd (r:=(w,m,zW)) k (S2 ok hl hs)
 .exact Mm (r:=(w,m,zW)) k (Sz ok hl hs)
 .exact GW (r:=(w,m,zW)) k (SA ok hl hs)
 .exact GX (r:=(w,m,zW)) k (SB ok hl hs)
def Xx(ok:fG w)(hl:i64 m.listen)(hk:m.op.kind=2)(h0:m.pc=4)(h1:m.listen<0)(hs:zG w m=true):th 23 [] [Sw w,Sm m] (Sr w m mz) []:=
 Hc (r:=(w,m,zW)) hk (Q4 ok hl h0 h1 hs)
end
end Go.Wor
namespace Go.Wor
open Go.Ab Go.Proofs Tryz Go.Gat Go.Nam Go.Hos Go.Con Go.Sna Go.Pla Go.Dep
open Go.Hy hiding encI
variable{r:Wor×fx×fF}{w':Wor}{m:fx}
structure Be(w:Wor)(m:fx)(r:Wor×fx×fF):Prop where
 pl:L6 w m r
 re:nB w m r
def stepT(w:Wor)(m:fx):Wor×fx×fF:=if zG w m then (oH w m).getD (w,m,mz) else (w,m,mz)
structure MT(m:fx):Prop where
 tm:iQ m
 al:i64 m.answer.listen
 cf:m.op.kind=3->qQ m.op.config
 h1:m.op.kind=1->((0<=m.pc/\m.pc<=12)\/(20<=m.pc/\m.pc<=23))/\(m.pc=4\/m.pc=5\/m.pc=22->0<=m.listen)
 h2:m.op.kind=2->((0<=m.pc/\m.pc<=4)\/m.pc=9)/\(m.pc=1->m.word%4294967296<=2147483646)
 h3:m.op.kind=3->0<=m.pc/\m.pc<=2
 h4:m.op.kind=4->m.pc=0
 h5:m.op.kind=5->(0<=m.pc/\m.pc<=6)\/(8<=m.pc/\m.pc<=10)
 h6:m.op.kind=6->m.pc=0/\m.k<6
section
variable {N:Nat} {w:Wor} {m:fx} {v:fC} {g:Gr} {e:En}
def MT.mT(hk:m.op.kind=1)(tm:iQ m)(al:i64 m.answer.listen)(h:((0<=m.pc/\m.pc<=12)\/(20<=m.pc/\m.pc<=23))/\(m.pc=4\/m.pc=5\/m.pc=22->0<=m.listen)):MT m:=⟨tm,al,(λq=>absurd (hk.symm.trans q) aj),λ_=>h,(λq=>absurd (hk.symm.trans q) aj),(λq=>absurd (hk.symm.trans q) aj),(λq=>absurd (hk.symm.trans q) aj),(λq=>absurd (hk.symm.trans q) aj),(λq=>absurd (hk.symm.trans q) aj)⟩
def MT.DQ(hk:m.op.kind=2)(tm:iQ m)(al:i64 m.answer.listen)(h:((0<=m.pc/\m.pc<=4)\/m.pc=9)/\(m.pc=1->m.word%4294967296<=2147483646)):MT m:=⟨tm,al,(λq=>absurd (hk.symm.trans q) aj),(λq=>absurd (hk.symm.trans q) aj),λ_=>h,(λq=>absurd (hk.symm.trans q) aj),(λq=>absurd (hk.symm.trans q) aj),(λq=>absurd (hk.symm.trans q) aj),(λq=>absurd (hk.symm.trans q) aj)⟩
def MT.IC(hk:m.op.kind=3)(tm:iQ m)(al:i64 m.answer.listen)(c:qQ m.op.config)(h:0<=m.pc/\m.pc<=2):MT m:=⟨tm,al,λ_=>c,(λq=>absurd (hk.symm.trans q) aj),(λq=>absurd (hk.symm.trans q) aj),λ_=>h,(λq=>absurd (hk.symm.trans q) aj),(λq=>absurd (hk.symm.trans q) aj),(λq=>absurd (hk.symm.trans q) aj)⟩
def MT.Ak(hk:m.op.kind=5)(tm:iQ m)(al:i64 m.answer.listen)(h:(0<=m.pc/\m.pc<=6)\/(8<=m.pc/\m.pc<=10)):MT m:=⟨tm,al,(λq=>absurd (hk.symm.trans q) aj),(λq=>absurd (hk.symm.trans q) aj),(λq=>absurd (hk.symm.trans q) aj),(λq=>absurd (hk.symm.trans q) aj),(λq=>absurd (hk.symm.trans q) aj),λ_=>h,(λq=>absurd (hk.symm.trans q) aj)⟩
def MT.ID(hk:m.op.kind=6)(tm:iQ m)(al:i64 m.answer.listen)(h:m.pc=0/\m.k<6):MT m:=⟨tm,al,(λq=>absurd (hk.symm.trans q) aj),(λq=>absurd (hk.symm.trans q) aj),(λq=>absurd (hk.symm.trans q) aj),(λq=>absurd (hk.symm.trans q) aj),(λq=>absurd (hk.symm.trans q) aj),(λq=>absurd (hk.symm.trans q) aj),λ_=>h⟩
def NX(w:Wor):Prop:=∀v∈w.zd,∀g∈v.zg,∀e∈g.ends,∀x∈e.next, -1<=x/\x<=2147483646
def Bj(w:Wor)(m:fx):Prop:=m.op.kind=1->m.pc=10->∀v g e x,w.zd[m.version.toNat]?=some v->v.zg[m.zp.toNat]?=some g->g.ends[m.end_.toNat]?=some e->e.next[m.slot.toNat]?=some x-> -1<=x/\x<=2147483646
def NX.iR(h:NX w):Bj w m:=λ_ _ v g e x a b c d=>h v (pE a) g (pE b) e (pE c) x (pE d)
structure Tn(N:Nat)(w:Wor)(m:fx)(r:Wor×fx×fF):Prop where
 ty:il (N+1) r.1
 ok:fG r.1
 nx:NX w->NX r.1
 al:i64 r.2.1.answer.listen
 go:r.2.1.done=false->MT r.2.1/\Bj r.1 r.2.1
def Wx(w:Wor)(m:fx):zG w m=false\/∃v g e,jW w m v g e:=by
 cases h:zG w m with
 |false=>exact .inl V
 |true=>exact .inr (kl h)
def We(t:il N w):Cal 9223372036854775807 w:=
 ⟨λl hl=>by have:=(t.lu l hl).2;unfold i64 at this;omega,λv hv g hg e he=>by have:=(((t.iN v hv).2 g hg).2 e he).2.2;unfold i64 at this;omega⟩
def Xi(su:jW w m v g e)(t:il N w):St N 9223372036854775807 w:=⟨qt.1 su.world,t,We t⟩
def il.mono{N':Nat}(t:il N w)(h:N<=N'):il N' w:=⟨by have:=t.lH;omega,bT,by have:=t.lJ;omega,t.iN,t.lu⟩
def ES(ok:fG w):Bl w:=by
 have h:=ok.zd;refine⟨⟨by have:=ok.pins;omega,an,by have:=ok.zc.1;omega,by have:=ok.counts.1;omega,by have:=ok.zn;omega,λv hv=>?_,λv hv=>?_⟩,λv hv=>?_,λv hv g hg=>((h.2 v hv).ends g hg).2,λr hr=>by have:=ok.counts.2 r hr;omega⟩
 .have q:=(h.2 v hv).snap;exact⟨by have:=q.zc.1;omega,by have:=q.rules.1;omega,by have:=q.zj.1;omega⟩
 .exact⟨by have:=(h.2 v hv).zg;omega,λg hg=>by have:=((h.2 v hv).ends g hg).1;omega⟩
 .have q:=(h.2 v hv).snap;exact⟨by have:=q.zc.1;omega,by have:=q.rules.1;omega,by have:=q.zj.1;omega,λx hx=>(q.zj.2 x hx).2⟩
def Dm(n:Int):i64 (IntKind.i64.wrap n):=by
 have h:IntKind.i64.wrap n=if n%18446744073709551616≥9223372036854775808 then n%18446744073709551616-18446744073709551616 else n%18446744073709551616:=by
  unfold IntKind.wrap;simp[IntKind.bits,IntKind.signed]
 rw[h];unfold i64;split <;> omega
def BW(t:il N w)(ok:fG w)(hat:ig w m v g e){e':En}{tk:Int}(ho:e'.ok)(ht:u64 tk)(hx:∀x∈e'.next,x∈e.next\/(-1<=x/\x<=2147483646)):
  il (N+1) {w with zd:=w.zd.set m.version.toNat {v with zg:=v.zg.set m.zp.toNat {g with zC:=tk,ends:=g.ends.set m.end_.toNat e'} } }/\
  fG {w with zd:=w.zd.set m.version.toNat {v with zg:=v.zg.set m.zp.toNat {g with zC:=tk,ends:=g.ends.set m.end_.toNat e'} } }/\
  (NX w->NX {w with zd:=w.zd.set m.version.toNat {v with zg:=v.zg.set m.zp.toNat {g with zC:=tk,ends:=g.ends.set m.end_.toNat e'} } }):=by
 have mv:=pE hat.at_;have mg:=pE hat.iC;have me:=pE hat.iM;have oe:=(ok.zd.2 v mv).ends g mg;refine⟨⟨by have:=t.lH;simp;omega,sL t.iB,sL t.lJ,λv2 hv=>?_,t.lu⟩,⟨ok.pins,⟨ai ok.zd.1,λv2 hv=>?_⟩,ok.zc,ok.counts,ok.zn⟩,λnx v2 hv g2 hg e2 he x hx2=>?_⟩
 .rcases mem_set hv with hv|rfl
  .exact t.iN v2 hv
  .refine⟨(t.iN v mv).1,λg2 hg=>?_⟩;rcases mem_set hg with hg|rfl
   .exact(t.iN v mv).2 g2 hg
   .refine⟨ht,λe2 he=>?_⟩;rcases mem_set he with he|rfl
    .exact((t.iN v mv).2 g mg).2 e2 he
    .exact ho
 .rcases mem_set hv with hv|rfl
  .exact ok.zd.2 v2 hv
  .have ov:=ok.zd.2 v mv;refine⟨ov.snap,ai ov.zg,λg2 hg=>?_⟩;rcases mem_set hg with hg|rfl
   .exact ov.ends g2 hg
   .refine⟨ai oe.1,λe2 he=>?_⟩;rcases mem_set he with he|rfl
    .exact oe.2 e2 he
    .exact ho
 .rcases mem_set hv with hv|rfl
  .exact nx v2 hv g2 hg e2 he x hx2
  .rcases mem_set hg with hg|rfl
   .exact nx v mv g2 hg e2 he x hx2
   .rcases mem_set he with he|rfl
    .exact nx v mv g mg e2 he x hx2
    .exact(hx x hx2).elim (λh=>nx v mv g mg e me x h) id
def Dg(t:il N w)(ok:fG w){i:Nat}{y:fO}(hy:y.ok):il (N+1) {w with zc:=w.zc.set i y}/\fG {w with zc:=w.zc.set i y}:=by
 have key:∀l∈w.zc.set i y,l.ok:=λl hl=>by
  rcases mem_set hl with hl|rfl
  .exact t.lu l hl
  .exact hy
 exact⟨⟨sL t.lH,by have:=t.iB;simp;omega,sL t.lJ,t.iN,key⟩,⟨ok.pins,ok.zd,⟨ai ok.zc.1,key⟩,ok.counts,ok.zn⟩⟩
def MC(ok:fG w)(n:Nat)(x:Int):fG (mJ w n x):=⟨by show(w.pins.set n x).length<_;rw[sF];exact ok.pins,ok.zd,ok.zc,ok.counts,ok.zn⟩
def VC(ok:fG w)(n k:Nat)(x:Int){r:List Int}(hr:w.counts[n]?=some r):fG {w with counts:=w.counts.set n (r.set k x)}:=
 ⟨ok.pins,ok.zd,ok.zc,⟨ai ok.counts.1,λq hq=>by
  rcases mem_set hq with hq|rfl
  .exact ok.counts.2 q hq
  .rw[sF];exact ok.counts.2 r (pE hr)⟩,ok.zn⟩
def Mg(su:jW w m v g e)(t:il N w):Slp.fS e=true/\e.next.length<=4/\0<=e.zo/\e.ok/\u64 g.zC/\ -1<=Slp.zQ e/\Slp.zQ e<e.next.length:=by
 have mv:=pE su.iz;have mg:=pE su.iC;have me:=pE su.iM;have f:=(((qt.1 su.world).iP _ v su.iz).1.mQ.2 g mg).2.2 e me;refine⟨f.1,f.2.1,(Slp.My f.1).2.2.2,((t.iN v mv).2 g mg).2 e me,((t.iN v mv).2 g mg).1,?_⟩;by_cases h:Slp.zQ e<0
 .have: -1<=Slp.zQ e:=by show -1<=e.head%4294967296-1;omega
  omega
 .have:=Slp.Mk f.1 h;omega
def Lf(su:jW w m v g e)(ok:fG w){k pc:Int}(h0:0<=k)(h5:k<=5):∃w',Cp w m k pc=some (w',{m with pc:=pc},fI m 3 10 k)/\w'.zd=w.zd/\w'.zc=w.zc/\w'.zn=w.zn/\fG w':=by
 obtain⟨r0,hr,hl⟩:=VI (qt.1 su.world) su.zm.1 su.zm.2;unfold Cp;rw[hr];dsimp only;rw[pq (show k.toNat<r0.length by omega)];exact⟨_,rfl,rfl,rfl,rfl,VC ok _ _ _ hr⟩
def B7(t:il N w)(a:w'.zd=w.zd)(b:w'.zc=w.zc)(c:w'.zn=w.zn):il (N+1) w':=⟨by rw[a];have:=t.lH;omega,by rw[b];have:=t.iB;omega,by rw[c];have:=t.lJ;omega,by rw[a];exact t.iN,by rw[b];exact t.lu⟩
def Qs(a:w'.zd=w.zd)(h:NX w):NX w':=by unfold NX;rw[a];exact h
def EM(su:jW w m v g e)(h:0<=m.listen):∃x,w.zc[m.listen.toNat]?=some x:=⟨_,pq (by have:=su.listen;omega)⟩
def TD(t:il N w)(ok:fG w)(su:jW w m v g e)(mt:MT m)(iR:Bj w m)(hk:m.op.kind=1)(hN:N<=100000000):∃r,AQ w m v g e=some r/\Tn N w m r:=by
 have tm:=mt.tm;have gw:=qt.1 su.world;have t1:=t.mono (sV N);obtain⟨f1,f2,f4,f6,f7,f8,f9⟩:=Mg su t;have sl:=su.slot;obtain⟨pc,li⟩:=mt.h1 hk;unfold AQ;by_cases h3:m.pc<3
 .rw[pD h3];unfold CF;rcases(by omega:m.pc=0\/m.pc=1\/m.pc=2) with p|p|p
  .rw[pD p];exact dp
  .rw[pA an,pD p];exact z5 V ⟨B7 t V V V,MC ok _ _,id,mt.al,λ_=>⟨MT.mT hk uO mt.al ⟨uL,λh=>by dsimp only at h|-;omega⟩,(λ_ h=>by dsimp only at h;omega)⟩⟩
  .rw[pA an,pA an,pD p];by_cases q:w.zr=m.zr
   .rw[pD q];exact dp
   .rw[pA q];exact dp
 rw[pA h3];rcases(by omega:m.pc=3\/m.pc=4\/m.pc=5\/m.pc=6\/m.pc=7\/m.pc=8\/m.pc=9\/m.pc=10\/m.pc=11\/m.pc=12\/m.pc=20\/m.pc=21\/m.pc=22\/m.pc=23) with p|p|p|p|p|p|p|p|p|p|p|p|p|p
 .have pr:=J2 w.zc m.op.listen;have hl:=t.iB;have tl:i64 (zZ w.zc m.op.listen):=by unfold i64;omega
  have z0:i64 0:=aj
  have nk:∀{P:Prop},m.op.kind=6->P:=λh=>absurd (h.symm.trans hk) aj
  rw[pD p];by_cases q:zZ w.zc m.op.listen<0
  .rw[pD q];exact z5 V ⟨t1,ok,id,de,λ_=>⟨MT.mT hk ⟨tl,tm.word,tm.link,tm.host,tm.path,tm.d0,tm.d1,tm.cfg,λh=>nk h⟩ z0 ⟨uL,λh=>by dsimp only at h|-;omega⟩,(λ_ h=>by dsimp only at h;omega)⟩⟩
  .rw[pA q];exact z5 V ⟨t1,ok,id,mt.al,λ_=>⟨MT.mT hk ⟨tl,tm.word,tm.link,tm.host,tm.path,tm.d0,tm.d1,tm.cfg,tm.AH⟩ mt.al ⟨uL,λh=>by dsimp only at h|-;omega⟩,(λ_ h=>by dsimp only at h;omega)⟩⟩
 .have l0:=li (.inl p);obtain⟨x,hx⟩:=EM su l0;obtain⟨a,b⟩:=Dg t ok (i:=m.listen.toNat) (y:=BD x) ⟨(t.lu x (pE hx)).1,Dm _⟩;unfold oJ;rw[pA an,pD p,pA an,hx,pL];exact z5 V ⟨a,b,id,mt.al,λ_=>⟨MT.mT hk uO mt.al ⟨uL,λh=>by dsimp only at h|-;omega⟩,(λ_ h=>by dsimp only at h;omega)⟩⟩
 .have l0:=li (.inr (.inl p));obtain⟨x,hx⟩:=EM su l0;unfold oJ;rw[pA an,pA an,pD p,pA an,hx,pL];by_cases hd:x.drain=true
  .rw[pD hd];exact gG
  .rw[pA hd];unfold yu;by_cases f:(xx m v).2≠0
   .rw[pD f];exact gG
   rw[pA f];split
   .exact dp
   .rename_i c _;by_cases d:(yA c m.op.d0 m.op.d1).2.2≠0
    .rw[pD d];exact gG
    rw[pA d];split
    .exact dp
    .exact dp
 .have gv:=(gw.iP _ v su.iz).1;obtain⟨c,hc⟩:∃c,v.snap.zj[m.zp.toNat]?=some c:=⟨_,pq (by have:=su.zp;have:=gv.len;omega)⟩;obtain⟨a,b,nx⟩:=BW t ok su.at_ (e':=vN e e.head e.zo) (tk:=IntKind.u64.wrap (g.zC+1)) f6 (V8 _) λx h=>.inl h
  rw[pA an,pA an,pA an,pD p,hc,pL];exact z5 V ⟨a,b,nx,mt.al,λ_=>⟨MT.mT hk uO mt.al ⟨uL,λh=>by dsimp only at h|-;omega⟩,(λ_ h=>by dsimp only at h;omega)⟩⟩
 .rw[pA an,pA an,pA an,pA an,pD p];exact dp
 .obtain⟨e2,he2⟩:∃e2,g.ends[m.other.toNat]?=some e2:=⟨_,pq (by have:=su.other;omega)⟩;rw[pA an,pA an,pA an,pA an,pA an,pD p,he2,pL];exact dp
 .rw[pA an,pA an,pA an,pA an,pA an,pA an,pD p];by_cases q:0<=zQ e.head/\zQ e.head<e.next.length
  .rw[pD q];refine z5 V ⟨t1,ok,id,mt.al,λ_=>⟨MT.mT hk ⟨tm.listen,f6.1,tm.link,tm.host,tm.path,tm.d0,tm.d1,tm.cfg,tm.AH⟩ mt.al ⟨uL,λh=>by dsimp only at h|-;omega⟩,λ_ _ v2 g2 e2 x a b c d=>?_⟩⟩;have a:w.zd[m.version.toNat]?=some v2:=a;have b:v2.zg[m.zp.toNat]?=some g2:=b;have c:g2.ends[m.end_.toNat]?=some e2:=c;have d:e2.next[(zQ e.head).toNat]?=some x:=d;obtain rfl:=rV (su.iz.symm.trans a);obtain rfl:=rV (su.iC.symm.trans b);obtain rfl:=rV (su.iM.symm.trans c);have hi:=Slp.Mk f1 (show ¬Slp.zQ e<0 from by have:Slp.zQ e=zQ e.head:=rfl;omega);have hx2:Slp.Aj e.next (Slp.zQ e)=x:=by unfold Slp.Aj;rw[show Slp.zQ e=zQ e.head from V,d];rfl
   omega
  .rw[pA q];have z0:i64 0:=by decide
   have nk:∀{P:Prop},m.op.kind=6->P:=λh=>absurd (h.symm.trans hk) aj
   exact z5 V ⟨t1,ok,id,z0,λ_=>⟨MT.mT hk ⟨tm.listen,f6.1,tm.link,tm.host,tm.path,tm.d0,tm.d1,tm.cfg,λh=>nk h⟩ z0 ⟨uL,λh=>by dsimp only at h|-;omega⟩,(λ_ h=>by dsimp only at h;omega)⟩⟩
 .obtain⟨x,hx⟩:∃x,e.next[m.slot.toNat]?=some x:=⟨_,pq an⟩;have lx:=iR hk p v g e x su.iz su.iC su.iM hx;rw[pA an,pA an,pA an,pA an,pA an,pA an,pA an,pD p,hx,pL];exact z5 V ⟨t1,ok,id,mt.al,λ_=>⟨MT.mT hk ⟨tm.listen,tm.word,lx,tm.host,tm.path,tm.d0,tm.d1,tm.cfg,tm.AH⟩ mt.al ⟨uL,λh=>by dsimp only at h|-;omega⟩,(λ_ h=>by dsimp only at h;omega)⟩⟩
 .rw[pA an,pA an,pA an,pA an,pA an,pA an,pA an,pA an,pD p];by_cases q:e.head=m.word
  .rw[pD q];obtain⟨a,b,nx⟩:=BW t ok su.at_ (e':=vN e (Slp.vq m.word m.link) e.zo) (tk:=g.zC) ⟨Slp.Lk tm.link.1 tm.link.2,f6.2⟩ f7 λx h=>.inl h
   exact z5 V ⟨a,b,nx,mt.al,λ_=>⟨MT.mT hk uO mt.al ⟨uL,λh=>by dsimp only at h|-;omega⟩,(λ_ h=>by dsimp only at h;omega)⟩⟩
  .rw[pA q];exact dp
 .obtain⟨a,b,nx⟩:=BW t ok su.at_ (e':=vN e e.head (IntKind.i64.wrap (e.zo+1))) (tk:=g.zC) ⟨f6.1,f6.2.1,Dm _⟩ f7 λx h=>.inl h
  rw[pA an,pA an,pA an,pA an,pA an,pA an,pA an,pA an,pA an,pD p];exact z5 V ⟨a,b,nx,tm.listen,λ_=>⟨MT.mT hk uP tm.listen ⟨uL,λh=>by dsimp only at h|-;omega⟩,(λ_ h=>by dsimp only at h;omega)⟩⟩
 .have kr:=S9 m.answer.kind;obtain⟨w',hc,a,b,c,d⟩:=Lf su ok (pc:=21) kr.1 kr.2;rw[pA an,pA an,pA an,pA an,pA an,pA an,pA an,pA an,pA an,pA an,pD p,hc];exact gu
 .obtain⟨w',hc,a,b,c,d⟩:=Lf su ok (k:=0) (pc:=if m.answer.kind=1\/m.listen<0 then 23 else 22) aj aj;rw[pA an,pA an,pA an,pA an,pA an,pA an,pA an,pA an,pA an,pA an,pA an,pD p,hc];by_cases q:m.answer.kind=1\/m.listen<0
  .rw[pD q];exact gu
  .rw[pA q];exact gu
 .have l0:=li (.inr (.inr p));obtain⟨x,hx⟩:=EM su l0;obtain⟨a,b⟩:=Dg t ok (i:=m.listen.toNat) (y:=kF x) ⟨(t.lu x (pE hx)).1,Dm _⟩;unfold oJ;rw[pA an,pA an,pA an,pA an,pA an,pA an,pA an,pA an,pA an,pA an,pA an,pA an,pD p,pA an,hx,pL];exact z5 V ⟨a,b,id,mt.al,λ_=>⟨MT.mT hk uO mt.al ⟨uL,λh=>by dsimp only at h|-;omega⟩,(λ_ h=>by dsimp only at h;omega)⟩⟩
 .rw[pA an,pA an,pA an,pA an,pA an,pA an,pA an,pA an,pA an,pA an,pA an,pA an,pA an,pD p];exact z5 V ⟨B7 t V V V,MC ok _ _,id,mt.al,λh=>nomatch h⟩
end
section
variable {N:Nat} {w:Wor} {m:fx} {v:fC} {g:Gr} {e:En}
def TC(t:il N w)(ok:fG w)(su:jW w m v g e)(mt:MT m)(hk:m.op.kind=2)(h4:m.pc=4->0<=m.listen):∃r,kX w m v g e=some r/\Tn N w m r:=by
 have tm:=mt.tm;have t1:=t.mono (sV N);obtain⟨f1,f2,f4,f6,f7,f8,f9⟩:=Mg su t;have sl:=su.slot;obtain⟨pc,wd⟩:=mt.h2 hk;have hh:Slp.zQ e=e.head%4294967296-1:=rfl;unfold kX;rcases(by omega:m.pc=0\/m.pc=1\/m.pc=2\/m.pc=3\/m.pc=4\/m.pc=9) with p|p|p|p|p|p
 .rw[pD p];exact z5 V ⟨t1,ok,id,mt.al,λ_=>⟨MT.DQ hk ⟨tm.listen,f6.1,tm.link,tm.host,tm.path,tm.d0,tm.d1,tm.cfg,tm.AH⟩ mt.al ⟨uL,λ_=>by show e.head%4294967296<=_;omega⟩,(λq=>absurd (hk.symm.trans q) aj)⟩⟩
 .have wd:=wd p
  obtain⟨a,b,nx⟩:=BW t ok su.at_ (e':=vN (yw m e) e.head e.zo) (tk:=g.zC) ⟨f6.1,⟨λx hx=>by
   rcases mem_set hx with hx|rfl
   .exact f6.2.1.1 x hx
   .unfold i64;omega,by show(yw m e).next.length<=_;rw[show(yw m e).next.length=e.next.length from sF];exact f6.2.1.2⟩,f6.2.2⟩ f7 λx hx=>by
   rcases mem_set hx with hx|rfl
   .exact .inl hx
   .exact .inr an
  rw[pA an,pD p];exact gU
 .rw[pA an,pA an,pD p];by_cases q:e.head=m.word
  .rw[pD q];obtain⟨a,b,nx⟩:=BW t ok su.at_ (e':=vN e (Slp.vq m.word m.slot) e.zo) (tk:=g.zC) ⟨Slp.Lk an an,f6.2⟩ f7 λx h=>.inl h
   exact gU
  .rw[pA q];exact z5 V ⟨t1,ok,id,mt.al,λ_=>⟨MT.DQ hk uO mt.al ⟨uL,uK⟩,(λq=>absurd (hk.symm.trans q) aj)⟩⟩
 .obtain⟨a,b,nx⟩:=BW t ok su.at_ (e':=vN e e.head (IntKind.i64.wrap (e.zo-1))) (tk:=g.zC) ⟨f6.1,f6.2.1,Dm _⟩ f7 λx h=>.inl h
  rw[pA an,pA an,pA an,pD p];exact gU
 .have l0:=h4 p;obtain⟨x,hx⟩:=EM su l0;obtain⟨a,b⟩:=Dg t ok (i:=m.listen.toNat) (y:=kF x) ⟨(t.lu x (pE hx)).1,Dm _⟩;unfold oJ;rw[pA an,pA an,pA an,pA an,pD p,pA an,hx,pL];exact z5 V ⟨a,b,id,tm.listen,λh=>nomatch h⟩
 .rw[pA an,pA an,pA an,pA an,pA an,pD p];exact gR
def LQ(s:Sna):∀g∈(qf s).1.zg,∀e∈g.ends,∀x∈e.next, -1<=x/\x<=2147483646:=λg hg e he x hx=>by
 unfold qf at hg;split at hg
 .obtain⟨c,hc,rfl⟩:=rp.1 (show g∈s.zj.map kb from hg);rw[rS (show e∈List.replicate c.zM.length (j6 c) from he)]at hx;unfold j6 Slp.yR at hx;split at hx
  .cases hx
  .obtain⟨i,hi,rfl⟩:=rp.1 hx;have:=sy.1 hi;split <;> omega
 .cases hg
def V7(t:il N w)(ok:fG w)(su:jW w m v g e)(mt:MT m)(hk:m.op.kind=3)(hN:N+1<=100000000)(hl:m.pc=2->yN w m=false):∃r,Aw w m=some r/\Tn N w m r:=by
 have tm:=mt.tm;have t1:=t.mono (sV N);have st:=Xi su t;have pc:=mt.h3 hk;unfold Aw;rcases(by omega:m.pc=0\/m.pc=1\/m.pc=2) with p|p|p
 .rw[pD p];by_cases q:nt m.op.config=0
  .rw[pD q];have st2:=st.Wy (by rw[<-kL];exact q) (tm.cfg hk)
   exact z5 V ⟨st2.ty,mX st2.lD st2.ty hN,λnx v2 hv=>by
    rcases pS.1 (show v2∈w.zd++[nu m.op.config] from hv) with hv|hv
    .exact nx v2 hv
    .rw[rH.1 hv];exact LQ _,mt.al,λ_=>⟨MT.IC hk uO mt.al (mt.cf hk) tG,(λq=>absurd (hk.symm.trans q) aj)⟩⟩
  .rw[pA q];exact gR
 .rw[pA an,pD p];exact z5 V ⟨t1,ok,id,mt.al,λ_=>⟨MT.IC hk uO mt.al (mt.cf hk) tG,(λq=>absurd (hk.symm.trans q) aj)⟩⟩
 .rw[pA an,pA an,pD p,hl p];have hlm:=t.lJ
  exact z5 V ⟨⟨sL t.lH,sL t.iB,by show(w.zn++[_]).length<=_;rw[rB,r7];omega,t.iN,t.lu⟩,
   ⟨ok.pins,ok.zd,ok.zc,ok.counts,by show(w.zn++[_]).length<_;rw[rB,r7];omega⟩,id,(by decide:i64 0),λh=>nomatch h⟩
def US(t:il N w)(ok:fG w)(su:jW w m v g e)(mt:MT m)(hk:m.op.kind=4)(hN:N<=100000000):∃r,AS w m=some r/\Tn N w m r:=by
 have t1:=t.mono (sV N);have pr:=J2 w.zc m.op.listen;have hl:=t.iB;unfold AS;rw[pD (mt.h4 hk)];by_cases q:zZ w.zc m.op.listen<0
 .rw[pD q];exact gR
 .rw[pA q];obtain⟨x,hx⟩:∃x,w.zc[(zZ w.zc m.op.listen).toNat]?=some x:=⟨_,pq an⟩;have lk:=t.lu x (pE hx);obtain⟨a,b⟩:=Dg t ok (i:=(zZ w.zc m.op.listen).toNat) (y:=Go.Gat.wH x) ⟨lk.1,lk.2⟩;rw[hx,pL];exact z5 V ⟨a,b,id,by show i64 (zZ w.zc m.op.listen);unfold i64;omega,λh=>nomatch h⟩
def MF{m1:fx}(t:il N w)(ok:fG w)(hk:m1.op.kind=5)(tm:iQ m1)(al:i64 m1.answer.listen)(p:m1.pc=8):Tn N w m (lW w m1):=by
 have t1:=t.mono (sV N);unfold lW;split
 .exact⟨B7 t V V V,⟨ok.pins,ok.zd,ok.zc,ok.counts,ok.zn⟩,id,(by decide:i64 0),λh=>nomatch h⟩
 .rename_i l _;unfold FA;by_cases q:l.drain=true/\l.closed=false
  .rw[pD q];exact⟨t1,ok,id,al,λ_=>⟨MT.Ak hk uO al tG,(λq=>absurd (hk.symm.trans q) aj)⟩⟩
  .rw[pA q];exact⟨t1,ok,id,al,λ_=>⟨MT.Ak hk uO al tG,(λq=>absurd (hk.symm.trans q) aj)⟩⟩
def Sc(t:il N w)(ok:fG w)(su:jW w m v g e)(mt:MT m)(hk:m.op.kind=5)(hm:Bc w m=true):∃r,xt w m=some r/\Tn N w m r:=by
 have tm:=mt.tm;have t1:=t.mono (sV N);have si:=su.i;have sk:=su.k;have pc:=mt.h5 hk;unfold Bc at hm;unfold xt;rcases(by omega:m.pc=0\/m.pc=1\/m.pc=2\/m.pc=3\/m.pc=4\/m.pc=5\/m.pc=6\/m.pc=8\/m.pc=9\/m.pc=10) with p|p|p|p|p|p|p|p|p|p
 .rw[pD p];split
  .exact z5 V ⟨B7 t V V V,⟨ok.pins,ok.zd,ok.zc,ok.counts,ok.zn⟩,id,mt.al,λ_=>⟨MT.Ak hk uO mt.al tG,(λq=>absurd (hk.symm.trans q) aj)⟩⟩
  .exact gR
 .rw[pA an,pD p];exact dt
 .rw[pD p]at hm;have hm:=pC hm;rw[pA an,pA an,pD p,pq (show m.i.toNat<w.pins.length by omega),pL];generalize w.pins[m.i.toNat]'an=x;unfold oV;by_cases a:x≠0/\x≠IntKind.i64.wrap (m.zr+1)
  .rw[pD a];exact dt
  rw[pA a];split
  .exact dt
  .exact dt
 .rw[pA an,pA an,pA an,pD p];split
  .exact z5 V ⟨B7 t V V V,⟨ok.pins,ok.zd,ok.zc,ok.counts,ok.zn⟩,id,mt.al,λ_=>⟨MT.Ak hk uO mt.al tG,(λq=>absurd (hk.symm.trans q) aj)⟩⟩
  .exact dt
 .rw[pA an,pA an,pA an,pA an,pD p];refine z5 V ?_;split
  .exact MF t ok hk uO mt.al V
  .rename_i r _;unfold Ai;by_cases a:r.gone=true\/Go.Lim.vU r.at_ m.zr=false
   .rw[pD a];exact⟨t1,ok,id,mt.al,λ_=>⟨MT.Ak hk uO mt.al tG,(λq=>absurd (hk.symm.trans q) aj)⟩⟩
   .rw[pA a];exact⟨t1,ok,id,mt.al,λ_=>⟨MT.Ak hk uO mt.al tG,(λq=>absurd (hk.symm.trans q) aj)⟩⟩
 .rw[pA an,pD p,su.iz]at hm;have hm:m.k<(jf v).length:=pC hm;rw[pA an,pA an,pA an,pA an,pA an,pD p,su.iz,ri,pq (show m.k.toNat<(jf v).length by omega),pL];generalize ((jf v)[m.k.toNat]'an).zo=x;unfold AJ;by_cases a:x≠0
  .rw[pD a];exact dt
  rw[pA a];split
  .exact dt
  .exact dt
 .rw[pA an,pA an,pD p]at hm;rw[pA an,pA an,pA an,pA an,pA an,pA an,pD p,su.iz,ri];cases hr:w.zn[m.i.toNat]? with
  |none=>rw[hr]at hm;cases hm
  |some r=>
   rw[hr]at hm;have hm:((r.version == m.version) && !r.gone)=true:=hm;simp only[pJ,rF,rE]at hm;have mv:=pE su.iz;rw[ri,pD hm]
   refine z5 V ⟨⟨by show(w.zd.set _ _).length<=_;rw[sF];exact sL t.lH,sL t.iB,by show(w.zn.set _ _).length<=_;rw[sF];exact sL t.lJ,λv2 hv=>?_,t.lu⟩,
    ⟨ok.pins,⟨by show(w.zd.set _ _).length<_;rw[sF];exact ok.zd.1,λv2 hv=>?_⟩,ok.zc,ok.counts,by show(w.zn.set _ _).length<_;rw[sF];exact ok.zn⟩,λnx v2 hv=>?_,mt.al,λ_=>⟨MT.Ak hk uP mt.al tG,(λq=>absurd (hk.symm.trans q) aj)⟩⟩
   .rcases mem_set hv with hv|rfl
    .exact t.iN v2 hv
    .exact t.iN v mv
   .rcases mem_set hv with hv|rfl
    .exact ok.zd.2 v2 hv
    .exact⟨(ok.zd.2 v mv).snap,(ok.zd.2 v mv).zg,(ok.zd.2 v mv).ends⟩
   .rcases mem_set hv with hv|rfl
    .exact nx v2 hv
    .exact nx v mv
 .rw[pA an,pA an,pA an,pA an,pA an,pA an,pA an,pD p];exact z5 V (MF t ok hk tm mt.al p)
 .rw[pA an,pA an,pA an,pD p]at hm;have hm:=pC hm;rw[pA an,pA an,pA an,pA an,pA an,pA an,pA an,pA an,pD p,pq (show m.i.toNat<w.zc.length by omega),pL];generalize w.zc[m.i.toNat]'an=l;by_cases a:l.zo=0
  .rw[pD a];exact dt
  .rw[pA a];exact dt
 .rw[pA an,pA an,pA an,pA an,pD p]at hm;rw[pA an,pA an,pA an,pA an,pA an,pA an,pA an,pA an,pA an,pD p];cases hr:w.zc[m.i.toNat]? with
  |none=>rw[hr]at hm;cases hm
  |some l=>
   rw[hr]at hm;have hm:l.drain=true:=hm;have lk:=t.lu l (pE hr);obtain⟨a,b⟩:=Dg t ok (i:=m.i.toNat) (y:=AZ l) ⟨lk.1,lk.2⟩;rw[ri,pD hm];exact z5 V ⟨a,b,id,mt.al,λ_=>⟨MT.Ak hk uO mt.al tG,(λq=>absurd (hk.symm.trans q) aj)⟩⟩
def TW(su:jW w m v g e)(pc:(0<=m.pc/\m.pc<=6)\/(8<=m.pc/\m.pc<=10))(hm:Bc w m=true):oB w m:=by
 unfold Bc at hm;refine⟨an,su.i,λp=>?_,λp=>?_,λp=>?_,λp=>?_⟩
 .rw[pD p]at hm;exact pC hm
 .rw[pA an,pD p,su.iz]at hm;exact⟨su.version.1,v,su.iz,Bu (qt.1 su.world) su.iz,pC hm⟩
 .rw[pA an,pA an,pD p]at hm;cases hr:w.zn[m.i.toNat]? with
  |none=>rw[hr]at hm;cases hm
  |some r=>
   rw[hr]at hm;have hm:((r.version == m.version) && !r.gone)=true:=hm;simp only[pJ,rF,rE]at hm;exact⟨r,rfl,hm⟩
 .rw[pA an,pA an,pA an]at hm;have si:=su.i;by_cases q:m.pc=9
  .rw[pD q]at hm;have hm:=pC hm;exact⟨_,pq an,.inl q⟩
  .rw[pA q,pD an]at hm;cases hr:w.zc[m.i.toNat]? with
   |none=>rw[hr]at hm;cases hm
   |some l=>
    rw[hr]at hm;exact⟨l,rfl,.inr hm⟩
def UT(t:il N w)(ok:fG w)(su:jW w m v g e)(mt:MT m)(hk:m.op.kind=6)(hi:m.i<w.counts.length):∃r,Ao w m=some r/\Tn N w m r:=by
 have tm:=mt.tm;have t1:=t.mono (sV N);have i0:=su.i;have k0:=su.k;have h6:=mt.h6 hk;have ft:m.i.toNat<w.counts.length:=an
 have hl:=(j9.1 (qt.1 su.world).ground).counts.2 _ (rj ft);unfold Ao;rw[pD h6,pq ft,ri,pq (show m.k.toNat<(w.counts[m.i.toNat]).length by omega),pL];generalize (w.counts[m.i.toNat])[m.k.toNat]'an=n;refine z5 V ⟨t1,ok,id,?_,?_⟩
 .show i64 (vL w m n).answer.listen;by_cases a:m.k+1=6
  .by_cases b:m.i+1=w.counts.length
   .rw[Ch a b];exact(by decide:i64 0)
   .rw[Cg a b];exact mt.al
  .rw[Cd a an];exact mt.al
 .intro hd;have hd:(vL w m n).done=false:=hd;show MT (vL w m n)/\Bj w (vL w m n);by_cases a:m.k+1=6
  .by_cases b:m.i+1=w.counts.length
   .rw[Ch a b]at hd;cases hd
   .rw[Cg a b];exact⟨MT.ID hk uO mt.al ⟨h6.1,by show(0:Int)<6;decide⟩,(λq=>absurd (hk.symm.trans q) aj)⟩
  .rw[Cd a an];exact⟨MT.ID hk uO mt.al ⟨h6.1,by show m.k+1<6;omega⟩,(λq=>absurd (hk.symm.trans q) aj)⟩
def Uv(su:jW w m v g e)(t:il N w)(mt:MT m)(hN:N<=100000000)(p0:0<=m.pc)(ca:m.op.kind=5->oB w m)(h:oH w m=some r):Be w m r:=
 ⟨SR (kk su) t mt.tm hN h,Wl (kk su) t mt.tm hN p0 mt.cf ca h⟩
def Uu{w:Wor}(hk:¬(1<=m.op.kind/\m.op.kind<=6)):Be w m (w,m,mz):=⟨Jk w m hk,KC hk⟩
def Ci(t:il N w)(ok:fG w)(mt:MT m)(iR:Bj w m):Tn N w m (w,m,mz):=⟨t.mono (sV N),ok,id,mt.al,λ_=>⟨mt,iR⟩⟩
def UO(su:jW w m v g e)(h:oH w m=some r):stepT w m=r:=by
 unfold stepT;rw[pD (kk su),h]
 rfl
def MS(t:il N w)(ok:fG w)(mt:MT m)(iR:Bj w m)(hN:N+1<=100000000):Be w m (stepT w m)/\Tn N w m (stepT w m):=by
 have tm:=mt.tm;rcases Wx w m with hs|⟨v,g,e,su⟩
 .have hT:stepT w m=(w,m,mz):=by
   unfold stepT;rw[pA (by rw[hs];decide)]
  rw[hT];refine⟨⟨Xh ok tm.listen hs (λk=>?_) (λk=>(mt.h2 k).1) mt.h3 mt.h4 mt.h6,XY ok tm.listen hs⟩,Ci t ok mt iR⟩;have:=(mt.h1 k).1;omega
 have hs:=kk su
 have stay:(oH w m=none)->stepT w m=(w,m,mz):=λh=>by
  unfold stepT;rw[pD hs,h]
  rfl
 have go:∀{r:Wor×fx×fF},oH w m=some r->0<=m.pc->(m.op.kind=5->oB w m)->Tn N w m r->Be w m (stepT w m)/\Tn N w m (stepT w m):=λh p0 ca tn=>by
  rw[UO su h];exact⟨Uv su t mt an p0 ca h,tn⟩
 have eV:=Wt su;by_cases k1:m.op.kind=1
 .rw[pD k1]at eV;obtain⟨r,h1,h2⟩:=TD t ok su mt iR k1 an;exact go (eV.trans h1) (by have:=(mt.h1 k1).1;omega) (λk=>by omega) h2
 rw[pA k1]at eV;by_cases k2:m.op.kind=2
 .rw[pD k2]at eV;by_cases q:m.pc=4/\m.listen<0
  .rw[stay (by rw[eV];unfold kX oJ;rw[pA an,pA an,pA an,pA an,pD q.1,pD q.2])];exact⟨⟨FU k2 (PX ok tm.listen q.1 q.2 hs),Xx ok tm.listen k2 q.1 q.2 hs⟩,Ci t ok mt iR⟩
  .obtain⟨r,h1,h2⟩:=TC t ok su mt k2 (λp=>by omega);exact go (eV.trans h1) (by have:=(mt.h2 k2).1;omega) (λk=>by omega) h2
 rw[pA k2]at eV;by_cases k3:m.op.kind=3
 .rw[pD k3]at eV;by_cases q:m.pc=2/\yN w m=true
  .rw[stay (by rw[eV];unfold Aw;rw[pA an,pA an,pD q.1,pD q.2])];exact⟨⟨FV k3 (Pa ok tm.listen q.1 hs q.2),Hd (r:=(w,m,zW)) k3 (Q5 ok tm.listen q.1 hs q.2)⟩,Ci t ok mt iR⟩
  .obtain⟨r,h1,h2⟩:=V7 t ok su mt k3 hN (λp=>by cases h:yN w m with|false=>rfl|true=>exact absurd ⟨p,h⟩ q);exact go (eV.trans h1) (mt.h3 k3).1 (λk=>by omega) h2
 rw[pA k3]at eV;by_cases k4:m.op.kind=4
 .rw[pD k4]at eV;obtain⟨r,h1,h2⟩:=US t ok su mt k4 an;exact go (eV.trans h1) (by have:=mt.h4 k4;omega) (λk=>by omega) h2
 rw[pA k4]at eV;by_cases k5:m.op.kind=5
 .rw[pD k5]at eV;have pc:=mt.h5 k5;cases hm:Bc w m with
  |true=>
   obtain⟨r,h1,h2⟩:=Sc t ok su mt k5 hm;exact go (eV.trans h1) an (λ_=>TW su pc hm) h2
  |false=>
   have hm2:=hm;have si:=su.i;have sk:=su.k
   have e1:th 182 [] [Cw w,Cm m] (Bo false) []/\xt w m=none:=by
    unfold Bc at hm2;by_cases p2:m.pc=2
    .rw[pD p2]at hm2;have hm2:=pB hm2;refine⟨Yw p2 an,?_⟩;unfold xt;rw[pA an,pA an,pD p2,rQ an]
     rfl
    rw[pA p2]at hm2;by_cases p5:m.pc=5
    .rw[pD p5,su.iz]at hm2;have hm2:¬m.k<(jf v).length:=pB hm2;refine⟨Yx v (Bu (qt.1 su.world) su.iz) p5 ⟨su.version.1,su.iz⟩ an,?_⟩;unfold xt;rw[pA an,pA an,pA an,pA an,pA an,pD p5,su.iz,ri,rQ an]
     rfl
    rw[pA p5]at hm2;by_cases p6:m.pc=6
    .rw[pD p6]at hm2
     have hn:∀r,w.zn[m.i.toNat]?=some r->¬(r.version=m.version/\r.gone=false):=λr hr h=>by
      rw[hr]at hm2;have hm2:((r.version == m.version) && !r.gone)=false:=hm2;rw[h.1,h.2]at hm2;simp at hm2
     refine⟨Yy p6 si hn,?_⟩;unfold xt;rw[pA an,pA an,pA an,pA an,pA an,pA an,pD p6,su.iz,ri];cases hr:w.zn[m.i.toNat]? with
     |none=>rfl
     |some r=>rw[ri,pA (hn r hr)]
    rw[pA p6]at hm2;have b:∀{l:fO},w.zc[m.i.toNat]?=some l->m.i<w.zc.length:=λh=>by have:=(px.1 h).1;omega
    by_cases p9:m.pc=9
    .rw[pD p9]at hm2;have hm2:=pB hm2;refine⟨M4 (.inl p9) an,?_⟩;unfold xt;rw[pA an,pA an,pA an,pA an,pA an,pA an,pA an,pA an,pD p9,rQ an]
     rfl
    rw[pA p9]at hm2;by_cases iR:m.pc=10
    .rw[pD iR]at hm2;unfold xt;rw[pA an,pA an,pA an,pA an,pA an,pA an,pA an,pA an,pA an,pD iR];cases hr:w.zc[m.i.toNat]? with
     |none=>
      exact⟨M4 (.inr iR) (by have:=rT.1 hr;omega),rfl⟩
     |some l=>
      rw[hr]at hm2;have hm2:l.drain=false:=hm2;exact⟨Xr l iR si hr hm2,by rw[ri,pA (by rw[hm2];decide)]⟩
    .rw[pA iR]at hm2;cases hm2
   rw[stay (by rw[eV];exact e1.2)];exact⟨⟨FW k5 (PO ok tm.listen hs e1.1),GW (r:=(w,m,zW)) k5 (Q7 (Q6 ok tm.listen su (Bu (qt.1 su.world) su.iz) hm))⟩,Ci t ok mt iR⟩
 rw[pA k5]at eV;by_cases k6:m.op.kind=6
 .rw[pD k6]at eV;have h6:=mt.h6 k6;by_cases q:m.i<w.counts.length
  .obtain⟨r,h1,h2⟩:=UT t ok su mt k6 q;exact go (eV.trans h1) an (λk=>by omega) h2
  .rw[stay (by rw[eV];unfold Ao;rw[pD h6,rQ (by have:=su.i;omega)];rfl)];exact⟨⟨FX k6 (Jz ok tm.listen h6.1 h6.2 (.inr an)),GX (r:=(w,m,zW)) k6 (Q9 ok tm.listen hs h6.1 an)⟩,Ci t ok mt iR⟩
 rw[pA k6]at eV;rw[stay eV];exact⟨Uu an,Ci t ok mt iR⟩
end
abbrev Fg:fM:=⟨0,0,0,0,0,0,0,Ay⟩
inductive AG(w0:Wor):Nat->Wor->fx->Wor->fM->Nat->Prop
 |NB {k:Nat} {w:Wor} {m:fx} (hk:10000<=k):AG w0 k w m w0 Fg 0
 |stop {k:Nat} {w w':Wor} {m m':fx} {e:fF} (h:Be w m (w',m',e)) (he:e.access=0) (hk:k<10000):AG w0 k w m w0 Fg 0
 |last {k:Nat} {w w':Wor} {m m':fx} {e:fF} (h:Be w m (w',m',e)) (he:e.access≠0) (hd:m'.done=true) (hk:k<10000):AG w0 k w m w' m'.answer (k+1)
 |more {k n:Nat} {w w' w2:Wor} {m m':fx} {e:fF} {a:fM} (h:Be w m (w',m',e)) (he:e.access≠0) (hd:m'.done=false) (hk:k<10000) (hg:AG w0 (k+1) w' m' w2 a n):AG w0 k w m w2 a n
def nZ(w0:Wor):Nat->Wor->fx->Wor×fM×Nat
 |0,_,_=>(w0,Fg,0)
 |f+1,w,m=>if (stepT w m).2.2.access=0 then (w0,Fg,0) else if (stepT w m).2.1.done then ((stepT w m).1,(stepT w m).2.1.answer,10000-f) else nZ w0 f (stepT w m).1 (stepT w m).2.1
def MX{w0:Wor}(h0:Bl w0):∀(f:Nat) {N k:Nat} {w:Wor} {m:fx},k+f=10000->N+f+1<=100000000->il N w->fG w->MT m->Bj w m->AG w0 k w m (nZ w0 f w m).1 (nZ w0 f w m).2.1 (nZ w0 f w m).2.2/\Bl (nZ w0 f w m).1
 |0,N,k,w,m,hk,hN,t,ok,mt,iR=>⟨.NB an,h0⟩
 |f+1,N,k,w,m,hk,hN,t,ok,mt,iR=>by
  obtain⟨b,tn⟩:=MS t ok mt iR an;unfold nZ;generalize stepT w m=r at b tn;obtain⟨w',m',e⟩:=r;by_cases he:e.access=0
  .rw[pD he];exact⟨.stop b he an,h0⟩
  rw[pA he];cases hd:m'.done with
  |true=>
   rw[pD V,show 10000-f=k+1 by omega];exact⟨.last b he hd an,ES tn.ok⟩
  |false=>
   rw[pA aj];obtain⟨mt',p'⟩:=tn.go hd;obtain⟨a,c⟩:=MX h0 f (k:=k+1) an an tn.ty tn.ok mt' p';exact⟨.more b he hd an a,c⟩
def Ql{n:Nat}{w w2:Wor}{t:Int}{o:fQ}{a:fM}{given:List fM}(hb:th 41 [] [I t,.agg (yB o),lA given] (Sm m) [])(hg:AG w 0 w m w2 a n):th 15 [] [Sw w,I t,.agg (yB o),lA given] (.fy [Sw w2,.agg (qY a),I n]) []:=by
 refine ab func15 ?_;refine af hb ?_;refine zH.inv (λi t1 H1=>∃(k:Nat) (wk:Wor) (mk:fx),k+i=10000/\AG w k wk mk w2 a n/\t1=(.za::.za::.za::.za::.ref 0 [] 8 0 0::.za::.ref 1 [] 10 0 0::.za::.ref 2 [] 8 0 0::.ref 3 [] 13 0 0::I 0::.ref 4 [] 44 0 0::.ref 5 [] 8 0 0::mL (.za::I k::mL (mL (mL ([])))))/\H1=[oW w,⟨1,48,10,[yB o],0⟩,⟨1,38,8,[fW],0⟩,⟨1,55,13,[qY ⟨0,0,0,0,0,0,0,Ay⟩],0⟩,oM mk,oW wk]) 10000 ?_ ?_
 .exact⟨_,_,cC,0,w,m,ah,hg,rfl,rfl⟩
 rintro i _ _ ⟨k,wk,mk,hk,hg,rfl,rfl⟩;conv=>whnf
 cases hg with
 |NB hk2=>
  refine⟨λh=>absurd (pC h) an,λ_=>dd ?_⟩;exact gF
 |stop h he hk2=>
  refine uF ?_;refine af h.pl ?_;refine⟨λ_=>dd ?_,λh=>absurd h (ai he)⟩;exact gF
 |last h he hd hk2=>
  refine uF ?_;refine af h.pl ?_;refine⟨λh=>absurd h (ai he),λ_=>dd ?_⟩;refine .inl ⟨⟨false,[0,1],[6,7],[]⟩,ak,uH ?_⟩;refine tc ?_
  refine⟨λ_=>dd ?_,λh=>absurd ((hd).symm.trans h:true=false) aj⟩;refine .inl ⟨⟨false,[0,2],[4,5],[]⟩,ak,uH ?_⟩;refine tc ?_
  refine zaW ?_;rw[zk an];exact uI
 |more h he hd hk2 hg=>
  refine uF ?_;refine af h.pl ?_;refine⟨λh=>absurd h (ai he),λ_=>dd ?_⟩;refine .inl ⟨⟨false,[0,1],[6,7],[]⟩,ak,uH ?_⟩;refine tc ?_
  refine⟨λh=>absurd ((hd).symm.trans h:false=true) aj,λ_=>dd ?_⟩;rw[zk an];exact .inl ⟨rfl,i-1,_,_,an,cE 6,k+1,_,_,an,hg,rfl,rfl⟩
end Go.Wor
namespace Go.Wor
open Go.Ab Go.Proofs Tryz Go.Gat Go.Nam Go.Hos Go.Con Go.Sna Go.Pla Go.Ply
open Go.Hy hiding encI
variable{o:fQ}{given:List fM}{s:ic}
structure DN(o:fQ):Prop where
 host:o.host.length<4000000000000
 path:o.path.length<4000000000000
 d0:i64 o.d0
 d1:i64 o.d1
 cfg:qQ o.config
def P1(hA:∀a∈given,i64 a.listen):i64 (Beg.o5 o given).listen:=by
 unfold Beg.o5;split
 .cases h:given[(Go.Pla.q7 given).getD o.n.toNat 0]? with
  |none=>exact(by decide:i64 0)
  |some a=>exact hA a (pE h)
 .exact(by decide:i64 0)
def Lh{t:Int}(po:DN o)(hA:∀a∈given,i64 a.listen):MT (Beg.xS t o given)/\(Beg.xS t o given).pc≠10:=by
 by_cases k:o.kind=2
 .rw[show Beg.xS t o given={Beg.xW t (Beg.o5 o given) with op:=o} from pD k];have hl:=P1 (o:=o) hA;generalize Beg.o5 o given=a at hl;have pc:(Beg.xW t a).pc=if a.kind=1 then 0 else 9:=rfl
  have tm:iQ {Beg.xW t a with op:=o}:=⟨by
    show i64 (if a.kind=1 then a.listen else -1);split
    .exact hl
    .decide,(by decide:u64 0),(by decide:(-1:Int)<=0/\(0:Int)<=2147483646),po.host,po.path,po.d0,po.d1,λ_=>po.cfg.k,λ_ _=>V⟩
  constructor
  .refine MT.DQ k tm (by decide:i64 0) ⟨?_,?_⟩
   .show(0<=(Beg.xW t a).pc/\(Beg.xW t a).pc<=4)\/(Beg.xW t a).pc=9;rw[pc];split <;> omega
   .intro h;have h:(Beg.xW t a).pc=1:=h;rw[pc]at h;split at h <;> omega
  .show(Beg.xW t a).pc≠10;rw[pc];split <;> decide
 .rw[show Beg.xS t o given={Beg.DJ with op:=o,zm:=t,listen:= -1} from pA k]
  exact⟨⟨⟨(by decide:i64 (-1)),(by decide:u64 0),(by decide:(-1:Int)<=0/\(0:Int)<=2147483646),po.host,po.path,po.d0,po.d1,λ_=>po.cfg.k,λ_ _=>V⟩,(by decide:i64 0),λ_=>po.cfg,λ_=>⟨.inl ⟨sW _,by show(0:Int)<=12;decide⟩,λh=>by rcases h with h|h|h <;> exact absurd (show(0:Int)=_ from h) aj⟩,
   λq=>absurd q k,λ_=>⟨sW _,by show(0:Int)<=2;decide⟩,λ_=>V,λ_=>.inl ⟨sW _,by show(0:Int)<=6;decide⟩,λ_=>⟨rfl,by show(0:Int)<6;decide⟩⟩,by show(0:Int)≠10;decide⟩
abbrev iX:=Wor×List ia×List fF
def Ib(s:iX)(t:Nat)(x:ia)(r:Wor×fx×fF):iX:=(r.1,s.2.1.set t (yh x r.2.1),s.2.2++[BC r.2.2 x])
def Fw(s:iX)(t:Nat):iX:=match s.2.1[t]? with
 |some x=>match x.ops[x.done]? with
  |some o=>Ib s t x (stepT s.1 (Bd x t o))
  |none=>s
 |none=>s
def kU(s:iX)(p:Int):iX:=match (ql s.2.1 s.2.1.length)[(p%(ql s.2.1 s.2.1.length).length).toNat]? with
 |some t=>Fw s t
 |none=>s
def oq(s:iX)(l:List Int)(k:Nat):iX:=(l.take k).foldl kU s
def Gy{s:iX}{l:List Int}{k:Nat}{p:Int}(h:l[k]?=some p):oq s l (k+1)=kU (oq s l k) p:=by
 unfold oq;obtain⟨h1,h2⟩:=px.1 h;rw[ru h1,fc,h2]
 rfl
def Ed{X:List ia}:∀{k t:Nat},t∈ql X k->∃x,X[t]?=some x/\x.done<x.ops.length
 |0,t,h=>by cases h
 |k+1,t,h=>by
  unfold ql at h;cases hx:X[k]? with
  |none=>rw[hx]at h;exact Ed h
  |some y=>
   rw[hx]at h;dsimp only at h;split at h
   .exact Ed h
   .rcases pS.1 h with h|h
    .exact Ed h
    .rw[rH.1 h];exact⟨y,hx,an⟩
structure PT(T:List (List fQ))(N:Nat)(q:iX):Prop where
 ty:il N q.1
 ok:fG q.1
 nx:NX q.1
 ops:q.2.1.map (·.ops)=T
 FE:∀(t:Nat) x,q.2.1[t]?=some x->x.given.length=x.done/\x.done<=x.ops.length/\(∀a∈x.given,i64 a.listen)/\(x.on=true->MT x.m)
def Xf(x:ia)(m:fx):(yh x m).ops=x.ops:=by unfold yh;split <;> rfl
def Hr{T:List (List fQ)}{N:Nat}{q:iX}(pt:PT T N q)(ho:∀l∈T,∀o∈l,DN o)(p:Int)(hN:N+1<=100000000):
  (ql q.2.1 q.2.1.length=[]/\kU q p=q/\PT T (N+1) (kU q p))\/∃t x o r,(ql q.2.1 q.2.1.length)[(p%(ql q.2.1 q.2.1.length).length).toNat]?=some t/\q.2.1[t]?=some x/\x.ops[x.done]?=some o/\x.ops∈T/\x.given.length=x.done/\x.done<=x.ops.length/\Be q.1 (Bd x t o) r/\kU q p=Ib q t x r/\PT T (N+1) (kU q p):=by
 by_cases ha:ql q.2.1 q.2.1.length=[]
 .have e:kU q p=q:=by
   unfold kU;rw[ha]
   rfl
  rw[e];exact .inl ⟨ha,rfl,⟨pt.ty.mono (sV N),pt.ok,pt.nx,pt.ops,pt.FE⟩⟩
 .right
  have hl:0<(ql q.2.1 q.2.1.length).length:=tz.2 ha;have b0:=sP p (show((ql q.2.1 q.2.1.length).length:Int)≠0 by omega);have b1:=sN p (show(0:Int)<(ql q.2.1 q.2.1.length).length by omega);obtain⟨t,ht⟩:∃t,(ql q.2.1 q.2.1.length)[(p%(ql q.2.1 q.2.1.length).length).toNat]?=some t:=⟨_,pq an⟩;obtain⟨x,hx,hd⟩:=Ed (pE ht);obtain⟨o,hop⟩:∃o,x.ops[x.done]?=some o:=⟨_,pq hd⟩;obtain⟨g1,g2,g3,g4⟩:=pt.FE t x hx;have xT:x.ops∈T:=by rw[<-pt.ops];exact rp.2 ⟨x,pE hx,rfl⟩
  have mt:MT (Bd x t o):=by
   unfold Bd;split
   .rename_i h;exact g4 h
   .exact(Lh (ho _ xT o (pE hop)) g3).1
  obtain⟨b,tn⟩:=MS pt.ty pt.ok mt pt.nx.iR hN
  have e:kU q p=Ib q t x (stepT q.1 (Bd x t o)):=by
   unfold kU Fw;rw[ht];dsimp only;rw[hx];dsimp only;rw[hop]
  rw[e];refine⟨t,x,o,_,ht,hx,hop,xT,g1,g2,b,rfl,?_⟩;generalize stepT q.1 (Bd x t o)=r at tn;refine⟨tn.ty,tn.ok,tn.nx pt.nx,?_,λi y hy=>?_⟩
  .show(List.set _ t (yh x r.2.1)).map (·.ops)=_;rw[sA,Xf,<-pt.ops];exact vK _ _ (by rw[pw,hx];rfl)
  .have hy:(q.2.1.set t (yh x r.2.1))[i]?=some y:=hy;rw[pM]at hy;split at hy
   .split at hy
    .obtain rfl:=rV hy;unfold yh;cases hdn:r.2.1.done with
     |true=>
      refine⟨by show(x.given++[_]).length=x.done+1;rw[rB,r7,g1],hd,λa ha=>?_,λh=>nomatch h⟩;rcases pS.1 (show a∈x.given++[r.2.1.answer] from ha) with ha|ha
      .exact g3 a ha
      .rw[rH.1 ha];exact tn.al
     |false=>exact⟨g1,g2,g3,λ_=>(tn.go hdn).1⟩
    .cases hy
   .exact pt.FE i y hy
def Nu{T:List (List fQ)}{N:Nat}{q:iX}(pt:PT T N q)(ho:∀l∈T,∀o∈l,DN o)(l:List Int):∀k,k<=l.length->N+k<=100000000->PT T (N+k) (oq q l k)
 |0,_,_=>pt
 |k+1,hk,hN=>by
  have ih:=Nu pt ho l k an an;rw[Gy (pq an)];rcases Hr ih ho (l[k]'an) an with⟨_,_,h⟩|⟨_,_,_,_,_,_,_,_,_,_,_,_,h⟩
  .exact h
  .exact h
def Xt{s:Sna}{l:List fB}{n:Int}{w:Wor}(h:k9 s l n=(w,0))(hs:y6 s)(hl:l.length<=600)(hn:∀x∈l,x.length<=reachBytes):il 600 w/\fG w/\NX w:=by
 unfold k9 at h;split at h
 .have:=sH Prod.snd h;exact absurd (show(1:Int)=0 from this) aj
 rename_i q;have hw:=(sH Prod.fst h).symm;have hw:w=⟨0,0,0,List.replicate n.toNat 0,[(qf s).1],l.map yS,List.replicate n.toNat [0,0,0,0,0,0],[]⟩:=hw
 have q1:yO s=true:=by
  cases z:yO s with
  |true=>rfl
  |false=>exact absurd (.inl z) q
 have q3:n<=8:=an
 have gf:=(J6 q1).mQ;have hc:(qf s).1=⟨s,s.zj.map kb,false⟩:=by unfold qf;rw[pD q1]
 have fr:∀g∈(qf s).1.zg,u64 g.zC/\∀e∈g.ends,e.ok:=λg hg=>by
  rw[hc]at hg;obtain⟨x,hx,rfl⟩:=rp.1 (show g∈s.zj.map kb from hg);refine⟨(by decide:u64 0),λe he=>?_⟩;rw[rS (show e∈List.replicate x.zM.length (j6 x) from he)];exact KG _
 have sn:y6 (qf s).1.snap:=by rw[hc];exact hs
 have lo:∀x∈l.map yS,x.ok:=λx hx=>by
  obtain⟨y,hy,rfl⟩:=rp.1 hx;exact⟨hn y hy,de⟩
 have one:∀v,v∈[(qf s).1]->v=(qf s).1:=λv hv=>rH.1 hv
 subst hw;refine⟨⟨by show 1<=600;decide,ai hl,by show 0<=600;decide,λv hv=>?_,lo⟩,⟨df,⟨by show 1<1000000000000;decide,λv hv=>?_⟩,⟨by show(l.map yS).length<_;rw[pz];omega,lo⟩,⟨df,λr hr=>?_⟩,by show 0<1000000000000;decide⟩,λv hv=>?_⟩
 .rw[one v hv];exact⟨sn,fr⟩
 .rw[one v hv];exact⟨sn,an,λg hg=>⟨by have:=(gf.2 g hg).1;omega,(fr g hg).2⟩⟩
 .rw[rS hr];decide
 .rw[one v hv];exact LQ s
def oX(s:ic):iX:=((qS s).1,s.threads.map w9,[])
def Fa(s:ic):iX:=oq (oX s) s.zY s.zY.length
def jT(s:ic):List fF×Wor×Int:=if (qS s).2=0 then ((Fa s).2.2,(Fa s).1,0) else ([],⟨0,0,0,[],[],[],[],[]⟩,(qS s).2)
def Hq(ok:Aq s)(hc:∀l∈s.threads,∀o∈l,qQ o.config):∀l∈s.threads,∀o∈l,DN o:=λl hl o ho=>by
 have a:=ok.ops l hl o ho;exact⟨a.1,a.2.1,a.2.2.1,a.2.2.2.1,hc l hl o ho⟩
def GM(ok:Aq s)(h:(qS s).2=0):PT s.threads 600 (oX s):=by
 obtain⟨q,hn⟩:=yV h;obtain⟨p1,p2,p3,p4,p5,p6⟩:=yl q;obtain⟨a,b,c⟩:=Xt hn (vu (ok.cfg p1)) (TR q) ok.names;refine⟨a,b,c,?_,λt x hx=>?_⟩
 .show(s.threads.map w9).map (·.ops)=s.threads;rw[sJ];exact List.map_id _
 .have hx:(s.threads.map w9)[t]?=some x:=hx;obtain⟨L,_,rfl⟩:=rq.1 ((pw ..).symm.trans hx);exact⟨rfl,pW _,λa ha=>(by cases ha),λh=>nomatch h⟩
def EB(ok:Aq s)(hc:∀l∈s.threads,∀o∈l,qQ o.config)(h:(qS s).2=0)(k:Nat)(hk:k<=s.zY.length):PT s.threads (600+k) (oq (oX s) s.zY k):=by
 obtain⟨q,_⟩:=yV h;obtain⟨_,_,_,p4,_,_⟩:=yl q;exact Nu (GM ok h) (Hq ok hc) s.zY k hk an
def Hu(s:ic)(ok:Aq s)(hc:∀l∈s.threads,∀o∈l,qQ o.config):th 6 [] [.agg (vA s)] (.fy [lq (jT s).1,.agg (xc (jT s).2.1),I (jT s).2.2]) []:=by
 have hb:=wS s ok.wk ok.cfg ok.Im λ_ x hx=>by have:=ok.names x hx;unfold reachBytes at this;omega
 have w:=Vc s (qS s) (λk=>oq (oX s) s.zY k) hb (λh=>by
   obtain⟨q,_⟩:=yV h;obtain⟨_,_,p3,p4,_,p6⟩:=yl q;exact⟨p3,p4,λp hp=>⟨p6 p hp,ok.zY p hp⟩⟩) V λh k p hp=>by
  have hk:=(px.1 hp).1;have pt:=EB ok hc h k an;obtain⟨q,_⟩:=yV h;obtain⟨_,_,p3,p4,p5,_⟩:=yl q;refine⟨?_⟩;(try dsimp only)
  rw[Gy hp];rcases Hr pt (Hq ok hc) p an with⟨ha,e,_⟩|⟨t,x,o,r,ht,hx,hop,xT,g1,g2,b,e,_⟩
  .exact .inl ⟨ha,e⟩
  .right
   have xl:=(p5 x.ops xT).1
   have hX:(oq (oX s) s.zY k).2.1.length<=8:=by
    have:=sH List.length pt.ops;rw[pz]at this;omega
   rw[e];exact⟨t,x,BC r.2.2 x,ht,hx,by show(List.set _ _ _).length=_;rw[sF],rfl,Wu hx hop hX an an b.pl⟩
 unfold jT;by_cases h:(qS s).2=0
 .rw[pD h,pD h]at w;rw[pD h];rw[h]at w;exact w
 .rw[pA h,pA h]at w;rw[pA h];exact w
end Go.Wor
namespace Go.Run
open Go.Ab Go.Proofs Tryz Go.Gat Go.Nam Go.Hos Go.Con Go.Sna Go.Pla Go.Ply Go.Wor
open Go.Hy hiding encI
def Il:(qS jM).2=0:=by kernel_rfl
abbrev wB:Wor:=(qS jM).1
def IF:qQ ⟨[],[],[]⟩:=⟨⟨aj,aj⟩,⟨aj,aj⟩,⟨aj,aj⟩⟩
def Iy:∀l∈jM.threads,∀o∈l,qQ o.config:=λl hl o ho=>by
 have e:o.config=⟨[],[],[]⟩:=by
  simp only[s4,List.not_mem_nil,or_false]at hl;rcases hl with rfl|rfl <;> simp only[s4,List.not_mem_nil,or_false]at ho
  .rcases ho with rfl|rfl|rfl <;> rfl
  .subst ho;rfl
 rw[e];exact IF
def bX:PT jM.threads 600 (oX jM):=GM AL Il
def NP:qQ DK:=AL.cfg ak
def hP:th 6 [] [.agg (CG (lI (vF 60)))] (.fy [lq (jT jM).1,.agg (xc (jT jM).2.1),I (jT jM).2.2]) []:=
 Go.Dep.zb.DB 9 (Hu jM AL Iy) ak ak
def hE:th 6 [] [.agg [.fq 1 0 [],.fq 1 0 [],.fq 1 0 [],.fq 1 0 [],.fq 1 0 []]] (.fy [lq (jT AB).1,.agg (xc (jT AB).2.1),I (jT AB).2.2]) []:=
 Go.Dep.zb.DB 9 (Hu AB NN λl hl=>by cases hl) ak ak
def hB:th 8 [] [.agg (CG (lI (vF 60)))] (.fy [.agg (xc wB),I 0]) []:=by
 have h:=wS jM AL.wk AL.cfg AL.Im λ_ x hx=>by have:=AL.names x hx;unfold reachBytes at this;omega
 have h0:=Il;have e:qS jM=(wB,0):=by rw[<-h0]
 rw[e]at h;exact Go.Dep.zb.DB 9 h ak ak
def L9(t:Int)(c:fZ)(hc:qQ c):th 15 [] [Sw wB,I t,.agg (yB (nM c)),lA []] (.fy [Sw (nZ wB 10000 wB (Beg.xS t (nM c) [])).1,.agg (qY (nZ wB 10000 wB (Beg.xS t (nM c) [])).2.1),I (nZ wB 10000 wB (Beg.xS t (nM c) [])).2.2]) []:=
 Ql (Beg.Jd t (nM c) [] aj) (MX (ES bX.ok) 10000 (k:=0) V aj bX.ty bX.ok (Lh ⟨by show(0:Nat)<_;decide,by show(0:Nat)<_;decide,(by decide:i64 0),(by decide:i64 0),hc⟩ λa ha=>by cases ha).1 bX.nx.iR).1
abbrev xB:Wor:=(nZ wB 10000 wB (Beg.xS 0 (nM DK) [])).1
def hA:th 15 [] [.agg (xc wB),I 0,.agg ([I 3,Tx [],Tx [],Tx [],I 0,I 0,I 0]++Fj),.fq 1 0 []] (.fy [.agg (xc xB),.agg (qY ⟨8,1,0,0,0,0,0,⟨0,0,0,0,0,0⟩⟩),I (3:Nat)]) []:=by
 have h:=L9 0 DK NP;have e1:(nZ wB 10000 wB (Beg.xS 0 (nM DK) [])).2=(⟨8,1,0,0,0,0,0,⟨0,0,0,0,0,0⟩⟩,3):=ak
 rw[e1]at h;exact Go.Dep.zb.DB 9 h ak ak
def hN:th 15 [] [.agg (xc wB),I 9,.agg [I 3,Tx [],Tx [],Tx [],I 0,I 0,I 0,.fq 1 0 [],.fq 1 0 [],.fq 1 0 []],.fq 1 0 []] (.fy [.agg (xc wB),.agg (qY ⟨0,0,0,0,0,0,0,⟨0,0,0,0,0,0⟩⟩),I 0]) []:=by
 have h:=L9 9 ⟨[],[],[]⟩ IF;have e1:nZ wB 10000 wB (Beg.xS 9 (nM ⟨[],[],[]⟩) [])=(wB,⟨0,0,0,0,0,0,0,⟨0,0,0,0,0,0⟩⟩,0):=ak
 rw[e1]at h;exact Go.Dep.zb.DB 9 h ak ak
def hH:th 34 [] [.agg (xc (jT jM).2.1)] (I (0:Nat)) []:=by
 have pt:=EB AL Iy Il 60 (Nat.le_of_eq ak);have e:(oq (oX jM) jM.zY 60).1=(jT jM).2.1:=ak
 have e0:Ad (jT jM).2.1=0:=ak
 have gw:j8 (jT jM).2.1:=qt.1 ak;have ty:=pt.ty;rw[e]at ty;have h:=QJ (jT jM).2.1 (WZ gw ty aj);rw[e0]at h;exact h
def Qw:th 10 [] [] (Bo true) []:=by
 have f1:(jT jM).1.length=30:=ak
 have f2:(jT jM).2.2=0:=ak
 have f3:(Cal.lX (jT jM).1).2=0:=ak
 have f4:((Cal.lX (jT jM).1).1.map λc=>(c.zm,c.answer.kind))=[(0,1),(1,10),(0,6),(0,5)]:=ak
 have f5:(jT jM).2.1.zc=[⟨iV,true,0,false⟩]:=ak
 have f6:wB.pins.length=2:=ak
 have f7:(jT AB).1=[]:=ak
 have f8:(jT AB).2.2=1:=ak
 have f9:(xB).current=1:=ak
 have hC:=Cal.VB (jT jM).1 (by rw[f1];decide);have hP:=hP;have hE:=hE;have hB:=hB;have hA:=hA;have hN:=hN;have hH:=hH;rw[f2]at hP;rw[f7,f8]at hE;generalize xB=x at *;generalize wB=b at *;generalize (jT AB).2.1=zw at *;generalize (jT jM).2.1=w at *;generalize (jT jM).1=l at *;generalize Cal.lX l=q at *;obtain⟨cs,er⟩:=q;have f3:er=0:=f3;subst f3;obtain⟨c0,cs,rfl,g0,f4⟩:=uu.1 f4;obtain⟨c1,cs,rfl,g1,f4⟩:=uu.1 f4;obtain⟨c2,cs,rfl,g2,f4⟩:=uu.1 f4;obtain⟨c3,cs,rfl,g3,f4⟩:=uu.1 f4;obtain rfl:=List.map_eq_nil_iff.1 f4;have h (a b c d:Int) (h:(a,b)=(c,d)):a=c/\b=d:=by cases h;exact gO
 exact Rt hP f1 hC hE hB hA hN hH (h _ _ _ _ g0).2 (h _ _ _ _ g1).2 (h _ _ _ _ g1).1 (h _ _ _ _ g2).2 (h _ _ _ _ g3).2 f5 f6 f9
end Go.Run
