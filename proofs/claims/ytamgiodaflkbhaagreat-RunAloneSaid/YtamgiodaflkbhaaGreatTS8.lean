import Derived.Test.YtamgiodaflkbhaaGreatTK
import Derived.Test.YtamgiodaflkbhaaGreatTS5
import Derived.Test.YtamgiodaflkbhaaGreatTQ
import Derived.Test.YtamgiodaflkbhaaGreatT9
set_option linter.all false
set_option maxRecDepth 100000
set_option maxHeartbeats 4000000
namespace Go.Wor
open Go.Ab Go.Proofs Tryz Go.Gat Go.Nam Go.Hos Go.Con Go.Sna Go.Pla
open Go.Hy hiding encI
section
variable {w:Wor} {m:eQ}
def T8(ok:fa w)(hl:i64 m.listen)(h0:3<=m.pc)(h1:m.pc<=23)(hs:zE w m=false):th 137 [] [Cw w,Cm m] (Sr w m zY) []:=by
 refine ab func137 ?_;(repeat (first|(refine⟨λ_=>?_,?_⟩;rotate_left 1;(focus (intro h;first|(have h:=gQ h;omega)|(have h:=gR h;omega)|(simp at h;omega)));(refine dd ?_))|(refine⟨?_,λ_=>?_⟩;(focus (intro h;first|(have h:=gQ h;omega)|(have h:=gR h;omega)|(simp at h;omega)));(refine dd ?_))))
 exact zaO
def Qh(ok:fa w)(hl:i64 m.listen)(h0:(0<=m.pc/\m.pc<=4)\/m.pc=9)(hs:zE w m=false):th 138 [] [Cw w,Cm m] (Sr w m zY) []:=by
 refine ab func138 ?_;rcases(by omega:(0<=m.pc/\m.pc<=4)\/m.pc=9) with h2|h2
 all_goals
  (repeat (first|(refine⟨λ_=>?_,?_⟩;rotate_left 1;(focus (intro h;first|(have h:=gQ h;omega)|(have h:=gR h;omega)|(simp at h;omega)));(refine dd ?_))|(refine⟨?_,λ_=>?_⟩;(focus (intro h;first|(have h:=gQ h;omega)|(have h:=gR h;omega)|(simp at h;omega)));(refine dd ?_))))
  exact zaO
def O5(ok:fa w)(hl:i64 m.listen)(h0:m.pc=4)(h1:m.listen<0)(hs:zE w m=true):th 138 [] [Cw w,Cm m] (Sr w m zY) []:=by
 refine ab func138 ?_;(repeat (first|(refine⟨λ_=>?_,?_⟩;rotate_left 1;(focus (intro h;first|(have h:=gQ h;omega)|(have h:=gR h;omega)|(simp at h;omega)));(refine dd ?_))|(refine⟨?_,λ_=>?_⟩;(focus (intro h;first|(have h:=gQ h;omega)|(have h:=gR h;omega)|(simp at h;omega)));(refine dd ?_))))
 refine zab ?_;(repeat (first|(refine⟨λ_=>?_,?_⟩;rotate_left 1;(focus (intro h;first|(have h:=gQ h;omega)|(have h:=gR h;omega)|(simp at h;omega)));(refine dd ?_))|(refine⟨?_,λ_=>?_⟩;(focus (intro h;first|(have h:=gQ h;omega)|(have h:=gR h;omega)|(simp at h;omega)));(refine dd ?_))))
 exact zag
def QE(ok:fa w)(hl:i64 m.listen)(h0:0<=m.pc/\m.pc<=2)(hs:zE w m=false):th 139 [] [Cw w,Cm m] (Sr w m zY) []:=by
 refine ab func139 ?_;(repeat (first|(refine⟨λ_=>?_,?_⟩;rotate_left 1;(focus (intro h;first|(have h:=gQ h;omega)|(have h:=gR h;omega)|(simp at h;omega)));(refine dd ?_))|(refine⟨?_,λ_=>?_⟩;(focus (intro h;first|(have h:=gQ h;omega)|(have h:=gR h;omega)|(simp at h;omega)));(refine dd ?_))))
 exact zaO
def OO(ok:fa w)(hl:i64 m.listen)(h0:m.pc=2)(hs:zE w m=true)(hv:yD w m=true):th 139 [] [Cw w,Cm m] (Sr w m zY) []:=by
 refine ab func139 ?_;(repeat (first|(refine⟨λ_=>?_,?_⟩;rotate_left 1;(focus (intro h;first|(have h:=gQ h;omega)|(have h:=gR h;omega)|(simp at h;omega)));(refine dd ?_))|(refine⟨?_,λ_=>?_⟩;(focus (intro h;first|(have h:=gQ h;omega)|(have h:=gR h;omega)|(simp at h;omega)));(refine dd ?_))))
 refine zab ?_;(repeat (first|(refine⟨λ_=>?_,?_⟩;rotate_left 1;(focus (intro h;first|(have h:=gQ h;omega)|(have h:=gR h;omega)|(simp at h;omega)));(refine dd ?_))|(refine⟨?_,λ_=>?_⟩;(focus (intro h;first|(have h:=gQ h;omega)|(have h:=gR h;omega)|(simp at h;omega)));(refine dd ?_))))
 refine td ?_
 refine af (Fl w m ok) ?_;refine⟨λ_=>dd ?_,λh=>absurd ((hv).symm.trans h:true=false) aj⟩;exact zag
def Qe(ok:fa w)(hl:i64 m.listen)(h0:m.pc=0)(hs:zE w m=false):th 140 [] [Cw w,Cm m] (Sr w m zY) []:=by
 refine ab func140 ?_;refine⟨λh=>absurd h (by simp[h0]),λ_=>dd ?_⟩;exact zaO
def Qd(ok:fa w)(hl:i64 m.listen)(hs:zE w m=false):th 141 [] [Cw w,Cm m] (Sr w m zY) []:=by
 refine ab func141 ?_;exact zaO
def OV(ok:fa w)(hl:i64 m.listen)(hs:zE w m=true)(hm:th 182 [] [Cw w,Cm m] (Bo false) []):th 141 [] [Cw w,Cm m] (Sr w m zY) []:=by
 refine ab func141 ?_;refine zbd ?_
 refine af hm ?_;exact zag
def IW(ok:fa w)(hl:i64 m.listen)(h0:m.pc=0)(hk:m.k<6)(hs:zE w m=false\/(w.counts.length:Int)<=m.i):th 142 [] [Cw w,Cm m] (Sr w m zY) []:=by
 have ml:(w.counts.map zA).length=w.counts.length:=gO ..;refine ab func142 ?_;refine⟨λh=>absurd h (by simp[h0]),λ_=>dd ?_⟩;refine zbv ?_;rw[ml];refine⟨λhi=>?_,λhi=>?_⟩
 .refine dd ?_;exact zag
 .have hs:zE w m=false:=hs.resolve_right λq=>by have hi:=gR hi;omega
  refine dd ?_;exact zaO
def XQ(hpc:m.pc=2)(h:(w.pins.length:Int)<=m.i):th 182 [] [Cw w,Cm m] (Bo false) []:=by
 have ml:(w.pins.map Go.Hy.encI).length=w.pins.length:=gO ..;refine ab func182 ?_;((repeat (first|(refine⟨λ_=>?_,?_⟩;rotate_left 1;(focus (intro h;first|(have h:=gQ h;omega)|(have h:=gR h;omega)|(simp at h;omega)));(refine dd ?_))|(refine⟨?_,λ_=>?_⟩;(focus (intro h;first|(have h:=gQ h;omega)|(have h:=gR h;omega)|(simp at h;omega)));(refine dd ?_)))))
 exact uI
def Mz(hpc:m.pc=9\/m.pc=10)(h:(w.zc.length:Int)<=m.i):th 182 [] [Cw w,Cm m] (Bo false) []:=by
 have ml:(w.zc.map zU).length=w.zc.length:=gO ..;rcases hpc with hpc|hpc
 all_goals
  refine ab func182 ?_;((repeat (first|(refine⟨λ_=>?_,?_⟩;rotate_left 1;(focus (intro h;first|(have h:=gQ h;omega)|(have h:=gR h;omega)|(simp at h;omega)));(refine dd ?_))|(refine⟨?_,λ_=>?_⟩;(focus (intro h;first|(have h:=gQ h;omega)|(have h:=gR h;omega)|(simp at h;omega)));(refine dd ?_)))))
  (try rw[ml])
  (repeat (first|(refine⟨λ_=>?_,?_⟩;rotate_left 1;(focus (intro h;first|(have h:=gQ h;omega)|(have h:=gR h;omega)|(simp at h;omega)));(refine dd ?_))|(refine⟨?_,λ_=>?_⟩;(focus (intro h;first|(have h:=gQ h;omega)|(have h:=gR h;omega)|(simp at h;omega)));(refine dd ?_))))
  exact uI
def XR(v:eX)(hf:mR v)(hpc:m.pc=5)(hv:lS w m v)(h:((jb v).length:Int)<=m.k):th 182 [] [Cw w,Cm m] (Bo false) []:=by
 have a0:=hv.v0;have a1:=hv.row;refine ab func182 ?_;((repeat (first|(refine⟨λ_=>?_,?_⟩;rotate_left 1;(focus (intro h;first|(have h:=gQ h;omega)|(have h:=gR h;omega)|(simp at h;omega)));(refine dd ?_))|(refine⟨?_,λ_=>?_⟩;(focus (intro h;first|(have h:=gQ h;omega)|(have h:=gR h;omega)|(simp at h;omega)));(refine dd ?_)))))
 refine .inl ⟨⟨true,[],[],[8]⟩,ak,uH ?_⟩;(refine⟨a0,_,a1,dd ?_⟩)
 refine af (IL v hf) ?_;(repeat (first|(refine⟨λ_=>?_,?_⟩;rotate_left 1;(focus (intro h;first|(have h:=gQ h;omega)|(have h:=gR h;omega)|(simp at h;omega)));(refine dd ?_))|(refine⟨?_,λ_=>?_⟩;(focus (intro h;first|(have h:=gQ h;omega)|(have h:=gR h;omega)|(simp at h;omega)));(refine dd ?_))))
 exact uI
def XS(hpc:m.pc=6)(h0:0<=m.i)(h:∀r,w.zn[m.i.toNat]?=some r->¬(r.version=m.version/\r.gone=false)):th 182 [] [Cw w,Cm m] (Bo false) []:=by
 have ml:(w.zn.map qh).length=w.zn.length:=gO ..;by_cases hi:m.i<w.zn.length
 .obtain⟨r,hx⟩:∃r,w.zn[m.i.toNat]?=some r:=⟨_,gL an⟩;have hg:(w.zn.map qh)[m.i.toNat]?=some (qh r):=by rw[gM,hx];rfl
  have hn:=h r hx;obtain⟨rv,ra,rg⟩:=r;refine ab func182 ?_;((repeat (first|(refine⟨λ_=>?_,?_⟩;rotate_left 1;(focus (intro h;first|(have h:=gQ h;omega)|(have h:=gR h;omega)|(simp at h;omega)));(refine dd ?_))|(refine⟨?_,λ_=>?_⟩;(focus (intro h;first|(have h:=gQ h;omega)|(have h:=gR h;omega)|(simp at h;omega)));(refine dd ?_)))))
  refine uE ?_;rw[ml];(repeat (first|(refine⟨λ_=>?_,?_⟩;rotate_left 1;(focus (intro h;first|(have h:=gQ h;omega)|(have h:=gR h;omega)|(simp at h;omega)));(refine dd ?_))|(refine⟨?_,λ_=>?_⟩;(focus (intro h;first|(have h:=gQ h;omega)|(have h:=gR h;omega)|(simp at h;omega)));(refine dd ?_))))
  (refine⟨h0,_,hg,dd ?_⟩)
  refine⟨λhq=>?_,λhq=>?_⟩
  .have hq2:rv=m.version:=eq_of_beq hq;have hr:rg=true:=by cases rg with|true=>rfl|false=>exact absurd ⟨hq2,rfl⟩ hn
   subst hr;refine dd ?_;refine zav ?_
   (refine⟨h0,_,hg,dd ?_⟩)
   refine zav ?_
   exact uI
  .refine dd ?_;refine zav ?_
   exact uI
 .refine ab func182 ?_;((repeat (first|(refine⟨λ_=>?_,?_⟩;rotate_left 1;(focus (intro h;first|(have h:=gQ h;omega)|(have h:=gR h;omega)|(simp at h;omega)));(refine dd ?_))|(refine⟨?_,λ_=>?_⟩;(focus (intro h;first|(have h:=gQ h;omega)|(have h:=gR h;omega)|(simp at h;omega)));(refine dd ?_)))))
  refine uE ?_;rw[ml];(repeat (first|(refine⟨λ_=>?_,?_⟩;rotate_left 1;(focus (intro h;first|(have h:=gQ h;omega)|(have h:=gR h;omega)|(simp at h;omega)));(refine dd ?_))|(refine⟨?_,λ_=>?_⟩;(focus (intro h;first|(have h:=gQ h;omega)|(have h:=gR h;omega)|(simp at h;omega)));(refine dd ?_))))
  refine td ?_
  exact uI
def Xa(l:fj)(hpc:m.pc=10)(h0:0<=m.i)(hx:w.zc[m.i.toNat]?=some l)(h1:l.drain=false):th 182 [] [Cw w,Cm m] (Bo false) []:=by
 have hg:(w.zc.map zU)[m.i.toNat]?=some (zU l):=by rw[gM,hx];rfl
 have eP:=(gN.1 hx).1;have ml:(w.zc.map zU).length=w.zc.length:=gO ..;obtain⟨ln,ld,la,lc⟩:=l;cases h1
 refine ab func182 ?_;((repeat (first|(refine⟨λ_=>?_,?_⟩;rotate_left 1;(focus (intro h;first|(have h:=gQ h;omega)|(have h:=gR h;omega)|(simp at h;omega)));(refine dd ?_))|(refine⟨?_,λ_=>?_⟩;(focus (intro h;first|(have h:=gQ h;omega)|(have h:=gR h;omega)|(simp at h;omega)));(refine dd ?_)))))
 rw[ml];(repeat (first|(refine⟨λ_=>?_,?_⟩;rotate_left 1;(focus (intro h;first|(have h:=gQ h;omega)|(have h:=gR h;omega)|(simp at h;omega)));(refine dd ?_))|(refine⟨?_,λ_=>?_⟩;(focus (intro h;first|(have h:=gQ h;omega)|(have h:=gR h;omega)|(simp at h;omega)));(refine dd ?_))))
 (refine⟨h0,_,hg,dd ?_⟩)
 refine zav ?_
 exact uI
def Wu(ok:fa w)(hl:i64 m.listen)(hs:zE w m=false)(h1:m.op.kind=1->0<=m.pc/\m.pc<=23)(h2:m.op.kind=2->(0<=m.pc/\m.pc<=4)\/m.pc=9)(h3:m.op.kind=3->0<=m.pc/\m.pc<=2)(h4:m.op.kind=4->m.pc=0)(h6:m.op.kind=6->m.pc=0/\m.k<6):th 42 [] [Sw w,Sm m] (Sr w m lz) []:=by
 by_cases k:1<=m.op.kind/\m.op.kind<=6
 rotate_left
 .exact IM w m k
 rcases(by omega:m.op.kind=1\/m.op.kind=2\/m.op.kind=3\/m.op.kind=4\/m.op.kind=5\/m.op.kind=6) with k|k|k|k|k|k
 .refine IX k ?_;by_cases p:m.pc<3
  .exact Dr (h1 k).1 p (PQ w m ok hl (h1 k).1 p hs)
  .exact T8 ok hl an (h1 k).2 hs
 .exact E7 k (Qh ok hl (h2 k) hs)
 .exact E8 k (QE ok hl (h3 k) hs)
 .exact IY k (Qe ok hl (h4 k) hs)
 .exact E9 k (Qd ok hl hs)
 .exact Fa k (IW ok hl (h6 k).1 (h6 k).2 (.inl hs))
end
section
variable {w:Wor} {m:eQ}
def R7(ok:fa w)(hl:i64 m.listen)(hs:zE w m=false):th 48 [] [Cw w,Cm m] (Sr w m zY) []:=by
 refine ab func48 ?_;refine zbL ?_
 exact zag
def R8(ok:fa w)(hl:i64 m.listen)(hs:zE w m=false):th 49 [] [Cw w,Cm m] (Sr w m zY) []:=by
 refine ab func49 ?_;refine zbL ?_
 exact zag
def QV(ok:fa w)(hl:i64 m.listen)(h0:m.pc=4)(h1:m.listen<0)(hs:zE w m=true):th 49 [] [Cw w,Cm m] (Sr w m zY) []:=by
 refine ab func49 ?_;refine zbL ?_
 (try (refine td ?_))
 (repeat (first|(refine⟨λ_=>?_,?_⟩;rotate_left 1;(focus (intro h;first|(have h:=gQ h;omega)|(have h:=gR h;omega)|(have h:=eq_of_beq h;omega)|(simp at h;omega)));(refine dd ?_))|(refine⟨?_,λ_=>?_⟩;(focus (intro h;first|(have h:=gQ h;omega)|(have h:=gR h;omega)|(have h:=eq_of_beq h;omega)|(simp at h;omega)));(refine dd ?_))))
 exact zag
def R9(ok:fa w)(hl:i64 m.listen)(hs:zE w m=false):th 50 [] [Cw w,Cm m] (Sr w m zY) []:=by
 refine ab func50 ?_;refine zbL ?_
 exact zag
def Uv(hl:w.zn.length<4000000000000000000)(h:yD w m=true):th 99 [] [Cw w,Cm m] (Bo true) []:=by
 have m4:(w.zn.map qh).length=w.zn.length:=gO ..;refine ab func99 ?_;refine zH.seq w.zn.length (λk=>(.za::.za::.ref 0 [] 8 0 0::.ref 1 [] 44 0 0::Bo false::I k::mK (mK (mK (mK ([.za])))))) (λk=>[oW w,oM m]) (λk=>∀j,(h:j<w.zn.length)->j<k->(w.zn[j].version == m.version)=false) ?_ ah (λk hk hr=>?_) (λhr=>?_)
 .exact cC
 .obtain⟨x,hx⟩:∃x,x=w.zn[k]:=⟨_,rfl⟩;have hg:(w.zn.map qh)[k]?=some (qh x):=by rw[gM,gL hk,hx];rfl
  conv=>whnf
  rw[m4];refine zaZ ?_
  refine⟨λhv=>?_,λhv=>?_⟩
  .refine zbw ?_
   exact uI
  refine dd ?_;refine .inl ⟨rfl,?_,λi hi hij=>?_⟩
  .exact dH
  .by_cases e:i=k
   .subst e;rw[<-hx];exact hv
   .exact hr i hi an
 .have h0:(w.zn.any λr=>r.version == m.version)=false:=by
   rw[pI];intro x hx;obtain⟨i,hi,rfl⟩:=pz.1 hx;simp[hr i hi hi]
  unfold yD at h;rw[h0]at h;simp only[rV,rI,pE,pU]at h;refine uD ?_;refine⟨λq1=>?_,λq1=>?_⟩
  .refine zac ?_
   exact uI
  refine dd ?_;refine⟨λq2=>?_,λq2=>?_⟩
  .refine zac ?_
   exact uI
  refine dd ?_;refine⟨λ_=>?_,λq=>?_⟩
  .refine zac ?_
   exact uI
  .exfalso
   have q1:¬m.version=w.current:=ai q1
   have q2:=gR q2;have q:=gR q;omega
def QW(ok:fa w)(hl:i64 m.listen)(h0:m.pc=2)(hs:zE w m=true)(hv:yD w m=true):th 50 [] [Cw w,Cm m] (Sr w m zY) []:=by
 refine ab func50 ?_;refine zbL ?_
 (try (refine td ?_))
 (repeat (first|(refine⟨λ_=>?_,?_⟩;rotate_left 1;(focus (intro h;first|(have h:=gQ h;omega)|(have h:=gR h;omega)|(have h:=eq_of_beq h;omega)|(simp at h;omega)));(refine dd ?_))|(refine⟨?_,λ_=>?_⟩;(focus (intro h;first|(have h:=gQ h;omega)|(have h:=gR h;omega)|(have h:=eq_of_beq h;omega)|(simp at h;omega)));(refine dd ?_))))
 refine af (Uv (by have:=ok.zn;omega) hv) ?_;exact zag
def Sa(ok:fa w)(hl:i64 m.listen)(hs:zE w m=false):th 51 [] [Cw w,Cm m] (Sr w m zY) []:=by
 refine ab func51 ?_;refine zbL ?_
 exact zag
def QZ(ok:fa w)(hl:i64 m.listen)(hs:zE w m=false):th 102 [] [Cw w,Cm m] (Bo false) []:=by
 refine ab func102 ?_;refine zbL ?_
 (try (refine td ?_))
 exact uI
def QX(ok:fa w)(hl:i64 m.listen){v:eX}{g:Gr}{e:En}(su:jN w m v g e)(fv:mR v)(hm:Aw w m=false):th 102 [] [Cw w,Cm m] (Bo false) []:=by
 have m1:(w.pins.map Go.Hy.encI).length=w.pins.length:=gO ..;have m3:(w.zc.map zU).length=w.zc.length:=gO ..;have m4:(w.zn.map qh).length=w.zn.length:=gO ..;have hs:=vT su;have hi:=su.i;unfold Aw at hm;refine ab func102 ?_;refine af (zQ w m ok hl) ?_;rw[hs];refine td ?_
 refine⟨λq1=>?_,λq1=>?_⟩
 .refine zac ?_
  exact uI
 refine dd ?_;refine⟨λq2=>?_,λq2=>?_⟩
 .refine zac ?_
  exact uI
 refine dd ?_;refine⟨λq3=>?_,λq3=>?_⟩
 .refine zac ?_
  exact uI
 refine zac ?_
 refine⟨λp2=>?_,λp2=>?_⟩
 .rw[gS (eq_of_beq p2)]at hm;refine dd ?_;rw[m1,hm];refine td ?_
  exact uI
 have n2:¬m.pc=2:=ai p2
 rw[gP n2]at hm;refine dd ?_;refine⟨λp5=>?_,λp5=>?_⟩
 .rw[gS (eq_of_beq p5),su.fR]at hm;have gv:(w.zd.map zt)[m.version.toNat]?=some (zt v):=by rw[gM,su.fR];rfl
  have hm:decide (m.k<(jb v).length)=false:=hm;refine dd ?_;refine uE ?_;refine⟨su.version.1,_,gv,uH ?_⟩;refine af (Fe v fv) ?_;rw[hm];refine td ?_
  exact uI
 have n5:¬m.pc=5:=ai p5
 rw[gP n5]at hm;refine dd ?_;refine⟨λp6=>?_,λp6=>?_⟩
 .rw[gS (eq_of_beq p6)]at hm;refine dd ?_;refine uE ?_;rw[m4];refine⟨λli=>?_,λli=>?_⟩
  .have li:=gQ li;obtain⟨r,hr⟩:∃r,w.zn[m.i.toNat]?=some r:=⟨_,gL an⟩;have gr:(w.zn.map qh)[m.i.toNat]?=some (qh r):=by rw[gM,hr];rfl
   rw[hr]at hm;have hm:((r.version == m.version) && !r.gone)=false:=hm;refine dd ?_;refine⟨hi,_,gr,uH ?_⟩;refine⟨λrv=>?_,λrv=>?_⟩
   .rw[rv]at hm;have hm:r.gone=true:=by simpa using hm
    refine dd ?_;refine⟨hi,_,gr,uH ?_⟩;refine⟨λ_=>dd ?_,λq=>absurd (hm.symm.trans q) aj⟩;refine td ?_
    exact uI
   .refine zac ?_
    exact uI
  .refine zac ?_
   exact uI
 have n6:¬m.pc=6:=ai p6
 rw[gP n6]at hm;refine dd ?_;refine⟨λp8=>?_,λp8=>?_⟩
 .have p8:=gQ p8;have q2:=gR q2;refine dd ?_;rw[m3];refine⟨λli=>?_,λli=>?_⟩
  .have li:=gQ li;obtain⟨l,hr⟩:∃l,w.zc[m.i.toNat]?=some l:=⟨_,gL an⟩;have gl:(w.zc.map zU)[m.i.toNat]?=some (zU l):=by rw[gM,hr];rfl
   have n9:¬m.pc=9:=λq=>by
    rw[gS q]at hm;have:=gR hm;omega
   rw[gP n9,gS an,hr]at hm;have hm:l.drain=false:=hm;refine dd ?_;refine⟨λq=>absurd (eq_of_beq q) n9,λ_=>dd ?_⟩;refine⟨hi,_,gl,uH ?_⟩;refine⟨λq=>absurd (hm.symm.trans q) aj,λ_=>dd ?_⟩;refine td ?_
   exact uI
  .refine zac ?_
   exact uI
 exfalso
 have p8:=gR p8;rw[gP an,gP an]at hm;cases hm
def QY(hm:th 102 [] [Cw w,Cm m] (Bo false) []):th 52 [] [Cw w,Cm m] (Sr w m zY) []:=by
 refine ab func52 ?_;refine af hm ?_;exact zag
def Sb(ok:fa w)(hl:i64 m.listen)(hs:zE w m=false):th 52 [] [Cw w,Cm m] (Sr w m zY) []:=by
 refine ab func52 ?_;refine af (QZ ok hl hs) ?_;exact zag
def Sc(ok:fa w)(hl:i64 m.listen)(hs:zE w m=false):th 53 [] [Cw w,Cm m] (Sr w m zY) []:=by
 refine ab func53 ?_;refine zbL ?_
 exact zag
def Q0(ok:fa w)(hl:i64 m.listen)(hs:zE w m=true)(h0:m.pc=0)(hi:(w.counts.length:Int)<=m.i):th 53 [] [Cw w,Cm m] (Sr w m zY) []:=by
 have ml:(w.counts.map zA).length=w.counts.length:=gO ..;refine ab func53 ?_;refine zbL ?_
 (try (refine td ?_))
 (repeat (first|(refine⟨λ_=>?_,?_⟩;rotate_left 1;(focus (intro h;first|(have h:=gQ h;omega)|(have h:=gR h;omega)|(have h:=eq_of_beq h;omega)|(simp at h;omega)));(refine dd ?_))|(refine⟨?_,λ_=>?_⟩;(focus (intro h;first|(have h:=gQ h;omega)|(have h:=gR h;omega)|(have h:=eq_of_beq h;omega)|(simp at h;omega)));(refine dd ?_))))
 (try rw[ml])
 (repeat (first|(refine⟨λ_=>?_,?_⟩;rotate_left 1;(focus (intro h;first|(have h:=gQ h;omega)|(have h:=gR h;omega)|(have h:=eq_of_beq h;omega)|(simp at h;omega)));(refine dd ?_))|(refine⟨?_,λ_=>?_⟩;(focus (intro h;first|(have h:=gQ h;omega)|(have h:=gR h;omega)|(have h:=eq_of_beq h;omega)|(simp at h;omega)));(refine dd ?_))))
 exact zag
def JT(hk:¬(1<=m.op.kind/\m.op.kind<=6)):th 23 [] [Sw w,Sm m] (Sr w m zY) []:=by
 refine ab func23 ?_;refine zal ?_
 refine zal ?_
 refine zal ?_
 refine zal ?_
 refine zal ?_
 refine zal ?_
 exact zag
def XW(ok:fa w)(hl:i64 m.listen)(hs:zE w m=false):th 23 [] [Sw w,Sm m] (Sr w m lz) []:=by
 by_cases k:1<=m.op.kind/\m.op.kind<=6
 rotate_left
 .exact JT k
 have go:∀{f},th f [] [Cw w,Cm m] (Sr w m zY) []->th f [] [Cw w,Cm m] (Sr (w,m,zY).1 (w,m,zY).2.1 (w,m,zY).2.2) []:=λh=>h
 rcases(by omega:m.op.kind=1\/m.op.kind=2\/m.op.kind=3\/m.op.kind=4\/m.op.kind=5\/m.op.kind=6) with k|k|k|k|k|k
 .exact Lr (r:=(w,m,zY)) k (R7 ok hl hs)
 .exact Gm (r:=(w,m,zY)) k (R8 ok hl hs)
 .exact Gn (r:=(w,m,zY)) k (R9 ok hl hs)
 .exact Ls (r:=(w,m,zY)) k (Sa ok hl hs)
 .exact Gp (r:=(w,m,zY)) k (Sb ok hl hs)
 .exact Gq (r:=(w,m,zY)) k (Sc ok hl hs)
def WI(ok:fa w)(hl:i64 m.listen)(hk:m.op.kind=2)(h0:m.pc=4)(h1:m.listen<0)(hs:zE w m=true):th 23 [] [Sw w,Sm m] (Sr w m lz) []:=
 Gm (r:=(w,m,zY)) hk (QV ok hl h0 h1 hs)
end
end Go.Wor
namespace Go.Wor
open Go.Ab Go.Proofs Tryz Go.Gat Go.Nam Go.Hos Go.Con Go.Sna Go.Pla Go.Dep
open Go.Hy hiding encI
variable{r:Wor×eQ×e7}{w' w:Wor}{m:eQ}{t:Int}{o:ft}{a:fe}{given:List fe}
structure Au(w:Wor)(m:eQ)(r:Wor×eQ×e7):Prop where
 pl:Lw w m r
 re:oa w m r
def stepT(w:Wor)(m:eQ):Wor×eQ×e7:=if zE w m then (nJ w m).getD (w,m,lz) else (w,m,lz)
structure MT(m:eQ):Prop where
 tm:im m
 al:i64 m.answer.listen
 cf:m.op.kind=3->jv m.op.config
 h1:m.op.kind=1->((0<=m.pc/\m.pc<=12)\/(20<=m.pc/\m.pc<=23))/\(m.pc=4\/m.pc=5\/m.pc=22->0<=m.listen)
 h2:m.op.kind=2->((0<=m.pc/\m.pc<=4)\/m.pc=9)/\(m.pc=1->m.word%4294967296<=2147483646)
 h3:m.op.kind=3->0<=m.pc/\m.pc<=2
 h4:m.op.kind=4->m.pc=0
 h5:m.op.kind=5->(0<=m.pc/\m.pc<=6)\/(8<=m.pc/\m.pc<=10)
 h6:m.op.kind=6->m.pc=0/\m.k<6
section
variable {N:Nat} {w:Wor} {m:eQ} {v:eX} {g:Gr} {e:En}
def MT.l8(hk:m.op.kind=1)(tm:im m)(al:i64 m.answer.listen)(h:((0<=m.pc/\m.pc<=12)\/(20<=m.pc/\m.pc<=23))/\(m.pc=4\/m.pc=5\/m.pc=22->0<=m.listen)):MT m:=⟨tm,al,(λq=>absurd (hk.symm.trans q) aj),λ_=>h,(λq=>absurd (hk.symm.trans q) aj),(λq=>absurd (hk.symm.trans q) aj),(λq=>absurd (hk.symm.trans q) aj),(λq=>absurd (hk.symm.trans q) aj),(λq=>absurd (hk.symm.trans q) aj)⟩
def MT.Dj(hk:m.op.kind=2)(tm:im m)(al:i64 m.answer.listen)(h:((0<=m.pc/\m.pc<=4)\/m.pc=9)/\(m.pc=1->m.word%4294967296<=2147483646)):MT m:=⟨tm,al,(λq=>absurd (hk.symm.trans q) aj),(λq=>absurd (hk.symm.trans q) aj),λ_=>h,(λq=>absurd (hk.symm.trans q) aj),(λq=>absurd (hk.symm.trans q) aj),(λq=>absurd (hk.symm.trans q) aj),(λq=>absurd (hk.symm.trans q) aj)⟩
def MT.HQ(hk:m.op.kind=3)(tm:im m)(al:i64 m.answer.listen)(c:jv m.op.config)(h:0<=m.pc/\m.pc<=2):MT m:=⟨tm,al,λ_=>c,(λq=>absurd (hk.symm.trans q) aj),(λq=>absurd (hk.symm.trans q) aj),λ_=>h,(λq=>absurd (hk.symm.trans q) aj),(λq=>absurd (hk.symm.trans q) aj),(λq=>absurd (hk.symm.trans q) aj)⟩
def MT.oB(hk:m.op.kind=5)(tm:im m)(al:i64 m.answer.listen)(h:(0<=m.pc/\m.pc<=6)\/(8<=m.pc/\m.pc<=10)):MT m:=⟨tm,al,(λq=>absurd (hk.symm.trans q) aj),(λq=>absurd (hk.symm.trans q) aj),(λq=>absurd (hk.symm.trans q) aj),(λq=>absurd (hk.symm.trans q) aj),(λq=>absurd (hk.symm.trans q) aj),λ_=>h,(λq=>absurd (hk.symm.trans q) aj)⟩
def MT.HR(hk:m.op.kind=6)(tm:im m)(al:i64 m.answer.listen)(h:m.pc=0/\m.k<6):MT m:=⟨tm,al,(λq=>absurd (hk.symm.trans q) aj),(λq=>absurd (hk.symm.trans q) aj),(λq=>absurd (hk.symm.trans q) aj),(λq=>absurd (hk.symm.trans q) aj),(λq=>absurd (hk.symm.trans q) aj),(λq=>absurd (hk.symm.trans q) aj),λ_=>h⟩
def NX(w:Wor):Prop:=∀v∈w.zd,∀g∈v.zg,∀e∈g.ends,∀x∈e.next, -1<=x/\x<=2147483646
def Az(w:Wor)(m:eQ):Prop:=m.op.kind=1->m.pc=10->∀v g e x,w.zd[m.version.toNat]?=some v->v.zg[m.zp.toNat]?=some g->g.ends[m.end_.toNat]?=some e->e.next[m.slot.toNat]?=some x-> -1<=x/\x<=2147483646
def NX.ir(h:NX w):Az w m:=λ_ _ v g e x a b c d=>h v (gT a) g (gT b) e (gT c) x (gT d)
structure Tn(N:Nat)(w:Wor)(m:eQ)(r:Wor×eQ×e7):Prop where
 ty:fG (N+1) r.1
 ok:fa r.1
 nx:NX w->NX r.1
 al:i64 r.2.1.answer.listen
 go:r.2.1.done=false->MT r.2.1/\Az r.1 r.2.1
def VZ(w:Wor)(m:eQ):zE w m=false\/∃v g e,jN w m v g e:=by
 cases h:zE w m with
 |false=>exact .inl V
 |true=>exact .inr (vU h)
def VG(t:fG N w):Cal 9223372036854775807 w:=
 ⟨λl hl=>by have:=(t.iI l hl).2;unfold i64 at this;omega,λv hv g hg e he=>by have:=(((t.ij v hv).2 g hg).2 e he).2.2;unfold i64 at this;omega⟩
def WT(su:jN w m v g e)(t:fG N w):St N 9223372036854775807 w:=⟨qq.1 su.world,t,VG t⟩
def fG.mono{N':Nat}(t:fG N w)(h:N<=N'):fG N' w:=⟨by have:=t.iO;omega,bL,by have:=t.iQ;omega,t.ij,t.iI⟩
def L7(ok:fa w):B3 w:=by
 have h:=ok.zd;refine⟨⟨by have:=ok.pins;omega,an,by have:=ok.zc.1;omega,by have:=ok.counts.1;omega,by have:=ok.zn;omega,λv hv=>?_,λv hv=>?_⟩,λv hv=>?_,λv hv g hg=>((h.2 v hv).ends g hg).2,λr hr=>by have:=ok.counts.2 r hr;omega⟩
 .have q:=(h.2 v hv).snap;exact⟨by have:=q.zc.1;omega,by have:=q.rules.1;omega,by have:=q.zi.1;omega⟩
 .exact⟨by have:=(h.2 v hv).zg;omega,λg hg=>by have:=((h.2 v hv).ends g hg).1;omega⟩
 .have q:=(h.2 v hv).snap;exact⟨by have:=q.zc.1;omega,by have:=q.rules.1;omega,by have:=q.zi.1;omega,λx hx=>(q.zi.2 x hx).2⟩
def CL(n:Int):i64 (IntKind.i64.wrap n):=by
 have h:IntKind.i64.wrap n=if n%18446744073709551616≥9223372036854775808 then n%18446744073709551616-18446744073709551616 else n%18446744073709551616:=by
  unfold IntKind.wrap;simp[IntKind.bits,IntKind.signed]
 rw[h];unfold i64;split <;> omega
def Bp(t:fG N w)(ok:fa w)(hat:fF w m v g e){e':En}{tk:Int}(ho:e'.ok)(ht:u64 tk)(hx:∀x∈e'.next,x∈e.next\/(-1<=x/\x<=2147483646)):
  fG (N+1) {w with zd:=w.zd.set m.version.toNat {v with zg:=v.zg.set m.zp.toNat {g with zC:=tk,ends:=g.ends.set m.end_.toNat e'} } }/\
  fa {w with zd:=w.zd.set m.version.toNat {v with zg:=v.zg.set m.zp.toNat {g with zC:=tk,ends:=g.ends.set m.end_.toNat e'} } }/\
  (NX w->NX {w with zd:=w.zd.set m.version.toNat {v with zg:=v.zg.set m.zp.toNat {g with zC:=tk,ends:=g.ends.set m.end_.toNat e'} } }):=by
 have mv:=gT hat.at_;have mg:=gT hat.fV;have me:=gT hat.ig;have oe:=(ok.zd.2 v mv).ends g mg;refine⟨⟨by have:=t.iO;simp;omega,r5 t.fT,r5 t.iQ,λv2 hv=>?_,t.iI⟩,⟨ok.pins,⟨ai ok.zd.1,λv2 hv=>?_⟩,ok.zc,ok.counts,ok.zn⟩,λnx v2 hv g2 hg e2 he x hx2=>?_⟩
 .rcases mem_set hv with hv|rfl
  .exact t.ij v2 hv
  .refine⟨(t.ij v mv).1,λg2 hg=>?_⟩;rcases mem_set hg with hg|rfl
   .exact(t.ij v mv).2 g2 hg
   .refine⟨ht,λe2 he=>?_⟩;rcases mem_set he with he|rfl
    .exact((t.ij v mv).2 g mg).2 e2 he
    .exact ho
 .rcases mem_set hv with hv|rfl
  .exact ok.zd.2 v2 hv
  .have ov:=ok.zd.2 v mv;refine⟨ov.snap,ai ov.zg,λg2 hg=>?_⟩;rcases mem_set hg with hg|rfl
   .exact ov.ends g2 hg
   .refine⟨ai oe.1,λe2 he=>?_⟩;rcases mem_set he with he|rfl
    .exact oe.2 e2 he
    .exact ho
 .rcases mem_set hv with hv|rfl
  .exact nx v2 hv g2 hg e2 he x hx2
  .rcases mem_set hg with hg|rfl
   .exact nx v mv g2 hg e2 he x hx2
   .rcases mem_set he with he|rfl
    .exact nx v mv g mg e2 he x hx2
    .exact(hx x hx2).elim (λh=>nx v mv g mg e me x h) id
def CI(t:fG N w)(ok:fa w){i:Nat}{y:fj}(hy:y.ok):fG (N+1) {w with zc:=w.zc.set i y}/\fa {w with zc:=w.zc.set i y}:=by
 have key:∀l∈w.zc.set i y,l.ok:=λl hl=>by
  rcases mem_set hl with hl|rfl
  .exact t.iI l hl
  .exact hy
 exact⟨⟨r5 t.iO,by have:=t.fT;simp;omega,r5 t.iQ,t.ij,key⟩,⟨ok.pins,ok.zd,⟨ai ok.zc.1,key⟩,ok.counts,ok.zn⟩⟩
def LX(ok:fa w)(n:Nat)(x:Int):fa (lN w n x):=⟨by show(w.pins.set n x).length<_;rw[sD];exact ok.pins,ok.zd,ok.zc,ok.counts,ok.zn⟩
def UU(ok:fa w)(n k:Nat)(x:Int){r:List Int}(hr:w.counts[n]?=some r):fa {w with counts:=w.counts.set n (r.set k x)}:=
 ⟨ok.pins,ok.zd,ok.zc,⟨ai ok.counts.1,λq hq=>by
  rcases mem_set hq with hq|rfl
  .exact ok.counts.2 q hq
  .rw[sD];exact ok.counts.2 r (gT hr)⟩,ok.zn⟩
def LF(su:jN w m v g e)(t:fG N w):Slp.fm e=true/\e.next.length<=4/\0<=e.zo/\e.ok/\u64 g.zC/\ -1<=Slp.zR e/\Slp.zR e<e.next.length:=by
 have mv:=gT su.fR;have mg:=gT su.fV;have me:=gT su.ig;have f:=(((qq.1 su.world).il _ v su.fR).1.lZ.2 g mg).2.2 e me;refine⟨f.1,f.2.1,(Slp.L4 f.1).2.2.2,((t.ij v mv).2 g mg).2 e me,((t.ij v mv).2 g mg).1,?_⟩;by_cases h:Slp.zR e<0
 .have: -1<=Slp.zR e:=by show -1<=e.head%4294967296-1;omega
  omega
 .have:=Slp.Ld f.1 h;omega
def KB(su:jN w m v g e)(ok:fa w){k pc:Int}(h0:0<=k)(h5:k<=5):∃w',BJ w m k pc=some (w',{m with pc:=pc},fc m 3 10 k)/\w'.zd=w.zd/\w'.zc=w.zc/\w'.zn=w.zn/\fa w':=by
 obtain⟨r0,hr,hl⟩:=Ub (qq.1 su.world) su.zl.1 su.zl.2;unfold BJ;rw[hr];dsimp only;rw[gL (show k.toNat<r0.length by omega)];exact⟨_,rfl,rfl,rfl,rfl,UU ok _ _ _ hr⟩
def wY(t:fG N w)(a:w'.zd=w.zd)(b:w'.zc=w.zc)(c:w'.zn=w.zn):fG (N+1) w':=⟨by rw[a];have:=t.iO;omega,by rw[b];have:=t.fT;omega,by rw[c];have:=t.iQ;omega,by rw[a];exact t.ij,by rw[b];exact t.iI⟩
def Pz(a:w'.zd=w.zd)(h:NX w):NX w':=by unfold NX;rw[a];exact h
def D3(su:jN w m v g e)(h:0<=m.listen):∃x,w.zc[m.listen.toNat]?=some x:=⟨_,gL (by have:=su.listen;omega)⟩
def RZ(t:fG N w)(ok:fa w)(su:jN w m v g e)(mt:MT m)(ir:Az w m)(hk:m.op.kind=1)(hN:N<=100000000):∃r,wR w m v g e=some r/\Tn N w m r:=by
 have tm:=mt.tm;have gw:=qq.1 su.world;have t1:=t.mono (sy N);obtain⟨f1,f2,f4,f6,f7,f8,f9⟩:=LF su t;have sl:=su.slot;obtain⟨pc,li⟩:=mt.h1 hk;unfold wR;by_cases h3:m.pc<3
 .rw[gS h3];unfold BT;rcases(by omega:m.pc=0\/m.pc=1\/m.pc=2) with p|p|p
  .rw[gS p];exact cY
  .rw[gP an,gS p];exact z5 V ⟨wY t V V V,LX ok _ _,id,mt.al,λ_=>⟨MT.l8 hk uO mt.al ⟨uL,λh=>by dsimp only at h|-;omega⟩,(λ_ h=>by dsimp only at h;omega)⟩⟩
  .rw[gP an,gP an,gS p];by_cases q:w.zr=m.zr
   .rw[gS q];exact cY
   .rw[gP q];exact cY
 rw[gP h3];rcases(by omega:m.pc=3\/m.pc=4\/m.pc=5\/m.pc=6\/m.pc=7\/m.pc=8\/m.pc=9\/m.pc=10\/m.pc=11\/m.pc=12\/m.pc=20\/m.pc=21\/m.pc=22\/m.pc=23) with p|p|p|p|p|p|p|p|p|p|p|p|p|p
 .have pr:=Jh w.zc m.op.listen;have hl:=t.fT;have tl:i64 (z7 w.zc m.op.listen):=by unfold i64;omega
  have z0:i64 0:=aj
  have nk:∀{P:Prop},m.op.kind=6->P:=λh=>absurd (h.symm.trans hk) aj
  rw[gS p];by_cases q:z7 w.zc m.op.listen<0
  .rw[gS q];exact z5 V ⟨t1,ok,id,cS,λ_=>⟨MT.l8 hk ⟨tl,tm.word,tm.link,tm.host,tm.path,tm.d0,tm.d1,tm.cfg,λh=>nk h⟩ z0 ⟨uL,λh=>by dsimp only at h|-;omega⟩,(λ_ h=>by dsimp only at h;omega)⟩⟩
  .rw[gP q];exact z5 V ⟨t1,ok,id,mt.al,λ_=>⟨MT.l8 hk ⟨tl,tm.word,tm.link,tm.host,tm.path,tm.d0,tm.d1,tm.cfg,tm.o7⟩ mt.al ⟨uL,λh=>by dsimp only at h|-;omega⟩,(λ_ h=>by dsimp only at h;omega)⟩⟩
 .have l0:=li (.inl p);obtain⟨x,hx⟩:=D3 su l0;obtain⟨a,b⟩:=CI t ok (i:=m.listen.toNat) (y:=AK x) ⟨(t.iI x (gT hx)).1,CL _⟩;unfold nN;rw[gP an,gS p,gP an,hx,g9];exact z5 V ⟨a,b,id,mt.al,λ_=>⟨MT.l8 hk uO mt.al ⟨uL,λh=>by dsimp only at h|-;omega⟩,(λ_ h=>by dsimp only at h;omega)⟩⟩
 .have l0:=li (.inr (.inl p));obtain⟨x,hx⟩:=D3 su l0;unfold nN;rw[gP an,gP an,gS p,gP an,hx,g9];by_cases hd:x.drain=true
  .rw[gS hd];exact dT
  .rw[gP hd];unfold yl;by_cases f:(xq m v).2≠0
   .rw[gS f];exact dT
   rw[gP f];split
   .exact cY
   .rename_i c _;by_cases d:(yr c m.op.d0 m.op.d1).2.2≠0
    .rw[gS d];exact dT
    rw[gP d];split
    .exact cY
    .exact cY
 .have gv:=(gw.il _ v su.fR).1;obtain⟨c,hc⟩:∃c,v.snap.zi[m.zp.toNat]?=some c:=⟨_,gL (by have:=su.zp;have:=gv.len;omega)⟩;obtain⟨a,b,nx⟩:=Bp t ok su.at_ (e':=vu e e.head e.zo) (tk:=IntKind.u64.wrap (g.zC+1)) f6 (V2 _) λx h=>.inl h
  rw[gP an,gP an,gP an,gS p,hc,g9];exact z5 V ⟨a,b,nx,mt.al,λ_=>⟨MT.l8 hk uO mt.al ⟨uL,λh=>by dsimp only at h|-;omega⟩,(λ_ h=>by dsimp only at h;omega)⟩⟩
 .rw[gP an,gP an,gP an,gP an,gS p];exact cY
 .obtain⟨e2,he2⟩:∃e2,g.ends[m.other.toNat]?=some e2:=⟨_,gL (by have:=su.other;omega)⟩;rw[gP an,gP an,gP an,gP an,gP an,gS p,he2,g9];exact cY
 .rw[gP an,gP an,gP an,gP an,gP an,gP an,gS p];by_cases q:0<=zR e.head/\zR e.head<e.next.length
  .rw[gS q];refine z5 V ⟨t1,ok,id,mt.al,λ_=>⟨MT.l8 hk ⟨tm.listen,f6.1,tm.link,tm.host,tm.path,tm.d0,tm.d1,tm.cfg,tm.o7⟩ mt.al ⟨uL,λh=>by dsimp only at h|-;omega⟩,λ_ _ v2 g2 e2 x a b c d=>?_⟩⟩;have a:w.zd[m.version.toNat]?=some v2:=a;have b:v2.zg[m.zp.toNat]?=some g2:=b;have c:g2.ends[m.end_.toNat]?=some e2:=c;have d:e2.next[(zR e.head).toNat]?=some x:=d;obtain rfl:=rC (su.fR.symm.trans a);obtain rfl:=rC (su.fV.symm.trans b);obtain rfl:=rC (su.ig.symm.trans c);have hi:=Slp.Ld f1 (show ¬Slp.zR e<0 from by have:Slp.zR e=zR e.head:=rfl;omega);have hx2:Slp.oA e.next (Slp.zR e)=x:=by unfold Slp.oA;rw[show Slp.zR e=zR e.head from V,d];rfl
   omega
  .rw[gP q];have z0:i64 0:=by decide
   have nk:∀{P:Prop},m.op.kind=6->P:=λh=>absurd (h.symm.trans hk) aj
   exact z5 V ⟨t1,ok,id,z0,λ_=>⟨MT.l8 hk ⟨tm.listen,f6.1,tm.link,tm.host,tm.path,tm.d0,tm.d1,tm.cfg,λh=>nk h⟩ z0 ⟨uL,λh=>by dsimp only at h|-;omega⟩,(λ_ h=>by dsimp only at h;omega)⟩⟩
 .obtain⟨x,hx⟩:∃x,e.next[m.slot.toNat]?=some x:=⟨_,gL an⟩;have lx:=ir hk p v g e x su.fR su.fV su.ig hx;rw[gP an,gP an,gP an,gP an,gP an,gP an,gP an,gS p,hx,g9];exact z5 V ⟨t1,ok,id,mt.al,λ_=>⟨MT.l8 hk ⟨tm.listen,tm.word,lx,tm.host,tm.path,tm.d0,tm.d1,tm.cfg,tm.o7⟩ mt.al ⟨uL,λh=>by dsimp only at h|-;omega⟩,(λ_ h=>by dsimp only at h;omega)⟩⟩
 .rw[gP an,gP an,gP an,gP an,gP an,gP an,gP an,gP an,gS p];by_cases q:e.head=m.word
  .rw[gS q];obtain⟨a,b,nx⟩:=Bp t ok su.at_ (e':=vu e (Slp.y9 m.word m.link) e.zo) (tk:=g.zC) ⟨Slp.KV tm.link.1 tm.link.2,f6.2⟩ f7 λx h=>.inl h
   exact z5 V ⟨a,b,nx,mt.al,λ_=>⟨MT.l8 hk uO mt.al ⟨uL,λh=>by dsimp only at h|-;omega⟩,(λ_ h=>by dsimp only at h;omega)⟩⟩
  .rw[gP q];exact cY
 .obtain⟨a,b,nx⟩:=Bp t ok su.at_ (e':=vu e e.head (IntKind.i64.wrap (e.zo+1))) (tk:=g.zC) ⟨f6.1,f6.2.1,CL _⟩ f7 λx h=>.inl h
  rw[gP an,gP an,gP an,gP an,gP an,gP an,gP an,gP an,gP an,gS p];exact z5 V ⟨a,b,nx,tm.listen,λ_=>⟨MT.l8 hk uP tm.listen ⟨uL,λh=>by dsimp only at h|-;omega⟩,(λ_ h=>by dsimp only at h;omega)⟩⟩
 .have kr:=Q9 m.answer.kind;obtain⟨w',hc,a,b,c,d⟩:=KB su ok (pc:=21) kr.1 kr.2;rw[gP an,gP an,gP an,gP an,gP an,gP an,gP an,gP an,gP an,gP an,gS p,hc];exact dQ
 .obtain⟨w',hc,a,b,c,d⟩:=KB su ok (k:=0) (pc:=if m.answer.kind=1\/m.listen<0 then 23 else 22) aj aj;rw[gP an,gP an,gP an,gP an,gP an,gP an,gP an,gP an,gP an,gP an,gP an,gS p,hc];by_cases q:m.answer.kind=1\/m.listen<0
  .rw[gS q];exact dQ
  .rw[gP q];exact dQ
 .have l0:=li (.inr (.inr p));obtain⟨x,hx⟩:=D3 su l0;obtain⟨a,b⟩:=CI t ok (i:=m.listen.toNat) (y:=kj x) ⟨(t.iI x (gT hx)).1,CL _⟩;unfold nN;rw[gP an,gP an,gP an,gP an,gP an,gP an,gP an,gP an,gP an,gP an,gP an,gP an,gS p,gP an,hx,g9];exact z5 V ⟨a,b,id,mt.al,λ_=>⟨MT.l8 hk uO mt.al ⟨uL,λh=>by dsimp only at h|-;omega⟩,(λ_ h=>by dsimp only at h;omega)⟩⟩
 .rw[gP an,gP an,gP an,gP an,gP an,gP an,gP an,gP an,gP an,gP an,gP an,gP an,gP an,gS p];exact z5 V ⟨wY t V V V,LX ok _ _,id,mt.al,λh=>nomatch h⟩
end
section
variable {N:Nat} {w:Wor} {m:eQ} {v:eX} {g:Gr} {e:En}
def RY(t:fG N w)(ok:fa w)(su:jN w m v g e)(mt:MT m)(hk:m.op.kind=2)(h4:m.pc=4->0<=m.listen):∃r,kJ w m v g e=some r/\Tn N w m r:=by
 have tm:=mt.tm;have t1:=t.mono (sy N);obtain⟨f1,f2,f4,f6,f7,f8,f9⟩:=LF su t;have sl:=su.slot;obtain⟨pc,wd⟩:=mt.h2 hk;have hh:Slp.zR e=e.head%4294967296-1:=rfl;unfold kJ;rcases(by omega:m.pc=0\/m.pc=1\/m.pc=2\/m.pc=3\/m.pc=4\/m.pc=9) with p|p|p|p|p|p
 .rw[gS p];exact z5 V ⟨t1,ok,id,mt.al,λ_=>⟨MT.Dj hk ⟨tm.listen,f6.1,tm.link,tm.host,tm.path,tm.d0,tm.d1,tm.cfg,tm.o7⟩ mt.al ⟨uL,λ_=>by show e.head%4294967296<=_;omega⟩,(λq=>absurd (hk.symm.trans q) aj)⟩⟩
 .have wd:=wd p
  obtain⟨a,b,nx⟩:=Bp t ok su.at_ (e':=vu (yn m e) e.head e.zo) (tk:=g.zC) ⟨f6.1,⟨λx hx=>by
   rcases mem_set hx with hx|rfl
   .exact f6.2.1.1 x hx
   .unfold i64;omega,by show(yn m e).next.length<=_;rw[show(yn m e).next.length=e.next.length from sD];exact f6.2.1.2⟩,f6.2.2⟩ f7 λx hx=>by
   rcases mem_set hx with hx|rfl
   .exact .inl hx
   .exact .inr an
  rw[gP an,gS p];exact gu
 .rw[gP an,gP an,gS p];by_cases q:e.head=m.word
  .rw[gS q];obtain⟨a,b,nx⟩:=Bp t ok su.at_ (e':=vu e (Slp.y9 m.word m.slot) e.zo) (tk:=g.zC) ⟨Slp.KV an an,f6.2⟩ f7 λx h=>.inl h
   exact gu
  .rw[gP q];exact z5 V ⟨t1,ok,id,mt.al,λ_=>⟨MT.Dj hk uO mt.al ⟨uL,uK⟩,(λq=>absurd (hk.symm.trans q) aj)⟩⟩
 .obtain⟨a,b,nx⟩:=Bp t ok su.at_ (e':=vu e e.head (IntKind.i64.wrap (e.zo-1))) (tk:=g.zC) ⟨f6.1,f6.2.1,CL _⟩ f7 λx h=>.inl h
  rw[gP an,gP an,gP an,gS p];exact gu
 .have l0:=h4 p;obtain⟨x,hx⟩:=D3 su l0;obtain⟨a,b⟩:=CI t ok (i:=m.listen.toNat) (y:=kj x) ⟨(t.iI x (gT hx)).1,CL _⟩;unfold nN;rw[gP an,gP an,gP an,gP an,gS p,gP an,hx,g9];exact z5 V ⟨a,b,id,tm.listen,λh=>nomatch h⟩
 .rw[gP an,gP an,gP an,gP an,gP an,gS p];exact gk
def KW(s:Sna):∀g∈(qA s).1.zg,∀e∈g.ends,∀x∈e.next, -1<=x/\x<=2147483646:=λg hg e he x hx=>by
 unfold qA at hg;split at hg
 .obtain⟨c,hc,rfl⟩:=pO.1 (show g∈s.zi.map vK from hg);rw[ry (show e∈List.replicate c.zL.length (jU c) from he)]at hx;unfold jU Slp.yF at hx;split at hx
  .cases hx
  .obtain⟨i,hi,rfl⟩:=pO.1 hx;have:=rS.1 hi;split <;> omega
 .cases hg
def V1(t:fG N w)(ok:fa w)(su:jN w m v g e)(mt:MT m)(hk:m.op.kind=3)(hN:N+1<=100000000)(hl:m.pc=2->yD w m=false):∃r,oR w m=some r/\Tn N w m r:=by
 have tm:=mt.tm;have t1:=t.mono (sy N);have st:=WT su t;have pc:=mt.h3 hk;unfold oR;rcases(by omega:m.pc=0\/m.pc=1\/m.pc=2) with p|p|p
 .rw[gS p];by_cases q:mI m.op.config=0
  .rw[gS q];have st2:=st.Wv (by rw[<-kp];exact q) (tm.cfg hk)
   exact z5 V ⟨st2.ty,wV st2.iL st2.ty hN,λnx v2 hv=>by
    rcases pw.1 (show v2∈w.zd++[mJ m.op.config] from hv) with hv|hv
    .exact nx v2 hv
    .rw[pX.1 hv];exact KW _,mt.al,λ_=>⟨MT.HQ hk uO mt.al (mt.cf hk) tG,(λq=>absurd (hk.symm.trans q) aj)⟩⟩
  .rw[gP q];exact gk
 .rw[gP an,gS p];exact z5 V ⟨t1,ok,id,mt.al,λ_=>⟨MT.HQ hk uO mt.al (mt.cf hk) tG,(λq=>absurd (hk.symm.trans q) aj)⟩⟩
 .rw[gP an,gP an,gS p,hl p];have hlm:=t.iQ
  exact z5 V ⟨⟨r5 t.iO,r5 t.fT,by show(w.zn++[_]).length<=_;rw[pW,rW];omega,t.ij,t.iI⟩,
   ⟨ok.pins,ok.zd,ok.zc,ok.counts,by show(w.zn++[_]).length<_;rw[pW,rW];omega⟩,id,(by decide:i64 0),λh=>nomatch h⟩
def UM(t:fG N w)(ok:fa w)(su:jN w m v g e)(mt:MT m)(hk:m.op.kind=4)(hN:N<=100000000):∃r,Ag w m=some r/\Tn N w m r:=by
 have t1:=t.mono (sy N);have pr:=Jh w.zc m.op.listen;have hl:=t.fT;unfold Ag;rw[gS (mt.h4 hk)];by_cases q:z7 w.zc m.op.listen<0
 .rw[gS q];exact gk
 .rw[gP q];obtain⟨x,hx⟩:∃x,w.zc[(z7 w.zc m.op.listen).toNat]?=some x:=⟨_,gL an⟩;have lk:=t.iI x (gT hx);obtain⟨a,b⟩:=CI t ok (i:=(z7 w.zc m.op.listen).toNat) (y:=Go.Gat.wj x) ⟨lk.1,lk.2⟩;rw[hx,g9];exact z5 V ⟨a,b,id,by show i64 (z7 w.zc m.op.listen);unfold i64;omega,λh=>nomatch h⟩
def Mh{m1:eQ}(t:fG N w)(ok:fa w)(hk:m1.op.kind=5)(tm:im m1)(al:i64 m1.answer.listen)(p:m1.pc=8):Tn N w m (iY w m1):=by
 have t1:=t.mono (sy N);unfold iY;split
 .exact⟨wY t V V V,⟨ok.pins,ok.zd,ok.zc,ok.counts,ok.zn⟩,id,(by decide:i64 0),λh=>nomatch h⟩
 .rename_i l _;unfold ER;by_cases q:l.drain=true/\l.closed=false
  .rw[gS q];exact⟨t1,ok,id,al,λ_=>⟨MT.oB hk uO al tG,(λq=>absurd (hk.symm.trans q) aj)⟩⟩
  .rw[gP q];exact⟨t1,ok,id,al,λ_=>⟨MT.oB hk uO al tG,(λq=>absurd (hk.symm.trans q) aj)⟩⟩
def QF(t:fG N w)(ok:fa w)(su:jN w m v g e)(mt:MT m)(hk:m.op.kind=5)(hm:Aw w m=true):∃r,xj w m=some r/\Tn N w m r:=by
 have tm:=mt.tm;have t1:=t.mono (sy N);have si:=su.i;have sk:=su.k;have pc:=mt.h5 hk;unfold Aw at hm;unfold xj;rcases(by omega:m.pc=0\/m.pc=1\/m.pc=2\/m.pc=3\/m.pc=4\/m.pc=5\/m.pc=6\/m.pc=8\/m.pc=9\/m.pc=10) with p|p|p|p|p|p|p|p|p|p
 .rw[gS p];split
  .exact z5 V ⟨wY t V V V,⟨ok.pins,ok.zd,ok.zc,ok.counts,ok.zn⟩,id,mt.al,λ_=>⟨MT.oB hk uO mt.al tG,(λq=>absurd (hk.symm.trans q) aj)⟩⟩
  .exact gk
 .rw[gP an,gS p];exact c6
 .rw[gS p]at hm;have hm:=gQ hm;rw[gP an,gP an,gS p,gL (show m.i.toNat<w.pins.length by omega),g9];generalize w.pins[m.i.toNat]'an=x;unfold nU;by_cases a:x≠0/\x≠IntKind.i64.wrap (m.zr+1)
  .rw[gS a];exact c6
  rw[gP a];split
  .exact c6
  .exact c6
 .rw[gP an,gP an,gP an,gS p];split
  .exact z5 V ⟨wY t V V V,⟨ok.pins,ok.zd,ok.zc,ok.counts,ok.zn⟩,id,mt.al,λ_=>⟨MT.oB hk uO mt.al tG,(λq=>absurd (hk.symm.trans q) aj)⟩⟩
  .exact c6
 .rw[gP an,gP an,gP an,gP an,gS p];refine z5 V ?_;split
  .exact Mh t ok hk uO mt.al V
  .rename_i r _;unfold oz;by_cases a:r.gone=true\/Go.Lim.vC r.at_ m.zr=false
   .rw[gS a];exact⟨t1,ok,id,mt.al,λ_=>⟨MT.oB hk uO mt.al tG,(λq=>absurd (hk.symm.trans q) aj)⟩⟩
   .rw[gP a];exact⟨t1,ok,id,mt.al,λ_=>⟨MT.oB hk uO mt.al tG,(λq=>absurd (hk.symm.trans q) aj)⟩⟩
 .rw[gP an,gS p,su.fR]at hm;have hm:m.k<(jb v).length:=gQ hm;rw[gP an,gP an,gP an,gP an,gP an,gS p,su.fR,pJ,gL (show m.k.toNat<(jb v).length by omega),g9];generalize ((jb v)[m.k.toNat]'an).zo=x;unfold o9;by_cases a:x≠0
  .rw[gS a];exact c6
  rw[gP a];split
  .exact c6
  .exact c6
 .rw[gP an,gP an,gS p]at hm;rw[gP an,gP an,gP an,gP an,gP an,gP an,gS p,su.fR,pJ];cases hr:w.zn[m.i.toNat]? with
  |none=>rw[hr]at hm;cases hm
  |some r=>
   rw[hr]at hm;have hm:((r.version == m.version) && !r.gone)=true:=hm;simp only[gY,pU,pS]at hm;have mv:=gT su.fR;rw[pJ,gS hm]
   refine z5 V ⟨⟨by show(w.zd.set _ _).length<=_;rw[sD];exact r5 t.iO,r5 t.fT,by show(w.zn.set _ _).length<=_;rw[sD];exact r5 t.iQ,λv2 hv=>?_,t.iI⟩,
    ⟨ok.pins,⟨by show(w.zd.set _ _).length<_;rw[sD];exact ok.zd.1,λv2 hv=>?_⟩,ok.zc,ok.counts,by show(w.zn.set _ _).length<_;rw[sD];exact ok.zn⟩,λnx v2 hv=>?_,mt.al,λ_=>⟨MT.oB hk uP mt.al tG,(λq=>absurd (hk.symm.trans q) aj)⟩⟩
   .rcases mem_set hv with hv|rfl
    .exact t.ij v2 hv
    .exact t.ij v mv
   .rcases mem_set hv with hv|rfl
    .exact ok.zd.2 v2 hv
    .exact⟨(ok.zd.2 v mv).snap,(ok.zd.2 v mv).zg,(ok.zd.2 v mv).ends⟩
   .rcases mem_set hv with hv|rfl
    .exact nx v2 hv
    .exact nx v mv
 .rw[gP an,gP an,gP an,gP an,gP an,gP an,gP an,gS p];exact z5 V (Mh t ok hk tm mt.al p)
 .rw[gP an,gP an,gP an,gS p]at hm;have hm:=gQ hm;rw[gP an,gP an,gP an,gP an,gP an,gP an,gP an,gP an,gS p,gL (show m.i.toNat<w.zc.length by omega),g9];generalize w.zc[m.i.toNat]'an=l;by_cases a:l.zo=0
  .rw[gS a];exact c6
  .rw[gP a];exact c6
 .rw[gP an,gP an,gP an,gP an,gS p]at hm;rw[gP an,gP an,gP an,gP an,gP an,gP an,gP an,gP an,gP an,gS p];cases hr:w.zc[m.i.toNat]? with
  |none=>rw[hr]at hm;cases hm
  |some l=>
   rw[hr]at hm;have hm:l.drain=true:=hm;have lk:=t.iI l (gT hr);obtain⟨a,b⟩:=CI t ok (i:=m.i.toNat) (y:=Ao l) ⟨lk.1,lk.2⟩;rw[pJ,gS hm];exact z5 V ⟨a,b,id,mt.al,λ_=>⟨MT.oB hk uO mt.al tG,(λq=>absurd (hk.symm.trans q) aj)⟩⟩
def TS(su:jN w m v g e)(pc:(0<=m.pc/\m.pc<=6)\/(8<=m.pc/\m.pc<=10))(hm:Aw w m=true):nI w m:=by
 unfold Aw at hm;refine⟨an,su.i,λp=>?_,λp=>?_,λp=>?_,λp=>?_⟩
 .rw[gS p]at hm;exact gQ hm
 .rw[gP an,gS p,su.fR]at hm;exact⟨su.version.1,v,su.fR,AG (qq.1 su.world) su.fR,gQ hm⟩
 .rw[gP an,gP an,gS p]at hm;cases hr:w.zn[m.i.toNat]? with
  |none=>rw[hr]at hm;cases hm
  |some r=>
   rw[hr]at hm;have hm:((r.version == m.version) && !r.gone)=true:=hm;simp only[gY,pU,pS]at hm;exact⟨r,rfl,hm⟩
 .rw[gP an,gP an,gP an]at hm;have si:=su.i;by_cases q:m.pc=9
  .rw[gS q]at hm;have hm:=gQ hm;exact⟨_,gL an,.inl q⟩
  .rw[gP q,gS an]at hm;cases hr:w.zc[m.i.toNat]? with
   |none=>rw[hr]at hm;cases hm
   |some l=>
    rw[hr]at hm;exact⟨l,rfl,.inr hm⟩
def UN(t:fG N w)(ok:fa w)(su:jN w m v g e)(mt:MT m)(hk:m.op.kind=6)(hi:m.i<w.counts.length):∃r,oI w m=some r/\Tn N w m r:=by
 have tm:=mt.tm;have t1:=t.mono (sy N);have i0:=su.i;have k0:=su.k;have h6:=mt.h6 hk;have eP:m.i.toNat<w.counts.length:=an
 have hl:=(jZ.1 (qq.1 su.world).ground).counts.2 _ (pH eP);unfold oI;rw[gS h6,gL eP,pJ,gL (show m.k.toNat<(w.counts[m.i.toNat]).length by omega),g9];generalize (w.counts[m.i.toNat])[m.k.toNat]'an=n;refine z5 V ⟨t1,ok,id,?_,?_⟩
 .show i64 (vr w m n).answer.listen;by_cases a:m.k+1=6
  .by_cases b:m.i+1=w.counts.length
   .rw[BC a b];exact(by decide:i64 0)
   .rw[BB a b];exact mt.al
  .rw[BA a an];exact mt.al
 .intro hd;have hd:(vr w m n).done=false:=hd;show MT (vr w m n)/\Az w (vr w m n);by_cases a:m.k+1=6
  .by_cases b:m.i+1=w.counts.length
   .rw[BC a b]at hd;cases hd
   .rw[BB a b];exact⟨MT.HR hk uO mt.al ⟨h6.1,by show(0:Int)<6;decide⟩,(λq=>absurd (hk.symm.trans q) aj)⟩
  .rw[BA a an];exact⟨MT.HR hk uO mt.al ⟨h6.1,by show m.k+1<6;omega⟩,(λq=>absurd (hk.symm.trans q) aj)⟩
def SZ(su:jN w m v g e)(t:fG N w)(mt:MT m)(hN:N<=100000000)(p0:0<=m.pc)(ca:m.op.kind=5->nI w m)(h:nJ w m=some r):Au w m r:=
 ⟨SN (vT su) t mt.tm hN h,UP (vT su) t mt.tm hN p0 mt.cf ca h⟩
def SY(hk:¬(1<=m.op.kind/\m.op.kind<=6)):Au w m (w,m,lz):=⟨IM w m hk,JT hk⟩
def BD(t:fG N w)(ok:fa w)(mt:MT m)(ir:Az w m):Tn N w m (w,m,lz):=⟨t.mono (sy N),ok,id,mt.al,λ_=>⟨mt,ir⟩⟩
def UI(su:jN w m v g e)(h:nJ w m=some r):stepT w m=r:=by
 unfold stepT;rw[gS (vT su),h]
 rfl
def Me(t:fG N w)(ok:fa w)(mt:MT m)(ir:Az w m)(hN:N+1<=100000000):Au w m (stepT w m)/\Tn N w m (stepT w m):=by
 have tm:=mt.tm;rcases VZ w m with hs|⟨v,g,e,su⟩
 .have hT:stepT w m=(w,m,lz):=by
   unfold stepT;rw[gP (by rw[hs];decide)]
  rw[hT];refine⟨⟨Wu ok tm.listen hs (λk=>?_) (λk=>(mt.h2 k).1) mt.h3 mt.h4 mt.h6,XW ok tm.listen hs⟩,BD t ok mt ir⟩;have:=(mt.h1 k).1;omega
 have hs:=vT su
 have stay:(nJ w m=none)->stepT w m=(w,m,lz):=λh=>by
  unfold stepT;rw[gS hs,h]
  rfl
 have go:∀{r:Wor×eQ×e7},nJ w m=some r->0<=m.pc->(m.op.kind=5->nI w m)->Tn N w m r->Au w m (stepT w m)/\Tn N w m (stepT w m):=λh p0 ca tn=>by
  rw[UI su h];exact⟨SZ su t mt an p0 ca h,tn⟩
 have eV:=VV su;by_cases k1:m.op.kind=1
 .rw[gS k1]at eV;obtain⟨r,h1,h2⟩:=RZ t ok su mt ir k1 an;exact go (eV.trans h1) (by have:=(mt.h1 k1).1;omega) (λk=>by omega) h2
 rw[gP k1]at eV;by_cases k2:m.op.kind=2
 .rw[gS k2]at eV;by_cases q:m.pc=4/\m.listen<0
  .rw[stay (by rw[eV];unfold kJ nN;rw[gP an,gP an,gP an,gP an,gS q.1,gS q.2])];exact⟨⟨E7 k2 (O5 ok tm.listen q.1 q.2 hs),WI ok tm.listen k2 q.1 q.2 hs⟩,BD t ok mt ir⟩
  .obtain⟨r,h1,h2⟩:=RY t ok su mt k2 (λp=>by omega);exact go (eV.trans h1) (by have:=(mt.h2 k2).1;omega) (λk=>by omega) h2
 rw[gP k2]at eV;by_cases k3:m.op.kind=3
 .rw[gS k3]at eV;by_cases q:m.pc=2/\yD w m=true
  .rw[stay (by rw[eV];unfold oR;rw[gP an,gP an,gS q.1,gS q.2])];exact⟨⟨E8 k3 (OO ok tm.listen q.1 hs q.2),Gn (r:=(w,m,zY)) k3 (QW ok tm.listen q.1 hs q.2)⟩,BD t ok mt ir⟩
  .obtain⟨r,h1,h2⟩:=V1 t ok su mt k3 hN (λp=>by cases h:yD w m with|false=>rfl|true=>exact absurd ⟨p,h⟩ q);exact go (eV.trans h1) (mt.h3 k3).1 (λk=>by omega) h2
 rw[gP k3]at eV;by_cases k4:m.op.kind=4
 .rw[gS k4]at eV;obtain⟨r,h1,h2⟩:=UM t ok su mt k4 an;exact go (eV.trans h1) (by have:=mt.h4 k4;omega) (λk=>by omega) h2
 rw[gP k4]at eV;by_cases k5:m.op.kind=5
 .rw[gS k5]at eV;have pc:=mt.h5 k5;cases hm:Aw w m with
  |true=>
   obtain⟨r,h1,h2⟩:=QF t ok su mt k5 hm;exact go (eV.trans h1) an (λ_=>TS su pc hm) h2
  |false=>
   have hm2:=hm;have si:=su.i;have sk:=su.k
   have e1:th 182 [] [Cw w,Cm m] (Bo false) []/\xj w m=none:=by
    unfold Aw at hm2;by_cases p2:m.pc=2
    .rw[gS p2]at hm2;have hm2:=gR hm2;refine⟨XQ p2 an,?_⟩;unfold xj;rw[gP an,gP an,gS p2,rq an]
     rfl
    rw[gP p2]at hm2;by_cases p5:m.pc=5
    .rw[gS p5,su.fR]at hm2;have hm2:¬m.k<(jb v).length:=gR hm2;refine⟨XR v (AG (qq.1 su.world) su.fR) p5 ⟨su.version.1,su.fR⟩ an,?_⟩;unfold xj;rw[gP an,gP an,gP an,gP an,gP an,gS p5,su.fR,pJ,rq an]
     rfl
    rw[gP p5]at hm2;by_cases p6:m.pc=6
    .rw[gS p6]at hm2
     have hn:∀r,w.zn[m.i.toNat]?=some r->¬(r.version=m.version/\r.gone=false):=λr hr h=>by
      rw[hr]at hm2;have hm2:((r.version == m.version) && !r.gone)=false:=hm2;rw[h.1,h.2]at hm2;simp at hm2
     refine⟨XS p6 si hn,?_⟩;unfold xj;rw[gP an,gP an,gP an,gP an,gP an,gP an,gS p6,su.fR,pJ];cases hr:w.zn[m.i.toNat]? with
     |none=>rfl
     |some r=>rw[pJ,gP (hn r hr)]
    rw[gP p6]at hm2;have b:∀{l:fj},w.zc[m.i.toNat]?=some l->m.i<w.zc.length:=λh=>by have:=(gN.1 h).1;omega
    by_cases p9:m.pc=9
    .rw[gS p9]at hm2;have hm2:=gR hm2;refine⟨Mz (.inl p9) an,?_⟩;unfold xj;rw[gP an,gP an,gP an,gP an,gP an,gP an,gP an,gP an,gS p9,rq an]
     rfl
    rw[gP p9]at hm2;by_cases ir:m.pc=10
    .rw[gS ir]at hm2;unfold xj;rw[gP an,gP an,gP an,gP an,gP an,gP an,gP an,gP an,gP an,gS ir];cases hr:w.zc[m.i.toNat]? with
     |none=>
      exact⟨Mz (.inr ir) (by have:=rz.1 hr;omega),rfl⟩
     |some l=>
      rw[hr]at hm2;have hm2:l.drain=false:=hm2;exact⟨Xa l ir si hr hm2,by rw[pJ,gP (by rw[hm2];decide)]⟩
    .rw[gP ir]at hm2;cases hm2
   rw[stay (by rw[eV];exact e1.2)];exact⟨⟨E9 k5 (OV ok tm.listen hs e1.1),Gp (r:=(w,m,zY)) k5 (QY (QX ok tm.listen su (AG (qq.1 su.world) su.fR) hm))⟩,BD t ok mt ir⟩
 rw[gP k5]at eV;by_cases k6:m.op.kind=6
 .rw[gS k6]at eV;have h6:=mt.h6 k6;by_cases q:m.i<w.counts.length
  .obtain⟨r,h1,h2⟩:=UN t ok su mt k6 q;exact go (eV.trans h1) an (λk=>by omega) h2
  .rw[stay (by rw[eV];unfold oI;rw[gS h6,rq (by have:=su.i;omega)];rfl)];exact⟨⟨Fa k6 (IW ok tm.listen h6.1 h6.2 (.inr an)),Gq (r:=(w,m,zY)) k6 (Q0 ok tm.listen hs h6.1 an)⟩,BD t ok mt ir⟩
 rw[gP k6]at eV;rw[stay eV];exact⟨SY an,BD t ok mt ir⟩
end
abbrev Ew:fe:=⟨0,0,0,0,0,0,0,oq⟩
inductive nS(w0:Wor):Nat->Wor->eQ->Wor->fe->Nat->Prop
 |Hg {k:Nat} {w:Wor} {m:eQ} (hk:10000<=k):nS w0 k w m w0 Ew 0
 |stop {k:Nat} {w w':Wor} {m m':eQ} {e:e7} (h:Au w m (w',m',e)) (he:e.access=0) (hk:k<10000):nS w0 k w m w0 Ew 0
 |last {k:Nat} {w w':Wor} {m m':eQ} {e:e7} (h:Au w m (w',m',e)) (he:e.access≠0) (hd:m'.done=true) (hk:k<10000):nS w0 k w m w' m'.answer (k+1)
 |more {k n:Nat} {w w' w2:Wor} {m m':eQ} {e:e7} {a:fe} (h:Au w m (w',m',e)) (he:e.access≠0) (hd:m'.done=false) (hk:k<10000) (hg:nS w0 (k+1) w' m' w2 a n):nS w0 k w m w2 a n
def mT(w0:Wor):Nat->Wor->eQ->Wor×fe×Nat
 |0,_,_=>(w0,Ew,0)
 |f+1,w,m=>if (stepT w m).2.2.access=0 then (w0,Ew,0) else if (stepT w m).2.1.done then ((stepT w m).1,(stepT w m).2.1.answer,10000-f) else mT w0 f (stepT w m).1 (stepT w m).2.1
def GS{w0:Wor}(h0:B3 w0):∀(f:Nat) {N k:Nat} {w:Wor} {m:eQ},k+f=10000->N+f+1<=100000000->fG N w->fa w->MT m->Az w m->nS w0 k w m (mT w0 f w m).1 (mT w0 f w m).2.1 (mT w0 f w m).2.2/\B3 (mT w0 f w m).1
 |0,N,k,w,m,hk,hN,t,ok,mt,ir=>⟨.Hg an,h0⟩
 |f+1,N,k,w,m,hk,hN,t,ok,mt,ir=>by
  obtain⟨b,tn⟩:=Me t ok mt ir an;unfold mT;generalize stepT w m=r at b tn;obtain⟨w',m',e⟩:=r;by_cases he:e.access=0
  .rw[gS he];exact⟨.stop b he an,h0⟩
  rw[gP he];cases hd:m'.done with
  |true=>
   rw[gS V,show 10000-f=k+1 by omega];exact⟨.last b he hd an,L7 tn.ok⟩
  |false=>
   rw[gP aj];obtain⟨mt',p'⟩:=tn.go hd;obtain⟨a,c⟩:=GS h0 f (k:=k+1) an an tn.ty tn.ok mt' p';exact⟨.more b he hd an a,c⟩
def Ir{n:Nat}{w2:Wor}(hb:th 41 [] [I t,.agg (vx o),lA given] (Sm m) [])(hg:nS w 0 w m w2 a n):th 15 [] [Sw w,I t,.agg (vx o),lA given] (.eR [Sw w2,.agg (jr a),I n]) []:=by
 refine ab func15 ?_;refine af hb ?_;refine zH.inv (λi t1 H1=>∃(k:Nat) (wk:Wor) (mk:eQ),k+i=10000/\nS w k wk mk w2 a n/\t1=(.za::.za::.za::.za::.ref 0 [] 8 0 0::.za::.ref 1 [] 10 0 0::.za::.ref 2 [] 8 0 0::.ref 3 [] 13 0 0::I 0::.ref 4 [] 44 0 0::.ref 5 [] 8 0 0::mK (.za::I k::mK (mK (mK ([])))))/\H1=[oW w,⟨1,48,10,[vx o],0⟩,⟨1,38,8,[fB],0⟩,⟨1,55,13,[jr ⟨0,0,0,0,0,0,0,oq⟩],0⟩,oM mk,oW wk]) 10000 ?_ ?_
 .exact⟨_,_,cC,0,w,m,ah,hg,rfl,rfl⟩
 rintro i _ _ ⟨k,wk,mk,hk,hg,rfl,rfl⟩;conv=>whnf
 cases hg with
 |Hg hk2=>
  refine zbU ?_;exact dE
 |stop h he hk2=>
  refine uF ?_;refine af h.pl ?_;refine⟨λ_=>dd ?_,λh=>absurd h (ai he)⟩;exact dE
 |last h he hd hk2=>
  refine uF ?_;refine af h.pl ?_;refine⟨λh=>absurd h (ai he),λ_=>dd ?_⟩;refine .inl ⟨⟨false,[0,1],[6,7],[]⟩,ak,uH ?_⟩;refine tc ?_
  refine⟨λ_=>dd ?_,λh=>absurd ((hd).symm.trans h:true=false) aj⟩;refine .inl ⟨⟨false,[0,2],[4,5],[]⟩,ak,uH ?_⟩;refine tc ?_
  refine zaN ?_;rw[zm an];exact uI
 |more h he hd hk2 hg=>
  refine uF ?_;refine af h.pl ?_;refine⟨λh=>absurd h (ai he),λ_=>dd ?_⟩;refine .inl ⟨⟨false,[0,1],[6,7],[]⟩,ak,uH ?_⟩;refine tc ?_
  exact zb1
def R3{n:Nat}{w2:Wor}(hb:th 22 [] [I t,.agg (vx o),lA given] (Sm m) [])(hg:nS w 0 w m w2 a n):th 16 [] [Sw w,I t,.agg (vx o),lA given] (.eR [Sw w2,.agg (jr a),I n]) []:=by
 refine ab func16 ?_;refine af hb ?_;refine zH.inv (λi t1 H1=>∃(k:Nat) (wk:Wor) (mk:eQ),k+i=10000/\nS w k wk mk w2 a n/\t1=(.za::.za::.za::.za::.ref 0 [] 8 0 0::.za::.ref 1 [] 10 0 0::.za::.ref 2 [] 8 0 0::.ref 3 [] 13 0 0::I 0::.ref 4 [] 44 0 0::.ref 5 [] 8 0 0::I ((k+1:Nat):Int)::mK (mK (mK (mK ([.za,.za])))))/\H1=[oW w,⟨1,48,10,[vx o],0⟩,⟨1,38,8,[fB],0⟩,⟨1,55,13,[jr ⟨0,0,0,0,0,0,0,oq⟩],0⟩,oM mk,oW wk]) 10000 ?_ ?_
 .exact⟨_,_,cC,0,w,m,ah,hg,rfl,rfl⟩
 rintro i _ _ ⟨k,wk,mk,hk,hg,rfl,rfl⟩;conv=>whnf
 cases hg with
 |Hg hk2=>
  refine zbU ?_;exact dE
 |stop h he hk2=>
  refine uF ?_;refine af h.re ?_;refine⟨λ_=>dd ?_,λh=>absurd h (ai he)⟩;exact dE
 |last h he hd hk2=>
  refine uF ?_;refine af h.re ?_;refine⟨λh=>absurd h (ai he),λ_=>dd ?_⟩;refine⟨λ_=>dd ?_,λh=>absurd ((hd).symm.trans h:true=false) aj⟩;refine .inl ⟨⟨false,[0,2],[4,5],[]⟩,ak,uH ?_⟩;refine tc ?_
  exact dE
 |more h he hd hk2 hg=>
  refine uF ?_;refine af h.re ?_;refine⟨λh=>absurd h (ai he),λ_=>dd ?_⟩;exact zb1
end Go.Wor
namespace Go.Wor
open Go.Ab Go.Proofs Tryz Go.Gat Go.Nam Go.Hos Go.Con Go.Sna Go.Pla Go.Ply
open Go.Hy hiding encI
variable{o:ft}{given:List fe}{s:ia}
structure Dg(o:ft):Prop where
 host:o.host.length<4000000000000
 path:o.path.length<4000000000000
 d0:i64 o.d0
 d1:i64 o.d1
 cfg:jv o.config
def Pw(hA:∀a∈given,i64 a.listen):i64 (Beg.nZ o given).listen:=by
 unfold Beg.nZ;split
 .cases h:given[(Go.Pla.qZ given).getD o.n.toNat 0]? with
  |none=>exact(by decide:i64 0)
  |some a=>exact hA a (gT h)
 .exact(by decide:i64 0)
def FU{t:Int}(po:Dg o)(hA:∀a∈given,i64 a.listen):MT (Beg.yg t o given)/\(Beg.yg t o given).pc≠10:=by
 by_cases k:o.kind=2
 .rw[show Beg.yg t o given={Beg.xO t (Beg.nZ o given) with op:=o} from gS k];have hl:=Pw (o:=o) hA;generalize Beg.nZ o given=a at hl;have pc:(Beg.xO t a).pc=if a.kind=1 then 0 else 9:=rfl
  have tm:im {Beg.xO t a with op:=o}:=⟨by
    show i64 (if a.kind=1 then a.listen else -1);split
    .exact hl
    .decide,(by decide:u64 0),(by decide:(-1:Int)<=0/\(0:Int)<=2147483646),po.host,po.path,po.d0,po.d1,λ_=>po.cfg.k,λ_ _=>V⟩
  constructor
  .refine MT.Dj k tm (by decide:i64 0) ⟨?_,?_⟩
   .show(0<=(Beg.xO t a).pc/\(Beg.xO t a).pc<=4)\/(Beg.xO t a).pc=9;rw[pc];split <;> omega
   .intro h;have h:(Beg.xO t a).pc=1:=h;rw[pc]at h;split at h <;> omega
  .show(Beg.xO t a).pc≠10;rw[pc];split <;> decide
 .rw[show Beg.yg t o given={Beg.Df with op:=o,zl:=t,listen:= -1} from gP k]
  exact⟨⟨⟨(by decide:i64 (-1)),(by decide:u64 0),(by decide:(-1:Int)<=0/\(0:Int)<=2147483646),po.host,po.path,po.d0,po.d1,λ_=>po.cfg.k,λ_ _=>V⟩,(by decide:i64 0),λ_=>po.cfg,λ_=>⟨.inl ⟨sA _,by show(0:Int)<=12;decide⟩,λh=>by rcases h with h|h|h <;> exact absurd (show(0:Int)=_ from h) aj⟩,
   λq=>absurd q k,λ_=>⟨sA _,by show(0:Int)<=2;decide⟩,λ_=>V,λ_=>.inl ⟨sA _,by show(0:Int)<=6;decide⟩,λ_=>⟨rfl,by show(0:Int)<6;decide⟩⟩,by show(0:Int)≠10;decide⟩
abbrev iP:=Wor×List fE×List e7
def Hk(s:iP)(t:Nat)(x:fE)(r:Wor×eQ×e7):iP:=(r.1,s.2.1.set t (yH x r.2.1),s.2.2++[Hc r.2.2 x])
def HM(s:iP)(t:Nat):iP:=match s.2.1[t]? with
 |some x=>match x.ops[x.done]? with
  |some o=>Hk s t x (stepT s.1 (AW x t o))
  |none=>s
 |none=>s
def om(s:iP)(p:Int):iP:=match (qL s.2.1 s.2.1.length)[(p%(qL s.2.1 s.2.1.length).length).toNat]? with
 |some t=>HM s t
 |none=>s
def oy(s:iP)(l:List Int)(k:Nat):iP:=(l.take k).foldl om s
def KJ{s:iP}{l:List Int}{k:Nat}{p:Int}(h:l[k]?=some p):oy s l (k+1)=om (oy s l k) p:=by
 unfold oy;obtain⟨h1,h2⟩:=gN.1 h;rw[pP h1,eh,h2]
 rfl
def DK{X:List fE}:∀{k t:Nat},t∈qL X k->∃x,X[t]?=some x/\x.done<x.ops.length
 |0,t,h=>by cases h
 |k+1,t,h=>by
  unfold qL at h;cases hx:X[k]? with
  |none=>rw[hx]at h;exact DK h
  |some y=>
   rw[hx]at h;dsimp only at h;split at h
   .exact DK h
   .rcases pw.1 h with h|h
    .exact DK h
    .rw[pX.1 h];exact⟨y,hx,an⟩
structure PT(T:List (List ft))(N:Nat)(q:iP):Prop where
 ty:fG N q.1
 ok:fa q.1
 nx:NX q.1
 ops:q.2.1.map (·.ops)=T
 EV:∀(t:Nat) x,q.2.1[t]?=some x->x.given.length=x.done/\x.done<=x.ops.length/\(∀a∈x.given,i64 a.listen)/\(x.on=true->MT x.m)
def Ws(x:fE)(m:eQ):(yH x m).ops=x.ops:=by unfold yH;split <;> rfl
def L0{T:List (List ft)}{N:Nat}{q:iP}(pt:PT T N q)(ho:∀l∈T,∀o∈l,Dg o)(p:Int)(hN:N+1<=100000000):
  (qL q.2.1 q.2.1.length=[]/\om q p=q/\PT T (N+1) (om q p))\/∃t x o r,(qL q.2.1 q.2.1.length)[(p%(qL q.2.1 q.2.1.length).length).toNat]?=some t/\q.2.1[t]?=some x/\x.ops[x.done]?=some o/\x.ops∈T/\x.given.length=x.done/\x.done<=x.ops.length/\Au q.1 (AW x t o) r/\om q p=Hk q t x r/\PT T (N+1) (om q p):=by
 by_cases ha:qL q.2.1 q.2.1.length=[]
 .have e:om q p=q:=by
   unfold om;rw[ha]
   rfl
  rw[e];exact .inl ⟨ha,rfl,⟨pt.ty.mono (sy N),pt.ok,pt.nx,pt.ops,pt.EV⟩⟩
 .right
  have hl:0<(qL q.2.1 q.2.1.length).length:=sT.2 ha;have b0:=sB p (show((qL q.2.1 q.2.1.length).length:Int)≠0 by omega);have b1:=ss p (show(0:Int)<(qL q.2.1 q.2.1.length).length by omega);obtain⟨t,ht⟩:∃t,(qL q.2.1 q.2.1.length)[(p%(qL q.2.1 q.2.1.length).length).toNat]?=some t:=⟨_,gL an⟩;obtain⟨x,hx,hd⟩:=DK (gT ht);obtain⟨o,hop⟩:∃o,x.ops[x.done]?=some o:=⟨_,gL hd⟩;obtain⟨g1,g2,g3,g4⟩:=pt.EV t x hx;have xT:x.ops∈T:=by rw[<-pt.ops];exact pO.2 ⟨x,gT hx,rfl⟩
  have mt:MT (AW x t o):=by
   unfold AW;split
   .rename_i h;exact g4 h
   .exact(FU (ho _ xT o (gT hop)) g3).1
  obtain⟨b,tn⟩:=Me pt.ty pt.ok mt pt.nx.ir hN
  have e:om q p=Hk q t x (stepT q.1 (AW x t o)):=by
   unfold om HM;rw[ht];dsimp only;rw[hx];dsimp only;rw[hop]
  rw[e];refine⟨t,x,o,_,ht,hx,hop,xT,g1,g2,b,rfl,?_⟩;generalize stepT q.1 (AW x t o)=r at tn;refine⟨tn.ty,tn.ok,tn.nx pt.nx,?_,λi y hy=>?_⟩
  .show(List.set _ t (yH x r.2.1)).map (·.ops)=_;rw[r3,Ws,<-pt.ops];exact kn _ _ (by rw[gM,hx];rfl)
  .have hy:(q.2.1.set t (yH x r.2.1))[i]?=some y:=hy;rw[pd]at hy;split at hy
   .split at hy
    .obtain rfl:=rC hy;unfold yH;cases hdn:r.2.1.done with
     |true=>
      refine⟨by show(x.given++[_]).length=x.done+1;rw[pW,rW,g1],hd,λa ha=>?_,λh=>nomatch h⟩;rcases pw.1 (show a∈x.given++[r.2.1.answer] from ha) with ha|ha
      .exact g3 a ha
      .rw[pX.1 ha];exact tn.al
     |false=>exact⟨g1,g2,g3,λ_=>(tn.go hdn).1⟩
    .cases hy
   .exact pt.EV i y hy
def MD{T:List (List ft)}{N:Nat}{q:iP}(pt:PT T N q)(ho:∀l∈T,∀o∈l,Dg o)(l:List Int):∀k,k<=l.length->N+k<=100000000->PT T (N+k) (oy q l k)
 |0,_,_=>pt
 |k+1,hk,hN=>by
  have ih:=MD pt ho l k an an;rw[KJ (gL an)];rcases L0 ih ho (l[k]'an) an with⟨_,_,h⟩|⟨_,_,_,_,_,_,_,_,_,_,_,_,h⟩
  .exact h
  .exact h
def Xc{s:Sna}{l:List eU}{n:Int}{w:Wor}(h:lM s l n=(w,0))(hs:yR s)(hl:l.length<=600)(hn:∀x∈l,x.length<=reachBytes):fG 600 w/\fa w/\NX w:=by
 unfold lM at h;split at h
 .have:=r6 Prod.snd h;exact absurd (show(1:Int)=0 from this) aj
 rename_i q;have hw:=(r6 Prod.fst h).symm;have hw:w=⟨0,0,0,List.replicate n.toNat 0,[(qA s).1],l.map iM,List.replicate n.toNat [0,0,0,0,0,0],[]⟩:=hw
 have q1:yN s=true:=by
  cases z:yN s with
  |true=>rfl
  |false=>exact absurd (.inl z) q
 have q3:n<=8:=an
 have gf:=(JG q1).lZ;have hc:(qA s).1=⟨s,s.zi.map vK,false⟩:=by unfold qA;rw[gS q1]
 have fr:∀g∈(qA s).1.zg,u64 g.zC/\∀e∈g.ends,e.ok:=λg hg=>by
  rw[hc]at hg;obtain⟨x,hx,rfl⟩:=pO.1 (show g∈s.zi.map vK from hg);refine⟨(by decide:u64 0),λe he=>?_⟩;rw[ry (show e∈List.replicate x.zL.length (jU x) from he)];exact Kn _
 have sn:yR (qA s).1.snap:=by rw[hc];exact hs
 have lo:∀x∈l.map iM,x.ok:=λx hx=>by
  obtain⟨y,hy,rfl⟩:=pO.1 hx;exact⟨hn y hy,cS⟩
 have one:∀v,v∈[(qA s).1]->v=(qA s).1:=λv hv=>pX.1 hv
 subst hw;refine⟨⟨by show 1<=600;decide,ai hl,by show 0<=600;decide,λv hv=>?_,lo⟩,⟨cT,⟨by show 1<1000000000000;decide,λv hv=>?_⟩,⟨by show(l.map iM).length<_;rw[gO];omega,lo⟩,⟨cT,λr hr=>?_⟩,by show 0<1000000000000;decide⟩,λv hv=>?_⟩
 .rw[one v hv];exact⟨sn,fr⟩
 .rw[one v hv];exact⟨sn,an,λg hg=>⟨by have:=(gf.2 g hg).1;omega,(fr g hg).2⟩⟩
 .rw[ry hr];decide
 .rw[one v hv];exact KW s
def AD(s:ia):iP:=((jP s).1,s.threads.map iW,[])
def MM(s:ia):iP:=oy (AD s) s.qT s.qT.length
def xI(s:ia):List e7×Wor×Int:=if (jP s).2=0 then ((MM s).2.2,(MM s).1,0) else ([],⟨0,0,0,[],[],[],[],[]⟩,(jP s).2)
def LY(ok:BL s)(hc:∀l∈s.threads,∀o∈l,jv o.config):∀l∈s.threads,∀o∈l,Dg o:=λl hl o ho=>by
 have a:=ok.ops l hl o ho;exact⟨a.1,a.2.1,a.2.2.1,a.2.2.2.1,hc l hl o ho⟩
def LA(ok:BL s)(h:(jP s).2=0):PT s.threads 600 (AD s):=by
 obtain⟨q,hn⟩:=wh h;obtain⟨p1,p2,p3,p4,p5,p6⟩:=kZ q;obtain⟨a,b,c⟩:=Xc hn (ko (ok.cfg p1)) (Tu q) ok.names;refine⟨a,b,c,?_,λt x hx=>?_⟩
 .show(s.threads.map iW).map (·.ops)=s.threads;rw[sd];exact List.map_id _
 .have hx:(s.threads.map iW)[t]?=some x:=hx;obtain⟨L,_,rfl⟩:=pN.1 ((gM ..).symm.trans hx);exact⟨rfl,pC _,λa ha=>(by cases ha),λh=>nomatch h⟩
def Lu(ok:BL s)(hc:∀l∈s.threads,∀o∈l,jv o.config)(h:(jP s).2=0)(k:Nat)(hk:k<=s.qT.length):PT s.threads (600+k) (oy (AD s) s.qT k):=by
 obtain⟨q,_⟩:=wh h;obtain⟨_,_,_,p4,_,_⟩:=kZ q;exact MD (LA ok h) (LY ok hc) s.qT k hk an
def L1(s:ia)(ok:BL s)(hc:∀l∈s.threads,∀o∈l,jv o.config):th 6 [] [.agg (BE s)] (.eR [mX (xI s).1,.agg (xk (xI s).2.1),I (xI s).2.2]) []:=by
 have hb:=HW s ok.wk ok.cfg ok.MG λ_ x hx=>by have:=ok.names x hx;unfold reachBytes at this;omega
 have w:=Tj s (jP s) (λk=>oy (AD s) s.qT k) hb (λh=>by
   obtain⟨q,_⟩:=wh h;obtain⟨_,_,p3,p4,_,p6⟩:=kZ q;exact⟨p3,p4,λp hp=>⟨p6 p hp,ok.qT p hp⟩⟩) V λh k p hp=>by
  have hk:=(gN.1 hp).1;have pt:=Lu ok hc h k an;obtain⟨q,_⟩:=wh h;obtain⟨_,_,p3,p4,p5,_⟩:=kZ q;refine⟨?_⟩;(try dsimp only)
  rw[KJ hp];rcases L0 pt (LY ok hc) p an with⟨ha,e,_⟩|⟨t,x,o,r,ht,hx,hop,xT,g1,g2,b,e,_⟩
  .exact .inl ⟨ha,e⟩
  .right
   have xl:=(p5 x.ops xT).1
   have hX:(oy (AD s) s.qT k).2.1.length<=8:=by
    have:=r6 List.length pt.ops;rw[gO]at this;omega
   rw[e];exact⟨t,x,Hc r.2.2 x,ht,hx,by show(List.set _ _ _).length=_;rw[sD],rfl,VW hx hop hX an an b.pl⟩
 unfold xI;by_cases h:(jP s).2=0
 .rw[gS h,gS h]at w;rw[gS h];rw[h]at w;exact w
 .rw[gP h,gP h]at w;rw[gP h];exact w
end Go.Wor
namespace Go.Run
open Go.Ab Go.Proofs Tryz Go.Gat Go.Nam Go.Hos Go.Con Go.Sna Go.Pla Go.Ply Go.Wor
open Go.Hy hiding encI
def Hu:(jP jG).2=0:=by kernel_rfl
abbrev wB:Wor:=(jP jG).1
def HT:jv ⟨[],[],[]⟩:=⟨⟨aj,aj⟩,⟨aj,aj⟩,⟨aj,aj⟩⟩
def HL:∀l∈jG.threads,∀o∈l,jv o.config:=λl hl o ho=>by
 have e:o.config=⟨[],[],[]⟩:=by
  simp only[sF,List.not_mem_nil,or_false]at hl;rcases hl with rfl|rfl <;> simp only[sF,List.not_mem_nil,or_false]at ho
  .rcases ho with rfl|rfl|rfl <;> rfl
  .subst ho;rfl
 rw[e];exact HT
def bX:PT jG.threads 600 (AD jG):=LA Ac Hu
def M7:jv Dd:=Ac.cfg ak
def hP:th 6 [] [.agg (BX (lI (vo 60)))] (.eR [mX (xI jG).1,.agg (xk (xI jG).2.1),I (xI jG).2.2]) []:=
 Go.Dep.zb.CZ 9 (L1 jG Ac HL) ak ak
def hE:th 6 [] [.agg [.eM 1 0 [],.eM 1 0 [],.eM 1 0 [],.eM 1 0 [],.eM 1 0 []]] (.eR [mX (xI o4).1,.agg (xk (xI o4).2.1),I (xI o4).2.2]) []:=
 Go.Dep.zb.CZ 9 (L1 o4 M5 λl hl=>by cases hl) ak ak
def hB:th 8 [] [.agg (BX (lI (vo 60)))] (.eR [.agg (xk wB),I 0]) []:=by
 have h:=HW jG Ac.wk Ac.cfg Ac.MG λ_ x hx=>by have:=Ac.names x hx;unfold reachBytes at this;omega
 have h0:=Hu;have e:jP jG=(wB,0):=by rw[<-h0]
 rw[e]at h;exact Go.Dep.zb.CZ 9 h ak ak
def Lx(t:Int)(c:fC)(hc:jv c):th 15 [] [Sw wB,I t,.agg (vx (mY c)),lA []] (.eR [Sw (mT wB 10000 wB (Beg.yg t (mY c) [])).1,.agg (jr (mT wB 10000 wB (Beg.yg t (mY c) [])).2.1),I (mT wB 10000 wB (Beg.yg t (mY c) [])).2.2]) []:=
 Ir (Beg.Fg t (mY c) [] aj) (GS (L7 bX.ok) 10000 (k:=0) V aj bX.ty bX.ok (FU ⟨by show(0:Nat)<_;decide,by show(0:Nat)<_;decide,(by decide:i64 0),(by decide:i64 0),hc⟩ λa ha=>by cases ha).1 bX.nx.ir).1
abbrev xB:Wor:=(mT wB 10000 wB (Beg.yg 0 (mY Dd) [])).1
def hA:th 15 [] [.agg (xk wB),I 0,.agg ([I 3,Tx [],Tx [],Tx [],I 0,I 0,I 0]++EG),.eM 1 0 []] (.eR [.agg (xk xB),.agg (jr ⟨8,1,0,0,0,0,0,⟨0,0,0,0,0,0⟩⟩),I (3:Nat)]) []:=by
 have h:=Lx 0 Dd M7;have e1:(mT wB 10000 wB (Beg.yg 0 (mY Dd) [])).2=(⟨8,1,0,0,0,0,0,⟨0,0,0,0,0,0⟩⟩,3):=ak
 rw[e1]at h;exact Go.Dep.zb.CZ 9 h ak ak
def hN:th 15 [] [.agg (xk wB),I 9,.agg [I 3,Tx [],Tx [],Tx [],I 0,I 0,I 0,.eM 1 0 [],.eM 1 0 [],.eM 1 0 []],.eM 1 0 []] (.eR [.agg (xk wB),.agg (jr ⟨0,0,0,0,0,0,0,⟨0,0,0,0,0,0⟩⟩),I 0]) []:=by
 have h:=Lx 9 ⟨[],[],[]⟩ HT;have e1:mT wB 10000 wB (Beg.yg 9 (mY ⟨[],[],[]⟩) [])=(wB,⟨0,0,0,0,0,0,0,⟨0,0,0,0,0,0⟩⟩,0):=ak
 rw[e1]at h;exact Go.Dep.zb.CZ 9 h ak ak
def hH:th 34 [] [.agg (xk (xI jG).2.1)] (I (0:Nat)) []:=by
 have pt:=Lu Ac HL Hu 60 (Nat.le_of_eq ak);have e:(oy (AD jG) jG.qT 60).1=(xI jG).2.1:=ak
 have e0:od (xI jG).2.1=0:=ak
 have gw:jX (xI jG).2.1:=qq.1 ak;have ty:=pt.ty;rw[e]at ty;have h:=PY (xI jG).2.1 (Vy gw ty aj);rw[e0]at h;exact h
def PD:th 10 [] [] (Bo true) []:=by
 have f1:(xI jG).1.length=30:=ak
 have f2:(xI jG).2.2=0:=ak
 have f3:(Cal.iZ (xI jG).1).2=0:=ak
 have f4:((Cal.iZ (xI jG).1).1.map λc=>(c.zl,c.answer.kind))=[(0,1),(1,10),(0,6),(0,5)]:=ak
 have f5:(xI jG).2.1.zc=[⟨iw,true,0,false⟩]:=ak
 have f6:wB.pins.length=2:=ak
 have f7:(xI o4).1=[]:=ak
 have f8:(xI o4).2.2=1:=ak
 have f9:(xB).current=1:=ak
 have hC:=Cal.UT (xI jG).1 (by rw[f1];decide);have hP:=hP;have hE:=hE;have hB:=hB;have hA:=hA;have hN:=hN;have hH:=hH;rw[f2]at hP;rw[f7,f8]at hE;generalize xB=x at *;generalize wB=b at *;generalize (xI o4).2.1=zw at *;generalize (xI jG).2.1=w at *;generalize (xI jG).1=l at *;generalize Cal.iZ l=q at *;obtain⟨cs,er⟩:=q;have f3:er=0:=f3;subst f3;obtain⟨c0,cs,rfl,g0,f4⟩:=tq.1 f4;obtain⟨c1,cs,rfl,g1,f4⟩:=tq.1 f4;obtain⟨c2,cs,rfl,g2,f4⟩:=tq.1 f4;obtain⟨c3,cs,rfl,g3,f4⟩:=tq.1 f4;obtain rfl:=List.map_eq_nil_iff.1 f4;have h (a b c d:Int) (h:(a,b)=(c,d)):a=c/\b=d:=by cases h;exact gd
 exact PS hP f1 hC hE hB hA hN hH (h _ _ _ _ g0).2 (h _ _ _ _ g1).2 (h _ _ _ _ g1).1 (h _ _ _ _ g2).2 (h _ _ _ _ g3).2 f5 f6 f9
end Go.Run
