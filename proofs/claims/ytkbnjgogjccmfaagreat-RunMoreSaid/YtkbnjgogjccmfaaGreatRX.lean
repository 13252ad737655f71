import Derived.Test.YtkbnjgogjccmfaaGreatRW
import Derived.Test.YtkbnjgogjccmfaaGreatRV
set_option linter.all false
set_option maxRecDepth 100000
set_option maxHeartbeats 4000000
namespace Go.Wor
open Go.Ab Go.Proofs Tryz Go.Hy Go.Gat Go.Nam Go.Hos Go.Con Go.Sna
abbrev Ae (w:Wor) (m:uk):uk:={ m with version:=w.current,zg:=0,end_:=0,other:=0,slot:=0,listen:=zT w.zd m.op.listen,pc:=4 }
abbrev GS (e:uv):uv:={ e with qP:=true }
def L7 (w:Wor) (m:uk) (hl:w.zd.length < 4611686018427387904):
  tn 141 [⟨1,37,8,[zJ w],0⟩,⟨1,69,44,[zD (m)],0⟩] [.agg tj] (Ce (GS (u6 m 1 3 w.current))) [⟨1,37,8,[zJ w],0⟩,⟨1,69,44,[zD (if zT w.zd m.op.listen < 0 then wN (Ae w m) 2 else Ae w m)],0⟩]:=by
 refine aa func141 ?_;refine .inr ⟨⟨[0,2,5,6],[0,1,2],true⟩,au,fun _=>rfl,_,uH ?_,fun t2 H2 h=>h⟩;refine ⟨_,ai [1] (jg m 1 3 w.current),uH ?_⟩;(refine ⟨uH ?_,trivial⟩);refine hZ ?_
 (refine ⟨uH ?_,trivial⟩);refine hZ ?_
 (refine ⟨_,_,.refl _,uH ?_⟩)
 refine .inl ⟨⟨true,[],[],[12]⟩,au,uH ?_⟩;refine ah (wv w.zd m.op.listen hl) ?_;refine hZ ?_
 refine ⟨fun h1=>?_,fun h1=>?_⟩
 ·have e1:zT w.zd m.op.listen < 0:=by simpa using h1
  rw [dO e1];refine dd ?_;refine af [1] (vm (Ae w m) 2) ?_;exact cG
 ·have e1:¬zT w.zd m.op.listen < 0:=by simpa using h1
  rw [dL e1];refine dd ?_;exact cG
def OH (w:Wor) (m:uk) (sw:qV w) (ok:eR w) (hl:i64 m.listen) (hs:zY w m=true):
  tn 154 [⟨1,37,8,[zJ (w)],0⟩,⟨1,69,44,[zD (m)],0⟩] [.agg tj] (Ce { B1 m with done:=true,answer:=m.answer }) [⟨1,37,8,[zJ (mL w m.zj.toNat 0)],0⟩,⟨1,69,44,[zD ({ m with done:=true })],0⟩]:=by
 refine aa func154 ?_;refine .inr ⟨⟨[1,3,5,7,8],[0,1,2],true⟩,au,fun _=>rfl,fun t H=>t=(.za::.ref 2 [] 2 0 0::.ref 3 [] 23 0 0::.ref 4 [] 8 0 0::.ref 5 [] 23 0 0::tZ (tZ (tZ ([.za,.za,.za,.za]))))∧H=[⟨1,37,8,[zJ (w)],0⟩,⟨1,69,44,[zD (m)],0⟩,⟨1,213,2,[tj],0⟩,⟨1,48,23,[zR (qz)],0⟩,⟨1,37,8,[zJ (mL w m.zj.toNat 0)],0⟩,⟨1,48,23,[zR (B1 m)],0⟩],?_,?_⟩
 ·conv=>whnf
  refine ⟨_,ai [] (Rq w m sw ok hl hs),uH ?_⟩;repeat' (first | (exact trivial) | (refine ⟨rfl,uH ?_⟩) | (exact ⟨_,_,zo.ur [0,1,2,3,4,5] [1,2,3,4] _ _ rfl rfl rfl rfl,rfl,rfl⟩) | (exact ⟨_,_,zo.ur [0,1,2,3,5,4] [1,2,3,4] _ _ rfl rfl rfl rfl,rfl,rfl⟩) | (refine And.intro ?_ ?_ <;> (conv=>whnf)))
 rintro _ _ ⟨rfl,rfl⟩;conv=>whnf
 refine .inr ⟨⟨[1,3],[2],true⟩,au,fun _=>rfl,fun t H=>t=(.za::.ref 2 [] 2 0 0::.ref 3 [] 23 0 0::.za::.ref 5 [] 23 0 0::tZ (tZ (tZ ([.za,.za,.za,.za]))))∧H=[⟨1,37,8,[zJ (mL w m.zj.toNat 0)],0⟩,⟨1,69,44,[zD ({ m with done:=true })],0⟩,⟨1,213,2,[tj],0⟩,⟨1,48,23,[zR (qz)],0⟩,⟨1,37,8,[zJ (mL w m.zj.toNat 0)],0⟩,⟨1,48,23,[zR ({ B1 m with done:=true,answer:=m.answer })],0⟩],?_,?_⟩
 ·conv=>whnf
  repeat' (first | (exact trivial) | (refine ⟨rfl,uH ?_⟩) | (exact ⟨_,_,zo.mask [1,2,4] _ _,rfl,rfl⟩) | (refine And.intro ?_ ?_ <;> (conv=>whnf)))
 rintro _ _ ⟨rfl,rfl⟩;conv=>whnf
 exact cG
def xU (c:eC) (d:Int):Int:=((uj c)[(d % (uj c).length).toNat]?).getD 0
def yy (c:eC) (d0 d1:Int):Int × Int × Int:=if (uj c).length=0 then (0,0,5) else (xU c d0,xU c d1,0)
def P3 {d:Int} {n:Nat} (hd:i64 d) (hn:0 < n) (hm:n < 1000000000000):IntKind.i64.wrap (d.tmod n+n)=d.tmod n+n∧(d.tmod n+n).tmod n=d % n:=by
 have h1:=Int.tmod_lt_of_pos d (show (0:Int) < n by omega);have h2:=Int.lt_tmod_of_pos d (show (0:Int) < n by omega);refine ⟨qZ aw aw,?_⟩;rw [rE aw,Int.add_emod_right];rw [Int.tmod_def,Int.sub_mul_emod_self_left]
def JQ {c:eC} {d:Int} (hd:i64 d) (hn:0 < (uj c).length) (hm:(uj c).length < 1000000000000) {n:Nat} (e:n=(uj c).length):
  0<=(IntKind.i64.wrap (d.tmod n+n)).tmod n∧((uj c).map encI)[((IntKind.i64.wrap (d.tmod n+n)).tmod n).toNat]?= some [I (xU c d)]:=by
 subst e;obtain ⟨e1,e2⟩:=P3 hd hn hm;rw [e1,e2];have h0:(0:Int) < (uj c).length:=aw
 have h1:=rP d (show ((uj c).length:Int)≠0 by omega);have h2:=rQ d h0;refine ⟨h1,?_⟩;have hi:(uj c)[(d % ((uj c).length:Int)).toNat]?= some ((uj c)[(d % ((uj c).length:Int)).toNat]'aw):=dK _;unfold xU;rw [dN,hi]
 rfl
def Oy (c:eC) (d0 d1:Int) (h0:i64 d0) (h1:i64 d1) (hl:c.zL.length < 1000000000000) (hh:(uj c).length<=c.zL.length):tn 195 [] [Cc c,I d0,I d1] (.uo [I (yy c d0 d1).1,I (yy c d0 d1).2.1,I (yy c d0 d1).2.2]) []:=by
 have ml:((uj c).map encI).length=(uj c).length:=dP ..;refine ab func195 ?_;refine ah (wV c hl) ?_;rw [ml];refine ⟨fun hz=>?_,fun hz=>?_⟩
 ·unfold yy;have hz:=pn hz;rw [dO aw];exact de
 ·unfold yy;have hz:=pC hz;rw [dL aw];refine dd ?_;have hw:(((uj c).length:Nat):Int)≠0:=by omega
  refine nG.B8 3 (LoopN.step ?_);conv=>whnf
  refine tc ?_
  (refine ⟨ar,ar,dd ?_⟩)
  split;(rotate_left;(rename_i hno;exact (hno _ (xQ rfl rfl rfl hw)).elim));(rename_i v e;cases e.symm.trans (xQ rfl rfl rfl hw));refine dd ?_
  split;(rotate_left;(rename_i hno;exact (hno _ (xQ rfl rfl rfl hw)).elim));(rename_i v e;cases e.symm.trans (xQ rfl rfl rfl hw));refine dd ?_
  obtain ⟨p0,p1⟩:=JQ h0 (c:=c) aw aw rfl;refine ⟨p0,_,p1,dd ?_⟩;(refine ⟨ar,ar,dd ?_⟩)
  refine .inl ⟨rfl,LoopN.step (uH ?_)⟩;refine tc ?_
  (refine ⟨ar,ar,dd ?_⟩)
  split;(rotate_left;(rename_i hno;exact (hno _ (xQ rfl rfl rfl hw)).elim));(rename_i v e;cases e.symm.trans (xQ rfl rfl rfl hw));refine dd ?_
  split;(rotate_left;(rename_i hno;exact (hno _ (xQ rfl rfl rfl hw)).elim));(rename_i v e;cases e.symm.trans (xQ rfl rfl rfl hw));refine dd ?_
  obtain ⟨p2,p3⟩:=JQ h1 (c:=c) aw aw rfl;refine ⟨p2,_,p3,dd ?_⟩;(refine ⟨ar,ar,dd ?_⟩)
  refine .inl ⟨rfl,LoopN.step (uH ?_)⟩;refine tc ?_
  refine .inr ⟨aj,uH ?_⟩;refine uE ?_;(refine ⟨ar,ar,dd ?_⟩)
  (refine ⟨ar,ar,dd ?_⟩)
  exact uI
abbrev xe (m:uk) (v:uq):Int × Int:=nA v.snap m.op.listen m.op.host m.op.path
def yn (m:uk) (v:uq):uk:=if (xe m v).2≠0 then wN m 2 else match v.snap.zk[(xe m v).1.toNat]? with
 | none=>m
 | some c=>if (yy c m.op.d0 m.op.d1).2.2≠0 then wN { m with zg:=(xe m v).1 } 3
  else if c.xx=1 then { m with zg:=(xe m v).1,pc:=6 }
  else { m with zg:=(xe m v).1,end_:=(yy c m.op.d0 m.op.d1).1,other:=(yy c m.op.d0 m.op.d1).2.1,pc:=7 }
structure DK (m:uk) (v:uq):Prop where
 small:KK v.snap
 host:m.op.host.length < 1000000000000
 path:m.op.path.length < 1000000000000
 d0:i64 m.op.d0
 d1:i64 m.op.d1
 Gp:(xe m v).2=0->0<=(xe m v).1∧∃ c,v.snap.zk[(xe m v).1.toNat]?= some c∧c.zL.length < 1000000000000
def KN (c:eC):(uj c).length<=c.zL.length:=CN c.zL c.zL.length
def Jq {m:uk} {v:uq} (h:(xe m v).2≠0):yn m v=wN m 2:=dO h
def HA {m:uk} {v:uq} {c:eC} (h:(xe m v).2=0) (hc:v.snap.zk[(xe m v).1.toNat]?= some c) (hd:(yy c m.op.d0 m.op.d1).2.2≠0):yn m v=wN { m with zg:=(xe m v).1 } 3:=by
 unfold yn;rw [dL aw,hc];exact dO hd
def Iy {m:uk} {v:uq} {c:eC} (h:(xe m v).2=0) (hc:v.snap.zk[(xe m v).1.toNat]?= some c) (hd:(yy c m.op.d0 m.op.d1).2.2=0) (hp:c.xx=1):yn m v={ m with zg:=(xe m v).1,pc:=6 }:=by
 unfold yn;rw [dL aw,hc];exact (dL aw).trans (dO hp)
def Iz {m:uk} {v:uq} {c:eC} (h:(xe m v).2=0) (hc:v.snap.zk[(xe m v).1.toNat]?= some c) (hd:(yy c m.op.d0 m.op.d1).2.2=0) (hp:c.xx≠1):
  yn m v={ m with zg:=(xe m v).1,end_:=(yy c m.op.d0 m.op.d1).1,other:=(yy c m.op.d0 m.op.d1).2.1,pc:=7 }:=by
 unfold yn;rw [dL aw,hc];exact (dL aw).trans (dL hp)
def NT (w:Wor) (m:uk) (v:uq) (hv:mr w m v) (h:DK m v):tn 180 [⟨1,37,8,[zJ w],0⟩,⟨1,69,44,[zD (m)],0⟩] [.agg tj] (.uo []) [⟨1,37,8,[zJ w],0⟩,⟨1,69,44,[zD (yn m v)],0⟩]:=by
 have h0:=hv.v0;have hr:=hv.row;refine aa func180 ?_;refine uE ?_;(refine ⟨h0,_,hr,dd ?_⟩)
 refine ah (Of v.snap m.op.listen m.op.host m.op.path h.small h.host h.path) ?_;refine ⟨fun h1=>?_,fun h1=>?_⟩
 ·have h2:(xe m v).2≠0:=by simpa using h1
  rw [Jq h2];refine dd ?_;refine af [1] (vm m 2) ?_;exact cG
 ·have h2:(xe m v).2=0:=by simpa using h1
  obtain ⟨g0,c,hc,hcl⟩:=h.Gp h2;refine dd ?_;refine .inr ⟨⟨[0,1,6,11,12],[0,1,2],true⟩,au,fun _=>rfl,_,uH ?_,fun t2 H2 h=>h⟩;refine ⟨_,ai [0,1] (vz w { m with zg:=(xe m v).1 } v c ⟨hv.v0,hv.at_⟩ g0 hc),uH ?_⟩;refine ⟨_,ai [] (Oy c m.op.d0 m.op.d1 h.d0 h.d1 hcl (KN c)),uH ?_⟩;(refine ⟨_,_,.refl _,uH ?_⟩)
  refine ⟨fun h3=>?_,fun h3=>?_⟩
  ·have h4:(yy c m.op.d0 m.op.d1).2.2≠0:=by simpa using h3
   rw [HA h2 hc h4];refine dd ?_;refine af [1] (vm { m with zg:=(xe m v).1 } 3) ?_;exact ⟨.inr rfl,_,_,.refl _,rfl,cE 2⟩
  ·have h4:(yy c m.op.d0 m.op.d1).2.2=0:=by simpa using h3
   refine dd ?_;refine af [0,1] (vz w { m with zg:=(xe m v).1 } v c ⟨hv.v0,hv.at_⟩ g0 hc) ?_;refine ⟨fun h5=>?_,fun h5=>?_⟩
   ·have h6:c.xx=1:=by simpa using h5
    rw [Iy h2 hc h4 h6];refine dd ?_;exact ⟨.inr rfl,_,_,.refl _,rfl,cE 2⟩
   ·have h6:c.xx≠1:=by simpa using h5
    rw [Iz h2 hc h4 h6];refine dd ?_;exact ⟨.inr rfl,_,_,.refl _,rfl,cE 2⟩
def Mm (w:Wor) (m:uk) (v:uq) (hv:mr w m v) (h:DK m v) {l:ec} (l0:0<=m.listen) (hl:w.zd[m.listen.toNat]?= some l):
  tn 143 [⟨1,37,8,[zJ w],0⟩,⟨1,69,44,[zD (m)],0⟩] [.agg tj] (Ce (if l.drain then { u6 m 1 4 1 with qP:=true } else u6 m 1 4 0)) [⟨1,37,8,[zJ w],0⟩,⟨1,69,44,[zD (if l.drain then wN m 5 else yn m v)],0⟩]:=by
 have lr:(w.zd.map qF)[m.listen.toNat]?= some (qF l):=by rw [dN,hl];rfl
 obtain ⟨ln,ld,la,lc⟩:=l;cases ld
 all_goals
  refine aa func143 ?_;refine uE ?_;(refine ⟨l0,_,lr,dd ?_⟩)
 ·(refine yb (dd ?_))
  refine af [0,1] (NT w m v hv h) ?_
  have et:(yn m v).zj=m.zj:=by
   unfold yn;split
   ·rfl
   ·split
    ·rfl
    ·split
     ·rfl
     ·split <;> rfl
  have ee:u6 m 1 4 0=u6 (yn m v) 1 4 0:=by unfold u6;rw [et]
  have eg:(if ({ name:=ln,drain:=false,zf:=la,closed:=lc }:ec).drain then { u6 m 1 4 1 with qP:=true } else u6 m 1 4 0)=u6 (yn m v) 1 4 0:=ee;rw [eg];refine af [1] (jg (yn m v) 1 4 0) ?_;exact cG
 ·(refine ya (dd ?_))
  refine af [1] (jg m 1 4 1) ?_;refine af [1] (vm m 5) ?_;exact cG
def Mf (w:Wor) (m:uk) (v0:uq) (g0:Gr) (e0:En) (c:eC) (hv:lb w m v0 g0) (hc:v0.snap.zk[m.zg.toNat]?= some c):tn 183 [⟨1,37,8,[(eD w 2)],0⟩,⟨1,69,44,[zD (m)],0⟩,⟨1,0,5,u4 w m v0 3,0⟩,⟨1,0,2,u1 m v0 g0 g0.zt 4,0⟩,⟨1,0,3,ux m g0 e0 e0.head 5 e0.zf,0⟩,⟨2,3,1,e0.next.map encI,0⟩] [.agg tj] (Cc c) [⟨1,37,8,[(eD w 2)],0⟩,⟨1,69,44,[zD (m)],0⟩,⟨1,0,5,u4 w m v0 3,0⟩,⟨1,0,2,u1 m v0 g0 g0.zt 4,0⟩,⟨1,0,3,ux m g0 e0 e0.head 5 e0.zf,0⟩,⟨2,3,1,e0.next.map encI,0⟩]:=by
 have h0:=hv.pv;have g0':=hv.pg;have lv:m.version.toNat < w.ze.length:=hv.lv;have cr:(v0.snap.zk.map jV)[m.zg.toNat]?= some (jV c):=by rw [dN,hc];rfl
 have lowV:∀ r ∈ u4 w m v0 3,∀ c ∈ r,qW 6 9 c=true:=zA (enc:=zF) (fun _=>rfl) rfl _ _;have lowG:∀ r ∈ u1 m v0 g0 g0.zt 4,∀ c ∈ r,qW 6 9 c=true:=zA (enc:=zE) (fun _=>rfl) rfl _ _;have lowE:∀ r ∈ ux m g0 e0 e0.head 5 e0.zf,∀ c ∈ r,qW 6 9 c=true:=zA (enc:=zx) (fun _=>rfl) rfl _ _;have e1:0+m.version.toNat=m.version.toNat:=gf _;have gv:(u4 w m v0 3)[m.version.toNat]?= some ((qJ v0.snap++[C.sl 3 [] 2 0 v0.zm.length false,Bo v0.qk])):=dQ tP;refine aa func183 ?_;refine uE ?_;refine ⟨h0,lv,dd ?_⟩;rw [e1];refine ⟨_,gv,(by show 2+1<=5;decide),dd ?_⟩;refine ⟨g0',_,cr,dd ?_⟩;exact cH
def D8 (w:Wor) (m:uk) (v0:uq) (g0:Gr) (e0:En) (hv:lb w m v0 g0) (x p a b c:Int):tn 184 [⟨1,37,8,[(eD w 2)],0⟩,⟨1,69,44,[zD ({ m with end_:=x,pc:=p })],0⟩,⟨1,0,5,u4 w m v0 3,0⟩,⟨1,0,2,u1 m v0 g0 g0.zt 4,0⟩,⟨1,0,3,ux m g0 e0 e0.head 5 e0.zf,0⟩,⟨2,3,1,e0.next.map encI,0⟩] [.agg tj,I a,I b,I c] (Ce (eX m v0 a b c)) [⟨1,37,8,[(eD w 2)],0⟩,⟨1,69,44,[zD ({ m with end_:=x,pc:=p })],0⟩,⟨1,0,5,u4 w m v0 3,0⟩,⟨1,0,2,u1 m v0 g0 g0.zt 4,0⟩,⟨1,0,3,ux m g0 e0 e0.head 5 e0.zf,0⟩,⟨2,3,1,e0.next.map encI,0⟩]:=by
 have h0:=hv.pv;have lv:m.version.toNat < w.ze.length:=hv.lv;have e1:0+m.version.toNat=m.version.toNat:=gf _
 clear hv
 obtain ⟨sn,gs,fr⟩:=v0;cases fr
 all_goals
  have ownV:∀ b,∀ r ∈ (w.ze.map zF).set m.version.toNat (qJ sn++[C.sl 3 [] 2 0 gs.length false,Bo b]),∀ c ∈ r,zy c=true:=fun b=>zA (enc:=zF) (fun _=>rfl) rfl _ _
  have ownG:∀ r ∈ (gs.map zE).set m.zg.toNat ([U g0.zt,C.sl 4 [] 3 0 g0.ends.length false]),∀ c ∈ r,zy c=true:=zA (enc:=zE) (fun _=>rfl) rfl _ _;have ownE:∀ r ∈ ux m g0 e0 e0.head 5 e0.zf,∀ c ∈ r,zy c=true:=zA (enc:=zx) (fun _=>rfl) rfl _ _;have lowV:∀ b,∀ r ∈ (w.ze.map zF).set m.version.toNat (qJ sn++[C.sl 3 [] 2 0 gs.length false,Bo b]),∀ c ∈ r,qW 6 9 c=true:=fun b=>zA (enc:=zF) (fun _=>rfl) rfl _ _
  have gv:∀ b,((w.ze.map zF).set m.version.toNat (qJ sn++[C.sl 3 [] 2 0 gs.length false,Bo b]))[m.version.toNat]?= some (qJ sn++[C.sl 3 [] 2 0 gs.length false,Bo b]):=fun b=>dQ tP
  have lowG:∀ r ∈ (gs.map zE).set m.zg.toNat ([U g0.zt,C.sl 4 [] 3 0 g0.ends.length false]),∀ c ∈ r,qW 6 9 c=true:=zA (enc:=zE) (fun _=>rfl) rfl _ _;have lowE:∀ r ∈ ux m g0 e0 e0.head 5 e0.zf,∀ c ∈ r,qW 6 9 c=true:=zA (enc:=zx) (fun _=>rfl) rfl _ _;refine aa func184 ?_;refine zX [1] [⟨1,37,8,[(eD w 2)],0⟩,⟨1,69,44,[zD ({ m with end_:=x,pc:=p })],0⟩,⟨1,0,5,(w.ze.map zF).set m.version.toNat (qJ sn++[C.sl 3 [] 2 0 gs.length false,Bo _]),0⟩,⟨1,0,2,(gs.map zE).set m.zg.toNat ([U g0.zt,C.sl 4 [] 3 0 g0.ends.length false]),0⟩,⟨1,0,3,ux m g0 e0 e0.head 5 e0.zf,0⟩,⟨2,3,1,e0.next.map encI,0⟩,⟨1,213,2,[tj],0⟩,⟨1,48,23,[zR qz],0⟩] (rx:=Ce (u6 m a b c)) (jg { m with end_:=x,pc:=p } a b c) rfl rfl rfl rfl rfl (zc rfl (zc rfl (zc (zi (ownV _)) (zc (zi ownG) (zc (zi ownE) rfl))))) rfl rfl (dd ?_);refine .inl ⟨⟨false,[6,9,11,14,17],[0,1,2,6],[]⟩,au,uH ?_⟩;refine ⟨h0,lv,dd ?_⟩;rw [e1];refine ⟨_,gv _,(by show 4+1<=5;decide),dd ?_⟩
  first | ((refine ya (dd ?_))) | ((refine yb (dd ?_)))
  refine hZ ?_
  exact ⟨.inl rfl,_,_,.refl _,rfl,zo.xi 6 hU rfl rfl rfl (zI rfl (zI rfl (zI (qd (lowV _)) (zI (qd lowG) (zI (qd lowE) rfl))))) rfl⟩
abbrev CT (m:uk) (c:eC) (t:Int):uk:={ m with end_:=(lx c t).1,pc:=9 }
abbrev Gc (g:Gr):Gr:={ g with zt:=IntKind.u64.wrap (g.zt+1) }
def Nn (w:Wor) (m:uk) (v0:uq) (g0:Gr) (e0:En) (c:eC) (hv:lb w m v0 g0) (hc:v0.snap.zk[m.zg.toNat]?= some c) (ht:u64 g0.zt) (hl:c.zL.length < 1000000000000):
  tn 144 [⟨1,37,8,[(eD w 2)],0⟩,⟨1,69,44,[zD (m)],0⟩,⟨1,0,5,u4 w m v0 3,0⟩,⟨1,0,2,u1 m v0 g0 g0.zt 4,0⟩,⟨1,0,3,ux m g0 e0 e0.head 5 e0.zf,0⟩,⟨2,3,1,e0.next.map encI,0⟩] [.agg tj] (Ce (eX m v0 3 6 (IntKind.i64.wrap g0.zt))) [⟨1,37,8,[(eD w 2)],0⟩,⟨1,69,44,[zD (CT m c g0.zt)],0⟩,⟨1,0,5,u4 w m v0 3,0⟩,⟨1,0,2,u1 m v0 g0 (IntKind.u64.wrap (g0.zt+1)) 4,0⟩,⟨1,0,3,ux m g0 e0 e0.head 5 e0.zf,0⟩,⟨2,3,1,e0.next.map encI,0⟩]:=by
 have lg:=hv.lg;have ownV:∀ r ∈ u4 w m v0 3,∀ c ∈ r,zy c=true:=zA (enc:=zF) (fun _=>rfl) rfl _ _;have ownG:∀ r ∈ u1 m v0 g0 g0.zt 4,∀ c ∈ r,zy c=true:=zA (enc:=zE) (fun _=>rfl) rfl _ _;have ownE:∀ r ∈ ux m g0 e0 e0.head 5 e0.zf,∀ c ∈ r,zy c=true:=zA (enc:=zx) (fun _=>rfl) rfl _ _;have gg:(u1 m v0 g0 g0.zt 4)[m.zg.toNat]?= some ([U g0.zt,C.sl 4 [] 3 0 g0.ends.length false]):=dQ tN;refine aa func144 ?_;refine CG [0,1,2,3,4,5] [⟨1,37,8,[(eD w 2)],0⟩,⟨1,69,44,[zD (m)],0⟩,⟨1,0,5,u4 w m v0 3,0⟩,⟨1,0,2,u1 m v0 g0 g0.zt 4,0⟩,⟨1,0,3,ux m g0 e0 e0.head 5 e0.zf,0⟩,⟨2,3,1,e0.next.map encI,0⟩,⟨1,213,2,[tj],0⟩,⟨1,48,23,[zR qz],0⟩] (rx:=.ref 3 [] 2 m.zg.toNat 0) (DZ w m v0 g0 e0 hv) (zc rfl (zc rfl (zc (zi ownV) (zc (zi ownG) (zc (zi ownE) rfl))))) uT rfl rfl rfl (zc rfl (zc rfl (zc (zi ownV) (zc (zi ownG) (zc (zi ownE) rfl))))) uU rfl (dd ?_);refine ⟨_,gg,(by show 0+1<=2;decide),dd ?_⟩;refine CG [0,1,2,3,4,5] [⟨1,37,8,[(eD w 2)],0⟩,⟨1,69,44,[zD (m)],0⟩,⟨1,0,5,u4 w m v0 3,0⟩,⟨1,0,2,u1 m v0 g0 g0.zt 4,0⟩,⟨1,0,3,ux m g0 e0 e0.head 5 e0.zf,0⟩,⟨2,3,1,e0.next.map encI,0⟩,⟨1,213,2,[tj],0⟩,⟨1,48,23,[zR qz],0⟩] (rx:=.ref 3 [] 2 m.zg.toNat 0) (DZ w m v0 g0 e0 hv) (zc rfl (zc rfl (zc (zi ownV) (zc (zi ownG) (zc (zi ownE) rfl))))) uT rfl rfl rfl (zc rfl (zc rfl (zc (zi ownV) (zc (zi ownG) (zc (zi ownE) rfl))))) uU rfl (dd ?_);refine ⟨_,gg,(by show 0+1<=2;decide),dd ?_⟩;refine ⟨_,gg,rfl,dd ?_⟩;rw [gA];have ownG2:∀ r ∈ u1 m v0 g0 (IntKind.u64.wrap (g0.zt+1)) 4,∀ c ∈ r,zy c=true:=zA (enc:=zE) (fun _=>rfl) rfl _ _;have lowV:∀ r ∈ u4 w m v0 3,∀ c ∈ r,qW 6 9 c=true:=zA (enc:=zF) (fun _=>rfl) rfl _ _;have lowG:∀ r ∈ u1 m v0 g0 (IntKind.u64.wrap (g0.zt+1)) 4,∀ c ∈ r,qW 6 9 c=true:=zA (enc:=zE) (fun _=>rfl) rfl _ _;have lowE:∀ r ∈ ux m g0 e0 e0.head 5 e0.zf,∀ c ∈ r,qW 6 9 c=true:=zA (enc:=zx) (fun _=>rfl) rfl _ _;have hv2:lb w m v0 (Gc g0):=⟨hv.pv,hv.lv,hv.pg,hv.lg,hv.pe,hv.le⟩;refine .inl ⟨⟨true,[],[],[3,5]⟩,au,uH ?_⟩;refine zX [0,1,2,3,4,5] [⟨1,37,8,[(eD w 2)],0⟩,⟨1,69,44,[zD (m)],0⟩,⟨1,0,5,u4 w m v0 3,0⟩,⟨1,0,2,u1 m v0 g0 (IntKind.u64.wrap (g0.zt+1)) 4,0⟩,⟨1,0,3,ux m g0 e0 e0.head 5 e0.zf,0⟩,⟨2,3,1,e0.next.map encI,0⟩,⟨1,213,2,[tj],0⟩,⟨1,48,23,[zR qz],0⟩] (rx:=Cc c) (Mf w m v0 (Gc g0) e0 c hv2 hc) (zc rfl (zc rfl (zc (zi ownV) (zc (zi ownG2) (zc (zi ownE) rfl))))) uT rfl rfl rfl (zc rfl (zc rfl (zc (zi ownV) (zc (zi ownG2) (zc (zi ownE) rfl))))) uU rfl (dd ?_);refine zX [] [⟨1,37,8,[(eD w 2)],0⟩,⟨1,69,44,[zD (m)],0⟩,⟨1,0,5,u4 w m v0 3,0⟩,⟨1,0,2,u1 m v0 g0 (IntKind.u64.wrap (g0.zt+1)) 4,0⟩,⟨1,0,3,ux m g0 e0 e0.head 5 e0.zf,0⟩,⟨2,3,1,e0.next.map encI,0⟩,⟨1,213,2,[tj],0⟩,⟨1,48,23,[zR qz],0⟩] (rx:=.uo [I (lx c g0.zt).1,I (lx c g0.zt).2]) (PU c g0.zt ht hl (KN c)) rfl rfl rfl rfl rfl (zc rfl (zc rfl (zc (zi ownV) (zc (zi ownG2) (zc (zi ownE) rfl))))) rfl rfl (dd ?_);refine zX [0,1,2,3,4,5] [⟨1,37,8,[(eD w 2)],0⟩,⟨1,69,44,[zD (CT m c g0.zt)],0⟩,⟨1,0,5,u4 w m v0 3,0⟩,⟨1,0,2,u1 m v0 g0 (IntKind.u64.wrap (g0.zt+1)) 4,0⟩,⟨1,0,3,ux m g0 e0 e0.head 5 e0.zf,0⟩,⟨2,3,1,e0.next.map encI,0⟩,⟨1,213,2,[tj],0⟩,⟨1,48,23,[zR qz],0⟩] (rx:=Ce (eX m v0 3 6 (IntKind.i64.wrap g0.zt))) (D8 w m v0 (Gc g0) e0 hv2 (lx c g0.zt).1 9 3 6 (IntKind.i64.wrap g0.zt)) (zc rfl (zc rfl (zc (zi ownV) (zc (zi ownG2) (zc (zi ownE) rfl))))) uT rfl rfl rfl (zc rfl (zc rfl (zc (zi ownV) (zc (zi ownG2) (zc (zi ownE) rfl))))) uU rfl (dd ?_);exact cH
def Mj (w:Wor) (m:uk) (v0:uq) (g0:Gr) (e0:En) (hv:lb w m v0 g0) (hw:u64 m.word) (l0: -1<=m.link) (l1:m.link<=2147483646) (hh:u64 e0.head) (hne:e0.head≠m.word):
  tn 149 [⟨1,37,8,[(eD w 2)],0⟩,⟨1,69,44,[zD (m)],0⟩,⟨1,0,5,u4 w m v0 3,0⟩,⟨1,0,2,u1 m v0 g0 g0.zt 4,0⟩,⟨1,0,3,ux m g0 e0 e0.head 5 e0.zf,0⟩,⟨2,3,1,e0.next.map encI,0⟩] [.agg tj] (Ce (eX m v0 5 8 (e0.head % 4294967296 - 1))) [⟨1,37,8,[(eD w 2)],0⟩,⟨1,69,44,[zD ({ m with pc:=9 })],0⟩,⟨1,0,5,u4 w m v0 3,0⟩,⟨1,0,2,u1 m v0 g0 g0.zt 4,0⟩,⟨1,0,3,ux m g0 e0 e0.head 5 e0.zf,0⟩,⟨2,3,1,e0.next.map encI,0⟩]:=by
 (have le:=hv.le);(have ownV:∀ r ∈ u4 w m v0 3,∀ c ∈ r,zy c=true:=zA (enc:=zF) (fun _=>rfl) rfl _ _);(have ownG:∀ r ∈ u1 m v0 g0 g0.zt 4,∀ c ∈ r,zy c=true:=zA (enc:=zE) (fun _=>rfl) rfl _ _);(have ownE:∀ r ∈ ux m g0 e0 e0.head 5 e0.zf,∀ c ∈ r,zy c=true:=zA (enc:=zx) (fun _=>rfl) rfl _ _);(have lowV:∀ r ∈ u4 w m v0 3,∀ c ∈ r,qW 6 9 c=true:=zA (enc:=zF) (fun _=>rfl) rfl _ _);(have lowG:∀ r ∈ u1 m v0 g0 g0.zt 4,∀ c ∈ r,qW 6 9 c=true:=zA (enc:=zE) (fun _=>rfl) rfl _ _)
 have lowE:∀ r ∈ ux m g0 e0 e0.head 5 e0.zf,∀ c ∈ r,qW 6 9 c=true:=zA (enc:=zx) (fun _=>rfl) rfl _ _;have ge:(ux m g0 e0 e0.head 5 e0.zf)[m.end_.toNat]?= some ([U e0.head,C.sl 5 [] 1 0 e0.next.length false,I e0.zf]):=dQ tK;have hv2:lb w { m with pc:=9 } v0 g0:=⟨hv.pv,hv.lv,hv.pg,hv.lg,hv.pe,hv.le⟩;refine aa func149 ?_;refine .inl ⟨⟨true,[],[],[8]⟩,au,uH ?_⟩;refine zX [] [⟨1,37,8,[(eD w 2)],0⟩,⟨1,69,44,[zD (m)],0⟩,⟨1,0,5,u4 w m v0 3,0⟩,⟨1,0,2,u1 m v0 g0 g0.zt 4,0⟩,⟨1,0,3,ux m g0 e0 e0.head 5 e0.zf,0⟩,⟨2,3,1,e0.next.map encI,0⟩,⟨1,213,2,[tj],0⟩,⟨1,48,23,[zR qz],0⟩] (rx:=.uo [U (Slp.qT m.word m.link),I 0]) (Slp.D7 m.word m.link hw l0 l1) rfl rfl rfl rfl rfl (zc rfl (zc rfl (zc (zi ownV) (zc (zi ownG) (zc (zi ownE) rfl))))) rfl rfl (dd ?_);refine .inl ⟨⟨true,[],[],[1]⟩,au,uH ?_⟩;refine zX [0,1,2,3,4,5] [⟨1,37,8,[(eD w 2)],0⟩,⟨1,69,44,[zD (m)],0⟩,⟨1,0,5,u4 w m v0 3,0⟩,⟨1,0,2,u1 m v0 g0 g0.zt 4,0⟩,⟨1,0,3,ux m g0 e0 e0.head 5 e0.zf,0⟩,⟨2,3,1,e0.next.map encI,0⟩,⟨1,213,2,[tj],0⟩,⟨1,48,23,[zR qz],0⟩] (rx:=.ref 4 [] 3 m.end_.toNat 0) (vi w m v0 g0 e0 hv) (zc rfl (zc rfl (zc (zi ownV) (zc (zi ownG) (zc (zi ownE) rfl))))) uT rfl rfl rfl (zc rfl (zc rfl (zc (zi ownV) (zc (zi ownG) (zc (zi ownE) rfl))))) uU rfl (dd ?_);refine ⟨_,ge,cy,dd ?_⟩;refine ⟨fun _=>dd ?_,fun h=>absurd h (aq hne)⟩;refine .inl ⟨⟨true,[],[],[2,6,7]⟩,au,uH ?_⟩;refine zX [0,1,2,3,4,5] [⟨1,37,8,[(eD w 2)],0⟩,⟨1,69,44,[zD ({ m with pc:=9 })],0⟩,⟨1,0,5,u4 w m v0 3,0⟩,⟨1,0,2,u1 m v0 g0 g0.zt 4,0⟩,⟨1,0,3,ux m g0 e0 e0.head 5 e0.zf,0⟩,⟨2,3,1,e0.next.map encI,0⟩,⟨1,213,2,[tj],0⟩,⟨1,48,23,[zR qz],0⟩] (rx:=.ref 4 [] 3 m.end_.toNat 0) (vi w _ v0 g0 e0 hv2) (zc rfl (zc rfl (zc (zi ownV) (zc (zi ownG) (zc (zi ownE) rfl))))) uT rfl rfl rfl (zc rfl (zc rfl (zc (zi ownV) (zc (zi ownG) (zc (zi ownE) rfl))))) uU rfl (dd ?_);refine ⟨_,ge,cy,dd ?_⟩;refine zX [] [⟨1,37,8,[(eD w 2)],0⟩,⟨1,69,44,[zD ({ m with pc:=9 })],0⟩,⟨1,0,5,u4 w m v0 3,0⟩,⟨1,0,2,u1 m v0 g0 g0.zt 4,0⟩,⟨1,0,3,ux m g0 e0 e0.head 5 e0.zf,0⟩,⟨2,3,1,e0.next.map encI,0⟩,⟨1,213,2,[tj],0⟩,⟨1,48,23,[zR qz],0⟩] (rx:=I (e0.head % 4294967296 - 1)) (Slp.qE e0.head hh) rfl rfl rfl rfl rfl (zc rfl (zc rfl (zc (zi ownV) (zc (zi ownG) (zc (zi ownE) rfl))))) rfl rfl (dd ?_);refine zX [0,1,2,3,4,5] [⟨1,37,8,[(eD w 2)],0⟩,⟨1,69,44,[zD ({ m with pc:=9 })],0⟩,⟨1,0,5,u4 w m v0 3,0⟩,⟨1,0,2,u1 m v0 g0 g0.zt 4,0⟩,⟨1,0,3,ux m g0 e0 e0.head 5 e0.zf,0⟩,⟨2,3,1,e0.next.map encI,0⟩,⟨1,213,2,[tj],0⟩,⟨1,48,23,[zR qz],0⟩] (rx:=Ce (eX m v0 5 8 (e0.head % 4294967296 - 1))) (D8 w m v0 g0 e0 hv m.end_ 9 5 8 (e0.head % 4294967296 - 1)) (zc rfl (zc rfl (zc (zi ownV) (zc (zi ownG) (zc (zi ownE) rfl))))) uT rfl rfl rfl (zc rfl (zc rfl (zc (zi ownV) (zc (zi ownG) (zc (zi ownE) rfl))))) uU rfl (dd ?_);exact cH
def L5 (w:Wor) (m:uk) (v0:uq) (g0:Gr) (e0:En) (hv:lb w m v0 g0) (hw:u64 m.word) (l0: -1<=m.link) (l1:m.link<=2147483646) (hne:e0.head=m.word):
  tn 149 [⟨1,37,8,[(eD w 2)],0⟩,⟨1,69,44,[zD (m)],0⟩,⟨1,0,5,u4 w m v0 3,0⟩,⟨1,0,2,u1 m v0 g0 g0.zt 4,0⟩,⟨1,0,3,ux m g0 e0 e0.head 5 e0.zf,0⟩,⟨2,3,1,e0.next.map encI,0⟩] [.agg tj] (Ce (eX m v0 4 8 m.slot)) [⟨1,37,8,[(eD w 2)],0⟩,⟨1,69,44,[zD ({ m with pc:=12 })],0⟩,⟨1,0,5,u4 w m v0 3,0⟩,⟨1,0,2,u1 m v0 g0 g0.zt 4,0⟩,⟨1,0,3,ux m g0 e0 (Slp.qT m.word m.link) 5 e0.zf,0⟩,⟨2,3,1,e0.next.map encI,0⟩]:=by
 (have le:=hv.le);(have ownV:∀ r ∈ u4 w m v0 3,∀ c ∈ r,zy c=true:=zA (enc:=zF) (fun _=>rfl) rfl _ _);(have ownG:∀ r ∈ u1 m v0 g0 g0.zt 4,∀ c ∈ r,zy c=true:=zA (enc:=zE) (fun _=>rfl) rfl _ _);(have ownE:∀ r ∈ ux m g0 e0 e0.head 5 e0.zf,∀ c ∈ r,zy c=true:=zA (enc:=zx) (fun _=>rfl) rfl _ _);(have lowV:∀ r ∈ u4 w m v0 3,∀ c ∈ r,qW 6 9 c=true:=zA (enc:=zF) (fun _=>rfl) rfl _ _);(have lowG:∀ r ∈ u1 m v0 g0 g0.zt 4,∀ c ∈ r,qW 6 9 c=true:=zA (enc:=zE) (fun _=>rfl) rfl _ _)
 have lowE:∀ r ∈ ux m g0 e0 (Slp.qT m.word m.link) 5 e0.zf,∀ c ∈ r,qW 6 9 c=true:=zA (enc:=zx) (fun _=>rfl) rfl _ _;have ownE2:∀ r ∈ ux m g0 e0 (Slp.qT m.word m.link) 5 e0.zf,∀ c ∈ r,zy c=true:=zA (enc:=zx) (fun _=>rfl) rfl _ _;have ge:(ux m g0 e0 e0.head 5 e0.zf)[m.end_.toNat]?= some ([U e0.head,C.sl 5 [] 1 0 e0.next.length false,I e0.zf]):=dQ tK;refine aa func149 ?_;refine .inl ⟨⟨true,[],[],[8]⟩,au,uH ?_⟩;refine zX [] [⟨1,37,8,[(eD w 2)],0⟩,⟨1,69,44,[zD (m)],0⟩,⟨1,0,5,u4 w m v0 3,0⟩,⟨1,0,2,u1 m v0 g0 g0.zt 4,0⟩,⟨1,0,3,ux m g0 e0 e0.head 5 e0.zf,0⟩,⟨2,3,1,e0.next.map encI,0⟩,⟨1,213,2,[tj],0⟩,⟨1,48,23,[zR qz],0⟩] (rx:=.uo [U (Slp.qT m.word m.link),I 0]) (Slp.D7 m.word m.link hw l0 l1) rfl rfl rfl rfl rfl (zc rfl (zc rfl (zc (zi ownV) (zc (zi ownG) (zc (zi ownE) rfl))))) rfl rfl (dd ?_);refine .inl ⟨⟨true,[],[],[1]⟩,au,uH ?_⟩;refine zX [0,1,2,3,4,5] [⟨1,37,8,[(eD w 2)],0⟩,⟨1,69,44,[zD (m)],0⟩,⟨1,0,5,u4 w m v0 3,0⟩,⟨1,0,2,u1 m v0 g0 g0.zt 4,0⟩,⟨1,0,3,ux m g0 e0 e0.head 5 e0.zf,0⟩,⟨2,3,1,e0.next.map encI,0⟩,⟨1,213,2,[tj],0⟩,⟨1,48,23,[zR qz],0⟩] (rx:=.ref 4 [] 3 m.end_.toNat 0) (vi w m v0 g0 e0 hv) (zc rfl (zc rfl (zc (zi ownV) (zc (zi ownG) (zc (zi ownE) rfl))))) uT rfl rfl rfl (zc rfl (zc rfl (zc (zi ownV) (zc (zi ownG) (zc (zi ownE) rfl))))) uU rfl (dd ?_);refine ⟨_,ge,cy,dd ?_⟩;refine ⟨fun h=>absurd h (by simp [hne]),fun _=>dd ?_⟩;refine tc ?_
 refine CG [0,1,2,3,4,5] [⟨1,37,8,[(eD w 2)],0⟩,⟨1,69,44,[zD (m)],0⟩,⟨1,0,5,u4 w m v0 3,0⟩,⟨1,0,2,u1 m v0 g0 g0.zt 4,0⟩,⟨1,0,3,ux m g0 e0 e0.head 5 e0.zf,0⟩,⟨2,3,1,e0.next.map encI,0⟩,⟨1,213,2,[tj],0⟩,⟨1,48,23,[zR qz],0⟩] (rx:=.ref 4 [] 3 m.end_.toNat 0) (vi w m v0 g0 e0 hv) (zc rfl (zc rfl (zc (zi ownV) (zc (zi ownG) (zc (zi ownE) rfl))))) uT rfl rfl rfl (zc rfl (zc rfl (zc (zi ownV) (zc (zi ownG) (zc (zi ownE) rfl))))) uU rfl (dd ?_);refine ⟨_,ge,rfl,dd ?_⟩;rw [gA];refine dd ?_;refine .inl ⟨⟨true,[],[],[5]⟩,au,uH ?_⟩;refine zX [0,1,2,3,4,5] [⟨1,37,8,[(eD w 2)],0⟩,⟨1,69,44,[zD ({ m with pc:=12 })],0⟩,⟨1,0,5,u4 w m v0 3,0⟩,⟨1,0,2,u1 m v0 g0 g0.zt 4,0⟩,⟨1,0,3,ux m g0 e0 (Slp.qT m.word m.link) 5 e0.zf,0⟩,⟨2,3,1,e0.next.map encI,0⟩,⟨1,213,2,[tj],0⟩,⟨1,48,23,[zR qz],0⟩] (rx:=Ce (eX m v0 4 8 m.slot)) (D8 w m v0 g0 { e0 with head:=Slp.qT m.word m.link } hv m.end_ 12 4 8 m.slot) (zc rfl (zc rfl (zc (zi ownV) (zc (zi ownG) (zc (zi ownE2) rfl))))) uT rfl rfl rfl (zc rfl (zc rfl (zc (zi ownV) (zc (zi ownG) (zc (zi ownE2) rfl))))) uU rfl (dd ?_);exact cH
end Go.Wor
namespace Go.Wor
open Go.Ab Go.Proofs Tryz Go.Hy
abbrev nf:C:=.v .nilFunc
abbrev pf (f:FuncId):C:=.fn f [] []
abbrev Vy:List C:=[nf,nf,nf,pf 141,pf 142,pf 143,pf 144,pf 145,pf 146,pf 147,pf 148,pf 149,pf 150,nf,nf,nf,nf,nf,nf,nf,pf 151,pf 152,pf 153,pf 154]
def jj:tn 113 [] [] (.agg Vy) []:=by
 refine ab func113 ?_;exact uI
end Go.Wor
namespace Go.Wor
open Go.Ab Go.Proofs Tryz Go.Hy Go.Gat Go.Nam Go.Hos Go.Con Go.Sna
def Sv {w w':Wor} {m m':uk} {e:uv} (sw:qV w) (ok:eR w) (hl:i64 m.listen) (hpc:m.pc=3) (hs:zY w m=true) (h:tn 141 [⟨1,37,8,[zJ w],0⟩,⟨1,69,44,[zD m],0⟩] [.agg tj] (Ce e) [⟨1,37,8,[zJ w'],0⟩,⟨1,69,44,[zD m'],0⟩]):tn 96 [] [Cw w,Cm m] (.uo [Cw w',Cm m',Ce e]) []:=by
 by_cases hn:m.listen < 0
 all_goals
  refine ab func96 ?_;(repeat (first | refine uA ?_ | refine uB ?_))
  refine ah (zO w m ok hl) ?_;refine ⟨fun _=>dd ?_,fun h=>absurd ((hs).symm.trans h:true=false) ar⟩;refine tc ?_
  (repeat (first | refine uA ?_ | refine uB ?_))
  refine .inl ⟨⟨true,[2],[1],[0]⟩,au,uH ?_⟩;refine ah jj ?_;refine hZ ?_
  (refine ⟨aw,aw,pf 141,cz,dd ?_⟩)
  refine tc ?_
  refine ah (qt w sw) ?_;refine af [5,6] (h) ?_;refine .inl ⟨⟨false,[0,1,2],[5,6,7],[]⟩,au,uH ?_⟩;refine hZ ?_
  exact uI
def RP {w w':Wor} {m m':uk} {e:uv} (sw:qV w) (ok:eR w) (hl:i64 m.listen) (hpc:m.pc=5) (hs:zY w m=true) (hli:0<=m.listen)(h:tn 143 [⟨1,37,8,[zJ w],0⟩,⟨1,69,44,[zD m],0⟩] [.agg tj] (Ce e) [⟨1,37,8,[zJ w'],0⟩,⟨1,69,44,[zD m'],0⟩]):tn 96 [] [Cw w,Cm m] (.uo [Cw w',Cm m',Ce e]) []:=by
 have hn:¬m.listen < 0:=aw
 all_goals
  refine ab func96 ?_;(repeat (first | refine uA ?_ | refine uB ?_))
  refine ah (zO w m ok hl) ?_;refine ⟨fun _=>dd ?_,fun h=>absurd ((hs).symm.trans h:true=false) ar⟩;refine tc ?_
  (repeat (first | refine uA ?_ | refine uB ?_))
  refine .inl ⟨⟨true,[2],[1],[0]⟩,au,uH ?_⟩;refine ah jj ?_;refine hZ ?_
  (refine ⟨aw,aw,pf 143,cz,dd ?_⟩)
  refine tc ?_
  refine ah (qt w sw) ?_;refine af [5,6] (h) ?_;refine .inl ⟨⟨false,[0,1,2],[5,6,7],[]⟩,au,uH ?_⟩;refine hZ ?_
  exact uI
def RR {w w':Wor} {m m':uk} {e:uv} (sw:qV w) (ok:eR w) (hl:i64 m.listen) (hpc:m.pc=7) (hs:zY w m=true) (h:tn 145 [⟨1,37,8,[zJ w],0⟩,⟨1,69,44,[zD m],0⟩] [.agg tj] (Ce e) [⟨1,37,8,[zJ w'],0⟩,⟨1,69,44,[zD m'],0⟩]):tn 96 [] [Cw w,Cm m] (.uo [Cw w',Cm m',Ce e]) []:=by
 by_cases hn:m.listen < 0
 all_goals
  refine ab func96 ?_;(repeat (first | refine uA ?_ | refine uB ?_))
  refine ah (zO w m ok hl) ?_;refine ⟨fun _=>dd ?_,fun h=>absurd ((hs).symm.trans h:true=false) ar⟩;refine tc ?_
  (repeat (first | refine uA ?_ | refine uB ?_))
  refine .inl ⟨⟨true,[2],[1],[0]⟩,au,uH ?_⟩;refine ah jj ?_;refine hZ ?_
  (refine ⟨aw,aw,pf 145,cz,dd ?_⟩)
  refine tc ?_
  refine ah (qt w sw) ?_;refine af [5,6] (h) ?_;refine .inl ⟨⟨false,[0,1,2],[5,6,7],[]⟩,au,uH ?_⟩;refine hZ ?_
  exact uI
def RS {w w':Wor} {m m':uk} {e:uv} (sw:qV w) (ok:eR w) (hl:i64 m.listen) (hpc:m.pc=8) (hs:zY w m=true) (h:tn 146 [⟨1,37,8,[zJ w],0⟩,⟨1,69,44,[zD m],0⟩] [.agg tj] (Ce e) [⟨1,37,8,[zJ w'],0⟩,⟨1,69,44,[zD m'],0⟩]):tn 96 [] [Cw w,Cm m] (.uo [Cw w',Cm m',Ce e]) []:=by
 by_cases hn:m.listen < 0
 all_goals
  refine ab func96 ?_;(repeat (first | refine uA ?_ | refine uB ?_))
  refine ah (zO w m ok hl) ?_;refine ⟨fun _=>dd ?_,fun h=>absurd ((hs).symm.trans h:true=false) ar⟩;refine tc ?_
  (repeat (first | refine uA ?_ | refine uB ?_))
  refine .inl ⟨⟨true,[2],[1],[0]⟩,au,uH ?_⟩;refine ah jj ?_;refine hZ ?_
  (refine ⟨aw,aw,pf 146,cz,dd ?_⟩)
  refine tc ?_
  refine ah (qt w sw) ?_;refine af [5,6] (h) ?_;refine .inl ⟨⟨false,[0,1,2],[5,6,7],[]⟩,au,uH ?_⟩;refine hZ ?_
  exact uI
def J1 {w w':Wor} {m m':uk} {e:uv} (sw:qV w) (ok:eR w) (hl:i64 m.listen) (hpc:m.pc=9) (hs:zY w m=true) (h:tn 147 [⟨1,37,8,[zJ w],0⟩,⟨1,69,44,[zD m],0⟩] [.agg tj] (Ce e) [⟨1,37,8,[zJ w'],0⟩,⟨1,69,44,[zD m'],0⟩]):tn 96 [] [Cw w,Cm m] (.uo [Cw w',Cm m',Ce e]) []:=by
 by_cases hn:m.listen < 0
 all_goals
  refine ab func96 ?_;(repeat (first | refine uA ?_ | refine uB ?_))
  refine ah (zO w m ok hl) ?_;refine ⟨fun _=>dd ?_,fun h=>absurd ((hs).symm.trans h:true=false) ar⟩;refine tc ?_
  (repeat (first | refine uA ?_ | refine uB ?_))
  refine .inl ⟨⟨true,[2],[1],[0]⟩,au,uH ?_⟩;refine ah jj ?_;refine hZ ?_
  (refine ⟨aw,aw,pf 147,cz,dd ?_⟩)
  refine tc ?_
  refine ah (qt w sw) ?_;refine af [5,6] (h) ?_;refine .inl ⟨⟨false,[0,1,2],[5,6,7],[]⟩,au,uH ?_⟩;refine hZ ?_
  exact uI
def Qf {w w':Wor} {m m':uk} {e:uv} (sw:qV w) (ok:eR w) (hl:i64 m.listen) (hpc:m.pc=10) (hs:zY w m=true) (h:tn 148 [⟨1,37,8,[zJ w],0⟩,⟨1,69,44,[zD m],0⟩] [.agg tj] (Ce e) [⟨1,37,8,[zJ w'],0⟩,⟨1,69,44,[zD m'],0⟩]):tn 96 [] [Cw w,Cm m] (.uo [Cw w',Cm m',Ce e]) []:=by
 by_cases hn:m.listen < 0
 all_goals
  refine ab func96 ?_;(repeat (first | refine uA ?_ | refine uB ?_))
  refine ah (zO w m ok hl) ?_;refine ⟨fun _=>dd ?_,fun h=>absurd ((hs).symm.trans h:true=false) ar⟩;refine tc ?_
  (repeat (first | refine uA ?_ | refine uB ?_))
  refine .inl ⟨⟨true,[2],[1],[0]⟩,au,uH ?_⟩;refine ah jj ?_;refine hZ ?_
  (refine ⟨aw,aw,pf 148,cz,dd ?_⟩)
  refine tc ?_
  refine ah (qt w sw) ?_;refine af [5,6] (h) ?_;refine .inl ⟨⟨false,[0,1,2],[5,6,7],[]⟩,au,uH ?_⟩;refine hZ ?_
  exact uI
def Qk {w w':Wor} {m m':uk} {e:uv} (sw:qV w) (ok:eR w) (hl:i64 m.listen) (hpc:m.pc=23) (hs:zY w m=true) (h:tn 154 [⟨1,37,8,[zJ w],0⟩,⟨1,69,44,[zD m],0⟩] [.agg tj] (Ce e) [⟨1,37,8,[zJ w'],0⟩,⟨1,69,44,[zD m'],0⟩]):tn 96 [] [Cw w,Cm m] (.uo [Cw w',Cm m',Ce e]) []:=by
 by_cases hn:m.listen < 0
 all_goals
  refine ab func96 ?_;(repeat (first | refine uA ?_ | refine uB ?_))
  refine ah (zO w m ok hl) ?_;refine ⟨fun _=>dd ?_,fun h=>absurd ((hs).symm.trans h:true=false) ar⟩;refine tc ?_
  (repeat (first | refine uA ?_ | refine uB ?_))
  refine .inl ⟨⟨true,[2],[1],[0]⟩,au,uH ?_⟩;refine ah jj ?_;refine hZ ?_
  (refine ⟨aw,aw,pf 154,cz,dd ?_⟩)
  refine tc ?_
  refine ah (qt w sw) ?_;refine af [5,6] (h) ?_;refine .inl ⟨⟨false,[0,1,2],[5,6,7],[]⟩,au,uH ?_⟩;refine hZ ?_
  exact uI
def Ek {w w':Wor} {m m':uk} {e:uv} (h0:0<=m.pc) (h3:m.pc < 3) (h:tn 111 [] [Cw w,Cm m] (.uo [Cw w',Cm m',Ce e]) []):tn 96 [] [Cw w,Cm m] (.uo [Cw w',Cm m',Ce e]) []:=by
 refine ab func96 ?_;refine ⟨fun _=>dd ?_,fun h=>absurd h aA⟩;refine ⟨fun _=>dd ?_,fun h=>absurd h aA⟩;refine ah h ?_;exact uI
def Sx {w:Wor} {m m':uk} {e:uv} {ls:List ec} (sw:qV w) (ok:eR w) (hl:i64 m.listen) (hpc:m.pc=4) (hs:zY w m=true) (hli:0<=m.listen) (hll:ls.length=w.zd.length) (h:tn 142 [⟨1,37,8,[[I w.zn,I w.current,I w.lock,lI w.pins,lV w.ze,.sl 2 [] 4 0 w.zd.length false,eh w.counts,lR w.zr]],0⟩,⟨1,69,44,[zD m],0⟩,⟨2,85,4,(w.zd).map qF,0⟩] [.agg tj] (Ce e) [⟨1,37,8,[[I w.zn,I w.current,I w.lock,lI w.pins,lV w.ze,.sl 2 [] 4 0 w.zd.length false,eh w.counts,lR w.zr]],0⟩,⟨1,69,44,[zD m'],0⟩,⟨2,85,4,(ls).map qF,0⟩]):tn 96 [] [Cw w,Cm m] (.uo [Cw { w with zd:=ls },Cm m',Ce e]) []:=by
 have hn:¬m.listen < 0:=aw
 obtain ⟨x,l,hx⟩:∃ x l,w.zd=x::l:=by
  obtain ⟨v,g,e,su⟩:=kD hs;cases h:w.zd with
  | nil=>have:=su.listen;rw [h] at this;exact cN
  | cons x l=>exact ⟨x,l,rfl⟩
 refine ab func96 ?_;(repeat (first | refine uA ?_ | refine uB ?_))
 refine ah (zO w m ok hl) ?_;refine ⟨fun _=>dd ?_,fun h=>absurd ((hs).symm.trans h:true=false) ar⟩;refine tc ?_
 (repeat (first | refine uA ?_ | refine uB ?_))
 refine .inl ⟨⟨true,[2],[1],[0]⟩,au,uH ?_⟩;refine ah jj ?_;refine hZ ?_
 (refine ⟨aw,aw,pf 142,cz,dd ?_⟩)
 refine tc ?_
 refine af [] (yQ w sw x l hx) ?_;refine af [6,7,5] (h) ?_;refine .inl ⟨⟨false,[0,1,2],[6,7,8],[]⟩,au,uH ?_⟩;refine hZ ?_
 exact dt
def Qj {w:Wor} {m m':uk} {e:uv} {ls:List ec} (sw:qV w) (ok:eR w) (hl:i64 m.listen) (hpc:m.pc=22) (hs:zY w m=true) (hli:0<=m.listen) (hll:ls.length=w.zd.length) (h:tn 153 [⟨1,37,8,[[I w.zn,I w.current,I w.lock,lI w.pins,lV w.ze,.sl 2 [] 4 0 w.zd.length false,eh w.counts,lR w.zr]],0⟩,⟨1,69,44,[zD m],0⟩,⟨2,85,4,(w.zd).map qF,0⟩] [.agg tj] (Ce e) [⟨1,37,8,[[I w.zn,I w.current,I w.lock,lI w.pins,lV w.ze,.sl 2 [] 4 0 w.zd.length false,eh w.counts,lR w.zr]],0⟩,⟨1,69,44,[zD m'],0⟩,⟨2,85,4,(ls).map qF,0⟩]):tn 96 [] [Cw w,Cm m] (.uo [Cw { w with zd:=ls },Cm m',Ce e]) []:=by
 have hn:¬m.listen < 0:=aw
 obtain ⟨x,l,hx⟩:∃ x l,w.zd=x::l:=by
  obtain ⟨v,g,e,su⟩:=kD hs;cases h:w.zd with
  | nil=>have:=su.listen;rw [h] at this;exact cN
  | cons x l=>exact ⟨x,l,rfl⟩
 refine ab func96 ?_;(repeat (first | refine uA ?_ | refine uB ?_))
 refine ah (zO w m ok hl) ?_;refine ⟨fun _=>dd ?_,fun h=>absurd ((hs).symm.trans h:true=false) ar⟩;refine tc ?_
 (repeat (first | refine uA ?_ | refine uB ?_))
 refine .inl ⟨⟨true,[2],[1],[0]⟩,au,uH ?_⟩;refine ah jj ?_;refine hZ ?_
 (refine ⟨aw,aw,pf 153,cz,dd ?_⟩)
 refine tc ?_
 refine af [] (yQ w sw x l hx) ?_;refine af [6,7,5] (h) ?_;refine .inl ⟨⟨false,[0,1,2],[6,7,8],[]⟩,au,uH ?_⟩;refine hZ ?_
 exact dt
def Qh {w:Wor} {m m':uk} {e:uv} {r0 r1:List Int} (sw:qV w) (ok:eR w) (hl:i64 m.listen) (hpc:m.pc=20) (hs:zY w m=true) (t0:0<=m.zj) (hr:w.counts[m.zj.toNat]?= some r0) (hne:r0≠[]) (hll:r1.length=r0.length)
  (h:tn 151 [⟨1,37,8,[[I w.zn,I w.current,I w.lock,lI w.pins,lV w.ze,lL w.zd,.sl 2 [] 1 0 w.counts.length false,lR w.zr]],0⟩,⟨1,69,44,[zD m],0⟩,⟨1,0,1,(w.counts.map zN).set m.zj.toNat [C.sl (3) [] 1 0 r0.length false],0⟩,⟨2,43,1,(r0).map jA,0⟩] [.agg tj] (Ce e) [⟨1,37,8,[[I w.zn,I w.current,I w.lock,lI w.pins,lV w.ze,lL w.zd,.sl 2 [] 1 0 w.counts.length false,lR w.zr]],0⟩,⟨1,69,44,[zD m'],0⟩,⟨1,0,1,(w.counts.map zN).set m.zj.toNat [C.sl (3) [] 1 0 r0.length false],0⟩,⟨2,43,1,(r1).map jA,0⟩]):tn 96 [] [Cw w,Cm m] (.uo [Cw { w with counts:=w.counts.set m.zj.toNat r1 },Cm m',Ce e]) []:=by
 have ml:((w.counts.map zN)).length=w.counts.length:=dP ..;have ml1:(r1.map jA).length=r1.length:=dP ..;have uj:m.zj.toNat < w.counts.length:=(dJ.1 hr).1;have own:∀ i,∀ r ∈ (w.counts.map zN).set m.zj.toNat ([C.sl i [] 1 0 r0.length false]),∀ c ∈ r,zy c=true:=fun i=>zA (enc:=zN) (fun _=>rfl) rfl _ _
 have gt:((w.counts.map zN).set m.zj.toNat ([C.sl 6 [] 1 0 r0.length false]))[m.zj.toNat]?= some ([C.sl 6 [] 1 0 r0.length false]):=dQ (aq uj);have est:(((w.counts.map zN).set m.zj.toNat ([C.sl 6 [] 1 0 r0.length false])).set m.zj.toNat [.ui 0 1 (r1.map jA)])=(w.counts.set m.zj.toNat r1).map zN:=by rw [gA,pH];rfl
 have esh:∀ r ∈ (((w.counts.map zN).set m.zj.toNat ([C.sl 6 [] 1 0 r0.length false])).set m.zj.toNat [.ui 0 1 (r1.map jA)]),∀ c ∈ r,jc c=true∧zy c=true:=by
  rw [est];exact shut_map (enc:=zN) (fun _=>rfl) _
 have hp:Dp w.counts m.zj.toNat r0:=⟨sw.counts,hr,hne⟩;by_cases hn:m.listen < 0
 all_goals
  refine ab func96 ?_;(repeat (first | refine uA ?_ | refine uB ?_))
  refine ah (zO w m ok hl) ?_;refine ⟨fun _=>dd ?_,fun h=>absurd ((hs).symm.trans h:true=false) ar⟩;refine tc ?_
  (repeat (first | refine uA ?_ | refine uB ?_))
  refine .inl ⟨⟨true,[2],[1],[0]⟩,au,uH ?_⟩;refine ah jj ?_;refine hZ ?_
  (refine ⟨aw,aw,pf 151,cz,dd ?_⟩)
  refine tc ?_
  refine zX [] [⟨1,37,8,[zJ w],0⟩,⟨1,69,44,[zD m],0⟩,⟨1,37,8,[fx],0⟩,⟨1,69,44,[ft],0⟩,⟨1,48,23,[zR qz],0⟩,⟨1,0,1,(w.counts.map zN).set m.zj.toNat [C.sl (6) [] 1 0 r0.length false],0⟩,⟨2,43,1,(r0).map jA,0⟩] (rx:=.agg [I w.zn,I w.current,I w.lock,lI w.pins,lV w.ze,lL w.zd,.sl 5 [] 1 0 w.counts.length false,lR w.zr]) (He w sw w.counts rfl hp) (zc (zi (own 1)) rfl) rfl rfl rfl rfl rfl tH rfl (dd ?_);refine zX [7,8,5,6] [⟨1,37,8,[zJ w],0⟩,⟨1,69,44,[zD m],0⟩,⟨1,37,8,[fx],0⟩,⟨1,69,44,[ft],0⟩,⟨1,48,23,[zR qz],0⟩,⟨1,0,1,(w.counts.map zN).set m.zj.toNat [C.sl (6) [] 1 0 r0.length false],0⟩,⟨2,43,1,(r1).map jA,0⟩,⟨1,37,8,[[I w.zn,I w.current,I w.lock,lI w.pins,lV w.ze,lL w.zd,.sl 5 [] 1 0 w.counts.length false,lR w.zr]],0⟩,⟨1,69,44,[zD m'],0⟩] (rx:=Ce e) h (zc rfl (zc rfl (zc (zi (own 3)) rfl))) cA rfl rfl rfl (zc rfl (zc rfl (zc rfl (zc rfl (zc rfl (zc (zi (own 6)) rfl)))))) tH rfl (dd ?_);refine .inl ⟨⟨false,[0,1,2],[7,8,9],[]⟩,au,uH ?_⟩;refine hZ ?_
  refine ⟨.inl rfl,_,(zo.zU 5 m.zj.toNat 0 rfl gt rfl rfl (.inr rfl) aj (by rw [ml1,hll]) (shut_map (enc:=jA) (fun _=>rfl) _) (own 6)).trans (zo.zU 2 0 6 rfl rfl rfl rfl (.inl rfl) aj aj esh (zZ rfl)),?_⟩;show _=some (C.uo [C.agg [I w.zn,I w.current,I w.lock,lI w.pins,lV w.ze,lL w.zd,C.ui 0 1 ((w.counts.set m.zj.toNat r1).map zN),lR w.zr],Cm m',Ce e]);rw [<- est]
  rfl
def Qi {w:Wor} {m m':uk} {e:uv} {r0 r1:List Int} (sw:qV w) (ok:eR w) (hl:i64 m.listen) (hpc:m.pc=21) (hs:zY w m=true) (t0:0<=m.zj) (hr:w.counts[m.zj.toNat]?= some r0) (hne:r0≠[]) (hll:r1.length=r0.length)
  (h:tn 152 [⟨1,37,8,[[I w.zn,I w.current,I w.lock,lI w.pins,lV w.ze,lL w.zd,.sl 2 [] 1 0 w.counts.length false,lR w.zr]],0⟩,⟨1,69,44,[zD m],0⟩,⟨1,0,1,(w.counts.map zN).set m.zj.toNat [C.sl (3) [] 1 0 r0.length false],0⟩,⟨2,43,1,(r0).map jA,0⟩] [.agg tj] (Ce e) [⟨1,37,8,[[I w.zn,I w.current,I w.lock,lI w.pins,lV w.ze,lL w.zd,.sl 2 [] 1 0 w.counts.length false,lR w.zr]],0⟩,⟨1,69,44,[zD m'],0⟩,⟨1,0,1,(w.counts.map zN).set m.zj.toNat [C.sl (3) [] 1 0 r0.length false],0⟩,⟨2,43,1,(r1).map jA,0⟩]):tn 96 [] [Cw w,Cm m] (.uo [Cw { w with counts:=w.counts.set m.zj.toNat r1 },Cm m',Ce e]) []:=by
 have ml:((w.counts.map zN)).length=w.counts.length:=dP ..;have ml1:(r1.map jA).length=r1.length:=dP ..;have uj:m.zj.toNat < w.counts.length:=(dJ.1 hr).1;have own:∀ i,∀ r ∈ (w.counts.map zN).set m.zj.toNat ([C.sl i [] 1 0 r0.length false]),∀ c ∈ r,zy c=true:=fun i=>zA (enc:=zN) (fun _=>rfl) rfl _ _
 have gt:((w.counts.map zN).set m.zj.toNat ([C.sl 6 [] 1 0 r0.length false]))[m.zj.toNat]?= some ([C.sl 6 [] 1 0 r0.length false]):=dQ (aq uj);have est:(((w.counts.map zN).set m.zj.toNat ([C.sl 6 [] 1 0 r0.length false])).set m.zj.toNat [.ui 0 1 (r1.map jA)])=(w.counts.set m.zj.toNat r1).map zN:=by rw [gA,pH];rfl
 have esh:∀ r ∈ (((w.counts.map zN).set m.zj.toNat ([C.sl 6 [] 1 0 r0.length false])).set m.zj.toNat [.ui 0 1 (r1.map jA)]),∀ c ∈ r,jc c=true∧zy c=true:=by
  rw [est];exact shut_map (enc:=zN) (fun _=>rfl) _
 have hp:Dp w.counts m.zj.toNat r0:=⟨sw.counts,hr,hne⟩;by_cases hn:m.listen < 0
 all_goals
  refine ab func96 ?_;(repeat (first | refine uA ?_ | refine uB ?_))
  refine ah (zO w m ok hl) ?_;refine ⟨fun _=>dd ?_,fun h=>absurd ((hs).symm.trans h:true=false) ar⟩;refine tc ?_
  (repeat (first | refine uA ?_ | refine uB ?_))
  refine .inl ⟨⟨true,[2],[1],[0]⟩,au,uH ?_⟩;refine ah jj ?_;refine hZ ?_
  (refine ⟨aw,aw,pf 152,cz,dd ?_⟩)
  refine tc ?_
  refine zX [] [⟨1,37,8,[zJ w],0⟩,⟨1,69,44,[zD m],0⟩,⟨1,37,8,[fx],0⟩,⟨1,69,44,[ft],0⟩,⟨1,48,23,[zR qz],0⟩,⟨1,0,1,(w.counts.map zN).set m.zj.toNat [C.sl (6) [] 1 0 r0.length false],0⟩,⟨2,43,1,(r0).map jA,0⟩] (rx:=.agg [I w.zn,I w.current,I w.lock,lI w.pins,lV w.ze,lL w.zd,.sl 5 [] 1 0 w.counts.length false,lR w.zr]) (He w sw w.counts rfl hp) (zc (zi (own 1)) rfl) rfl rfl rfl rfl rfl tH rfl (dd ?_);refine zX [7,8,5,6] [⟨1,37,8,[zJ w],0⟩,⟨1,69,44,[zD m],0⟩,⟨1,37,8,[fx],0⟩,⟨1,69,44,[ft],0⟩,⟨1,48,23,[zR qz],0⟩,⟨1,0,1,(w.counts.map zN).set m.zj.toNat [C.sl (6) [] 1 0 r0.length false],0⟩,⟨2,43,1,(r1).map jA,0⟩,⟨1,37,8,[[I w.zn,I w.current,I w.lock,lI w.pins,lV w.ze,lL w.zd,.sl 5 [] 1 0 w.counts.length false,lR w.zr]],0⟩,⟨1,69,44,[zD m'],0⟩] (rx:=Ce e) h (zc rfl (zc rfl (zc (zi (own 3)) rfl))) cA rfl rfl rfl (zc rfl (zc rfl (zc rfl (zc rfl (zc rfl (zc (zi (own 6)) rfl)))))) tH rfl (dd ?_);refine .inl ⟨⟨false,[0,1,2],[7,8,9],[]⟩,au,uH ?_⟩;refine hZ ?_
  refine ⟨.inl rfl,_,(zo.zU 5 m.zj.toNat 0 rfl gt rfl rfl (.inr rfl) aj (by rw [ml1,hll]) (shut_map (enc:=jA) (fun _=>rfl) _) (own 6)).trans (zo.zU 2 0 6 rfl rfl rfl rfl (.inl rfl) aj aj esh (zZ rfl)),?_⟩;show _=some (C.uo [C.agg [I w.zn,I w.current,I w.lock,lI w.pins,lV w.ze,lL w.zd,C.ui 0 1 ((w.counts.set m.zj.toNat r1).map zN),lR w.zr],Cm m',Ce e]);rw [<- est]
  rfl
def jk {α β:Type} (f:α->β) (l:List α) (i:Nat) (a:α) (r:β) (h:f a=r):(l.map f).set i r=(l.set i a).map f:=by rw [pH,h]
abbrev qq (e0:En) (hd ac:Int):En:={ e0 with head:=hd,zf:=ac }
abbrev yq (m:uk) (g0:Gr) (e0:En) (tk hd ac:Int):Gr:={ g0 with zt:=tk,ends:=g0.ends.set m.end_.toNat (qq e0 hd ac) }
abbrev j9 (m:uk) (v0:uq) (g0:Gr) (e0:En) (tk hd ac:Int):uq:={ v0 with zm:=v0.zm.set m.zg.toNat (yq m g0 e0 tk hd ac) }
abbrev wz (w:Wor) (m:uk) (v0:uq) (g0:Gr) (e0:En) (tk hd ac:Int):Wor:={ w with ze:=w.ze.set m.version.toNat (j9 m v0 g0 e0 tk hd ac) }
def RQ {w:Wor} {m m':uk} {e:uv} {v0:uq} {g0:Gr} {e0:En} {tk hd ac:Int} (sw:qV w) (ok:eR w) (hl:i64 m.listen) (hpc:m.pc=6) (hs:zY w m=true) (hat:eQ w m v0 g0 e0) (hne:e0.next≠[])
  (h:tn 144 [⟨1,37,8,[(eD w 2)],0⟩,⟨1,69,44,[zD m],0⟩,⟨1,0,5,u4 w m v0 (3),0⟩,⟨1,0,2,u1 m v0 g0 (g0.zt) (4),0⟩,⟨1,0,3,ux m g0 e0 (e0.head) (5) (e0.zf),0⟩,⟨2,3,1,e0.next.map encI,0⟩] [.agg tj] (Ce e) [⟨1,37,8,[(eD w 2)],0⟩,⟨1,69,44,[zD m'],0⟩,⟨1,0,5,u4 w m v0 (3),0⟩,⟨1,0,2,u1 m v0 g0 (tk) (4),0⟩,⟨1,0,3,ux m g0 e0 (hd) (5) (ac),0⟩,⟨2,3,1,e0.next.map encI,0⟩]):tn 96 [] [Cw w,Cm m] (.uo [Cw (wz w m v0 g0 e0 tk hd ac),Cm m',Ce e]) []:=by
 have lv:=hat.ln.lv;have lg:=hat.ln.lg;have le:=hat.ln.le;have fM:=sw.ze.2 v0 (dM hat.at_);have hp:oz w.ze m.version.toNat v0 m.zg.toNat g0 m.end_.toNat e0:=⟨⟨⟨fM.2 g0 (dM hat.u9),hat.eE,hne⟩,fM,hat.u9⟩,sw.ze,hat.at_⟩;have ownV:∀ i,∀ r ∈ u4 w m v0 (i),∀ c ∈ r,zy c=true:=fun i=>zA (enc:=zF) (fun _=>rfl) rfl _ _
 have ownG:∀ i t,∀ r ∈ u1 m v0 g0 (t) (i),∀ c ∈ r,zy c=true:=fun i t=>zA (enc:=zE) (fun _=>rfl) rfl _ _
 have ownE:∀ i a b,∀ r ∈ ux m g0 e0 (a) (i) (b),∀ c ∈ r,zy c=true:=fun i a b=>zA (enc:=zx) (fun _=>rfl) rfl _ _
 have gv:(u4 w m v0 (6))[m.version.toNat]?= some ((qJ v0.snap++[C.sl (6) [] 2 0 v0.zm.length false,Bo v0.qk])):=dQ tP;have gg:(u1 m v0 g0 (tk) (7))[m.zg.toNat]?= some ([U (tk),C.sl (7) [] 3 0 g0.ends.length false]):=dQ tN;have ge:(ux m g0 e0 (hd) (8) (ac))[m.end_.toNat]?= some ([U (hd),C.sl (8) [] 1 0 e0.next.length false,I (ac)]):=dQ tK;have estE:((ux m g0 e0 (hd) (8) (ac)).set m.end_.toNat [U hd,C.ui 0 1 (e0.next.map encI),I ac])=(g0.ends.set m.end_.toNat (qq e0 hd ac)).map zx:=cB
 have estG:((u1 m v0 g0 (tk) (7)).set m.zg.toNat [U tk,C.ui 0 3 (((g0.ends.set m.end_.toNat (qq e0 hd ac)).map zx))])=(v0.zm.set m.zg.toNat (yq m g0 e0 tk hd ac)).map zE:=cD
 have estV:((u4 w m v0 (6)).set m.version.toNat (qJ v0.snap++[C.ui 0 2 (((v0.zm.set m.zg.toNat (yq m g0 e0 tk hd ac)).map zE)),Bo v0.qk]))=(w.ze.set m.version.toNat (j9 m v0 g0 e0 tk hd ac)).map zF:=cF
 have eshE:∀ r ∈ ((ux m g0 e0 (hd) (8) (ac)).set m.end_.toNat [U hd,C.ui 0 1 (e0.next.map encI),I ac]),∀ c ∈ r,jc c=true∧zy c=true:=by
  exact c9
 have eshG:∀ r ∈ ((u1 m v0 g0 (tk) (7)).set m.zg.toNat [U tk,C.ui 0 3 ((ux m g0 e0 (hd) (8) (ac)).set m.end_.toNat [U hd,C.ui 0 1 (e0.next.map encI),I ac])]),∀ c ∈ r,jc c=true∧zy c=true:=by
  exact c6
 have eshV:∀ r ∈ ((u4 w m v0 (6)).set m.version.toNat (qJ v0.snap++[C.ui 0 2 ((u1 m v0 g0 (tk) (7)).set m.zg.toNat [U tk,C.ui 0 3 ((ux m g0 e0 (hd) (8) (ac)).set m.end_.toNat [U hd,C.ui 0 1 (e0.next.map encI),I ac])]),Bo v0.qk])),∀ c ∈ r,jc c=true∧zy c=true:=by
  exact cX
 by_cases hn:m.listen < 0
 all_goals
  refine ab func96 ?_;(repeat (first | refine uA ?_ | refine uB ?_))
  refine ah (zO w m ok hl) ?_;refine ⟨fun _=>dd ?_,fun h=>absurd ((hs).symm.trans h:true=false) ar⟩;refine tc ?_
  (repeat (first | refine uA ?_ | refine uB ?_))
  refine .inl ⟨⟨true,[2],[1],[0]⟩,au,uH ?_⟩;refine ah jj ?_;refine hZ ?_
  (refine ⟨aw,aw,pf 144,cz,dd ?_⟩)
  refine tc ?_
  refine zX [] [⟨1,37,8,[zJ w],0⟩,⟨1,69,44,[zD m],0⟩,⟨1,37,8,[fx],0⟩,⟨1,69,44,[ft],0⟩,⟨1,48,23,[zR qz],0⟩,⟨1,0,5,u4 w m v0 (6),0⟩,⟨1,0,2,u1 m v0 g0 (g0.zt) (7),0⟩,⟨1,0,3,ux m g0 e0 (e0.head) (8) (e0.zf),0⟩,⟨2,3,1,e0.next.map encI,0⟩] (rx:=.agg (eD w 5)) (yr w sw w.ze rfl hp) (zc (zi (ownV 1)) (zc (zi (ownG 2 _)) (zc (zi (ownE 3 _ _)) rfl))) rfl rfl rfl rfl rfl uV rfl (dd ?_);refine zX [9,10,5,6,7,8] [⟨1,37,8,[zJ w],0⟩,⟨1,69,44,[zD m],0⟩,⟨1,37,8,[fx],0⟩,⟨1,69,44,[ft],0⟩,⟨1,48,23,[zR qz],0⟩,⟨1,0,5,u4 w m v0 (6),0⟩,⟨1,0,2,u1 m v0 g0 (tk) (7),0⟩,⟨1,0,3,ux m g0 e0 (hd) (8) (ac),0⟩,⟨2,3,1,e0.next.map encI,0⟩,⟨1,37,8,[(eD w 5)],0⟩,⟨1,69,44,[zD m'],0⟩] (rx:=Ce e) h (zc rfl (zc rfl (zc (zi (ownV 3)) (zc (zi (ownG 4 _)) (zc (zi (ownE 5 _ _)) rfl))))) tA rfl rfl rfl (zc rfl (zc rfl (zc rfl (zc rfl (zc rfl (zc (zi (ownV 6)) (zc (zi (ownG 7 _)) (zc (zi (ownE 8 _ _)) rfl)))))))) uV rfl (dd ?_);refine .inl ⟨⟨false,[0,1,2],[9,10,11],[]⟩,au,uH ?_⟩;refine hZ ?_
  refine ⟨.inl rfl,_,(((zo.zU 7 m.end_.toNat 1 rfl ge rfl rfl (.inr rfl) aj aj (shut_map (enc:=encI) (fun _=>rfl) _) (ownE 8 _ _)).trans (zo.zU 6 m.zg.toNat 1 rfl gg rfl rfl (.inl rfl) aj aj eshE (ownG 7 _))).trans (zo.zU 5 m.version.toNat 3 rfl gv rfl rfl (.inl rfl) aj aj eshG (ownV 6))).trans (zo.zU 2 0 4 rfl rfl rfl rfl (.inl rfl) aj aj eshV (zZ rfl)),?_⟩;show _=some (C.uo [C.agg [I w.zn,I w.current,I w.lock,lI w.pins,C.ui 0 5 ((w.ze.set m.version.toNat (j9 m v0 g0 e0 tk hd ac)).map zF),lL w.zd,eh w.counts,lR w.zr],Cm m',Ce e]);rw [<- estV,<- estG,<- estE]
  rfl
def Jl {w:Wor} {m m':uk} {e:uv} {v0:uq} {g0:Gr} {e0:En} {tk hd ac:Int} (sw:qV w) (ok:eR w) (hl:i64 m.listen) (hpc:m.pc=11) (hs:zY w m=true) (hat:eQ w m v0 g0 e0) (hne:e0.next≠[])
  (h:tn 149 [⟨1,37,8,[(eD w 2)],0⟩,⟨1,69,44,[zD m],0⟩,⟨1,0,5,u4 w m v0 (3),0⟩,⟨1,0,2,u1 m v0 g0 (g0.zt) (4),0⟩,⟨1,0,3,ux m g0 e0 (e0.head) (5) (e0.zf),0⟩,⟨2,3,1,e0.next.map encI,0⟩] [.agg tj] (Ce e) [⟨1,37,8,[(eD w 2)],0⟩,⟨1,69,44,[zD m'],0⟩,⟨1,0,5,u4 w m v0 (3),0⟩,⟨1,0,2,u1 m v0 g0 (tk) (4),0⟩,⟨1,0,3,ux m g0 e0 (hd) (5) (ac),0⟩,⟨2,3,1,e0.next.map encI,0⟩]):tn 96 [] [Cw w,Cm m] (.uo [Cw (wz w m v0 g0 e0 tk hd ac),Cm m',Ce e]) []:=by
 have lv:=hat.ln.lv;have lg:=hat.ln.lg;have le:=hat.ln.le;have fM:=sw.ze.2 v0 (dM hat.at_);have hp:oz w.ze m.version.toNat v0 m.zg.toNat g0 m.end_.toNat e0:=⟨⟨⟨fM.2 g0 (dM hat.u9),hat.eE,hne⟩,fM,hat.u9⟩,sw.ze,hat.at_⟩;have ownV:∀ i,∀ r ∈ u4 w m v0 (i),∀ c ∈ r,zy c=true:=fun i=>zA (enc:=zF) (fun _=>rfl) rfl _ _
 have ownG:∀ i t,∀ r ∈ u1 m v0 g0 (t) (i),∀ c ∈ r,zy c=true:=fun i t=>zA (enc:=zE) (fun _=>rfl) rfl _ _
 have ownE:∀ i a b,∀ r ∈ ux m g0 e0 (a) (i) (b),∀ c ∈ r,zy c=true:=fun i a b=>zA (enc:=zx) (fun _=>rfl) rfl _ _
 have gv:(u4 w m v0 (6))[m.version.toNat]?= some ((qJ v0.snap++[C.sl (6) [] 2 0 v0.zm.length false,Bo v0.qk])):=dQ tP;have gg:(u1 m v0 g0 (tk) (7))[m.zg.toNat]?= some ([U (tk),C.sl (7) [] 3 0 g0.ends.length false]):=dQ tN;have ge:(ux m g0 e0 (hd) (8) (ac))[m.end_.toNat]?= some ([U (hd),C.sl (8) [] 1 0 e0.next.length false,I (ac)]):=dQ tK;have estE:((ux m g0 e0 (hd) (8) (ac)).set m.end_.toNat [U hd,C.ui 0 1 (e0.next.map encI),I ac])=(g0.ends.set m.end_.toNat (qq e0 hd ac)).map zx:=cB
 have estG:((u1 m v0 g0 (tk) (7)).set m.zg.toNat [U tk,C.ui 0 3 (((g0.ends.set m.end_.toNat (qq e0 hd ac)).map zx))])=(v0.zm.set m.zg.toNat (yq m g0 e0 tk hd ac)).map zE:=cD
 have estV:((u4 w m v0 (6)).set m.version.toNat (qJ v0.snap++[C.ui 0 2 (((v0.zm.set m.zg.toNat (yq m g0 e0 tk hd ac)).map zE)),Bo v0.qk]))=(w.ze.set m.version.toNat (j9 m v0 g0 e0 tk hd ac)).map zF:=cF
 have eshE:∀ r ∈ ((ux m g0 e0 (hd) (8) (ac)).set m.end_.toNat [U hd,C.ui 0 1 (e0.next.map encI),I ac]),∀ c ∈ r,jc c=true∧zy c=true:=by
  exact c9
 have eshG:∀ r ∈ ((u1 m v0 g0 (tk) (7)).set m.zg.toNat [U tk,C.ui 0 3 ((ux m g0 e0 (hd) (8) (ac)).set m.end_.toNat [U hd,C.ui 0 1 (e0.next.map encI),I ac])]),∀ c ∈ r,jc c=true∧zy c=true:=by
  exact c6
 have eshV:∀ r ∈ ((u4 w m v0 (6)).set m.version.toNat (qJ v0.snap++[C.ui 0 2 ((u1 m v0 g0 (tk) (7)).set m.zg.toNat [U tk,C.ui 0 3 ((ux m g0 e0 (hd) (8) (ac)).set m.end_.toNat [U hd,C.ui 0 1 (e0.next.map encI),I ac])]),Bo v0.qk])),∀ c ∈ r,jc c=true∧zy c=true:=by
  exact cX
 by_cases hn:m.listen < 0
 all_goals
  refine ab func96 ?_;(repeat (first | refine uA ?_ | refine uB ?_))
  refine ah (zO w m ok hl) ?_;refine ⟨fun _=>dd ?_,fun h=>absurd ((hs).symm.trans h:true=false) ar⟩;refine tc ?_
  (repeat (first | refine uA ?_ | refine uB ?_))
  refine .inl ⟨⟨true,[2],[1],[0]⟩,au,uH ?_⟩;refine ah jj ?_;refine hZ ?_
  (refine ⟨aw,aw,pf 149,cz,dd ?_⟩)
  refine tc ?_
  refine zX [] [⟨1,37,8,[zJ w],0⟩,⟨1,69,44,[zD m],0⟩,⟨1,37,8,[fx],0⟩,⟨1,69,44,[ft],0⟩,⟨1,48,23,[zR qz],0⟩,⟨1,0,5,u4 w m v0 (6),0⟩,⟨1,0,2,u1 m v0 g0 (g0.zt) (7),0⟩,⟨1,0,3,ux m g0 e0 (e0.head) (8) (e0.zf),0⟩,⟨2,3,1,e0.next.map encI,0⟩] (rx:=.agg (eD w 5)) (yr w sw w.ze rfl hp) (zc (zi (ownV 1)) (zc (zi (ownG 2 _)) (zc (zi (ownE 3 _ _)) rfl))) rfl rfl rfl rfl rfl uV rfl (dd ?_);refine zX [9,10,5,6,7,8] [⟨1,37,8,[zJ w],0⟩,⟨1,69,44,[zD m],0⟩,⟨1,37,8,[fx],0⟩,⟨1,69,44,[ft],0⟩,⟨1,48,23,[zR qz],0⟩,⟨1,0,5,u4 w m v0 (6),0⟩,⟨1,0,2,u1 m v0 g0 (tk) (7),0⟩,⟨1,0,3,ux m g0 e0 (hd) (8) (ac),0⟩,⟨2,3,1,e0.next.map encI,0⟩,⟨1,37,8,[(eD w 5)],0⟩,⟨1,69,44,[zD m'],0⟩] (rx:=Ce e) h (zc rfl (zc rfl (zc (zi (ownV 3)) (zc (zi (ownG 4 _)) (zc (zi (ownE 5 _ _)) rfl))))) tA rfl rfl rfl (zc rfl (zc rfl (zc rfl (zc rfl (zc rfl (zc (zi (ownV 6)) (zc (zi (ownG 7 _)) (zc (zi (ownE 8 _ _)) rfl)))))))) uV rfl (dd ?_);refine .inl ⟨⟨false,[0,1,2],[9,10,11],[]⟩,au,uH ?_⟩;refine hZ ?_
  refine ⟨.inl rfl,_,(((zo.zU 7 m.end_.toNat 1 rfl ge rfl rfl (.inr rfl) aj aj (shut_map (enc:=encI) (fun _=>rfl) _) (ownE 8 _ _)).trans (zo.zU 6 m.zg.toNat 1 rfl gg rfl rfl (.inl rfl) aj aj eshE (ownG 7 _))).trans (zo.zU 5 m.version.toNat 3 rfl gv rfl rfl (.inl rfl) aj aj eshG (ownV 6))).trans (zo.zU 2 0 4 rfl rfl rfl rfl (.inl rfl) aj aj eshV (zZ rfl)),?_⟩;show _=some (C.uo [C.agg [I w.zn,I w.current,I w.lock,lI w.pins,C.ui 0 5 ((w.ze.set m.version.toNat (j9 m v0 g0 e0 tk hd ac)).map zF),lL w.zd,eh w.counts,lR w.zr],Cm m',Ce e]);rw [<- estV,<- estG,<- estE]
  rfl
def Qg {w:Wor} {m m':uk} {e:uv} {v0:uq} {g0:Gr} {e0:En} {tk hd ac:Int} (sw:qV w) (ok:eR w) (hl:i64 m.listen) (hpc:m.pc=12) (hs:zY w m=true) (hat:eQ w m v0 g0 e0) (hne:e0.next≠[])
  (h:tn 150 [⟨1,37,8,[(eD w 2)],0⟩,⟨1,69,44,[zD m],0⟩,⟨1,0,5,u4 w m v0 (3),0⟩,⟨1,0,2,u1 m v0 g0 (g0.zt) (4),0⟩,⟨1,0,3,ux m g0 e0 (e0.head) (5) (e0.zf),0⟩,⟨2,3,1,e0.next.map encI,0⟩] [.agg tj] (Ce e) [⟨1,37,8,[(eD w 2)],0⟩,⟨1,69,44,[zD m'],0⟩,⟨1,0,5,u4 w m v0 (3),0⟩,⟨1,0,2,u1 m v0 g0 (tk) (4),0⟩,⟨1,0,3,ux m g0 e0 (hd) (5) (ac),0⟩,⟨2,3,1,e0.next.map encI,0⟩]):tn 96 [] [Cw w,Cm m] (.uo [Cw (wz w m v0 g0 e0 tk hd ac),Cm m',Ce e]) []:=by
 have lv:=hat.ln.lv;have lg:=hat.ln.lg;have le:=hat.ln.le;have fM:=sw.ze.2 v0 (dM hat.at_);have hp:oz w.ze m.version.toNat v0 m.zg.toNat g0 m.end_.toNat e0:=⟨⟨⟨fM.2 g0 (dM hat.u9),hat.eE,hne⟩,fM,hat.u9⟩,sw.ze,hat.at_⟩;have ownV:∀ i,∀ r ∈ u4 w m v0 (i),∀ c ∈ r,zy c=true:=fun i=>zA (enc:=zF) (fun _=>rfl) rfl _ _
 have ownG:∀ i t,∀ r ∈ u1 m v0 g0 (t) (i),∀ c ∈ r,zy c=true:=fun i t=>zA (enc:=zE) (fun _=>rfl) rfl _ _
 have ownE:∀ i a b,∀ r ∈ ux m g0 e0 (a) (i) (b),∀ c ∈ r,zy c=true:=fun i a b=>zA (enc:=zx) (fun _=>rfl) rfl _ _
 have gv:(u4 w m v0 (6))[m.version.toNat]?= some ((qJ v0.snap++[C.sl (6) [] 2 0 v0.zm.length false,Bo v0.qk])):=dQ tP;have gg:(u1 m v0 g0 (tk) (7))[m.zg.toNat]?= some ([U (tk),C.sl (7) [] 3 0 g0.ends.length false]):=dQ tN;have ge:(ux m g0 e0 (hd) (8) (ac))[m.end_.toNat]?= some ([U (hd),C.sl (8) [] 1 0 e0.next.length false,I (ac)]):=dQ tK;have estE:((ux m g0 e0 (hd) (8) (ac)).set m.end_.toNat [U hd,C.ui 0 1 (e0.next.map encI),I ac])=(g0.ends.set m.end_.toNat (qq e0 hd ac)).map zx:=cB
 have estG:((u1 m v0 g0 (tk) (7)).set m.zg.toNat [U tk,C.ui 0 3 (((g0.ends.set m.end_.toNat (qq e0 hd ac)).map zx))])=(v0.zm.set m.zg.toNat (yq m g0 e0 tk hd ac)).map zE:=cD
 have estV:((u4 w m v0 (6)).set m.version.toNat (qJ v0.snap++[C.ui 0 2 (((v0.zm.set m.zg.toNat (yq m g0 e0 tk hd ac)).map zE)),Bo v0.qk]))=(w.ze.set m.version.toNat (j9 m v0 g0 e0 tk hd ac)).map zF:=cF
 have eshE:∀ r ∈ ((ux m g0 e0 (hd) (8) (ac)).set m.end_.toNat [U hd,C.ui 0 1 (e0.next.map encI),I ac]),∀ c ∈ r,jc c=true∧zy c=true:=by
  exact c9
 have eshG:∀ r ∈ ((u1 m v0 g0 (tk) (7)).set m.zg.toNat [U tk,C.ui 0 3 ((ux m g0 e0 (hd) (8) (ac)).set m.end_.toNat [U hd,C.ui 0 1 (e0.next.map encI),I ac])]),∀ c ∈ r,jc c=true∧zy c=true:=by
  exact c6
 have eshV:∀ r ∈ ((u4 w m v0 (6)).set m.version.toNat (qJ v0.snap++[C.ui 0 2 ((u1 m v0 g0 (tk) (7)).set m.zg.toNat [U tk,C.ui 0 3 ((ux m g0 e0 (hd) (8) (ac)).set m.end_.toNat [U hd,C.ui 0 1 (e0.next.map encI),I ac])]),Bo v0.qk])),∀ c ∈ r,jc c=true∧zy c=true:=by
  exact cX
 by_cases hn:m.listen < 0
 all_goals
  refine ab func96 ?_;(repeat (first | refine uA ?_ | refine uB ?_))
  refine ah (zO w m ok hl) ?_;refine ⟨fun _=>dd ?_,fun h=>absurd ((hs).symm.trans h:true=false) ar⟩;refine tc ?_
  (repeat (first | refine uA ?_ | refine uB ?_))
  refine .inl ⟨⟨true,[2],[1],[0]⟩,au,uH ?_⟩;refine ah jj ?_;refine hZ ?_
  (refine ⟨aw,aw,pf 150,cz,dd ?_⟩)
  refine tc ?_
  refine zX [] [⟨1,37,8,[zJ w],0⟩,⟨1,69,44,[zD m],0⟩,⟨1,37,8,[fx],0⟩,⟨1,69,44,[ft],0⟩,⟨1,48,23,[zR qz],0⟩,⟨1,0,5,u4 w m v0 (6),0⟩,⟨1,0,2,u1 m v0 g0 (g0.zt) (7),0⟩,⟨1,0,3,ux m g0 e0 (e0.head) (8) (e0.zf),0⟩,⟨2,3,1,e0.next.map encI,0⟩] (rx:=.agg (eD w 5)) (yr w sw w.ze rfl hp) (zc (zi (ownV 1)) (zc (zi (ownG 2 _)) (zc (zi (ownE 3 _ _)) rfl))) rfl rfl rfl rfl rfl uV rfl (dd ?_);refine zX [9,10,5,6,7,8] [⟨1,37,8,[zJ w],0⟩,⟨1,69,44,[zD m],0⟩,⟨1,37,8,[fx],0⟩,⟨1,69,44,[ft],0⟩,⟨1,48,23,[zR qz],0⟩,⟨1,0,5,u4 w m v0 (6),0⟩,⟨1,0,2,u1 m v0 g0 (tk) (7),0⟩,⟨1,0,3,ux m g0 e0 (hd) (8) (ac),0⟩,⟨2,3,1,e0.next.map encI,0⟩,⟨1,37,8,[(eD w 5)],0⟩,⟨1,69,44,[zD m'],0⟩] (rx:=Ce e) h (zc rfl (zc rfl (zc (zi (ownV 3)) (zc (zi (ownG 4 _)) (zc (zi (ownE 5 _ _)) rfl))))) tA rfl rfl rfl (zc rfl (zc rfl (zc rfl (zc rfl (zc rfl (zc (zi (ownV 6)) (zc (zi (ownG 7 _)) (zc (zi (ownE 8 _ _)) rfl)))))))) uV rfl (dd ?_);refine .inl ⟨⟨false,[0,1,2],[9,10,11],[]⟩,au,uH ?_⟩;refine hZ ?_
  refine ⟨.inl rfl,_,(((zo.zU 7 m.end_.toNat 1 rfl ge rfl rfl (.inr rfl) aj aj (shut_map (enc:=encI) (fun _=>rfl) _) (ownE 8 _ _)).trans (zo.zU 6 m.zg.toNat 1 rfl gg rfl rfl (.inl rfl) aj aj eshE (ownG 7 _))).trans (zo.zU 5 m.version.toNat 3 rfl gv rfl rfl (.inl rfl) aj aj eshG (ownV 6))).trans (zo.zU 2 0 4 rfl rfl rfl rfl (.inl rfl) aj aj eshV (zZ rfl)),?_⟩;show _=some (C.uo [C.agg [I w.zn,I w.current,I w.lock,lI w.pins,C.ui 0 5 ((w.ze.set m.version.toNat (j9 m v0 g0 e0 tk hd ac)).map zF),lL w.zd,eh w.counts,lR w.zr],Cm m',Ce e]);rw [<- estV,<- estG,<- estE]
  rfl
end Go.Wor
