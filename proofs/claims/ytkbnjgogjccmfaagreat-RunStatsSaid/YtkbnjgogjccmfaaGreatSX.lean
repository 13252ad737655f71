import Derived.Test.YtkbnjgogjccmfaaGreatSW
import Derived.Test.YtkbnjgogjccmfaaGreatSV
set_option linter.all false
set_option maxRecDepth 100000
set_option maxHeartbeats 4000000
namespace Go.Wor
open Go.Ab Go.Proofs Tryz Go.Hy Go.Gat Go.Nam Go.Hos Go.Con Go.Sna
abbrev AJ (w:Wor) (m:u3):u3:={ m with version:=w.current,zi:=0,end_:=0,other:=0,slot:=0,listen:=zU w.zd m.op.listen,pc:=4 }
abbrev Ig (e:u6):u6:={ e with qQ:=true }
def Nw (w:Wor) (m:u3) (hl:w.zd.length < 4611686018427387904):
  to 141 [⟨1,37,8,[zJ w],0⟩,⟨1,69,44,[zD (m)],0⟩] [.agg tn] (Ce (Ig (eI m 1 3 w.current))) [⟨1,37,8,[zJ w],0⟩,⟨1,69,44,[zD (if zU w.zd m.op.listen < 0 then mq (AJ w m) 2 else AJ w m)],0⟩]:=by
 refine aa func141 ?_;refine .inr ⟨⟨[0,2,5,6],[0,1,2],true⟩,au,fun _=>rfl,_,uH ?_,fun t2 H2 h=>h⟩;refine ⟨_,ai [1] (jq m 1 3 w.current),uH ?_⟩;(refine ⟨uH ?_,trivial⟩);refine tc ?_
 (refine ⟨uH ?_,trivial⟩);refine tc ?_
 (refine ⟨_,_,.refl _,uH ?_⟩)
 refine .inl ⟨⟨true,[],[],[12]⟩,au,uH ?_⟩;refine ah (wX w.zd m.op.listen hl) ?_;refine tc ?_
 refine ⟨fun h1=>?_,fun h1=>?_⟩
 ·have e1:zU w.zd m.op.listen < 0:=by simpa using h1
  rw [dU e1];refine dd ?_;refine af [1] (vC (AJ w m) 2) ?_;exact cJ
 ·have e1:¬zU w.zd m.op.listen < 0:=by simpa using h1
  rw [dR e1];refine dd ?_;exact cJ
def Qg (w:Wor) (m:u3) (sw:qZ w) (ok:fm w) (hl:i64 m.listen) (hs:z6 w m=true):
  to 154 [⟨1,37,8,[zJ (w)],0⟩,⟨1,69,44,[zD (m)],0⟩] [.agg tn] (Ce { CZ m with done:=true,answer:=m.answer }) [⟨1,37,8,[zJ (nv w m.zg.toNat 0)],0⟩,⟨1,69,44,[zD ({ m with done:=true })],0⟩]:=by
 refine aa func154 ?_;refine .inr ⟨⟨[1,3,5,7,8],[0,1,2],true⟩,au,fun _=>rfl,fun t H=>t=(.za::.ref 2 [] 2 0 0::.ref 3 [] 23 0 0::.ref 4 [] 8 0 0::.ref 5 [] 23 0 0::hZ (hZ (hZ ([.za,.za,.za,.za]))))∧H=[⟨1,37,8,[zJ (w)],0⟩,⟨1,69,44,[zD (m)],0⟩,⟨1,213,2,[tn],0⟩,⟨1,48,23,[zP (qC)],0⟩,⟨1,37,8,[zJ (nv w m.zg.toNat 0)],0⟩,⟨1,48,23,[zP (CZ m)],0⟩],?_,?_⟩
 ·conv=>whnf
  refine ⟨_,ai [] (S0 w m sw ok hl hs),uH ?_⟩;repeat' (first | (exact trivial) | (refine ⟨rfl,uH ?_⟩) | (exact ⟨_,_,zp.ed [0,1,2,3,4,5] [1,2,3,4] _ _ rfl rfl rfl rfl,rfl,rfl⟩) | (exact ⟨_,_,zp.ed [0,1,2,3,5,4] [1,2,3,4] _ _ rfl rfl rfl rfl,rfl,rfl⟩) | (refine And.intro ?_ ?_ <;> (conv=>whnf)))
 rintro _ _ ⟨rfl,rfl⟩;conv=>whnf
 refine .inr ⟨⟨[1,3],[2],true⟩,au,fun _=>rfl,fun t H=>t=(.za::.ref 2 [] 2 0 0::.ref 3 [] 23 0 0::.za::.ref 5 [] 23 0 0::hZ (hZ (hZ ([.za,.za,.za,.za]))))∧H=[⟨1,37,8,[zJ (nv w m.zg.toNat 0)],0⟩,⟨1,69,44,[zD ({ m with done:=true })],0⟩,⟨1,213,2,[tn],0⟩,⟨1,48,23,[zP (qC)],0⟩,⟨1,37,8,[zJ (nv w m.zg.toNat 0)],0⟩,⟨1,48,23,[zP ({ CZ m with done:=true,answer:=m.answer })],0⟩],?_,?_⟩
 ·conv=>whnf
  repeat' (first | (exact trivial) | (refine ⟨rfl,uH ?_⟩) | (exact ⟨_,_,zp.mask [1,2,4] _ _,rfl,rfl⟩) | (refine And.intro ?_ ?_ <;> (conv=>whnf)))
 rintro _ _ ⟨rfl,rfl⟩;conv=>whnf
 exact cJ
def yk (c:eV) (d:Int):Int:=((u4 c)[(d % (u4 c).length).toNat]?).getD 0
def yP (c:eV) (d0 d1:Int):Int × Int × Int:=if (u4 c).length=0 then (0,0,5) else (yk c d0,yk c d1,0)
def R5 {d:Int} {n:Nat} (hd:i64 d) (hn:0 < n) (hm:n < 1000000000000):IntKind.i64.wrap (d.tmod n+n)=d.tmod n+n∧(d.tmod n+n).tmod n=d % n:=by
 have h1:=Int.tmod_lt_of_pos d (show (0:Int) < n by omega);have h2:=Int.lt_tmod_of_pos d (show (0:Int) < n by omega);refine ⟨jc aw aw,?_⟩;rw [rR aw,Int.add_emod_right];rw [Int.tmod_def,Int.sub_mul_emod_self_left]
def LA {c:eV} {d:Int} (hd:i64 d) (hn:0 < (u4 c).length) (hm:(u4 c).length < 1000000000000) {n:Nat} (e:n=(u4 c).length):
  0<=(IntKind.i64.wrap (d.tmod n+n)).tmod n∧((u4 c).map encI)[((IntKind.i64.wrap (d.tmod n+n)).tmod n).toNat]?= some [I (yk c d)]:=by
 subst e;obtain ⟨e1,e2⟩:=R5 hd hn hm;rw [e1,e2];have h0:(0:Int) < (u4 c).length:=aw
 have h1:=r4 d (show ((u4 c).length:Int)≠0 by omega);have h2:=r5 d h0;refine ⟨h1,?_⟩;have hi:(u4 c)[(d % ((u4 c).length:Int)).toNat]?= some ((u4 c)[(d % ((u4 c).length:Int)).toNat]'aw):=dQ _;unfold yk;rw [dT,hi]
 rfl
def P3 (c:eV) (d0 d1:Int) (h0:i64 d0) (h1:i64 d1) (hl:c.zL.length < 1000000000000) (hh:(u4 c).length<=c.zL.length):to 195 [] [Cc c,I d0,I d1] (.u7 [I (yP c d0 d1).1,I (yP c d0 d1).2.1,I (yP c d0 d1).2.2]) []:=by
 have ml:((u4 c).map encI).length=(u4 c).length:=dV ..;refine ab func195 ?_;refine ah (Ii c hl) ?_;rw [ml];refine ⟨fun hz=>?_,fun hz=>?_⟩
 ·unfold yP;have hz:=gd hz;rw [dU aw];exact di
 ·unfold yP;have hz:=pM hz;rw [dR aw];refine dd ?_;have hw:(((u4 c).length:Nat):Int)≠0:=by omega
  refine nn.AM 3 (LoopN.step ?_);conv=>whnf
  refine td ?_
  (refine ⟨ar,ar,dd ?_⟩)
  split;(rotate_left;(rename_i hno;exact (hno _ (yh rfl rfl rfl hw)).elim));(rename_i v e;cases e.symm.trans (yh rfl rfl rfl hw));refine dd ?_
  split;(rotate_left;(rename_i hno;exact (hno _ (yh rfl rfl rfl hw)).elim));(rename_i v e;cases e.symm.trans (yh rfl rfl rfl hw));refine dd ?_
  obtain ⟨p0,p1⟩:=LA h0 (c:=c) aw aw rfl;refine ⟨p0,_,p1,dd ?_⟩;(refine ⟨ar,ar,dd ?_⟩)
  refine .inl ⟨rfl,LoopN.step (uH ?_)⟩;refine td ?_
  (refine ⟨ar,ar,dd ?_⟩)
  split;(rotate_left;(rename_i hno;exact (hno _ (yh rfl rfl rfl hw)).elim));(rename_i v e;cases e.symm.trans (yh rfl rfl rfl hw));refine dd ?_
  split;(rotate_left;(rename_i hno;exact (hno _ (yh rfl rfl rfl hw)).elim));(rename_i v e;cases e.symm.trans (yh rfl rfl rfl hw));refine dd ?_
  obtain ⟨p2,p3⟩:=LA h1 (c:=c) aw aw rfl;refine ⟨p2,_,p3,dd ?_⟩;(refine ⟨ar,ar,dd ?_⟩)
  refine .inl ⟨rfl,LoopN.step (uH ?_)⟩;refine td ?_
  refine .inr ⟨aj,uH ?_⟩;refine uE ?_;(refine ⟨ar,ar,dd ?_⟩)
  (refine ⟨ar,ar,dd ?_⟩)
  exact uI
abbrev xu (m:u3) (v:u9):Int × Int:=og v.snap m.op.listen m.op.host m.op.path
def xz (m:u3) (v:u9):u3:=if (xu m v).2≠0 then mq m 2 else match v.snap.zk[(xu m v).1.toNat]? with
 | none=>m
 | some c=>if (yP c m.op.d0 m.op.d1).2.2≠0 then mq { m with zi:=(xu m v).1 } 3
  else if c.xL=1 then { m with zi:=(xu m v).1,pc:=6 }
  else { m with zi:=(xu m v).1,end_:=(yP c m.op.d0 m.op.d1).1,other:=(yP c m.op.d0 m.op.d1).2.1,pc:=7 }
structure EJ (m:u3) (v:u9):Prop where
 small:Md v.snap
 host:m.op.host.length < 1000000000000
 path:m.op.path.length < 1000000000000
 d0:i64 m.op.d0
 d1:i64 m.op.d1
 HE:(xu m v).2=0->0<=(xu m v).1∧∃ c,v.snap.zk[(xu m v).1.toNat]?= some c∧c.zL.length < 1000000000000
def Mj (c:eV):(u4 c).length<=c.zL.length:=DD c.zL c.zL.length
def Kr {m:u3} {v:u9} (h:(xu m v).2≠0):xz m v=mq m 2:=dU h
def IX {m:u3} {v:u9} {c:eV} (h:(xu m v).2=0) (hc:v.snap.zk[(xu m v).1.toNat]?= some c) (hd:(yP c m.op.d0 m.op.d1).2.2≠0):xz m v=mq { m with zi:=(xu m v).1 } 3:=by
 unfold xz;rw [dR aw,hc];exact dU hd
def JV {m:u3} {v:u9} {c:eV} (h:(xu m v).2=0) (hc:v.snap.zk[(xu m v).1.toNat]?= some c) (hd:(yP c m.op.d0 m.op.d1).2.2=0) (hp:c.xL=1):xz m v={ m with zi:=(xu m v).1,pc:=6 }:=by
 unfold xz;rw [dR aw,hc];exact (dR aw).trans (dU hp)
def JW {m:u3} {v:u9} {c:eV} (h:(xu m v).2=0) (hc:v.snap.zk[(xu m v).1.toNat]?= some c) (hd:(yP c m.op.d0 m.op.d1).2.2=0) (hp:c.xL≠1):
  xz m v={ m with zi:=(xu m v).1,end_:=(yP c m.op.d0 m.op.d1).1,other:=(yP c m.op.d0 m.op.d1).2.1,pc:=7 }:=by
 unfold xz;rw [dR aw,hc];exact (dR aw).trans (dR hp)
def Pp (w:Wor) (m:u3) (v:u9) (hv:mX w m v) (h:EJ m v):to 180 [⟨1,37,8,[zJ w],0⟩,⟨1,69,44,[zD (m)],0⟩] [.agg tn] (.u7 []) [⟨1,37,8,[zJ w],0⟩,⟨1,69,44,[zD (xz m v)],0⟩]:=by
 have h0:=hv.v0;have hr:=hv.row;refine aa func180 ?_;refine uE ?_;(refine ⟨h0,_,hr,dd ?_⟩)
 refine ah (Qd v.snap m.op.listen m.op.host m.op.path h.small h.host h.path) ?_;refine ⟨fun h1=>?_,fun h1=>?_⟩
 ·have h2:(xu m v).2≠0:=by simpa using h1
  rw [Kr h2];refine dd ?_;refine af [1] (vC m 2) ?_;exact cJ
 ·have h2:(xu m v).2=0:=by simpa using h1
  obtain ⟨g0,c,hc,hcl⟩:=h.HE h2;refine dd ?_;refine .inr ⟨⟨[0,1,6,11,12],[0,1,2],true⟩,au,fun _=>rfl,_,uH ?_,fun t2 H2 h=>h⟩;refine ⟨_,ai [0,1] (vQ w { m with zi:=(xu m v).1 } v c ⟨hv.v0,hv.at_⟩ g0 hc),uH ?_⟩;refine ⟨_,ai [] (P3 c m.op.d0 m.op.d1 h.d0 h.d1 hcl (Mj c)),uH ?_⟩;(refine ⟨_,_,.refl _,uH ?_⟩)
  refine ⟨fun h3=>?_,fun h3=>?_⟩
  ·have h4:(yP c m.op.d0 m.op.d1).2.2≠0:=by simpa using h3
   rw [IX h2 hc h4];refine dd ?_;refine af [1] (vC { m with zi:=(xu m v).1 } 3) ?_;exact ⟨.inr rfl,_,_,.refl _,rfl,cE 2⟩
  ·have h4:(yP c m.op.d0 m.op.d1).2.2=0:=by simpa using h3
   refine dd ?_;refine af [0,1] (vQ w { m with zi:=(xu m v).1 } v c ⟨hv.v0,hv.at_⟩ g0 hc) ?_;refine ⟨fun h5=>?_,fun h5=>?_⟩
   ·have h6:c.xL=1:=by simpa using h5
    rw [JV h2 hc h4 h6];refine dd ?_;exact ⟨.inr rfl,_,_,.refl _,rfl,cE 2⟩
   ·have h6:c.xL≠1:=by simpa using h5
    rw [JW h2 hc h4 h6];refine dd ?_;exact ⟨.inr rfl,_,_,.refl _,rfl,cE 2⟩
def NQ (w:Wor) (m:u3) (v:u9) (hv:mX w m v) (h:EJ m v) {l:eL} (l0:0<=m.listen) (hl:w.zd[m.listen.toNat]?= some l):
  to 143 [⟨1,37,8,[zJ w],0⟩,⟨1,69,44,[zD (m)],0⟩] [.agg tn] (Ce (if l.drain then { eI m 1 4 1 with qQ:=true } else eI m 1 4 0)) [⟨1,37,8,[zJ w],0⟩,⟨1,69,44,[zD (if l.drain then mq m 5 else xz m v)],0⟩]:=by
 have lr:(w.zd.map qK)[m.listen.toNat]?= some (qK l):=by rw [dT,hl];rfl
 obtain ⟨ln,ld,la,lc⟩:=l;cases ld
 all_goals
  refine aa func143 ?_;refine uE ?_;(refine ⟨l0,_,lr,dd ?_⟩)
 ·(refine yb (dd ?_))
  refine af [0,1] (Pp w m v hv h) ?_
  have et:(xz m v).zg=m.zg:=by
   unfold xz;split
   ·rfl
   ·split
    ·rfl
    ·split
     ·rfl
     ·split <;> rfl
  have ee:eI m 1 4 0=eI (xz m v) 1 4 0:=by unfold eI;rw [et]
  have eg:(if ({ name:=ln,drain:=false,zf:=la,closed:=lc }:eL).drain then { eI m 1 4 1 with qQ:=true } else eI m 1 4 0)=eI (xz m v) 1 4 0:=ee;rw [eg];refine af [1] (jq (xz m v) 1 4 0) ?_;exact cJ
 ·(refine ya (dd ?_))
  refine af [1] (jq m 1 4 1) ?_;refine af [1] (vC m 5) ?_;exact cJ
def N0 (w:Wor) (m:u3) (v0:u9) (g0:Gr) (e0:En) (c:eV) (hv:l7 w m v0 g0) (hc:v0.snap.zk[m.zi.toNat]?= some c):to 183 [⟨1,37,8,[(eZ w 2)],0⟩,⟨1,69,44,[zD (m)],0⟩,⟨1,0,5,eD w m v0 3,0⟩,⟨1,0,2,ez m v0 g0 g0.zt 4,0⟩,⟨1,0,3,ej m g0 e0 e0.head 5 e0.zf,0⟩,⟨2,3,1,e0.next.map encI,0⟩] [.agg tn] (Cc c) [⟨1,37,8,[(eZ w 2)],0⟩,⟨1,69,44,[zD (m)],0⟩,⟨1,0,5,eD w m v0 3,0⟩,⟨1,0,2,ez m v0 g0 g0.zt 4,0⟩,⟨1,0,3,ej m g0 e0 e0.head 5 e0.zf,0⟩,⟨2,3,1,e0.next.map encI,0⟩]:=by
 have h0:=hv.pv;have g0':=hv.pg;have lv:m.version.toNat < w.ze.length:=hv.lv;have cr:(v0.snap.zk.map xa)[m.zi.toNat]?= some (xa c):=by rw [dT,hc];rfl
 have lowV:∀ r ∈ eD w m v0 3,∀ c ∈ r,q8 6 9 c=true:=zA (enc:=zF) (fun _=>rfl) rfl _ _;have lowG:∀ r ∈ ez m v0 g0 g0.zt 4,∀ c ∈ r,q8 6 9 c=true:=zA (enc:=zE) (fun _=>rfl) rfl _ _;have lowE:∀ r ∈ ej m g0 e0 e0.head 5 e0.zf,∀ c ∈ r,q8 6 9 c=true:=zA (enc:=zx) (fun _=>rfl) rfl _ _;have e1:0+m.version.toNat=m.version.toNat:=gz _;have gv:(eD w m v0 3)[m.version.toNat]?= some ((qN v0.snap++[C.sl 3 [] 2 0 v0.zm.length false,Bo v0.qn])):=dW tR;refine aa func183 ?_;refine uE ?_;refine ⟨h0,lv,dd ?_⟩;rw [e1];refine ⟨_,gv,(by show 2+1<=5;decide),dd ?_⟩;refine ⟨g0',_,cr,dd ?_⟩;exact cK
def Fs (w:Wor) (m:u3) (v0:u9) (g0:Gr) (e0:En) (hv:l7 w m v0 g0) (x p a b c:Int):to 184 [⟨1,37,8,[(eZ w 2)],0⟩,⟨1,69,44,[zD ({ m with end_:=x,pc:=p })],0⟩,⟨1,0,5,eD w m v0 3,0⟩,⟨1,0,2,ez m v0 g0 g0.zt 4,0⟩,⟨1,0,3,ej m g0 e0 e0.head 5 e0.zf,0⟩,⟨2,3,1,e0.next.map encI,0⟩] [.agg tn,I a,I b,I c] (Ce (fx m v0 a b c)) [⟨1,37,8,[(eZ w 2)],0⟩,⟨1,69,44,[zD ({ m with end_:=x,pc:=p })],0⟩,⟨1,0,5,eD w m v0 3,0⟩,⟨1,0,2,ez m v0 g0 g0.zt 4,0⟩,⟨1,0,3,ej m g0 e0 e0.head 5 e0.zf,0⟩,⟨2,3,1,e0.next.map encI,0⟩]:=by
 have h0:=hv.pv;have lv:m.version.toNat < w.ze.length:=hv.lv;have e1:0+m.version.toNat=m.version.toNat:=gz _
 clear hv
 obtain ⟨sn,gs,fr⟩:=v0;cases fr
 all_goals
  have ownV:∀ b,∀ r ∈ (w.ze.map zF).set m.version.toNat (qN sn++[C.sl 3 [] 2 0 gs.length false,Bo b]),∀ c ∈ r,zy c=true:=fun b=>zA (enc:=zF) (fun _=>rfl) rfl _ _
  have ownG:∀ r ∈ (gs.map zE).set m.zi.toNat ([U g0.zt,C.sl 4 [] 3 0 g0.ends.length false]),∀ c ∈ r,zy c=true:=zA (enc:=zE) (fun _=>rfl) rfl _ _;have ownE:∀ r ∈ ej m g0 e0 e0.head 5 e0.zf,∀ c ∈ r,zy c=true:=zA (enc:=zx) (fun _=>rfl) rfl _ _;have lowV:∀ b,∀ r ∈ (w.ze.map zF).set m.version.toNat (qN sn++[C.sl 3 [] 2 0 gs.length false,Bo b]),∀ c ∈ r,q8 6 9 c=true:=fun b=>zA (enc:=zF) (fun _=>rfl) rfl _ _
  have gv:∀ b,((w.ze.map zF).set m.version.toNat (qN sn++[C.sl 3 [] 2 0 gs.length false,Bo b]))[m.version.toNat]?= some (qN sn++[C.sl 3 [] 2 0 gs.length false,Bo b]):=fun b=>dW tR
  have lowG:∀ r ∈ (gs.map zE).set m.zi.toNat ([U g0.zt,C.sl 4 [] 3 0 g0.ends.length false]),∀ c ∈ r,q8 6 9 c=true:=zA (enc:=zE) (fun _=>rfl) rfl _ _;have lowE:∀ r ∈ ej m g0 e0 e0.head 5 e0.zf,∀ c ∈ r,q8 6 9 c=true:=zA (enc:=zx) (fun _=>rfl) rfl _ _;refine aa func184 ?_;refine zZ [1] [⟨1,37,8,[(eZ w 2)],0⟩,⟨1,69,44,[zD ({ m with end_:=x,pc:=p })],0⟩,⟨1,0,5,(w.ze.map zF).set m.version.toNat (qN sn++[C.sl 3 [] 2 0 gs.length false,Bo _]),0⟩,⟨1,0,2,(gs.map zE).set m.zi.toNat ([U g0.zt,C.sl 4 [] 3 0 g0.ends.length false]),0⟩,⟨1,0,3,ej m g0 e0 e0.head 5 e0.zf,0⟩,⟨2,3,1,e0.next.map encI,0⟩,⟨1,213,2,[tn],0⟩,⟨1,48,23,[zP qC],0⟩] (rx:=Ce (eI m a b c)) (jq { m with end_:=x,pc:=p } a b c) rfl rfl rfl rfl rfl (zc rfl (zc rfl (zc (zj (ownV _)) (zc (zj ownG) (zc (zj ownE) rfl))))) rfl rfl (dd ?_);refine .inl ⟨⟨false,[6,9,11,14,17],[0,1,2,6],[]⟩,au,uH ?_⟩;refine ⟨h0,lv,dd ?_⟩;rw [e1];refine ⟨_,gv _,(by show 4+1<=5;decide),dd ?_⟩
  first | ((refine ya (dd ?_))) | ((refine yb (dd ?_)))
  refine tc ?_
  exact ⟨.inl rfl,_,_,.refl _,rfl,zp.xx 6 hU rfl rfl rfl (zI rfl (zI rfl (zI (qh (lowV _)) (zI (qh lowG) (zI (qh lowE) rfl))))) rfl⟩
abbrev DZ (m:u3) (c:eV) (t:Int):u3:={ m with end_:=(mo c t).1,pc:=9 }
abbrev Hz (g:Gr):Gr:={ g with zt:=IntKind.u64.wrap (g.zt+1) }
def Pg (w:Wor) (m:u3) (v0:u9) (g0:Gr) (e0:En) (c:eV) (hv:l7 w m v0 g0) (hc:v0.snap.zk[m.zi.toNat]?= some c) (ht:u64 g0.zt) (hl:c.zL.length < 1000000000000):
  to 144 [⟨1,37,8,[(eZ w 2)],0⟩,⟨1,69,44,[zD (m)],0⟩,⟨1,0,5,eD w m v0 3,0⟩,⟨1,0,2,ez m v0 g0 g0.zt 4,0⟩,⟨1,0,3,ej m g0 e0 e0.head 5 e0.zf,0⟩,⟨2,3,1,e0.next.map encI,0⟩] [.agg tn] (Ce (fx m v0 3 6 (IntKind.i64.wrap g0.zt))) [⟨1,37,8,[(eZ w 2)],0⟩,⟨1,69,44,[zD (DZ m c g0.zt)],0⟩,⟨1,0,5,eD w m v0 3,0⟩,⟨1,0,2,ez m v0 g0 (IntKind.u64.wrap (g0.zt+1)) 4,0⟩,⟨1,0,3,ej m g0 e0 e0.head 5 e0.zf,0⟩,⟨2,3,1,e0.next.map encI,0⟩]:=by
 have lg:=hv.lg;have ownV:∀ r ∈ eD w m v0 3,∀ c ∈ r,zy c=true:=zA (enc:=zF) (fun _=>rfl) rfl _ _;have ownG:∀ r ∈ ez m v0 g0 g0.zt 4,∀ c ∈ r,zy c=true:=zA (enc:=zE) (fun _=>rfl) rfl _ _;have ownE:∀ r ∈ ej m g0 e0 e0.head 5 e0.zf,∀ c ∈ r,zy c=true:=zA (enc:=zx) (fun _=>rfl) rfl _ _;have gg:(ez m v0 g0 g0.zt 4)[m.zi.toNat]?= some ([U g0.zt,C.sl 4 [] 3 0 g0.ends.length false]):=dW tO;refine aa func144 ?_;refine DG [0,1,2,3,4,5] [⟨1,37,8,[(eZ w 2)],0⟩,⟨1,69,44,[zD (m)],0⟩,⟨1,0,5,eD w m v0 3,0⟩,⟨1,0,2,ez m v0 g0 g0.zt 4,0⟩,⟨1,0,3,ej m g0 e0 e0.head 5 e0.zf,0⟩,⟨2,3,1,e0.next.map encI,0⟩,⟨1,213,2,[tn],0⟩,⟨1,48,23,[zP qC],0⟩] (rx:=.ref 3 [] 2 m.zi.toNat 0) (EX w m v0 g0 e0 hv) (zc rfl (zc rfl (zc (zj ownV) (zc (zj ownG) (zc (zj ownE) rfl))))) uT rfl rfl rfl (zc rfl (zc rfl (zc (zj ownV) (zc (zj ownG) (zc (zj ownE) rfl))))) uU rfl (dd ?_);refine ⟨_,gg,(by show 0+1<=2;decide),dd ?_⟩;refine DG [0,1,2,3,4,5] [⟨1,37,8,[(eZ w 2)],0⟩,⟨1,69,44,[zD (m)],0⟩,⟨1,0,5,eD w m v0 3,0⟩,⟨1,0,2,ez m v0 g0 g0.zt 4,0⟩,⟨1,0,3,ej m g0 e0 e0.head 5 e0.zf,0⟩,⟨2,3,1,e0.next.map encI,0⟩,⟨1,213,2,[tn],0⟩,⟨1,48,23,[zP qC],0⟩] (rx:=.ref 3 [] 2 m.zi.toNat 0) (EX w m v0 g0 e0 hv) (zc rfl (zc rfl (zc (zj ownV) (zc (zj ownG) (zc (zj ownE) rfl))))) uT rfl rfl rfl (zc rfl (zc rfl (zc (zj ownV) (zc (zj ownG) (zc (zj ownE) rfl))))) uU rfl (dd ?_);refine ⟨_,gg,(by show 0+1<=2;decide),dd ?_⟩;refine ⟨_,gg,rfl,dd ?_⟩;rw [gI];have ownG2:∀ r ∈ ez m v0 g0 (IntKind.u64.wrap (g0.zt+1)) 4,∀ c ∈ r,zy c=true:=zA (enc:=zE) (fun _=>rfl) rfl _ _;have lowV:∀ r ∈ eD w m v0 3,∀ c ∈ r,q8 6 9 c=true:=zA (enc:=zF) (fun _=>rfl) rfl _ _;have lowG:∀ r ∈ ez m v0 g0 (IntKind.u64.wrap (g0.zt+1)) 4,∀ c ∈ r,q8 6 9 c=true:=zA (enc:=zE) (fun _=>rfl) rfl _ _;have lowE:∀ r ∈ ej m g0 e0 e0.head 5 e0.zf,∀ c ∈ r,q8 6 9 c=true:=zA (enc:=zx) (fun _=>rfl) rfl _ _;have hv2:l7 w m v0 (Hz g0):=⟨hv.pv,hv.lv,hv.pg,hv.lg,hv.pe,hv.le⟩;refine .inl ⟨⟨true,[],[],[3,5]⟩,au,uH ?_⟩;refine zZ [0,1,2,3,4,5] [⟨1,37,8,[(eZ w 2)],0⟩,⟨1,69,44,[zD (m)],0⟩,⟨1,0,5,eD w m v0 3,0⟩,⟨1,0,2,ez m v0 g0 (IntKind.u64.wrap (g0.zt+1)) 4,0⟩,⟨1,0,3,ej m g0 e0 e0.head 5 e0.zf,0⟩,⟨2,3,1,e0.next.map encI,0⟩,⟨1,213,2,[tn],0⟩,⟨1,48,23,[zP qC],0⟩] (rx:=Cc c) (N0 w m v0 (Hz g0) e0 c hv2 hc) (zc rfl (zc rfl (zc (zj ownV) (zc (zj ownG2) (zc (zj ownE) rfl))))) uT rfl rfl rfl (zc rfl (zc rfl (zc (zj ownV) (zc (zj ownG2) (zc (zj ownE) rfl))))) uU rfl (dd ?_);refine zZ [] [⟨1,37,8,[(eZ w 2)],0⟩,⟨1,69,44,[zD (m)],0⟩,⟨1,0,5,eD w m v0 3,0⟩,⟨1,0,2,ez m v0 g0 (IntKind.u64.wrap (g0.zt+1)) 4,0⟩,⟨1,0,3,ej m g0 e0 e0.head 5 e0.zf,0⟩,⟨2,3,1,e0.next.map encI,0⟩,⟨1,213,2,[tn],0⟩,⟨1,48,23,[zP qC],0⟩] (rx:=.u7 [I (mo c g0.zt).1,I (mo c g0.zt).2]) (Rt c g0.zt ht hl (Mj c)) rfl rfl rfl rfl rfl (zc rfl (zc rfl (zc (zj ownV) (zc (zj ownG2) (zc (zj ownE) rfl))))) rfl rfl (dd ?_);refine zZ [0,1,2,3,4,5] [⟨1,37,8,[(eZ w 2)],0⟩,⟨1,69,44,[zD (DZ m c g0.zt)],0⟩,⟨1,0,5,eD w m v0 3,0⟩,⟨1,0,2,ez m v0 g0 (IntKind.u64.wrap (g0.zt+1)) 4,0⟩,⟨1,0,3,ej m g0 e0 e0.head 5 e0.zf,0⟩,⟨2,3,1,e0.next.map encI,0⟩,⟨1,213,2,[tn],0⟩,⟨1,48,23,[zP qC],0⟩] (rx:=Ce (fx m v0 3 6 (IntKind.i64.wrap g0.zt))) (Fs w m v0 (Hz g0) e0 hv2 (mo c g0.zt).1 9 3 6 (IntKind.i64.wrap g0.zt)) (zc rfl (zc rfl (zc (zj ownV) (zc (zj ownG2) (zc (zj ownE) rfl))))) uT rfl rfl rfl (zc rfl (zc rfl (zc (zj ownV) (zc (zj ownG2) (zc (zj ownE) rfl))))) uU rfl (dd ?_);exact cK
def NN (w:Wor) (m:u3) (v0:u9) (g0:Gr) (e0:En) (hv:l7 w m v0 g0) (hw:u64 m.word) (l0: -1<=m.link) (l1:m.link<=2147483646) (hh:u64 e0.head) (hne:e0.head≠m.word):
  to 149 [⟨1,37,8,[(eZ w 2)],0⟩,⟨1,69,44,[zD (m)],0⟩,⟨1,0,5,eD w m v0 3,0⟩,⟨1,0,2,ez m v0 g0 g0.zt 4,0⟩,⟨1,0,3,ej m g0 e0 e0.head 5 e0.zf,0⟩,⟨2,3,1,e0.next.map encI,0⟩] [.agg tn] (Ce (fx m v0 5 8 (e0.head % 4294967296 - 1))) [⟨1,37,8,[(eZ w 2)],0⟩,⟨1,69,44,[zD ({ m with pc:=9 })],0⟩,⟨1,0,5,eD w m v0 3,0⟩,⟨1,0,2,ez m v0 g0 g0.zt 4,0⟩,⟨1,0,3,ej m g0 e0 e0.head 5 e0.zf,0⟩,⟨2,3,1,e0.next.map encI,0⟩]:=by
 (have le:=hv.le);(have ownV:∀ r ∈ eD w m v0 3,∀ c ∈ r,zy c=true:=zA (enc:=zF) (fun _=>rfl) rfl _ _);(have ownG:∀ r ∈ ez m v0 g0 g0.zt 4,∀ c ∈ r,zy c=true:=zA (enc:=zE) (fun _=>rfl) rfl _ _);(have ownE:∀ r ∈ ej m g0 e0 e0.head 5 e0.zf,∀ c ∈ r,zy c=true:=zA (enc:=zx) (fun _=>rfl) rfl _ _);(have lowV:∀ r ∈ eD w m v0 3,∀ c ∈ r,q8 6 9 c=true:=zA (enc:=zF) (fun _=>rfl) rfl _ _);(have lowG:∀ r ∈ ez m v0 g0 g0.zt 4,∀ c ∈ r,q8 6 9 c=true:=zA (enc:=zE) (fun _=>rfl) rfl _ _)
 have lowE:∀ r ∈ ej m g0 e0 e0.head 5 e0.zf,∀ c ∈ r,q8 6 9 c=true:=zA (enc:=zx) (fun _=>rfl) rfl _ _;have ge:(ej m g0 e0 e0.head 5 e0.zf)[m.end_.toNat]?= some ([U e0.head,C.sl 5 [] 1 0 e0.next.length false,I e0.zf]):=dW tL;have hv2:l7 w { m with pc:=9 } v0 g0:=⟨hv.pv,hv.lv,hv.pg,hv.lg,hv.pe,hv.le⟩;refine aa func149 ?_;refine .inl ⟨⟨true,[],[],[8]⟩,au,uH ?_⟩;refine zZ [] [⟨1,37,8,[(eZ w 2)],0⟩,⟨1,69,44,[zD (m)],0⟩,⟨1,0,5,eD w m v0 3,0⟩,⟨1,0,2,ez m v0 g0 g0.zt 4,0⟩,⟨1,0,3,ej m g0 e0 e0.head 5 e0.zf,0⟩,⟨2,3,1,e0.next.map encI,0⟩,⟨1,213,2,[tn],0⟩,⟨1,48,23,[zP qC],0⟩] (rx:=.u7 [U (Slp.qW m.word m.link),I 0]) (Slp.Fq m.word m.link hw l0 l1) rfl rfl rfl rfl rfl (zc rfl (zc rfl (zc (zj ownV) (zc (zj ownG) (zc (zj ownE) rfl))))) rfl rfl (dd ?_);refine .inl ⟨⟨true,[],[],[1]⟩,au,uH ?_⟩;refine zZ [0,1,2,3,4,5] [⟨1,37,8,[(eZ w 2)],0⟩,⟨1,69,44,[zD (m)],0⟩,⟨1,0,5,eD w m v0 3,0⟩,⟨1,0,2,ez m v0 g0 g0.zt 4,0⟩,⟨1,0,3,ej m g0 e0 e0.head 5 e0.zf,0⟩,⟨2,3,1,e0.next.map encI,0⟩,⟨1,213,2,[tn],0⟩,⟨1,48,23,[zP qC],0⟩] (rx:=.ref 4 [] 3 m.end_.toNat 0) (vA w m v0 g0 e0 hv) (zc rfl (zc rfl (zc (zj ownV) (zc (zj ownG) (zc (zj ownE) rfl))))) uT rfl rfl rfl (zc rfl (zc rfl (zc (zj ownV) (zc (zj ownG) (zc (zj ownE) rfl))))) uU rfl (dd ?_);refine ⟨_,ge,cB,dd ?_⟩;refine ⟨fun _=>dd ?_,fun h=>absurd h (aq hne)⟩;refine .inl ⟨⟨true,[],[],[2,6,7]⟩,au,uH ?_⟩;refine zZ [0,1,2,3,4,5] [⟨1,37,8,[(eZ w 2)],0⟩,⟨1,69,44,[zD ({ m with pc:=9 })],0⟩,⟨1,0,5,eD w m v0 3,0⟩,⟨1,0,2,ez m v0 g0 g0.zt 4,0⟩,⟨1,0,3,ej m g0 e0 e0.head 5 e0.zf,0⟩,⟨2,3,1,e0.next.map encI,0⟩,⟨1,213,2,[tn],0⟩,⟨1,48,23,[zP qC],0⟩] (rx:=.ref 4 [] 3 m.end_.toNat 0) (vA w _ v0 g0 e0 hv2) (zc rfl (zc rfl (zc (zj ownV) (zc (zj ownG) (zc (zj ownE) rfl))))) uT rfl rfl rfl (zc rfl (zc rfl (zc (zj ownV) (zc (zj ownG) (zc (zj ownE) rfl))))) uU rfl (dd ?_);refine ⟨_,ge,cB,dd ?_⟩;refine zZ [] [⟨1,37,8,[(eZ w 2)],0⟩,⟨1,69,44,[zD ({ m with pc:=9 })],0⟩,⟨1,0,5,eD w m v0 3,0⟩,⟨1,0,2,ez m v0 g0 g0.zt 4,0⟩,⟨1,0,3,ej m g0 e0 e0.head 5 e0.zf,0⟩,⟨2,3,1,e0.next.map encI,0⟩,⟨1,213,2,[tn],0⟩,⟨1,48,23,[zP qC],0⟩] (rx:=I (e0.head % 4294967296 - 1)) (Slp.qJ e0.head hh) rfl rfl rfl rfl rfl (zc rfl (zc rfl (zc (zj ownV) (zc (zj ownG) (zc (zj ownE) rfl))))) rfl rfl (dd ?_);refine zZ [0,1,2,3,4,5] [⟨1,37,8,[(eZ w 2)],0⟩,⟨1,69,44,[zD ({ m with pc:=9 })],0⟩,⟨1,0,5,eD w m v0 3,0⟩,⟨1,0,2,ez m v0 g0 g0.zt 4,0⟩,⟨1,0,3,ej m g0 e0 e0.head 5 e0.zf,0⟩,⟨2,3,1,e0.next.map encI,0⟩,⟨1,213,2,[tn],0⟩,⟨1,48,23,[zP qC],0⟩] (rx:=Ce (fx m v0 5 8 (e0.head % 4294967296 - 1))) (Fs w m v0 g0 e0 hv m.end_ 9 5 8 (e0.head % 4294967296 - 1)) (zc rfl (zc rfl (zc (zj ownV) (zc (zj ownG) (zc (zj ownE) rfl))))) uT rfl rfl rfl (zc rfl (zc rfl (zc (zj ownV) (zc (zj ownG) (zc (zj ownE) rfl))))) uU rfl (dd ?_);exact cK
def NM (w:Wor) (m:u3) (v0:u9) (g0:Gr) (e0:En) (hv:l7 w m v0 g0) (hw:u64 m.word) (l0: -1<=m.link) (l1:m.link<=2147483646) (hne:e0.head=m.word):
  to 149 [⟨1,37,8,[(eZ w 2)],0⟩,⟨1,69,44,[zD (m)],0⟩,⟨1,0,5,eD w m v0 3,0⟩,⟨1,0,2,ez m v0 g0 g0.zt 4,0⟩,⟨1,0,3,ej m g0 e0 e0.head 5 e0.zf,0⟩,⟨2,3,1,e0.next.map encI,0⟩] [.agg tn] (Ce (fx m v0 4 8 m.slot)) [⟨1,37,8,[(eZ w 2)],0⟩,⟨1,69,44,[zD ({ m with pc:=12 })],0⟩,⟨1,0,5,eD w m v0 3,0⟩,⟨1,0,2,ez m v0 g0 g0.zt 4,0⟩,⟨1,0,3,ej m g0 e0 (Slp.qW m.word m.link) 5 e0.zf,0⟩,⟨2,3,1,e0.next.map encI,0⟩]:=by
 (have le:=hv.le);(have ownV:∀ r ∈ eD w m v0 3,∀ c ∈ r,zy c=true:=zA (enc:=zF) (fun _=>rfl) rfl _ _);(have ownG:∀ r ∈ ez m v0 g0 g0.zt 4,∀ c ∈ r,zy c=true:=zA (enc:=zE) (fun _=>rfl) rfl _ _);(have ownE:∀ r ∈ ej m g0 e0 e0.head 5 e0.zf,∀ c ∈ r,zy c=true:=zA (enc:=zx) (fun _=>rfl) rfl _ _);(have lowV:∀ r ∈ eD w m v0 3,∀ c ∈ r,q8 6 9 c=true:=zA (enc:=zF) (fun _=>rfl) rfl _ _);(have lowG:∀ r ∈ ez m v0 g0 g0.zt 4,∀ c ∈ r,q8 6 9 c=true:=zA (enc:=zE) (fun _=>rfl) rfl _ _)
 have lowE:∀ r ∈ ej m g0 e0 (Slp.qW m.word m.link) 5 e0.zf,∀ c ∈ r,q8 6 9 c=true:=zA (enc:=zx) (fun _=>rfl) rfl _ _;have ownE2:∀ r ∈ ej m g0 e0 (Slp.qW m.word m.link) 5 e0.zf,∀ c ∈ r,zy c=true:=zA (enc:=zx) (fun _=>rfl) rfl _ _;have ge:(ej m g0 e0 e0.head 5 e0.zf)[m.end_.toNat]?= some ([U e0.head,C.sl 5 [] 1 0 e0.next.length false,I e0.zf]):=dW tL;refine aa func149 ?_;refine .inl ⟨⟨true,[],[],[8]⟩,au,uH ?_⟩;refine zZ [] [⟨1,37,8,[(eZ w 2)],0⟩,⟨1,69,44,[zD (m)],0⟩,⟨1,0,5,eD w m v0 3,0⟩,⟨1,0,2,ez m v0 g0 g0.zt 4,0⟩,⟨1,0,3,ej m g0 e0 e0.head 5 e0.zf,0⟩,⟨2,3,1,e0.next.map encI,0⟩,⟨1,213,2,[tn],0⟩,⟨1,48,23,[zP qC],0⟩] (rx:=.u7 [U (Slp.qW m.word m.link),I 0]) (Slp.Fq m.word m.link hw l0 l1) rfl rfl rfl rfl rfl (zc rfl (zc rfl (zc (zj ownV) (zc (zj ownG) (zc (zj ownE) rfl))))) rfl rfl (dd ?_);refine .inl ⟨⟨true,[],[],[1]⟩,au,uH ?_⟩;refine zZ [0,1,2,3,4,5] [⟨1,37,8,[(eZ w 2)],0⟩,⟨1,69,44,[zD (m)],0⟩,⟨1,0,5,eD w m v0 3,0⟩,⟨1,0,2,ez m v0 g0 g0.zt 4,0⟩,⟨1,0,3,ej m g0 e0 e0.head 5 e0.zf,0⟩,⟨2,3,1,e0.next.map encI,0⟩,⟨1,213,2,[tn],0⟩,⟨1,48,23,[zP qC],0⟩] (rx:=.ref 4 [] 3 m.end_.toNat 0) (vA w m v0 g0 e0 hv) (zc rfl (zc rfl (zc (zj ownV) (zc (zj ownG) (zc (zj ownE) rfl))))) uT rfl rfl rfl (zc rfl (zc rfl (zc (zj ownV) (zc (zj ownG) (zc (zj ownE) rfl))))) uU rfl (dd ?_);refine ⟨_,ge,cB,dd ?_⟩;refine ⟨fun h=>absurd h (by simp [hne]),fun _=>dd ?_⟩;refine td ?_
 refine DG [0,1,2,3,4,5] [⟨1,37,8,[(eZ w 2)],0⟩,⟨1,69,44,[zD (m)],0⟩,⟨1,0,5,eD w m v0 3,0⟩,⟨1,0,2,ez m v0 g0 g0.zt 4,0⟩,⟨1,0,3,ej m g0 e0 e0.head 5 e0.zf,0⟩,⟨2,3,1,e0.next.map encI,0⟩,⟨1,213,2,[tn],0⟩,⟨1,48,23,[zP qC],0⟩] (rx:=.ref 4 [] 3 m.end_.toNat 0) (vA w m v0 g0 e0 hv) (zc rfl (zc rfl (zc (zj ownV) (zc (zj ownG) (zc (zj ownE) rfl))))) uT rfl rfl rfl (zc rfl (zc rfl (zc (zj ownV) (zc (zj ownG) (zc (zj ownE) rfl))))) uU rfl (dd ?_);refine ⟨_,ge,rfl,dd ?_⟩;rw [gI];refine dd ?_;refine .inl ⟨⟨true,[],[],[5]⟩,au,uH ?_⟩;refine zZ [0,1,2,3,4,5] [⟨1,37,8,[(eZ w 2)],0⟩,⟨1,69,44,[zD ({ m with pc:=12 })],0⟩,⟨1,0,5,eD w m v0 3,0⟩,⟨1,0,2,ez m v0 g0 g0.zt 4,0⟩,⟨1,0,3,ej m g0 e0 (Slp.qW m.word m.link) 5 e0.zf,0⟩,⟨2,3,1,e0.next.map encI,0⟩,⟨1,213,2,[tn],0⟩,⟨1,48,23,[zP qC],0⟩] (rx:=Ce (fx m v0 4 8 m.slot)) (Fs w m v0 g0 { e0 with head:=Slp.qW m.word m.link } hv m.end_ 12 4 8 m.slot) (zc rfl (zc rfl (zc (zj ownV) (zc (zj ownG) (zc (zj ownE2) rfl))))) uT rfl rfl rfl (zc rfl (zc rfl (zc (zj ownV) (zc (zj ownG) (zc (zj ownE2) rfl))))) uU rfl (dd ?_);exact cK
end Go.Wor
namespace Go.Wor
open Go.Ab Go.Proofs Tryz Go.Hy
abbrev nf:C:=.v .nilFunc
abbrev pf (f:FuncId):C:=.fn f [] []
abbrev Xa:List C:=[nf,nf,nf,pf 141,pf 142,pf 143,pf 144,pf 145,pf 146,pf 147,pf 148,pf 149,pf 150,nf,nf,nf,nf,nf,nf,nf,pf 151,pf 152,pf 153,pf 154]
def ju:to 113 [] [] (.agg Xa) []:=by
 refine ab func113 ?_;exact uI
end Go.Wor
namespace Go.Wor
open Go.Ab Go.Proofs Tryz Go.Hy Go.Gat Go.Nam Go.Hos Go.Con Go.Sna
def Tu {w w':Wor} {m m':u3} {e:u6} (sw:qZ w) (ok:fm w) (hl:i64 m.listen) (hpc:m.pc=3) (hs:z6 w m=true) (h:to 141 [⟨1,37,8,[zJ w],0⟩,⟨1,69,44,[zD m],0⟩] [.agg tn] (Ce e) [⟨1,37,8,[zJ w'],0⟩,⟨1,69,44,[zD m'],0⟩]):to 96 [] [Cw w,Cm m] (.u7 [Cw w',Cm m',Ce e]) []:=by
 by_cases hn:m.listen < 0
 all_goals
  refine ab func96 ?_;(repeat (first | refine uA ?_ | refine uB ?_))
  refine ah (zO w m ok hl) ?_;refine ⟨fun _=>dd ?_,fun h=>absurd ((hs).symm.trans h:true=false) ar⟩;refine td ?_
  (repeat (first | refine uA ?_ | refine uB ?_))
  refine .inl ⟨⟨true,[2],[1],[0]⟩,au,uH ?_⟩;refine ah ju ?_;refine tc ?_
  (refine ⟨aw,aw,pf 141,cD,dd ?_⟩)
  refine td ?_
  refine ah (qy w sw) ?_;refine af [5,6] (h) ?_;refine .inl ⟨⟨false,[0,1,2],[5,6,7],[]⟩,au,uH ?_⟩;refine tc ?_
  exact uI
def Tw {w w':Wor} {m m':u3} {e:u6} (sw:qZ w) (ok:fm w) (hl:i64 m.listen) (hpc:m.pc=5) (hs:z6 w m=true) (hli:0<=m.listen)(h:to 143 [⟨1,37,8,[zJ w],0⟩,⟨1,69,44,[zD m],0⟩] [.agg tn] (Ce e) [⟨1,37,8,[zJ w'],0⟩,⟨1,69,44,[zD m'],0⟩]):to 96 [] [Cw w,Cm m] (.u7 [Cw w',Cm m',Ce e]) []:=by
 have hn:¬m.listen < 0:=aw
 all_goals
  refine ab func96 ?_;(repeat (first | refine uA ?_ | refine uB ?_))
  refine ah (zO w m ok hl) ?_;refine ⟨fun _=>dd ?_,fun h=>absurd ((hs).symm.trans h:true=false) ar⟩;refine td ?_
  (repeat (first | refine uA ?_ | refine uB ?_))
  refine .inl ⟨⟨true,[2],[1],[0]⟩,au,uH ?_⟩;refine ah ju ?_;refine tc ?_
  (refine ⟨aw,aw,pf 143,cD,dd ?_⟩)
  refine td ?_
  refine ah (qy w sw) ?_;refine af [5,6] (h) ?_;refine .inl ⟨⟨false,[0,1,2],[5,6,7],[]⟩,au,uH ?_⟩;refine tc ?_
  exact uI
def Tz {w w':Wor} {m m':u3} {e:u6} (sw:qZ w) (ok:fm w) (hl:i64 m.listen) (hpc:m.pc=7) (hs:z6 w m=true) (h:to 145 [⟨1,37,8,[zJ w],0⟩,⟨1,69,44,[zD m],0⟩] [.agg tn] (Ce e) [⟨1,37,8,[zJ w'],0⟩,⟨1,69,44,[zD m'],0⟩]):to 96 [] [Cw w,Cm m] (.u7 [Cw w',Cm m',Ce e]) []:=by
 by_cases hn:m.listen < 0
 all_goals
  refine ab func96 ?_;(repeat (first | refine uA ?_ | refine uB ?_))
  refine ah (zO w m ok hl) ?_;refine ⟨fun _=>dd ?_,fun h=>absurd ((hs).symm.trans h:true=false) ar⟩;refine td ?_
  (repeat (first | refine uA ?_ | refine uB ?_))
  refine .inl ⟨⟨true,[2],[1],[0]⟩,au,uH ?_⟩;refine ah ju ?_;refine tc ?_
  (refine ⟨aw,aw,pf 145,cD,dd ?_⟩)
  refine td ?_
  refine ah (qy w sw) ?_;refine af [5,6] (h) ?_;refine .inl ⟨⟨false,[0,1,2],[5,6,7],[]⟩,au,uH ?_⟩;refine tc ?_
  exact uI
def TC {w w':Wor} {m m':u3} {e:u6} (sw:qZ w) (ok:fm w) (hl:i64 m.listen) (hpc:m.pc=8) (hs:z6 w m=true) (h:to 146 [⟨1,37,8,[zJ w],0⟩,⟨1,69,44,[zD m],0⟩] [.agg tn] (Ce e) [⟨1,37,8,[zJ w'],0⟩,⟨1,69,44,[zD m'],0⟩]):to 96 [] [Cw w,Cm m] (.u7 [Cw w',Cm m',Ce e]) []:=by
 by_cases hn:m.listen < 0
 all_goals
  refine ab func96 ?_;(repeat (first | refine uA ?_ | refine uB ?_))
  refine ah (zO w m ok hl) ?_;refine ⟨fun _=>dd ?_,fun h=>absurd ((hs).symm.trans h:true=false) ar⟩;refine td ?_
  (repeat (first | refine uA ?_ | refine uB ?_))
  refine .inl ⟨⟨true,[2],[1],[0]⟩,au,uH ?_⟩;refine ah ju ?_;refine tc ?_
  (refine ⟨aw,aw,pf 146,cD,dd ?_⟩)
  refine td ?_
  refine ah (qy w sw) ?_;refine af [5,6] (h) ?_;refine .inl ⟨⟨false,[0,1,2],[5,6,7],[]⟩,au,uH ?_⟩;refine tc ?_
  exact uI
def KT {w w':Wor} {m m':u3} {e:u6} (sw:qZ w) (ok:fm w) (hl:i64 m.listen) (hpc:m.pc=9) (hs:z6 w m=true) (h:to 147 [⟨1,37,8,[zJ w],0⟩,⟨1,69,44,[zD m],0⟩] [.agg tn] (Ce e) [⟨1,37,8,[zJ w'],0⟩,⟨1,69,44,[zD m'],0⟩]):to 96 [] [Cw w,Cm m] (.u7 [Cw w',Cm m',Ce e]) []:=by
 by_cases hn:m.listen < 0
 all_goals
  refine ab func96 ?_;(repeat (first | refine uA ?_ | refine uB ?_))
  refine ah (zO w m ok hl) ?_;refine ⟨fun _=>dd ?_,fun h=>absurd ((hs).symm.trans h:true=false) ar⟩;refine td ?_
  (repeat (first | refine uA ?_ | refine uB ?_))
  refine .inl ⟨⟨true,[2],[1],[0]⟩,au,uH ?_⟩;refine ah ju ?_;refine tc ?_
  (refine ⟨aw,aw,pf 147,cD,dd ?_⟩)
  refine td ?_
  refine ah (qy w sw) ?_;refine af [5,6] (h) ?_;refine .inl ⟨⟨false,[0,1,2],[5,6,7],[]⟩,au,uH ?_⟩;refine tc ?_
  exact uI
def SD {w w':Wor} {m m':u3} {e:u6} (sw:qZ w) (ok:fm w) (hl:i64 m.listen) (hpc:m.pc=10) (hs:z6 w m=true) (h:to 148 [⟨1,37,8,[zJ w],0⟩,⟨1,69,44,[zD m],0⟩] [.agg tn] (Ce e) [⟨1,37,8,[zJ w'],0⟩,⟨1,69,44,[zD m'],0⟩]):to 96 [] [Cw w,Cm m] (.u7 [Cw w',Cm m',Ce e]) []:=by
 by_cases hn:m.listen < 0
 all_goals
  refine ab func96 ?_;(repeat (first | refine uA ?_ | refine uB ?_))
  refine ah (zO w m ok hl) ?_;refine ⟨fun _=>dd ?_,fun h=>absurd ((hs).symm.trans h:true=false) ar⟩;refine td ?_
  (repeat (first | refine uA ?_ | refine uB ?_))
  refine .inl ⟨⟨true,[2],[1],[0]⟩,au,uH ?_⟩;refine ah ju ?_;refine tc ?_
  (refine ⟨aw,aw,pf 148,cD,dd ?_⟩)
  refine td ?_
  refine ah (qy w sw) ?_;refine af [5,6] (h) ?_;refine .inl ⟨⟨false,[0,1,2],[5,6,7],[]⟩,au,uH ?_⟩;refine tc ?_
  exact uI
def RP {w w':Wor} {m m':u3} {e:u6} (sw:qZ w) (ok:fm w) (hl:i64 m.listen) (hpc:m.pc=23) (hs:z6 w m=true) (h:to 154 [⟨1,37,8,[zJ w],0⟩,⟨1,69,44,[zD m],0⟩] [.agg tn] (Ce e) [⟨1,37,8,[zJ w'],0⟩,⟨1,69,44,[zD m'],0⟩]):to 96 [] [Cw w,Cm m] (.u7 [Cw w',Cm m',Ce e]) []:=by
 by_cases hn:m.listen < 0
 all_goals
  refine ab func96 ?_;(repeat (first | refine uA ?_ | refine uB ?_))
  refine ah (zO w m ok hl) ?_;refine ⟨fun _=>dd ?_,fun h=>absurd ((hs).symm.trans h:true=false) ar⟩;refine td ?_
  (repeat (first | refine uA ?_ | refine uB ?_))
  refine .inl ⟨⟨true,[2],[1],[0]⟩,au,uH ?_⟩;refine ah ju ?_;refine tc ?_
  (refine ⟨aw,aw,pf 154,cD,dd ?_⟩)
  refine td ?_
  refine ah (qy w sw) ?_;refine af [5,6] (h) ?_;refine .inl ⟨⟨false,[0,1,2],[5,6,7],[]⟩,au,uH ?_⟩;refine tc ?_
  exact uI
def Fj {w w':Wor} {m m':u3} {e:u6} (h0:0<=m.pc) (h3:m.pc < 3) (h:to 111 [] [Cw w,Cm m] (.u7 [Cw w',Cm m',Ce e]) []):to 96 [] [Cw w,Cm m] (.u7 [Cw w',Cm m',Ce e]) []:=by
 refine ab func96 ?_;refine ⟨fun _=>dd ?_,fun h=>absurd h aA⟩;refine ⟨fun _=>dd ?_,fun h=>absurd h aA⟩;refine ah h ?_;exact uI
def Tv {w:Wor} {m m':u3} {e:u6} {ls:List eL} (sw:qZ w) (ok:fm w) (hl:i64 m.listen) (hpc:m.pc=4) (hs:z6 w m=true) (hli:0<=m.listen) (hll:ls.length=w.zd.length) (h:to 142 [⟨1,37,8,[[I w.zn,I w.current,I w.lock,lI w.pins,lV w.ze,.sl 2 [] 4 0 w.zd.length false,eM w.counts,lR w.zr]],0⟩,⟨1,69,44,[zD m],0⟩,⟨2,85,4,(w.zd).map qK,0⟩] [.agg tn] (Ce e) [⟨1,37,8,[[I w.zn,I w.current,I w.lock,lI w.pins,lV w.ze,.sl 2 [] 4 0 w.zd.length false,eM w.counts,lR w.zr]],0⟩,⟨1,69,44,[zD m'],0⟩,⟨2,85,4,(ls).map qK,0⟩]):to 96 [] [Cw w,Cm m] (.u7 [Cw { w with zd:=ls },Cm m',Ce e]) []:=by
 have hn:¬m.listen < 0:=aw
 obtain ⟨x,l,hx⟩:∃ x l,w.zd=x::l:=by
  obtain ⟨v,g,e,su⟩:=y8 hs;cases h:w.zd with
  | nil=>have:=su.listen;rw [h] at this;exact cQ
  | cons x l=>exact ⟨x,l,rfl⟩
 refine ab func96 ?_;(repeat (first | refine uA ?_ | refine uB ?_))
 refine ah (zO w m ok hl) ?_;refine ⟨fun _=>dd ?_,fun h=>absurd ((hs).symm.trans h:true=false) ar⟩;refine td ?_
 (repeat (first | refine uA ?_ | refine uB ?_))
 refine .inl ⟨⟨true,[2],[1],[0]⟩,au,uH ?_⟩;refine ah ju ?_;refine tc ?_
 (refine ⟨aw,aw,pf 142,cD,dd ?_⟩)
 refine td ?_
 refine af [] (vd w sw x l hx) ?_;refine af [6,7,5] (h) ?_;refine .inl ⟨⟨false,[0,1,2],[6,7,8],[]⟩,au,uH ?_⟩;refine tc ?_
 exact dy
def RO {w:Wor} {m m':u3} {e:u6} {ls:List eL} (sw:qZ w) (ok:fm w) (hl:i64 m.listen) (hpc:m.pc=22) (hs:z6 w m=true) (hli:0<=m.listen) (hll:ls.length=w.zd.length) (h:to 153 [⟨1,37,8,[[I w.zn,I w.current,I w.lock,lI w.pins,lV w.ze,.sl 2 [] 4 0 w.zd.length false,eM w.counts,lR w.zr]],0⟩,⟨1,69,44,[zD m],0⟩,⟨2,85,4,(w.zd).map qK,0⟩] [.agg tn] (Ce e) [⟨1,37,8,[[I w.zn,I w.current,I w.lock,lI w.pins,lV w.ze,.sl 2 [] 4 0 w.zd.length false,eM w.counts,lR w.zr]],0⟩,⟨1,69,44,[zD m'],0⟩,⟨2,85,4,(ls).map qK,0⟩]):to 96 [] [Cw w,Cm m] (.u7 [Cw { w with zd:=ls },Cm m',Ce e]) []:=by
 have hn:¬m.listen < 0:=aw
 obtain ⟨x,l,hx⟩:∃ x l,w.zd=x::l:=by
  obtain ⟨v,g,e,su⟩:=y8 hs;cases h:w.zd with
  | nil=>have:=su.listen;rw [h] at this;exact cQ
  | cons x l=>exact ⟨x,l,rfl⟩
 refine ab func96 ?_;(repeat (first | refine uA ?_ | refine uB ?_))
 refine ah (zO w m ok hl) ?_;refine ⟨fun _=>dd ?_,fun h=>absurd ((hs).symm.trans h:true=false) ar⟩;refine td ?_
 (repeat (first | refine uA ?_ | refine uB ?_))
 refine .inl ⟨⟨true,[2],[1],[0]⟩,au,uH ?_⟩;refine ah ju ?_;refine tc ?_
 (refine ⟨aw,aw,pf 153,cD,dd ?_⟩)
 refine td ?_
 refine af [] (vd w sw x l hx) ?_;refine af [6,7,5] (h) ?_;refine .inl ⟨⟨false,[0,1,2],[6,7,8],[]⟩,au,uH ?_⟩;refine tc ?_
 exact dy
def RM {w:Wor} {m m':u3} {e:u6} {r0 r1:List Int} (sw:qZ w) (ok:fm w) (hl:i64 m.listen) (hpc:m.pc=20) (hs:z6 w m=true) (t0:0<=m.zg) (hr:w.counts[m.zg.toNat]?= some r0) (hne:r0≠[]) (hll:r1.length=r0.length)
  (h:to 151 [⟨1,37,8,[[I w.zn,I w.current,I w.lock,lI w.pins,lV w.ze,lL w.zd,.sl 2 [] 1 0 w.counts.length false,lR w.zr]],0⟩,⟨1,69,44,[zD m],0⟩,⟨1,0,1,(w.counts.map zN).set m.zg.toNat [C.sl (3) [] 1 0 r0.length false],0⟩,⟨2,43,1,(r0).map jL,0⟩] [.agg tn] (Ce e) [⟨1,37,8,[[I w.zn,I w.current,I w.lock,lI w.pins,lV w.ze,lL w.zd,.sl 2 [] 1 0 w.counts.length false,lR w.zr]],0⟩,⟨1,69,44,[zD m'],0⟩,⟨1,0,1,(w.counts.map zN).set m.zg.toNat [C.sl (3) [] 1 0 r0.length false],0⟩,⟨2,43,1,(r1).map jL,0⟩]):to 96 [] [Cw w,Cm m] (.u7 [Cw { w with counts:=w.counts.set m.zg.toNat r1 },Cm m',Ce e]) []:=by
 have ml:((w.counts.map zN)).length=w.counts.length:=dV ..;have ml1:(r1.map jL).length=r1.length:=dV ..;have u4:m.zg.toNat < w.counts.length:=(dP.1 hr).1;have own:∀ i,∀ r ∈ (w.counts.map zN).set m.zg.toNat ([C.sl i [] 1 0 r0.length false]),∀ c ∈ r,zy c=true:=fun i=>zA (enc:=zN) (fun _=>rfl) rfl _ _
 have gt:((w.counts.map zN).set m.zg.toNat ([C.sl 6 [] 1 0 r0.length false]))[m.zg.toNat]?= some ([C.sl 6 [] 1 0 r0.length false]):=dW (aq u4);have est:(((w.counts.map zN).set m.zg.toNat ([C.sl 6 [] 1 0 r0.length false])).set m.zg.toNat [.u1 0 1 (r1.map jL)])=(w.counts.set m.zg.toNat r1).map zN:=by rw [gI,pL];rfl
 have esh:∀ r ∈ (((w.counts.map zN).set m.zg.toNat ([C.sl 6 [] 1 0 r0.length false])).set m.zg.toNat [.u1 0 1 (r1.map jL)]),∀ c ∈ r,jl c=true∧zy c=true:=by
  rw [est];exact shut_map (enc:=zN) (fun _=>rfl) _
 have hp:Ej w.counts m.zg.toNat r0:=⟨sw.counts,hr,hne⟩;by_cases hn:m.listen < 0
 all_goals
  refine ab func96 ?_;(repeat (first | refine uA ?_ | refine uB ?_))
  refine ah (zO w m ok hl) ?_;refine ⟨fun _=>dd ?_,fun h=>absurd ((hs).symm.trans h:true=false) ar⟩;refine td ?_
  (repeat (first | refine uA ?_ | refine uB ?_))
  refine .inl ⟨⟨true,[2],[1],[0]⟩,au,uH ?_⟩;refine ah ju ?_;refine tc ?_
  (refine ⟨aw,aw,pf 151,cD,dd ?_⟩)
  refine td ?_
  refine zZ [] [⟨1,37,8,[zJ w],0⟩,⟨1,69,44,[zD m],0⟩,⟨1,37,8,[fQ],0⟩,⟨1,69,44,[fP],0⟩,⟨1,48,23,[zP qC],0⟩,⟨1,0,1,(w.counts.map zN).set m.zg.toNat [C.sl (6) [] 1 0 r0.length false],0⟩,⟨2,43,1,(r0).map jL,0⟩] (rx:=.agg [I w.zn,I w.current,I w.lock,lI w.pins,lV w.ze,lL w.zd,.sl 5 [] 1 0 w.counts.length false,lR w.zr]) (IE w sw w.counts rfl hp) (zc (zj (own 1)) rfl) rfl rfl rfl rfl rfl tI rfl (dd ?_);refine zZ [7,8,5,6] [⟨1,37,8,[zJ w],0⟩,⟨1,69,44,[zD m],0⟩,⟨1,37,8,[fQ],0⟩,⟨1,69,44,[fP],0⟩,⟨1,48,23,[zP qC],0⟩,⟨1,0,1,(w.counts.map zN).set m.zg.toNat [C.sl (6) [] 1 0 r0.length false],0⟩,⟨2,43,1,(r1).map jL,0⟩,⟨1,37,8,[[I w.zn,I w.current,I w.lock,lI w.pins,lV w.ze,lL w.zd,.sl 5 [] 1 0 w.counts.length false,lR w.zr]],0⟩,⟨1,69,44,[zD m'],0⟩] (rx:=Ce e) h (zc rfl (zc rfl (zc (zj (own 3)) rfl))) cF rfl rfl rfl (zc rfl (zc rfl (zc rfl (zc rfl (zc rfl (zc (zj (own 6)) rfl)))))) tI rfl (dd ?_);refine .inl ⟨⟨false,[0,1,2],[7,8,9],[]⟩,au,uH ?_⟩;refine tc ?_
  refine ⟨.inl rfl,_,(zp.zV 5 m.zg.toNat 0 rfl gt rfl rfl (.inr rfl) aj (by rw [ml1,hll]) (shut_map (enc:=jL) (fun _=>rfl) _) (own 6)).trans (zp.zV 2 0 6 rfl rfl rfl rfl (.inl rfl) aj aj esh (qa rfl)),?_⟩;show _=some (C.u7 [C.agg [I w.zn,I w.current,I w.lock,lI w.pins,lV w.ze,lL w.zd,C.u1 0 1 ((w.counts.set m.zg.toNat r1).map zN),lR w.zr],Cm m',Ce e]);rw [<- est]
  rfl
def RN {w:Wor} {m m':u3} {e:u6} {r0 r1:List Int} (sw:qZ w) (ok:fm w) (hl:i64 m.listen) (hpc:m.pc=21) (hs:z6 w m=true) (t0:0<=m.zg) (hr:w.counts[m.zg.toNat]?= some r0) (hne:r0≠[]) (hll:r1.length=r0.length)
  (h:to 152 [⟨1,37,8,[[I w.zn,I w.current,I w.lock,lI w.pins,lV w.ze,lL w.zd,.sl 2 [] 1 0 w.counts.length false,lR w.zr]],0⟩,⟨1,69,44,[zD m],0⟩,⟨1,0,1,(w.counts.map zN).set m.zg.toNat [C.sl (3) [] 1 0 r0.length false],0⟩,⟨2,43,1,(r0).map jL,0⟩] [.agg tn] (Ce e) [⟨1,37,8,[[I w.zn,I w.current,I w.lock,lI w.pins,lV w.ze,lL w.zd,.sl 2 [] 1 0 w.counts.length false,lR w.zr]],0⟩,⟨1,69,44,[zD m'],0⟩,⟨1,0,1,(w.counts.map zN).set m.zg.toNat [C.sl (3) [] 1 0 r0.length false],0⟩,⟨2,43,1,(r1).map jL,0⟩]):to 96 [] [Cw w,Cm m] (.u7 [Cw { w with counts:=w.counts.set m.zg.toNat r1 },Cm m',Ce e]) []:=by
 have ml:((w.counts.map zN)).length=w.counts.length:=dV ..;have ml1:(r1.map jL).length=r1.length:=dV ..;have u4:m.zg.toNat < w.counts.length:=(dP.1 hr).1;have own:∀ i,∀ r ∈ (w.counts.map zN).set m.zg.toNat ([C.sl i [] 1 0 r0.length false]),∀ c ∈ r,zy c=true:=fun i=>zA (enc:=zN) (fun _=>rfl) rfl _ _
 have gt:((w.counts.map zN).set m.zg.toNat ([C.sl 6 [] 1 0 r0.length false]))[m.zg.toNat]?= some ([C.sl 6 [] 1 0 r0.length false]):=dW (aq u4);have est:(((w.counts.map zN).set m.zg.toNat ([C.sl 6 [] 1 0 r0.length false])).set m.zg.toNat [.u1 0 1 (r1.map jL)])=(w.counts.set m.zg.toNat r1).map zN:=by rw [gI,pL];rfl
 have esh:∀ r ∈ (((w.counts.map zN).set m.zg.toNat ([C.sl 6 [] 1 0 r0.length false])).set m.zg.toNat [.u1 0 1 (r1.map jL)]),∀ c ∈ r,jl c=true∧zy c=true:=by
  rw [est];exact shut_map (enc:=zN) (fun _=>rfl) _
 have hp:Ej w.counts m.zg.toNat r0:=⟨sw.counts,hr,hne⟩;by_cases hn:m.listen < 0
 all_goals
  refine ab func96 ?_;(repeat (first | refine uA ?_ | refine uB ?_))
  refine ah (zO w m ok hl) ?_;refine ⟨fun _=>dd ?_,fun h=>absurd ((hs).symm.trans h:true=false) ar⟩;refine td ?_
  (repeat (first | refine uA ?_ | refine uB ?_))
  refine .inl ⟨⟨true,[2],[1],[0]⟩,au,uH ?_⟩;refine ah ju ?_;refine tc ?_
  (refine ⟨aw,aw,pf 152,cD,dd ?_⟩)
  refine td ?_
  refine zZ [] [⟨1,37,8,[zJ w],0⟩,⟨1,69,44,[zD m],0⟩,⟨1,37,8,[fQ],0⟩,⟨1,69,44,[fP],0⟩,⟨1,48,23,[zP qC],0⟩,⟨1,0,1,(w.counts.map zN).set m.zg.toNat [C.sl (6) [] 1 0 r0.length false],0⟩,⟨2,43,1,(r0).map jL,0⟩] (rx:=.agg [I w.zn,I w.current,I w.lock,lI w.pins,lV w.ze,lL w.zd,.sl 5 [] 1 0 w.counts.length false,lR w.zr]) (IE w sw w.counts rfl hp) (zc (zj (own 1)) rfl) rfl rfl rfl rfl rfl tI rfl (dd ?_);refine zZ [7,8,5,6] [⟨1,37,8,[zJ w],0⟩,⟨1,69,44,[zD m],0⟩,⟨1,37,8,[fQ],0⟩,⟨1,69,44,[fP],0⟩,⟨1,48,23,[zP qC],0⟩,⟨1,0,1,(w.counts.map zN).set m.zg.toNat [C.sl (6) [] 1 0 r0.length false],0⟩,⟨2,43,1,(r1).map jL,0⟩,⟨1,37,8,[[I w.zn,I w.current,I w.lock,lI w.pins,lV w.ze,lL w.zd,.sl 5 [] 1 0 w.counts.length false,lR w.zr]],0⟩,⟨1,69,44,[zD m'],0⟩] (rx:=Ce e) h (zc rfl (zc rfl (zc (zj (own 3)) rfl))) cF rfl rfl rfl (zc rfl (zc rfl (zc rfl (zc rfl (zc rfl (zc (zj (own 6)) rfl)))))) tI rfl (dd ?_);refine .inl ⟨⟨false,[0,1,2],[7,8,9],[]⟩,au,uH ?_⟩;refine tc ?_
  refine ⟨.inl rfl,_,(zp.zV 5 m.zg.toNat 0 rfl gt rfl rfl (.inr rfl) aj (by rw [ml1,hll]) (shut_map (enc:=jL) (fun _=>rfl) _) (own 6)).trans (zp.zV 2 0 6 rfl rfl rfl rfl (.inl rfl) aj aj esh (qa rfl)),?_⟩;show _=some (C.u7 [C.agg [I w.zn,I w.current,I w.lock,lI w.pins,lV w.ze,lL w.zd,C.u1 0 1 ((w.counts.set m.zg.toNat r1).map zN),lR w.zr],Cm m',Ce e]);rw [<- est]
  rfl
def jv {α β:Type} (f:α->β) (l:List α) (i:Nat) (a:α) (r:β) (h:f a=r):(l.map f).set i r=(l.set i a).map f:=by rw [pL,h]
abbrev qw (e0:En) (hd ac:Int):En:={ e0 with head:=hd,zf:=ac }
abbrev yJ (m:u3) (g0:Gr) (e0:En) (tk hd ac:Int):Gr:={ g0 with zt:=tk,ends:=g0.ends.set m.end_.toNat (qw e0 hd ac) }
abbrev xp (m:u3) (v0:u9) (g0:Gr) (e0:En) (tk hd ac:Int):u9:={ v0 with zm:=v0.zm.set m.zi.toNat (yJ m g0 e0 tk hd ac) }
abbrev lM (w:Wor) (m:u3) (v0:u9) (g0:Gr) (e0:En) (tk hd ac:Int):Wor:={ w with ze:=w.ze.set m.version.toNat (xp m v0 g0 e0 tk hd ac) }
def Ty {w:Wor} {m m':u3} {e:u6} {v0:u9} {g0:Gr} {e0:En} {tk hd ac:Int} (sw:qZ w) (ok:fm w) (hl:i64 m.listen) (hpc:m.pc=6) (hs:z6 w m=true) (hat:fk w m v0 g0 e0) (hne:e0.next≠[])
  (h:to 144 [⟨1,37,8,[(eZ w 2)],0⟩,⟨1,69,44,[zD m],0⟩,⟨1,0,5,eD w m v0 (3),0⟩,⟨1,0,2,ez m v0 g0 (g0.zt) (4),0⟩,⟨1,0,3,ej m g0 e0 (e0.head) (5) (e0.zf),0⟩,⟨2,3,1,e0.next.map encI,0⟩] [.agg tn] (Ce e) [⟨1,37,8,[(eZ w 2)],0⟩,⟨1,69,44,[zD m'],0⟩,⟨1,0,5,eD w m v0 (3),0⟩,⟨1,0,2,ez m v0 g0 (tk) (4),0⟩,⟨1,0,3,ej m g0 e0 (hd) (5) (ac),0⟩,⟨2,3,1,e0.next.map encI,0⟩]):to 96 [] [Cw w,Cm m] (.u7 [Cw (lM w m v0 g0 e0 tk hd ac),Cm m',Ce e]) []:=by
 have lv:=hat.ln.lv;have lg:=hat.ln.lg;have le:=hat.ln.le;have il:=sw.ze.2 v0 (dS hat.at_);have hp:oX w.ze m.version.toNat v0 m.zi.toNat g0 m.end_.toNat e0:=⟨⟨⟨il.2 g0 (dS hat.eG),hat.eS,hne⟩,il,hat.eG⟩,sw.ze,hat.at_⟩;have ownV:∀ i,∀ r ∈ eD w m v0 (i),∀ c ∈ r,zy c=true:=fun i=>zA (enc:=zF) (fun _=>rfl) rfl _ _
 have ownG:∀ i t,∀ r ∈ ez m v0 g0 (t) (i),∀ c ∈ r,zy c=true:=fun i t=>zA (enc:=zE) (fun _=>rfl) rfl _ _
 have ownE:∀ i a b,∀ r ∈ ej m g0 e0 (a) (i) (b),∀ c ∈ r,zy c=true:=fun i a b=>zA (enc:=zx) (fun _=>rfl) rfl _ _
 have gv:(eD w m v0 (6))[m.version.toNat]?= some ((qN v0.snap++[C.sl (6) [] 2 0 v0.zm.length false,Bo v0.qn])):=dW tR;have gg:(ez m v0 g0 (tk) (7))[m.zi.toNat]?= some ([U (tk),C.sl (7) [] 3 0 g0.ends.length false]):=dW tO;have ge:(ej m g0 e0 (hd) (8) (ac))[m.end_.toNat]?= some ([U (hd),C.sl (8) [] 1 0 e0.next.length false,I (ac)]):=dW tL;have estE:((ej m g0 e0 (hd) (8) (ac)).set m.end_.toNat [U hd,C.u1 0 1 (e0.next.map encI),I ac])=(g0.ends.set m.end_.toNat (qw e0 hd ac)).map zx:=cG
 have estG:((ez m v0 g0 (tk) (7)).set m.zi.toNat [U tk,C.u1 0 3 (((g0.ends.set m.end_.toNat (qw e0 hd ac)).map zx))])=(v0.zm.set m.zi.toNat (yJ m g0 e0 tk hd ac)).map zE:=cH
 have estV:((eD w m v0 (6)).set m.version.toNat (qN v0.snap++[C.u1 0 2 (((v0.zm.set m.zi.toNat (yJ m g0 e0 tk hd ac)).map zE)),Bo v0.qn]))=(w.ze.set m.version.toNat (xp m v0 g0 e0 tk hd ac)).map zF:=cI
 have eshE:∀ r ∈ ((ej m g0 e0 (hd) (8) (ac)).set m.end_.toNat [U hd,C.u1 0 1 (e0.next.map encI),I ac]),∀ c ∈ r,jl c=true∧zy c=true:=by
  exact dc
 have eshG:∀ r ∈ ((ez m v0 g0 (tk) (7)).set m.zi.toNat [U tk,C.u1 0 3 ((ej m g0 e0 (hd) (8) (ac)).set m.end_.toNat [U hd,C.u1 0 1 (e0.next.map encI),I ac])]),∀ c ∈ r,jl c=true∧zy c=true:=by
  exact c9
 have eshV:∀ r ∈ ((eD w m v0 (6)).set m.version.toNat (qN v0.snap++[C.u1 0 2 ((ez m v0 g0 (tk) (7)).set m.zi.toNat [U tk,C.u1 0 3 ((ej m g0 e0 (hd) (8) (ac)).set m.end_.toNat [U hd,C.u1 0 1 (e0.next.map encI),I ac])]),Bo v0.qn])),∀ c ∈ r,jl c=true∧zy c=true:=by
  exact cZ
 by_cases hn:m.listen < 0
 all_goals
  refine ab func96 ?_;(repeat (first | refine uA ?_ | refine uB ?_))
  refine ah (zO w m ok hl) ?_;refine ⟨fun _=>dd ?_,fun h=>absurd ((hs).symm.trans h:true=false) ar⟩;refine td ?_
  (repeat (first | refine uA ?_ | refine uB ?_))
  refine .inl ⟨⟨true,[2],[1],[0]⟩,au,uH ?_⟩;refine ah ju ?_;refine tc ?_
  (refine ⟨aw,aw,pf 144,cD,dd ?_⟩)
  refine td ?_
  refine zZ [] [⟨1,37,8,[zJ w],0⟩,⟨1,69,44,[zD m],0⟩,⟨1,37,8,[fQ],0⟩,⟨1,69,44,[fP],0⟩,⟨1,48,23,[zP qC],0⟩,⟨1,0,5,eD w m v0 (6),0⟩,⟨1,0,2,ez m v0 g0 (g0.zt) (7),0⟩,⟨1,0,3,ej m g0 e0 (e0.head) (8) (e0.zf),0⟩,⟨2,3,1,e0.next.map encI,0⟩] (rx:=.agg (eZ w 5)) (yK w sw w.ze rfl hp) (zc (zj (ownV 1)) (zc (zj (ownG 2 _)) (zc (zj (ownE 3 _ _)) rfl))) rfl rfl rfl rfl rfl uV rfl (dd ?_);refine zZ [9,10,5,6,7,8] [⟨1,37,8,[zJ w],0⟩,⟨1,69,44,[zD m],0⟩,⟨1,37,8,[fQ],0⟩,⟨1,69,44,[fP],0⟩,⟨1,48,23,[zP qC],0⟩,⟨1,0,5,eD w m v0 (6),0⟩,⟨1,0,2,ez m v0 g0 (tk) (7),0⟩,⟨1,0,3,ej m g0 e0 (hd) (8) (ac),0⟩,⟨2,3,1,e0.next.map encI,0⟩,⟨1,37,8,[(eZ w 5)],0⟩,⟨1,69,44,[zD m'],0⟩] (rx:=Ce e) h (zc rfl (zc rfl (zc (zj (ownV 3)) (zc (zj (ownG 4 _)) (zc (zj (ownE 5 _ _)) rfl))))) tB rfl rfl rfl (zc rfl (zc rfl (zc rfl (zc rfl (zc rfl (zc (zj (ownV 6)) (zc (zj (ownG 7 _)) (zc (zj (ownE 8 _ _)) rfl)))))))) uV rfl (dd ?_);refine .inl ⟨⟨false,[0,1,2],[9,10,11],[]⟩,au,uH ?_⟩;refine tc ?_
  refine ⟨.inl rfl,_,(((zp.zV 7 m.end_.toNat 1 rfl ge rfl rfl (.inr rfl) aj aj (shut_map (enc:=encI) (fun _=>rfl) _) (ownE 8 _ _)).trans (zp.zV 6 m.zi.toNat 1 rfl gg rfl rfl (.inl rfl) aj aj eshE (ownG 7 _))).trans (zp.zV 5 m.version.toNat 3 rfl gv rfl rfl (.inl rfl) aj aj eshG (ownV 6))).trans (zp.zV 2 0 4 rfl rfl rfl rfl (.inl rfl) aj aj eshV (qa rfl)),?_⟩;show _=some (C.u7 [C.agg [I w.zn,I w.current,I w.lock,lI w.pins,C.u1 0 5 ((w.ze.set m.version.toNat (xp m v0 g0 e0 tk hd ac)).map zF),lL w.zd,eM w.counts,lR w.zr],Cm m',Ce e]);rw [<- estV,<- estG,<- estE]
  rfl
def Kc {w:Wor} {m m':u3} {e:u6} {v0:u9} {g0:Gr} {e0:En} {tk hd ac:Int} (sw:qZ w) (ok:fm w) (hl:i64 m.listen) (hpc:m.pc=11) (hs:z6 w m=true) (hat:fk w m v0 g0 e0) (hne:e0.next≠[])
  (h:to 149 [⟨1,37,8,[(eZ w 2)],0⟩,⟨1,69,44,[zD m],0⟩,⟨1,0,5,eD w m v0 (3),0⟩,⟨1,0,2,ez m v0 g0 (g0.zt) (4),0⟩,⟨1,0,3,ej m g0 e0 (e0.head) (5) (e0.zf),0⟩,⟨2,3,1,e0.next.map encI,0⟩] [.agg tn] (Ce e) [⟨1,37,8,[(eZ w 2)],0⟩,⟨1,69,44,[zD m'],0⟩,⟨1,0,5,eD w m v0 (3),0⟩,⟨1,0,2,ez m v0 g0 (tk) (4),0⟩,⟨1,0,3,ej m g0 e0 (hd) (5) (ac),0⟩,⟨2,3,1,e0.next.map encI,0⟩]):to 96 [] [Cw w,Cm m] (.u7 [Cw (lM w m v0 g0 e0 tk hd ac),Cm m',Ce e]) []:=by
 have lv:=hat.ln.lv;have lg:=hat.ln.lg;have le:=hat.ln.le;have il:=sw.ze.2 v0 (dS hat.at_);have hp:oX w.ze m.version.toNat v0 m.zi.toNat g0 m.end_.toNat e0:=⟨⟨⟨il.2 g0 (dS hat.eG),hat.eS,hne⟩,il,hat.eG⟩,sw.ze,hat.at_⟩;have ownV:∀ i,∀ r ∈ eD w m v0 (i),∀ c ∈ r,zy c=true:=fun i=>zA (enc:=zF) (fun _=>rfl) rfl _ _
 have ownG:∀ i t,∀ r ∈ ez m v0 g0 (t) (i),∀ c ∈ r,zy c=true:=fun i t=>zA (enc:=zE) (fun _=>rfl) rfl _ _
 have ownE:∀ i a b,∀ r ∈ ej m g0 e0 (a) (i) (b),∀ c ∈ r,zy c=true:=fun i a b=>zA (enc:=zx) (fun _=>rfl) rfl _ _
 have gv:(eD w m v0 (6))[m.version.toNat]?= some ((qN v0.snap++[C.sl (6) [] 2 0 v0.zm.length false,Bo v0.qn])):=dW tR;have gg:(ez m v0 g0 (tk) (7))[m.zi.toNat]?= some ([U (tk),C.sl (7) [] 3 0 g0.ends.length false]):=dW tO;have ge:(ej m g0 e0 (hd) (8) (ac))[m.end_.toNat]?= some ([U (hd),C.sl (8) [] 1 0 e0.next.length false,I (ac)]):=dW tL;have estE:((ej m g0 e0 (hd) (8) (ac)).set m.end_.toNat [U hd,C.u1 0 1 (e0.next.map encI),I ac])=(g0.ends.set m.end_.toNat (qw e0 hd ac)).map zx:=cG
 have estG:((ez m v0 g0 (tk) (7)).set m.zi.toNat [U tk,C.u1 0 3 (((g0.ends.set m.end_.toNat (qw e0 hd ac)).map zx))])=(v0.zm.set m.zi.toNat (yJ m g0 e0 tk hd ac)).map zE:=cH
 have estV:((eD w m v0 (6)).set m.version.toNat (qN v0.snap++[C.u1 0 2 (((v0.zm.set m.zi.toNat (yJ m g0 e0 tk hd ac)).map zE)),Bo v0.qn]))=(w.ze.set m.version.toNat (xp m v0 g0 e0 tk hd ac)).map zF:=cI
 have eshE:∀ r ∈ ((ej m g0 e0 (hd) (8) (ac)).set m.end_.toNat [U hd,C.u1 0 1 (e0.next.map encI),I ac]),∀ c ∈ r,jl c=true∧zy c=true:=by
  exact dc
 have eshG:∀ r ∈ ((ez m v0 g0 (tk) (7)).set m.zi.toNat [U tk,C.u1 0 3 ((ej m g0 e0 (hd) (8) (ac)).set m.end_.toNat [U hd,C.u1 0 1 (e0.next.map encI),I ac])]),∀ c ∈ r,jl c=true∧zy c=true:=by
  exact c9
 have eshV:∀ r ∈ ((eD w m v0 (6)).set m.version.toNat (qN v0.snap++[C.u1 0 2 ((ez m v0 g0 (tk) (7)).set m.zi.toNat [U tk,C.u1 0 3 ((ej m g0 e0 (hd) (8) (ac)).set m.end_.toNat [U hd,C.u1 0 1 (e0.next.map encI),I ac])]),Bo v0.qn])),∀ c ∈ r,jl c=true∧zy c=true:=by
  exact cZ
 by_cases hn:m.listen < 0
 all_goals
  refine ab func96 ?_;(repeat (first | refine uA ?_ | refine uB ?_))
  refine ah (zO w m ok hl) ?_;refine ⟨fun _=>dd ?_,fun h=>absurd ((hs).symm.trans h:true=false) ar⟩;refine td ?_
  (repeat (first | refine uA ?_ | refine uB ?_))
  refine .inl ⟨⟨true,[2],[1],[0]⟩,au,uH ?_⟩;refine ah ju ?_;refine tc ?_
  (refine ⟨aw,aw,pf 149,cD,dd ?_⟩)
  refine td ?_
  refine zZ [] [⟨1,37,8,[zJ w],0⟩,⟨1,69,44,[zD m],0⟩,⟨1,37,8,[fQ],0⟩,⟨1,69,44,[fP],0⟩,⟨1,48,23,[zP qC],0⟩,⟨1,0,5,eD w m v0 (6),0⟩,⟨1,0,2,ez m v0 g0 (g0.zt) (7),0⟩,⟨1,0,3,ej m g0 e0 (e0.head) (8) (e0.zf),0⟩,⟨2,3,1,e0.next.map encI,0⟩] (rx:=.agg (eZ w 5)) (yK w sw w.ze rfl hp) (zc (zj (ownV 1)) (zc (zj (ownG 2 _)) (zc (zj (ownE 3 _ _)) rfl))) rfl rfl rfl rfl rfl uV rfl (dd ?_);refine zZ [9,10,5,6,7,8] [⟨1,37,8,[zJ w],0⟩,⟨1,69,44,[zD m],0⟩,⟨1,37,8,[fQ],0⟩,⟨1,69,44,[fP],0⟩,⟨1,48,23,[zP qC],0⟩,⟨1,0,5,eD w m v0 (6),0⟩,⟨1,0,2,ez m v0 g0 (tk) (7),0⟩,⟨1,0,3,ej m g0 e0 (hd) (8) (ac),0⟩,⟨2,3,1,e0.next.map encI,0⟩,⟨1,37,8,[(eZ w 5)],0⟩,⟨1,69,44,[zD m'],0⟩] (rx:=Ce e) h (zc rfl (zc rfl (zc (zj (ownV 3)) (zc (zj (ownG 4 _)) (zc (zj (ownE 5 _ _)) rfl))))) tB rfl rfl rfl (zc rfl (zc rfl (zc rfl (zc rfl (zc rfl (zc (zj (ownV 6)) (zc (zj (ownG 7 _)) (zc (zj (ownE 8 _ _)) rfl)))))))) uV rfl (dd ?_);refine .inl ⟨⟨false,[0,1,2],[9,10,11],[]⟩,au,uH ?_⟩;refine tc ?_
  refine ⟨.inl rfl,_,(((zp.zV 7 m.end_.toNat 1 rfl ge rfl rfl (.inr rfl) aj aj (shut_map (enc:=encI) (fun _=>rfl) _) (ownE 8 _ _)).trans (zp.zV 6 m.zi.toNat 1 rfl gg rfl rfl (.inl rfl) aj aj eshE (ownG 7 _))).trans (zp.zV 5 m.version.toNat 3 rfl gv rfl rfl (.inl rfl) aj aj eshG (ownV 6))).trans (zp.zV 2 0 4 rfl rfl rfl rfl (.inl rfl) aj aj eshV (qa rfl)),?_⟩;show _=some (C.u7 [C.agg [I w.zn,I w.current,I w.lock,lI w.pins,C.u1 0 5 ((w.ze.set m.version.toNat (xp m v0 g0 e0 tk hd ac)).map zF),lL w.zd,eM w.counts,lR w.zr],Cm m',Ce e]);rw [<- estV,<- estG,<- estE]
  rfl
def SE {w:Wor} {m m':u3} {e:u6} {v0:u9} {g0:Gr} {e0:En} {tk hd ac:Int} (sw:qZ w) (ok:fm w) (hl:i64 m.listen) (hpc:m.pc=12) (hs:z6 w m=true) (hat:fk w m v0 g0 e0) (hne:e0.next≠[])
  (h:to 150 [⟨1,37,8,[(eZ w 2)],0⟩,⟨1,69,44,[zD m],0⟩,⟨1,0,5,eD w m v0 (3),0⟩,⟨1,0,2,ez m v0 g0 (g0.zt) (4),0⟩,⟨1,0,3,ej m g0 e0 (e0.head) (5) (e0.zf),0⟩,⟨2,3,1,e0.next.map encI,0⟩] [.agg tn] (Ce e) [⟨1,37,8,[(eZ w 2)],0⟩,⟨1,69,44,[zD m'],0⟩,⟨1,0,5,eD w m v0 (3),0⟩,⟨1,0,2,ez m v0 g0 (tk) (4),0⟩,⟨1,0,3,ej m g0 e0 (hd) (5) (ac),0⟩,⟨2,3,1,e0.next.map encI,0⟩]):to 96 [] [Cw w,Cm m] (.u7 [Cw (lM w m v0 g0 e0 tk hd ac),Cm m',Ce e]) []:=by
 have lv:=hat.ln.lv;have lg:=hat.ln.lg;have le:=hat.ln.le;have il:=sw.ze.2 v0 (dS hat.at_);have hp:oX w.ze m.version.toNat v0 m.zi.toNat g0 m.end_.toNat e0:=⟨⟨⟨il.2 g0 (dS hat.eG),hat.eS,hne⟩,il,hat.eG⟩,sw.ze,hat.at_⟩;have ownV:∀ i,∀ r ∈ eD w m v0 (i),∀ c ∈ r,zy c=true:=fun i=>zA (enc:=zF) (fun _=>rfl) rfl _ _
 have ownG:∀ i t,∀ r ∈ ez m v0 g0 (t) (i),∀ c ∈ r,zy c=true:=fun i t=>zA (enc:=zE) (fun _=>rfl) rfl _ _
 have ownE:∀ i a b,∀ r ∈ ej m g0 e0 (a) (i) (b),∀ c ∈ r,zy c=true:=fun i a b=>zA (enc:=zx) (fun _=>rfl) rfl _ _
 have gv:(eD w m v0 (6))[m.version.toNat]?= some ((qN v0.snap++[C.sl (6) [] 2 0 v0.zm.length false,Bo v0.qn])):=dW tR;have gg:(ez m v0 g0 (tk) (7))[m.zi.toNat]?= some ([U (tk),C.sl (7) [] 3 0 g0.ends.length false]):=dW tO;have ge:(ej m g0 e0 (hd) (8) (ac))[m.end_.toNat]?= some ([U (hd),C.sl (8) [] 1 0 e0.next.length false,I (ac)]):=dW tL;have estE:((ej m g0 e0 (hd) (8) (ac)).set m.end_.toNat [U hd,C.u1 0 1 (e0.next.map encI),I ac])=(g0.ends.set m.end_.toNat (qw e0 hd ac)).map zx:=cG
 have estG:((ez m v0 g0 (tk) (7)).set m.zi.toNat [U tk,C.u1 0 3 (((g0.ends.set m.end_.toNat (qw e0 hd ac)).map zx))])=(v0.zm.set m.zi.toNat (yJ m g0 e0 tk hd ac)).map zE:=cH
 have estV:((eD w m v0 (6)).set m.version.toNat (qN v0.snap++[C.u1 0 2 (((v0.zm.set m.zi.toNat (yJ m g0 e0 tk hd ac)).map zE)),Bo v0.qn]))=(w.ze.set m.version.toNat (xp m v0 g0 e0 tk hd ac)).map zF:=cI
 have eshE:∀ r ∈ ((ej m g0 e0 (hd) (8) (ac)).set m.end_.toNat [U hd,C.u1 0 1 (e0.next.map encI),I ac]),∀ c ∈ r,jl c=true∧zy c=true:=by
  exact dc
 have eshG:∀ r ∈ ((ez m v0 g0 (tk) (7)).set m.zi.toNat [U tk,C.u1 0 3 ((ej m g0 e0 (hd) (8) (ac)).set m.end_.toNat [U hd,C.u1 0 1 (e0.next.map encI),I ac])]),∀ c ∈ r,jl c=true∧zy c=true:=by
  exact c9
 have eshV:∀ r ∈ ((eD w m v0 (6)).set m.version.toNat (qN v0.snap++[C.u1 0 2 ((ez m v0 g0 (tk) (7)).set m.zi.toNat [U tk,C.u1 0 3 ((ej m g0 e0 (hd) (8) (ac)).set m.end_.toNat [U hd,C.u1 0 1 (e0.next.map encI),I ac])]),Bo v0.qn])),∀ c ∈ r,jl c=true∧zy c=true:=by
  exact cZ
 by_cases hn:m.listen < 0
 all_goals
  refine ab func96 ?_;(repeat (first | refine uA ?_ | refine uB ?_))
  refine ah (zO w m ok hl) ?_;refine ⟨fun _=>dd ?_,fun h=>absurd ((hs).symm.trans h:true=false) ar⟩;refine td ?_
  (repeat (first | refine uA ?_ | refine uB ?_))
  refine .inl ⟨⟨true,[2],[1],[0]⟩,au,uH ?_⟩;refine ah ju ?_;refine tc ?_
  (refine ⟨aw,aw,pf 150,cD,dd ?_⟩)
  refine td ?_
  refine zZ [] [⟨1,37,8,[zJ w],0⟩,⟨1,69,44,[zD m],0⟩,⟨1,37,8,[fQ],0⟩,⟨1,69,44,[fP],0⟩,⟨1,48,23,[zP qC],0⟩,⟨1,0,5,eD w m v0 (6),0⟩,⟨1,0,2,ez m v0 g0 (g0.zt) (7),0⟩,⟨1,0,3,ej m g0 e0 (e0.head) (8) (e0.zf),0⟩,⟨2,3,1,e0.next.map encI,0⟩] (rx:=.agg (eZ w 5)) (yK w sw w.ze rfl hp) (zc (zj (ownV 1)) (zc (zj (ownG 2 _)) (zc (zj (ownE 3 _ _)) rfl))) rfl rfl rfl rfl rfl uV rfl (dd ?_);refine zZ [9,10,5,6,7,8] [⟨1,37,8,[zJ w],0⟩,⟨1,69,44,[zD m],0⟩,⟨1,37,8,[fQ],0⟩,⟨1,69,44,[fP],0⟩,⟨1,48,23,[zP qC],0⟩,⟨1,0,5,eD w m v0 (6),0⟩,⟨1,0,2,ez m v0 g0 (tk) (7),0⟩,⟨1,0,3,ej m g0 e0 (hd) (8) (ac),0⟩,⟨2,3,1,e0.next.map encI,0⟩,⟨1,37,8,[(eZ w 5)],0⟩,⟨1,69,44,[zD m'],0⟩] (rx:=Ce e) h (zc rfl (zc rfl (zc (zj (ownV 3)) (zc (zj (ownG 4 _)) (zc (zj (ownE 5 _ _)) rfl))))) tB rfl rfl rfl (zc rfl (zc rfl (zc rfl (zc rfl (zc rfl (zc (zj (ownV 6)) (zc (zj (ownG 7 _)) (zc (zj (ownE 8 _ _)) rfl)))))))) uV rfl (dd ?_);refine .inl ⟨⟨false,[0,1,2],[9,10,11],[]⟩,au,uH ?_⟩;refine tc ?_
  refine ⟨.inl rfl,_,(((zp.zV 7 m.end_.toNat 1 rfl ge rfl rfl (.inr rfl) aj aj (shut_map (enc:=encI) (fun _=>rfl) _) (ownE 8 _ _)).trans (zp.zV 6 m.zi.toNat 1 rfl gg rfl rfl (.inl rfl) aj aj eshE (ownG 7 _))).trans (zp.zV 5 m.version.toNat 3 rfl gv rfl rfl (.inl rfl) aj aj eshG (ownV 6))).trans (zp.zV 2 0 4 rfl rfl rfl rfl (.inl rfl) aj aj eshV (qa rfl)),?_⟩;show _=some (C.u7 [C.agg [I w.zn,I w.current,I w.lock,lI w.pins,C.u1 0 5 ((w.ze.set m.version.toNat (xp m v0 g0 e0 tk hd ac)).map zF),lL w.zd,eM w.counts,lR w.zr],Cm m',Ce e]);rw [<- estV,<- estG,<- estE]
  rfl
end Go.Wor
