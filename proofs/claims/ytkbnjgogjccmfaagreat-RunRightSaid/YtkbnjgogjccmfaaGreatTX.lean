import Derived.Test.YtkbnjgogjccmfaaGreatTW
import Derived.Test.YtkbnjgogjccmfaaGreatTV
set_option linter.all false
set_option maxRecDepth 100000
set_option maxHeartbeats 4000000
namespace Go.Wor
open Go.Ab Go.Proofs Tryz Go.Hy Go.Gat Go.Nam Go.Hos Go.Con Go.Sna
abbrev Ay (w:Wor) (m:uw):uw:={ m with version:=w.current,zi:=0,end_:=0,other:=0,slot:=0,listen:=zS w.zd m.op.listen,pc:=4 }
abbrev HT (e:uz):uz:={ e with qR:=true }
def M4 (w:Wor) (m:uw) (hl:w.zd.length < 4611686018427387904):
  tn 141 [⟨1,37,8,[zJ w],0⟩,⟨1,69,44,[zD (m)],0⟩] [.agg tj] (Ce (HT (ez m 1 3 w.current))) [⟨1,37,8,[zJ w],0⟩,⟨1,69,44,[zD (if zS w.zd m.op.listen < 0 then lX (Ay w m) 2 else Ay w m)],0⟩]:=by
 refine aa func141 ?_;refine .inr ⟨⟨[0,2,5,6],[0,1,2],true⟩,au,fun _=>rfl,_,uH ?_,fun t2 H2 h=>h⟩;refine ⟨_,ai [1] (jk m 1 3 w.current),uH ?_⟩;(refine ⟨uH ?_,trivial⟩);refine hZ ?_
 (refine ⟨uH ?_,trivial⟩);refine hZ ?_
 (refine ⟨_,_,.refl _,uH ?_⟩)
 refine .inl ⟨⟨true,[],[],[12]⟩,au,uH ?_⟩;refine ah (wS w.zd m.op.listen hl) ?_;refine hZ ?_
 refine ⟨fun h1=>?_,fun h1=>?_⟩
 ·have e1:zS w.zd m.op.listen < 0:=by simpa using h1
  rw [dQ e1];refine dd ?_;refine af [1] (vz (Ay w m) 2) ?_;exact cI
 ·have e1:¬zS w.zd m.op.listen < 0:=by simpa using h1
  rw [dN e1];refine dd ?_;exact cI
def OT (w:Wor) (m:uw) (sw:qX w) (ok:fe w) (hl:i64 m.listen) (hs:zY w m=true):
  tn 154 [⟨1,37,8,[zJ (w)],0⟩,⟨1,69,44,[zD (m)],0⟩] [.agg tj] (Ce { CS m with done:=true,answer:=m.answer }) [⟨1,37,8,[zJ (nn w m.zf.toNat 0)],0⟩,⟨1,69,44,[zD ({ m with done:=true })],0⟩]:=by
 refine aa func154 ?_;refine .inr ⟨⟨[1,3,5,7,8],[0,1,2],true⟩,au,fun _=>rfl,fun t H=>t=(.za::.ref 2 [] 2 0 0::.ref 3 [] 23 0 0::.ref 4 [] 8 0 0::.ref 5 [] 23 0 0::tZ (tZ (tZ ([.za,.za,.za,.za]))))∧H=[⟨1,37,8,[zJ (w)],0⟩,⟨1,69,44,[zD (m)],0⟩,⟨1,213,2,[tj],0⟩,⟨1,48,23,[zR (qA)],0⟩,⟨1,37,8,[zJ (nn w m.zf.toNat 0)],0⟩,⟨1,48,23,[zR (CS m)],0⟩],?_,?_⟩
 ·conv=>whnf
  refine ⟨_,ai [] (RZ w m sw ok hl hs),uH ?_⟩;repeat' (first | (exact trivial) | (refine ⟨rfl,uH ?_⟩) | (exact ⟨_,_,zo.u5 [0,1,2,3,4,5] [1,2,3,4] _ _ rfl rfl rfl rfl,rfl,rfl⟩) | (exact ⟨_,_,zo.u5 [0,1,2,3,5,4] [1,2,3,4] _ _ rfl rfl rfl rfl,rfl,rfl⟩) | (refine And.intro ?_ ?_ <;> (conv=>whnf)))
 rintro _ _ ⟨rfl,rfl⟩;conv=>whnf
 refine .inr ⟨⟨[1,3],[2],true⟩,au,fun _=>rfl,fun t H=>t=(.za::.ref 2 [] 2 0 0::.ref 3 [] 23 0 0::.za::.ref 5 [] 23 0 0::tZ (tZ (tZ ([.za,.za,.za,.za]))))∧H=[⟨1,37,8,[zJ (nn w m.zf.toNat 0)],0⟩,⟨1,69,44,[zD ({ m with done:=true })],0⟩,⟨1,213,2,[tj],0⟩,⟨1,48,23,[zR (qA)],0⟩,⟨1,37,8,[zJ (nn w m.zf.toNat 0)],0⟩,⟨1,48,23,[zR ({ CS m with done:=true,answer:=m.answer })],0⟩],?_,?_⟩
 ·conv=>whnf
  repeat' (first | (exact trivial) | (refine ⟨rfl,uH ?_⟩) | (exact ⟨_,_,zo.mask [1,2,4] _ _,rfl,rfl⟩) | (refine And.intro ?_ ?_ <;> (conv=>whnf)))
 rintro _ _ ⟨rfl,rfl⟩;conv=>whnf
 exact cI
def yg (c:eM) (d:Int):Int:=((ux c)[(d % (ux c).length).toNat]?).getD 0
def yJ (c:eM) (d0 d1:Int):Int × Int × Int:=if (ux c).length=0 then (0,0,5) else (yg c d0,yg c d1,0)
def RJ {d:Int} {n:Nat} (hd:i64 d) (hn:0 < n) (hm:n < 1000000000000):IntKind.i64.wrap (d.tmod n+n)=d.tmod n+n∧(d.tmod n+n).tmod n=d % n:=by
 have h1:=Int.tmod_lt_of_pos d (show (0:Int) < n by omega);have h2:=Int.lt_tmod_of_pos d (show (0:Int) < n by omega);refine ⟨q9 aw aw,?_⟩;rw [rK aw,Int.add_emod_right];rw [Int.tmod_def,Int.sub_mul_emod_self_left]
def La {c:eM} {d:Int} (hd:i64 d) (hn:0 < (ux c).length) (hm:(ux c).length < 1000000000000) {n:Nat} (e:n=(ux c).length):
  0<=(IntKind.i64.wrap (d.tmod n+n)).tmod n∧((ux c).map encI)[((IntKind.i64.wrap (d.tmod n+n)).tmod n).toNat]?= some [I (yg c d)]:=by
 subst e;obtain ⟨e1,e2⟩:=RJ hd hn hm;rw [e1,e2];have h0:(0:Int) < (ux c).length:=aw
 have h1:=rV d (show ((ux c).length:Int)≠0 by omega);have h2:=rW d h0;refine ⟨h1,?_⟩;have hi:(ux c)[(d % ((ux c).length:Int)).toNat]?= some ((ux c)[(d % ((ux c).length:Int)).toNat]'aw):=dM _;unfold yg;rw [dP,hi]
 rfl
def Qf (c:eM) (d0 d1:Int) (h0:i64 d0) (h1:i64 d1) (hl:c.zL.length < 1000000000000) (hh:(ux c).length<=c.zL.length):tn 195 [] [Cc c,I d0,I d1] (.u1 [I (yJ c d0 d1).1,I (yJ c d0 d1).2.1,I (yJ c d0 d1).2.2]) []:=by
 have ml:((ux c).map encI).length=(ux c).length:=dR ..;refine ab func195 ?_;refine ah (HV c hl) ?_;rw [ml];refine ⟨fun hz=>?_,fun hz=>?_⟩
 ·unfold yJ;have hz:=gK hz;rw [dQ aw];exact df
 ·unfold yJ;have hz:=pF hz;rw [dN aw];refine dd ?_;have hw:(((ux c).length:Nat):Int)≠0:=by omega
  refine od.CX 3 (LoopN.step ?_);conv=>whnf
  refine tc ?_
  (refine ⟨ar,ar,dd ?_⟩)
  split;(rotate_left;(rename_i hno;exact (hno _ (yd rfl rfl rfl hw)).elim));(rename_i v e;cases e.symm.trans (yd rfl rfl rfl hw));refine dd ?_
  split;(rotate_left;(rename_i hno;exact (hno _ (yd rfl rfl rfl hw)).elim));(rename_i v e;cases e.symm.trans (yd rfl rfl rfl hw));refine dd ?_
  obtain ⟨p0,p1⟩:=La h0 (c:=c) aw aw rfl;refine ⟨p0,_,p1,dd ?_⟩;(refine ⟨ar,ar,dd ?_⟩)
  refine .inl ⟨rfl,LoopN.step (uH ?_)⟩;refine tc ?_
  (refine ⟨ar,ar,dd ?_⟩)
  split;(rotate_left;(rename_i hno;exact (hno _ (yd rfl rfl rfl hw)).elim));(rename_i v e;cases e.symm.trans (yd rfl rfl rfl hw));refine dd ?_
  split;(rotate_left;(rename_i hno;exact (hno _ (yd rfl rfl rfl hw)).elim));(rename_i v e;cases e.symm.trans (yd rfl rfl rfl hw));refine dd ?_
  obtain ⟨p2,p3⟩:=La h1 (c:=c) aw aw rfl;refine ⟨p2,_,p3,dd ?_⟩;(refine ⟨ar,ar,dd ?_⟩)
  refine .inl ⟨rfl,LoopN.step (uH ?_)⟩;refine tc ?_
  refine .inr ⟨aj,uH ?_⟩;refine uE ?_;(refine ⟨ar,ar,dd ?_⟩)
  (refine ⟨ar,ar,dd ?_⟩)
  exact uI
abbrev xr (m:uw) (v:u3):Int × Int:=nW v.snap m.op.listen m.op.host m.op.path
def xx (m:uw) (v:u3):uw:=if (xr m v).2≠0 then lX m 2 else match v.snap.zk[(xr m v).1.toNat]? with
 | none=>m
 | some c=>if (yJ c m.op.d0 m.op.d1).2.2≠0 then lX { m with zi:=(xr m v).1 } 3
  else if c.xH=1 then { m with zi:=(xr m v).1,pc:=6 }
  else { m with zi:=(xr m v).1,end_:=(yJ c m.op.d0 m.op.d1).1,other:=(yJ c m.op.d0 m.op.d1).2.1,pc:=7 }
structure Ex (m:uw) (v:u3):Prop where
 small:LJ v.snap
 host:m.op.host.length < 1000000000000000
 path:m.op.path.length < 1000000000000000
 d0:i64 m.op.d0
 d1:i64 m.op.d1
 Hl:(xr m v).2=0->0<=(xr m v).1∧∃ c,v.snap.zk[(xr m v).1.toNat]?= some c∧c.zL.length < 1000000000000
def LZ (c:eM):(ux c).length<=c.zL.length:=Dr c.zL c.zL.length
def JZ {m:uw} {v:u3} (h:(xr m v).2≠0):xx m v=lX m 2:=dQ h
def I5 {m:uw} {v:u3} {c:eM} (h:(xr m v).2=0) (hc:v.snap.zk[(xr m v).1.toNat]?= some c) (hd:(yJ c m.op.d0 m.op.d1).2.2≠0):xx m v=lX { m with zi:=(xr m v).1 } 3:=by
 unfold xx;rw [dN aw,hc];exact dQ hd
def JB {m:uw} {v:u3} {c:eM} (h:(xr m v).2=0) (hc:v.snap.zk[(xr m v).1.toNat]?= some c) (hd:(yJ c m.op.d0 m.op.d1).2.2=0) (hp:c.xH=1):xx m v={ m with zi:=(xr m v).1,pc:=6 }:=by
 unfold xx;rw [dN aw,hc];exact (dN aw).trans (dQ hp)
def JC {m:uw} {v:u3} {c:eM} (h:(xr m v).2=0) (hc:v.snap.zk[(xr m v).1.toNat]?= some c) (hd:(yJ c m.op.d0 m.op.d1).2.2=0) (hp:c.xH≠1):
  xx m v={ m with zi:=(xr m v).1,end_:=(yJ c m.op.d0 m.op.d1).1,other:=(yJ c m.op.d0 m.op.d1).2.1,pc:=7 }:=by
 unfold xx;rw [dN aw,hc];exact (dN aw).trans (dN hp)
def Po (w:Wor) (m:uw) (v:u3) (hv:mN w m v) (h:Ex m v):tn 180 [⟨1,37,8,[zJ w],0⟩,⟨1,69,44,[zD (m)],0⟩] [.agg tj] (.u1 []) [⟨1,37,8,[zJ w],0⟩,⟨1,69,44,[zD (xx m v)],0⟩]:=by
 have h0:=hv.v0;have hr:=hv.row;refine aa func180 ?_;refine uE ?_;(refine ⟨h0,_,hr,dd ?_⟩)
 refine ah (PL v.snap m.op.listen m.op.host m.op.path h.small h.host h.path) ?_;refine ⟨fun h1=>?_,fun h1=>?_⟩
 ·have h2:(xr m v).2≠0:=by simpa using h1
  rw [JZ h2];refine dd ?_;refine af [1] (vz m 2) ?_;exact cI
 ·have h2:(xr m v).2=0:=by simpa using h1
  obtain ⟨g0,c,hc,hcl⟩:=h.Hl h2;refine dd ?_;refine .inr ⟨⟨[0,1,6,11,12],[0,1,2],true⟩,au,fun _=>rfl,_,uH ?_,fun t2 H2 h=>h⟩;refine ⟨_,ai [0,1] (vM w { m with zi:=(xr m v).1 } v c ⟨hv.v0,hv.at_⟩ g0 hc),uH ?_⟩;refine ⟨_,ai [] (Qf c m.op.d0 m.op.d1 h.d0 h.d1 hcl (LZ c)),uH ?_⟩;(refine ⟨_,_,.refl _,uH ?_⟩)
  refine ⟨fun h3=>?_,fun h3=>?_⟩
  ·have h4:(yJ c m.op.d0 m.op.d1).2.2≠0:=by simpa using h3
   rw [I5 h2 hc h4];refine dd ?_;refine af [1] (vz { m with zi:=(xr m v).1 } 3) ?_;exact ⟨.inr rfl,_,_,.refl _,rfl,cE 2⟩
  ·have h4:(yJ c m.op.d0 m.op.d1).2.2=0:=by simpa using h3
   refine dd ?_;refine af [0,1] (vM w { m with zi:=(xr m v).1 } v c ⟨hv.v0,hv.at_⟩ g0 hc) ?_;refine ⟨fun h5=>?_,fun h5=>?_⟩
   ·have h6:c.xH=1:=by simpa using h5
    rw [JB h2 hc h4 h6];refine dd ?_;exact ⟨.inr rfl,_,_,.refl _,rfl,cE 2⟩
   ·have h6:c.xH≠1:=by simpa using h5
    rw [JC h2 hc h4 h6];refine dd ?_;exact ⟨.inr rfl,_,_,.refl _,rfl,cE 2⟩
def Np (w:Wor) (m:uw) (v:u3) (hv:mN w m v) (h:Ex m v) {l:eE} (l0:0<=m.listen) (hl:w.zd[m.listen.toNat]?= some l):
  tn 143 [⟨1,37,8,[zJ w],0⟩,⟨1,69,44,[zD (m)],0⟩] [.agg tj] (Ce (if l.drain then { ez m 1 4 1 with qR:=true } else ez m 1 4 0)) [⟨1,37,8,[zJ w],0⟩,⟨1,69,44,[zD (if l.drain then lX m 5 else xx m v)],0⟩]:=by
 have lr:(w.zd.map qH)[m.listen.toNat]?= some (qH l):=by rw [dP,hl];rfl
 obtain ⟨ln,ld,la,lc⟩:=l;cases ld
 all_goals
  refine aa func143 ?_;refine uE ?_;(refine ⟨l0,_,lr,dd ?_⟩)
 ·(refine yb (dd ?_))
  refine af [0,1] (Po w m v hv h) ?_
  have et:(xx m v).zf=m.zf:=by
   unfold xx;split
   ·rfl
   ·split
    ·rfl
    ·split
     ·rfl
     ·split <;> rfl
  have ee:ez m 1 4 0=ez (xx m v) 1 4 0:=by unfold ez;rw [et]
  have eg:(if ({ name:=ln,drain:=false,zg:=la,closed:=lc }:eE).drain then { ez m 1 4 1 with qR:=true } else ez m 1 4 0)=ez (xx m v) 1 4 0:=ee;rw [eg];refine af [1] (jk (xx m v) 1 4 0) ?_;exact cI
 ·(refine ya (dd ?_))
  refine af [1] (jk m 1 4 1) ?_;refine af [1] (vz m 5) ?_;exact cI
def Nw (w:Wor) (m:uw) (v0:u3) (g0:Gr) (e0:En) (c:eM) (hv:lJ w m v0 g0) (hc:v0.snap.zk[m.zi.toNat]?= some c):tn 183 [⟨1,37,8,[(eR w 2)],0⟩,⟨1,69,44,[zD (m)],0⟩,⟨1,0,5,eh w m v0 3,0⟩,⟨1,0,2,ed m v0 g0 g0.zt 4,0⟩,⟨1,0,3,u7 m g0 e0 e0.head 5 e0.zg,0⟩,⟨2,3,1,e0.next.map encI,0⟩] [.agg tj] (Cc c) [⟨1,37,8,[(eR w 2)],0⟩,⟨1,69,44,[zD (m)],0⟩,⟨1,0,5,eh w m v0 3,0⟩,⟨1,0,2,ed m v0 g0 g0.zt 4,0⟩,⟨1,0,3,u7 m g0 e0 e0.head 5 e0.zg,0⟩,⟨2,3,1,e0.next.map encI,0⟩]:=by
 have h0:=hv.pv;have g0':=hv.pg;have lv:m.version.toNat < w.ze.length:=hv.lv;have cr:(v0.snap.zk.map j6)[m.zi.toNat]?= some (j6 c):=by rw [dP,hc];rfl
 have lowV:∀ r ∈ eh w m v0 3,∀ c ∈ r,qY 6 9 c=true:=zA (enc:=zF) (fun _=>rfl) rfl _ _;have lowG:∀ r ∈ ed m v0 g0 g0.zt 4,∀ c ∈ r,qY 6 9 c=true:=zA (enc:=zE) (fun _=>rfl) rfl _ _;have lowE:∀ r ∈ u7 m g0 e0 e0.head 5 e0.zg,∀ c ∈ r,qY 6 9 c=true:=zA (enc:=zx) (fun _=>rfl) rfl _ _;have e1:0+m.version.toNat=m.version.toNat:=gp _;have gv:(eh w m v0 3)[m.version.toNat]?= some ((qK v0.snap++[C.sl 3 [] 2 0 v0.zm.length false,Bo v0.qm])):=dS tP;refine aa func183 ?_;refine uE ?_;refine ⟨h0,lv,dd ?_⟩;rw [e1];refine ⟨_,gv,(by show 2+1<=5;decide),dd ?_⟩;refine ⟨g0',_,cr,dd ?_⟩;exact cJ
def EZ (w:Wor) (m:uw) (v0:u3) (g0:Gr) (e0:En) (hv:lJ w m v0 g0) (x p a b c:Int):tn 184 [⟨1,37,8,[(eR w 2)],0⟩,⟨1,69,44,[zD ({ m with end_:=x,pc:=p })],0⟩,⟨1,0,5,eh w m v0 3,0⟩,⟨1,0,2,ed m v0 g0 g0.zt 4,0⟩,⟨1,0,3,u7 m g0 e0 e0.head 5 e0.zg,0⟩,⟨2,3,1,e0.next.map encI,0⟩] [.agg tj,I a,I b,I c] (Ce (fi m v0 a b c)) [⟨1,37,8,[(eR w 2)],0⟩,⟨1,69,44,[zD ({ m with end_:=x,pc:=p })],0⟩,⟨1,0,5,eh w m v0 3,0⟩,⟨1,0,2,ed m v0 g0 g0.zt 4,0⟩,⟨1,0,3,u7 m g0 e0 e0.head 5 e0.zg,0⟩,⟨2,3,1,e0.next.map encI,0⟩]:=by
 have h0:=hv.pv;have lv:m.version.toNat < w.ze.length:=hv.lv;have e1:0+m.version.toNat=m.version.toNat:=gp _
 clear hv
 obtain ⟨sn,gs,fr⟩:=v0;cases fr
 all_goals
  have ownV:∀ b,∀ r ∈ (w.ze.map zF).set m.version.toNat (qK sn++[C.sl 3 [] 2 0 gs.length false,Bo b]),∀ c ∈ r,zy c=true:=fun b=>zA (enc:=zF) (fun _=>rfl) rfl _ _
  have ownG:∀ r ∈ (gs.map zE).set m.zi.toNat ([U g0.zt,C.sl 4 [] 3 0 g0.ends.length false]),∀ c ∈ r,zy c=true:=zA (enc:=zE) (fun _=>rfl) rfl _ _;have ownE:∀ r ∈ u7 m g0 e0 e0.head 5 e0.zg,∀ c ∈ r,zy c=true:=zA (enc:=zx) (fun _=>rfl) rfl _ _;have lowV:∀ b,∀ r ∈ (w.ze.map zF).set m.version.toNat (qK sn++[C.sl 3 [] 2 0 gs.length false,Bo b]),∀ c ∈ r,qY 6 9 c=true:=fun b=>zA (enc:=zF) (fun _=>rfl) rfl _ _
  have gv:∀ b,((w.ze.map zF).set m.version.toNat (qK sn++[C.sl 3 [] 2 0 gs.length false,Bo b]))[m.version.toNat]?= some (qK sn++[C.sl 3 [] 2 0 gs.length false,Bo b]):=fun b=>dS tP
  have lowG:∀ r ∈ (gs.map zE).set m.zi.toNat ([U g0.zt,C.sl 4 [] 3 0 g0.ends.length false]),∀ c ∈ r,qY 6 9 c=true:=zA (enc:=zE) (fun _=>rfl) rfl _ _;have lowE:∀ r ∈ u7 m g0 e0 e0.head 5 e0.zg,∀ c ∈ r,qY 6 9 c=true:=zA (enc:=zx) (fun _=>rfl) rfl _ _;refine aa func184 ?_;refine zX [1] [⟨1,37,8,[(eR w 2)],0⟩,⟨1,69,44,[zD ({ m with end_:=x,pc:=p })],0⟩,⟨1,0,5,(w.ze.map zF).set m.version.toNat (qK sn++[C.sl 3 [] 2 0 gs.length false,Bo _]),0⟩,⟨1,0,2,(gs.map zE).set m.zi.toNat ([U g0.zt,C.sl 4 [] 3 0 g0.ends.length false]),0⟩,⟨1,0,3,u7 m g0 e0 e0.head 5 e0.zg,0⟩,⟨2,3,1,e0.next.map encI,0⟩,⟨1,213,2,[tj],0⟩,⟨1,48,23,[zR qA],0⟩] (rx:=Ce (ez m a b c)) (jk { m with end_:=x,pc:=p } a b c) rfl rfl rfl rfl rfl (zc rfl (zc rfl (zc (zj (ownV _)) (zc (zj ownG) (zc (zj ownE) rfl))))) rfl rfl (dd ?_);refine .inl ⟨⟨false,[6,9,11,14,17],[0,1,2,6],[]⟩,au,uH ?_⟩;refine ⟨h0,lv,dd ?_⟩;rw [e1];refine ⟨_,gv _,(by show 4+1<=5;decide),dd ?_⟩
  first | ((refine ya (dd ?_))) | ((refine yb (dd ?_)))
  refine hZ ?_
  exact ⟨.inl rfl,_,_,.refl _,rfl,zo.xv 6 hU rfl rfl rfl (zI rfl (zI rfl (zI (qg (lowV _)) (zI (qg lowG) (zI (qg lowE) rfl))))) rfl⟩
abbrev DK (m:uw) (c:eM) (t:Int):uw:={ m with end_:=(lS c t).1,pc:=9 }
abbrev Hd (g:Gr):Gr:={ g with zt:=IntKind.u64.wrap (g.zt+1) }
def OO (w:Wor) (m:uw) (v0:u3) (g0:Gr) (e0:En) (c:eM) (hv:lJ w m v0 g0) (hc:v0.snap.zk[m.zi.toNat]?= some c) (ht:u64 g0.zt) (hl:c.zL.length < 1000000000000):
  tn 144 [⟨1,37,8,[(eR w 2)],0⟩,⟨1,69,44,[zD (m)],0⟩,⟨1,0,5,eh w m v0 3,0⟩,⟨1,0,2,ed m v0 g0 g0.zt 4,0⟩,⟨1,0,3,u7 m g0 e0 e0.head 5 e0.zg,0⟩,⟨2,3,1,e0.next.map encI,0⟩] [.agg tj] (Ce (fi m v0 3 6 (IntKind.i64.wrap g0.zt))) [⟨1,37,8,[(eR w 2)],0⟩,⟨1,69,44,[zD (DK m c g0.zt)],0⟩,⟨1,0,5,eh w m v0 3,0⟩,⟨1,0,2,ed m v0 g0 (IntKind.u64.wrap (g0.zt+1)) 4,0⟩,⟨1,0,3,u7 m g0 e0 e0.head 5 e0.zg,0⟩,⟨2,3,1,e0.next.map encI,0⟩]:=by
 have lg:=hv.lg;have ownV:∀ r ∈ eh w m v0 3,∀ c ∈ r,zy c=true:=zA (enc:=zF) (fun _=>rfl) rfl _ _;have ownG:∀ r ∈ ed m v0 g0 g0.zt 4,∀ c ∈ r,zy c=true:=zA (enc:=zE) (fun _=>rfl) rfl _ _;have ownE:∀ r ∈ u7 m g0 e0 e0.head 5 e0.zg,∀ c ∈ r,zy c=true:=zA (enc:=zx) (fun _=>rfl) rfl _ _;have gg:(ed m v0 g0 g0.zt 4)[m.zi.toNat]?= some ([U g0.zt,C.sl 4 [] 3 0 g0.ends.length false]):=dS tN;refine aa func144 ?_;refine Dv [0,1,2,3,4,5] [⟨1,37,8,[(eR w 2)],0⟩,⟨1,69,44,[zD (m)],0⟩,⟨1,0,5,eh w m v0 3,0⟩,⟨1,0,2,ed m v0 g0 g0.zt 4,0⟩,⟨1,0,3,u7 m g0 e0 e0.head 5 e0.zg,0⟩,⟨2,3,1,e0.next.map encI,0⟩,⟨1,213,2,[tj],0⟩,⟨1,48,23,[zR qA],0⟩] (rx:=.ref 3 [] 2 m.zi.toNat 0) (EM w m v0 g0 e0 hv) (zc rfl (zc rfl (zc (zj ownV) (zc (zj ownG) (zc (zj ownE) rfl))))) uT rfl rfl rfl (zc rfl (zc rfl (zc (zj ownV) (zc (zj ownG) (zc (zj ownE) rfl))))) uU rfl (dd ?_);refine ⟨_,gg,(by show 0+1<=2;decide),dd ?_⟩;refine Dv [0,1,2,3,4,5] [⟨1,37,8,[(eR w 2)],0⟩,⟨1,69,44,[zD (m)],0⟩,⟨1,0,5,eh w m v0 3,0⟩,⟨1,0,2,ed m v0 g0 g0.zt 4,0⟩,⟨1,0,3,u7 m g0 e0 e0.head 5 e0.zg,0⟩,⟨2,3,1,e0.next.map encI,0⟩,⟨1,213,2,[tj],0⟩,⟨1,48,23,[zR qA],0⟩] (rx:=.ref 3 [] 2 m.zi.toNat 0) (EM w m v0 g0 e0 hv) (zc rfl (zc rfl (zc (zj ownV) (zc (zj ownG) (zc (zj ownE) rfl))))) uT rfl rfl rfl (zc rfl (zc rfl (zc (zj ownV) (zc (zj ownG) (zc (zj ownE) rfl))))) uU rfl (dd ?_);refine ⟨_,gg,(by show 0+1<=2;decide),dd ?_⟩;refine ⟨_,gg,rfl,dd ?_⟩;rw [gF];have ownG2:∀ r ∈ ed m v0 g0 (IntKind.u64.wrap (g0.zt+1)) 4,∀ c ∈ r,zy c=true:=zA (enc:=zE) (fun _=>rfl) rfl _ _;have lowV:∀ r ∈ eh w m v0 3,∀ c ∈ r,qY 6 9 c=true:=zA (enc:=zF) (fun _=>rfl) rfl _ _;have lowG:∀ r ∈ ed m v0 g0 (IntKind.u64.wrap (g0.zt+1)) 4,∀ c ∈ r,qY 6 9 c=true:=zA (enc:=zE) (fun _=>rfl) rfl _ _;have lowE:∀ r ∈ u7 m g0 e0 e0.head 5 e0.zg,∀ c ∈ r,qY 6 9 c=true:=zA (enc:=zx) (fun _=>rfl) rfl _ _;have hv2:lJ w m v0 (Hd g0):=⟨hv.pv,hv.lv,hv.pg,hv.lg,hv.pe,hv.le⟩;refine .inl ⟨⟨true,[],[],[3,5]⟩,au,uH ?_⟩;refine zX [0,1,2,3,4,5] [⟨1,37,8,[(eR w 2)],0⟩,⟨1,69,44,[zD (m)],0⟩,⟨1,0,5,eh w m v0 3,0⟩,⟨1,0,2,ed m v0 g0 (IntKind.u64.wrap (g0.zt+1)) 4,0⟩,⟨1,0,3,u7 m g0 e0 e0.head 5 e0.zg,0⟩,⟨2,3,1,e0.next.map encI,0⟩,⟨1,213,2,[tj],0⟩,⟨1,48,23,[zR qA],0⟩] (rx:=Cc c) (Nw w m v0 (Hd g0) e0 c hv2 hc) (zc rfl (zc rfl (zc (zj ownV) (zc (zj ownG2) (zc (zj ownE) rfl))))) uT rfl rfl rfl (zc rfl (zc rfl (zc (zj ownV) (zc (zj ownG2) (zc (zj ownE) rfl))))) uU rfl (dd ?_);refine zX [] [⟨1,37,8,[(eR w 2)],0⟩,⟨1,69,44,[zD (m)],0⟩,⟨1,0,5,eh w m v0 3,0⟩,⟨1,0,2,ed m v0 g0 (IntKind.u64.wrap (g0.zt+1)) 4,0⟩,⟨1,0,3,u7 m g0 e0 e0.head 5 e0.zg,0⟩,⟨2,3,1,e0.next.map encI,0⟩,⟨1,213,2,[tj],0⟩,⟨1,48,23,[zR qA],0⟩] (rx:=.u1 [I (lS c g0.zt).1,I (lS c g0.zt).2]) (Qj c g0.zt ht hl (LZ c)) rfl rfl rfl rfl rfl (zc rfl (zc rfl (zc (zj ownV) (zc (zj ownG2) (zc (zj ownE) rfl))))) rfl rfl (dd ?_);refine zX [0,1,2,3,4,5] [⟨1,37,8,[(eR w 2)],0⟩,⟨1,69,44,[zD (DK m c g0.zt)],0⟩,⟨1,0,5,eh w m v0 3,0⟩,⟨1,0,2,ed m v0 g0 (IntKind.u64.wrap (g0.zt+1)) 4,0⟩,⟨1,0,3,u7 m g0 e0 e0.head 5 e0.zg,0⟩,⟨2,3,1,e0.next.map encI,0⟩,⟨1,213,2,[tj],0⟩,⟨1,48,23,[zR qA],0⟩] (rx:=Ce (fi m v0 3 6 (IntKind.i64.wrap g0.zt))) (EZ w m v0 (Hd g0) e0 hv2 (lS c g0.zt).1 9 3 6 (IntKind.i64.wrap g0.zt)) (zc rfl (zc rfl (zc (zj ownV) (zc (zj ownG2) (zc (zj ownE) rfl))))) uT rfl rfl rfl (zc rfl (zc rfl (zc (zj ownV) (zc (zj ownG2) (zc (zj ownE) rfl))))) uU rfl (dd ?_);exact cJ
def Nl (w:Wor) (m:uw) (v0:u3) (g0:Gr) (e0:En) (hv:lJ w m v0 g0) (hw:u64 m.word) (l0: -1<=m.link) (l1:m.link<=2147483646) (hh:u64 e0.head) (hne:e0.head≠m.word):
  tn 149 [⟨1,37,8,[(eR w 2)],0⟩,⟨1,69,44,[zD (m)],0⟩,⟨1,0,5,eh w m v0 3,0⟩,⟨1,0,2,ed m v0 g0 g0.zt 4,0⟩,⟨1,0,3,u7 m g0 e0 e0.head 5 e0.zg,0⟩,⟨2,3,1,e0.next.map encI,0⟩] [.agg tj] (Ce (fi m v0 5 8 (e0.head % 4294967296 - 1))) [⟨1,37,8,[(eR w 2)],0⟩,⟨1,69,44,[zD ({ m with pc:=9 })],0⟩,⟨1,0,5,eh w m v0 3,0⟩,⟨1,0,2,ed m v0 g0 g0.zt 4,0⟩,⟨1,0,3,u7 m g0 e0 e0.head 5 e0.zg,0⟩,⟨2,3,1,e0.next.map encI,0⟩]:=by
 (have le:=hv.le);(have ownV:∀ r ∈ eh w m v0 3,∀ c ∈ r,zy c=true:=zA (enc:=zF) (fun _=>rfl) rfl _ _);(have ownG:∀ r ∈ ed m v0 g0 g0.zt 4,∀ c ∈ r,zy c=true:=zA (enc:=zE) (fun _=>rfl) rfl _ _);(have ownE:∀ r ∈ u7 m g0 e0 e0.head 5 e0.zg,∀ c ∈ r,zy c=true:=zA (enc:=zx) (fun _=>rfl) rfl _ _);(have lowV:∀ r ∈ eh w m v0 3,∀ c ∈ r,qY 6 9 c=true:=zA (enc:=zF) (fun _=>rfl) rfl _ _);(have lowG:∀ r ∈ ed m v0 g0 g0.zt 4,∀ c ∈ r,qY 6 9 c=true:=zA (enc:=zE) (fun _=>rfl) rfl _ _)
 have lowE:∀ r ∈ u7 m g0 e0 e0.head 5 e0.zg,∀ c ∈ r,qY 6 9 c=true:=zA (enc:=zx) (fun _=>rfl) rfl _ _;have ge:(u7 m g0 e0 e0.head 5 e0.zg)[m.end_.toNat]?= some ([U e0.head,C.sl 5 [] 1 0 e0.next.length false,I e0.zg]):=dS tK;have hv2:lJ w { m with pc:=9 } v0 g0:=⟨hv.pv,hv.lv,hv.pg,hv.lg,hv.pe,hv.le⟩;refine aa func149 ?_;refine .inl ⟨⟨true,[],[],[8]⟩,au,uH ?_⟩;refine zX [] [⟨1,37,8,[(eR w 2)],0⟩,⟨1,69,44,[zD (m)],0⟩,⟨1,0,5,eh w m v0 3,0⟩,⟨1,0,2,ed m v0 g0 g0.zt 4,0⟩,⟨1,0,3,u7 m g0 e0 e0.head 5 e0.zg,0⟩,⟨2,3,1,e0.next.map encI,0⟩,⟨1,213,2,[tj],0⟩,⟨1,48,23,[zR qA],0⟩] (rx:=.u1 [U (Slp.qV m.word m.link),I 0]) (Slp.EY m.word m.link hw l0 l1) rfl rfl rfl rfl rfl (zc rfl (zc rfl (zc (zj ownV) (zc (zj ownG) (zc (zj ownE) rfl))))) rfl rfl (dd ?_);refine .inl ⟨⟨true,[],[],[1]⟩,au,uH ?_⟩;refine zX [0,1,2,3,4,5] [⟨1,37,8,[(eR w 2)],0⟩,⟨1,69,44,[zD (m)],0⟩,⟨1,0,5,eh w m v0 3,0⟩,⟨1,0,2,ed m v0 g0 g0.zt 4,0⟩,⟨1,0,3,u7 m g0 e0 e0.head 5 e0.zg,0⟩,⟨2,3,1,e0.next.map encI,0⟩,⟨1,213,2,[tj],0⟩,⟨1,48,23,[zR qA],0⟩] (rx:=.ref 4 [] 3 m.end_.toNat 0) (vx w m v0 g0 e0 hv) (zc rfl (zc rfl (zc (zj ownV) (zc (zj ownG) (zc (zj ownE) rfl))))) uT rfl rfl rfl (zc rfl (zc rfl (zc (zj ownV) (zc (zj ownG) (zc (zj ownE) rfl))))) uU rfl (dd ?_);refine ⟨_,ge,cA,dd ?_⟩;refine ⟨fun _=>dd ?_,fun h=>absurd h (aq hne)⟩;refine .inl ⟨⟨true,[],[],[2,6,7]⟩,au,uH ?_⟩;refine zX [0,1,2,3,4,5] [⟨1,37,8,[(eR w 2)],0⟩,⟨1,69,44,[zD ({ m with pc:=9 })],0⟩,⟨1,0,5,eh w m v0 3,0⟩,⟨1,0,2,ed m v0 g0 g0.zt 4,0⟩,⟨1,0,3,u7 m g0 e0 e0.head 5 e0.zg,0⟩,⟨2,3,1,e0.next.map encI,0⟩,⟨1,213,2,[tj],0⟩,⟨1,48,23,[zR qA],0⟩] (rx:=.ref 4 [] 3 m.end_.toNat 0) (vx w _ v0 g0 e0 hv2) (zc rfl (zc rfl (zc (zj ownV) (zc (zj ownG) (zc (zj ownE) rfl))))) uT rfl rfl rfl (zc rfl (zc rfl (zc (zj ownV) (zc (zj ownG) (zc (zj ownE) rfl))))) uU rfl (dd ?_);refine ⟨_,ge,cA,dd ?_⟩;refine zX [] [⟨1,37,8,[(eR w 2)],0⟩,⟨1,69,44,[zD ({ m with pc:=9 })],0⟩,⟨1,0,5,eh w m v0 3,0⟩,⟨1,0,2,ed m v0 g0 g0.zt 4,0⟩,⟨1,0,3,u7 m g0 e0 e0.head 5 e0.zg,0⟩,⟨2,3,1,e0.next.map encI,0⟩,⟨1,213,2,[tj],0⟩,⟨1,48,23,[zR qA],0⟩] (rx:=I (e0.head % 4294967296 - 1)) (Slp.qG e0.head hh) rfl rfl rfl rfl rfl (zc rfl (zc rfl (zc (zj ownV) (zc (zj ownG) (zc (zj ownE) rfl))))) rfl rfl (dd ?_);refine zX [0,1,2,3,4,5] [⟨1,37,8,[(eR w 2)],0⟩,⟨1,69,44,[zD ({ m with pc:=9 })],0⟩,⟨1,0,5,eh w m v0 3,0⟩,⟨1,0,2,ed m v0 g0 g0.zt 4,0⟩,⟨1,0,3,u7 m g0 e0 e0.head 5 e0.zg,0⟩,⟨2,3,1,e0.next.map encI,0⟩,⟨1,213,2,[tj],0⟩,⟨1,48,23,[zR qA],0⟩] (rx:=Ce (fi m v0 5 8 (e0.head % 4294967296 - 1))) (EZ w m v0 g0 e0 hv m.end_ 9 5 8 (e0.head % 4294967296 - 1)) (zc rfl (zc rfl (zc (zj ownV) (zc (zj ownG) (zc (zj ownE) rfl))))) uT rfl rfl rfl (zc rfl (zc rfl (zc (zj ownV) (zc (zj ownG) (zc (zj ownE) rfl))))) uU rfl (dd ?_);exact cJ
def Nh (w:Wor) (m:uw) (v0:u3) (g0:Gr) (e0:En) (hv:lJ w m v0 g0) (hw:u64 m.word) (l0: -1<=m.link) (l1:m.link<=2147483646) (hne:e0.head=m.word):
  tn 149 [⟨1,37,8,[(eR w 2)],0⟩,⟨1,69,44,[zD (m)],0⟩,⟨1,0,5,eh w m v0 3,0⟩,⟨1,0,2,ed m v0 g0 g0.zt 4,0⟩,⟨1,0,3,u7 m g0 e0 e0.head 5 e0.zg,0⟩,⟨2,3,1,e0.next.map encI,0⟩] [.agg tj] (Ce (fi m v0 4 8 m.slot)) [⟨1,37,8,[(eR w 2)],0⟩,⟨1,69,44,[zD ({ m with pc:=12 })],0⟩,⟨1,0,5,eh w m v0 3,0⟩,⟨1,0,2,ed m v0 g0 g0.zt 4,0⟩,⟨1,0,3,u7 m g0 e0 (Slp.qV m.word m.link) 5 e0.zg,0⟩,⟨2,3,1,e0.next.map encI,0⟩]:=by
 (have le:=hv.le);(have ownV:∀ r ∈ eh w m v0 3,∀ c ∈ r,zy c=true:=zA (enc:=zF) (fun _=>rfl) rfl _ _);(have ownG:∀ r ∈ ed m v0 g0 g0.zt 4,∀ c ∈ r,zy c=true:=zA (enc:=zE) (fun _=>rfl) rfl _ _);(have ownE:∀ r ∈ u7 m g0 e0 e0.head 5 e0.zg,∀ c ∈ r,zy c=true:=zA (enc:=zx) (fun _=>rfl) rfl _ _);(have lowV:∀ r ∈ eh w m v0 3,∀ c ∈ r,qY 6 9 c=true:=zA (enc:=zF) (fun _=>rfl) rfl _ _);(have lowG:∀ r ∈ ed m v0 g0 g0.zt 4,∀ c ∈ r,qY 6 9 c=true:=zA (enc:=zE) (fun _=>rfl) rfl _ _)
 have lowE:∀ r ∈ u7 m g0 e0 (Slp.qV m.word m.link) 5 e0.zg,∀ c ∈ r,qY 6 9 c=true:=zA (enc:=zx) (fun _=>rfl) rfl _ _;have ownE2:∀ r ∈ u7 m g0 e0 (Slp.qV m.word m.link) 5 e0.zg,∀ c ∈ r,zy c=true:=zA (enc:=zx) (fun _=>rfl) rfl _ _;have ge:(u7 m g0 e0 e0.head 5 e0.zg)[m.end_.toNat]?= some ([U e0.head,C.sl 5 [] 1 0 e0.next.length false,I e0.zg]):=dS tK;refine aa func149 ?_;refine .inl ⟨⟨true,[],[],[8]⟩,au,uH ?_⟩;refine zX [] [⟨1,37,8,[(eR w 2)],0⟩,⟨1,69,44,[zD (m)],0⟩,⟨1,0,5,eh w m v0 3,0⟩,⟨1,0,2,ed m v0 g0 g0.zt 4,0⟩,⟨1,0,3,u7 m g0 e0 e0.head 5 e0.zg,0⟩,⟨2,3,1,e0.next.map encI,0⟩,⟨1,213,2,[tj],0⟩,⟨1,48,23,[zR qA],0⟩] (rx:=.u1 [U (Slp.qV m.word m.link),I 0]) (Slp.EY m.word m.link hw l0 l1) rfl rfl rfl rfl rfl (zc rfl (zc rfl (zc (zj ownV) (zc (zj ownG) (zc (zj ownE) rfl))))) rfl rfl (dd ?_);refine .inl ⟨⟨true,[],[],[1]⟩,au,uH ?_⟩;refine zX [0,1,2,3,4,5] [⟨1,37,8,[(eR w 2)],0⟩,⟨1,69,44,[zD (m)],0⟩,⟨1,0,5,eh w m v0 3,0⟩,⟨1,0,2,ed m v0 g0 g0.zt 4,0⟩,⟨1,0,3,u7 m g0 e0 e0.head 5 e0.zg,0⟩,⟨2,3,1,e0.next.map encI,0⟩,⟨1,213,2,[tj],0⟩,⟨1,48,23,[zR qA],0⟩] (rx:=.ref 4 [] 3 m.end_.toNat 0) (vx w m v0 g0 e0 hv) (zc rfl (zc rfl (zc (zj ownV) (zc (zj ownG) (zc (zj ownE) rfl))))) uT rfl rfl rfl (zc rfl (zc rfl (zc (zj ownV) (zc (zj ownG) (zc (zj ownE) rfl))))) uU rfl (dd ?_);refine ⟨_,ge,cA,dd ?_⟩;refine ⟨fun h=>absurd h (by simp [hne]),fun _=>dd ?_⟩;refine tc ?_
 refine Dv [0,1,2,3,4,5] [⟨1,37,8,[(eR w 2)],0⟩,⟨1,69,44,[zD (m)],0⟩,⟨1,0,5,eh w m v0 3,0⟩,⟨1,0,2,ed m v0 g0 g0.zt 4,0⟩,⟨1,0,3,u7 m g0 e0 e0.head 5 e0.zg,0⟩,⟨2,3,1,e0.next.map encI,0⟩,⟨1,213,2,[tj],0⟩,⟨1,48,23,[zR qA],0⟩] (rx:=.ref 4 [] 3 m.end_.toNat 0) (vx w m v0 g0 e0 hv) (zc rfl (zc rfl (zc (zj ownV) (zc (zj ownG) (zc (zj ownE) rfl))))) uT rfl rfl rfl (zc rfl (zc rfl (zc (zj ownV) (zc (zj ownG) (zc (zj ownE) rfl))))) uU rfl (dd ?_);refine ⟨_,ge,rfl,dd ?_⟩;rw [gF];refine dd ?_;refine .inl ⟨⟨true,[],[],[5]⟩,au,uH ?_⟩;refine zX [0,1,2,3,4,5] [⟨1,37,8,[(eR w 2)],0⟩,⟨1,69,44,[zD ({ m with pc:=12 })],0⟩,⟨1,0,5,eh w m v0 3,0⟩,⟨1,0,2,ed m v0 g0 g0.zt 4,0⟩,⟨1,0,3,u7 m g0 e0 (Slp.qV m.word m.link) 5 e0.zg,0⟩,⟨2,3,1,e0.next.map encI,0⟩,⟨1,213,2,[tj],0⟩,⟨1,48,23,[zR qA],0⟩] (rx:=Ce (fi m v0 4 8 m.slot)) (EZ w m v0 g0 { e0 with head:=Slp.qV m.word m.link } hv m.end_ 12 4 8 m.slot) (zc rfl (zc rfl (zc (zj ownV) (zc (zj ownG) (zc (zj ownE2) rfl))))) uT rfl rfl rfl (zc rfl (zc rfl (zc (zj ownV) (zc (zj ownG) (zc (zj ownE2) rfl))))) uU rfl (dd ?_);exact cJ
end Go.Wor
namespace Go.Wor
open Go.Ab Go.Proofs Tryz Go.Hy
abbrev nf:C:=.v .nilFunc
abbrev pf (f:FuncId):C:=.fn f [] []
abbrev WZ:List C:=[nf,nf,nf,pf 141,pf 142,pf 143,pf 144,pf 145,pf 146,pf 147,pf 148,pf 149,pf 150,nf,nf,nf,nf,nf,nf,nf,pf 151,pf 152,pf 153,pf 154]
def jn:tn 113 [] [] (.agg WZ) []:=by
 refine ab func113 ?_;exact uI
end Go.Wor
namespace Go.Wor
open Go.Ab Go.Proofs Tryz Go.Hy Go.Gat Go.Nam Go.Hos Go.Con Go.Sna
def TE {w w':Wor} {m m':uw} {e:uz} (sw:qX w) (ok:fe w) (hl:i64 m.listen) (hpc:m.pc=3) (hs:zY w m=true) (h:tn 141 [⟨1,37,8,[zJ w],0⟩,⟨1,69,44,[zD m],0⟩] [.agg tj] (Ce e) [⟨1,37,8,[zJ w'],0⟩,⟨1,69,44,[zD m'],0⟩]):tn 96 [] [Cw w,Cm m] (.u1 [Cw w',Cm m',Ce e]) []:=by
 by_cases hn:m.listen < 0
 all_goals
  refine ab func96 ?_;(repeat (first | refine uA ?_ | refine uB ?_))
  refine ah (zO w m ok hl) ?_;refine ⟨fun _=>dd ?_,fun h=>absurd ((hs).symm.trans h:true=false) ar⟩;refine tc ?_
  (repeat (first | refine uA ?_ | refine uB ?_))
  refine .inl ⟨⟨true,[2],[1],[0]⟩,au,uH ?_⟩;refine ah jn ?_;refine hZ ?_
  (refine ⟨aw,aw,pf 141,cB,dd ?_⟩)
  refine tc ?_
  refine ah (qw w sw) ?_;refine af [5,6] (h) ?_;refine .inl ⟨⟨false,[0,1,2],[5,6,7],[]⟩,au,uH ?_⟩;refine hZ ?_
  exact uI
def TG {w w':Wor} {m m':uw} {e:uz} (sw:qX w) (ok:fe w) (hl:i64 m.listen) (hpc:m.pc=5) (hs:zY w m=true) (hli:0<=m.listen)(h:tn 143 [⟨1,37,8,[zJ w],0⟩,⟨1,69,44,[zD m],0⟩] [.agg tj] (Ce e) [⟨1,37,8,[zJ w'],0⟩,⟨1,69,44,[zD m'],0⟩]):tn 96 [] [Cw w,Cm m] (.u1 [Cw w',Cm m',Ce e]) []:=by
 have hn:¬m.listen < 0:=aw
 all_goals
  refine ab func96 ?_;(repeat (first | refine uA ?_ | refine uB ?_))
  refine ah (zO w m ok hl) ?_;refine ⟨fun _=>dd ?_,fun h=>absurd ((hs).symm.trans h:true=false) ar⟩;refine tc ?_
  (repeat (first | refine uA ?_ | refine uB ?_))
  refine .inl ⟨⟨true,[2],[1],[0]⟩,au,uH ?_⟩;refine ah jn ?_;refine hZ ?_
  (refine ⟨aw,aw,pf 143,cB,dd ?_⟩)
  refine tc ?_
  refine ah (qw w sw) ?_;refine af [5,6] (h) ?_;refine .inl ⟨⟨false,[0,1,2],[5,6,7],[]⟩,au,uH ?_⟩;refine hZ ?_
  exact uI
def TJ {w w':Wor} {m m':uw} {e:uz} (sw:qX w) (ok:fe w) (hl:i64 m.listen) (hpc:m.pc=7) (hs:zY w m=true) (h:tn 145 [⟨1,37,8,[zJ w],0⟩,⟨1,69,44,[zD m],0⟩] [.agg tj] (Ce e) [⟨1,37,8,[zJ w'],0⟩,⟨1,69,44,[zD m'],0⟩]):tn 96 [] [Cw w,Cm m] (.u1 [Cw w',Cm m',Ce e]) []:=by
 by_cases hn:m.listen < 0
 all_goals
  refine ab func96 ?_;(repeat (first | refine uA ?_ | refine uB ?_))
  refine ah (zO w m ok hl) ?_;refine ⟨fun _=>dd ?_,fun h=>absurd ((hs).symm.trans h:true=false) ar⟩;refine tc ?_
  (repeat (first | refine uA ?_ | refine uB ?_))
  refine .inl ⟨⟨true,[2],[1],[0]⟩,au,uH ?_⟩;refine ah jn ?_;refine hZ ?_
  (refine ⟨aw,aw,pf 145,cB,dd ?_⟩)
  refine tc ?_
  refine ah (qw w sw) ?_;refine af [5,6] (h) ?_;refine .inl ⟨⟨false,[0,1,2],[5,6,7],[]⟩,au,uH ?_⟩;refine hZ ?_
  exact uI
def TK {w w':Wor} {m m':uw} {e:uz} (sw:qX w) (ok:fe w) (hl:i64 m.listen) (hpc:m.pc=8) (hs:zY w m=true) (h:tn 146 [⟨1,37,8,[zJ w],0⟩,⟨1,69,44,[zD m],0⟩] [.agg tj] (Ce e) [⟨1,37,8,[zJ w'],0⟩,⟨1,69,44,[zD m'],0⟩]):tn 96 [] [Cw w,Cm m] (.u1 [Cw w',Cm m',Ce e]) []:=by
 by_cases hn:m.listen < 0
 all_goals
  refine ab func96 ?_;(repeat (first | refine uA ?_ | refine uB ?_))
  refine ah (zO w m ok hl) ?_;refine ⟨fun _=>dd ?_,fun h=>absurd ((hs).symm.trans h:true=false) ar⟩;refine tc ?_
  (repeat (first | refine uA ?_ | refine uB ?_))
  refine .inl ⟨⟨true,[2],[1],[0]⟩,au,uH ?_⟩;refine ah jn ?_;refine hZ ?_
  (refine ⟨aw,aw,pf 146,cB,dd ?_⟩)
  refine tc ?_
  refine ah (qw w sw) ?_;refine af [5,6] (h) ?_;refine .inl ⟨⟨false,[0,1,2],[5,6,7],[]⟩,au,uH ?_⟩;refine hZ ?_
  exact uI
def KJ {w w':Wor} {m m':uw} {e:uz} (sw:qX w) (ok:fe w) (hl:i64 m.listen) (hpc:m.pc=9) (hs:zY w m=true) (h:tn 147 [⟨1,37,8,[zJ w],0⟩,⟨1,69,44,[zD m],0⟩] [.agg tj] (Ce e) [⟨1,37,8,[zJ w'],0⟩,⟨1,69,44,[zD m'],0⟩]):tn 96 [] [Cw w,Cm m] (.u1 [Cw w',Cm m',Ce e]) []:=by
 by_cases hn:m.listen < 0
 all_goals
  refine ab func96 ?_;(repeat (first | refine uA ?_ | refine uB ?_))
  refine ah (zO w m ok hl) ?_;refine ⟨fun _=>dd ?_,fun h=>absurd ((hs).symm.trans h:true=false) ar⟩;refine tc ?_
  (repeat (first | refine uA ?_ | refine uB ?_))
  refine .inl ⟨⟨true,[2],[1],[0]⟩,au,uH ?_⟩;refine ah jn ?_;refine hZ ?_
  (refine ⟨aw,aw,pf 147,cB,dd ?_⟩)
  refine tc ?_
  refine ah (qw w sw) ?_;refine af [5,6] (h) ?_;refine .inl ⟨⟨false,[0,1,2],[5,6,7],[]⟩,au,uH ?_⟩;refine hZ ?_
  exact uI
def Sc {w w':Wor} {m m':uw} {e:uz} (sw:qX w) (ok:fe w) (hl:i64 m.listen) (hpc:m.pc=10) (hs:zY w m=true) (h:tn 148 [⟨1,37,8,[zJ w],0⟩,⟨1,69,44,[zD m],0⟩] [.agg tj] (Ce e) [⟨1,37,8,[zJ w'],0⟩,⟨1,69,44,[zD m'],0⟩]):tn 96 [] [Cw w,Cm m] (.u1 [Cw w',Cm m',Ce e]) []:=by
 by_cases hn:m.listen < 0
 all_goals
  refine ab func96 ?_;(repeat (first | refine uA ?_ | refine uB ?_))
  refine ah (zO w m ok hl) ?_;refine ⟨fun _=>dd ?_,fun h=>absurd ((hs).symm.trans h:true=false) ar⟩;refine tc ?_
  (repeat (first | refine uA ?_ | refine uB ?_))
  refine .inl ⟨⟨true,[2],[1],[0]⟩,au,uH ?_⟩;refine ah jn ?_;refine hZ ?_
  (refine ⟨aw,aw,pf 148,cB,dd ?_⟩)
  refine tc ?_
  refine ah (qw w sw) ?_;refine af [5,6] (h) ?_;refine .inl ⟨⟨false,[0,1,2],[5,6,7],[]⟩,au,uH ?_⟩;refine hZ ?_
  exact uI
def Si {w w':Wor} {m m':uw} {e:uz} (sw:qX w) (ok:fe w) (hl:i64 m.listen) (hpc:m.pc=23) (hs:zY w m=true) (h:tn 154 [⟨1,37,8,[zJ w],0⟩,⟨1,69,44,[zD m],0⟩] [.agg tj] (Ce e) [⟨1,37,8,[zJ w'],0⟩,⟨1,69,44,[zD m'],0⟩]):tn 96 [] [Cw w,Cm m] (.u1 [Cw w',Cm m',Ce e]) []:=by
 by_cases hn:m.listen < 0
 all_goals
  refine ab func96 ?_;(repeat (first | refine uA ?_ | refine uB ?_))
  refine ah (zO w m ok hl) ?_;refine ⟨fun _=>dd ?_,fun h=>absurd ((hs).symm.trans h:true=false) ar⟩;refine tc ?_
  (repeat (first | refine uA ?_ | refine uB ?_))
  refine .inl ⟨⟨true,[2],[1],[0]⟩,au,uH ?_⟩;refine ah jn ?_;refine hZ ?_
  (refine ⟨aw,aw,pf 154,cB,dd ?_⟩)
  refine tc ?_
  refine ah (qw w sw) ?_;refine af [5,6] (h) ?_;refine .inl ⟨⟨false,[0,1,2],[5,6,7],[]⟩,au,uH ?_⟩;refine hZ ?_
  exact uI
def EV {w w':Wor} {m m':uw} {e:uz} (h0:0<=m.pc) (h3:m.pc < 3) (h:tn 111 [] [Cw w,Cm m] (.u1 [Cw w',Cm m',Ce e]) []):tn 96 [] [Cw w,Cm m] (.u1 [Cw w',Cm m',Ce e]) []:=by
 refine ab func96 ?_;refine ⟨fun _=>dd ?_,fun h=>absurd h aA⟩;refine ⟨fun _=>dd ?_,fun h=>absurd h aA⟩;refine ah h ?_;exact uI
def TF {w:Wor} {m m':uw} {e:uz} {ls:List eE} (sw:qX w) (ok:fe w) (hl:i64 m.listen) (hpc:m.pc=4) (hs:zY w m=true) (hli:0<=m.listen) (hll:ls.length=w.zd.length) (h:tn 142 [⟨1,37,8,[[I w.zn,I w.current,I w.lock,lI w.pins,lV w.ze,.sl 2 [] 4 0 w.zd.length false,eG w.counts,lR w.zr]],0⟩,⟨1,69,44,[zD m],0⟩,⟨2,85,4,(w.zd).map qH,0⟩] [.agg tj] (Ce e) [⟨1,37,8,[[I w.zn,I w.current,I w.lock,lI w.pins,lV w.ze,.sl 2 [] 4 0 w.zd.length false,eG w.counts,lR w.zr]],0⟩,⟨1,69,44,[zD m'],0⟩,⟨2,85,4,(ls).map qH,0⟩]):tn 96 [] [Cw w,Cm m] (.u1 [Cw { w with zd:=ls },Cm m',Ce e]) []:=by
 have hn:¬m.listen < 0:=aw
 obtain ⟨x,l,hx⟩:∃ x l,w.zd=x::l:=by
  obtain ⟨v,g,e,su⟩:=y3 hs;cases h:w.zd with
  | nil=>have:=su.listen;rw [h] at this;exact cP
  | cons x l=>exact ⟨x,l,rfl⟩
 refine ab func96 ?_;(repeat (first | refine uA ?_ | refine uB ?_))
 refine ah (zO w m ok hl) ?_;refine ⟨fun _=>dd ?_,fun h=>absurd ((hs).symm.trans h:true=false) ar⟩;refine tc ?_
 (repeat (first | refine uA ?_ | refine uB ?_))
 refine .inl ⟨⟨true,[2],[1],[0]⟩,au,uH ?_⟩;refine ah jn ?_;refine hZ ?_
 (refine ⟨aw,aw,pf 142,cB,dd ?_⟩)
 refine tc ?_
 refine af [] (va w sw x l hx) ?_;refine af [6,7,5] (h) ?_;refine .inl ⟨⟨false,[0,1,2],[6,7,8],[]⟩,au,uH ?_⟩;refine hZ ?_
 exact dw
def Sh {w:Wor} {m m':uw} {e:uz} {ls:List eE} (sw:qX w) (ok:fe w) (hl:i64 m.listen) (hpc:m.pc=22) (hs:zY w m=true) (hli:0<=m.listen) (hll:ls.length=w.zd.length) (h:tn 153 [⟨1,37,8,[[I w.zn,I w.current,I w.lock,lI w.pins,lV w.ze,.sl 2 [] 4 0 w.zd.length false,eG w.counts,lR w.zr]],0⟩,⟨1,69,44,[zD m],0⟩,⟨2,85,4,(w.zd).map qH,0⟩] [.agg tj] (Ce e) [⟨1,37,8,[[I w.zn,I w.current,I w.lock,lI w.pins,lV w.ze,.sl 2 [] 4 0 w.zd.length false,eG w.counts,lR w.zr]],0⟩,⟨1,69,44,[zD m'],0⟩,⟨2,85,4,(ls).map qH,0⟩]):tn 96 [] [Cw w,Cm m] (.u1 [Cw { w with zd:=ls },Cm m',Ce e]) []:=by
 have hn:¬m.listen < 0:=aw
 obtain ⟨x,l,hx⟩:∃ x l,w.zd=x::l:=by
  obtain ⟨v,g,e,su⟩:=y3 hs;cases h:w.zd with
  | nil=>have:=su.listen;rw [h] at this;exact cP
  | cons x l=>exact ⟨x,l,rfl⟩
 refine ab func96 ?_;(repeat (first | refine uA ?_ | refine uB ?_))
 refine ah (zO w m ok hl) ?_;refine ⟨fun _=>dd ?_,fun h=>absurd ((hs).symm.trans h:true=false) ar⟩;refine tc ?_
 (repeat (first | refine uA ?_ | refine uB ?_))
 refine .inl ⟨⟨true,[2],[1],[0]⟩,au,uH ?_⟩;refine ah jn ?_;refine hZ ?_
 (refine ⟨aw,aw,pf 153,cB,dd ?_⟩)
 refine tc ?_
 refine af [] (va w sw x l hx) ?_;refine af [6,7,5] (h) ?_;refine .inl ⟨⟨false,[0,1,2],[6,7,8],[]⟩,au,uH ?_⟩;refine hZ ?_
 exact dw
def Sf {w:Wor} {m m':uw} {e:uz} {r0 r1:List Int} (sw:qX w) (ok:fe w) (hl:i64 m.listen) (hpc:m.pc=20) (hs:zY w m=true) (t0:0<=m.zf) (hr:w.counts[m.zf.toNat]?= some r0) (hne:r0≠[]) (hll:r1.length=r0.length)
  (h:tn 151 [⟨1,37,8,[[I w.zn,I w.current,I w.lock,lI w.pins,lV w.ze,lL w.zd,.sl 2 [] 1 0 w.counts.length false,lR w.zr]],0⟩,⟨1,69,44,[zD m],0⟩,⟨1,0,1,(w.counts.map zN).set m.zf.toNat [C.sl (3) [] 1 0 r0.length false],0⟩,⟨2,43,1,(r0).map jH,0⟩] [.agg tj] (Ce e) [⟨1,37,8,[[I w.zn,I w.current,I w.lock,lI w.pins,lV w.ze,lL w.zd,.sl 2 [] 1 0 w.counts.length false,lR w.zr]],0⟩,⟨1,69,44,[zD m'],0⟩,⟨1,0,1,(w.counts.map zN).set m.zf.toNat [C.sl (3) [] 1 0 r0.length false],0⟩,⟨2,43,1,(r1).map jH,0⟩]):tn 96 [] [Cw w,Cm m] (.u1 [Cw { w with counts:=w.counts.set m.zf.toNat r1 },Cm m',Ce e]) []:=by
 have ml:((w.counts.map zN)).length=w.counts.length:=dR ..;have ml1:(r1.map jH).length=r1.length:=dR ..;have ux:m.zf.toNat < w.counts.length:=(dL.1 hr).1;have own:∀ i,∀ r ∈ (w.counts.map zN).set m.zf.toNat ([C.sl i [] 1 0 r0.length false]),∀ c ∈ r,zy c=true:=fun i=>zA (enc:=zN) (fun _=>rfl) rfl _ _
 have gt:((w.counts.map zN).set m.zf.toNat ([C.sl 6 [] 1 0 r0.length false]))[m.zf.toNat]?= some ([C.sl 6 [] 1 0 r0.length false]):=dS (aq ux);have est:(((w.counts.map zN).set m.zf.toNat ([C.sl 6 [] 1 0 r0.length false])).set m.zf.toNat [.uv 0 1 (r1.map jH)])=(w.counts.set m.zf.toNat r1).map zN:=by rw [gF,pM];rfl
 have esh:∀ r ∈ (((w.counts.map zN).set m.zf.toNat ([C.sl 6 [] 1 0 r0.length false])).set m.zf.toNat [.uv 0 1 (r1.map jH)]),∀ c ∈ r,jf c=true∧zy c=true:=by
  rw [est];exact shut_map (enc:=zN) (fun _=>rfl) _
 have hp:D8 w.counts m.zf.toNat r0:=⟨sw.counts,hr,hne⟩;by_cases hn:m.listen < 0
 all_goals
  refine ab func96 ?_;(repeat (first | refine uA ?_ | refine uB ?_))
  refine ah (zO w m ok hl) ?_;refine ⟨fun _=>dd ?_,fun h=>absurd ((hs).symm.trans h:true=false) ar⟩;refine tc ?_
  (repeat (first | refine uA ?_ | refine uB ?_))
  refine .inl ⟨⟨true,[2],[1],[0]⟩,au,uH ?_⟩;refine ah jn ?_;refine hZ ?_
  (refine ⟨aw,aw,pf 151,cB,dd ?_⟩)
  refine tc ?_
  refine zX [] [⟨1,37,8,[zJ w],0⟩,⟨1,69,44,[zD m],0⟩,⟨1,37,8,[fI],0⟩,⟨1,69,44,[fH],0⟩,⟨1,48,23,[zR qA],0⟩,⟨1,0,1,(w.counts.map zN).set m.zf.toNat [C.sl (6) [] 1 0 r0.length false],0⟩,⟨2,43,1,(r0).map jH,0⟩] (rx:=.agg [I w.zn,I w.current,I w.lock,lI w.pins,lV w.ze,lL w.zd,.sl 5 [] 1 0 w.counts.length false,lR w.zr]) (Ir w sw w.counts rfl hp) (zc (zj (own 1)) rfl) rfl rfl rfl rfl rfl tH rfl (dd ?_);refine zX [7,8,5,6] [⟨1,37,8,[zJ w],0⟩,⟨1,69,44,[zD m],0⟩,⟨1,37,8,[fI],0⟩,⟨1,69,44,[fH],0⟩,⟨1,48,23,[zR qA],0⟩,⟨1,0,1,(w.counts.map zN).set m.zf.toNat [C.sl (6) [] 1 0 r0.length false],0⟩,⟨2,43,1,(r1).map jH,0⟩,⟨1,37,8,[[I w.zn,I w.current,I w.lock,lI w.pins,lV w.ze,lL w.zd,.sl 5 [] 1 0 w.counts.length false,lR w.zr]],0⟩,⟨1,69,44,[zD m'],0⟩] (rx:=Ce e) h (zc rfl (zc rfl (zc (zj (own 3)) rfl))) cD rfl rfl rfl (zc rfl (zc rfl (zc rfl (zc rfl (zc rfl (zc (zj (own 6)) rfl)))))) tH rfl (dd ?_);refine .inl ⟨⟨false,[0,1,2],[7,8,9],[]⟩,au,uH ?_⟩;refine hZ ?_
  refine ⟨.inl rfl,_,(zo.zV 5 m.zf.toNat 0 rfl gt rfl rfl (.inr rfl) aj (by rw [ml1,hll]) (shut_map (enc:=jH) (fun _=>rfl) _) (own 6)).trans (zo.zV 2 0 6 rfl rfl rfl rfl (.inl rfl) aj aj esh (z5 rfl)),?_⟩;show _=some (C.u1 [C.agg [I w.zn,I w.current,I w.lock,lI w.pins,lV w.ze,lL w.zd,C.uv 0 1 ((w.counts.set m.zf.toNat r1).map zN),lR w.zr],Cm m',Ce e]);rw [<- est]
  rfl
def Sg {w:Wor} {m m':uw} {e:uz} {r0 r1:List Int} (sw:qX w) (ok:fe w) (hl:i64 m.listen) (hpc:m.pc=21) (hs:zY w m=true) (t0:0<=m.zf) (hr:w.counts[m.zf.toNat]?= some r0) (hne:r0≠[]) (hll:r1.length=r0.length)
  (h:tn 152 [⟨1,37,8,[[I w.zn,I w.current,I w.lock,lI w.pins,lV w.ze,lL w.zd,.sl 2 [] 1 0 w.counts.length false,lR w.zr]],0⟩,⟨1,69,44,[zD m],0⟩,⟨1,0,1,(w.counts.map zN).set m.zf.toNat [C.sl (3) [] 1 0 r0.length false],0⟩,⟨2,43,1,(r0).map jH,0⟩] [.agg tj] (Ce e) [⟨1,37,8,[[I w.zn,I w.current,I w.lock,lI w.pins,lV w.ze,lL w.zd,.sl 2 [] 1 0 w.counts.length false,lR w.zr]],0⟩,⟨1,69,44,[zD m'],0⟩,⟨1,0,1,(w.counts.map zN).set m.zf.toNat [C.sl (3) [] 1 0 r0.length false],0⟩,⟨2,43,1,(r1).map jH,0⟩]):tn 96 [] [Cw w,Cm m] (.u1 [Cw { w with counts:=w.counts.set m.zf.toNat r1 },Cm m',Ce e]) []:=by
 have ml:((w.counts.map zN)).length=w.counts.length:=dR ..;have ml1:(r1.map jH).length=r1.length:=dR ..;have ux:m.zf.toNat < w.counts.length:=(dL.1 hr).1;have own:∀ i,∀ r ∈ (w.counts.map zN).set m.zf.toNat ([C.sl i [] 1 0 r0.length false]),∀ c ∈ r,zy c=true:=fun i=>zA (enc:=zN) (fun _=>rfl) rfl _ _
 have gt:((w.counts.map zN).set m.zf.toNat ([C.sl 6 [] 1 0 r0.length false]))[m.zf.toNat]?= some ([C.sl 6 [] 1 0 r0.length false]):=dS (aq ux);have est:(((w.counts.map zN).set m.zf.toNat ([C.sl 6 [] 1 0 r0.length false])).set m.zf.toNat [.uv 0 1 (r1.map jH)])=(w.counts.set m.zf.toNat r1).map zN:=by rw [gF,pM];rfl
 have esh:∀ r ∈ (((w.counts.map zN).set m.zf.toNat ([C.sl 6 [] 1 0 r0.length false])).set m.zf.toNat [.uv 0 1 (r1.map jH)]),∀ c ∈ r,jf c=true∧zy c=true:=by
  rw [est];exact shut_map (enc:=zN) (fun _=>rfl) _
 have hp:D8 w.counts m.zf.toNat r0:=⟨sw.counts,hr,hne⟩;by_cases hn:m.listen < 0
 all_goals
  refine ab func96 ?_;(repeat (first | refine uA ?_ | refine uB ?_))
  refine ah (zO w m ok hl) ?_;refine ⟨fun _=>dd ?_,fun h=>absurd ((hs).symm.trans h:true=false) ar⟩;refine tc ?_
  (repeat (first | refine uA ?_ | refine uB ?_))
  refine .inl ⟨⟨true,[2],[1],[0]⟩,au,uH ?_⟩;refine ah jn ?_;refine hZ ?_
  (refine ⟨aw,aw,pf 152,cB,dd ?_⟩)
  refine tc ?_
  refine zX [] [⟨1,37,8,[zJ w],0⟩,⟨1,69,44,[zD m],0⟩,⟨1,37,8,[fI],0⟩,⟨1,69,44,[fH],0⟩,⟨1,48,23,[zR qA],0⟩,⟨1,0,1,(w.counts.map zN).set m.zf.toNat [C.sl (6) [] 1 0 r0.length false],0⟩,⟨2,43,1,(r0).map jH,0⟩] (rx:=.agg [I w.zn,I w.current,I w.lock,lI w.pins,lV w.ze,lL w.zd,.sl 5 [] 1 0 w.counts.length false,lR w.zr]) (Ir w sw w.counts rfl hp) (zc (zj (own 1)) rfl) rfl rfl rfl rfl rfl tH rfl (dd ?_);refine zX [7,8,5,6] [⟨1,37,8,[zJ w],0⟩,⟨1,69,44,[zD m],0⟩,⟨1,37,8,[fI],0⟩,⟨1,69,44,[fH],0⟩,⟨1,48,23,[zR qA],0⟩,⟨1,0,1,(w.counts.map zN).set m.zf.toNat [C.sl (6) [] 1 0 r0.length false],0⟩,⟨2,43,1,(r1).map jH,0⟩,⟨1,37,8,[[I w.zn,I w.current,I w.lock,lI w.pins,lV w.ze,lL w.zd,.sl 5 [] 1 0 w.counts.length false,lR w.zr]],0⟩,⟨1,69,44,[zD m'],0⟩] (rx:=Ce e) h (zc rfl (zc rfl (zc (zj (own 3)) rfl))) cD rfl rfl rfl (zc rfl (zc rfl (zc rfl (zc rfl (zc rfl (zc (zj (own 6)) rfl)))))) tH rfl (dd ?_);refine .inl ⟨⟨false,[0,1,2],[7,8,9],[]⟩,au,uH ?_⟩;refine hZ ?_
  refine ⟨.inl rfl,_,(zo.zV 5 m.zf.toNat 0 rfl gt rfl rfl (.inr rfl) aj (by rw [ml1,hll]) (shut_map (enc:=jH) (fun _=>rfl) _) (own 6)).trans (zo.zV 2 0 6 rfl rfl rfl rfl (.inl rfl) aj aj esh (z5 rfl)),?_⟩;show _=some (C.u1 [C.agg [I w.zn,I w.current,I w.lock,lI w.pins,lV w.ze,lL w.zd,C.uv 0 1 ((w.counts.set m.zf.toNat r1).map zN),lR w.zr],Cm m',Ce e]);rw [<- est]
  rfl
def jr {α β:Type} (f:α->β) (l:List α) (i:Nat) (a:α) (r:β) (h:f a=r):(l.map f).set i r=(l.set i a).map f:=by rw [pM,h]
abbrev qt (e0:En) (hd ac:Int):En:={ e0 with head:=hd,zg:=ac }
abbrev yE (m:uw) (g0:Gr) (e0:En) (tk hd ac:Int):Gr:={ g0 with zt:=tk,ends:=g0.ends.set m.end_.toNat (qt e0 hd ac) }
abbrev xk (m:uw) (v0:u3) (g0:Gr) (e0:En) (tk hd ac:Int):u3:={ v0 with zm:=v0.zm.set m.zi.toNat (yE m g0 e0 tk hd ac) }
abbrev wU (w:Wor) (m:uw) (v0:u3) (g0:Gr) (e0:En) (tk hd ac:Int):Wor:={ w with ze:=w.ze.set m.version.toNat (xk m v0 g0 e0 tk hd ac) }
def TH {w:Wor} {m m':uw} {e:uz} {v0:u3} {g0:Gr} {e0:En} {tk hd ac:Int} (sw:qX w) (ok:fe w) (hl:i64 m.listen) (hpc:m.pc=6) (hs:zY w m=true) (hat:fc w m v0 g0 e0) (hne:e0.next≠[])
  (h:tn 144 [⟨1,37,8,[(eR w 2)],0⟩,⟨1,69,44,[zD m],0⟩,⟨1,0,5,eh w m v0 (3),0⟩,⟨1,0,2,ed m v0 g0 (g0.zt) (4),0⟩,⟨1,0,3,u7 m g0 e0 (e0.head) (5) (e0.zg),0⟩,⟨2,3,1,e0.next.map encI,0⟩] [.agg tj] (Ce e) [⟨1,37,8,[(eR w 2)],0⟩,⟨1,69,44,[zD m'],0⟩,⟨1,0,5,eh w m v0 (3),0⟩,⟨1,0,2,ed m v0 g0 (tk) (4),0⟩,⟨1,0,3,u7 m g0 e0 (hd) (5) (ac),0⟩,⟨2,3,1,e0.next.map encI,0⟩]):tn 96 [] [Cw w,Cm m] (.u1 [Cw (wU w m v0 g0 e0 tk hd ac),Cm m',Ce e]) []:=by
 have lv:=hat.ln.lv;have lg:=hat.ln.lg;have le:=hat.ln.le;have fW:=sw.ze.2 v0 (dO hat.at_);have hp:oP w.ze m.version.toNat v0 m.zi.toNat g0 m.end_.toNat e0:=⟨⟨⟨fW.2 g0 (dO hat.ey),hat.eL,hne⟩,fW,hat.ey⟩,sw.ze,hat.at_⟩;have ownV:∀ i,∀ r ∈ eh w m v0 (i),∀ c ∈ r,zy c=true:=fun i=>zA (enc:=zF) (fun _=>rfl) rfl _ _
 have ownG:∀ i t,∀ r ∈ ed m v0 g0 (t) (i),∀ c ∈ r,zy c=true:=fun i t=>zA (enc:=zE) (fun _=>rfl) rfl _ _
 have ownE:∀ i a b,∀ r ∈ u7 m g0 e0 (a) (i) (b),∀ c ∈ r,zy c=true:=fun i a b=>zA (enc:=zx) (fun _=>rfl) rfl _ _
 have gv:(eh w m v0 (6))[m.version.toNat]?= some ((qK v0.snap++[C.sl (6) [] 2 0 v0.zm.length false,Bo v0.qm])):=dS tP;have gg:(ed m v0 g0 (tk) (7))[m.zi.toNat]?= some ([U (tk),C.sl (7) [] 3 0 g0.ends.length false]):=dS tN;have ge:(u7 m g0 e0 (hd) (8) (ac))[m.end_.toNat]?= some ([U (hd),C.sl (8) [] 1 0 e0.next.length false,I (ac)]):=dS tK;have estE:((u7 m g0 e0 (hd) (8) (ac)).set m.end_.toNat [U hd,C.uv 0 1 (e0.next.map encI),I ac])=(g0.ends.set m.end_.toNat (qt e0 hd ac)).map zx:=cF
 have estG:((ed m v0 g0 (tk) (7)).set m.zi.toNat [U tk,C.uv 0 3 (((g0.ends.set m.end_.toNat (qt e0 hd ac)).map zx))])=(v0.zm.set m.zi.toNat (yE m g0 e0 tk hd ac)).map zE:=cG
 have estV:((eh w m v0 (6)).set m.version.toNat (qK v0.snap++[C.uv 0 2 (((v0.zm.set m.zi.toNat (yE m g0 e0 tk hd ac)).map zE)),Bo v0.qm]))=(w.ze.set m.version.toNat (xk m v0 g0 e0 tk hd ac)).map zF:=cH
 have eshE:∀ r ∈ ((u7 m g0 e0 (hd) (8) (ac)).set m.end_.toNat [U hd,C.uv 0 1 (e0.next.map encI),I ac]),∀ c ∈ r,jf c=true∧zy c=true:=by
  exact da
 have eshG:∀ r ∈ ((ed m v0 g0 (tk) (7)).set m.zi.toNat [U tk,C.uv 0 3 ((u7 m g0 e0 (hd) (8) (ac)).set m.end_.toNat [U hd,C.uv 0 1 (e0.next.map encI),I ac])]),∀ c ∈ r,jf c=true∧zy c=true:=by
  exact c6
 have eshV:∀ r ∈ ((eh w m v0 (6)).set m.version.toNat (qK v0.snap++[C.uv 0 2 ((ed m v0 g0 (tk) (7)).set m.zi.toNat [U tk,C.uv 0 3 ((u7 m g0 e0 (hd) (8) (ac)).set m.end_.toNat [U hd,C.uv 0 1 (e0.next.map encI),I ac])]),Bo v0.qm])),∀ c ∈ r,jf c=true∧zy c=true:=by
  exact cY
 by_cases hn:m.listen < 0
 all_goals
  refine ab func96 ?_;(repeat (first | refine uA ?_ | refine uB ?_))
  refine ah (zO w m ok hl) ?_;refine ⟨fun _=>dd ?_,fun h=>absurd ((hs).symm.trans h:true=false) ar⟩;refine tc ?_
  (repeat (first | refine uA ?_ | refine uB ?_))
  refine .inl ⟨⟨true,[2],[1],[0]⟩,au,uH ?_⟩;refine ah jn ?_;refine hZ ?_
  (refine ⟨aw,aw,pf 144,cB,dd ?_⟩)
  refine tc ?_
  refine zX [] [⟨1,37,8,[zJ w],0⟩,⟨1,69,44,[zD m],0⟩,⟨1,37,8,[fI],0⟩,⟨1,69,44,[fH],0⟩,⟨1,48,23,[zR qA],0⟩,⟨1,0,5,eh w m v0 (6),0⟩,⟨1,0,2,ed m v0 g0 (g0.zt) (7),0⟩,⟨1,0,3,u7 m g0 e0 (e0.head) (8) (e0.zg),0⟩,⟨2,3,1,e0.next.map encI,0⟩] (rx:=.agg (eR w 5)) (yF w sw w.ze rfl hp) (zc (zj (ownV 1)) (zc (zj (ownG 2 _)) (zc (zj (ownE 3 _ _)) rfl))) rfl rfl rfl rfl rfl uV rfl (dd ?_);refine zX [9,10,5,6,7,8] [⟨1,37,8,[zJ w],0⟩,⟨1,69,44,[zD m],0⟩,⟨1,37,8,[fI],0⟩,⟨1,69,44,[fH],0⟩,⟨1,48,23,[zR qA],0⟩,⟨1,0,5,eh w m v0 (6),0⟩,⟨1,0,2,ed m v0 g0 (tk) (7),0⟩,⟨1,0,3,u7 m g0 e0 (hd) (8) (ac),0⟩,⟨2,3,1,e0.next.map encI,0⟩,⟨1,37,8,[(eR w 5)],0⟩,⟨1,69,44,[zD m'],0⟩] (rx:=Ce e) h (zc rfl (zc rfl (zc (zj (ownV 3)) (zc (zj (ownG 4 _)) (zc (zj (ownE 5 _ _)) rfl))))) tA rfl rfl rfl (zc rfl (zc rfl (zc rfl (zc rfl (zc rfl (zc (zj (ownV 6)) (zc (zj (ownG 7 _)) (zc (zj (ownE 8 _ _)) rfl)))))))) uV rfl (dd ?_);refine .inl ⟨⟨false,[0,1,2],[9,10,11],[]⟩,au,uH ?_⟩;refine hZ ?_
  refine ⟨.inl rfl,_,(((zo.zV 7 m.end_.toNat 1 rfl ge rfl rfl (.inr rfl) aj aj (shut_map (enc:=encI) (fun _=>rfl) _) (ownE 8 _ _)).trans (zo.zV 6 m.zi.toNat 1 rfl gg rfl rfl (.inl rfl) aj aj eshE (ownG 7 _))).trans (zo.zV 5 m.version.toNat 3 rfl gv rfl rfl (.inl rfl) aj aj eshG (ownV 6))).trans (zo.zV 2 0 4 rfl rfl rfl rfl (.inl rfl) aj aj eshV (z5 rfl)),?_⟩;show _=some (C.u1 [C.agg [I w.zn,I w.current,I w.lock,lI w.pins,C.uv 0 5 ((w.ze.set m.version.toNat (xk m v0 g0 e0 tk hd ac)).map zF),lL w.zd,eG w.counts,lR w.zr],Cm m',Ce e]);rw [<- estV,<- estG,<- estE]
  rfl
def JL {w:Wor} {m m':uw} {e:uz} {v0:u3} {g0:Gr} {e0:En} {tk hd ac:Int} (sw:qX w) (ok:fe w) (hl:i64 m.listen) (hpc:m.pc=11) (hs:zY w m=true) (hat:fc w m v0 g0 e0) (hne:e0.next≠[])
  (h:tn 149 [⟨1,37,8,[(eR w 2)],0⟩,⟨1,69,44,[zD m],0⟩,⟨1,0,5,eh w m v0 (3),0⟩,⟨1,0,2,ed m v0 g0 (g0.zt) (4),0⟩,⟨1,0,3,u7 m g0 e0 (e0.head) (5) (e0.zg),0⟩,⟨2,3,1,e0.next.map encI,0⟩] [.agg tj] (Ce e) [⟨1,37,8,[(eR w 2)],0⟩,⟨1,69,44,[zD m'],0⟩,⟨1,0,5,eh w m v0 (3),0⟩,⟨1,0,2,ed m v0 g0 (tk) (4),0⟩,⟨1,0,3,u7 m g0 e0 (hd) (5) (ac),0⟩,⟨2,3,1,e0.next.map encI,0⟩]):tn 96 [] [Cw w,Cm m] (.u1 [Cw (wU w m v0 g0 e0 tk hd ac),Cm m',Ce e]) []:=by
 have lv:=hat.ln.lv;have lg:=hat.ln.lg;have le:=hat.ln.le;have fW:=sw.ze.2 v0 (dO hat.at_);have hp:oP w.ze m.version.toNat v0 m.zi.toNat g0 m.end_.toNat e0:=⟨⟨⟨fW.2 g0 (dO hat.ey),hat.eL,hne⟩,fW,hat.ey⟩,sw.ze,hat.at_⟩;have ownV:∀ i,∀ r ∈ eh w m v0 (i),∀ c ∈ r,zy c=true:=fun i=>zA (enc:=zF) (fun _=>rfl) rfl _ _
 have ownG:∀ i t,∀ r ∈ ed m v0 g0 (t) (i),∀ c ∈ r,zy c=true:=fun i t=>zA (enc:=zE) (fun _=>rfl) rfl _ _
 have ownE:∀ i a b,∀ r ∈ u7 m g0 e0 (a) (i) (b),∀ c ∈ r,zy c=true:=fun i a b=>zA (enc:=zx) (fun _=>rfl) rfl _ _
 have gv:(eh w m v0 (6))[m.version.toNat]?= some ((qK v0.snap++[C.sl (6) [] 2 0 v0.zm.length false,Bo v0.qm])):=dS tP;have gg:(ed m v0 g0 (tk) (7))[m.zi.toNat]?= some ([U (tk),C.sl (7) [] 3 0 g0.ends.length false]):=dS tN;have ge:(u7 m g0 e0 (hd) (8) (ac))[m.end_.toNat]?= some ([U (hd),C.sl (8) [] 1 0 e0.next.length false,I (ac)]):=dS tK;have estE:((u7 m g0 e0 (hd) (8) (ac)).set m.end_.toNat [U hd,C.uv 0 1 (e0.next.map encI),I ac])=(g0.ends.set m.end_.toNat (qt e0 hd ac)).map zx:=cF
 have estG:((ed m v0 g0 (tk) (7)).set m.zi.toNat [U tk,C.uv 0 3 (((g0.ends.set m.end_.toNat (qt e0 hd ac)).map zx))])=(v0.zm.set m.zi.toNat (yE m g0 e0 tk hd ac)).map zE:=cG
 have estV:((eh w m v0 (6)).set m.version.toNat (qK v0.snap++[C.uv 0 2 (((v0.zm.set m.zi.toNat (yE m g0 e0 tk hd ac)).map zE)),Bo v0.qm]))=(w.ze.set m.version.toNat (xk m v0 g0 e0 tk hd ac)).map zF:=cH
 have eshE:∀ r ∈ ((u7 m g0 e0 (hd) (8) (ac)).set m.end_.toNat [U hd,C.uv 0 1 (e0.next.map encI),I ac]),∀ c ∈ r,jf c=true∧zy c=true:=by
  exact da
 have eshG:∀ r ∈ ((ed m v0 g0 (tk) (7)).set m.zi.toNat [U tk,C.uv 0 3 ((u7 m g0 e0 (hd) (8) (ac)).set m.end_.toNat [U hd,C.uv 0 1 (e0.next.map encI),I ac])]),∀ c ∈ r,jf c=true∧zy c=true:=by
  exact c6
 have eshV:∀ r ∈ ((eh w m v0 (6)).set m.version.toNat (qK v0.snap++[C.uv 0 2 ((ed m v0 g0 (tk) (7)).set m.zi.toNat [U tk,C.uv 0 3 ((u7 m g0 e0 (hd) (8) (ac)).set m.end_.toNat [U hd,C.uv 0 1 (e0.next.map encI),I ac])]),Bo v0.qm])),∀ c ∈ r,jf c=true∧zy c=true:=by
  exact cY
 by_cases hn:m.listen < 0
 all_goals
  refine ab func96 ?_;(repeat (first | refine uA ?_ | refine uB ?_))
  refine ah (zO w m ok hl) ?_;refine ⟨fun _=>dd ?_,fun h=>absurd ((hs).symm.trans h:true=false) ar⟩;refine tc ?_
  (repeat (first | refine uA ?_ | refine uB ?_))
  refine .inl ⟨⟨true,[2],[1],[0]⟩,au,uH ?_⟩;refine ah jn ?_;refine hZ ?_
  (refine ⟨aw,aw,pf 149,cB,dd ?_⟩)
  refine tc ?_
  refine zX [] [⟨1,37,8,[zJ w],0⟩,⟨1,69,44,[zD m],0⟩,⟨1,37,8,[fI],0⟩,⟨1,69,44,[fH],0⟩,⟨1,48,23,[zR qA],0⟩,⟨1,0,5,eh w m v0 (6),0⟩,⟨1,0,2,ed m v0 g0 (g0.zt) (7),0⟩,⟨1,0,3,u7 m g0 e0 (e0.head) (8) (e0.zg),0⟩,⟨2,3,1,e0.next.map encI,0⟩] (rx:=.agg (eR w 5)) (yF w sw w.ze rfl hp) (zc (zj (ownV 1)) (zc (zj (ownG 2 _)) (zc (zj (ownE 3 _ _)) rfl))) rfl rfl rfl rfl rfl uV rfl (dd ?_);refine zX [9,10,5,6,7,8] [⟨1,37,8,[zJ w],0⟩,⟨1,69,44,[zD m],0⟩,⟨1,37,8,[fI],0⟩,⟨1,69,44,[fH],0⟩,⟨1,48,23,[zR qA],0⟩,⟨1,0,5,eh w m v0 (6),0⟩,⟨1,0,2,ed m v0 g0 (tk) (7),0⟩,⟨1,0,3,u7 m g0 e0 (hd) (8) (ac),0⟩,⟨2,3,1,e0.next.map encI,0⟩,⟨1,37,8,[(eR w 5)],0⟩,⟨1,69,44,[zD m'],0⟩] (rx:=Ce e) h (zc rfl (zc rfl (zc (zj (ownV 3)) (zc (zj (ownG 4 _)) (zc (zj (ownE 5 _ _)) rfl))))) tA rfl rfl rfl (zc rfl (zc rfl (zc rfl (zc rfl (zc rfl (zc (zj (ownV 6)) (zc (zj (ownG 7 _)) (zc (zj (ownE 8 _ _)) rfl)))))))) uV rfl (dd ?_);refine .inl ⟨⟨false,[0,1,2],[9,10,11],[]⟩,au,uH ?_⟩;refine hZ ?_
  refine ⟨.inl rfl,_,(((zo.zV 7 m.end_.toNat 1 rfl ge rfl rfl (.inr rfl) aj aj (shut_map (enc:=encI) (fun _=>rfl) _) (ownE 8 _ _)).trans (zo.zV 6 m.zi.toNat 1 rfl gg rfl rfl (.inl rfl) aj aj eshE (ownG 7 _))).trans (zo.zV 5 m.version.toNat 3 rfl gv rfl rfl (.inl rfl) aj aj eshG (ownV 6))).trans (zo.zV 2 0 4 rfl rfl rfl rfl (.inl rfl) aj aj eshV (z5 rfl)),?_⟩;show _=some (C.u1 [C.agg [I w.zn,I w.current,I w.lock,lI w.pins,C.uv 0 5 ((w.ze.set m.version.toNat (xk m v0 g0 e0 tk hd ac)).map zF),lL w.zd,eG w.counts,lR w.zr],Cm m',Ce e]);rw [<- estV,<- estG,<- estE]
  rfl
def Sd {w:Wor} {m m':uw} {e:uz} {v0:u3} {g0:Gr} {e0:En} {tk hd ac:Int} (sw:qX w) (ok:fe w) (hl:i64 m.listen) (hpc:m.pc=12) (hs:zY w m=true) (hat:fc w m v0 g0 e0) (hne:e0.next≠[])
  (h:tn 150 [⟨1,37,8,[(eR w 2)],0⟩,⟨1,69,44,[zD m],0⟩,⟨1,0,5,eh w m v0 (3),0⟩,⟨1,0,2,ed m v0 g0 (g0.zt) (4),0⟩,⟨1,0,3,u7 m g0 e0 (e0.head) (5) (e0.zg),0⟩,⟨2,3,1,e0.next.map encI,0⟩] [.agg tj] (Ce e) [⟨1,37,8,[(eR w 2)],0⟩,⟨1,69,44,[zD m'],0⟩,⟨1,0,5,eh w m v0 (3),0⟩,⟨1,0,2,ed m v0 g0 (tk) (4),0⟩,⟨1,0,3,u7 m g0 e0 (hd) (5) (ac),0⟩,⟨2,3,1,e0.next.map encI,0⟩]):tn 96 [] [Cw w,Cm m] (.u1 [Cw (wU w m v0 g0 e0 tk hd ac),Cm m',Ce e]) []:=by
 have lv:=hat.ln.lv;have lg:=hat.ln.lg;have le:=hat.ln.le;have fW:=sw.ze.2 v0 (dO hat.at_);have hp:oP w.ze m.version.toNat v0 m.zi.toNat g0 m.end_.toNat e0:=⟨⟨⟨fW.2 g0 (dO hat.ey),hat.eL,hne⟩,fW,hat.ey⟩,sw.ze,hat.at_⟩;have ownV:∀ i,∀ r ∈ eh w m v0 (i),∀ c ∈ r,zy c=true:=fun i=>zA (enc:=zF) (fun _=>rfl) rfl _ _
 have ownG:∀ i t,∀ r ∈ ed m v0 g0 (t) (i),∀ c ∈ r,zy c=true:=fun i t=>zA (enc:=zE) (fun _=>rfl) rfl _ _
 have ownE:∀ i a b,∀ r ∈ u7 m g0 e0 (a) (i) (b),∀ c ∈ r,zy c=true:=fun i a b=>zA (enc:=zx) (fun _=>rfl) rfl _ _
 have gv:(eh w m v0 (6))[m.version.toNat]?= some ((qK v0.snap++[C.sl (6) [] 2 0 v0.zm.length false,Bo v0.qm])):=dS tP;have gg:(ed m v0 g0 (tk) (7))[m.zi.toNat]?= some ([U (tk),C.sl (7) [] 3 0 g0.ends.length false]):=dS tN;have ge:(u7 m g0 e0 (hd) (8) (ac))[m.end_.toNat]?= some ([U (hd),C.sl (8) [] 1 0 e0.next.length false,I (ac)]):=dS tK;have estE:((u7 m g0 e0 (hd) (8) (ac)).set m.end_.toNat [U hd,C.uv 0 1 (e0.next.map encI),I ac])=(g0.ends.set m.end_.toNat (qt e0 hd ac)).map zx:=cF
 have estG:((ed m v0 g0 (tk) (7)).set m.zi.toNat [U tk,C.uv 0 3 (((g0.ends.set m.end_.toNat (qt e0 hd ac)).map zx))])=(v0.zm.set m.zi.toNat (yE m g0 e0 tk hd ac)).map zE:=cG
 have estV:((eh w m v0 (6)).set m.version.toNat (qK v0.snap++[C.uv 0 2 (((v0.zm.set m.zi.toNat (yE m g0 e0 tk hd ac)).map zE)),Bo v0.qm]))=(w.ze.set m.version.toNat (xk m v0 g0 e0 tk hd ac)).map zF:=cH
 have eshE:∀ r ∈ ((u7 m g0 e0 (hd) (8) (ac)).set m.end_.toNat [U hd,C.uv 0 1 (e0.next.map encI),I ac]),∀ c ∈ r,jf c=true∧zy c=true:=by
  exact da
 have eshG:∀ r ∈ ((ed m v0 g0 (tk) (7)).set m.zi.toNat [U tk,C.uv 0 3 ((u7 m g0 e0 (hd) (8) (ac)).set m.end_.toNat [U hd,C.uv 0 1 (e0.next.map encI),I ac])]),∀ c ∈ r,jf c=true∧zy c=true:=by
  exact c6
 have eshV:∀ r ∈ ((eh w m v0 (6)).set m.version.toNat (qK v0.snap++[C.uv 0 2 ((ed m v0 g0 (tk) (7)).set m.zi.toNat [U tk,C.uv 0 3 ((u7 m g0 e0 (hd) (8) (ac)).set m.end_.toNat [U hd,C.uv 0 1 (e0.next.map encI),I ac])]),Bo v0.qm])),∀ c ∈ r,jf c=true∧zy c=true:=by
  exact cY
 by_cases hn:m.listen < 0
 all_goals
  refine ab func96 ?_;(repeat (first | refine uA ?_ | refine uB ?_))
  refine ah (zO w m ok hl) ?_;refine ⟨fun _=>dd ?_,fun h=>absurd ((hs).symm.trans h:true=false) ar⟩;refine tc ?_
  (repeat (first | refine uA ?_ | refine uB ?_))
  refine .inl ⟨⟨true,[2],[1],[0]⟩,au,uH ?_⟩;refine ah jn ?_;refine hZ ?_
  (refine ⟨aw,aw,pf 150,cB,dd ?_⟩)
  refine tc ?_
  refine zX [] [⟨1,37,8,[zJ w],0⟩,⟨1,69,44,[zD m],0⟩,⟨1,37,8,[fI],0⟩,⟨1,69,44,[fH],0⟩,⟨1,48,23,[zR qA],0⟩,⟨1,0,5,eh w m v0 (6),0⟩,⟨1,0,2,ed m v0 g0 (g0.zt) (7),0⟩,⟨1,0,3,u7 m g0 e0 (e0.head) (8) (e0.zg),0⟩,⟨2,3,1,e0.next.map encI,0⟩] (rx:=.agg (eR w 5)) (yF w sw w.ze rfl hp) (zc (zj (ownV 1)) (zc (zj (ownG 2 _)) (zc (zj (ownE 3 _ _)) rfl))) rfl rfl rfl rfl rfl uV rfl (dd ?_);refine zX [9,10,5,6,7,8] [⟨1,37,8,[zJ w],0⟩,⟨1,69,44,[zD m],0⟩,⟨1,37,8,[fI],0⟩,⟨1,69,44,[fH],0⟩,⟨1,48,23,[zR qA],0⟩,⟨1,0,5,eh w m v0 (6),0⟩,⟨1,0,2,ed m v0 g0 (tk) (7),0⟩,⟨1,0,3,u7 m g0 e0 (hd) (8) (ac),0⟩,⟨2,3,1,e0.next.map encI,0⟩,⟨1,37,8,[(eR w 5)],0⟩,⟨1,69,44,[zD m'],0⟩] (rx:=Ce e) h (zc rfl (zc rfl (zc (zj (ownV 3)) (zc (zj (ownG 4 _)) (zc (zj (ownE 5 _ _)) rfl))))) tA rfl rfl rfl (zc rfl (zc rfl (zc rfl (zc rfl (zc rfl (zc (zj (ownV 6)) (zc (zj (ownG 7 _)) (zc (zj (ownE 8 _ _)) rfl)))))))) uV rfl (dd ?_);refine .inl ⟨⟨false,[0,1,2],[9,10,11],[]⟩,au,uH ?_⟩;refine hZ ?_
  refine ⟨.inl rfl,_,(((zo.zV 7 m.end_.toNat 1 rfl ge rfl rfl (.inr rfl) aj aj (shut_map (enc:=encI) (fun _=>rfl) _) (ownE 8 _ _)).trans (zo.zV 6 m.zi.toNat 1 rfl gg rfl rfl (.inl rfl) aj aj eshE (ownG 7 _))).trans (zo.zV 5 m.version.toNat 3 rfl gv rfl rfl (.inl rfl) aj aj eshG (ownV 6))).trans (zo.zV 2 0 4 rfl rfl rfl rfl (.inl rfl) aj aj eshV (z5 rfl)),?_⟩;show _=some (C.u1 [C.agg [I w.zn,I w.current,I w.lock,lI w.pins,C.uv 0 5 ((w.ze.set m.version.toNat (xk m v0 g0 e0 tk hd ac)).map zF),lL w.zd,eG w.counts,lR w.zr],Cm m',Ce e]);rw [<- estV,<- estG,<- estE]
  rfl
end Go.Wor
