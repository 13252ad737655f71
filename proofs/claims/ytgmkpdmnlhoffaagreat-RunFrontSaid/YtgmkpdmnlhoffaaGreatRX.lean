import Derived.Test.YtgmkpdmnlhoffaaGreatRW
import Derived.Test.YtgmkpdmnlhoffaaGreatRV
set_option linter.all false
set_option maxRecDepth 100000
set_option maxHeartbeats 4000000
namespace Go.Wor
open Go.Ab Go.Proofs Go.Hy Go.Gat Go.Nam Go.Hos Go.Con Go.Sna
abbrev lvM (w:Wor) (m:Mac):Mac:={ m with version:=w.current,zf:=0,end_:=0,other:=0,slot:=0,listen:=z7 w.zd m.op.listen,pc:=4 }
abbrev ptE (e:Eve):Eve:={ e with jq:=true }
theorem zc7 (w:Wor) (m:Mac) (hl:w.zd.length < 4611686018427387904):
  zb Tryz.prog 258 [⟨1,28,8,[zJ w],0⟩,⟨1,97,44,[zD (m)],0⟩] [.agg [.ref 0 [] 8 0 0,.ref 1 [] 44 0 0]] (Ce (ptE (evO m 1 3 w.current))) [⟨1,28,8,[zJ w],0⟩,⟨1,97,44,[zD (if z7 w.zd m.op.listen < 0 then wu (lvM w m) 2 else lvM w m)],0⟩]:=by
 refine z6 (fn:=Tryz.f258) Tryz.func258 rfl (Nat.le_refl _) (uH ?_);refine .inr ⟨⟨[0,2,5,6],[0,1,2],true⟩,by kernel_rfl,fun _=>rfl,_,uH ?_,fun t2 H2 h=>h⟩;refine ⟨_,zb.blind [1] (jb m 1 3 w.current) rfl rfl rfl rfl rfl rfl rfl (fun _=>rfl) (fun _=>rfl),uH ?_⟩;(refine ⟨uH ?_,trivial⟩);(repeat (refine ⟨rfl,uH ?_⟩))
 (refine ⟨uH ?_,trivial⟩);(repeat (refine ⟨rfl,uH ?_⟩))
 (refine ⟨_,_,.refl _,uH ?_⟩)
 refine .inl ⟨⟨true,[],[],[12]⟩,by kernel_rfl,uH ?_⟩;refine ⟨_,_,(k8 w.zd m.op.listen hl).frame rfl _,dd ?_⟩;repeat (refine ⟨rfl,uH ?_⟩)
 refine ⟨fun h1=>?_,fun h1=>?_⟩
 ·have e1:z7 w.zd m.op.listen < 0:=by simpa using h1
  rw [if_pos e1];refine dd ?_;refine zq [1] (yu (lvM w m) 2) rfl rfl rfl rfl rfl rfl (dd ?_);exact ⟨.inl rfl,_,_,.refl _,rfl,cE 2⟩
 ·have e1:¬z7 w.zd m.op.listen < 0:=by simpa using h1
  rw [if_neg e1];refine dd ?_;exact ⟨.inl rfl,_,_,.refl _,rfl,cE 2⟩
theorem zkA (w:Wor) (m:Mac) (sw:qR w) (ok:OkW w) (hl:i64 m.listen) (hs:zW w m=true):
  zb Tryz.prog 271 [⟨1,28,8,[zJ (w)],0⟩,⟨1,97,44,[zD (m)],0⟩] [.agg [.ref 0 [] 8 0 0,.ref 1 [] 44 0 0]] (Ce { zqg m with done:=true,answer:=m.answer }) [⟨1,28,8,[zJ (zgg w m.zj.toNat 0)],0⟩,⟨1,97,44,[zD ({ m with done:=true })],0⟩]:=by
 refine z6 (fn:=Tryz.f271) Tryz.func271 rfl (Nat.le_refl _) (uH ?_);refine .inr ⟨⟨[1,3,5,7,8],[0,1,2],true⟩,by kernel_rfl,fun _=>rfl,fun t H=>t=(.za::.ref 2 [] 2 0 0::.ref 3 [] 23 0 0::.ref 4 [] 8 0 0::.ref 5 [] 23 0 0::tY (tY (tY ([.za,.za,.za,.za]))))∧H=[⟨1,28,8,[zJ (w)],0⟩,⟨1,97,44,[zD (m)],0⟩,⟨1,256,2,[[.ref 0 [] 8 0 0,.ref 1 [] 44 0 0]],0⟩,⟨1,62,23,[zQ (qu)],0⟩,⟨1,28,8,[zJ (zgg w m.zj.toNat 0)],0⟩,⟨1,62,23,[zQ (zqg m)],0⟩],?_,?_⟩
 ·conv=>whnf
  refine ⟨_,zb.blind [] (zow w m sw ok hl hs) rfl rfl rfl rfl rfl rfl rfl (fun _=>rfl) (fun _=>rfl),uH ?_⟩;repeat' (first | (exact trivial) | (refine ⟨rfl,uH ?_⟩) | (exact ⟨_,_,zo.ren [0,1,2,3,4,5] [1,2,3,4] _ _ rfl rfl rfl rfl,rfl,rfl⟩) | (exact ⟨_,_,zo.ren [0,1,2,3,5,4] [1,2,3,4] _ _ rfl rfl rfl rfl,rfl,rfl⟩) | (refine And.intro ?_ ?_ <;> (conv=>whnf)))
 rintro _ _ ⟨rfl,rfl⟩;conv=>whnf
 refine .inr ⟨⟨[1,3],[2],true⟩,by kernel_rfl,fun _=>rfl,fun t H=>t=(.za::.ref 2 [] 2 0 0::.ref 3 [] 23 0 0::.za::.ref 5 [] 23 0 0::tY (tY (tY ([.za,.za,.za,.za]))))∧H=[⟨1,28,8,[zJ (zgg w m.zj.toNat 0)],0⟩,⟨1,97,44,[zD ({ m with done:=true })],0⟩,⟨1,256,2,[[.ref 0 [] 8 0 0,.ref 1 [] 44 0 0]],0⟩,⟨1,62,23,[zQ (qu)],0⟩,⟨1,28,8,[zJ (zgg w m.zj.toNat 0)],0⟩,⟨1,62,23,[zQ ({ zqg m with done:=true,answer:=m.answer })],0⟩],?_,?_⟩
 ·conv=>whnf
  repeat' (first | (exact trivial) | (refine ⟨rfl,uH ?_⟩) | (exact ⟨_,_,zo.mask [1,2,4] _ _,rfl,rfl⟩) | (refine And.intro ?_ ?_ <;> (conv=>whnf)))
 rintro _ _ ⟨rfl,rfl⟩;conv=>whnf
 exact ⟨.inl rfl,_,_,.refl _,rfl,cE 2⟩
def xM (c:Clu) (d:Int):Int:=((hlt c)[(d % (hlt c).length).toNat]?).getD 0
def yp (c:Clu) (d0 d1:Int):Int × Int × Int:=if (hlt c).length=0 then (0,0,5) else (xM c d0,xM c d1,0)
theorem zog {d:Int} {n:Nat} (hd:i64 d) (hn:0 < n) (hm:n < 1000000000000):IntKind.i64.wrap (d.tmod n+n)=d.tmod n+n∧(d.tmod n+n).tmod n=d % n:=by
 have h1:=Int.tmod_lt_of_pos d (show (0:Int) < n by omega);have h2:=Int.lt_tmod_of_pos d (show (0:Int) < n by omega);refine ⟨q0 (by omega) (by omega),?_⟩;rw [Int.tmod_eq_emod_of_nonneg (by omega),Int.add_emod_right];rw [Int.tmod_def,Int.sub_mul_emod_self_left]
theorem zj3 {c:Clu} {d:Int} (hd:i64 d) (hn:0 < (hlt c).length) (hm:(hlt c).length < 1000000000000) {n:Nat} (e:n=(hlt c).length):
  0<=(IntKind.i64.wrap (d.tmod n+n)).tmod n∧((hlt c).map encI)[((IntKind.i64.wrap (d.tmod n+n)).tmod n).toNat]?= some [I (xM c d)]:=by
 subst e;obtain ⟨e1,e2⟩:=zog hd hn hm;rw [e1,e2];have h0:(0:Int) < (hlt c).length:=by omega
 have h1:=Int.emod_nonneg d (show ((hlt c).length:Int)≠0 by omega);have h2:=Int.emod_lt_of_pos d h0;refine ⟨h1,?_⟩;have hi:(hlt c)[(d % ((hlt c).length:Int)).toNat]?= some ((hlt c)[(d % ((hlt c).length:Int)).toNat]'(by omega)):=List.getElem?_eq_getElem _;unfold xM;rw [List.getElem?_map,hi]
 rfl
theorem zk7 (c:Clu) (d0 d1:Int) (h0:i64 d0) (h1:i64 d1) (hl:c.zR.length < 1000000000000) (hh:(hlt c).length<=c.zR.length):zb Tryz.prog 316 [] [Cc c,I d0,I d1] (.tup [I (yp c d0 d1).1,I (yp c d0 d1).2.1,I (yp c d0 d1).2.2]) []:=by
 have ml:((hlt c).map encI).length=(hlt c).length:=List.length_map ..;refine zb.zp (fn:=Tryz.f316) Tryz.func316 rfl (uH ?_);refine ⟨_,_,(wE c hl).frame rfl _,dd ?_⟩;rw [ml];refine ⟨fun hz=>?_,fun hz=>?_⟩
 ·unfold yp;have hz:=of_decide_eq_true hz;rw [if_pos (by omega)];refine dd ?_;exact uI
 ·unfold yp;have hz:=of_decide_eq_false hz;rw [if_neg (by omega)];refine dd ?_;have hw:(((hlt c).length:Nat):Int)≠0:=by omega
  refine zcA.ofN 3 (LoopN.step ?_);conv=>whnf
  (repeat refine uC ?_)
  (refine ⟨by decide,by decide,dd ?_⟩)
  split;(rotate_left;(rename_i hno;exact (hno _ (xJ rfl rfl rfl hw)).elim));(rename_i v e;cases e.symm.trans (xJ rfl rfl rfl hw));refine dd ?_
  split;(rotate_left;(rename_i hno;exact (hno _ (xJ rfl rfl rfl hw)).elim));(rename_i v e;cases e.symm.trans (xJ rfl rfl rfl hw));refine dd ?_
  obtain ⟨p0,p1⟩:=zj3 h0 (c:=c) (by omega) (by omega) rfl;refine ⟨p0,_,p1,dd ?_⟩;(refine ⟨by decide,by decide,dd ?_⟩)
  refine .inl ⟨rfl,LoopN.step (uH ?_)⟩;(repeat refine uC ?_)
  (refine ⟨by decide,by decide,dd ?_⟩)
  split;(rotate_left;(rename_i hno;exact (hno _ (xJ rfl rfl rfl hw)).elim));(rename_i v e;cases e.symm.trans (xJ rfl rfl rfl hw));refine dd ?_
  split;(rotate_left;(rename_i hno;exact (hno _ (xJ rfl rfl rfl hw)).elim));(rename_i v e;cases e.symm.trans (xJ rfl rfl rfl hw));refine dd ?_
  obtain ⟨p2,p3⟩:=zj3 h1 (c:=c) (by omega) (by omega) rfl;refine ⟨p2,_,p3,dd ?_⟩;(refine ⟨by decide,by decide,dd ?_⟩)
  refine .inl ⟨rfl,LoopN.step (uH ?_)⟩;(repeat refine uC ?_)
  refine .inr ⟨by simp,uH ?_⟩;refine uE ?_;(refine ⟨by decide,by decide,dd ?_⟩)
  (refine ⟨by decide,by decide,dd ?_⟩)
  exact uI
abbrev j7 (m:Mac) (v:Ver):Int × Int:=w9 v.snap m.op.listen m.op.host m.op.path
def yA (m:Mac) (v:Ver):Mac:=if (j7 m v).2≠0 then wu m 2 else match v.snap.zl[(j7 m v).1.toNat]? with
 | none=>m
 | some c=>if (yp c m.op.d0 m.op.d1).2.2≠0 then wu { m with zf:=(j7 m v).1 } 3
  else if c.xp=1 then { m with zf:=(j7 m v).1,pc:=6 }
  else { m with zf:=(j7 m v).1,end_:=(yp c m.op.d0 m.op.d1).1,other:=(yp c m.op.d0 m.op.d1).2.1,pc:=7 }
structure OkR (m:Mac) (v:Ver):Prop where
 small:zpa v.snap
 host:m.op.host.length < 1000000000000
 path:m.op.path.length < 1000000000000
 d0:i64 m.op.d0
 d1:i64 m.op.d1
 zuj:(j7 m v).2=0->0<=(j7 m v).1∧∃ c,v.snap.zl[(j7 m v).1.toNat]?= some c∧c.zR.length < 1000000000000
theorem zpZ (c:Clu):(hlt c).length<=c.zR.length:=zc2 c.zR c.zR.length
theorem zhM {m:Mac} {v:Ver} (h:(j7 m v).2≠0):yA m v=wu m 2:=if_pos h
theorem zeE {m:Mac} {v:Ver} {c:Clu} (h:(j7 m v).2=0) (hc:v.snap.zl[(j7 m v).1.toNat]?= some c) (hd:(yp c m.op.d0 m.op.d1).2.2≠0):yA m v=wu { m with zf:=(j7 m v).1 } 3:=by
 unfold yA;rw [if_neg (by omega),hc];exact if_pos hd
theorem zgo {m:Mac} {v:Ver} {c:Clu} (h:(j7 m v).2=0) (hc:v.snap.zl[(j7 m v).1.toNat]?= some c) (hd:(yp c m.op.d0 m.op.d1).2.2=0) (hp:c.xp=1):yA m v={ m with zf:=(j7 m v).1,pc:=6 }:=by
 unfold yA;rw [if_neg (by omega),hc];exact (if_neg (by omega)).trans (if_pos hp)
theorem zgp {m:Mac} {v:Ver} {c:Clu} (h:(j7 m v).2=0) (hc:v.snap.zl[(j7 m v).1.toNat]?= some c) (hd:(yp c m.op.d0 m.op.d1).2.2=0) (hp:c.xp≠1):
  yA m v={ m with zf:=(j7 m v).1,end_:=(yp c m.op.d0 m.op.d1).1,other:=(yp c m.op.d0 m.op.d1).2.1,pc:=7 }:=by
 unfold yA;rw [if_neg (by omega),hc];exact (if_neg (by omega)).trans (if_neg hp)
theorem zj8 (w:Wor) (m:Mac) (v:Ver) (hv:AtV w m v) (h:OkR m v):zb Tryz.prog 299 [⟨1,28,8,[zJ w],0⟩,⟨1,97,44,[zD (m)],0⟩] [.agg [.ref 0 [] 8 0 0,.ref 1 [] 44 0 0]] (.tup []) [⟨1,28,8,[zJ w],0⟩,⟨1,97,44,[zD (yA m v)],0⟩]:=by
 have h0:=hv.v0;have hr:=hv.row;refine z6 (fn:=Tryz.f299) Tryz.func299 rfl (Nat.le_refl _) (uH ?_);refine uE ?_;(refine ⟨h0,_,hr,dd ?_⟩)
 refine ⟨_,_,(zll v.snap m.op.listen m.op.host m.op.path h.small h.host h.path).frame rfl _,dd ?_⟩;refine ⟨fun h1=>?_,fun h1=>?_⟩
 ·have h2:(j7 m v).2≠0:=by simpa using h1
  rw [zhM h2];refine dd ?_;refine zq [1] (yu m 2) rfl rfl rfl rfl rfl rfl (dd ?_);exact ⟨.inl rfl,_,_,.refl _,rfl,cE 2⟩
 ·have h2:(j7 m v).2=0:=by simpa using h1
  obtain ⟨g0,c,hc,hcl⟩:=h.zuj h2;refine dd ?_;refine .inr ⟨⟨[0,1,6,11,12],[0,1,2],true⟩,by kernel_rfl,fun _=>rfl,_,uH ?_,fun t2 H2 h=>h⟩;refine ⟨_,zb.blind [0,1] (vj w { m with zf:=(j7 m v).1 } v c ⟨hv.v0,hv.at_⟩ g0 hc) rfl rfl rfl rfl rfl rfl rfl (fun _=>rfl) (fun _=>rfl),uH ?_⟩;refine ⟨_,zb.blind [] (zk7 c m.op.d0 m.op.d1 h.d0 h.d1 hcl (zpZ c)) rfl rfl rfl rfl rfl rfl rfl (fun _=>rfl) (fun _=>rfl),uH ?_⟩;(refine ⟨_,_,.refl _,uH ?_⟩)
  refine ⟨fun h3=>?_,fun h3=>?_⟩
  ·have h4:(yp c m.op.d0 m.op.d1).2.2≠0:=by simpa using h3
   rw [zeE h2 hc h4];refine dd ?_;refine zq [1] (yu { m with zf:=(j7 m v).1 } 3) rfl rfl rfl rfl rfl rfl (dd ?_);exact ⟨.inr rfl,_,_,.refl _,rfl,cE 2⟩
  ·have h4:(yp c m.op.d0 m.op.d1).2.2=0:=by simpa using h3
   refine dd ?_;refine zq [0,1] (vj w { m with zf:=(j7 m v).1 } v c ⟨hv.v0,hv.at_⟩ g0 hc) rfl rfl rfl rfl rfl rfl (dd ?_);refine ⟨fun h5=>?_,fun h5=>?_⟩
   ·have h6:c.xp=1:=by simpa using h5
    rw [zgo h2 hc h4 h6];refine dd ?_;exact ⟨.inr rfl,_,_,.refl _,rfl,cE 2⟩
   ·have h6:c.xp≠1:=by simpa using h5
    rw [zgp h2 hc h4 h6];refine dd ?_;exact ⟨.inr rfl,_,_,.refl _,rfl,cE 2⟩
theorem ze2 (w:Wor) (m:Mac) (v:Ver) (hv:AtV w m v) (h:OkR m v) {l:Lis} (l0:0<=m.listen) (hl:w.zd[m.listen.toNat]?= some l):
  zb Tryz.prog 260 [⟨1,28,8,[zJ w],0⟩,⟨1,97,44,[zD (m)],0⟩] [.agg [.ref 0 [] 8 0 0,.ref 1 [] 44 0 0]] (Ce (if l.drain then { evO m 1 4 1 with jq:=true } else evO m 1 4 0)) [⟨1,28,8,[zJ w],0⟩,⟨1,97,44,[zD (if l.drain then wu m 5 else yA m v)],0⟩]:=by
 have lr:(w.zd.map qG)[m.listen.toNat]?= some (qG l):=by rw [List.getElem?_map,hl];rfl
 obtain ⟨ln,ld,la,lc⟩:=l;cases ld
 all_goals
  refine z6 (fn:=Tryz.f260) Tryz.func260 rfl (Nat.le_refl _) (uH ?_);refine uE ?_;(refine ⟨l0,_,lr,dd ?_⟩)
 ·(refine ⟨fun h=>absurd (h.symm.trans rfl:true=false) (by decide),fun _=>dd ?_⟩)
  refine zq [0,1] (zj8 w m v hv h) rfl rfl rfl rfl rfl rfl (dd ?_)
  have et:(yA m v).zj=m.zj:=by
   unfold yA;split
   ·rfl
   ·split
    ·rfl
    ·split
     ·rfl
     ·split <;> rfl
  have ee:evO m 1 4 0=evO (yA m v) 1 4 0:=by unfold evO;rw [et]
  have eg:(if ({ name:=ln,drain:=false,zg:=la,closed:=lc }:Lis).drain then { evO m 1 4 1 with jq:=true } else evO m 1 4 0)=evO (yA m v) 1 4 0:=ee;rw [eg];refine zq [1] (jb (yA m v) 1 4 0) rfl rfl rfl rfl rfl rfl (dd ?_);exact ⟨.inl rfl,_,_,.refl _,rfl,cE 2⟩
 ·(refine ⟨fun _=>dd ?_,fun h=>absurd (h.symm.trans rfl:false=true) (by decide)⟩)
  refine zq [1] (jb m 1 4 1) rfl rfl rfl rfl rfl rfl (dd ?_);refine zq [1] (yu m 5) rfl rfl rfl rfl rfl rfl (dd ?_);exact ⟨.inl rfl,_,_,.refl _,rfl,cE 2⟩
theorem zfv (w:Wor) (m:Mac) (v0:Ver) (g0:Gr) (e0:En) (c:Clu) (hv:LnE w m v0 g0) (hc:v0.snap.zl[m.zf.toNat]?= some c):zb Tryz.prog 302 [⟨1,28,8,[(rwW w 2)],0⟩,⟨1,97,44,[zD (m)],0⟩,⟨1,0,5,rwV w m v0 3,0⟩,⟨1,0,2,rwG m v0 g0 g0.zr 4,0⟩,⟨1,0,3,rwE m g0 e0 e0.head 5 e0.zg,0⟩,⟨2,3,1,e0.next.map encI,0⟩] [.agg [.ref 0 [] 8 0 0,.ref 1 [] 44 0 0]] (Cc c) [⟨1,28,8,[(rwW w 2)],0⟩,⟨1,97,44,[zD (m)],0⟩,⟨1,0,5,rwV w m v0 3,0⟩,⟨1,0,2,rwG m v0 g0 g0.zr 4,0⟩,⟨1,0,3,rwE m g0 e0 e0.head 5 e0.zg,0⟩,⟨2,3,1,e0.next.map encI,0⟩]:=by
 have h0:=hv.pv;have g0':=hv.pg;have lv:m.version.toNat < w.ze.length:=hv.lv;have cr:(v0.snap.zl.map jU)[m.zf.toNat]?= some (jU c):=by rw [List.getElem?_map,hc];rfl
 have lowV:∀ r ∈ rwV w m v0 3,∀ c ∈ r,qS 6 9 c=true:=zy (enc:=zI) (fun _=>rfl) rfl _ _;have lowG:∀ r ∈ rwG m v0 g0 g0.zr 4,∀ c ∈ r,qS 6 9 c=true:=zy (enc:=zE) (fun _=>rfl) rfl _ _;have lowE:∀ r ∈ rwE m g0 e0 e0.head 5 e0.zg,∀ c ∈ r,qS 6 9 c=true:=zy (enc:=zu) (fun _=>rfl) rfl _ _;have e1:0+m.version.toNat=m.version.toNat:=Nat.zero_add _;have gv:(rwV w m v0 3)[m.version.toNat]?= some ((qJ v0.snap++[C.sl 3 [] 2 0 v0.zm.length false,Bo v0.qj])):=List.getElem?_set_self tP;refine z6 (fn:=Tryz.f302) Tryz.func302 rfl (Nat.le_refl _) (uH ?_);refine uE ?_;refine ⟨h0,lv,dd ?_⟩;rw [e1];refine ⟨_,gv,(by show 2+1<=5;decide),dd ?_⟩;refine ⟨g0',_,cr,dd ?_⟩;exact ⟨.inl rfl,_,_,.refl _,rfl,zo.xa 6 (by (conv=>whnf);(repeat (refine ⟨rfl,uH ?_⟩));exact trivial) rfl rfl rfl (zH rfl (zH rfl (zH (qc lowV) (zH (qc lowG) (zH (qc lowE) rfl))))) rfl⟩
theorem zco (w:Wor) (m:Mac) (v0:Ver) (g0:Gr) (e0:En) (hv:LnE w m v0 g0) (x p a b c:Int):zb Tryz.prog 303 [⟨1,28,8,[(rwW w 2)],0⟩,⟨1,97,44,[zD ({ m with end_:=x,pc:=p })],0⟩,⟨1,0,5,rwV w m v0 3,0⟩,⟨1,0,2,rwG m v0 g0 g0.zr 4,0⟩,⟨1,0,3,rwE m g0 e0 e0.head 5 e0.zg,0⟩,⟨2,3,1,e0.next.map encI,0⟩] [.agg [.ref 0 [] 8 0 0,.ref 1 [] 44 0 0],I a,I b,I c] (Ce (evV m v0 a b c)) [⟨1,28,8,[(rwW w 2)],0⟩,⟨1,97,44,[zD ({ m with end_:=x,pc:=p })],0⟩,⟨1,0,5,rwV w m v0 3,0⟩,⟨1,0,2,rwG m v0 g0 g0.zr 4,0⟩,⟨1,0,3,rwE m g0 e0 e0.head 5 e0.zg,0⟩,⟨2,3,1,e0.next.map encI,0⟩]:=by
 have h0:=hv.pv;have lv:m.version.toNat < w.ze.length:=hv.lv;have e1:0+m.version.toNat=m.version.toNat:=Nat.zero_add _
 clear hv
 obtain ⟨sn,gs,fr⟩:=v0;cases fr
 all_goals
  have ownV:∀ b,∀ r ∈ (w.ze.map zI).set m.version.toNat (qJ sn++[C.sl 3 [] 2 0 gs.length false,Bo b]),∀ c ∈ r,zx c=true:=fun b=>zy (enc:=zI) (fun _=>rfl) rfl _ _
  have ownG:∀ r ∈ (gs.map zE).set m.zf.toNat ([U g0.zr,C.sl 4 [] 3 0 g0.ends.length false]),∀ c ∈ r,zx c=true:=zy (enc:=zE) (fun _=>rfl) rfl _ _;have ownE:∀ r ∈ rwE m g0 e0 e0.head 5 e0.zg,∀ c ∈ r,zx c=true:=zy (enc:=zu) (fun _=>rfl) rfl _ _;have lowV:∀ b,∀ r ∈ (w.ze.map zI).set m.version.toNat (qJ sn++[C.sl 3 [] 2 0 gs.length false,Bo b]),∀ c ∈ r,qS 6 9 c=true:=fun b=>zy (enc:=zI) (fun _=>rfl) rfl _ _
  have gv:∀ b,((w.ze.map zI).set m.version.toNat (qJ sn++[C.sl 3 [] 2 0 gs.length false,Bo b]))[m.version.toNat]?= some (qJ sn++[C.sl 3 [] 2 0 gs.length false,Bo b]):=fun b=>List.getElem?_set_self tP
  have lowG:∀ r ∈ (gs.map zE).set m.zf.toNat ([U g0.zr,C.sl 4 [] 3 0 g0.ends.length false]),∀ c ∈ r,qS 6 9 c=true:=zy (enc:=zE) (fun _=>rfl) rfl _ _;have lowE:∀ r ∈ rwE m g0 e0 e0.head 5 e0.zg,∀ c ∈ r,qS 6 9 c=true:=zy (enc:=zu) (fun _=>rfl) rfl _ _;refine z6 (fn:=Tryz.f303) Tryz.func303 rfl (Nat.le_refl _) (uH ?_);refine zV [1] [⟨1,28,8,[(rwW w 2)],0⟩,⟨1,97,44,[zD ({ m with end_:=x,pc:=p })],0⟩,⟨1,0,5,(w.ze.map zI).set m.version.toNat (qJ sn++[C.sl 3 [] 2 0 gs.length false,Bo _]),0⟩,⟨1,0,2,(gs.map zE).set m.zf.toNat ([U g0.zr,C.sl 4 [] 3 0 g0.ends.length false]),0⟩,⟨1,0,3,rwE m g0 e0 e0.head 5 e0.zg,0⟩,⟨2,3,1,e0.next.map encI,0⟩,⟨1,256,2,[[.ref 0 [] 8 0 0,.ref 1 [] 44 0 0]],0⟩,⟨1,62,23,[zQ qu],0⟩] (rx:=Ce (evO m a b c)) (jb { m with end_:=x,pc:=p } a b c) rfl rfl rfl rfl rfl (zc rfl (zc rfl (zc (zi (ownV _)) (zc (zi ownG) (zc (zi ownE) rfl))))) rfl rfl (dd ?_);refine .inl ⟨⟨false,[6,9,11,14,17],[0,1,2,6],[]⟩,by kernel_rfl,uH ?_⟩;refine ⟨h0,lv,dd ?_⟩;rw [e1];refine ⟨_,gv _,(by show 4+1<=5;decide),dd ?_⟩
  first | ((refine ⟨fun _=>dd ?_,fun h=>absurd (h.symm.trans rfl:false=true) (by decide)⟩)) | ((refine ⟨fun h=>absurd (h.symm.trans rfl:true=false) (by decide),fun _=>dd ?_⟩))
  repeat (refine ⟨rfl,uH ?_⟩)
  exact ⟨.inl rfl,_,_,.refl _,rfl,zo.xa 6 (by (conv=>whnf);(repeat (refine ⟨rfl,uH ?_⟩));exact trivial) rfl rfl rfl (zH rfl (zH rfl (zH (qc (lowV _)) (zH (qc lowG) (zH (qc lowE) rfl))))) rfl⟩
abbrev zi6 (m:Mac) (c:Clu) (t:Int):Mac:={ m with end_:=(wS c t).1,pc:=9 }
abbrev zqS (g:Gr):Gr:={ g with zr:=IntKind.u64.wrap (g.zr+1) }
theorem zi7 (w:Wor) (m:Mac) (v0:Ver) (g0:Gr) (e0:En) (c:Clu) (hv:LnE w m v0 g0) (hc:v0.snap.zl[m.zf.toNat]?= some c) (ht:u64 g0.zr) (hl:c.zR.length < 1000000000000):
  zb Tryz.prog 261 [⟨1,28,8,[(rwW w 2)],0⟩,⟨1,97,44,[zD (m)],0⟩,⟨1,0,5,rwV w m v0 3,0⟩,⟨1,0,2,rwG m v0 g0 g0.zr 4,0⟩,⟨1,0,3,rwE m g0 e0 e0.head 5 e0.zg,0⟩,⟨2,3,1,e0.next.map encI,0⟩] [.agg [.ref 0 [] 8 0 0,.ref 1 [] 44 0 0]] (Ce (evV m v0 3 6 (IntKind.i64.wrap g0.zr))) [⟨1,28,8,[(rwW w 2)],0⟩,⟨1,97,44,[zD (zi6 m c g0.zr)],0⟩,⟨1,0,5,rwV w m v0 3,0⟩,⟨1,0,2,rwG m v0 g0 (IntKind.u64.wrap (g0.zr+1)) 4,0⟩,⟨1,0,3,rwE m g0 e0 e0.head 5 e0.zg,0⟩,⟨2,3,1,e0.next.map encI,0⟩]:=by
 have lg:=hv.lg;have ownV:∀ r ∈ rwV w m v0 3,∀ c ∈ r,zx c=true:=zy (enc:=zI) (fun _=>rfl) rfl _ _;have ownG:∀ r ∈ rwG m v0 g0 g0.zr 4,∀ c ∈ r,zx c=true:=zy (enc:=zE) (fun _=>rfl) rfl _ _;have ownE:∀ r ∈ rwE m g0 e0 e0.head 5 e0.zg,∀ c ∈ r,zx c=true:=zy (enc:=zu) (fun _=>rfl) rfl _ _;have gg:(rwG m v0 g0 g0.zr 4)[m.zf.toNat]?= some ([U g0.zr,C.sl 4 [] 3 0 g0.ends.length false]):=List.getElem?_set_self tN;refine z6 (fn:=Tryz.f261) Tryz.func261 rfl (Nat.le_refl _) (uH ?_);refine zcH [0,1,2,3,4,5] [⟨1,28,8,[(rwW w 2)],0⟩,⟨1,97,44,[zD (m)],0⟩,⟨1,0,5,rwV w m v0 3,0⟩,⟨1,0,2,rwG m v0 g0 g0.zr 4,0⟩,⟨1,0,3,rwE m g0 e0 e0.head 5 e0.zg,0⟩,⟨2,3,1,e0.next.map encI,0⟩,⟨1,256,2,[[.ref 0 [] 8 0 0,.ref 1 [] 44 0 0]],0⟩,⟨1,62,23,[zQ qu],0⟩] (rx:=.ref 3 [] 2 m.zf.toNat 0) (zaf w m v0 g0 e0 hv) (zc rfl (zc rfl (zc (zi ownV) (zc (zi ownG) (zc (zi ownE) rfl))))) uT rfl rfl rfl (zc rfl (zc rfl (zc (zi ownV) (zc (zi ownG) (zc (zi ownE) rfl))))) uU rfl (dd ?_);refine ⟨_,gg,(by show 0+1<=2;decide),dd ?_⟩;refine zcH [0,1,2,3,4,5] [⟨1,28,8,[(rwW w 2)],0⟩,⟨1,97,44,[zD (m)],0⟩,⟨1,0,5,rwV w m v0 3,0⟩,⟨1,0,2,rwG m v0 g0 g0.zr 4,0⟩,⟨1,0,3,rwE m g0 e0 e0.head 5 e0.zg,0⟩,⟨2,3,1,e0.next.map encI,0⟩,⟨1,256,2,[[.ref 0 [] 8 0 0,.ref 1 [] 44 0 0]],0⟩,⟨1,62,23,[zQ qu],0⟩] (rx:=.ref 3 [] 2 m.zf.toNat 0) (zaf w m v0 g0 e0 hv) (zc rfl (zc rfl (zc (zi ownV) (zc (zi ownG) (zc (zi ownE) rfl))))) uT rfl rfl rfl (zc rfl (zc rfl (zc (zi ownV) (zc (zi ownG) (zc (zi ownE) rfl))))) uU rfl (dd ?_);refine ⟨_,gg,(by show 0+1<=2;decide),dd ?_⟩;refine ⟨_,gg,rfl,dd ?_⟩;rw [List.set_set];have ownG2:∀ r ∈ rwG m v0 g0 (IntKind.u64.wrap (g0.zr+1)) 4,∀ c ∈ r,zx c=true:=zy (enc:=zE) (fun _=>rfl) rfl _ _;have lowV:∀ r ∈ rwV w m v0 3,∀ c ∈ r,qS 6 9 c=true:=zy (enc:=zI) (fun _=>rfl) rfl _ _;have lowG:∀ r ∈ rwG m v0 g0 (IntKind.u64.wrap (g0.zr+1)) 4,∀ c ∈ r,qS 6 9 c=true:=zy (enc:=zE) (fun _=>rfl) rfl _ _;have lowE:∀ r ∈ rwE m g0 e0 e0.head 5 e0.zg,∀ c ∈ r,qS 6 9 c=true:=zy (enc:=zu) (fun _=>rfl) rfl _ _;have hv2:LnE w m v0 (zqS g0):=⟨hv.pv,hv.lv,hv.pg,hv.lg,hv.pe,hv.le⟩;refine .inl ⟨⟨true,[],[],[3,5]⟩,by kernel_rfl,uH ?_⟩;refine zV [0,1,2,3,4,5] [⟨1,28,8,[(rwW w 2)],0⟩,⟨1,97,44,[zD (m)],0⟩,⟨1,0,5,rwV w m v0 3,0⟩,⟨1,0,2,rwG m v0 g0 (IntKind.u64.wrap (g0.zr+1)) 4,0⟩,⟨1,0,3,rwE m g0 e0 e0.head 5 e0.zg,0⟩,⟨2,3,1,e0.next.map encI,0⟩,⟨1,256,2,[[.ref 0 [] 8 0 0,.ref 1 [] 44 0 0]],0⟩,⟨1,62,23,[zQ qu],0⟩] (rx:=Cc c) (zfv w m v0 (zqS g0) e0 c hv2 hc) (zc rfl (zc rfl (zc (zi ownV) (zc (zi ownG2) (zc (zi ownE) rfl))))) uT rfl rfl rfl (zc rfl (zc rfl (zc (zi ownV) (zc (zi ownG2) (zc (zi ownE) rfl))))) uU rfl (dd ?_);refine zV [] [⟨1,28,8,[(rwW w 2)],0⟩,⟨1,97,44,[zD (m)],0⟩,⟨1,0,5,rwV w m v0 3,0⟩,⟨1,0,2,rwG m v0 g0 (IntKind.u64.wrap (g0.zr+1)) 4,0⟩,⟨1,0,3,rwE m g0 e0 e0.head 5 e0.zg,0⟩,⟨2,3,1,e0.next.map encI,0⟩,⟨1,256,2,[[.ref 0 [] 8 0 0,.ref 1 [] 44 0 0]],0⟩,⟨1,62,23,[zQ qu],0⟩] (rx:=.tup [I (wS c g0.zr).1,I (wS c g0.zr).2]) (zmz c g0.zr ht hl (zpZ c)) rfl rfl rfl rfl rfl (zc rfl (zc rfl (zc (zi ownV) (zc (zi ownG2) (zc (zi ownE) rfl))))) rfl rfl (dd ?_);refine zV [0,1,2,3,4,5] [⟨1,28,8,[(rwW w 2)],0⟩,⟨1,97,44,[zD (zi6 m c g0.zr)],0⟩,⟨1,0,5,rwV w m v0 3,0⟩,⟨1,0,2,rwG m v0 g0 (IntKind.u64.wrap (g0.zr+1)) 4,0⟩,⟨1,0,3,rwE m g0 e0 e0.head 5 e0.zg,0⟩,⟨2,3,1,e0.next.map encI,0⟩,⟨1,256,2,[[.ref 0 [] 8 0 0,.ref 1 [] 44 0 0]],0⟩,⟨1,62,23,[zQ qu],0⟩] (rx:=Ce (evV m v0 3 6 (IntKind.i64.wrap g0.zr))) (zco w m v0 (zqS g0) e0 hv2 (wS c g0.zr).1 9 3 6 (IntKind.i64.wrap g0.zr)) (zc rfl (zc rfl (zc (zi ownV) (zc (zi ownG2) (zc (zi ownE) rfl))))) uT rfl rfl rfl (zc rfl (zc rfl (zc (zi ownV) (zc (zi ownG2) (zc (zi ownE) rfl))))) uU rfl (dd ?_);exact ⟨.inl rfl,_,_,.refl _,rfl,zo.xa 6 (by (conv=>whnf);(repeat (refine ⟨rfl,uH ?_⟩));exact trivial) rfl rfl rfl (zH rfl (zH rfl (zH (qc lowV) (zH (qc lowG) (zH (qc lowE) rfl))))) rfl⟩
theorem zeV (w:Wor) (m:Mac) (v0:Ver) (g0:Gr) (e0:En) (hv:LnE w m v0 g0) (hw:u64 m.word) (l0: -1<=m.link) (l1:m.link<=2147483646) (hh:u64 e0.head) (hne:e0.head≠m.word):
  zb Tryz.prog 266 [⟨1,28,8,[(rwW w 2)],0⟩,⟨1,97,44,[zD (m)],0⟩,⟨1,0,5,rwV w m v0 3,0⟩,⟨1,0,2,rwG m v0 g0 g0.zr 4,0⟩,⟨1,0,3,rwE m g0 e0 e0.head 5 e0.zg,0⟩,⟨2,3,1,e0.next.map encI,0⟩] [.agg [.ref 0 [] 8 0 0,.ref 1 [] 44 0 0]] (Ce (evV m v0 5 8 (e0.head % 4294967296 - 1))) [⟨1,28,8,[(rwW w 2)],0⟩,⟨1,97,44,[zD ({ m with pc:=9 })],0⟩,⟨1,0,5,rwV w m v0 3,0⟩,⟨1,0,2,rwG m v0 g0 g0.zr 4,0⟩,⟨1,0,3,rwE m g0 e0 e0.head 5 e0.zg,0⟩,⟨2,3,1,e0.next.map encI,0⟩]:=by
 (have le:=hv.le);(have ownV:∀ r ∈ rwV w m v0 3,∀ c ∈ r,zx c=true:=zy (enc:=zI) (fun _=>rfl) rfl _ _);(have ownG:∀ r ∈ rwG m v0 g0 g0.zr 4,∀ c ∈ r,zx c=true:=zy (enc:=zE) (fun _=>rfl) rfl _ _);(have ownE:∀ r ∈ rwE m g0 e0 e0.head 5 e0.zg,∀ c ∈ r,zx c=true:=zy (enc:=zu) (fun _=>rfl) rfl _ _);(have lowV:∀ r ∈ rwV w m v0 3,∀ c ∈ r,qS 6 9 c=true:=zy (enc:=zI) (fun _=>rfl) rfl _ _);(have lowG:∀ r ∈ rwG m v0 g0 g0.zr 4,∀ c ∈ r,qS 6 9 c=true:=zy (enc:=zE) (fun _=>rfl) rfl _ _)
 have lowE:∀ r ∈ rwE m g0 e0 e0.head 5 e0.zg,∀ c ∈ r,qS 6 9 c=true:=zy (enc:=zu) (fun _=>rfl) rfl _ _;have ge:(rwE m g0 e0 e0.head 5 e0.zg)[m.end_.toNat]?= some ([U e0.head,C.sl 5 [] 1 0 e0.next.length false,I e0.zg]):=List.getElem?_set_self tK;have hv2:LnE w { m with pc:=9 } v0 g0:=⟨hv.pv,hv.lv,hv.pg,hv.lg,hv.pe,hv.le⟩;refine z6 (fn:=Tryz.f266) Tryz.func266 rfl (Nat.le_refl _) (uH ?_);refine .inl ⟨⟨true,[],[],[8]⟩,by kernel_rfl,uH ?_⟩;refine zV [] [⟨1,28,8,[(rwW w 2)],0⟩,⟨1,97,44,[zD (m)],0⟩,⟨1,0,5,rwV w m v0 3,0⟩,⟨1,0,2,rwG m v0 g0 g0.zr 4,0⟩,⟨1,0,3,rwE m g0 e0 e0.head 5 e0.zg,0⟩,⟨2,3,1,e0.next.map encI,0⟩,⟨1,256,2,[[.ref 0 [] 8 0 0,.ref 1 [] 44 0 0]],0⟩,⟨1,62,23,[zQ qu],0⟩] (rx:=.tup [U (Slp.qP m.word m.link),I 0]) (Slp.zcm m.word m.link hw l0 l1) rfl rfl rfl rfl rfl (zc rfl (zc rfl (zc (zi ownV) (zc (zi ownG) (zc (zi ownE) rfl))))) rfl rfl (dd ?_);refine .inl ⟨⟨true,[],[],[1]⟩,by kernel_rfl,uH ?_⟩;refine zV [0,1,2,3,4,5] [⟨1,28,8,[(rwW w 2)],0⟩,⟨1,97,44,[zD (m)],0⟩,⟨1,0,5,rwV w m v0 3,0⟩,⟨1,0,2,rwG m v0 g0 g0.zr 4,0⟩,⟨1,0,3,rwE m g0 e0 e0.head 5 e0.zg,0⟩,⟨2,3,1,e0.next.map encI,0⟩,⟨1,256,2,[[.ref 0 [] 8 0 0,.ref 1 [] 44 0 0]],0⟩,⟨1,62,23,[zQ qu],0⟩] (rx:=.ref 4 [] 3 m.end_.toNat 0) (y6 w m v0 g0 e0 hv) (zc rfl (zc rfl (zc (zi ownV) (zc (zi ownG) (zc (zi ownE) rfl))))) uT rfl rfl rfl (zc rfl (zc rfl (zc (zi ownV) (zc (zi ownG) (zc (zi ownE) rfl))))) uU rfl (dd ?_);refine ⟨_,ge,(by show 0+1<=3;decide),dd ?_⟩;refine ⟨fun _=>dd ?_,fun h=>absurd h (by simpa using hne)⟩;refine .inl ⟨⟨true,[],[],[2,6,7]⟩,by kernel_rfl,uH ?_⟩;refine zV [0,1,2,3,4,5] [⟨1,28,8,[(rwW w 2)],0⟩,⟨1,97,44,[zD ({ m with pc:=9 })],0⟩,⟨1,0,5,rwV w m v0 3,0⟩,⟨1,0,2,rwG m v0 g0 g0.zr 4,0⟩,⟨1,0,3,rwE m g0 e0 e0.head 5 e0.zg,0⟩,⟨2,3,1,e0.next.map encI,0⟩,⟨1,256,2,[[.ref 0 [] 8 0 0,.ref 1 [] 44 0 0]],0⟩,⟨1,62,23,[zQ qu],0⟩] (rx:=.ref 4 [] 3 m.end_.toNat 0) (y6 w _ v0 g0 e0 hv2) (zc rfl (zc rfl (zc (zi ownV) (zc (zi ownG) (zc (zi ownE) rfl))))) uT rfl rfl rfl (zc rfl (zc rfl (zc (zi ownV) (zc (zi ownG) (zc (zi ownE) rfl))))) uU rfl (dd ?_);refine ⟨_,ge,(by show 0+1<=3;decide),dd ?_⟩;refine zV [] [⟨1,28,8,[(rwW w 2)],0⟩,⟨1,97,44,[zD ({ m with pc:=9 })],0⟩,⟨1,0,5,rwV w m v0 3,0⟩,⟨1,0,2,rwG m v0 g0 g0.zr 4,0⟩,⟨1,0,3,rwE m g0 e0 e0.head 5 e0.zg,0⟩,⟨2,3,1,e0.next.map encI,0⟩,⟨1,256,2,[[.ref 0 [] 8 0 0,.ref 1 [] 44 0 0]],0⟩,⟨1,62,23,[zQ qu],0⟩] (rx:=I (e0.head % 4294967296 - 1)) (Slp.qA e0.head hh) rfl rfl rfl rfl rfl (zc rfl (zc rfl (zc (zi ownV) (zc (zi ownG) (zc (zi ownE) rfl))))) rfl rfl (dd ?_);refine zV [0,1,2,3,4,5] [⟨1,28,8,[(rwW w 2)],0⟩,⟨1,97,44,[zD ({ m with pc:=9 })],0⟩,⟨1,0,5,rwV w m v0 3,0⟩,⟨1,0,2,rwG m v0 g0 g0.zr 4,0⟩,⟨1,0,3,rwE m g0 e0 e0.head 5 e0.zg,0⟩,⟨2,3,1,e0.next.map encI,0⟩,⟨1,256,2,[[.ref 0 [] 8 0 0,.ref 1 [] 44 0 0]],0⟩,⟨1,62,23,[zQ qu],0⟩] (rx:=Ce (evV m v0 5 8 (e0.head % 4294967296 - 1))) (zco w m v0 g0 e0 hv m.end_ 9 5 8 (e0.head % 4294967296 - 1)) (zc rfl (zc rfl (zc (zi ownV) (zc (zi ownG) (zc (zi ownE) rfl))))) uT rfl rfl rfl (zc rfl (zc rfl (zc (zi ownV) (zc (zi ownG) (zc (zi ownE) rfl))))) uU rfl (dd ?_);exact ⟨.inl rfl,_,_,.refl _,rfl,zo.xa 6 (by (conv=>whnf);(repeat (refine ⟨rfl,uH ?_⟩));exact trivial) rfl rfl rfl (zH rfl (zH rfl (zH (qc lowV) (zH (qc lowG) (zH (qc lowE) rfl))))) rfl⟩
theorem zdF (w:Wor) (m:Mac) (v0:Ver) (g0:Gr) (e0:En) (hv:LnE w m v0 g0) (hw:u64 m.word) (l0: -1<=m.link) (l1:m.link<=2147483646) (hne:e0.head=m.word):
  zb Tryz.prog 266 [⟨1,28,8,[(rwW w 2)],0⟩,⟨1,97,44,[zD (m)],0⟩,⟨1,0,5,rwV w m v0 3,0⟩,⟨1,0,2,rwG m v0 g0 g0.zr 4,0⟩,⟨1,0,3,rwE m g0 e0 e0.head 5 e0.zg,0⟩,⟨2,3,1,e0.next.map encI,0⟩] [.agg [.ref 0 [] 8 0 0,.ref 1 [] 44 0 0]] (Ce (evV m v0 4 8 m.slot)) [⟨1,28,8,[(rwW w 2)],0⟩,⟨1,97,44,[zD ({ m with pc:=12 })],0⟩,⟨1,0,5,rwV w m v0 3,0⟩,⟨1,0,2,rwG m v0 g0 g0.zr 4,0⟩,⟨1,0,3,rwE m g0 e0 (Slp.qP m.word m.link) 5 e0.zg,0⟩,⟨2,3,1,e0.next.map encI,0⟩]:=by
 (have le:=hv.le);(have ownV:∀ r ∈ rwV w m v0 3,∀ c ∈ r,zx c=true:=zy (enc:=zI) (fun _=>rfl) rfl _ _);(have ownG:∀ r ∈ rwG m v0 g0 g0.zr 4,∀ c ∈ r,zx c=true:=zy (enc:=zE) (fun _=>rfl) rfl _ _);(have ownE:∀ r ∈ rwE m g0 e0 e0.head 5 e0.zg,∀ c ∈ r,zx c=true:=zy (enc:=zu) (fun _=>rfl) rfl _ _);(have lowV:∀ r ∈ rwV w m v0 3,∀ c ∈ r,qS 6 9 c=true:=zy (enc:=zI) (fun _=>rfl) rfl _ _);(have lowG:∀ r ∈ rwG m v0 g0 g0.zr 4,∀ c ∈ r,qS 6 9 c=true:=zy (enc:=zE) (fun _=>rfl) rfl _ _)
 have lowE:∀ r ∈ rwE m g0 e0 (Slp.qP m.word m.link) 5 e0.zg,∀ c ∈ r,qS 6 9 c=true:=zy (enc:=zu) (fun _=>rfl) rfl _ _;have ownE2:∀ r ∈ rwE m g0 e0 (Slp.qP m.word m.link) 5 e0.zg,∀ c ∈ r,zx c=true:=zy (enc:=zu) (fun _=>rfl) rfl _ _;have ge:(rwE m g0 e0 e0.head 5 e0.zg)[m.end_.toNat]?= some ([U e0.head,C.sl 5 [] 1 0 e0.next.length false,I e0.zg]):=List.getElem?_set_self tK;refine z6 (fn:=Tryz.f266) Tryz.func266 rfl (Nat.le_refl _) (uH ?_);refine .inl ⟨⟨true,[],[],[8]⟩,by kernel_rfl,uH ?_⟩;refine zV [] [⟨1,28,8,[(rwW w 2)],0⟩,⟨1,97,44,[zD (m)],0⟩,⟨1,0,5,rwV w m v0 3,0⟩,⟨1,0,2,rwG m v0 g0 g0.zr 4,0⟩,⟨1,0,3,rwE m g0 e0 e0.head 5 e0.zg,0⟩,⟨2,3,1,e0.next.map encI,0⟩,⟨1,256,2,[[.ref 0 [] 8 0 0,.ref 1 [] 44 0 0]],0⟩,⟨1,62,23,[zQ qu],0⟩] (rx:=.tup [U (Slp.qP m.word m.link),I 0]) (Slp.zcm m.word m.link hw l0 l1) rfl rfl rfl rfl rfl (zc rfl (zc rfl (zc (zi ownV) (zc (zi ownG) (zc (zi ownE) rfl))))) rfl rfl (dd ?_);refine .inl ⟨⟨true,[],[],[1]⟩,by kernel_rfl,uH ?_⟩;refine zV [0,1,2,3,4,5] [⟨1,28,8,[(rwW w 2)],0⟩,⟨1,97,44,[zD (m)],0⟩,⟨1,0,5,rwV w m v0 3,0⟩,⟨1,0,2,rwG m v0 g0 g0.zr 4,0⟩,⟨1,0,3,rwE m g0 e0 e0.head 5 e0.zg,0⟩,⟨2,3,1,e0.next.map encI,0⟩,⟨1,256,2,[[.ref 0 [] 8 0 0,.ref 1 [] 44 0 0]],0⟩,⟨1,62,23,[zQ qu],0⟩] (rx:=.ref 4 [] 3 m.end_.toNat 0) (y6 w m v0 g0 e0 hv) (zc rfl (zc rfl (zc (zi ownV) (zc (zi ownG) (zc (zi ownE) rfl))))) uT rfl rfl rfl (zc rfl (zc rfl (zc (zi ownV) (zc (zi ownG) (zc (zi ownE) rfl))))) uU rfl (dd ?_);refine ⟨_,ge,(by show 0+1<=3;decide),dd ?_⟩;refine ⟨fun h=>absurd h (by simp [hne]),fun _=>dd ?_⟩;(repeat refine uC ?_)
 refine zcH [0,1,2,3,4,5] [⟨1,28,8,[(rwW w 2)],0⟩,⟨1,97,44,[zD (m)],0⟩,⟨1,0,5,rwV w m v0 3,0⟩,⟨1,0,2,rwG m v0 g0 g0.zr 4,0⟩,⟨1,0,3,rwE m g0 e0 e0.head 5 e0.zg,0⟩,⟨2,3,1,e0.next.map encI,0⟩,⟨1,256,2,[[.ref 0 [] 8 0 0,.ref 1 [] 44 0 0]],0⟩,⟨1,62,23,[zQ qu],0⟩] (rx:=.ref 4 [] 3 m.end_.toNat 0) (y6 w m v0 g0 e0 hv) (zc rfl (zc rfl (zc (zi ownV) (zc (zi ownG) (zc (zi ownE) rfl))))) uT rfl rfl rfl (zc rfl (zc rfl (zc (zi ownV) (zc (zi ownG) (zc (zi ownE) rfl))))) uU rfl (dd ?_);refine ⟨_,ge,rfl,dd ?_⟩;rw [List.set_set];refine dd ?_;refine .inl ⟨⟨true,[],[],[5]⟩,by kernel_rfl,uH ?_⟩;refine zV [0,1,2,3,4,5] [⟨1,28,8,[(rwW w 2)],0⟩,⟨1,97,44,[zD ({ m with pc:=12 })],0⟩,⟨1,0,5,rwV w m v0 3,0⟩,⟨1,0,2,rwG m v0 g0 g0.zr 4,0⟩,⟨1,0,3,rwE m g0 e0 (Slp.qP m.word m.link) 5 e0.zg,0⟩,⟨2,3,1,e0.next.map encI,0⟩,⟨1,256,2,[[.ref 0 [] 8 0 0,.ref 1 [] 44 0 0]],0⟩,⟨1,62,23,[zQ qu],0⟩] (rx:=Ce (evV m v0 4 8 m.slot)) (zco w m v0 g0 { e0 with head:=Slp.qP m.word m.link } hv m.end_ 12 4 8 m.slot) (zc rfl (zc rfl (zc (zi ownV) (zc (zi ownG) (zc (zi ownE2) rfl))))) uT rfl rfl rfl (zc rfl (zc rfl (zc (zi ownV) (zc (zi ownG) (zc (zi ownE2) rfl))))) uU rfl (dd ?_);exact ⟨.inl rfl,_,_,.refl _,rfl,zo.xa 6 (by (conv=>whnf);(repeat (refine ⟨rfl,uH ?_⟩));exact trivial) rfl rfl rfl (zH rfl (zH rfl (zH (qc lowV) (zH (qc lowG) (zH (qc lowE) rfl))))) rfl⟩
end Go.Wor
namespace Go.Wor
open Go.Ab Go.Proofs Go.Hy
abbrev nf:C:=.v .nilFunc
abbrev pf (f:FuncId):C:=.fn f [] []
abbrev zus:List C:=[nf,nf,nf,pf 258,pf 259,pf 260,pf 261,pf 262,pf 263,pf 264,pf 265,pf 266,pf 267,nf,nf,nf,nf,nf,nf,nf,pf 268,pf 269,pf 270,pf 271]
theorem je:zb Tryz.prog 223 [] [] (.agg zus) []:=by
 refine zb.zp (fn:=Tryz.f223) Tryz.func223 rfl (uH ?_);exact uI
end Go.Wor
namespace Go.Wor
open Go.Ab Go.Proofs Go.Hy Go.Gat Go.Nam Go.Hos Go.Con Go.Sna
theorem zpO {w w':Wor} {m m':Mac} {e:Eve} (sw:qR w) (ok:OkW w) (hl:i64 m.listen) (hpc:m.pc=3) (hs:zW w m=true) (h:zb Tryz.prog 258 [⟨1,28,8,[zJ w],0⟩,⟨1,97,44,[zD m],0⟩] [.agg [.ref 0 [] 8 0 0,.ref 1 [] 44 0 0]] (Ce e) [⟨1,28,8,[zJ w'],0⟩,⟨1,97,44,[zD m'],0⟩]):zb Tryz.prog 183 [] [Cw w,Cm m] (.tup [Cw w',Cm m',Ce e]) []:=by
 by_cases hn:m.listen < 0
 all_goals
  refine zb.zp (fn:=Tryz.f183) Tryz.func183 rfl (uH ?_);(repeat (first | refine uA ?_ | refine uB ?_))
  refine ⟨_,_,(zM w m ok hl).frame rfl _,dd ?_⟩;refine ⟨fun _=>dd ?_,fun h=>absurd ((hs).symm.trans h:true=false) (by decide)⟩;(repeat refine uC ?_)
  (repeat (first | refine uA ?_ | refine uB ?_))
  refine .inl ⟨⟨true,[2],[1],[0]⟩,by kernel_rfl,uH ?_⟩;refine ⟨_,_,(je).frame rfl _,dd ?_⟩;(repeat (refine ⟨rfl,uH ?_⟩))
  (refine ⟨by omega,by omega,pf 258,by rw [hpc];rfl,dd ?_⟩)
  (repeat refine uC ?_)
  refine ⟨_,_,(qs w sw).frame rfl _,dd ?_⟩;refine zq [5,6] (h) rfl rfl rfl rfl rfl rfl (dd ?_);refine .inl ⟨⟨false,[0,1,2],[5,6,7],[]⟩,by kernel_rfl,uH ?_⟩;repeat (refine ⟨rfl,uH ?_⟩)
  exact uI
theorem zpQ {w w':Wor} {m m':Mac} {e:Eve} (sw:qR w) (ok:OkW w) (hl:i64 m.listen) (hpc:m.pc=5) (hs:zW w m=true) (hli:0<=m.listen)(h:zb Tryz.prog 260 [⟨1,28,8,[zJ w],0⟩,⟨1,97,44,[zD m],0⟩] [.agg [.ref 0 [] 8 0 0,.ref 1 [] 44 0 0]] (Ce e) [⟨1,28,8,[zJ w'],0⟩,⟨1,97,44,[zD m'],0⟩]):zb Tryz.prog 183 [] [Cw w,Cm m] (.tup [Cw w',Cm m',Ce e]) []:=by
 have hn:¬m.listen < 0:=by omega
 all_goals
  refine zb.zp (fn:=Tryz.f183) Tryz.func183 rfl (uH ?_);(repeat (first | refine uA ?_ | refine uB ?_))
  refine ⟨_,_,(zM w m ok hl).frame rfl _,dd ?_⟩;refine ⟨fun _=>dd ?_,fun h=>absurd ((hs).symm.trans h:true=false) (by decide)⟩;(repeat refine uC ?_)
  (repeat (first | refine uA ?_ | refine uB ?_))
  refine .inl ⟨⟨true,[2],[1],[0]⟩,by kernel_rfl,uH ?_⟩;refine ⟨_,_,(je).frame rfl _,dd ?_⟩;(repeat (refine ⟨rfl,uH ?_⟩))
  (refine ⟨by omega,by omega,pf 260,by rw [hpc];rfl,dd ?_⟩)
  (repeat refine uC ?_)
  refine ⟨_,_,(qs w sw).frame rfl _,dd ?_⟩;refine zq [5,6] (h) rfl rfl rfl rfl rfl rfl (dd ?_);refine .inl ⟨⟨false,[0,1,2],[5,6,7],[]⟩,by kernel_rfl,uH ?_⟩;repeat (refine ⟨rfl,uH ?_⟩)
  exact uI
theorem zpS {w w':Wor} {m m':Mac} {e:Eve} (sw:qR w) (ok:OkW w) (hl:i64 m.listen) (hpc:m.pc=7) (hs:zW w m=true) (h:zb Tryz.prog 262 [⟨1,28,8,[zJ w],0⟩,⟨1,97,44,[zD m],0⟩] [.agg [.ref 0 [] 8 0 0,.ref 1 [] 44 0 0]] (Ce e) [⟨1,28,8,[zJ w'],0⟩,⟨1,97,44,[zD m'],0⟩]):zb Tryz.prog 183 [] [Cw w,Cm m] (.tup [Cw w',Cm m',Ce e]) []:=by
 by_cases hn:m.listen < 0
 all_goals
  refine zb.zp (fn:=Tryz.f183) Tryz.func183 rfl (uH ?_);(repeat (first | refine uA ?_ | refine uB ?_))
  refine ⟨_,_,(zM w m ok hl).frame rfl _,dd ?_⟩;refine ⟨fun _=>dd ?_,fun h=>absurd ((hs).symm.trans h:true=false) (by decide)⟩;(repeat refine uC ?_)
  (repeat (first | refine uA ?_ | refine uB ?_))
  refine .inl ⟨⟨true,[2],[1],[0]⟩,by kernel_rfl,uH ?_⟩;refine ⟨_,_,(je).frame rfl _,dd ?_⟩;(repeat (refine ⟨rfl,uH ?_⟩))
  (refine ⟨by omega,by omega,pf 262,by rw [hpc];rfl,dd ?_⟩)
  (repeat refine uC ?_)
  refine ⟨_,_,(qs w sw).frame rfl _,dd ?_⟩;refine zq [5,6] (h) rfl rfl rfl rfl rfl rfl (dd ?_);refine .inl ⟨⟨false,[0,1,2],[5,6,7],[]⟩,by kernel_rfl,uH ?_⟩;repeat (refine ⟨rfl,uH ?_⟩)
  exact uI
theorem zpT {w w':Wor} {m m':Mac} {e:Eve} (sw:qR w) (ok:OkW w) (hl:i64 m.listen) (hpc:m.pc=8) (hs:zW w m=true) (h:zb Tryz.prog 263 [⟨1,28,8,[zJ w],0⟩,⟨1,97,44,[zD m],0⟩] [.agg [.ref 0 [] 8 0 0,.ref 1 [] 44 0 0]] (Ce e) [⟨1,28,8,[zJ w'],0⟩,⟨1,97,44,[zD m'],0⟩]):zb Tryz.prog 183 [] [Cw w,Cm m] (.tup [Cw w',Cm m',Ce e]) []:=by
 by_cases hn:m.listen < 0
 all_goals
  refine zb.zp (fn:=Tryz.f183) Tryz.func183 rfl (uH ?_);(repeat (first | refine uA ?_ | refine uB ?_))
  refine ⟨_,_,(zM w m ok hl).frame rfl _,dd ?_⟩;refine ⟨fun _=>dd ?_,fun h=>absurd ((hs).symm.trans h:true=false) (by decide)⟩;(repeat refine uC ?_)
  (repeat (first | refine uA ?_ | refine uB ?_))
  refine .inl ⟨⟨true,[2],[1],[0]⟩,by kernel_rfl,uH ?_⟩;refine ⟨_,_,(je).frame rfl _,dd ?_⟩;(repeat (refine ⟨rfl,uH ?_⟩))
  (refine ⟨by omega,by omega,pf 263,by rw [hpc];rfl,dd ?_⟩)
  (repeat refine uC ?_)
  refine ⟨_,_,(qs w sw).frame rfl _,dd ?_⟩;refine zq [5,6] (h) rfl rfl rfl rfl rfl rfl (dd ?_);refine .inl ⟨⟨false,[0,1,2],[5,6,7],[]⟩,by kernel_rfl,uH ?_⟩;repeat (refine ⟨rfl,uH ?_⟩)
  exact uI
theorem zjD {w w':Wor} {m m':Mac} {e:Eve} (sw:qR w) (ok:OkW w) (hl:i64 m.listen) (hpc:m.pc=9) (hs:zW w m=true) (h:zb Tryz.prog 264 [⟨1,28,8,[zJ w],0⟩,⟨1,97,44,[zD m],0⟩] [.agg [.ref 0 [] 8 0 0,.ref 1 [] 44 0 0]] (Ce e) [⟨1,28,8,[zJ w'],0⟩,⟨1,97,44,[zD m'],0⟩]):zb Tryz.prog 183 [] [Cw w,Cm m] (.tup [Cw w',Cm m',Ce e]) []:=by
 by_cases hn:m.listen < 0
 all_goals
  refine zb.zp (fn:=Tryz.f183) Tryz.func183 rfl (uH ?_);(repeat (first | refine uA ?_ | refine uB ?_))
  refine ⟨_,_,(zM w m ok hl).frame rfl _,dd ?_⟩;refine ⟨fun _=>dd ?_,fun h=>absurd ((hs).symm.trans h:true=false) (by decide)⟩;(repeat refine uC ?_)
  (repeat (first | refine uA ?_ | refine uB ?_))
  refine .inl ⟨⟨true,[2],[1],[0]⟩,by kernel_rfl,uH ?_⟩;refine ⟨_,_,(je).frame rfl _,dd ?_⟩;(repeat (refine ⟨rfl,uH ?_⟩))
  (refine ⟨by omega,by omega,pf 264,by rw [hpc];rfl,dd ?_⟩)
  (repeat refine uC ?_)
  refine ⟨_,_,(qs w sw).frame rfl _,dd ?_⟩;refine zq [5,6] (h) rfl rfl rfl rfl rfl rfl (dd ?_);refine .inl ⟨⟨false,[0,1,2],[5,6,7],[]⟩,by kernel_rfl,uH ?_⟩;repeat (refine ⟨rfl,uH ?_⟩)
  exact uI
theorem znT {w w':Wor} {m m':Mac} {e:Eve} (sw:qR w) (ok:OkW w) (hl:i64 m.listen) (hpc:m.pc=10) (hs:zW w m=true) (h:zb Tryz.prog 265 [⟨1,28,8,[zJ w],0⟩,⟨1,97,44,[zD m],0⟩] [.agg [.ref 0 [] 8 0 0,.ref 1 [] 44 0 0]] (Ce e) [⟨1,28,8,[zJ w'],0⟩,⟨1,97,44,[zD m'],0⟩]):zb Tryz.prog 183 [] [Cw w,Cm m] (.tup [Cw w',Cm m',Ce e]) []:=by
 by_cases hn:m.listen < 0
 all_goals
  refine zb.zp (fn:=Tryz.f183) Tryz.func183 rfl (uH ?_);(repeat (first | refine uA ?_ | refine uB ?_))
  refine ⟨_,_,(zM w m ok hl).frame rfl _,dd ?_⟩;refine ⟨fun _=>dd ?_,fun h=>absurd ((hs).symm.trans h:true=false) (by decide)⟩;(repeat refine uC ?_)
  (repeat (first | refine uA ?_ | refine uB ?_))
  refine .inl ⟨⟨true,[2],[1],[0]⟩,by kernel_rfl,uH ?_⟩;refine ⟨_,_,(je).frame rfl _,dd ?_⟩;(repeat (refine ⟨rfl,uH ?_⟩))
  (refine ⟨by omega,by omega,pf 265,by rw [hpc];rfl,dd ?_⟩)
  (repeat refine uC ?_)
  refine ⟨_,_,(qs w sw).frame rfl _,dd ?_⟩;refine zq [5,6] (h) rfl rfl rfl rfl rfl rfl (dd ?_);refine .inl ⟨⟨false,[0,1,2],[5,6,7],[]⟩,by kernel_rfl,uH ?_⟩;repeat (refine ⟨rfl,uH ?_⟩)
  exact uI
theorem znY {w w':Wor} {m m':Mac} {e:Eve} (sw:qR w) (ok:OkW w) (hl:i64 m.listen) (hpc:m.pc=23) (hs:zW w m=true) (h:zb Tryz.prog 271 [⟨1,28,8,[zJ w],0⟩,⟨1,97,44,[zD m],0⟩] [.agg [.ref 0 [] 8 0 0,.ref 1 [] 44 0 0]] (Ce e) [⟨1,28,8,[zJ w'],0⟩,⟨1,97,44,[zD m'],0⟩]):zb Tryz.prog 183 [] [Cw w,Cm m] (.tup [Cw w',Cm m',Ce e]) []:=by
 by_cases hn:m.listen < 0
 all_goals
  refine zb.zp (fn:=Tryz.f183) Tryz.func183 rfl (uH ?_);(repeat (first | refine uA ?_ | refine uB ?_))
  refine ⟨_,_,(zM w m ok hl).frame rfl _,dd ?_⟩;refine ⟨fun _=>dd ?_,fun h=>absurd ((hs).symm.trans h:true=false) (by decide)⟩;(repeat refine uC ?_)
  (repeat (first | refine uA ?_ | refine uB ?_))
  refine .inl ⟨⟨true,[2],[1],[0]⟩,by kernel_rfl,uH ?_⟩;refine ⟨_,_,(je).frame rfl _,dd ?_⟩;(repeat (refine ⟨rfl,uH ?_⟩))
  (refine ⟨by omega,by omega,pf 271,by rw [hpc];rfl,dd ?_⟩)
  (repeat refine uC ?_)
  refine ⟨_,_,(qs w sw).frame rfl _,dd ?_⟩;refine zq [5,6] (h) rfl rfl rfl rfl rfl rfl (dd ?_);refine .inl ⟨⟨false,[0,1,2],[5,6,7],[]⟩,by kernel_rfl,uH ?_⟩;repeat (refine ⟨rfl,uH ?_⟩)
  exact uI
theorem zcg {w w':Wor} {m m':Mac} {e:Eve} (h0:0<=m.pc) (h3:m.pc < 3) (h:zb Tryz.prog 221 [] [Cw w,Cm m] (.tup [Cw w',Cm m',Ce e]) []):zb Tryz.prog 183 [] [Cw w,Cm m] (.tup [Cw w',Cm m',Ce e]) []:=by
 refine zb.zp (fn:=Tryz.f183) Tryz.func183 rfl (uH ?_);refine ⟨fun _=>dd ?_,fun h=>absurd h (by simp;omega)⟩;refine ⟨fun _=>dd ?_,fun h=>absurd h (by simp;omega)⟩;refine ⟨_,_,(h).frame rfl _,dd ?_⟩;exact uI
theorem zpP {w:Wor} {m m':Mac} {e:Eve} {ls:List Lis} (sw:qR w) (ok:OkW w) (hl:i64 m.listen) (hpc:m.pc=4) (hs:zW w m=true) (hli:0<=m.listen) (hll:ls.length=w.zd.length) (h:zb Tryz.prog 259 [⟨1,28,8,[[I w.zn,I w.current,I w.lock,lI w.pins,lV w.ze,.sl 2 [] 4 0 w.zd.length false,lCo w.counts,lR w.zt]],0⟩,⟨1,97,44,[zD m],0⟩,⟨2,92,4,(w.zd).map qG,0⟩] [.agg [.ref 0 [] 8 0 0,.ref 1 [] 44 0 0]] (Ce e) [⟨1,28,8,[[I w.zn,I w.current,I w.lock,lI w.pins,lV w.ze,.sl 2 [] 4 0 w.zd.length false,lCo w.counts,lR w.zt]],0⟩,⟨1,97,44,[zD m'],0⟩,⟨2,92,4,(ls).map qG,0⟩]):zb Tryz.prog 183 [] [Cw w,Cm m] (.tup [Cw { w with zd:=ls },Cm m',Ce e]) []:=by
 have hn:¬m.listen < 0:=by omega
 obtain ⟨x,l,hx⟩:∃ x l,w.zd=x::l:=by
  obtain ⟨v,g,e,su⟩:=wP hs;cases h:w.zd with
  | nil=>have:=su.listen;rw [h] at this;simp at this;omega
  | cons x l=>exact ⟨x,l,rfl⟩
 refine zb.zp (fn:=Tryz.f183) Tryz.func183 rfl (uH ?_);(repeat (first | refine uA ?_ | refine uB ?_))
 refine ⟨_,_,(zM w m ok hl).frame rfl _,dd ?_⟩;refine ⟨fun _=>dd ?_,fun h=>absurd ((hs).symm.trans h:true=false) (by decide)⟩;(repeat refine uC ?_)
 (repeat (first | refine uA ?_ | refine uB ?_))
 refine .inl ⟨⟨true,[2],[1],[0]⟩,by kernel_rfl,uH ?_⟩;refine ⟨_,_,(je).frame rfl _,dd ?_⟩;(repeat (refine ⟨rfl,uH ?_⟩))
 (refine ⟨by omega,by omega,pf 259,by rw [hpc];rfl,dd ?_⟩)
 (repeat refine uC ?_)
 refine zq [] (yM w sw x l hx) rfl rfl rfl rfl rfl rfl (dd ?_);refine zq [6,7,5] (h) rfl rfl rfl rfl rfl rfl (dd ?_);refine .inl ⟨⟨false,[0,1,2],[6,7,8],[]⟩,by kernel_rfl,uH ?_⟩;repeat (refine ⟨rfl,uH ?_⟩)
 exact ⟨.inl rfl,_,zo.zT 2 0 5 rfl rfl rfl rfl (.inr rfl) (by simp) (by rw [List.length_map];exact hll.symm) (shut_map (enc:=qG) (fun _=>rfl) _) (zX rfl),rfl⟩
theorem znX {w:Wor} {m m':Mac} {e:Eve} {ls:List Lis} (sw:qR w) (ok:OkW w) (hl:i64 m.listen) (hpc:m.pc=22) (hs:zW w m=true) (hli:0<=m.listen) (hll:ls.length=w.zd.length) (h:zb Tryz.prog 270 [⟨1,28,8,[[I w.zn,I w.current,I w.lock,lI w.pins,lV w.ze,.sl 2 [] 4 0 w.zd.length false,lCo w.counts,lR w.zt]],0⟩,⟨1,97,44,[zD m],0⟩,⟨2,92,4,(w.zd).map qG,0⟩] [.agg [.ref 0 [] 8 0 0,.ref 1 [] 44 0 0]] (Ce e) [⟨1,28,8,[[I w.zn,I w.current,I w.lock,lI w.pins,lV w.ze,.sl 2 [] 4 0 w.zd.length false,lCo w.counts,lR w.zt]],0⟩,⟨1,97,44,[zD m'],0⟩,⟨2,92,4,(ls).map qG,0⟩]):zb Tryz.prog 183 [] [Cw w,Cm m] (.tup [Cw { w with zd:=ls },Cm m',Ce e]) []:=by
 have hn:¬m.listen < 0:=by omega
 obtain ⟨x,l,hx⟩:∃ x l,w.zd=x::l:=by
  obtain ⟨v,g,e,su⟩:=wP hs;cases h:w.zd with
  | nil=>have:=su.listen;rw [h] at this;simp at this;omega
  | cons x l=>exact ⟨x,l,rfl⟩
 refine zb.zp (fn:=Tryz.f183) Tryz.func183 rfl (uH ?_);(repeat (first | refine uA ?_ | refine uB ?_))
 refine ⟨_,_,(zM w m ok hl).frame rfl _,dd ?_⟩;refine ⟨fun _=>dd ?_,fun h=>absurd ((hs).symm.trans h:true=false) (by decide)⟩;(repeat refine uC ?_)
 (repeat (first | refine uA ?_ | refine uB ?_))
 refine .inl ⟨⟨true,[2],[1],[0]⟩,by kernel_rfl,uH ?_⟩;refine ⟨_,_,(je).frame rfl _,dd ?_⟩;(repeat (refine ⟨rfl,uH ?_⟩))
 (refine ⟨by omega,by omega,pf 270,by rw [hpc];rfl,dd ?_⟩)
 (repeat refine uC ?_)
 refine zq [] (yM w sw x l hx) rfl rfl rfl rfl rfl rfl (dd ?_);refine zq [6,7,5] (h) rfl rfl rfl rfl rfl rfl (dd ?_);refine .inl ⟨⟨false,[0,1,2],[6,7,8],[]⟩,by kernel_rfl,uH ?_⟩;repeat (refine ⟨rfl,uH ?_⟩)
 exact ⟨.inl rfl,_,zo.zT 2 0 5 rfl rfl rfl rfl (.inr rfl) (by simp) (by rw [List.length_map];exact hll.symm) (shut_map (enc:=qG) (fun _=>rfl) _) (zX rfl),rfl⟩
theorem znV {w:Wor} {m m':Mac} {e:Eve} {r0 r1:List Int} (sw:qR w) (ok:OkW w) (hl:i64 m.listen) (hpc:m.pc=20) (hs:zW w m=true) (t0:0<=m.zj) (hr:w.counts[m.zj.toNat]?= some r0) (hne:r0≠[]) (hll:r1.length=r0.length)
  (h:zb Tryz.prog 268 [⟨1,28,8,[[I w.zn,I w.current,I w.lock,lI w.pins,lV w.ze,lL w.zd,.sl 2 [] 1 0 w.counts.length false,lR w.zt]],0⟩,⟨1,97,44,[zD m],0⟩,⟨1,0,1,(w.counts.map zN).set m.zj.toNat [C.sl (3) [] 1 0 r0.length false],0⟩,⟨2,54,1,(r0).map jB,0⟩] [.agg [.ref 0 [] 8 0 0,.ref 1 [] 44 0 0]] (Ce e) [⟨1,28,8,[[I w.zn,I w.current,I w.lock,lI w.pins,lV w.ze,lL w.zd,.sl 2 [] 1 0 w.counts.length false,lR w.zt]],0⟩,⟨1,97,44,[zD m'],0⟩,⟨1,0,1,(w.counts.map zN).set m.zj.toNat [C.sl (3) [] 1 0 r0.length false],0⟩,⟨2,54,1,(r1).map jB,0⟩]):zb Tryz.prog 183 [] [Cw w,Cm m] (.tup [Cw { w with counts:=w.counts.set m.zj.toNat r1 },Cm m',Ce e]) []:=by
 have ml:((w.counts.map zN)).length=w.counts.length:=List.length_map ..;have ml1:(r1.map jB).length=r1.length:=List.length_map ..;have hlt:m.zj.toNat < w.counts.length:=(List.getElem?_eq_some_iff.1 hr).1;have own:∀ i,∀ r ∈ (w.counts.map zN).set m.zj.toNat ([C.sl i [] 1 0 r0.length false]),∀ c ∈ r,zx c=true:=fun i=>zy (enc:=zN) (fun _=>rfl) rfl _ _
 have gt:((w.counts.map zN).set m.zj.toNat ([C.sl 6 [] 1 0 r0.length false]))[m.zj.toNat]?= some ([C.sl 6 [] 1 0 r0.length false]):=List.getElem?_set_self (by simpa using hlt);have est:(((w.counts.map zN).set m.zj.toNat ([C.sl 6 [] 1 0 r0.length false])).set m.zj.toNat [.lst 0 1 (r1.map jB)])=(w.counts.set m.zj.toNat r1).map zN:=by rw [List.set_set,List.map_set];rfl
 have esh:∀ r ∈ (((w.counts.map zN).set m.zj.toNat ([C.sl 6 [] 1 0 r0.length false])).set m.zj.toNat [.lst 0 1 (r1.map jB)]),∀ c ∈ r,q8 c=true∧zx c=true:=by
  rw [est];exact shut_map (enc:=zN) (fun _=>rfl) _
 have hp:zmJ w.counts m.zj.toNat r0:=⟨sw.counts,hr,hne⟩;by_cases hn:m.listen < 0
 all_goals
  refine zb.zp (fn:=Tryz.f183) Tryz.func183 rfl (uH ?_);(repeat (first | refine uA ?_ | refine uB ?_))
  refine ⟨_,_,(zM w m ok hl).frame rfl _,dd ?_⟩;refine ⟨fun _=>dd ?_,fun h=>absurd ((hs).symm.trans h:true=false) (by decide)⟩;(repeat refine uC ?_)
  (repeat (first | refine uA ?_ | refine uB ?_))
  refine .inl ⟨⟨true,[2],[1],[0]⟩,by kernel_rfl,uH ?_⟩;refine ⟨_,_,(je).frame rfl _,dd ?_⟩;(repeat (refine ⟨rfl,uH ?_⟩))
  (refine ⟨by omega,by omega,pf 268,by rw [hpc];rfl,dd ?_⟩)
  (repeat refine uC ?_)
  refine zV [] [⟨1,28,8,[zJ w],0⟩,⟨1,97,44,[zD m],0⟩,⟨1,28,8,[zeW],0⟩,⟨1,97,44,[zeM],0⟩,⟨1,62,23,[zQ qu],0⟩,⟨1,0,1,(w.counts.map zN).set m.zj.toNat [C.sl (6) [] 1 0 r0.length false],0⟩,⟨2,54,1,(r0).map jB,0⟩] (rx:=.agg [I w.zn,I w.current,I w.lock,lI w.pins,lV w.ze,lL w.zd,.sl 5 [] 1 0 w.counts.length false,lR w.zt]) (zcO w sw w.counts rfl hp) (zc (zi (own 1)) rfl) rfl rfl rfl rfl rfl tH rfl (dd ?_);refine zV [7,8,5,6] [⟨1,28,8,[zJ w],0⟩,⟨1,97,44,[zD m],0⟩,⟨1,28,8,[zeW],0⟩,⟨1,97,44,[zeM],0⟩,⟨1,62,23,[zQ qu],0⟩,⟨1,0,1,(w.counts.map zN).set m.zj.toNat [C.sl (6) [] 1 0 r0.length false],0⟩,⟨2,54,1,(r1).map jB,0⟩,⟨1,28,8,[[I w.zn,I w.current,I w.lock,lI w.pins,lV w.ze,lL w.zd,.sl 5 [] 1 0 w.counts.length false,lR w.zt]],0⟩,⟨1,97,44,[zD m'],0⟩] (rx:=Ce e) h (zc rfl (zc rfl (zc (zi (own 3)) rfl))) (by show zK _ _::zK _ _::zK _ ⟨1,0,1,_,0⟩::_=_;rw [zG (enc:=zN) (fun _=>rfl)];rfl) rfl rfl rfl (zc rfl (zc rfl (zc rfl (zc rfl (zc rfl (zc (zi (own 6)) rfl)))))) tH rfl (dd ?_);refine .inl ⟨⟨false,[0,1,2],[7,8,9],[]⟩,by kernel_rfl,uH ?_⟩;repeat (refine ⟨rfl,uH ?_⟩)
  refine ⟨.inl rfl,_,(zo.zT 5 m.zj.toNat 0 rfl gt rfl rfl (.inr rfl) (by simp) (by rw [ml1,hll]) (shut_map (enc:=jB) (fun _=>rfl) _) (own 6)).trans (zo.zT 2 0 6 rfl rfl rfl rfl (.inl rfl) (by simp) (by simp) esh (zX rfl)),?_⟩;show _=some (C.tup [C.agg [I w.zn,I w.current,I w.lock,lI w.pins,lV w.ze,lL w.zd,C.lst 0 1 ((w.counts.set m.zj.toNat r1).map zN),lR w.zt],Cm m',Ce e]);rw [<- est]
  rfl
theorem znW {w:Wor} {m m':Mac} {e:Eve} {r0 r1:List Int} (sw:qR w) (ok:OkW w) (hl:i64 m.listen) (hpc:m.pc=21) (hs:zW w m=true) (t0:0<=m.zj) (hr:w.counts[m.zj.toNat]?= some r0) (hne:r0≠[]) (hll:r1.length=r0.length)
  (h:zb Tryz.prog 269 [⟨1,28,8,[[I w.zn,I w.current,I w.lock,lI w.pins,lV w.ze,lL w.zd,.sl 2 [] 1 0 w.counts.length false,lR w.zt]],0⟩,⟨1,97,44,[zD m],0⟩,⟨1,0,1,(w.counts.map zN).set m.zj.toNat [C.sl (3) [] 1 0 r0.length false],0⟩,⟨2,54,1,(r0).map jB,0⟩] [.agg [.ref 0 [] 8 0 0,.ref 1 [] 44 0 0]] (Ce e) [⟨1,28,8,[[I w.zn,I w.current,I w.lock,lI w.pins,lV w.ze,lL w.zd,.sl 2 [] 1 0 w.counts.length false,lR w.zt]],0⟩,⟨1,97,44,[zD m'],0⟩,⟨1,0,1,(w.counts.map zN).set m.zj.toNat [C.sl (3) [] 1 0 r0.length false],0⟩,⟨2,54,1,(r1).map jB,0⟩]):zb Tryz.prog 183 [] [Cw w,Cm m] (.tup [Cw { w with counts:=w.counts.set m.zj.toNat r1 },Cm m',Ce e]) []:=by
 have ml:((w.counts.map zN)).length=w.counts.length:=List.length_map ..;have ml1:(r1.map jB).length=r1.length:=List.length_map ..;have hlt:m.zj.toNat < w.counts.length:=(List.getElem?_eq_some_iff.1 hr).1;have own:∀ i,∀ r ∈ (w.counts.map zN).set m.zj.toNat ([C.sl i [] 1 0 r0.length false]),∀ c ∈ r,zx c=true:=fun i=>zy (enc:=zN) (fun _=>rfl) rfl _ _
 have gt:((w.counts.map zN).set m.zj.toNat ([C.sl 6 [] 1 0 r0.length false]))[m.zj.toNat]?= some ([C.sl 6 [] 1 0 r0.length false]):=List.getElem?_set_self (by simpa using hlt);have est:(((w.counts.map zN).set m.zj.toNat ([C.sl 6 [] 1 0 r0.length false])).set m.zj.toNat [.lst 0 1 (r1.map jB)])=(w.counts.set m.zj.toNat r1).map zN:=by rw [List.set_set,List.map_set];rfl
 have esh:∀ r ∈ (((w.counts.map zN).set m.zj.toNat ([C.sl 6 [] 1 0 r0.length false])).set m.zj.toNat [.lst 0 1 (r1.map jB)]),∀ c ∈ r,q8 c=true∧zx c=true:=by
  rw [est];exact shut_map (enc:=zN) (fun _=>rfl) _
 have hp:zmJ w.counts m.zj.toNat r0:=⟨sw.counts,hr,hne⟩;by_cases hn:m.listen < 0
 all_goals
  refine zb.zp (fn:=Tryz.f183) Tryz.func183 rfl (uH ?_);(repeat (first | refine uA ?_ | refine uB ?_))
  refine ⟨_,_,(zM w m ok hl).frame rfl _,dd ?_⟩;refine ⟨fun _=>dd ?_,fun h=>absurd ((hs).symm.trans h:true=false) (by decide)⟩;(repeat refine uC ?_)
  (repeat (first | refine uA ?_ | refine uB ?_))
  refine .inl ⟨⟨true,[2],[1],[0]⟩,by kernel_rfl,uH ?_⟩;refine ⟨_,_,(je).frame rfl _,dd ?_⟩;(repeat (refine ⟨rfl,uH ?_⟩))
  (refine ⟨by omega,by omega,pf 269,by rw [hpc];rfl,dd ?_⟩)
  (repeat refine uC ?_)
  refine zV [] [⟨1,28,8,[zJ w],0⟩,⟨1,97,44,[zD m],0⟩,⟨1,28,8,[zeW],0⟩,⟨1,97,44,[zeM],0⟩,⟨1,62,23,[zQ qu],0⟩,⟨1,0,1,(w.counts.map zN).set m.zj.toNat [C.sl (6) [] 1 0 r0.length false],0⟩,⟨2,54,1,(r0).map jB,0⟩] (rx:=.agg [I w.zn,I w.current,I w.lock,lI w.pins,lV w.ze,lL w.zd,.sl 5 [] 1 0 w.counts.length false,lR w.zt]) (zcO w sw w.counts rfl hp) (zc (zi (own 1)) rfl) rfl rfl rfl rfl rfl tH rfl (dd ?_);refine zV [7,8,5,6] [⟨1,28,8,[zJ w],0⟩,⟨1,97,44,[zD m],0⟩,⟨1,28,8,[zeW],0⟩,⟨1,97,44,[zeM],0⟩,⟨1,62,23,[zQ qu],0⟩,⟨1,0,1,(w.counts.map zN).set m.zj.toNat [C.sl (6) [] 1 0 r0.length false],0⟩,⟨2,54,1,(r1).map jB,0⟩,⟨1,28,8,[[I w.zn,I w.current,I w.lock,lI w.pins,lV w.ze,lL w.zd,.sl 5 [] 1 0 w.counts.length false,lR w.zt]],0⟩,⟨1,97,44,[zD m'],0⟩] (rx:=Ce e) h (zc rfl (zc rfl (zc (zi (own 3)) rfl))) (by show zK _ _::zK _ _::zK _ ⟨1,0,1,_,0⟩::_=_;rw [zG (enc:=zN) (fun _=>rfl)];rfl) rfl rfl rfl (zc rfl (zc rfl (zc rfl (zc rfl (zc rfl (zc (zi (own 6)) rfl)))))) tH rfl (dd ?_);refine .inl ⟨⟨false,[0,1,2],[7,8,9],[]⟩,by kernel_rfl,uH ?_⟩;repeat (refine ⟨rfl,uH ?_⟩)
  refine ⟨.inl rfl,_,(zo.zT 5 m.zj.toNat 0 rfl gt rfl rfl (.inr rfl) (by simp) (by rw [ml1,hll]) (shut_map (enc:=jB) (fun _=>rfl) _) (own 6)).trans (zo.zT 2 0 6 rfl rfl rfl rfl (.inl rfl) (by simp) (by simp) esh (zX rfl)),?_⟩;show _=some (C.tup [C.agg [I w.zn,I w.current,I w.lock,lI w.pins,lV w.ze,lL w.zd,C.lst 0 1 ((w.counts.set m.zj.toNat r1).map zN),lR w.zt],Cm m',Ce e]);rw [<- est]
  rfl
theorem jf {α β:Type} (f:α->β) (l:List α) (i:Nat) (a:α) (r:β) (h:f a=r):(l.map f).set i r=(l.set i a).map f:=by rw [List.map_set,h]
abbrev qp (e0:En) (hd ac:Int):En:={ e0 with head:=hd,zg:=ac }
abbrev yh (m:Mac) (g0:Gr) (e0:En) (tk hd ac:Int):Gr:={ g0 with zr:=tk,ends:=g0.ends.set m.end_.toNat (qp e0 hd ac) }
abbrev jY (m:Mac) (v0:Ver) (g0:Gr) (e0:En) (tk hd ac:Int):Ver:={ v0 with zm:=v0.zm.set m.zf.toNat (yh m g0 e0 tk hd ac) }
abbrev wb (w:Wor) (m:Mac) (v0:Ver) (g0:Gr) (e0:En) (tk hd ac:Int):Wor:={ w with ze:=w.ze.set m.version.toNat (jY m v0 g0 e0 tk hd ac) }
theorem zpR {w:Wor} {m m':Mac} {e:Eve} {v0:Ver} {g0:Gr} {e0:En} {tk hd ac:Int} (sw:qR w) (ok:OkW w) (hl:i64 m.listen) (hpc:m.pc=6) (hs:zW w m=true) (hat:AtE w m v0 g0 e0) (hne:e0.next≠[])
  (h:zb Tryz.prog 261 [⟨1,28,8,[(rwW w 2)],0⟩,⟨1,97,44,[zD m],0⟩,⟨1,0,5,rwV w m v0 (3),0⟩,⟨1,0,2,rwG m v0 g0 (g0.zr) (4),0⟩,⟨1,0,3,rwE m g0 e0 (e0.head) (5) (e0.zg),0⟩,⟨2,3,1,e0.next.map encI,0⟩] [.agg [.ref 0 [] 8 0 0,.ref 1 [] 44 0 0]] (Ce e) [⟨1,28,8,[(rwW w 2)],0⟩,⟨1,97,44,[zD m'],0⟩,⟨1,0,5,rwV w m v0 (3),0⟩,⟨1,0,2,rwG m v0 g0 (tk) (4),0⟩,⟨1,0,3,rwE m g0 e0 (hd) (5) (ac),0⟩,⟨2,3,1,e0.next.map encI,0⟩]):zb Tryz.prog 183 [] [Cw w,Cm m] (.tup [Cw (wb w m v0 g0 e0 tk hd ac),Cm m',Ce e]) []:=by
 have lv:=hat.ln.lv;have lg:=hat.ln.lg;have le:=hat.ln.le;have smv:=sw.ze.2 v0 (List.mem_of_getElem? hat.at_);have hp:zea w.ze m.version.toNat v0 m.zf.toNat g0 m.end_.toNat e0:=⟨⟨⟨smv.2 g0 (List.mem_of_getElem? hat.atg),hat.ate,hne⟩,smv,hat.atg⟩,sw.ze,hat.at_⟩;have ownV:∀ i,∀ r ∈ rwV w m v0 (i),∀ c ∈ r,zx c=true:=fun i=>zy (enc:=zI) (fun _=>rfl) rfl _ _
 have ownG:∀ i t,∀ r ∈ rwG m v0 g0 (t) (i),∀ c ∈ r,zx c=true:=fun i t=>zy (enc:=zE) (fun _=>rfl) rfl _ _
 have ownE:∀ i a b,∀ r ∈ rwE m g0 e0 (a) (i) (b),∀ c ∈ r,zx c=true:=fun i a b=>zy (enc:=zu) (fun _=>rfl) rfl _ _
 have gv:(rwV w m v0 (6))[m.version.toNat]?= some ((qJ v0.snap++[C.sl (6) [] 2 0 v0.zm.length false,Bo v0.qj])):=List.getElem?_set_self tP;have gg:(rwG m v0 g0 (tk) (7))[m.zf.toNat]?= some ([U (tk),C.sl (7) [] 3 0 g0.ends.length false]):=List.getElem?_set_self tN;have ge:(rwE m g0 e0 (hd) (8) (ac))[m.end_.toNat]?= some ([U (hd),C.sl (8) [] 1 0 e0.next.length false,I (ac)]):=List.getElem?_set_self tK;have estE:((rwE m g0 e0 (hd) (8) (ac)).set m.end_.toNat [U hd,C.lst 0 1 (e0.next.map encI),I ac])=(g0.ends.set m.end_.toNat (qp e0 hd ac)).map zu:=by rw [List.set_set];exact jf zu _ _ (qp e0 hd ac) _ rfl
 have estG:((rwG m v0 g0 (tk) (7)).set m.zf.toNat [U tk,C.lst 0 3 (((g0.ends.set m.end_.toNat (qp e0 hd ac)).map zu))])=(v0.zm.set m.zf.toNat (yh m g0 e0 tk hd ac)).map zE:=by rw [List.set_set];exact jf zE _ _ (yh m g0 e0 tk hd ac) _ rfl
 have estV:((rwV w m v0 (6)).set m.version.toNat (qJ v0.snap++[C.lst 0 2 (((v0.zm.set m.zf.toNat (yh m g0 e0 tk hd ac)).map zE)),Bo v0.qj]))=(w.ze.set m.version.toNat (jY m v0 g0 e0 tk hd ac)).map zI:=by rw [List.set_set];exact jf zI _ _ (jY m v0 g0 e0 tk hd ac) _ rfl
 have eshE:∀ r ∈ ((rwE m g0 e0 (hd) (8) (ac)).set m.end_.toNat [U hd,C.lst 0 1 (e0.next.map encI),I ac]),∀ c ∈ r,q8 c=true∧zx c=true:=by
  rw [estE];exact shut_map (enc:=zu) (fun _=>rfl) _
 have eshG:∀ r ∈ ((rwG m v0 g0 (tk) (7)).set m.zf.toNat [U tk,C.lst 0 3 ((rwE m g0 e0 (hd) (8) (ac)).set m.end_.toNat [U hd,C.lst 0 1 (e0.next.map encI),I ac])]),∀ c ∈ r,q8 c=true∧zx c=true:=by
  rw [estE,estG];exact shut_map (enc:=zE) (fun _=>rfl) _
 have eshV:∀ r ∈ ((rwV w m v0 (6)).set m.version.toNat (qJ v0.snap++[C.lst 0 2 ((rwG m v0 g0 (tk) (7)).set m.zf.toNat [U tk,C.lst 0 3 ((rwE m g0 e0 (hd) (8) (ac)).set m.end_.toNat [U hd,C.lst 0 1 (e0.next.map encI),I ac])]),Bo v0.qj])),∀ c ∈ r,q8 c=true∧zx c=true:=by
  rw [estE,estG,estV];exact shut_map (enc:=zI) (fun _=>rfl) _
 by_cases hn:m.listen < 0
 all_goals
  refine zb.zp (fn:=Tryz.f183) Tryz.func183 rfl (uH ?_);(repeat (first | refine uA ?_ | refine uB ?_))
  refine ⟨_,_,(zM w m ok hl).frame rfl _,dd ?_⟩;refine ⟨fun _=>dd ?_,fun h=>absurd ((hs).symm.trans h:true=false) (by decide)⟩;(repeat refine uC ?_)
  (repeat (first | refine uA ?_ | refine uB ?_))
  refine .inl ⟨⟨true,[2],[1],[0]⟩,by kernel_rfl,uH ?_⟩;refine ⟨_,_,(je).frame rfl _,dd ?_⟩;(repeat (refine ⟨rfl,uH ?_⟩))
  (refine ⟨by omega,by omega,pf 261,by rw [hpc];rfl,dd ?_⟩)
  (repeat refine uC ?_)
  refine zV [] [⟨1,28,8,[zJ w],0⟩,⟨1,97,44,[zD m],0⟩,⟨1,28,8,[zeW],0⟩,⟨1,97,44,[zeM],0⟩,⟨1,62,23,[zQ qu],0⟩,⟨1,0,5,rwV w m v0 (6),0⟩,⟨1,0,2,rwG m v0 g0 (g0.zr) (7),0⟩,⟨1,0,3,rwE m g0 e0 (e0.head) (8) (e0.zg),0⟩,⟨2,3,1,e0.next.map encI,0⟩] (rx:=.agg (rwW w 5)) (yi w sw w.ze rfl hp) (zc (zi (ownV 1)) (zc (zi (ownG 2 _)) (zc (zi (ownE 3 _ _)) rfl))) rfl rfl rfl rfl rfl uV rfl (dd ?_);refine zV [9,10,5,6,7,8] [⟨1,28,8,[zJ w],0⟩,⟨1,97,44,[zD m],0⟩,⟨1,28,8,[zeW],0⟩,⟨1,97,44,[zeM],0⟩,⟨1,62,23,[zQ qu],0⟩,⟨1,0,5,rwV w m v0 (6),0⟩,⟨1,0,2,rwG m v0 g0 (tk) (7),0⟩,⟨1,0,3,rwE m g0 e0 (hd) (8) (ac),0⟩,⟨2,3,1,e0.next.map encI,0⟩,⟨1,28,8,[(rwW w 5)],0⟩,⟨1,97,44,[zD m'],0⟩] (rx:=Ce e) h (zc rfl (zc rfl (zc (zi (ownV 3)) (zc (zi (ownG 4 _)) (zc (zi (ownE 5 _ _)) rfl))))) tA rfl rfl rfl (zc rfl (zc rfl (zc rfl (zc rfl (zc rfl (zc (zi (ownV 6)) (zc (zi (ownG 7 _)) (zc (zi (ownE 8 _ _)) rfl)))))))) uV rfl (dd ?_);refine .inl ⟨⟨false,[0,1,2],[9,10,11],[]⟩,by kernel_rfl,uH ?_⟩;repeat (refine ⟨rfl,uH ?_⟩)
  refine ⟨.inl rfl,_,(((zo.zT 7 m.end_.toNat 1 rfl ge rfl rfl (.inr rfl) (by simp) (by simp) (shut_map (enc:=encI) (fun _=>rfl) _) (ownE 8 _ _)).trans (zo.zT 6 m.zf.toNat 1 rfl gg rfl rfl (.inl rfl) (by simp) (by simp) eshE (ownG 7 _))).trans (zo.zT 5 m.version.toNat 3 rfl gv rfl rfl (.inl rfl) (by simp) (by simp) eshG (ownV 6))).trans (zo.zT 2 0 4 rfl rfl rfl rfl (.inl rfl) (by simp) (by simp) eshV (zX rfl)),?_⟩;show _=some (C.tup [C.agg [I w.zn,I w.current,I w.lock,lI w.pins,C.lst 0 5 ((w.ze.set m.version.toNat (jY m v0 g0 e0 tk hd ac)).map zI),lL w.zd,lCo w.counts,lR w.zt],Cm m',Ce e]);rw [<- estV,<- estG,<- estE]
  rfl
theorem zhv {w:Wor} {m m':Mac} {e:Eve} {v0:Ver} {g0:Gr} {e0:En} {tk hd ac:Int} (sw:qR w) (ok:OkW w) (hl:i64 m.listen) (hpc:m.pc=11) (hs:zW w m=true) (hat:AtE w m v0 g0 e0) (hne:e0.next≠[])
  (h:zb Tryz.prog 266 [⟨1,28,8,[(rwW w 2)],0⟩,⟨1,97,44,[zD m],0⟩,⟨1,0,5,rwV w m v0 (3),0⟩,⟨1,0,2,rwG m v0 g0 (g0.zr) (4),0⟩,⟨1,0,3,rwE m g0 e0 (e0.head) (5) (e0.zg),0⟩,⟨2,3,1,e0.next.map encI,0⟩] [.agg [.ref 0 [] 8 0 0,.ref 1 [] 44 0 0]] (Ce e) [⟨1,28,8,[(rwW w 2)],0⟩,⟨1,97,44,[zD m'],0⟩,⟨1,0,5,rwV w m v0 (3),0⟩,⟨1,0,2,rwG m v0 g0 (tk) (4),0⟩,⟨1,0,3,rwE m g0 e0 (hd) (5) (ac),0⟩,⟨2,3,1,e0.next.map encI,0⟩]):zb Tryz.prog 183 [] [Cw w,Cm m] (.tup [Cw (wb w m v0 g0 e0 tk hd ac),Cm m',Ce e]) []:=by
 have lv:=hat.ln.lv;have lg:=hat.ln.lg;have le:=hat.ln.le;have smv:=sw.ze.2 v0 (List.mem_of_getElem? hat.at_);have hp:zea w.ze m.version.toNat v0 m.zf.toNat g0 m.end_.toNat e0:=⟨⟨⟨smv.2 g0 (List.mem_of_getElem? hat.atg),hat.ate,hne⟩,smv,hat.atg⟩,sw.ze,hat.at_⟩;have ownV:∀ i,∀ r ∈ rwV w m v0 (i),∀ c ∈ r,zx c=true:=fun i=>zy (enc:=zI) (fun _=>rfl) rfl _ _
 have ownG:∀ i t,∀ r ∈ rwG m v0 g0 (t) (i),∀ c ∈ r,zx c=true:=fun i t=>zy (enc:=zE) (fun _=>rfl) rfl _ _
 have ownE:∀ i a b,∀ r ∈ rwE m g0 e0 (a) (i) (b),∀ c ∈ r,zx c=true:=fun i a b=>zy (enc:=zu) (fun _=>rfl) rfl _ _
 have gv:(rwV w m v0 (6))[m.version.toNat]?= some ((qJ v0.snap++[C.sl (6) [] 2 0 v0.zm.length false,Bo v0.qj])):=List.getElem?_set_self tP;have gg:(rwG m v0 g0 (tk) (7))[m.zf.toNat]?= some ([U (tk),C.sl (7) [] 3 0 g0.ends.length false]):=List.getElem?_set_self tN;have ge:(rwE m g0 e0 (hd) (8) (ac))[m.end_.toNat]?= some ([U (hd),C.sl (8) [] 1 0 e0.next.length false,I (ac)]):=List.getElem?_set_self tK;have estE:((rwE m g0 e0 (hd) (8) (ac)).set m.end_.toNat [U hd,C.lst 0 1 (e0.next.map encI),I ac])=(g0.ends.set m.end_.toNat (qp e0 hd ac)).map zu:=by rw [List.set_set];exact jf zu _ _ (qp e0 hd ac) _ rfl
 have estG:((rwG m v0 g0 (tk) (7)).set m.zf.toNat [U tk,C.lst 0 3 (((g0.ends.set m.end_.toNat (qp e0 hd ac)).map zu))])=(v0.zm.set m.zf.toNat (yh m g0 e0 tk hd ac)).map zE:=by rw [List.set_set];exact jf zE _ _ (yh m g0 e0 tk hd ac) _ rfl
 have estV:((rwV w m v0 (6)).set m.version.toNat (qJ v0.snap++[C.lst 0 2 (((v0.zm.set m.zf.toNat (yh m g0 e0 tk hd ac)).map zE)),Bo v0.qj]))=(w.ze.set m.version.toNat (jY m v0 g0 e0 tk hd ac)).map zI:=by rw [List.set_set];exact jf zI _ _ (jY m v0 g0 e0 tk hd ac) _ rfl
 have eshE:∀ r ∈ ((rwE m g0 e0 (hd) (8) (ac)).set m.end_.toNat [U hd,C.lst 0 1 (e0.next.map encI),I ac]),∀ c ∈ r,q8 c=true∧zx c=true:=by
  rw [estE];exact shut_map (enc:=zu) (fun _=>rfl) _
 have eshG:∀ r ∈ ((rwG m v0 g0 (tk) (7)).set m.zf.toNat [U tk,C.lst 0 3 ((rwE m g0 e0 (hd) (8) (ac)).set m.end_.toNat [U hd,C.lst 0 1 (e0.next.map encI),I ac])]),∀ c ∈ r,q8 c=true∧zx c=true:=by
  rw [estE,estG];exact shut_map (enc:=zE) (fun _=>rfl) _
 have eshV:∀ r ∈ ((rwV w m v0 (6)).set m.version.toNat (qJ v0.snap++[C.lst 0 2 ((rwG m v0 g0 (tk) (7)).set m.zf.toNat [U tk,C.lst 0 3 ((rwE m g0 e0 (hd) (8) (ac)).set m.end_.toNat [U hd,C.lst 0 1 (e0.next.map encI),I ac])]),Bo v0.qj])),∀ c ∈ r,q8 c=true∧zx c=true:=by
  rw [estE,estG,estV];exact shut_map (enc:=zI) (fun _=>rfl) _
 by_cases hn:m.listen < 0
 all_goals
  refine zb.zp (fn:=Tryz.f183) Tryz.func183 rfl (uH ?_);(repeat (first | refine uA ?_ | refine uB ?_))
  refine ⟨_,_,(zM w m ok hl).frame rfl _,dd ?_⟩;refine ⟨fun _=>dd ?_,fun h=>absurd ((hs).symm.trans h:true=false) (by decide)⟩;(repeat refine uC ?_)
  (repeat (first | refine uA ?_ | refine uB ?_))
  refine .inl ⟨⟨true,[2],[1],[0]⟩,by kernel_rfl,uH ?_⟩;refine ⟨_,_,(je).frame rfl _,dd ?_⟩;(repeat (refine ⟨rfl,uH ?_⟩))
  (refine ⟨by omega,by omega,pf 266,by rw [hpc];rfl,dd ?_⟩)
  (repeat refine uC ?_)
  refine zV [] [⟨1,28,8,[zJ w],0⟩,⟨1,97,44,[zD m],0⟩,⟨1,28,8,[zeW],0⟩,⟨1,97,44,[zeM],0⟩,⟨1,62,23,[zQ qu],0⟩,⟨1,0,5,rwV w m v0 (6),0⟩,⟨1,0,2,rwG m v0 g0 (g0.zr) (7),0⟩,⟨1,0,3,rwE m g0 e0 (e0.head) (8) (e0.zg),0⟩,⟨2,3,1,e0.next.map encI,0⟩] (rx:=.agg (rwW w 5)) (yi w sw w.ze rfl hp) (zc (zi (ownV 1)) (zc (zi (ownG 2 _)) (zc (zi (ownE 3 _ _)) rfl))) rfl rfl rfl rfl rfl uV rfl (dd ?_);refine zV [9,10,5,6,7,8] [⟨1,28,8,[zJ w],0⟩,⟨1,97,44,[zD m],0⟩,⟨1,28,8,[zeW],0⟩,⟨1,97,44,[zeM],0⟩,⟨1,62,23,[zQ qu],0⟩,⟨1,0,5,rwV w m v0 (6),0⟩,⟨1,0,2,rwG m v0 g0 (tk) (7),0⟩,⟨1,0,3,rwE m g0 e0 (hd) (8) (ac),0⟩,⟨2,3,1,e0.next.map encI,0⟩,⟨1,28,8,[(rwW w 5)],0⟩,⟨1,97,44,[zD m'],0⟩] (rx:=Ce e) h (zc rfl (zc rfl (zc (zi (ownV 3)) (zc (zi (ownG 4 _)) (zc (zi (ownE 5 _ _)) rfl))))) tA rfl rfl rfl (zc rfl (zc rfl (zc rfl (zc rfl (zc rfl (zc (zi (ownV 6)) (zc (zi (ownG 7 _)) (zc (zi (ownE 8 _ _)) rfl)))))))) uV rfl (dd ?_);refine .inl ⟨⟨false,[0,1,2],[9,10,11],[]⟩,by kernel_rfl,uH ?_⟩;repeat (refine ⟨rfl,uH ?_⟩)
  refine ⟨.inl rfl,_,(((zo.zT 7 m.end_.toNat 1 rfl ge rfl rfl (.inr rfl) (by simp) (by simp) (shut_map (enc:=encI) (fun _=>rfl) _) (ownE 8 _ _)).trans (zo.zT 6 m.zf.toNat 1 rfl gg rfl rfl (.inl rfl) (by simp) (by simp) eshE (ownG 7 _))).trans (zo.zT 5 m.version.toNat 3 rfl gv rfl rfl (.inl rfl) (by simp) (by simp) eshG (ownV 6))).trans (zo.zT 2 0 4 rfl rfl rfl rfl (.inl rfl) (by simp) (by simp) eshV (zX rfl)),?_⟩;show _=some (C.tup [C.agg [I w.zn,I w.current,I w.lock,lI w.pins,C.lst 0 5 ((w.ze.set m.version.toNat (jY m v0 g0 e0 tk hd ac)).map zI),lL w.zd,lCo w.counts,lR w.zt],Cm m',Ce e]);rw [<- estV,<- estG,<- estE]
  rfl
theorem znU {w:Wor} {m m':Mac} {e:Eve} {v0:Ver} {g0:Gr} {e0:En} {tk hd ac:Int} (sw:qR w) (ok:OkW w) (hl:i64 m.listen) (hpc:m.pc=12) (hs:zW w m=true) (hat:AtE w m v0 g0 e0) (hne:e0.next≠[])
  (h:zb Tryz.prog 267 [⟨1,28,8,[(rwW w 2)],0⟩,⟨1,97,44,[zD m],0⟩,⟨1,0,5,rwV w m v0 (3),0⟩,⟨1,0,2,rwG m v0 g0 (g0.zr) (4),0⟩,⟨1,0,3,rwE m g0 e0 (e0.head) (5) (e0.zg),0⟩,⟨2,3,1,e0.next.map encI,0⟩] [.agg [.ref 0 [] 8 0 0,.ref 1 [] 44 0 0]] (Ce e) [⟨1,28,8,[(rwW w 2)],0⟩,⟨1,97,44,[zD m'],0⟩,⟨1,0,5,rwV w m v0 (3),0⟩,⟨1,0,2,rwG m v0 g0 (tk) (4),0⟩,⟨1,0,3,rwE m g0 e0 (hd) (5) (ac),0⟩,⟨2,3,1,e0.next.map encI,0⟩]):zb Tryz.prog 183 [] [Cw w,Cm m] (.tup [Cw (wb w m v0 g0 e0 tk hd ac),Cm m',Ce e]) []:=by
 have lv:=hat.ln.lv;have lg:=hat.ln.lg;have le:=hat.ln.le;have smv:=sw.ze.2 v0 (List.mem_of_getElem? hat.at_);have hp:zea w.ze m.version.toNat v0 m.zf.toNat g0 m.end_.toNat e0:=⟨⟨⟨smv.2 g0 (List.mem_of_getElem? hat.atg),hat.ate,hne⟩,smv,hat.atg⟩,sw.ze,hat.at_⟩;have ownV:∀ i,∀ r ∈ rwV w m v0 (i),∀ c ∈ r,zx c=true:=fun i=>zy (enc:=zI) (fun _=>rfl) rfl _ _
 have ownG:∀ i t,∀ r ∈ rwG m v0 g0 (t) (i),∀ c ∈ r,zx c=true:=fun i t=>zy (enc:=zE) (fun _=>rfl) rfl _ _
 have ownE:∀ i a b,∀ r ∈ rwE m g0 e0 (a) (i) (b),∀ c ∈ r,zx c=true:=fun i a b=>zy (enc:=zu) (fun _=>rfl) rfl _ _
 have gv:(rwV w m v0 (6))[m.version.toNat]?= some ((qJ v0.snap++[C.sl (6) [] 2 0 v0.zm.length false,Bo v0.qj])):=List.getElem?_set_self tP;have gg:(rwG m v0 g0 (tk) (7))[m.zf.toNat]?= some ([U (tk),C.sl (7) [] 3 0 g0.ends.length false]):=List.getElem?_set_self tN;have ge:(rwE m g0 e0 (hd) (8) (ac))[m.end_.toNat]?= some ([U (hd),C.sl (8) [] 1 0 e0.next.length false,I (ac)]):=List.getElem?_set_self tK;have estE:((rwE m g0 e0 (hd) (8) (ac)).set m.end_.toNat [U hd,C.lst 0 1 (e0.next.map encI),I ac])=(g0.ends.set m.end_.toNat (qp e0 hd ac)).map zu:=by rw [List.set_set];exact jf zu _ _ (qp e0 hd ac) _ rfl
 have estG:((rwG m v0 g0 (tk) (7)).set m.zf.toNat [U tk,C.lst 0 3 (((g0.ends.set m.end_.toNat (qp e0 hd ac)).map zu))])=(v0.zm.set m.zf.toNat (yh m g0 e0 tk hd ac)).map zE:=by rw [List.set_set];exact jf zE _ _ (yh m g0 e0 tk hd ac) _ rfl
 have estV:((rwV w m v0 (6)).set m.version.toNat (qJ v0.snap++[C.lst 0 2 (((v0.zm.set m.zf.toNat (yh m g0 e0 tk hd ac)).map zE)),Bo v0.qj]))=(w.ze.set m.version.toNat (jY m v0 g0 e0 tk hd ac)).map zI:=by rw [List.set_set];exact jf zI _ _ (jY m v0 g0 e0 tk hd ac) _ rfl
 have eshE:∀ r ∈ ((rwE m g0 e0 (hd) (8) (ac)).set m.end_.toNat [U hd,C.lst 0 1 (e0.next.map encI),I ac]),∀ c ∈ r,q8 c=true∧zx c=true:=by
  rw [estE];exact shut_map (enc:=zu) (fun _=>rfl) _
 have eshG:∀ r ∈ ((rwG m v0 g0 (tk) (7)).set m.zf.toNat [U tk,C.lst 0 3 ((rwE m g0 e0 (hd) (8) (ac)).set m.end_.toNat [U hd,C.lst 0 1 (e0.next.map encI),I ac])]),∀ c ∈ r,q8 c=true∧zx c=true:=by
  rw [estE,estG];exact shut_map (enc:=zE) (fun _=>rfl) _
 have eshV:∀ r ∈ ((rwV w m v0 (6)).set m.version.toNat (qJ v0.snap++[C.lst 0 2 ((rwG m v0 g0 (tk) (7)).set m.zf.toNat [U tk,C.lst 0 3 ((rwE m g0 e0 (hd) (8) (ac)).set m.end_.toNat [U hd,C.lst 0 1 (e0.next.map encI),I ac])]),Bo v0.qj])),∀ c ∈ r,q8 c=true∧zx c=true:=by
  rw [estE,estG,estV];exact shut_map (enc:=zI) (fun _=>rfl) _
 by_cases hn:m.listen < 0
 all_goals
  refine zb.zp (fn:=Tryz.f183) Tryz.func183 rfl (uH ?_);(repeat (first | refine uA ?_ | refine uB ?_))
  refine ⟨_,_,(zM w m ok hl).frame rfl _,dd ?_⟩;refine ⟨fun _=>dd ?_,fun h=>absurd ((hs).symm.trans h:true=false) (by decide)⟩;(repeat refine uC ?_)
  (repeat (first | refine uA ?_ | refine uB ?_))
  refine .inl ⟨⟨true,[2],[1],[0]⟩,by kernel_rfl,uH ?_⟩;refine ⟨_,_,(je).frame rfl _,dd ?_⟩;(repeat (refine ⟨rfl,uH ?_⟩))
  (refine ⟨by omega,by omega,pf 267,by rw [hpc];rfl,dd ?_⟩)
  (repeat refine uC ?_)
  refine zV [] [⟨1,28,8,[zJ w],0⟩,⟨1,97,44,[zD m],0⟩,⟨1,28,8,[zeW],0⟩,⟨1,97,44,[zeM],0⟩,⟨1,62,23,[zQ qu],0⟩,⟨1,0,5,rwV w m v0 (6),0⟩,⟨1,0,2,rwG m v0 g0 (g0.zr) (7),0⟩,⟨1,0,3,rwE m g0 e0 (e0.head) (8) (e0.zg),0⟩,⟨2,3,1,e0.next.map encI,0⟩] (rx:=.agg (rwW w 5)) (yi w sw w.ze rfl hp) (zc (zi (ownV 1)) (zc (zi (ownG 2 _)) (zc (zi (ownE 3 _ _)) rfl))) rfl rfl rfl rfl rfl uV rfl (dd ?_);refine zV [9,10,5,6,7,8] [⟨1,28,8,[zJ w],0⟩,⟨1,97,44,[zD m],0⟩,⟨1,28,8,[zeW],0⟩,⟨1,97,44,[zeM],0⟩,⟨1,62,23,[zQ qu],0⟩,⟨1,0,5,rwV w m v0 (6),0⟩,⟨1,0,2,rwG m v0 g0 (tk) (7),0⟩,⟨1,0,3,rwE m g0 e0 (hd) (8) (ac),0⟩,⟨2,3,1,e0.next.map encI,0⟩,⟨1,28,8,[(rwW w 5)],0⟩,⟨1,97,44,[zD m'],0⟩] (rx:=Ce e) h (zc rfl (zc rfl (zc (zi (ownV 3)) (zc (zi (ownG 4 _)) (zc (zi (ownE 5 _ _)) rfl))))) tA rfl rfl rfl (zc rfl (zc rfl (zc rfl (zc rfl (zc rfl (zc (zi (ownV 6)) (zc (zi (ownG 7 _)) (zc (zi (ownE 8 _ _)) rfl)))))))) uV rfl (dd ?_);refine .inl ⟨⟨false,[0,1,2],[9,10,11],[]⟩,by kernel_rfl,uH ?_⟩;repeat (refine ⟨rfl,uH ?_⟩)
  refine ⟨.inl rfl,_,(((zo.zT 7 m.end_.toNat 1 rfl ge rfl rfl (.inr rfl) (by simp) (by simp) (shut_map (enc:=encI) (fun _=>rfl) _) (ownE 8 _ _)).trans (zo.zT 6 m.zf.toNat 1 rfl gg rfl rfl (.inl rfl) (by simp) (by simp) eshE (ownG 7 _))).trans (zo.zT 5 m.version.toNat 3 rfl gv rfl rfl (.inl rfl) (by simp) (by simp) eshG (ownV 6))).trans (zo.zT 2 0 4 rfl rfl rfl rfl (.inl rfl) (by simp) (by simp) eshV (zX rfl)),?_⟩;show _=some (C.tup [C.agg [I w.zn,I w.current,I w.lock,lI w.pins,C.lst 0 5 ((w.ze.set m.version.toNat (jY m v0 g0 e0 tk hd ac)).map zI),lL w.zd,lCo w.counts,lR w.zt],Cm m',Ce e]);rw [<- estV,<- estG,<- estE]
  rfl
end Go.Wor
