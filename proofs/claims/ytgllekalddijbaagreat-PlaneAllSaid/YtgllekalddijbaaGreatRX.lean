import Derived.Test.YtgllekalddijbaaGreatRW
import Derived.Test.YtgllekalddijbaaGreatRV
set_option linter.unusedVariables false
set_option linter.unusedSimpArgs false
set_option linter.unusedSectionVars false
set_option maxRecDepth 100000
set_option maxHeartbeats 4000000
namespace Go.Wor
open Go.Ab Go.Proofs Go.Hy Go.Gat Go.Nam Go.Hos Go.Con Go.Sna
abbrev lvM (w:Wor) (m:Mac):Mac:={ m with version:=w.current,zg:=0,end_:=0,other:=0,slot:=0,listen:=jd w.ze m.op.listen,pc:=4 }
abbrev ptE (e:Eve):Eve:={ e with wT:=true }
theorem xN (w:Wor) (m:Mac) (hl:w.ze.length < 4611686018427387904):
  zc Tryz.prog 261 [⟨1,28,8,[z5 w],0⟩,⟨1,43,44,[zP (m)],0⟩] [.agg [.ref 0 [] 8 0 0,.ref 1 [] 44 0 0]] (Ce (ptE (evO m 1 3 w.current))) [⟨1,28,8,[z5 w],0⟩,⟨1,43,44,[zP (if jd w.ze m.op.listen < 0 then vB (lvM w m) 2 else lvM w m)],0⟩]:=by
 refine qy (fn:=Tryz.f261) Tryz.func261 rfl (Nat.le_refl _) ?_;conv=>whnf
 refine .inr ⟨⟨[0,2,5,6],[0,1,2],true⟩,by kernel_rfl,fun _=>rfl,_,?_,fun t2 H2 h=>h⟩;(conv=>whnf)
 refine ⟨_,zc.blind [1] (qJ m 1 3 w.current) rfl rfl rfl rfl rfl rfl rfl (fun _=>rfl) (fun _=>rfl),?_⟩;(conv=>whnf)
 (refine ⟨?_,trivial⟩);(conv=>whnf);(repeat (refine ⟨rfl,?_⟩;(conv=>whnf)))
 (refine ⟨?_,trivial⟩);(conv=>whnf);(repeat (refine ⟨rfl,?_⟩;(conv=>whnf)))
 (refine ⟨_,_,.refl _,?_⟩);(conv=>whnf)
 refine .inl ⟨⟨true,[],[],[12]⟩,by kernel_rfl,?_⟩;(conv=>whnf)
 refine ⟨_,_,(k9 w.ze m.op.listen hl).frame rfl _,?_⟩;refine dd ?_
 repeat (refine ⟨rfl,?_⟩;conv=>whnf)
 refine ⟨fun h1=>?_,fun h1=>?_⟩
 ·have e1:jd w.ze m.op.listen < 0:=by simpa using h1
  rw [if_pos e1]
  refine dd ?_
  refine zG [1] (xz (lvM w m) 2) rfl rfl rfl rfl rfl rfl ?_;refine dd ?_
  exact ⟨.inl rfl,_,_,.refl _,rfl,cE 2⟩
 ·have e1:¬jd w.ze m.op.listen < 0:=by simpa using h1
  rw [if_neg e1]
  refine dd ?_
  exact ⟨.inl rfl,_,_,.refl _,rfl,cE 2⟩
end Go.Wor
namespace Go.Wor
open Go.Ab Go.Proofs Go.Hy Go.Gat Go.Nam Go.Hos Go.Con Go.Sna
theorem wo (w:Wor) (m:Mac) (sw:ja w) (ok:OkW w) (hl:i64 m.listen) (hs:qc w m=true):
  zc Tryz.prog 274 [⟨1,28,8,[z5 (w)],0⟩,⟨1,43,44,[zP (m)],0⟩] [.agg [.ref 0 [] 8 0 0,.ref 1 [] 44 0 0]] (Ce { zlk m with done:=true,answer:=m.answer }) [⟨1,28,8,[z5 (zdG w m.zo.toNat 0)],0⟩,⟨1,43,44,[zP ({ m with done:=true })],0⟩]:=by
 refine qy (fn:=Tryz.f274) Tryz.func274 rfl (Nat.le_refl _) ?_;conv=>whnf
 refine .inr ⟨⟨[1,3,5,7,8],[0,1,2],true⟩,by kernel_rfl,fun _=>rfl,fun t H=>t=[.za,.ref 2 [] 2 0 0,.ref 3 [] 23 0 0,.ref 4 [] 8 0 0,.ref 5 [] 23 0 0,.za,.za,.za,.za,.za,.za,.za,.za,.za,.za,.za,.za,.za,.za,.za,.za,.za,.za,.za,.za,.za,.za,.za,.za,.za,.za,.za,.za]∧H=[⟨1,28,8,[z5 (w)],0⟩,⟨1,43,44,[zP (m)],0⟩,⟨1,244,2,[[.ref 0 [] 8 0 0,.ref 1 [] 44 0 0]],0⟩,⟨1,81,23,[qB (qC)],0⟩,⟨1,28,8,[z5 (zdG w m.zo.toNat 0)],0⟩,⟨1,81,23,[qB (zlk m)],0⟩],?_,?_⟩
 ·conv=>whnf
  refine ⟨_,zc.blind [] (zjU w m sw ok hl hs) rfl rfl rfl rfl rfl rfl rfl (fun _=>rfl) (fun _=>rfl),?_⟩;(conv=>whnf)
  repeat' (first | (exact trivial) | (refine ⟨rfl,?_⟩;(conv=>whnf)) | (exact ⟨_,_,zq.ren [0,1,2,3,4,5] [1,2,3,4] _ _ rfl rfl rfl rfl,rfl,rfl⟩) | (exact ⟨_,_,zq.ren [0,1,2,3,5,4] [1,2,3,4] _ _ rfl rfl rfl rfl,rfl,rfl⟩) | (refine And.intro ?_ ?_ <;> (conv=>whnf)))
 rintro _ _ ⟨rfl,rfl⟩
 conv=>whnf
 refine .inr ⟨⟨[1,3],[2],true⟩,by kernel_rfl,fun _=>rfl,fun t H=>t=[.za,.ref 2 [] 2 0 0,.ref 3 [] 23 0 0,.za,.ref 5 [] 23 0 0,.za,.za,.za,.za,.za,.za,.za,.za,.za,.za,.za,.za,.za,.za,.za,.za,.za,.za,.za,.za,.za,.za,.za,.za,.za,.za,.za,.za]∧H=[⟨1,28,8,[z5 (zdG w m.zo.toNat 0)],0⟩,⟨1,43,44,[zP ({ m with done:=true })],0⟩,⟨1,244,2,[[.ref 0 [] 8 0 0,.ref 1 [] 44 0 0]],0⟩,⟨1,81,23,[qB (qC)],0⟩,⟨1,28,8,[z5 (zdG w m.zo.toNat 0)],0⟩,⟨1,81,23,[qB ({ zlk m with done:=true,answer:=m.answer })],0⟩],?_,?_⟩
 ·conv=>whnf
  repeat' (first | (exact trivial) | (refine ⟨rfl,?_⟩;(conv=>whnf)) | (exact ⟨_,_,zq.mask [1,2,4] _ _,rfl,rfl⟩) | (refine And.intro ?_ ?_ <;> (conv=>whnf)))
 rintro _ _ ⟨rfl,rfl⟩
 conv=>whnf
 exact ⟨.inl rfl,_,_,.refl _,rfl,cE 2⟩
end Go.Wor
namespace Go.Wor
open Go.Ab Go.Proofs Go.Hy Go.Gat Go.Nam Go.Hos Go.Con Go.Sna
def y4 (c:Clu) (d:Int):Int:=((hlt c)[(d % (hlt c).length).toNat]?).getD 0
def xt (c:Clu) (d0 d1:Int):Int × Int × Int:=if (hlt c).length=0 then (0,0,5) else (y4 c d0,y4 c d1,0)
theorem zjL {d:Int} {n:Nat} (hd:i64 d) (hn:0 < n) (hm:n < 1000000000000):IntKind.i64.wrap (d.tmod n+n)=d.tmod n+n∧(d.tmod n+n).tmod n=d % n:=by
 have h1:=Int.tmod_lt_of_pos d (show (0:Int) < n by omega)
 have h2:=Int.lt_tmod_of_pos d (show (0:Int) < n by omega)
 refine ⟨jz (by omega) (by omega),?_⟩
 rw [Int.tmod_eq_emod_of_nonneg (by omega),Int.add_emod_right]
 rw [Int.tmod_def,Int.sub_mul_emod_self_left]
theorem zgA {c:Clu} {d:Int} (hd:i64 d) (hn:0 < (hlt c).length) (hm:(hlt c).length < 1000000000000) {n:Nat} (e:n=(hlt c).length):
  0<=(IntKind.i64.wrap (d.tmod n+n)).tmod n∧((hlt c).map encI)[((IntKind.i64.wrap (d.tmod n+n)).tmod n).toNat]?= some [I (y4 c d)]:=by
 subst e
 obtain ⟨e1,e2⟩:=zjL hd hn hm
 rw [e1,e2]
 have h0:(0:Int) < (hlt c).length:=by omega
 have h1:=Int.emod_nonneg d (show ((hlt c).length:Int)≠0 by omega)
 have h2:=Int.emod_lt_of_pos d h0
 refine ⟨h1,?_⟩
 have hi:(hlt c)[(d % ((hlt c).length:Int)).toNat]?= some ((hlt c)[(d % ((hlt c).length:Int)).toNat]'(by omega)):=List.getElem?_eq_getElem _
 unfold y4
 rw [List.getElem?_map,hi]
 rfl
theorem zhq (c:Clu) (d0 d1:Int) (h0:i64 d0) (h1:i64 d1) (hl:c.zM.length < 1000000000000) (hh:(hlt c).length<=c.zM.length):zc Tryz.prog 325 [] [Cc c,I d0,I d1] (.tup [I (xt c d0 d1).1,I (xt c d0 d1).2.1,I (xt c d0 d1).2.2]) []:=by
 have ml:((hlt c).map encI).length=(hlt c).length:=List.length_map ..
 refine zc.zr (fn:=Tryz.f325) Tryz.func325 rfl ?_
 conv=>whnf
 refine ⟨_,_,(vH c hl).frame rfl _,?_⟩;refine dd ?_
 rw [ml]
 refine ⟨fun hz=>?_,fun hz=>?_⟩
 ·unfold xt
  have hz:=of_decide_eq_true hz
  rw [if_pos (by omega)]
  refine dd ?_
  exact ⟨.inl rfl,_,.refl _,rfl⟩
 ·unfold xt
  have hz:=of_decide_eq_false hz
  rw [if_neg (by omega)]
  refine dd ?_
  have hw:(((hlt c).length:Nat):Int)≠0:=by omega
  refine kI.ofN 3 (LoopN.step ?_)
  conv=>whnf
  (repeat ((first | apply ya | apply yb);refine dd ?_))
  (refine ⟨by decide,by decide,?_⟩);refine dd ?_
  split;(rotate_left;(rename_i hno;exact (hno _ (yg rfl rfl rfl hw)).elim));(rename_i v e;cases e.symm.trans (yg rfl rfl rfl hw));refine dd ?_
  split;(rotate_left;(rename_i hno;exact (hno _ (yg rfl rfl rfl hw)).elim));(rename_i v e;cases e.symm.trans (yg rfl rfl rfl hw));refine dd ?_
  obtain ⟨p0,p1⟩:=zgA h0 (c:=c) (by omega) (by omega) rfl
  refine ⟨p0,_,p1,?_⟩
  refine dd ?_
  (refine ⟨by decide,by decide,?_⟩);refine dd ?_
  refine .inl ⟨rfl,LoopN.step ?_⟩
  conv=>whnf
  (repeat ((first | apply ya | apply yb);refine dd ?_))
  (refine ⟨by decide,by decide,?_⟩);refine dd ?_
  split;(rotate_left;(rename_i hno;exact (hno _ (yg rfl rfl rfl hw)).elim));(rename_i v e;cases e.symm.trans (yg rfl rfl rfl hw));refine dd ?_
  split;(rotate_left;(rename_i hno;exact (hno _ (yg rfl rfl rfl hw)).elim));(rename_i v e;cases e.symm.trans (yg rfl rfl rfl hw));refine dd ?_
  obtain ⟨p2,p3⟩:=zgA h1 (c:=c) (by omega) (by omega) rfl
  refine ⟨p2,_,p3,?_⟩
  refine dd ?_
  (refine ⟨by decide,by decide,?_⟩);refine dd ?_
  refine .inl ⟨rfl,LoopN.step ?_⟩
  conv=>whnf
  (repeat ((first | apply ya | apply yb);refine dd ?_))
  refine .inr ⟨by simp,?_⟩
  conv=>whnf
  refine .inl ⟨⟨false,[],[],[]⟩,by kernel_rfl,?_⟩;(conv=>whnf)
  (refine ⟨by decide,by decide,?_⟩);refine dd ?_
  (refine ⟨by decide,by decide,?_⟩);refine dd ?_
  exact ⟨.inl rfl,_,.refl _,rfl⟩
end Go.Wor
namespace Go.Wor
open Go.Ab Go.Proofs Go.Hy Go.Gat Go.Nam Go.Hos Go.Con Go.Sna
abbrev jw (m:Mac) (v:Ver):Int × Int:=vp v.snap m.op.listen m.op.host m.op.path
def xq (m:Mac) (v:Ver):Mac:=if (jw m v).2≠0 then vB m 2 else match v.snap.zm[(jw m v).1.toNat]? with
 | none=>m
 | some c=>if (xt c m.op.d0 m.op.d1).2.2≠0 then vB { m with zg:=(jw m v).1 } 3
  else if c.jJ=1 then { m with zg:=(jw m v).1,pc:=6 }
  else { m with zg:=(jw m v).1,end_:=(xt c m.op.d0 m.op.d1).1,other:=(xt c m.op.d0 m.op.d1).2.1,pc:=7 }
structure OkR (m:Mac) (v:Ver):Prop where
 small:zkv v.snap
 host:m.op.host.length < 1000000000000
 path:m.op.path.length < 1000000000000
 d0:i64 m.op.d0
 d1:i64 m.op.d1
 zn2:(jw m v).2=0->0<=(jw m v).1∧∃ c,v.snap.zm[(jw m v).1.toNat]?= some c∧c.zM.length < 1000000000000
theorem zk6 (c:Clu):(hlt c).length<=c.zM.length:=zaR c.zM c.zM.length
theorem zeX {m:Mac} {v:Ver} (h:(jw m v).2≠0):xq m v=vB m 2:=if_pos h
theorem zcc {m:Mac} {v:Ver} {c:Clu} (h:(jw m v).2=0) (hc:v.snap.zm[(jw m v).1.toNat]?= some c) (hd:(xt c m.op.d0 m.op.d1).2.2≠0):xq m v=vB { m with zg:=(jw m v).1 } 3:=by
 unfold xq
 rw [if_neg (by omega),hc]
 exact if_pos hd
theorem zdO {m:Mac} {v:Ver} {c:Clu} (h:(jw m v).2=0) (hc:v.snap.zm[(jw m v).1.toNat]?= some c) (hd:(xt c m.op.d0 m.op.d1).2.2=0) (hp:c.jJ=1):xq m v={ m with zg:=(jw m v).1,pc:=6 }:=by
 unfold xq
 rw [if_neg (by omega),hc]
 exact (if_neg (by omega)).trans (if_pos hp)
theorem zdP {m:Mac} {v:Ver} {c:Clu} (h:(jw m v).2=0) (hc:v.snap.zm[(jw m v).1.toNat]?= some c) (hd:(xt c m.op.d0 m.op.d1).2.2=0) (hp:c.jJ≠1):
  xq m v={ m with zg:=(jw m v).1,end_:=(xt c m.op.d0 m.op.d1).1,other:=(xt c m.op.d0 m.op.d1).2.1,pc:=7 }:=by
 unfold xq
 rw [if_neg (by omega),hc]
 exact (if_neg (by omega)).trans (if_neg hp)
theorem zgF (w:Wor) (m:Mac) (v:Ver) (hv:AtV w m v) (h:OkR m v):zc Tryz.prog 306 [⟨1,28,8,[z5 w],0⟩,⟨1,43,44,[zP (m)],0⟩] [.agg [.ref 0 [] 8 0 0,.ref 1 [] 44 0 0]] (.tup []) [⟨1,28,8,[z5 w],0⟩,⟨1,43,44,[zP (xq m v)],0⟩]:=by
 have h0:=hv.v0
 have hr:=hv.row
 refine qy (fn:=Tryz.f306) Tryz.func306 rfl (Nat.le_refl _) ?_;conv=>whnf
 refine .inl ⟨⟨false,[],[],[]⟩,by kernel_rfl,?_⟩;(conv=>whnf)
 (refine ⟨h0,_,hr,?_⟩);refine dd ?_
 refine ⟨_,_,(zhx v.snap m.op.listen m.op.host m.op.path h.small h.host h.path).frame rfl _,?_⟩;refine dd ?_
 refine ⟨fun h1=>?_,fun h1=>?_⟩
 ·have h2:(jw m v).2≠0:=by simpa using h1
  rw [zeX h2]
  refine dd ?_
  refine zG [1] (xz m 2) rfl rfl rfl rfl rfl rfl ?_;refine dd ?_
  exact ⟨.inl rfl,_,_,.refl _,rfl,cE 2⟩
 ·have h2:(jw m v).2=0:=by simpa using h1
  obtain ⟨g0,c,hc,hcl⟩:=h.zn2 h2
  refine dd ?_
  refine .inr ⟨⟨[0,1,6,11,12],[0,1,2],true⟩,by kernel_rfl,fun _=>rfl,_,?_,fun t2 H2 h=>h⟩;(conv=>whnf)
  refine ⟨_,zc.blind [0,1] (vn w { m with zg:=(jw m v).1 } v c ⟨hv.v0,hv.at_⟩ g0 hc) rfl rfl rfl rfl rfl rfl rfl (fun _=>rfl) (fun _=>rfl),?_⟩;(conv=>whnf)
  refine ⟨_,zc.blind [] (zhq c m.op.d0 m.op.d1 h.d0 h.d1 hcl (zk6 c)) rfl rfl rfl rfl rfl rfl rfl (fun _=>rfl) (fun _=>rfl),?_⟩;(conv=>whnf)
  (refine ⟨_,_,.refl _,?_⟩);(conv=>whnf)
  refine ⟨fun h3=>?_,fun h3=>?_⟩
  ·have h4:(xt c m.op.d0 m.op.d1).2.2≠0:=by simpa using h3
   rw [zcc h2 hc h4]
   refine dd ?_
   refine zG [1] (xz { m with zg:=(jw m v).1 } 3) rfl rfl rfl rfl rfl rfl ?_;refine dd ?_
   exact ⟨.inr rfl,_,_,.refl _,rfl,cE 2⟩
  ·have h4:(xt c m.op.d0 m.op.d1).2.2=0:=by simpa using h3
   refine dd ?_
   refine zG [0,1] (vn w { m with zg:=(jw m v).1 } v c ⟨hv.v0,hv.at_⟩ g0 hc) rfl rfl rfl rfl rfl rfl ?_;refine dd ?_
   refine ⟨fun h5=>?_,fun h5=>?_⟩
   ·have h6:c.jJ=1:=by simpa using h5
    rw [zdO h2 hc h4 h6]
    refine dd ?_
    exact ⟨.inr rfl,_,_,.refl _,rfl,cE 2⟩
   ·have h6:c.jJ≠1:=by simpa using h5
    rw [zdP h2 hc h4 h6]
    refine dd ?_
    exact ⟨.inr rfl,_,_,.refl _,rfl,cE 2⟩
theorem yv (w:Wor) (m:Mac) (v:Ver) (hv:AtV w m v) (h:OkR m v) {l:Lis} (l0:0<=m.listen) (hl:w.ze[m.listen.toNat]?= some l):
  zc Tryz.prog 263 [⟨1,28,8,[z5 w],0⟩,⟨1,43,44,[zP (m)],0⟩] [.agg [.ref 0 [] 8 0 0,.ref 1 [] 44 0 0]] (Ce (if l.drain then { evO m 1 4 1 with wT:=true } else evO m 1 4 0)) [⟨1,28,8,[z5 w],0⟩,⟨1,43,44,[zP (if l.drain then vB m 5 else xq m v)],0⟩]:=by
 have lr:(w.ze.map jc)[m.listen.toNat]?= some (jc l):=by rw [List.getElem?_map,hl];rfl
 obtain ⟨ln,ld,la,lc⟩:=l
 cases ld
 all_goals
  refine qy (fn:=Tryz.f263) Tryz.func263 rfl (Nat.le_refl _) ?_;conv=>whnf
  refine .inl ⟨⟨false,[],[],[]⟩,by kernel_rfl,?_⟩;(conv=>whnf)
  (refine ⟨l0,_,lr,?_⟩);refine dd ?_
 ·(refine ⟨fun h=>absurd (h.symm.trans rfl:true=false) (by decide),fun _=>?_⟩);refine dd ?_
  refine zG [0,1] (zgF w m v hv h) rfl rfl rfl rfl rfl rfl ?_;refine dd ?_
  have et:(xq m v).zo=m.zo:=by
   unfold xq
   split
   ·rfl
   ·split
    ·rfl
    ·split
     ·rfl
     ·split <;> rfl
  have ee:evO m 1 4 0=evO (xq m v) 1 4 0:=by unfold evO;rw [et]
  have eg:(if ({ name:=ln,drain:=false,zj:=la,closed:=lc }:Lis).drain then { evO m 1 4 1 with wT:=true } else evO m 1 4 0)=evO (xq m v) 1 4 0:=ee
  rw [eg]
  refine zG [1] (qJ (xq m v) 1 4 0) rfl rfl rfl rfl rfl rfl ?_;refine dd ?_
  exact ⟨.inl rfl,_,_,.refl _,rfl,cE 2⟩
 ·(refine ⟨fun _=>?_,fun h=>absurd (h.symm.trans rfl:false=true) (by decide)⟩);refine dd ?_
  refine zG [1] (qJ m 1 4 1) rfl rfl rfl rfl rfl rfl ?_;refine dd ?_
  refine zG [1] (xz m 5) rfl rfl rfl rfl rfl rfl ?_;refine dd ?_
  exact ⟨.inl rfl,_,_,.refl _,rfl,cE 2⟩
end Go.Wor
namespace Go.Wor
open Go.Ab Go.Proofs Go.Hy Go.Gat Go.Nam Go.Hos Go.Con Go.Sna
theorem zcV (w:Wor) (m:Mac) (v0:Ver) (g0:Gr) (e0:En) (c:Clu) (hv:LnE w m v0 g0) (hc:v0.snap.zm[m.zg.toNat]?= some c):zc Tryz.prog 309 [⟨1,28,8,[[I w.zu,I w.current,I w.lock,lI w.pins,.sl 2 [] 5 0 w.zd.length false,lL w.ze,lCo w.counts,lR w.zt]],0⟩,⟨1,43,44,[zP (m)],0⟩,⟨1,0,5,(w.zd.map zw).set m.version.toNat ((zJ v0.snap++[C.sl 3 [] 2 0 v0.zf.length false,Bo v0.zC])),0⟩,⟨1,0,2,(v0.zf.map zp).set m.zg.toNat ([U g0.zl,C.sl 4 [] 3 0 g0.ends.length false]),0⟩,⟨1,0,3,(g0.ends.map zn).set m.end_.toNat ([U e0.head,C.sl 5 [] 1 0 e0.next.length false,I e0.zj]),0⟩,⟨2,3,1,e0.next.map encI,0⟩] [.agg [.ref 0 [] 8 0 0,.ref 1 [] 44 0 0]] (Cc c) [⟨1,28,8,[[I w.zu,I w.current,I w.lock,lI w.pins,.sl 2 [] 5 0 w.zd.length false,lL w.ze,lCo w.counts,lR w.zt]],0⟩,⟨1,43,44,[zP (m)],0⟩,⟨1,0,5,(w.zd.map zw).set m.version.toNat ((zJ v0.snap++[C.sl 3 [] 2 0 v0.zf.length false,Bo v0.zC])),0⟩,⟨1,0,2,(v0.zf.map zp).set m.zg.toNat ([U g0.zl,C.sl 4 [] 3 0 g0.ends.length false]),0⟩,⟨1,0,3,(g0.ends.map zn).set m.end_.toNat ([U e0.head,C.sl 5 [] 1 0 e0.next.length false,I e0.zj]),0⟩,⟨2,3,1,e0.next.map encI,0⟩]:=by
 have h0:=hv.pv
 have g0':=hv.pg
 have lv:m.version.toNat < w.zd.length:=hv.lv
 have cr:(v0.snap.zm.map jn)[m.zg.toNat]?= some (jn c):=by rw [List.getElem?_map,hc];rfl
 have lowV:∀ r ∈ (w.zd.map zw).set m.version.toNat ((zJ v0.snap++[C.sl 3 [] 2 0 v0.zf.length false,Bo v0.zC])),∀ c ∈ r,qH 6 9 c=true:=zx (enc:=zw) (fun _=>rfl) rfl _ _
 have lowG:∀ r ∈ (v0.zf.map zp).set m.zg.toNat ([U g0.zl,C.sl 4 [] 3 0 g0.ends.length false]),∀ c ∈ r,qH 6 9 c=true:=zx (enc:=zp) (fun _=>rfl) rfl _ _
 have lowE:∀ r ∈ (g0.ends.map zn).set m.end_.toNat ([U e0.head,C.sl 5 [] 1 0 e0.next.length false,I e0.zj]),∀ c ∈ r,qH 6 9 c=true:=zx (enc:=zn) (fun _=>rfl) rfl _ _
 have e1:0+m.version.toNat=m.version.toNat:=Nat.zero_add _
 have gv:((w.zd.map zw).set m.version.toNat ((zJ v0.snap++[C.sl 3 [] 2 0 v0.zf.length false,Bo v0.zC])))[m.version.toNat]?= some ((zJ v0.snap++[C.sl 3 [] 2 0 v0.zf.length false,Bo v0.zC])):=List.getElem?_set_self (by simpa using lv)
 refine qy (fn:=Tryz.f309) Tryz.func309 rfl (Nat.le_refl _) ?_;conv=>whnf
 refine .inl ⟨⟨false,[],[],[]⟩,by kernel_rfl,?_⟩;(conv=>whnf)
 refine ⟨h0,lv,?_⟩
 refine dd ?_
 rw [e1]
 refine ⟨_,gv,(by show 2+1<=5;decide),?_⟩
 refine dd ?_
 refine ⟨g0',_,cr,?_⟩
 refine dd ?_
 exact ⟨.inl rfl,_,_,.refl _,rfl,zq.xW 6 (by (conv=>whnf);(repeat (refine ⟨rfl,?_⟩;(conv=>whnf)));exact trivial) rfl rfl rfl (zN rfl (zN rfl (zN (qh lowV) (zN (qh lowG) (zN (qh lowE) rfl))))) rfl⟩
theorem zah (w:Wor) (m:Mac) (v0:Ver) (g0:Gr) (e0:En) (hv:LnE w m v0 g0) (x p a b c:Int):zc Tryz.prog 310 [⟨1,28,8,[[I w.zu,I w.current,I w.lock,lI w.pins,.sl 2 [] 5 0 w.zd.length false,lL w.ze,lCo w.counts,lR w.zt]],0⟩,⟨1,43,44,[zP ({ m with end_:=x,pc:=p })],0⟩,⟨1,0,5,(w.zd.map zw).set m.version.toNat ((zJ v0.snap++[C.sl 3 [] 2 0 v0.zf.length false,Bo v0.zC])),0⟩,⟨1,0,2,(v0.zf.map zp).set m.zg.toNat ([U g0.zl,C.sl 4 [] 3 0 g0.ends.length false]),0⟩,⟨1,0,3,(g0.ends.map zn).set m.end_.toNat ([U e0.head,C.sl 5 [] 1 0 e0.next.length false,I e0.zj]),0⟩,⟨2,3,1,e0.next.map encI,0⟩] [.agg [.ref 0 [] 8 0 0,.ref 1 [] 44 0 0],I a,I b,I c] (Ce (evV m v0 a b c)) [⟨1,28,8,[[I w.zu,I w.current,I w.lock,lI w.pins,.sl 2 [] 5 0 w.zd.length false,lL w.ze,lCo w.counts,lR w.zt]],0⟩,⟨1,43,44,[zP ({ m with end_:=x,pc:=p })],0⟩,⟨1,0,5,(w.zd.map zw).set m.version.toNat ((zJ v0.snap++[C.sl 3 [] 2 0 v0.zf.length false,Bo v0.zC])),0⟩,⟨1,0,2,(v0.zf.map zp).set m.zg.toNat ([U g0.zl,C.sl 4 [] 3 0 g0.ends.length false]),0⟩,⟨1,0,3,(g0.ends.map zn).set m.end_.toNat ([U e0.head,C.sl 5 [] 1 0 e0.next.length false,I e0.zj]),0⟩,⟨2,3,1,e0.next.map encI,0⟩]:=by
 have h0:=hv.pv
 have lv:m.version.toNat < w.zd.length:=hv.lv
 have e1:0+m.version.toNat=m.version.toNat:=Nat.zero_add _
 clear hv
 obtain ⟨sn,gs,fr⟩:=v0
 cases fr
 all_goals
  have ownV:∀ b,∀ r ∈ (w.zd.map zw).set m.version.toNat (zJ sn++[C.sl 3 [] 2 0 gs.length false,Bo b]),∀ c ∈ r,zy c=true:=fun b=>zx (enc:=zw) (fun _=>rfl) rfl _ _
  have ownG:∀ r ∈ (gs.map zp).set m.zg.toNat ([U g0.zl,C.sl 4 [] 3 0 g0.ends.length false]),∀ c ∈ r,zy c=true:=zx (enc:=zp) (fun _=>rfl) rfl _ _
  have ownE:∀ r ∈ (g0.ends.map zn).set m.end_.toNat ([U e0.head,C.sl 5 [] 1 0 e0.next.length false,I e0.zj]),∀ c ∈ r,zy c=true:=zx (enc:=zn) (fun _=>rfl) rfl _ _
  have lowV:∀ b,∀ r ∈ (w.zd.map zw).set m.version.toNat (zJ sn++[C.sl 3 [] 2 0 gs.length false,Bo b]),∀ c ∈ r,qH 6 9 c=true:=fun b=>zx (enc:=zw) (fun _=>rfl) rfl _ _
  have gv:∀ b,((w.zd.map zw).set m.version.toNat (zJ sn++[C.sl 3 [] 2 0 gs.length false,Bo b]))[m.version.toNat]?= some (zJ sn++[C.sl 3 [] 2 0 gs.length false,Bo b]):=fun b=>List.getElem?_set_self (by simpa using lv)
  have lowG:∀ r ∈ (gs.map zp).set m.zg.toNat ([U g0.zl,C.sl 4 [] 3 0 g0.ends.length false]),∀ c ∈ r,qH 6 9 c=true:=zx (enc:=zp) (fun _=>rfl) rfl _ _
  have lowE:∀ r ∈ (g0.ends.map zn).set m.end_.toNat ([U e0.head,C.sl 5 [] 1 0 e0.next.length false,I e0.zj]),∀ c ∈ r,qH 6 9 c=true:=zx (enc:=zn) (fun _=>rfl) rfl _ _
  refine qy (fn:=Tryz.f310) Tryz.func310 rfl (Nat.le_refl _) ?_;conv=>whnf
  refine zT [1] [⟨1,28,8,[[I w.zu,I w.current,I w.lock,lI w.pins,.sl 2 [] 5 0 w.zd.length false,lL w.ze,lCo w.counts,lR w.zt]],0⟩,⟨1,43,44,[zP ({ m with end_:=x,pc:=p })],0⟩,⟨1,0,5,(w.zd.map zw).set m.version.toNat (zJ sn++[C.sl 3 [] 2 0 gs.length false,Bo _]),0⟩,⟨1,0,2,(gs.map zp).set m.zg.toNat ([U g0.zl,C.sl 4 [] 3 0 g0.ends.length false]),0⟩,⟨1,0,3,(g0.ends.map zn).set m.end_.toNat ([U e0.head,C.sl 5 [] 1 0 e0.next.length false,I e0.zj]),0⟩,⟨2,3,1,e0.next.map encI,0⟩,⟨1,244,2,[[.ref 0 [] 8 0 0,.ref 1 [] 44 0 0]],0⟩,⟨1,81,23,[qB qC],0⟩] (rx:=Ce (evO m a b c)) (qJ { m with end_:=x,pc:=p } a b c) rfl rfl rfl rfl rfl (zb rfl (zb rfl (zb (zi (ownV _)) (zb (zi ownG) (zb (zi ownE) rfl))))) rfl rfl ?_
  refine dd ?_
  refine .inl ⟨⟨false,[6,9,11,14,17],[0,1,2,6],[]⟩,by kernel_rfl,?_⟩;(conv=>whnf)
  refine ⟨h0,lv,?_⟩
  refine dd ?_
  rw [e1]
  refine ⟨_,gv _,(by show 4+1<=5;decide),?_⟩
  refine dd ?_
  first | ((refine ⟨fun _=>?_,fun h=>absurd (h.symm.trans rfl:false=true) (by decide)⟩);refine dd ?_) | ((refine ⟨fun h=>absurd (h.symm.trans rfl:true=false) (by decide),fun _=>?_⟩);refine dd ?_)
  repeat (refine ⟨rfl,?_⟩;conv=>whnf)
  exact ⟨.inl rfl,_,_,.refl _,rfl,zq.xW 6 (by (conv=>whnf);(repeat (refine ⟨rfl,?_⟩;(conv=>whnf)));exact trivial) rfl rfl rfl (zN rfl (zN rfl (zN (qh (lowV _)) (zN (qh lowG) (zN (qh lowE) rfl))))) rfl⟩
abbrev zfT (m:Mac) (c:Clu) (t:Int):Mac:={ m with end_:=(vU c t).1,pc:=9 }
abbrev zlP (g:Gr):Gr:={ g with zl:=IntKind.u64.wrap (g.zl+1) }
theorem kn (w:Wor) (m:Mac) (v0:Ver) (g0:Gr) (e0:En) (c:Clu) (hv:LnE w m v0 g0) (hc:v0.snap.zm[m.zg.toNat]?= some c) (ht:u64 g0.zl) (hl:c.zM.length < 1000000000000):
  zc Tryz.prog 264 [⟨1,28,8,[[I w.zu,I w.current,I w.lock,lI w.pins,.sl 2 [] 5 0 w.zd.length false,lL w.ze,lCo w.counts,lR w.zt]],0⟩,⟨1,43,44,[zP (m)],0⟩,⟨1,0,5,(w.zd.map zw).set m.version.toNat ((zJ v0.snap++[C.sl 3 [] 2 0 v0.zf.length false,Bo v0.zC])),0⟩,⟨1,0,2,(v0.zf.map zp).set m.zg.toNat ([U g0.zl,C.sl 4 [] 3 0 g0.ends.length false]),0⟩,⟨1,0,3,(g0.ends.map zn).set m.end_.toNat ([U e0.head,C.sl 5 [] 1 0 e0.next.length false,I e0.zj]),0⟩,⟨2,3,1,e0.next.map encI,0⟩] [.agg [.ref 0 [] 8 0 0,.ref 1 [] 44 0 0]] (Ce (evV m v0 3 6 (IntKind.i64.wrap g0.zl))) [⟨1,28,8,[[I w.zu,I w.current,I w.lock,lI w.pins,.sl 2 [] 5 0 w.zd.length false,lL w.ze,lCo w.counts,lR w.zt]],0⟩,⟨1,43,44,[zP (zfT m c g0.zl)],0⟩,⟨1,0,5,(w.zd.map zw).set m.version.toNat ((zJ v0.snap++[C.sl 3 [] 2 0 v0.zf.length false,Bo v0.zC])),0⟩,⟨1,0,2,(v0.zf.map zp).set m.zg.toNat ([U (IntKind.u64.wrap (g0.zl+1)),C.sl 4 [] 3 0 g0.ends.length false]),0⟩,⟨1,0,3,(g0.ends.map zn).set m.end_.toNat ([U e0.head,C.sl 5 [] 1 0 e0.next.length false,I e0.zj]),0⟩,⟨2,3,1,e0.next.map encI,0⟩]:=by
 have lg:=hv.lg
 have ownV:∀ r ∈ (w.zd.map zw).set m.version.toNat ((zJ v0.snap++[C.sl 3 [] 2 0 v0.zf.length false,Bo v0.zC])),∀ c ∈ r,zy c=true:=zx (enc:=zw) (fun _=>rfl) rfl _ _
 have ownG:∀ r ∈ (v0.zf.map zp).set m.zg.toNat ([U g0.zl,C.sl 4 [] 3 0 g0.ends.length false]),∀ c ∈ r,zy c=true:=zx (enc:=zp) (fun _=>rfl) rfl _ _
 have ownE:∀ r ∈ (g0.ends.map zn).set m.end_.toNat ([U e0.head,C.sl 5 [] 1 0 e0.next.length false,I e0.zj]),∀ c ∈ r,zy c=true:=zx (enc:=zn) (fun _=>rfl) rfl _ _
 have gg:((v0.zf.map zp).set m.zg.toNat ([U g0.zl,C.sl 4 [] 3 0 g0.ends.length false]))[m.zg.toNat]?= some ([U g0.zl,C.sl 4 [] 3 0 g0.ends.length false]):=List.getElem?_set_self (by simpa using lg)
 refine qy (fn:=Tryz.f264) Tryz.func264 rfl (Nat.le_refl _) ?_;conv=>whnf
 refine zay [0,1,2,3,4,5] [⟨1,28,8,[[I w.zu,I w.current,I w.lock,lI w.pins,.sl 2 [] 5 0 w.zd.length false,lL w.ze,lCo w.counts,lR w.zt]],0⟩,⟨1,43,44,[zP (m)],0⟩,⟨1,0,5,(w.zd.map zw).set m.version.toNat ((zJ v0.snap++[C.sl 3 [] 2 0 v0.zf.length false,Bo v0.zC])),0⟩,⟨1,0,2,(v0.zf.map zp).set m.zg.toNat ([U g0.zl,C.sl 4 [] 3 0 g0.ends.length false]),0⟩,⟨1,0,3,(g0.ends.map zn).set m.end_.toNat ([U e0.head,C.sl 5 [] 1 0 e0.next.length false,I e0.zj]),0⟩,⟨2,3,1,e0.next.map encI,0⟩,⟨1,244,2,[[.ref 0 [] 8 0 0,.ref 1 [] 44 0 0]],0⟩,⟨1,81,23,[qB qC],0⟩] (rx:=.ref 3 [] 2 m.zg.toNat 0) (kg w m v0 g0 e0 hv) (zb rfl (zb rfl (zb (zi ownV) (zb (zi ownG) (zb (zi ownE) rfl))))) (by (show zI _ _::zI _ _::zI _ ⟨1,0,5,_,0⟩::zI _ ⟨1,0,2,_,0⟩::zI _ ⟨1,0,3,_,0⟩::_=_);(rw [zE (enc:=zw) (fun _=>rfl),zE (enc:=zp) (fun _=>rfl),zE (enc:=zn) (fun _=>rfl)]);rfl) rfl rfl rfl (zb rfl (zb rfl (zb (zi ownV) (zb (zi ownG) (zb (zi ownE) rfl))))) (by (show zF _ _::zF _ _::zF _ ⟨1,0,5,_,0⟩::zF _ ⟨1,0,2,_,0⟩::zF _ ⟨1,0,3,_,0⟩::_=_);(rw [zA (enc:=zw) (fun _=>rfl),zA (enc:=zp) (fun _=>rfl),zA (enc:=zn) (fun _=>rfl)]);rfl) rfl ?_
 refine dd ?_
 refine ⟨_,gg,(by show 0+1<=2;decide),?_⟩
 refine dd ?_
 refine zay [0,1,2,3,4,5] [⟨1,28,8,[[I w.zu,I w.current,I w.lock,lI w.pins,.sl 2 [] 5 0 w.zd.length false,lL w.ze,lCo w.counts,lR w.zt]],0⟩,⟨1,43,44,[zP (m)],0⟩,⟨1,0,5,(w.zd.map zw).set m.version.toNat ((zJ v0.snap++[C.sl 3 [] 2 0 v0.zf.length false,Bo v0.zC])),0⟩,⟨1,0,2,(v0.zf.map zp).set m.zg.toNat ([U g0.zl,C.sl 4 [] 3 0 g0.ends.length false]),0⟩,⟨1,0,3,(g0.ends.map zn).set m.end_.toNat ([U e0.head,C.sl 5 [] 1 0 e0.next.length false,I e0.zj]),0⟩,⟨2,3,1,e0.next.map encI,0⟩,⟨1,244,2,[[.ref 0 [] 8 0 0,.ref 1 [] 44 0 0]],0⟩,⟨1,81,23,[qB qC],0⟩] (rx:=.ref 3 [] 2 m.zg.toNat 0) (kg w m v0 g0 e0 hv) (zb rfl (zb rfl (zb (zi ownV) (zb (zi ownG) (zb (zi ownE) rfl))))) (by (show zI _ _::zI _ _::zI _ ⟨1,0,5,_,0⟩::zI _ ⟨1,0,2,_,0⟩::zI _ ⟨1,0,3,_,0⟩::_=_);(rw [zE (enc:=zw) (fun _=>rfl),zE (enc:=zp) (fun _=>rfl),zE (enc:=zn) (fun _=>rfl)]);rfl) rfl rfl rfl (zb rfl (zb rfl (zb (zi ownV) (zb (zi ownG) (zb (zi ownE) rfl))))) (by (show zF _ _::zF _ _::zF _ ⟨1,0,5,_,0⟩::zF _ ⟨1,0,2,_,0⟩::zF _ ⟨1,0,3,_,0⟩::_=_);(rw [zA (enc:=zw) (fun _=>rfl),zA (enc:=zp) (fun _=>rfl),zA (enc:=zn) (fun _=>rfl)]);rfl) rfl ?_
 refine dd ?_
 refine ⟨_,gg,(by show 0+1<=2;decide),?_⟩
 refine dd ?_
 refine ⟨_,gg,rfl,?_⟩
 refine dd ?_
 rw [List.set_set]
 have ownG2:∀ r ∈ (v0.zf.map zp).set m.zg.toNat ([U (IntKind.u64.wrap (g0.zl+1)),C.sl 4 [] 3 0 g0.ends.length false]),∀ c ∈ r,zy c=true:=zx (enc:=zp) (fun _=>rfl) rfl _ _
 have lowV:∀ r ∈ (w.zd.map zw).set m.version.toNat ((zJ v0.snap++[C.sl 3 [] 2 0 v0.zf.length false,Bo v0.zC])),∀ c ∈ r,qH 6 9 c=true:=zx (enc:=zw) (fun _=>rfl) rfl _ _
 have lowG:∀ r ∈ (v0.zf.map zp).set m.zg.toNat ([U (IntKind.u64.wrap (g0.zl+1)),C.sl 4 [] 3 0 g0.ends.length false]),∀ c ∈ r,qH 6 9 c=true:=zx (enc:=zp) (fun _=>rfl) rfl _ _
 have lowE:∀ r ∈ (g0.ends.map zn).set m.end_.toNat ([U e0.head,C.sl 5 [] 1 0 e0.next.length false,I e0.zj]),∀ c ∈ r,qH 6 9 c=true:=zx (enc:=zn) (fun _=>rfl) rfl _ _
 have hv2:LnE w m v0 (zlP g0):=⟨hv.pv,hv.lv,hv.pg,hv.lg,hv.pe,hv.le⟩
 refine .inl ⟨⟨true,[],[],[3,5]⟩,by kernel_rfl,?_⟩;(conv=>whnf)
 refine zT [0,1,2,3,4,5] [⟨1,28,8,[[I w.zu,I w.current,I w.lock,lI w.pins,.sl 2 [] 5 0 w.zd.length false,lL w.ze,lCo w.counts,lR w.zt]],0⟩,⟨1,43,44,[zP (m)],0⟩,⟨1,0,5,(w.zd.map zw).set m.version.toNat ((zJ v0.snap++[C.sl 3 [] 2 0 v0.zf.length false,Bo v0.zC])),0⟩,⟨1,0,2,(v0.zf.map zp).set m.zg.toNat ([U (IntKind.u64.wrap (g0.zl+1)),C.sl 4 [] 3 0 g0.ends.length false]),0⟩,⟨1,0,3,(g0.ends.map zn).set m.end_.toNat ([U e0.head,C.sl 5 [] 1 0 e0.next.length false,I e0.zj]),0⟩,⟨2,3,1,e0.next.map encI,0⟩,⟨1,244,2,[[.ref 0 [] 8 0 0,.ref 1 [] 44 0 0]],0⟩,⟨1,81,23,[qB qC],0⟩] (rx:=Cc c) (zcV w m v0 (zlP g0) e0 c hv2 hc) (zb rfl (zb rfl (zb (zi ownV) (zb (zi ownG2) (zb (zi ownE) rfl))))) (by (show zI _ _::zI _ _::zI _ ⟨1,0,5,_,0⟩::zI _ ⟨1,0,2,_,0⟩::zI _ ⟨1,0,3,_,0⟩::_=_);(rw [zE (enc:=zw) (fun _=>rfl),zE (enc:=zp) (fun _=>rfl),zE (enc:=zn) (fun _=>rfl)]);rfl) rfl rfl rfl (zb rfl (zb rfl (zb (zi ownV) (zb (zi ownG2) (zb (zi ownE) rfl))))) (by (show zF _ _::zF _ _::zF _ ⟨1,0,5,_,0⟩::zF _ ⟨1,0,2,_,0⟩::zF _ ⟨1,0,3,_,0⟩::_=_);(rw [zA (enc:=zw) (fun _=>rfl),zA (enc:=zp) (fun _=>rfl),zA (enc:=zn) (fun _=>rfl)]);rfl) rfl ?_
 refine dd ?_
 refine zT [] [⟨1,28,8,[[I w.zu,I w.current,I w.lock,lI w.pins,.sl 2 [] 5 0 w.zd.length false,lL w.ze,lCo w.counts,lR w.zt]],0⟩,⟨1,43,44,[zP (m)],0⟩,⟨1,0,5,(w.zd.map zw).set m.version.toNat ((zJ v0.snap++[C.sl 3 [] 2 0 v0.zf.length false,Bo v0.zC])),0⟩,⟨1,0,2,(v0.zf.map zp).set m.zg.toNat ([U (IntKind.u64.wrap (g0.zl+1)),C.sl 4 [] 3 0 g0.ends.length false]),0⟩,⟨1,0,3,(g0.ends.map zn).set m.end_.toNat ([U e0.head,C.sl 5 [] 1 0 e0.next.length false,I e0.zj]),0⟩,⟨2,3,1,e0.next.map encI,0⟩,⟨1,244,2,[[.ref 0 [] 8 0 0,.ref 1 [] 44 0 0]],0⟩,⟨1,81,23,[qB qC],0⟩] (rx:=.tup [I (vU c g0.zl).1,I (vU c g0.zl).2]) (zit c g0.zl ht hl (zk6 c)) rfl rfl rfl rfl rfl (zb rfl (zb rfl (zb (zi ownV) (zb (zi ownG2) (zb (zi ownE) rfl))))) rfl rfl ?_
 refine dd ?_
 refine zT [0,1,2,3,4,5] [⟨1,28,8,[[I w.zu,I w.current,I w.lock,lI w.pins,.sl 2 [] 5 0 w.zd.length false,lL w.ze,lCo w.counts,lR w.zt]],0⟩,⟨1,43,44,[zP (zfT m c g0.zl)],0⟩,⟨1,0,5,(w.zd.map zw).set m.version.toNat ((zJ v0.snap++[C.sl 3 [] 2 0 v0.zf.length false,Bo v0.zC])),0⟩,⟨1,0,2,(v0.zf.map zp).set m.zg.toNat ([U (IntKind.u64.wrap (g0.zl+1)),C.sl 4 [] 3 0 g0.ends.length false]),0⟩,⟨1,0,3,(g0.ends.map zn).set m.end_.toNat ([U e0.head,C.sl 5 [] 1 0 e0.next.length false,I e0.zj]),0⟩,⟨2,3,1,e0.next.map encI,0⟩,⟨1,244,2,[[.ref 0 [] 8 0 0,.ref 1 [] 44 0 0]],0⟩,⟨1,81,23,[qB qC],0⟩] (rx:=Ce (evV m v0 3 6 (IntKind.i64.wrap g0.zl))) (zah w m v0 (zlP g0) e0 hv2 (vU c g0.zl).1 9 3 6 (IntKind.i64.wrap g0.zl)) (zb rfl (zb rfl (zb (zi ownV) (zb (zi ownG2) (zb (zi ownE) rfl))))) (by (show zI _ _::zI _ _::zI _ ⟨1,0,5,_,0⟩::zI _ ⟨1,0,2,_,0⟩::zI _ ⟨1,0,3,_,0⟩::_=_);(rw [zE (enc:=zw) (fun _=>rfl),zE (enc:=zp) (fun _=>rfl),zE (enc:=zn) (fun _=>rfl)]);rfl) rfl rfl rfl (zb rfl (zb rfl (zb (zi ownV) (zb (zi ownG2) (zb (zi ownE) rfl))))) (by (show zF _ _::zF _ _::zF _ ⟨1,0,5,_,0⟩::zF _ ⟨1,0,2,_,0⟩::zF _ ⟨1,0,3,_,0⟩::_=_);(rw [zA (enc:=zw) (fun _=>rfl),zA (enc:=zp) (fun _=>rfl),zA (enc:=zn) (fun _=>rfl)]);rfl) rfl ?_
 refine dd ?_
 exact ⟨.inl rfl,_,_,.refl _,rfl,zq.xW 6 (by (conv=>whnf);(repeat (refine ⟨rfl,?_⟩;(conv=>whnf)));exact trivial) rfl rfl rfl (zN rfl (zN rfl (zN (qh lowV) (zN (qh lowG) (zN (qh lowE) rfl))))) rfl⟩
end Go.Wor
namespace Go.Wor
open Go.Ab Go.Proofs Go.Hy Go.Gat Go.Nam Go.Hos Go.Con Go.Sna
theorem zcp (w:Wor) (m:Mac) (v0:Ver) (g0:Gr) (e0:En) (hv:LnE w m v0 g0) (hw:u64 m.word) (l0: -1<=m.link) (l1:m.link<=2147483646) (hh:u64 e0.head) (hne:e0.head≠m.word):
  zc Tryz.prog 269 [⟨1,28,8,[[I w.zu,I w.current,I w.lock,lI w.pins,.sl 2 [] 5 0 w.zd.length false,lL w.ze,lCo w.counts,lR w.zt]],0⟩,⟨1,43,44,[zP (m)],0⟩,⟨1,0,5,(w.zd.map zw).set m.version.toNat ((zJ v0.snap++[C.sl 3 [] 2 0 v0.zf.length false,Bo v0.zC])),0⟩,⟨1,0,2,(v0.zf.map zp).set m.zg.toNat ([U g0.zl,C.sl 4 [] 3 0 g0.ends.length false]),0⟩,⟨1,0,3,(g0.ends.map zn).set m.end_.toNat ([U e0.head,C.sl 5 [] 1 0 e0.next.length false,I e0.zj]),0⟩,⟨2,3,1,e0.next.map encI,0⟩] [.agg [.ref 0 [] 8 0 0,.ref 1 [] 44 0 0]] (Ce (evV m v0 5 8 (e0.head % 4294967296 - 1))) [⟨1,28,8,[[I w.zu,I w.current,I w.lock,lI w.pins,.sl 2 [] 5 0 w.zd.length false,lL w.ze,lCo w.counts,lR w.zt]],0⟩,⟨1,43,44,[zP ({ m with pc:=9 })],0⟩,⟨1,0,5,(w.zd.map zw).set m.version.toNat ((zJ v0.snap++[C.sl 3 [] 2 0 v0.zf.length false,Bo v0.zC])),0⟩,⟨1,0,2,(v0.zf.map zp).set m.zg.toNat ([U g0.zl,C.sl 4 [] 3 0 g0.ends.length false]),0⟩,⟨1,0,3,(g0.ends.map zn).set m.end_.toNat ([U e0.head,C.sl 5 [] 1 0 e0.next.length false,I e0.zj]),0⟩,⟨2,3,1,e0.next.map encI,0⟩]:=by
 (have le:=hv.le);(have ownV:∀ r ∈ (w.zd.map zw).set m.version.toNat ((zJ v0.snap++[C.sl 3 [] 2 0 v0.zf.length false,Bo v0.zC])),∀ c ∈ r,zy c=true:=zx (enc:=zw) (fun _=>rfl) rfl _ _);(have ownG:∀ r ∈ (v0.zf.map zp).set m.zg.toNat ([U g0.zl,C.sl 4 [] 3 0 g0.ends.length false]),∀ c ∈ r,zy c=true:=zx (enc:=zp) (fun _=>rfl) rfl _ _);(have ownE:∀ r ∈ (g0.ends.map zn).set m.end_.toNat ([U e0.head,C.sl 5 [] 1 0 e0.next.length false,I e0.zj]),∀ c ∈ r,zy c=true:=zx (enc:=zn) (fun _=>rfl) rfl _ _);(have lowV:∀ r ∈ (w.zd.map zw).set m.version.toNat ((zJ v0.snap++[C.sl 3 [] 2 0 v0.zf.length false,Bo v0.zC])),∀ c ∈ r,qH 6 9 c=true:=zx (enc:=zw) (fun _=>rfl) rfl _ _);(have lowG:∀ r ∈ (v0.zf.map zp).set m.zg.toNat ([U g0.zl,C.sl 4 [] 3 0 g0.ends.length false]),∀ c ∈ r,qH 6 9 c=true:=zx (enc:=zp) (fun _=>rfl) rfl _ _)
 have lowE:∀ r ∈ (g0.ends.map zn).set m.end_.toNat ([U e0.head,C.sl 5 [] 1 0 e0.next.length false,I e0.zj]),∀ c ∈ r,qH 6 9 c=true:=zx (enc:=zn) (fun _=>rfl) rfl _ _
 have ge:((g0.ends.map zn).set m.end_.toNat ([U e0.head,C.sl 5 [] 1 0 e0.next.length false,I e0.zj]))[m.end_.toNat]?= some ([U e0.head,C.sl 5 [] 1 0 e0.next.length false,I e0.zj]):=List.getElem?_set_self (by simpa using le)
 have hv2:LnE w { m with pc:=9 } v0 g0:=⟨hv.pv,hv.lv,hv.pg,hv.lg,hv.pe,hv.le⟩
 refine qy (fn:=Tryz.f269) Tryz.func269 rfl (Nat.le_refl _) ?_;conv=>whnf
 refine .inl ⟨⟨true,[],[],[8]⟩,by kernel_rfl,?_⟩;(conv=>whnf)
 refine zT [] [⟨1,28,8,[[I w.zu,I w.current,I w.lock,lI w.pins,.sl 2 [] 5 0 w.zd.length false,lL w.ze,lCo w.counts,lR w.zt]],0⟩,⟨1,43,44,[zP (m)],0⟩,⟨1,0,5,(w.zd.map zw).set m.version.toNat ((zJ v0.snap++[C.sl 3 [] 2 0 v0.zf.length false,Bo v0.zC])),0⟩,⟨1,0,2,(v0.zf.map zp).set m.zg.toNat ([U g0.zl,C.sl 4 [] 3 0 g0.ends.length false]),0⟩,⟨1,0,3,(g0.ends.map zn).set m.end_.toNat ([U e0.head,C.sl 5 [] 1 0 e0.next.length false,I e0.zj]),0⟩,⟨2,3,1,e0.next.map encI,0⟩,⟨1,244,2,[[.ref 0 [] 8 0 0,.ref 1 [] 44 0 0]],0⟩,⟨1,81,23,[qB qC],0⟩] (rx:=.tup [U (Slp.z6 m.word m.link),I 0]) (Slp.zag m.word m.link hw l0 l1) rfl rfl rfl rfl rfl (zb rfl (zb rfl (zb (zi ownV) (zb (zi ownG) (zb (zi ownE) rfl))))) rfl rfl ?_
 refine dd ?_
 refine .inl ⟨⟨true,[],[],[1]⟩,by kernel_rfl,?_⟩;(conv=>whnf)
 refine zT [0,1,2,3,4,5] [⟨1,28,8,[[I w.zu,I w.current,I w.lock,lI w.pins,.sl 2 [] 5 0 w.zd.length false,lL w.ze,lCo w.counts,lR w.zt]],0⟩,⟨1,43,44,[zP (m)],0⟩,⟨1,0,5,(w.zd.map zw).set m.version.toNat ((zJ v0.snap++[C.sl 3 [] 2 0 v0.zf.length false,Bo v0.zC])),0⟩,⟨1,0,2,(v0.zf.map zp).set m.zg.toNat ([U g0.zl,C.sl 4 [] 3 0 g0.ends.length false]),0⟩,⟨1,0,3,(g0.ends.map zn).set m.end_.toNat ([U e0.head,C.sl 5 [] 1 0 e0.next.length false,I e0.zj]),0⟩,⟨2,3,1,e0.next.map encI,0⟩,⟨1,244,2,[[.ref 0 [] 8 0 0,.ref 1 [] 44 0 0]],0⟩,⟨1,81,23,[qB qC],0⟩] (rx:=.ref 4 [] 3 m.end_.toNat 0) (xX w m v0 g0 e0 hv) (zb rfl (zb rfl (zb (zi ownV) (zb (zi ownG) (zb (zi ownE) rfl))))) (by (show zI _ _::zI _ _::zI _ ⟨1,0,5,_,0⟩::zI _ ⟨1,0,2,_,0⟩::zI _ ⟨1,0,3,_,0⟩::_=_);(rw [zE (enc:=zw) (fun _=>rfl),zE (enc:=zp) (fun _=>rfl),zE (enc:=zn) (fun _=>rfl)]);rfl) rfl rfl rfl (zb rfl (zb rfl (zb (zi ownV) (zb (zi ownG) (zb (zi ownE) rfl))))) (by (show zF _ _::zF _ _::zF _ ⟨1,0,5,_,0⟩::zF _ ⟨1,0,2,_,0⟩::zF _ ⟨1,0,3,_,0⟩::_=_);(rw [zA (enc:=zw) (fun _=>rfl),zA (enc:=zp) (fun _=>rfl),zA (enc:=zn) (fun _=>rfl)]);rfl) rfl ?_
 refine dd ?_
 refine ⟨_,ge,(by show 0+1<=3;decide),?_⟩
 refine dd ?_
 refine ⟨fun _=>?_,fun h=>absurd h (by simpa using hne)⟩
 refine dd ?_
 refine .inl ⟨⟨true,[],[],[2,6,7]⟩,by kernel_rfl,?_⟩;(conv=>whnf)
 refine zT [0,1,2,3,4,5] [⟨1,28,8,[[I w.zu,I w.current,I w.lock,lI w.pins,.sl 2 [] 5 0 w.zd.length false,lL w.ze,lCo w.counts,lR w.zt]],0⟩,⟨1,43,44,[zP ({ m with pc:=9 })],0⟩,⟨1,0,5,(w.zd.map zw).set m.version.toNat ((zJ v0.snap++[C.sl 3 [] 2 0 v0.zf.length false,Bo v0.zC])),0⟩,⟨1,0,2,(v0.zf.map zp).set m.zg.toNat ([U g0.zl,C.sl 4 [] 3 0 g0.ends.length false]),0⟩,⟨1,0,3,(g0.ends.map zn).set m.end_.toNat ([U e0.head,C.sl 5 [] 1 0 e0.next.length false,I e0.zj]),0⟩,⟨2,3,1,e0.next.map encI,0⟩,⟨1,244,2,[[.ref 0 [] 8 0 0,.ref 1 [] 44 0 0]],0⟩,⟨1,81,23,[qB qC],0⟩] (rx:=.ref 4 [] 3 m.end_.toNat 0) (xX w _ v0 g0 e0 hv2) (zb rfl (zb rfl (zb (zi ownV) (zb (zi ownG) (zb (zi ownE) rfl))))) (by (show zI _ _::zI _ _::zI _ ⟨1,0,5,_,0⟩::zI _ ⟨1,0,2,_,0⟩::zI _ ⟨1,0,3,_,0⟩::_=_);(rw [zE (enc:=zw) (fun _=>rfl),zE (enc:=zp) (fun _=>rfl),zE (enc:=zn) (fun _=>rfl)]);rfl) rfl rfl rfl (zb rfl (zb rfl (zb (zi ownV) (zb (zi ownG) (zb (zi ownE) rfl))))) (by (show zF _ _::zF _ _::zF _ ⟨1,0,5,_,0⟩::zF _ ⟨1,0,2,_,0⟩::zF _ ⟨1,0,3,_,0⟩::_=_);(rw [zA (enc:=zw) (fun _=>rfl),zA (enc:=zp) (fun _=>rfl),zA (enc:=zn) (fun _=>rfl)]);rfl) rfl ?_
 refine dd ?_
 refine ⟨_,ge,(by show 0+1<=3;decide),?_⟩
 refine dd ?_
 refine zT [] [⟨1,28,8,[[I w.zu,I w.current,I w.lock,lI w.pins,.sl 2 [] 5 0 w.zd.length false,lL w.ze,lCo w.counts,lR w.zt]],0⟩,⟨1,43,44,[zP ({ m with pc:=9 })],0⟩,⟨1,0,5,(w.zd.map zw).set m.version.toNat ((zJ v0.snap++[C.sl 3 [] 2 0 v0.zf.length false,Bo v0.zC])),0⟩,⟨1,0,2,(v0.zf.map zp).set m.zg.toNat ([U g0.zl,C.sl 4 [] 3 0 g0.ends.length false]),0⟩,⟨1,0,3,(g0.ends.map zn).set m.end_.toNat ([U e0.head,C.sl 5 [] 1 0 e0.next.length false,I e0.zj]),0⟩,⟨2,3,1,e0.next.map encI,0⟩,⟨1,244,2,[[.ref 0 [] 8 0 0,.ref 1 [] 44 0 0]],0⟩,⟨1,81,23,[qB qC],0⟩] (rx:=I (e0.head % 4294967296 - 1)) (Slp.qg e0.head hh) rfl rfl rfl rfl rfl (zb rfl (zb rfl (zb (zi ownV) (zb (zi ownG) (zb (zi ownE) rfl))))) rfl rfl ?_
 refine dd ?_
 refine zT [0,1,2,3,4,5] [⟨1,28,8,[[I w.zu,I w.current,I w.lock,lI w.pins,.sl 2 [] 5 0 w.zd.length false,lL w.ze,lCo w.counts,lR w.zt]],0⟩,⟨1,43,44,[zP ({ m with pc:=9 })],0⟩,⟨1,0,5,(w.zd.map zw).set m.version.toNat ((zJ v0.snap++[C.sl 3 [] 2 0 v0.zf.length false,Bo v0.zC])),0⟩,⟨1,0,2,(v0.zf.map zp).set m.zg.toNat ([U g0.zl,C.sl 4 [] 3 0 g0.ends.length false]),0⟩,⟨1,0,3,(g0.ends.map zn).set m.end_.toNat ([U e0.head,C.sl 5 [] 1 0 e0.next.length false,I e0.zj]),0⟩,⟨2,3,1,e0.next.map encI,0⟩,⟨1,244,2,[[.ref 0 [] 8 0 0,.ref 1 [] 44 0 0]],0⟩,⟨1,81,23,[qB qC],0⟩] (rx:=Ce (evV m v0 5 8 (e0.head % 4294967296 - 1))) (zah w m v0 g0 e0 hv m.end_ 9 5 8 (e0.head % 4294967296 - 1)) (zb rfl (zb rfl (zb (zi ownV) (zb (zi ownG) (zb (zi ownE) rfl))))) (by (show zI _ _::zI _ _::zI _ ⟨1,0,5,_,0⟩::zI _ ⟨1,0,2,_,0⟩::zI _ ⟨1,0,3,_,0⟩::_=_);(rw [zE (enc:=zw) (fun _=>rfl),zE (enc:=zp) (fun _=>rfl),zE (enc:=zn) (fun _=>rfl)]);rfl) rfl rfl rfl (zb rfl (zb rfl (zb (zi ownV) (zb (zi ownG) (zb (zi ownE) rfl))))) (by (show zF _ _::zF _ _::zF _ ⟨1,0,5,_,0⟩::zF _ ⟨1,0,2,_,0⟩::zF _ ⟨1,0,3,_,0⟩::_=_);(rw [zA (enc:=zw) (fun _=>rfl),zA (enc:=zp) (fun _=>rfl),zA (enc:=zn) (fun _=>rfl)]);rfl) rfl ?_
 refine dd ?_
 exact ⟨.inl rfl,_,_,.refl _,rfl,zq.xW 6 (by (conv=>whnf);(repeat (refine ⟨rfl,?_⟩;(conv=>whnf)));exact trivial) rfl rfl rfl (zN rfl (zN rfl (zN (qh lowV) (zN (qh lowG) (zN (qh lowE) rfl))))) rfl⟩
theorem xV (w:Wor) (m:Mac) (v0:Ver) (g0:Gr) (e0:En) (hv:LnE w m v0 g0) (hw:u64 m.word) (l0: -1<=m.link) (l1:m.link<=2147483646) (hne:e0.head=m.word):
  zc Tryz.prog 269 [⟨1,28,8,[[I w.zu,I w.current,I w.lock,lI w.pins,.sl 2 [] 5 0 w.zd.length false,lL w.ze,lCo w.counts,lR w.zt]],0⟩,⟨1,43,44,[zP (m)],0⟩,⟨1,0,5,(w.zd.map zw).set m.version.toNat ((zJ v0.snap++[C.sl 3 [] 2 0 v0.zf.length false,Bo v0.zC])),0⟩,⟨1,0,2,(v0.zf.map zp).set m.zg.toNat ([U g0.zl,C.sl 4 [] 3 0 g0.ends.length false]),0⟩,⟨1,0,3,(g0.ends.map zn).set m.end_.toNat ([U e0.head,C.sl 5 [] 1 0 e0.next.length false,I e0.zj]),0⟩,⟨2,3,1,e0.next.map encI,0⟩] [.agg [.ref 0 [] 8 0 0,.ref 1 [] 44 0 0]] (Ce (evV m v0 4 8 m.slot)) [⟨1,28,8,[[I w.zu,I w.current,I w.lock,lI w.pins,.sl 2 [] 5 0 w.zd.length false,lL w.ze,lCo w.counts,lR w.zt]],0⟩,⟨1,43,44,[zP ({ m with pc:=12 })],0⟩,⟨1,0,5,(w.zd.map zw).set m.version.toNat ((zJ v0.snap++[C.sl 3 [] 2 0 v0.zf.length false,Bo v0.zC])),0⟩,⟨1,0,2,(v0.zf.map zp).set m.zg.toNat ([U g0.zl,C.sl 4 [] 3 0 g0.ends.length false]),0⟩,⟨1,0,3,(g0.ends.map zn).set m.end_.toNat ([U (Slp.z6 m.word m.link),C.sl 5 [] 1 0 e0.next.length false,I e0.zj]),0⟩,⟨2,3,1,e0.next.map encI,0⟩]:=by
 (have le:=hv.le);(have ownV:∀ r ∈ (w.zd.map zw).set m.version.toNat ((zJ v0.snap++[C.sl 3 [] 2 0 v0.zf.length false,Bo v0.zC])),∀ c ∈ r,zy c=true:=zx (enc:=zw) (fun _=>rfl) rfl _ _);(have ownG:∀ r ∈ (v0.zf.map zp).set m.zg.toNat ([U g0.zl,C.sl 4 [] 3 0 g0.ends.length false]),∀ c ∈ r,zy c=true:=zx (enc:=zp) (fun _=>rfl) rfl _ _);(have ownE:∀ r ∈ (g0.ends.map zn).set m.end_.toNat ([U e0.head,C.sl 5 [] 1 0 e0.next.length false,I e0.zj]),∀ c ∈ r,zy c=true:=zx (enc:=zn) (fun _=>rfl) rfl _ _);(have lowV:∀ r ∈ (w.zd.map zw).set m.version.toNat ((zJ v0.snap++[C.sl 3 [] 2 0 v0.zf.length false,Bo v0.zC])),∀ c ∈ r,qH 6 9 c=true:=zx (enc:=zw) (fun _=>rfl) rfl _ _);(have lowG:∀ r ∈ (v0.zf.map zp).set m.zg.toNat ([U g0.zl,C.sl 4 [] 3 0 g0.ends.length false]),∀ c ∈ r,qH 6 9 c=true:=zx (enc:=zp) (fun _=>rfl) rfl _ _)
 have lowE:∀ r ∈ (g0.ends.map zn).set m.end_.toNat ([U (Slp.z6 m.word m.link),C.sl 5 [] 1 0 e0.next.length false,I e0.zj]),∀ c ∈ r,qH 6 9 c=true:=zx (enc:=zn) (fun _=>rfl) rfl _ _
 have ownE2:∀ r ∈ (g0.ends.map zn).set m.end_.toNat ([U (Slp.z6 m.word m.link),C.sl 5 [] 1 0 e0.next.length false,I e0.zj]),∀ c ∈ r,zy c=true:=zx (enc:=zn) (fun _=>rfl) rfl _ _
 have ge:((g0.ends.map zn).set m.end_.toNat ([U e0.head,C.sl 5 [] 1 0 e0.next.length false,I e0.zj]))[m.end_.toNat]?= some ([U e0.head,C.sl 5 [] 1 0 e0.next.length false,I e0.zj]):=List.getElem?_set_self (by simpa using le)
 refine qy (fn:=Tryz.f269) Tryz.func269 rfl (Nat.le_refl _) ?_;conv=>whnf
 refine .inl ⟨⟨true,[],[],[8]⟩,by kernel_rfl,?_⟩;(conv=>whnf)
 refine zT [] [⟨1,28,8,[[I w.zu,I w.current,I w.lock,lI w.pins,.sl 2 [] 5 0 w.zd.length false,lL w.ze,lCo w.counts,lR w.zt]],0⟩,⟨1,43,44,[zP (m)],0⟩,⟨1,0,5,(w.zd.map zw).set m.version.toNat ((zJ v0.snap++[C.sl 3 [] 2 0 v0.zf.length false,Bo v0.zC])),0⟩,⟨1,0,2,(v0.zf.map zp).set m.zg.toNat ([U g0.zl,C.sl 4 [] 3 0 g0.ends.length false]),0⟩,⟨1,0,3,(g0.ends.map zn).set m.end_.toNat ([U e0.head,C.sl 5 [] 1 0 e0.next.length false,I e0.zj]),0⟩,⟨2,3,1,e0.next.map encI,0⟩,⟨1,244,2,[[.ref 0 [] 8 0 0,.ref 1 [] 44 0 0]],0⟩,⟨1,81,23,[qB qC],0⟩] (rx:=.tup [U (Slp.z6 m.word m.link),I 0]) (Slp.zag m.word m.link hw l0 l1) rfl rfl rfl rfl rfl (zb rfl (zb rfl (zb (zi ownV) (zb (zi ownG) (zb (zi ownE) rfl))))) rfl rfl ?_
 refine dd ?_
 refine .inl ⟨⟨true,[],[],[1]⟩,by kernel_rfl,?_⟩;(conv=>whnf)
 refine zT [0,1,2,3,4,5] [⟨1,28,8,[[I w.zu,I w.current,I w.lock,lI w.pins,.sl 2 [] 5 0 w.zd.length false,lL w.ze,lCo w.counts,lR w.zt]],0⟩,⟨1,43,44,[zP (m)],0⟩,⟨1,0,5,(w.zd.map zw).set m.version.toNat ((zJ v0.snap++[C.sl 3 [] 2 0 v0.zf.length false,Bo v0.zC])),0⟩,⟨1,0,2,(v0.zf.map zp).set m.zg.toNat ([U g0.zl,C.sl 4 [] 3 0 g0.ends.length false]),0⟩,⟨1,0,3,(g0.ends.map zn).set m.end_.toNat ([U e0.head,C.sl 5 [] 1 0 e0.next.length false,I e0.zj]),0⟩,⟨2,3,1,e0.next.map encI,0⟩,⟨1,244,2,[[.ref 0 [] 8 0 0,.ref 1 [] 44 0 0]],0⟩,⟨1,81,23,[qB qC],0⟩] (rx:=.ref 4 [] 3 m.end_.toNat 0) (xX w m v0 g0 e0 hv) (zb rfl (zb rfl (zb (zi ownV) (zb (zi ownG) (zb (zi ownE) rfl))))) (by (show zI _ _::zI _ _::zI _ ⟨1,0,5,_,0⟩::zI _ ⟨1,0,2,_,0⟩::zI _ ⟨1,0,3,_,0⟩::_=_);(rw [zE (enc:=zw) (fun _=>rfl),zE (enc:=zp) (fun _=>rfl),zE (enc:=zn) (fun _=>rfl)]);rfl) rfl rfl rfl (zb rfl (zb rfl (zb (zi ownV) (zb (zi ownG) (zb (zi ownE) rfl))))) (by (show zF _ _::zF _ _::zF _ ⟨1,0,5,_,0⟩::zF _ ⟨1,0,2,_,0⟩::zF _ ⟨1,0,3,_,0⟩::_=_);(rw [zA (enc:=zw) (fun _=>rfl),zA (enc:=zp) (fun _=>rfl),zA (enc:=zn) (fun _=>rfl)]);rfl) rfl ?_
 refine dd ?_
 refine ⟨_,ge,(by show 0+1<=3;decide),?_⟩
 refine dd ?_
 refine ⟨fun h=>absurd h (by simp [hne]),fun _=>?_⟩
 refine dd ?_
 (repeat ((first | apply ya | apply yb);refine dd ?_))
 refine zay [0,1,2,3,4,5] [⟨1,28,8,[[I w.zu,I w.current,I w.lock,lI w.pins,.sl 2 [] 5 0 w.zd.length false,lL w.ze,lCo w.counts,lR w.zt]],0⟩,⟨1,43,44,[zP (m)],0⟩,⟨1,0,5,(w.zd.map zw).set m.version.toNat ((zJ v0.snap++[C.sl 3 [] 2 0 v0.zf.length false,Bo v0.zC])),0⟩,⟨1,0,2,(v0.zf.map zp).set m.zg.toNat ([U g0.zl,C.sl 4 [] 3 0 g0.ends.length false]),0⟩,⟨1,0,3,(g0.ends.map zn).set m.end_.toNat ([U e0.head,C.sl 5 [] 1 0 e0.next.length false,I e0.zj]),0⟩,⟨2,3,1,e0.next.map encI,0⟩,⟨1,244,2,[[.ref 0 [] 8 0 0,.ref 1 [] 44 0 0]],0⟩,⟨1,81,23,[qB qC],0⟩] (rx:=.ref 4 [] 3 m.end_.toNat 0) (xX w m v0 g0 e0 hv) (zb rfl (zb rfl (zb (zi ownV) (zb (zi ownG) (zb (zi ownE) rfl))))) (by (show zI _ _::zI _ _::zI _ ⟨1,0,5,_,0⟩::zI _ ⟨1,0,2,_,0⟩::zI _ ⟨1,0,3,_,0⟩::_=_);(rw [zE (enc:=zw) (fun _=>rfl),zE (enc:=zp) (fun _=>rfl),zE (enc:=zn) (fun _=>rfl)]);rfl) rfl rfl rfl (zb rfl (zb rfl (zb (zi ownV) (zb (zi ownG) (zb (zi ownE) rfl))))) (by (show zF _ _::zF _ _::zF _ ⟨1,0,5,_,0⟩::zF _ ⟨1,0,2,_,0⟩::zF _ ⟨1,0,3,_,0⟩::_=_);(rw [zA (enc:=zw) (fun _=>rfl),zA (enc:=zp) (fun _=>rfl),zA (enc:=zn) (fun _=>rfl)]);rfl) rfl ?_
 refine dd ?_
 refine ⟨_,ge,rfl,?_⟩
 refine dd ?_
 rw [List.set_set]
 refine dd ?_
 refine .inl ⟨⟨true,[],[],[5]⟩,by kernel_rfl,?_⟩;(conv=>whnf)
 refine zT [0,1,2,3,4,5] [⟨1,28,8,[[I w.zu,I w.current,I w.lock,lI w.pins,.sl 2 [] 5 0 w.zd.length false,lL w.ze,lCo w.counts,lR w.zt]],0⟩,⟨1,43,44,[zP ({ m with pc:=12 })],0⟩,⟨1,0,5,(w.zd.map zw).set m.version.toNat ((zJ v0.snap++[C.sl 3 [] 2 0 v0.zf.length false,Bo v0.zC])),0⟩,⟨1,0,2,(v0.zf.map zp).set m.zg.toNat ([U g0.zl,C.sl 4 [] 3 0 g0.ends.length false]),0⟩,⟨1,0,3,(g0.ends.map zn).set m.end_.toNat ([U (Slp.z6 m.word m.link),C.sl 5 [] 1 0 e0.next.length false,I e0.zj]),0⟩,⟨2,3,1,e0.next.map encI,0⟩,⟨1,244,2,[[.ref 0 [] 8 0 0,.ref 1 [] 44 0 0]],0⟩,⟨1,81,23,[qB qC],0⟩] (rx:=Ce (evV m v0 4 8 m.slot)) (zah w m v0 g0 { e0 with head:=Slp.z6 m.word m.link } hv m.end_ 12 4 8 m.slot) (zb rfl (zb rfl (zb (zi ownV) (zb (zi ownG) (zb (zi ownE2) rfl))))) (by (show zI _ _::zI _ _::zI _ ⟨1,0,5,_,0⟩::zI _ ⟨1,0,2,_,0⟩::zI _ ⟨1,0,3,_,0⟩::_=_);(rw [zE (enc:=zw) (fun _=>rfl),zE (enc:=zp) (fun _=>rfl),zE (enc:=zn) (fun _=>rfl)]);rfl) rfl rfl rfl (zb rfl (zb rfl (zb (zi ownV) (zb (zi ownG) (zb (zi ownE2) rfl))))) (by (show zF _ _::zF _ _::zF _ ⟨1,0,5,_,0⟩::zF _ ⟨1,0,2,_,0⟩::zF _ ⟨1,0,3,_,0⟩::_=_);(rw [zA (enc:=zw) (fun _=>rfl),zA (enc:=zp) (fun _=>rfl),zA (enc:=zn) (fun _=>rfl)]);rfl) rfl ?_
 refine dd ?_
 exact ⟨.inl rfl,_,_,.refl _,rfl,zq.xW 6 (by (conv=>whnf);(repeat (refine ⟨rfl,?_⟩;(conv=>whnf)));exact trivial) rfl rfl rfl (zN rfl (zN rfl (zN (qh lowV) (zN (qh lowG) (zN (qh lowE) rfl))))) rfl⟩
end Go.Wor
namespace Go.Wor
open Go.Ab Go.Proofs Go.Hy
abbrev nf:C:=.v .nilFunc
abbrev pf (f:FuncId):C:=.fn f [] []
abbrev zoL:List C:=[nf,nf,nf,pf 261,pf 262,pf 263,pf 264,pf 265,pf 266,pf 267,pf 268,pf 269,pf 270,nf,nf,nf,nf,nf,nf,nf,pf 271,pf 272,pf 273,pf 274]
theorem qL:zc Tryz.prog 214 [] [] (.agg zoL) []:=by
 refine zc.zr (fn:=Tryz.f214) Tryz.func214 rfl ?_
 conv=>whnf
 exact ⟨.inl rfl,_,.refl _,rfl⟩
end Go.Wor
namespace Go.Wor
open Go.Ab Go.Proofs Go.Hy Go.Gat Go.Nam Go.Hos Go.Con Go.Sna
theorem zdh {w w':Wor} {m m':Mac} {e:Eve} (sw:ja w) (ok:OkW w) (hl:i64 m.listen) (hpc:m.pc=3) (hs:qc w m=true) (h:zc Tryz.prog 261 [⟨1,28,8,[z5 w],0⟩,⟨1,43,44,[zP m],0⟩] [.agg [.ref 0 [] 8 0 0,.ref 1 [] 44 0 0]] (Ce e) [⟨1,28,8,[z5 w'],0⟩,⟨1,43,44,[zP m'],0⟩]):zc Tryz.prog 152 [] [Cw w,Cm m] (.tup [Cw w',Cm m',Ce e]) []:=by
 by_cases hn:m.listen < 0
 all_goals
  refine zc.zr (fn:=Tryz.f152) Tryz.func152 rfl ?_
  conv=>whnf
  (repeat (first | (refine ⟨fun _=>?_,?_⟩;rotate_left 1;(focus (intro h;first | (simp [hpc] at h;done) | (have h:=of_decide_eq_true h;omega) | (have h:=of_decide_eq_false h;omega)));(refine dd ?_)) | (refine ⟨?_,fun _=>?_⟩;(focus (intro h;first | (simp [hpc] at h;done) | (have h:=of_decide_eq_true h;omega) | (have h:=of_decide_eq_false h;omega)));(refine dd ?_))))
  refine ⟨_,_,(zU w m ok hl).frame rfl _,?_⟩;refine dd ?_
  refine ⟨fun _=>?_,fun h=>absurd ((hs).symm.trans h:true=false) (by decide)⟩;refine dd ?_
  (repeat ((first | apply ya | apply yb);refine dd ?_))
  (repeat (first | (refine ⟨fun _=>?_,?_⟩;rotate_left 1;(focus (intro h;first | (simp [hpc] at h;done) | (have h:=of_decide_eq_true h;omega) | (have h:=of_decide_eq_false h;omega)));(refine dd ?_)) | (refine ⟨?_,fun _=>?_⟩;(focus (intro h;first | (simp [hpc] at h;done) | (have h:=of_decide_eq_true h;omega) | (have h:=of_decide_eq_false h;omega)));(refine dd ?_))))
  refine .inl ⟨⟨true,[2],[1],[0]⟩,by kernel_rfl,?_⟩;(conv=>whnf)
  refine ⟨_,_,(qL).frame rfl _,?_⟩;refine dd ?_
  (repeat (refine ⟨rfl,?_⟩;conv=>whnf))
  (refine ⟨by omega,by omega,pf 261,by rw [hpc];rfl,?_⟩);refine dd ?_
  (repeat ((first | apply ya | apply yb);refine dd ?_))
  refine ⟨_,_,(qs w sw).frame rfl _,?_⟩;refine dd ?_
  refine zG [5,6] (h) rfl rfl rfl rfl rfl rfl ?_;refine dd ?_
  refine .inl ⟨⟨false,[0,1,2],[5,6,7],[]⟩,by kernel_rfl,?_⟩;(conv=>whnf)
  repeat (refine ⟨rfl,?_⟩;conv=>whnf)
  exact ⟨.inl rfl,_,.refl _,rfl⟩
theorem zdj {w w':Wor} {m m':Mac} {e:Eve} (sw:ja w) (ok:OkW w) (hl:i64 m.listen) (hpc:m.pc=5) (hs:qc w m=true) (hli:0<=m.listen)(h:zc Tryz.prog 263 [⟨1,28,8,[z5 w],0⟩,⟨1,43,44,[zP m],0⟩] [.agg [.ref 0 [] 8 0 0,.ref 1 [] 44 0 0]] (Ce e) [⟨1,28,8,[z5 w'],0⟩,⟨1,43,44,[zP m'],0⟩]):zc Tryz.prog 152 [] [Cw w,Cm m] (.tup [Cw w',Cm m',Ce e]) []:=by
 have hn:¬m.listen < 0:=by omega
 all_goals
  refine zc.zr (fn:=Tryz.f152) Tryz.func152 rfl ?_
  conv=>whnf
  (repeat (first | (refine ⟨fun _=>?_,?_⟩;rotate_left 1;(focus (intro h;first | (simp [hpc] at h;done) | (have h:=of_decide_eq_true h;omega) | (have h:=of_decide_eq_false h;omega)));(refine dd ?_)) | (refine ⟨?_,fun _=>?_⟩;(focus (intro h;first | (simp [hpc] at h;done) | (have h:=of_decide_eq_true h;omega) | (have h:=of_decide_eq_false h;omega)));(refine dd ?_))))
  refine ⟨_,_,(zU w m ok hl).frame rfl _,?_⟩;refine dd ?_
  refine ⟨fun _=>?_,fun h=>absurd ((hs).symm.trans h:true=false) (by decide)⟩;refine dd ?_
  (repeat ((first | apply ya | apply yb);refine dd ?_))
  (repeat (first | (refine ⟨fun _=>?_,?_⟩;rotate_left 1;(focus (intro h;first | (simp [hpc] at h;done) | (have h:=of_decide_eq_true h;omega) | (have h:=of_decide_eq_false h;omega)));(refine dd ?_)) | (refine ⟨?_,fun _=>?_⟩;(focus (intro h;first | (simp [hpc] at h;done) | (have h:=of_decide_eq_true h;omega) | (have h:=of_decide_eq_false h;omega)));(refine dd ?_))))
  refine .inl ⟨⟨true,[2],[1],[0]⟩,by kernel_rfl,?_⟩;(conv=>whnf)
  refine ⟨_,_,(qL).frame rfl _,?_⟩;refine dd ?_
  (repeat (refine ⟨rfl,?_⟩;conv=>whnf))
  (refine ⟨by omega,by omega,pf 263,by rw [hpc];rfl,?_⟩);refine dd ?_
  (repeat ((first | apply ya | apply yb);refine dd ?_))
  refine ⟨_,_,(qs w sw).frame rfl _,?_⟩;refine dd ?_
  refine zG [5,6] (h) rfl rfl rfl rfl rfl rfl ?_;refine dd ?_
  refine .inl ⟨⟨false,[0,1,2],[5,6,7],[]⟩,by kernel_rfl,?_⟩;(conv=>whnf)
  repeat (refine ⟨rfl,?_⟩;conv=>whnf)
  exact ⟨.inl rfl,_,.refl _,rfl⟩
theorem zk3 {w w':Wor} {m m':Mac} {e:Eve} (sw:ja w) (ok:OkW w) (hl:i64 m.listen) (hpc:m.pc=7) (hs:qc w m=true) (h:zc Tryz.prog 265 [⟨1,28,8,[z5 w],0⟩,⟨1,43,44,[zP m],0⟩] [.agg [.ref 0 [] 8 0 0,.ref 1 [] 44 0 0]] (Ce e) [⟨1,28,8,[z5 w'],0⟩,⟨1,43,44,[zP m'],0⟩]):zc Tryz.prog 152 [] [Cw w,Cm m] (.tup [Cw w',Cm m',Ce e]) []:=by
 by_cases hn:m.listen < 0
 all_goals
  refine zc.zr (fn:=Tryz.f152) Tryz.func152 rfl ?_
  conv=>whnf
  (repeat (first | (refine ⟨fun _=>?_,?_⟩;rotate_left 1;(focus (intro h;first | (simp [hpc] at h;done) | (have h:=of_decide_eq_true h;omega) | (have h:=of_decide_eq_false h;omega)));(refine dd ?_)) | (refine ⟨?_,fun _=>?_⟩;(focus (intro h;first | (simp [hpc] at h;done) | (have h:=of_decide_eq_true h;omega) | (have h:=of_decide_eq_false h;omega)));(refine dd ?_))))
  refine ⟨_,_,(zU w m ok hl).frame rfl _,?_⟩;refine dd ?_
  refine ⟨fun _=>?_,fun h=>absurd ((hs).symm.trans h:true=false) (by decide)⟩;refine dd ?_
  (repeat ((first | apply ya | apply yb);refine dd ?_))
  (repeat (first | (refine ⟨fun _=>?_,?_⟩;rotate_left 1;(focus (intro h;first | (simp [hpc] at h;done) | (have h:=of_decide_eq_true h;omega) | (have h:=of_decide_eq_false h;omega)));(refine dd ?_)) | (refine ⟨?_,fun _=>?_⟩;(focus (intro h;first | (simp [hpc] at h;done) | (have h:=of_decide_eq_true h;omega) | (have h:=of_decide_eq_false h;omega)));(refine dd ?_))))
  refine .inl ⟨⟨true,[2],[1],[0]⟩,by kernel_rfl,?_⟩;(conv=>whnf)
  refine ⟨_,_,(qL).frame rfl _,?_⟩;refine dd ?_
  (repeat (refine ⟨rfl,?_⟩;conv=>whnf))
  (refine ⟨by omega,by omega,pf 265,by rw [hpc];rfl,?_⟩);refine dd ?_
  (repeat ((first | apply ya | apply yb);refine dd ?_))
  refine ⟨_,_,(qs w sw).frame rfl _,?_⟩;refine dd ?_
  refine zG [5,6] (h) rfl rfl rfl rfl rfl rfl ?_;refine dd ?_
  refine .inl ⟨⟨false,[0,1,2],[5,6,7],[]⟩,by kernel_rfl,?_⟩;(conv=>whnf)
  repeat (refine ⟨rfl,?_⟩;conv=>whnf)
  exact ⟨.inl rfl,_,.refl _,rfl⟩
theorem zk4 {w w':Wor} {m m':Mac} {e:Eve} (sw:ja w) (ok:OkW w) (hl:i64 m.listen) (hpc:m.pc=8) (hs:qc w m=true) (h:zc Tryz.prog 266 [⟨1,28,8,[z5 w],0⟩,⟨1,43,44,[zP m],0⟩] [.agg [.ref 0 [] 8 0 0,.ref 1 [] 44 0 0]] (Ce e) [⟨1,28,8,[z5 w'],0⟩,⟨1,43,44,[zP m'],0⟩]):zc Tryz.prog 152 [] [Cw w,Cm m] (.tup [Cw w',Cm m',Ce e]) []:=by
 by_cases hn:m.listen < 0
 all_goals
  refine zc.zr (fn:=Tryz.f152) Tryz.func152 rfl ?_
  conv=>whnf
  (repeat (first | (refine ⟨fun _=>?_,?_⟩;rotate_left 1;(focus (intro h;first | (simp [hpc] at h;done) | (have h:=of_decide_eq_true h;omega) | (have h:=of_decide_eq_false h;omega)));(refine dd ?_)) | (refine ⟨?_,fun _=>?_⟩;(focus (intro h;first | (simp [hpc] at h;done) | (have h:=of_decide_eq_true h;omega) | (have h:=of_decide_eq_false h;omega)));(refine dd ?_))))
  refine ⟨_,_,(zU w m ok hl).frame rfl _,?_⟩;refine dd ?_
  refine ⟨fun _=>?_,fun h=>absurd ((hs).symm.trans h:true=false) (by decide)⟩;refine dd ?_
  (repeat ((first | apply ya | apply yb);refine dd ?_))
  (repeat (first | (refine ⟨fun _=>?_,?_⟩;rotate_left 1;(focus (intro h;first | (simp [hpc] at h;done) | (have h:=of_decide_eq_true h;omega) | (have h:=of_decide_eq_false h;omega)));(refine dd ?_)) | (refine ⟨?_,fun _=>?_⟩;(focus (intro h;first | (simp [hpc] at h;done) | (have h:=of_decide_eq_true h;omega) | (have h:=of_decide_eq_false h;omega)));(refine dd ?_))))
  refine .inl ⟨⟨true,[2],[1],[0]⟩,by kernel_rfl,?_⟩;(conv=>whnf)
  refine ⟨_,_,(qL).frame rfl _,?_⟩;refine dd ?_
  (repeat (refine ⟨rfl,?_⟩;conv=>whnf))
  (refine ⟨by omega,by omega,pf 266,by rw [hpc];rfl,?_⟩);refine dd ?_
  (repeat ((first | apply ya | apply yb);refine dd ?_))
  refine ⟨_,_,(qs w sw).frame rfl _,?_⟩;refine dd ?_
  refine zG [5,6] (h) rfl rfl rfl rfl rfl rfl ?_;refine dd ?_
  refine .inl ⟨⟨false,[0,1,2],[5,6,7],[]⟩,by kernel_rfl,?_⟩;(conv=>whnf)
  repeat (refine ⟨rfl,?_⟩;conv=>whnf)
  exact ⟨.inl rfl,_,.refl _,rfl⟩
theorem zaQ {w w':Wor} {m m':Mac} {e:Eve} (sw:ja w) (ok:OkW w) (hl:i64 m.listen) (hpc:m.pc=9) (hs:qc w m=true) (h:zc Tryz.prog 267 [⟨1,28,8,[z5 w],0⟩,⟨1,43,44,[zP m],0⟩] [.agg [.ref 0 [] 8 0 0,.ref 1 [] 44 0 0]] (Ce e) [⟨1,28,8,[z5 w'],0⟩,⟨1,43,44,[zP m'],0⟩]):zc Tryz.prog 152 [] [Cw w,Cm m] (.tup [Cw w',Cm m',Ce e]) []:=by
 by_cases hn:m.listen < 0
 all_goals
  refine zc.zr (fn:=Tryz.f152) Tryz.func152 rfl ?_
  conv=>whnf
  (repeat (first | (refine ⟨fun _=>?_,?_⟩;rotate_left 1;(focus (intro h;first | (simp [hpc] at h;done) | (have h:=of_decide_eq_true h;omega) | (have h:=of_decide_eq_false h;omega)));(refine dd ?_)) | (refine ⟨?_,fun _=>?_⟩;(focus (intro h;first | (simp [hpc] at h;done) | (have h:=of_decide_eq_true h;omega) | (have h:=of_decide_eq_false h;omega)));(refine dd ?_))))
  refine ⟨_,_,(zU w m ok hl).frame rfl _,?_⟩;refine dd ?_
  refine ⟨fun _=>?_,fun h=>absurd ((hs).symm.trans h:true=false) (by decide)⟩;refine dd ?_
  (repeat ((first | apply ya | apply yb);refine dd ?_))
  (repeat (first | (refine ⟨fun _=>?_,?_⟩;rotate_left 1;(focus (intro h;first | (simp [hpc] at h;done) | (have h:=of_decide_eq_true h;omega) | (have h:=of_decide_eq_false h;omega)));(refine dd ?_)) | (refine ⟨?_,fun _=>?_⟩;(focus (intro h;first | (simp [hpc] at h;done) | (have h:=of_decide_eq_true h;omega) | (have h:=of_decide_eq_false h;omega)));(refine dd ?_))))
  refine .inl ⟨⟨true,[2],[1],[0]⟩,by kernel_rfl,?_⟩;(conv=>whnf)
  refine ⟨_,_,(qL).frame rfl _,?_⟩;refine dd ?_
  (repeat (refine ⟨rfl,?_⟩;conv=>whnf))
  (refine ⟨by omega,by omega,pf 267,by rw [hpc];rfl,?_⟩);refine dd ?_
  (repeat ((first | apply ya | apply yb);refine dd ?_))
  refine ⟨_,_,(qs w sw).frame rfl _,?_⟩;refine dd ?_
  refine zG [5,6] (h) rfl rfl rfl rfl rfl rfl ?_;refine dd ?_
  refine .inl ⟨⟨false,[0,1,2],[5,6,7],[]⟩,by kernel_rfl,?_⟩;(conv=>whnf)
  repeat (refine ⟨rfl,?_⟩;conv=>whnf)
  exact ⟨.inl rfl,_,.refl _,rfl⟩
theorem zbr {w w':Wor} {m m':Mac} {e:Eve} (sw:ja w) (ok:OkW w) (hl:i64 m.listen) (hpc:m.pc=10) (hs:qc w m=true) (h:zc Tryz.prog 268 [⟨1,28,8,[z5 w],0⟩,⟨1,43,44,[zP m],0⟩] [.agg [.ref 0 [] 8 0 0,.ref 1 [] 44 0 0]] (Ce e) [⟨1,28,8,[z5 w'],0⟩,⟨1,43,44,[zP m'],0⟩]):zc Tryz.prog 152 [] [Cw w,Cm m] (.tup [Cw w',Cm m',Ce e]) []:=by
 by_cases hn:m.listen < 0
 all_goals
  refine zc.zr (fn:=Tryz.f152) Tryz.func152 rfl ?_
  conv=>whnf
  (repeat (first | (refine ⟨fun _=>?_,?_⟩;rotate_left 1;(focus (intro h;first | (simp [hpc] at h;done) | (have h:=of_decide_eq_true h;omega) | (have h:=of_decide_eq_false h;omega)));(refine dd ?_)) | (refine ⟨?_,fun _=>?_⟩;(focus (intro h;first | (simp [hpc] at h;done) | (have h:=of_decide_eq_true h;omega) | (have h:=of_decide_eq_false h;omega)));(refine dd ?_))))
  refine ⟨_,_,(zU w m ok hl).frame rfl _,?_⟩;refine dd ?_
  refine ⟨fun _=>?_,fun h=>absurd ((hs).symm.trans h:true=false) (by decide)⟩;refine dd ?_
  (repeat ((first | apply ya | apply yb);refine dd ?_))
  (repeat (first | (refine ⟨fun _=>?_,?_⟩;rotate_left 1;(focus (intro h;first | (simp [hpc] at h;done) | (have h:=of_decide_eq_true h;omega) | (have h:=of_decide_eq_false h;omega)));(refine dd ?_)) | (refine ⟨?_,fun _=>?_⟩;(focus (intro h;first | (simp [hpc] at h;done) | (have h:=of_decide_eq_true h;omega) | (have h:=of_decide_eq_false h;omega)));(refine dd ?_))))
  refine .inl ⟨⟨true,[2],[1],[0]⟩,by kernel_rfl,?_⟩;(conv=>whnf)
  refine ⟨_,_,(qL).frame rfl _,?_⟩;refine dd ?_
  (repeat (refine ⟨rfl,?_⟩;conv=>whnf))
  (refine ⟨by omega,by omega,pf 268,by rw [hpc];rfl,?_⟩);refine dd ?_
  (repeat ((first | apply ya | apply yb);refine dd ?_))
  refine ⟨_,_,(qs w sw).frame rfl _,?_⟩;refine dd ?_
  refine zG [5,6] (h) rfl rfl rfl rfl rfl rfl ?_;refine dd ?_
  refine .inl ⟨⟨false,[0,1,2],[5,6,7],[]⟩,by kernel_rfl,?_⟩;(conv=>whnf)
  repeat (refine ⟨rfl,?_⟩;conv=>whnf)
  exact ⟨.inl rfl,_,.refl _,rfl⟩
theorem zbv {w w':Wor} {m m':Mac} {e:Eve} (sw:ja w) (ok:OkW w) (hl:i64 m.listen) (hpc:m.pc=23) (hs:qc w m=true) (h:zc Tryz.prog 274 [⟨1,28,8,[z5 w],0⟩,⟨1,43,44,[zP m],0⟩] [.agg [.ref 0 [] 8 0 0,.ref 1 [] 44 0 0]] (Ce e) [⟨1,28,8,[z5 w'],0⟩,⟨1,43,44,[zP m'],0⟩]):zc Tryz.prog 152 [] [Cw w,Cm m] (.tup [Cw w',Cm m',Ce e]) []:=by
 by_cases hn:m.listen < 0
 all_goals
  refine zc.zr (fn:=Tryz.f152) Tryz.func152 rfl ?_
  conv=>whnf
  (repeat (first | (refine ⟨fun _=>?_,?_⟩;rotate_left 1;(focus (intro h;first | (simp [hpc] at h;done) | (have h:=of_decide_eq_true h;omega) | (have h:=of_decide_eq_false h;omega)));(refine dd ?_)) | (refine ⟨?_,fun _=>?_⟩;(focus (intro h;first | (simp [hpc] at h;done) | (have h:=of_decide_eq_true h;omega) | (have h:=of_decide_eq_false h;omega)));(refine dd ?_))))
  refine ⟨_,_,(zU w m ok hl).frame rfl _,?_⟩;refine dd ?_
  refine ⟨fun _=>?_,fun h=>absurd ((hs).symm.trans h:true=false) (by decide)⟩;refine dd ?_
  (repeat ((first | apply ya | apply yb);refine dd ?_))
  (repeat (first | (refine ⟨fun _=>?_,?_⟩;rotate_left 1;(focus (intro h;first | (simp [hpc] at h;done) | (have h:=of_decide_eq_true h;omega) | (have h:=of_decide_eq_false h;omega)));(refine dd ?_)) | (refine ⟨?_,fun _=>?_⟩;(focus (intro h;first | (simp [hpc] at h;done) | (have h:=of_decide_eq_true h;omega) | (have h:=of_decide_eq_false h;omega)));(refine dd ?_))))
  refine .inl ⟨⟨true,[2],[1],[0]⟩,by kernel_rfl,?_⟩;(conv=>whnf)
  refine ⟨_,_,(qL).frame rfl _,?_⟩;refine dd ?_
  (repeat (refine ⟨rfl,?_⟩;conv=>whnf))
  (refine ⟨by omega,by omega,pf 274,by rw [hpc];rfl,?_⟩);refine dd ?_
  (repeat ((first | apply ya | apply yb);refine dd ?_))
  refine ⟨_,_,(qs w sw).frame rfl _,?_⟩;refine dd ?_
  refine zG [5,6] (h) rfl rfl rfl rfl rfl rfl ?_;refine dd ?_
  refine .inl ⟨⟨false,[0,1,2],[5,6,7],[]⟩,by kernel_rfl,?_⟩;(conv=>whnf)
  repeat (refine ⟨rfl,?_⟩;conv=>whnf)
  exact ⟨.inl rfl,_,.refl _,rfl⟩
theorem jV {w w':Wor} {m m':Mac} {e:Eve} (h0:0<=m.pc) (h3:m.pc < 3) (h:zc Tryz.prog 213 [] [Cw w,Cm m] (.tup [Cw w',Cm m',Ce e]) []):zc Tryz.prog 152 [] [Cw w,Cm m] (.tup [Cw w',Cm m',Ce e]) []:=by
 refine zc.zr (fn:=Tryz.f152) Tryz.func152 rfl ?_
 conv=>whnf
 refine ⟨fun _=>?_,fun h=>absurd h (by simp;omega)⟩
 refine dd ?_
 refine ⟨fun _=>?_,fun h=>absurd h (by simp;omega)⟩
 refine dd ?_
 refine ⟨_,_,(h).frame rfl _,?_⟩;refine dd ?_
 exact ⟨.inl rfl,_,.refl _,rfl⟩
end Go.Wor
namespace Go.Wor
open Go.Ab Go.Proofs Go.Hy Go.Gat Go.Nam Go.Hos Go.Con Go.Sna
theorem zdi {w:Wor} {m m':Mac} {e:Eve} {ls:List Lis} (sw:ja w) (ok:OkW w) (hl:i64 m.listen) (hpc:m.pc=4) (hs:qc w m=true) (hli:0<=m.listen) (hll:ls.length=w.ze.length) (h:zc Tryz.prog 262 [⟨1,28,8,[[I w.zu,I w.current,I w.lock,lI w.pins,lV w.zd,.sl 2 [] 4 0 w.ze.length false,lCo w.counts,lR w.zt]],0⟩,⟨1,43,44,[zP m],0⟩,⟨2,95,4,(w.ze).map jc,0⟩] [.agg [.ref 0 [] 8 0 0,.ref 1 [] 44 0 0]] (Ce e) [⟨1,28,8,[[I w.zu,I w.current,I w.lock,lI w.pins,lV w.zd,.sl 2 [] 4 0 w.ze.length false,lCo w.counts,lR w.zt]],0⟩,⟨1,43,44,[zP m'],0⟩,⟨2,95,4,(ls).map jc,0⟩]):zc Tryz.prog 152 [] [Cw w,Cm m] (.tup [Cw { w with ze:=ls },Cm m',Ce e]) []:=by
 have hn:¬m.listen < 0:=by omega
 obtain ⟨x,l,hx⟩:∃ x l,w.ze=x::l:=by
  obtain ⟨v,g,e,su⟩:=vT hs
  cases h:w.ze with
  | nil=>have:=su.listen;rw [h] at this;simp at this;omega
  | cons x l=>exact ⟨x,l,rfl⟩
 refine zc.zr (fn:=Tryz.f152) Tryz.func152 rfl ?_
 conv=>whnf
 (repeat (first | (refine ⟨fun _=>?_,?_⟩;rotate_left 1;(focus (intro h;first | (simp [hpc] at h;done) | (have h:=of_decide_eq_true h;omega) | (have h:=of_decide_eq_false h;omega)));(refine dd ?_)) | (refine ⟨?_,fun _=>?_⟩;(focus (intro h;first | (simp [hpc] at h;done) | (have h:=of_decide_eq_true h;omega) | (have h:=of_decide_eq_false h;omega)));(refine dd ?_))))
 refine ⟨_,_,(zU w m ok hl).frame rfl _,?_⟩;refine dd ?_
 refine ⟨fun _=>?_,fun h=>absurd ((hs).symm.trans h:true=false) (by decide)⟩;refine dd ?_
 (repeat ((first | apply ya | apply yb);refine dd ?_))
 (repeat (first | (refine ⟨fun _=>?_,?_⟩;rotate_left 1;(focus (intro h;first | (simp [hpc] at h;done) | (have h:=of_decide_eq_true h;omega) | (have h:=of_decide_eq_false h;omega)));(refine dd ?_)) | (refine ⟨?_,fun _=>?_⟩;(focus (intro h;first | (simp [hpc] at h;done) | (have h:=of_decide_eq_true h;omega) | (have h:=of_decide_eq_false h;omega)));(refine dd ?_))))
 refine .inl ⟨⟨true,[2],[1],[0]⟩,by kernel_rfl,?_⟩;(conv=>whnf)
 refine ⟨_,_,(qL).frame rfl _,?_⟩;refine dd ?_
 (repeat (refine ⟨rfl,?_⟩;conv=>whnf))
 (refine ⟨by omega,by omega,pf 262,by rw [hpc];rfl,?_⟩);refine dd ?_
 (repeat ((first | apply ya | apply yb);refine dd ?_))
 refine zG [] (vZ w sw x l hx) rfl rfl rfl rfl rfl rfl ?_;refine dd ?_
 refine zG [6,7,5] (h) rfl rfl rfl rfl rfl rfl ?_;refine dd ?_
 refine .inl ⟨⟨false,[0,1,2],[6,7,8],[]⟩,by kernel_rfl,?_⟩;(conv=>whnf)
 repeat (refine ⟨rfl,?_⟩;conv=>whnf)
 exact ⟨.inl rfl,_,zq.zZ 2 0 5 rfl rfl rfl rfl (.inr rfl) (by simp) (by rw [List.length_map];exact hll.symm) (shut_map (enc:=jc) (fun _=>rfl) _) (qm rfl),rfl⟩
theorem zjA {w:Wor} {m m':Mac} {e:Eve} {ls:List Lis} (sw:ja w) (ok:OkW w) (hl:i64 m.listen) (hpc:m.pc=22) (hs:qc w m=true) (hli:0<=m.listen) (hll:ls.length=w.ze.length) (h:zc Tryz.prog 273 [⟨1,28,8,[[I w.zu,I w.current,I w.lock,lI w.pins,lV w.zd,.sl 2 [] 4 0 w.ze.length false,lCo w.counts,lR w.zt]],0⟩,⟨1,43,44,[zP m],0⟩,⟨2,95,4,(w.ze).map jc,0⟩] [.agg [.ref 0 [] 8 0 0,.ref 1 [] 44 0 0]] (Ce e) [⟨1,28,8,[[I w.zu,I w.current,I w.lock,lI w.pins,lV w.zd,.sl 2 [] 4 0 w.ze.length false,lCo w.counts,lR w.zt]],0⟩,⟨1,43,44,[zP m'],0⟩,⟨2,95,4,(ls).map jc,0⟩]):zc Tryz.prog 152 [] [Cw w,Cm m] (.tup [Cw { w with ze:=ls },Cm m',Ce e]) []:=by
 have hn:¬m.listen < 0:=by omega
 obtain ⟨x,l,hx⟩:∃ x l,w.ze=x::l:=by
  obtain ⟨v,g,e,su⟩:=vT hs
  cases h:w.ze with
  | nil=>have:=su.listen;rw [h] at this;simp at this;omega
  | cons x l=>exact ⟨x,l,rfl⟩
 refine zc.zr (fn:=Tryz.f152) Tryz.func152 rfl ?_
 conv=>whnf
 (repeat (first | (refine ⟨fun _=>?_,?_⟩;rotate_left 1;(focus (intro h;first | (simp [hpc] at h;done) | (have h:=of_decide_eq_true h;omega) | (have h:=of_decide_eq_false h;omega)));(refine dd ?_)) | (refine ⟨?_,fun _=>?_⟩;(focus (intro h;first | (simp [hpc] at h;done) | (have h:=of_decide_eq_true h;omega) | (have h:=of_decide_eq_false h;omega)));(refine dd ?_))))
 refine ⟨_,_,(zU w m ok hl).frame rfl _,?_⟩;refine dd ?_
 refine ⟨fun _=>?_,fun h=>absurd ((hs).symm.trans h:true=false) (by decide)⟩;refine dd ?_
 (repeat ((first | apply ya | apply yb);refine dd ?_))
 (repeat (first | (refine ⟨fun _=>?_,?_⟩;rotate_left 1;(focus (intro h;first | (simp [hpc] at h;done) | (have h:=of_decide_eq_true h;omega) | (have h:=of_decide_eq_false h;omega)));(refine dd ?_)) | (refine ⟨?_,fun _=>?_⟩;(focus (intro h;first | (simp [hpc] at h;done) | (have h:=of_decide_eq_true h;omega) | (have h:=of_decide_eq_false h;omega)));(refine dd ?_))))
 refine .inl ⟨⟨true,[2],[1],[0]⟩,by kernel_rfl,?_⟩;(conv=>whnf)
 refine ⟨_,_,(qL).frame rfl _,?_⟩;refine dd ?_
 (repeat (refine ⟨rfl,?_⟩;conv=>whnf))
 (refine ⟨by omega,by omega,pf 273,by rw [hpc];rfl,?_⟩);refine dd ?_
 (repeat ((first | apply ya | apply yb);refine dd ?_))
 refine zG [] (vZ w sw x l hx) rfl rfl rfl rfl rfl rfl ?_;refine dd ?_
 refine zG [6,7,5] (h) rfl rfl rfl rfl rfl rfl ?_;refine dd ?_
 refine .inl ⟨⟨false,[0,1,2],[6,7,8],[]⟩,by kernel_rfl,?_⟩;(conv=>whnf)
 repeat (refine ⟨rfl,?_⟩;conv=>whnf)
 exact ⟨.inl rfl,_,zq.zZ 2 0 5 rfl rfl rfl rfl (.inr rfl) (by simp) (by rw [List.length_map];exact hll.symm) (shut_map (enc:=jc) (fun _=>rfl) _) (qm rfl),rfl⟩
end Go.Wor
namespace Go.Wor
open Go.Ab Go.Proofs Go.Hy Go.Gat Go.Nam Go.Hos Go.Con Go.Sna
theorem zbt {w:Wor} {m m':Mac} {e:Eve} {r0 r1:List Int} (sw:ja w) (ok:OkW w) (hl:i64 m.listen) (hpc:m.pc=20) (hs:qc w m=true) (t0:0<=m.zo) (hr:w.counts[m.zo.toNat]?= some r0) (hne:r0≠[]) (hll:r1.length=r0.length)
  (h:zc Tryz.prog 271 [⟨1,28,8,[[I w.zu,I w.current,I w.lock,lI w.pins,lV w.zd,lL w.ze,.sl 2 [] 1 0 w.counts.length false,lR w.zt]],0⟩,⟨1,43,44,[zP m],0⟩,⟨1,0,1,(w.counts.map zL).set m.zo.toNat [C.sl (3) [] 1 0 r0.length false],0⟩,⟨2,38,1,(r0).map qY,0⟩] [.agg [.ref 0 [] 8 0 0,.ref 1 [] 44 0 0]] (Ce e) [⟨1,28,8,[[I w.zu,I w.current,I w.lock,lI w.pins,lV w.zd,lL w.ze,.sl 2 [] 1 0 w.counts.length false,lR w.zt]],0⟩,⟨1,43,44,[zP m'],0⟩,⟨1,0,1,(w.counts.map zL).set m.zo.toNat [C.sl (3) [] 1 0 r0.length false],0⟩,⟨2,38,1,(r1).map qY,0⟩]):zc Tryz.prog 152 [] [Cw w,Cm m] (.tup [Cw { w with counts:=w.counts.set m.zo.toNat r1 },Cm m',Ce e]) []:=by
 have ml:((w.counts.map zL)).length=w.counts.length:=List.length_map ..
 have ml1:(r1.map qY).length=r1.length:=List.length_map ..
 have hlt:m.zo.toNat < w.counts.length:=(List.getElem?_eq_some_iff.1 hr).1
 have own:∀ i,∀ r ∈ (w.counts.map zL).set m.zo.toNat ([C.sl i [] 1 0 r0.length false]),∀ c ∈ r,zy c=true:=fun i=>zx (enc:=zL) (fun _=>rfl) rfl _ _
 have gt:((w.counts.map zL).set m.zo.toNat ([C.sl 6 [] 1 0 r0.length false]))[m.zo.toNat]?= some ([C.sl 6 [] 1 0 r0.length false]):=List.getElem?_set_self (by simpa using hlt)
 have est:(((w.counts.map zL).set m.zo.toNat ([C.sl 6 [] 1 0 r0.length false])).set m.zo.toNat [.lst 0 1 (r1.map qY)])=(w.counts.set m.zo.toNat r1).map zL:=by rw [List.set_set,List.map_set];rfl
 have esh:∀ r ∈ (((w.counts.map zL).set m.zo.toNat ([C.sl 6 [] 1 0 r0.length false])).set m.zo.toNat [.lst 0 1 (r1.map qY)]),∀ c ∈ r,qF c=true∧zy c=true:=by
  rw [est]
  exact shut_map (enc:=zL) (fun _=>rfl) _
 have hp:ziA w.counts m.zo.toNat r0:=⟨sw.counts,hr,hne⟩
 by_cases hn:m.listen < 0
 all_goals
  refine zc.zr (fn:=Tryz.f152) Tryz.func152 rfl ?_
  conv=>whnf
  (repeat (first | (refine ⟨fun _=>?_,?_⟩;rotate_left 1;(focus (intro h;first | (simp [hpc] at h;done) | (have h:=of_decide_eq_true h;omega) | (have h:=of_decide_eq_false h;omega)));(refine dd ?_)) | (refine ⟨?_,fun _=>?_⟩;(focus (intro h;first | (simp [hpc] at h;done) | (have h:=of_decide_eq_true h;omega) | (have h:=of_decide_eq_false h;omega)));(refine dd ?_))))
  refine ⟨_,_,(zU w m ok hl).frame rfl _,?_⟩;refine dd ?_
  refine ⟨fun _=>?_,fun h=>absurd ((hs).symm.trans h:true=false) (by decide)⟩;refine dd ?_
  (repeat ((first | apply ya | apply yb);refine dd ?_))
  (repeat (first | (refine ⟨fun _=>?_,?_⟩;rotate_left 1;(focus (intro h;first | (simp [hpc] at h;done) | (have h:=of_decide_eq_true h;omega) | (have h:=of_decide_eq_false h;omega)));(refine dd ?_)) | (refine ⟨?_,fun _=>?_⟩;(focus (intro h;first | (simp [hpc] at h;done) | (have h:=of_decide_eq_true h;omega) | (have h:=of_decide_eq_false h;omega)));(refine dd ?_))))
  refine .inl ⟨⟨true,[2],[1],[0]⟩,by kernel_rfl,?_⟩;(conv=>whnf)
  refine ⟨_,_,(qL).frame rfl _,?_⟩;refine dd ?_
  (repeat (refine ⟨rfl,?_⟩;conv=>whnf))
  (refine ⟨by omega,by omega,pf 271,by rw [hpc];rfl,?_⟩);refine dd ?_
  (repeat ((first | apply ya | apply yb);refine dd ?_))
  refine zT [] [⟨1,28,8,[z5 w],0⟩,⟨1,43,44,[zP m],0⟩,⟨1,28,8,[zeW],0⟩,⟨1,43,44,[zeM],0⟩,⟨1,81,23,[qB qC],0⟩,⟨1,0,1,(w.counts.map zL).set m.zo.toNat [C.sl (6) [] 1 0 r0.length false],0⟩,⟨2,38,1,(r0).map qY,0⟩] (rx:=.agg [I w.zu,I w.current,I w.lock,lI w.pins,lV w.zd,lL w.ze,.sl 5 [] 1 0 w.counts.length false,lR w.zt]) (zaE w sw w.counts rfl hp) (zb (zi (own 1)) rfl) rfl rfl rfl rfl rfl (by show _::_::_::_::_::zF _ ⟨1,0,1,_,0⟩::_=_;rw [zA (enc:=zL) (fun _=>rfl)];rfl) rfl ?_
  refine dd ?_
  refine zT [7,8,5,6] [⟨1,28,8,[z5 w],0⟩,⟨1,43,44,[zP m],0⟩,⟨1,28,8,[zeW],0⟩,⟨1,43,44,[zeM],0⟩,⟨1,81,23,[qB qC],0⟩,⟨1,0,1,(w.counts.map zL).set m.zo.toNat [C.sl (6) [] 1 0 r0.length false],0⟩,⟨2,38,1,(r1).map qY,0⟩,⟨1,28,8,[[I w.zu,I w.current,I w.lock,lI w.pins,lV w.zd,lL w.ze,.sl 5 [] 1 0 w.counts.length false,lR w.zt]],0⟩,⟨1,43,44,[zP m'],0⟩] (rx:=Ce e) h (zb rfl (zb rfl (zb (zi (own 3)) rfl))) (by show zI _ _::zI _ _::zI _ ⟨1,0,1,_,0⟩::_=_;rw [zE (enc:=zL) (fun _=>rfl)];rfl) rfl rfl rfl (zb rfl (zb rfl (zb rfl (zb rfl (zb rfl (zb (zi (own 6)) rfl)))))) (by show _::_::_::_::_::zF _ ⟨1,0,1,_,0⟩::_=_;rw [zA (enc:=zL) (fun _=>rfl)];rfl) rfl ?_
  refine dd ?_
  refine .inl ⟨⟨false,[0,1,2],[7,8,9],[]⟩,by kernel_rfl,?_⟩;(conv=>whnf)
  repeat (refine ⟨rfl,?_⟩;conv=>whnf)
  refine ⟨.inl rfl,_,(zq.zZ 5 m.zo.toNat 0 rfl gt rfl rfl (.inr rfl) (by simp) (by rw [ml1,hll]) (shut_map (enc:=qY) (fun _=>rfl) _) (own 6)).trans (zq.zZ 2 0 6 rfl rfl rfl rfl (.inl rfl) (by simp) (by simp) esh (qm rfl)),?_⟩
  show _=some (C.tup [C.agg [I w.zu,I w.current,I w.lock,lI w.pins,lV w.zd,lL w.ze,C.lst 0 1 ((w.counts.set m.zo.toNat r1).map zL),lR w.zt],Cm m',Ce e])
  rw [<- est]
  rfl
theorem zbu {w:Wor} {m m':Mac} {e:Eve} {r0 r1:List Int} (sw:ja w) (ok:OkW w) (hl:i64 m.listen) (hpc:m.pc=21) (hs:qc w m=true) (t0:0<=m.zo) (hr:w.counts[m.zo.toNat]?= some r0) (hne:r0≠[]) (hll:r1.length=r0.length)
  (h:zc Tryz.prog 272 [⟨1,28,8,[[I w.zu,I w.current,I w.lock,lI w.pins,lV w.zd,lL w.ze,.sl 2 [] 1 0 w.counts.length false,lR w.zt]],0⟩,⟨1,43,44,[zP m],0⟩,⟨1,0,1,(w.counts.map zL).set m.zo.toNat [C.sl (3) [] 1 0 r0.length false],0⟩,⟨2,38,1,(r0).map qY,0⟩] [.agg [.ref 0 [] 8 0 0,.ref 1 [] 44 0 0]] (Ce e) [⟨1,28,8,[[I w.zu,I w.current,I w.lock,lI w.pins,lV w.zd,lL w.ze,.sl 2 [] 1 0 w.counts.length false,lR w.zt]],0⟩,⟨1,43,44,[zP m'],0⟩,⟨1,0,1,(w.counts.map zL).set m.zo.toNat [C.sl (3) [] 1 0 r0.length false],0⟩,⟨2,38,1,(r1).map qY,0⟩]):zc Tryz.prog 152 [] [Cw w,Cm m] (.tup [Cw { w with counts:=w.counts.set m.zo.toNat r1 },Cm m',Ce e]) []:=by
 have ml:((w.counts.map zL)).length=w.counts.length:=List.length_map ..
 have ml1:(r1.map qY).length=r1.length:=List.length_map ..
 have hlt:m.zo.toNat < w.counts.length:=(List.getElem?_eq_some_iff.1 hr).1
 have own:∀ i,∀ r ∈ (w.counts.map zL).set m.zo.toNat ([C.sl i [] 1 0 r0.length false]),∀ c ∈ r,zy c=true:=fun i=>zx (enc:=zL) (fun _=>rfl) rfl _ _
 have gt:((w.counts.map zL).set m.zo.toNat ([C.sl 6 [] 1 0 r0.length false]))[m.zo.toNat]?= some ([C.sl 6 [] 1 0 r0.length false]):=List.getElem?_set_self (by simpa using hlt)
 have est:(((w.counts.map zL).set m.zo.toNat ([C.sl 6 [] 1 0 r0.length false])).set m.zo.toNat [.lst 0 1 (r1.map qY)])=(w.counts.set m.zo.toNat r1).map zL:=by rw [List.set_set,List.map_set];rfl
 have esh:∀ r ∈ (((w.counts.map zL).set m.zo.toNat ([C.sl 6 [] 1 0 r0.length false])).set m.zo.toNat [.lst 0 1 (r1.map qY)]),∀ c ∈ r,qF c=true∧zy c=true:=by
  rw [est]
  exact shut_map (enc:=zL) (fun _=>rfl) _
 have hp:ziA w.counts m.zo.toNat r0:=⟨sw.counts,hr,hne⟩
 by_cases hn:m.listen < 0
 all_goals
  refine zc.zr (fn:=Tryz.f152) Tryz.func152 rfl ?_
  conv=>whnf
  (repeat (first | (refine ⟨fun _=>?_,?_⟩;rotate_left 1;(focus (intro h;first | (simp [hpc] at h;done) | (have h:=of_decide_eq_true h;omega) | (have h:=of_decide_eq_false h;omega)));(refine dd ?_)) | (refine ⟨?_,fun _=>?_⟩;(focus (intro h;first | (simp [hpc] at h;done) | (have h:=of_decide_eq_true h;omega) | (have h:=of_decide_eq_false h;omega)));(refine dd ?_))))
  refine ⟨_,_,(zU w m ok hl).frame rfl _,?_⟩;refine dd ?_
  refine ⟨fun _=>?_,fun h=>absurd ((hs).symm.trans h:true=false) (by decide)⟩;refine dd ?_
  (repeat ((first | apply ya | apply yb);refine dd ?_))
  (repeat (first | (refine ⟨fun _=>?_,?_⟩;rotate_left 1;(focus (intro h;first | (simp [hpc] at h;done) | (have h:=of_decide_eq_true h;omega) | (have h:=of_decide_eq_false h;omega)));(refine dd ?_)) | (refine ⟨?_,fun _=>?_⟩;(focus (intro h;first | (simp [hpc] at h;done) | (have h:=of_decide_eq_true h;omega) | (have h:=of_decide_eq_false h;omega)));(refine dd ?_))))
  refine .inl ⟨⟨true,[2],[1],[0]⟩,by kernel_rfl,?_⟩;(conv=>whnf)
  refine ⟨_,_,(qL).frame rfl _,?_⟩;refine dd ?_
  (repeat (refine ⟨rfl,?_⟩;conv=>whnf))
  (refine ⟨by omega,by omega,pf 272,by rw [hpc];rfl,?_⟩);refine dd ?_
  (repeat ((first | apply ya | apply yb);refine dd ?_))
  refine zT [] [⟨1,28,8,[z5 w],0⟩,⟨1,43,44,[zP m],0⟩,⟨1,28,8,[zeW],0⟩,⟨1,43,44,[zeM],0⟩,⟨1,81,23,[qB qC],0⟩,⟨1,0,1,(w.counts.map zL).set m.zo.toNat [C.sl (6) [] 1 0 r0.length false],0⟩,⟨2,38,1,(r0).map qY,0⟩] (rx:=.agg [I w.zu,I w.current,I w.lock,lI w.pins,lV w.zd,lL w.ze,.sl 5 [] 1 0 w.counts.length false,lR w.zt]) (zaE w sw w.counts rfl hp) (zb (zi (own 1)) rfl) rfl rfl rfl rfl rfl (by show _::_::_::_::_::zF _ ⟨1,0,1,_,0⟩::_=_;rw [zA (enc:=zL) (fun _=>rfl)];rfl) rfl ?_
  refine dd ?_
  refine zT [7,8,5,6] [⟨1,28,8,[z5 w],0⟩,⟨1,43,44,[zP m],0⟩,⟨1,28,8,[zeW],0⟩,⟨1,43,44,[zeM],0⟩,⟨1,81,23,[qB qC],0⟩,⟨1,0,1,(w.counts.map zL).set m.zo.toNat [C.sl (6) [] 1 0 r0.length false],0⟩,⟨2,38,1,(r1).map qY,0⟩,⟨1,28,8,[[I w.zu,I w.current,I w.lock,lI w.pins,lV w.zd,lL w.ze,.sl 5 [] 1 0 w.counts.length false,lR w.zt]],0⟩,⟨1,43,44,[zP m'],0⟩] (rx:=Ce e) h (zb rfl (zb rfl (zb (zi (own 3)) rfl))) (by show zI _ _::zI _ _::zI _ ⟨1,0,1,_,0⟩::_=_;rw [zE (enc:=zL) (fun _=>rfl)];rfl) rfl rfl rfl (zb rfl (zb rfl (zb rfl (zb rfl (zb rfl (zb (zi (own 6)) rfl)))))) (by show _::_::_::_::_::zF _ ⟨1,0,1,_,0⟩::_=_;rw [zA (enc:=zL) (fun _=>rfl)];rfl) rfl ?_
  refine dd ?_
  refine .inl ⟨⟨false,[0,1,2],[7,8,9],[]⟩,by kernel_rfl,?_⟩;(conv=>whnf)
  repeat (refine ⟨rfl,?_⟩;conv=>whnf)
  refine ⟨.inl rfl,_,(zq.zZ 5 m.zo.toNat 0 rfl gt rfl rfl (.inr rfl) (by simp) (by rw [ml1,hll]) (shut_map (enc:=qY) (fun _=>rfl) _) (own 6)).trans (zq.zZ 2 0 6 rfl rfl rfl rfl (.inl rfl) (by simp) (by simp) esh (qm rfl)),?_⟩
  show _=some (C.tup [C.agg [I w.zu,I w.current,I w.lock,lI w.pins,lV w.zd,lL w.ze,C.lst 0 1 ((w.counts.set m.zo.toNat r1).map zL),lR w.zt],Cm m',Ce e])
  rw [<- est]
  rfl
end Go.Wor
namespace Go.Wor
open Go.Ab Go.Proofs Go.Hy Go.Gat Go.Nam Go.Hos Go.Con Go.Sna
theorem qM {α β:Type} (f:α->β) (l:List α) (i:Nat) (a:α) (r:β) (h:f a=r):(l.map f).set i r=(l.set i a).map f:=by rw [List.map_set,h]
abbrev qQ (e0:En) (hd ac:Int):En:={ e0 with head:=hd,zj:=ac }
abbrev xj (m:Mac) (g0:Gr) (e0:En) (tk hd ac:Int):Gr:={ g0 with zl:=tk,ends:=g0.ends.set m.end_.toNat (qQ e0 hd ac) }
abbrev ju (m:Mac) (v0:Ver) (g0:Gr) (e0:En) (tk hd ac:Int):Ver:={ v0 with zf:=v0.zf.set m.zg.toNat (xj m g0 e0 tk hd ac) }
abbrev yB (w:Wor) (m:Mac) (v0:Ver) (g0:Gr) (e0:En) (tk hd ac:Int):Wor:={ w with zd:=w.zd.set m.version.toNat (ju m v0 g0 e0 tk hd ac) }
theorem zdk {w:Wor} {m m':Mac} {e:Eve} {v0:Ver} {g0:Gr} {e0:En} {tk hd ac:Int} (sw:ja w) (ok:OkW w) (hl:i64 m.listen) (hpc:m.pc=6) (hs:qc w m=true) (hat:AtE w m v0 g0 e0) (hne:e0.next≠[])
  (h:zc Tryz.prog 264 [⟨1,28,8,[[I w.zu,I w.current,I w.lock,lI w.pins,.sl 2 [] 5 0 w.zd.length false,lL w.ze,lCo w.counts,lR w.zt]],0⟩,⟨1,43,44,[zP m],0⟩,⟨1,0,5,(w.zd.map zw).set m.version.toNat ((zJ v0.snap++[C.sl (3) [] 2 0 v0.zf.length false,Bo v0.zC])),0⟩,⟨1,0,2,(v0.zf.map zp).set m.zg.toNat ([U (g0.zl),C.sl (4) [] 3 0 g0.ends.length false]),0⟩,⟨1,0,3,(g0.ends.map zn).set m.end_.toNat ([U (e0.head),C.sl (5) [] 1 0 e0.next.length false,I (e0.zj)]),0⟩,⟨2,3,1,e0.next.map encI,0⟩] [.agg [.ref 0 [] 8 0 0,.ref 1 [] 44 0 0]] (Ce e) [⟨1,28,8,[[I w.zu,I w.current,I w.lock,lI w.pins,.sl 2 [] 5 0 w.zd.length false,lL w.ze,lCo w.counts,lR w.zt]],0⟩,⟨1,43,44,[zP m'],0⟩,⟨1,0,5,(w.zd.map zw).set m.version.toNat ((zJ v0.snap++[C.sl (3) [] 2 0 v0.zf.length false,Bo v0.zC])),0⟩,⟨1,0,2,(v0.zf.map zp).set m.zg.toNat ([U (tk),C.sl (4) [] 3 0 g0.ends.length false]),0⟩,⟨1,0,3,(g0.ends.map zn).set m.end_.toNat ([U (hd),C.sl (5) [] 1 0 e0.next.length false,I (ac)]),0⟩,⟨2,3,1,e0.next.map encI,0⟩]):zc Tryz.prog 152 [] [Cw w,Cm m] (.tup [Cw (yB w m v0 g0 e0 tk hd ac),Cm m',Ce e]) []:=by
 have lv:=hat.ln.lv
 have lg:=hat.ln.lg
 have le:=hat.ln.le
 have smv:=sw.zd.2 v0 (List.mem_of_getElem? hat.at_)
 have hp:zbO w.zd m.version.toNat v0 m.zg.toNat g0 m.end_.toNat e0:=⟨⟨⟨smv.2 g0 (List.mem_of_getElem? hat.atg),hat.ate,hne⟩,smv,hat.atg⟩,sw.zd,hat.at_⟩
 have ownV:∀ i,∀ r ∈ (w.zd.map zw).set m.version.toNat ((zJ v0.snap++[C.sl (i) [] 2 0 v0.zf.length false,Bo v0.zC])),∀ c ∈ r,zy c=true:=fun i=>zx (enc:=zw) (fun _=>rfl) rfl _ _
 have ownG:∀ i t,∀ r ∈ (v0.zf.map zp).set m.zg.toNat ([U (t),C.sl (i) [] 3 0 g0.ends.length false]),∀ c ∈ r,zy c=true:=fun i t=>zx (enc:=zp) (fun _=>rfl) rfl _ _
 have ownE:∀ i a b,∀ r ∈ (g0.ends.map zn).set m.end_.toNat ([U (a),C.sl (i) [] 1 0 e0.next.length false,I (b)]),∀ c ∈ r,zy c=true:=fun i a b=>zx (enc:=zn) (fun _=>rfl) rfl _ _
 have gv:((w.zd.map zw).set m.version.toNat ((zJ v0.snap++[C.sl (6) [] 2 0 v0.zf.length false,Bo v0.zC])))[m.version.toNat]?= some ((zJ v0.snap++[C.sl (6) [] 2 0 v0.zf.length false,Bo v0.zC])):=List.getElem?_set_self (by simpa using lv)
 have gg:((v0.zf.map zp).set m.zg.toNat ([U (tk),C.sl (7) [] 3 0 g0.ends.length false]))[m.zg.toNat]?= some ([U (tk),C.sl (7) [] 3 0 g0.ends.length false]):=List.getElem?_set_self (by simpa using lg)
 have ge:((g0.ends.map zn).set m.end_.toNat ([U (hd),C.sl (8) [] 1 0 e0.next.length false,I (ac)]))[m.end_.toNat]?= some ([U (hd),C.sl (8) [] 1 0 e0.next.length false,I (ac)]):=List.getElem?_set_self (by simpa using le)
 have estE:(((g0.ends.map zn).set m.end_.toNat ([U (hd),C.sl (8) [] 1 0 e0.next.length false,I (ac)])).set m.end_.toNat [U hd,C.lst 0 1 (e0.next.map encI),I ac])=(g0.ends.set m.end_.toNat (qQ e0 hd ac)).map zn:=by rw [List.set_set];exact qM zn _ _ (qQ e0 hd ac) _ rfl
 have estG:(((v0.zf.map zp).set m.zg.toNat ([U (tk),C.sl (7) [] 3 0 g0.ends.length false])).set m.zg.toNat [U tk,C.lst 0 3 (((g0.ends.set m.end_.toNat (qQ e0 hd ac)).map zn))])=(v0.zf.set m.zg.toNat (xj m g0 e0 tk hd ac)).map zp:=by rw [List.set_set];exact qM zp _ _ (xj m g0 e0 tk hd ac) _ rfl
 have estV:(((w.zd.map zw).set m.version.toNat ((zJ v0.snap++[C.sl (6) [] 2 0 v0.zf.length false,Bo v0.zC]))).set m.version.toNat (zJ v0.snap++[C.lst 0 2 (((v0.zf.set m.zg.toNat (xj m g0 e0 tk hd ac)).map zp)),Bo v0.zC]))=(w.zd.set m.version.toNat (ju m v0 g0 e0 tk hd ac)).map zw:=by rw [List.set_set];exact qM zw _ _ (ju m v0 g0 e0 tk hd ac) _ rfl
 have eshE:∀ r ∈ (((g0.ends.map zn).set m.end_.toNat ([U (hd),C.sl (8) [] 1 0 e0.next.length false,I (ac)])).set m.end_.toNat [U hd,C.lst 0 1 (e0.next.map encI),I ac]),∀ c ∈ r,qF c=true∧zy c=true:=by
  rw [estE]
  exact shut_map (enc:=zn) (fun _=>rfl) _
 have eshG:∀ r ∈ (((v0.zf.map zp).set m.zg.toNat ([U (tk),C.sl (7) [] 3 0 g0.ends.length false])).set m.zg.toNat [U tk,C.lst 0 3 (((g0.ends.map zn).set m.end_.toNat ([U (hd),C.sl (8) [] 1 0 e0.next.length false,I (ac)])).set m.end_.toNat [U hd,C.lst 0 1 (e0.next.map encI),I ac])]),∀ c ∈ r,qF c=true∧zy c=true:=by
  rw [estE,estG]
  exact shut_map (enc:=zp) (fun _=>rfl) _
 have eshV:∀ r ∈ (((w.zd.map zw).set m.version.toNat ((zJ v0.snap++[C.sl (6) [] 2 0 v0.zf.length false,Bo v0.zC]))).set m.version.toNat (zJ v0.snap++[C.lst 0 2 (((v0.zf.map zp).set m.zg.toNat ([U (tk),C.sl (7) [] 3 0 g0.ends.length false])).set m.zg.toNat [U tk,C.lst 0 3 (((g0.ends.map zn).set m.end_.toNat ([U (hd),C.sl (8) [] 1 0 e0.next.length false,I (ac)])).set m.end_.toNat [U hd,C.lst 0 1 (e0.next.map encI),I ac])]),Bo v0.zC])),∀ c ∈ r,qF c=true∧zy c=true:=by
  rw [estE,estG,estV]
  exact shut_map (enc:=zw) (fun _=>rfl) _
 by_cases hn:m.listen < 0
 all_goals
  refine zc.zr (fn:=Tryz.f152) Tryz.func152 rfl ?_
  conv=>whnf
  (repeat (first | (refine ⟨fun _=>?_,?_⟩;rotate_left 1;(focus (intro h;first | (simp [hpc] at h;done) | (have h:=of_decide_eq_true h;omega) | (have h:=of_decide_eq_false h;omega)));(refine dd ?_)) | (refine ⟨?_,fun _=>?_⟩;(focus (intro h;first | (simp [hpc] at h;done) | (have h:=of_decide_eq_true h;omega) | (have h:=of_decide_eq_false h;omega)));(refine dd ?_))))
  refine ⟨_,_,(zU w m ok hl).frame rfl _,?_⟩;refine dd ?_
  refine ⟨fun _=>?_,fun h=>absurd ((hs).symm.trans h:true=false) (by decide)⟩;refine dd ?_
  (repeat ((first | apply ya | apply yb);refine dd ?_))
  (repeat (first | (refine ⟨fun _=>?_,?_⟩;rotate_left 1;(focus (intro h;first | (simp [hpc] at h;done) | (have h:=of_decide_eq_true h;omega) | (have h:=of_decide_eq_false h;omega)));(refine dd ?_)) | (refine ⟨?_,fun _=>?_⟩;(focus (intro h;first | (simp [hpc] at h;done) | (have h:=of_decide_eq_true h;omega) | (have h:=of_decide_eq_false h;omega)));(refine dd ?_))))
  refine .inl ⟨⟨true,[2],[1],[0]⟩,by kernel_rfl,?_⟩;(conv=>whnf)
  refine ⟨_,_,(qL).frame rfl _,?_⟩;refine dd ?_
  (repeat (refine ⟨rfl,?_⟩;conv=>whnf))
  (refine ⟨by omega,by omega,pf 264,by rw [hpc];rfl,?_⟩);refine dd ?_
  (repeat ((first | apply ya | apply yb);refine dd ?_))
  refine zT [] [⟨1,28,8,[z5 w],0⟩,⟨1,43,44,[zP m],0⟩,⟨1,28,8,[zeW],0⟩,⟨1,43,44,[zeM],0⟩,⟨1,81,23,[qB qC],0⟩,⟨1,0,5,(w.zd.map zw).set m.version.toNat ((zJ v0.snap++[C.sl (6) [] 2 0 v0.zf.length false,Bo v0.zC])),0⟩,⟨1,0,2,(v0.zf.map zp).set m.zg.toNat ([U (g0.zl),C.sl (7) [] 3 0 g0.ends.length false]),0⟩,⟨1,0,3,(g0.ends.map zn).set m.end_.toNat ([U (e0.head),C.sl (8) [] 1 0 e0.next.length false,I (e0.zj)]),0⟩,⟨2,3,1,e0.next.map encI,0⟩] (rx:=.agg [I w.zu,I w.current,I w.lock,lI w.pins,.sl 5 [] 5 0 w.zd.length false,lL w.ze,lCo w.counts,lR w.zt]) (xl w sw w.zd rfl hp) (zb (zi (ownV 1)) (zb (zi (ownG 2 _)) (zb (zi (ownE 3 _ _)) rfl))) rfl rfl rfl rfl rfl (by show _::_::_::_::_::zF _ ⟨1,0,5,_,0⟩::zF _ ⟨1,0,2,_,0⟩::zF _ ⟨1,0,3,_,0⟩::_=_;rw [zA (enc:=zw) (fun _=>rfl),zA (enc:=zp) (fun _=>rfl),zA (enc:=zn) (fun _=>rfl)];rfl) rfl ?_
  refine dd ?_
  refine zT [9,10,5,6,7,8] [⟨1,28,8,[z5 w],0⟩,⟨1,43,44,[zP m],0⟩,⟨1,28,8,[zeW],0⟩,⟨1,43,44,[zeM],0⟩,⟨1,81,23,[qB qC],0⟩,⟨1,0,5,(w.zd.map zw).set m.version.toNat ((zJ v0.snap++[C.sl (6) [] 2 0 v0.zf.length false,Bo v0.zC])),0⟩,⟨1,0,2,(v0.zf.map zp).set m.zg.toNat ([U (tk),C.sl (7) [] 3 0 g0.ends.length false]),0⟩,⟨1,0,3,(g0.ends.map zn).set m.end_.toNat ([U (hd),C.sl (8) [] 1 0 e0.next.length false,I (ac)]),0⟩,⟨2,3,1,e0.next.map encI,0⟩,⟨1,28,8,[[I w.zu,I w.current,I w.lock,lI w.pins,.sl 5 [] 5 0 w.zd.length false,lL w.ze,lCo w.counts,lR w.zt]],0⟩,⟨1,43,44,[zP m'],0⟩] (rx:=Ce e) h (zb rfl (zb rfl (zb (zi (ownV 3)) (zb (zi (ownG 4 _)) (zb (zi (ownE 5 _ _)) rfl))))) (by show zI _ _::zI _ _::zI _ ⟨1,0,5,_,0⟩::zI _ ⟨1,0,2,_,0⟩::zI _ ⟨1,0,3,_,0⟩::_=_;rw [zE (enc:=zw) (fun _=>rfl),zE (enc:=zp) (fun _=>rfl),zE (enc:=zn) (fun _=>rfl)];rfl) rfl rfl rfl (zb rfl (zb rfl (zb rfl (zb rfl (zb rfl (zb (zi (ownV 6)) (zb (zi (ownG 7 _)) (zb (zi (ownE 8 _ _)) rfl)))))))) (by show _::_::_::_::_::zF _ ⟨1,0,5,_,0⟩::zF _ ⟨1,0,2,_,0⟩::zF _ ⟨1,0,3,_,0⟩::_=_;rw [zA (enc:=zw) (fun _=>rfl),zA (enc:=zp) (fun _=>rfl),zA (enc:=zn) (fun _=>rfl)];rfl) rfl ?_
  refine dd ?_
  refine .inl ⟨⟨false,[0,1,2],[9,10,11],[]⟩,by kernel_rfl,?_⟩;(conv=>whnf)
  repeat (refine ⟨rfl,?_⟩;conv=>whnf)
  refine ⟨.inl rfl,_,(((zq.zZ 7 m.end_.toNat 1 rfl ge rfl rfl (.inr rfl) (by simp) (by simp) (shut_map (enc:=encI) (fun _=>rfl) _) (ownE 8 _ _)).trans (zq.zZ 6 m.zg.toNat 1 rfl gg rfl rfl (.inl rfl) (by simp) (by simp) eshE (ownG 7 _))).trans (zq.zZ 5 m.version.toNat 3 rfl gv rfl rfl (.inl rfl) (by simp) (by simp) eshG (ownV 6))).trans (zq.zZ 2 0 4 rfl rfl rfl rfl (.inl rfl) (by simp) (by simp) eshV (qm rfl)),?_⟩
  show _=some (C.tup [C.agg [I w.zu,I w.current,I w.lock,lI w.pins,C.lst 0 5 ((w.zd.set m.version.toNat (ju m v0 g0 e0 tk hd ac)).map zw),lL w.ze,lCo w.counts,lR w.zt],Cm m',Ce e])
  rw [<- estV,<- estG,<- estE]
  rfl
theorem wD {w:Wor} {m m':Mac} {e:Eve} {v0:Ver} {g0:Gr} {e0:En} {tk hd ac:Int} (sw:ja w) (ok:OkW w) (hl:i64 m.listen) (hpc:m.pc=11) (hs:qc w m=true) (hat:AtE w m v0 g0 e0) (hne:e0.next≠[])
  (h:zc Tryz.prog 269 [⟨1,28,8,[[I w.zu,I w.current,I w.lock,lI w.pins,.sl 2 [] 5 0 w.zd.length false,lL w.ze,lCo w.counts,lR w.zt]],0⟩,⟨1,43,44,[zP m],0⟩,⟨1,0,5,(w.zd.map zw).set m.version.toNat ((zJ v0.snap++[C.sl (3) [] 2 0 v0.zf.length false,Bo v0.zC])),0⟩,⟨1,0,2,(v0.zf.map zp).set m.zg.toNat ([U (g0.zl),C.sl (4) [] 3 0 g0.ends.length false]),0⟩,⟨1,0,3,(g0.ends.map zn).set m.end_.toNat ([U (e0.head),C.sl (5) [] 1 0 e0.next.length false,I (e0.zj)]),0⟩,⟨2,3,1,e0.next.map encI,0⟩] [.agg [.ref 0 [] 8 0 0,.ref 1 [] 44 0 0]] (Ce e) [⟨1,28,8,[[I w.zu,I w.current,I w.lock,lI w.pins,.sl 2 [] 5 0 w.zd.length false,lL w.ze,lCo w.counts,lR w.zt]],0⟩,⟨1,43,44,[zP m'],0⟩,⟨1,0,5,(w.zd.map zw).set m.version.toNat ((zJ v0.snap++[C.sl (3) [] 2 0 v0.zf.length false,Bo v0.zC])),0⟩,⟨1,0,2,(v0.zf.map zp).set m.zg.toNat ([U (tk),C.sl (4) [] 3 0 g0.ends.length false]),0⟩,⟨1,0,3,(g0.ends.map zn).set m.end_.toNat ([U (hd),C.sl (5) [] 1 0 e0.next.length false,I (ac)]),0⟩,⟨2,3,1,e0.next.map encI,0⟩]):zc Tryz.prog 152 [] [Cw w,Cm m] (.tup [Cw (yB w m v0 g0 e0 tk hd ac),Cm m',Ce e]) []:=by
 have lv:=hat.ln.lv
 have lg:=hat.ln.lg
 have le:=hat.ln.le
 have smv:=sw.zd.2 v0 (List.mem_of_getElem? hat.at_)
 have hp:zbO w.zd m.version.toNat v0 m.zg.toNat g0 m.end_.toNat e0:=⟨⟨⟨smv.2 g0 (List.mem_of_getElem? hat.atg),hat.ate,hne⟩,smv,hat.atg⟩,sw.zd,hat.at_⟩
 have ownV:∀ i,∀ r ∈ (w.zd.map zw).set m.version.toNat ((zJ v0.snap++[C.sl (i) [] 2 0 v0.zf.length false,Bo v0.zC])),∀ c ∈ r,zy c=true:=fun i=>zx (enc:=zw) (fun _=>rfl) rfl _ _
 have ownG:∀ i t,∀ r ∈ (v0.zf.map zp).set m.zg.toNat ([U (t),C.sl (i) [] 3 0 g0.ends.length false]),∀ c ∈ r,zy c=true:=fun i t=>zx (enc:=zp) (fun _=>rfl) rfl _ _
 have ownE:∀ i a b,∀ r ∈ (g0.ends.map zn).set m.end_.toNat ([U (a),C.sl (i) [] 1 0 e0.next.length false,I (b)]),∀ c ∈ r,zy c=true:=fun i a b=>zx (enc:=zn) (fun _=>rfl) rfl _ _
 have gv:((w.zd.map zw).set m.version.toNat ((zJ v0.snap++[C.sl (6) [] 2 0 v0.zf.length false,Bo v0.zC])))[m.version.toNat]?= some ((zJ v0.snap++[C.sl (6) [] 2 0 v0.zf.length false,Bo v0.zC])):=List.getElem?_set_self (by simpa using lv)
 have gg:((v0.zf.map zp).set m.zg.toNat ([U (tk),C.sl (7) [] 3 0 g0.ends.length false]))[m.zg.toNat]?= some ([U (tk),C.sl (7) [] 3 0 g0.ends.length false]):=List.getElem?_set_self (by simpa using lg)
 have ge:((g0.ends.map zn).set m.end_.toNat ([U (hd),C.sl (8) [] 1 0 e0.next.length false,I (ac)]))[m.end_.toNat]?= some ([U (hd),C.sl (8) [] 1 0 e0.next.length false,I (ac)]):=List.getElem?_set_self (by simpa using le)
 have estE:(((g0.ends.map zn).set m.end_.toNat ([U (hd),C.sl (8) [] 1 0 e0.next.length false,I (ac)])).set m.end_.toNat [U hd,C.lst 0 1 (e0.next.map encI),I ac])=(g0.ends.set m.end_.toNat (qQ e0 hd ac)).map zn:=by rw [List.set_set];exact qM zn _ _ (qQ e0 hd ac) _ rfl
 have estG:(((v0.zf.map zp).set m.zg.toNat ([U (tk),C.sl (7) [] 3 0 g0.ends.length false])).set m.zg.toNat [U tk,C.lst 0 3 (((g0.ends.set m.end_.toNat (qQ e0 hd ac)).map zn))])=(v0.zf.set m.zg.toNat (xj m g0 e0 tk hd ac)).map zp:=by rw [List.set_set];exact qM zp _ _ (xj m g0 e0 tk hd ac) _ rfl
 have estV:(((w.zd.map zw).set m.version.toNat ((zJ v0.snap++[C.sl (6) [] 2 0 v0.zf.length false,Bo v0.zC]))).set m.version.toNat (zJ v0.snap++[C.lst 0 2 (((v0.zf.set m.zg.toNat (xj m g0 e0 tk hd ac)).map zp)),Bo v0.zC]))=(w.zd.set m.version.toNat (ju m v0 g0 e0 tk hd ac)).map zw:=by rw [List.set_set];exact qM zw _ _ (ju m v0 g0 e0 tk hd ac) _ rfl
 have eshE:∀ r ∈ (((g0.ends.map zn).set m.end_.toNat ([U (hd),C.sl (8) [] 1 0 e0.next.length false,I (ac)])).set m.end_.toNat [U hd,C.lst 0 1 (e0.next.map encI),I ac]),∀ c ∈ r,qF c=true∧zy c=true:=by
  rw [estE]
  exact shut_map (enc:=zn) (fun _=>rfl) _
 have eshG:∀ r ∈ (((v0.zf.map zp).set m.zg.toNat ([U (tk),C.sl (7) [] 3 0 g0.ends.length false])).set m.zg.toNat [U tk,C.lst 0 3 (((g0.ends.map zn).set m.end_.toNat ([U (hd),C.sl (8) [] 1 0 e0.next.length false,I (ac)])).set m.end_.toNat [U hd,C.lst 0 1 (e0.next.map encI),I ac])]),∀ c ∈ r,qF c=true∧zy c=true:=by
  rw [estE,estG]
  exact shut_map (enc:=zp) (fun _=>rfl) _
 have eshV:∀ r ∈ (((w.zd.map zw).set m.version.toNat ((zJ v0.snap++[C.sl (6) [] 2 0 v0.zf.length false,Bo v0.zC]))).set m.version.toNat (zJ v0.snap++[C.lst 0 2 (((v0.zf.map zp).set m.zg.toNat ([U (tk),C.sl (7) [] 3 0 g0.ends.length false])).set m.zg.toNat [U tk,C.lst 0 3 (((g0.ends.map zn).set m.end_.toNat ([U (hd),C.sl (8) [] 1 0 e0.next.length false,I (ac)])).set m.end_.toNat [U hd,C.lst 0 1 (e0.next.map encI),I ac])]),Bo v0.zC])),∀ c ∈ r,qF c=true∧zy c=true:=by
  rw [estE,estG,estV]
  exact shut_map (enc:=zw) (fun _=>rfl) _
 by_cases hn:m.listen < 0
 all_goals
  refine zc.zr (fn:=Tryz.f152) Tryz.func152 rfl ?_
  conv=>whnf
  (repeat (first | (refine ⟨fun _=>?_,?_⟩;rotate_left 1;(focus (intro h;first | (simp [hpc] at h;done) | (have h:=of_decide_eq_true h;omega) | (have h:=of_decide_eq_false h;omega)));(refine dd ?_)) | (refine ⟨?_,fun _=>?_⟩;(focus (intro h;first | (simp [hpc] at h;done) | (have h:=of_decide_eq_true h;omega) | (have h:=of_decide_eq_false h;omega)));(refine dd ?_))))
  refine ⟨_,_,(zU w m ok hl).frame rfl _,?_⟩;refine dd ?_
  refine ⟨fun _=>?_,fun h=>absurd ((hs).symm.trans h:true=false) (by decide)⟩;refine dd ?_
  (repeat ((first | apply ya | apply yb);refine dd ?_))
  (repeat (first | (refine ⟨fun _=>?_,?_⟩;rotate_left 1;(focus (intro h;first | (simp [hpc] at h;done) | (have h:=of_decide_eq_true h;omega) | (have h:=of_decide_eq_false h;omega)));(refine dd ?_)) | (refine ⟨?_,fun _=>?_⟩;(focus (intro h;first | (simp [hpc] at h;done) | (have h:=of_decide_eq_true h;omega) | (have h:=of_decide_eq_false h;omega)));(refine dd ?_))))
  refine .inl ⟨⟨true,[2],[1],[0]⟩,by kernel_rfl,?_⟩;(conv=>whnf)
  refine ⟨_,_,(qL).frame rfl _,?_⟩;refine dd ?_
  (repeat (refine ⟨rfl,?_⟩;conv=>whnf))
  (refine ⟨by omega,by omega,pf 269,by rw [hpc];rfl,?_⟩);refine dd ?_
  (repeat ((first | apply ya | apply yb);refine dd ?_))
  refine zT [] [⟨1,28,8,[z5 w],0⟩,⟨1,43,44,[zP m],0⟩,⟨1,28,8,[zeW],0⟩,⟨1,43,44,[zeM],0⟩,⟨1,81,23,[qB qC],0⟩,⟨1,0,5,(w.zd.map zw).set m.version.toNat ((zJ v0.snap++[C.sl (6) [] 2 0 v0.zf.length false,Bo v0.zC])),0⟩,⟨1,0,2,(v0.zf.map zp).set m.zg.toNat ([U (g0.zl),C.sl (7) [] 3 0 g0.ends.length false]),0⟩,⟨1,0,3,(g0.ends.map zn).set m.end_.toNat ([U (e0.head),C.sl (8) [] 1 0 e0.next.length false,I (e0.zj)]),0⟩,⟨2,3,1,e0.next.map encI,0⟩] (rx:=.agg [I w.zu,I w.current,I w.lock,lI w.pins,.sl 5 [] 5 0 w.zd.length false,lL w.ze,lCo w.counts,lR w.zt]) (xl w sw w.zd rfl hp) (zb (zi (ownV 1)) (zb (zi (ownG 2 _)) (zb (zi (ownE 3 _ _)) rfl))) rfl rfl rfl rfl rfl (by show _::_::_::_::_::zF _ ⟨1,0,5,_,0⟩::zF _ ⟨1,0,2,_,0⟩::zF _ ⟨1,0,3,_,0⟩::_=_;rw [zA (enc:=zw) (fun _=>rfl),zA (enc:=zp) (fun _=>rfl),zA (enc:=zn) (fun _=>rfl)];rfl) rfl ?_
  refine dd ?_
  refine zT [9,10,5,6,7,8] [⟨1,28,8,[z5 w],0⟩,⟨1,43,44,[zP m],0⟩,⟨1,28,8,[zeW],0⟩,⟨1,43,44,[zeM],0⟩,⟨1,81,23,[qB qC],0⟩,⟨1,0,5,(w.zd.map zw).set m.version.toNat ((zJ v0.snap++[C.sl (6) [] 2 0 v0.zf.length false,Bo v0.zC])),0⟩,⟨1,0,2,(v0.zf.map zp).set m.zg.toNat ([U (tk),C.sl (7) [] 3 0 g0.ends.length false]),0⟩,⟨1,0,3,(g0.ends.map zn).set m.end_.toNat ([U (hd),C.sl (8) [] 1 0 e0.next.length false,I (ac)]),0⟩,⟨2,3,1,e0.next.map encI,0⟩,⟨1,28,8,[[I w.zu,I w.current,I w.lock,lI w.pins,.sl 5 [] 5 0 w.zd.length false,lL w.ze,lCo w.counts,lR w.zt]],0⟩,⟨1,43,44,[zP m'],0⟩] (rx:=Ce e) h (zb rfl (zb rfl (zb (zi (ownV 3)) (zb (zi (ownG 4 _)) (zb (zi (ownE 5 _ _)) rfl))))) (by show zI _ _::zI _ _::zI _ ⟨1,0,5,_,0⟩::zI _ ⟨1,0,2,_,0⟩::zI _ ⟨1,0,3,_,0⟩::_=_;rw [zE (enc:=zw) (fun _=>rfl),zE (enc:=zp) (fun _=>rfl),zE (enc:=zn) (fun _=>rfl)];rfl) rfl rfl rfl (zb rfl (zb rfl (zb rfl (zb rfl (zb rfl (zb (zi (ownV 6)) (zb (zi (ownG 7 _)) (zb (zi (ownE 8 _ _)) rfl)))))))) (by show _::_::_::_::_::zF _ ⟨1,0,5,_,0⟩::zF _ ⟨1,0,2,_,0⟩::zF _ ⟨1,0,3,_,0⟩::_=_;rw [zA (enc:=zw) (fun _=>rfl),zA (enc:=zp) (fun _=>rfl),zA (enc:=zn) (fun _=>rfl)];rfl) rfl ?_
  refine dd ?_
  refine .inl ⟨⟨false,[0,1,2],[9,10,11],[]⟩,by kernel_rfl,?_⟩;(conv=>whnf)
  repeat (refine ⟨rfl,?_⟩;conv=>whnf)
  refine ⟨.inl rfl,_,(((zq.zZ 7 m.end_.toNat 1 rfl ge rfl rfl (.inr rfl) (by simp) (by simp) (shut_map (enc:=encI) (fun _=>rfl) _) (ownE 8 _ _)).trans (zq.zZ 6 m.zg.toNat 1 rfl gg rfl rfl (.inl rfl) (by simp) (by simp) eshE (ownG 7 _))).trans (zq.zZ 5 m.version.toNat 3 rfl gv rfl rfl (.inl rfl) (by simp) (by simp) eshG (ownV 6))).trans (zq.zZ 2 0 4 rfl rfl rfl rfl (.inl rfl) (by simp) (by simp) eshV (qm rfl)),?_⟩
  show _=some (C.tup [C.agg [I w.zu,I w.current,I w.lock,lI w.pins,C.lst 0 5 ((w.zd.set m.version.toNat (ju m v0 g0 e0 tk hd ac)).map zw),lL w.ze,lCo w.counts,lR w.zt],Cm m',Ce e])
  rw [<- estV,<- estG,<- estE]
  rfl
theorem zbs {w:Wor} {m m':Mac} {e:Eve} {v0:Ver} {g0:Gr} {e0:En} {tk hd ac:Int} (sw:ja w) (ok:OkW w) (hl:i64 m.listen) (hpc:m.pc=12) (hs:qc w m=true) (hat:AtE w m v0 g0 e0) (hne:e0.next≠[])
  (h:zc Tryz.prog 270 [⟨1,28,8,[[I w.zu,I w.current,I w.lock,lI w.pins,.sl 2 [] 5 0 w.zd.length false,lL w.ze,lCo w.counts,lR w.zt]],0⟩,⟨1,43,44,[zP m],0⟩,⟨1,0,5,(w.zd.map zw).set m.version.toNat ((zJ v0.snap++[C.sl (3) [] 2 0 v0.zf.length false,Bo v0.zC])),0⟩,⟨1,0,2,(v0.zf.map zp).set m.zg.toNat ([U (g0.zl),C.sl (4) [] 3 0 g0.ends.length false]),0⟩,⟨1,0,3,(g0.ends.map zn).set m.end_.toNat ([U (e0.head),C.sl (5) [] 1 0 e0.next.length false,I (e0.zj)]),0⟩,⟨2,3,1,e0.next.map encI,0⟩] [.agg [.ref 0 [] 8 0 0,.ref 1 [] 44 0 0]] (Ce e) [⟨1,28,8,[[I w.zu,I w.current,I w.lock,lI w.pins,.sl 2 [] 5 0 w.zd.length false,lL w.ze,lCo w.counts,lR w.zt]],0⟩,⟨1,43,44,[zP m'],0⟩,⟨1,0,5,(w.zd.map zw).set m.version.toNat ((zJ v0.snap++[C.sl (3) [] 2 0 v0.zf.length false,Bo v0.zC])),0⟩,⟨1,0,2,(v0.zf.map zp).set m.zg.toNat ([U (tk),C.sl (4) [] 3 0 g0.ends.length false]),0⟩,⟨1,0,3,(g0.ends.map zn).set m.end_.toNat ([U (hd),C.sl (5) [] 1 0 e0.next.length false,I (ac)]),0⟩,⟨2,3,1,e0.next.map encI,0⟩]):zc Tryz.prog 152 [] [Cw w,Cm m] (.tup [Cw (yB w m v0 g0 e0 tk hd ac),Cm m',Ce e]) []:=by
 have lv:=hat.ln.lv
 have lg:=hat.ln.lg
 have le:=hat.ln.le
 have smv:=sw.zd.2 v0 (List.mem_of_getElem? hat.at_)
 have hp:zbO w.zd m.version.toNat v0 m.zg.toNat g0 m.end_.toNat e0:=⟨⟨⟨smv.2 g0 (List.mem_of_getElem? hat.atg),hat.ate,hne⟩,smv,hat.atg⟩,sw.zd,hat.at_⟩
 have ownV:∀ i,∀ r ∈ (w.zd.map zw).set m.version.toNat ((zJ v0.snap++[C.sl (i) [] 2 0 v0.zf.length false,Bo v0.zC])),∀ c ∈ r,zy c=true:=fun i=>zx (enc:=zw) (fun _=>rfl) rfl _ _
 have ownG:∀ i t,∀ r ∈ (v0.zf.map zp).set m.zg.toNat ([U (t),C.sl (i) [] 3 0 g0.ends.length false]),∀ c ∈ r,zy c=true:=fun i t=>zx (enc:=zp) (fun _=>rfl) rfl _ _
 have ownE:∀ i a b,∀ r ∈ (g0.ends.map zn).set m.end_.toNat ([U (a),C.sl (i) [] 1 0 e0.next.length false,I (b)]),∀ c ∈ r,zy c=true:=fun i a b=>zx (enc:=zn) (fun _=>rfl) rfl _ _
 have gv:((w.zd.map zw).set m.version.toNat ((zJ v0.snap++[C.sl (6) [] 2 0 v0.zf.length false,Bo v0.zC])))[m.version.toNat]?= some ((zJ v0.snap++[C.sl (6) [] 2 0 v0.zf.length false,Bo v0.zC])):=List.getElem?_set_self (by simpa using lv)
 have gg:((v0.zf.map zp).set m.zg.toNat ([U (tk),C.sl (7) [] 3 0 g0.ends.length false]))[m.zg.toNat]?= some ([U (tk),C.sl (7) [] 3 0 g0.ends.length false]):=List.getElem?_set_self (by simpa using lg)
 have ge:((g0.ends.map zn).set m.end_.toNat ([U (hd),C.sl (8) [] 1 0 e0.next.length false,I (ac)]))[m.end_.toNat]?= some ([U (hd),C.sl (8) [] 1 0 e0.next.length false,I (ac)]):=List.getElem?_set_self (by simpa using le)
 have estE:(((g0.ends.map zn).set m.end_.toNat ([U (hd),C.sl (8) [] 1 0 e0.next.length false,I (ac)])).set m.end_.toNat [U hd,C.lst 0 1 (e0.next.map encI),I ac])=(g0.ends.set m.end_.toNat (qQ e0 hd ac)).map zn:=by rw [List.set_set];exact qM zn _ _ (qQ e0 hd ac) _ rfl
 have estG:(((v0.zf.map zp).set m.zg.toNat ([U (tk),C.sl (7) [] 3 0 g0.ends.length false])).set m.zg.toNat [U tk,C.lst 0 3 (((g0.ends.set m.end_.toNat (qQ e0 hd ac)).map zn))])=(v0.zf.set m.zg.toNat (xj m g0 e0 tk hd ac)).map zp:=by rw [List.set_set];exact qM zp _ _ (xj m g0 e0 tk hd ac) _ rfl
 have estV:(((w.zd.map zw).set m.version.toNat ((zJ v0.snap++[C.sl (6) [] 2 0 v0.zf.length false,Bo v0.zC]))).set m.version.toNat (zJ v0.snap++[C.lst 0 2 (((v0.zf.set m.zg.toNat (xj m g0 e0 tk hd ac)).map zp)),Bo v0.zC]))=(w.zd.set m.version.toNat (ju m v0 g0 e0 tk hd ac)).map zw:=by rw [List.set_set];exact qM zw _ _ (ju m v0 g0 e0 tk hd ac) _ rfl
 have eshE:∀ r ∈ (((g0.ends.map zn).set m.end_.toNat ([U (hd),C.sl (8) [] 1 0 e0.next.length false,I (ac)])).set m.end_.toNat [U hd,C.lst 0 1 (e0.next.map encI),I ac]),∀ c ∈ r,qF c=true∧zy c=true:=by
  rw [estE]
  exact shut_map (enc:=zn) (fun _=>rfl) _
 have eshG:∀ r ∈ (((v0.zf.map zp).set m.zg.toNat ([U (tk),C.sl (7) [] 3 0 g0.ends.length false])).set m.zg.toNat [U tk,C.lst 0 3 (((g0.ends.map zn).set m.end_.toNat ([U (hd),C.sl (8) [] 1 0 e0.next.length false,I (ac)])).set m.end_.toNat [U hd,C.lst 0 1 (e0.next.map encI),I ac])]),∀ c ∈ r,qF c=true∧zy c=true:=by
  rw [estE,estG]
  exact shut_map (enc:=zp) (fun _=>rfl) _
 have eshV:∀ r ∈ (((w.zd.map zw).set m.version.toNat ((zJ v0.snap++[C.sl (6) [] 2 0 v0.zf.length false,Bo v0.zC]))).set m.version.toNat (zJ v0.snap++[C.lst 0 2 (((v0.zf.map zp).set m.zg.toNat ([U (tk),C.sl (7) [] 3 0 g0.ends.length false])).set m.zg.toNat [U tk,C.lst 0 3 (((g0.ends.map zn).set m.end_.toNat ([U (hd),C.sl (8) [] 1 0 e0.next.length false,I (ac)])).set m.end_.toNat [U hd,C.lst 0 1 (e0.next.map encI),I ac])]),Bo v0.zC])),∀ c ∈ r,qF c=true∧zy c=true:=by
  rw [estE,estG,estV]
  exact shut_map (enc:=zw) (fun _=>rfl) _
 by_cases hn:m.listen < 0
 all_goals
  refine zc.zr (fn:=Tryz.f152) Tryz.func152 rfl ?_
  conv=>whnf
  (repeat (first | (refine ⟨fun _=>?_,?_⟩;rotate_left 1;(focus (intro h;first | (simp [hpc] at h;done) | (have h:=of_decide_eq_true h;omega) | (have h:=of_decide_eq_false h;omega)));(refine dd ?_)) | (refine ⟨?_,fun _=>?_⟩;(focus (intro h;first | (simp [hpc] at h;done) | (have h:=of_decide_eq_true h;omega) | (have h:=of_decide_eq_false h;omega)));(refine dd ?_))))
  refine ⟨_,_,(zU w m ok hl).frame rfl _,?_⟩;refine dd ?_
  refine ⟨fun _=>?_,fun h=>absurd ((hs).symm.trans h:true=false) (by decide)⟩;refine dd ?_
  (repeat ((first | apply ya | apply yb);refine dd ?_))
  (repeat (first | (refine ⟨fun _=>?_,?_⟩;rotate_left 1;(focus (intro h;first | (simp [hpc] at h;done) | (have h:=of_decide_eq_true h;omega) | (have h:=of_decide_eq_false h;omega)));(refine dd ?_)) | (refine ⟨?_,fun _=>?_⟩;(focus (intro h;first | (simp [hpc] at h;done) | (have h:=of_decide_eq_true h;omega) | (have h:=of_decide_eq_false h;omega)));(refine dd ?_))))
  refine .inl ⟨⟨true,[2],[1],[0]⟩,by kernel_rfl,?_⟩;(conv=>whnf)
  refine ⟨_,_,(qL).frame rfl _,?_⟩;refine dd ?_
  (repeat (refine ⟨rfl,?_⟩;conv=>whnf))
  (refine ⟨by omega,by omega,pf 270,by rw [hpc];rfl,?_⟩);refine dd ?_
  (repeat ((first | apply ya | apply yb);refine dd ?_))
  refine zT [] [⟨1,28,8,[z5 w],0⟩,⟨1,43,44,[zP m],0⟩,⟨1,28,8,[zeW],0⟩,⟨1,43,44,[zeM],0⟩,⟨1,81,23,[qB qC],0⟩,⟨1,0,5,(w.zd.map zw).set m.version.toNat ((zJ v0.snap++[C.sl (6) [] 2 0 v0.zf.length false,Bo v0.zC])),0⟩,⟨1,0,2,(v0.zf.map zp).set m.zg.toNat ([U (g0.zl),C.sl (7) [] 3 0 g0.ends.length false]),0⟩,⟨1,0,3,(g0.ends.map zn).set m.end_.toNat ([U (e0.head),C.sl (8) [] 1 0 e0.next.length false,I (e0.zj)]),0⟩,⟨2,3,1,e0.next.map encI,0⟩] (rx:=.agg [I w.zu,I w.current,I w.lock,lI w.pins,.sl 5 [] 5 0 w.zd.length false,lL w.ze,lCo w.counts,lR w.zt]) (xl w sw w.zd rfl hp) (zb (zi (ownV 1)) (zb (zi (ownG 2 _)) (zb (zi (ownE 3 _ _)) rfl))) rfl rfl rfl rfl rfl (by show _::_::_::_::_::zF _ ⟨1,0,5,_,0⟩::zF _ ⟨1,0,2,_,0⟩::zF _ ⟨1,0,3,_,0⟩::_=_;rw [zA (enc:=zw) (fun _=>rfl),zA (enc:=zp) (fun _=>rfl),zA (enc:=zn) (fun _=>rfl)];rfl) rfl ?_
  refine dd ?_
  refine zT [9,10,5,6,7,8] [⟨1,28,8,[z5 w],0⟩,⟨1,43,44,[zP m],0⟩,⟨1,28,8,[zeW],0⟩,⟨1,43,44,[zeM],0⟩,⟨1,81,23,[qB qC],0⟩,⟨1,0,5,(w.zd.map zw).set m.version.toNat ((zJ v0.snap++[C.sl (6) [] 2 0 v0.zf.length false,Bo v0.zC])),0⟩,⟨1,0,2,(v0.zf.map zp).set m.zg.toNat ([U (tk),C.sl (7) [] 3 0 g0.ends.length false]),0⟩,⟨1,0,3,(g0.ends.map zn).set m.end_.toNat ([U (hd),C.sl (8) [] 1 0 e0.next.length false,I (ac)]),0⟩,⟨2,3,1,e0.next.map encI,0⟩,⟨1,28,8,[[I w.zu,I w.current,I w.lock,lI w.pins,.sl 5 [] 5 0 w.zd.length false,lL w.ze,lCo w.counts,lR w.zt]],0⟩,⟨1,43,44,[zP m'],0⟩] (rx:=Ce e) h (zb rfl (zb rfl (zb (zi (ownV 3)) (zb (zi (ownG 4 _)) (zb (zi (ownE 5 _ _)) rfl))))) (by show zI _ _::zI _ _::zI _ ⟨1,0,5,_,0⟩::zI _ ⟨1,0,2,_,0⟩::zI _ ⟨1,0,3,_,0⟩::_=_;rw [zE (enc:=zw) (fun _=>rfl),zE (enc:=zp) (fun _=>rfl),zE (enc:=zn) (fun _=>rfl)];rfl) rfl rfl rfl (zb rfl (zb rfl (zb rfl (zb rfl (zb rfl (zb (zi (ownV 6)) (zb (zi (ownG 7 _)) (zb (zi (ownE 8 _ _)) rfl)))))))) (by show _::_::_::_::_::zF _ ⟨1,0,5,_,0⟩::zF _ ⟨1,0,2,_,0⟩::zF _ ⟨1,0,3,_,0⟩::_=_;rw [zA (enc:=zw) (fun _=>rfl),zA (enc:=zp) (fun _=>rfl),zA (enc:=zn) (fun _=>rfl)];rfl) rfl ?_
  refine dd ?_
  refine .inl ⟨⟨false,[0,1,2],[9,10,11],[]⟩,by kernel_rfl,?_⟩;(conv=>whnf)
  repeat (refine ⟨rfl,?_⟩;conv=>whnf)
  refine ⟨.inl rfl,_,(((zq.zZ 7 m.end_.toNat 1 rfl ge rfl rfl (.inr rfl) (by simp) (by simp) (shut_map (enc:=encI) (fun _=>rfl) _) (ownE 8 _ _)).trans (zq.zZ 6 m.zg.toNat 1 rfl gg rfl rfl (.inl rfl) (by simp) (by simp) eshE (ownG 7 _))).trans (zq.zZ 5 m.version.toNat 3 rfl gv rfl rfl (.inl rfl) (by simp) (by simp) eshG (ownV 6))).trans (zq.zZ 2 0 4 rfl rfl rfl rfl (.inl rfl) (by simp) (by simp) eshV (qm rfl)),?_⟩
  show _=some (C.tup [C.agg [I w.zu,I w.current,I w.lock,lI w.pins,C.lst 0 5 ((w.zd.set m.version.toNat (ju m v0 g0 e0 tk hd ac)).map zw),lL w.ze,lCo w.counts,lR w.zt],Cm m',Ce e])
  rw [<- estV,<- estG,<- estE]
  rfl
end Go.Wor
