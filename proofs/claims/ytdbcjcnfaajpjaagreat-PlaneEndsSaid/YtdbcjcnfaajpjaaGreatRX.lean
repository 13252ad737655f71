import Derived.Test.YtdbcjcnfaajpjaaGreatRW
import Derived.Test.YtdbcjcnfaajpjaaGreatRV
set_option linter.unusedVariables false
set_option linter.unusedSimpArgs false
set_option linter.unusedSectionVars false
set_option maxRecDepth 100000
set_option maxHeartbeats 4000000
namespace Go.Wor
open Go.Ab Go.Proofs Go.Hy Go.Gat Go.Nam Go.Hos Go.Con Go.Sna
abbrev lvM (w:Wor) (m:Mac):Mac:={ m with version:=w.current,zg:=0,end_:=0,other:=0,slot:=0,listen:=qd w.ze m.op.listen,pc:=4 }
abbrev ptE (e:Eve):Eve:={ e with ye:=true }
theorem x3 (w:Wor) (m:Mac) (hl:w.ze.length < 4611686018427387904):
  zb Tryz.prog 112 [⟨1,48,8,[zQ w],0⟩,⟨1,37,44,[zE (m)],0⟩] [.agg [.ref 0 [] 8 0 0,.ref 1 [] 44 0 0]] (Ce (ptE (evO m 1 3 w.current))) [⟨1,48,8,[zQ w],0⟩,⟨1,37,44,[zE (if qd w.ze m.op.listen < 0 then vU (lvM w m) 2 else lvM w m)],0⟩]:=by
 refine qb (fn:=Tryz.f112) Tryz.func112 rfl (Nat.le_refl _) ?_;conv=>whnf
 refine .inr ⟨⟨[0,2,5,6],[0,1,2],true⟩,by kernel_rfl,fun _=>rfl,_,?_,fun t2 H2 h=>h⟩;(conv=>whnf)
 refine ⟨_,zb.blind [1] (qQ m 1 3 w.current) rfl rfl rfl rfl rfl rfl rfl (fun _=>rfl) (fun _=>rfl),?_⟩;(conv=>whnf)
 (refine ⟨?_,trivial⟩);(conv=>whnf);(repeat (refine ⟨rfl,?_⟩;(conv=>whnf)))
 (refine ⟨?_,trivial⟩);(conv=>whnf);(repeat (refine ⟨rfl,?_⟩;(conv=>whnf)))
 (refine ⟨_,_,.refl _,?_⟩);(conv=>whnf)
 refine .inl ⟨⟨true,[],[],[12]⟩,by kernel_rfl,?_⟩;(conv=>whnf)
 refine ⟨_,_,(vG w.ze m.op.listen hl).frame rfl _,?_⟩;refine dd ?_
 repeat (refine ⟨rfl,?_⟩;conv=>whnf)
 refine ⟨fun h1=>?_,fun h1=>?_⟩
 ·have e1:qd w.ze m.op.listen < 0:=by simpa using h1
  rw [if_pos e1]
  refine dd ?_
  refine zr [1] (xI (lvM w m) 2) rfl rfl rfl rfl rfl rfl ?_;refine dd ?_
  exact ⟨.inl rfl,_,_,.refl _,rfl,cE 2⟩
 ·have e1:¬qd w.ze m.op.listen < 0:=by simpa using h1
  rw [if_neg e1]
  refine dd ?_
  exact ⟨.inl rfl,_,_,.refl _,rfl,cE 2⟩
end Go.Wor
namespace Go.Wor
open Go.Ab Go.Proofs Go.Hy Go.Gat Go.Nam Go.Hos Go.Con Go.Sna
theorem wP (w:Wor) (m:Mac) (sw:qC w) (ok:OkW w) (hl:i64 m.listen) (hs:z5 w m=true):
  zb Tryz.prog 125 [⟨1,48,8,[zQ (w)],0⟩,⟨1,37,44,[zE (m)],0⟩] [.agg [.ref 0 [] 8 0 0,.ref 1 [] 44 0 0]] (Ce { zmv m with done:=true,answer:=m.answer }) [⟨1,48,8,[zQ (zd9 w m.zq.toNat 0)],0⟩,⟨1,37,44,[zE ({ m with done:=true })],0⟩]:=by
 refine qb (fn:=Tryz.f125) Tryz.func125 rfl (Nat.le_refl _) ?_;conv=>whnf
 refine .inr ⟨⟨[1,3,5,7,8],[0,1,2],true⟩,by kernel_rfl,fun _=>rfl,fun t H=>t=[.za,.ref 2 [] 2 0 0,.ref 3 [] 23 0 0,.ref 4 [] 8 0 0,.ref 5 [] 23 0 0,.za,.za,.za,.za,.za,.za,.za,.za,.za,.za,.za,.za,.za,.za,.za,.za,.za,.za,.za,.za,.za,.za,.za,.za,.za,.za,.za,.za]∧H=[⟨1,48,8,[zQ (w)],0⟩,⟨1,37,44,[zE (m)],0⟩,⟨1,154,2,[[.ref 0 [] 8 0 0,.ref 1 [] 44 0 0]],0⟩,⟨1,87,23,[qj (qo)],0⟩,⟨1,48,8,[zQ (zd9 w m.zq.toNat 0)],0⟩,⟨1,87,23,[qj (zmv m)],0⟩],?_,?_⟩
 ·conv=>whnf
  refine ⟨_,zb.blind [] (zk4 w m sw ok hl hs) rfl rfl rfl rfl rfl rfl rfl (fun _=>rfl) (fun _=>rfl),?_⟩;(conv=>whnf)
  repeat' (first | (exact trivial) | (refine ⟨rfl,?_⟩;(conv=>whnf)) | (exact ⟨_,_,zt.ren [0,1,2,3,4,5] [1,2,3,4] _ _ rfl rfl rfl rfl,rfl,rfl⟩) | (exact ⟨_,_,zt.ren [0,1,2,3,5,4] [1,2,3,4] _ _ rfl rfl rfl rfl,rfl,rfl⟩) | (refine And.intro ?_ ?_ <;> (conv=>whnf)))
 rintro _ _ ⟨rfl,rfl⟩
 conv=>whnf
 refine .inr ⟨⟨[1,3],[2],true⟩,by kernel_rfl,fun _=>rfl,fun t H=>t=[.za,.ref 2 [] 2 0 0,.ref 3 [] 23 0 0,.za,.ref 5 [] 23 0 0,.za,.za,.za,.za,.za,.za,.za,.za,.za,.za,.za,.za,.za,.za,.za,.za,.za,.za,.za,.za,.za,.za,.za,.za,.za,.za,.za,.za]∧H=[⟨1,48,8,[zQ (zd9 w m.zq.toNat 0)],0⟩,⟨1,37,44,[zE ({ m with done:=true })],0⟩,⟨1,154,2,[[.ref 0 [] 8 0 0,.ref 1 [] 44 0 0]],0⟩,⟨1,87,23,[qj (qo)],0⟩,⟨1,48,8,[zQ (zd9 w m.zq.toNat 0)],0⟩,⟨1,87,23,[qj ({ zmv m with done:=true,answer:=m.answer })],0⟩],?_,?_⟩
 ·conv=>whnf
  repeat' (first | (exact trivial) | (refine ⟨rfl,?_⟩;(conv=>whnf)) | (exact ⟨_,_,zt.mask [1,2,4] _ _,rfl,rfl⟩) | (refine And.intro ?_ ?_ <;> (conv=>whnf)))
 rintro _ _ ⟨rfl,rfl⟩
 conv=>whnf
 exact ⟨.inl rfl,_,_,.refl _,rfl,cE 2⟩
end Go.Wor
namespace Go.Wor
open Go.Ab Go.Proofs Go.Hy Go.Gat Go.Nam Go.Hos Go.Con Go.Sna
def vp (c:Clu) (d:Int):Int:=((hlt c)[(d % (hlt c).length).toNat]?).getD 0
def xC (c:Clu) (d0 d1:Int):Int × Int × Int:=if (hlt c).length=0 then (0,0,5) else (vp c d0,vp c d1,0)
theorem zkS {d:Int} {n:Nat} (hd:i64 d) (hn:0 < n) (hm:n < 1000000000000):IntKind.i64.wrap (d.tmod n+n)=d.tmod n+n∧(d.tmod n+n).tmod n=d % n:=by
 have h1:=Int.tmod_lt_of_pos d (show (0:Int) < n by omega)
 have h2:=Int.lt_tmod_of_pos d (show (0:Int) < n by omega)
 refine ⟨jw (by omega) (by omega),?_⟩
 rw [Int.tmod_eq_emod_of_nonneg (by omega),Int.add_emod_right]
 rw [Int.tmod_def,Int.sub_mul_emod_self_left]
theorem zhD {c:Clu} {d:Int} (hd:i64 d) (hn:0 < (hlt c).length) (hm:(hlt c).length < 1000000000000) {n:Nat} (e:n=(hlt c).length):
  0<=(IntKind.i64.wrap (d.tmod n+n)).tmod n∧((hlt c).map encI)[((IntKind.i64.wrap (d.tmod n+n)).tmod n).toNat]?= some [I (vp c d)]:=by
 subst e
 obtain ⟨e1,e2⟩:=zkS hd hn hm
 rw [e1,e2]
 have h0:(0:Int) < (hlt c).length:=by omega
 have h1:=Int.emod_nonneg d (show ((hlt c).length:Int)≠0 by omega)
 have h2:=Int.emod_lt_of_pos d h0
 refine ⟨h1,?_⟩
 have hi:(hlt c)[(d % ((hlt c).length:Int)).toNat]?= some ((hlt c)[(d % ((hlt c).length:Int)).toNat]'(by omega)):=List.getElem?_eq_getElem _
 unfold vp
 rw [List.getElem?_map,hi]
 rfl
theorem ziC (c:Clu) (d0 d1:Int) (h0:i64 d0) (h1:i64 d1) (hl:c.zI.length < 1000000000000) (hh:(hlt c).length<=c.zI.length):zb Tryz.prog 173 [] [Cc c,I d0,I d1] (.tup [I (xC c d0 d1).1,I (xC c d0 d1).2.1,I (xC c d0 d1).2.2]) []:=by
 have ml:((hlt c).map encI).length=(hlt c).length:=List.length_map ..
 refine zb.zp (fn:=Tryz.f173) Tryz.func173 rfl ?_
 conv=>whnf
 refine ⟨_,_,(kc c hl).frame rfl _,?_⟩;refine dd ?_
 rw [ml]
 refine ⟨fun hz=>?_,fun hz=>?_⟩
 ·unfold xC
  have hz:=of_decide_eq_true hz
  rw [if_pos (by omega)]
  refine dd ?_
  exact ⟨.inl rfl,_,.refl _,rfl⟩
 ·unfold xC
  have hz:=of_decide_eq_false hz
  rw [if_neg (by omega)]
  refine dd ?_
  have hw:(((hlt c).length:Nat):Int)≠0:=by omega
  refine k7.ofN 3 (LoopN.step ?_)
  conv=>whnf
  (repeat ((first | apply ya | apply yb);refine dd ?_))
  (refine ⟨by decide,by decide,?_⟩);refine dd ?_
  split;(rotate_left;(rename_i hno;exact (hno _ (yv rfl rfl rfl hw)).elim));(rename_i v e;cases e.symm.trans (yv rfl rfl rfl hw));refine dd ?_
  split;(rotate_left;(rename_i hno;exact (hno _ (yv rfl rfl rfl hw)).elim));(rename_i v e;cases e.symm.trans (yv rfl rfl rfl hw));refine dd ?_
  obtain ⟨p0,p1⟩:=zhD h0 (c:=c) (by omega) (by omega) rfl
  refine ⟨p0,_,p1,?_⟩
  refine dd ?_
  (refine ⟨by decide,by decide,?_⟩);refine dd ?_
  refine .inl ⟨rfl,LoopN.step ?_⟩
  conv=>whnf
  (repeat ((first | apply ya | apply yb);refine dd ?_))
  (refine ⟨by decide,by decide,?_⟩);refine dd ?_
  split;(rotate_left;(rename_i hno;exact (hno _ (yv rfl rfl rfl hw)).elim));(rename_i v e;cases e.symm.trans (yv rfl rfl rfl hw));refine dd ?_
  split;(rotate_left;(rename_i hno;exact (hno _ (yv rfl rfl rfl hw)).elim));(rename_i v e;cases e.symm.trans (yv rfl rfl rfl hw));refine dd ?_
  obtain ⟨p2,p3⟩:=zhD h1 (c:=c) (by omega) (by omega) rfl
  refine ⟨p2,_,p3,?_⟩
  refine dd ?_
  (refine ⟨by decide,by decide,?_⟩);refine dd ?_
  refine .inl ⟨rfl,LoopN.step ?_⟩
  conv=>whnf
  (repeat ((first | apply ya | apply yb);refine dd ?_))
  refine .inr ⟨by simp,?_⟩
  conv=>whnf
  refine .inl ⟨⟨false,[],[],[]⟩,by kernel_rfl,?_⟩;(conv=>whnf)
  (refine ⟨by decide,by decide,?_⟩);refine dd ?_
  (refine ⟨by decide,by decide,?_⟩);refine dd ?_
  exact ⟨.inl rfl,_,.refl _,rfl⟩
end Go.Wor
namespace Go.Wor
open Go.Ab Go.Proofs Go.Hy Go.Gat Go.Nam Go.Hos Go.Con Go.Sna
abbrev jG (m:Mac) (v:Ver):Int × Int:=vJ v.snap m.op.listen m.op.host m.op.path
def xN (m:Mac) (v:Ver):Mac:=if (jG m v).2≠0 then vU m 2 else match v.snap.zk[(jG m v).1.toNat]? with
 | none=>m
 | some c=>if (xC c m.op.d0 m.op.d1).2.2≠0 then vU { m with zg:=(jG m v).1 } 3
  else if c.jT=1 then { m with zg:=(jG m v).1,pc:=6 }
  else { m with zg:=(jG m v).1,end_:=(xC c m.op.d0 m.op.d1).1,other:=(xC c m.op.d0 m.op.d1).2.1,pc:=7 }
structure OkR (m:Mac) (v:Ver):Prop where
 small:zlH v.snap
 host:m.op.host.length < 1000000000000
 path:m.op.path.length < 1000000000000
 d0:i64 m.op.d0
 d1:i64 m.op.d1
 zpn:(jG m v).2=0->0<=(jG m v).1∧∃ c,v.snap.zk[(jG m v).1.toNat]?= some c∧c.zI.length < 1000000000000
theorem zmh (c:Clu):(hlt c).length<=c.zI.length:=zbd c.zI c.zI.length
theorem zfC {m:Mac} {v:Ver} (h:(jG m v).2≠0):xN m v=vU m 2:=if_pos h
theorem zcI {m:Mac} {v:Ver} {c:Clu} (h:(jG m v).2=0) (hc:v.snap.zk[(jG m v).1.toNat]?= some c) (hd:(xC c m.op.d0 m.op.d1).2.2≠0):xN m v=vU { m with zg:=(jG m v).1 } 3:=by
 unfold xN
 rw [if_neg (by omega),hc]
 exact if_pos hd
theorem zej {m:Mac} {v:Ver} {c:Clu} (h:(jG m v).2=0) (hc:v.snap.zk[(jG m v).1.toNat]?= some c) (hd:(xC c m.op.d0 m.op.d1).2.2=0) (hp:c.jT=1):xN m v={ m with zg:=(jG m v).1,pc:=6 }:=by
 unfold xN
 rw [if_neg (by omega),hc]
 exact (if_neg (by omega)).trans (if_pos hp)
theorem zek {m:Mac} {v:Ver} {c:Clu} (h:(jG m v).2=0) (hc:v.snap.zk[(jG m v).1.toNat]?= some c) (hd:(xC c m.op.d0 m.op.d1).2.2=0) (hp:c.jT≠1):
  xN m v={ m with zg:=(jG m v).1,end_:=(xC c m.op.d0 m.op.d1).1,other:=(xC c m.op.d0 m.op.d1).2.1,pc:=7 }:=by
 unfold xN
 rw [if_neg (by omega),hc]
 exact (if_neg (by omega)).trans (if_neg hp)
theorem zhH (w:Wor) (m:Mac) (v:Ver) (hv:AtV w m v) (h:OkR m v):zb Tryz.prog 154 [⟨1,48,8,[zQ w],0⟩,⟨1,37,44,[zE (m)],0⟩] [.agg [.ref 0 [] 8 0 0,.ref 1 [] 44 0 0]] (.tup []) [⟨1,48,8,[zQ w],0⟩,⟨1,37,44,[zE (xN m v)],0⟩]:=by
 have h0:=hv.v0
 have hr:=hv.row
 refine qb (fn:=Tryz.f154) Tryz.func154 rfl (Nat.le_refl _) ?_;conv=>whnf
 refine .inl ⟨⟨false,[],[],[]⟩,by kernel_rfl,?_⟩;(conv=>whnf)
 (refine ⟨h0,_,hr,?_⟩);refine dd ?_
 refine ⟨_,_,(ziJ v.snap m.op.listen m.op.host m.op.path h.small h.host h.path).frame rfl _,?_⟩;refine dd ?_
 refine ⟨fun h1=>?_,fun h1=>?_⟩
 ·have h2:(jG m v).2≠0:=by simpa using h1
  rw [zfC h2]
  refine dd ?_
  refine zr [1] (xI m 2) rfl rfl rfl rfl rfl rfl ?_;refine dd ?_
  exact ⟨.inl rfl,_,_,.refl _,rfl,cE 2⟩
 ·have h2:(jG m v).2=0:=by simpa using h1
  obtain ⟨g0,c,hc,hcl⟩:=h.zpn h2
  refine dd ?_
  refine .inr ⟨⟨[0,1,6,11,12],[0,1,2],true⟩,by kernel_rfl,fun _=>rfl,_,?_,fun t2 H2 h=>h⟩;(conv=>whnf)
  refine ⟨_,zb.blind [0,1] (yu w { m with zg:=(jG m v).1 } v c ⟨hv.v0,hv.at_⟩ g0 hc) rfl rfl rfl rfl rfl rfl rfl (fun _=>rfl) (fun _=>rfl),?_⟩;(conv=>whnf)
  refine ⟨_,zb.blind [] (ziC c m.op.d0 m.op.d1 h.d0 h.d1 hcl (zmh c)) rfl rfl rfl rfl rfl rfl rfl (fun _=>rfl) (fun _=>rfl),?_⟩;(conv=>whnf)
  (refine ⟨_,_,.refl _,?_⟩);(conv=>whnf)
  refine ⟨fun h3=>?_,fun h3=>?_⟩
  ·have h4:(xC c m.op.d0 m.op.d1).2.2≠0:=by simpa using h3
   rw [zcI h2 hc h4]
   refine dd ?_
   refine zr [1] (xI { m with zg:=(jG m v).1 } 3) rfl rfl rfl rfl rfl rfl ?_;refine dd ?_
   exact ⟨.inr rfl,_,_,.refl _,rfl,cE 2⟩
  ·have h4:(xC c m.op.d0 m.op.d1).2.2=0:=by simpa using h3
   refine dd ?_
   refine zr [0,1] (yu w { m with zg:=(jG m v).1 } v c ⟨hv.v0,hv.at_⟩ g0 hc) rfl rfl rfl rfl rfl rfl ?_;refine dd ?_
   refine ⟨fun h5=>?_,fun h5=>?_⟩
   ·have h6:c.jT=1:=by simpa using h5
    rw [zej h2 hc h4 h6]
    refine dd ?_
    exact ⟨.inr rfl,_,_,.refl _,rfl,cE 2⟩
   ·have h6:c.jT≠1:=by simpa using h5
    rw [zek h2 hc h4 h6]
    refine dd ?_
    exact ⟨.inr rfl,_,_,.refl _,rfl,cE 2⟩
theorem yK (w:Wor) (m:Mac) (v:Ver) (hv:AtV w m v) (h:OkR m v) {l:Lis} (l0:0<=m.listen) (hl:w.ze[m.listen.toNat]?= some l):
  zb Tryz.prog 114 [⟨1,48,8,[zQ w],0⟩,⟨1,37,44,[zE (m)],0⟩] [.agg [.ref 0 [] 8 0 0,.ref 1 [] 44 0 0]] (Ce (if l.drain then { evO m 1 4 1 with ye:=true } else evO m 1 4 0)) [⟨1,48,8,[zQ w],0⟩,⟨1,37,44,[zE (if l.drain then vU m 5 else xN m v)],0⟩]:=by
 have lr:(w.ze.map ql)[m.listen.toNat]?= some (ql l):=by rw [List.getElem?_map,hl];rfl
 obtain ⟨ln,ld,la,lc⟩:=l
 cases ld
 all_goals
  refine qb (fn:=Tryz.f114) Tryz.func114 rfl (Nat.le_refl _) ?_;conv=>whnf
  refine .inl ⟨⟨false,[],[],[]⟩,by kernel_rfl,?_⟩;(conv=>whnf)
  (refine ⟨l0,_,lr,?_⟩);refine dd ?_
 ·(refine ⟨fun h=>absurd (h.symm.trans rfl:true=false) (by decide),fun _=>?_⟩);refine dd ?_
  refine zr [0,1] (zhH w m v hv h) rfl rfl rfl rfl rfl rfl ?_;refine dd ?_
  have et:(xN m v).zq=m.zq:=by
   unfold xN
   split
   ·rfl
   ·split
    ·rfl
    ·split
     ·rfl
     ·split <;> rfl
  have ee:evO m 1 4 0=evO (xN m v) 1 4 0:=by unfold evO;rw [et]
  have eg:(if ({ name:=ln,drain:=false,zj:=la,closed:=lc }:Lis).drain then { evO m 1 4 1 with ye:=true } else evO m 1 4 0)=evO (xN m v) 1 4 0:=ee
  rw [eg]
  refine zr [1] (qQ (xN m v) 1 4 0) rfl rfl rfl rfl rfl rfl ?_;refine dd ?_
  exact ⟨.inl rfl,_,_,.refl _,rfl,cE 2⟩
 ·(refine ⟨fun _=>?_,fun h=>absurd (h.symm.trans rfl:false=true) (by decide)⟩);refine dd ?_
  refine zr [1] (qQ m 1 4 1) rfl rfl rfl rfl rfl rfl ?_;refine dd ?_
  refine zr [1] (xI m 5) rfl rfl rfl rfl rfl rfl ?_;refine dd ?_
  exact ⟨.inl rfl,_,_,.refl _,rfl,cE 2⟩
end Go.Wor
namespace Go.Wor
open Go.Ab Go.Proofs Go.Hy Go.Gat Go.Nam Go.Hos Go.Con Go.Sna
theorem zdo (w:Wor) (m:Mac) (v0:Ver) (g0:Gr) (e0:En) (c:Clu) (hv:LnE w m v0 g0) (hc:v0.snap.zk[m.zg.toNat]?= some c):zb Tryz.prog 157 [⟨1,48,8,[[I w.zn,I w.current,I w.lock,lI w.pins,.sl 2 [] 5 0 w.zd.length false,lL w.ze,lCo w.counts,lR w.zm]],0⟩,⟨1,37,44,[zE (m)],0⟩,⟨1,0,5,(w.zd.map zx).set m.version.toNat ((zL v0.snap++[C.sl 3 [] 2 0 v0.zf.length false,Bo v0.zD])),0⟩,⟨1,0,2,(v0.zf.map zw).set m.zg.toNat ([U g0.zu,C.sl 4 [] 3 0 g0.ends.length false]),0⟩,⟨1,0,3,(g0.ends.map zo).set m.end_.toNat ([U e0.head,C.sl 5 [] 1 0 e0.next.length false,I e0.zj]),0⟩,⟨2,3,1,e0.next.map encI,0⟩] [.agg [.ref 0 [] 8 0 0,.ref 1 [] 44 0 0]] (Cc c) [⟨1,48,8,[[I w.zn,I w.current,I w.lock,lI w.pins,.sl 2 [] 5 0 w.zd.length false,lL w.ze,lCo w.counts,lR w.zm]],0⟩,⟨1,37,44,[zE (m)],0⟩,⟨1,0,5,(w.zd.map zx).set m.version.toNat ((zL v0.snap++[C.sl 3 [] 2 0 v0.zf.length false,Bo v0.zD])),0⟩,⟨1,0,2,(v0.zf.map zw).set m.zg.toNat ([U g0.zu,C.sl 4 [] 3 0 g0.ends.length false]),0⟩,⟨1,0,3,(g0.ends.map zo).set m.end_.toNat ([U e0.head,C.sl 5 [] 1 0 e0.next.length false,I e0.zj]),0⟩,⟨2,3,1,e0.next.map encI,0⟩]:=by
 have h0:=hv.pv
 have g0':=hv.pg
 have lv:m.version.toNat < w.zd.length:=hv.lv
 have cr:(v0.snap.zk.map jj)[m.zg.toNat]?= some (jj c):=by rw [List.getElem?_map,hc];rfl
 have lowV:∀ r ∈ (w.zd.map zx).set m.version.toNat ((zL v0.snap++[C.sl 3 [] 2 0 v0.zf.length false,Bo v0.zD])),∀ c ∈ r,qO 6 9 c=true:=zy (enc:=zx) (fun _=>rfl) rfl _ _
 have lowG:∀ r ∈ (v0.zf.map zw).set m.zg.toNat ([U g0.zu,C.sl 4 [] 3 0 g0.ends.length false]),∀ c ∈ r,qO 6 9 c=true:=zy (enc:=zw) (fun _=>rfl) rfl _ _
 have lowE:∀ r ∈ (g0.ends.map zo).set m.end_.toNat ([U e0.head,C.sl 5 [] 1 0 e0.next.length false,I e0.zj]),∀ c ∈ r,qO 6 9 c=true:=zy (enc:=zo) (fun _=>rfl) rfl _ _
 have e1:0+m.version.toNat=m.version.toNat:=Nat.zero_add _
 have gv:((w.zd.map zx).set m.version.toNat ((zL v0.snap++[C.sl 3 [] 2 0 v0.zf.length false,Bo v0.zD])))[m.version.toNat]?= some ((zL v0.snap++[C.sl 3 [] 2 0 v0.zf.length false,Bo v0.zD])):=List.getElem?_set_self (by simpa using lv)
 refine qb (fn:=Tryz.f157) Tryz.func157 rfl (Nat.le_refl _) ?_;conv=>whnf
 refine .inl ⟨⟨false,[],[],[]⟩,by kernel_rfl,?_⟩;(conv=>whnf)
 refine ⟨h0,lv,?_⟩
 refine dd ?_
 rw [e1]
 refine ⟨_,gv,(by show 2+1<=5;decide),?_⟩
 refine dd ?_
 refine ⟨g0',_,cr,?_⟩
 refine dd ?_
 exact ⟨.inl rfl,_,_,.refl _,rfl,zt.xW 6 (by (conv=>whnf);(repeat (refine ⟨rfl,?_⟩;(conv=>whnf)));exact trivial) rfl rfl rfl (zO rfl (zO rfl (zO (qv lowV) (zO (qv lowG) (zO (qv lowE) rfl))))) rfl⟩
theorem zaE (w:Wor) (m:Mac) (v0:Ver) (g0:Gr) (e0:En) (hv:LnE w m v0 g0) (x p a b c:Int):zb Tryz.prog 158 [⟨1,48,8,[[I w.zn,I w.current,I w.lock,lI w.pins,.sl 2 [] 5 0 w.zd.length false,lL w.ze,lCo w.counts,lR w.zm]],0⟩,⟨1,37,44,[zE ({ m with end_:=x,pc:=p })],0⟩,⟨1,0,5,(w.zd.map zx).set m.version.toNat ((zL v0.snap++[C.sl 3 [] 2 0 v0.zf.length false,Bo v0.zD])),0⟩,⟨1,0,2,(v0.zf.map zw).set m.zg.toNat ([U g0.zu,C.sl 4 [] 3 0 g0.ends.length false]),0⟩,⟨1,0,3,(g0.ends.map zo).set m.end_.toNat ([U e0.head,C.sl 5 [] 1 0 e0.next.length false,I e0.zj]),0⟩,⟨2,3,1,e0.next.map encI,0⟩] [.agg [.ref 0 [] 8 0 0,.ref 1 [] 44 0 0],I a,I b,I c] (Ce (evV m v0 a b c)) [⟨1,48,8,[[I w.zn,I w.current,I w.lock,lI w.pins,.sl 2 [] 5 0 w.zd.length false,lL w.ze,lCo w.counts,lR w.zm]],0⟩,⟨1,37,44,[zE ({ m with end_:=x,pc:=p })],0⟩,⟨1,0,5,(w.zd.map zx).set m.version.toNat ((zL v0.snap++[C.sl 3 [] 2 0 v0.zf.length false,Bo v0.zD])),0⟩,⟨1,0,2,(v0.zf.map zw).set m.zg.toNat ([U g0.zu,C.sl 4 [] 3 0 g0.ends.length false]),0⟩,⟨1,0,3,(g0.ends.map zo).set m.end_.toNat ([U e0.head,C.sl 5 [] 1 0 e0.next.length false,I e0.zj]),0⟩,⟨2,3,1,e0.next.map encI,0⟩]:=by
 have h0:=hv.pv
 have lv:m.version.toNat < w.zd.length:=hv.lv
 have e1:0+m.version.toNat=m.version.toNat:=Nat.zero_add _
 clear hv
 obtain ⟨sn,gs,fr⟩:=v0
 cases fr
 all_goals
  have ownV:∀ b,∀ r ∈ (w.zd.map zx).set m.version.toNat (zL sn++[C.sl 3 [] 2 0 gs.length false,Bo b]),∀ c ∈ r,zA c=true:=fun b=>zy (enc:=zx) (fun _=>rfl) rfl _ _
  have ownG:∀ r ∈ (gs.map zw).set m.zg.toNat ([U g0.zu,C.sl 4 [] 3 0 g0.ends.length false]),∀ c ∈ r,zA c=true:=zy (enc:=zw) (fun _=>rfl) rfl _ _
  have ownE:∀ r ∈ (g0.ends.map zo).set m.end_.toNat ([U e0.head,C.sl 5 [] 1 0 e0.next.length false,I e0.zj]),∀ c ∈ r,zA c=true:=zy (enc:=zo) (fun _=>rfl) rfl _ _
  have lowV:∀ b,∀ r ∈ (w.zd.map zx).set m.version.toNat (zL sn++[C.sl 3 [] 2 0 gs.length false,Bo b]),∀ c ∈ r,qO 6 9 c=true:=fun b=>zy (enc:=zx) (fun _=>rfl) rfl _ _
  have gv:∀ b,((w.zd.map zx).set m.version.toNat (zL sn++[C.sl 3 [] 2 0 gs.length false,Bo b]))[m.version.toNat]?= some (zL sn++[C.sl 3 [] 2 0 gs.length false,Bo b]):=fun b=>List.getElem?_set_self (by simpa using lv)
  have lowG:∀ r ∈ (gs.map zw).set m.zg.toNat ([U g0.zu,C.sl 4 [] 3 0 g0.ends.length false]),∀ c ∈ r,qO 6 9 c=true:=zy (enc:=zw) (fun _=>rfl) rfl _ _
  have lowE:∀ r ∈ (g0.ends.map zo).set m.end_.toNat ([U e0.head,C.sl 5 [] 1 0 e0.next.length false,I e0.zj]),∀ c ∈ r,qO 6 9 c=true:=zy (enc:=zo) (fun _=>rfl) rfl _ _
  refine qb (fn:=Tryz.f158) Tryz.func158 rfl (Nat.le_refl _) ?_;conv=>whnf
  refine zX [1] [⟨1,48,8,[[I w.zn,I w.current,I w.lock,lI w.pins,.sl 2 [] 5 0 w.zd.length false,lL w.ze,lCo w.counts,lR w.zm]],0⟩,⟨1,37,44,[zE ({ m with end_:=x,pc:=p })],0⟩,⟨1,0,5,(w.zd.map zx).set m.version.toNat (zL sn++[C.sl 3 [] 2 0 gs.length false,Bo _]),0⟩,⟨1,0,2,(gs.map zw).set m.zg.toNat ([U g0.zu,C.sl 4 [] 3 0 g0.ends.length false]),0⟩,⟨1,0,3,(g0.ends.map zo).set m.end_.toNat ([U e0.head,C.sl 5 [] 1 0 e0.next.length false,I e0.zj]),0⟩,⟨2,3,1,e0.next.map encI,0⟩,⟨1,154,2,[[.ref 0 [] 8 0 0,.ref 1 [] 44 0 0]],0⟩,⟨1,87,23,[qj qo],0⟩] (rx:=Ce (evO m a b c)) (qQ { m with end_:=x,pc:=p } a b c) rfl rfl rfl rfl rfl (zc rfl (zc rfl (zc (zi (ownV _)) (zc (zi ownG) (zc (zi ownE) rfl))))) rfl rfl ?_
  refine dd ?_
  refine .inl ⟨⟨false,[6,9,11,14,17],[0,1,2,6],[]⟩,by kernel_rfl,?_⟩;(conv=>whnf)
  refine ⟨h0,lv,?_⟩
  refine dd ?_
  rw [e1]
  refine ⟨_,gv _,(by show 4+1<=5;decide),?_⟩
  refine dd ?_
  first | ((refine ⟨fun _=>?_,fun h=>absurd (h.symm.trans rfl:false=true) (by decide)⟩);refine dd ?_) | ((refine ⟨fun h=>absurd (h.symm.trans rfl:true=false) (by decide),fun _=>?_⟩);refine dd ?_)
  repeat (refine ⟨rfl,?_⟩;conv=>whnf)
  exact ⟨.inl rfl,_,_,.refl _,rfl,zt.xW 6 (by (conv=>whnf);(repeat (refine ⟨rfl,?_⟩;(conv=>whnf)));exact trivial) rfl rfl rfl (zO rfl (zO rfl (zO (qv (lowV _)) (zO (qv lowG) (zO (qv lowE) rfl))))) rfl⟩
abbrev zgO (m:Mac) (c:Clu) (t:Int):Mac:={ m with end_:=(ko c t).1,pc:=9 }
abbrev zmY (g:Gr):Gr:={ g with zu:=IntKind.u64.wrap (g.zu+1) }
theorem kL (w:Wor) (m:Mac) (v0:Ver) (g0:Gr) (e0:En) (c:Clu) (hv:LnE w m v0 g0) (hc:v0.snap.zk[m.zg.toNat]?= some c) (ht:u64 g0.zu) (hl:c.zI.length < 1000000000000):
  zb Tryz.prog 115 [⟨1,48,8,[[I w.zn,I w.current,I w.lock,lI w.pins,.sl 2 [] 5 0 w.zd.length false,lL w.ze,lCo w.counts,lR w.zm]],0⟩,⟨1,37,44,[zE (m)],0⟩,⟨1,0,5,(w.zd.map zx).set m.version.toNat ((zL v0.snap++[C.sl 3 [] 2 0 v0.zf.length false,Bo v0.zD])),0⟩,⟨1,0,2,(v0.zf.map zw).set m.zg.toNat ([U g0.zu,C.sl 4 [] 3 0 g0.ends.length false]),0⟩,⟨1,0,3,(g0.ends.map zo).set m.end_.toNat ([U e0.head,C.sl 5 [] 1 0 e0.next.length false,I e0.zj]),0⟩,⟨2,3,1,e0.next.map encI,0⟩] [.agg [.ref 0 [] 8 0 0,.ref 1 [] 44 0 0]] (Ce (evV m v0 3 6 (IntKind.i64.wrap g0.zu))) [⟨1,48,8,[[I w.zn,I w.current,I w.lock,lI w.pins,.sl 2 [] 5 0 w.zd.length false,lL w.ze,lCo w.counts,lR w.zm]],0⟩,⟨1,37,44,[zE (zgO m c g0.zu)],0⟩,⟨1,0,5,(w.zd.map zx).set m.version.toNat ((zL v0.snap++[C.sl 3 [] 2 0 v0.zf.length false,Bo v0.zD])),0⟩,⟨1,0,2,(v0.zf.map zw).set m.zg.toNat ([U (IntKind.u64.wrap (g0.zu+1)),C.sl 4 [] 3 0 g0.ends.length false]),0⟩,⟨1,0,3,(g0.ends.map zo).set m.end_.toNat ([U e0.head,C.sl 5 [] 1 0 e0.next.length false,I e0.zj]),0⟩,⟨2,3,1,e0.next.map encI,0⟩]:=by
 have lg:=hv.lg
 have ownV:∀ r ∈ (w.zd.map zx).set m.version.toNat ((zL v0.snap++[C.sl 3 [] 2 0 v0.zf.length false,Bo v0.zD])),∀ c ∈ r,zA c=true:=zy (enc:=zx) (fun _=>rfl) rfl _ _
 have ownG:∀ r ∈ (v0.zf.map zw).set m.zg.toNat ([U g0.zu,C.sl 4 [] 3 0 g0.ends.length false]),∀ c ∈ r,zA c=true:=zy (enc:=zw) (fun _=>rfl) rfl _ _
 have ownE:∀ r ∈ (g0.ends.map zo).set m.end_.toNat ([U e0.head,C.sl 5 [] 1 0 e0.next.length false,I e0.zj]),∀ c ∈ r,zA c=true:=zy (enc:=zo) (fun _=>rfl) rfl _ _
 have gg:((v0.zf.map zw).set m.zg.toNat ([U g0.zu,C.sl 4 [] 3 0 g0.ends.length false]))[m.zg.toNat]?= some ([U g0.zu,C.sl 4 [] 3 0 g0.ends.length false]):=List.getElem?_set_self (by simpa using lg)
 refine qb (fn:=Tryz.f115) Tryz.func115 rfl (Nat.le_refl _) ?_;conv=>whnf
 refine zaV [0,1,2,3,4,5] [⟨1,48,8,[[I w.zn,I w.current,I w.lock,lI w.pins,.sl 2 [] 5 0 w.zd.length false,lL w.ze,lCo w.counts,lR w.zm]],0⟩,⟨1,37,44,[zE (m)],0⟩,⟨1,0,5,(w.zd.map zx).set m.version.toNat ((zL v0.snap++[C.sl 3 [] 2 0 v0.zf.length false,Bo v0.zD])),0⟩,⟨1,0,2,(v0.zf.map zw).set m.zg.toNat ([U g0.zu,C.sl 4 [] 3 0 g0.ends.length false]),0⟩,⟨1,0,3,(g0.ends.map zo).set m.end_.toNat ([U e0.head,C.sl 5 [] 1 0 e0.next.length false,I e0.zj]),0⟩,⟨2,3,1,e0.next.map encI,0⟩,⟨1,154,2,[[.ref 0 [] 8 0 0,.ref 1 [] 44 0 0]],0⟩,⟨1,87,23,[qj qo],0⟩] (rx:=.ref 3 [] 2 m.zg.toNat 0) (kE w m v0 g0 e0 hv) (zc rfl (zc rfl (zc (zi ownV) (zc (zi ownG) (zc (zi ownE) rfl))))) (by (show zK _ _::zK _ _::zK _ ⟨1,0,5,_,0⟩::zK _ ⟨1,0,2,_,0⟩::zK _ ⟨1,0,3,_,0⟩::_=_);(rw [zF (enc:=zx) (fun _=>rfl),zF (enc:=zw) (fun _=>rfl),zF (enc:=zo) (fun _=>rfl)]);rfl) rfl rfl rfl (zc rfl (zc rfl (zc (zi ownV) (zc (zi ownG) (zc (zi ownE) rfl))))) (by (show zG _ _::zG _ _::zG _ ⟨1,0,5,_,0⟩::zG _ ⟨1,0,2,_,0⟩::zG _ ⟨1,0,3,_,0⟩::_=_);(rw [zB (enc:=zx) (fun _=>rfl),zB (enc:=zw) (fun _=>rfl),zB (enc:=zo) (fun _=>rfl)]);rfl) rfl ?_
 refine dd ?_
 refine ⟨_,gg,(by show 0+1<=2;decide),?_⟩
 refine dd ?_
 refine zaV [0,1,2,3,4,5] [⟨1,48,8,[[I w.zn,I w.current,I w.lock,lI w.pins,.sl 2 [] 5 0 w.zd.length false,lL w.ze,lCo w.counts,lR w.zm]],0⟩,⟨1,37,44,[zE (m)],0⟩,⟨1,0,5,(w.zd.map zx).set m.version.toNat ((zL v0.snap++[C.sl 3 [] 2 0 v0.zf.length false,Bo v0.zD])),0⟩,⟨1,0,2,(v0.zf.map zw).set m.zg.toNat ([U g0.zu,C.sl 4 [] 3 0 g0.ends.length false]),0⟩,⟨1,0,3,(g0.ends.map zo).set m.end_.toNat ([U e0.head,C.sl 5 [] 1 0 e0.next.length false,I e0.zj]),0⟩,⟨2,3,1,e0.next.map encI,0⟩,⟨1,154,2,[[.ref 0 [] 8 0 0,.ref 1 [] 44 0 0]],0⟩,⟨1,87,23,[qj qo],0⟩] (rx:=.ref 3 [] 2 m.zg.toNat 0) (kE w m v0 g0 e0 hv) (zc rfl (zc rfl (zc (zi ownV) (zc (zi ownG) (zc (zi ownE) rfl))))) (by (show zK _ _::zK _ _::zK _ ⟨1,0,5,_,0⟩::zK _ ⟨1,0,2,_,0⟩::zK _ ⟨1,0,3,_,0⟩::_=_);(rw [zF (enc:=zx) (fun _=>rfl),zF (enc:=zw) (fun _=>rfl),zF (enc:=zo) (fun _=>rfl)]);rfl) rfl rfl rfl (zc rfl (zc rfl (zc (zi ownV) (zc (zi ownG) (zc (zi ownE) rfl))))) (by (show zG _ _::zG _ _::zG _ ⟨1,0,5,_,0⟩::zG _ ⟨1,0,2,_,0⟩::zG _ ⟨1,0,3,_,0⟩::_=_);(rw [zB (enc:=zx) (fun _=>rfl),zB (enc:=zw) (fun _=>rfl),zB (enc:=zo) (fun _=>rfl)]);rfl) rfl ?_
 refine dd ?_
 refine ⟨_,gg,(by show 0+1<=2;decide),?_⟩
 refine dd ?_
 refine ⟨_,gg,rfl,?_⟩
 refine dd ?_
 rw [List.set_set]
 have ownG2:∀ r ∈ (v0.zf.map zw).set m.zg.toNat ([U (IntKind.u64.wrap (g0.zu+1)),C.sl 4 [] 3 0 g0.ends.length false]),∀ c ∈ r,zA c=true:=zy (enc:=zw) (fun _=>rfl) rfl _ _
 have lowV:∀ r ∈ (w.zd.map zx).set m.version.toNat ((zL v0.snap++[C.sl 3 [] 2 0 v0.zf.length false,Bo v0.zD])),∀ c ∈ r,qO 6 9 c=true:=zy (enc:=zx) (fun _=>rfl) rfl _ _
 have lowG:∀ r ∈ (v0.zf.map zw).set m.zg.toNat ([U (IntKind.u64.wrap (g0.zu+1)),C.sl 4 [] 3 0 g0.ends.length false]),∀ c ∈ r,qO 6 9 c=true:=zy (enc:=zw) (fun _=>rfl) rfl _ _
 have lowE:∀ r ∈ (g0.ends.map zo).set m.end_.toNat ([U e0.head,C.sl 5 [] 1 0 e0.next.length false,I e0.zj]),∀ c ∈ r,qO 6 9 c=true:=zy (enc:=zo) (fun _=>rfl) rfl _ _
 have hv2:LnE w m v0 (zmY g0):=⟨hv.pv,hv.lv,hv.pg,hv.lg,hv.pe,hv.le⟩
 refine .inl ⟨⟨true,[],[],[3,5]⟩,by kernel_rfl,?_⟩;(conv=>whnf)
 refine zX [0,1,2,3,4,5] [⟨1,48,8,[[I w.zn,I w.current,I w.lock,lI w.pins,.sl 2 [] 5 0 w.zd.length false,lL w.ze,lCo w.counts,lR w.zm]],0⟩,⟨1,37,44,[zE (m)],0⟩,⟨1,0,5,(w.zd.map zx).set m.version.toNat ((zL v0.snap++[C.sl 3 [] 2 0 v0.zf.length false,Bo v0.zD])),0⟩,⟨1,0,2,(v0.zf.map zw).set m.zg.toNat ([U (IntKind.u64.wrap (g0.zu+1)),C.sl 4 [] 3 0 g0.ends.length false]),0⟩,⟨1,0,3,(g0.ends.map zo).set m.end_.toNat ([U e0.head,C.sl 5 [] 1 0 e0.next.length false,I e0.zj]),0⟩,⟨2,3,1,e0.next.map encI,0⟩,⟨1,154,2,[[.ref 0 [] 8 0 0,.ref 1 [] 44 0 0]],0⟩,⟨1,87,23,[qj qo],0⟩] (rx:=Cc c) (zdo w m v0 (zmY g0) e0 c hv2 hc) (zc rfl (zc rfl (zc (zi ownV) (zc (zi ownG2) (zc (zi ownE) rfl))))) (by (show zK _ _::zK _ _::zK _ ⟨1,0,5,_,0⟩::zK _ ⟨1,0,2,_,0⟩::zK _ ⟨1,0,3,_,0⟩::_=_);(rw [zF (enc:=zx) (fun _=>rfl),zF (enc:=zw) (fun _=>rfl),zF (enc:=zo) (fun _=>rfl)]);rfl) rfl rfl rfl (zc rfl (zc rfl (zc (zi ownV) (zc (zi ownG2) (zc (zi ownE) rfl))))) (by (show zG _ _::zG _ _::zG _ ⟨1,0,5,_,0⟩::zG _ ⟨1,0,2,_,0⟩::zG _ ⟨1,0,3,_,0⟩::_=_);(rw [zB (enc:=zx) (fun _=>rfl),zB (enc:=zw) (fun _=>rfl),zB (enc:=zo) (fun _=>rfl)]);rfl) rfl ?_
 refine dd ?_
 refine zX [] [⟨1,48,8,[[I w.zn,I w.current,I w.lock,lI w.pins,.sl 2 [] 5 0 w.zd.length false,lL w.ze,lCo w.counts,lR w.zm]],0⟩,⟨1,37,44,[zE (m)],0⟩,⟨1,0,5,(w.zd.map zx).set m.version.toNat ((zL v0.snap++[C.sl 3 [] 2 0 v0.zf.length false,Bo v0.zD])),0⟩,⟨1,0,2,(v0.zf.map zw).set m.zg.toNat ([U (IntKind.u64.wrap (g0.zu+1)),C.sl 4 [] 3 0 g0.ends.length false]),0⟩,⟨1,0,3,(g0.ends.map zo).set m.end_.toNat ([U e0.head,C.sl 5 [] 1 0 e0.next.length false,I e0.zj]),0⟩,⟨2,3,1,e0.next.map encI,0⟩,⟨1,154,2,[[.ref 0 [] 8 0 0,.ref 1 [] 44 0 0]],0⟩,⟨1,87,23,[qj qo],0⟩] (rx:=.tup [I (ko c g0.zu).1,I (ko c g0.zu).2]) (zjH c g0.zu ht hl (zmh c)) rfl rfl rfl rfl rfl (zc rfl (zc rfl (zc (zi ownV) (zc (zi ownG2) (zc (zi ownE) rfl))))) rfl rfl ?_
 refine dd ?_
 refine zX [0,1,2,3,4,5] [⟨1,48,8,[[I w.zn,I w.current,I w.lock,lI w.pins,.sl 2 [] 5 0 w.zd.length false,lL w.ze,lCo w.counts,lR w.zm]],0⟩,⟨1,37,44,[zE (zgO m c g0.zu)],0⟩,⟨1,0,5,(w.zd.map zx).set m.version.toNat ((zL v0.snap++[C.sl 3 [] 2 0 v0.zf.length false,Bo v0.zD])),0⟩,⟨1,0,2,(v0.zf.map zw).set m.zg.toNat ([U (IntKind.u64.wrap (g0.zu+1)),C.sl 4 [] 3 0 g0.ends.length false]),0⟩,⟨1,0,3,(g0.ends.map zo).set m.end_.toNat ([U e0.head,C.sl 5 [] 1 0 e0.next.length false,I e0.zj]),0⟩,⟨2,3,1,e0.next.map encI,0⟩,⟨1,154,2,[[.ref 0 [] 8 0 0,.ref 1 [] 44 0 0]],0⟩,⟨1,87,23,[qj qo],0⟩] (rx:=Ce (evV m v0 3 6 (IntKind.i64.wrap g0.zu))) (zaE w m v0 (zmY g0) e0 hv2 (ko c g0.zu).1 9 3 6 (IntKind.i64.wrap g0.zu)) (zc rfl (zc rfl (zc (zi ownV) (zc (zi ownG2) (zc (zi ownE) rfl))))) (by (show zK _ _::zK _ _::zK _ ⟨1,0,5,_,0⟩::zK _ ⟨1,0,2,_,0⟩::zK _ ⟨1,0,3,_,0⟩::_=_);(rw [zF (enc:=zx) (fun _=>rfl),zF (enc:=zw) (fun _=>rfl),zF (enc:=zo) (fun _=>rfl)]);rfl) rfl rfl rfl (zc rfl (zc rfl (zc (zi ownV) (zc (zi ownG2) (zc (zi ownE) rfl))))) (by (show zG _ _::zG _ _::zG _ ⟨1,0,5,_,0⟩::zG _ ⟨1,0,2,_,0⟩::zG _ ⟨1,0,3,_,0⟩::_=_);(rw [zB (enc:=zx) (fun _=>rfl),zB (enc:=zw) (fun _=>rfl),zB (enc:=zo) (fun _=>rfl)]);rfl) rfl ?_
 refine dd ?_
 exact ⟨.inl rfl,_,_,.refl _,rfl,zt.xW 6 (by (conv=>whnf);(repeat (refine ⟨rfl,?_⟩;(conv=>whnf)));exact trivial) rfl rfl rfl (zO rfl (zO rfl (zO (qv lowV) (zO (qv lowG) (zO (qv lowE) rfl))))) rfl⟩
end Go.Wor
namespace Go.Wor
open Go.Ab Go.Proofs Go.Hy Go.Gat Go.Nam Go.Hos Go.Con Go.Sna
theorem zcW (w:Wor) (m:Mac) (v0:Ver) (g0:Gr) (e0:En) (hv:LnE w m v0 g0) (hw:u64 m.word) (l0: -1<=m.link) (l1:m.link<=2147483646) (hh:u64 e0.head) (hne:e0.head≠m.word):
  zb Tryz.prog 120 [⟨1,48,8,[[I w.zn,I w.current,I w.lock,lI w.pins,.sl 2 [] 5 0 w.zd.length false,lL w.ze,lCo w.counts,lR w.zm]],0⟩,⟨1,37,44,[zE (m)],0⟩,⟨1,0,5,(w.zd.map zx).set m.version.toNat ((zL v0.snap++[C.sl 3 [] 2 0 v0.zf.length false,Bo v0.zD])),0⟩,⟨1,0,2,(v0.zf.map zw).set m.zg.toNat ([U g0.zu,C.sl 4 [] 3 0 g0.ends.length false]),0⟩,⟨1,0,3,(g0.ends.map zo).set m.end_.toNat ([U e0.head,C.sl 5 [] 1 0 e0.next.length false,I e0.zj]),0⟩,⟨2,3,1,e0.next.map encI,0⟩] [.agg [.ref 0 [] 8 0 0,.ref 1 [] 44 0 0]] (Ce (evV m v0 5 8 (e0.head % 4294967296 - 1))) [⟨1,48,8,[[I w.zn,I w.current,I w.lock,lI w.pins,.sl 2 [] 5 0 w.zd.length false,lL w.ze,lCo w.counts,lR w.zm]],0⟩,⟨1,37,44,[zE ({ m with pc:=9 })],0⟩,⟨1,0,5,(w.zd.map zx).set m.version.toNat ((zL v0.snap++[C.sl 3 [] 2 0 v0.zf.length false,Bo v0.zD])),0⟩,⟨1,0,2,(v0.zf.map zw).set m.zg.toNat ([U g0.zu,C.sl 4 [] 3 0 g0.ends.length false]),0⟩,⟨1,0,3,(g0.ends.map zo).set m.end_.toNat ([U e0.head,C.sl 5 [] 1 0 e0.next.length false,I e0.zj]),0⟩,⟨2,3,1,e0.next.map encI,0⟩]:=by
 (have le:=hv.le);(have ownV:∀ r ∈ (w.zd.map zx).set m.version.toNat ((zL v0.snap++[C.sl 3 [] 2 0 v0.zf.length false,Bo v0.zD])),∀ c ∈ r,zA c=true:=zy (enc:=zx) (fun _=>rfl) rfl _ _);(have ownG:∀ r ∈ (v0.zf.map zw).set m.zg.toNat ([U g0.zu,C.sl 4 [] 3 0 g0.ends.length false]),∀ c ∈ r,zA c=true:=zy (enc:=zw) (fun _=>rfl) rfl _ _);(have ownE:∀ r ∈ (g0.ends.map zo).set m.end_.toNat ([U e0.head,C.sl 5 [] 1 0 e0.next.length false,I e0.zj]),∀ c ∈ r,zA c=true:=zy (enc:=zo) (fun _=>rfl) rfl _ _);(have lowV:∀ r ∈ (w.zd.map zx).set m.version.toNat ((zL v0.snap++[C.sl 3 [] 2 0 v0.zf.length false,Bo v0.zD])),∀ c ∈ r,qO 6 9 c=true:=zy (enc:=zx) (fun _=>rfl) rfl _ _);(have lowG:∀ r ∈ (v0.zf.map zw).set m.zg.toNat ([U g0.zu,C.sl 4 [] 3 0 g0.ends.length false]),∀ c ∈ r,qO 6 9 c=true:=zy (enc:=zw) (fun _=>rfl) rfl _ _)
 have lowE:∀ r ∈ (g0.ends.map zo).set m.end_.toNat ([U e0.head,C.sl 5 [] 1 0 e0.next.length false,I e0.zj]),∀ c ∈ r,qO 6 9 c=true:=zy (enc:=zo) (fun _=>rfl) rfl _ _
 have ge:((g0.ends.map zo).set m.end_.toNat ([U e0.head,C.sl 5 [] 1 0 e0.next.length false,I e0.zj]))[m.end_.toNat]?= some ([U e0.head,C.sl 5 [] 1 0 e0.next.length false,I e0.zj]):=List.getElem?_set_self (by simpa using le)
 have hv2:LnE w { m with pc:=9 } v0 g0:=⟨hv.pv,hv.lv,hv.pg,hv.lg,hv.pe,hv.le⟩
 refine qb (fn:=Tryz.f120) Tryz.func120 rfl (Nat.le_refl _) ?_;conv=>whnf
 refine .inl ⟨⟨true,[],[],[8]⟩,by kernel_rfl,?_⟩;(conv=>whnf)
 refine zX [] [⟨1,48,8,[[I w.zn,I w.current,I w.lock,lI w.pins,.sl 2 [] 5 0 w.zd.length false,lL w.ze,lCo w.counts,lR w.zm]],0⟩,⟨1,37,44,[zE (m)],0⟩,⟨1,0,5,(w.zd.map zx).set m.version.toNat ((zL v0.snap++[C.sl 3 [] 2 0 v0.zf.length false,Bo v0.zD])),0⟩,⟨1,0,2,(v0.zf.map zw).set m.zg.toNat ([U g0.zu,C.sl 4 [] 3 0 g0.ends.length false]),0⟩,⟨1,0,3,(g0.ends.map zo).set m.end_.toNat ([U e0.head,C.sl 5 [] 1 0 e0.next.length false,I e0.zj]),0⟩,⟨2,3,1,e0.next.map encI,0⟩,⟨1,154,2,[[.ref 0 [] 8 0 0,.ref 1 [] 44 0 0]],0⟩,⟨1,87,23,[qj qo],0⟩] (rx:=.tup [U (Slp.xx m.word m.link),I 0]) (Slp.zaC m.word m.link hw l0 l1) rfl rfl rfl rfl rfl (zc rfl (zc rfl (zc (zi ownV) (zc (zi ownG) (zc (zi ownE) rfl))))) rfl rfl ?_
 refine dd ?_
 refine .inl ⟨⟨true,[],[],[1]⟩,by kernel_rfl,?_⟩;(conv=>whnf)
 refine zX [0,1,2,3,4,5] [⟨1,48,8,[[I w.zn,I w.current,I w.lock,lI w.pins,.sl 2 [] 5 0 w.zd.length false,lL w.ze,lCo w.counts,lR w.zm]],0⟩,⟨1,37,44,[zE (m)],0⟩,⟨1,0,5,(w.zd.map zx).set m.version.toNat ((zL v0.snap++[C.sl 3 [] 2 0 v0.zf.length false,Bo v0.zD])),0⟩,⟨1,0,2,(v0.zf.map zw).set m.zg.toNat ([U g0.zu,C.sl 4 [] 3 0 g0.ends.length false]),0⟩,⟨1,0,3,(g0.ends.map zo).set m.end_.toNat ([U e0.head,C.sl 5 [] 1 0 e0.next.length false,I e0.zj]),0⟩,⟨2,3,1,e0.next.map encI,0⟩,⟨1,154,2,[[.ref 0 [] 8 0 0,.ref 1 [] 44 0 0]],0⟩,⟨1,87,23,[qj qo],0⟩] (rx:=.ref 4 [] 3 m.end_.toNat 0) (yg w m v0 g0 e0 hv) (zc rfl (zc rfl (zc (zi ownV) (zc (zi ownG) (zc (zi ownE) rfl))))) (by (show zK _ _::zK _ _::zK _ ⟨1,0,5,_,0⟩::zK _ ⟨1,0,2,_,0⟩::zK _ ⟨1,0,3,_,0⟩::_=_);(rw [zF (enc:=zx) (fun _=>rfl),zF (enc:=zw) (fun _=>rfl),zF (enc:=zo) (fun _=>rfl)]);rfl) rfl rfl rfl (zc rfl (zc rfl (zc (zi ownV) (zc (zi ownG) (zc (zi ownE) rfl))))) (by (show zG _ _::zG _ _::zG _ ⟨1,0,5,_,0⟩::zG _ ⟨1,0,2,_,0⟩::zG _ ⟨1,0,3,_,0⟩::_=_);(rw [zB (enc:=zx) (fun _=>rfl),zB (enc:=zw) (fun _=>rfl),zB (enc:=zo) (fun _=>rfl)]);rfl) rfl ?_
 refine dd ?_
 refine ⟨_,ge,(by show 0+1<=3;decide),?_⟩
 refine dd ?_
 refine ⟨fun _=>?_,fun h=>absurd h (by simpa using hne)⟩
 refine dd ?_
 refine .inl ⟨⟨true,[],[],[2,6,7]⟩,by kernel_rfl,?_⟩;(conv=>whnf)
 refine zX [0,1,2,3,4,5] [⟨1,48,8,[[I w.zn,I w.current,I w.lock,lI w.pins,.sl 2 [] 5 0 w.zd.length false,lL w.ze,lCo w.counts,lR w.zm]],0⟩,⟨1,37,44,[zE ({ m with pc:=9 })],0⟩,⟨1,0,5,(w.zd.map zx).set m.version.toNat ((zL v0.snap++[C.sl 3 [] 2 0 v0.zf.length false,Bo v0.zD])),0⟩,⟨1,0,2,(v0.zf.map zw).set m.zg.toNat ([U g0.zu,C.sl 4 [] 3 0 g0.ends.length false]),0⟩,⟨1,0,3,(g0.ends.map zo).set m.end_.toNat ([U e0.head,C.sl 5 [] 1 0 e0.next.length false,I e0.zj]),0⟩,⟨2,3,1,e0.next.map encI,0⟩,⟨1,154,2,[[.ref 0 [] 8 0 0,.ref 1 [] 44 0 0]],0⟩,⟨1,87,23,[qj qo],0⟩] (rx:=.ref 4 [] 3 m.end_.toNat 0) (yg w _ v0 g0 e0 hv2) (zc rfl (zc rfl (zc (zi ownV) (zc (zi ownG) (zc (zi ownE) rfl))))) (by (show zK _ _::zK _ _::zK _ ⟨1,0,5,_,0⟩::zK _ ⟨1,0,2,_,0⟩::zK _ ⟨1,0,3,_,0⟩::_=_);(rw [zF (enc:=zx) (fun _=>rfl),zF (enc:=zw) (fun _=>rfl),zF (enc:=zo) (fun _=>rfl)]);rfl) rfl rfl rfl (zc rfl (zc rfl (zc (zi ownV) (zc (zi ownG) (zc (zi ownE) rfl))))) (by (show zG _ _::zG _ _::zG _ ⟨1,0,5,_,0⟩::zG _ ⟨1,0,2,_,0⟩::zG _ ⟨1,0,3,_,0⟩::_=_);(rw [zB (enc:=zx) (fun _=>rfl),zB (enc:=zw) (fun _=>rfl),zB (enc:=zo) (fun _=>rfl)]);rfl) rfl ?_
 refine dd ?_
 refine ⟨_,ge,(by show 0+1<=3;decide),?_⟩
 refine dd ?_
 refine zX [] [⟨1,48,8,[[I w.zn,I w.current,I w.lock,lI w.pins,.sl 2 [] 5 0 w.zd.length false,lL w.ze,lCo w.counts,lR w.zm]],0⟩,⟨1,37,44,[zE ({ m with pc:=9 })],0⟩,⟨1,0,5,(w.zd.map zx).set m.version.toNat ((zL v0.snap++[C.sl 3 [] 2 0 v0.zf.length false,Bo v0.zD])),0⟩,⟨1,0,2,(v0.zf.map zw).set m.zg.toNat ([U g0.zu,C.sl 4 [] 3 0 g0.ends.length false]),0⟩,⟨1,0,3,(g0.ends.map zo).set m.end_.toNat ([U e0.head,C.sl 5 [] 1 0 e0.next.length false,I e0.zj]),0⟩,⟨2,3,1,e0.next.map encI,0⟩,⟨1,154,2,[[.ref 0 [] 8 0 0,.ref 1 [] 44 0 0]],0⟩,⟨1,87,23,[qj qo],0⟩] (rx:=I (e0.head % 4294967296 - 1)) (Slp.qu e0.head hh) rfl rfl rfl rfl rfl (zc rfl (zc rfl (zc (zi ownV) (zc (zi ownG) (zc (zi ownE) rfl))))) rfl rfl ?_
 refine dd ?_
 refine zX [0,1,2,3,4,5] [⟨1,48,8,[[I w.zn,I w.current,I w.lock,lI w.pins,.sl 2 [] 5 0 w.zd.length false,lL w.ze,lCo w.counts,lR w.zm]],0⟩,⟨1,37,44,[zE ({ m with pc:=9 })],0⟩,⟨1,0,5,(w.zd.map zx).set m.version.toNat ((zL v0.snap++[C.sl 3 [] 2 0 v0.zf.length false,Bo v0.zD])),0⟩,⟨1,0,2,(v0.zf.map zw).set m.zg.toNat ([U g0.zu,C.sl 4 [] 3 0 g0.ends.length false]),0⟩,⟨1,0,3,(g0.ends.map zo).set m.end_.toNat ([U e0.head,C.sl 5 [] 1 0 e0.next.length false,I e0.zj]),0⟩,⟨2,3,1,e0.next.map encI,0⟩,⟨1,154,2,[[.ref 0 [] 8 0 0,.ref 1 [] 44 0 0]],0⟩,⟨1,87,23,[qj qo],0⟩] (rx:=Ce (evV m v0 5 8 (e0.head % 4294967296 - 1))) (zaE w m v0 g0 e0 hv m.end_ 9 5 8 (e0.head % 4294967296 - 1)) (zc rfl (zc rfl (zc (zi ownV) (zc (zi ownG) (zc (zi ownE) rfl))))) (by (show zK _ _::zK _ _::zK _ ⟨1,0,5,_,0⟩::zK _ ⟨1,0,2,_,0⟩::zK _ ⟨1,0,3,_,0⟩::_=_);(rw [zF (enc:=zx) (fun _=>rfl),zF (enc:=zw) (fun _=>rfl),zF (enc:=zo) (fun _=>rfl)]);rfl) rfl rfl rfl (zc rfl (zc rfl (zc (zi ownV) (zc (zi ownG) (zc (zi ownE) rfl))))) (by (show zG _ _::zG _ _::zG _ ⟨1,0,5,_,0⟩::zG _ ⟨1,0,2,_,0⟩::zG _ ⟨1,0,3,_,0⟩::_=_);(rw [zB (enc:=zx) (fun _=>rfl),zB (enc:=zw) (fun _=>rfl),zB (enc:=zo) (fun _=>rfl)]);rfl) rfl ?_
 refine dd ?_
 exact ⟨.inl rfl,_,_,.refl _,rfl,zt.xW 6 (by (conv=>whnf);(repeat (refine ⟨rfl,?_⟩;(conv=>whnf)));exact trivial) rfl rfl rfl (zO rfl (zO rfl (zO (qv lowV) (zO (qv lowG) (zO (qv lowE) rfl))))) rfl⟩
theorem yf (w:Wor) (m:Mac) (v0:Ver) (g0:Gr) (e0:En) (hv:LnE w m v0 g0) (hw:u64 m.word) (l0: -1<=m.link) (l1:m.link<=2147483646) (hne:e0.head=m.word):
  zb Tryz.prog 120 [⟨1,48,8,[[I w.zn,I w.current,I w.lock,lI w.pins,.sl 2 [] 5 0 w.zd.length false,lL w.ze,lCo w.counts,lR w.zm]],0⟩,⟨1,37,44,[zE (m)],0⟩,⟨1,0,5,(w.zd.map zx).set m.version.toNat ((zL v0.snap++[C.sl 3 [] 2 0 v0.zf.length false,Bo v0.zD])),0⟩,⟨1,0,2,(v0.zf.map zw).set m.zg.toNat ([U g0.zu,C.sl 4 [] 3 0 g0.ends.length false]),0⟩,⟨1,0,3,(g0.ends.map zo).set m.end_.toNat ([U e0.head,C.sl 5 [] 1 0 e0.next.length false,I e0.zj]),0⟩,⟨2,3,1,e0.next.map encI,0⟩] [.agg [.ref 0 [] 8 0 0,.ref 1 [] 44 0 0]] (Ce (evV m v0 4 8 m.slot)) [⟨1,48,8,[[I w.zn,I w.current,I w.lock,lI w.pins,.sl 2 [] 5 0 w.zd.length false,lL w.ze,lCo w.counts,lR w.zm]],0⟩,⟨1,37,44,[zE ({ m with pc:=12 })],0⟩,⟨1,0,5,(w.zd.map zx).set m.version.toNat ((zL v0.snap++[C.sl 3 [] 2 0 v0.zf.length false,Bo v0.zD])),0⟩,⟨1,0,2,(v0.zf.map zw).set m.zg.toNat ([U g0.zu,C.sl 4 [] 3 0 g0.ends.length false]),0⟩,⟨1,0,3,(g0.ends.map zo).set m.end_.toNat ([U (Slp.xx m.word m.link),C.sl 5 [] 1 0 e0.next.length false,I e0.zj]),0⟩,⟨2,3,1,e0.next.map encI,0⟩]:=by
 (have le:=hv.le);(have ownV:∀ r ∈ (w.zd.map zx).set m.version.toNat ((zL v0.snap++[C.sl 3 [] 2 0 v0.zf.length false,Bo v0.zD])),∀ c ∈ r,zA c=true:=zy (enc:=zx) (fun _=>rfl) rfl _ _);(have ownG:∀ r ∈ (v0.zf.map zw).set m.zg.toNat ([U g0.zu,C.sl 4 [] 3 0 g0.ends.length false]),∀ c ∈ r,zA c=true:=zy (enc:=zw) (fun _=>rfl) rfl _ _);(have ownE:∀ r ∈ (g0.ends.map zo).set m.end_.toNat ([U e0.head,C.sl 5 [] 1 0 e0.next.length false,I e0.zj]),∀ c ∈ r,zA c=true:=zy (enc:=zo) (fun _=>rfl) rfl _ _);(have lowV:∀ r ∈ (w.zd.map zx).set m.version.toNat ((zL v0.snap++[C.sl 3 [] 2 0 v0.zf.length false,Bo v0.zD])),∀ c ∈ r,qO 6 9 c=true:=zy (enc:=zx) (fun _=>rfl) rfl _ _);(have lowG:∀ r ∈ (v0.zf.map zw).set m.zg.toNat ([U g0.zu,C.sl 4 [] 3 0 g0.ends.length false]),∀ c ∈ r,qO 6 9 c=true:=zy (enc:=zw) (fun _=>rfl) rfl _ _)
 have lowE:∀ r ∈ (g0.ends.map zo).set m.end_.toNat ([U (Slp.xx m.word m.link),C.sl 5 [] 1 0 e0.next.length false,I e0.zj]),∀ c ∈ r,qO 6 9 c=true:=zy (enc:=zo) (fun _=>rfl) rfl _ _
 have ownE2:∀ r ∈ (g0.ends.map zo).set m.end_.toNat ([U (Slp.xx m.word m.link),C.sl 5 [] 1 0 e0.next.length false,I e0.zj]),∀ c ∈ r,zA c=true:=zy (enc:=zo) (fun _=>rfl) rfl _ _
 have ge:((g0.ends.map zo).set m.end_.toNat ([U e0.head,C.sl 5 [] 1 0 e0.next.length false,I e0.zj]))[m.end_.toNat]?= some ([U e0.head,C.sl 5 [] 1 0 e0.next.length false,I e0.zj]):=List.getElem?_set_self (by simpa using le)
 refine qb (fn:=Tryz.f120) Tryz.func120 rfl (Nat.le_refl _) ?_;conv=>whnf
 refine .inl ⟨⟨true,[],[],[8]⟩,by kernel_rfl,?_⟩;(conv=>whnf)
 refine zX [] [⟨1,48,8,[[I w.zn,I w.current,I w.lock,lI w.pins,.sl 2 [] 5 0 w.zd.length false,lL w.ze,lCo w.counts,lR w.zm]],0⟩,⟨1,37,44,[zE (m)],0⟩,⟨1,0,5,(w.zd.map zx).set m.version.toNat ((zL v0.snap++[C.sl 3 [] 2 0 v0.zf.length false,Bo v0.zD])),0⟩,⟨1,0,2,(v0.zf.map zw).set m.zg.toNat ([U g0.zu,C.sl 4 [] 3 0 g0.ends.length false]),0⟩,⟨1,0,3,(g0.ends.map zo).set m.end_.toNat ([U e0.head,C.sl 5 [] 1 0 e0.next.length false,I e0.zj]),0⟩,⟨2,3,1,e0.next.map encI,0⟩,⟨1,154,2,[[.ref 0 [] 8 0 0,.ref 1 [] 44 0 0]],0⟩,⟨1,87,23,[qj qo],0⟩] (rx:=.tup [U (Slp.xx m.word m.link),I 0]) (Slp.zaC m.word m.link hw l0 l1) rfl rfl rfl rfl rfl (zc rfl (zc rfl (zc (zi ownV) (zc (zi ownG) (zc (zi ownE) rfl))))) rfl rfl ?_
 refine dd ?_
 refine .inl ⟨⟨true,[],[],[1]⟩,by kernel_rfl,?_⟩;(conv=>whnf)
 refine zX [0,1,2,3,4,5] [⟨1,48,8,[[I w.zn,I w.current,I w.lock,lI w.pins,.sl 2 [] 5 0 w.zd.length false,lL w.ze,lCo w.counts,lR w.zm]],0⟩,⟨1,37,44,[zE (m)],0⟩,⟨1,0,5,(w.zd.map zx).set m.version.toNat ((zL v0.snap++[C.sl 3 [] 2 0 v0.zf.length false,Bo v0.zD])),0⟩,⟨1,0,2,(v0.zf.map zw).set m.zg.toNat ([U g0.zu,C.sl 4 [] 3 0 g0.ends.length false]),0⟩,⟨1,0,3,(g0.ends.map zo).set m.end_.toNat ([U e0.head,C.sl 5 [] 1 0 e0.next.length false,I e0.zj]),0⟩,⟨2,3,1,e0.next.map encI,0⟩,⟨1,154,2,[[.ref 0 [] 8 0 0,.ref 1 [] 44 0 0]],0⟩,⟨1,87,23,[qj qo],0⟩] (rx:=.ref 4 [] 3 m.end_.toNat 0) (yg w m v0 g0 e0 hv) (zc rfl (zc rfl (zc (zi ownV) (zc (zi ownG) (zc (zi ownE) rfl))))) (by (show zK _ _::zK _ _::zK _ ⟨1,0,5,_,0⟩::zK _ ⟨1,0,2,_,0⟩::zK _ ⟨1,0,3,_,0⟩::_=_);(rw [zF (enc:=zx) (fun _=>rfl),zF (enc:=zw) (fun _=>rfl),zF (enc:=zo) (fun _=>rfl)]);rfl) rfl rfl rfl (zc rfl (zc rfl (zc (zi ownV) (zc (zi ownG) (zc (zi ownE) rfl))))) (by (show zG _ _::zG _ _::zG _ ⟨1,0,5,_,0⟩::zG _ ⟨1,0,2,_,0⟩::zG _ ⟨1,0,3,_,0⟩::_=_);(rw [zB (enc:=zx) (fun _=>rfl),zB (enc:=zw) (fun _=>rfl),zB (enc:=zo) (fun _=>rfl)]);rfl) rfl ?_
 refine dd ?_
 refine ⟨_,ge,(by show 0+1<=3;decide),?_⟩
 refine dd ?_
 refine ⟨fun h=>absurd h (by simp [hne]),fun _=>?_⟩
 refine dd ?_
 (repeat ((first | apply ya | apply yb);refine dd ?_))
 refine zaV [0,1,2,3,4,5] [⟨1,48,8,[[I w.zn,I w.current,I w.lock,lI w.pins,.sl 2 [] 5 0 w.zd.length false,lL w.ze,lCo w.counts,lR w.zm]],0⟩,⟨1,37,44,[zE (m)],0⟩,⟨1,0,5,(w.zd.map zx).set m.version.toNat ((zL v0.snap++[C.sl 3 [] 2 0 v0.zf.length false,Bo v0.zD])),0⟩,⟨1,0,2,(v0.zf.map zw).set m.zg.toNat ([U g0.zu,C.sl 4 [] 3 0 g0.ends.length false]),0⟩,⟨1,0,3,(g0.ends.map zo).set m.end_.toNat ([U e0.head,C.sl 5 [] 1 0 e0.next.length false,I e0.zj]),0⟩,⟨2,3,1,e0.next.map encI,0⟩,⟨1,154,2,[[.ref 0 [] 8 0 0,.ref 1 [] 44 0 0]],0⟩,⟨1,87,23,[qj qo],0⟩] (rx:=.ref 4 [] 3 m.end_.toNat 0) (yg w m v0 g0 e0 hv) (zc rfl (zc rfl (zc (zi ownV) (zc (zi ownG) (zc (zi ownE) rfl))))) (by (show zK _ _::zK _ _::zK _ ⟨1,0,5,_,0⟩::zK _ ⟨1,0,2,_,0⟩::zK _ ⟨1,0,3,_,0⟩::_=_);(rw [zF (enc:=zx) (fun _=>rfl),zF (enc:=zw) (fun _=>rfl),zF (enc:=zo) (fun _=>rfl)]);rfl) rfl rfl rfl (zc rfl (zc rfl (zc (zi ownV) (zc (zi ownG) (zc (zi ownE) rfl))))) (by (show zG _ _::zG _ _::zG _ ⟨1,0,5,_,0⟩::zG _ ⟨1,0,2,_,0⟩::zG _ ⟨1,0,3,_,0⟩::_=_);(rw [zB (enc:=zx) (fun _=>rfl),zB (enc:=zw) (fun _=>rfl),zB (enc:=zo) (fun _=>rfl)]);rfl) rfl ?_
 refine dd ?_
 refine ⟨_,ge,rfl,?_⟩
 refine dd ?_
 rw [List.set_set]
 refine dd ?_
 refine .inl ⟨⟨true,[],[],[5]⟩,by kernel_rfl,?_⟩;(conv=>whnf)
 refine zX [0,1,2,3,4,5] [⟨1,48,8,[[I w.zn,I w.current,I w.lock,lI w.pins,.sl 2 [] 5 0 w.zd.length false,lL w.ze,lCo w.counts,lR w.zm]],0⟩,⟨1,37,44,[zE ({ m with pc:=12 })],0⟩,⟨1,0,5,(w.zd.map zx).set m.version.toNat ((zL v0.snap++[C.sl 3 [] 2 0 v0.zf.length false,Bo v0.zD])),0⟩,⟨1,0,2,(v0.zf.map zw).set m.zg.toNat ([U g0.zu,C.sl 4 [] 3 0 g0.ends.length false]),0⟩,⟨1,0,3,(g0.ends.map zo).set m.end_.toNat ([U (Slp.xx m.word m.link),C.sl 5 [] 1 0 e0.next.length false,I e0.zj]),0⟩,⟨2,3,1,e0.next.map encI,0⟩,⟨1,154,2,[[.ref 0 [] 8 0 0,.ref 1 [] 44 0 0]],0⟩,⟨1,87,23,[qj qo],0⟩] (rx:=Ce (evV m v0 4 8 m.slot)) (zaE w m v0 g0 { e0 with head:=Slp.xx m.word m.link } hv m.end_ 12 4 8 m.slot) (zc rfl (zc rfl (zc (zi ownV) (zc (zi ownG) (zc (zi ownE2) rfl))))) (by (show zK _ _::zK _ _::zK _ ⟨1,0,5,_,0⟩::zK _ ⟨1,0,2,_,0⟩::zK _ ⟨1,0,3,_,0⟩::_=_);(rw [zF (enc:=zx) (fun _=>rfl),zF (enc:=zw) (fun _=>rfl),zF (enc:=zo) (fun _=>rfl)]);rfl) rfl rfl rfl (zc rfl (zc rfl (zc (zi ownV) (zc (zi ownG) (zc (zi ownE2) rfl))))) (by (show zG _ _::zG _ _::zG _ ⟨1,0,5,_,0⟩::zG _ ⟨1,0,2,_,0⟩::zG _ ⟨1,0,3,_,0⟩::_=_);(rw [zB (enc:=zx) (fun _=>rfl),zB (enc:=zw) (fun _=>rfl),zB (enc:=zo) (fun _=>rfl)]);rfl) rfl ?_
 refine dd ?_
 exact ⟨.inl rfl,_,_,.refl _,rfl,zt.xW 6 (by (conv=>whnf);(repeat (refine ⟨rfl,?_⟩;(conv=>whnf)));exact trivial) rfl rfl rfl (zO rfl (zO rfl (zO (qv lowV) (zO (qv lowG) (zO (qv lowE) rfl))))) rfl⟩
end Go.Wor
namespace Go.Wor
open Go.Ab Go.Proofs Go.Hy
abbrev nf:C:=.v .nilFunc
abbrev pf (f:FuncId):C:=.fn f [] []
abbrev zp8:List C:=[nf,nf,nf,pf 112,pf 113,pf 114,pf 115,pf 116,pf 117,pf 118,pf 119,pf 120,pf 121,nf,nf,nf,nf,nf,nf,nf,pf 122,pf 123,pf 124,pf 125]
theorem qS:zb Tryz.prog 82 [] [] (.agg zp8) []:=by
 refine zb.zp (fn:=Tryz.f82) Tryz.func82 rfl ?_
 conv=>whnf
 exact ⟨.inl rfl,_,.refl _,rfl⟩
end Go.Wor
namespace Go.Wor
open Go.Ab Go.Proofs Go.Hy Go.Gat Go.Nam Go.Hos Go.Con Go.Sna
theorem zdM {w w':Wor} {m m':Mac} {e:Eve} (sw:qC w) (ok:OkW w) (hl:i64 m.listen) (hpc:m.pc=3) (hs:z5 w m=true) (h:zb Tryz.prog 112 [⟨1,48,8,[zQ w],0⟩,⟨1,37,44,[zE m],0⟩] [.agg [.ref 0 [] 8 0 0,.ref 1 [] 44 0 0]] (Ce e) [⟨1,48,8,[zQ w'],0⟩,⟨1,37,44,[zE m'],0⟩]):zb Tryz.prog 62 [] [Cw w,Cm m] (.tup [Cw w',Cm m',Ce e]) []:=by
 by_cases hn:m.listen < 0
 all_goals
  refine zb.zp (fn:=Tryz.f62) Tryz.func62 rfl ?_
  conv=>whnf
  (repeat (first | (refine ⟨fun _=>?_,?_⟩;rotate_left 1;(focus (intro h;first | (simp [hpc] at h;done) | (have h:=of_decide_eq_true h;omega) | (have h:=of_decide_eq_false h;omega)));(refine dd ?_)) | (refine ⟨?_,fun _=>?_⟩;(focus (intro h;first | (simp [hpc] at h;done) | (have h:=of_decide_eq_true h;omega) | (have h:=of_decide_eq_false h;omega)));(refine dd ?_))))
  refine ⟨_,_,(zM w m ok hl).frame rfl _,?_⟩;refine dd ?_
  refine ⟨fun _=>?_,fun h=>absurd ((hs).symm.trans h:true=false) (by decide)⟩;refine dd ?_
  (repeat ((first | apply ya | apply yb);refine dd ?_))
  (repeat (first | (refine ⟨fun _=>?_,?_⟩;rotate_left 1;(focus (intro h;first | (simp [hpc] at h;done) | (have h:=of_decide_eq_true h;omega) | (have h:=of_decide_eq_false h;omega)));(refine dd ?_)) | (refine ⟨?_,fun _=>?_⟩;(focus (intro h;first | (simp [hpc] at h;done) | (have h:=of_decide_eq_true h;omega) | (have h:=of_decide_eq_false h;omega)));(refine dd ?_))))
  refine .inl ⟨⟨true,[2],[1],[0]⟩,by kernel_rfl,?_⟩;(conv=>whnf)
  refine ⟨_,_,(qS).frame rfl _,?_⟩;refine dd ?_
  (repeat (refine ⟨rfl,?_⟩;conv=>whnf))
  (refine ⟨by omega,by omega,pf 112,by rw [hpc];rfl,?_⟩);refine dd ?_
  (repeat ((first | apply ya | apply yb);refine dd ?_))
  refine ⟨_,_,(qi w sw).frame rfl _,?_⟩;refine dd ?_
  refine zr [5,6] (h) rfl rfl rfl rfl rfl rfl ?_;refine dd ?_
  refine .inl ⟨⟨false,[0,1,2],[5,6,7],[]⟩,by kernel_rfl,?_⟩;(conv=>whnf)
  repeat (refine ⟨rfl,?_⟩;conv=>whnf)
  exact ⟨.inl rfl,_,.refl _,rfl⟩
theorem zdO {w w':Wor} {m m':Mac} {e:Eve} (sw:qC w) (ok:OkW w) (hl:i64 m.listen) (hpc:m.pc=5) (hs:z5 w m=true) (hli:0<=m.listen)(h:zb Tryz.prog 114 [⟨1,48,8,[zQ w],0⟩,⟨1,37,44,[zE m],0⟩] [.agg [.ref 0 [] 8 0 0,.ref 1 [] 44 0 0]] (Ce e) [⟨1,48,8,[zQ w'],0⟩,⟨1,37,44,[zE m'],0⟩]):zb Tryz.prog 62 [] [Cw w,Cm m] (.tup [Cw w',Cm m',Ce e]) []:=by
 have hn:¬m.listen < 0:=by omega
 all_goals
  refine zb.zp (fn:=Tryz.f62) Tryz.func62 rfl ?_
  conv=>whnf
  (repeat (first | (refine ⟨fun _=>?_,?_⟩;rotate_left 1;(focus (intro h;first | (simp [hpc] at h;done) | (have h:=of_decide_eq_true h;omega) | (have h:=of_decide_eq_false h;omega)));(refine dd ?_)) | (refine ⟨?_,fun _=>?_⟩;(focus (intro h;first | (simp [hpc] at h;done) | (have h:=of_decide_eq_true h;omega) | (have h:=of_decide_eq_false h;omega)));(refine dd ?_))))
  refine ⟨_,_,(zM w m ok hl).frame rfl _,?_⟩;refine dd ?_
  refine ⟨fun _=>?_,fun h=>absurd ((hs).symm.trans h:true=false) (by decide)⟩;refine dd ?_
  (repeat ((first | apply ya | apply yb);refine dd ?_))
  (repeat (first | (refine ⟨fun _=>?_,?_⟩;rotate_left 1;(focus (intro h;first | (simp [hpc] at h;done) | (have h:=of_decide_eq_true h;omega) | (have h:=of_decide_eq_false h;omega)));(refine dd ?_)) | (refine ⟨?_,fun _=>?_⟩;(focus (intro h;first | (simp [hpc] at h;done) | (have h:=of_decide_eq_true h;omega) | (have h:=of_decide_eq_false h;omega)));(refine dd ?_))))
  refine .inl ⟨⟨true,[2],[1],[0]⟩,by kernel_rfl,?_⟩;(conv=>whnf)
  refine ⟨_,_,(qS).frame rfl _,?_⟩;refine dd ?_
  (repeat (refine ⟨rfl,?_⟩;conv=>whnf))
  (refine ⟨by omega,by omega,pf 114,by rw [hpc];rfl,?_⟩);refine dd ?_
  (repeat ((first | apply ya | apply yb);refine dd ?_))
  refine ⟨_,_,(qi w sw).frame rfl _,?_⟩;refine dd ?_
  refine zr [5,6] (h) rfl rfl rfl rfl rfl rfl ?_;refine dd ?_
  refine .inl ⟨⟨false,[0,1,2],[5,6,7],[]⟩,by kernel_rfl,?_⟩;(conv=>whnf)
  repeat (refine ⟨rfl,?_⟩;conv=>whnf)
  exact ⟨.inl rfl,_,.refl _,rfl⟩
theorem zmf {w w':Wor} {m m':Mac} {e:Eve} (sw:qC w) (ok:OkW w) (hl:i64 m.listen) (hpc:m.pc=7) (hs:z5 w m=true) (h:zb Tryz.prog 116 [⟨1,48,8,[zQ w],0⟩,⟨1,37,44,[zE m],0⟩] [.agg [.ref 0 [] 8 0 0,.ref 1 [] 44 0 0]] (Ce e) [⟨1,48,8,[zQ w'],0⟩,⟨1,37,44,[zE m'],0⟩]):zb Tryz.prog 62 [] [Cw w,Cm m] (.tup [Cw w',Cm m',Ce e]) []:=by
 by_cases hn:m.listen < 0
 all_goals
  refine zb.zp (fn:=Tryz.f62) Tryz.func62 rfl ?_
  conv=>whnf
  (repeat (first | (refine ⟨fun _=>?_,?_⟩;rotate_left 1;(focus (intro h;first | (simp [hpc] at h;done) | (have h:=of_decide_eq_true h;omega) | (have h:=of_decide_eq_false h;omega)));(refine dd ?_)) | (refine ⟨?_,fun _=>?_⟩;(focus (intro h;first | (simp [hpc] at h;done) | (have h:=of_decide_eq_true h;omega) | (have h:=of_decide_eq_false h;omega)));(refine dd ?_))))
  refine ⟨_,_,(zM w m ok hl).frame rfl _,?_⟩;refine dd ?_
  refine ⟨fun _=>?_,fun h=>absurd ((hs).symm.trans h:true=false) (by decide)⟩;refine dd ?_
  (repeat ((first | apply ya | apply yb);refine dd ?_))
  (repeat (first | (refine ⟨fun _=>?_,?_⟩;rotate_left 1;(focus (intro h;first | (simp [hpc] at h;done) | (have h:=of_decide_eq_true h;omega) | (have h:=of_decide_eq_false h;omega)));(refine dd ?_)) | (refine ⟨?_,fun _=>?_⟩;(focus (intro h;first | (simp [hpc] at h;done) | (have h:=of_decide_eq_true h;omega) | (have h:=of_decide_eq_false h;omega)));(refine dd ?_))))
  refine .inl ⟨⟨true,[2],[1],[0]⟩,by kernel_rfl,?_⟩;(conv=>whnf)
  refine ⟨_,_,(qS).frame rfl _,?_⟩;refine dd ?_
  (repeat (refine ⟨rfl,?_⟩;conv=>whnf))
  (refine ⟨by omega,by omega,pf 116,by rw [hpc];rfl,?_⟩);refine dd ?_
  (repeat ((first | apply ya | apply yb);refine dd ?_))
  refine ⟨_,_,(qi w sw).frame rfl _,?_⟩;refine dd ?_
  refine zr [5,6] (h) rfl rfl rfl rfl rfl rfl ?_;refine dd ?_
  refine .inl ⟨⟨false,[0,1,2],[5,6,7],[]⟩,by kernel_rfl,?_⟩;(conv=>whnf)
  repeat (refine ⟨rfl,?_⟩;conv=>whnf)
  exact ⟨.inl rfl,_,.refl _,rfl⟩
theorem zmg {w w':Wor} {m m':Mac} {e:Eve} (sw:qC w) (ok:OkW w) (hl:i64 m.listen) (hpc:m.pc=8) (hs:z5 w m=true) (h:zb Tryz.prog 117 [⟨1,48,8,[zQ w],0⟩,⟨1,37,44,[zE m],0⟩] [.agg [.ref 0 [] 8 0 0,.ref 1 [] 44 0 0]] (Ce e) [⟨1,48,8,[zQ w'],0⟩,⟨1,37,44,[zE m'],0⟩]):zb Tryz.prog 62 [] [Cw w,Cm m] (.tup [Cw w',Cm m',Ce e]) []:=by
 by_cases hn:m.listen < 0
 all_goals
  refine zb.zp (fn:=Tryz.f62) Tryz.func62 rfl ?_
  conv=>whnf
  (repeat (first | (refine ⟨fun _=>?_,?_⟩;rotate_left 1;(focus (intro h;first | (simp [hpc] at h;done) | (have h:=of_decide_eq_true h;omega) | (have h:=of_decide_eq_false h;omega)));(refine dd ?_)) | (refine ⟨?_,fun _=>?_⟩;(focus (intro h;first | (simp [hpc] at h;done) | (have h:=of_decide_eq_true h;omega) | (have h:=of_decide_eq_false h;omega)));(refine dd ?_))))
  refine ⟨_,_,(zM w m ok hl).frame rfl _,?_⟩;refine dd ?_
  refine ⟨fun _=>?_,fun h=>absurd ((hs).symm.trans h:true=false) (by decide)⟩;refine dd ?_
  (repeat ((first | apply ya | apply yb);refine dd ?_))
  (repeat (first | (refine ⟨fun _=>?_,?_⟩;rotate_left 1;(focus (intro h;first | (simp [hpc] at h;done) | (have h:=of_decide_eq_true h;omega) | (have h:=of_decide_eq_false h;omega)));(refine dd ?_)) | (refine ⟨?_,fun _=>?_⟩;(focus (intro h;first | (simp [hpc] at h;done) | (have h:=of_decide_eq_true h;omega) | (have h:=of_decide_eq_false h;omega)));(refine dd ?_))))
  refine .inl ⟨⟨true,[2],[1],[0]⟩,by kernel_rfl,?_⟩;(conv=>whnf)
  refine ⟨_,_,(qS).frame rfl _,?_⟩;refine dd ?_
  (repeat (refine ⟨rfl,?_⟩;conv=>whnf))
  (refine ⟨by omega,by omega,pf 117,by rw [hpc];rfl,?_⟩);refine dd ?_
  (repeat ((first | apply ya | apply yb);refine dd ?_))
  refine ⟨_,_,(qi w sw).frame rfl _,?_⟩;refine dd ?_
  refine zr [5,6] (h) rfl rfl rfl rfl rfl rfl ?_;refine dd ?_
  refine .inl ⟨⟨false,[0,1,2],[5,6,7],[]⟩,by kernel_rfl,?_⟩;(conv=>whnf)
  repeat (refine ⟨rfl,?_⟩;conv=>whnf)
  exact ⟨.inl rfl,_,.refl _,rfl⟩
theorem zbc {w w':Wor} {m m':Mac} {e:Eve} (sw:qC w) (ok:OkW w) (hl:i64 m.listen) (hpc:m.pc=9) (hs:z5 w m=true) (h:zb Tryz.prog 118 [⟨1,48,8,[zQ w],0⟩,⟨1,37,44,[zE m],0⟩] [.agg [.ref 0 [] 8 0 0,.ref 1 [] 44 0 0]] (Ce e) [⟨1,48,8,[zQ w'],0⟩,⟨1,37,44,[zE m'],0⟩]):zb Tryz.prog 62 [] [Cw w,Cm m] (.tup [Cw w',Cm m',Ce e]) []:=by
 by_cases hn:m.listen < 0
 all_goals
  refine zb.zp (fn:=Tryz.f62) Tryz.func62 rfl ?_
  conv=>whnf
  (repeat (first | (refine ⟨fun _=>?_,?_⟩;rotate_left 1;(focus (intro h;first | (simp [hpc] at h;done) | (have h:=of_decide_eq_true h;omega) | (have h:=of_decide_eq_false h;omega)));(refine dd ?_)) | (refine ⟨?_,fun _=>?_⟩;(focus (intro h;first | (simp [hpc] at h;done) | (have h:=of_decide_eq_true h;omega) | (have h:=of_decide_eq_false h;omega)));(refine dd ?_))))
  refine ⟨_,_,(zM w m ok hl).frame rfl _,?_⟩;refine dd ?_
  refine ⟨fun _=>?_,fun h=>absurd ((hs).symm.trans h:true=false) (by decide)⟩;refine dd ?_
  (repeat ((first | apply ya | apply yb);refine dd ?_))
  (repeat (first | (refine ⟨fun _=>?_,?_⟩;rotate_left 1;(focus (intro h;first | (simp [hpc] at h;done) | (have h:=of_decide_eq_true h;omega) | (have h:=of_decide_eq_false h;omega)));(refine dd ?_)) | (refine ⟨?_,fun _=>?_⟩;(focus (intro h;first | (simp [hpc] at h;done) | (have h:=of_decide_eq_true h;omega) | (have h:=of_decide_eq_false h;omega)));(refine dd ?_))))
  refine .inl ⟨⟨true,[2],[1],[0]⟩,by kernel_rfl,?_⟩;(conv=>whnf)
  refine ⟨_,_,(qS).frame rfl _,?_⟩;refine dd ?_
  (repeat (refine ⟨rfl,?_⟩;conv=>whnf))
  (refine ⟨by omega,by omega,pf 118,by rw [hpc];rfl,?_⟩);refine dd ?_
  (repeat ((first | apply ya | apply yb);refine dd ?_))
  refine ⟨_,_,(qi w sw).frame rfl _,?_⟩;refine dd ?_
  refine zr [5,6] (h) rfl rfl rfl rfl rfl rfl ?_;refine dd ?_
  refine .inl ⟨⟨false,[0,1,2],[5,6,7],[]⟩,by kernel_rfl,?_⟩;(conv=>whnf)
  repeat (refine ⟨rfl,?_⟩;conv=>whnf)
  exact ⟨.inl rfl,_,.refl _,rfl⟩
theorem zbS {w w':Wor} {m m':Mac} {e:Eve} (sw:qC w) (ok:OkW w) (hl:i64 m.listen) (hpc:m.pc=10) (hs:z5 w m=true) (h:zb Tryz.prog 119 [⟨1,48,8,[zQ w],0⟩,⟨1,37,44,[zE m],0⟩] [.agg [.ref 0 [] 8 0 0,.ref 1 [] 44 0 0]] (Ce e) [⟨1,48,8,[zQ w'],0⟩,⟨1,37,44,[zE m'],0⟩]):zb Tryz.prog 62 [] [Cw w,Cm m] (.tup [Cw w',Cm m',Ce e]) []:=by
 by_cases hn:m.listen < 0
 all_goals
  refine zb.zp (fn:=Tryz.f62) Tryz.func62 rfl ?_
  conv=>whnf
  (repeat (first | (refine ⟨fun _=>?_,?_⟩;rotate_left 1;(focus (intro h;first | (simp [hpc] at h;done) | (have h:=of_decide_eq_true h;omega) | (have h:=of_decide_eq_false h;omega)));(refine dd ?_)) | (refine ⟨?_,fun _=>?_⟩;(focus (intro h;first | (simp [hpc] at h;done) | (have h:=of_decide_eq_true h;omega) | (have h:=of_decide_eq_false h;omega)));(refine dd ?_))))
  refine ⟨_,_,(zM w m ok hl).frame rfl _,?_⟩;refine dd ?_
  refine ⟨fun _=>?_,fun h=>absurd ((hs).symm.trans h:true=false) (by decide)⟩;refine dd ?_
  (repeat ((first | apply ya | apply yb);refine dd ?_))
  (repeat (first | (refine ⟨fun _=>?_,?_⟩;rotate_left 1;(focus (intro h;first | (simp [hpc] at h;done) | (have h:=of_decide_eq_true h;omega) | (have h:=of_decide_eq_false h;omega)));(refine dd ?_)) | (refine ⟨?_,fun _=>?_⟩;(focus (intro h;first | (simp [hpc] at h;done) | (have h:=of_decide_eq_true h;omega) | (have h:=of_decide_eq_false h;omega)));(refine dd ?_))))
  refine .inl ⟨⟨true,[2],[1],[0]⟩,by kernel_rfl,?_⟩;(conv=>whnf)
  refine ⟨_,_,(qS).frame rfl _,?_⟩;refine dd ?_
  (repeat (refine ⟨rfl,?_⟩;conv=>whnf))
  (refine ⟨by omega,by omega,pf 119,by rw [hpc];rfl,?_⟩);refine dd ?_
  (repeat ((first | apply ya | apply yb);refine dd ?_))
  refine ⟨_,_,(qi w sw).frame rfl _,?_⟩;refine dd ?_
  refine zr [5,6] (h) rfl rfl rfl rfl rfl rfl ?_;refine dd ?_
  refine .inl ⟨⟨false,[0,1,2],[5,6,7],[]⟩,by kernel_rfl,?_⟩;(conv=>whnf)
  repeat (refine ⟨rfl,?_⟩;conv=>whnf)
  exact ⟨.inl rfl,_,.refl _,rfl⟩
theorem zbW {w w':Wor} {m m':Mac} {e:Eve} (sw:qC w) (ok:OkW w) (hl:i64 m.listen) (hpc:m.pc=23) (hs:z5 w m=true) (h:zb Tryz.prog 125 [⟨1,48,8,[zQ w],0⟩,⟨1,37,44,[zE m],0⟩] [.agg [.ref 0 [] 8 0 0,.ref 1 [] 44 0 0]] (Ce e) [⟨1,48,8,[zQ w'],0⟩,⟨1,37,44,[zE m'],0⟩]):zb Tryz.prog 62 [] [Cw w,Cm m] (.tup [Cw w',Cm m',Ce e]) []:=by
 by_cases hn:m.listen < 0
 all_goals
  refine zb.zp (fn:=Tryz.f62) Tryz.func62 rfl ?_
  conv=>whnf
  (repeat (first | (refine ⟨fun _=>?_,?_⟩;rotate_left 1;(focus (intro h;first | (simp [hpc] at h;done) | (have h:=of_decide_eq_true h;omega) | (have h:=of_decide_eq_false h;omega)));(refine dd ?_)) | (refine ⟨?_,fun _=>?_⟩;(focus (intro h;first | (simp [hpc] at h;done) | (have h:=of_decide_eq_true h;omega) | (have h:=of_decide_eq_false h;omega)));(refine dd ?_))))
  refine ⟨_,_,(zM w m ok hl).frame rfl _,?_⟩;refine dd ?_
  refine ⟨fun _=>?_,fun h=>absurd ((hs).symm.trans h:true=false) (by decide)⟩;refine dd ?_
  (repeat ((first | apply ya | apply yb);refine dd ?_))
  (repeat (first | (refine ⟨fun _=>?_,?_⟩;rotate_left 1;(focus (intro h;first | (simp [hpc] at h;done) | (have h:=of_decide_eq_true h;omega) | (have h:=of_decide_eq_false h;omega)));(refine dd ?_)) | (refine ⟨?_,fun _=>?_⟩;(focus (intro h;first | (simp [hpc] at h;done) | (have h:=of_decide_eq_true h;omega) | (have h:=of_decide_eq_false h;omega)));(refine dd ?_))))
  refine .inl ⟨⟨true,[2],[1],[0]⟩,by kernel_rfl,?_⟩;(conv=>whnf)
  refine ⟨_,_,(qS).frame rfl _,?_⟩;refine dd ?_
  (repeat (refine ⟨rfl,?_⟩;conv=>whnf))
  (refine ⟨by omega,by omega,pf 125,by rw [hpc];rfl,?_⟩);refine dd ?_
  (repeat ((first | apply ya | apply yb);refine dd ?_))
  refine ⟨_,_,(qi w sw).frame rfl _,?_⟩;refine dd ?_
  refine zr [5,6] (h) rfl rfl rfl rfl rfl rfl ?_;refine dd ?_
  refine .inl ⟨⟨false,[0,1,2],[5,6,7],[]⟩,by kernel_rfl,?_⟩;(conv=>whnf)
  repeat (refine ⟨rfl,?_⟩;conv=>whnf)
  exact ⟨.inl rfl,_,.refl _,rfl⟩
theorem j5 {w w':Wor} {m m':Mac} {e:Eve} (h0:0<=m.pc) (h3:m.pc < 3) (h:zb Tryz.prog 81 [] [Cw w,Cm m] (.tup [Cw w',Cm m',Ce e]) []):zb Tryz.prog 62 [] [Cw w,Cm m] (.tup [Cw w',Cm m',Ce e]) []:=by
 refine zb.zp (fn:=Tryz.f62) Tryz.func62 rfl ?_
 conv=>whnf
 refine ⟨fun _=>?_,fun h=>absurd h (by simp;omega)⟩
 refine dd ?_
 refine ⟨fun _=>?_,fun h=>absurd h (by simp;omega)⟩
 refine dd ?_
 refine ⟨_,_,(h).frame rfl _,?_⟩;refine dd ?_
 exact ⟨.inl rfl,_,.refl _,rfl⟩
end Go.Wor
namespace Go.Wor
open Go.Ab Go.Proofs Go.Hy Go.Gat Go.Nam Go.Hos Go.Con Go.Sna
theorem zdN {w:Wor} {m m':Mac} {e:Eve} {ls:List Lis} (sw:qC w) (ok:OkW w) (hl:i64 m.listen) (hpc:m.pc=4) (hs:z5 w m=true) (hli:0<=m.listen) (hll:ls.length=w.ze.length) (h:zb Tryz.prog 113 [⟨1,48,8,[[I w.zn,I w.current,I w.lock,lI w.pins,lV w.zd,.sl 2 [] 4 0 w.ze.length false,lCo w.counts,lR w.zm]],0⟩,⟨1,37,44,[zE m],0⟩,⟨2,77,4,(w.ze).map ql,0⟩] [.agg [.ref 0 [] 8 0 0,.ref 1 [] 44 0 0]] (Ce e) [⟨1,48,8,[[I w.zn,I w.current,I w.lock,lI w.pins,lV w.zd,.sl 2 [] 4 0 w.ze.length false,lCo w.counts,lR w.zm]],0⟩,⟨1,37,44,[zE m'],0⟩,⟨2,77,4,(ls).map ql,0⟩]):zb Tryz.prog 62 [] [Cw w,Cm m] (.tup [Cw { w with ze:=ls },Cm m',Ce e]) []:=by
 have hn:¬m.listen < 0:=by omega
 obtain ⟨x,l,hx⟩:∃ x l,w.ze=x::l:=by
  obtain ⟨v,g,e,su⟩:=y9 hs
  cases h:w.ze with
  | nil=>have:=su.listen;rw [h] at this;simp at this;omega
  | cons x l=>exact ⟨x,l,rfl⟩
 refine zb.zp (fn:=Tryz.f62) Tryz.func62 rfl ?_
 conv=>whnf
 (repeat (first | (refine ⟨fun _=>?_,?_⟩;rotate_left 1;(focus (intro h;first | (simp [hpc] at h;done) | (have h:=of_decide_eq_true h;omega) | (have h:=of_decide_eq_false h;omega)));(refine dd ?_)) | (refine ⟨?_,fun _=>?_⟩;(focus (intro h;first | (simp [hpc] at h;done) | (have h:=of_decide_eq_true h;omega) | (have h:=of_decide_eq_false h;omega)));(refine dd ?_))))
 refine ⟨_,_,(zM w m ok hl).frame rfl _,?_⟩;refine dd ?_
 refine ⟨fun _=>?_,fun h=>absurd ((hs).symm.trans h:true=false) (by decide)⟩;refine dd ?_
 (repeat ((first | apply ya | apply yb);refine dd ?_))
 (repeat (first | (refine ⟨fun _=>?_,?_⟩;rotate_left 1;(focus (intro h;first | (simp [hpc] at h;done) | (have h:=of_decide_eq_true h;omega) | (have h:=of_decide_eq_false h;omega)));(refine dd ?_)) | (refine ⟨?_,fun _=>?_⟩;(focus (intro h;first | (simp [hpc] at h;done) | (have h:=of_decide_eq_true h;omega) | (have h:=of_decide_eq_false h;omega)));(refine dd ?_))))
 refine .inl ⟨⟨true,[2],[1],[0]⟩,by kernel_rfl,?_⟩;(conv=>whnf)
 refine ⟨_,_,(qS).frame rfl _,?_⟩;refine dd ?_
 (repeat (refine ⟨rfl,?_⟩;conv=>whnf))
 (refine ⟨by omega,by omega,pf 113,by rw [hpc];rfl,?_⟩);refine dd ?_
 (repeat ((first | apply ya | apply yb);refine dd ?_))
 refine zr [] (xY w sw x l hx) rfl rfl rfl rfl rfl rfl ?_;refine dd ?_
 refine zr [6,7,5] (h) rfl rfl rfl rfl rfl rfl ?_;refine dd ?_
 refine .inl ⟨⟨false,[0,1,2],[6,7,8],[]⟩,by kernel_rfl,?_⟩;(conv=>whnf)
 repeat (refine ⟨rfl,?_⟩;conv=>whnf)
 exact ⟨.inl rfl,_,zt.zS 2 0 5 rfl rfl rfl rfl (.inr rfl) (by simp) (by rw [List.length_map];exact hll.symm) (shut_map (enc:=ql) (fun _=>rfl) _) (zY rfl),rfl⟩
theorem zkG {w:Wor} {m m':Mac} {e:Eve} {ls:List Lis} (sw:qC w) (ok:OkW w) (hl:i64 m.listen) (hpc:m.pc=22) (hs:z5 w m=true) (hli:0<=m.listen) (hll:ls.length=w.ze.length) (h:zb Tryz.prog 124 [⟨1,48,8,[[I w.zn,I w.current,I w.lock,lI w.pins,lV w.zd,.sl 2 [] 4 0 w.ze.length false,lCo w.counts,lR w.zm]],0⟩,⟨1,37,44,[zE m],0⟩,⟨2,77,4,(w.ze).map ql,0⟩] [.agg [.ref 0 [] 8 0 0,.ref 1 [] 44 0 0]] (Ce e) [⟨1,48,8,[[I w.zn,I w.current,I w.lock,lI w.pins,lV w.zd,.sl 2 [] 4 0 w.ze.length false,lCo w.counts,lR w.zm]],0⟩,⟨1,37,44,[zE m'],0⟩,⟨2,77,4,(ls).map ql,0⟩]):zb Tryz.prog 62 [] [Cw w,Cm m] (.tup [Cw { w with ze:=ls },Cm m',Ce e]) []:=by
 have hn:¬m.listen < 0:=by omega
 obtain ⟨x,l,hx⟩:∃ x l,w.ze=x::l:=by
  obtain ⟨v,g,e,su⟩:=y9 hs
  cases h:w.ze with
  | nil=>have:=su.listen;rw [h] at this;simp at this;omega
  | cons x l=>exact ⟨x,l,rfl⟩
 refine zb.zp (fn:=Tryz.f62) Tryz.func62 rfl ?_
 conv=>whnf
 (repeat (first | (refine ⟨fun _=>?_,?_⟩;rotate_left 1;(focus (intro h;first | (simp [hpc] at h;done) | (have h:=of_decide_eq_true h;omega) | (have h:=of_decide_eq_false h;omega)));(refine dd ?_)) | (refine ⟨?_,fun _=>?_⟩;(focus (intro h;first | (simp [hpc] at h;done) | (have h:=of_decide_eq_true h;omega) | (have h:=of_decide_eq_false h;omega)));(refine dd ?_))))
 refine ⟨_,_,(zM w m ok hl).frame rfl _,?_⟩;refine dd ?_
 refine ⟨fun _=>?_,fun h=>absurd ((hs).symm.trans h:true=false) (by decide)⟩;refine dd ?_
 (repeat ((first | apply ya | apply yb);refine dd ?_))
 (repeat (first | (refine ⟨fun _=>?_,?_⟩;rotate_left 1;(focus (intro h;first | (simp [hpc] at h;done) | (have h:=of_decide_eq_true h;omega) | (have h:=of_decide_eq_false h;omega)));(refine dd ?_)) | (refine ⟨?_,fun _=>?_⟩;(focus (intro h;first | (simp [hpc] at h;done) | (have h:=of_decide_eq_true h;omega) | (have h:=of_decide_eq_false h;omega)));(refine dd ?_))))
 refine .inl ⟨⟨true,[2],[1],[0]⟩,by kernel_rfl,?_⟩;(conv=>whnf)
 refine ⟨_,_,(qS).frame rfl _,?_⟩;refine dd ?_
 (repeat (refine ⟨rfl,?_⟩;conv=>whnf))
 (refine ⟨by omega,by omega,pf 124,by rw [hpc];rfl,?_⟩);refine dd ?_
 (repeat ((first | apply ya | apply yb);refine dd ?_))
 refine zr [] (xY w sw x l hx) rfl rfl rfl rfl rfl rfl ?_;refine dd ?_
 refine zr [6,7,5] (h) rfl rfl rfl rfl rfl rfl ?_;refine dd ?_
 refine .inl ⟨⟨false,[0,1,2],[6,7,8],[]⟩,by kernel_rfl,?_⟩;(conv=>whnf)
 repeat (refine ⟨rfl,?_⟩;conv=>whnf)
 exact ⟨.inl rfl,_,zt.zS 2 0 5 rfl rfl rfl rfl (.inr rfl) (by simp) (by rw [List.length_map];exact hll.symm) (shut_map (enc:=ql) (fun _=>rfl) _) (zY rfl),rfl⟩
end Go.Wor
namespace Go.Wor
open Go.Ab Go.Proofs Go.Hy Go.Gat Go.Nam Go.Hos Go.Con Go.Sna
theorem zbU {w:Wor} {m m':Mac} {e:Eve} {r0 r1:List Int} (sw:qC w) (ok:OkW w) (hl:i64 m.listen) (hpc:m.pc=20) (hs:z5 w m=true) (t0:0<=m.zq) (hr:w.counts[m.zq.toNat]?= some r0) (hne:r0≠[]) (hll:r1.length=r0.length)
  (h:zb Tryz.prog 122 [⟨1,48,8,[[I w.zn,I w.current,I w.lock,lI w.pins,lV w.zd,lL w.ze,.sl 2 [] 1 0 w.counts.length false,lR w.zm]],0⟩,⟨1,37,44,[zE m],0⟩,⟨1,0,1,(w.counts.map zJ).set m.zq.toNat [C.sl (3) [] 1 0 r0.length false],0⟩,⟨2,32,1,(r0).map qY,0⟩] [.agg [.ref 0 [] 8 0 0,.ref 1 [] 44 0 0]] (Ce e) [⟨1,48,8,[[I w.zn,I w.current,I w.lock,lI w.pins,lV w.zd,lL w.ze,.sl 2 [] 1 0 w.counts.length false,lR w.zm]],0⟩,⟨1,37,44,[zE m'],0⟩,⟨1,0,1,(w.counts.map zJ).set m.zq.toNat [C.sl (3) [] 1 0 r0.length false],0⟩,⟨2,32,1,(r1).map qY,0⟩]):zb Tryz.prog 62 [] [Cw w,Cm m] (.tup [Cw { w with counts:=w.counts.set m.zq.toNat r1 },Cm m',Ce e]) []:=by
 have ml:((w.counts.map zJ)).length=w.counts.length:=List.length_map ..
 have ml1:(r1.map qY).length=r1.length:=List.length_map ..
 have hlt:m.zq.toNat < w.counts.length:=(List.getElem?_eq_some_iff.1 hr).1
 have own:∀ i,∀ r ∈ (w.counts.map zJ).set m.zq.toNat ([C.sl i [] 1 0 r0.length false]),∀ c ∈ r,zA c=true:=fun i=>zy (enc:=zJ) (fun _=>rfl) rfl _ _
 have gt:((w.counts.map zJ).set m.zq.toNat ([C.sl 6 [] 1 0 r0.length false]))[m.zq.toNat]?= some ([C.sl 6 [] 1 0 r0.length false]):=List.getElem?_set_self (by simpa using hlt)
 have est:(((w.counts.map zJ).set m.zq.toNat ([C.sl 6 [] 1 0 r0.length false])).set m.zq.toNat [.lst 0 1 (r1.map qY)])=(w.counts.set m.zq.toNat r1).map zJ:=by rw [List.set_set,List.map_set];rfl
 have esh:∀ r ∈ (((w.counts.map zJ).set m.zq.toNat ([C.sl 6 [] 1 0 r0.length false])).set m.zq.toNat [.lst 0 1 (r1.map qY)]),∀ c ∈ r,qM c=true∧zA c=true:=by
  rw [est]
  exact shut_map (enc:=zJ) (fun _=>rfl) _
 have hp:zjQ w.counts m.zq.toNat r0:=⟨sw.counts,hr,hne⟩
 by_cases hn:m.listen < 0
 all_goals
  refine zb.zp (fn:=Tryz.f62) Tryz.func62 rfl ?_
  conv=>whnf
  (repeat (first | (refine ⟨fun _=>?_,?_⟩;rotate_left 1;(focus (intro h;first | (simp [hpc] at h;done) | (have h:=of_decide_eq_true h;omega) | (have h:=of_decide_eq_false h;omega)));(refine dd ?_)) | (refine ⟨?_,fun _=>?_⟩;(focus (intro h;first | (simp [hpc] at h;done) | (have h:=of_decide_eq_true h;omega) | (have h:=of_decide_eq_false h;omega)));(refine dd ?_))))
  refine ⟨_,_,(zM w m ok hl).frame rfl _,?_⟩;refine dd ?_
  refine ⟨fun _=>?_,fun h=>absurd ((hs).symm.trans h:true=false) (by decide)⟩;refine dd ?_
  (repeat ((first | apply ya | apply yb);refine dd ?_))
  (repeat (first | (refine ⟨fun _=>?_,?_⟩;rotate_left 1;(focus (intro h;first | (simp [hpc] at h;done) | (have h:=of_decide_eq_true h;omega) | (have h:=of_decide_eq_false h;omega)));(refine dd ?_)) | (refine ⟨?_,fun _=>?_⟩;(focus (intro h;first | (simp [hpc] at h;done) | (have h:=of_decide_eq_true h;omega) | (have h:=of_decide_eq_false h;omega)));(refine dd ?_))))
  refine .inl ⟨⟨true,[2],[1],[0]⟩,by kernel_rfl,?_⟩;(conv=>whnf)
  refine ⟨_,_,(qS).frame rfl _,?_⟩;refine dd ?_
  (repeat (refine ⟨rfl,?_⟩;conv=>whnf))
  (refine ⟨by omega,by omega,pf 122,by rw [hpc];rfl,?_⟩);refine dd ?_
  (repeat ((first | apply ya | apply yb);refine dd ?_))
  refine zX [] [⟨1,48,8,[zQ w],0⟩,⟨1,37,44,[zE m],0⟩,⟨1,48,8,[zeW],0⟩,⟨1,37,44,[zeM],0⟩,⟨1,87,23,[qj qo],0⟩,⟨1,0,1,(w.counts.map zJ).set m.zq.toNat [C.sl (6) [] 1 0 r0.length false],0⟩,⟨2,32,1,(r0).map qY,0⟩] (rx:=.agg [I w.zn,I w.current,I w.lock,lI w.pins,lV w.zd,lL w.ze,.sl 5 [] 1 0 w.counts.length false,lR w.zm]) (za1 w sw w.counts rfl hp) (zc (zi (own 1)) rfl) rfl rfl rfl rfl rfl (by show _::_::_::_::_::zG _ ⟨1,0,1,_,0⟩::_=_;rw [zB (enc:=zJ) (fun _=>rfl)];rfl) rfl ?_
  refine dd ?_
  refine zX [7,8,5,6] [⟨1,48,8,[zQ w],0⟩,⟨1,37,44,[zE m],0⟩,⟨1,48,8,[zeW],0⟩,⟨1,37,44,[zeM],0⟩,⟨1,87,23,[qj qo],0⟩,⟨1,0,1,(w.counts.map zJ).set m.zq.toNat [C.sl (6) [] 1 0 r0.length false],0⟩,⟨2,32,1,(r1).map qY,0⟩,⟨1,48,8,[[I w.zn,I w.current,I w.lock,lI w.pins,lV w.zd,lL w.ze,.sl 5 [] 1 0 w.counts.length false,lR w.zm]],0⟩,⟨1,37,44,[zE m'],0⟩] (rx:=Ce e) h (zc rfl (zc rfl (zc (zi (own 3)) rfl))) (by show zK _ _::zK _ _::zK _ ⟨1,0,1,_,0⟩::_=_;rw [zF (enc:=zJ) (fun _=>rfl)];rfl) rfl rfl rfl (zc rfl (zc rfl (zc rfl (zc rfl (zc rfl (zc (zi (own 6)) rfl)))))) (by show _::_::_::_::_::zG _ ⟨1,0,1,_,0⟩::_=_;rw [zB (enc:=zJ) (fun _=>rfl)];rfl) rfl ?_
  refine dd ?_
  refine .inl ⟨⟨false,[0,1,2],[7,8,9],[]⟩,by kernel_rfl,?_⟩;(conv=>whnf)
  repeat (refine ⟨rfl,?_⟩;conv=>whnf)
  refine ⟨.inl rfl,_,(zt.zS 5 m.zq.toNat 0 rfl gt rfl rfl (.inr rfl) (by simp) (by rw [ml1,hll]) (shut_map (enc:=qY) (fun _=>rfl) _) (own 6)).trans (zt.zS 2 0 6 rfl rfl rfl rfl (.inl rfl) (by simp) (by simp) esh (zY rfl)),?_⟩
  show _=some (C.tup [C.agg [I w.zn,I w.current,I w.lock,lI w.pins,lV w.zd,lL w.ze,C.lst 0 1 ((w.counts.set m.zq.toNat r1).map zJ),lR w.zm],Cm m',Ce e])
  rw [<- est]
  rfl
theorem zbV {w:Wor} {m m':Mac} {e:Eve} {r0 r1:List Int} (sw:qC w) (ok:OkW w) (hl:i64 m.listen) (hpc:m.pc=21) (hs:z5 w m=true) (t0:0<=m.zq) (hr:w.counts[m.zq.toNat]?= some r0) (hne:r0≠[]) (hll:r1.length=r0.length)
  (h:zb Tryz.prog 123 [⟨1,48,8,[[I w.zn,I w.current,I w.lock,lI w.pins,lV w.zd,lL w.ze,.sl 2 [] 1 0 w.counts.length false,lR w.zm]],0⟩,⟨1,37,44,[zE m],0⟩,⟨1,0,1,(w.counts.map zJ).set m.zq.toNat [C.sl (3) [] 1 0 r0.length false],0⟩,⟨2,32,1,(r0).map qY,0⟩] [.agg [.ref 0 [] 8 0 0,.ref 1 [] 44 0 0]] (Ce e) [⟨1,48,8,[[I w.zn,I w.current,I w.lock,lI w.pins,lV w.zd,lL w.ze,.sl 2 [] 1 0 w.counts.length false,lR w.zm]],0⟩,⟨1,37,44,[zE m'],0⟩,⟨1,0,1,(w.counts.map zJ).set m.zq.toNat [C.sl (3) [] 1 0 r0.length false],0⟩,⟨2,32,1,(r1).map qY,0⟩]):zb Tryz.prog 62 [] [Cw w,Cm m] (.tup [Cw { w with counts:=w.counts.set m.zq.toNat r1 },Cm m',Ce e]) []:=by
 have ml:((w.counts.map zJ)).length=w.counts.length:=List.length_map ..
 have ml1:(r1.map qY).length=r1.length:=List.length_map ..
 have hlt:m.zq.toNat < w.counts.length:=(List.getElem?_eq_some_iff.1 hr).1
 have own:∀ i,∀ r ∈ (w.counts.map zJ).set m.zq.toNat ([C.sl i [] 1 0 r0.length false]),∀ c ∈ r,zA c=true:=fun i=>zy (enc:=zJ) (fun _=>rfl) rfl _ _
 have gt:((w.counts.map zJ).set m.zq.toNat ([C.sl 6 [] 1 0 r0.length false]))[m.zq.toNat]?= some ([C.sl 6 [] 1 0 r0.length false]):=List.getElem?_set_self (by simpa using hlt)
 have est:(((w.counts.map zJ).set m.zq.toNat ([C.sl 6 [] 1 0 r0.length false])).set m.zq.toNat [.lst 0 1 (r1.map qY)])=(w.counts.set m.zq.toNat r1).map zJ:=by rw [List.set_set,List.map_set];rfl
 have esh:∀ r ∈ (((w.counts.map zJ).set m.zq.toNat ([C.sl 6 [] 1 0 r0.length false])).set m.zq.toNat [.lst 0 1 (r1.map qY)]),∀ c ∈ r,qM c=true∧zA c=true:=by
  rw [est]
  exact shut_map (enc:=zJ) (fun _=>rfl) _
 have hp:zjQ w.counts m.zq.toNat r0:=⟨sw.counts,hr,hne⟩
 by_cases hn:m.listen < 0
 all_goals
  refine zb.zp (fn:=Tryz.f62) Tryz.func62 rfl ?_
  conv=>whnf
  (repeat (first | (refine ⟨fun _=>?_,?_⟩;rotate_left 1;(focus (intro h;first | (simp [hpc] at h;done) | (have h:=of_decide_eq_true h;omega) | (have h:=of_decide_eq_false h;omega)));(refine dd ?_)) | (refine ⟨?_,fun _=>?_⟩;(focus (intro h;first | (simp [hpc] at h;done) | (have h:=of_decide_eq_true h;omega) | (have h:=of_decide_eq_false h;omega)));(refine dd ?_))))
  refine ⟨_,_,(zM w m ok hl).frame rfl _,?_⟩;refine dd ?_
  refine ⟨fun _=>?_,fun h=>absurd ((hs).symm.trans h:true=false) (by decide)⟩;refine dd ?_
  (repeat ((first | apply ya | apply yb);refine dd ?_))
  (repeat (first | (refine ⟨fun _=>?_,?_⟩;rotate_left 1;(focus (intro h;first | (simp [hpc] at h;done) | (have h:=of_decide_eq_true h;omega) | (have h:=of_decide_eq_false h;omega)));(refine dd ?_)) | (refine ⟨?_,fun _=>?_⟩;(focus (intro h;first | (simp [hpc] at h;done) | (have h:=of_decide_eq_true h;omega) | (have h:=of_decide_eq_false h;omega)));(refine dd ?_))))
  refine .inl ⟨⟨true,[2],[1],[0]⟩,by kernel_rfl,?_⟩;(conv=>whnf)
  refine ⟨_,_,(qS).frame rfl _,?_⟩;refine dd ?_
  (repeat (refine ⟨rfl,?_⟩;conv=>whnf))
  (refine ⟨by omega,by omega,pf 123,by rw [hpc];rfl,?_⟩);refine dd ?_
  (repeat ((first | apply ya | apply yb);refine dd ?_))
  refine zX [] [⟨1,48,8,[zQ w],0⟩,⟨1,37,44,[zE m],0⟩,⟨1,48,8,[zeW],0⟩,⟨1,37,44,[zeM],0⟩,⟨1,87,23,[qj qo],0⟩,⟨1,0,1,(w.counts.map zJ).set m.zq.toNat [C.sl (6) [] 1 0 r0.length false],0⟩,⟨2,32,1,(r0).map qY,0⟩] (rx:=.agg [I w.zn,I w.current,I w.lock,lI w.pins,lV w.zd,lL w.ze,.sl 5 [] 1 0 w.counts.length false,lR w.zm]) (za1 w sw w.counts rfl hp) (zc (zi (own 1)) rfl) rfl rfl rfl rfl rfl (by show _::_::_::_::_::zG _ ⟨1,0,1,_,0⟩::_=_;rw [zB (enc:=zJ) (fun _=>rfl)];rfl) rfl ?_
  refine dd ?_
  refine zX [7,8,5,6] [⟨1,48,8,[zQ w],0⟩,⟨1,37,44,[zE m],0⟩,⟨1,48,8,[zeW],0⟩,⟨1,37,44,[zeM],0⟩,⟨1,87,23,[qj qo],0⟩,⟨1,0,1,(w.counts.map zJ).set m.zq.toNat [C.sl (6) [] 1 0 r0.length false],0⟩,⟨2,32,1,(r1).map qY,0⟩,⟨1,48,8,[[I w.zn,I w.current,I w.lock,lI w.pins,lV w.zd,lL w.ze,.sl 5 [] 1 0 w.counts.length false,lR w.zm]],0⟩,⟨1,37,44,[zE m'],0⟩] (rx:=Ce e) h (zc rfl (zc rfl (zc (zi (own 3)) rfl))) (by show zK _ _::zK _ _::zK _ ⟨1,0,1,_,0⟩::_=_;rw [zF (enc:=zJ) (fun _=>rfl)];rfl) rfl rfl rfl (zc rfl (zc rfl (zc rfl (zc rfl (zc rfl (zc (zi (own 6)) rfl)))))) (by show _::_::_::_::_::zG _ ⟨1,0,1,_,0⟩::_=_;rw [zB (enc:=zJ) (fun _=>rfl)];rfl) rfl ?_
  refine dd ?_
  refine .inl ⟨⟨false,[0,1,2],[7,8,9],[]⟩,by kernel_rfl,?_⟩;(conv=>whnf)
  repeat (refine ⟨rfl,?_⟩;conv=>whnf)
  refine ⟨.inl rfl,_,(zt.zS 5 m.zq.toNat 0 rfl gt rfl rfl (.inr rfl) (by simp) (by rw [ml1,hll]) (shut_map (enc:=qY) (fun _=>rfl) _) (own 6)).trans (zt.zS 2 0 6 rfl rfl rfl rfl (.inl rfl) (by simp) (by simp) esh (zY rfl)),?_⟩
  show _=some (C.tup [C.agg [I w.zn,I w.current,I w.lock,lI w.pins,lV w.zd,lL w.ze,C.lst 0 1 ((w.counts.set m.zq.toNat r1).map zJ),lR w.zm],Cm m',Ce e])
  rw [<- est]
  rfl
end Go.Wor
namespace Go.Wor
open Go.Ab Go.Proofs Go.Hy Go.Gat Go.Nam Go.Hos Go.Con Go.Sna
theorem qU {α β:Type} (f:α->β) (l:List α) (i:Nat) (a:α) (r:β) (h:f a=r):(l.map f).set i r=(l.set i a).map f:=by rw [List.map_set,h]
abbrev jl (e0:En) (hd ac:Int):En:={ e0 with head:=hd,zj:=ac }
abbrev xt (m:Mac) (g0:Gr) (e0:En) (tk hd ac:Int):Gr:={ g0 with zu:=tk,ends:=g0.ends.set m.end_.toNat (jl e0 hd ac) }
abbrev jB (m:Mac) (v0:Ver) (g0:Gr) (e0:En) (tk hd ac:Int):Ver:={ v0 with zf:=v0.zf.set m.zg.toNat (xt m g0 e0 tk hd ac) }
abbrev vH (w:Wor) (m:Mac) (v0:Ver) (g0:Gr) (e0:En) (tk hd ac:Int):Wor:={ w with zd:=w.zd.set m.version.toNat (jB m v0 g0 e0 tk hd ac) }
theorem zdP {w:Wor} {m m':Mac} {e:Eve} {v0:Ver} {g0:Gr} {e0:En} {tk hd ac:Int} (sw:qC w) (ok:OkW w) (hl:i64 m.listen) (hpc:m.pc=6) (hs:z5 w m=true) (hat:AtE w m v0 g0 e0) (hne:e0.next≠[])
  (h:zb Tryz.prog 115 [⟨1,48,8,[[I w.zn,I w.current,I w.lock,lI w.pins,.sl 2 [] 5 0 w.zd.length false,lL w.ze,lCo w.counts,lR w.zm]],0⟩,⟨1,37,44,[zE m],0⟩,⟨1,0,5,(w.zd.map zx).set m.version.toNat ((zL v0.snap++[C.sl (3) [] 2 0 v0.zf.length false,Bo v0.zD])),0⟩,⟨1,0,2,(v0.zf.map zw).set m.zg.toNat ([U (g0.zu),C.sl (4) [] 3 0 g0.ends.length false]),0⟩,⟨1,0,3,(g0.ends.map zo).set m.end_.toNat ([U (e0.head),C.sl (5) [] 1 0 e0.next.length false,I (e0.zj)]),0⟩,⟨2,3,1,e0.next.map encI,0⟩] [.agg [.ref 0 [] 8 0 0,.ref 1 [] 44 0 0]] (Ce e) [⟨1,48,8,[[I w.zn,I w.current,I w.lock,lI w.pins,.sl 2 [] 5 0 w.zd.length false,lL w.ze,lCo w.counts,lR w.zm]],0⟩,⟨1,37,44,[zE m'],0⟩,⟨1,0,5,(w.zd.map zx).set m.version.toNat ((zL v0.snap++[C.sl (3) [] 2 0 v0.zf.length false,Bo v0.zD])),0⟩,⟨1,0,2,(v0.zf.map zw).set m.zg.toNat ([U (tk),C.sl (4) [] 3 0 g0.ends.length false]),0⟩,⟨1,0,3,(g0.ends.map zo).set m.end_.toNat ([U (hd),C.sl (5) [] 1 0 e0.next.length false,I (ac)]),0⟩,⟨2,3,1,e0.next.map encI,0⟩]):zb Tryz.prog 62 [] [Cw w,Cm m] (.tup [Cw (vH w m v0 g0 e0 tk hd ac),Cm m',Ce e]) []:=by
 have lv:=hat.ln.lv
 have lg:=hat.ln.lg
 have le:=hat.ln.le
 have smv:=sw.zd.2 v0 (List.mem_of_getElem? hat.at_)
 have hp:zcf w.zd m.version.toNat v0 m.zg.toNat g0 m.end_.toNat e0:=⟨⟨⟨smv.2 g0 (List.mem_of_getElem? hat.atg),hat.ate,hne⟩,smv,hat.atg⟩,sw.zd,hat.at_⟩
 have ownV:∀ i,∀ r ∈ (w.zd.map zx).set m.version.toNat ((zL v0.snap++[C.sl (i) [] 2 0 v0.zf.length false,Bo v0.zD])),∀ c ∈ r,zA c=true:=fun i=>zy (enc:=zx) (fun _=>rfl) rfl _ _
 have ownG:∀ i t,∀ r ∈ (v0.zf.map zw).set m.zg.toNat ([U (t),C.sl (i) [] 3 0 g0.ends.length false]),∀ c ∈ r,zA c=true:=fun i t=>zy (enc:=zw) (fun _=>rfl) rfl _ _
 have ownE:∀ i a b,∀ r ∈ (g0.ends.map zo).set m.end_.toNat ([U (a),C.sl (i) [] 1 0 e0.next.length false,I (b)]),∀ c ∈ r,zA c=true:=fun i a b=>zy (enc:=zo) (fun _=>rfl) rfl _ _
 have gv:((w.zd.map zx).set m.version.toNat ((zL v0.snap++[C.sl (6) [] 2 0 v0.zf.length false,Bo v0.zD])))[m.version.toNat]?= some ((zL v0.snap++[C.sl (6) [] 2 0 v0.zf.length false,Bo v0.zD])):=List.getElem?_set_self (by simpa using lv)
 have gg:((v0.zf.map zw).set m.zg.toNat ([U (tk),C.sl (7) [] 3 0 g0.ends.length false]))[m.zg.toNat]?= some ([U (tk),C.sl (7) [] 3 0 g0.ends.length false]):=List.getElem?_set_self (by simpa using lg)
 have ge:((g0.ends.map zo).set m.end_.toNat ([U (hd),C.sl (8) [] 1 0 e0.next.length false,I (ac)]))[m.end_.toNat]?= some ([U (hd),C.sl (8) [] 1 0 e0.next.length false,I (ac)]):=List.getElem?_set_self (by simpa using le)
 have estE:(((g0.ends.map zo).set m.end_.toNat ([U (hd),C.sl (8) [] 1 0 e0.next.length false,I (ac)])).set m.end_.toNat [U hd,C.lst 0 1 (e0.next.map encI),I ac])=(g0.ends.set m.end_.toNat (jl e0 hd ac)).map zo:=by rw [List.set_set];exact qU zo _ _ (jl e0 hd ac) _ rfl
 have estG:(((v0.zf.map zw).set m.zg.toNat ([U (tk),C.sl (7) [] 3 0 g0.ends.length false])).set m.zg.toNat [U tk,C.lst 0 3 (((g0.ends.set m.end_.toNat (jl e0 hd ac)).map zo))])=(v0.zf.set m.zg.toNat (xt m g0 e0 tk hd ac)).map zw:=by rw [List.set_set];exact qU zw _ _ (xt m g0 e0 tk hd ac) _ rfl
 have estV:(((w.zd.map zx).set m.version.toNat ((zL v0.snap++[C.sl (6) [] 2 0 v0.zf.length false,Bo v0.zD]))).set m.version.toNat (zL v0.snap++[C.lst 0 2 (((v0.zf.set m.zg.toNat (xt m g0 e0 tk hd ac)).map zw)),Bo v0.zD]))=(w.zd.set m.version.toNat (jB m v0 g0 e0 tk hd ac)).map zx:=by rw [List.set_set];exact qU zx _ _ (jB m v0 g0 e0 tk hd ac) _ rfl
 have eshE:∀ r ∈ (((g0.ends.map zo).set m.end_.toNat ([U (hd),C.sl (8) [] 1 0 e0.next.length false,I (ac)])).set m.end_.toNat [U hd,C.lst 0 1 (e0.next.map encI),I ac]),∀ c ∈ r,qM c=true∧zA c=true:=by
  rw [estE]
  exact shut_map (enc:=zo) (fun _=>rfl) _
 have eshG:∀ r ∈ (((v0.zf.map zw).set m.zg.toNat ([U (tk),C.sl (7) [] 3 0 g0.ends.length false])).set m.zg.toNat [U tk,C.lst 0 3 (((g0.ends.map zo).set m.end_.toNat ([U (hd),C.sl (8) [] 1 0 e0.next.length false,I (ac)])).set m.end_.toNat [U hd,C.lst 0 1 (e0.next.map encI),I ac])]),∀ c ∈ r,qM c=true∧zA c=true:=by
  rw [estE,estG]
  exact shut_map (enc:=zw) (fun _=>rfl) _
 have eshV:∀ r ∈ (((w.zd.map zx).set m.version.toNat ((zL v0.snap++[C.sl (6) [] 2 0 v0.zf.length false,Bo v0.zD]))).set m.version.toNat (zL v0.snap++[C.lst 0 2 (((v0.zf.map zw).set m.zg.toNat ([U (tk),C.sl (7) [] 3 0 g0.ends.length false])).set m.zg.toNat [U tk,C.lst 0 3 (((g0.ends.map zo).set m.end_.toNat ([U (hd),C.sl (8) [] 1 0 e0.next.length false,I (ac)])).set m.end_.toNat [U hd,C.lst 0 1 (e0.next.map encI),I ac])]),Bo v0.zD])),∀ c ∈ r,qM c=true∧zA c=true:=by
  rw [estE,estG,estV]
  exact shut_map (enc:=zx) (fun _=>rfl) _
 by_cases hn:m.listen < 0
 all_goals
  refine zb.zp (fn:=Tryz.f62) Tryz.func62 rfl ?_
  conv=>whnf
  (repeat (first | (refine ⟨fun _=>?_,?_⟩;rotate_left 1;(focus (intro h;first | (simp [hpc] at h;done) | (have h:=of_decide_eq_true h;omega) | (have h:=of_decide_eq_false h;omega)));(refine dd ?_)) | (refine ⟨?_,fun _=>?_⟩;(focus (intro h;first | (simp [hpc] at h;done) | (have h:=of_decide_eq_true h;omega) | (have h:=of_decide_eq_false h;omega)));(refine dd ?_))))
  refine ⟨_,_,(zM w m ok hl).frame rfl _,?_⟩;refine dd ?_
  refine ⟨fun _=>?_,fun h=>absurd ((hs).symm.trans h:true=false) (by decide)⟩;refine dd ?_
  (repeat ((first | apply ya | apply yb);refine dd ?_))
  (repeat (first | (refine ⟨fun _=>?_,?_⟩;rotate_left 1;(focus (intro h;first | (simp [hpc] at h;done) | (have h:=of_decide_eq_true h;omega) | (have h:=of_decide_eq_false h;omega)));(refine dd ?_)) | (refine ⟨?_,fun _=>?_⟩;(focus (intro h;first | (simp [hpc] at h;done) | (have h:=of_decide_eq_true h;omega) | (have h:=of_decide_eq_false h;omega)));(refine dd ?_))))
  refine .inl ⟨⟨true,[2],[1],[0]⟩,by kernel_rfl,?_⟩;(conv=>whnf)
  refine ⟨_,_,(qS).frame rfl _,?_⟩;refine dd ?_
  (repeat (refine ⟨rfl,?_⟩;conv=>whnf))
  (refine ⟨by omega,by omega,pf 115,by rw [hpc];rfl,?_⟩);refine dd ?_
  (repeat ((first | apply ya | apply yb);refine dd ?_))
  refine zX [] [⟨1,48,8,[zQ w],0⟩,⟨1,37,44,[zE m],0⟩,⟨1,48,8,[zeW],0⟩,⟨1,37,44,[zeM],0⟩,⟨1,87,23,[qj qo],0⟩,⟨1,0,5,(w.zd.map zx).set m.version.toNat ((zL v0.snap++[C.sl (6) [] 2 0 v0.zf.length false,Bo v0.zD])),0⟩,⟨1,0,2,(v0.zf.map zw).set m.zg.toNat ([U (g0.zu),C.sl (7) [] 3 0 g0.ends.length false]),0⟩,⟨1,0,3,(g0.ends.map zo).set m.end_.toNat ([U (e0.head),C.sl (8) [] 1 0 e0.next.length false,I (e0.zj)]),0⟩,⟨2,3,1,e0.next.map encI,0⟩] (rx:=.agg [I w.zn,I w.current,I w.lock,lI w.pins,.sl 5 [] 5 0 w.zd.length false,lL w.ze,lCo w.counts,lR w.zm]) (xu w sw w.zd rfl hp) (zc (zi (ownV 1)) (zc (zi (ownG 2 _)) (zc (zi (ownE 3 _ _)) rfl))) rfl rfl rfl rfl rfl (by show _::_::_::_::_::zG _ ⟨1,0,5,_,0⟩::zG _ ⟨1,0,2,_,0⟩::zG _ ⟨1,0,3,_,0⟩::_=_;rw [zB (enc:=zx) (fun _=>rfl),zB (enc:=zw) (fun _=>rfl),zB (enc:=zo) (fun _=>rfl)];rfl) rfl ?_
  refine dd ?_
  refine zX [9,10,5,6,7,8] [⟨1,48,8,[zQ w],0⟩,⟨1,37,44,[zE m],0⟩,⟨1,48,8,[zeW],0⟩,⟨1,37,44,[zeM],0⟩,⟨1,87,23,[qj qo],0⟩,⟨1,0,5,(w.zd.map zx).set m.version.toNat ((zL v0.snap++[C.sl (6) [] 2 0 v0.zf.length false,Bo v0.zD])),0⟩,⟨1,0,2,(v0.zf.map zw).set m.zg.toNat ([U (tk),C.sl (7) [] 3 0 g0.ends.length false]),0⟩,⟨1,0,3,(g0.ends.map zo).set m.end_.toNat ([U (hd),C.sl (8) [] 1 0 e0.next.length false,I (ac)]),0⟩,⟨2,3,1,e0.next.map encI,0⟩,⟨1,48,8,[[I w.zn,I w.current,I w.lock,lI w.pins,.sl 5 [] 5 0 w.zd.length false,lL w.ze,lCo w.counts,lR w.zm]],0⟩,⟨1,37,44,[zE m'],0⟩] (rx:=Ce e) h (zc rfl (zc rfl (zc (zi (ownV 3)) (zc (zi (ownG 4 _)) (zc (zi (ownE 5 _ _)) rfl))))) (by show zK _ _::zK _ _::zK _ ⟨1,0,5,_,0⟩::zK _ ⟨1,0,2,_,0⟩::zK _ ⟨1,0,3,_,0⟩::_=_;rw [zF (enc:=zx) (fun _=>rfl),zF (enc:=zw) (fun _=>rfl),zF (enc:=zo) (fun _=>rfl)];rfl) rfl rfl rfl (zc rfl (zc rfl (zc rfl (zc rfl (zc rfl (zc (zi (ownV 6)) (zc (zi (ownG 7 _)) (zc (zi (ownE 8 _ _)) rfl)))))))) (by show _::_::_::_::_::zG _ ⟨1,0,5,_,0⟩::zG _ ⟨1,0,2,_,0⟩::zG _ ⟨1,0,3,_,0⟩::_=_;rw [zB (enc:=zx) (fun _=>rfl),zB (enc:=zw) (fun _=>rfl),zB (enc:=zo) (fun _=>rfl)];rfl) rfl ?_
  refine dd ?_
  refine .inl ⟨⟨false,[0,1,2],[9,10,11],[]⟩,by kernel_rfl,?_⟩;(conv=>whnf)
  repeat (refine ⟨rfl,?_⟩;conv=>whnf)
  refine ⟨.inl rfl,_,(((zt.zS 7 m.end_.toNat 1 rfl ge rfl rfl (.inr rfl) (by simp) (by simp) (shut_map (enc:=encI) (fun _=>rfl) _) (ownE 8 _ _)).trans (zt.zS 6 m.zg.toNat 1 rfl gg rfl rfl (.inl rfl) (by simp) (by simp) eshE (ownG 7 _))).trans (zt.zS 5 m.version.toNat 3 rfl gv rfl rfl (.inl rfl) (by simp) (by simp) eshG (ownV 6))).trans (zt.zS 2 0 4 rfl rfl rfl rfl (.inl rfl) (by simp) (by simp) eshV (zY rfl)),?_⟩
  show _=some (C.tup [C.agg [I w.zn,I w.current,I w.lock,lI w.pins,C.lst 0 5 ((w.zd.set m.version.toNat (jB m v0 g0 e0 tk hd ac)).map zx),lL w.ze,lCo w.counts,lR w.zm],Cm m',Ce e])
  rw [<- estV,<- estG,<- estE]
  rfl
theorem w5 {w:Wor} {m m':Mac} {e:Eve} {v0:Ver} {g0:Gr} {e0:En} {tk hd ac:Int} (sw:qC w) (ok:OkW w) (hl:i64 m.listen) (hpc:m.pc=11) (hs:z5 w m=true) (hat:AtE w m v0 g0 e0) (hne:e0.next≠[])
  (h:zb Tryz.prog 120 [⟨1,48,8,[[I w.zn,I w.current,I w.lock,lI w.pins,.sl 2 [] 5 0 w.zd.length false,lL w.ze,lCo w.counts,lR w.zm]],0⟩,⟨1,37,44,[zE m],0⟩,⟨1,0,5,(w.zd.map zx).set m.version.toNat ((zL v0.snap++[C.sl (3) [] 2 0 v0.zf.length false,Bo v0.zD])),0⟩,⟨1,0,2,(v0.zf.map zw).set m.zg.toNat ([U (g0.zu),C.sl (4) [] 3 0 g0.ends.length false]),0⟩,⟨1,0,3,(g0.ends.map zo).set m.end_.toNat ([U (e0.head),C.sl (5) [] 1 0 e0.next.length false,I (e0.zj)]),0⟩,⟨2,3,1,e0.next.map encI,0⟩] [.agg [.ref 0 [] 8 0 0,.ref 1 [] 44 0 0]] (Ce e) [⟨1,48,8,[[I w.zn,I w.current,I w.lock,lI w.pins,.sl 2 [] 5 0 w.zd.length false,lL w.ze,lCo w.counts,lR w.zm]],0⟩,⟨1,37,44,[zE m'],0⟩,⟨1,0,5,(w.zd.map zx).set m.version.toNat ((zL v0.snap++[C.sl (3) [] 2 0 v0.zf.length false,Bo v0.zD])),0⟩,⟨1,0,2,(v0.zf.map zw).set m.zg.toNat ([U (tk),C.sl (4) [] 3 0 g0.ends.length false]),0⟩,⟨1,0,3,(g0.ends.map zo).set m.end_.toNat ([U (hd),C.sl (5) [] 1 0 e0.next.length false,I (ac)]),0⟩,⟨2,3,1,e0.next.map encI,0⟩]):zb Tryz.prog 62 [] [Cw w,Cm m] (.tup [Cw (vH w m v0 g0 e0 tk hd ac),Cm m',Ce e]) []:=by
 have lv:=hat.ln.lv
 have lg:=hat.ln.lg
 have le:=hat.ln.le
 have smv:=sw.zd.2 v0 (List.mem_of_getElem? hat.at_)
 have hp:zcf w.zd m.version.toNat v0 m.zg.toNat g0 m.end_.toNat e0:=⟨⟨⟨smv.2 g0 (List.mem_of_getElem? hat.atg),hat.ate,hne⟩,smv,hat.atg⟩,sw.zd,hat.at_⟩
 have ownV:∀ i,∀ r ∈ (w.zd.map zx).set m.version.toNat ((zL v0.snap++[C.sl (i) [] 2 0 v0.zf.length false,Bo v0.zD])),∀ c ∈ r,zA c=true:=fun i=>zy (enc:=zx) (fun _=>rfl) rfl _ _
 have ownG:∀ i t,∀ r ∈ (v0.zf.map zw).set m.zg.toNat ([U (t),C.sl (i) [] 3 0 g0.ends.length false]),∀ c ∈ r,zA c=true:=fun i t=>zy (enc:=zw) (fun _=>rfl) rfl _ _
 have ownE:∀ i a b,∀ r ∈ (g0.ends.map zo).set m.end_.toNat ([U (a),C.sl (i) [] 1 0 e0.next.length false,I (b)]),∀ c ∈ r,zA c=true:=fun i a b=>zy (enc:=zo) (fun _=>rfl) rfl _ _
 have gv:((w.zd.map zx).set m.version.toNat ((zL v0.snap++[C.sl (6) [] 2 0 v0.zf.length false,Bo v0.zD])))[m.version.toNat]?= some ((zL v0.snap++[C.sl (6) [] 2 0 v0.zf.length false,Bo v0.zD])):=List.getElem?_set_self (by simpa using lv)
 have gg:((v0.zf.map zw).set m.zg.toNat ([U (tk),C.sl (7) [] 3 0 g0.ends.length false]))[m.zg.toNat]?= some ([U (tk),C.sl (7) [] 3 0 g0.ends.length false]):=List.getElem?_set_self (by simpa using lg)
 have ge:((g0.ends.map zo).set m.end_.toNat ([U (hd),C.sl (8) [] 1 0 e0.next.length false,I (ac)]))[m.end_.toNat]?= some ([U (hd),C.sl (8) [] 1 0 e0.next.length false,I (ac)]):=List.getElem?_set_self (by simpa using le)
 have estE:(((g0.ends.map zo).set m.end_.toNat ([U (hd),C.sl (8) [] 1 0 e0.next.length false,I (ac)])).set m.end_.toNat [U hd,C.lst 0 1 (e0.next.map encI),I ac])=(g0.ends.set m.end_.toNat (jl e0 hd ac)).map zo:=by rw [List.set_set];exact qU zo _ _ (jl e0 hd ac) _ rfl
 have estG:(((v0.zf.map zw).set m.zg.toNat ([U (tk),C.sl (7) [] 3 0 g0.ends.length false])).set m.zg.toNat [U tk,C.lst 0 3 (((g0.ends.set m.end_.toNat (jl e0 hd ac)).map zo))])=(v0.zf.set m.zg.toNat (xt m g0 e0 tk hd ac)).map zw:=by rw [List.set_set];exact qU zw _ _ (xt m g0 e0 tk hd ac) _ rfl
 have estV:(((w.zd.map zx).set m.version.toNat ((zL v0.snap++[C.sl (6) [] 2 0 v0.zf.length false,Bo v0.zD]))).set m.version.toNat (zL v0.snap++[C.lst 0 2 (((v0.zf.set m.zg.toNat (xt m g0 e0 tk hd ac)).map zw)),Bo v0.zD]))=(w.zd.set m.version.toNat (jB m v0 g0 e0 tk hd ac)).map zx:=by rw [List.set_set];exact qU zx _ _ (jB m v0 g0 e0 tk hd ac) _ rfl
 have eshE:∀ r ∈ (((g0.ends.map zo).set m.end_.toNat ([U (hd),C.sl (8) [] 1 0 e0.next.length false,I (ac)])).set m.end_.toNat [U hd,C.lst 0 1 (e0.next.map encI),I ac]),∀ c ∈ r,qM c=true∧zA c=true:=by
  rw [estE]
  exact shut_map (enc:=zo) (fun _=>rfl) _
 have eshG:∀ r ∈ (((v0.zf.map zw).set m.zg.toNat ([U (tk),C.sl (7) [] 3 0 g0.ends.length false])).set m.zg.toNat [U tk,C.lst 0 3 (((g0.ends.map zo).set m.end_.toNat ([U (hd),C.sl (8) [] 1 0 e0.next.length false,I (ac)])).set m.end_.toNat [U hd,C.lst 0 1 (e0.next.map encI),I ac])]),∀ c ∈ r,qM c=true∧zA c=true:=by
  rw [estE,estG]
  exact shut_map (enc:=zw) (fun _=>rfl) _
 have eshV:∀ r ∈ (((w.zd.map zx).set m.version.toNat ((zL v0.snap++[C.sl (6) [] 2 0 v0.zf.length false,Bo v0.zD]))).set m.version.toNat (zL v0.snap++[C.lst 0 2 (((v0.zf.map zw).set m.zg.toNat ([U (tk),C.sl (7) [] 3 0 g0.ends.length false])).set m.zg.toNat [U tk,C.lst 0 3 (((g0.ends.map zo).set m.end_.toNat ([U (hd),C.sl (8) [] 1 0 e0.next.length false,I (ac)])).set m.end_.toNat [U hd,C.lst 0 1 (e0.next.map encI),I ac])]),Bo v0.zD])),∀ c ∈ r,qM c=true∧zA c=true:=by
  rw [estE,estG,estV]
  exact shut_map (enc:=zx) (fun _=>rfl) _
 by_cases hn:m.listen < 0
 all_goals
  refine zb.zp (fn:=Tryz.f62) Tryz.func62 rfl ?_
  conv=>whnf
  (repeat (first | (refine ⟨fun _=>?_,?_⟩;rotate_left 1;(focus (intro h;first | (simp [hpc] at h;done) | (have h:=of_decide_eq_true h;omega) | (have h:=of_decide_eq_false h;omega)));(refine dd ?_)) | (refine ⟨?_,fun _=>?_⟩;(focus (intro h;first | (simp [hpc] at h;done) | (have h:=of_decide_eq_true h;omega) | (have h:=of_decide_eq_false h;omega)));(refine dd ?_))))
  refine ⟨_,_,(zM w m ok hl).frame rfl _,?_⟩;refine dd ?_
  refine ⟨fun _=>?_,fun h=>absurd ((hs).symm.trans h:true=false) (by decide)⟩;refine dd ?_
  (repeat ((first | apply ya | apply yb);refine dd ?_))
  (repeat (first | (refine ⟨fun _=>?_,?_⟩;rotate_left 1;(focus (intro h;first | (simp [hpc] at h;done) | (have h:=of_decide_eq_true h;omega) | (have h:=of_decide_eq_false h;omega)));(refine dd ?_)) | (refine ⟨?_,fun _=>?_⟩;(focus (intro h;first | (simp [hpc] at h;done) | (have h:=of_decide_eq_true h;omega) | (have h:=of_decide_eq_false h;omega)));(refine dd ?_))))
  refine .inl ⟨⟨true,[2],[1],[0]⟩,by kernel_rfl,?_⟩;(conv=>whnf)
  refine ⟨_,_,(qS).frame rfl _,?_⟩;refine dd ?_
  (repeat (refine ⟨rfl,?_⟩;conv=>whnf))
  (refine ⟨by omega,by omega,pf 120,by rw [hpc];rfl,?_⟩);refine dd ?_
  (repeat ((first | apply ya | apply yb);refine dd ?_))
  refine zX [] [⟨1,48,8,[zQ w],0⟩,⟨1,37,44,[zE m],0⟩,⟨1,48,8,[zeW],0⟩,⟨1,37,44,[zeM],0⟩,⟨1,87,23,[qj qo],0⟩,⟨1,0,5,(w.zd.map zx).set m.version.toNat ((zL v0.snap++[C.sl (6) [] 2 0 v0.zf.length false,Bo v0.zD])),0⟩,⟨1,0,2,(v0.zf.map zw).set m.zg.toNat ([U (g0.zu),C.sl (7) [] 3 0 g0.ends.length false]),0⟩,⟨1,0,3,(g0.ends.map zo).set m.end_.toNat ([U (e0.head),C.sl (8) [] 1 0 e0.next.length false,I (e0.zj)]),0⟩,⟨2,3,1,e0.next.map encI,0⟩] (rx:=.agg [I w.zn,I w.current,I w.lock,lI w.pins,.sl 5 [] 5 0 w.zd.length false,lL w.ze,lCo w.counts,lR w.zm]) (xu w sw w.zd rfl hp) (zc (zi (ownV 1)) (zc (zi (ownG 2 _)) (zc (zi (ownE 3 _ _)) rfl))) rfl rfl rfl rfl rfl (by show _::_::_::_::_::zG _ ⟨1,0,5,_,0⟩::zG _ ⟨1,0,2,_,0⟩::zG _ ⟨1,0,3,_,0⟩::_=_;rw [zB (enc:=zx) (fun _=>rfl),zB (enc:=zw) (fun _=>rfl),zB (enc:=zo) (fun _=>rfl)];rfl) rfl ?_
  refine dd ?_
  refine zX [9,10,5,6,7,8] [⟨1,48,8,[zQ w],0⟩,⟨1,37,44,[zE m],0⟩,⟨1,48,8,[zeW],0⟩,⟨1,37,44,[zeM],0⟩,⟨1,87,23,[qj qo],0⟩,⟨1,0,5,(w.zd.map zx).set m.version.toNat ((zL v0.snap++[C.sl (6) [] 2 0 v0.zf.length false,Bo v0.zD])),0⟩,⟨1,0,2,(v0.zf.map zw).set m.zg.toNat ([U (tk),C.sl (7) [] 3 0 g0.ends.length false]),0⟩,⟨1,0,3,(g0.ends.map zo).set m.end_.toNat ([U (hd),C.sl (8) [] 1 0 e0.next.length false,I (ac)]),0⟩,⟨2,3,1,e0.next.map encI,0⟩,⟨1,48,8,[[I w.zn,I w.current,I w.lock,lI w.pins,.sl 5 [] 5 0 w.zd.length false,lL w.ze,lCo w.counts,lR w.zm]],0⟩,⟨1,37,44,[zE m'],0⟩] (rx:=Ce e) h (zc rfl (zc rfl (zc (zi (ownV 3)) (zc (zi (ownG 4 _)) (zc (zi (ownE 5 _ _)) rfl))))) (by show zK _ _::zK _ _::zK _ ⟨1,0,5,_,0⟩::zK _ ⟨1,0,2,_,0⟩::zK _ ⟨1,0,3,_,0⟩::_=_;rw [zF (enc:=zx) (fun _=>rfl),zF (enc:=zw) (fun _=>rfl),zF (enc:=zo) (fun _=>rfl)];rfl) rfl rfl rfl (zc rfl (zc rfl (zc rfl (zc rfl (zc rfl (zc (zi (ownV 6)) (zc (zi (ownG 7 _)) (zc (zi (ownE 8 _ _)) rfl)))))))) (by show _::_::_::_::_::zG _ ⟨1,0,5,_,0⟩::zG _ ⟨1,0,2,_,0⟩::zG _ ⟨1,0,3,_,0⟩::_=_;rw [zB (enc:=zx) (fun _=>rfl),zB (enc:=zw) (fun _=>rfl),zB (enc:=zo) (fun _=>rfl)];rfl) rfl ?_
  refine dd ?_
  refine .inl ⟨⟨false,[0,1,2],[9,10,11],[]⟩,by kernel_rfl,?_⟩;(conv=>whnf)
  repeat (refine ⟨rfl,?_⟩;conv=>whnf)
  refine ⟨.inl rfl,_,(((zt.zS 7 m.end_.toNat 1 rfl ge rfl rfl (.inr rfl) (by simp) (by simp) (shut_map (enc:=encI) (fun _=>rfl) _) (ownE 8 _ _)).trans (zt.zS 6 m.zg.toNat 1 rfl gg rfl rfl (.inl rfl) (by simp) (by simp) eshE (ownG 7 _))).trans (zt.zS 5 m.version.toNat 3 rfl gv rfl rfl (.inl rfl) (by simp) (by simp) eshG (ownV 6))).trans (zt.zS 2 0 4 rfl rfl rfl rfl (.inl rfl) (by simp) (by simp) eshV (zY rfl)),?_⟩
  show _=some (C.tup [C.agg [I w.zn,I w.current,I w.lock,lI w.pins,C.lst 0 5 ((w.zd.set m.version.toNat (jB m v0 g0 e0 tk hd ac)).map zx),lL w.ze,lCo w.counts,lR w.zm],Cm m',Ce e])
  rw [<- estV,<- estG,<- estE]
  rfl
theorem zbT {w:Wor} {m m':Mac} {e:Eve} {v0:Ver} {g0:Gr} {e0:En} {tk hd ac:Int} (sw:qC w) (ok:OkW w) (hl:i64 m.listen) (hpc:m.pc=12) (hs:z5 w m=true) (hat:AtE w m v0 g0 e0) (hne:e0.next≠[])
  (h:zb Tryz.prog 121 [⟨1,48,8,[[I w.zn,I w.current,I w.lock,lI w.pins,.sl 2 [] 5 0 w.zd.length false,lL w.ze,lCo w.counts,lR w.zm]],0⟩,⟨1,37,44,[zE m],0⟩,⟨1,0,5,(w.zd.map zx).set m.version.toNat ((zL v0.snap++[C.sl (3) [] 2 0 v0.zf.length false,Bo v0.zD])),0⟩,⟨1,0,2,(v0.zf.map zw).set m.zg.toNat ([U (g0.zu),C.sl (4) [] 3 0 g0.ends.length false]),0⟩,⟨1,0,3,(g0.ends.map zo).set m.end_.toNat ([U (e0.head),C.sl (5) [] 1 0 e0.next.length false,I (e0.zj)]),0⟩,⟨2,3,1,e0.next.map encI,0⟩] [.agg [.ref 0 [] 8 0 0,.ref 1 [] 44 0 0]] (Ce e) [⟨1,48,8,[[I w.zn,I w.current,I w.lock,lI w.pins,.sl 2 [] 5 0 w.zd.length false,lL w.ze,lCo w.counts,lR w.zm]],0⟩,⟨1,37,44,[zE m'],0⟩,⟨1,0,5,(w.zd.map zx).set m.version.toNat ((zL v0.snap++[C.sl (3) [] 2 0 v0.zf.length false,Bo v0.zD])),0⟩,⟨1,0,2,(v0.zf.map zw).set m.zg.toNat ([U (tk),C.sl (4) [] 3 0 g0.ends.length false]),0⟩,⟨1,0,3,(g0.ends.map zo).set m.end_.toNat ([U (hd),C.sl (5) [] 1 0 e0.next.length false,I (ac)]),0⟩,⟨2,3,1,e0.next.map encI,0⟩]):zb Tryz.prog 62 [] [Cw w,Cm m] (.tup [Cw (vH w m v0 g0 e0 tk hd ac),Cm m',Ce e]) []:=by
 have lv:=hat.ln.lv
 have lg:=hat.ln.lg
 have le:=hat.ln.le
 have smv:=sw.zd.2 v0 (List.mem_of_getElem? hat.at_)
 have hp:zcf w.zd m.version.toNat v0 m.zg.toNat g0 m.end_.toNat e0:=⟨⟨⟨smv.2 g0 (List.mem_of_getElem? hat.atg),hat.ate,hne⟩,smv,hat.atg⟩,sw.zd,hat.at_⟩
 have ownV:∀ i,∀ r ∈ (w.zd.map zx).set m.version.toNat ((zL v0.snap++[C.sl (i) [] 2 0 v0.zf.length false,Bo v0.zD])),∀ c ∈ r,zA c=true:=fun i=>zy (enc:=zx) (fun _=>rfl) rfl _ _
 have ownG:∀ i t,∀ r ∈ (v0.zf.map zw).set m.zg.toNat ([U (t),C.sl (i) [] 3 0 g0.ends.length false]),∀ c ∈ r,zA c=true:=fun i t=>zy (enc:=zw) (fun _=>rfl) rfl _ _
 have ownE:∀ i a b,∀ r ∈ (g0.ends.map zo).set m.end_.toNat ([U (a),C.sl (i) [] 1 0 e0.next.length false,I (b)]),∀ c ∈ r,zA c=true:=fun i a b=>zy (enc:=zo) (fun _=>rfl) rfl _ _
 have gv:((w.zd.map zx).set m.version.toNat ((zL v0.snap++[C.sl (6) [] 2 0 v0.zf.length false,Bo v0.zD])))[m.version.toNat]?= some ((zL v0.snap++[C.sl (6) [] 2 0 v0.zf.length false,Bo v0.zD])):=List.getElem?_set_self (by simpa using lv)
 have gg:((v0.zf.map zw).set m.zg.toNat ([U (tk),C.sl (7) [] 3 0 g0.ends.length false]))[m.zg.toNat]?= some ([U (tk),C.sl (7) [] 3 0 g0.ends.length false]):=List.getElem?_set_self (by simpa using lg)
 have ge:((g0.ends.map zo).set m.end_.toNat ([U (hd),C.sl (8) [] 1 0 e0.next.length false,I (ac)]))[m.end_.toNat]?= some ([U (hd),C.sl (8) [] 1 0 e0.next.length false,I (ac)]):=List.getElem?_set_self (by simpa using le)
 have estE:(((g0.ends.map zo).set m.end_.toNat ([U (hd),C.sl (8) [] 1 0 e0.next.length false,I (ac)])).set m.end_.toNat [U hd,C.lst 0 1 (e0.next.map encI),I ac])=(g0.ends.set m.end_.toNat (jl e0 hd ac)).map zo:=by rw [List.set_set];exact qU zo _ _ (jl e0 hd ac) _ rfl
 have estG:(((v0.zf.map zw).set m.zg.toNat ([U (tk),C.sl (7) [] 3 0 g0.ends.length false])).set m.zg.toNat [U tk,C.lst 0 3 (((g0.ends.set m.end_.toNat (jl e0 hd ac)).map zo))])=(v0.zf.set m.zg.toNat (xt m g0 e0 tk hd ac)).map zw:=by rw [List.set_set];exact qU zw _ _ (xt m g0 e0 tk hd ac) _ rfl
 have estV:(((w.zd.map zx).set m.version.toNat ((zL v0.snap++[C.sl (6) [] 2 0 v0.zf.length false,Bo v0.zD]))).set m.version.toNat (zL v0.snap++[C.lst 0 2 (((v0.zf.set m.zg.toNat (xt m g0 e0 tk hd ac)).map zw)),Bo v0.zD]))=(w.zd.set m.version.toNat (jB m v0 g0 e0 tk hd ac)).map zx:=by rw [List.set_set];exact qU zx _ _ (jB m v0 g0 e0 tk hd ac) _ rfl
 have eshE:∀ r ∈ (((g0.ends.map zo).set m.end_.toNat ([U (hd),C.sl (8) [] 1 0 e0.next.length false,I (ac)])).set m.end_.toNat [U hd,C.lst 0 1 (e0.next.map encI),I ac]),∀ c ∈ r,qM c=true∧zA c=true:=by
  rw [estE]
  exact shut_map (enc:=zo) (fun _=>rfl) _
 have eshG:∀ r ∈ (((v0.zf.map zw).set m.zg.toNat ([U (tk),C.sl (7) [] 3 0 g0.ends.length false])).set m.zg.toNat [U tk,C.lst 0 3 (((g0.ends.map zo).set m.end_.toNat ([U (hd),C.sl (8) [] 1 0 e0.next.length false,I (ac)])).set m.end_.toNat [U hd,C.lst 0 1 (e0.next.map encI),I ac])]),∀ c ∈ r,qM c=true∧zA c=true:=by
  rw [estE,estG]
  exact shut_map (enc:=zw) (fun _=>rfl) _
 have eshV:∀ r ∈ (((w.zd.map zx).set m.version.toNat ((zL v0.snap++[C.sl (6) [] 2 0 v0.zf.length false,Bo v0.zD]))).set m.version.toNat (zL v0.snap++[C.lst 0 2 (((v0.zf.map zw).set m.zg.toNat ([U (tk),C.sl (7) [] 3 0 g0.ends.length false])).set m.zg.toNat [U tk,C.lst 0 3 (((g0.ends.map zo).set m.end_.toNat ([U (hd),C.sl (8) [] 1 0 e0.next.length false,I (ac)])).set m.end_.toNat [U hd,C.lst 0 1 (e0.next.map encI),I ac])]),Bo v0.zD])),∀ c ∈ r,qM c=true∧zA c=true:=by
  rw [estE,estG,estV]
  exact shut_map (enc:=zx) (fun _=>rfl) _
 by_cases hn:m.listen < 0
 all_goals
  refine zb.zp (fn:=Tryz.f62) Tryz.func62 rfl ?_
  conv=>whnf
  (repeat (first | (refine ⟨fun _=>?_,?_⟩;rotate_left 1;(focus (intro h;first | (simp [hpc] at h;done) | (have h:=of_decide_eq_true h;omega) | (have h:=of_decide_eq_false h;omega)));(refine dd ?_)) | (refine ⟨?_,fun _=>?_⟩;(focus (intro h;first | (simp [hpc] at h;done) | (have h:=of_decide_eq_true h;omega) | (have h:=of_decide_eq_false h;omega)));(refine dd ?_))))
  refine ⟨_,_,(zM w m ok hl).frame rfl _,?_⟩;refine dd ?_
  refine ⟨fun _=>?_,fun h=>absurd ((hs).symm.trans h:true=false) (by decide)⟩;refine dd ?_
  (repeat ((first | apply ya | apply yb);refine dd ?_))
  (repeat (first | (refine ⟨fun _=>?_,?_⟩;rotate_left 1;(focus (intro h;first | (simp [hpc] at h;done) | (have h:=of_decide_eq_true h;omega) | (have h:=of_decide_eq_false h;omega)));(refine dd ?_)) | (refine ⟨?_,fun _=>?_⟩;(focus (intro h;first | (simp [hpc] at h;done) | (have h:=of_decide_eq_true h;omega) | (have h:=of_decide_eq_false h;omega)));(refine dd ?_))))
  refine .inl ⟨⟨true,[2],[1],[0]⟩,by kernel_rfl,?_⟩;(conv=>whnf)
  refine ⟨_,_,(qS).frame rfl _,?_⟩;refine dd ?_
  (repeat (refine ⟨rfl,?_⟩;conv=>whnf))
  (refine ⟨by omega,by omega,pf 121,by rw [hpc];rfl,?_⟩);refine dd ?_
  (repeat ((first | apply ya | apply yb);refine dd ?_))
  refine zX [] [⟨1,48,8,[zQ w],0⟩,⟨1,37,44,[zE m],0⟩,⟨1,48,8,[zeW],0⟩,⟨1,37,44,[zeM],0⟩,⟨1,87,23,[qj qo],0⟩,⟨1,0,5,(w.zd.map zx).set m.version.toNat ((zL v0.snap++[C.sl (6) [] 2 0 v0.zf.length false,Bo v0.zD])),0⟩,⟨1,0,2,(v0.zf.map zw).set m.zg.toNat ([U (g0.zu),C.sl (7) [] 3 0 g0.ends.length false]),0⟩,⟨1,0,3,(g0.ends.map zo).set m.end_.toNat ([U (e0.head),C.sl (8) [] 1 0 e0.next.length false,I (e0.zj)]),0⟩,⟨2,3,1,e0.next.map encI,0⟩] (rx:=.agg [I w.zn,I w.current,I w.lock,lI w.pins,.sl 5 [] 5 0 w.zd.length false,lL w.ze,lCo w.counts,lR w.zm]) (xu w sw w.zd rfl hp) (zc (zi (ownV 1)) (zc (zi (ownG 2 _)) (zc (zi (ownE 3 _ _)) rfl))) rfl rfl rfl rfl rfl (by show _::_::_::_::_::zG _ ⟨1,0,5,_,0⟩::zG _ ⟨1,0,2,_,0⟩::zG _ ⟨1,0,3,_,0⟩::_=_;rw [zB (enc:=zx) (fun _=>rfl),zB (enc:=zw) (fun _=>rfl),zB (enc:=zo) (fun _=>rfl)];rfl) rfl ?_
  refine dd ?_
  refine zX [9,10,5,6,7,8] [⟨1,48,8,[zQ w],0⟩,⟨1,37,44,[zE m],0⟩,⟨1,48,8,[zeW],0⟩,⟨1,37,44,[zeM],0⟩,⟨1,87,23,[qj qo],0⟩,⟨1,0,5,(w.zd.map zx).set m.version.toNat ((zL v0.snap++[C.sl (6) [] 2 0 v0.zf.length false,Bo v0.zD])),0⟩,⟨1,0,2,(v0.zf.map zw).set m.zg.toNat ([U (tk),C.sl (7) [] 3 0 g0.ends.length false]),0⟩,⟨1,0,3,(g0.ends.map zo).set m.end_.toNat ([U (hd),C.sl (8) [] 1 0 e0.next.length false,I (ac)]),0⟩,⟨2,3,1,e0.next.map encI,0⟩,⟨1,48,8,[[I w.zn,I w.current,I w.lock,lI w.pins,.sl 5 [] 5 0 w.zd.length false,lL w.ze,lCo w.counts,lR w.zm]],0⟩,⟨1,37,44,[zE m'],0⟩] (rx:=Ce e) h (zc rfl (zc rfl (zc (zi (ownV 3)) (zc (zi (ownG 4 _)) (zc (zi (ownE 5 _ _)) rfl))))) (by show zK _ _::zK _ _::zK _ ⟨1,0,5,_,0⟩::zK _ ⟨1,0,2,_,0⟩::zK _ ⟨1,0,3,_,0⟩::_=_;rw [zF (enc:=zx) (fun _=>rfl),zF (enc:=zw) (fun _=>rfl),zF (enc:=zo) (fun _=>rfl)];rfl) rfl rfl rfl (zc rfl (zc rfl (zc rfl (zc rfl (zc rfl (zc (zi (ownV 6)) (zc (zi (ownG 7 _)) (zc (zi (ownE 8 _ _)) rfl)))))))) (by show _::_::_::_::_::zG _ ⟨1,0,5,_,0⟩::zG _ ⟨1,0,2,_,0⟩::zG _ ⟨1,0,3,_,0⟩::_=_;rw [zB (enc:=zx) (fun _=>rfl),zB (enc:=zw) (fun _=>rfl),zB (enc:=zo) (fun _=>rfl)];rfl) rfl ?_
  refine dd ?_
  refine .inl ⟨⟨false,[0,1,2],[9,10,11],[]⟩,by kernel_rfl,?_⟩;(conv=>whnf)
  repeat (refine ⟨rfl,?_⟩;conv=>whnf)
  refine ⟨.inl rfl,_,(((zt.zS 7 m.end_.toNat 1 rfl ge rfl rfl (.inr rfl) (by simp) (by simp) (shut_map (enc:=encI) (fun _=>rfl) _) (ownE 8 _ _)).trans (zt.zS 6 m.zg.toNat 1 rfl gg rfl rfl (.inl rfl) (by simp) (by simp) eshE (ownG 7 _))).trans (zt.zS 5 m.version.toNat 3 rfl gv rfl rfl (.inl rfl) (by simp) (by simp) eshG (ownV 6))).trans (zt.zS 2 0 4 rfl rfl rfl rfl (.inl rfl) (by simp) (by simp) eshV (zY rfl)),?_⟩
  show _=some (C.tup [C.agg [I w.zn,I w.current,I w.lock,lI w.pins,C.lst 0 5 ((w.zd.set m.version.toNat (jB m v0 g0 e0 tk hd ac)).map zx),lL w.ze,lCo w.counts,lR w.zm],Cm m',Ce e])
  rw [<- estV,<- estG,<- estE]
  rfl
end Go.Wor
