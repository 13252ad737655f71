import Derived.Test.YtdbcjcnfaajpjaaGreatRV
import Derived.Test.YtdbcjcnfaajpjaaGreatRW
set_option linter.unusedVariables false
set_option linter.unusedSimpArgs false
set_option linter.unusedSectionVars false
set_option maxRecDepth 100000
set_option maxHeartbeats 4000000
namespace Go.Wor
open Go.Ab Go.Proofs Go.Hy Go.Gat Go.Nam Go.Hos Go.Con Go.Sna
theorem zhk (l:List Lis) (s:Str) (hl:l.length < 4611686018427387904):
  zb Tryz.prog 57 [⟨2,77,4,(l).map ql,0⟩,⟨1,9,1,[[Tx s]],0⟩] [.sl 0 [] 4 0 l.length false,.fn 58 [] [.ref 1 [] 1 0 0]] (I (qd l s)) [⟨2,77,4,(l).map ql,0⟩,⟨1,9,1,[[Tx s]],0⟩]:=by
 refine qb (fn:=Tryz.f57) Tryz.func57 rfl (Nat.le_refl _) ?_
 conv=>whnf
 refine qa.seq l.length (fun k=>[.sl 0 [] 4 0 l.length false,.fn 58 [] [.ref 1 [] 1 0 0],.za,.za,I 0,.za,.za,I l.length,I k,.za,.za,.za,.za,.za,.za,.za,.za,.za,.za]) (fun k=>[⟨2,77,4,(l).map ql,0⟩,⟨1,9,1,[[Tx s]],0⟩]) (fun k=>∀ j,(h:j < l.length)->j < k->(l[j].name == s)=false) ?_ (by simp) (fun k hk hr=>?_) (fun hr=>?_)
 ·exact cC
 ·have hg:(l.map ql)[k]?= some (ql l[k]):=by rw [List.getElem?_map,List.getElem?_eq_getElem hk];rfl
  have e1:0+(k:Int).toNat=k:=by simp
  conv=>whnf
  (refine ⟨fun _=>?_,fun h=>absurd h (by simp;omega)⟩);refine dd ?_
  refine ⟨by omega,by simpa using hk,?_⟩
  refine dd ?_
  rw [e1]
  refine ⟨_,hg,(by show 0+4<=4;decide),?_⟩
  refine dd ?_
  refine zr [1] (zfE s l[k]) rfl rfl rfl rfl rfl rfl ?_;refine dd ?_
  refine ⟨fun h2=>?_,fun h2=>?_⟩
  ·refine dd ?_
   refine .inr ⟨by simp,?_⟩
   conv=>whnf
   have e:qd l s=k:=by
    unfold qd
    have:l.findIdx? (fun x=>x.name == s)=some k:=by
     rw [List.findIdx?_eq_some_iff_getElem]
     exact ⟨hk,h2,fun j hj=>by simp only [hr j (by omega) hj];decide⟩
    rw [this]
   rw [e]
   exact ⟨.inl rfl,_,_,.refl _,rfl,cE 2⟩
  ·refine dd ?_
   refine .inl ⟨rfl,?_,fun j hj hjk=>?_⟩
   ·rw [zC (by omega)]
    exact cE 2
   ·by_cases e:j=k
    ·subst e;exact h2
    ·exact hr j hj (by omega)
 ·(conv=>whnf);(refine ⟨fun h=>absurd h (by simp),fun _=>?_⟩);refine dd ?_;(refine ⟨by simp,?_⟩);(conv=>whnf)
  have e:qd l s= -1:=by
   unfold qd
   have:l.findIdx? (fun x=>x.name == s)=none:=by
    rw [List.findIdx?_eq_none_iff]
    intro x hx
    obtain ⟨j,hj,rfl⟩:=List.mem_iff_getElem.1 hx
    exact hr j hj hj
   rw [this]
  rw [e]
  exact ⟨.inl rfl,_,_,.refl _,rfl,cE 2⟩
theorem zgx (l:List Lis) (s:Str) (hl:l.length < 4611686018427387904):zb Tryz.prog 41 [⟨2,77,4,(l).map ql,0⟩] [.sl 0 [] 4 0 l.length false,Tx s] (I (qd l s)) [⟨2,77,4,(l).map ql,0⟩]:=by
 refine qb (fn:=Tryz.f41) Tryz.func41 rfl (Nat.le_refl _) ?_
 conv=>whnf
 refine zr [0,1] (zhk l s hl) rfl rfl rfl rfl rfl rfl ?_;refine dd ?_
 exact ⟨.inl rfl,_,_,.refl _,rfl,cE 1⟩
end Go.Wor
namespace Go.Wor
open Go.Ab Go.Proofs Go.Hy Go.Gat Go.Nam Go.Hos Go.Con Go.Sna
theorem zco (m:Mac) (e:Eve) (a:Ans):zb Tryz.prog 90 [⟨1,37,44,[zE (m)],0⟩,⟨1,165,24,[.ref 0 [] 44 0 0::qj (e)],0⟩] [.ref 1 [] 24 0 0,.agg (qT a)] (.tup []) [⟨1,37,44,[zE ({ m with done:=true,answer:=a })],0⟩,⟨1,165,24,[.ref 0 [] 44 0 0::qj ({ e with done:=true,answer:=a })],0⟩]:=by
 refine qb (fn:=Tryz.f90) Tryz.func90 rfl (Nat.le_refl _) ?_;conv=>whnf
 refine .inl ⟨⟨false,[3,7,8],[1,2],[]⟩,by kernel_rfl,?_⟩;(conv=>whnf)
 repeat (refine ⟨rfl,?_⟩;conv=>whnf)
 refine .inl ⟨⟨false,[2],[2],[]⟩,by kernel_rfl,?_⟩;(conv=>whnf)
 repeat (refine ⟨rfl,?_⟩;conv=>whnf)
 exact ⟨.inr rfl,_,_,.refl _,rfl,cE 2⟩
abbrev drE (m:Mac):Eve:={ qo with zq:=m.zq,access:=1,version:= -1 }
theorem zeL (w:Wor) (m:Mac) (sw:qC w) (ok:OkW w) (hl:i64 m.listen) (hpc:m.pc=0) (hs:z5 w m=true) (hi:qd w.ze m.op.listen < 0):
  zb Tryz.prog 65 [] [Cw w,Cm m] (.tup [Cw w,Cm { m with done:=true,answer:=vN 7 },Ce { drE m with done:=true,answer:=vN 7 }]) []:=by
 refine zb.zp (fn:=Tryz.f65) Tryz.func65 rfl ?_
 conv=>whnf
 refine ⟨fun h=>absurd h (by simp [hpc]),fun _=>?_⟩
 refine dd ?_
 refine ⟨_,_,(zM w m ok hl).frame rfl _,?_⟩;refine dd ?_
 refine ⟨fun _=>?_,fun h=>absurd ((hs).symm.trans h:true=false) (by decide)⟩;refine dd ?_
 (repeat ((first | apply ya | apply yb);refine dd ?_))
 refine ⟨_,_,(qi w sw).frame rfl _,?_⟩;refine dd ?_
 refine ⟨_,_,(vG w.ze m.op.listen (by have:=ok.ze.1;omega)).frame rfl _,?_⟩;refine dd ?_
 refine ⟨fun _=>?_,fun h=>absurd h (by simpa using hi)⟩
 refine dd ?_
 refine zr [1,5] (zco m (drE m) (vN 7)) rfl rfl rfl rfl rfl rfl ?_;refine dd ?_
 refine .inl ⟨⟨false,[0,1,5],[0,1,5],[]⟩,by kernel_rfl,?_⟩;(conv=>whnf)
 repeat (refine ⟨rfl,?_⟩;conv=>whnf)
 exact ⟨.inl rfl,_,.refl _,rfl⟩
abbrev zoy (m:Mac):Eve:={ qo with zq:=m.zq,access:=2,cell:=4,version:= -1,value:=1,ye:=true }
theorem zdv (w:Wor) (m:Mac) (x:Lis) (sw:qC w) (ok:OkW w) (hl:i64 m.listen) (hpc:m.pc=0) (hs:z5 w m=true) (hi:0<=qd w.ze m.op.listen) (hx:w.ze[(qd w.ze m.op.listen).toNat]?= some x):
  zb Tryz.prog 65 [] [Cw w,Cm m] (.tup [Cw { w with ze:=w.ze.set (qd w.ze m.op.listen).toNat (Go.Gat.ky x) },Cm { m with listen:=qd w.ze m.op.listen,done:=true,answer:=⟨10,0,0,0,0,qd w.ze m.op.listen,0,⟨0,0,0,0,0,0⟩⟩ },Ce { zoy m with done:=true,answer:=⟨10,0,0,0,0,qd w.ze m.op.listen,0,⟨0,0,0,0,0,0⟩⟩ }]) []:=by
 generalize hp:qd w.ze m.op.listen=p at hi hx
 have lt:p.toNat < w.ze.length:=(List.getElem?_eq_some_iff.1 hx).1
 have gl:(w.ze.map ql)[p.toNat]?= some (ql x):=by rw [List.getElem?_map,hx];rfl
 have hst:(w.ze.map ql).set p.toNat [Tx (Go.Gat.ky x).name,Bo (Go.Gat.ky x).drain,I (Go.Gat.ky x).zj,Bo (Go.Gat.ky x).closed]=(w.ze.set p.toNat (Go.Gat.ky x)).map ql:=by rw [List.map_set];rfl
 have e1:0+p.toNat=p.toNat:=Nat.zero_add _
 obtain ⟨y,l,hy⟩:∃ y l,w.ze=y::l:=by
  cases h:w.ze with
  | nil=>rw [h] at lt;simp at lt
  | cons y l=>exact ⟨y,l,rfl⟩
 have hpl:=zgx w.ze m.op.listen (by have:=ok.ze.1;omega)
 rw [hp] at hpl
 refine zb.zp (fn:=Tryz.f65) Tryz.func65 rfl ?_
 conv=>whnf
 refine ⟨fun h=>absurd h (by simp [hpc]),fun _=>?_⟩
 refine dd ?_
 refine ⟨_,_,(zM w m ok hl).frame rfl _,?_⟩;refine dd ?_
 refine ⟨fun _=>?_,fun h=>absurd ((hs).symm.trans h:true=false) (by decide)⟩;refine dd ?_
 (repeat ((first | apply ya | apply yb);refine dd ?_))
 refine zr [] (xY w sw y l hy) rfl rfl rfl rfl rfl rfl ?_;refine dd ?_
 refine zr [5] (hpl) rfl rfl rfl rfl rfl rfl ?_;refine dd ?_
 refine ⟨fun h=>absurd h (by simp;omega),fun _=>?_⟩
 refine dd ?_
 refine .inl ⟨⟨true,[1,4],[0],[8]⟩,by kernel_rfl,?_⟩;(conv=>whnf)
 repeat (refine ⟨rfl,?_⟩;conv=>whnf)
 refine ⟨hi,lt,?_⟩
 refine dd ?_
 rw [e1]
 refine ⟨_,gl,(by show 0+4<=4;decide),?_⟩
 refine dd ?_
 refine ⟨_,_,(Go.Gat.zg6 x).frame rfl _,?_⟩;refine dd ?_
 refine ⟨hi,lt,?_⟩
 refine dd ?_
 rw [e1]
 refine ⟨_,gl,rfl,?_⟩
 refine dd ?_
 repeat (refine ⟨rfl,?_⟩;conv=>whnf)
 rw [hst]
 refine zr [1,6] (zco { m with listen:=p } (zoy m) ⟨10,0,0,0,0,p,0,⟨0,0,0,0,0,0⟩⟩) rfl rfl rfl rfl rfl rfl ?_;refine dd ?_
 refine .inl ⟨⟨false,[0,1,5],[0,1,6],[]⟩,by kernel_rfl,?_⟩;(conv=>whnf)
 repeat (refine ⟨rfl,?_⟩;conv=>whnf)
 exact ⟨.inl rfl,_,zt.zS 2 0 5 rfl rfl rfl rfl (.inr rfl) (by simp) (by simp) (shut_map (enc:=ql) (fun _=>rfl) _) (zY rfl),rfl⟩
end Go.Wor
namespace Go.Wor
open Go.Ab Go.Proofs Go.Hy Go.Gat Go.Nam Go.Hos Go.Con Go.Sna
abbrev atM (m:Mac) (p i:Int):Mac:={ m with pc:=p,i:=i }
theorem qs (m:Mac) (a b c:Int):zb Tryz.prog 139 [⟨1,37,44,[zE (m)],0⟩] [.agg [.za,.ref 0 [] 44 0 0],I a,I b,I c] (Ce (evO m a b c)) [⟨1,37,44,[zE (m)],0⟩]:=by
 refine qb (fn:=Tryz.f139) Tryz.func139 rfl (Nat.le_refl _) ?_;conv=>whnf
 (repeat (refine ⟨rfl,?_⟩;conv=>whnf));exact ⟨.inl rfl,_,_,.refl _,rfl,cE 1⟩
theorem jC (m:Mac) (p i:Int):zb Tryz.prog 140 [⟨1,37,44,[zE (m)],0⟩] [.agg [.za,.ref 0 [] 44 0 0],I p,I i] (.tup []) [⟨1,37,44,[zE ({ m with pc:=p,i:=i })],0⟩]:=by
 refine qb (fn:=Tryz.f140) Tryz.func140 rfl (Nat.le_refl _) ?_;conv=>whnf
 refine .inl ⟨⟨false,[1,3],[1],[]⟩,by kernel_rfl,?_⟩;(conv=>whnf)
 repeat (refine ⟨rfl,?_⟩;conv=>whnf)
 exact ⟨.inr rfl,_,_,.refl _,rfl,cE 1⟩
theorem zck (m:Mac) (e:Eve) (a:Ans):zb Tryz.prog 138 [⟨1,37,44,[zE (m)],0⟩] [.agg [.za,.ref 0 [] 44 0 0],Ce e,.agg (qT a)] (Ce { e with done:=true,answer:=a }) [⟨1,37,44,[zE ({ m with done:=true,answer:=a })],0⟩]:=by
 refine qb (fn:=Tryz.f138) Tryz.func138 rfl (Nat.le_refl _) ?_;conv=>whnf
 refine .inl ⟨⟨false,[1,3,4],[1,3],[]⟩,by kernel_rfl,?_⟩;(conv=>whnf)
 repeat (refine ⟨rfl,?_⟩;conv=>whnf)
 refine .inl ⟨⟨false,[0],[3],[]⟩,by kernel_rfl,?_⟩;(conv=>whnf)
 repeat (refine ⟨rfl,?_⟩;conv=>whnf)
 (repeat (refine ⟨rfl,?_⟩;conv=>whnf));exact ⟨.inl rfl,_,_,.refl _,rfl,cE 1⟩
theorem zcZ (w:Wor) (m:Mac):zb Tryz.prog 94 [⟨1,48,8,[zQ (w)],0⟩,⟨1,37,44,[zE (m)],0⟩] [.agg [.ref 0 [] 8 0 0,.ref 1 [] 44 0 0]] (Ce (evO m 1 1 w.zn)) [⟨1,48,8,[zQ (w)],0⟩,⟨1,37,44,[zE ({ m with zn:=w.zn,pc:=2,i:=0 })],0⟩]:=by
 refine qb (fn:=Tryz.f94) Tryz.func94 rfl (Nat.le_refl _) ?_;conv=>whnf
 refine .inl ⟨⟨false,[1,3,6],[0,2],[]⟩,by kernel_rfl,?_⟩;(conv=>whnf)
 repeat (refine ⟨rfl,?_⟩;conv=>whnf)
 refine zr [1] (jC { m with zn:=w.zn } 2 0) rfl rfl rfl rfl rfl rfl ?_;refine dd ?_
 refine .inl ⟨⟨true,[],[],[]⟩,by kernel_rfl,?_⟩;(conv=>whnf)
 refine zr [1] (qs { m with zn:=w.zn,pc:=2,i:=0 } 1 1 w.zn) rfl rfl rfl rfl rfl rfl ?_;refine dd ?_
 (repeat (refine ⟨rfl,?_⟩;conv=>whnf));exact ⟨.inl rfl,_,_,.refl _,rfl,cE 2⟩
theorem zgo (w:Wor) (m:Mac) (h:w.lock≠0):zb Tryz.prog 93 [⟨1,48,8,[zQ (w)],0⟩,⟨1,37,44,[zE (m)],0⟩] [.agg [.ref 0 [] 8 0 0,.ref 1 [] 44 0 0]] (Ce { evO m 5 14 1 with done:=true,answer:=vN 12 }) [⟨1,48,8,[zQ (w)],0⟩,⟨1,37,44,[zE ({ m with done:=true,answer:=vN 12 })],0⟩]:=by
 refine qb (fn:=Tryz.f93) Tryz.func93 rfl (Nat.le_refl _) ?_;conv=>whnf
 refine ⟨fun _=>?_,fun hh=>absurd hh (by simpa using h)⟩
 refine dd ?_
 refine .inl ⟨⟨true,[0,1],[2],[2]⟩,by kernel_rfl,?_⟩;(conv=>whnf)
 refine zr [1] (qs m 5 14 1) rfl rfl rfl rfl rfl rfl ?_;refine dd ?_
 repeat (refine ⟨rfl,?_⟩;conv=>whnf)
 refine zr [1] (zck m (evO m 5 14 1) (vN 12)) rfl rfl rfl rfl rfl rfl ?_;refine dd ?_
 (repeat (refine ⟨rfl,?_⟩;conv=>whnf));exact ⟨.inl rfl,_,_,.refl _,rfl,cE 2⟩
theorem zeX (w:Wor) (m:Mac) (h:w.lock=0):zb Tryz.prog 93 [⟨1,48,8,[zQ (w)],0⟩,⟨1,37,44,[zE (m)],0⟩] [.agg [.ref 0 [] 8 0 0,.ref 1 [] 44 0 0]] (Ce (evO m 4 14 1)) [⟨1,48,8,[zQ ({ w with lock:=1 })],0⟩,⟨1,37,44,[zE ({ m with pc:=1 })],0⟩]:=by
 refine qb (fn:=Tryz.f93) Tryz.func93 rfl (Nat.le_refl _) ?_;conv=>whnf
 refine ⟨fun hh=>absurd hh (by simp [h]),fun _=>?_⟩
 refine dd ?_
 refine .inl ⟨⟨false,[1,3],[2],[]⟩,by kernel_rfl,?_⟩;(conv=>whnf)
 repeat (refine ⟨rfl,?_⟩;conv=>whnf)
 refine zr [1] (qs { m with pc:=1 } 4 14 1) rfl rfl rfl rfl rfl rfl ?_;refine dd ?_
 (repeat (refine ⟨rfl,?_⟩;conv=>whnf));exact ⟨.inl rfl,_,_,.refl _,rfl,cE 2⟩
def lpM (w:Wor) (m:Mac) (p:Int):Mac:=if p≠0∧p≠IntKind.i64.wrap (m.zn+1) then atM m 4 0 else if IntKind.i64.wrap (m.i+1) < w.pins.length then { m with i:=IntKind.i64.wrap (m.i+1) } else atM m 3 (IntKind.i64.wrap (m.i+1))
theorem zeV (w:Wor) (m:Mac) (p:Int) (h0:0<=m.i) (hp:w.pins[m.i.toNat]?= some p):zb Tryz.prog 95 [⟨1,48,8,[zQ (w)],0⟩,⟨1,37,44,[zE (m)],0⟩] [.agg [.ref 0 [] 8 0 0,.ref 1 [] 44 0 0]] (Ce (evO m 1 2 p)) [⟨1,48,8,[zQ (w)],0⟩,⟨1,37,44,[zE (lpM w m p)],0⟩]:=by
 have hg:(w.pins.map encI)[m.i.toNat]?= some (encI p):=by rw [List.getElem?_map,hp];rfl
 have ml:(w.pins.map encI).length=w.pins.length:=List.length_map ..
 refine qb (fn:=Tryz.f95) Tryz.func95 rfl (Nat.le_refl _) ?_;conv=>whnf
 refine .inl ⟨⟨false,[],[],[]⟩,by kernel_rfl,?_⟩;(conv=>whnf)
 (refine ⟨h0,_,hg,?_⟩);refine dd ?_
 refine ⟨fun q1=>?_,fun q1=>?_⟩
 ·refine dd ?_
  refine ⟨fun q2=>?_,fun q2=>?_⟩
  ·rw [show lpM w m p=atM m 4 0 from if_pos ⟨by simpa using q1,by simpa using q2⟩]
   refine dd ?_
   (repeat ((first | apply ya | apply yb);refine dd ?_))
   refine zr [1] (jC m 4 0) rfl rfl rfl rfl rfl rfl ?_;refine dd ?_
   refine zr [1] (qs (atM m 4 0) 1 2 p) rfl rfl rfl rfl rfl rfl ?_;refine dd ?_
   (repeat (refine ⟨rfl,?_⟩;conv=>whnf));exact ⟨.inl rfl,_,_,.refl _,rfl,cE 2⟩
  ·have q:¬(p≠0∧p≠IntKind.i64.wrap (m.zn+1)):=fun hh=>hh.2 (by simpa using q2)
   refine dd ?_
   (repeat ((first | apply ya | apply yb);refine dd ?_))
   (rw [show lpM w m p=_ from if_neg q]);refine .inl ⟨⟨false,[],[],[]⟩,by kernel_rfl,?_⟩;(conv=>whnf);(rw [ml]);refine ⟨fun q3=>?_,fun q3=>?_⟩;(focus ((rw [if_pos (by simpa using q3)]);refine dd ?_;refine zr [1] (qs { m with i:=IntKind.i64.wrap (m.i+1) } 1 2 p) rfl rfl rfl rfl rfl rfl ?_;refine dd ?_;(repeat (refine ⟨rfl,?_⟩;conv=>whnf));exact ⟨.inl rfl,_,_,.refl _,rfl,cE 2⟩));(rw [if_neg (by simpa using q3)]);refine dd ?_;refine .inl ⟨⟨true,[],[],[]⟩,by kernel_rfl,?_⟩;(conv=>whnf);refine zr [1] (jC m 3 (IntKind.i64.wrap (m.i+1))) rfl rfl rfl rfl rfl rfl ?_;refine dd ?_;(repeat (refine ⟨rfl,?_⟩;conv=>whnf));refine zr [1] (qs (atM m 3 (IntKind.i64.wrap (m.i+1))) 1 2 p) rfl rfl rfl rfl rfl rfl ?_;refine dd ?_;(repeat (refine ⟨rfl,?_⟩;conv=>whnf));exact ⟨.inl rfl,_,_,.refl _,rfl,cE 2⟩
 ·have q:¬(p≠0∧p≠IntKind.i64.wrap (m.zn+1)):=fun hh=>hh.1 (by simpa using q1)
  refine dd ?_
  (repeat ((first | apply ya | apply yb);refine dd ?_))
  (rw [show lpM w m p=_ from if_neg q]);refine .inl ⟨⟨false,[],[],[]⟩,by kernel_rfl,?_⟩;(conv=>whnf);(rw [ml]);refine ⟨fun q3=>?_,fun q3=>?_⟩;(focus ((rw [if_pos (by simpa using q3)]);refine dd ?_;refine zr [1] (qs { m with i:=IntKind.i64.wrap (m.i+1) } 1 2 p) rfl rfl rfl rfl rfl rfl ?_;refine dd ?_;(repeat (refine ⟨rfl,?_⟩;conv=>whnf));exact ⟨.inl rfl,_,_,.refl _,rfl,cE 2⟩));(rw [if_neg (by simpa using q3)]);refine dd ?_;refine .inl ⟨⟨true,[],[],[]⟩,by kernel_rfl,?_⟩;(conv=>whnf);refine zr [1] (jC m 3 (IntKind.i64.wrap (m.i+1))) rfl rfl rfl rfl rfl rfl ?_;refine dd ?_;(repeat (refine ⟨rfl,?_⟩;conv=>whnf));refine zr [1] (qs (atM m 3 (IntKind.i64.wrap (m.i+1))) 1 2 p) rfl rfl rfl rfl rfl rfl ?_;refine dd ?_;(repeat (refine ⟨rfl,?_⟩;conv=>whnf));exact ⟨.inl rfl,_,_,.refl _,rfl,cE 2⟩
theorem zbI (w:Wor) (m:Mac) (h:¬(w.zn=m.zn∧w.zn < 1000000000000)):zb Tryz.prog 96 [⟨1,48,8,[zQ (w)],0⟩,⟨1,37,44,[zE (m)],0⟩] [.agg [.ref 0 [] 8 0 0,.ref 1 [] 44 0 0]] (Ce (evO m 5 1 w.zn)) [⟨1,48,8,[zQ (w)],0⟩,⟨1,37,44,[zE (atM m 4 0)],0⟩]:=by
 refine qb (fn:=Tryz.f96) Tryz.func96 rfl (Nat.le_refl _) ?_;conv=>whnf
 refine .inl ⟨⟨false,[],[],[]⟩,by kernel_rfl,?_⟩;(conv=>whnf)
 refine ⟨fun q1=>?_,fun q1=>?_⟩
 ·refine dd ?_
  refine ⟨fun q2=>?_,fun q2=>?_⟩
  ·exact absurd ⟨by simpa using q1,by simpa using q2⟩ h
  ·refine dd ?_
   (repeat ((first | apply ya | apply yb);refine dd ?_))
   refine zr [1] (jC m 4 0) rfl rfl rfl rfl rfl rfl ?_;refine dd ?_;refine .inl ⟨⟨true,[],[],[]⟩,by kernel_rfl,?_⟩;(conv=>whnf);refine zr [1] (qs (atM m 4 0) 5 1 w.zn) rfl rfl rfl rfl rfl rfl ?_;refine dd ?_;(repeat (refine ⟨rfl,?_⟩;conv=>whnf));exact ⟨.inl rfl,_,_,.refl _,rfl,cE 2⟩
 ·refine dd ?_
  (repeat ((first | apply ya | apply yb);refine dd ?_))
  refine zr [1] (jC m 4 0) rfl rfl rfl rfl rfl rfl ?_;refine dd ?_;refine .inl ⟨⟨true,[],[],[]⟩,by kernel_rfl,?_⟩;(conv=>whnf);refine zr [1] (qs (atM m 4 0) 5 1 w.zn) rfl rfl rfl rfl rfl rfl ?_;refine dd ?_;(repeat (refine ⟨rfl,?_⟩;conv=>whnf));exact ⟨.inl rfl,_,_,.refl _,rfl,cE 2⟩
theorem zaX (w:Wor) (m:Mac) (h1:w.zn=m.zn) (h2:w.zn < 1000000000000):zb Tryz.prog 96 [⟨1,48,8,[zQ (w)],0⟩,⟨1,37,44,[zE (m)],0⟩] [.agg [.ref 0 [] 8 0 0,.ref 1 [] 44 0 0]] (Ce (evO m 4 1 (IntKind.i64.wrap (w.zn+1)))) [⟨1,48,8,[zQ ({ w with zn:=IntKind.i64.wrap (w.zn+1) })],0⟩,⟨1,37,44,[zE ({ atM m 4 0 with zn:=IntKind.i64.wrap (w.zn+1) })],0⟩]:=by
 refine qb (fn:=Tryz.f96) Tryz.func96 rfl (Nat.le_refl _) ?_;conv=>whnf
 refine .inl ⟨⟨false,[],[],[]⟩,by kernel_rfl,?_⟩;(conv=>whnf)
 refine ⟨fun _=>?_,fun hh=>absurd hh (by simpa using h1)⟩
 refine dd ?_
 refine ⟨fun _=>?_,fun hh=>absurd hh (by simp;omega)⟩
 refine dd ?_
 (repeat ((first | apply ya | apply yb);refine dd ?_))
 refine .inl ⟨⟨false,[1,3,6],[0,2],[]⟩,by kernel_rfl,?_⟩;(conv=>whnf)
 repeat (refine ⟨rfl,?_⟩;conv=>whnf)
 refine zr [1] (jC { m with zn:=IntKind.i64.wrap (w.zn+1) } 4 0) rfl rfl rfl rfl rfl rfl ?_;refine dd ?_
 refine .inl ⟨⟨true,[],[],[]⟩,by kernel_rfl,?_⟩;(conv=>whnf)
 refine zr [1] (qs { atM m 4 0 with zn:=IntKind.i64.wrap (w.zn+1) } 4 1 (IntKind.i64.wrap (w.zn+1))) rfl rfl rfl rfl rfl rfl ?_;refine dd ?_
 (repeat (refine ⟨rfl,?_⟩;conv=>whnf));exact ⟨.inl rfl,_,_,.refl _,rfl,cE 2⟩
end Go.Wor
namespace Go.Wor
open Go.Ab Go.Proofs Go.Hy Go.Gat Go.Nam Go.Hos Go.Con Go.Sna
def xw (v:Ver):List En:=v.zf.flatMap (·.ends)
structure zlD (v:Ver):Prop where
 zf:v.zf.length<=1000
 ends : ∀ g ∈ v.zf, g.ends.length <= 1000
theorem zhf:∀ (l:List Gr),(∀ g ∈ l,g.ends.length<=1000)->(l.flatMap (·.ends)).length<=l.length * 1000
 | [],_=>by simp
 | g::l,h=>by
  have:=zhf l fun x hx=>h x (List.mem_cons_of_mem _ hx)
  have:=h g (List.mem_cons_self ..)
  simp only [List.flatMap_cons,List.length_append,List.length_cons]
  omega
theorem zcq (v:Ver) (h:zlD v):zb Tryz.prog 142 [] [Cv v] (lE (xw v)) []:=by
 have m1:(v.zf.map zw).length=v.zf.length:=List.length_map ..
 have hgl:=h.zf
 refine zb.zp (fn:=Tryz.f142) Tryz.func142 rfl ?_
 conv=>whnf
 rw [m1]
 refine qa.seq v.zf.length (fun k=>[.za,.ref 0 [] 5 0 0,.lst 1 0 [],.gl 1 3 (((v.zf.take k).flatMap (·.ends)).map zo),.za,.za,.za,lG v.zf,I v.zf.length,I k,.za,.za,.za,.za,.za,.za,.za,.za,.za]) (fun k=>[⟨1,71,5,[zx v],0⟩,⟨4,79,3,((v.zf.take k).flatMap (·.ends)).map zo,0⟩]) (fun k=>True) ?_ trivial (fun k hk hr=>?_) (fun hr=>?_)
 ·refine zt.trans (zt.grow 3 79 3 rfl (.inl rfl)) ?_
  exact cC
 ·obtain ⟨g,hx⟩:∃ g,g=v.zf[k]:=⟨_,rfl⟩
  have hg:(v.zf.map zw)[k]?= some (zw g):=by rw [List.getElem?_map,List.getElem?_eq_getElem hk,hx];rfl
  have eg:((v.zf.take (k+1)).flatMap (·.ends)).map zo=((v.zf.take k).flatMap (·.ends)).map zo++g.ends.map zo:=by rw [List.take_succ_eq_append_getElem hk,<- hx];simp
  have l1:(((v.zf.take k).flatMap (·.ends)).map zo).length<=k * 1000:=by
   have:=zhf (v.zf.take k) fun x hx=>h.ends x (List.mem_of_mem_take hx)
   rw [List.length_take,Nat.min_eq_left (by omega)] at this
   simpa using this
  have l2:(g.ends.map zo).length<=1000:=by rw [List.length_map];exact h.ends g (hx ▸ List.getElem_mem hk)
  conv=>whnf
  (refine ⟨fun _=>?_,fun h=>absurd h (by simp;omega)⟩);refine dd ?_
  (refine ⟨by omega,_,by rw [toNat_cast];exact hg,?_⟩);refine dd ?_
  refine ⟨rfl,.inr rfl,by simp only [maxLen];omega,by show _ * 40<=_;omega,?_⟩
  refine dd ?_
  refine .inl ⟨rfl,?_,trivial⟩
  rw [zC (by omega),eg]
  exact cE 2
 ·(conv=>whnf);(refine ⟨fun h=>absurd h (by simp),fun _=>?_⟩);refine dd ?_;(refine ⟨by simp,?_⟩);(conv=>whnf)
  rw [List.take_length]
  exact ⟨.inl rfl,_,.refl _,rfl⟩
abbrev zlK (k n:Int):Ans:=⟨k,0,0,0,0,0,n,⟨0,0,0,0,0,0⟩⟩
theorem zb0 (w:Wor) (m:Mac) (l:Lis) (h0:0<=m.i) (hx:w.ze[m.i.toNat]?= some l):zb Tryz.prog 101 [⟨1,48,8,[zQ (w)],0⟩,⟨1,37,44,[zE (m)],0⟩] [.agg [.ref 0 [] 8 0 0,.ref 1 [] 44 0 0]] (Ce (evO m 1 5 l.zj)) [⟨1,48,8,[zQ (w)],0⟩,⟨1,37,44,[zE (if l.zj=0 then { m with pc:=10 } else atM m 8 (IntKind.i64.wrap (m.i+1)))],0⟩]:=by
 have hg:(w.ze.map ql)[m.i.toNat]?= some (ql l):=by rw [List.getElem?_map,hx];rfl
 refine qb (fn:=Tryz.f101) Tryz.func101 rfl (Nat.le_refl _) ?_;conv=>whnf
 refine .inl ⟨⟨false,[],[],[]⟩,by kernel_rfl,?_⟩;(conv=>whnf)
 (refine ⟨h0,_,hg,?_⟩);refine dd ?_
 refine ⟨fun q=>?_,fun q=>?_⟩
 ·rw [if_pos (by simpa using q)]
  refine dd ?_
  refine zr [1] (qs { m with pc:=10 } 1 5 l.zj) rfl rfl rfl rfl rfl rfl ?_;refine dd ?_
  (repeat (refine ⟨rfl,?_⟩;conv=>whnf));exact ⟨.inl rfl,_,_,.refl _,rfl,cE 2⟩
 ·rw [if_neg (by simpa using q)]
  refine dd ?_
  refine .inl ⟨⟨true,[],[],[]⟩,by kernel_rfl,?_⟩;(conv=>whnf)
  refine zr [1] (jC m 8 (IntKind.i64.wrap (m.i+1))) rfl rfl rfl rfl rfl rfl ?_;refine dd ?_
  (repeat (refine ⟨rfl,?_⟩;conv=>whnf))
  refine zr [1] (qs (atM m 8 (IntKind.i64.wrap (m.i+1))) 1 5 l.zj) rfl rfl rfl rfl rfl rfl ?_;refine dd ?_
  (repeat (refine ⟨rfl,?_⟩;conv=>whnf));exact ⟨.inl rfl,_,_,.refl _,rfl,cE 2⟩
theorem zaz (w:Wor) (m:Mac) (h:w.ze.length<=m.i):zb Tryz.prog 100 [⟨1,48,8,[zQ (w)],0⟩,⟨1,37,44,[zE (m)],0⟩] [.agg [.ref 0 [] 8 0 0,.ref 1 [] 44 0 0]] (Ce { evO m 2 14 0 with done:=true,answer:=zlK 11 m.answer.n }) [⟨1,48,8,[zQ ({ w with lock:=0 })],0⟩,⟨1,37,44,[zE ({ m with done:=true,answer:=zlK 11 m.answer.n })],0⟩]:=by
 have ml:(w.ze.map ql).length=w.ze.length:=List.length_map ..
 refine qb (fn:=Tryz.f100) Tryz.func100 rfl (Nat.le_refl _) ?_;conv=>whnf
 refine .inl ⟨⟨false,[],[],[]⟩,by kernel_rfl,?_⟩;(conv=>whnf)
 rw [ml]
 refine ⟨fun _=>?_,fun hh=>absurd hh (by simp;omega)⟩
 refine dd ?_
 refine .inl ⟨⟨true,[0,1],[2],[2]⟩,by kernel_rfl,?_⟩;(conv=>whnf)
 refine zr [1] (qs m 2 14 0) rfl rfl rfl rfl rfl rfl ?_;refine dd ?_
 (repeat (refine ⟨rfl,?_⟩;conv=>whnf))
 refine zr [1] (zck m (evO m 2 14 0) (zlK 11 m.answer.n)) rfl rfl rfl rfl rfl rfl ?_;refine dd ?_
 (repeat (refine ⟨rfl,?_⟩;conv=>whnf));exact ⟨.inl rfl,_,_,.refl _,rfl,cE 2⟩
abbrev ldM (m:Mac) (l:Lis):Mac:=if l.drain=true∧l.closed=false then { m with pc:=9 } else { m with i:=IntKind.i64.wrap (m.i+1) }
abbrev zpu (m:Mac) (l:Lis):Eve:=evO m 1 4 (if l.drain=true then 1 else 0)
theorem zbY (w:Wor) (m:Mac) (l:Lis) (h0:0<=m.i) (hx:w.ze[m.i.toNat]?= some l):zb Tryz.prog 100 [⟨1,48,8,[zQ (w)],0⟩,⟨1,37,44,[zE (m)],0⟩] [.agg [.ref 0 [] 8 0 0,.ref 1 [] 44 0 0]] (Ce (zpu m l)) [⟨1,48,8,[zQ (w)],0⟩,⟨1,37,44,[zE (ldM m l)],0⟩]:=by
 have hg:(w.ze.map ql)[m.i.toNat]?= some (ql l):=by rw [List.getElem?_map,hx];rfl
 have hlt:=(List.getElem?_eq_some_iff.1 hx).1
 have ml:(w.ze.map ql).length=w.ze.length:=List.length_map ..
 obtain ⟨nm,dr,ac,cl⟩:=l
 cases dr <;> cases cl
 all_goals
  refine qb (fn:=Tryz.f100) Tryz.func100 rfl (Nat.le_refl _) ?_;conv=>whnf
  refine .inl ⟨⟨false,[],[],[]⟩,by kernel_rfl,?_⟩;(conv=>whnf)
  rw [ml]
  refine ⟨fun hh=>absurd hh (by simp;omega),fun _=>?_⟩
  refine dd ?_
  refine .inr ⟨⟨[1,4,8,10],[0,1,2],true⟩,by kernel_rfl,fun _=>rfl,_,?_,fun t2 H2 h=>h⟩;(conv=>whnf)
  repeat (refine ⟨rfl,?_⟩;conv=>whnf)
  (refine ⟨h0,_,hg,?_⟩);refine dd ?_
  (refine ⟨?_,trivial⟩);(conv=>whnf);(repeat (refine ⟨rfl,?_⟩;(conv=>whnf)))
  (refine ⟨?_,trivial⟩);(conv=>whnf);(repeat (refine ⟨rfl,?_⟩;(conv=>whnf)))
  (refine ⟨_,_,.refl _,?_⟩);(conv=>whnf)
  refine zr [1] (qs m 1 4 0) rfl rfl rfl rfl rfl rfl ?_;refine dd ?_
  (repeat (first | ((refine ⟨fun _=>?_,fun h=>absurd (h.symm.trans rfl:false=true) (by decide)⟩);refine dd ?_) | ((refine ⟨fun h=>absurd (h.symm.trans rfl:true=false) (by decide),fun _=>?_⟩);refine dd ?_)))
  (repeat (refine ⟨rfl,?_⟩;conv=>whnf));exact ⟨.inl rfl,_,_,.refl _,rfl,cE 2⟩
end Go.Wor
namespace Go.Wor
open Go.Ab Go.Proofs Go.Hy Go.Gat Go.Nam Go.Hos Go.Con Go.Sna
theorem zaA {w w':Wor} {m m':Mac} {e:Eve} (h:w.zm.length<=m.i) (hd:zb Tryz.prog 100 [⟨1,48,8,[zQ (w)],0⟩,⟨1,37,44,[zE (atM m 8 0)],0⟩] [.agg [.ref 0 [] 8 0 0,.ref 1 [] 44 0 0]] (Ce e) [⟨1,48,8,[zQ (w')],0⟩,⟨1,37,44,[zE (m')],0⟩]):zb Tryz.prog 97 [⟨1,48,8,[zQ (w)],0⟩,⟨1,37,44,[zE (m)],0⟩] [.agg [.ref 0 [] 8 0 0,.ref 1 [] 44 0 0]] (Ce e) [⟨1,48,8,[zQ (w')],0⟩,⟨1,37,44,[zE (m')],0⟩]:=by
 have ml:(w.zm.map jx).length=w.zm.length:=List.length_map ..
 refine qb (fn:=Tryz.f97) Tryz.func97 rfl (Nat.le_refl _) ?_;conv=>whnf
 refine .inl ⟨⟨false,[],[],[]⟩,by kernel_rfl,?_⟩;(conv=>whnf)
 rw [ml]
 refine ⟨fun _=>?_,fun hh=>absurd hh (by simp;omega)⟩
 refine dd ?_
 refine zr [1] (jC m 8 0) rfl rfl rfl rfl rfl rfl ?_;refine dd ?_
 refine zr [0,1] (hd) rfl rfl rfl rfl rfl rfl ?_;refine dd ?_
 (repeat (refine ⟨rfl,?_⟩;conv=>whnf));exact ⟨.inl rfl,_,_,.refl _,rfl,cE 2⟩
abbrev llM (m:Mac) (r:Ret):Mac:=if r.gone=true∨Go.Lim.zbr r.at_ m.zn=false then { m with i:=IntKind.i64.wrap (m.i+1) } else { m with version:=r.version,zg:=0,end_:=0,other:=0,slot:=0,k:=0,pc:=5 }
theorem zc0 (w:Wor) (m:Mac) (r:Ret) (hr:i64 r.at_) (h0:0<=m.i) (hx:w.zm[m.i.toNat]?= some r):zb Tryz.prog 97 [⟨1,48,8,[zQ (w)],0⟩,⟨1,37,44,[zE (m)],0⟩] [.agg [.ref 0 [] 8 0 0,.ref 1 [] 44 0 0]] (Ce (evO m 1 11 r.version)) [⟨1,48,8,[zQ (w)],0⟩,⟨1,37,44,[zE (llM m r)],0⟩]:=by
 have hg:(w.zm.map jx)[m.i.toNat]?= some (jx r):=by rw [List.getElem?_map,hx];rfl
 have hlt:=(List.getElem?_eq_some_iff.1 hx).1
 have ml:(w.zm.map jx).length=w.zm.length:=List.length_map ..
 obtain ⟨rv,ra,rg⟩:=r
 refine qb (fn:=Tryz.f97) Tryz.func97 rfl (Nat.le_refl _) ?_;conv=>whnf
 refine .inl ⟨⟨false,[],[],[]⟩,by kernel_rfl,?_⟩;(conv=>whnf)
 rw [ml]
 refine ⟨fun hh=>absurd hh (by simp;omega),fun _=>?_⟩
 refine dd ?_
 refine .inr ⟨⟨[1,4,8,10],[0,1,2],true⟩,by kernel_rfl,fun _=>rfl,_,?_,fun t2 H2 h=>h⟩;(conv=>whnf)
 repeat (refine ⟨rfl,?_⟩;conv=>whnf)
 (refine ⟨h0,_,hg,?_⟩);refine dd ?_
 (refine ⟨?_,trivial⟩);(conv=>whnf);(repeat (refine ⟨rfl,?_⟩;(conv=>whnf)))
 (refine ⟨?_,trivial⟩);(conv=>whnf);(repeat (refine ⟨rfl,?_⟩;(conv=>whnf)))
 (refine ⟨_,_,.refl _,?_⟩);(conv=>whnf)
 cases rg
 ·have eN:Go.Lim.zbr ra m.zn=false->llM m ⟨rv,ra,false⟩={ m with i:=IntKind.i64.wrap (m.i+1) }:=fun hh=>if_pos (.inr hh)
  have eY:Go.Lim.zbr ra m.zn=true->llM m ⟨rv,ra,false⟩={ m with version:=rv,zg:=0,end_:=0,other:=0,slot:=0,k:=0,pc:=5 }:=fun hh=>if_neg (by simp [hh])
  refine .inl ⟨⟨true,[],[],[9]⟩,by kernel_rfl,?_⟩;(conv=>whnf)
  (repeat (first | ((refine ⟨fun _=>?_,fun h=>absurd (h.symm.trans rfl:false=true) (by decide)⟩);refine dd ?_) | ((refine ⟨fun h=>absurd (h.symm.trans rfl:true=false) (by decide),fun _=>?_⟩);refine dd ?_)))
  refine ⟨_,_,(Go.Lim.zjw (now:=m.zn) hr.1 hr.2).frame rfl _,?_⟩;refine dd ?_
  refine ⟨fun q=>?_,fun q=>?_⟩
  ·rw [eY q]
   refine dd ?_
   (repeat (refine ⟨rfl,?_⟩;conv=>whnf))
   (repeat (first | ((refine ⟨fun _=>?_,fun h=>absurd (h.symm.trans rfl:false=true) (by decide)⟩);refine dd ?_) | ((refine ⟨fun h=>absurd (h.symm.trans rfl:true=false) (by decide),fun _=>?_⟩);refine dd ?_)))
   refine zr [1] (qs { m with version:=rv,zg:=0,end_:=0,other:=0,slot:=0,k:=0,pc:=5 } 1 11 rv) rfl rfl rfl rfl rfl rfl ?_;refine dd ?_
   (repeat (refine ⟨rfl,?_⟩;conv=>whnf));exact ⟨.inl rfl,_,_,.refl _,rfl,cE 2⟩
  ·rw [eN q]
   refine dd ?_
   (repeat (refine ⟨rfl,?_⟩;conv=>whnf))
   (repeat (first | ((refine ⟨fun _=>?_,fun h=>absurd (h.symm.trans rfl:false=true) (by decide)⟩);refine dd ?_) | ((refine ⟨fun h=>absurd (h.symm.trans rfl:true=false) (by decide),fun _=>?_⟩);refine dd ?_)))
   refine zr [1] (qs { m with i:=IntKind.i64.wrap (m.i+1) } 1 11 rv) rfl rfl rfl rfl rfl rfl ?_;refine dd ?_
   (repeat (refine ⟨rfl,?_⟩;conv=>whnf));exact ⟨.inl rfl,_,_,.refl _,rfl,cE 2⟩
 ·rw [show llM m ⟨rv,ra,true⟩=_ from if_pos (.inl rfl)]
  refine .inl ⟨⟨true,[],[],[9]⟩,by kernel_rfl,?_⟩;(conv=>whnf)
  (repeat (first | ((refine ⟨fun _=>?_,fun h=>absurd (h.symm.trans rfl:false=true) (by decide)⟩);refine dd ?_) | ((refine ⟨fun h=>absurd (h.symm.trans rfl:true=false) (by decide),fun _=>?_⟩);refine dd ?_)))
  refine zr [1] (qs { m with i:=IntKind.i64.wrap (m.i+1) } 1 11 rv) rfl rfl rfl rfl rfl rfl ?_;refine dd ?_
  (repeat (refine ⟨rfl,?_⟩;conv=>whnf));exact ⟨.inl rfl,_,_,.refl _,rfl,cE 2⟩
abbrev zer (l:Lis):Lis:={ l with closed:=true }
theorem zjx (w:Wor) (m:Mac) (x:Lis) (h0:0<=m.i) (hx:w.ze[m.i.toNat]?= some x):
  zb Tryz.prog 102 [⟨1,48,8,[[I w.zn,I w.current,I w.lock,lI w.pins,lV w.zd,.sl 2 [] 4 0 w.ze.length false,lCo w.counts,lR w.zm]],0⟩,⟨1,37,44,[zE (m)],0⟩,⟨2,77,4,(w.ze).map ql,0⟩] [.agg [.ref 0 [] 8 0 0,.ref 1 [] 44 0 0]] (Ce (evO m 2 13 1)) [⟨1,48,8,[[I w.zn,I w.current,I w.lock,lI w.pins,lV w.zd,.sl 2 [] 4 0 w.ze.length false,lCo w.counts,lR w.zm]],0⟩,⟨1,37,44,[zE (atM m 8 (IntKind.i64.wrap (m.i+1)))],0⟩,⟨2,77,4,(w.ze.set m.i.toNat (zer x)).map ql,0⟩]:=by
 have e1:0+m.i.toNat=m.i.toNat:=Nat.zero_add _
 have hlt:m.i.toNat < w.ze.length:=(List.getElem?_eq_some_iff.1 hx).1
 have gx:(w.ze.map ql)[m.i.toNat]?= some (ql x):=by rw [List.getElem?_map,hx];rfl
 have hst:(w.ze.map ql).set m.i.toNat [Tx x.name,Bo x.drain,I x.zj,Bo true]=(w.ze.set m.i.toNat (zer x)).map ql:=by rw [List.map_set];rfl
 refine qb (fn:=Tryz.f102) Tryz.func102 rfl (Nat.le_refl _) ?_;conv=>whnf
 refine .inl ⟨⟨false,[1,4,6,9],[0,1,3],[]⟩,by kernel_rfl,?_⟩;(conv=>whnf)
 repeat (refine ⟨rfl,?_⟩;conv=>whnf)
 refine ⟨h0,hlt,?_⟩
 refine dd ?_
 rw [e1]
 refine ⟨_,gx,rfl,?_⟩
 refine dd ?_
 (repeat (refine ⟨rfl,?_⟩;conv=>whnf))
 rw [hst]
 refine .inl ⟨⟨true,[],[],[]⟩,by kernel_rfl,?_⟩;(conv=>whnf)
 refine zr [1] (jC m 8 (IntKind.i64.wrap (m.i+1))) rfl rfl rfl rfl rfl rfl ?_;refine dd ?_
 (repeat (refine ⟨rfl,?_⟩;conv=>whnf))
 refine zr [1] (qs (atM m 8 (IntKind.i64.wrap (m.i+1))) 2 13 1) rfl rfl rfl rfl rfl rfl ?_;refine dd ?_
 (repeat (refine ⟨rfl,?_⟩;conv=>whnf));exact ⟨.inl rfl,_,_,.refl _,rfl,cE 3⟩
abbrev laE (m:Mac) (v:Ver) (a:Int):Eve:={ evO m 1 7 a with version:=m.version,zD:=v.zD }
abbrev laM (m:Mac) (v:Ver) (a:Int):Mac:=if a≠0 then atM m 4 (IntKind.i64.wrap (m.i+1)) else if IntKind.i64.wrap (m.k+1) < (xw v).length then { m with k:=IntKind.i64.wrap (m.k+1) } else { m with k:=IntKind.i64.wrap (m.k+1),pc:=6 }
theorem zbX (w:Wor) (m:Mac) (v:Ver) (e:En) (hf:zlD v) (hv:AtV w m v) (k0:0<=m.k) (hk:(xw v)[m.k.toNat]?= some e):zb Tryz.prog 98 [⟨1,48,8,[zQ (w)],0⟩,⟨1,37,44,[zE (m)],0⟩] [.agg [.ref 0 [] 8 0 0,.ref 1 [] 44 0 0]] (Ce (laE m v e.zj)) [⟨1,48,8,[zQ (w)],0⟩,⟨1,37,44,[zE (laM m v e.zj)],0⟩]:=by
 have a0:=hv.v0
 have a1:=hv.row
 have hg:((xw v).map zo)[m.k.toNat]?= some (zo e):=by rw [List.getElem?_map,hk];rfl
 have ml:((xw v).map zo).length=(xw v).length:=List.length_map ..
 have he:=zcq v hf
 have eA:e.zj≠0->laM m v e.zj=atM m 4 (IntKind.i64.wrap (m.i+1)):=fun hh=>if_pos hh
 have eB:e.zj=0->laM m v e.zj=if IntKind.i64.wrap (m.k+1) < (xw v).length then { m with k:=IntKind.i64.wrap (m.k+1) } else { m with k:=IntKind.i64.wrap (m.k+1),pc:=6 }:=fun hh=>if_neg (by simp [hh])
 generalize hll:xw v=ll at he hk hg ml eA eB
 obtain ⟨sn,gs,fr⟩:=v
 cases fr
 all_goals
  refine qb (fn:=Tryz.f98) Tryz.func98 rfl (Nat.le_refl _) ?_;conv=>whnf
  refine .inr ⟨⟨[1,4,8,10],[0,1,2],true⟩,by kernel_rfl,fun _=>rfl,_,?_,fun t2 H2 h=>h⟩;(conv=>whnf)
  repeat (refine ⟨rfl,?_⟩;conv=>whnf)
  (refine ⟨a0,_,a1,?_⟩);refine dd ?_
  (refine ⟨?_,trivial⟩);(conv=>whnf);(repeat (refine ⟨rfl,?_⟩;(conv=>whnf)))
  (refine ⟨?_,trivial⟩);(conv=>whnf);(repeat (refine ⟨rfl,?_⟩;(conv=>whnf)))
  (refine ⟨_,_,.refl _,?_⟩);(conv=>whnf)
  refine ⟨_,_,(he).frame rfl _,?_⟩;refine dd ?_
  refine .inr ⟨⟨[0,5,8,9],[0,1,2,3,4],true⟩,by kernel_rfl,fun _=>rfl,_,?_,fun t2 H2 h=>h⟩;(conv=>whnf)
  (refine ⟨k0,_,hg,?_⟩);refine dd ?_
  refine ⟨_,zb.blind [1] (qs m 1 7 e.zj) rfl rfl rfl rfl rfl rfl rfl (fun _=>rfl) (fun _=>rfl),?_⟩;(conv=>whnf)
  (refine ⟨?_,trivial⟩);(conv=>whnf);(repeat (refine ⟨rfl,?_⟩;(conv=>whnf)))
  (refine ⟨?_,trivial⟩);(conv=>whnf);(repeat (refine ⟨rfl,?_⟩;(conv=>whnf)))
  (refine ⟨_,_,.refl _,?_⟩);(conv=>whnf)
  refine .inl ⟨⟨false,[3,5],[1,4],[]⟩,by kernel_rfl,?_⟩;(conv=>whnf)
  (repeat (first | ((refine ⟨fun _=>?_,fun h=>absurd (h.symm.trans rfl:false=true) (by decide)⟩);refine dd ?_) | ((refine ⟨fun h=>absurd (h.symm.trans rfl:true=false) (by decide),fun _=>?_⟩);refine dd ?_)))
  (repeat (refine ⟨rfl,?_⟩;conv=>whnf))
  refine ⟨fun q=>?_,fun q=>?_⟩
  ·rw [eA (by simpa using q)]
   refine dd ?_
   refine .inl ⟨⟨true,[],[],[]⟩,by kernel_rfl,?_⟩;(conv=>whnf)
   refine zr [1] (jC m 4 (IntKind.i64.wrap (m.i+1))) rfl rfl rfl rfl rfl rfl ?_;refine dd ?_
   (repeat (refine ⟨rfl,?_⟩;conv=>whnf));exact ⟨.inl rfl,_,_,.refl _,rfl,cE 2⟩
  ·rw [eB (by simpa using q)]
   refine dd ?_
   rw [ml]
   refine ⟨fun q2=>?_,fun q2=>?_⟩
   ·rw [if_pos (by simpa using q2)]
    refine dd ?_
    (repeat (refine ⟨rfl,?_⟩;conv=>whnf));exact ⟨.inl rfl,_,_,.refl _,rfl,cE 2⟩
   ·rw [if_neg (by simpa using q2)]
    refine dd ?_
    (repeat (refine ⟨rfl,?_⟩;conv=>whnf));exact ⟨.inl rfl,_,_,.refl _,rfl,cE 2⟩
abbrev zau (v:Ver):Ver:={ v with zD:=true }
abbrev v7 (r:Ret):Ret:={ r with gone:=true }
abbrev frM (m:Mac):Mac:={ m with answer:={ m.answer with n:=IntKind.i64.wrap (m.answer.n+1) },pc:=4,i:=IntKind.i64.wrap (m.i+1) }
theorem kC (w:Wor) (m:Mac) (v:Ver) (r:Ret) (hv:AtV w m v) (h0:0<=m.i) (hx:w.zm[m.i.toNat]?= some r):
  zb Tryz.prog 99 [⟨1,48,8,[[I w.zn,I w.current,I w.lock,lI w.pins,.sl 2 [] 5 0 w.zd.length false,lL w.ze,lCo w.counts,.sl 3 [] 3 0 w.zm.length false]],0⟩,⟨1,37,44,[zE (m)],0⟩,⟨2,71,5,(w.zd).map zx,0⟩,⟨2,96,3,(w.zm).map jx,0⟩] [.agg [.ref 0 [] 8 0 0,.ref 1 [] 44 0 0]] (Ce (evO m 2 12 m.version)) [⟨1,48,8,[[I w.zn,I w.current,I w.lock,lI w.pins,.sl 2 [] 5 0 w.zd.length false,lL w.ze,lCo w.counts,.sl 3 [] 3 0 w.zm.length false]],0⟩,⟨1,37,44,[zE (frM m)],0⟩,⟨2,71,5,(w.zd.set m.version.toNat (zau v)).map zx,0⟩,⟨2,96,3,(w.zm.set m.i.toNat (v7 r)).map jx,0⟩]:=by
 have a0:=hv.v0
 have av:m.version.toNat < w.zd.length:=(List.getElem?_eq_some_iff.1 hv.at_).1
 have gv:=hv.row
 have e1:0+m.i.toNat=m.i.toNat:=Nat.zero_add _
 have e2:0+m.version.toNat=m.version.toNat:=Nat.zero_add _
 have hlt:m.i.toNat < w.zm.length:=(List.getElem?_eq_some_iff.1 hx).1
 have gx:(w.zm.map jx)[m.i.toNat]?= some (jx r):=by rw [List.getElem?_map,hx];rfl
 have hst:(w.zm.map jx).set m.i.toNat [I r.version,I r.at_,Bo true]=(w.zm.set m.i.toNat (v7 r)).map jx:=by rw [List.map_set];rfl
 have hsv:(w.zd.map zx).set m.version.toNat [lT v.snap.ze,vx v.snap.rules,lC v.snap.zk,lG v.zf,Bo true]=(w.zd.set m.version.toNat (zau v)).map zx:=by rw [List.map_set];rfl
 refine qb (fn:=Tryz.f99) Tryz.func99 rfl (Nat.le_refl _) ?_;conv=>whnf
 refine .inl ⟨⟨false,[1,4,8,10,13,17],[0,1,4],[]⟩,by kernel_rfl,?_⟩;(conv=>whnf)
 repeat (refine ⟨rfl,?_⟩;conv=>whnf)
 refine ⟨a0,av,?_⟩
 refine dd ?_
 rw [e2]
 refine ⟨_,gv,rfl,?_⟩
 refine dd ?_
 (repeat (refine ⟨rfl,?_⟩;conv=>whnf))
 refine ⟨h0,hlt,?_⟩
 refine dd ?_
 rw [e1]
 refine ⟨_,gx,rfl,?_⟩
 refine dd ?_
 (repeat (refine ⟨rfl,?_⟩;conv=>whnf))
 rw [hst,hsv]
 refine .inl ⟨⟨true,[],[],[]⟩,by kernel_rfl,?_⟩;(conv=>whnf)
 refine zr [1] (jC { m with answer:={ m.answer with n:=IntKind.i64.wrap (m.answer.n+1) } } 4 (IntKind.i64.wrap (m.i+1))) rfl rfl rfl rfl rfl rfl ?_;refine dd ?_
 (repeat (refine ⟨rfl,?_⟩;conv=>whnf))
 refine .inl ⟨⟨true,[],[],[]⟩,by kernel_rfl,?_⟩;(conv=>whnf)
 refine zr [1] (qs (frM m) 2 12 m.version) rfl rfl rfl rfl rfl rfl ?_;refine dd ?_
 (repeat (refine ⟨rfl,?_⟩;conv=>whnf));exact ⟨.inl rfl,_,_,.refl _,rfl,cE 4⟩
end Go.Wor
namespace Go.Wor
open Go.Ab Go.Proofs Go.Hy Go.Gat Go.Nam Go.Hos Go.Con Go.Sna
def zqi (w:Wor) (m:Mac):Bool:=
 if m.pc=2 then decide (m.i < w.pins.length)
 else if m.pc=5 then (match w.zd[m.version.toNat]? with | some v=>decide (m.k < (xw v).length) | none=>false)
 else if m.pc=6 then (match w.zm[m.i.toNat]? with | some r=>(r.version == m.version) && !r.gone | none=>false)
 else if m.pc=9 then decide (m.i < w.ze.length)
 else if m.pc=10 then (match w.ze[m.i.toNat]? with | some l=>l.drain | none=>false)
 else true
theorem zg9 (v:Ver) (h:zlD v):zb Tryz.prog 137 [] [Cv v] (I (xw v).length) []:=by
 have ml:((xw v).map zo).length=(xw v).length:=List.length_map ..
 have he:=zcq v h
 generalize xw v=ll at he ml ⊢
 refine zb.zp (fn:=Tryz.f137) Tryz.func137 rfl ?_
 conv=>whnf
 refine ⟨_,_,(he).frame rfl _,?_⟩;refine dd ?_
 rw [ml]
 exact ⟨.inl rfl,_,.refl _,rfl⟩
theorem zjc (w:Wor) (m:Mac) (hpc:m.pc=2) (h:m.i < w.pins.length):zb Tryz.prog 92 [] [Cw w,Cm m] (Bo true) []:=by
 have ml:(w.pins.map encI).length=w.pins.length:=List.length_map ..
 refine zb.zp (fn:=Tryz.f92) Tryz.func92 rfl ?_
 conv=>whnf
 (repeat (first | (refine ⟨fun _=>?_,?_⟩;rotate_left 1;(focus (intro h;first | (simp [hpc] at h;done) | (have h:=of_decide_eq_true h;omega) | (have h:=of_decide_eq_false h;omega)));(refine dd ?_)) | (refine ⟨?_,fun _=>?_⟩;(focus (intro h;first | (simp [hpc] at h;done) | (have h:=of_decide_eq_true h;omega) | (have h:=of_decide_eq_false h;omega)));(refine dd ?_))))
 exact ⟨.inl rfl,_,.refl _,rfl⟩
theorem zjf (w:Wor) (m:Mac) (hpc:m.pc=9) (h:m.i < w.ze.length):zb Tryz.prog 92 [] [Cw w,Cm m] (Bo true) []:=by
 have ml:(w.ze.map ql).length=w.ze.length:=List.length_map ..
 refine zb.zp (fn:=Tryz.f92) Tryz.func92 rfl ?_
 conv=>whnf
 (repeat (first | (refine ⟨fun _=>?_,?_⟩;rotate_left 1;(focus (intro h;first | (simp [hpc] at h;done) | (have h:=of_decide_eq_true h;omega) | (have h:=of_decide_eq_false h;omega)));(refine dd ?_)) | (refine ⟨?_,fun _=>?_⟩;(focus (intro h;first | (simp [hpc] at h;done) | (have h:=of_decide_eq_true h;omega) | (have h:=of_decide_eq_false h;omega)));(refine dd ?_))))
 exact ⟨.inl rfl,_,.refl _,rfl⟩
theorem jH (w:Wor) (m:Mac) (hpc:m.pc≠2∧m.pc≠5∧m.pc≠6∧m.pc≠9∧m.pc≠10):zb Tryz.prog 92 [] [Cw w,Cm m] (Bo true) []:=by
 refine zb.zp (fn:=Tryz.f92) Tryz.func92 rfl ?_
 conv=>whnf
 (repeat (first | (refine ⟨fun _=>?_,?_⟩;rotate_left 1;(focus (intro h;first | (simp [hpc] at h;done) | (have h:=of_decide_eq_true h;omega) | (have h:=of_decide_eq_false h;omega)));(refine dd ?_)) | (refine ⟨?_,fun _=>?_⟩;(focus (intro h;first | (simp [hpc] at h;done) | (have h:=of_decide_eq_true h;omega) | (have h:=of_decide_eq_false h;omega)));(refine dd ?_))))
 exact ⟨.inl rfl,_,.refl _,rfl⟩
theorem zjd (w:Wor) (m:Mac) (v:Ver) (hf:zlD v) (hpc:m.pc=5) (hv:AtV w m v) (h:m.k < (xw v).length):zb Tryz.prog 92 [] [Cw w,Cm m] (Bo true) []:=by
 have a0:=hv.v0
 have a1:=hv.row
 refine zb.zp (fn:=Tryz.f92) Tryz.func92 rfl ?_
 conv=>whnf
 (repeat (first | (refine ⟨fun _=>?_,?_⟩;rotate_left 1;(focus (intro h;first | (simp [hpc] at h;done) | (have h:=of_decide_eq_true h;omega) | (have h:=of_decide_eq_false h;omega)));(refine dd ?_)) | (refine ⟨?_,fun _=>?_⟩;(focus (intro h;first | (simp [hpc] at h;done) | (have h:=of_decide_eq_true h;omega) | (have h:=of_decide_eq_false h;omega)));(refine dd ?_))))
 refine .inl ⟨⟨true,[],[],[8]⟩,by kernel_rfl,?_⟩;(conv=>whnf)
 (refine ⟨a0,_,a1,?_⟩);refine dd ?_
 refine ⟨_,_,(zg9 v hf).frame rfl _,?_⟩;refine dd ?_
 (repeat (first | (refine ⟨fun _=>?_,?_⟩;rotate_left 1;(focus (intro h;first | (simp [hpc] at h;done) | (have h:=of_decide_eq_true h;omega) | (have h:=of_decide_eq_false h;omega)));(refine dd ?_)) | (refine ⟨?_,fun _=>?_⟩;(focus (intro h;first | (simp [hpc] at h;done) | (have h:=of_decide_eq_true h;omega) | (have h:=of_decide_eq_false h;omega)));(refine dd ?_))))
 exact ⟨.inl rfl,_,.refl _,rfl⟩
theorem zje (w:Wor) (m:Mac) (r:Ret) (hpc:m.pc=6) (h0:0<=m.i) (hx:w.zm[m.i.toNat]?= some r) (h1:r.version=m.version) (h2:r.gone=false):zb Tryz.prog 92 [] [Cw w,Cm m] (Bo true) []:=by
 have hg:(w.zm.map jx)[m.i.toNat]?= some (jx r):=by rw [List.getElem?_map,hx];rfl
 have hlt:=(List.getElem?_eq_some_iff.1 hx).1
 have ml:(w.zm.map jx).length=w.zm.length:=List.length_map ..
 obtain ⟨rv,ra,rg⟩:=r
 cases h2
 refine zb.zp (fn:=Tryz.f92) Tryz.func92 rfl ?_
 conv=>whnf
 (repeat (first | (refine ⟨fun _=>?_,?_⟩;rotate_left 1;(focus (intro h;first | (simp [hpc] at h;done) | (have h:=of_decide_eq_true h;omega) | (have h:=of_decide_eq_false h;omega)));(refine dd ?_)) | (refine ⟨?_,fun _=>?_⟩;(focus (intro h;first | (simp [hpc] at h;done) | (have h:=of_decide_eq_true h;omega) | (have h:=of_decide_eq_false h;omega)));(refine dd ?_))))
 refine .inl ⟨⟨false,[],[],[]⟩,by kernel_rfl,?_⟩;(conv=>whnf)
 rw [ml]
 (repeat (first | (refine ⟨fun _=>?_,?_⟩;rotate_left 1;(focus (intro h;first | (simp [hpc] at h;done) | (have h:=of_decide_eq_true h;omega) | (have h:=of_decide_eq_false h;omega)));(refine dd ?_)) | (refine ⟨?_,fun _=>?_⟩;(focus (intro h;first | (simp [hpc] at h;done) | (have h:=of_decide_eq_true h;omega) | (have h:=of_decide_eq_false h;omega)));(refine dd ?_))))
 (refine ⟨h0,_,hg,?_⟩);refine dd ?_
 refine ⟨fun _=>?_,fun hh=>absurd hh (by simpa using h1)⟩
 refine dd ?_
 (repeat (first | ((refine ⟨fun _=>?_,fun h=>absurd (h.symm.trans rfl:false=true) (by decide)⟩);refine dd ?_) | ((refine ⟨fun h=>absurd (h.symm.trans rfl:true=false) (by decide),fun _=>?_⟩);refine dd ?_)))
 (refine ⟨h0,_,hg,?_⟩);refine dd ?_
 (repeat (first | ((refine ⟨fun _=>?_,fun h=>absurd (h.symm.trans rfl:false=true) (by decide)⟩);refine dd ?_) | ((refine ⟨fun h=>absurd (h.symm.trans rfl:true=false) (by decide),fun _=>?_⟩);refine dd ?_)))
 exact ⟨.inl rfl,_,.refl _,rfl⟩
theorem zhv (w:Wor) (m:Mac) (l:Lis) (hpc:m.pc=10) (h0:0<=m.i) (hx:w.ze[m.i.toNat]?= some l) (h1:l.drain=true):zb Tryz.prog 92 [] [Cw w,Cm m] (Bo true) []:=by
 have hg:(w.ze.map ql)[m.i.toNat]?= some (ql l):=by rw [List.getElem?_map,hx];rfl
 have hlt:=(List.getElem?_eq_some_iff.1 hx).1
 have ml:(w.ze.map ql).length=w.ze.length:=List.length_map ..
 obtain ⟨ln,ld,la,lc⟩:=l
 cases h1
 refine zb.zp (fn:=Tryz.f92) Tryz.func92 rfl ?_
 conv=>whnf
 (repeat (first | (refine ⟨fun _=>?_,?_⟩;rotate_left 1;(focus (intro h;first | (simp [hpc] at h;done) | (have h:=of_decide_eq_true h;omega) | (have h:=of_decide_eq_false h;omega)));(refine dd ?_)) | (refine ⟨?_,fun _=>?_⟩;(focus (intro h;first | (simp [hpc] at h;done) | (have h:=of_decide_eq_true h;omega) | (have h:=of_decide_eq_false h;omega)));(refine dd ?_))))
 rw [ml]
 (repeat (first | (refine ⟨fun _=>?_,?_⟩;rotate_left 1;(focus (intro h;first | (simp [hpc] at h;done) | (have h:=of_decide_eq_true h;omega) | (have h:=of_decide_eq_false h;omega)));(refine dd ?_)) | (refine ⟨?_,fun _=>?_⟩;(focus (intro h;first | (simp [hpc] at h;done) | (have h:=of_decide_eq_true h;omega) | (have h:=of_decide_eq_false h;omega)));(refine dd ?_))))
 (refine ⟨h0,_,hg,?_⟩);refine dd ?_
 (repeat (first | ((refine ⟨fun _=>?_,fun h=>absurd (h.symm.trans rfl:false=true) (by decide)⟩);refine dd ?_) | ((refine ⟨fun h=>absurd (h.symm.trans rfl:true=false) (by decide),fun _=>?_⟩);refine dd ?_)))
 exact ⟨.inl rfl,_,.refl _,rfl⟩
end Go.Wor
namespace Go.Wor
open Go.Ab Go.Proofs Go.Hy Go.Gat Go.Nam Go.Hos Go.Con Go.Sna
theorem znf (w:Wor) (m:Mac) (X:Ob) (j f:Nat) (R:Exit->S->Prop) (hlow:qz 8 ([⟨1,48,8,[zQ (w)],0⟩,⟨1,37,44,[zE (m)],0⟩,⟨1,48,8,[zeW],0⟩,⟨1,37,44,[zeM],0⟩,⟨1,87,23,[qj qo],0⟩,X,⟨1,37,44,[zE (m)],0⟩,⟨1,169,2,[[.ref 5 [] 8 0 0,.ref 6 [] 44 0 0]],0⟩]++[])=true) (hf:∀ v0 v1 v2 v3 v4 v5 v6 v8 v9 v10,x9 [(0,v0,0),(1,v1,1),(2,v2,2),(3,v3,3),(4,v4,4),(5,v5,5),(6,v6,6),(8,v8,7),(9,v9,8),(10,v10,9)] m.pc=some j) (hc:([.fn 93 [.agg [.ref 5 [] 8 0 0,.ref 6 [] 44 0 0]] [],.fn 94 [.agg [.ref 5 [] 8 0 0,.ref 6 [] 44 0 0]] [],.fn 95 [.agg [.ref 5 [] 8 0 0,.ref 6 [] 44 0 0]] [],.fn 96 [.agg [.ref 5 [] 8 0 0,.ref 6 [] 44 0 0]] [],.fn 97 [.agg [.ref 5 [] 8 0 0,.ref 6 [] 44 0 0]] [],.fn 98 [.agg [.ref 5 [] 8 0 0,.ref 6 [] 44 0 0]] [],.fn 99 [.agg [.ref 5 [] 8 0 0,.ref 6 [] 44 0 0]] [],.fn 100 [.agg [.ref 5 [] 8 0 0,.ref 6 [] 44 0 0]] [],.fn 101 [.agg [.ref 5 [] 8 0 0,.ref 6 [] 44 0 0]] [],.fn 102 [.agg [.ref 5 [] 8 0 0,.ref 6 [] 44 0 0]] []]:List C)[j]?= some (.fn f [.agg [.ref 5 [] 8 0 0,.ref 6 [] 44 0 0]] []))
  (hn:qF Tryz.prog 0 (behind 5 ((Tryz.f66.body).getD .skip)) ⟨[.za,.za,.ref 0 [] 8 0 0,.ref 1 [] 44 0 0,.ref 2 [] 8 0 0,.ref 3 [] 44 0 0,.ref 4 [] 23 0 0,.ref 5 [] 8 0 0,.ref 6 [] 44 0 0,.ref 7 [] 2 0 0,.fn f [.agg [.ref 5 [] 8 0 0,.ref 6 [] 44 0 0]] [],Bo true,.za,.za,.za,.za,.za,.za,.za,.za,.za,.za,.za,.za,.za,.za,.za,.za,.za,.za,.za,.za,.za,.za,.za,.za,.za,.za,.za,.za,.za,.za,.za,.za,.za,.za,.za,.za,.za,.za,.za,.za,.za,.za,.za,.za,.za,.za,.za,.za,.za,.za,.za,.za,.za,.za,.za,.za],[⟨1,48,8,[zQ (w)],0⟩,⟨1,37,44,[zE (m)],0⟩,⟨1,48,8,[zeW],0⟩,⟨1,37,44,[zeM],0⟩,⟨1,87,23,[qj qo],0⟩,X,⟨1,37,44,[zE (m)],0⟩,⟨1,169,2,[[.ref 5 [] 8 0 0,.ref 6 [] 44 0 0]],0⟩]++[]⟩ R):qF Tryz.prog 0 (behind 4 ((Tryz.f66.body).getD .skip)) ⟨[.za,.za,.ref 0 [] 8 0 0,.ref 1 [] 44 0 0,.ref 2 [] 8 0 0,.ref 3 [] 44 0 0,.ref 4 [] 23 0 0,.ref 5 [] 8 0 0,.ref 6 [] 44 0 0,.ref 7 [] 2 0 0,.za,.za,.za,.za,.za,.za,.za,.za,.za,.za,.za,.za,.za,.za,.za,.za,.za,.za,.za,.za,.za,.za,.za,.za,.za,.za,.za,.za,.za,.za,.za,.za,.za,.za,.za,.za,.za,.za,.za,.za,.za,.za,.za,.za,.za,.za,.za,.za,.za,.za,.za,.za,.za,.za,.za,.za,.za,.za],[⟨1,48,8,[zQ (w)],0⟩,⟨1,37,44,[zE (m)],0⟩,⟨1,48,8,[zeW],0⟩,⟨1,37,44,[zeM],0⟩,⟨1,87,23,[qj qo],0⟩,X,⟨1,37,44,[zE (m)],0⟩,⟨1,169,2,[[.ref 5 [] 8 0 0,.ref 6 [] 44 0 0]],0⟩]++[]⟩ R:=by
 refine wi ?_
 conv=>whnf
 intro b
 refine dd ?_
 refine q0.qc (id:=8) _ _ _ _ (.inr rfl) Tryz.underlying172 Tryz.underlying3 rfl rfl rfl rfl rfl ?_;intro v0;refine dd ?_
 refine q0.qc (id:=8) _ _ _ _ (.inr rfl) Tryz.underlying172 Tryz.underlying3 rfl rfl rfl rfl rfl ?_;intro v1;refine dd ?_
 refine q0.qc (id:=8) _ _ _ _ (.inr rfl) Tryz.underlying172 Tryz.underlying3 rfl rfl rfl rfl rfl ?_;intro v2;refine dd ?_
 refine q0.qc (id:=8) _ _ _ _ (.inr rfl) Tryz.underlying172 Tryz.underlying3 rfl rfl rfl rfl rfl ?_;intro v3;refine dd ?_
 refine q0.qc (id:=8) _ _ _ _ (.inr rfl) Tryz.underlying172 Tryz.underlying3 rfl rfl rfl rfl rfl ?_;intro v4;refine dd ?_
 refine q0.qc (id:=8) _ _ _ _ (.inr rfl) Tryz.underlying172 Tryz.underlying3 rfl rfl rfl rfl rfl ?_;intro v5;refine dd ?_
 refine q0.qc (id:=8) _ _ _ _ (.inr rfl) Tryz.underlying172 Tryz.underlying3 rfl rfl rfl rfl rfl ?_;intro v6;refine dd ?_
 refine q0.qc (id:=8) _ _ _ _ (.inr rfl) Tryz.underlying172 Tryz.underlying3 rfl rfl rfl rfl rfl ?_;intro v8;refine dd ?_
 refine q0.qc (id:=8) _ _ _ _ (.inr rfl) Tryz.underlying172 Tryz.underlying3 rfl rfl rfl rfl rfl ?_;intro v9;refine dd ?_
 refine q0.qc (id:=8) _ _ _ _ (.inr rfl) Tryz.underlying172 Tryz.underlying3 rfl rfl rfl rfl rfl ?_;intro v10;refine dd ?_
 (refine ⟨_,_,OpV.wE (id:=8) _ _ _ _ rfl Tryz.underlying172 Tryz.underlying3 rfl rfl rfl rfl rfl rfl (hf _ _ _ _ _ _ _ _ _ _) hc,?_⟩;(refine dd ?_))
 (repeat ((first | apply ya | apply yb);refine dd ?_))
 refine .inl ⟨rfl,_,_,(zt.forget 8).trans (zt.xW 8 (by (conv=>whnf);(repeat (refine ⟨rfl,?_⟩;(conv=>whnf)));exact trivial) rfl rfl rfl hlow rfl),hn⟩
theorem zne (w:Wor) (m:Mac) (X:Ob) (Y:Ob)(j f:Nat) (R:Exit->S->Prop) (hlow:qz 9 ([⟨1,48,8,[zQ (w)],0⟩,⟨1,37,44,[zE (m)],0⟩,⟨1,48,8,[zeW],0⟩,⟨1,37,44,[zeM],0⟩,⟨1,87,23,[qj qo],0⟩,X,⟨1,37,44,[zE (m)],0⟩,⟨1,169,2,[[.ref 5 [] 8 0 0,.ref 6 [] 44 0 0]],0⟩]++[Y])=true) (hf:∀ v0 v1 v2 v3 v4 v5 v6 v8 v9 v10,x9 [(0,v0,0),(1,v1,1),(2,v2,2),(3,v3,3),(4,v4,4),(5,v5,5),(6,v6,6),(8,v8,7),(9,v9,8),(10,v10,9)] m.pc=some j) (hc:([.fn 93 [.agg [.ref 5 [] 8 0 0,.ref 6 [] 44 0 0]] [],.fn 94 [.agg [.ref 5 [] 8 0 0,.ref 6 [] 44 0 0]] [],.fn 95 [.agg [.ref 5 [] 8 0 0,.ref 6 [] 44 0 0]] [],.fn 96 [.agg [.ref 5 [] 8 0 0,.ref 6 [] 44 0 0]] [],.fn 97 [.agg [.ref 5 [] 8 0 0,.ref 6 [] 44 0 0]] [],.fn 98 [.agg [.ref 5 [] 8 0 0,.ref 6 [] 44 0 0]] [],.fn 99 [.agg [.ref 5 [] 8 0 0,.ref 6 [] 44 0 0]] [],.fn 100 [.agg [.ref 5 [] 8 0 0,.ref 6 [] 44 0 0]] [],.fn 101 [.agg [.ref 5 [] 8 0 0,.ref 6 [] 44 0 0]] [],.fn 102 [.agg [.ref 5 [] 8 0 0,.ref 6 [] 44 0 0]] []]:List C)[j]?= some (.fn f [.agg [.ref 5 [] 8 0 0,.ref 6 [] 44 0 0]] []))
  (hn:qF Tryz.prog 0 (behind 5 ((Tryz.f66.body).getD .skip)) ⟨[.za,.za,.ref 0 [] 8 0 0,.ref 1 [] 44 0 0,.ref 2 [] 8 0 0,.ref 3 [] 44 0 0,.ref 4 [] 23 0 0,.ref 5 [] 8 0 0,.ref 6 [] 44 0 0,.ref 7 [] 2 0 0,.fn f [.agg [.ref 5 [] 8 0 0,.ref 6 [] 44 0 0]] [],Bo true,.za,.za,.za,.za,.za,.za,.za,.za,.za,.za,.za,.za,.za,.za,.za,.za,.za,.za,.za,.za,.za,.za,.za,.za,.za,.za,.za,.za,.za,.za,.za,.za,.za,.za,.za,.za,.za,.za,.za,.za,.za,.za,.za,.za,.za,.za,.za,.za,.za,.za,.za,.za,.za,.za,.za,.za],[⟨1,48,8,[zQ (w)],0⟩,⟨1,37,44,[zE (m)],0⟩,⟨1,48,8,[zeW],0⟩,⟨1,37,44,[zeM],0⟩,⟨1,87,23,[qj qo],0⟩,X,⟨1,37,44,[zE (m)],0⟩,⟨1,169,2,[[.ref 5 [] 8 0 0,.ref 6 [] 44 0 0]],0⟩]++[Y]⟩ R):qF Tryz.prog 0 (behind 4 ((Tryz.f66.body).getD .skip)) ⟨[.za,.za,.ref 0 [] 8 0 0,.ref 1 [] 44 0 0,.ref 2 [] 8 0 0,.ref 3 [] 44 0 0,.ref 4 [] 23 0 0,.ref 5 [] 8 0 0,.ref 6 [] 44 0 0,.ref 7 [] 2 0 0,.za,.za,.za,.za,.za,.za,.za,.za,.za,.za,.za,.za,.za,.za,.za,.za,.za,.za,.za,.za,.za,.za,.za,.za,.za,.za,.za,.za,.za,.za,.za,.za,.za,.za,.za,.za,.za,.za,.za,.za,.za,.za,.za,.za,.za,.za,.za,.za,.za,.za,.za,.za,.za,.za,.za,.za,.za,.za],[⟨1,48,8,[zQ (w)],0⟩,⟨1,37,44,[zE (m)],0⟩,⟨1,48,8,[zeW],0⟩,⟨1,37,44,[zeM],0⟩,⟨1,87,23,[qj qo],0⟩,X,⟨1,37,44,[zE (m)],0⟩,⟨1,169,2,[[.ref 5 [] 8 0 0,.ref 6 [] 44 0 0]],0⟩]++[Y]⟩ R:=by
 refine wi ?_
 conv=>whnf
 intro b
 refine dd ?_
 refine q0.qc (id:=9) _ _ _ _ (.inr rfl) Tryz.underlying172 Tryz.underlying3 rfl rfl rfl rfl rfl ?_;intro v0;refine dd ?_
 refine q0.qc (id:=9) _ _ _ _ (.inr rfl) Tryz.underlying172 Tryz.underlying3 rfl rfl rfl rfl rfl ?_;intro v1;refine dd ?_
 refine q0.qc (id:=9) _ _ _ _ (.inr rfl) Tryz.underlying172 Tryz.underlying3 rfl rfl rfl rfl rfl ?_;intro v2;refine dd ?_
 refine q0.qc (id:=9) _ _ _ _ (.inr rfl) Tryz.underlying172 Tryz.underlying3 rfl rfl rfl rfl rfl ?_;intro v3;refine dd ?_
 refine q0.qc (id:=9) _ _ _ _ (.inr rfl) Tryz.underlying172 Tryz.underlying3 rfl rfl rfl rfl rfl ?_;intro v4;refine dd ?_
 refine q0.qc (id:=9) _ _ _ _ (.inr rfl) Tryz.underlying172 Tryz.underlying3 rfl rfl rfl rfl rfl ?_;intro v5;refine dd ?_
 refine q0.qc (id:=9) _ _ _ _ (.inr rfl) Tryz.underlying172 Tryz.underlying3 rfl rfl rfl rfl rfl ?_;intro v6;refine dd ?_
 refine q0.qc (id:=9) _ _ _ _ (.inr rfl) Tryz.underlying172 Tryz.underlying3 rfl rfl rfl rfl rfl ?_;intro v8;refine dd ?_
 refine q0.qc (id:=9) _ _ _ _ (.inr rfl) Tryz.underlying172 Tryz.underlying3 rfl rfl rfl rfl rfl ?_;intro v9;refine dd ?_
 refine q0.qc (id:=9) _ _ _ _ (.inr rfl) Tryz.underlying172 Tryz.underlying3 rfl rfl rfl rfl rfl ?_;intro v10;refine dd ?_
 (refine ⟨_,_,OpV.wE (id:=9) _ _ _ _ rfl Tryz.underlying172 Tryz.underlying3 rfl rfl rfl rfl rfl rfl (hf _ _ _ _ _ _ _ _ _ _) hc,?_⟩;(refine dd ?_))
 (repeat ((first | apply ya | apply yb);refine dd ?_))
 refine .inl ⟨rfl,_,_,(zt.forget 9).trans (zt.xW 9 (by (conv=>whnf);(repeat (refine ⟨rfl,?_⟩;(conv=>whnf)));exact trivial) rfl rfl rfl hlow rfl),hn⟩
theorem znd (w:Wor) (m:Mac) (X:Ob) (Y Z:Ob)(j f:Nat) (R:Exit->S->Prop) (hlow:qz 10 ([⟨1,48,8,[zQ (w)],0⟩,⟨1,37,44,[zE (m)],0⟩,⟨1,48,8,[zeW],0⟩,⟨1,37,44,[zeM],0⟩,⟨1,87,23,[qj qo],0⟩,X,⟨1,37,44,[zE (m)],0⟩,⟨1,169,2,[[.ref 5 [] 8 0 0,.ref 6 [] 44 0 0]],0⟩]++[Y,Z])=true) (hf:∀ v0 v1 v2 v3 v4 v5 v6 v8 v9 v10,x9 [(0,v0,0),(1,v1,1),(2,v2,2),(3,v3,3),(4,v4,4),(5,v5,5),(6,v6,6),(8,v8,7),(9,v9,8),(10,v10,9)] m.pc=some j) (hc:([.fn 93 [.agg [.ref 5 [] 8 0 0,.ref 6 [] 44 0 0]] [],.fn 94 [.agg [.ref 5 [] 8 0 0,.ref 6 [] 44 0 0]] [],.fn 95 [.agg [.ref 5 [] 8 0 0,.ref 6 [] 44 0 0]] [],.fn 96 [.agg [.ref 5 [] 8 0 0,.ref 6 [] 44 0 0]] [],.fn 97 [.agg [.ref 5 [] 8 0 0,.ref 6 [] 44 0 0]] [],.fn 98 [.agg [.ref 5 [] 8 0 0,.ref 6 [] 44 0 0]] [],.fn 99 [.agg [.ref 5 [] 8 0 0,.ref 6 [] 44 0 0]] [],.fn 100 [.agg [.ref 5 [] 8 0 0,.ref 6 [] 44 0 0]] [],.fn 101 [.agg [.ref 5 [] 8 0 0,.ref 6 [] 44 0 0]] [],.fn 102 [.agg [.ref 5 [] 8 0 0,.ref 6 [] 44 0 0]] []]:List C)[j]?= some (.fn f [.agg [.ref 5 [] 8 0 0,.ref 6 [] 44 0 0]] []))
  (hn:qF Tryz.prog 0 (behind 5 ((Tryz.f66.body).getD .skip)) ⟨[.za,.za,.ref 0 [] 8 0 0,.ref 1 [] 44 0 0,.ref 2 [] 8 0 0,.ref 3 [] 44 0 0,.ref 4 [] 23 0 0,.ref 5 [] 8 0 0,.ref 6 [] 44 0 0,.ref 7 [] 2 0 0,.fn f [.agg [.ref 5 [] 8 0 0,.ref 6 [] 44 0 0]] [],Bo true,.za,.za,.za,.za,.za,.za,.za,.za,.za,.za,.za,.za,.za,.za,.za,.za,.za,.za,.za,.za,.za,.za,.za,.za,.za,.za,.za,.za,.za,.za,.za,.za,.za,.za,.za,.za,.za,.za,.za,.za,.za,.za,.za,.za,.za,.za,.za,.za,.za,.za,.za,.za,.za,.za,.za,.za],[⟨1,48,8,[zQ (w)],0⟩,⟨1,37,44,[zE (m)],0⟩,⟨1,48,8,[zeW],0⟩,⟨1,37,44,[zeM],0⟩,⟨1,87,23,[qj qo],0⟩,X,⟨1,37,44,[zE (m)],0⟩,⟨1,169,2,[[.ref 5 [] 8 0 0,.ref 6 [] 44 0 0]],0⟩]++[Y,Z]⟩ R):qF Tryz.prog 0 (behind 4 ((Tryz.f66.body).getD .skip)) ⟨[.za,.za,.ref 0 [] 8 0 0,.ref 1 [] 44 0 0,.ref 2 [] 8 0 0,.ref 3 [] 44 0 0,.ref 4 [] 23 0 0,.ref 5 [] 8 0 0,.ref 6 [] 44 0 0,.ref 7 [] 2 0 0,.za,.za,.za,.za,.za,.za,.za,.za,.za,.za,.za,.za,.za,.za,.za,.za,.za,.za,.za,.za,.za,.za,.za,.za,.za,.za,.za,.za,.za,.za,.za,.za,.za,.za,.za,.za,.za,.za,.za,.za,.za,.za,.za,.za,.za,.za,.za,.za,.za,.za,.za,.za,.za,.za,.za,.za,.za,.za],[⟨1,48,8,[zQ (w)],0⟩,⟨1,37,44,[zE (m)],0⟩,⟨1,48,8,[zeW],0⟩,⟨1,37,44,[zeM],0⟩,⟨1,87,23,[qj qo],0⟩,X,⟨1,37,44,[zE (m)],0⟩,⟨1,169,2,[[.ref 5 [] 8 0 0,.ref 6 [] 44 0 0]],0⟩]++[Y,Z]⟩ R:=by
 refine wi ?_
 conv=>whnf
 intro b
 refine dd ?_
 refine q0.qc (id:=10) _ _ _ _ (.inr rfl) Tryz.underlying172 Tryz.underlying3 rfl rfl rfl rfl rfl ?_;intro v0;refine dd ?_
 refine q0.qc (id:=10) _ _ _ _ (.inr rfl) Tryz.underlying172 Tryz.underlying3 rfl rfl rfl rfl rfl ?_;intro v1;refine dd ?_
 refine q0.qc (id:=10) _ _ _ _ (.inr rfl) Tryz.underlying172 Tryz.underlying3 rfl rfl rfl rfl rfl ?_;intro v2;refine dd ?_
 refine q0.qc (id:=10) _ _ _ _ (.inr rfl) Tryz.underlying172 Tryz.underlying3 rfl rfl rfl rfl rfl ?_;intro v3;refine dd ?_
 refine q0.qc (id:=10) _ _ _ _ (.inr rfl) Tryz.underlying172 Tryz.underlying3 rfl rfl rfl rfl rfl ?_;intro v4;refine dd ?_
 refine q0.qc (id:=10) _ _ _ _ (.inr rfl) Tryz.underlying172 Tryz.underlying3 rfl rfl rfl rfl rfl ?_;intro v5;refine dd ?_
 refine q0.qc (id:=10) _ _ _ _ (.inr rfl) Tryz.underlying172 Tryz.underlying3 rfl rfl rfl rfl rfl ?_;intro v6;refine dd ?_
 refine q0.qc (id:=10) _ _ _ _ (.inr rfl) Tryz.underlying172 Tryz.underlying3 rfl rfl rfl rfl rfl ?_;intro v8;refine dd ?_
 refine q0.qc (id:=10) _ _ _ _ (.inr rfl) Tryz.underlying172 Tryz.underlying3 rfl rfl rfl rfl rfl ?_;intro v9;refine dd ?_
 refine q0.qc (id:=10) _ _ _ _ (.inr rfl) Tryz.underlying172 Tryz.underlying3 rfl rfl rfl rfl rfl ?_;intro v10;refine dd ?_
 (refine ⟨_,_,OpV.wE (id:=10) _ _ _ _ rfl Tryz.underlying172 Tryz.underlying3 rfl rfl rfl rfl rfl rfl (hf _ _ _ _ _ _ _ _ _ _) hc,?_⟩;(refine dd ?_))
 (repeat ((first | apply ya | apply yb);refine dd ?_))
 refine .inl ⟨rfl,_,_,(zt.forget 10).trans (zt.xW 10 (by (conv=>whnf);(repeat (refine ⟨rfl,?_⟩;(conv=>whnf)));exact trivial) rfl rfl rfl hlow rfl),hn⟩
end Go.Wor
namespace Go.Wor
open Go.Ab Go.Proofs Go.Hy Go.Gat Go.Nam Go.Hos Go.Con Go.Sna
theorem q8 {w w':Wor} {m m':Mac} {e:Eve} (sw:qC w) (ok:OkW w) (hl:i64 m.listen) (hs:z5 w m=true) (hm:zb Tryz.prog 92 [] [Cw w,Cm m] (Bo true) []) (j f:Nat) (hcb:qk Tryz.prog f=true) (hf:∀ v0 v1 v2 v3 v4 v5 v6 v8 v9 v10,x9 [(0,v0,0),(1,v1,1),(2,v2,2),(3,v3,3),(4,v4,4),(5,v5,5),(6,v6,6),(8,v8,7),(9,v9,8),(10,v10,9)] m.pc=some j) (hc:([.fn 93 [.agg [.ref 5 [] 8 0 0,.ref 6 [] 44 0 0]] [],.fn 94 [.agg [.ref 5 [] 8 0 0,.ref 6 [] 44 0 0]] [],.fn 95 [.agg [.ref 5 [] 8 0 0,.ref 6 [] 44 0 0]] [],.fn 96 [.agg [.ref 5 [] 8 0 0,.ref 6 [] 44 0 0]] [],.fn 97 [.agg [.ref 5 [] 8 0 0,.ref 6 [] 44 0 0]] [],.fn 98 [.agg [.ref 5 [] 8 0 0,.ref 6 [] 44 0 0]] [],.fn 99 [.agg [.ref 5 [] 8 0 0,.ref 6 [] 44 0 0]] [],.fn 100 [.agg [.ref 5 [] 8 0 0,.ref 6 [] 44 0 0]] [],.fn 101 [.agg [.ref 5 [] 8 0 0,.ref 6 [] 44 0 0]] [],.fn 102 [.agg [.ref 5 [] 8 0 0,.ref 6 [] 44 0 0]] []]:List C)[j]?= some (.fn f [.agg [.ref 5 [] 8 0 0,.ref 6 [] 44 0 0]] []))
  (h:zb Tryz.prog f [⟨1,48,8,[zQ (w)],0⟩,⟨1,37,44,[zE (m)],0⟩] [.agg [.ref 0 [] 8 0 0,.ref 1 [] 44 0 0]] (Ce e) [⟨1,48,8,[zQ (w')],0⟩,⟨1,37,44,[zE (m')],0⟩]):zb Tryz.prog 66 [] [Cw w,Cm m] (.tup [Cw w',Cm m',Ce e]) []:=by
 refine zb.kI Tryz.func66 rfl ?_
 show qF Tryz.prog 0 ((Tryz.f66.body).getD .skip) _ _
 refine wi ?_
 conv=>whnf
 refine .inl ⟨rfl,_,_,.refl _,wi ?_⟩
 conv=>whnf
 refine ⟨_,_,(zM w m ok hl).frame rfl _,?_⟩;refine dd ?_
 refine ⟨fun _=>?_,fun h=>absurd ((hs).symm.trans h:true=false) (by decide)⟩;refine dd ?_
 (repeat ((first | apply ya | apply yb);refine dd ?_))
 refine ⟨_,_,(hm).frame rfl _,?_⟩;refine dd ?_
 (repeat ((first | apply ya | apply yb);refine dd ?_))
 refine .inl ⟨rfl,_,_,.refl _,wi ?_⟩
 conv=>whnf
 refine .inr ⟨⟨[0,1,2],[0,1],true⟩,by kernel_rfl,fun _=>rfl,fun t H=>t=(.za::.za::.ref 0 [] 8 0 0:: .ref 1 [] 44 0 0:: .ref 2 [] 8 0 0:: .ref 3 [] 44 0 0:: .ref 4 [] 23 0 0:: .ref 5 [] 8 0 0:: .ref 6 [] 44 0 0:: .za::.za::.za::.za::.za::.za::.za::.za::.za::.za::.za::.za::.za::.za::.za::.za::.za::.za::.za::.za::.za::.za::.za::.za::.za::.za::.za::.za::.za::.za::.za::.za::.za::.za::.za::.za::.za::.za::.za::.za::.za::.za::.za::.za::.za::.za::.za::.za::.za::.za::.za::.za::.za::.za::.za::.za::.za::.za::.za::[])∧H=[⟨1,48,8,[zQ (w)],0⟩,⟨1,37,44,[zE (m)],0⟩,⟨1,48,8,[zeW],0⟩,⟨1,37,44,[zeM],0⟩,⟨1,87,23,[qj qo],0⟩,⟨1,48,8,[zQ (w)],0⟩,⟨1,37,44,[zE (m)],0⟩],?_,?_⟩
 ·conv=>whnf
  refine ⟨_,zb.blind [] (qi w sw) rfl rfl rfl rfl rfl rfl rfl (fun _=>rfl) (fun _=>rfl),?_⟩;(conv=>whnf)
  repeat' (first | (exact trivial) | (refine ⟨rfl,?_⟩;(conv=>whnf)) | (exact ⟨_,_,zt.ren [0,1,2,3,4,5,6] [2,3,4,5,6,7,8] _ _ rfl rfl rfl rfl,rfl,rfl⟩) | (exact ⟨_,_,zt.ren [0,1,2,3,4,6,5] [2,3,4,5,6,7,8] _ _ rfl rfl rfl rfl,rfl,rfl⟩) | (refine And.intro ?_ ?_ <;> (conv=>whnf)))
 rintro _ _ ⟨rfl,rfl⟩
 conv=>whnf
 refine .inl ⟨rfl,_,_,.refl _,wi ?_⟩
 conv=>whnf
 refine .inl ⟨rfl,_,_,cE 8,znf w m (⟨1,48,8,[zQ (w)],0⟩) j f _ rfl hf hc ?_⟩
 (refine qV (K:=fun ex t H=>(ex=.ret∨ex=.normal)∧∃ s2,zt 0 ⟨t,H⟩ s2∧(yU Tryz.prog Tryz.f66 s2).map (xh 0 9)=some (.tup [Cw w',Cm m',Ce e])) ?_;conv=>whnf)
 rw [hcb]
 refine zr [5,6] (h) rfl rfl rfl rfl rfl rfl ?_;refine dd ?_
 refine .inl ⟨⟨false,[0,1,2],[5,6,8],[]⟩,by kernel_rfl,?_⟩;(conv=>whnf)
 repeat (refine ⟨rfl,?_⟩;conv=>whnf)
 exact ⟨.inl rfl,_,.refl _,rfl⟩
end Go.Wor
namespace Go.Wor
open Go.Ab Go.Proofs Go.Hy Go.Gat Go.Nam Go.Hos Go.Con Go.Sna
theorem zf8 {w:Wor} {m m':Mac} {e:Eve} {ls:List Lis} (sw:qC w) (ok:OkW w) (hl:i64 m.listen) (hs:z5 w m=true) (hm:zb Tryz.prog 92 [] [Cw w,Cm m] (Bo true) []) (j f:Nat) (hcb:qk Tryz.prog f=true) (hf:∀ v0 v1 v2 v3 v4 v5 v6 v8 v9 v10,x9 [(0,v0,0),(1,v1,1),(2,v2,2),(3,v3,3),(4,v4,4),(5,v5,5),(6,v6,6),(8,v8,7),(9,v9,8),(10,v10,9)] m.pc=some j) (hc:([.fn 93 [.agg [.ref 5 [] 8 0 0,.ref 6 [] 44 0 0]] [],.fn 94 [.agg [.ref 5 [] 8 0 0,.ref 6 [] 44 0 0]] [],.fn 95 [.agg [.ref 5 [] 8 0 0,.ref 6 [] 44 0 0]] [],.fn 96 [.agg [.ref 5 [] 8 0 0,.ref 6 [] 44 0 0]] [],.fn 97 [.agg [.ref 5 [] 8 0 0,.ref 6 [] 44 0 0]] [],.fn 98 [.agg [.ref 5 [] 8 0 0,.ref 6 [] 44 0 0]] [],.fn 99 [.agg [.ref 5 [] 8 0 0,.ref 6 [] 44 0 0]] [],.fn 100 [.agg [.ref 5 [] 8 0 0,.ref 6 [] 44 0 0]] [],.fn 101 [.agg [.ref 5 [] 8 0 0,.ref 6 [] 44 0 0]] [],.fn 102 [.agg [.ref 5 [] 8 0 0,.ref 6 [] 44 0 0]] []]:List C)[j]?= some (.fn f [.agg [.ref 5 [] 8 0 0,.ref 6 [] 44 0 0]] []))
  (hne:w.ze≠[]) (hll:ls.length=w.ze.length) (h:zb Tryz.prog f [⟨1,48,8,[[I w.zn,I w.current,I w.lock,lI w.pins,lV w.zd,.sl 2 [] 4 0 w.ze.length false,lCo w.counts,lR w.zm]],0⟩,⟨1,37,44,[zE (m)],0⟩,⟨2,77,4,(w.ze).map ql,0⟩] [.agg [.ref 0 [] 8 0 0,.ref 1 [] 44 0 0]] (Ce e) [⟨1,48,8,[[I w.zn,I w.current,I w.lock,lI w.pins,lV w.zd,.sl 2 [] 4 0 w.ze.length false,lCo w.counts,lR w.zm]],0⟩,⟨1,37,44,[zE (m')],0⟩,⟨2,77,4,(ls).map ql,0⟩]):zb Tryz.prog 66 [] [Cw w,Cm m] (.tup [Cw { w with ze:=ls },Cm m',Ce e]) []:=by
 obtain ⟨x,l,hx⟩:=List.exists_cons_of_ne_nil hne
 refine zb.kI Tryz.func66 rfl ?_
 show qF Tryz.prog 0 ((Tryz.f66.body).getD .skip) _ _
 refine wi ?_
 conv=>whnf
 refine .inl ⟨rfl,_,_,.refl _,wi ?_⟩
 conv=>whnf
 refine ⟨_,_,(zM w m ok hl).frame rfl _,?_⟩;refine dd ?_
 refine ⟨fun _=>?_,fun h=>absurd ((hs).symm.trans h:true=false) (by decide)⟩;refine dd ?_
 (repeat ((first | apply ya | apply yb);refine dd ?_))
 refine ⟨_,_,(hm).frame rfl _,?_⟩;refine dd ?_
 (repeat ((first | apply ya | apply yb);refine dd ?_))
 refine .inl ⟨rfl,_,_,.refl _,wi ?_⟩
 conv=>whnf
 refine .inr ⟨⟨[0,2],[0,1],true⟩,by kernel_rfl,fun _=>rfl,fun t H=>t=(.za::.za::.ref 0 [] 8 0 0:: .ref 1 [] 44 0 0:: .ref 2 [] 8 0 0:: .ref 3 [] 44 0 0:: .ref 4 [] 23 0 0:: .ref 5 [] 8 0 0:: .ref 6 [] 44 0 0:: .za::.za::.za::.za::.za::.za::.za::.za::.za::.za::.za::.za::.za::.za::.za::.za::.za::.za::.za::.za::.za::.za::.za::.za::.za::.za::.za::.za::.za::.za::.za::.za::.za::.za::.za::.za::.za::.za::.za::.za::.za::.za::.za::.za::.za::.za::.za::.za::.za::.za::.za::.za::.za::.za::.za::.za::.za::.za::.za::[])∧H=[⟨1,48,8,[zQ (w)],0⟩,⟨1,37,44,[zE (m)],0⟩,⟨1,48,8,[zeW],0⟩,⟨1,37,44,[zeM],0⟩,⟨1,87,23,[qj qo],0⟩,⟨1,48,8,[[I w.zn,I w.current,I w.lock,lI w.pins,lV w.zd,.sl 7 [] 4 0 w.ze.length false,lCo w.counts,lR w.zm]],0⟩,⟨1,37,44,[zE (m)],0⟩,⟨2,77,4,(w.ze).map ql,0⟩],?_,?_⟩
 ·conv=>whnf
  repeat' (first | (exact trivial) | (refine ⟨rfl,?_⟩;(conv=>whnf)) | (refine zr [] (xY w sw x l hx) rfl rfl rfl rfl rfl rfl ?_;(conv=>whnf)) | (exact ⟨_,_,zt.ren [0,1,2,3,4,5,6,7] [2,3,4,5,6,7,8] _ _ rfl rfl rfl rfl,rfl,rfl⟩) | (exact ⟨_,_,zt.ren [0,1,2,3,4,5,7,6] [2,3,4,5,6,7,8] _ _ rfl rfl rfl rfl,rfl,rfl⟩) | (exact ⟨_,_,zt.ren [0,1,2,3,4,6,5,7] [2,3,4,5,6,7,8] _ _ rfl rfl rfl rfl,rfl,rfl⟩) | (exact ⟨_,_,zt.ren [0,1,2,3,4,6,7,5] [2,3,4,5,6,7,8] _ _ rfl rfl rfl rfl,rfl,rfl⟩) | (exact ⟨_,_,zt.ren [0,1,2,3,4,7,5,6] [2,3,4,5,6,7,8] _ _ rfl rfl rfl rfl,rfl,rfl⟩) | (exact ⟨_,_,zt.ren [0,1,2,3,4,7,6,5] [2,3,4,5,6,7,8] _ _ rfl rfl rfl rfl,rfl,rfl⟩) | (refine And.intro ?_ ?_ <;> (conv=>whnf)))
 rintro _ _ ⟨rfl,rfl⟩
 conv=>whnf
 refine .inl ⟨rfl,_,_,.refl _,wi ?_⟩
 conv=>whnf
 refine .inl ⟨rfl,_,_,(zt.ren [0,1,2,3,4,5,6,8,7] [2,3,4,5,6,7,8,9] _ _ rfl rfl rfl rfl).trans (cC),zne w m (⟨1,48,8,[[I w.zn,I w.current,I w.lock,lI w.pins,lV w.zd,.sl 8 [] 4 0 w.ze.length false,lCo w.counts,lR w.zm]],0⟩) (⟨2,77,4,(w.ze).map ql,0⟩) j f _ rfl hf hc ?_⟩
 (refine qV (K:=fun ex t H=>(ex=.ret∨ex=.normal)∧∃ s2,zt 0 ⟨t,H⟩ s2∧(yU Tryz.prog Tryz.f66 s2).map (xh 0 9)=some (.tup [Cw { w with ze:=ls },Cm m',Ce e])) ?_;conv=>whnf)
 rw [hcb]
 refine zr [5,6,8] (h) rfl rfl rfl rfl rfl rfl ?_;refine dd ?_
 refine .inl ⟨⟨false,[0,1,2],[5,6,9],[]⟩,by kernel_rfl,?_⟩;(conv=>whnf)
 repeat (refine ⟨rfl,?_⟩;conv=>whnf)
 exact ⟨.inl rfl,_,zt.zS 2 0 5 rfl rfl rfl rfl (.inr rfl) (by simp) (by rw [List.length_map];exact hll.symm) (shut_map (enc:=ql) (fun _=>rfl) _) (zY rfl),rfl⟩
end Go.Wor
namespace Go.Wor
open Go.Ab Go.Proofs Go.Hy Go.Gat Go.Nam Go.Hos Go.Con Go.Sna
theorem zfZ (w:Wor) (h:qC w) (x:Ret) (l:List Ret) (hx:w.zm=x::l):zb Tryz.prog 83 [] [Cw w] (.agg [I w.zn,I w.current,I w.lock,lI w.pins,.sl 0 [] 5 0 w.zd.length false,lL w.ze,lCo w.counts,.sl 1 [] 3 0 w.zm.length false]) [⟨2,71,5,(w.zd).map zx,0⟩,⟨2,96,3,(w.zm).map jx,0⟩]:=by
 have hl:l.length < 1000000000:=by have:=h.zm;rw [hx] at this;simp at this;omega
 have hc:=zg4 x l hl
 rw [<- hx] at hc
 refine zaD (fn:=Tryz.f83) Tryz.func83 rfl ?_;conv=>whnf
 refine ⟨_,_,(xX w.pins h.pins).frame rfl _,?_⟩;refine dd ?_
 refine zr [] (vC w.zd h.zd.1 fun v hv=>ja v (h.zd.2 v hv)) rfl rfl rfl rfl rfl rfl ?_;refine dd ?_
 refine ⟨_,_,(yy w.ze h.ze).frame rfl _,?_⟩;refine dd ?_
 refine zr [] (vB w.counts h.counts.1 fun r hr=>j7 r (h.counts.2 r hr)) rfl rfl rfl rfl rfl rfl ?_;refine dd ?_
 refine zr [] (hc) rfl rfl rfl rfl rfl rfl ?_;refine dd ?_
 refine ⟨.inl rfl,_,_,zt.zS 1 0 6 rfl rfl rfl rfl (.inr rfl) rfl (by simp) (shut_map (enc:=zJ) (fun _=>rfl) w.counts) (zY rfl),rfl,?_⟩
 exact zt.ren [3,5] [0] _ _ rfl rfl rfl (zc rfl (zc rfl (zc rfl (zc rfl (zc (zi fun r hr c hc=>((shut_map (enc:=zJ) (fun _=>rfl) w.counts) r hr c hc).2) rfl)))))
theorem zf7 {w:Wor} {m m':Mac} {e:Eve} {vs:List Ver} {rs:List Ret} (sw:qC w) (ok:OkW w) (hl:i64 m.listen) (hs:z5 w m=true) (hm:zb Tryz.prog 92 [] [Cw w,Cm m] (Bo true) []) (j f:Nat) (hcb:qk Tryz.prog f=true) (hf:∀ v0 v1 v2 v3 v4 v5 v6 v8 v9 v10,x9 [(0,v0,0),(1,v1,1),(2,v2,2),(3,v3,3),(4,v4,4),(5,v5,5),(6,v6,6),(8,v8,7),(9,v9,8),(10,v10,9)] m.pc=some j) (hc:([.fn 93 [.agg [.ref 5 [] 8 0 0,.ref 6 [] 44 0 0]] [],.fn 94 [.agg [.ref 5 [] 8 0 0,.ref 6 [] 44 0 0]] [],.fn 95 [.agg [.ref 5 [] 8 0 0,.ref 6 [] 44 0 0]] [],.fn 96 [.agg [.ref 5 [] 8 0 0,.ref 6 [] 44 0 0]] [],.fn 97 [.agg [.ref 5 [] 8 0 0,.ref 6 [] 44 0 0]] [],.fn 98 [.agg [.ref 5 [] 8 0 0,.ref 6 [] 44 0 0]] [],.fn 99 [.agg [.ref 5 [] 8 0 0,.ref 6 [] 44 0 0]] [],.fn 100 [.agg [.ref 5 [] 8 0 0,.ref 6 [] 44 0 0]] [],.fn 101 [.agg [.ref 5 [] 8 0 0,.ref 6 [] 44 0 0]] [],.fn 102 [.agg [.ref 5 [] 8 0 0,.ref 6 [] 44 0 0]] []]:List C)[j]?= some (.fn f [.agg [.ref 5 [] 8 0 0,.ref 6 [] 44 0 0]] []))
  (hne:w.zd≠[]) (hne2:w.zm≠[]) (hvl:vs.length=w.zd.length) (hrl:rs.length=w.zm.length) (h:zb Tryz.prog f [⟨1,48,8,[[I w.zn,I w.current,I w.lock,lI w.pins,.sl 2 [] 5 0 w.zd.length false,lL w.ze,lCo w.counts,.sl 3 [] 3 0 w.zm.length false]],0⟩,⟨1,37,44,[zE (m)],0⟩,⟨2,71,5,(w.zd).map zx,0⟩,⟨2,96,3,(w.zm).map jx,0⟩] [.agg [.ref 0 [] 8 0 0,.ref 1 [] 44 0 0]] (Ce e) [⟨1,48,8,[[I w.zn,I w.current,I w.lock,lI w.pins,.sl 2 [] 5 0 w.zd.length false,lL w.ze,lCo w.counts,.sl 3 [] 3 0 w.zm.length false]],0⟩,⟨1,37,44,[zE (m')],0⟩,⟨2,71,5,(vs).map zx,0⟩,⟨2,96,3,(rs).map jx,0⟩]):zb Tryz.prog 66 [] [Cw w,Cm m] (.tup [Cw { w with zd:=vs,zm:=rs },Cm m',Ce e]) []:=by
 obtain ⟨v,vl,hv⟩:=List.exists_cons_of_ne_nil hne
 obtain ⟨r,rl,hr⟩:=List.exists_cons_of_ne_nil hne2
 refine zb.kI Tryz.func66 rfl ?_
 show qF Tryz.prog 0 ((Tryz.f66.body).getD .skip) _ _
 refine wi ?_
 conv=>whnf
 refine .inl ⟨rfl,_,_,.refl _,wi ?_⟩
 conv=>whnf
 refine ⟨_,_,(zM w m ok hl).frame rfl _,?_⟩;refine dd ?_
 refine ⟨fun _=>?_,fun h=>absurd ((hs).symm.trans h:true=false) (by decide)⟩;refine dd ?_
 (repeat ((first | apply ya | apply yb);refine dd ?_))
 refine ⟨_,_,(hm).frame rfl _,?_⟩;refine dd ?_
 (repeat ((first | apply ya | apply yb);refine dd ?_))
 refine .inl ⟨rfl,_,_,.refl _,wi ?_⟩
 conv=>whnf
 refine .inr ⟨⟨[0,2],[0,1],true⟩,by kernel_rfl,fun _=>rfl,fun t H=>t=(.za::.za::.ref 0 [] 8 0 0:: .ref 1 [] 44 0 0:: .ref 2 [] 8 0 0:: .ref 3 [] 44 0 0:: .ref 4 [] 23 0 0:: .ref 5 [] 8 0 0:: .ref 6 [] 44 0 0:: .za::.za::.za::.za::.za::.za::.za::.za::.za::.za::.za::.za::.za::.za::.za::.za::.za::.za::.za::.za::.za::.za::.za::.za::.za::.za::.za::.za::.za::.za::.za::.za::.za::.za::.za::.za::.za::.za::.za::.za::.za::.za::.za::.za::.za::.za::.za::.za::.za::.za::.za::.za::.za::.za::.za::.za::.za::.za::.za::[])∧H=[⟨1,48,8,[zQ (w)],0⟩,⟨1,37,44,[zE (m)],0⟩,⟨1,48,8,[zeW],0⟩,⟨1,37,44,[zeM],0⟩,⟨1,87,23,[qj qo],0⟩,⟨1,48,8,[[I w.zn,I w.current,I w.lock,lI w.pins,.sl 7 [] 5 0 w.zd.length false,lL w.ze,lCo w.counts,.sl 8 [] 3 0 w.zm.length false]],0⟩,⟨1,37,44,[zE (m)],0⟩,⟨2,71,5,(w.zd).map zx,0⟩,⟨2,96,3,(w.zm).map jx,0⟩],?_,?_⟩
 ·conv=>whnf
  repeat' (first | (exact trivial) | (refine ⟨rfl,?_⟩;(conv=>whnf)) | (refine zr [] (zfZ w sw r rl hr) rfl rfl rfl rfl rfl rfl ?_;(conv=>whnf)) | (exact ⟨_,_,zt.ren [0,1,2,3,4,5,6,7,8] [2,3,4,5,6,7,8] _ _ rfl rfl rfl rfl,rfl,rfl⟩) | (exact ⟨_,_,zt.ren [0,1,2,3,4,5,6,8,7] [2,3,4,5,6,7,8] _ _ rfl rfl rfl rfl,rfl,rfl⟩) | (exact ⟨_,_,zt.ren [0,1,2,3,4,5,7,6,8] [2,3,4,5,6,7,8] _ _ rfl rfl rfl rfl,rfl,rfl⟩) | (exact ⟨_,_,zt.ren [0,1,2,3,4,5,7,8,6] [2,3,4,5,6,7,8] _ _ rfl rfl rfl rfl,rfl,rfl⟩) | (exact ⟨_,_,zt.ren [0,1,2,3,4,5,8,6,7] [2,3,4,5,6,7,8] _ _ rfl rfl rfl rfl,rfl,rfl⟩) | (exact ⟨_,_,zt.ren [0,1,2,3,4,5,8,7,6] [2,3,4,5,6,7,8] _ _ rfl rfl rfl rfl,rfl,rfl⟩) | (exact ⟨_,_,zt.ren [0,1,2,3,4,6,5,7,8] [2,3,4,5,6,7,8] _ _ rfl rfl rfl rfl,rfl,rfl⟩) | (exact ⟨_,_,zt.ren [0,1,2,3,4,6,5,8,7] [2,3,4,5,6,7,8] _ _ rfl rfl rfl rfl,rfl,rfl⟩) | (exact ⟨_,_,zt.ren [0,1,2,3,4,6,7,5,8] [2,3,4,5,6,7,8] _ _ rfl rfl rfl rfl,rfl,rfl⟩) | (exact ⟨_,_,zt.ren [0,1,2,3,4,6,7,8,5] [2,3,4,5,6,7,8] _ _ rfl rfl rfl rfl,rfl,rfl⟩) | (exact ⟨_,_,zt.ren [0,1,2,3,4,6,8,5,7] [2,3,4,5,6,7,8] _ _ rfl rfl rfl rfl,rfl,rfl⟩) | (exact ⟨_,_,zt.ren [0,1,2,3,4,6,8,7,5] [2,3,4,5,6,7,8] _ _ rfl rfl rfl rfl,rfl,rfl⟩) | (exact ⟨_,_,zt.ren [0,1,2,3,4,7,5,6,8] [2,3,4,5,6,7,8] _ _ rfl rfl rfl rfl,rfl,rfl⟩) | (exact ⟨_,_,zt.ren [0,1,2,3,4,7,5,8,6] [2,3,4,5,6,7,8] _ _ rfl rfl rfl rfl,rfl,rfl⟩) | (exact ⟨_,_,zt.ren [0,1,2,3,4,7,6,5,8] [2,3,4,5,6,7,8] _ _ rfl rfl rfl rfl,rfl,rfl⟩) | (exact ⟨_,_,zt.ren [0,1,2,3,4,7,6,8,5] [2,3,4,5,6,7,8] _ _ rfl rfl rfl rfl,rfl,rfl⟩) | (exact ⟨_,_,zt.ren [0,1,2,3,4,7,8,5,6] [2,3,4,5,6,7,8] _ _ rfl rfl rfl rfl,rfl,rfl⟩) | (exact ⟨_,_,zt.ren [0,1,2,3,4,7,8,6,5] [2,3,4,5,6,7,8] _ _ rfl rfl rfl rfl,rfl,rfl⟩) | (exact ⟨_,_,zt.ren [0,1,2,3,4,8,5,6,7] [2,3,4,5,6,7,8] _ _ rfl rfl rfl rfl,rfl,rfl⟩) | (exact ⟨_,_,zt.ren [0,1,2,3,4,8,5,7,6] [2,3,4,5,6,7,8] _ _ rfl rfl rfl rfl,rfl,rfl⟩) | (exact ⟨_,_,zt.ren [0,1,2,3,4,8,6,5,7] [2,3,4,5,6,7,8] _ _ rfl rfl rfl rfl,rfl,rfl⟩) | (exact ⟨_,_,zt.ren [0,1,2,3,4,8,6,7,5] [2,3,4,5,6,7,8] _ _ rfl rfl rfl rfl,rfl,rfl⟩) | (exact ⟨_,_,zt.ren [0,1,2,3,4,8,7,5,6] [2,3,4,5,6,7,8] _ _ rfl rfl rfl rfl,rfl,rfl⟩) | (exact ⟨_,_,zt.ren [0,1,2,3,4,8,7,6,5] [2,3,4,5,6,7,8] _ _ rfl rfl rfl rfl,rfl,rfl⟩) | (refine And.intro ?_ ?_ <;> (conv=>whnf)))
 rintro _ _ ⟨rfl,rfl⟩
 conv=>whnf
 refine .inl ⟨rfl,_,_,.refl _,wi ?_⟩
 conv=>whnf
 refine .inl ⟨rfl,_,_,(zt.ren [0,1,2,3,4,5,6,9,7,8] [2,3,4,5,6,7,8,9] _ _ rfl rfl rfl rfl).trans (cC),znd w m (⟨1,48,8,[[I w.zn,I w.current,I w.lock,lI w.pins,.sl 8 [] 5 0 w.zd.length false,lL w.ze,lCo w.counts,.sl 9 [] 3 0 w.zm.length false]],0⟩) (⟨2,71,5,(w.zd).map zx,0⟩) (⟨2,96,3,(w.zm).map jx,0⟩) j f _ rfl hf hc ?_⟩
 (refine qV (K:=fun ex t H=>(ex=.ret∨ex=.normal)∧∃ s2,zt 0 ⟨t,H⟩ s2∧(yU Tryz.prog Tryz.f66 s2).map (xh 0 9)=some (.tup [Cw { w with zd:=vs,zm:=rs },Cm m',Ce e])) ?_;conv=>whnf)
 rw [hcb]
 refine zr [5,6,8,9] (h) rfl rfl rfl rfl rfl rfl ?_;refine dd ?_
 refine .inl ⟨⟨false,[0,1,2],[5,6,10],[]⟩,by kernel_rfl,?_⟩;(conv=>whnf)
 repeat (refine ⟨rfl,?_⟩;conv=>whnf)
 exact ⟨.inl rfl,_,(zt.zS 2 0 4 rfl rfl rfl rfl (.inr rfl) (by simp) (by rw [List.length_map];exact hvl.symm) (shut_map (enc:=zx) (fun _=>rfl) _) (zY rfl)).trans (zt.zS 2 0 7 rfl rfl rfl rfl (.inr rfl) (by simp) (by rw [List.length_map];exact hrl.symm) (shut_map (enc:=jx) (fun _=>rfl) _) (zY rfl)),rfl⟩
end Go.Wor
