import Derived.Test.YtgllekalddijbaaGreatUV
import Derived.Test.YtgllekalddijbaaGreatUW
set_option linter.unusedVariables false
set_option linter.unusedSimpArgs false
set_option linter.unusedSectionVars false
set_option maxRecDepth 100000
set_option maxHeartbeats 4000000
namespace Go.Wor
open Go.Ab Go.Proofs Go.Hy Go.Gat Go.Nam Go.Hos Go.Con Go.Sna
end Go.Wor
namespace Go.Wor
open Go.Ab Go.Proofs Go.Hy Go.Gat Go.Nam Go.Hos Go.Con Go.Sna
abbrev drE (m:Mac):Eve:={ xF with zC:=m.zC,access:=1,version:= -1 }
abbrev zmU (m:Mac):Eve:={ xF with zC:=m.zC,access:=2,cell:=4,version:= -1,value:=1,zdg:=true }
end Go.Wor
namespace Go.Wor
open Go.Ab Go.Proofs Go.Hy Go.Gat Go.Nam Go.Hos Go.Con Go.Sna
abbrev atM (m:Mac) (p i:Int):Mac:={ m with pc:=p,i:=i }
theorem zN (m:Mac) (a b c:Int):zb Tryz.prog 286 [⟨1,43,44,[zW (m)],0⟩] [.agg [.za,.ref 0 [] 44 0 0],I a,I b,I c] (Ce (evO m a b c)) [⟨1,43,44,[zW (m)],0⟩]:=by
 refine jo (fn:=Tryz.f286) Tryz.func286 rfl (Nat.le_refl _) ?_;conv=>whnf
 (repeat (refine ⟨rfl,?_⟩;conv=>whnf));exact ⟨.inl rfl,_,_,.refl _,rfl,cE 1⟩
theorem qE (m:Mac) (p i:Int):zb Tryz.prog 287 [⟨1,43,44,[zW (m)],0⟩] [.agg [.za,.ref 0 [] 44 0 0],I p,I i] (.tup []) [⟨1,43,44,[zW ({ m with pc:=p,i:=i })],0⟩]:=by
 refine jo (fn:=Tryz.f287) Tryz.func287 rfl (Nat.le_refl _) ?_;conv=>whnf
 refine .inl ⟨⟨false,[1,3],[1],[]⟩,by kernel_rfl,?_⟩;(conv=>whnf)
 repeat (refine ⟨rfl,?_⟩;conv=>whnf)
 exact ⟨.inr rfl,_,_,.refl _,rfl,cE 1⟩
theorem zaB (m:Mac) (e:Eve) (a:Ans):zb Tryz.prog 285 [⟨1,43,44,[zW (m)],0⟩] [.agg [.za,.ref 0 [] 44 0 0],Ce e,.agg (xq a)] (Ce { e with done:=true,answer:=a }) [⟨1,43,44,[zW ({ m with done:=true,answer:=a })],0⟩]:=by
 refine jo (fn:=Tryz.f285) Tryz.func285 rfl (Nat.le_refl _) ?_;conv=>whnf
 refine .inl ⟨⟨false,[1,3,4],[1,3],[]⟩,by kernel_rfl,?_⟩;(conv=>whnf)
 repeat (refine ⟨rfl,?_⟩;conv=>whnf)
 refine .inl ⟨⟨false,[0],[3],[]⟩,by kernel_rfl,?_⟩;(conv=>whnf)
 repeat (refine ⟨rfl,?_⟩;conv=>whnf)
 (repeat (refine ⟨rfl,?_⟩;conv=>whnf));exact ⟨.inl rfl,_,_,.refl _,rfl,cE 1⟩
theorem zbd (w:Wor) (m:Mac):zb Tryz.prog 226 [⟨1,28,8,[zU (w)],0⟩,⟨1,43,44,[zW (m)],0⟩] [.agg [.ref 0 [] 8 0 0,.ref 1 [] 44 0 0]] (Ce (evO m 1 1 w.zj)) [⟨1,28,8,[zU (w)],0⟩,⟨1,43,44,[zW ({ m with zj:=w.zj,pc:=2,i:=0 })],0⟩]:=by
 refine jo (fn:=Tryz.f226) Tryz.func226 rfl (Nat.le_refl _) ?_;conv=>whnf
 refine .inl ⟨⟨false,[1,3,6],[0,2],[]⟩,by kernel_rfl,?_⟩;(conv=>whnf)
 repeat (refine ⟨rfl,?_⟩;conv=>whnf)
 refine zq [1] (qE { m with zj:=w.zj } 2 0) rfl rfl rfl rfl rfl rfl ?_;refine dd ?_
 refine .inl ⟨⟨true,[],[],[]⟩,by kernel_rfl,?_⟩;(conv=>whnf)
 refine zq [1] (zN { m with zj:=w.zj,pc:=2,i:=0 } 1 1 w.zj) rfl rfl rfl rfl rfl rfl ?_;refine dd ?_
 (repeat (refine ⟨rfl,?_⟩;conv=>whnf));exact ⟨.inl rfl,_,_,.refl _,rfl,cE 2⟩
theorem zdX (w:Wor) (m:Mac) (h:w.lock≠0):zb Tryz.prog 225 [⟨1,28,8,[zU (w)],0⟩,⟨1,43,44,[zW (m)],0⟩] [.agg [.ref 0 [] 8 0 0,.ref 1 [] 44 0 0]] (Ce { evO m 5 14 1 with done:=true,answer:=zcy 12 }) [⟨1,28,8,[zU (w)],0⟩,⟨1,43,44,[zW ({ m with done:=true,answer:=zcy 12 })],0⟩]:=by
 refine jo (fn:=Tryz.f225) Tryz.func225 rfl (Nat.le_refl _) ?_;conv=>whnf
 refine ⟨fun _=>?_,fun hh=>absurd hh (by simpa using h)⟩
 refine dd ?_
 refine .inl ⟨⟨true,[0,1],[2],[2]⟩,by kernel_rfl,?_⟩;(conv=>whnf)
 refine zq [1] (zN m 5 14 1) rfl rfl rfl rfl rfl rfl ?_;refine dd ?_
 repeat (refine ⟨rfl,?_⟩;conv=>whnf)
 refine zq [1] (zaB m (evO m 5 14 1) (zcy 12)) rfl rfl rfl rfl rfl rfl ?_;refine dd ?_
 (repeat (refine ⟨rfl,?_⟩;conv=>whnf));exact ⟨.inl rfl,_,_,.refl _,rfl,cE 2⟩
theorem zcH (w:Wor) (m:Mac) (h:w.lock=0):zb Tryz.prog 225 [⟨1,28,8,[zU (w)],0⟩,⟨1,43,44,[zW (m)],0⟩] [.agg [.ref 0 [] 8 0 0,.ref 1 [] 44 0 0]] (Ce (evO m 4 14 1)) [⟨1,28,8,[zU ({ w with lock:=1 })],0⟩,⟨1,43,44,[zW ({ m with pc:=1 })],0⟩]:=by
 refine jo (fn:=Tryz.f225) Tryz.func225 rfl (Nat.le_refl _) ?_;conv=>whnf
 refine ⟨fun hh=>absurd hh (by simp [h]),fun _=>?_⟩
 refine dd ?_
 refine .inl ⟨⟨false,[1,3],[2],[]⟩,by kernel_rfl,?_⟩;(conv=>whnf)
 repeat (refine ⟨rfl,?_⟩;conv=>whnf)
 refine zq [1] (zN { m with pc:=1 } 4 14 1) rfl rfl rfl rfl rfl rfl ?_;refine dd ?_
 (repeat (refine ⟨rfl,?_⟩;conv=>whnf));exact ⟨.inl rfl,_,_,.refl _,rfl,cE 2⟩
def lpM (w:Wor) (m:Mac) (p:Int):Mac:=if p≠0∧p≠IntKind.i64.wrap (m.zj+1) then atM m 4 0 else if IntKind.i64.wrap (m.i+1) < w.pins.length then { m with i:=IntKind.i64.wrap (m.i+1) } else atM m 3 (IntKind.i64.wrap (m.i+1))
theorem zcG (w:Wor) (m:Mac) (p:Int) (h0:0<=m.i) (hp:w.pins[m.i.toNat]?= some p):zb Tryz.prog 227 [⟨1,28,8,[zU (w)],0⟩,⟨1,43,44,[zW (m)],0⟩] [.agg [.ref 0 [] 8 0 0,.ref 1 [] 44 0 0]] (Ce (evO m 1 2 p)) [⟨1,28,8,[zU (w)],0⟩,⟨1,43,44,[zW (lpM w m p)],0⟩]:=by
 have hg:(w.pins.map encI)[m.i.toNat]?= some (encI p):=by rw [List.getElem?_map,hp];rfl
 have ml:(w.pins.map encI).length=w.pins.length:=List.length_map ..
 refine jo (fn:=Tryz.f227) Tryz.func227 rfl (Nat.le_refl _) ?_;conv=>whnf
 refine .inl ⟨⟨false,[],[],[]⟩,by kernel_rfl,?_⟩;(conv=>whnf)
 (refine ⟨h0,_,hg,?_⟩);refine dd ?_
 refine ⟨fun q1=>?_,fun q1=>?_⟩
 ·refine dd ?_
  refine ⟨fun q2=>?_,fun q2=>?_⟩
  ·rw [show lpM w m p=atM m 4 0 from if_pos ⟨by simpa using q1,by simpa using q2⟩]
   refine dd ?_
   (repeat ((first | apply ya | apply yb);refine dd ?_))
   refine zq [1] (qE m 4 0) rfl rfl rfl rfl rfl rfl ?_;refine dd ?_
   refine zq [1] (zN (atM m 4 0) 1 2 p) rfl rfl rfl rfl rfl rfl ?_;refine dd ?_
   (repeat (refine ⟨rfl,?_⟩;conv=>whnf));exact ⟨.inl rfl,_,_,.refl _,rfl,cE 2⟩
  ·have q:¬(p≠0∧p≠IntKind.i64.wrap (m.zj+1)):=fun hh=>hh.2 (by simpa using q2)
   refine dd ?_
   (repeat ((first | apply ya | apply yb);refine dd ?_))
   (rw [show lpM w m p=_ from if_neg q]);refine .inl ⟨⟨false,[],[],[]⟩,by kernel_rfl,?_⟩;(conv=>whnf);(rw [ml]);refine ⟨fun q3=>?_,fun q3=>?_⟩;(focus ((rw [if_pos (by simpa using q3)]);refine dd ?_;refine zq [1] (zN { m with i:=IntKind.i64.wrap (m.i+1) } 1 2 p) rfl rfl rfl rfl rfl rfl ?_;refine dd ?_;(repeat (refine ⟨rfl,?_⟩;conv=>whnf));exact ⟨.inl rfl,_,_,.refl _,rfl,cE 2⟩));(rw [if_neg (by simpa using q3)]);refine dd ?_;refine .inl ⟨⟨true,[],[],[]⟩,by kernel_rfl,?_⟩;(conv=>whnf);refine zq [1] (qE m 3 (IntKind.i64.wrap (m.i+1))) rfl rfl rfl rfl rfl rfl ?_;refine dd ?_;(repeat (refine ⟨rfl,?_⟩;conv=>whnf));refine zq [1] (zN (atM m 3 (IntKind.i64.wrap (m.i+1))) 1 2 p) rfl rfl rfl rfl rfl rfl ?_;refine dd ?_;(repeat (refine ⟨rfl,?_⟩;conv=>whnf));exact ⟨.inl rfl,_,_,.refl _,rfl,cE 2⟩
 ·have q:¬(p≠0∧p≠IntKind.i64.wrap (m.zj+1)):=fun hh=>hh.1 (by simpa using q1)
  refine dd ?_
  (repeat ((first | apply ya | apply yb);refine dd ?_))
  (rw [show lpM w m p=_ from if_neg q]);refine .inl ⟨⟨false,[],[],[]⟩,by kernel_rfl,?_⟩;(conv=>whnf);(rw [ml]);refine ⟨fun q3=>?_,fun q3=>?_⟩;(focus ((rw [if_pos (by simpa using q3)]);refine dd ?_;refine zq [1] (zN { m with i:=IntKind.i64.wrap (m.i+1) } 1 2 p) rfl rfl rfl rfl rfl rfl ?_;refine dd ?_;(repeat (refine ⟨rfl,?_⟩;conv=>whnf));exact ⟨.inl rfl,_,_,.refl _,rfl,cE 2⟩));(rw [if_neg (by simpa using q3)]);refine dd ?_;refine .inl ⟨⟨true,[],[],[]⟩,by kernel_rfl,?_⟩;(conv=>whnf);refine zq [1] (qE m 3 (IntKind.i64.wrap (m.i+1))) rfl rfl rfl rfl rfl rfl ?_;refine dd ?_;(repeat (refine ⟨rfl,?_⟩;conv=>whnf));refine zq [1] (zN (atM m 3 (IntKind.i64.wrap (m.i+1))) 1 2 p) rfl rfl rfl rfl rfl rfl ?_;refine dd ?_;(repeat (refine ⟨rfl,?_⟩;conv=>whnf));exact ⟨.inl rfl,_,_,.refl _,rfl,cE 2⟩
theorem wY (w:Wor) (m:Mac) (h:¬(w.zj=m.zj∧w.zj < 1000000000000)):zb Tryz.prog 228 [⟨1,28,8,[zU (w)],0⟩,⟨1,43,44,[zW (m)],0⟩] [.agg [.ref 0 [] 8 0 0,.ref 1 [] 44 0 0]] (Ce (evO m 5 1 w.zj)) [⟨1,28,8,[zU (w)],0⟩,⟨1,43,44,[zW (atM m 4 0)],0⟩]:=by
 refine jo (fn:=Tryz.f228) Tryz.func228 rfl (Nat.le_refl _) ?_;conv=>whnf
 refine .inl ⟨⟨false,[],[],[]⟩,by kernel_rfl,?_⟩;(conv=>whnf)
 refine ⟨fun q1=>?_,fun q1=>?_⟩
 ·refine dd ?_
  refine ⟨fun q2=>?_,fun q2=>?_⟩
  ·exact absurd ⟨by simpa using q1,by simpa using q2⟩ h
  ·refine dd ?_
   (repeat ((first | apply ya | apply yb);refine dd ?_))
   refine zq [1] (qE m 4 0) rfl rfl rfl rfl rfl rfl ?_;refine dd ?_;refine .inl ⟨⟨true,[],[],[]⟩,by kernel_rfl,?_⟩;(conv=>whnf);refine zq [1] (zN (atM m 4 0) 5 1 w.zj) rfl rfl rfl rfl rfl rfl ?_;refine dd ?_;(repeat (refine ⟨rfl,?_⟩;conv=>whnf));exact ⟨.inl rfl,_,_,.refl _,rfl,cE 2⟩
 ·refine dd ?_
  (repeat ((first | apply ya | apply yb);refine dd ?_))
  refine zq [1] (qE m 4 0) rfl rfl rfl rfl rfl rfl ?_;refine dd ?_;refine .inl ⟨⟨true,[],[],[]⟩,by kernel_rfl,?_⟩;(conv=>whnf);refine zq [1] (zN (atM m 4 0) 5 1 w.zj) rfl rfl rfl rfl rfl rfl ?_;refine dd ?_;(repeat (refine ⟨rfl,?_⟩;conv=>whnf));exact ⟨.inl rfl,_,_,.refl _,rfl,cE 2⟩
theorem kS (w:Wor) (m:Mac) (h1:w.zj=m.zj) (h2:w.zj < 1000000000000):zb Tryz.prog 228 [⟨1,28,8,[zU (w)],0⟩,⟨1,43,44,[zW (m)],0⟩] [.agg [.ref 0 [] 8 0 0,.ref 1 [] 44 0 0]] (Ce (evO m 4 1 (IntKind.i64.wrap (w.zj+1)))) [⟨1,28,8,[zU ({ w with zj:=IntKind.i64.wrap (w.zj+1) })],0⟩,⟨1,43,44,[zW ({ atM m 4 0 with zj:=IntKind.i64.wrap (w.zj+1) })],0⟩]:=by
 refine jo (fn:=Tryz.f228) Tryz.func228 rfl (Nat.le_refl _) ?_;conv=>whnf
 refine .inl ⟨⟨false,[],[],[]⟩,by kernel_rfl,?_⟩;(conv=>whnf)
 refine ⟨fun _=>?_,fun hh=>absurd hh (by simpa using h1)⟩
 refine dd ?_
 refine ⟨fun _=>?_,fun hh=>absurd hh (by simp;omega)⟩
 refine dd ?_
 (repeat ((first | apply ya | apply yb);refine dd ?_))
 refine .inl ⟨⟨false,[1,3,6],[0,2],[]⟩,by kernel_rfl,?_⟩;(conv=>whnf)
 repeat (refine ⟨rfl,?_⟩;conv=>whnf)
 refine zq [1] (qE { m with zj:=IntKind.i64.wrap (w.zj+1) } 4 0) rfl rfl rfl rfl rfl rfl ?_;refine dd ?_
 refine .inl ⟨⟨true,[],[],[]⟩,by kernel_rfl,?_⟩;(conv=>whnf)
 refine zq [1] (zN { atM m 4 0 with zj:=IntKind.i64.wrap (w.zj+1) } 4 1 (IntKind.i64.wrap (w.zj+1))) rfl rfl rfl rfl rfl rfl ?_;refine dd ?_
 (repeat (refine ⟨rfl,?_⟩;conv=>whnf));exact ⟨.inl rfl,_,_,.refl _,rfl,cE 2⟩
end Go.Wor
namespace Go.Wor
open Go.Ab Go.Proofs Go.Hy Go.Gat Go.Nam Go.Hos Go.Con Go.Sna
def qd (v:Ver):List En:=v.zk.flatMap (·.ends)
structure zhE (v:Ver):Prop where
 zk:v.zk.length<=1000
 ends : ∀ g ∈ v.zk, g.ends.length <= 1000
theorem zbO:∀ (l:List Gr),(∀ g ∈ l,g.ends.length<=1000)->(l.flatMap (·.ends)).length<=l.length * 1000
 | [],_=>by simp
 | g::l,h=>by
  have:=zbO l fun x hx=>h x (List.mem_cons_of_mem _ hx)
  have:=h g (List.mem_cons_self ..)
  simp only [List.flatMap_cons,List.length_append,List.length_cons]
  omega
theorem zaG (v:Ver) (h:zhE v):zb Tryz.prog 121 [] [Cv v] (lE (qd v)) []:=by
 have m1:(v.zk.map q7).length=v.zk.length:=List.length_map ..
 have hgl:=h.zk
 refine zb.zm (fn:=Tryz.f121) Tryz.func121 rfl ?_
 conv=>whnf
 rw [m1]
 refine zM.seq v.zk.length (fun k=>[.za,.ref 0 [] 5 0 0,.lst 1 0 [],.gl 1 3 (((v.zk.take k).flatMap (·.ends)).map zX),.za,.za,.za,lG v.zk,I v.zk.length,I k,.za,.za,.za,.za,.za,.za,.za,.za,.za]) (fun k=>[⟨1,72,5,[qu v],0⟩,⟨4,97,3,((v.zk.take k).flatMap (·.ends)).map zX,0⟩]) (fun k=>True) ?_ trivial (fun k hk hr=>?_) (fun hr=>?_)
 ·refine zl.trans (zl.grow 3 97 3 rfl (.inl rfl)) ?_
  exact cC
 ·obtain ⟨g,hx⟩:∃ g,g=v.zk[k]:=⟨_,rfl⟩
  have hg:(v.zk.map q7)[k]?= some (q7 g):=by rw [List.getElem?_map,List.getElem?_eq_getElem hk,hx];rfl
  have eg:((v.zk.take (k+1)).flatMap (·.ends)).map zX=((v.zk.take k).flatMap (·.ends)).map zX++g.ends.map zX:=by rw [List.take_succ_eq_append_getElem hk,<- hx];simp
  have l1:(((v.zk.take k).flatMap (·.ends)).map zX).length<=k * 1000:=by
   have:=zbO (v.zk.take k) fun x hx=>h.ends x (List.mem_of_mem_take hx)
   rw [List.length_take,Nat.min_eq_left (by omega)] at this
   simpa using this
  have l2:(g.ends.map zX).length<=1000:=by rw [List.length_map];exact h.ends g (hx ▸ List.getElem_mem hk)
  conv=>whnf
  (refine ⟨fun _=>?_,fun h=>absurd h (by simp;omega)⟩);refine dd ?_
  (refine ⟨by omega,_,by rw [toNat_cast];exact hg,?_⟩);refine dd ?_
  refine ⟨rfl,.inr rfl,by simp only [maxLen];omega,by show _ * 40<=_;omega,?_⟩
  refine dd ?_
  refine .inl ⟨rfl,?_,trivial⟩
  rw [zp (by omega),eg]
  exact cE 2
 ·(conv=>whnf);(refine ⟨fun h=>absurd h (by simp),fun _=>?_⟩);refine dd ?_;(refine ⟨by simp,?_⟩);(conv=>whnf)
  rw [List.take_length]
  exact ⟨.inl rfl,_,.refl _,rfl⟩
abbrev ziI (k n:Int):Ans:=⟨k,0,0,0,0,0,n,⟨0,0,0,0,0,0⟩⟩
theorem zai (w:Wor) (m:Mac) (l:Lis) (h0:0<=m.i) (hx:w.zc[m.i.toNat]?= some l):zb Tryz.prog 233 [⟨1,28,8,[zU (w)],0⟩,⟨1,43,44,[zW (m)],0⟩] [.agg [.ref 0 [] 8 0 0,.ref 1 [] 44 0 0]] (Ce (evO m 1 5 l.zr)) [⟨1,28,8,[zU (w)],0⟩,⟨1,43,44,[zW (if l.zr=0 then { m with pc:=10 } else atM m 8 (IntKind.i64.wrap (m.i+1)))],0⟩]:=by
 have hg:(w.zc.map qL)[m.i.toNat]?= some (qL l):=by rw [List.getElem?_map,hx];rfl
 refine jo (fn:=Tryz.f233) Tryz.func233 rfl (Nat.le_refl _) ?_;conv=>whnf
 refine .inl ⟨⟨false,[],[],[]⟩,by kernel_rfl,?_⟩;(conv=>whnf)
 (refine ⟨h0,_,hg,?_⟩);refine dd ?_
 refine ⟨fun q=>?_,fun q=>?_⟩
 ·rw [if_pos (by simpa using q)]
  refine dd ?_
  refine zq [1] (zN { m with pc:=10 } 1 5 l.zr) rfl rfl rfl rfl rfl rfl ?_;refine dd ?_
  (repeat (refine ⟨rfl,?_⟩;conv=>whnf));exact ⟨.inl rfl,_,_,.refl _,rfl,cE 2⟩
 ·rw [if_neg (by simpa using q)]
  refine dd ?_
  refine .inl ⟨⟨true,[],[],[]⟩,by kernel_rfl,?_⟩;(conv=>whnf)
  refine zq [1] (qE m 8 (IntKind.i64.wrap (m.i+1))) rfl rfl rfl rfl rfl rfl ?_;refine dd ?_
  (repeat (refine ⟨rfl,?_⟩;conv=>whnf))
  refine zq [1] (zN (atM m 8 (IntKind.i64.wrap (m.i+1))) 1 5 l.zr) rfl rfl rfl rfl rfl rfl ?_;refine dd ?_
  (repeat (refine ⟨rfl,?_⟩;conv=>whnf));exact ⟨.inl rfl,_,_,.refl _,rfl,cE 2⟩
theorem kz (w:Wor) (m:Mac) (h:w.zc.length<=m.i):zb Tryz.prog 232 [⟨1,28,8,[zU (w)],0⟩,⟨1,43,44,[zW (m)],0⟩] [.agg [.ref 0 [] 8 0 0,.ref 1 [] 44 0 0]] (Ce { evO m 2 14 0 with done:=true,answer:=ziI 11 m.answer.n }) [⟨1,28,8,[zU ({ w with lock:=0 })],0⟩,⟨1,43,44,[zW ({ m with done:=true,answer:=ziI 11 m.answer.n })],0⟩]:=by
 have ml:(w.zc.map qL).length=w.zc.length:=List.length_map ..
 refine jo (fn:=Tryz.f232) Tryz.func232 rfl (Nat.le_refl _) ?_;conv=>whnf
 refine .inl ⟨⟨false,[],[],[]⟩,by kernel_rfl,?_⟩;(conv=>whnf)
 rw [ml]
 refine ⟨fun _=>?_,fun hh=>absurd hh (by simp;omega)⟩
 refine dd ?_
 refine .inl ⟨⟨true,[0,1],[2],[2]⟩,by kernel_rfl,?_⟩;(conv=>whnf)
 refine zq [1] (zN m 2 14 0) rfl rfl rfl rfl rfl rfl ?_;refine dd ?_
 (repeat (refine ⟨rfl,?_⟩;conv=>whnf))
 refine zq [1] (zaB m (evO m 2 14 0) (ziI 11 m.answer.n)) rfl rfl rfl rfl rfl rfl ?_;refine dd ?_
 (repeat (refine ⟨rfl,?_⟩;conv=>whnf));exact ⟨.inl rfl,_,_,.refl _,rfl,cE 2⟩
abbrev ldM (m:Mac) (l:Lis):Mac:=if l.drain=true∧l.closed=false then { m with pc:=9 } else { m with i:=IntKind.i64.wrap (m.i+1) }
abbrev zmp (m:Mac) (l:Lis):Eve:=evO m 1 4 (if l.drain=true then 1 else 0)
theorem zah (w:Wor) (m:Mac) (l:Lis) (h0:0<=m.i) (hx:w.zc[m.i.toNat]?= some l):zb Tryz.prog 232 [⟨1,28,8,[zU (w)],0⟩,⟨1,43,44,[zW (m)],0⟩] [.agg [.ref 0 [] 8 0 0,.ref 1 [] 44 0 0]] (Ce (zmp m l)) [⟨1,28,8,[zU (w)],0⟩,⟨1,43,44,[zW (ldM m l)],0⟩]:=by
 have hg:(w.zc.map qL)[m.i.toNat]?= some (qL l):=by rw [List.getElem?_map,hx];rfl
 have hlt:=(List.getElem?_eq_some_iff.1 hx).1
 have ml:(w.zc.map qL).length=w.zc.length:=List.length_map ..
 obtain ⟨nm,dr,ac,cl⟩:=l
 cases dr <;> cases cl
 all_goals
  refine jo (fn:=Tryz.f232) Tryz.func232 rfl (Nat.le_refl _) ?_;conv=>whnf
  refine .inl ⟨⟨false,[],[],[]⟩,by kernel_rfl,?_⟩;(conv=>whnf)
  rw [ml]
  refine ⟨fun hh=>absurd hh (by simp;omega),fun _=>?_⟩
  refine dd ?_
  refine .inr ⟨⟨[1,4,8,10],[0,1,2],true⟩,by kernel_rfl,fun _=>rfl,_,?_,fun t2 H2 h=>h⟩;(conv=>whnf)
  repeat (refine ⟨rfl,?_⟩;conv=>whnf)
  (refine ⟨h0,_,hg,?_⟩);refine dd ?_
  (refine ⟨?_,trivial⟩);(conv=>whnf);(repeat (refine ⟨rfl,?_⟩;(conv=>whnf)))
  (refine ⟨?_,trivial⟩);(conv=>whnf);(repeat (refine ⟨rfl,?_⟩;(conv=>whnf)))
  (refine ⟨_,_,.refl _,?_⟩);(conv=>whnf)
  refine zq [1] (zN m 1 4 0) rfl rfl rfl rfl rfl rfl ?_;refine dd ?_
  (repeat (first | ((refine ⟨fun _=>?_,fun h=>absurd (h.symm.trans rfl:false=true) (by decide)⟩);refine dd ?_) | ((refine ⟨fun h=>absurd (h.symm.trans rfl:true=false) (by decide),fun _=>?_⟩);refine dd ?_)))
  (repeat (refine ⟨rfl,?_⟩;conv=>whnf));exact ⟨.inl rfl,_,_,.refl _,rfl,cE 2⟩
end Go.Wor
namespace Go.Wor
open Go.Ab Go.Proofs Go.Hy Go.Gat Go.Nam Go.Hos Go.Con Go.Sna
theorem kA {w w':Wor} {m m':Mac} {e:Eve} (h:w.zg.length<=m.i) (hd:zb Tryz.prog 232 [⟨1,28,8,[zU (w)],0⟩,⟨1,43,44,[zW (atM m 8 0)],0⟩] [.agg [.ref 0 [] 8 0 0,.ref 1 [] 44 0 0]] (Ce e) [⟨1,28,8,[zU (w')],0⟩,⟨1,43,44,[zW (m')],0⟩]):zb Tryz.prog 229 [⟨1,28,8,[zU (w)],0⟩,⟨1,43,44,[zW (m)],0⟩] [.agg [.ref 0 [] 8 0 0,.ref 1 [] 44 0 0]] (Ce e) [⟨1,28,8,[zU (w')],0⟩,⟨1,43,44,[zW (m')],0⟩]:=by
 have ml:(w.zg.map qM).length=w.zg.length:=List.length_map ..
 refine jo (fn:=Tryz.f229) Tryz.func229 rfl (Nat.le_refl _) ?_;conv=>whnf
 refine .inl ⟨⟨false,[],[],[]⟩,by kernel_rfl,?_⟩;(conv=>whnf)
 rw [ml]
 refine ⟨fun _=>?_,fun hh=>absurd hh (by simp;omega)⟩
 refine dd ?_
 refine zq [1] (qE m 8 0) rfl rfl rfl rfl rfl rfl ?_;refine dd ?_
 refine zq [0,1] (hd) rfl rfl rfl rfl rfl rfl ?_;refine dd ?_
 (repeat (refine ⟨rfl,?_⟩;conv=>whnf));exact ⟨.inl rfl,_,_,.refl _,rfl,cE 2⟩
abbrev llM (m:Mac) (r:Ret):Mac:=if r.gone=true∨Go.Lim.y7 r.at_ m.zj=false then { m with i:=IntKind.i64.wrap (m.i+1) } else { m with version:=r.version,zn:=0,end_:=0,other:=0,slot:=0,k:=0,pc:=5 }
theorem zbe (w:Wor) (m:Mac) (r:Ret) (hr:i64 r.at_) (h0:0<=m.i) (hx:w.zg[m.i.toNat]?= some r):zb Tryz.prog 229 [⟨1,28,8,[zU (w)],0⟩,⟨1,43,44,[zW (m)],0⟩] [.agg [.ref 0 [] 8 0 0,.ref 1 [] 44 0 0]] (Ce (evO m 1 11 r.version)) [⟨1,28,8,[zU (w)],0⟩,⟨1,43,44,[zW (llM m r)],0⟩]:=by
 have hg:(w.zg.map qM)[m.i.toNat]?= some (qM r):=by rw [List.getElem?_map,hx];rfl
 have hlt:=(List.getElem?_eq_some_iff.1 hx).1
 have ml:(w.zg.map qM).length=w.zg.length:=List.length_map ..
 obtain ⟨rv,ra,rg⟩:=r
 refine jo (fn:=Tryz.f229) Tryz.func229 rfl (Nat.le_refl _) ?_;conv=>whnf
 refine .inl ⟨⟨false,[],[],[]⟩,by kernel_rfl,?_⟩;(conv=>whnf)
 rw [ml]
 refine ⟨fun hh=>absurd hh (by simp;omega),fun _=>?_⟩
 refine dd ?_
 refine .inr ⟨⟨[1,4,8,10],[0,1,2],true⟩,by kernel_rfl,fun _=>rfl,_,?_,fun t2 H2 h=>h⟩;(conv=>whnf)
 repeat (refine ⟨rfl,?_⟩;conv=>whnf)
 (refine ⟨h0,_,hg,?_⟩);refine dd ?_
 (refine ⟨?_,trivial⟩);(conv=>whnf);(repeat (refine ⟨rfl,?_⟩;(conv=>whnf)))
 (refine ⟨?_,trivial⟩);(conv=>whnf);(repeat (refine ⟨rfl,?_⟩;(conv=>whnf)))
 (refine ⟨_,_,.refl _,?_⟩);(conv=>whnf)
 cases rg
 ·have eN:Go.Lim.y7 ra m.zj=false->llM m ⟨rv,ra,false⟩={ m with i:=IntKind.i64.wrap (m.i+1) }:=fun hh=>if_pos (.inr hh)
  have eY:Go.Lim.y7 ra m.zj=true->llM m ⟨rv,ra,false⟩={ m with version:=rv,zn:=0,end_:=0,other:=0,slot:=0,k:=0,pc:=5 }:=fun hh=>if_neg (by simp [hh])
  refine .inl ⟨⟨true,[],[],[9]⟩,by kernel_rfl,?_⟩;(conv=>whnf)
  (repeat (first | ((refine ⟨fun _=>?_,fun h=>absurd (h.symm.trans rfl:false=true) (by decide)⟩);refine dd ?_) | ((refine ⟨fun h=>absurd (h.symm.trans rfl:true=false) (by decide),fun _=>?_⟩);refine dd ?_)))
  refine ⟨_,_,(Go.Lim.zgQ (now:=m.zj) hr.1 hr.2).frame rfl _,?_⟩;refine dd ?_
  refine ⟨fun q=>?_,fun q=>?_⟩
  ·rw [eY q]
   refine dd ?_
   (repeat (refine ⟨rfl,?_⟩;conv=>whnf))
   (repeat (first | ((refine ⟨fun _=>?_,fun h=>absurd (h.symm.trans rfl:false=true) (by decide)⟩);refine dd ?_) | ((refine ⟨fun h=>absurd (h.symm.trans rfl:true=false) (by decide),fun _=>?_⟩);refine dd ?_)))
   refine zq [1] (zN { m with version:=rv,zn:=0,end_:=0,other:=0,slot:=0,k:=0,pc:=5 } 1 11 rv) rfl rfl rfl rfl rfl rfl ?_;refine dd ?_
   (repeat (refine ⟨rfl,?_⟩;conv=>whnf));exact ⟨.inl rfl,_,_,.refl _,rfl,cE 2⟩
  ·rw [eN q]
   refine dd ?_
   (repeat (refine ⟨rfl,?_⟩;conv=>whnf))
   (repeat (first | ((refine ⟨fun _=>?_,fun h=>absurd (h.symm.trans rfl:false=true) (by decide)⟩);refine dd ?_) | ((refine ⟨fun h=>absurd (h.symm.trans rfl:true=false) (by decide),fun _=>?_⟩);refine dd ?_)))
   refine zq [1] (zN { m with i:=IntKind.i64.wrap (m.i+1) } 1 11 rv) rfl rfl rfl rfl rfl rfl ?_;refine dd ?_
   (repeat (refine ⟨rfl,?_⟩;conv=>whnf));exact ⟨.inl rfl,_,_,.refl _,rfl,cE 2⟩
 ·rw [show llM m ⟨rv,ra,true⟩=_ from if_pos (.inl rfl)]
  refine .inl ⟨⟨true,[],[],[9]⟩,by kernel_rfl,?_⟩;(conv=>whnf)
  (repeat (first | ((refine ⟨fun _=>?_,fun h=>absurd (h.symm.trans rfl:false=true) (by decide)⟩);refine dd ?_) | ((refine ⟨fun h=>absurd (h.symm.trans rfl:true=false) (by decide),fun _=>?_⟩);refine dd ?_)))
  refine zq [1] (zN { m with i:=IntKind.i64.wrap (m.i+1) } 1 11 rv) rfl rfl rfl rfl rfl rfl ?_;refine dd ?_
  (repeat (refine ⟨rfl,?_⟩;conv=>whnf));exact ⟨.inl rfl,_,_,.refl _,rfl,cE 2⟩
abbrev wH (l:Lis):Lis:={ l with closed:=true }
theorem zgS (w:Wor) (m:Mac) (x:Lis) (h0:0<=m.i) (hx:w.zc[m.i.toNat]?= some x):
  zb Tryz.prog 234 [⟨1,28,8,[[I w.zj,I w.current,I w.lock,lI w.pins,lV w.zd,.sl 2 [] 4 0 w.zc.length false,lCo w.counts,lR w.zg]],0⟩,⟨1,43,44,[zW (m)],0⟩,⟨2,95,4,(w.zc).map qL,0⟩] [.agg [.ref 0 [] 8 0 0,.ref 1 [] 44 0 0]] (Ce (evO m 2 13 1)) [⟨1,28,8,[[I w.zj,I w.current,I w.lock,lI w.pins,lV w.zd,.sl 2 [] 4 0 w.zc.length false,lCo w.counts,lR w.zg]],0⟩,⟨1,43,44,[zW (atM m 8 (IntKind.i64.wrap (m.i+1)))],0⟩,⟨2,95,4,(w.zc.set m.i.toNat (wH x)).map qL,0⟩]:=by
 have e1:0+m.i.toNat=m.i.toNat:=Nat.zero_add _
 have hlt:m.i.toNat < w.zc.length:=(List.getElem?_eq_some_iff.1 hx).1
 have gx:(w.zc.map qL)[m.i.toNat]?= some (qL x):=by rw [List.getElem?_map,hx];rfl
 have hst:(w.zc.map qL).set m.i.toNat [Tx x.name,Bo x.drain,I x.zr,Bo true]=(w.zc.set m.i.toNat (wH x)).map qL:=by rw [List.map_set];rfl
 refine jo (fn:=Tryz.f234) Tryz.func234 rfl (Nat.le_refl _) ?_;conv=>whnf
 refine .inl ⟨⟨false,[1,4,6,9],[0,1,3],[]⟩,by kernel_rfl,?_⟩;(conv=>whnf)
 repeat (refine ⟨rfl,?_⟩;conv=>whnf)
 refine ⟨h0,hlt,?_⟩
 refine dd ?_
 rw [e1]
 refine ⟨_,gx,rfl,?_⟩
 refine dd ?_
 (repeat (refine ⟨rfl,?_⟩;conv=>whnf))
 rw [hst]
 refine .inl ⟨⟨true,[],[],[]⟩,by kernel_rfl,?_⟩;(conv=>whnf)
 refine zq [1] (qE m 8 (IntKind.i64.wrap (m.i+1))) rfl rfl rfl rfl rfl rfl ?_;refine dd ?_
 (repeat (refine ⟨rfl,?_⟩;conv=>whnf))
 refine zq [1] (zN (atM m 8 (IntKind.i64.wrap (m.i+1))) 2 13 1) rfl rfl rfl rfl rfl rfl ?_;refine dd ?_
 (repeat (refine ⟨rfl,?_⟩;conv=>whnf));exact ⟨.inl rfl,_,_,.refl _,rfl,cE 3⟩
abbrev laE (m:Mac) (v:Ver) (a:Int):Eve:={ evO m 1 7 a with version:=m.version,j7:=v.j7 }
abbrev laM (m:Mac) (v:Ver) (a:Int):Mac:=if a≠0 then atM m 4 (IntKind.i64.wrap (m.i+1)) else if IntKind.i64.wrap (m.k+1) < (qd v).length then { m with k:=IntKind.i64.wrap (m.k+1) } else { m with k:=IntKind.i64.wrap (m.k+1),pc:=6 }
theorem zag (w:Wor) (m:Mac) (v:Ver) (e:En) (hf:zhE v) (hv:AtV w m v) (k0:0<=m.k) (hk:(qd v)[m.k.toNat]?= some e):zb Tryz.prog 230 [⟨1,28,8,[zU (w)],0⟩,⟨1,43,44,[zW (m)],0⟩] [.agg [.ref 0 [] 8 0 0,.ref 1 [] 44 0 0]] (Ce (laE m v e.zr)) [⟨1,28,8,[zU (w)],0⟩,⟨1,43,44,[zW (laM m v e.zr)],0⟩]:=by
 have a0:=hv.v0
 have a1:=hv.row
 have hg:((qd v).map zX)[m.k.toNat]?= some (zX e):=by rw [List.getElem?_map,hk];rfl
 have ml:((qd v).map zX).length=(qd v).length:=List.length_map ..
 have he:=zaG v hf
 have eA:e.zr≠0->laM m v e.zr=atM m 4 (IntKind.i64.wrap (m.i+1)):=fun hh=>if_pos hh
 have eB:e.zr=0->laM m v e.zr=if IntKind.i64.wrap (m.k+1) < (qd v).length then { m with k:=IntKind.i64.wrap (m.k+1) } else { m with k:=IntKind.i64.wrap (m.k+1),pc:=6 }:=fun hh=>if_neg (by simp [hh])
 generalize hll:qd v=ll at he hk hg ml eA eB
 obtain ⟨sn,gs,fr⟩:=v
 cases fr
 all_goals
  refine jo (fn:=Tryz.f230) Tryz.func230 rfl (Nat.le_refl _) ?_;conv=>whnf
  refine .inr ⟨⟨[1,4,8,10],[0,1,2],true⟩,by kernel_rfl,fun _=>rfl,_,?_,fun t2 H2 h=>h⟩;(conv=>whnf)
  repeat (refine ⟨rfl,?_⟩;conv=>whnf)
  (refine ⟨a0,_,a1,?_⟩);refine dd ?_
  (refine ⟨?_,trivial⟩);(conv=>whnf);(repeat (refine ⟨rfl,?_⟩;(conv=>whnf)))
  (refine ⟨?_,trivial⟩);(conv=>whnf);(repeat (refine ⟨rfl,?_⟩;(conv=>whnf)))
  (refine ⟨_,_,.refl _,?_⟩);(conv=>whnf)
  refine ⟨_,_,(he).frame rfl _,?_⟩;refine dd ?_
  refine .inr ⟨⟨[0,5,8,9],[0,1,2,3,4],true⟩,by kernel_rfl,fun _=>rfl,_,?_,fun t2 H2 h=>h⟩;(conv=>whnf)
  (refine ⟨k0,_,hg,?_⟩);refine dd ?_
  refine ⟨_,zb.blind [1] (zN m 1 7 e.zr) rfl rfl rfl rfl rfl rfl rfl (fun _=>rfl) (fun _=>rfl),?_⟩;(conv=>whnf)
  (refine ⟨?_,trivial⟩);(conv=>whnf);(repeat (refine ⟨rfl,?_⟩;(conv=>whnf)))
  (refine ⟨?_,trivial⟩);(conv=>whnf);(repeat (refine ⟨rfl,?_⟩;(conv=>whnf)))
  (refine ⟨_,_,.refl _,?_⟩);(conv=>whnf)
  refine .inl ⟨⟨false,[3,5],[1,4],[]⟩,by kernel_rfl,?_⟩;(conv=>whnf)
  (repeat (first | ((refine ⟨fun _=>?_,fun h=>absurd (h.symm.trans rfl:false=true) (by decide)⟩);refine dd ?_) | ((refine ⟨fun h=>absurd (h.symm.trans rfl:true=false) (by decide),fun _=>?_⟩);refine dd ?_)))
  (repeat (refine ⟨rfl,?_⟩;conv=>whnf))
  refine ⟨fun q=>?_,fun q=>?_⟩
  ·rw [eA (by simpa using q)]
   refine dd ?_
   refine .inl ⟨⟨true,[],[],[]⟩,by kernel_rfl,?_⟩;(conv=>whnf)
   refine zq [1] (qE m 4 (IntKind.i64.wrap (m.i+1))) rfl rfl rfl rfl rfl rfl ?_;refine dd ?_
   (repeat (refine ⟨rfl,?_⟩;conv=>whnf));exact ⟨.inl rfl,_,_,.refl _,rfl,cE 2⟩
  ·rw [eB (by simpa using q)]
   refine dd ?_
   rw [ml]
   refine ⟨fun q2=>?_,fun q2=>?_⟩
   ·rw [if_pos (by simpa using q2)]
    refine dd ?_
    (repeat (refine ⟨rfl,?_⟩;conv=>whnf));exact ⟨.inl rfl,_,_,.refl _,rfl,cE 2⟩
   ·rw [if_neg (by simpa using q2)]
    refine dd ?_
    (repeat (refine ⟨rfl,?_⟩;conv=>whnf));exact ⟨.inl rfl,_,_,.refl _,rfl,cE 2⟩
abbrev vq (v:Ver):Ver:={ v with j7:=true }
abbrev xY (r:Ret):Ret:={ r with gone:=true }
abbrev frM (m:Mac):Mac:={ m with answer:={ m.answer with n:=IntKind.i64.wrap (m.answer.n+1) },pc:=4,i:=IntKind.i64.wrap (m.i+1) }
theorem ku (w:Wor) (m:Mac) (v:Ver) (r:Ret) (hv:AtV w m v) (h0:0<=m.i) (hx:w.zg[m.i.toNat]?= some r):
  zb Tryz.prog 231 [⟨1,28,8,[[I w.zj,I w.current,I w.lock,lI w.pins,.sl 2 [] 5 0 w.zd.length false,lL w.zc,lCo w.counts,.sl 3 [] 3 0 w.zg.length false]],0⟩,⟨1,43,44,[zW (m)],0⟩,⟨2,72,5,(w.zd).map qu,0⟩,⟨2,113,3,(w.zg).map qM,0⟩] [.agg [.ref 0 [] 8 0 0,.ref 1 [] 44 0 0]] (Ce (evO m 2 12 m.version)) [⟨1,28,8,[[I w.zj,I w.current,I w.lock,lI w.pins,.sl 2 [] 5 0 w.zd.length false,lL w.zc,lCo w.counts,.sl 3 [] 3 0 w.zg.length false]],0⟩,⟨1,43,44,[zW (frM m)],0⟩,⟨2,72,5,(w.zd.set m.version.toNat (vq v)).map qu,0⟩,⟨2,113,3,(w.zg.set m.i.toNat (xY r)).map qM,0⟩]:=by
 have a0:=hv.v0
 have av:m.version.toNat < w.zd.length:=(List.getElem?_eq_some_iff.1 hv.at_).1
 have gv:=hv.row
 have e1:0+m.i.toNat=m.i.toNat:=Nat.zero_add _
 have e2:0+m.version.toNat=m.version.toNat:=Nat.zero_add _
 have hlt:m.i.toNat < w.zg.length:=(List.getElem?_eq_some_iff.1 hx).1
 have gx:(w.zg.map qM)[m.i.toNat]?= some (qM r):=by rw [List.getElem?_map,hx];rfl
 have hst:(w.zg.map qM).set m.i.toNat [I r.version,I r.at_,Bo true]=(w.zg.set m.i.toNat (xY r)).map qM:=by rw [List.map_set];rfl
 have hsv:(w.zd.map qu).set m.version.toNat [lT v.snap.zc,zgo v.snap.rules,lC v.snap.zf,lG v.zk,Bo true]=(w.zd.set m.version.toNat (vq v)).map qu:=by rw [List.map_set];rfl
 refine jo (fn:=Tryz.f231) Tryz.func231 rfl (Nat.le_refl _) ?_;conv=>whnf
 refine .inl ⟨⟨false,[1,4,8,10,13,17],[0,1,4],[]⟩,by kernel_rfl,?_⟩;(conv=>whnf)
 repeat (refine ⟨rfl,?_⟩;conv=>whnf)
 refine ⟨a0,av,?_⟩
 refine dd ?_
 rw [e2]
 refine ⟨_,gv,rfl,?_⟩
 refine dd ?_
 (repeat (refine ⟨rfl,?_⟩;conv=>whnf))
 refine ⟨h0,hlt,?_⟩
 refine dd ?_
 rw [e1]
 refine ⟨_,gx,rfl,?_⟩
 refine dd ?_
 (repeat (refine ⟨rfl,?_⟩;conv=>whnf))
 rw [hst,hsv]
 refine .inl ⟨⟨true,[],[],[]⟩,by kernel_rfl,?_⟩;(conv=>whnf)
 refine zq [1] (qE { m with answer:={ m.answer with n:=IntKind.i64.wrap (m.answer.n+1) } } 4 (IntKind.i64.wrap (m.i+1))) rfl rfl rfl rfl rfl rfl ?_;refine dd ?_
 (repeat (refine ⟨rfl,?_⟩;conv=>whnf))
 refine .inl ⟨⟨true,[],[],[]⟩,by kernel_rfl,?_⟩;(conv=>whnf)
 refine zq [1] (zN (frM m) 2 12 m.version) rfl rfl rfl rfl rfl rfl ?_;refine dd ?_
 (repeat (refine ⟨rfl,?_⟩;conv=>whnf));exact ⟨.inl rfl,_,_,.refl _,rfl,cE 4⟩
end Go.Wor
namespace Go.Wor
open Go.Ab Go.Proofs Go.Hy Go.Gat Go.Nam Go.Hos Go.Con Go.Sna
theorem zaF (v:Ver) (h:zhE v):zb Tryz.prog 70 [] [Cv v] (I (qd v).length) []:=by
 have ml:((qd v).map zX).length=(qd v).length:=List.length_map ..
 have he:=zaG v h
 generalize qd v=ll at he ml ⊢
 refine zb.zm (fn:=Tryz.f70) Tryz.func70 rfl ?_
 conv=>whnf
 refine ⟨_,_,(he).frame rfl _,?_⟩;refine dd ?_
 rw [ml]
 exact ⟨.inl rfl,_,.refl _,rfl⟩
theorem zgt (w:Wor) (m:Mac) (hpc:m.pc=2) (h:m.i < w.pins.length):zb Tryz.prog 224 [] [Cw w,Cm m] (Bo true) []:=by
 have ml:(w.pins.map encI).length=w.pins.length:=List.length_map ..
 refine zb.zm (fn:=Tryz.f224) Tryz.func224 rfl ?_
 conv=>whnf
 (repeat (first | (refine ⟨fun _=>?_,?_⟩;rotate_left 1;(focus (intro h;first | (simp [hpc] at h;done) | (have h:=of_decide_eq_true h;omega) | (have h:=of_decide_eq_false h;omega)));(refine dd ?_)) | (refine ⟨?_,fun _=>?_⟩;(focus (intro h;first | (simp [hpc] at h;done) | (have h:=of_decide_eq_true h;omega) | (have h:=of_decide_eq_false h;omega)));(refine dd ?_))))
 exact ⟨.inl rfl,_,.refl _,rfl⟩
theorem zgw (w:Wor) (m:Mac) (hpc:m.pc=9) (h:m.i < w.zc.length):zb Tryz.prog 224 [] [Cw w,Cm m] (Bo true) []:=by
 have ml:(w.zc.map qL).length=w.zc.length:=List.length_map ..
 refine zb.zm (fn:=Tryz.f224) Tryz.func224 rfl ?_
 conv=>whnf
 (repeat (first | (refine ⟨fun _=>?_,?_⟩;rotate_left 1;(focus (intro h;first | (simp [hpc] at h;done) | (have h:=of_decide_eq_true h;omega) | (have h:=of_decide_eq_false h;omega)));(refine dd ?_)) | (refine ⟨?_,fun _=>?_⟩;(focus (intro h;first | (simp [hpc] at h;done) | (have h:=of_decide_eq_true h;omega) | (have h:=of_decide_eq_false h;omega)));(refine dd ?_))))
 exact ⟨.inl rfl,_,.refl _,rfl⟩
theorem qJ (w:Wor) (m:Mac) (hpc:m.pc≠2∧m.pc≠5∧m.pc≠6∧m.pc≠9∧m.pc≠10):zb Tryz.prog 224 [] [Cw w,Cm m] (Bo true) []:=by
 refine zb.zm (fn:=Tryz.f224) Tryz.func224 rfl ?_
 conv=>whnf
 (repeat (first | (refine ⟨fun _=>?_,?_⟩;rotate_left 1;(focus (intro h;first | (simp [hpc] at h;done) | (have h:=of_decide_eq_true h;omega) | (have h:=of_decide_eq_false h;omega)));(refine dd ?_)) | (refine ⟨?_,fun _=>?_⟩;(focus (intro h;first | (simp [hpc] at h;done) | (have h:=of_decide_eq_true h;omega) | (have h:=of_decide_eq_false h;omega)));(refine dd ?_))))
 exact ⟨.inl rfl,_,.refl _,rfl⟩
theorem zgu (w:Wor) (m:Mac) (v:Ver) (hf:zhE v) (hpc:m.pc=5) (hv:AtV w m v) (h:m.k < (qd v).length):zb Tryz.prog 224 [] [Cw w,Cm m] (Bo true) []:=by
 have a0:=hv.v0
 have a1:=hv.row
 refine zb.zm (fn:=Tryz.f224) Tryz.func224 rfl ?_
 conv=>whnf
 (repeat (first | (refine ⟨fun _=>?_,?_⟩;rotate_left 1;(focus (intro h;first | (simp [hpc] at h;done) | (have h:=of_decide_eq_true h;omega) | (have h:=of_decide_eq_false h;omega)));(refine dd ?_)) | (refine ⟨?_,fun _=>?_⟩;(focus (intro h;first | (simp [hpc] at h;done) | (have h:=of_decide_eq_true h;omega) | (have h:=of_decide_eq_false h;omega)));(refine dd ?_))))
 refine .inl ⟨⟨true,[],[],[8]⟩,by kernel_rfl,?_⟩;(conv=>whnf)
 (refine ⟨a0,_,a1,?_⟩);refine dd ?_
 refine ⟨_,_,(zaF v hf).frame rfl _,?_⟩;refine dd ?_
 (repeat (first | (refine ⟨fun _=>?_,?_⟩;rotate_left 1;(focus (intro h;first | (simp [hpc] at h;done) | (have h:=of_decide_eq_true h;omega) | (have h:=of_decide_eq_false h;omega)));(refine dd ?_)) | (refine ⟨?_,fun _=>?_⟩;(focus (intro h;first | (simp [hpc] at h;done) | (have h:=of_decide_eq_true h;omega) | (have h:=of_decide_eq_false h;omega)));(refine dd ?_))))
 exact ⟨.inl rfl,_,.refl _,rfl⟩
theorem zgv (w:Wor) (m:Mac) (r:Ret) (hpc:m.pc=6) (h0:0<=m.i) (hx:w.zg[m.i.toNat]?= some r) (h1:r.version=m.version) (h2:r.gone=false):zb Tryz.prog 224 [] [Cw w,Cm m] (Bo true) []:=by
 have hg:(w.zg.map qM)[m.i.toNat]?= some (qM r):=by rw [List.getElem?_map,hx];rfl
 have hlt:=(List.getElem?_eq_some_iff.1 hx).1
 have ml:(w.zg.map qM).length=w.zg.length:=List.length_map ..
 obtain ⟨rv,ra,rg⟩:=r
 cases h2
 refine zb.zm (fn:=Tryz.f224) Tryz.func224 rfl ?_
 conv=>whnf
 (repeat (first | (refine ⟨fun _=>?_,?_⟩;rotate_left 1;(focus (intro h;first | (simp [hpc] at h;done) | (have h:=of_decide_eq_true h;omega) | (have h:=of_decide_eq_false h;omega)));(refine dd ?_)) | (refine ⟨?_,fun _=>?_⟩;(focus (intro h;first | (simp [hpc] at h;done) | (have h:=of_decide_eq_true h;omega) | (have h:=of_decide_eq_false h;omega)));(refine dd ?_))))
 refine .inl ⟨⟨false,[],[],[]⟩,by kernel_rfl,?_⟩;(conv=>whnf)
 rw [ml]
 (repeat (first | (refine ⟨fun _=>?_,?_⟩;rotate_left 1;(focus (intro h;first | (simp [hpc] at h;done) | (have h:=of_decide_eq_true h;omega) | (have h:=of_decide_eq_false h;omega)));(refine dd ?_)) | (refine ⟨?_,fun _=>?_⟩;(focus (intro h;first | (simp [hpc] at h;done) | (have h:=of_decide_eq_true h;omega) | (have h:=of_decide_eq_false h;omega)));(refine dd ?_))))
 (refine ⟨h0,_,hg,?_⟩);refine dd ?_
 refine ⟨fun _=>?_,fun hh=>absurd hh (by simpa using h1)⟩
 refine dd ?_
 (repeat (first | ((refine ⟨fun _=>?_,fun h=>absurd (h.symm.trans rfl:false=true) (by decide)⟩);refine dd ?_) | ((refine ⟨fun h=>absurd (h.symm.trans rfl:true=false) (by decide),fun _=>?_⟩);refine dd ?_)))
 (refine ⟨h0,_,hg,?_⟩);refine dd ?_
 (repeat (first | ((refine ⟨fun _=>?_,fun h=>absurd (h.symm.trans rfl:false=true) (by decide)⟩);refine dd ?_) | ((refine ⟨fun h=>absurd (h.symm.trans rfl:true=false) (by decide),fun _=>?_⟩);refine dd ?_)))
 exact ⟨.inl rfl,_,.refl _,rfl⟩
theorem zfb (w:Wor) (m:Mac) (l:Lis) (hpc:m.pc=10) (h0:0<=m.i) (hx:w.zc[m.i.toNat]?= some l) (h1:l.drain=true):zb Tryz.prog 224 [] [Cw w,Cm m] (Bo true) []:=by
 have hg:(w.zc.map qL)[m.i.toNat]?= some (qL l):=by rw [List.getElem?_map,hx];rfl
 have hlt:=(List.getElem?_eq_some_iff.1 hx).1
 have ml:(w.zc.map qL).length=w.zc.length:=List.length_map ..
 obtain ⟨ln,ld,la,lc⟩:=l
 cases h1
 refine zb.zm (fn:=Tryz.f224) Tryz.func224 rfl ?_
 conv=>whnf
 (repeat (first | (refine ⟨fun _=>?_,?_⟩;rotate_left 1;(focus (intro h;first | (simp [hpc] at h;done) | (have h:=of_decide_eq_true h;omega) | (have h:=of_decide_eq_false h;omega)));(refine dd ?_)) | (refine ⟨?_,fun _=>?_⟩;(focus (intro h;first | (simp [hpc] at h;done) | (have h:=of_decide_eq_true h;omega) | (have h:=of_decide_eq_false h;omega)));(refine dd ?_))))
 rw [ml]
 (repeat (first | (refine ⟨fun _=>?_,?_⟩;rotate_left 1;(focus (intro h;first | (simp [hpc] at h;done) | (have h:=of_decide_eq_true h;omega) | (have h:=of_decide_eq_false h;omega)));(refine dd ?_)) | (refine ⟨?_,fun _=>?_⟩;(focus (intro h;first | (simp [hpc] at h;done) | (have h:=of_decide_eq_true h;omega) | (have h:=of_decide_eq_false h;omega)));(refine dd ?_))))
 (refine ⟨h0,_,hg,?_⟩);refine dd ?_
 (repeat (first | ((refine ⟨fun _=>?_,fun h=>absurd (h.symm.trans rfl:false=true) (by decide)⟩);refine dd ?_) | ((refine ⟨fun h=>absurd (h.symm.trans rfl:true=false) (by decide),fun _=>?_⟩);refine dd ?_)))
 exact ⟨.inl rfl,_,.refl _,rfl⟩
end Go.Wor
namespace Go.Wor
open Go.Ab Go.Proofs Go.Hy Go.Gat Go.Nam Go.Hos Go.Con Go.Sna
theorem zkh (w:Wor) (m:Mac) (X:Ob) (j f:Nat) (R:Exit->S->Prop) (hlow:ja 8 ([⟨1,28,8,[zU (w)],0⟩,⟨1,43,44,[zW (m)],0⟩,⟨1,28,8,[zeW],0⟩,⟨1,43,44,[zeM],0⟩,⟨1,81,23,[yk xF],0⟩,X,⟨1,43,44,[zW (m)],0⟩,⟨1,255,2,[[.ref 5 [] 8 0 0,.ref 6 [] 44 0 0]],0⟩]++[])=true) (hf:∀ v0 v1 v2 v3 v4 v5 v6 v8 v9 v10,xt [(0,v0,0),(1,v1,1),(2,v2,2),(3,v3,3),(4,v4,4),(5,v5,5),(6,v6,6),(8,v8,7),(9,v9,8),(10,v10,9)] m.pc=some j) (hc:([.fn 225 [.agg [.ref 5 [] 8 0 0,.ref 6 [] 44 0 0]] [],.fn 226 [.agg [.ref 5 [] 8 0 0,.ref 6 [] 44 0 0]] [],.fn 227 [.agg [.ref 5 [] 8 0 0,.ref 6 [] 44 0 0]] [],.fn 228 [.agg [.ref 5 [] 8 0 0,.ref 6 [] 44 0 0]] [],.fn 229 [.agg [.ref 5 [] 8 0 0,.ref 6 [] 44 0 0]] [],.fn 230 [.agg [.ref 5 [] 8 0 0,.ref 6 [] 44 0 0]] [],.fn 231 [.agg [.ref 5 [] 8 0 0,.ref 6 [] 44 0 0]] [],.fn 232 [.agg [.ref 5 [] 8 0 0,.ref 6 [] 44 0 0]] [],.fn 233 [.agg [.ref 5 [] 8 0 0,.ref 6 [] 44 0 0]] [],.fn 234 [.agg [.ref 5 [] 8 0 0,.ref 6 [] 44 0 0]] []]:List C)[j]?= some (.fn f [.agg [.ref 5 [] 8 0 0,.ref 6 [] 44 0 0]] []))
  (hn:z1 Tryz.prog 0 (behind 5 ((Tryz.f156.body).getD .skip)) ⟨(.za::.za::.ref 0 [] 8 0 0:: .ref 1 [] 44 0 0:: .ref 2 [] 8 0 0:: .ref 3 [] 44 0 0:: .ref 4 [] 23 0 0:: .ref 5 [] 8 0 0:: .ref 6 [] 44 0 0:: .ref 7 [] 2 0 0:: .fn f [.agg [.ref 5 [] 8 0 0,.ref 6 [] 44 0 0]] []::Bo true:: .za::.za::.za::.za::.za::.za::.za::.za::.za::.za::.za::.za::.za::.za::.za::.za::.za::.za::.za::.za::.za::.za::.za::.za::.za::.za::.za::.za::.za::.za::.za::.za::.za::.za::.za::.za::.za::.za::.za::.za::.za::.za::.za::.za::.za::.za::.za::.za::.za::.za::.za::.za::.za::.za::.za::.za::[]),[⟨1,28,8,[zU (w)],0⟩,⟨1,43,44,[zW (m)],0⟩,⟨1,28,8,[zeW],0⟩,⟨1,43,44,[zeM],0⟩,⟨1,81,23,[yk xF],0⟩,X,⟨1,43,44,[zW (m)],0⟩,⟨1,255,2,[[.ref 5 [] 8 0 0,.ref 6 [] 44 0 0]],0⟩]++[]⟩ R):z1 Tryz.prog 0 (behind 4 ((Tryz.f156.body).getD .skip)) ⟨(.za::.za::.ref 0 [] 8 0 0:: .ref 1 [] 44 0 0:: .ref 2 [] 8 0 0:: .ref 3 [] 44 0 0:: .ref 4 [] 23 0 0:: .ref 5 [] 8 0 0:: .ref 6 [] 44 0 0:: .ref 7 [] 2 0 0:: .za::.za::.za::.za::.za::.za::.za::.za::.za::.za::.za::.za::.za::.za::.za::.za::.za::.za::.za::.za::.za::.za::.za::.za::.za::.za::.za::.za::.za::.za::.za::.za::.za::.za::.za::.za::.za::.za::.za::.za::.za::.za::.za::.za::.za::.za::.za::.za::.za::.za::.za::.za::.za::.za::.za::.za::.za::.za::[]),[⟨1,28,8,[zU (w)],0⟩,⟨1,43,44,[zW (m)],0⟩,⟨1,28,8,[zeW],0⟩,⟨1,43,44,[zeM],0⟩,⟨1,81,23,[yk xF],0⟩,X,⟨1,43,44,[zW (m)],0⟩,⟨1,255,2,[[.ref 5 [] 8 0 0,.ref 6 [] 44 0 0]],0⟩]++[]⟩ R:=by
 refine kr ?_
 conv=>whnf
 intro b
 refine dd ?_
 refine qp.zK (id:=8) _ _ _ _ (.inr rfl) Tryz.underlying258 Tryz.underlying3 rfl rfl rfl rfl rfl ?_;intro v0;refine dd ?_
 refine qp.zK (id:=8) _ _ _ _ (.inr rfl) Tryz.underlying258 Tryz.underlying3 rfl rfl rfl rfl rfl ?_;intro v1;refine dd ?_
 refine qp.zK (id:=8) _ _ _ _ (.inr rfl) Tryz.underlying258 Tryz.underlying3 rfl rfl rfl rfl rfl ?_;intro v2;refine dd ?_
 refine qp.zK (id:=8) _ _ _ _ (.inr rfl) Tryz.underlying258 Tryz.underlying3 rfl rfl rfl rfl rfl ?_;intro v3;refine dd ?_
 refine qp.zK (id:=8) _ _ _ _ (.inr rfl) Tryz.underlying258 Tryz.underlying3 rfl rfl rfl rfl rfl ?_;intro v4;refine dd ?_
 refine qp.zK (id:=8) _ _ _ _ (.inr rfl) Tryz.underlying258 Tryz.underlying3 rfl rfl rfl rfl rfl ?_;intro v5;refine dd ?_
 refine qp.zK (id:=8) _ _ _ _ (.inr rfl) Tryz.underlying258 Tryz.underlying3 rfl rfl rfl rfl rfl ?_;intro v6;refine dd ?_
 refine qp.zK (id:=8) _ _ _ _ (.inr rfl) Tryz.underlying258 Tryz.underlying3 rfl rfl rfl rfl rfl ?_;intro v8;refine dd ?_
 refine qp.zK (id:=8) _ _ _ _ (.inr rfl) Tryz.underlying258 Tryz.underlying3 rfl rfl rfl rfl rfl ?_;intro v9;refine dd ?_
 refine qp.zK (id:=8) _ _ _ _ (.inr rfl) Tryz.underlying258 Tryz.underlying3 rfl rfl rfl rfl rfl ?_;intro v10;refine dd ?_
 (refine ⟨_,_,OpV.zbV (id:=8) _ _ _ _ rfl Tryz.underlying258 Tryz.underlying3 rfl rfl rfl rfl rfl rfl (hf _ _ _ _ _ _ _ _ _ _) hc,?_⟩;(refine dd ?_))
 (repeat ((first | apply ya | apply yb);refine dd ?_))
 refine .inl ⟨rfl,_,_,(zl.forget 8).trans (zl.zi4 8 (by (conv=>whnf);(repeat (refine ⟨rfl,?_⟩;(conv=>whnf)));exact trivial) rfl rfl rfl hlow rfl),hn⟩
theorem zkg (w:Wor) (m:Mac) (X:Ob) (Y:Ob)(j f:Nat) (R:Exit->S->Prop) (hlow:ja 9 ([⟨1,28,8,[zU (w)],0⟩,⟨1,43,44,[zW (m)],0⟩,⟨1,28,8,[zeW],0⟩,⟨1,43,44,[zeM],0⟩,⟨1,81,23,[yk xF],0⟩,X,⟨1,43,44,[zW (m)],0⟩,⟨1,255,2,[[.ref 5 [] 8 0 0,.ref 6 [] 44 0 0]],0⟩]++[Y])=true) (hf:∀ v0 v1 v2 v3 v4 v5 v6 v8 v9 v10,xt [(0,v0,0),(1,v1,1),(2,v2,2),(3,v3,3),(4,v4,4),(5,v5,5),(6,v6,6),(8,v8,7),(9,v9,8),(10,v10,9)] m.pc=some j) (hc:([.fn 225 [.agg [.ref 5 [] 8 0 0,.ref 6 [] 44 0 0]] [],.fn 226 [.agg [.ref 5 [] 8 0 0,.ref 6 [] 44 0 0]] [],.fn 227 [.agg [.ref 5 [] 8 0 0,.ref 6 [] 44 0 0]] [],.fn 228 [.agg [.ref 5 [] 8 0 0,.ref 6 [] 44 0 0]] [],.fn 229 [.agg [.ref 5 [] 8 0 0,.ref 6 [] 44 0 0]] [],.fn 230 [.agg [.ref 5 [] 8 0 0,.ref 6 [] 44 0 0]] [],.fn 231 [.agg [.ref 5 [] 8 0 0,.ref 6 [] 44 0 0]] [],.fn 232 [.agg [.ref 5 [] 8 0 0,.ref 6 [] 44 0 0]] [],.fn 233 [.agg [.ref 5 [] 8 0 0,.ref 6 [] 44 0 0]] [],.fn 234 [.agg [.ref 5 [] 8 0 0,.ref 6 [] 44 0 0]] []]:List C)[j]?= some (.fn f [.agg [.ref 5 [] 8 0 0,.ref 6 [] 44 0 0]] []))
  (hn:z1 Tryz.prog 0 (behind 5 ((Tryz.f156.body).getD .skip)) ⟨(.za::.za::.ref 0 [] 8 0 0:: .ref 1 [] 44 0 0:: .ref 2 [] 8 0 0:: .ref 3 [] 44 0 0:: .ref 4 [] 23 0 0:: .ref 5 [] 8 0 0:: .ref 6 [] 44 0 0:: .ref 7 [] 2 0 0:: .fn f [.agg [.ref 5 [] 8 0 0,.ref 6 [] 44 0 0]] []::Bo true:: .za::.za::.za::.za::.za::.za::.za::.za::.za::.za::.za::.za::.za::.za::.za::.za::.za::.za::.za::.za::.za::.za::.za::.za::.za::.za::.za::.za::.za::.za::.za::.za::.za::.za::.za::.za::.za::.za::.za::.za::.za::.za::.za::.za::.za::.za::.za::.za::.za::.za::.za::.za::.za::.za::.za::.za::[]),[⟨1,28,8,[zU (w)],0⟩,⟨1,43,44,[zW (m)],0⟩,⟨1,28,8,[zeW],0⟩,⟨1,43,44,[zeM],0⟩,⟨1,81,23,[yk xF],0⟩,X,⟨1,43,44,[zW (m)],0⟩,⟨1,255,2,[[.ref 5 [] 8 0 0,.ref 6 [] 44 0 0]],0⟩]++[Y]⟩ R):z1 Tryz.prog 0 (behind 4 ((Tryz.f156.body).getD .skip)) ⟨(.za::.za::.ref 0 [] 8 0 0:: .ref 1 [] 44 0 0:: .ref 2 [] 8 0 0:: .ref 3 [] 44 0 0:: .ref 4 [] 23 0 0:: .ref 5 [] 8 0 0:: .ref 6 [] 44 0 0:: .ref 7 [] 2 0 0:: .za::.za::.za::.za::.za::.za::.za::.za::.za::.za::.za::.za::.za::.za::.za::.za::.za::.za::.za::.za::.za::.za::.za::.za::.za::.za::.za::.za::.za::.za::.za::.za::.za::.za::.za::.za::.za::.za::.za::.za::.za::.za::.za::.za::.za::.za::.za::.za::.za::.za::.za::.za::.za::.za::.za::.za::.za::.za::[]),[⟨1,28,8,[zU (w)],0⟩,⟨1,43,44,[zW (m)],0⟩,⟨1,28,8,[zeW],0⟩,⟨1,43,44,[zeM],0⟩,⟨1,81,23,[yk xF],0⟩,X,⟨1,43,44,[zW (m)],0⟩,⟨1,255,2,[[.ref 5 [] 8 0 0,.ref 6 [] 44 0 0]],0⟩]++[Y]⟩ R:=by
 refine kr ?_
 conv=>whnf
 intro b
 refine dd ?_
 refine qp.zK (id:=9) _ _ _ _ (.inr rfl) Tryz.underlying258 Tryz.underlying3 rfl rfl rfl rfl rfl ?_;intro v0;refine dd ?_
 refine qp.zK (id:=9) _ _ _ _ (.inr rfl) Tryz.underlying258 Tryz.underlying3 rfl rfl rfl rfl rfl ?_;intro v1;refine dd ?_
 refine qp.zK (id:=9) _ _ _ _ (.inr rfl) Tryz.underlying258 Tryz.underlying3 rfl rfl rfl rfl rfl ?_;intro v2;refine dd ?_
 refine qp.zK (id:=9) _ _ _ _ (.inr rfl) Tryz.underlying258 Tryz.underlying3 rfl rfl rfl rfl rfl ?_;intro v3;refine dd ?_
 refine qp.zK (id:=9) _ _ _ _ (.inr rfl) Tryz.underlying258 Tryz.underlying3 rfl rfl rfl rfl rfl ?_;intro v4;refine dd ?_
 refine qp.zK (id:=9) _ _ _ _ (.inr rfl) Tryz.underlying258 Tryz.underlying3 rfl rfl rfl rfl rfl ?_;intro v5;refine dd ?_
 refine qp.zK (id:=9) _ _ _ _ (.inr rfl) Tryz.underlying258 Tryz.underlying3 rfl rfl rfl rfl rfl ?_;intro v6;refine dd ?_
 refine qp.zK (id:=9) _ _ _ _ (.inr rfl) Tryz.underlying258 Tryz.underlying3 rfl rfl rfl rfl rfl ?_;intro v8;refine dd ?_
 refine qp.zK (id:=9) _ _ _ _ (.inr rfl) Tryz.underlying258 Tryz.underlying3 rfl rfl rfl rfl rfl ?_;intro v9;refine dd ?_
 refine qp.zK (id:=9) _ _ _ _ (.inr rfl) Tryz.underlying258 Tryz.underlying3 rfl rfl rfl rfl rfl ?_;intro v10;refine dd ?_
 (refine ⟨_,_,OpV.zbV (id:=9) _ _ _ _ rfl Tryz.underlying258 Tryz.underlying3 rfl rfl rfl rfl rfl rfl (hf _ _ _ _ _ _ _ _ _ _) hc,?_⟩;(refine dd ?_))
 (repeat ((first | apply ya | apply yb);refine dd ?_))
 refine .inl ⟨rfl,_,_,(zl.forget 9).trans (zl.zi4 9 (by (conv=>whnf);(repeat (refine ⟨rfl,?_⟩;(conv=>whnf)));exact trivial) rfl rfl rfl hlow rfl),hn⟩
theorem zkf (w:Wor) (m:Mac) (X:Ob) (Y Z:Ob)(j f:Nat) (R:Exit->S->Prop) (hlow:ja 10 ([⟨1,28,8,[zU (w)],0⟩,⟨1,43,44,[zW (m)],0⟩,⟨1,28,8,[zeW],0⟩,⟨1,43,44,[zeM],0⟩,⟨1,81,23,[yk xF],0⟩,X,⟨1,43,44,[zW (m)],0⟩,⟨1,255,2,[[.ref 5 [] 8 0 0,.ref 6 [] 44 0 0]],0⟩]++[Y,Z])=true) (hf:∀ v0 v1 v2 v3 v4 v5 v6 v8 v9 v10,xt [(0,v0,0),(1,v1,1),(2,v2,2),(3,v3,3),(4,v4,4),(5,v5,5),(6,v6,6),(8,v8,7),(9,v9,8),(10,v10,9)] m.pc=some j) (hc:([.fn 225 [.agg [.ref 5 [] 8 0 0,.ref 6 [] 44 0 0]] [],.fn 226 [.agg [.ref 5 [] 8 0 0,.ref 6 [] 44 0 0]] [],.fn 227 [.agg [.ref 5 [] 8 0 0,.ref 6 [] 44 0 0]] [],.fn 228 [.agg [.ref 5 [] 8 0 0,.ref 6 [] 44 0 0]] [],.fn 229 [.agg [.ref 5 [] 8 0 0,.ref 6 [] 44 0 0]] [],.fn 230 [.agg [.ref 5 [] 8 0 0,.ref 6 [] 44 0 0]] [],.fn 231 [.agg [.ref 5 [] 8 0 0,.ref 6 [] 44 0 0]] [],.fn 232 [.agg [.ref 5 [] 8 0 0,.ref 6 [] 44 0 0]] [],.fn 233 [.agg [.ref 5 [] 8 0 0,.ref 6 [] 44 0 0]] [],.fn 234 [.agg [.ref 5 [] 8 0 0,.ref 6 [] 44 0 0]] []]:List C)[j]?= some (.fn f [.agg [.ref 5 [] 8 0 0,.ref 6 [] 44 0 0]] []))
  (hn:z1 Tryz.prog 0 (behind 5 ((Tryz.f156.body).getD .skip)) ⟨(.za::.za::.ref 0 [] 8 0 0:: .ref 1 [] 44 0 0:: .ref 2 [] 8 0 0:: .ref 3 [] 44 0 0:: .ref 4 [] 23 0 0:: .ref 5 [] 8 0 0:: .ref 6 [] 44 0 0:: .ref 7 [] 2 0 0:: .fn f [.agg [.ref 5 [] 8 0 0,.ref 6 [] 44 0 0]] []::Bo true:: .za::.za::.za::.za::.za::.za::.za::.za::.za::.za::.za::.za::.za::.za::.za::.za::.za::.za::.za::.za::.za::.za::.za::.za::.za::.za::.za::.za::.za::.za::.za::.za::.za::.za::.za::.za::.za::.za::.za::.za::.za::.za::.za::.za::.za::.za::.za::.za::.za::.za::.za::.za::.za::.za::.za::.za::[]),[⟨1,28,8,[zU (w)],0⟩,⟨1,43,44,[zW (m)],0⟩,⟨1,28,8,[zeW],0⟩,⟨1,43,44,[zeM],0⟩,⟨1,81,23,[yk xF],0⟩,X,⟨1,43,44,[zW (m)],0⟩,⟨1,255,2,[[.ref 5 [] 8 0 0,.ref 6 [] 44 0 0]],0⟩]++[Y,Z]⟩ R):z1 Tryz.prog 0 (behind 4 ((Tryz.f156.body).getD .skip)) ⟨(.za::.za::.ref 0 [] 8 0 0:: .ref 1 [] 44 0 0:: .ref 2 [] 8 0 0:: .ref 3 [] 44 0 0:: .ref 4 [] 23 0 0:: .ref 5 [] 8 0 0:: .ref 6 [] 44 0 0:: .ref 7 [] 2 0 0:: .za::.za::.za::.za::.za::.za::.za::.za::.za::.za::.za::.za::.za::.za::.za::.za::.za::.za::.za::.za::.za::.za::.za::.za::.za::.za::.za::.za::.za::.za::.za::.za::.za::.za::.za::.za::.za::.za::.za::.za::.za::.za::.za::.za::.za::.za::.za::.za::.za::.za::.za::.za::.za::.za::.za::.za::.za::.za::[]),[⟨1,28,8,[zU (w)],0⟩,⟨1,43,44,[zW (m)],0⟩,⟨1,28,8,[zeW],0⟩,⟨1,43,44,[zeM],0⟩,⟨1,81,23,[yk xF],0⟩,X,⟨1,43,44,[zW (m)],0⟩,⟨1,255,2,[[.ref 5 [] 8 0 0,.ref 6 [] 44 0 0]],0⟩]++[Y,Z]⟩ R:=by
 refine kr ?_
 conv=>whnf
 intro b
 refine dd ?_
 refine qp.zK (id:=10) _ _ _ _ (.inr rfl) Tryz.underlying258 Tryz.underlying3 rfl rfl rfl rfl rfl ?_;intro v0;refine dd ?_
 refine qp.zK (id:=10) _ _ _ _ (.inr rfl) Tryz.underlying258 Tryz.underlying3 rfl rfl rfl rfl rfl ?_;intro v1;refine dd ?_
 refine qp.zK (id:=10) _ _ _ _ (.inr rfl) Tryz.underlying258 Tryz.underlying3 rfl rfl rfl rfl rfl ?_;intro v2;refine dd ?_
 refine qp.zK (id:=10) _ _ _ _ (.inr rfl) Tryz.underlying258 Tryz.underlying3 rfl rfl rfl rfl rfl ?_;intro v3;refine dd ?_
 refine qp.zK (id:=10) _ _ _ _ (.inr rfl) Tryz.underlying258 Tryz.underlying3 rfl rfl rfl rfl rfl ?_;intro v4;refine dd ?_
 refine qp.zK (id:=10) _ _ _ _ (.inr rfl) Tryz.underlying258 Tryz.underlying3 rfl rfl rfl rfl rfl ?_;intro v5;refine dd ?_
 refine qp.zK (id:=10) _ _ _ _ (.inr rfl) Tryz.underlying258 Tryz.underlying3 rfl rfl rfl rfl rfl ?_;intro v6;refine dd ?_
 refine qp.zK (id:=10) _ _ _ _ (.inr rfl) Tryz.underlying258 Tryz.underlying3 rfl rfl rfl rfl rfl ?_;intro v8;refine dd ?_
 refine qp.zK (id:=10) _ _ _ _ (.inr rfl) Tryz.underlying258 Tryz.underlying3 rfl rfl rfl rfl rfl ?_;intro v9;refine dd ?_
 refine qp.zK (id:=10) _ _ _ _ (.inr rfl) Tryz.underlying258 Tryz.underlying3 rfl rfl rfl rfl rfl ?_;intro v10;refine dd ?_
 (refine ⟨_,_,OpV.zbV (id:=10) _ _ _ _ rfl Tryz.underlying258 Tryz.underlying3 rfl rfl rfl rfl rfl rfl (hf _ _ _ _ _ _ _ _ _ _) hc,?_⟩;(refine dd ?_))
 (repeat ((first | apply ya | apply yb);refine dd ?_))
 refine .inl ⟨rfl,_,_,(zl.forget 10).trans (zl.zi4 10 (by (conv=>whnf);(repeat (refine ⟨rfl,?_⟩;(conv=>whnf)));exact trivial) rfl rfl rfl hlow rfl),hn⟩
end Go.Wor
namespace Go.Wor
open Go.Ab Go.Proofs Go.Hy Go.Gat Go.Nam Go.Hos Go.Con Go.Sna
theorem ql {w w':Wor} {m m':Mac} {e:Eve} (sw:zbv w) (ok:OkW w) (hl:i64 m.listen) (hs:jx w m=true) (hm:zb Tryz.prog 224 [] [Cw w,Cm m] (Bo true) []) (j f:Nat) (hcb:zA Tryz.prog f=true) (hf:∀ v0 v1 v2 v3 v4 v5 v6 v8 v9 v10,xt [(0,v0,0),(1,v1,1),(2,v2,2),(3,v3,3),(4,v4,4),(5,v5,5),(6,v6,6),(8,v8,7),(9,v9,8),(10,v10,9)] m.pc=some j) (hc:([.fn 225 [.agg [.ref 5 [] 8 0 0,.ref 6 [] 44 0 0]] [],.fn 226 [.agg [.ref 5 [] 8 0 0,.ref 6 [] 44 0 0]] [],.fn 227 [.agg [.ref 5 [] 8 0 0,.ref 6 [] 44 0 0]] [],.fn 228 [.agg [.ref 5 [] 8 0 0,.ref 6 [] 44 0 0]] [],.fn 229 [.agg [.ref 5 [] 8 0 0,.ref 6 [] 44 0 0]] [],.fn 230 [.agg [.ref 5 [] 8 0 0,.ref 6 [] 44 0 0]] [],.fn 231 [.agg [.ref 5 [] 8 0 0,.ref 6 [] 44 0 0]] [],.fn 232 [.agg [.ref 5 [] 8 0 0,.ref 6 [] 44 0 0]] [],.fn 233 [.agg [.ref 5 [] 8 0 0,.ref 6 [] 44 0 0]] [],.fn 234 [.agg [.ref 5 [] 8 0 0,.ref 6 [] 44 0 0]] []]:List C)[j]?= some (.fn f [.agg [.ref 5 [] 8 0 0,.ref 6 [] 44 0 0]] []))
  (h:zb Tryz.prog f [⟨1,28,8,[zU (w)],0⟩,⟨1,43,44,[zW (m)],0⟩] [.agg [.ref 0 [] 8 0 0,.ref 1 [] 44 0 0]] (Ce e) [⟨1,28,8,[zU (w')],0⟩,⟨1,43,44,[zW (m')],0⟩]):zb Tryz.prog 156 [] [Cw w,Cm m] (.tup [Cw w',Cm m',Ce e]) []:=by
 refine zb.zbm Tryz.func156 rfl ?_
 show z1 Tryz.prog 0 ((Tryz.f156.body).getD .skip) _ _
 refine kr ?_
 conv=>whnf
 refine .inl ⟨rfl,_,_,.refl _,kr ?_⟩
 conv=>whnf
 refine ⟨_,_,(vF w m ok hl).frame rfl _,?_⟩;refine dd ?_
 refine ⟨fun _=>?_,fun h=>absurd ((hs).symm.trans h:true=false) (by decide)⟩;refine dd ?_
 (repeat ((first | apply ya | apply yb);refine dd ?_))
 refine ⟨_,_,(hm).frame rfl _,?_⟩;refine dd ?_
 (repeat ((first | apply ya | apply yb);refine dd ?_))
 refine .inl ⟨rfl,_,_,.refl _,kr ?_⟩
 conv=>whnf
 refine .inr ⟨⟨[0,1,2],[0,1],true⟩,by kernel_rfl,fun _=>rfl,fun t H=>t=(.za::.za::.ref 0 [] 8 0 0:: .ref 1 [] 44 0 0:: .ref 2 [] 8 0 0:: .ref 3 [] 44 0 0:: .ref 4 [] 23 0 0:: .ref 5 [] 8 0 0:: .ref 6 [] 44 0 0:: .za::.za::.za::.za::.za::.za::.za::.za::.za::.za::.za::.za::.za::.za::.za::.za::.za::.za::.za::.za::.za::.za::.za::.za::.za::.za::.za::.za::.za::.za::.za::.za::.za::.za::.za::.za::.za::.za::.za::.za::.za::.za::.za::.za::.za::.za::.za::.za::.za::.za::.za::.za::.za::.za::.za::.za::.za::.za::.za::[])∧H=[⟨1,28,8,[zU (w)],0⟩,⟨1,43,44,[zW (m)],0⟩,⟨1,28,8,[zeW],0⟩,⟨1,43,44,[zeM],0⟩,⟨1,81,23,[yk xF],0⟩,⟨1,28,8,[zU (w)],0⟩,⟨1,43,44,[zW (m)],0⟩],?_,?_⟩
 ·conv=>whnf
  refine ⟨_,zb.blind [] (zaD w sw) rfl rfl rfl rfl rfl rfl rfl (fun _=>rfl) (fun _=>rfl),?_⟩;(conv=>whnf)
  repeat' (first | (exact trivial) | (refine ⟨rfl,?_⟩;(conv=>whnf)) | (exact ⟨_,_,zl.ren [0,1,2,3,4,5,6] [2,3,4,5,6,7,8] _ _ rfl rfl rfl rfl,rfl,rfl⟩) | (exact ⟨_,_,zl.ren [0,1,2,3,4,6,5] [2,3,4,5,6,7,8] _ _ rfl rfl rfl rfl,rfl,rfl⟩) | (refine And.intro ?_ ?_ <;> (conv=>whnf)))
 rintro _ _ ⟨rfl,rfl⟩
 conv=>whnf
 refine .inl ⟨rfl,_,_,.refl _,kr ?_⟩
 conv=>whnf
 refine .inl ⟨rfl,_,_,cE 8,zkh w m (⟨1,28,8,[zU (w)],0⟩) j f _ rfl hf hc ?_⟩
 (refine qx (K:=fun ex t H=>(ex=.ret∨ex=.normal)∧∃ s2,zl 0 ⟨t,H⟩ s2∧(yx Tryz.prog Tryz.f156 s2).map (jG 0 9)=some (.tup [Cw w',Cm m',Ce e])) ?_;conv=>whnf)
 rw [hcb]
 refine zq [5,6] (h) rfl rfl rfl rfl rfl rfl ?_;refine dd ?_
 refine .inl ⟨⟨false,[0,1,2],[5,6,8],[]⟩,by kernel_rfl,?_⟩;(conv=>whnf)
 repeat (refine ⟨rfl,?_⟩;conv=>whnf)
 exact ⟨.inl rfl,_,.refl _,rfl⟩
end Go.Wor
namespace Go.Wor
open Go.Ab Go.Proofs Go.Hy Go.Gat Go.Nam Go.Hos Go.Con Go.Sna
theorem zdI {w:Wor} {m m':Mac} {e:Eve} {ls:List Lis} (sw:zbv w) (ok:OkW w) (hl:i64 m.listen) (hs:jx w m=true) (hm:zb Tryz.prog 224 [] [Cw w,Cm m] (Bo true) []) (j f:Nat) (hcb:zA Tryz.prog f=true) (hf:∀ v0 v1 v2 v3 v4 v5 v6 v8 v9 v10,xt [(0,v0,0),(1,v1,1),(2,v2,2),(3,v3,3),(4,v4,4),(5,v5,5),(6,v6,6),(8,v8,7),(9,v9,8),(10,v10,9)] m.pc=some j) (hc:([.fn 225 [.agg [.ref 5 [] 8 0 0,.ref 6 [] 44 0 0]] [],.fn 226 [.agg [.ref 5 [] 8 0 0,.ref 6 [] 44 0 0]] [],.fn 227 [.agg [.ref 5 [] 8 0 0,.ref 6 [] 44 0 0]] [],.fn 228 [.agg [.ref 5 [] 8 0 0,.ref 6 [] 44 0 0]] [],.fn 229 [.agg [.ref 5 [] 8 0 0,.ref 6 [] 44 0 0]] [],.fn 230 [.agg [.ref 5 [] 8 0 0,.ref 6 [] 44 0 0]] [],.fn 231 [.agg [.ref 5 [] 8 0 0,.ref 6 [] 44 0 0]] [],.fn 232 [.agg [.ref 5 [] 8 0 0,.ref 6 [] 44 0 0]] [],.fn 233 [.agg [.ref 5 [] 8 0 0,.ref 6 [] 44 0 0]] [],.fn 234 [.agg [.ref 5 [] 8 0 0,.ref 6 [] 44 0 0]] []]:List C)[j]?= some (.fn f [.agg [.ref 5 [] 8 0 0,.ref 6 [] 44 0 0]] []))
  (hne:w.zc≠[]) (hll:ls.length=w.zc.length) (h:zb Tryz.prog f [⟨1,28,8,[[I w.zj,I w.current,I w.lock,lI w.pins,lV w.zd,.sl 2 [] 4 0 w.zc.length false,lCo w.counts,lR w.zg]],0⟩,⟨1,43,44,[zW (m)],0⟩,⟨2,95,4,(w.zc).map qL,0⟩] [.agg [.ref 0 [] 8 0 0,.ref 1 [] 44 0 0]] (Ce e) [⟨1,28,8,[[I w.zj,I w.current,I w.lock,lI w.pins,lV w.zd,.sl 2 [] 4 0 w.zc.length false,lCo w.counts,lR w.zg]],0⟩,⟨1,43,44,[zW (m')],0⟩,⟨2,95,4,(ls).map qL,0⟩]):zb Tryz.prog 156 [] [Cw w,Cm m] (.tup [Cw { w with zc:=ls },Cm m',Ce e]) []:=by
 obtain ⟨x,l,hx⟩:=List.exists_cons_of_ne_nil hne
 refine zb.zbm Tryz.func156 rfl ?_
 show z1 Tryz.prog 0 ((Tryz.f156.body).getD .skip) _ _
 refine kr ?_
 conv=>whnf
 refine .inl ⟨rfl,_,_,.refl _,kr ?_⟩
 conv=>whnf
 refine ⟨_,_,(vF w m ok hl).frame rfl _,?_⟩;refine dd ?_
 refine ⟨fun _=>?_,fun h=>absurd ((hs).symm.trans h:true=false) (by decide)⟩;refine dd ?_
 (repeat ((first | apply ya | apply yb);refine dd ?_))
 refine ⟨_,_,(hm).frame rfl _,?_⟩;refine dd ?_
 (repeat ((first | apply ya | apply yb);refine dd ?_))
 refine .inl ⟨rfl,_,_,.refl _,kr ?_⟩
 conv=>whnf
 refine .inr ⟨⟨[0,2],[0,1],true⟩,by kernel_rfl,fun _=>rfl,fun t H=>t=(.za::.za::.ref 0 [] 8 0 0:: .ref 1 [] 44 0 0:: .ref 2 [] 8 0 0:: .ref 3 [] 44 0 0:: .ref 4 [] 23 0 0:: .ref 5 [] 8 0 0:: .ref 6 [] 44 0 0:: .za::.za::.za::.za::.za::.za::.za::.za::.za::.za::.za::.za::.za::.za::.za::.za::.za::.za::.za::.za::.za::.za::.za::.za::.za::.za::.za::.za::.za::.za::.za::.za::.za::.za::.za::.za::.za::.za::.za::.za::.za::.za::.za::.za::.za::.za::.za::.za::.za::.za::.za::.za::.za::.za::.za::.za::.za::.za::.za::[])∧H=[⟨1,28,8,[zU (w)],0⟩,⟨1,43,44,[zW (m)],0⟩,⟨1,28,8,[zeW],0⟩,⟨1,43,44,[zeM],0⟩,⟨1,81,23,[yk xF],0⟩,⟨1,28,8,[[I w.zj,I w.current,I w.lock,lI w.pins,lV w.zd,.sl 7 [] 4 0 w.zc.length false,lCo w.counts,lR w.zg]],0⟩,⟨1,43,44,[zW (m)],0⟩,⟨2,95,4,(w.zc).map qL,0⟩],?_,?_⟩
 ·conv=>whnf
  repeat' (first | (exact trivial) | (refine ⟨rfl,?_⟩;(conv=>whnf)) | (refine zq [] (zdC w sw x l hx) rfl rfl rfl rfl rfl rfl ?_;(conv=>whnf)) | (exact ⟨_,_,zl.ren [0,1,2,3,4,5,6,7] [2,3,4,5,6,7,8] _ _ rfl rfl rfl rfl,rfl,rfl⟩) | (exact ⟨_,_,zl.ren [0,1,2,3,4,5,7,6] [2,3,4,5,6,7,8] _ _ rfl rfl rfl rfl,rfl,rfl⟩) | (exact ⟨_,_,zl.ren [0,1,2,3,4,6,5,7] [2,3,4,5,6,7,8] _ _ rfl rfl rfl rfl,rfl,rfl⟩) | (exact ⟨_,_,zl.ren [0,1,2,3,4,6,7,5] [2,3,4,5,6,7,8] _ _ rfl rfl rfl rfl,rfl,rfl⟩) | (exact ⟨_,_,zl.ren [0,1,2,3,4,7,5,6] [2,3,4,5,6,7,8] _ _ rfl rfl rfl rfl,rfl,rfl⟩) | (exact ⟨_,_,zl.ren [0,1,2,3,4,7,6,5] [2,3,4,5,6,7,8] _ _ rfl rfl rfl rfl,rfl,rfl⟩) | (refine And.intro ?_ ?_ <;> (conv=>whnf)))
 rintro _ _ ⟨rfl,rfl⟩
 conv=>whnf
 refine .inl ⟨rfl,_,_,.refl _,kr ?_⟩
 conv=>whnf
 refine .inl ⟨rfl,_,_,(zl.ren [0,1,2,3,4,5,6,8,7] [2,3,4,5,6,7,8,9] _ _ rfl rfl rfl rfl).trans (cC),zkg w m (⟨1,28,8,[[I w.zj,I w.current,I w.lock,lI w.pins,lV w.zd,.sl 8 [] 4 0 w.zc.length false,lCo w.counts,lR w.zg]],0⟩) (⟨2,95,4,(w.zc).map qL,0⟩) j f _ rfl hf hc ?_⟩
 (refine qx (K:=fun ex t H=>(ex=.ret∨ex=.normal)∧∃ s2,zl 0 ⟨t,H⟩ s2∧(yx Tryz.prog Tryz.f156 s2).map (jG 0 9)=some (.tup [Cw { w with zc:=ls },Cm m',Ce e])) ?_;conv=>whnf)
 rw [hcb]
 refine zq [5,6,8] (h) rfl rfl rfl rfl rfl rfl ?_;refine dd ?_
 refine .inl ⟨⟨false,[0,1,2],[5,6,9],[]⟩,by kernel_rfl,?_⟩;(conv=>whnf)
 repeat (refine ⟨rfl,?_⟩;conv=>whnf)
 exact ⟨.inl rfl,_,zl.jY 2 0 5 rfl rfl rfl rfl (.inr rfl) (by simp) (by rw [List.length_map];exact hll.symm) (shut_map (enc:=qL) (fun _=>rfl) _) (jk rfl),rfl⟩
end Go.Wor
namespace Go.Wor
open Go.Ab Go.Proofs Go.Hy Go.Gat Go.Nam Go.Hos Go.Con Go.Sna
theorem zdB (w:Wor) (h:zbv w) (x:Ret) (l:List Ret) (hx:w.zg=x::l):zb Tryz.prog 215 [] [Cw w] (.agg [I w.zj,I w.current,I w.lock,lI w.pins,.sl 0 [] 5 0 w.zd.length false,lL w.zc,lCo w.counts,.sl 1 [] 3 0 w.zg.length false]) [⟨2,72,5,(w.zd).map qu,0⟩,⟨2,113,3,(w.zg).map qM,0⟩]:=by
 have hl:l.length < 1000000000:=by have:=h.zg;rw [hx] at this;simp at this;omega
 have hc:=ziW x l hl
 rw [<- hx] at hc
 refine zjx (fn:=Tryz.f215) Tryz.func215 rfl ?_;conv=>whnf
 refine ⟨_,_,(kW w.pins h.pins).frame rfl _,?_⟩;refine dd ?_
 refine zq [] (zdM w.zd h.zd.1 fun v hv=>yd v (h.zd.2 v hv)) rfl rfl rfl rfl rfl rfl ?_;refine dd ?_
 refine ⟨_,_,(zeF w.zc h.zc).frame rfl _,?_⟩;refine dd ?_
 refine zq [] (zdL w.counts h.counts.1 fun r hr=>kD r (h.counts.2 r hr)) rfl rfl rfl rfl rfl rfl ?_;refine dd ?_
 refine zq [] (hc) rfl rfl rfl rfl rfl rfl ?_;refine dd ?_
 refine ⟨.inl rfl,_,_,zl.jY 1 0 6 rfl rfl rfl rfl (.inr rfl) rfl (by simp) (shut_map (enc:=jT) (fun _=>rfl) w.counts) (jk rfl),rfl,?_⟩
 exact zl.ren [3,5] [0] _ _ rfl rfl rfl (ji rfl (ji rfl (ji rfl (ji rfl (ji (zac fun r hr c hc=>((shut_map (enc:=jT) (fun _=>rfl) w.counts) r hr c hc).2) rfl)))))
theorem zdH {w:Wor} {m m':Mac} {e:Eve} {vs:List Ver} {rs:List Ret} (sw:zbv w) (ok:OkW w) (hl:i64 m.listen) (hs:jx w m=true) (hm:zb Tryz.prog 224 [] [Cw w,Cm m] (Bo true) []) (j f:Nat) (hcb:zA Tryz.prog f=true) (hf:∀ v0 v1 v2 v3 v4 v5 v6 v8 v9 v10,xt [(0,v0,0),(1,v1,1),(2,v2,2),(3,v3,3),(4,v4,4),(5,v5,5),(6,v6,6),(8,v8,7),(9,v9,8),(10,v10,9)] m.pc=some j) (hc:([.fn 225 [.agg [.ref 5 [] 8 0 0,.ref 6 [] 44 0 0]] [],.fn 226 [.agg [.ref 5 [] 8 0 0,.ref 6 [] 44 0 0]] [],.fn 227 [.agg [.ref 5 [] 8 0 0,.ref 6 [] 44 0 0]] [],.fn 228 [.agg [.ref 5 [] 8 0 0,.ref 6 [] 44 0 0]] [],.fn 229 [.agg [.ref 5 [] 8 0 0,.ref 6 [] 44 0 0]] [],.fn 230 [.agg [.ref 5 [] 8 0 0,.ref 6 [] 44 0 0]] [],.fn 231 [.agg [.ref 5 [] 8 0 0,.ref 6 [] 44 0 0]] [],.fn 232 [.agg [.ref 5 [] 8 0 0,.ref 6 [] 44 0 0]] [],.fn 233 [.agg [.ref 5 [] 8 0 0,.ref 6 [] 44 0 0]] [],.fn 234 [.agg [.ref 5 [] 8 0 0,.ref 6 [] 44 0 0]] []]:List C)[j]?= some (.fn f [.agg [.ref 5 [] 8 0 0,.ref 6 [] 44 0 0]] []))
  (hne:w.zd≠[]) (hne2:w.zg≠[]) (hvl:vs.length=w.zd.length) (hrl:rs.length=w.zg.length) (h:zb Tryz.prog f [⟨1,28,8,[[I w.zj,I w.current,I w.lock,lI w.pins,.sl 2 [] 5 0 w.zd.length false,lL w.zc,lCo w.counts,.sl 3 [] 3 0 w.zg.length false]],0⟩,⟨1,43,44,[zW (m)],0⟩,⟨2,72,5,(w.zd).map qu,0⟩,⟨2,113,3,(w.zg).map qM,0⟩] [.agg [.ref 0 [] 8 0 0,.ref 1 [] 44 0 0]] (Ce e) [⟨1,28,8,[[I w.zj,I w.current,I w.lock,lI w.pins,.sl 2 [] 5 0 w.zd.length false,lL w.zc,lCo w.counts,.sl 3 [] 3 0 w.zg.length false]],0⟩,⟨1,43,44,[zW (m')],0⟩,⟨2,72,5,(vs).map qu,0⟩,⟨2,113,3,(rs).map qM,0⟩]):zb Tryz.prog 156 [] [Cw w,Cm m] (.tup [Cw { w with zd:=vs,zg:=rs },Cm m',Ce e]) []:=by
 obtain ⟨v,vl,hv⟩:=List.exists_cons_of_ne_nil hne
 obtain ⟨r,rl,hr⟩:=List.exists_cons_of_ne_nil hne2
 refine zb.zbm Tryz.func156 rfl ?_
 show z1 Tryz.prog 0 ((Tryz.f156.body).getD .skip) _ _
 refine kr ?_
 conv=>whnf
 refine .inl ⟨rfl,_,_,.refl _,kr ?_⟩
 conv=>whnf
 refine ⟨_,_,(vF w m ok hl).frame rfl _,?_⟩;refine dd ?_
 refine ⟨fun _=>?_,fun h=>absurd ((hs).symm.trans h:true=false) (by decide)⟩;refine dd ?_
 (repeat ((first | apply ya | apply yb);refine dd ?_))
 refine ⟨_,_,(hm).frame rfl _,?_⟩;refine dd ?_
 (repeat ((first | apply ya | apply yb);refine dd ?_))
 refine .inl ⟨rfl,_,_,.refl _,kr ?_⟩
 conv=>whnf
 refine .inr ⟨⟨[0,2],[0,1],true⟩,by kernel_rfl,fun _=>rfl,fun t H=>t=(.za::.za::.ref 0 [] 8 0 0:: .ref 1 [] 44 0 0:: .ref 2 [] 8 0 0:: .ref 3 [] 44 0 0:: .ref 4 [] 23 0 0:: .ref 5 [] 8 0 0:: .ref 6 [] 44 0 0:: .za::.za::.za::.za::.za::.za::.za::.za::.za::.za::.za::.za::.za::.za::.za::.za::.za::.za::.za::.za::.za::.za::.za::.za::.za::.za::.za::.za::.za::.za::.za::.za::.za::.za::.za::.za::.za::.za::.za::.za::.za::.za::.za::.za::.za::.za::.za::.za::.za::.za::.za::.za::.za::.za::.za::.za::.za::.za::.za::[])∧H=[⟨1,28,8,[zU (w)],0⟩,⟨1,43,44,[zW (m)],0⟩,⟨1,28,8,[zeW],0⟩,⟨1,43,44,[zeM],0⟩,⟨1,81,23,[yk xF],0⟩,⟨1,28,8,[[I w.zj,I w.current,I w.lock,lI w.pins,.sl 7 [] 5 0 w.zd.length false,lL w.zc,lCo w.counts,.sl 8 [] 3 0 w.zg.length false]],0⟩,⟨1,43,44,[zW (m)],0⟩,⟨2,72,5,(w.zd).map qu,0⟩,⟨2,113,3,(w.zg).map qM,0⟩],?_,?_⟩
 ·conv=>whnf
  repeat' (first | (exact trivial) | (refine ⟨rfl,?_⟩;(conv=>whnf)) | (refine zq [] (zdB w sw r rl hr) rfl rfl rfl rfl rfl rfl ?_;(conv=>whnf)) | (exact ⟨_,_,zl.ren [0,1,2,3,4,5,6,7,8] [2,3,4,5,6,7,8] _ _ rfl rfl rfl rfl,rfl,rfl⟩) | (exact ⟨_,_,zl.ren [0,1,2,3,4,5,6,8,7] [2,3,4,5,6,7,8] _ _ rfl rfl rfl rfl,rfl,rfl⟩) | (exact ⟨_,_,zl.ren [0,1,2,3,4,5,7,6,8] [2,3,4,5,6,7,8] _ _ rfl rfl rfl rfl,rfl,rfl⟩) | (exact ⟨_,_,zl.ren [0,1,2,3,4,5,7,8,6] [2,3,4,5,6,7,8] _ _ rfl rfl rfl rfl,rfl,rfl⟩) | (exact ⟨_,_,zl.ren [0,1,2,3,4,5,8,6,7] [2,3,4,5,6,7,8] _ _ rfl rfl rfl rfl,rfl,rfl⟩) | (exact ⟨_,_,zl.ren [0,1,2,3,4,5,8,7,6] [2,3,4,5,6,7,8] _ _ rfl rfl rfl rfl,rfl,rfl⟩) | (exact ⟨_,_,zl.ren [0,1,2,3,4,6,5,7,8] [2,3,4,5,6,7,8] _ _ rfl rfl rfl rfl,rfl,rfl⟩) | (exact ⟨_,_,zl.ren [0,1,2,3,4,6,5,8,7] [2,3,4,5,6,7,8] _ _ rfl rfl rfl rfl,rfl,rfl⟩) | (exact ⟨_,_,zl.ren [0,1,2,3,4,6,7,5,8] [2,3,4,5,6,7,8] _ _ rfl rfl rfl rfl,rfl,rfl⟩) | (exact ⟨_,_,zl.ren [0,1,2,3,4,6,7,8,5] [2,3,4,5,6,7,8] _ _ rfl rfl rfl rfl,rfl,rfl⟩) | (exact ⟨_,_,zl.ren [0,1,2,3,4,6,8,5,7] [2,3,4,5,6,7,8] _ _ rfl rfl rfl rfl,rfl,rfl⟩) | (exact ⟨_,_,zl.ren [0,1,2,3,4,6,8,7,5] [2,3,4,5,6,7,8] _ _ rfl rfl rfl rfl,rfl,rfl⟩) | (exact ⟨_,_,zl.ren [0,1,2,3,4,7,5,6,8] [2,3,4,5,6,7,8] _ _ rfl rfl rfl rfl,rfl,rfl⟩) | (exact ⟨_,_,zl.ren [0,1,2,3,4,7,5,8,6] [2,3,4,5,6,7,8] _ _ rfl rfl rfl rfl,rfl,rfl⟩) | (exact ⟨_,_,zl.ren [0,1,2,3,4,7,6,5,8] [2,3,4,5,6,7,8] _ _ rfl rfl rfl rfl,rfl,rfl⟩) | (exact ⟨_,_,zl.ren [0,1,2,3,4,7,6,8,5] [2,3,4,5,6,7,8] _ _ rfl rfl rfl rfl,rfl,rfl⟩) | (exact ⟨_,_,zl.ren [0,1,2,3,4,7,8,5,6] [2,3,4,5,6,7,8] _ _ rfl rfl rfl rfl,rfl,rfl⟩) | (exact ⟨_,_,zl.ren [0,1,2,3,4,7,8,6,5] [2,3,4,5,6,7,8] _ _ rfl rfl rfl rfl,rfl,rfl⟩) | (exact ⟨_,_,zl.ren [0,1,2,3,4,8,5,6,7] [2,3,4,5,6,7,8] _ _ rfl rfl rfl rfl,rfl,rfl⟩) | (exact ⟨_,_,zl.ren [0,1,2,3,4,8,5,7,6] [2,3,4,5,6,7,8] _ _ rfl rfl rfl rfl,rfl,rfl⟩) | (exact ⟨_,_,zl.ren [0,1,2,3,4,8,6,5,7] [2,3,4,5,6,7,8] _ _ rfl rfl rfl rfl,rfl,rfl⟩) | (exact ⟨_,_,zl.ren [0,1,2,3,4,8,6,7,5] [2,3,4,5,6,7,8] _ _ rfl rfl rfl rfl,rfl,rfl⟩) | (exact ⟨_,_,zl.ren [0,1,2,3,4,8,7,5,6] [2,3,4,5,6,7,8] _ _ rfl rfl rfl rfl,rfl,rfl⟩) | (exact ⟨_,_,zl.ren [0,1,2,3,4,8,7,6,5] [2,3,4,5,6,7,8] _ _ rfl rfl rfl rfl,rfl,rfl⟩) | (refine And.intro ?_ ?_ <;> (conv=>whnf)))
 rintro _ _ ⟨rfl,rfl⟩
 conv=>whnf
 refine .inl ⟨rfl,_,_,.refl _,kr ?_⟩
 conv=>whnf
 refine .inl ⟨rfl,_,_,(zl.ren [0,1,2,3,4,5,6,9,7,8] [2,3,4,5,6,7,8,9] _ _ rfl rfl rfl rfl).trans (cC),zkf w m (⟨1,28,8,[[I w.zj,I w.current,I w.lock,lI w.pins,.sl 8 [] 5 0 w.zd.length false,lL w.zc,lCo w.counts,.sl 9 [] 3 0 w.zg.length false]],0⟩) (⟨2,72,5,(w.zd).map qu,0⟩) (⟨2,113,3,(w.zg).map qM,0⟩) j f _ rfl hf hc ?_⟩
 (refine qx (K:=fun ex t H=>(ex=.ret∨ex=.normal)∧∃ s2,zl 0 ⟨t,H⟩ s2∧(yx Tryz.prog Tryz.f156 s2).map (jG 0 9)=some (.tup [Cw { w with zd:=vs,zg:=rs },Cm m',Ce e])) ?_;conv=>whnf)
 rw [hcb]
 refine zq [5,6,8,9] (h) rfl rfl rfl rfl rfl rfl ?_;refine dd ?_
 refine .inl ⟨⟨false,[0,1,2],[5,6,10],[]⟩,by kernel_rfl,?_⟩;(conv=>whnf)
 repeat (refine ⟨rfl,?_⟩;conv=>whnf)
 exact ⟨.inl rfl,_,(zl.jY 2 0 4 rfl rfl rfl rfl (.inr rfl) (by simp) (by rw [List.length_map];exact hvl.symm) (shut_map (enc:=qu) (fun _=>rfl) _) (jk rfl)).trans (zl.jY 2 0 7 rfl rfl rfl rfl (.inr rfl) (by simp) (by rw [List.length_map];exact hrl.symm) (shut_map (enc:=qM) (fun _=>rfl) _) (jk rfl)),rfl⟩
end Go.Wor
