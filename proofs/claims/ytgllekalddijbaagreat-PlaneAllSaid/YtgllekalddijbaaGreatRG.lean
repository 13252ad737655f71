import Derived.Test.YtgllekalddijbaaGreatRV
import Derived.Test.YtgllekalddijbaaGreatRW
set_option linter.unusedVariables false
set_option linter.unusedSimpArgs false
set_option linter.unusedSectionVars false
set_option maxRecDepth 100000
set_option maxHeartbeats 4000000
namespace Go.Wor
open Go.Ab Go.Proofs Go.Hy Go.Gat Go.Nam Go.Hos Go.Con Go.Sna
end Go.Wor
namespace Go.Wor
open Go.Ab Go.Proofs Go.Hy Go.Gat Go.Nam Go.Hos Go.Con Go.Sna
end Go.Wor
namespace Go.Wor
open Go.Ab Go.Proofs Go.Hy Go.Gat Go.Nam Go.Hos Go.Con Go.Sna
theorem zho (m:Mac) (a b c:Int):zc Tryz.prog 286 [⟨1,43,44,[zP (m)],0⟩] [.agg [.za,.ref 0 [] 44 0 0],I a,I b,I c] (Ce (evO m a b c)) [⟨1,43,44,[zP (m)],0⟩]:=by
 refine qy (fn:=Tryz.f286) Tryz.func286 rfl (Nat.le_refl _) ?_;conv=>whnf
 (repeat (refine ⟨rfl,?_⟩;conv=>whnf));exact ⟨.inl rfl,_,_,.refl _,rfl,cE 1⟩
theorem zjl (m:Mac) (p i:Int):zc Tryz.prog 287 [⟨1,43,44,[zP (m)],0⟩] [.agg [.za,.ref 0 [] 44 0 0],I p,I i] (.tup []) [⟨1,43,44,[zP ({ m with pc:=p,i:=i })],0⟩]:=by
 refine qy (fn:=Tryz.f287) Tryz.func287 rfl (Nat.le_refl _) ?_;conv=>whnf
 refine .inl ⟨⟨false,[1,3],[1],[]⟩,by kernel_rfl,?_⟩;(conv=>whnf)
 repeat (refine ⟨rfl,?_⟩;conv=>whnf)
 exact ⟨.inr rfl,_,_,.refl _,rfl,cE 1⟩
end Go.Wor
namespace Go.Wor
open Go.Ab Go.Proofs Go.Hy Go.Gat Go.Nam Go.Hos Go.Con Go.Sna
def zn1 (v:Ver):List En:=v.zf.flatMap (·.ends)
structure zoO (v:Ver):Prop where
 zf:v.zf.length<=1000
 ends : ∀ g ∈ v.zf, g.ends.length <= 1000
end Go.Wor
namespace Go.Wor
open Go.Ab Go.Proofs Go.Hy Go.Gat Go.Nam Go.Hos Go.Con Go.Sna
abbrev zhC (v:Ver):Ver:={ v with zC:=true }
abbrev zbZ (r:Ret):Ret:={ r with gone:=true }
abbrev frM (m:Mac):Mac:={ m with answer:={ m.answer with n:=IntKind.i64.wrap (m.answer.n+1) },pc:=4,i:=IntKind.i64.wrap (m.i+1) }
theorem kc (w:Wor) (m:Mac) (v:Ver) (r:Ret) (hv:AtV w m v) (h0:0<=m.i) (hx:w.zt[m.i.toNat]?= some r):
  zc Tryz.prog 231 [⟨1,28,8,[[I w.zu,I w.current,I w.lock,lI w.pins,.sl 2 [] 5 0 w.zd.length false,lL w.ze,lCo w.counts,.sl 3 [] 3 0 w.zt.length false]],0⟩,⟨1,43,44,[zP (m)],0⟩,⟨2,72,5,(w.zd).map zw,0⟩,⟨2,113,3,(w.zt).map vo,0⟩] [.agg [.ref 0 [] 8 0 0,.ref 1 [] 44 0 0]] (Ce (evO m 2 12 m.version)) [⟨1,28,8,[[I w.zu,I w.current,I w.lock,lI w.pins,.sl 2 [] 5 0 w.zd.length false,lL w.ze,lCo w.counts,.sl 3 [] 3 0 w.zt.length false]],0⟩,⟨1,43,44,[zP (frM m)],0⟩,⟨2,72,5,(w.zd.set m.version.toNat (zhC v)).map zw,0⟩,⟨2,113,3,(w.zt.set m.i.toNat (zbZ r)).map vo,0⟩]:=by
 have a0:=hv.v0
 have av:m.version.toNat < w.zd.length:=(List.getElem?_eq_some_iff.1 hv.at_).1
 have gv:=hv.row
 have e1:0+m.i.toNat=m.i.toNat:=Nat.zero_add _
 have e2:0+m.version.toNat=m.version.toNat:=Nat.zero_add _
 have hlt:m.i.toNat < w.zt.length:=(List.getElem?_eq_some_iff.1 hx).1
 have gx:(w.zt.map vo)[m.i.toNat]?= some (vo r):=by rw [List.getElem?_map,hx];rfl
 have hst:(w.zt.map vo).set m.i.toNat [I r.version,I r.at_,Bo true]=(w.zt.set m.i.toNat (zbZ r)).map vo:=by rw [List.map_set];rfl
 have hsv:(w.zd.map zw).set m.version.toNat [lT v.snap.ze,vd v.snap.rules,lC v.snap.zm,lG v.zf,Bo true]=(w.zd.set m.version.toNat (zhC v)).map zw:=by rw [List.map_set];rfl
 refine qy (fn:=Tryz.f231) Tryz.func231 rfl (Nat.le_refl _) ?_;conv=>whnf
 refine .inl ⟨⟨false,[1,4,8,10,13,17],[0,1,4],[]⟩,by kernel_rfl,?_⟩;(conv=>whnf)
 repeat (refine ⟨rfl,?_⟩;conv=>whnf)
 refine ⟨a0,av,?_⟩
 refine dd ?_
 rw [e2]
 refine ⟨_,gv,rfl,?_⟩
 refine dd ?_
 (repeat (refine ⟨rfl,?_⟩;conv=>whnf))
 refine ⟨h0,hlt,?_⟩
 refine dd ?_
 rw [e1]
 refine ⟨_,gx,rfl,?_⟩
 refine dd ?_
 (repeat (refine ⟨rfl,?_⟩;conv=>whnf))
 rw [hst,hsv]
 refine .inl ⟨⟨true,[],[],[]⟩,by kernel_rfl,?_⟩;(conv=>whnf)
 refine zG [1] (zjl { m with answer:={ m.answer with n:=IntKind.i64.wrap (m.answer.n+1) } } 4 (IntKind.i64.wrap (m.i+1))) rfl rfl rfl rfl rfl rfl ?_;refine dd ?_
 (repeat (refine ⟨rfl,?_⟩;conv=>whnf))
 refine .inl ⟨⟨true,[],[],[]⟩,by kernel_rfl,?_⟩;(conv=>whnf)
 refine zG [1] (zho (frM m) 2 12 m.version) rfl rfl rfl rfl rfl rfl ?_;refine dd ?_
 (repeat (refine ⟨rfl,?_⟩;conv=>whnf));exact ⟨.inl rfl,_,_,.refl _,rfl,cE 4⟩
end Go.Wor
namespace Go.Wor
open Go.Ab Go.Proofs Go.Hy Go.Gat Go.Nam Go.Hos Go.Con Go.Sna
end Go.Wor
namespace Go.Wor
open Go.Ab Go.Proofs Go.Hy Go.Gat Go.Nam Go.Hos Go.Con Go.Sna
end Go.Wor
namespace Go.Wor
open Go.Ab Go.Proofs Go.Hy Go.Gat Go.Nam Go.Hos Go.Con Go.Sna
end Go.Wor
namespace Go.Wor
open Go.Ab Go.Proofs Go.Hy Go.Gat Go.Nam Go.Hos Go.Con Go.Sna
end Go.Wor
namespace Go.Wor
open Go.Ab Go.Proofs Go.Hy Go.Gat Go.Nam Go.Hos Go.Con Go.Sna
end Go.Wor
