import Derived.Test.YtdbcjcnfaajpjaaGreatRV
set_option linter.unusedVariables false
set_option linter.unusedSimpArgs false
set_option linter.unusedSectionVars false
set_option maxRecDepth 100000
set_option maxHeartbeats 4000000
namespace Go.Wor
open Go.Ab Go.Proofs Go.Hy Go.Gat Go.Nam Go.Hos Go.Con Go.Sna
abbrev evO (m:Mac) (a b c:Int):Eve:=⟨m.zq,0,a,b, -1,false,c,false,false,false,ki⟩
abbrev evV (m:Mac) (v:Ver) (a b c:Int):Eve:=⟨m.zq,0,a,b,m.version,v.zD,c,false,false,false,ki⟩
theorem qQ (m:Mac) (a b c:Int):zb Tryz.prog 152 [⟨1,37,44,[zE (m)],0⟩] [.agg [.za,.ref 0 [] 44 0 0],I a,I b,I c] (Ce (evO m a b c)) [⟨1,37,44,[zE (m)],0⟩]:=by
 refine qb (fn:=Tryz.f152) Tryz.func152 rfl (Nat.le_refl _) ?_;conv=>whnf
 exact ⟨.inl rfl,_,_,.refl _,rfl,cE 1⟩
abbrev vN (n:Int):Ans:=⟨n,0,0,0,0,0,0,⟨0,0,0,0,0,0⟩⟩
abbrev vU (m:Mac) (n:Int):Mac:={ m with answer:=vN n,pc:=20 }
theorem xI (m:Mac) (n:Int):zb Tryz.prog 153 [⟨1,37,44,[zE (m)],0⟩] [.agg [.za,.ref 0 [] 44 0 0],I n] (.tup []) [⟨1,37,44,[zE (vU m n)],0⟩]:=by
 refine qb (fn:=Tryz.f153) Tryz.func153 rfl (Nat.le_refl _) ?_;conv=>whnf
 refine .inl ⟨⟨false,[3],[1],[]⟩,by kernel_rfl,?_⟩;(conv=>whnf)
 repeat (refine ⟨rfl,?_⟩;conv=>whnf)
 exact ⟨.inr rfl,_,_,.refl _,rfl,cE 1⟩
structure AtV (w:Wor) (m:Mac) (v:Ver):Prop where
 v0:0<=m.version
 at_:w.zd[m.version.toNat]?= some v
theorem AtV.row {w:Wor} {m:Mac} {v:Ver} (h:AtV w m v):(w.zd.map zx)[m.version.toNat]?= some (zx v):=by rw [List.getElem?_map,h.at_];rfl
theorem y6 (w:Wor) (m:Mac) (v:Ver) (hv:AtV w m v) (a b c:Int):zb Tryz.prog 158 [⟨1,48,8,[zQ w],0⟩,⟨1,37,44,[zE (m)],0⟩] [.agg [.ref 0 [] 8 0 0,.ref 1 [] 44 0 0],I a,I b,I c] (Ce (evV m v a b c)) [⟨1,48,8,[zQ w],0⟩,⟨1,37,44,[zE (m)],0⟩]:=by
 have h0:=hv.v0
 have hr:=hv.row
 obtain ⟨sn,gs,fr⟩:=v
 cases fr
 all_goals
  refine qb (fn:=Tryz.f158) Tryz.func158 rfl (Nat.le_refl _) ?_;conv=>whnf
  refine zr [1] (qQ m a b c) rfl rfl rfl rfl rfl rfl ?_;refine dd ?_
  refine .inl ⟨⟨false,[6,9,11,14,17],[0,1,2],[]⟩,by kernel_rfl,?_⟩;(conv=>whnf)
  (refine ⟨h0,_,hr,?_⟩);refine dd ?_
  first | ((refine ⟨fun _=>?_,fun h=>absurd (h.symm.trans rfl:false=true) (by decide)⟩);refine dd ?_) | ((refine ⟨fun h=>absurd (h.symm.trans rfl:true=false) (by decide),fun _=>?_⟩);refine dd ?_)
  repeat (refine ⟨rfl,?_⟩;conv=>whnf)
  exact ⟨.inl rfl,_,_,.refl _,rfl,cE 2⟩
theorem zc6 {P:Program} {f:FuncId} (sel:List Nat) {K H0 H':zl} {args args0:List C} {r:C} (h:zb P f H0 args0 r H') (hR:qA H'=true)
  (hH:jM sel K=H0) (ha:args.map (xg sel 9)=args0) (z7:sel.all (fun id=>Nat.blt id K.length)=true) (hnd:xf sel=true) (hfl:qA K=true) {k:C->zl->Prop}
  (hk:zat (vq sel K H') fun X=>qy (x4 (qP sel K.length) 9 r) fun c=>k c X):∃ R',qq P f K args R'∧∀ r H2,R' r H2->k r H2:=
 zdl sel (h.toR (R:=fun x X=>x=r∧X=H') ⟨rfl,rfl⟩) (fun _ _ e=>e.2 ▸ hR) hH ha z7 hnd hfl (by rintro _ _ ⟨rfl,rfl⟩;exact hk)
structure AtG (w:Wor) (m:Mac) (v:Ver) (g:Gr):Prop extends AtV w m v where
 g0:0<=m.zg
 atg:v.zf[m.zg.toNat]?= some g
theorem AtG.zp6 {w:Wor} {m:Mac} {v:Ver} {g:Gr} (h:AtG w m v g):(v.zf.map zw)[m.zg.toNat]?= some (zw g):=by rw [List.getElem?_map,h.atg];rfl
structure AtE (w:Wor) (m:Mac) (v:Ver) (g:Gr) (e:En):Prop extends AtG w m v g where
 e0:0<=m.end_
 ate:g.ends[m.end_.toNat]?= some e
theorem AtE.zp5 {w:Wor} {m:Mac} {v:Ver} {g:Gr} {e:En} (h:AtE w m v g e):(g.ends.map zo)[m.end_.toNat]?= some (zo e):=by rw [List.getElem?_map,h.ate];rfl
theorem zcv (w:Wor) (m:Mac) (v:Ver) (g:Gr) (hv:AtG w m v g):zb Tryz.prog 155 [⟨1,48,8,[zQ w],0⟩,⟨1,37,44,[zE (m)],0⟩] [.agg [.ref 0 [] 8 0 0,.ref 1 [] 44 0 0]] (.jg (zw g)) [⟨1,48,8,[zQ w],0⟩,⟨1,37,44,[zE (m)],0⟩]:=by
 have h0:=hv.v0
 have hr:=hv.row
 have g0:=hv.g0
 have gr:=hv.zp6
 refine qb (fn:=Tryz.f155) Tryz.func155 rfl (Nat.le_refl _) ?_;conv=>whnf
 refine .inl ⟨⟨false,[],[],[]⟩,by kernel_rfl,?_⟩;(conv=>whnf)
 (refine ⟨h0,_,hr,?_⟩);refine dd ?_
 (refine ⟨g0,_,gr,?_⟩);refine dd ?_
 exact ⟨.inl rfl,_,_,.refl _,rfl,cE 2⟩
theorem yZ (w:Wor) (m:Mac) (v:Ver) (g:Gr) (e:En) (hv:AtE w m v g e):zb Tryz.prog 159 [⟨1,48,8,[zQ w],0⟩,⟨1,37,44,[zE (m)],0⟩] [.agg [.ref 0 [] 8 0 0,.ref 1 [] 44 0 0]] (.jg (zo e)) [⟨1,48,8,[zQ w],0⟩,⟨1,37,44,[zE (m)],0⟩]:=by
 have e0:=hv.e0
 have er:=hv.zp5
 refine qb (fn:=Tryz.f159) Tryz.func159 rfl (Nat.le_refl _) ?_;conv=>whnf
 refine .inl ⟨⟨true,[],[],[1]⟩,by kernel_rfl,?_⟩;(conv=>whnf)
 refine zr [0,1] (zcv w m v g hv.toAtG) rfl rfl rfl rfl rfl rfl ?_;refine dd ?_
 repeat (refine ⟨rfl,?_⟩;conv=>whnf)
 (refine ⟨e0,_,er,?_⟩);refine dd ?_
 exact ⟨.inl rfl,_,_,.refl _,rfl,cE 2⟩
theorem yu (w:Wor) (m:Mac) (v:Ver) (c:Clu) (hv:AtV w m v) (c0:0<=m.zg) (hc:v.snap.zk[m.zg.toNat]?= some c):zb Tryz.prog 157 [⟨1,48,8,[zQ w],0⟩,⟨1,37,44,[zE (m)],0⟩] [.agg [.ref 0 [] 8 0 0,.ref 1 [] 44 0 0]] (Cc c) [⟨1,48,8,[zQ w],0⟩,⟨1,37,44,[zE (m)],0⟩]:=by
 have h0:=hv.v0
 have hr:=hv.row
 have cr:(v.snap.zk.map jj)[m.zg.toNat]?= some (jj c):=by rw [List.getElem?_map,hc];rfl
 refine qb (fn:=Tryz.f157) Tryz.func157 rfl (Nat.le_refl _) ?_;conv=>whnf
 refine .inl ⟨⟨false,[],[],[]⟩,by kernel_rfl,?_⟩;(conv=>whnf)
 (refine ⟨h0,_,hr,?_⟩);refine dd ?_
 (refine ⟨c0,_,cr,?_⟩);refine dd ?_
 exact ⟨.inl rfl,_,_,.refl _,rfl,cE 2⟩
theorem vn (w:Wor) (m:Mac) (v:Ver) (g:Gr) (e:En) (hv:AtE w m v g e) {x:Int} (s0:0<=m.slot) (hx:e.next[m.slot.toNat]?= some x):
  zb Tryz.prog 119 [⟨1,48,8,[zQ w],0⟩,⟨1,37,44,[zE (m)],0⟩] [.agg [.ref 0 [] 8 0 0,.ref 1 [] 44 0 0]] (Ce (evV m v 1 9 x)) [⟨1,48,8,[zQ w],0⟩,⟨1,37,44,[zE ({ m with link:=x,pc:=11 })],0⟩]:=by
 have er:(e.next.map encI)[m.slot.toNat]?= some (encI x):=by rw [List.getElem?_map,hx];rfl
 refine qb (fn:=Tryz.f119) Tryz.func119 rfl (Nat.le_refl _) ?_;conv=>whnf
 refine .inl ⟨⟨true,[3],[2],[5]⟩,by kernel_rfl,?_⟩;(conv=>whnf)
 refine zr [0,1] (yZ w m v g e hv) rfl rfl rfl rfl rfl rfl ?_;refine dd ?_
 repeat (refine ⟨rfl,?_⟩;conv=>whnf)
 (refine ⟨s0,_,er,?_⟩);refine dd ?_
 repeat (refine ⟨rfl,?_⟩;conv=>whnf)
 refine .inl ⟨⟨true,[],[],[]⟩,by kernel_rfl,?_⟩;(conv=>whnf)
 refine zr [0,1] (y6 w { m with link:=x,pc:=11 } v ⟨hv.v0,hv.at_⟩ 1 9 x) rfl rfl rfl rfl rfl rfl ?_;refine dd ?_
 exact ⟨.inl rfl,_,_,.refl _,rfl,cE 2⟩
theorem za7 (w:Wor) (m:Mac) (v:Ver) (g:Gr) (e:En) (hv:AtE w m v g e):
  zb Tryz.prog 116 [⟨1,48,8,[zQ w],0⟩,⟨1,37,44,[zE (m)],0⟩] [.agg [.ref 0 [] 8 0 0,.ref 1 [] 44 0 0]] (Ce (evV m v 1 7 e.zj)) [⟨1,48,8,[zQ w],0⟩,⟨1,37,44,[zE ({ m with i:=e.zj,pc:=8 })],0⟩]:=by
 refine qb (fn:=Tryz.f116) Tryz.func116 rfl (Nat.le_refl _) ?_;conv=>whnf
 refine .inl ⟨⟨true,[3],[2],[5]⟩,by kernel_rfl,?_⟩;(conv=>whnf)
 refine zr [0,1] (yZ w m v g e hv) rfl rfl rfl rfl rfl rfl ?_;refine dd ?_
 repeat (refine ⟨rfl,?_⟩;conv=>whnf)
 repeat (refine ⟨rfl,?_⟩;conv=>whnf)
 refine .inl ⟨⟨true,[],[],[]⟩,by kernel_rfl,?_⟩;(conv=>whnf)
 refine zr [0,1] (y6 w { m with i:=e.zj,pc:=8 } v ⟨hv.v0,hv.at_⟩ 1 7 e.zj) rfl rfl rfl rfl rfl rfl ?_;refine dd ?_
 exact ⟨.inl rfl,_,_,.refl _,rfl,cE 2⟩
theorem vm (w:Wor) (m:Mac) (v:Ver) (g:Gr) (e:En) (hv:AtE w m v g e) (he:u64 e.head) (hi:0<=e.head % 4294967296 - 1∧e.head % 4294967296 - 1 < e.next.length):
  zb Tryz.prog 118 [⟨1,48,8,[zQ w],0⟩,⟨1,37,44,[zE (m)],0⟩] [.agg [.ref 0 [] 8 0 0,.ref 1 [] 44 0 0]] (Ce (evV m v 1 8 (e.head % 4294967296 - 1))) [⟨1,48,8,[zQ w],0⟩,⟨1,37,44,[zE ({ m with word:=e.head,slot:=e.head % 4294967296 - 1,pc:=10 })],0⟩]:=by
 have hi1:=hi.1
 have hi2:=hi.2
 have ml:(e.next.map encI).length=e.next.length:=List.length_map ..
 refine qb (fn:=Tryz.f118) Tryz.func118 rfl (Nat.le_refl _) ?_;conv=>whnf
 refine zc6 [0,1] (yZ w m v g e hv) rfl rfl rfl rfl rfl rfl ?_;refine dd ?_
 refine ⟨_,_,(Slp.qu e.head he).frame rfl _,?_⟩;refine dd ?_
 refine ⟨fun h=>absurd h (by simp;omega),fun _=>?_⟩
 refine dd ?_
 refine zc6 [0,1] (yZ w { m with word:=e.head } v g e ⟨⟨⟨hv.v0,hv.at_⟩,hv.g0,hv.atg⟩,hv.e0,hv.ate⟩) rfl rfl rfl rfl rfl rfl ?_;refine dd ?_
 rw [ml]
 refine ⟨fun h=>absurd h (by simp;omega),fun _=>?_⟩
 refine dd ?_
 refine zr [0,1] (y6 w { m with word:=e.head,slot:=e.head % 4294967296 - 1,pc:=10 } v ⟨hv.v0,hv.at_⟩ 1 8 (e.head % 4294967296 - 1)) rfl rfl rfl rfl rfl rfl ?_;refine dd ?_
 exact ⟨.inl rfl,_,_,.refl _,rfl,cE 2⟩
end Go.Wor
namespace Go.Wor
open Go.Ab Go.Proofs Go.Hy Go.Gat Go.Nam Go.Hos Go.Con Go.Sna
theorem wj (w:Wor) (m:Mac) (x:Lis) (h0:0<=m.listen) (hx:w.ze[m.listen.toNat]?= some x):
  zb Tryz.prog 113 [⟨1,48,8,[[I w.zn,I w.current,I w.lock,lI w.pins,lV w.zd,.sl 2 [] 4 0 w.ze.length false,lCo w.counts,lR w.zm]],0⟩,⟨1,37,44,[zE (m)],0⟩,⟨2,77,4,(w.ze).map ql,0⟩] [.agg [.ref 0 [] 8 0 0,.ref 1 [] 44 0 0]] (Ce (evO m 3 5 (IntKind.i64.wrap (x.zj+1))))
   [⟨1,48,8,[[I w.zn,I w.current,I w.lock,lI w.pins,lV w.zd,.sl 2 [] 4 0 w.ze.length false,lCo w.counts,lR w.zm]],0⟩,⟨1,37,44,[zE ({ m with pc:=5 })],0⟩,⟨2,77,4,(w.ze.set m.listen.toNat { x with zj:=IntKind.i64.wrap (x.zj+1) }).map ql,0⟩]:=by
 have e1:0+m.listen.toNat=m.listen.toNat:=Nat.zero_add _
 have hlt:m.listen.toNat < w.ze.length:=(List.getElem?_eq_some_iff.1 hx).1
 have gx:(w.ze.map ql)[m.listen.toNat]?= some (ql x):=by rw [List.getElem?_map,hx];rfl
 refine qb (fn:=Tryz.f113) Tryz.func113 rfl (Nat.le_refl _) ?_;conv=>whnf
 have hst:(w.ze.map ql).set m.listen.toNat [Tx x.name,Bo x.drain,I (IntKind.i64.wrap (x.zj+1)),Bo x.closed]=(w.ze.set m.listen.toNat { x with zj:=IntKind.i64.wrap (x.zj+1) }).map ql:=by rw [List.map_set];rfl
 have gx2:((w.ze.set m.listen.toNat { x with zj:=IntKind.i64.wrap (x.zj+1) }).map ql)[m.listen.toNat]?= some (ql { x with zj:=IntKind.i64.wrap (x.zj+1) }):=by rw [List.getElem?_map,List.getElem?_set_self hlt];rfl
 refine .inl ⟨⟨false,[],[],[]⟩,by kernel_rfl,?_⟩;(conv=>whnf)
 refine ⟨h0,hlt,?_⟩
 refine dd ?_
 rw [e1]
 refine ⟨_,gx,(by show 2+1<=4;decide),?_⟩
 refine dd ?_
 refine ⟨_,gx,rfl,?_⟩
 refine dd ?_
 rw [hst]
 refine .inl ⟨⟨true,[],[],[]⟩,by kernel_rfl,?_⟩;(conv=>whnf)
 refine ⟨_,gx2,(by show 2+1<=4;decide),?_⟩
 refine dd ?_
 refine zr [1] (qQ { m with pc:=5 } 3 5 (IntKind.i64.wrap (x.zj+1))) rfl rfl rfl rfl rfl rfl ?_;refine dd ?_
 exact ⟨.inl rfl,_,_,.refl _,rfl,cE 3⟩
theorem zhp (w:Wor) (m:Mac) (x:Lis) (h0:0<=m.listen) (hx:w.ze[m.listen.toNat]?= some x):
  zb Tryz.prog 124 [⟨1,48,8,[[I w.zn,I w.current,I w.lock,lI w.pins,lV w.zd,.sl 2 [] 4 0 w.ze.length false,lCo w.counts,lR w.zm]],0⟩,⟨1,37,44,[zE (m)],0⟩,⟨2,77,4,(w.ze).map ql,0⟩] [.agg [.ref 0 [] 8 0 0,.ref 1 [] 44 0 0]] (Ce (evO m 3 5 (IntKind.i64.wrap (x.zj - 1))))
   [⟨1,48,8,[[I w.zn,I w.current,I w.lock,lI w.pins,lV w.zd,.sl 2 [] 4 0 w.ze.length false,lCo w.counts,lR w.zm]],0⟩,⟨1,37,44,[zE ({ m with pc:=23 })],0⟩,⟨2,77,4,(w.ze.set m.listen.toNat { x with zj:=IntKind.i64.wrap (x.zj - 1) }).map ql,0⟩]:=by
 have e1:0+m.listen.toNat=m.listen.toNat:=Nat.zero_add _
 have hlt:m.listen.toNat < w.ze.length:=(List.getElem?_eq_some_iff.1 hx).1
 have gx:(w.ze.map ql)[m.listen.toNat]?= some (ql x):=by rw [List.getElem?_map,hx];rfl
 refine qb (fn:=Tryz.f124) Tryz.func124 rfl (Nat.le_refl _) ?_;conv=>whnf
 have hst:(w.ze.map ql).set m.listen.toNat [Tx x.name,Bo x.drain,I (IntKind.i64.wrap (x.zj - 1)),Bo x.closed]=(w.ze.set m.listen.toNat { x with zj:=IntKind.i64.wrap (x.zj - 1) }).map ql:=by rw [List.map_set];rfl
 have gx2:((w.ze.set m.listen.toNat { x with zj:=IntKind.i64.wrap (x.zj - 1) }).map ql)[m.listen.toNat]?= some (ql { x with zj:=IntKind.i64.wrap (x.zj - 1) }):=by rw [List.getElem?_map,List.getElem?_set_self hlt];rfl
 refine .inl ⟨⟨false,[],[],[]⟩,by kernel_rfl,?_⟩;(conv=>whnf)
 refine ⟨h0,hlt,?_⟩
 refine dd ?_
 rw [e1]
 refine ⟨_,gx,(by show 2+1<=4;decide),?_⟩
 refine dd ?_
 refine ⟨_,gx,rfl,?_⟩
 refine dd ?_
 rw [hst]
 refine .inl ⟨⟨true,[],[],[]⟩,by kernel_rfl,?_⟩;(conv=>whnf)
 refine ⟨_,gx2,(by show 2+1<=4;decide),?_⟩
 refine dd ?_
 refine zr [1] (qQ { m with pc:=23 } 3 5 (IntKind.i64.wrap (x.zj - 1))) rfl rfl rfl rfl rfl rfl ?_;refine dd ?_
 exact ⟨.inl rfl,_,_,.refl _,rfl,cE 3⟩
end Go.Wor
namespace Go.Wor
open Go.Ab Go.Proofs Go.Hy Go.Gat Go.Nam Go.Hos Go.Con Go.Sna
theorem zX {P:Program} {f:FuncId} (sel:List Nat) (Kx:zl) {K H0 H':zl} {args args0:List C} {r rx:C} (h:zb P f H0 args0 r H') (hR:qA H'=true)
  (hH:jM sel K=H0) (ha:args.map (xg sel 9)=args0) (z7:sel.all (fun id=>Nat.blt id K.length)=true) (hnd:xf sel=true) (hfl:qA K=true) {k:C->zl->Prop}
  (hp:vq sel K H'=Kx) (hr:x4 (qP sel K.length) 9 r=rx) (hk:okB rx fun c=>k c Kx):∃ r H2,zb P f K args r H2∧okB r fun c=>k c H2:=
 ⟨_,_,h.part sel hR hH ha z7 hnd hfl,by rw [hp,hr];exact hk⟩
theorem zO {n:Nat} {x:Ob} {H:zl} (h1:qz n [x]=true) (h2:qz n H=true):qz n (x::H)=true:=by
 unfold qz at *
 simp only [List.all_cons,List.all_nil,Bool.and_true] at *
 rw [h1,h2];rfl
theorem qv {n ty sz fz:Nat} {rows:List (List C)} (h:∀ r ∈ rows,∀ c ∈ r,qO n 9 c=true):qz n [⟨1,ty,sz,rows,fz⟩]=true:=by
 unfold qz
 simp only [List.all_cons,List.all_nil,Bool.and_true]
 have:(rows.all fun r=>r.all (qO n 9))=true:=List.all_eq_true.2 fun r hr=>List.all_eq_true.2 fun c hc=>h r hr c hc
 rw [this];simp
theorem vc (w:Wor) (m:Mac) (r0:List Int) (x:Int) (h0:0<=m.zq) (hr:w.counts[m.zq.toNat]?= some r0) (hx:r0[0]?= some x):
  zb Tryz.prog 123 [⟨1,48,8,[[I w.zn,I w.current,I w.lock,lI w.pins,lV w.zd,lL w.ze,.sl 2 [] 1 0 w.counts.length false,lR w.zm]],0⟩,⟨1,37,44,[zE (m)],0⟩,⟨1,0,1,(w.counts.map zJ).set m.zq.toNat [C.sl 3 [] 1 0 r0.length false],0⟩,⟨2,32,1,(r0).map qY,0⟩] [.agg [.ref 0 [] 8 0 0,.ref 1 [] 44 0 0]] (Ce (evO m 3 10 0))
   [⟨1,48,8,[[I w.zn,I w.current,I w.lock,lI w.pins,lV w.zd,lL w.ze,.sl 2 [] 1 0 w.counts.length false,lR w.zm]],0⟩,⟨1,37,44,[zE ({ m with pc:=if m.answer.kind=1∨m.listen < 0 then 23 else 22 })],0⟩,⟨1,0,1,(w.counts.map zJ).set m.zq.toNat [C.sl 3 [] 1 0 r0.length false],0⟩,⟨2,32,1,(r0.set 0 (IntKind.u64.wrap (x+1))).map qY,0⟩]:=by
 have e1:0+m.zq.toNat=m.zq.toNat:=Nat.zero_add _
 have hlt:m.zq.toNat < w.counts.length:=(List.getElem?_eq_some_iff.1 hr).1
 have gt:((w.counts.map zJ).set m.zq.toNat [C.sl 3 [] 1 0 r0.length false])[m.zq.toNat]?= some [C.sl 3 [] 1 0 r0.length false]:=List.getElem?_set_self (by simpa using hlt)
 have gx:(r0.map qY)[0]?= some (qY x):=by rw [List.getElem?_map,hx];rfl
 have hl0:0 < r0.length:=(List.getElem?_eq_some_iff.1 hx).1
 have hst:(r0.map qY).set 0 [U (IntKind.u64.wrap (x+1))]=(r0.set 0 (IntKind.u64.wrap (x+1))).map qY:=by rw [List.map_set];rfl
 have own:∀ r ∈ (w.counts.map zJ).set m.zq.toNat [C.sl 3 [] 1 0 r0.length false],∀ c ∈ r,zA c=true:=zy (enc:=zJ) (fun _=>rfl) rfl _ _
 have low:∀ r ∈ (w.counts.map zJ).set m.zq.toNat [C.sl 3 [] 1 0 r0.length false],∀ c ∈ r,qO 4 9 c=true:=zy (enc:=zJ) (fun _=>rfl) rfl _ _
 refine qb (fn:=Tryz.f123) Tryz.func123 rfl (Nat.le_refl _) ?_;conv=>whnf
 refine .inl ⟨⟨false,[],[],[]⟩,by kernel_rfl,?_⟩;(conv=>whnf)
 refine ⟨h0,hlt,?_⟩
 refine dd ?_
 rw [e1]
 refine ⟨_,gt,(by show 0+1<=1;decide),?_⟩
 refine dd ?_
 refine ⟨by decide,hl0,?_⟩
 refine dd ?_
 refine ⟨_,gx,(by show 0+1<=1;decide),?_⟩
 refine dd ?_
 refine ⟨by decide,hl0,?_⟩
 refine dd ?_
 refine ⟨_,gx,rfl,?_⟩
 refine dd ?_
 have hst2:(r0.map qY).set (0+Int.toNat 0) [U (IntKind.u64.wrap (x+1))]=(r0.set 0 (IntKind.u64.wrap (x+1))).map qY:=hst
 rw [hst2]
 refine ⟨fun h1=>?_,fun h1=>?_⟩
 ·rw [if_pos (.inl (of_decide_eq_true h1))]
  refine dd ?_
  (repeat ((first | apply ya | apply yb);refine dd ?_))
  refine zX [1] [⟨1,48,8,[[I w.zn,I w.current,I w.lock,lI w.pins,lV w.zd,lL w.ze,.sl 2 [] 1 0 w.counts.length false,lR w.zm]],0⟩,⟨1,37,44,[zE ({ m with pc:=23 })],0⟩,⟨1,0,1,(w.counts.map zJ).set m.zq.toNat [C.sl 3 [] 1 0 r0.length false],0⟩,⟨2,32,1,(r0.set 0 (IntKind.u64.wrap (x+1))).map qY,0⟩,⟨1,154,2,[[.ref 0 [] 8 0 0,.ref 1 [] 44 0 0]],0⟩,⟨1,87,23,[qj qo],0⟩] (rx:=Ce (evO { m with pc:=23 } 3 10 0)) (qQ { m with pc:=23 } 3 10 0) rfl rfl rfl rfl rfl (zc rfl (zc rfl (zc (zi own) rfl))) rfl rfl ?_;refine dd ?_
  exact ⟨.inl rfl,_,_,.refl _,rfl,zt.xW 4 (by (conv=>whnf);(repeat (refine ⟨rfl,?_⟩;(conv=>whnf)));exact trivial) rfl rfl rfl (zO rfl (zO rfl (zO (qv low) rfl))) rfl⟩
 ·refine dd ?_
  refine ⟨fun h2=>?_,fun h2=>?_⟩
  ·rw [if_pos (.inr (of_decide_eq_true h2))]
   refine dd ?_
   (repeat ((first | apply ya | apply yb);refine dd ?_))
   refine zX [1] [⟨1,48,8,[[I w.zn,I w.current,I w.lock,lI w.pins,lV w.zd,lL w.ze,.sl 2 [] 1 0 w.counts.length false,lR w.zm]],0⟩,⟨1,37,44,[zE ({ m with pc:=23 })],0⟩,⟨1,0,1,(w.counts.map zJ).set m.zq.toNat [C.sl 3 [] 1 0 r0.length false],0⟩,⟨2,32,1,(r0.set 0 (IntKind.u64.wrap (x+1))).map qY,0⟩,⟨1,154,2,[[.ref 0 [] 8 0 0,.ref 1 [] 44 0 0]],0⟩,⟨1,87,23,[qj qo],0⟩] (rx:=Ce (evO { m with pc:=23 } 3 10 0)) (qQ { m with pc:=23 } 3 10 0) rfl rfl rfl rfl rfl (zc rfl (zc rfl (zc (zi own) rfl))) rfl rfl ?_;refine dd ?_
   exact ⟨.inl rfl,_,_,.refl _,rfl,zt.xW 4 (by (conv=>whnf);(repeat (refine ⟨rfl,?_⟩;(conv=>whnf)));exact trivial) rfl rfl rfl (zO rfl (zO rfl (zO (qv low) rfl))) rfl⟩
  ·rw [if_neg (fun h=>h.elim (of_decide_eq_false h1) (of_decide_eq_false h2))]
   refine dd ?_
   (repeat ((first | apply ya | apply yb);refine dd ?_))
   refine zX [1] [⟨1,48,8,[[I w.zn,I w.current,I w.lock,lI w.pins,lV w.zd,lL w.ze,.sl 2 [] 1 0 w.counts.length false,lR w.zm]],0⟩,⟨1,37,44,[zE ({ m with pc:=22 })],0⟩,⟨1,0,1,(w.counts.map zJ).set m.zq.toNat [C.sl 3 [] 1 0 r0.length false],0⟩,⟨2,32,1,(r0.set 0 (IntKind.u64.wrap (x+1))).map qY,0⟩,⟨1,154,2,[[.ref 0 [] 8 0 0,.ref 1 [] 44 0 0]],0⟩,⟨1,87,23,[qj qo],0⟩] (rx:=Ce (evO { m with pc:=22 } 3 10 0)) (qQ { m with pc:=22 } 3 10 0) rfl rfl rfl rfl rfl (zc rfl (zc rfl (zc (zi own) rfl))) rfl rfl ?_;refine dd ?_
   exact ⟨.inl rfl,_,_,.refl _,rfl,zt.xW 4 (by (conv=>whnf);(repeat (refine ⟨rfl,?_⟩;(conv=>whnf)));exact trivial) rfl rfl rfl (zO rfl (zO rfl (zO (qv low) rfl))) rfl⟩
def zbe (n:Int):Int:=if n < 1∨5 < n then 0 else n
theorem yI (w:Wor) (m:Mac) (r0:List Int) (x k:Int) (hk:zbe m.answer.kind=k) (h0:0<=m.zq) (hr:w.counts[m.zq.toNat]?= some r0) (hx:r0[k.toNat]?= some x):
  zb Tryz.prog 122 [⟨1,48,8,[[I w.zn,I w.current,I w.lock,lI w.pins,lV w.zd,lL w.ze,.sl 2 [] 1 0 w.counts.length false,lR w.zm]],0⟩,⟨1,37,44,[zE (m)],0⟩,⟨1,0,1,(w.counts.map zJ).set m.zq.toNat [C.sl 3 [] 1 0 r0.length false],0⟩,⟨2,32,1,(r0).map qY,0⟩] [.agg [.ref 0 [] 8 0 0,.ref 1 [] 44 0 0]] (Ce (evO m 3 10 k))
   [⟨1,48,8,[[I w.zn,I w.current,I w.lock,lI w.pins,lV w.zd,lL w.ze,.sl 2 [] 1 0 w.counts.length false,lR w.zm]],0⟩,⟨1,37,44,[zE ({ m with pc:=21 })],0⟩,⟨1,0,1,(w.counts.map zJ).set m.zq.toNat [C.sl 3 [] 1 0 r0.length false],0⟩,⟨2,32,1,(r0.set k.toNat (IntKind.u64.wrap (x+1))).map qY,0⟩]:=by
 have e1:0+m.zq.toNat=m.zq.toNat:=Nat.zero_add _
 have k0:0<=k:=by rw [<- hk];unfold zbe;split <;> omega
 have k1:k.toNat < r0.length:=(List.getElem?_eq_some_iff.1 hx).1
 have hlt:m.zq.toNat < w.counts.length:=(List.getElem?_eq_some_iff.1 hr).1
 have gt:((w.counts.map zJ).set m.zq.toNat [C.sl 3 [] 1 0 r0.length false])[m.zq.toNat]?= some [C.sl 3 [] 1 0 r0.length false]:=List.getElem?_set_self (by simpa using hlt)
 have gx:(r0.map qY)[0+k.toNat]?= some (qY x):=by rw [Nat.zero_add,List.getElem?_map,hx];rfl
 have hst:(r0.map qY).set (0+k.toNat) [U (IntKind.u64.wrap (x+1))]=(r0.set k.toNat (IntKind.u64.wrap (x+1))).map qY:=by rw [Nat.zero_add,List.map_set];rfl
 have own:∀ r ∈ (w.counts.map zJ).set m.zq.toNat [C.sl 3 [] 1 0 r0.length false],∀ c ∈ r,zA c=true:=zy (enc:=zJ) (fun _=>rfl) rfl _ _
 have low:∀ r ∈ (w.counts.map zJ).set m.zq.toNat [C.sl 3 [] 1 0 r0.length false],∀ c ∈ r,qO 4 9 c=true:=zy (enc:=zJ) (fun _=>rfl) rfl _ _
 refine qb (fn:=Tryz.f122) Tryz.func122 rfl (Nat.le_refl _) ?_;conv=>whnf
 refine ⟨fun h1=>?_,fun h1=>?_⟩
 ·obtain rfl:k=0:=by rw [<- hk];unfold zbe;rw [if_pos (.inl (of_decide_eq_true h1))]
  refine dd ?_
  (repeat ((first | apply ya | apply yb);refine dd ?_))
  refine .inl ⟨⟨false,[],[],[]⟩,by kernel_rfl,?_⟩;(conv=>whnf);(refine ⟨h0,hlt,?_⟩);refine dd ?_;(rw [e1]);(refine ⟨_,gt,(by show 0+1<=1;decide),?_⟩);refine dd ?_;(refine ⟨k0,k1,?_⟩);refine dd ?_;(refine ⟨_,gx,(by show 0+1<=1;decide),?_⟩);refine dd ?_;(refine ⟨k0,k1,?_⟩);refine dd ?_;(refine ⟨_,gx,rfl,?_⟩);refine dd ?_;(rw [hst]);(refine zX [1] [⟨1,48,8,[[I w.zn,I w.current,I w.lock,lI w.pins,lV w.zd,lL w.ze,.sl 2 [] 1 0 w.counts.length false,lR w.zm]],0⟩,⟨1,37,44,[zE ({ m with pc:=21 })],0⟩,⟨1,0,1,(w.counts.map zJ).set m.zq.toNat [C.sl 3 [] 1 0 r0.length false],0⟩,⟨2,32,1,(r0.set ((0:Int)).toNat (IntKind.u64.wrap (x+1))).map qY,0⟩,⟨1,154,2,[[.ref 0 [] 8 0 0,.ref 1 [] 44 0 0]],0⟩,⟨1,87,23,[qj qo],0⟩] (rx:=Ce (evO { m with pc:=21 } 3 10 ((0:Int)))) (qQ { m with pc:=21 } 3 10 ((0:Int))) rfl rfl rfl rfl rfl (zc rfl (zc rfl (zc (zi own) rfl))) rfl rfl ?_);refine dd ?_;exact ⟨.inl rfl,_,_,.refl _,rfl,zt.xW 4 (by (conv=>whnf);(repeat (refine ⟨rfl,?_⟩;(conv=>whnf)));exact trivial) rfl rfl rfl (zO rfl (zO rfl (zO (qv low) rfl))) rfl⟩
 ·refine dd ?_
  (repeat ((first | apply ya | apply yb);refine dd ?_))
  refine ⟨fun h2=>?_,fun h2=>?_⟩
  ·obtain rfl:k=0:=by rw [<- hk];unfold zbe;rw [if_pos (.inr (of_decide_eq_true h2))]
   refine dd ?_
   (repeat ((first | apply ya | apply yb);refine dd ?_))
   refine .inl ⟨⟨false,[],[],[]⟩,by kernel_rfl,?_⟩;(conv=>whnf);(refine ⟨h0,hlt,?_⟩);refine dd ?_;(rw [e1]);(refine ⟨_,gt,(by show 0+1<=1;decide),?_⟩);refine dd ?_;(refine ⟨k0,k1,?_⟩);refine dd ?_;(refine ⟨_,gx,(by show 0+1<=1;decide),?_⟩);refine dd ?_;(refine ⟨k0,k1,?_⟩);refine dd ?_;(refine ⟨_,gx,rfl,?_⟩);refine dd ?_;(rw [hst]);(refine zX [1] [⟨1,48,8,[[I w.zn,I w.current,I w.lock,lI w.pins,lV w.zd,lL w.ze,.sl 2 [] 1 0 w.counts.length false,lR w.zm]],0⟩,⟨1,37,44,[zE ({ m with pc:=21 })],0⟩,⟨1,0,1,(w.counts.map zJ).set m.zq.toNat [C.sl 3 [] 1 0 r0.length false],0⟩,⟨2,32,1,(r0.set ((0:Int)).toNat (IntKind.u64.wrap (x+1))).map qY,0⟩,⟨1,154,2,[[.ref 0 [] 8 0 0,.ref 1 [] 44 0 0]],0⟩,⟨1,87,23,[qj qo],0⟩] (rx:=Ce (evO { m with pc:=21 } 3 10 ((0:Int)))) (qQ { m with pc:=21 } 3 10 ((0:Int))) rfl rfl rfl rfl rfl (zc rfl (zc rfl (zc (zi own) rfl))) rfl rfl ?_);refine dd ?_;exact ⟨.inl rfl,_,_,.refl _,rfl,zt.xW 4 (by (conv=>whnf);(repeat (refine ⟨rfl,?_⟩;(conv=>whnf)));exact trivial) rfl rfl rfl (zO rfl (zO rfl (zO (qv low) rfl))) rfl⟩
  ·obtain rfl:k=m.answer.kind:=by rw [<- hk];unfold zbe;rw [if_neg (fun h=>h.elim (of_decide_eq_false h1) (of_decide_eq_false h2))]
   refine dd ?_
   (repeat ((first | apply ya | apply yb);refine dd ?_))
   refine .inl ⟨⟨false,[],[],[]⟩,by kernel_rfl,?_⟩;(conv=>whnf);(refine ⟨h0,hlt,?_⟩);refine dd ?_;(rw [e1]);(refine ⟨_,gt,(by show 0+1<=1;decide),?_⟩);refine dd ?_;(refine ⟨k0,k1,?_⟩);refine dd ?_;(refine ⟨_,gx,(by show 0+1<=1;decide),?_⟩);refine dd ?_;(refine ⟨k0,k1,?_⟩);refine dd ?_;(refine ⟨_,gx,rfl,?_⟩);refine dd ?_;(rw [hst]);(refine zX [1] [⟨1,48,8,[[I w.zn,I w.current,I w.lock,lI w.pins,lV w.zd,lL w.ze,.sl 2 [] 1 0 w.counts.length false,lR w.zm]],0⟩,⟨1,37,44,[zE ({ m with pc:=21 })],0⟩,⟨1,0,1,(w.counts.map zJ).set m.zq.toNat [C.sl 3 [] 1 0 r0.length false],0⟩,⟨2,32,1,(r0.set (m.answer.kind).toNat (IntKind.u64.wrap (x+1))).map qY,0⟩,⟨1,154,2,[[.ref 0 [] 8 0 0,.ref 1 [] 44 0 0]],0⟩,⟨1,87,23,[qj qo],0⟩] (rx:=Ce (evO { m with pc:=21 } 3 10 (m.answer.kind))) (qQ { m with pc:=21 } 3 10 (m.answer.kind)) rfl rfl rfl rfl rfl (zc rfl (zc rfl (zc (zi own) rfl))) rfl rfl ?_);refine dd ?_;exact ⟨.inl rfl,_,_,.refl _,rfl,zt.xW 4 (by (conv=>whnf);(repeat (refine ⟨rfl,?_⟩;(conv=>whnf)));exact trivial) rfl rfl rfl (zO rfl (zO rfl (zO (qv low) rfl))) rfl⟩
end Go.Wor
namespace Go.Wor
open Go.Ab Go.Proofs Go.Hy Go.Gat Go.Nam Go.Hos Go.Con Go.Sna
theorem yv {P:Program} {o:Oper} {σ:Operand->Value} {t t':TypeId} {x y:Operand} {k:IntKind} {n m:Int} (ho:o.op=.binOp .rem t x y t') (hx:σ x=.int k n) (hy:σ y=.int k m) (hm:m≠0):
  zaL P (execOp σ o)=some (.value (.int k (n.tmod m))):=by
 have hi:Op.intDiv .rem k n m=pure (.int k (n.tmod m)):=by unfold Op.intDiv;rw [if_neg hm]
 have hg:eqGuard .rem t x y (σ x) (σ y)=pure ():=rfl
 have hb:binOp .rem t (σ x) (σ y)=pure (.int k (n.tmod m)):=by
  rw [hx,hy]
  simp only [binOp,hi]
  exact if_neg (by simp)
 unfold execOp
 rw [ho]
 dsimp only
 rw [hg,hb]
 rfl
theorem zpR {n:Int} (h:0<=n) (h':n < 18446744073709551616):IntKind.u64.wrap n=n:=by
 simp only [IntKind.wrap,IntKind.signed,IntKind.bits,Bool.false_and,Bool.false_eq_true,if_false]
 omega
abbrev hlt (c:Clu):List Int:=kZ c.zI c.zI.length
def ko (c:Clu) (n:Int):Int × Int:=if (hlt c).length=0 then (0,5) else (((hlt c)[(n % (hlt c).length).toNat]?).getD 0,0)
theorem zjH (c:Clu) (n:Int) (hn:u64 n) (hl:c.zI.length < 1000000000000) (hh:(hlt c).length<=c.zI.length):zb Tryz.prog 156 [] [Cc c,U n] (.tup [I (ko c n).1,I (ko c n).2]) []:=by
 have ml:((hlt c).map encI).length=(hlt c).length:=List.length_map ..
 refine zb.zp (fn:=Tryz.f156) Tryz.func156 rfl ?_
 conv=>whnf
 refine ⟨_,_,(kc c hl).frame rfl _,?_⟩;refine dd ?_
 rw [ml]
 refine ⟨fun h0=>?_,fun h0=>?_⟩
 ·unfold ko
  have h0:=of_decide_eq_true h0
  rw [if_pos (by omega)]
  exact ⟨.inl rfl,_,.refl _,rfl⟩
 ·unfold ko
  have h0:=of_decide_eq_false h0
  rw [if_neg (by omega)]
  refine dd ?_
  have hw:IntKind.u64.wrap ((((hlt c).map encI).length:Nat):Int)≠0:=by
   have hk:=ml
   have:IntKind.u64.wrap ((((hlt c).map encI).length:Nat):Int)=(hlt c).length:=by rw [ml];exact zpR (by omega) (by omega)
   omega
  split
  rotate_left
  ·rename_i hno
   exact (hno _ (yv rfl rfl rfl hw)).elim
  ·rename_i v e
   have e':=e.symm.trans (yv rfl rfl rfl hw)
   cases e'
   refine dd ?_
   have ew:IntKind.u64.wrap ((((hlt c).map encI).length:Nat):Int)=(hlt c).length:=by rw [ml];exact zpR (by omega) (by omega)
   have et:n.tmod (IntKind.u64.wrap ((((hlt c).map encI).length:Nat):Int))=n % (hlt c).length:=by rw [ew];exact Int.tmod_eq_emod_of_nonneg hn.1
   have b0:0<=n % ((hlt c).length:Int):=Int.emod_nonneg _ h0
   have b1:n % ((hlt c).length:Int) < (hlt c).length:=Int.emod_lt_of_pos _ (by omega)
   have hi:(n % ((hlt c).length:Int)).toNat < (hlt c).length:=by omega
   have gx:((hlt c).map encI)[(n.tmod (IntKind.u64.wrap ((((hlt c).map encI).length:Nat):Int))).toNat]?= some (encI ((hlt c)[(n % ((hlt c).length:Int)).toNat]'hi)):=by rw [et,List.getElem?_map,List.getElem?_eq_getElem hi];rfl
   refine ⟨by show 0<=n.tmod (IntKind.u64.wrap ((((hlt c).map encI).length:Nat):Int));rw [et];exact b0,_,gx,?_⟩
   refine dd ?_
   rw [List.getElem?_eq_getElem hi]
   exact ⟨.inl rfl,_,.refl _,rfl⟩
theorem zi6 (a x b y:Int):zb Tryz.prog 160 [] [I a,I x,I b,I y] (I (if y < x then b else a)) []:=by
 refine zb.zp (fn:=Tryz.f160) Tryz.func160 rfl ?_
 conv=>whnf
 refine ⟨fun h=>?_,fun h=>?_⟩
 ·rw [if_pos (of_decide_eq_true h)]
  refine dd ?_
  exact ⟨.inl rfl,_,.refl _,rfl⟩
 ·rw [if_neg (of_decide_eq_false h)]
  refine dd ?_
  exact ⟨.inl rfl,_,.refl _,rfl⟩
theorem zbj (w:Wor) (m:Mac) (v:Ver) (g:Gr) (e:En) (hv:AtG w m v g) (o0:0<=m.other) (ho:g.ends[m.other.toNat]?= some e):
  zb Tryz.prog 117 [⟨1,48,8,[zQ w],0⟩,⟨1,37,44,[zE (m)],0⟩] [.agg [.ref 0 [] 8 0 0,.ref 1 [] 44 0 0]] (Ce (evV m v 1 7 e.zj)) [⟨1,48,8,[zQ w],0⟩,⟨1,37,44,[zE ({ m with end_:=if e.zj < m.i then m.other else m.end_,pc:=9 })],0⟩]:=by
 have er:(g.ends.map zo)[m.other.toNat]?= some (zo e):=by rw [List.getElem?_map,ho];rfl
 refine qb (fn:=Tryz.f117) Tryz.func117 rfl (Nat.le_refl _) ?_;conv=>whnf
 refine .inl ⟨⟨true,[],[],[1]⟩,by kernel_rfl,?_⟩;(conv=>whnf)
 refine zr [0,1] (zcv w m v g hv) rfl rfl rfl rfl rfl rfl ?_;refine dd ?_
 repeat (refine ⟨rfl,?_⟩;conv=>whnf)
 (refine ⟨o0,_,er,?_⟩);refine dd ?_
 refine .inl ⟨⟨true,[],[],[15]⟩,by kernel_rfl,?_⟩;(conv=>whnf)
 refine ⟨_,_,(zi6 m.end_ m.i m.other e.zj).frame rfl _,?_⟩;refine dd ?_
 repeat (refine ⟨rfl,?_⟩;conv=>whnf)
 refine zr [0,1] (y6 w { m with end_:=if e.zj < m.i then m.other else m.end_,pc:=9 } v ⟨hv.v0,hv.at_⟩ 1 7 e.zj) rfl rfl rfl rfl rfl rfl ?_;refine dd ?_
 exact ⟨.inl rfl,_,_,.refl _,rfl,cE 2⟩
end Go.Wor
namespace Go.Wor
open Go.Ab Go.Proofs Go.Hy Go.Gat Go.Nam Go.Hos Go.Con Go.Sna
structure LnE (w:Wor) (m:Mac) (v0:Ver) (g0:Gr):Prop where
 pv:0<=m.version
 lv:m.version.toNat < w.zd.length
 pg:0<=m.zg
 lg:m.zg.toNat < v0.zf.length
 pe:0<=m.end_
 le:m.end_.toNat < g0.ends.length
theorem AtE.ln {w:Wor} {m:Mac} {v0:Ver} {g0:Gr} {e0:En} (h:AtE w m v0 g0 e0):LnE w m v0 g0:=⟨h.v0,(List.getElem?_eq_some_iff.1 h.at_).1,h.g0,(List.getElem?_eq_some_iff.1 h.atg).1,h.e0,(List.getElem?_eq_some_iff.1 h.ate).1⟩
theorem zaV {P:Program} {f:FuncId} (sel:List Nat) (Kx:zl) {K H0 H':zl} {args args0:List C} {r rx:C} (h:zb P f H0 args0 r H') (hR:qA H'=true)
  (hH:jM sel K=H0) (ha:args.map (xg sel 9)=args0) (z7:sel.all (fun id=>Nat.blt id K.length)=true) (hnd:xf sel=true) (hfl:qA K=true) {k:C->zl->Prop}
  (hp:vq sel K H'=Kx) (hr:x4 (qP sel K.length) 9 r=rx) (hk:k rx Kx):∃ R,qq P f K args R∧∀ r H2,R r H2->k r H2:=
 ⟨fun x X=>x=rx∧X=Kx,(h.part sel hR hH ha z7 hnd hfl).toR ⟨hr,hp⟩,by rintro _ _ ⟨rfl,rfl⟩;exact hk⟩
theorem kE (w:Wor) (m:Mac) (v0:Ver) (g0:Gr) (e0:En) (hv:LnE w m v0 g0):zb Tryz.prog 155 [⟨1,48,8,[[I w.zn,I w.current,I w.lock,lI w.pins,.sl 2 [] 5 0 w.zd.length false,lL w.ze,lCo w.counts,lR w.zm]],0⟩,⟨1,37,44,[zE (m)],0⟩,⟨1,0,5,(w.zd.map zx).set m.version.toNat ((zL v0.snap++[C.sl 3 [] 2 0 v0.zf.length false,Bo v0.zD])),0⟩,⟨1,0,2,(v0.zf.map zw).set m.zg.toNat ([U g0.zu,C.sl 4 [] 3 0 g0.ends.length false]),0⟩,⟨1,0,3,(g0.ends.map zo).set m.end_.toNat ([U e0.head,C.sl 5 [] 1 0 e0.next.length false,I e0.zj]),0⟩,⟨2,3,1,e0.next.map encI,0⟩] [.agg [.ref 0 [] 8 0 0,.ref 1 [] 44 0 0]] (.ref 3 [] 2 m.zg.toNat 0) [⟨1,48,8,[[I w.zn,I w.current,I w.lock,lI w.pins,.sl 2 [] 5 0 w.zd.length false,lL w.ze,lCo w.counts,lR w.zm]],0⟩,⟨1,37,44,[zE (m)],0⟩,⟨1,0,5,(w.zd.map zx).set m.version.toNat ((zL v0.snap++[C.sl 3 [] 2 0 v0.zf.length false,Bo v0.zD])),0⟩,⟨1,0,2,(v0.zf.map zw).set m.zg.toNat ([U g0.zu,C.sl 4 [] 3 0 g0.ends.length false]),0⟩,⟨1,0,3,(g0.ends.map zo).set m.end_.toNat ([U e0.head,C.sl 5 [] 1 0 e0.next.length false,I e0.zj]),0⟩,⟨2,3,1,e0.next.map encI,0⟩]:=by
 have h0:=hv.pv
 have g0':=hv.pg
 have lv:m.version.toNat < w.zd.length:=hv.lv
 have lg:m.zg.toNat < v0.zf.length:=hv.lg
 have lowV:∀ r ∈ (w.zd.map zx).set m.version.toNat ((zL v0.snap++[C.sl 3 [] 2 0 v0.zf.length false,Bo v0.zD])),∀ c ∈ r,qO 6 9 c=true:=zy (enc:=zx) (fun _=>rfl) rfl _ _
 have lowG:∀ r ∈ (v0.zf.map zw).set m.zg.toNat ([U g0.zu,C.sl 4 [] 3 0 g0.ends.length false]),∀ c ∈ r,qO 6 9 c=true:=zy (enc:=zw) (fun _=>rfl) rfl _ _
 have lowE:∀ r ∈ (g0.ends.map zo).set m.end_.toNat ([U e0.head,C.sl 5 [] 1 0 e0.next.length false,I e0.zj]),∀ c ∈ r,qO 6 9 c=true:=zy (enc:=zo) (fun _=>rfl) rfl _ _
 have e1:0+m.version.toNat=m.version.toNat:=Nat.zero_add _
 have e2:0+m.zg.toNat=m.zg.toNat:=Nat.zero_add _
 have gv:((w.zd.map zx).set m.version.toNat ((zL v0.snap++[C.sl 3 [] 2 0 v0.zf.length false,Bo v0.zD])))[m.version.toNat]?= some ((zL v0.snap++[C.sl 3 [] 2 0 v0.zf.length false,Bo v0.zD])):=List.getElem?_set_self (by simpa using lv)
 refine qb (fn:=Tryz.f155) Tryz.func155 rfl (Nat.le_refl _) ?_;conv=>whnf
 refine .inl ⟨⟨false,[],[],[]⟩,by kernel_rfl,?_⟩;(conv=>whnf)
 refine ⟨h0,lv,?_⟩
 refine dd ?_
 rw [e1]
 refine ⟨_,gv,(by show 3+1<=5;decide),?_⟩
 refine dd ?_
 refine ⟨g0',lg,?_⟩
 refine dd ?_
 rw [e2]
 exact ⟨.inl rfl,_,_,.refl _,rfl,zt.xW 6 (by (conv=>whnf);(repeat (refine ⟨rfl,?_⟩;(conv=>whnf)));exact trivial) rfl rfl rfl (zO rfl (zO rfl (zO (qv lowV) (zO (qv lowG) (zO (qv lowE) rfl))))) rfl⟩
theorem yg (w:Wor) (m:Mac) (v0:Ver) (g0:Gr) (e0:En) (hv:LnE w m v0 g0):zb Tryz.prog 159 [⟨1,48,8,[[I w.zn,I w.current,I w.lock,lI w.pins,.sl 2 [] 5 0 w.zd.length false,lL w.ze,lCo w.counts,lR w.zm]],0⟩,⟨1,37,44,[zE (m)],0⟩,⟨1,0,5,(w.zd.map zx).set m.version.toNat ((zL v0.snap++[C.sl 3 [] 2 0 v0.zf.length false,Bo v0.zD])),0⟩,⟨1,0,2,(v0.zf.map zw).set m.zg.toNat ([U g0.zu,C.sl 4 [] 3 0 g0.ends.length false]),0⟩,⟨1,0,3,(g0.ends.map zo).set m.end_.toNat ([U e0.head,C.sl 5 [] 1 0 e0.next.length false,I e0.zj]),0⟩,⟨2,3,1,e0.next.map encI,0⟩] [.agg [.ref 0 [] 8 0 0,.ref 1 [] 44 0 0]] (.ref 4 [] 3 m.end_.toNat 0) [⟨1,48,8,[[I w.zn,I w.current,I w.lock,lI w.pins,.sl 2 [] 5 0 w.zd.length false,lL w.ze,lCo w.counts,lR w.zm]],0⟩,⟨1,37,44,[zE (m)],0⟩,⟨1,0,5,(w.zd.map zx).set m.version.toNat ((zL v0.snap++[C.sl 3 [] 2 0 v0.zf.length false,Bo v0.zD])),0⟩,⟨1,0,2,(v0.zf.map zw).set m.zg.toNat ([U g0.zu,C.sl 4 [] 3 0 g0.ends.length false]),0⟩,⟨1,0,3,(g0.ends.map zo).set m.end_.toNat ([U e0.head,C.sl 5 [] 1 0 e0.next.length false,I e0.zj]),0⟩,⟨2,3,1,e0.next.map encI,0⟩]:=by
 have h0:=hv.pe
 have lg:m.zg.toNat < v0.zf.length:=hv.lg
 have le:m.end_.toNat < g0.ends.length:=hv.le
 have ownV:∀ r ∈ (w.zd.map zx).set m.version.toNat ((zL v0.snap++[C.sl 3 [] 2 0 v0.zf.length false,Bo v0.zD])),∀ c ∈ r,zA c=true:=zy (enc:=zx) (fun _=>rfl) rfl _ _
 have ownG:∀ r ∈ (v0.zf.map zw).set m.zg.toNat ([U g0.zu,C.sl 4 [] 3 0 g0.ends.length false]),∀ c ∈ r,zA c=true:=zy (enc:=zw) (fun _=>rfl) rfl _ _
 have ownE:∀ r ∈ (g0.ends.map zo).set m.end_.toNat ([U e0.head,C.sl 5 [] 1 0 e0.next.length false,I e0.zj]),∀ c ∈ r,zA c=true:=zy (enc:=zo) (fun _=>rfl) rfl _ _
 have lowV:∀ r ∈ (w.zd.map zx).set m.version.toNat ((zL v0.snap++[C.sl 3 [] 2 0 v0.zf.length false,Bo v0.zD])),∀ c ∈ r,qO 6 9 c=true:=zy (enc:=zx) (fun _=>rfl) rfl _ _
 have lowG:∀ r ∈ (v0.zf.map zw).set m.zg.toNat ([U g0.zu,C.sl 4 [] 3 0 g0.ends.length false]),∀ c ∈ r,qO 6 9 c=true:=zy (enc:=zw) (fun _=>rfl) rfl _ _
 have lowE:∀ r ∈ (g0.ends.map zo).set m.end_.toNat ([U e0.head,C.sl 5 [] 1 0 e0.next.length false,I e0.zj]),∀ c ∈ r,qO 6 9 c=true:=zy (enc:=zo) (fun _=>rfl) rfl _ _
 have e2:0+m.end_.toNat=m.end_.toNat:=Nat.zero_add _
 have gg:((v0.zf.map zw).set m.zg.toNat ([U g0.zu,C.sl 4 [] 3 0 g0.ends.length false]))[m.zg.toNat]?= some ([U g0.zu,C.sl 4 [] 3 0 g0.ends.length false]):=List.getElem?_set_self (by simpa using lg)
 refine qb (fn:=Tryz.f159) Tryz.func159 rfl (Nat.le_refl _) ?_;conv=>whnf
 refine .inl ⟨⟨true,[],[],[1]⟩,by kernel_rfl,?_⟩;(conv=>whnf)
 refine zX [0,1,2,3,4,5] [⟨1,48,8,[[I w.zn,I w.current,I w.lock,lI w.pins,.sl 2 [] 5 0 w.zd.length false,lL w.ze,lCo w.counts,lR w.zm]],0⟩,⟨1,37,44,[zE (m)],0⟩,⟨1,0,5,(w.zd.map zx).set m.version.toNat ((zL v0.snap++[C.sl 3 [] 2 0 v0.zf.length false,Bo v0.zD])),0⟩,⟨1,0,2,(v0.zf.map zw).set m.zg.toNat ([U g0.zu,C.sl 4 [] 3 0 g0.ends.length false]),0⟩,⟨1,0,3,(g0.ends.map zo).set m.end_.toNat ([U e0.head,C.sl 5 [] 1 0 e0.next.length false,I e0.zj]),0⟩,⟨2,3,1,e0.next.map encI,0⟩,⟨1,154,2,[[.ref 0 [] 8 0 0,.ref 1 [] 44 0 0]],0⟩] (rx:=.ref 3 [] 2 m.zg.toNat 0) (kE w m v0 g0 e0 hv) (zc rfl (zc rfl (zc (zi ownV) (zc (zi ownG) (zc (zi ownE) rfl))))) (by (show zK _ _::zK _ _::zK _ ⟨1,0,5,_,0⟩::zK _ ⟨1,0,2,_,0⟩::zK _ ⟨1,0,3,_,0⟩::_=_);(rw [zF (enc:=zx) (fun _=>rfl),zF (enc:=zw) (fun _=>rfl),zF (enc:=zo) (fun _=>rfl)]);rfl) rfl rfl rfl (zc rfl (zc rfl (zc (zi ownV) (zc (zi ownG) (zc (zi ownE) rfl))))) (by (show zG _ _::zG _ _::zG _ ⟨1,0,5,_,0⟩::zG _ ⟨1,0,2,_,0⟩::zG _ ⟨1,0,3,_,0⟩::_=_);(rw [zB (enc:=zx) (fun _=>rfl),zB (enc:=zw) (fun _=>rfl),zB (enc:=zo) (fun _=>rfl)]);rfl) rfl ?_
 refine dd ?_
 refine ⟨_,gg,(by show 1+1<=2;decide),?_⟩
 refine dd ?_
 refine ⟨h0,le,?_⟩
 refine dd ?_
 rw [e2]
 exact ⟨.inl rfl,_,_,.refl _,rfl,zt.xW 6 (by (conv=>whnf);(repeat (refine ⟨rfl,?_⟩;(conv=>whnf)));exact trivial) rfl rfl rfl (zO rfl (zO rfl (zO (qv lowV) (zO (qv lowG) (zO (qv lowE) rfl))))) rfl⟩
theorem zjn (w:Wor) (m:Mac) (v0:Ver) (g0:Gr) (e0:En) (hv:LnE w m v0 g0) (a b c:Int):zb Tryz.prog 158 [⟨1,48,8,[[I w.zn,I w.current,I w.lock,lI w.pins,.sl 2 [] 5 0 w.zd.length false,lL w.ze,lCo w.counts,lR w.zm]],0⟩,⟨1,37,44,[zE (m)],0⟩,⟨1,0,5,(w.zd.map zx).set m.version.toNat ((zL v0.snap++[C.sl 3 [] 2 0 v0.zf.length false,Bo v0.zD])),0⟩,⟨1,0,2,(v0.zf.map zw).set m.zg.toNat ([U g0.zu,C.sl 4 [] 3 0 g0.ends.length false]),0⟩,⟨1,0,3,(g0.ends.map zo).set m.end_.toNat ([U e0.head,C.sl 5 [] 1 0 e0.next.length false,I e0.zj]),0⟩,⟨2,3,1,e0.next.map encI,0⟩] [.agg [.ref 0 [] 8 0 0,.ref 1 [] 44 0 0],I a,I b,I c] (Ce (evV m v0 a b c)) [⟨1,48,8,[[I w.zn,I w.current,I w.lock,lI w.pins,.sl 2 [] 5 0 w.zd.length false,lL w.ze,lCo w.counts,lR w.zm]],0⟩,⟨1,37,44,[zE (m)],0⟩,⟨1,0,5,(w.zd.map zx).set m.version.toNat ((zL v0.snap++[C.sl 3 [] 2 0 v0.zf.length false,Bo v0.zD])),0⟩,⟨1,0,2,(v0.zf.map zw).set m.zg.toNat ([U g0.zu,C.sl 4 [] 3 0 g0.ends.length false]),0⟩,⟨1,0,3,(g0.ends.map zo).set m.end_.toNat ([U e0.head,C.sl 5 [] 1 0 e0.next.length false,I e0.zj]),0⟩,⟨2,3,1,e0.next.map encI,0⟩]:=by
 have h0:=hv.pv
 have lv:m.version.toNat < w.zd.length:=hv.lv
 have e1:0+m.version.toNat=m.version.toNat:=Nat.zero_add _
 clear hv
 obtain ⟨sn,gs,fr⟩:=v0
 cases fr
 all_goals
  have ownV:∀ b,∀ r ∈ (w.zd.map zx).set m.version.toNat (zL sn++[C.sl 3 [] 2 0 gs.length false,Bo b]),∀ c ∈ r,zA c=true:=fun b=>zy (enc:=zx) (fun _=>rfl) rfl _ _
  have ownG:∀ r ∈ (gs.map zw).set m.zg.toNat ([U g0.zu,C.sl 4 [] 3 0 g0.ends.length false]),∀ c ∈ r,zA c=true:=zy (enc:=zw) (fun _=>rfl) rfl _ _
  have ownE:∀ r ∈ (g0.ends.map zo).set m.end_.toNat ([U e0.head,C.sl 5 [] 1 0 e0.next.length false,I e0.zj]),∀ c ∈ r,zA c=true:=zy (enc:=zo) (fun _=>rfl) rfl _ _
  have lowV:∀ b,∀ r ∈ (w.zd.map zx).set m.version.toNat (zL sn++[C.sl 3 [] 2 0 gs.length false,Bo b]),∀ c ∈ r,qO 6 9 c=true:=fun b=>zy (enc:=zx) (fun _=>rfl) rfl _ _
  have gv:∀ b,((w.zd.map zx).set m.version.toNat (zL sn++[C.sl 3 [] 2 0 gs.length false,Bo b]))[m.version.toNat]?= some (zL sn++[C.sl 3 [] 2 0 gs.length false,Bo b]):=fun b=>List.getElem?_set_self (by simpa using lv)
  have lowG:∀ r ∈ (gs.map zw).set m.zg.toNat ([U g0.zu,C.sl 4 [] 3 0 g0.ends.length false]),∀ c ∈ r,qO 6 9 c=true:=zy (enc:=zw) (fun _=>rfl) rfl _ _
  have lowE:∀ r ∈ (g0.ends.map zo).set m.end_.toNat ([U e0.head,C.sl 5 [] 1 0 e0.next.length false,I e0.zj]),∀ c ∈ r,qO 6 9 c=true:=zy (enc:=zo) (fun _=>rfl) rfl _ _
  refine qb (fn:=Tryz.f158) Tryz.func158 rfl (Nat.le_refl _) ?_;conv=>whnf
  refine zX [1] [⟨1,48,8,[[I w.zn,I w.current,I w.lock,lI w.pins,.sl 2 [] 5 0 w.zd.length false,lL w.ze,lCo w.counts,lR w.zm]],0⟩,⟨1,37,44,[zE (m)],0⟩,⟨1,0,5,(w.zd.map zx).set m.version.toNat (zL sn++[C.sl 3 [] 2 0 gs.length false,Bo _]),0⟩,⟨1,0,2,(gs.map zw).set m.zg.toNat ([U g0.zu,C.sl 4 [] 3 0 g0.ends.length false]),0⟩,⟨1,0,3,(g0.ends.map zo).set m.end_.toNat ([U e0.head,C.sl 5 [] 1 0 e0.next.length false,I e0.zj]),0⟩,⟨2,3,1,e0.next.map encI,0⟩,⟨1,154,2,[[.ref 0 [] 8 0 0,.ref 1 [] 44 0 0]],0⟩,⟨1,87,23,[qj qo],0⟩] (rx:=Ce (evO m a b c)) (qQ m a b c) rfl rfl rfl rfl rfl (zc rfl (zc rfl (zc (zi (ownV _)) (zc (zi ownG) (zc (zi ownE) rfl))))) rfl rfl ?_
  refine dd ?_
  refine .inl ⟨⟨false,[6,9,11,14,17],[0,1,2,6],[]⟩,by kernel_rfl,?_⟩;(conv=>whnf)
  refine ⟨h0,lv,?_⟩
  refine dd ?_
  rw [e1]
  refine ⟨_,gv _,(by show 4+1<=5;decide),?_⟩
  refine dd ?_
  first | ((refine ⟨fun _=>?_,fun h=>absurd (h.symm.trans rfl:false=true) (by decide)⟩);refine dd ?_) | ((refine ⟨fun h=>absurd (h.symm.trans rfl:true=false) (by decide),fun _=>?_⟩);refine dd ?_)
  repeat (refine ⟨rfl,?_⟩;conv=>whnf)
  exact ⟨.inl rfl,_,_,.refl _,rfl,zt.xW 6 (by (conv=>whnf);(repeat (refine ⟨rfl,?_⟩;(conv=>whnf)));exact trivial) rfl rfl rfl (zO rfl (zO rfl (zO (qv (lowV _)) (zO (qv lowG) (zO (qv lowE) rfl))))) rfl⟩
abbrev zpe (e:En) (n:Int):En:={ e with zj:=IntKind.i64.wrap (e.zj+n) }
theorem ks (w:Wor) (m:Mac) (v0:Ver) (g0:Gr) (e0:En) (hv:LnE w m v0 g0):zb Tryz.prog 121 [⟨1,48,8,[[I w.zn,I w.current,I w.lock,lI w.pins,.sl 2 [] 5 0 w.zd.length false,lL w.ze,lCo w.counts,lR w.zm]],0⟩,⟨1,37,44,[zE (m)],0⟩,⟨1,0,5,(w.zd.map zx).set m.version.toNat ((zL v0.snap++[C.sl 3 [] 2 0 v0.zf.length false,Bo v0.zD])),0⟩,⟨1,0,2,(v0.zf.map zw).set m.zg.toNat ([U g0.zu,C.sl 4 [] 3 0 g0.ends.length false]),0⟩,⟨1,0,3,(g0.ends.map zo).set m.end_.toNat ([U e0.head,C.sl 5 [] 1 0 e0.next.length false,I e0.zj]),0⟩,⟨2,3,1,e0.next.map encI,0⟩] [.agg [.ref 0 [] 8 0 0,.ref 1 [] 44 0 0]] (Ce (evV m v0 3 7 (IntKind.i64.wrap (e0.zj+1))))
  [⟨1,48,8,[[I w.zn,I w.current,I w.lock,lI w.pins,.sl 2 [] 5 0 w.zd.length false,lL w.ze,lCo w.counts,lR w.zm]],0⟩,⟨1,37,44,[zE ({ m with answer:=⟨1,m.version,m.zg,m.end_,m.slot,m.listen,0,⟨0,0,0,0,0,0⟩⟩,pc:=20 })],0⟩,⟨1,0,5,(w.zd.map zx).set m.version.toNat ((zL v0.snap++[C.sl 3 [] 2 0 v0.zf.length false,Bo v0.zD])),0⟩,⟨1,0,2,(v0.zf.map zw).set m.zg.toNat ([U g0.zu,C.sl 4 [] 3 0 g0.ends.length false]),0⟩,⟨1,0,3,(g0.ends.map zo).set m.end_.toNat [U e0.head,C.sl 5 [] 1 0 e0.next.length false,I (IntKind.i64.wrap (e0.zj+1))],0⟩,⟨2,3,1,e0.next.map encI,0⟩]:=by
 have le:=hv.le
 have ownV:∀ r ∈ (w.zd.map zx).set m.version.toNat ((zL v0.snap++[C.sl 3 [] 2 0 v0.zf.length false,Bo v0.zD])),∀ c ∈ r,zA c=true:=zy (enc:=zx) (fun _=>rfl) rfl _ _
 have ownG:∀ r ∈ (v0.zf.map zw).set m.zg.toNat ([U g0.zu,C.sl 4 [] 3 0 g0.ends.length false]),∀ c ∈ r,zA c=true:=zy (enc:=zw) (fun _=>rfl) rfl _ _
 have ownE:∀ r ∈ (g0.ends.map zo).set m.end_.toNat ([U e0.head,C.sl 5 [] 1 0 e0.next.length false,I e0.zj]),∀ c ∈ r,zA c=true:=zy (enc:=zo) (fun _=>rfl) rfl _ _
 have ge:((g0.ends.map zo).set m.end_.toNat ([U e0.head,C.sl 5 [] 1 0 e0.next.length false,I e0.zj]))[m.end_.toNat]?= some ([U e0.head,C.sl 5 [] 1 0 e0.next.length false,I e0.zj]):=List.getElem?_set_self (by simpa using le)
 refine qb (fn:=Tryz.f121) Tryz.func121 rfl (Nat.le_refl _) ?_;conv=>whnf
 refine zaV [0,1,2,3,4,5] [⟨1,48,8,[[I w.zn,I w.current,I w.lock,lI w.pins,.sl 2 [] 5 0 w.zd.length false,lL w.ze,lCo w.counts,lR w.zm]],0⟩,⟨1,37,44,[zE (m)],0⟩,⟨1,0,5,(w.zd.map zx).set m.version.toNat ((zL v0.snap++[C.sl 3 [] 2 0 v0.zf.length false,Bo v0.zD])),0⟩,⟨1,0,2,(v0.zf.map zw).set m.zg.toNat ([U g0.zu,C.sl 4 [] 3 0 g0.ends.length false]),0⟩,⟨1,0,3,(g0.ends.map zo).set m.end_.toNat ([U e0.head,C.sl 5 [] 1 0 e0.next.length false,I e0.zj]),0⟩,⟨2,3,1,e0.next.map encI,0⟩,⟨1,154,2,[[.ref 0 [] 8 0 0,.ref 1 [] 44 0 0]],0⟩,⟨1,87,23,[qj qo],0⟩] (rx:=.ref 4 [] 3 m.end_.toNat 0) (yg w m v0 g0 e0 hv) (zc rfl (zc rfl (zc (zi ownV) (zc (zi ownG) (zc (zi ownE) rfl))))) (by (show zK _ _::zK _ _::zK _ ⟨1,0,5,_,0⟩::zK _ ⟨1,0,2,_,0⟩::zK _ ⟨1,0,3,_,0⟩::_=_);(rw [zF (enc:=zx) (fun _=>rfl),zF (enc:=zw) (fun _=>rfl),zF (enc:=zo) (fun _=>rfl)]);rfl) rfl rfl rfl (zc rfl (zc rfl (zc (zi ownV) (zc (zi ownG) (zc (zi ownE) rfl))))) (by (show zG _ _::zG _ _::zG _ ⟨1,0,5,_,0⟩::zG _ ⟨1,0,2,_,0⟩::zG _ ⟨1,0,3,_,0⟩::_=_);(rw [zB (enc:=zx) (fun _=>rfl),zB (enc:=zw) (fun _=>rfl),zB (enc:=zo) (fun _=>rfl)]);rfl) rfl ?_
 refine dd ?_
 refine ⟨_,ge,(by show 2+1<=3;decide),?_⟩
 refine dd ?_
 refine ⟨_,ge,rfl,?_⟩
 refine dd ?_
 rw [List.set_set]
 refine .inl ⟨⟨false,[],[],[]⟩,by kernel_rfl,?_⟩;(conv=>whnf)
 have ownE2:∀ r ∈ (g0.ends.map zo).set m.end_.toNat [U e0.head,C.sl 5 [] 1 0 e0.next.length false,I (IntKind.i64.wrap (e0.zj+1))],∀ c ∈ r,zA c=true:=zy (enc:=zo) (fun _=>rfl) rfl _ _
 refine .inl ⟨⟨true,[],[],[2,6]⟩,by kernel_rfl,?_⟩;(conv=>whnf)
 have hv2:LnE w { m with answer:=⟨1,m.version,m.zg,m.end_,m.slot,m.listen,0,⟨0,0,0,0,0,0⟩⟩,pc:=20 } v0 g0:=⟨hv.pv,hv.lv,hv.pg,hv.lg,hv.pe,hv.le⟩
 have ge2:((g0.ends.map zo).set m.end_.toNat [U e0.head,C.sl 5 [] 1 0 e0.next.length false,I (IntKind.i64.wrap (e0.zj+1))])[m.end_.toNat]?= some [U e0.head,C.sl 5 [] 1 0 e0.next.length false,I (IntKind.i64.wrap (e0.zj+1))]:=List.getElem?_set_self (by simpa using le)
 have lowV:∀ r ∈ (w.zd.map zx).set m.version.toNat ((zL v0.snap++[C.sl 3 [] 2 0 v0.zf.length false,Bo v0.zD])),∀ c ∈ r,qO 6 9 c=true:=zy (enc:=zx) (fun _=>rfl) rfl _ _
 have lowG:∀ r ∈ (v0.zf.map zw).set m.zg.toNat ([U g0.zu,C.sl 4 [] 3 0 g0.ends.length false]),∀ c ∈ r,qO 6 9 c=true:=zy (enc:=zw) (fun _=>rfl) rfl _ _
 have lowE:∀ r ∈ (g0.ends.map zo).set m.end_.toNat [U e0.head,C.sl 5 [] 1 0 e0.next.length false,I (IntKind.i64.wrap (e0.zj+1))],∀ c ∈ r,qO 6 9 c=true:=zy (enc:=zo) (fun _=>rfl) rfl _ _
 refine zX [0,1,2,3,4,5] [⟨1,48,8,[[I w.zn,I w.current,I w.lock,lI w.pins,.sl 2 [] 5 0 w.zd.length false,lL w.ze,lCo w.counts,lR w.zm]],0⟩,⟨1,37,44,[zE ({ m with answer:=⟨1,m.version,m.zg,m.end_,m.slot,m.listen,0,⟨0,0,0,0,0,0⟩⟩,pc:=20 })],0⟩,⟨1,0,5,(w.zd.map zx).set m.version.toNat ((zL v0.snap++[C.sl 3 [] 2 0 v0.zf.length false,Bo v0.zD])),0⟩,⟨1,0,2,(v0.zf.map zw).set m.zg.toNat ([U g0.zu,C.sl 4 [] 3 0 g0.ends.length false]),0⟩,⟨1,0,3,(g0.ends.map zo).set m.end_.toNat [U e0.head,C.sl 5 [] 1 0 e0.next.length false,I (IntKind.i64.wrap (e0.zj+1))],0⟩,⟨2,3,1,e0.next.map encI,0⟩,⟨1,154,2,[[.ref 0 [] 8 0 0,.ref 1 [] 44 0 0]],0⟩,⟨1,87,23,[qj qo],0⟩] (rx:=.ref 4 [] 3 m.end_.toNat 0) (yg w _ v0 g0 (zpe e0 1) hv2) (zc rfl (zc rfl (zc (zi ownV) (zc (zi ownG) (zc (zi ownE2) rfl))))) (by (show zK _ _::zK _ _::zK _ ⟨1,0,5,_,0⟩::zK _ ⟨1,0,2,_,0⟩::zK _ ⟨1,0,3,_,0⟩::_=_);(rw [zF (enc:=zx) (fun _=>rfl),zF (enc:=zw) (fun _=>rfl),zF (enc:=zo) (fun _=>rfl)]);rfl) rfl rfl rfl (zc rfl (zc rfl (zc (zi ownV) (zc (zi ownG) (zc (zi ownE2) rfl))))) (by (show zG _ _::zG _ _::zG _ ⟨1,0,5,_,0⟩::zG _ ⟨1,0,2,_,0⟩::zG _ ⟨1,0,3,_,0⟩::_=_);(rw [zB (enc:=zx) (fun _=>rfl),zB (enc:=zw) (fun _=>rfl),zB (enc:=zo) (fun _=>rfl)]);rfl) rfl ?_
 refine dd ?_
 refine ⟨_,ge2,(by show 2+1<=3;decide),?_⟩
 refine dd ?_
 refine zX [0,1,2,3,4,5] [⟨1,48,8,[[I w.zn,I w.current,I w.lock,lI w.pins,.sl 2 [] 5 0 w.zd.length false,lL w.ze,lCo w.counts,lR w.zm]],0⟩,⟨1,37,44,[zE ({ m with answer:=⟨1,m.version,m.zg,m.end_,m.slot,m.listen,0,⟨0,0,0,0,0,0⟩⟩,pc:=20 })],0⟩,⟨1,0,5,(w.zd.map zx).set m.version.toNat ((zL v0.snap++[C.sl 3 [] 2 0 v0.zf.length false,Bo v0.zD])),0⟩,⟨1,0,2,(v0.zf.map zw).set m.zg.toNat ([U g0.zu,C.sl 4 [] 3 0 g0.ends.length false]),0⟩,⟨1,0,3,(g0.ends.map zo).set m.end_.toNat [U e0.head,C.sl 5 [] 1 0 e0.next.length false,I (IntKind.i64.wrap (e0.zj+1))],0⟩,⟨2,3,1,e0.next.map encI,0⟩,⟨1,154,2,[[.ref 0 [] 8 0 0,.ref 1 [] 44 0 0]],0⟩,⟨1,87,23,[qj qo],0⟩] (rx:=Ce (evV m v0 3 7 (IntKind.i64.wrap (e0.zj+1)))) (zjn w _ v0 g0 (zpe e0 1) hv2 3 7 (IntKind.i64.wrap (e0.zj+1))) (zc rfl (zc rfl (zc (zi ownV) (zc (zi ownG) (zc (zi ownE2) rfl))))) (by (show zK _ _::zK _ _::zK _ ⟨1,0,5,_,0⟩::zK _ ⟨1,0,2,_,0⟩::zK _ ⟨1,0,3,_,0⟩::_=_);(rw [zF (enc:=zx) (fun _=>rfl),zF (enc:=zw) (fun _=>rfl),zF (enc:=zo) (fun _=>rfl)]);rfl) rfl rfl rfl (zc rfl (zc rfl (zc (zi ownV) (zc (zi ownG) (zc (zi ownE2) rfl))))) (by (show zG _ _::zG _ _::zG _ ⟨1,0,5,_,0⟩::zG _ ⟨1,0,2,_,0⟩::zG _ ⟨1,0,3,_,0⟩::_=_);(rw [zB (enc:=zx) (fun _=>rfl),zB (enc:=zw) (fun _=>rfl),zB (enc:=zo) (fun _=>rfl)]);rfl) rfl ?_
 refine dd ?_
 exact ⟨.inl rfl,_,_,.refl _,rfl,zt.xW 6 (by (conv=>whnf);(repeat (refine ⟨rfl,?_⟩;(conv=>whnf)));exact trivial) rfl rfl rfl (zO rfl (zO rfl (zO (qv lowV) (zO (qv lowG) (zO (qv lowE) rfl))))) rfl⟩
end Go.Wor
