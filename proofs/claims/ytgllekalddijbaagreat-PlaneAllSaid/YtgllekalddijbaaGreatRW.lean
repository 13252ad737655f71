import Derived.Test.YtgllekalddijbaaGreatRV
set_option linter.unusedVariables false
set_option linter.unusedSimpArgs false
set_option linter.unusedSectionVars false
set_option maxRecDepth 100000
set_option maxHeartbeats 4000000
namespace Go.Wor
open Go.Ab Go.Proofs Go.Hy Go.Gat Go.Nam Go.Hos Go.Con Go.Sna
abbrev evO (m:Mac) (a b c:Int):Eve:=⟨m.zo,0,a,b, -1,false,c,false,false,false,vL⟩
abbrev evV (m:Mac) (v:Ver) (a b c:Int):Eve:=⟨m.zo,0,a,b,m.version,v.zC,c,false,false,false,vL⟩
theorem qJ (m:Mac) (a b c:Int):zc Tryz.prog 304 [⟨1,43,44,[zP (m)],0⟩] [.agg [.za,.ref 0 [] 44 0 0],I a,I b,I c] (Ce (evO m a b c)) [⟨1,43,44,[zP (m)],0⟩]:=by
 refine qy (fn:=Tryz.f304) Tryz.func304 rfl (Nat.le_refl _) ?_;conv=>whnf
 exact ⟨.inl rfl,_,_,.refl _,rfl,cE 1⟩
abbrev zcn (n:Int):Ans:=⟨n,0,0,0,0,0,0,⟨0,0,0,0,0,0⟩⟩
abbrev vB (m:Mac) (n:Int):Mac:={ m with answer:=zcn n,pc:=20 }
theorem xz (m:Mac) (n:Int):zc Tryz.prog 305 [⟨1,43,44,[zP (m)],0⟩] [.agg [.za,.ref 0 [] 44 0 0],I n] (.tup []) [⟨1,43,44,[zP (vB m n)],0⟩]:=by
 refine qy (fn:=Tryz.f305) Tryz.func305 rfl (Nat.le_refl _) ?_;conv=>whnf
 refine .inl ⟨⟨false,[3],[1],[]⟩,by kernel_rfl,?_⟩;(conv=>whnf)
 repeat (refine ⟨rfl,?_⟩;conv=>whnf)
 exact ⟨.inr rfl,_,_,.refl _,rfl,cE 1⟩
structure AtV (w:Wor) (m:Mac) (v:Ver):Prop where
 v0:0<=m.version
 at_:w.zd[m.version.toNat]?= some v
theorem AtV.row {w:Wor} {m:Mac} {v:Ver} (h:AtV w m v):(w.zd.map zw)[m.version.toNat]?= some (zw v):=by rw [List.getElem?_map,h.at_];rfl
theorem yM (w:Wor) (m:Mac) (v:Ver) (hv:AtV w m v) (a b c:Int):zc Tryz.prog 310 [⟨1,28,8,[z5 w],0⟩,⟨1,43,44,[zP (m)],0⟩] [.agg [.ref 0 [] 8 0 0,.ref 1 [] 44 0 0],I a,I b,I c] (Ce (evV m v a b c)) [⟨1,28,8,[z5 w],0⟩,⟨1,43,44,[zP (m)],0⟩]:=by
 have h0:=hv.v0
 have hr:=hv.row
 obtain ⟨sn,gs,fr⟩:=v
 cases fr
 all_goals
  refine qy (fn:=Tryz.f310) Tryz.func310 rfl (Nat.le_refl _) ?_;conv=>whnf
  refine zG [1] (qJ m a b c) rfl rfl rfl rfl rfl rfl ?_;refine dd ?_
  refine .inl ⟨⟨false,[6,9,11,14,17],[0,1,2],[]⟩,by kernel_rfl,?_⟩;(conv=>whnf)
  (refine ⟨h0,_,hr,?_⟩);refine dd ?_
  first | ((refine ⟨fun _=>?_,fun h=>absurd (h.symm.trans rfl:false=true) (by decide)⟩);refine dd ?_) | ((refine ⟨fun h=>absurd (h.symm.trans rfl:true=false) (by decide),fun _=>?_⟩);refine dd ?_)
  repeat (refine ⟨rfl,?_⟩;conv=>whnf)
  exact ⟨.inl rfl,_,_,.refl _,rfl,cE 2⟩
theorem zcx {P:Program} {f:FuncId} (sel:List Nat) {K H0 H':zk} {args args0:List C} {r:C} (h:zc P f H0 args0 r H') (hR:qo H'=true)
  (hH:jC sel K=H0) (ha:args.map (j7 sel 9)=args0) (zX:sel.all (fun id=>Nat.blt id K.length)=true) (hnd:j6 sel=true) (hfl:qo K=true) {k:C->zk->Prop}
  (hk:w9 (y5 sel K H') fun X=>ql (xO (qI sel K.length) 9 r) fun c=>k c X):∃ R',qt P f K args R'∧∀ r H2,R' r H2->k r H2:=
 zcR sel (h.toR (R:=fun x X=>x=r∧X=H') ⟨rfl,rfl⟩) (fun _ _ e=>e.2 ▸ hR) hH ha zX hnd hfl (by rintro _ _ ⟨rfl,rfl⟩;exact hk)
structure AtG (w:Wor) (m:Mac) (v:Ver) (g:Gr):Prop extends AtV w m v where
 g0:0<=m.zg
 atg:v.zf[m.zg.toNat]?= some g
theorem AtG.zoJ {w:Wor} {m:Mac} {v:Ver} {g:Gr} (h:AtG w m v g):(v.zf.map zp)[m.zg.toNat]?= some (zp g):=by rw [List.getElem?_map,h.atg];rfl
structure AtE (w:Wor) (m:Mac) (v:Ver) (g:Gr) (e:En):Prop extends AtG w m v g where
 e0:0<=m.end_
 ate:g.ends[m.end_.toNat]?= some e
theorem AtE.zoI {w:Wor} {m:Mac} {v:Ver} {g:Gr} {e:En} (h:AtE w m v g e):(g.ends.map zn)[m.end_.toNat]?= some (zn e):=by rw [List.getElem?_map,h.ate];rfl
theorem zb0 (w:Wor) (m:Mac) (v:Ver) (g:Gr) (hv:AtG w m v g):zc Tryz.prog 307 [⟨1,28,8,[z5 w],0⟩,⟨1,43,44,[zP (m)],0⟩] [.agg [.ref 0 [] 8 0 0,.ref 1 [] 44 0 0]] (.q7 (zp g)) [⟨1,28,8,[z5 w],0⟩,⟨1,43,44,[zP (m)],0⟩]:=by
 have h0:=hv.v0
 have hr:=hv.row
 have g0:=hv.g0
 have gr:=hv.zoJ
 refine qy (fn:=Tryz.f307) Tryz.func307 rfl (Nat.le_refl _) ?_;conv=>whnf
 refine .inl ⟨⟨false,[],[],[]⟩,by kernel_rfl,?_⟩;(conv=>whnf)
 (refine ⟨h0,_,hr,?_⟩);refine dd ?_
 (refine ⟨g0,_,gr,?_⟩);refine dd ?_
 exact ⟨.inl rfl,_,_,.refl _,rfl,cE 2⟩
theorem yG (w:Wor) (m:Mac) (v:Ver) (g:Gr) (e:En) (hv:AtE w m v g e):zc Tryz.prog 311 [⟨1,28,8,[z5 w],0⟩,⟨1,43,44,[zP (m)],0⟩] [.agg [.ref 0 [] 8 0 0,.ref 1 [] 44 0 0]] (.q7 (zn e)) [⟨1,28,8,[z5 w],0⟩,⟨1,43,44,[zP (m)],0⟩]:=by
 have e0:=hv.e0
 have er:=hv.zoI
 refine qy (fn:=Tryz.f311) Tryz.func311 rfl (Nat.le_refl _) ?_;conv=>whnf
 refine .inl ⟨⟨true,[],[],[1]⟩,by kernel_rfl,?_⟩;(conv=>whnf)
 refine zG [0,1] (zb0 w m v g hv.toAtG) rfl rfl rfl rfl rfl rfl ?_;refine dd ?_
 repeat (refine ⟨rfl,?_⟩;conv=>whnf)
 (refine ⟨e0,_,er,?_⟩);refine dd ?_
 exact ⟨.inl rfl,_,_,.refl _,rfl,cE 2⟩
theorem vn (w:Wor) (m:Mac) (v:Ver) (c:Clu) (hv:AtV w m v) (c0:0<=m.zg) (hc:v.snap.zm[m.zg.toNat]?= some c):zc Tryz.prog 309 [⟨1,28,8,[z5 w],0⟩,⟨1,43,44,[zP (m)],0⟩] [.agg [.ref 0 [] 8 0 0,.ref 1 [] 44 0 0]] (Cc c) [⟨1,28,8,[z5 w],0⟩,⟨1,43,44,[zP (m)],0⟩]:=by
 have h0:=hv.v0
 have hr:=hv.row
 have cr:(v.snap.zm.map jn)[m.zg.toNat]?= some (jn c):=by rw [List.getElem?_map,hc];rfl
 refine qy (fn:=Tryz.f309) Tryz.func309 rfl (Nat.le_refl _) ?_;conv=>whnf
 refine .inl ⟨⟨false,[],[],[]⟩,by kernel_rfl,?_⟩;(conv=>whnf)
 (refine ⟨h0,_,hr,?_⟩);refine dd ?_
 (refine ⟨c0,_,cr,?_⟩);refine dd ?_
 exact ⟨.inl rfl,_,_,.refl _,rfl,cE 2⟩
theorem y0 (w:Wor) (m:Mac) (v:Ver) (g:Gr) (e:En) (hv:AtE w m v g e) {x:Int} (s0:0<=m.slot) (hx:e.next[m.slot.toNat]?= some x):
  zc Tryz.prog 268 [⟨1,28,8,[z5 w],0⟩,⟨1,43,44,[zP (m)],0⟩] [.agg [.ref 0 [] 8 0 0,.ref 1 [] 44 0 0]] (Ce (evV m v 1 9 x)) [⟨1,28,8,[z5 w],0⟩,⟨1,43,44,[zP ({ m with link:=x,pc:=11 })],0⟩]:=by
 have er:(e.next.map encI)[m.slot.toNat]?= some (encI x):=by rw [List.getElem?_map,hx];rfl
 refine qy (fn:=Tryz.f268) Tryz.func268 rfl (Nat.le_refl _) ?_;conv=>whnf
 refine .inl ⟨⟨true,[3],[2],[5]⟩,by kernel_rfl,?_⟩;(conv=>whnf)
 refine zG [0,1] (yG w m v g e hv) rfl rfl rfl rfl rfl rfl ?_;refine dd ?_
 repeat (refine ⟨rfl,?_⟩;conv=>whnf)
 (refine ⟨s0,_,er,?_⟩);refine dd ?_
 repeat (refine ⟨rfl,?_⟩;conv=>whnf)
 refine .inl ⟨⟨true,[],[],[]⟩,by kernel_rfl,?_⟩;(conv=>whnf)
 refine zG [0,1] (yM w { m with link:=x,pc:=11 } v ⟨hv.v0,hv.at_⟩ 1 9 x) rfl rfl rfl rfl rfl rfl ?_;refine dd ?_
 exact ⟨.inl rfl,_,_,.refl _,rfl,cE 2⟩
theorem zaM (w:Wor) (m:Mac) (v:Ver) (g:Gr) (e:En) (hv:AtE w m v g e):
  zc Tryz.prog 265 [⟨1,28,8,[z5 w],0⟩,⟨1,43,44,[zP (m)],0⟩] [.agg [.ref 0 [] 8 0 0,.ref 1 [] 44 0 0]] (Ce (evV m v 1 7 e.zj)) [⟨1,28,8,[z5 w],0⟩,⟨1,43,44,[zP ({ m with i:=e.zj,pc:=8 })],0⟩]:=by
 refine qy (fn:=Tryz.f265) Tryz.func265 rfl (Nat.le_refl _) ?_;conv=>whnf
 refine .inl ⟨⟨true,[3],[2],[5]⟩,by kernel_rfl,?_⟩;(conv=>whnf)
 refine zG [0,1] (yG w m v g e hv) rfl rfl rfl rfl rfl rfl ?_;refine dd ?_
 repeat (refine ⟨rfl,?_⟩;conv=>whnf)
 repeat (refine ⟨rfl,?_⟩;conv=>whnf)
 refine .inl ⟨⟨true,[],[],[]⟩,by kernel_rfl,?_⟩;(conv=>whnf)
 refine zG [0,1] (yM w { m with i:=e.zj,pc:=8 } v ⟨hv.v0,hv.at_⟩ 1 7 e.zj) rfl rfl rfl rfl rfl rfl ?_;refine dd ?_
 exact ⟨.inl rfl,_,_,.refl _,rfl,cE 2⟩
theorem yZ (w:Wor) (m:Mac) (v:Ver) (g:Gr) (e:En) (hv:AtE w m v g e) (he:u64 e.head) (hi:0<=e.head % 4294967296 - 1∧e.head % 4294967296 - 1 < e.next.length):
  zc Tryz.prog 267 [⟨1,28,8,[z5 w],0⟩,⟨1,43,44,[zP (m)],0⟩] [.agg [.ref 0 [] 8 0 0,.ref 1 [] 44 0 0]] (Ce (evV m v 1 8 (e.head % 4294967296 - 1))) [⟨1,28,8,[z5 w],0⟩,⟨1,43,44,[zP ({ m with word:=e.head,slot:=e.head % 4294967296 - 1,pc:=10 })],0⟩]:=by
 have hi1:=hi.1
 have hi2:=hi.2
 have ml:(e.next.map encI).length=e.next.length:=List.length_map ..
 refine qy (fn:=Tryz.f267) Tryz.func267 rfl (Nat.le_refl _) ?_;conv=>whnf
 refine zcx [0,1] (yG w m v g e hv) rfl rfl rfl rfl rfl rfl ?_;refine dd ?_
 refine ⟨_,_,(Slp.qg e.head he).frame rfl _,?_⟩;refine dd ?_
 refine ⟨fun h=>absurd h (by simp;omega),fun _=>?_⟩
 refine dd ?_
 refine zcx [0,1] (yG w { m with word:=e.head } v g e ⟨⟨⟨hv.v0,hv.at_⟩,hv.g0,hv.atg⟩,hv.e0,hv.ate⟩) rfl rfl rfl rfl rfl rfl ?_;refine dd ?_
 rw [ml]
 refine ⟨fun h=>absurd h (by simp;omega),fun _=>?_⟩
 refine dd ?_
 refine zG [0,1] (yM w { m with word:=e.head,slot:=e.head % 4294967296 - 1,pc:=10 } v ⟨hv.v0,hv.at_⟩ 1 8 (e.head % 4294967296 - 1)) rfl rfl rfl rfl rfl rfl ?_;refine dd ?_
 exact ⟨.inl rfl,_,_,.refl _,rfl,cE 2⟩
end Go.Wor
namespace Go.Wor
open Go.Ab Go.Proofs Go.Hy Go.Gat Go.Nam Go.Hos Go.Con Go.Sna
theorem kR (w:Wor) (m:Mac) (x:Lis) (h0:0<=m.listen) (hx:w.ze[m.listen.toNat]?= some x):
  zc Tryz.prog 262 [⟨1,28,8,[[I w.zu,I w.current,I w.lock,lI w.pins,lV w.zd,.sl 2 [] 4 0 w.ze.length false,lCo w.counts,lR w.zt]],0⟩,⟨1,43,44,[zP (m)],0⟩,⟨2,95,4,(w.ze).map jc,0⟩] [.agg [.ref 0 [] 8 0 0,.ref 1 [] 44 0 0]] (Ce (evO m 3 5 (IntKind.i64.wrap (x.zj+1))))
   [⟨1,28,8,[[I w.zu,I w.current,I w.lock,lI w.pins,lV w.zd,.sl 2 [] 4 0 w.ze.length false,lCo w.counts,lR w.zt]],0⟩,⟨1,43,44,[zP ({ m with pc:=5 })],0⟩,⟨2,95,4,(w.ze.set m.listen.toNat { x with zj:=IntKind.i64.wrap (x.zj+1) }).map jc,0⟩]:=by
 have e1:0+m.listen.toNat=m.listen.toNat:=Nat.zero_add _
 have hlt:m.listen.toNat < w.ze.length:=(List.getElem?_eq_some_iff.1 hx).1
 have gx:(w.ze.map jc)[m.listen.toNat]?= some (jc x):=by rw [List.getElem?_map,hx];rfl
 refine qy (fn:=Tryz.f262) Tryz.func262 rfl (Nat.le_refl _) ?_;conv=>whnf
 have hst:(w.ze.map jc).set m.listen.toNat [Tx x.name,Bo x.drain,I (IntKind.i64.wrap (x.zj+1)),Bo x.closed]=(w.ze.set m.listen.toNat { x with zj:=IntKind.i64.wrap (x.zj+1) }).map jc:=by rw [List.map_set];rfl
 have gx2:((w.ze.set m.listen.toNat { x with zj:=IntKind.i64.wrap (x.zj+1) }).map jc)[m.listen.toNat]?= some (jc { x with zj:=IntKind.i64.wrap (x.zj+1) }):=by rw [List.getElem?_map,List.getElem?_set_self hlt];rfl
 refine .inl ⟨⟨false,[],[],[]⟩,by kernel_rfl,?_⟩;(conv=>whnf)
 refine ⟨h0,hlt,?_⟩
 refine dd ?_
 rw [e1]
 refine ⟨_,gx,(by show 2+1<=4;decide),?_⟩
 refine dd ?_
 refine ⟨_,gx,rfl,?_⟩
 refine dd ?_
 rw [hst]
 refine .inl ⟨⟨true,[],[],[]⟩,by kernel_rfl,?_⟩;(conv=>whnf)
 refine ⟨_,gx2,(by show 2+1<=4;decide),?_⟩
 refine dd ?_
 refine zG [1] (qJ { m with pc:=5 } 3 5 (IntKind.i64.wrap (x.zj+1))) rfl rfl rfl rfl rfl rfl ?_;refine dd ?_
 exact ⟨.inl rfl,_,_,.refl _,rfl,cE 3⟩
theorem zgo (w:Wor) (m:Mac) (x:Lis) (h0:0<=m.listen) (hx:w.ze[m.listen.toNat]?= some x):
  zc Tryz.prog 273 [⟨1,28,8,[[I w.zu,I w.current,I w.lock,lI w.pins,lV w.zd,.sl 2 [] 4 0 w.ze.length false,lCo w.counts,lR w.zt]],0⟩,⟨1,43,44,[zP (m)],0⟩,⟨2,95,4,(w.ze).map jc,0⟩] [.agg [.ref 0 [] 8 0 0,.ref 1 [] 44 0 0]] (Ce (evO m 3 5 (IntKind.i64.wrap (x.zj - 1))))
   [⟨1,28,8,[[I w.zu,I w.current,I w.lock,lI w.pins,lV w.zd,.sl 2 [] 4 0 w.ze.length false,lCo w.counts,lR w.zt]],0⟩,⟨1,43,44,[zP ({ m with pc:=23 })],0⟩,⟨2,95,4,(w.ze.set m.listen.toNat { x with zj:=IntKind.i64.wrap (x.zj - 1) }).map jc,0⟩]:=by
 have e1:0+m.listen.toNat=m.listen.toNat:=Nat.zero_add _
 have hlt:m.listen.toNat < w.ze.length:=(List.getElem?_eq_some_iff.1 hx).1
 have gx:(w.ze.map jc)[m.listen.toNat]?= some (jc x):=by rw [List.getElem?_map,hx];rfl
 refine qy (fn:=Tryz.f273) Tryz.func273 rfl (Nat.le_refl _) ?_;conv=>whnf
 have hst:(w.ze.map jc).set m.listen.toNat [Tx x.name,Bo x.drain,I (IntKind.i64.wrap (x.zj - 1)),Bo x.closed]=(w.ze.set m.listen.toNat { x with zj:=IntKind.i64.wrap (x.zj - 1) }).map jc:=by rw [List.map_set];rfl
 have gx2:((w.ze.set m.listen.toNat { x with zj:=IntKind.i64.wrap (x.zj - 1) }).map jc)[m.listen.toNat]?= some (jc { x with zj:=IntKind.i64.wrap (x.zj - 1) }):=by rw [List.getElem?_map,List.getElem?_set_self hlt];rfl
 refine .inl ⟨⟨false,[],[],[]⟩,by kernel_rfl,?_⟩;(conv=>whnf)
 refine ⟨h0,hlt,?_⟩
 refine dd ?_
 rw [e1]
 refine ⟨_,gx,(by show 2+1<=4;decide),?_⟩
 refine dd ?_
 refine ⟨_,gx,rfl,?_⟩
 refine dd ?_
 rw [hst]
 refine .inl ⟨⟨true,[],[],[]⟩,by kernel_rfl,?_⟩;(conv=>whnf)
 refine ⟨_,gx2,(by show 2+1<=4;decide),?_⟩
 refine dd ?_
 refine zG [1] (qJ { m with pc:=23 } 3 5 (IntKind.i64.wrap (x.zj - 1))) rfl rfl rfl rfl rfl rfl ?_;refine dd ?_
 exact ⟨.inl rfl,_,_,.refl _,rfl,cE 3⟩
end Go.Wor
namespace Go.Wor
open Go.Ab Go.Proofs Go.Hy Go.Gat Go.Nam Go.Hos Go.Con Go.Sna
theorem zT {P:Program} {f:FuncId} (sel:List Nat) (Kx:zk) {K H0 H':zk} {args args0:List C} {r rx:C} (h:zc P f H0 args0 r H') (hR:qo H'=true)
  (hH:jC sel K=H0) (ha:args.map (j7 sel 9)=args0) (zX:sel.all (fun id=>Nat.blt id K.length)=true) (hnd:j6 sel=true) (hfl:qo K=true) {k:C->zk->Prop}
  (hp:y5 sel K H'=Kx) (hr:xO (qI sel K.length) 9 r=rx) (hk:okB rx fun c=>k c Kx):∃ r H2,zc P f K args r H2∧okB r fun c=>k c H2:=
 ⟨_,_,h.part sel hR hH ha zX hnd hfl,by rw [hp,hr];exact hk⟩
theorem zN {n:Nat} {x:Ob} {H:zk} (h1:qw n [x]=true) (h2:qw n H=true):qw n (x::H)=true:=by
 unfold qw at *
 simp only [List.all_cons,List.all_nil,Bool.and_true] at *
 rw [h1,h2];rfl
theorem qh {n ty sz fz:Nat} {rows:List (List C)} (h:∀ r ∈ rows,∀ c ∈ r,qH n 9 c=true):qw n [⟨1,ty,sz,rows,fz⟩]=true:=by
 unfold qw
 simp only [List.all_cons,List.all_nil,Bool.and_true]
 have:(rows.all fun r=>r.all (qH n 9))=true:=List.all_eq_true.2 fun r hr=>List.all_eq_true.2 fun c hc=>h r hr c hc
 rw [this];simp
theorem yR (w:Wor) (m:Mac) (r0:List Int) (x:Int) (h0:0<=m.zo) (hr:w.counts[m.zo.toNat]?= some r0) (hx:r0[0]?= some x):
  zc Tryz.prog 272 [⟨1,28,8,[[I w.zu,I w.current,I w.lock,lI w.pins,lV w.zd,lL w.ze,.sl 2 [] 1 0 w.counts.length false,lR w.zt]],0⟩,⟨1,43,44,[zP (m)],0⟩,⟨1,0,1,(w.counts.map zL).set m.zo.toNat [C.sl 3 [] 1 0 r0.length false],0⟩,⟨2,38,1,(r0).map qY,0⟩] [.agg [.ref 0 [] 8 0 0,.ref 1 [] 44 0 0]] (Ce (evO m 3 10 0))
   [⟨1,28,8,[[I w.zu,I w.current,I w.lock,lI w.pins,lV w.zd,lL w.ze,.sl 2 [] 1 0 w.counts.length false,lR w.zt]],0⟩,⟨1,43,44,[zP ({ m with pc:=if m.answer.kind=1∨m.listen < 0 then 23 else 22 })],0⟩,⟨1,0,1,(w.counts.map zL).set m.zo.toNat [C.sl 3 [] 1 0 r0.length false],0⟩,⟨2,38,1,(r0.set 0 (IntKind.u64.wrap (x+1))).map qY,0⟩]:=by
 have e1:0+m.zo.toNat=m.zo.toNat:=Nat.zero_add _
 have hlt:m.zo.toNat < w.counts.length:=(List.getElem?_eq_some_iff.1 hr).1
 have gt:((w.counts.map zL).set m.zo.toNat [C.sl 3 [] 1 0 r0.length false])[m.zo.toNat]?= some [C.sl 3 [] 1 0 r0.length false]:=List.getElem?_set_self (by simpa using hlt)
 have gx:(r0.map qY)[0]?= some (qY x):=by rw [List.getElem?_map,hx];rfl
 have hl0:0 < r0.length:=(List.getElem?_eq_some_iff.1 hx).1
 have hst:(r0.map qY).set 0 [U (IntKind.u64.wrap (x+1))]=(r0.set 0 (IntKind.u64.wrap (x+1))).map qY:=by rw [List.map_set];rfl
 have own:∀ r ∈ (w.counts.map zL).set m.zo.toNat [C.sl 3 [] 1 0 r0.length false],∀ c ∈ r,zy c=true:=zx (enc:=zL) (fun _=>rfl) rfl _ _
 have low:∀ r ∈ (w.counts.map zL).set m.zo.toNat [C.sl 3 [] 1 0 r0.length false],∀ c ∈ r,qH 4 9 c=true:=zx (enc:=zL) (fun _=>rfl) rfl _ _
 refine qy (fn:=Tryz.f272) Tryz.func272 rfl (Nat.le_refl _) ?_;conv=>whnf
 refine .inl ⟨⟨false,[],[],[]⟩,by kernel_rfl,?_⟩;(conv=>whnf)
 refine ⟨h0,hlt,?_⟩
 refine dd ?_
 rw [e1]
 refine ⟨_,gt,(by show 0+1<=1;decide),?_⟩
 refine dd ?_
 refine ⟨by decide,hl0,?_⟩
 refine dd ?_
 refine ⟨_,gx,(by show 0+1<=1;decide),?_⟩
 refine dd ?_
 refine ⟨by decide,hl0,?_⟩
 refine dd ?_
 refine ⟨_,gx,rfl,?_⟩
 refine dd ?_
 have hst2:(r0.map qY).set (0+Int.toNat 0) [U (IntKind.u64.wrap (x+1))]=(r0.set 0 (IntKind.u64.wrap (x+1))).map qY:=hst
 rw [hst2]
 refine ⟨fun h1=>?_,fun h1=>?_⟩
 ·rw [if_pos (.inl (of_decide_eq_true h1))]
  refine dd ?_
  (repeat ((first | apply ya | apply yb);refine dd ?_))
  refine zT [1] [⟨1,28,8,[[I w.zu,I w.current,I w.lock,lI w.pins,lV w.zd,lL w.ze,.sl 2 [] 1 0 w.counts.length false,lR w.zt]],0⟩,⟨1,43,44,[zP ({ m with pc:=23 })],0⟩,⟨1,0,1,(w.counts.map zL).set m.zo.toNat [C.sl 3 [] 1 0 r0.length false],0⟩,⟨2,38,1,(r0.set 0 (IntKind.u64.wrap (x+1))).map qY,0⟩,⟨1,244,2,[[.ref 0 [] 8 0 0,.ref 1 [] 44 0 0]],0⟩,⟨1,81,23,[qB qC],0⟩] (rx:=Ce (evO { m with pc:=23 } 3 10 0)) (qJ { m with pc:=23 } 3 10 0) rfl rfl rfl rfl rfl (zb rfl (zb rfl (zb (zi own) rfl))) rfl rfl ?_;refine dd ?_
  exact ⟨.inl rfl,_,_,.refl _,rfl,zq.xW 4 (by (conv=>whnf);(repeat (refine ⟨rfl,?_⟩;(conv=>whnf)));exact trivial) rfl rfl rfl (zN rfl (zN rfl (zN (qh low) rfl))) rfl⟩
 ·refine dd ?_
  refine ⟨fun h2=>?_,fun h2=>?_⟩
  ·rw [if_pos (.inr (of_decide_eq_true h2))]
   refine dd ?_
   (repeat ((first | apply ya | apply yb);refine dd ?_))
   refine zT [1] [⟨1,28,8,[[I w.zu,I w.current,I w.lock,lI w.pins,lV w.zd,lL w.ze,.sl 2 [] 1 0 w.counts.length false,lR w.zt]],0⟩,⟨1,43,44,[zP ({ m with pc:=23 })],0⟩,⟨1,0,1,(w.counts.map zL).set m.zo.toNat [C.sl 3 [] 1 0 r0.length false],0⟩,⟨2,38,1,(r0.set 0 (IntKind.u64.wrap (x+1))).map qY,0⟩,⟨1,244,2,[[.ref 0 [] 8 0 0,.ref 1 [] 44 0 0]],0⟩,⟨1,81,23,[qB qC],0⟩] (rx:=Ce (evO { m with pc:=23 } 3 10 0)) (qJ { m with pc:=23 } 3 10 0) rfl rfl rfl rfl rfl (zb rfl (zb rfl (zb (zi own) rfl))) rfl rfl ?_;refine dd ?_
   exact ⟨.inl rfl,_,_,.refl _,rfl,zq.xW 4 (by (conv=>whnf);(repeat (refine ⟨rfl,?_⟩;(conv=>whnf)));exact trivial) rfl rfl rfl (zN rfl (zN rfl (zN (qh low) rfl))) rfl⟩
  ·rw [if_neg (fun h=>h.elim (of_decide_eq_false h1) (of_decide_eq_false h2))]
   refine dd ?_
   (repeat ((first | apply ya | apply yb);refine dd ?_))
   refine zT [1] [⟨1,28,8,[[I w.zu,I w.current,I w.lock,lI w.pins,lV w.zd,lL w.ze,.sl 2 [] 1 0 w.counts.length false,lR w.zt]],0⟩,⟨1,43,44,[zP ({ m with pc:=22 })],0⟩,⟨1,0,1,(w.counts.map zL).set m.zo.toNat [C.sl 3 [] 1 0 r0.length false],0⟩,⟨2,38,1,(r0.set 0 (IntKind.u64.wrap (x+1))).map qY,0⟩,⟨1,244,2,[[.ref 0 [] 8 0 0,.ref 1 [] 44 0 0]],0⟩,⟨1,81,23,[qB qC],0⟩] (rx:=Ce (evO { m with pc:=22 } 3 10 0)) (qJ { m with pc:=22 } 3 10 0) rfl rfl rfl rfl rfl (zb rfl (zb rfl (zb (zi own) rfl))) rfl rfl ?_;refine dd ?_
   exact ⟨.inl rfl,_,_,.refl _,rfl,zq.xW 4 (by (conv=>whnf);(repeat (refine ⟨rfl,?_⟩;(conv=>whnf)));exact trivial) rfl rfl rfl (zN rfl (zN rfl (zN (qh low) rfl))) rfl⟩
def zaS (n:Int):Int:=if n < 1∨5 < n then 0 else n
theorem yt (w:Wor) (m:Mac) (r0:List Int) (x k:Int) (hk:zaS m.answer.kind=k) (h0:0<=m.zo) (hr:w.counts[m.zo.toNat]?= some r0) (hx:r0[k.toNat]?= some x):
  zc Tryz.prog 271 [⟨1,28,8,[[I w.zu,I w.current,I w.lock,lI w.pins,lV w.zd,lL w.ze,.sl 2 [] 1 0 w.counts.length false,lR w.zt]],0⟩,⟨1,43,44,[zP (m)],0⟩,⟨1,0,1,(w.counts.map zL).set m.zo.toNat [C.sl 3 [] 1 0 r0.length false],0⟩,⟨2,38,1,(r0).map qY,0⟩] [.agg [.ref 0 [] 8 0 0,.ref 1 [] 44 0 0]] (Ce (evO m 3 10 k))
   [⟨1,28,8,[[I w.zu,I w.current,I w.lock,lI w.pins,lV w.zd,lL w.ze,.sl 2 [] 1 0 w.counts.length false,lR w.zt]],0⟩,⟨1,43,44,[zP ({ m with pc:=21 })],0⟩,⟨1,0,1,(w.counts.map zL).set m.zo.toNat [C.sl 3 [] 1 0 r0.length false],0⟩,⟨2,38,1,(r0.set k.toNat (IntKind.u64.wrap (x+1))).map qY,0⟩]:=by
 have e1:0+m.zo.toNat=m.zo.toNat:=Nat.zero_add _
 have k0:0<=k:=by rw [<- hk];unfold zaS;split <;> omega
 have k1:k.toNat < r0.length:=(List.getElem?_eq_some_iff.1 hx).1
 have hlt:m.zo.toNat < w.counts.length:=(List.getElem?_eq_some_iff.1 hr).1
 have gt:((w.counts.map zL).set m.zo.toNat [C.sl 3 [] 1 0 r0.length false])[m.zo.toNat]?= some [C.sl 3 [] 1 0 r0.length false]:=List.getElem?_set_self (by simpa using hlt)
 have gx:(r0.map qY)[0+k.toNat]?= some (qY x):=by rw [Nat.zero_add,List.getElem?_map,hx];rfl
 have hst:(r0.map qY).set (0+k.toNat) [U (IntKind.u64.wrap (x+1))]=(r0.set k.toNat (IntKind.u64.wrap (x+1))).map qY:=by rw [Nat.zero_add,List.map_set];rfl
 have own:∀ r ∈ (w.counts.map zL).set m.zo.toNat [C.sl 3 [] 1 0 r0.length false],∀ c ∈ r,zy c=true:=zx (enc:=zL) (fun _=>rfl) rfl _ _
 have low:∀ r ∈ (w.counts.map zL).set m.zo.toNat [C.sl 3 [] 1 0 r0.length false],∀ c ∈ r,qH 4 9 c=true:=zx (enc:=zL) (fun _=>rfl) rfl _ _
 refine qy (fn:=Tryz.f271) Tryz.func271 rfl (Nat.le_refl _) ?_;conv=>whnf
 refine ⟨fun h1=>?_,fun h1=>?_⟩
 ·obtain rfl:k=0:=by rw [<- hk];unfold zaS;rw [if_pos (.inl (of_decide_eq_true h1))]
  refine dd ?_
  (repeat ((first | apply ya | apply yb);refine dd ?_))
  refine .inl ⟨⟨false,[],[],[]⟩,by kernel_rfl,?_⟩;(conv=>whnf);(refine ⟨h0,hlt,?_⟩);refine dd ?_;(rw [e1]);(refine ⟨_,gt,(by show 0+1<=1;decide),?_⟩);refine dd ?_;(refine ⟨k0,k1,?_⟩);refine dd ?_;(refine ⟨_,gx,(by show 0+1<=1;decide),?_⟩);refine dd ?_;(refine ⟨k0,k1,?_⟩);refine dd ?_;(refine ⟨_,gx,rfl,?_⟩);refine dd ?_;(rw [hst]);(refine zT [1] [⟨1,28,8,[[I w.zu,I w.current,I w.lock,lI w.pins,lV w.zd,lL w.ze,.sl 2 [] 1 0 w.counts.length false,lR w.zt]],0⟩,⟨1,43,44,[zP ({ m with pc:=21 })],0⟩,⟨1,0,1,(w.counts.map zL).set m.zo.toNat [C.sl 3 [] 1 0 r0.length false],0⟩,⟨2,38,1,(r0.set ((0:Int)).toNat (IntKind.u64.wrap (x+1))).map qY,0⟩,⟨1,244,2,[[.ref 0 [] 8 0 0,.ref 1 [] 44 0 0]],0⟩,⟨1,81,23,[qB qC],0⟩] (rx:=Ce (evO { m with pc:=21 } 3 10 ((0:Int)))) (qJ { m with pc:=21 } 3 10 ((0:Int))) rfl rfl rfl rfl rfl (zb rfl (zb rfl (zb (zi own) rfl))) rfl rfl ?_);refine dd ?_;exact ⟨.inl rfl,_,_,.refl _,rfl,zq.xW 4 (by (conv=>whnf);(repeat (refine ⟨rfl,?_⟩;(conv=>whnf)));exact trivial) rfl rfl rfl (zN rfl (zN rfl (zN (qh low) rfl))) rfl⟩
 ·refine dd ?_
  (repeat ((first | apply ya | apply yb);refine dd ?_))
  refine ⟨fun h2=>?_,fun h2=>?_⟩
  ·obtain rfl:k=0:=by rw [<- hk];unfold zaS;rw [if_pos (.inr (of_decide_eq_true h2))]
   refine dd ?_
   (repeat ((first | apply ya | apply yb);refine dd ?_))
   refine .inl ⟨⟨false,[],[],[]⟩,by kernel_rfl,?_⟩;(conv=>whnf);(refine ⟨h0,hlt,?_⟩);refine dd ?_;(rw [e1]);(refine ⟨_,gt,(by show 0+1<=1;decide),?_⟩);refine dd ?_;(refine ⟨k0,k1,?_⟩);refine dd ?_;(refine ⟨_,gx,(by show 0+1<=1;decide),?_⟩);refine dd ?_;(refine ⟨k0,k1,?_⟩);refine dd ?_;(refine ⟨_,gx,rfl,?_⟩);refine dd ?_;(rw [hst]);(refine zT [1] [⟨1,28,8,[[I w.zu,I w.current,I w.lock,lI w.pins,lV w.zd,lL w.ze,.sl 2 [] 1 0 w.counts.length false,lR w.zt]],0⟩,⟨1,43,44,[zP ({ m with pc:=21 })],0⟩,⟨1,0,1,(w.counts.map zL).set m.zo.toNat [C.sl 3 [] 1 0 r0.length false],0⟩,⟨2,38,1,(r0.set ((0:Int)).toNat (IntKind.u64.wrap (x+1))).map qY,0⟩,⟨1,244,2,[[.ref 0 [] 8 0 0,.ref 1 [] 44 0 0]],0⟩,⟨1,81,23,[qB qC],0⟩] (rx:=Ce (evO { m with pc:=21 } 3 10 ((0:Int)))) (qJ { m with pc:=21 } 3 10 ((0:Int))) rfl rfl rfl rfl rfl (zb rfl (zb rfl (zb (zi own) rfl))) rfl rfl ?_);refine dd ?_;exact ⟨.inl rfl,_,_,.refl _,rfl,zq.xW 4 (by (conv=>whnf);(repeat (refine ⟨rfl,?_⟩;(conv=>whnf)));exact trivial) rfl rfl rfl (zN rfl (zN rfl (zN (qh low) rfl))) rfl⟩
  ·obtain rfl:k=m.answer.kind:=by rw [<- hk];unfold zaS;rw [if_neg (fun h=>h.elim (of_decide_eq_false h1) (of_decide_eq_false h2))]
   refine dd ?_
   (repeat ((first | apply ya | apply yb);refine dd ?_))
   refine .inl ⟨⟨false,[],[],[]⟩,by kernel_rfl,?_⟩;(conv=>whnf);(refine ⟨h0,hlt,?_⟩);refine dd ?_;(rw [e1]);(refine ⟨_,gt,(by show 0+1<=1;decide),?_⟩);refine dd ?_;(refine ⟨k0,k1,?_⟩);refine dd ?_;(refine ⟨_,gx,(by show 0+1<=1;decide),?_⟩);refine dd ?_;(refine ⟨k0,k1,?_⟩);refine dd ?_;(refine ⟨_,gx,rfl,?_⟩);refine dd ?_;(rw [hst]);(refine zT [1] [⟨1,28,8,[[I w.zu,I w.current,I w.lock,lI w.pins,lV w.zd,lL w.ze,.sl 2 [] 1 0 w.counts.length false,lR w.zt]],0⟩,⟨1,43,44,[zP ({ m with pc:=21 })],0⟩,⟨1,0,1,(w.counts.map zL).set m.zo.toNat [C.sl 3 [] 1 0 r0.length false],0⟩,⟨2,38,1,(r0.set (m.answer.kind).toNat (IntKind.u64.wrap (x+1))).map qY,0⟩,⟨1,244,2,[[.ref 0 [] 8 0 0,.ref 1 [] 44 0 0]],0⟩,⟨1,81,23,[qB qC],0⟩] (rx:=Ce (evO { m with pc:=21 } 3 10 (m.answer.kind))) (qJ { m with pc:=21 } 3 10 (m.answer.kind)) rfl rfl rfl rfl rfl (zb rfl (zb rfl (zb (zi own) rfl))) rfl rfl ?_);refine dd ?_;exact ⟨.inl rfl,_,_,.refl _,rfl,zq.xW 4 (by (conv=>whnf);(repeat (refine ⟨rfl,?_⟩;(conv=>whnf)));exact trivial) rfl rfl rfl (zN rfl (zN rfl (zN (qh low) rfl))) rfl⟩
end Go.Wor
namespace Go.Wor
open Go.Ab Go.Proofs Go.Hy Go.Gat Go.Nam Go.Hos Go.Con Go.Sna
theorem yg {P:Program} {o:Oper} {σ:Operand->Value} {t t':TypeId} {x y:Operand} {k:IntKind} {n m:Int} (ho:o.op=.binOp .rem t x y t') (hx:σ x=.int k n) (hy:σ y=.int k m) (hm:m≠0):
  zao P (execOp σ o)=some (.value (.int k (n.tmod m))):=by
 have hi:Op.intDiv .rem k n m=pure (.int k (n.tmod m)):=by unfold Op.intDiv;rw [if_neg hm]
 have hg:eqGuard .rem t x y (σ x) (σ y)=pure ():=rfl
 have hb:binOp .rem t (σ x) (σ y)=pure (.int k (n.tmod m)):=by
  rw [hx,hy]
  simp only [binOp,hi]
  exact if_neg (by simp)
 unfold execOp
 rw [ho]
 dsimp only
 rw [hg,hb]
 rfl
theorem zos {n:Int} (h:0<=n) (h':n < 18446744073709551616):IntKind.u64.wrap n=n:=by
 simp only [IntKind.wrap,IntKind.signed,IntKind.bits,Bool.false_and,Bool.false_eq_true,if_false]
 omega
abbrev hlt (c:Clu):List Int:=kF c.zM c.zM.length
def vU (c:Clu) (n:Int):Int × Int:=if (hlt c).length=0 then (0,5) else (((hlt c)[(n % (hlt c).length).toNat]?).getD 0,0)
theorem zit (c:Clu) (n:Int) (hn:u64 n) (hl:c.zM.length < 1000000000000) (hh:(hlt c).length<=c.zM.length):zc Tryz.prog 308 [] [Cc c,U n] (.tup [I (vU c n).1,I (vU c n).2]) []:=by
 have ml:((hlt c).map encI).length=(hlt c).length:=List.length_map ..
 refine zc.zr (fn:=Tryz.f308) Tryz.func308 rfl ?_
 conv=>whnf
 refine ⟨_,_,(vH c hl).frame rfl _,?_⟩;refine dd ?_
 rw [ml]
 refine ⟨fun h0=>?_,fun h0=>?_⟩
 ·unfold vU
  have h0:=of_decide_eq_true h0
  rw [if_pos (by omega)]
  exact ⟨.inl rfl,_,.refl _,rfl⟩
 ·unfold vU
  have h0:=of_decide_eq_false h0
  rw [if_neg (by omega)]
  refine dd ?_
  have hw:IntKind.u64.wrap ((((hlt c).map encI).length:Nat):Int)≠0:=by
   have hk:=ml
   have:IntKind.u64.wrap ((((hlt c).map encI).length:Nat):Int)=(hlt c).length:=by rw [ml];exact zos (by omega) (by omega)
   omega
  split
  rotate_left
  ·rename_i hno
   exact (hno _ (yg rfl rfl rfl hw)).elim
  ·rename_i v e
   have e':=e.symm.trans (yg rfl rfl rfl hw)
   cases e'
   refine dd ?_
   have ew:IntKind.u64.wrap ((((hlt c).map encI).length:Nat):Int)=(hlt c).length:=by rw [ml];exact zos (by omega) (by omega)
   have et:n.tmod (IntKind.u64.wrap ((((hlt c).map encI).length:Nat):Int))=n % (hlt c).length:=by rw [ew];exact Int.tmod_eq_emod_of_nonneg hn.1
   have b0:0<=n % ((hlt c).length:Int):=Int.emod_nonneg _ h0
   have b1:n % ((hlt c).length:Int) < (hlt c).length:=Int.emod_lt_of_pos _ (by omega)
   have hi:(n % ((hlt c).length:Int)).toNat < (hlt c).length:=by omega
   have gx:((hlt c).map encI)[(n.tmod (IntKind.u64.wrap ((((hlt c).map encI).length:Nat):Int))).toNat]?= some (encI ((hlt c)[(n % ((hlt c).length:Int)).toNat]'hi)):=by rw [et,List.getElem?_map,List.getElem?_eq_getElem hi];rfl
   refine ⟨by show 0<=n.tmod (IntKind.u64.wrap ((((hlt c).map encI).length:Nat):Int));rw [et];exact b0,_,gx,?_⟩
   refine dd ?_
   rw [List.getElem?_eq_getElem hi]
   exact ⟨.inl rfl,_,.refl _,rfl⟩
theorem zhX (a x b y:Int):zc Tryz.prog 312 [] [I a,I x,I b,I y] (I (if y < x then b else a)) []:=by
 refine zc.zr (fn:=Tryz.f312) Tryz.func312 rfl ?_
 conv=>whnf
 refine ⟨fun h=>?_,fun h=>?_⟩
 ·rw [if_pos (of_decide_eq_true h)]
  refine dd ?_
  exact ⟨.inl rfl,_,.refl _,rfl⟩
 ·rw [if_neg (of_decide_eq_false h)]
  refine dd ?_
  exact ⟨.inl rfl,_,.refl _,rfl⟩
theorem zaW (w:Wor) (m:Mac) (v:Ver) (g:Gr) (e:En) (hv:AtG w m v g) (o0:0<=m.other) (ho:g.ends[m.other.toNat]?= some e):
  zc Tryz.prog 266 [⟨1,28,8,[z5 w],0⟩,⟨1,43,44,[zP (m)],0⟩] [.agg [.ref 0 [] 8 0 0,.ref 1 [] 44 0 0]] (Ce (evV m v 1 7 e.zj)) [⟨1,28,8,[z5 w],0⟩,⟨1,43,44,[zP ({ m with end_:=if e.zj < m.i then m.other else m.end_,pc:=9 })],0⟩]:=by
 have er:(g.ends.map zn)[m.other.toNat]?= some (zn e):=by rw [List.getElem?_map,ho];rfl
 refine qy (fn:=Tryz.f266) Tryz.func266 rfl (Nat.le_refl _) ?_;conv=>whnf
 refine .inl ⟨⟨true,[],[],[1]⟩,by kernel_rfl,?_⟩;(conv=>whnf)
 refine zG [0,1] (zb0 w m v g hv) rfl rfl rfl rfl rfl rfl ?_;refine dd ?_
 repeat (refine ⟨rfl,?_⟩;conv=>whnf)
 (refine ⟨o0,_,er,?_⟩);refine dd ?_
 refine .inl ⟨⟨true,[],[],[15]⟩,by kernel_rfl,?_⟩;(conv=>whnf)
 refine ⟨_,_,(zhX m.end_ m.i m.other e.zj).frame rfl _,?_⟩;refine dd ?_
 repeat (refine ⟨rfl,?_⟩;conv=>whnf)
 refine zG [0,1] (yM w { m with end_:=if e.zj < m.i then m.other else m.end_,pc:=9 } v ⟨hv.v0,hv.at_⟩ 1 7 e.zj) rfl rfl rfl rfl rfl rfl ?_;refine dd ?_
 exact ⟨.inl rfl,_,_,.refl _,rfl,cE 2⟩
end Go.Wor
namespace Go.Wor
open Go.Ab Go.Proofs Go.Hy Go.Gat Go.Nam Go.Hos Go.Con Go.Sna
structure LnE (w:Wor) (m:Mac) (v0:Ver) (g0:Gr):Prop where
 pv:0<=m.version
 lv:m.version.toNat < w.zd.length
 pg:0<=m.zg
 lg:m.zg.toNat < v0.zf.length
 pe:0<=m.end_
 le:m.end_.toNat < g0.ends.length
theorem AtE.ln {w:Wor} {m:Mac} {v0:Ver} {g0:Gr} {e0:En} (h:AtE w m v0 g0 e0):LnE w m v0 g0:=⟨h.v0,(List.getElem?_eq_some_iff.1 h.at_).1,h.g0,(List.getElem?_eq_some_iff.1 h.atg).1,h.e0,(List.getElem?_eq_some_iff.1 h.ate).1⟩
theorem zay {P:Program} {f:FuncId} (sel:List Nat) (Kx:zk) {K H0 H':zk} {args args0:List C} {r rx:C} (h:zc P f H0 args0 r H') (hR:qo H'=true)
  (hH:jC sel K=H0) (ha:args.map (j7 sel 9)=args0) (zX:sel.all (fun id=>Nat.blt id K.length)=true) (hnd:j6 sel=true) (hfl:qo K=true) {k:C->zk->Prop}
  (hp:y5 sel K H'=Kx) (hr:xO (qI sel K.length) 9 r=rx) (hk:k rx Kx):∃ R,qt P f K args R∧∀ r H2,R r H2->k r H2:=
 ⟨fun x X=>x=rx∧X=Kx,(h.part sel hR hH ha zX hnd hfl).toR ⟨hr,hp⟩,by rintro _ _ ⟨rfl,rfl⟩;exact hk⟩
theorem kg (w:Wor) (m:Mac) (v0:Ver) (g0:Gr) (e0:En) (hv:LnE w m v0 g0):zc Tryz.prog 307 [⟨1,28,8,[[I w.zu,I w.current,I w.lock,lI w.pins,.sl 2 [] 5 0 w.zd.length false,lL w.ze,lCo w.counts,lR w.zt]],0⟩,⟨1,43,44,[zP (m)],0⟩,⟨1,0,5,(w.zd.map zw).set m.version.toNat ((zJ v0.snap++[C.sl 3 [] 2 0 v0.zf.length false,Bo v0.zC])),0⟩,⟨1,0,2,(v0.zf.map zp).set m.zg.toNat ([U g0.zl,C.sl 4 [] 3 0 g0.ends.length false]),0⟩,⟨1,0,3,(g0.ends.map zn).set m.end_.toNat ([U e0.head,C.sl 5 [] 1 0 e0.next.length false,I e0.zj]),0⟩,⟨2,3,1,e0.next.map encI,0⟩] [.agg [.ref 0 [] 8 0 0,.ref 1 [] 44 0 0]] (.ref 3 [] 2 m.zg.toNat 0) [⟨1,28,8,[[I w.zu,I w.current,I w.lock,lI w.pins,.sl 2 [] 5 0 w.zd.length false,lL w.ze,lCo w.counts,lR w.zt]],0⟩,⟨1,43,44,[zP (m)],0⟩,⟨1,0,5,(w.zd.map zw).set m.version.toNat ((zJ v0.snap++[C.sl 3 [] 2 0 v0.zf.length false,Bo v0.zC])),0⟩,⟨1,0,2,(v0.zf.map zp).set m.zg.toNat ([U g0.zl,C.sl 4 [] 3 0 g0.ends.length false]),0⟩,⟨1,0,3,(g0.ends.map zn).set m.end_.toNat ([U e0.head,C.sl 5 [] 1 0 e0.next.length false,I e0.zj]),0⟩,⟨2,3,1,e0.next.map encI,0⟩]:=by
 have h0:=hv.pv
 have g0':=hv.pg
 have lv:m.version.toNat < w.zd.length:=hv.lv
 have lg:m.zg.toNat < v0.zf.length:=hv.lg
 have lowV:∀ r ∈ (w.zd.map zw).set m.version.toNat ((zJ v0.snap++[C.sl 3 [] 2 0 v0.zf.length false,Bo v0.zC])),∀ c ∈ r,qH 6 9 c=true:=zx (enc:=zw) (fun _=>rfl) rfl _ _
 have lowG:∀ r ∈ (v0.zf.map zp).set m.zg.toNat ([U g0.zl,C.sl 4 [] 3 0 g0.ends.length false]),∀ c ∈ r,qH 6 9 c=true:=zx (enc:=zp) (fun _=>rfl) rfl _ _
 have lowE:∀ r ∈ (g0.ends.map zn).set m.end_.toNat ([U e0.head,C.sl 5 [] 1 0 e0.next.length false,I e0.zj]),∀ c ∈ r,qH 6 9 c=true:=zx (enc:=zn) (fun _=>rfl) rfl _ _
 have e1:0+m.version.toNat=m.version.toNat:=Nat.zero_add _
 have e2:0+m.zg.toNat=m.zg.toNat:=Nat.zero_add _
 have gv:((w.zd.map zw).set m.version.toNat ((zJ v0.snap++[C.sl 3 [] 2 0 v0.zf.length false,Bo v0.zC])))[m.version.toNat]?= some ((zJ v0.snap++[C.sl 3 [] 2 0 v0.zf.length false,Bo v0.zC])):=List.getElem?_set_self (by simpa using lv)
 refine qy (fn:=Tryz.f307) Tryz.func307 rfl (Nat.le_refl _) ?_;conv=>whnf
 refine .inl ⟨⟨false,[],[],[]⟩,by kernel_rfl,?_⟩;(conv=>whnf)
 refine ⟨h0,lv,?_⟩
 refine dd ?_
 rw [e1]
 refine ⟨_,gv,(by show 3+1<=5;decide),?_⟩
 refine dd ?_
 refine ⟨g0',lg,?_⟩
 refine dd ?_
 rw [e2]
 exact ⟨.inl rfl,_,_,.refl _,rfl,zq.xW 6 (by (conv=>whnf);(repeat (refine ⟨rfl,?_⟩;(conv=>whnf)));exact trivial) rfl rfl rfl (zN rfl (zN rfl (zN (qh lowV) (zN (qh lowG) (zN (qh lowE) rfl))))) rfl⟩
theorem xX (w:Wor) (m:Mac) (v0:Ver) (g0:Gr) (e0:En) (hv:LnE w m v0 g0):zc Tryz.prog 311 [⟨1,28,8,[[I w.zu,I w.current,I w.lock,lI w.pins,.sl 2 [] 5 0 w.zd.length false,lL w.ze,lCo w.counts,lR w.zt]],0⟩,⟨1,43,44,[zP (m)],0⟩,⟨1,0,5,(w.zd.map zw).set m.version.toNat ((zJ v0.snap++[C.sl 3 [] 2 0 v0.zf.length false,Bo v0.zC])),0⟩,⟨1,0,2,(v0.zf.map zp).set m.zg.toNat ([U g0.zl,C.sl 4 [] 3 0 g0.ends.length false]),0⟩,⟨1,0,3,(g0.ends.map zn).set m.end_.toNat ([U e0.head,C.sl 5 [] 1 0 e0.next.length false,I e0.zj]),0⟩,⟨2,3,1,e0.next.map encI,0⟩] [.agg [.ref 0 [] 8 0 0,.ref 1 [] 44 0 0]] (.ref 4 [] 3 m.end_.toNat 0) [⟨1,28,8,[[I w.zu,I w.current,I w.lock,lI w.pins,.sl 2 [] 5 0 w.zd.length false,lL w.ze,lCo w.counts,lR w.zt]],0⟩,⟨1,43,44,[zP (m)],0⟩,⟨1,0,5,(w.zd.map zw).set m.version.toNat ((zJ v0.snap++[C.sl 3 [] 2 0 v0.zf.length false,Bo v0.zC])),0⟩,⟨1,0,2,(v0.zf.map zp).set m.zg.toNat ([U g0.zl,C.sl 4 [] 3 0 g0.ends.length false]),0⟩,⟨1,0,3,(g0.ends.map zn).set m.end_.toNat ([U e0.head,C.sl 5 [] 1 0 e0.next.length false,I e0.zj]),0⟩,⟨2,3,1,e0.next.map encI,0⟩]:=by
 have h0:=hv.pe
 have lg:m.zg.toNat < v0.zf.length:=hv.lg
 have le:m.end_.toNat < g0.ends.length:=hv.le
 have ownV:∀ r ∈ (w.zd.map zw).set m.version.toNat ((zJ v0.snap++[C.sl 3 [] 2 0 v0.zf.length false,Bo v0.zC])),∀ c ∈ r,zy c=true:=zx (enc:=zw) (fun _=>rfl) rfl _ _
 have ownG:∀ r ∈ (v0.zf.map zp).set m.zg.toNat ([U g0.zl,C.sl 4 [] 3 0 g0.ends.length false]),∀ c ∈ r,zy c=true:=zx (enc:=zp) (fun _=>rfl) rfl _ _
 have ownE:∀ r ∈ (g0.ends.map zn).set m.end_.toNat ([U e0.head,C.sl 5 [] 1 0 e0.next.length false,I e0.zj]),∀ c ∈ r,zy c=true:=zx (enc:=zn) (fun _=>rfl) rfl _ _
 have lowV:∀ r ∈ (w.zd.map zw).set m.version.toNat ((zJ v0.snap++[C.sl 3 [] 2 0 v0.zf.length false,Bo v0.zC])),∀ c ∈ r,qH 6 9 c=true:=zx (enc:=zw) (fun _=>rfl) rfl _ _
 have lowG:∀ r ∈ (v0.zf.map zp).set m.zg.toNat ([U g0.zl,C.sl 4 [] 3 0 g0.ends.length false]),∀ c ∈ r,qH 6 9 c=true:=zx (enc:=zp) (fun _=>rfl) rfl _ _
 have lowE:∀ r ∈ (g0.ends.map zn).set m.end_.toNat ([U e0.head,C.sl 5 [] 1 0 e0.next.length false,I e0.zj]),∀ c ∈ r,qH 6 9 c=true:=zx (enc:=zn) (fun _=>rfl) rfl _ _
 have e2:0+m.end_.toNat=m.end_.toNat:=Nat.zero_add _
 have gg:((v0.zf.map zp).set m.zg.toNat ([U g0.zl,C.sl 4 [] 3 0 g0.ends.length false]))[m.zg.toNat]?= some ([U g0.zl,C.sl 4 [] 3 0 g0.ends.length false]):=List.getElem?_set_self (by simpa using lg)
 refine qy (fn:=Tryz.f311) Tryz.func311 rfl (Nat.le_refl _) ?_;conv=>whnf
 refine .inl ⟨⟨true,[],[],[1]⟩,by kernel_rfl,?_⟩;(conv=>whnf)
 refine zT [0,1,2,3,4,5] [⟨1,28,8,[[I w.zu,I w.current,I w.lock,lI w.pins,.sl 2 [] 5 0 w.zd.length false,lL w.ze,lCo w.counts,lR w.zt]],0⟩,⟨1,43,44,[zP (m)],0⟩,⟨1,0,5,(w.zd.map zw).set m.version.toNat ((zJ v0.snap++[C.sl 3 [] 2 0 v0.zf.length false,Bo v0.zC])),0⟩,⟨1,0,2,(v0.zf.map zp).set m.zg.toNat ([U g0.zl,C.sl 4 [] 3 0 g0.ends.length false]),0⟩,⟨1,0,3,(g0.ends.map zn).set m.end_.toNat ([U e0.head,C.sl 5 [] 1 0 e0.next.length false,I e0.zj]),0⟩,⟨2,3,1,e0.next.map encI,0⟩,⟨1,244,2,[[.ref 0 [] 8 0 0,.ref 1 [] 44 0 0]],0⟩] (rx:=.ref 3 [] 2 m.zg.toNat 0) (kg w m v0 g0 e0 hv) (zb rfl (zb rfl (zb (zi ownV) (zb (zi ownG) (zb (zi ownE) rfl))))) (by (show zI _ _::zI _ _::zI _ ⟨1,0,5,_,0⟩::zI _ ⟨1,0,2,_,0⟩::zI _ ⟨1,0,3,_,0⟩::_=_);(rw [zE (enc:=zw) (fun _=>rfl),zE (enc:=zp) (fun _=>rfl),zE (enc:=zn) (fun _=>rfl)]);rfl) rfl rfl rfl (zb rfl (zb rfl (zb (zi ownV) (zb (zi ownG) (zb (zi ownE) rfl))))) (by (show zF _ _::zF _ _::zF _ ⟨1,0,5,_,0⟩::zF _ ⟨1,0,2,_,0⟩::zF _ ⟨1,0,3,_,0⟩::_=_);(rw [zA (enc:=zw) (fun _=>rfl),zA (enc:=zp) (fun _=>rfl),zA (enc:=zn) (fun _=>rfl)]);rfl) rfl ?_
 refine dd ?_
 refine ⟨_,gg,(by show 1+1<=2;decide),?_⟩
 refine dd ?_
 refine ⟨h0,le,?_⟩
 refine dd ?_
 rw [e2]
 exact ⟨.inl rfl,_,_,.refl _,rfl,zq.xW 6 (by (conv=>whnf);(repeat (refine ⟨rfl,?_⟩;(conv=>whnf)));exact trivial) rfl rfl rfl (zN rfl (zN rfl (zN (qh lowV) (zN (qh lowG) (zN (qh lowE) rfl))))) rfl⟩
theorem zia (w:Wor) (m:Mac) (v0:Ver) (g0:Gr) (e0:En) (hv:LnE w m v0 g0) (a b c:Int):zc Tryz.prog 310 [⟨1,28,8,[[I w.zu,I w.current,I w.lock,lI w.pins,.sl 2 [] 5 0 w.zd.length false,lL w.ze,lCo w.counts,lR w.zt]],0⟩,⟨1,43,44,[zP (m)],0⟩,⟨1,0,5,(w.zd.map zw).set m.version.toNat ((zJ v0.snap++[C.sl 3 [] 2 0 v0.zf.length false,Bo v0.zC])),0⟩,⟨1,0,2,(v0.zf.map zp).set m.zg.toNat ([U g0.zl,C.sl 4 [] 3 0 g0.ends.length false]),0⟩,⟨1,0,3,(g0.ends.map zn).set m.end_.toNat ([U e0.head,C.sl 5 [] 1 0 e0.next.length false,I e0.zj]),0⟩,⟨2,3,1,e0.next.map encI,0⟩] [.agg [.ref 0 [] 8 0 0,.ref 1 [] 44 0 0],I a,I b,I c] (Ce (evV m v0 a b c)) [⟨1,28,8,[[I w.zu,I w.current,I w.lock,lI w.pins,.sl 2 [] 5 0 w.zd.length false,lL w.ze,lCo w.counts,lR w.zt]],0⟩,⟨1,43,44,[zP (m)],0⟩,⟨1,0,5,(w.zd.map zw).set m.version.toNat ((zJ v0.snap++[C.sl 3 [] 2 0 v0.zf.length false,Bo v0.zC])),0⟩,⟨1,0,2,(v0.zf.map zp).set m.zg.toNat ([U g0.zl,C.sl 4 [] 3 0 g0.ends.length false]),0⟩,⟨1,0,3,(g0.ends.map zn).set m.end_.toNat ([U e0.head,C.sl 5 [] 1 0 e0.next.length false,I e0.zj]),0⟩,⟨2,3,1,e0.next.map encI,0⟩]:=by
 have h0:=hv.pv
 have lv:m.version.toNat < w.zd.length:=hv.lv
 have e1:0+m.version.toNat=m.version.toNat:=Nat.zero_add _
 clear hv
 obtain ⟨sn,gs,fr⟩:=v0
 cases fr
 all_goals
  have ownV:∀ b,∀ r ∈ (w.zd.map zw).set m.version.toNat (zJ sn++[C.sl 3 [] 2 0 gs.length false,Bo b]),∀ c ∈ r,zy c=true:=fun b=>zx (enc:=zw) (fun _=>rfl) rfl _ _
  have ownG:∀ r ∈ (gs.map zp).set m.zg.toNat ([U g0.zl,C.sl 4 [] 3 0 g0.ends.length false]),∀ c ∈ r,zy c=true:=zx (enc:=zp) (fun _=>rfl) rfl _ _
  have ownE:∀ r ∈ (g0.ends.map zn).set m.end_.toNat ([U e0.head,C.sl 5 [] 1 0 e0.next.length false,I e0.zj]),∀ c ∈ r,zy c=true:=zx (enc:=zn) (fun _=>rfl) rfl _ _
  have lowV:∀ b,∀ r ∈ (w.zd.map zw).set m.version.toNat (zJ sn++[C.sl 3 [] 2 0 gs.length false,Bo b]),∀ c ∈ r,qH 6 9 c=true:=fun b=>zx (enc:=zw) (fun _=>rfl) rfl _ _
  have gv:∀ b,((w.zd.map zw).set m.version.toNat (zJ sn++[C.sl 3 [] 2 0 gs.length false,Bo b]))[m.version.toNat]?= some (zJ sn++[C.sl 3 [] 2 0 gs.length false,Bo b]):=fun b=>List.getElem?_set_self (by simpa using lv)
  have lowG:∀ r ∈ (gs.map zp).set m.zg.toNat ([U g0.zl,C.sl 4 [] 3 0 g0.ends.length false]),∀ c ∈ r,qH 6 9 c=true:=zx (enc:=zp) (fun _=>rfl) rfl _ _
  have lowE:∀ r ∈ (g0.ends.map zn).set m.end_.toNat ([U e0.head,C.sl 5 [] 1 0 e0.next.length false,I e0.zj]),∀ c ∈ r,qH 6 9 c=true:=zx (enc:=zn) (fun _=>rfl) rfl _ _
  refine qy (fn:=Tryz.f310) Tryz.func310 rfl (Nat.le_refl _) ?_;conv=>whnf
  refine zT [1] [⟨1,28,8,[[I w.zu,I w.current,I w.lock,lI w.pins,.sl 2 [] 5 0 w.zd.length false,lL w.ze,lCo w.counts,lR w.zt]],0⟩,⟨1,43,44,[zP (m)],0⟩,⟨1,0,5,(w.zd.map zw).set m.version.toNat (zJ sn++[C.sl 3 [] 2 0 gs.length false,Bo _]),0⟩,⟨1,0,2,(gs.map zp).set m.zg.toNat ([U g0.zl,C.sl 4 [] 3 0 g0.ends.length false]),0⟩,⟨1,0,3,(g0.ends.map zn).set m.end_.toNat ([U e0.head,C.sl 5 [] 1 0 e0.next.length false,I e0.zj]),0⟩,⟨2,3,1,e0.next.map encI,0⟩,⟨1,244,2,[[.ref 0 [] 8 0 0,.ref 1 [] 44 0 0]],0⟩,⟨1,81,23,[qB qC],0⟩] (rx:=Ce (evO m a b c)) (qJ m a b c) rfl rfl rfl rfl rfl (zb rfl (zb rfl (zb (zi (ownV _)) (zb (zi ownG) (zb (zi ownE) rfl))))) rfl rfl ?_
  refine dd ?_
  refine .inl ⟨⟨false,[6,9,11,14,17],[0,1,2,6],[]⟩,by kernel_rfl,?_⟩;(conv=>whnf)
  refine ⟨h0,lv,?_⟩
  refine dd ?_
  rw [e1]
  refine ⟨_,gv _,(by show 4+1<=5;decide),?_⟩
  refine dd ?_
  first | ((refine ⟨fun _=>?_,fun h=>absurd (h.symm.trans rfl:false=true) (by decide)⟩);refine dd ?_) | ((refine ⟨fun h=>absurd (h.symm.trans rfl:true=false) (by decide),fun _=>?_⟩);refine dd ?_)
  repeat (refine ⟨rfl,?_⟩;conv=>whnf)
  exact ⟨.inl rfl,_,_,.refl _,rfl,zq.xW 6 (by (conv=>whnf);(repeat (refine ⟨rfl,?_⟩;(conv=>whnf)));exact trivial) rfl rfl rfl (zN rfl (zN rfl (zN (qh (lowV _)) (zN (qh lowG) (zN (qh lowE) rfl))))) rfl⟩
abbrev znU (e:En) (n:Int):En:={ e with zj:=IntKind.i64.wrap (e.zj+n) }
theorem vW (w:Wor) (m:Mac) (v0:Ver) (g0:Gr) (e0:En) (hv:LnE w m v0 g0):zc Tryz.prog 270 [⟨1,28,8,[[I w.zu,I w.current,I w.lock,lI w.pins,.sl 2 [] 5 0 w.zd.length false,lL w.ze,lCo w.counts,lR w.zt]],0⟩,⟨1,43,44,[zP (m)],0⟩,⟨1,0,5,(w.zd.map zw).set m.version.toNat ((zJ v0.snap++[C.sl 3 [] 2 0 v0.zf.length false,Bo v0.zC])),0⟩,⟨1,0,2,(v0.zf.map zp).set m.zg.toNat ([U g0.zl,C.sl 4 [] 3 0 g0.ends.length false]),0⟩,⟨1,0,3,(g0.ends.map zn).set m.end_.toNat ([U e0.head,C.sl 5 [] 1 0 e0.next.length false,I e0.zj]),0⟩,⟨2,3,1,e0.next.map encI,0⟩] [.agg [.ref 0 [] 8 0 0,.ref 1 [] 44 0 0]] (Ce (evV m v0 3 7 (IntKind.i64.wrap (e0.zj+1))))
  [⟨1,28,8,[[I w.zu,I w.current,I w.lock,lI w.pins,.sl 2 [] 5 0 w.zd.length false,lL w.ze,lCo w.counts,lR w.zt]],0⟩,⟨1,43,44,[zP ({ m with answer:=⟨1,m.version,m.zg,m.end_,m.slot,m.listen,0,⟨0,0,0,0,0,0⟩⟩,pc:=20 })],0⟩,⟨1,0,5,(w.zd.map zw).set m.version.toNat ((zJ v0.snap++[C.sl 3 [] 2 0 v0.zf.length false,Bo v0.zC])),0⟩,⟨1,0,2,(v0.zf.map zp).set m.zg.toNat ([U g0.zl,C.sl 4 [] 3 0 g0.ends.length false]),0⟩,⟨1,0,3,(g0.ends.map zn).set m.end_.toNat [U e0.head,C.sl 5 [] 1 0 e0.next.length false,I (IntKind.i64.wrap (e0.zj+1))],0⟩,⟨2,3,1,e0.next.map encI,0⟩]:=by
 have le:=hv.le
 have ownV:∀ r ∈ (w.zd.map zw).set m.version.toNat ((zJ v0.snap++[C.sl 3 [] 2 0 v0.zf.length false,Bo v0.zC])),∀ c ∈ r,zy c=true:=zx (enc:=zw) (fun _=>rfl) rfl _ _
 have ownG:∀ r ∈ (v0.zf.map zp).set m.zg.toNat ([U g0.zl,C.sl 4 [] 3 0 g0.ends.length false]),∀ c ∈ r,zy c=true:=zx (enc:=zp) (fun _=>rfl) rfl _ _
 have ownE:∀ r ∈ (g0.ends.map zn).set m.end_.toNat ([U e0.head,C.sl 5 [] 1 0 e0.next.length false,I e0.zj]),∀ c ∈ r,zy c=true:=zx (enc:=zn) (fun _=>rfl) rfl _ _
 have ge:((g0.ends.map zn).set m.end_.toNat ([U e0.head,C.sl 5 [] 1 0 e0.next.length false,I e0.zj]))[m.end_.toNat]?= some ([U e0.head,C.sl 5 [] 1 0 e0.next.length false,I e0.zj]):=List.getElem?_set_self (by simpa using le)
 refine qy (fn:=Tryz.f270) Tryz.func270 rfl (Nat.le_refl _) ?_;conv=>whnf
 refine zay [0,1,2,3,4,5] [⟨1,28,8,[[I w.zu,I w.current,I w.lock,lI w.pins,.sl 2 [] 5 0 w.zd.length false,lL w.ze,lCo w.counts,lR w.zt]],0⟩,⟨1,43,44,[zP (m)],0⟩,⟨1,0,5,(w.zd.map zw).set m.version.toNat ((zJ v0.snap++[C.sl 3 [] 2 0 v0.zf.length false,Bo v0.zC])),0⟩,⟨1,0,2,(v0.zf.map zp).set m.zg.toNat ([U g0.zl,C.sl 4 [] 3 0 g0.ends.length false]),0⟩,⟨1,0,3,(g0.ends.map zn).set m.end_.toNat ([U e0.head,C.sl 5 [] 1 0 e0.next.length false,I e0.zj]),0⟩,⟨2,3,1,e0.next.map encI,0⟩,⟨1,244,2,[[.ref 0 [] 8 0 0,.ref 1 [] 44 0 0]],0⟩,⟨1,81,23,[qB qC],0⟩] (rx:=.ref 4 [] 3 m.end_.toNat 0) (xX w m v0 g0 e0 hv) (zb rfl (zb rfl (zb (zi ownV) (zb (zi ownG) (zb (zi ownE) rfl))))) (by (show zI _ _::zI _ _::zI _ ⟨1,0,5,_,0⟩::zI _ ⟨1,0,2,_,0⟩::zI _ ⟨1,0,3,_,0⟩::_=_);(rw [zE (enc:=zw) (fun _=>rfl),zE (enc:=zp) (fun _=>rfl),zE (enc:=zn) (fun _=>rfl)]);rfl) rfl rfl rfl (zb rfl (zb rfl (zb (zi ownV) (zb (zi ownG) (zb (zi ownE) rfl))))) (by (show zF _ _::zF _ _::zF _ ⟨1,0,5,_,0⟩::zF _ ⟨1,0,2,_,0⟩::zF _ ⟨1,0,3,_,0⟩::_=_);(rw [zA (enc:=zw) (fun _=>rfl),zA (enc:=zp) (fun _=>rfl),zA (enc:=zn) (fun _=>rfl)]);rfl) rfl ?_
 refine dd ?_
 refine ⟨_,ge,(by show 2+1<=3;decide),?_⟩
 refine dd ?_
 refine ⟨_,ge,rfl,?_⟩
 refine dd ?_
 rw [List.set_set]
 refine .inl ⟨⟨false,[],[],[]⟩,by kernel_rfl,?_⟩;(conv=>whnf)
 have ownE2:∀ r ∈ (g0.ends.map zn).set m.end_.toNat [U e0.head,C.sl 5 [] 1 0 e0.next.length false,I (IntKind.i64.wrap (e0.zj+1))],∀ c ∈ r,zy c=true:=zx (enc:=zn) (fun _=>rfl) rfl _ _
 refine .inl ⟨⟨true,[],[],[2,6]⟩,by kernel_rfl,?_⟩;(conv=>whnf)
 have hv2:LnE w { m with answer:=⟨1,m.version,m.zg,m.end_,m.slot,m.listen,0,⟨0,0,0,0,0,0⟩⟩,pc:=20 } v0 g0:=⟨hv.pv,hv.lv,hv.pg,hv.lg,hv.pe,hv.le⟩
 have ge2:((g0.ends.map zn).set m.end_.toNat [U e0.head,C.sl 5 [] 1 0 e0.next.length false,I (IntKind.i64.wrap (e0.zj+1))])[m.end_.toNat]?= some [U e0.head,C.sl 5 [] 1 0 e0.next.length false,I (IntKind.i64.wrap (e0.zj+1))]:=List.getElem?_set_self (by simpa using le)
 have lowV:∀ r ∈ (w.zd.map zw).set m.version.toNat ((zJ v0.snap++[C.sl 3 [] 2 0 v0.zf.length false,Bo v0.zC])),∀ c ∈ r,qH 6 9 c=true:=zx (enc:=zw) (fun _=>rfl) rfl _ _
 have lowG:∀ r ∈ (v0.zf.map zp).set m.zg.toNat ([U g0.zl,C.sl 4 [] 3 0 g0.ends.length false]),∀ c ∈ r,qH 6 9 c=true:=zx (enc:=zp) (fun _=>rfl) rfl _ _
 have lowE:∀ r ∈ (g0.ends.map zn).set m.end_.toNat [U e0.head,C.sl 5 [] 1 0 e0.next.length false,I (IntKind.i64.wrap (e0.zj+1))],∀ c ∈ r,qH 6 9 c=true:=zx (enc:=zn) (fun _=>rfl) rfl _ _
 refine zT [0,1,2,3,4,5] [⟨1,28,8,[[I w.zu,I w.current,I w.lock,lI w.pins,.sl 2 [] 5 0 w.zd.length false,lL w.ze,lCo w.counts,lR w.zt]],0⟩,⟨1,43,44,[zP ({ m with answer:=⟨1,m.version,m.zg,m.end_,m.slot,m.listen,0,⟨0,0,0,0,0,0⟩⟩,pc:=20 })],0⟩,⟨1,0,5,(w.zd.map zw).set m.version.toNat ((zJ v0.snap++[C.sl 3 [] 2 0 v0.zf.length false,Bo v0.zC])),0⟩,⟨1,0,2,(v0.zf.map zp).set m.zg.toNat ([U g0.zl,C.sl 4 [] 3 0 g0.ends.length false]),0⟩,⟨1,0,3,(g0.ends.map zn).set m.end_.toNat [U e0.head,C.sl 5 [] 1 0 e0.next.length false,I (IntKind.i64.wrap (e0.zj+1))],0⟩,⟨2,3,1,e0.next.map encI,0⟩,⟨1,244,2,[[.ref 0 [] 8 0 0,.ref 1 [] 44 0 0]],0⟩,⟨1,81,23,[qB qC],0⟩] (rx:=.ref 4 [] 3 m.end_.toNat 0) (xX w _ v0 g0 (znU e0 1) hv2) (zb rfl (zb rfl (zb (zi ownV) (zb (zi ownG) (zb (zi ownE2) rfl))))) (by (show zI _ _::zI _ _::zI _ ⟨1,0,5,_,0⟩::zI _ ⟨1,0,2,_,0⟩::zI _ ⟨1,0,3,_,0⟩::_=_);(rw [zE (enc:=zw) (fun _=>rfl),zE (enc:=zp) (fun _=>rfl),zE (enc:=zn) (fun _=>rfl)]);rfl) rfl rfl rfl (zb rfl (zb rfl (zb (zi ownV) (zb (zi ownG) (zb (zi ownE2) rfl))))) (by (show zF _ _::zF _ _::zF _ ⟨1,0,5,_,0⟩::zF _ ⟨1,0,2,_,0⟩::zF _ ⟨1,0,3,_,0⟩::_=_);(rw [zA (enc:=zw) (fun _=>rfl),zA (enc:=zp) (fun _=>rfl),zA (enc:=zn) (fun _=>rfl)]);rfl) rfl ?_
 refine dd ?_
 refine ⟨_,ge2,(by show 2+1<=3;decide),?_⟩
 refine dd ?_
 refine zT [0,1,2,3,4,5] [⟨1,28,8,[[I w.zu,I w.current,I w.lock,lI w.pins,.sl 2 [] 5 0 w.zd.length false,lL w.ze,lCo w.counts,lR w.zt]],0⟩,⟨1,43,44,[zP ({ m with answer:=⟨1,m.version,m.zg,m.end_,m.slot,m.listen,0,⟨0,0,0,0,0,0⟩⟩,pc:=20 })],0⟩,⟨1,0,5,(w.zd.map zw).set m.version.toNat ((zJ v0.snap++[C.sl 3 [] 2 0 v0.zf.length false,Bo v0.zC])),0⟩,⟨1,0,2,(v0.zf.map zp).set m.zg.toNat ([U g0.zl,C.sl 4 [] 3 0 g0.ends.length false]),0⟩,⟨1,0,3,(g0.ends.map zn).set m.end_.toNat [U e0.head,C.sl 5 [] 1 0 e0.next.length false,I (IntKind.i64.wrap (e0.zj+1))],0⟩,⟨2,3,1,e0.next.map encI,0⟩,⟨1,244,2,[[.ref 0 [] 8 0 0,.ref 1 [] 44 0 0]],0⟩,⟨1,81,23,[qB qC],0⟩] (rx:=Ce (evV m v0 3 7 (IntKind.i64.wrap (e0.zj+1)))) (zia w _ v0 g0 (znU e0 1) hv2 3 7 (IntKind.i64.wrap (e0.zj+1))) (zb rfl (zb rfl (zb (zi ownV) (zb (zi ownG) (zb (zi ownE2) rfl))))) (by (show zI _ _::zI _ _::zI _ ⟨1,0,5,_,0⟩::zI _ ⟨1,0,2,_,0⟩::zI _ ⟨1,0,3,_,0⟩::_=_);(rw [zE (enc:=zw) (fun _=>rfl),zE (enc:=zp) (fun _=>rfl),zE (enc:=zn) (fun _=>rfl)]);rfl) rfl rfl rfl (zb rfl (zb rfl (zb (zi ownV) (zb (zi ownG) (zb (zi ownE2) rfl))))) (by (show zF _ _::zF _ _::zF _ ⟨1,0,5,_,0⟩::zF _ ⟨1,0,2,_,0⟩::zF _ ⟨1,0,3,_,0⟩::_=_);(rw [zA (enc:=zw) (fun _=>rfl),zA (enc:=zp) (fun _=>rfl),zA (enc:=zn) (fun _=>rfl)]);rfl) rfl ?_
 refine dd ?_
 exact ⟨.inl rfl,_,_,.refl _,rfl,zq.xW 6 (by (conv=>whnf);(repeat (refine ⟨rfl,?_⟩;(conv=>whnf)));exact trivial) rfl rfl rfl (zN rfl (zN rfl (zN (qh lowV) (zN (qh lowG) (zN (qh lowE) rfl))))) rfl⟩
end Go.Wor
