import Derived.Test.YtgmkpdmnlhoffaaGreatRV
set_option linter.all false
set_option maxRecDepth 100000
set_option maxHeartbeats 4000000
namespace Go.Wor
open Go.Ab Go.Proofs Go.Hy Go.Gat Go.Nam Go.Hos Go.Con Go.Sna
abbrev evO (m:Mac) (a b c:Int):Eve:=⟨m.zj,0,a,b, -1,false,c,false,false,false,wL⟩
abbrev evV (m:Mac) (v:Ver) (a b c:Int):Eve:=⟨m.zj,0,a,b,m.version,v.qj,c,false,false,false,wL⟩
theorem jb (m:Mac) (a b c:Int):zb Tryz.prog 297 [⟨1,97,44,[zD (m)],0⟩] [.agg [.za,.ref 0 [] 44 0 0],I a,I b,I c] (Ce (evO m a b c)) [⟨1,97,44,[zD (m)],0⟩]:=by
 refine z6 (fn:=Tryz.f297) Tryz.func297 rfl (Nat.le_refl _) (uH ?_);exact ⟨.inl rfl,_,_,.refl _,rfl,cE 1⟩
abbrev zaH (n:Int):Ans:=⟨n,0,0,0,0,0,0,⟨0,0,0,0,0,0⟩⟩
abbrev wu (m:Mac) (n:Int):Mac:={ m with answer:=zaH n,pc:=20 }
theorem yu (m:Mac) (n:Int):zb Tryz.prog 298 [⟨1,97,44,[zD (m)],0⟩] [.agg [.za,.ref 0 [] 44 0 0],I n] (.tup []) [⟨1,97,44,[zD (wu m n)],0⟩]:=by
 refine z6 (fn:=Tryz.f298) Tryz.func298 rfl (Nat.le_refl _) (uH ?_);refine .inl ⟨⟨false,[3],[1],[]⟩,by kernel_rfl,uH ?_⟩;repeat (refine ⟨rfl,uH ?_⟩)
 exact ⟨.inr rfl,_,_,.refl _,rfl,cE 1⟩
structure AtV (w:Wor) (m:Mac) (v:Ver):Prop where
 v0:0<=m.version
 at_:w.ze[m.version.toNat]?= some v
theorem AtV.row {w:Wor} {m:Mac} {v:Ver} (h:AtV w m v):(w.ze.map zI)[m.version.toNat]?= some (zI v):=by rw [List.getElem?_map,h.at_];rfl
theorem kh (w:Wor) (m:Mac) (v:Ver) (hv:AtV w m v) (a b c:Int):zb Tryz.prog 303 [⟨1,28,8,[zJ w],0⟩,⟨1,97,44,[zD (m)],0⟩] [.agg [.ref 0 [] 8 0 0,.ref 1 [] 44 0 0],I a,I b,I c] (Ce (evV m v a b c)) [⟨1,28,8,[zJ w],0⟩,⟨1,97,44,[zD (m)],0⟩]:=by
 have h0:=hv.v0;have hr:=hv.row;obtain ⟨sn,gs,fr⟩:=v;cases fr
 all_goals
  refine z6 (fn:=Tryz.f303) Tryz.func303 rfl (Nat.le_refl _) (uH ?_);refine zq [1] (jb m a b c) rfl rfl rfl rfl rfl rfl (dd ?_);refine .inl ⟨⟨false,[6,9,11,14,17],[0,1,2],[]⟩,by kernel_rfl,uH ?_⟩;(refine ⟨h0,_,hr,dd ?_⟩)
  first | ((refine ⟨fun _=>dd ?_,fun h=>absurd (h.symm.trans rfl:false=true) (by decide)⟩)) | ((refine ⟨fun h=>absurd (h.symm.trans rfl:true=false) (by decide),fun _=>dd ?_⟩))
  repeat (refine ⟨rfl,uH ?_⟩)
  exact ⟨.inl rfl,_,_,.refl _,rfl,cE 2⟩
theorem zfa {P:Program} {f:FuncId} (sel:List Nat) {K H0 H':zk} {args args0:List C} {r:C} (h:zb P f H0 args0 r H') (hR:qK H'=true)
  (hH:xe sel K=H0) (ha:args.map (xH sel 9)=args0) (z5:sel.all (fun id=>Nat.blt id K.length)=true) (hnd:xS sel=true) (hfl:qK K=true) {k:C->zk->Prop}
  (hk:zcd (kJ sel K H') fun X=>qE (yx (qT sel K.length) 9 r) fun c=>k c X):∃ R',qw P f K args R'∧∀ r H2,R' r H2->k r H2:=
 zfq sel (h.toR (R:=fun x X=>x=r∧X=H') ⟨rfl,rfl⟩) (fun _ _ e=>e.2 ▸ hR) hH ha z5 hnd hfl (by rintro _ _ ⟨rfl,rfl⟩;exact hk)
structure AtG (w:Wor) (m:Mac) (v:Ver) (g:Gr):Prop extends AtV w m v where
 g0:0<=m.zf
 atg:v.zm[m.zf.toNat]?= some g
theorem AtG.zup {w:Wor} {m:Mac} {v:Ver} {g:Gr} (h:AtG w m v g):(v.zm.map zE)[m.zf.toNat]?= some (zE g):=by rw [List.getElem?_map,h.atg];rfl
structure AtE (w:Wor) (m:Mac) (v:Ver) (g:Gr) (e:En):Prop extends AtG w m v g where
 e0:0<=m.end_
 ate:g.ends[m.end_.toNat]?= some e
theorem AtE.zuo {w:Wor} {m:Mac} {v:Ver} {g:Gr} {e:En} (h:AtE w m v g e):(g.ends.map zu)[m.end_.toNat]?= some (zu e):=by rw [List.getElem?_map,h.ate];rfl
theorem zep (w:Wor) (m:Mac) (v:Ver) (g:Gr) (hv:AtG w m v g):zb Tryz.prog 300 [⟨1,28,8,[zJ w],0⟩,⟨1,97,44,[zD (m)],0⟩] [.agg [.ref 0 [] 8 0 0,.ref 1 [] 44 0 0]] (.jG (zE g)) [⟨1,28,8,[zJ w],0⟩,⟨1,97,44,[zD (m)],0⟩]:=by
 have h0:=hv.v0;have hr:=hv.row;have g0:=hv.g0;have gr:=hv.zup;refine z6 (fn:=Tryz.f300) Tryz.func300 rfl (Nat.le_refl _) (uH ?_);refine uE ?_;(refine ⟨h0,_,hr,dd ?_⟩)
 (refine ⟨g0,_,gr,dd ?_⟩)
 exact ⟨.inl rfl,_,_,.refl _,rfl,cE 2⟩
theorem vY (w:Wor) (m:Mac) (v:Ver) (g:Gr) (e:En) (hv:AtE w m v g e):zb Tryz.prog 304 [⟨1,28,8,[zJ w],0⟩,⟨1,97,44,[zD (m)],0⟩] [.agg [.ref 0 [] 8 0 0,.ref 1 [] 44 0 0]] (.jG (zu e)) [⟨1,28,8,[zJ w],0⟩,⟨1,97,44,[zD (m)],0⟩]:=by
 have e0:=hv.e0;have er:=hv.zuo;refine z6 (fn:=Tryz.f304) Tryz.func304 rfl (Nat.le_refl _) (uH ?_);refine .inl ⟨⟨true,[],[],[1]⟩,by kernel_rfl,uH ?_⟩;refine zq [0,1] (zep w m v g hv.toAtG) rfl rfl rfl rfl rfl rfl (dd ?_);repeat (refine ⟨rfl,uH ?_⟩)
 (refine ⟨e0,_,er,dd ?_⟩)
 exact ⟨.inl rfl,_,_,.refl _,rfl,cE 2⟩
theorem vj (w:Wor) (m:Mac) (v:Ver) (c:Clu) (hv:AtV w m v) (c0:0<=m.zf) (hc:v.snap.zl[m.zf.toNat]?= some c):zb Tryz.prog 302 [⟨1,28,8,[zJ w],0⟩,⟨1,97,44,[zD (m)],0⟩] [.agg [.ref 0 [] 8 0 0,.ref 1 [] 44 0 0]] (Cc c) [⟨1,28,8,[zJ w],0⟩,⟨1,97,44,[zD (m)],0⟩]:=by
 have h0:=hv.v0;have hr:=hv.row;have cr:(v.snap.zl.map jU)[m.zf.toNat]?= some (jU c):=by rw [List.getElem?_map,hc];rfl
 refine z6 (fn:=Tryz.f302) Tryz.func302 rfl (Nat.le_refl _) (uH ?_);refine uE ?_;(refine ⟨h0,_,hr,dd ?_⟩)
 (refine ⟨c0,_,cr,dd ?_⟩)
 exact ⟨.inl rfl,_,_,.refl _,rfl,cE 2⟩
theorem zfZ (w:Wor) (m:Mac) (v:Ver) (g:Gr) (e:En) (hv:AtE w m v g e) {x:Int} (s0:0<=m.slot) (hx:e.next[m.slot.toNat]?= some x):
  zb Tryz.prog 265 [⟨1,28,8,[zJ w],0⟩,⟨1,97,44,[zD (m)],0⟩] [.agg [.ref 0 [] 8 0 0,.ref 1 [] 44 0 0]] (Ce (evV m v 1 9 x)) [⟨1,28,8,[zJ w],0⟩,⟨1,97,44,[zD ({ m with link:=x,pc:=11 })],0⟩]:=by
 have er:(e.next.map encI)[m.slot.toNat]?= some (encI x):=by rw [List.getElem?_map,hx];rfl
 refine z6 (fn:=Tryz.f265) Tryz.func265 rfl (Nat.le_refl _) (uH ?_);refine .inl ⟨⟨true,[3],[2],[5]⟩,by kernel_rfl,uH ?_⟩;refine zq [0,1] (vY w m v g e hv) rfl rfl rfl rfl rfl rfl (dd ?_);repeat (refine ⟨rfl,uH ?_⟩)
 (refine ⟨s0,_,er,dd ?_⟩)
 repeat (refine ⟨rfl,uH ?_⟩)
 refine .inl ⟨⟨true,[],[],[]⟩,by kernel_rfl,uH ?_⟩;refine zq [0,1] (kh w { m with link:=x,pc:=11 } v ⟨hv.v0,hv.at_⟩ 1 9 x) rfl rfl rfl rfl rfl rfl (dd ?_);exact ⟨.inl rfl,_,_,.refl _,rfl,cE 2⟩
theorem zcW (w:Wor) (m:Mac) (v:Ver) (g:Gr) (e:En) (hv:AtE w m v g e):
  zb Tryz.prog 262 [⟨1,28,8,[zJ w],0⟩,⟨1,97,44,[zD (m)],0⟩] [.agg [.ref 0 [] 8 0 0,.ref 1 [] 44 0 0]] (Ce (evV m v 1 7 e.zg)) [⟨1,28,8,[zJ w],0⟩,⟨1,97,44,[zD ({ m with i:=e.zg,pc:=8 })],0⟩]:=by
 refine z6 (fn:=Tryz.f262) Tryz.func262 rfl (Nat.le_refl _) (uH ?_);refine .inl ⟨⟨true,[3],[2],[5]⟩,by kernel_rfl,uH ?_⟩;refine zq [0,1] (vY w m v g e hv) rfl rfl rfl rfl rfl rfl (dd ?_);repeat (refine ⟨rfl,uH ?_⟩)
 repeat (refine ⟨rfl,uH ?_⟩)
 refine .inl ⟨⟨true,[],[],[]⟩,by kernel_rfl,uH ?_⟩;refine zq [0,1] (kh w { m with i:=e.zg,pc:=8 } v ⟨hv.v0,hv.at_⟩ 1 7 e.zg) rfl rfl rfl rfl rfl rfl (dd ?_);exact ⟨.inl rfl,_,_,.refl _,rfl,cE 2⟩
theorem zfY (w:Wor) (m:Mac) (v:Ver) (g:Gr) (e:En) (hv:AtE w m v g e) (he:u64 e.head) (hi:0<=e.head % 4294967296 - 1∧e.head % 4294967296 - 1 < e.next.length):
  zb Tryz.prog 264 [⟨1,28,8,[zJ w],0⟩,⟨1,97,44,[zD (m)],0⟩] [.agg [.ref 0 [] 8 0 0,.ref 1 [] 44 0 0]] (Ce (evV m v 1 8 (e.head % 4294967296 - 1))) [⟨1,28,8,[zJ w],0⟩,⟨1,97,44,[zD ({ m with word:=e.head,slot:=e.head % 4294967296 - 1,pc:=10 })],0⟩]:=by
 have hi1:=hi.1;have hi2:=hi.2;have ml:(e.next.map encI).length=e.next.length:=List.length_map ..;refine z6 (fn:=Tryz.f264) Tryz.func264 rfl (Nat.le_refl _) (uH ?_);refine zfa [0,1] (vY w m v g e hv) rfl rfl rfl rfl rfl rfl (dd ?_);refine ⟨_,_,(Slp.qA e.head he).frame rfl _,dd ?_⟩;refine ⟨fun h=>absurd h (by simp;omega),fun _=>dd ?_⟩;refine zfa [0,1] (vY w { m with word:=e.head } v g e ⟨⟨⟨hv.v0,hv.at_⟩,hv.g0,hv.atg⟩,hv.e0,hv.ate⟩) rfl rfl rfl rfl rfl rfl (dd ?_);rw [ml];refine ⟨fun h=>absurd h (by simp;omega),fun _=>dd ?_⟩;refine zq [0,1] (kh w { m with word:=e.head,slot:=e.head % 4294967296 - 1,pc:=10 } v ⟨hv.v0,hv.at_⟩ 1 8 (e.head % 4294967296 - 1)) rfl rfl rfl rfl rfl rfl (dd ?_);exact ⟨.inl rfl,_,_,.refl _,rfl,cE 2⟩
theorem zjs (w:Wor) (m:Mac) (x:Lis) (h0:0<=m.listen) (hx:w.zd[m.listen.toNat]?= some x):
  zb Tryz.prog 259 [⟨1,28,8,[[I w.zn,I w.current,I w.lock,lI w.pins,lV w.ze,.sl 2 [] 4 0 w.zd.length false,lCo w.counts,lR w.zt]],0⟩,⟨1,97,44,[zD (m)],0⟩,⟨2,92,4,(w.zd).map qG,0⟩] [.agg [.ref 0 [] 8 0 0,.ref 1 [] 44 0 0]] (Ce (evO m 3 5 (IntKind.i64.wrap (x.zg+1))))
   [⟨1,28,8,[[I w.zn,I w.current,I w.lock,lI w.pins,lV w.ze,.sl 2 [] 4 0 w.zd.length false,lCo w.counts,lR w.zt]],0⟩,⟨1,97,44,[zD ({ m with pc:=5 })],0⟩,⟨2,92,4,(w.zd.set m.listen.toNat { x with zg:=IntKind.i64.wrap (x.zg+1) }).map qG,0⟩]:=by
 have e1:0+m.listen.toNat=m.listen.toNat:=Nat.zero_add _;have hlt:m.listen.toNat < w.zd.length:=(List.getElem?_eq_some_iff.1 hx).1;have gx:(w.zd.map qG)[m.listen.toNat]?= some (qG x):=by rw [List.getElem?_map,hx];rfl
 refine z6 (fn:=Tryz.f259) Tryz.func259 rfl (Nat.le_refl _) (uH ?_);have hst:(w.zd.map qG).set m.listen.toNat [Tx x.name,Bo x.drain,I (IntKind.i64.wrap (x.zg+1)),Bo x.closed]=(w.zd.set m.listen.toNat { x with zg:=IntKind.i64.wrap (x.zg+1) }).map qG:=by rw [List.map_set];rfl
 have gx2:((w.zd.set m.listen.toNat { x with zg:=IntKind.i64.wrap (x.zg+1) }).map qG)[m.listen.toNat]?= some (qG { x with zg:=IntKind.i64.wrap (x.zg+1) }):=by rw [List.getElem?_map,List.getElem?_set_self hlt];rfl
 refine uE ?_;refine ⟨h0,hlt,dd ?_⟩;rw [e1];refine ⟨_,gx,(by show 2+1<=4;decide),dd ?_⟩;refine ⟨_,gx,rfl,dd ?_⟩;rw [hst];refine .inl ⟨⟨true,[],[],[]⟩,by kernel_rfl,uH ?_⟩;refine ⟨_,gx2,(by show 2+1<=4;decide),dd ?_⟩;refine zq [1] (jb { m with pc:=5 } 3 5 (IntKind.i64.wrap (x.zg+1))) rfl rfl rfl rfl rfl rfl (dd ?_);exact ⟨.inl rfl,_,_,.refl _,rfl,cE 3⟩
theorem zjL (w:Wor) (m:Mac) (x:Lis) (h0:0<=m.listen) (hx:w.zd[m.listen.toNat]?= some x):
  zb Tryz.prog 270 [⟨1,28,8,[[I w.zn,I w.current,I w.lock,lI w.pins,lV w.ze,.sl 2 [] 4 0 w.zd.length false,lCo w.counts,lR w.zt]],0⟩,⟨1,97,44,[zD (m)],0⟩,⟨2,92,4,(w.zd).map qG,0⟩] [.agg [.ref 0 [] 8 0 0,.ref 1 [] 44 0 0]] (Ce (evO m 3 5 (IntKind.i64.wrap (x.zg - 1))))
   [⟨1,28,8,[[I w.zn,I w.current,I w.lock,lI w.pins,lV w.ze,.sl 2 [] 4 0 w.zd.length false,lCo w.counts,lR w.zt]],0⟩,⟨1,97,44,[zD ({ m with pc:=23 })],0⟩,⟨2,92,4,(w.zd.set m.listen.toNat { x with zg:=IntKind.i64.wrap (x.zg - 1) }).map qG,0⟩]:=by
 have e1:0+m.listen.toNat=m.listen.toNat:=Nat.zero_add _;have hlt:m.listen.toNat < w.zd.length:=(List.getElem?_eq_some_iff.1 hx).1;have gx:(w.zd.map qG)[m.listen.toNat]?= some (qG x):=by rw [List.getElem?_map,hx];rfl
 refine z6 (fn:=Tryz.f270) Tryz.func270 rfl (Nat.le_refl _) (uH ?_);have hst:(w.zd.map qG).set m.listen.toNat [Tx x.name,Bo x.drain,I (IntKind.i64.wrap (x.zg - 1)),Bo x.closed]=(w.zd.set m.listen.toNat { x with zg:=IntKind.i64.wrap (x.zg - 1) }).map qG:=by rw [List.map_set];rfl
 have gx2:((w.zd.set m.listen.toNat { x with zg:=IntKind.i64.wrap (x.zg - 1) }).map qG)[m.listen.toNat]?= some (qG { x with zg:=IntKind.i64.wrap (x.zg - 1) }):=by rw [List.getElem?_map,List.getElem?_set_self hlt];rfl
 refine uE ?_;refine ⟨h0,hlt,dd ?_⟩;rw [e1];refine ⟨_,gx,(by show 2+1<=4;decide),dd ?_⟩;refine ⟨_,gx,rfl,dd ?_⟩;rw [hst];refine .inl ⟨⟨true,[],[],[]⟩,by kernel_rfl,uH ?_⟩;refine ⟨_,gx2,(by show 2+1<=4;decide),dd ?_⟩;refine zq [1] (jb { m with pc:=23 } 3 5 (IntKind.i64.wrap (x.zg - 1))) rfl rfl rfl rfl rfl rfl (dd ?_);exact ⟨.inl rfl,_,_,.refl _,rfl,cE 3⟩
theorem zV {P:Program} {f:FuncId} (sel:List Nat) (Kx:zk) {K H0 H':zk} {args args0:List C} {r rx:C} (h:zb P f H0 args0 r H') (hR:qK H'=true)
  (hH:xe sel K=H0) (ha:args.map (xH sel 9)=args0) (z5:sel.all (fun id=>Nat.blt id K.length)=true) (hnd:xS sel=true) (hfl:qK K=true) {k:C->zk->Prop}
  (hp:kJ sel K H'=Kx) (hr:yx (qT sel K.length) 9 r=rx) (hk:okB rx fun c=>k c Kx):∃ r H2,zb P f K args r H2∧okB r fun c=>k c H2:=
 ⟨_,_,h.part sel hR hH ha z5 hnd hfl,by rw [hp,hr];exact hk⟩
theorem zH {n:Nat} {x:Ob} {H:zk} (h1:qF n [x]=true) (h2:qF n H=true):qF n (x::H)=true:=by
 unfold qF at *;simp only [List.all_cons,List.all_nil,Bool.and_true] at *;rw [h1,h2];rfl
theorem qc {n ty sz fz:Nat} {rows:List (List C)} (h:∀ r ∈ rows,∀ c ∈ r,qS n 9 c=true):qF n [⟨1,ty,sz,rows,fz⟩]=true:=by
 unfold qF;simp only [List.all_cons,List.all_nil,Bool.and_true];have:(rows.all fun r=>r.all (qS n 9))=true:=List.all_eq_true.2 fun r hr=>List.all_eq_true.2 fun c hc=>h r hr c hc
 rw [this];simp
theorem zfB (w:Wor) (m:Mac) (r0:List Int) (x:Int) (h0:0<=m.zj) (hr:w.counts[m.zj.toNat]?= some r0) (hx:r0[0]?= some x):
  zb Tryz.prog 269 [⟨1,28,8,[[I w.zn,I w.current,I w.lock,lI w.pins,lV w.ze,lL w.zd,.sl 2 [] 1 0 w.counts.length false,lR w.zt]],0⟩,⟨1,97,44,[zD (m)],0⟩,⟨1,0,1,(w.counts.map zN).set m.zj.toNat [C.sl 3 [] 1 0 r0.length false],0⟩,⟨2,54,1,(r0).map jB,0⟩] [.agg [.ref 0 [] 8 0 0,.ref 1 [] 44 0 0]] (Ce (evO m 3 10 0))
   [⟨1,28,8,[[I w.zn,I w.current,I w.lock,lI w.pins,lV w.ze,lL w.zd,.sl 2 [] 1 0 w.counts.length false,lR w.zt]],0⟩,⟨1,97,44,[zD ({ m with pc:=if m.answer.kind=1∨m.listen < 0 then 23 else 22 })],0⟩,⟨1,0,1,(w.counts.map zN).set m.zj.toNat [C.sl 3 [] 1 0 r0.length false],0⟩,⟨2,54,1,(r0.set 0 (IntKind.u64.wrap (x+1))).map jB,0⟩]:=by
 have e1:0+m.zj.toNat=m.zj.toNat:=Nat.zero_add _;have hlt:m.zj.toNat < w.counts.length:=(List.getElem?_eq_some_iff.1 hr).1;have gt:((w.counts.map zN).set m.zj.toNat [C.sl 3 [] 1 0 r0.length false])[m.zj.toNat]?= some [C.sl 3 [] 1 0 r0.length false]:=List.getElem?_set_self (by simpa using hlt);have gx:(r0.map jB)[0]?= some (jB x):=by rw [List.getElem?_map,hx];rfl
 have hl0:0 < r0.length:=(List.getElem?_eq_some_iff.1 hx).1;have hst:(r0.map jB).set 0 [U (IntKind.u64.wrap (x+1))]=(r0.set 0 (IntKind.u64.wrap (x+1))).map jB:=by rw [List.map_set];rfl
 have own:∀ r ∈ (w.counts.map zN).set m.zj.toNat [C.sl 3 [] 1 0 r0.length false],∀ c ∈ r,zx c=true:=zy (enc:=zN) (fun _=>rfl) rfl _ _;have low:∀ r ∈ (w.counts.map zN).set m.zj.toNat [C.sl 3 [] 1 0 r0.length false],∀ c ∈ r,qS 4 9 c=true:=zy (enc:=zN) (fun _=>rfl) rfl _ _;refine z6 (fn:=Tryz.f269) Tryz.func269 rfl (Nat.le_refl _) (uH ?_);refine uE ?_;refine ⟨h0,hlt,dd ?_⟩;rw [e1];refine ⟨_,gt,tR,dd ?_⟩;refine ⟨by decide,hl0,dd ?_⟩;refine ⟨_,gx,tR,dd ?_⟩;refine ⟨by decide,hl0,dd ?_⟩;refine ⟨_,gx,rfl,dd ?_⟩;have hst2:(r0.map jB).set (0+Int.toNat 0) [U (IntKind.u64.wrap (x+1))]=(r0.set 0 (IntKind.u64.wrap (x+1))).map jB:=hst;rw [hst2];refine ⟨fun h1=>?_,fun h1=>?_⟩
 ·rw [if_pos (.inl (of_decide_eq_true h1))];refine dd ?_;(repeat refine uC ?_)
  refine zV [1] [⟨1,28,8,[[I w.zn,I w.current,I w.lock,lI w.pins,lV w.ze,lL w.zd,.sl 2 [] 1 0 w.counts.length false,lR w.zt]],0⟩,⟨1,97,44,[zD ({ m with pc:=23 })],0⟩,⟨1,0,1,(w.counts.map zN).set m.zj.toNat [C.sl 3 [] 1 0 r0.length false],0⟩,⟨2,54,1,(r0.set 0 (IntKind.u64.wrap (x+1))).map jB,0⟩,⟨1,256,2,[[.ref 0 [] 8 0 0,.ref 1 [] 44 0 0]],0⟩,⟨1,62,23,[zQ qu],0⟩] (rx:=Ce (evO { m with pc:=23 } 3 10 0)) (jb { m with pc:=23 } 3 10 0) rfl rfl rfl rfl rfl (zc rfl (zc rfl (zc (zi own) rfl))) rfl rfl (dd ?_);exact ⟨.inl rfl,_,_,.refl _,rfl,zo.xa 4 (by (conv=>whnf);(repeat (refine ⟨rfl,uH ?_⟩));exact trivial) rfl rfl rfl (zH rfl (zH rfl (zH (qc low) rfl))) rfl⟩
 ·refine dd ?_;refine ⟨fun h2=>?_,fun h2=>?_⟩
  ·rw [if_pos (.inr (of_decide_eq_true h2))];refine dd ?_;(repeat refine uC ?_)
   refine zV [1] [⟨1,28,8,[[I w.zn,I w.current,I w.lock,lI w.pins,lV w.ze,lL w.zd,.sl 2 [] 1 0 w.counts.length false,lR w.zt]],0⟩,⟨1,97,44,[zD ({ m with pc:=23 })],0⟩,⟨1,0,1,(w.counts.map zN).set m.zj.toNat [C.sl 3 [] 1 0 r0.length false],0⟩,⟨2,54,1,(r0.set 0 (IntKind.u64.wrap (x+1))).map jB,0⟩,⟨1,256,2,[[.ref 0 [] 8 0 0,.ref 1 [] 44 0 0]],0⟩,⟨1,62,23,[zQ qu],0⟩] (rx:=Ce (evO { m with pc:=23 } 3 10 0)) (jb { m with pc:=23 } 3 10 0) rfl rfl rfl rfl rfl (zc rfl (zc rfl (zc (zi own) rfl))) rfl rfl (dd ?_);exact ⟨.inl rfl,_,_,.refl _,rfl,zo.xa 4 (by (conv=>whnf);(repeat (refine ⟨rfl,uH ?_⟩));exact trivial) rfl rfl rfl (zH rfl (zH rfl (zH (qc low) rfl))) rfl⟩
  ·rw [if_neg (fun h=>h.elim (of_decide_eq_false h1) (of_decide_eq_false h2))];refine dd ?_;(repeat refine uC ?_)
   refine zV [1] [⟨1,28,8,[[I w.zn,I w.current,I w.lock,lI w.pins,lV w.ze,lL w.zd,.sl 2 [] 1 0 w.counts.length false,lR w.zt]],0⟩,⟨1,97,44,[zD ({ m with pc:=22 })],0⟩,⟨1,0,1,(w.counts.map zN).set m.zj.toNat [C.sl 3 [] 1 0 r0.length false],0⟩,⟨2,54,1,(r0.set 0 (IntKind.u64.wrap (x+1))).map jB,0⟩,⟨1,256,2,[[.ref 0 [] 8 0 0,.ref 1 [] 44 0 0]],0⟩,⟨1,62,23,[zQ qu],0⟩] (rx:=Ce (evO { m with pc:=22 } 3 10 0)) (jb { m with pc:=22 } 3 10 0) rfl rfl rfl rfl rfl (zc rfl (zc rfl (zc (zi own) rfl))) rfl rfl (dd ?_);exact ⟨.inl rfl,_,_,.refl _,rfl,zo.xa 4 (by (conv=>whnf);(repeat (refine ⟨rfl,uH ?_⟩));exact trivial) rfl rfl rfl (zH rfl (zH rfl (zH (qc low) rfl))) rfl⟩
def zc4 (n:Int):Int:=if n < 1∨5 < n then 0 else n
theorem zeX (w:Wor) (m:Mac) (r0:List Int) (x k:Int) (hk:zc4 m.answer.kind=k) (h0:0<=m.zj) (hr:w.counts[m.zj.toNat]?= some r0) (hx:r0[k.toNat]?= some x):
  zb Tryz.prog 268 [⟨1,28,8,[[I w.zn,I w.current,I w.lock,lI w.pins,lV w.ze,lL w.zd,.sl 2 [] 1 0 w.counts.length false,lR w.zt]],0⟩,⟨1,97,44,[zD (m)],0⟩,⟨1,0,1,(w.counts.map zN).set m.zj.toNat [C.sl 3 [] 1 0 r0.length false],0⟩,⟨2,54,1,(r0).map jB,0⟩] [.agg [.ref 0 [] 8 0 0,.ref 1 [] 44 0 0]] (Ce (evO m 3 10 k))
   [⟨1,28,8,[[I w.zn,I w.current,I w.lock,lI w.pins,lV w.ze,lL w.zd,.sl 2 [] 1 0 w.counts.length false,lR w.zt]],0⟩,⟨1,97,44,[zD ({ m with pc:=21 })],0⟩,⟨1,0,1,(w.counts.map zN).set m.zj.toNat [C.sl 3 [] 1 0 r0.length false],0⟩,⟨2,54,1,(r0.set k.toNat (IntKind.u64.wrap (x+1))).map jB,0⟩]:=by
 have e1:0+m.zj.toNat=m.zj.toNat:=Nat.zero_add _;have k0:0<=k:=by rw [<- hk];unfold zc4;split <;> omega
 have k1:k.toNat < r0.length:=(List.getElem?_eq_some_iff.1 hx).1;have hlt:m.zj.toNat < w.counts.length:=(List.getElem?_eq_some_iff.1 hr).1;have gt:((w.counts.map zN).set m.zj.toNat [C.sl 3 [] 1 0 r0.length false])[m.zj.toNat]?= some [C.sl 3 [] 1 0 r0.length false]:=List.getElem?_set_self (by simpa using hlt);have gx:(r0.map jB)[0+k.toNat]?= some (jB x):=by rw [Nat.zero_add,List.getElem?_map,hx];rfl
 have hst:(r0.map jB).set (0+k.toNat) [U (IntKind.u64.wrap (x+1))]=(r0.set k.toNat (IntKind.u64.wrap (x+1))).map jB:=by rw [Nat.zero_add,List.map_set];rfl
 have own:∀ r ∈ (w.counts.map zN).set m.zj.toNat [C.sl 3 [] 1 0 r0.length false],∀ c ∈ r,zx c=true:=zy (enc:=zN) (fun _=>rfl) rfl _ _;have low:∀ r ∈ (w.counts.map zN).set m.zj.toNat [C.sl 3 [] 1 0 r0.length false],∀ c ∈ r,qS 4 9 c=true:=zy (enc:=zN) (fun _=>rfl) rfl _ _;refine z6 (fn:=Tryz.f268) Tryz.func268 rfl (Nat.le_refl _) (uH ?_);refine ⟨fun h1=>?_,fun h1=>?_⟩
 ·obtain rfl:k=0:=by rw [<- hk];unfold zc4;rw [if_pos (.inl (of_decide_eq_true h1))]
  refine dd ?_;(repeat refine uC ?_)
  refine uE ?_;(refine ⟨h0,hlt,dd ?_⟩);(rw [e1]);(refine ⟨_,gt,tR,dd ?_⟩);(refine ⟨k0,k1,dd ?_⟩);(refine ⟨_,gx,tR,dd ?_⟩);(refine ⟨k0,k1,dd ?_⟩);(refine ⟨_,gx,rfl,dd ?_⟩);(rw [hst]);(refine zV [1] [⟨1,28,8,[[I w.zn,I w.current,I w.lock,lI w.pins,lV w.ze,lL w.zd,.sl 2 [] 1 0 w.counts.length false,lR w.zt]],0⟩,⟨1,97,44,[zD ({ m with pc:=21 })],0⟩,⟨1,0,1,(w.counts.map zN).set m.zj.toNat [C.sl 3 [] 1 0 r0.length false],0⟩,⟨2,54,1,(r0.set ((0:Int)).toNat (IntKind.u64.wrap (x+1))).map jB,0⟩,⟨1,256,2,[[.ref 0 [] 8 0 0,.ref 1 [] 44 0 0]],0⟩,⟨1,62,23,[zQ qu],0⟩] (rx:=Ce (evO { m with pc:=21 } 3 10 ((0:Int)))) (jb { m with pc:=21 } 3 10 ((0:Int))) rfl rfl rfl rfl rfl (zc rfl (zc rfl (zc (zi own) rfl))) rfl rfl (dd ?_));exact ⟨.inl rfl,_,_,.refl _,rfl,zo.xa 4 (by (conv=>whnf);(repeat (refine ⟨rfl,uH ?_⟩));exact trivial) rfl rfl rfl (zH rfl (zH rfl (zH (qc low) rfl))) rfl⟩
 ·refine dd ?_;(repeat refine uC ?_)
  refine ⟨fun h2=>?_,fun h2=>?_⟩
  ·obtain rfl:k=0:=by rw [<- hk];unfold zc4;rw [if_pos (.inr (of_decide_eq_true h2))]
   refine dd ?_;(repeat refine uC ?_)
   refine uE ?_;(refine ⟨h0,hlt,dd ?_⟩);(rw [e1]);(refine ⟨_,gt,tR,dd ?_⟩);(refine ⟨k0,k1,dd ?_⟩);(refine ⟨_,gx,tR,dd ?_⟩);(refine ⟨k0,k1,dd ?_⟩);(refine ⟨_,gx,rfl,dd ?_⟩);(rw [hst]);(refine zV [1] [⟨1,28,8,[[I w.zn,I w.current,I w.lock,lI w.pins,lV w.ze,lL w.zd,.sl 2 [] 1 0 w.counts.length false,lR w.zt]],0⟩,⟨1,97,44,[zD ({ m with pc:=21 })],0⟩,⟨1,0,1,(w.counts.map zN).set m.zj.toNat [C.sl 3 [] 1 0 r0.length false],0⟩,⟨2,54,1,(r0.set ((0:Int)).toNat (IntKind.u64.wrap (x+1))).map jB,0⟩,⟨1,256,2,[[.ref 0 [] 8 0 0,.ref 1 [] 44 0 0]],0⟩,⟨1,62,23,[zQ qu],0⟩] (rx:=Ce (evO { m with pc:=21 } 3 10 ((0:Int)))) (jb { m with pc:=21 } 3 10 ((0:Int))) rfl rfl rfl rfl rfl (zc rfl (zc rfl (zc (zi own) rfl))) rfl rfl (dd ?_));exact ⟨.inl rfl,_,_,.refl _,rfl,zo.xa 4 (by (conv=>whnf);(repeat (refine ⟨rfl,uH ?_⟩));exact trivial) rfl rfl rfl (zH rfl (zH rfl (zH (qc low) rfl))) rfl⟩
  ·obtain rfl:k=m.answer.kind:=by rw [<- hk];unfold zc4;rw [if_neg (fun h=>h.elim (of_decide_eq_false h1) (of_decide_eq_false h2))]
   refine dd ?_;(repeat refine uC ?_)
   refine uE ?_;(refine ⟨h0,hlt,dd ?_⟩);(rw [e1]);(refine ⟨_,gt,tR,dd ?_⟩);(refine ⟨k0,k1,dd ?_⟩);(refine ⟨_,gx,tR,dd ?_⟩);(refine ⟨k0,k1,dd ?_⟩);(refine ⟨_,gx,rfl,dd ?_⟩);(rw [hst]);(refine zV [1] [⟨1,28,8,[[I w.zn,I w.current,I w.lock,lI w.pins,lV w.ze,lL w.zd,.sl 2 [] 1 0 w.counts.length false,lR w.zt]],0⟩,⟨1,97,44,[zD ({ m with pc:=21 })],0⟩,⟨1,0,1,(w.counts.map zN).set m.zj.toNat [C.sl 3 [] 1 0 r0.length false],0⟩,⟨2,54,1,(r0.set (m.answer.kind).toNat (IntKind.u64.wrap (x+1))).map jB,0⟩,⟨1,256,2,[[.ref 0 [] 8 0 0,.ref 1 [] 44 0 0]],0⟩,⟨1,62,23,[zQ qu],0⟩] (rx:=Ce (evO { m with pc:=21 } 3 10 (m.answer.kind))) (jb { m with pc:=21 } 3 10 (m.answer.kind)) rfl rfl rfl rfl rfl (zc rfl (zc rfl (zc (zi own) rfl))) rfl rfl (dd ?_));exact ⟨.inl rfl,_,_,.refl _,rfl,zo.xa 4 (by (conv=>whnf);(repeat (refine ⟨rfl,uH ?_⟩));exact trivial) rfl rfl rfl (zH rfl (zH rfl (zH (qc low) rfl))) rfl⟩
theorem xJ {P:Program} {o:Oper} {σ:Operand->Value} {t t':TypeId} {x y:Operand} {k:IntKind} {n m:Int} (ho:o.op=.binOp .rem t x y t') (hx:σ x=.int k n) (hy:σ y=.int k m) (hm:m≠0):
  zbK P (execOp σ o)=some (.value (.int k (n.tmod m))):=by
 have hi:Op.intDiv .rem k n m=pure (.int k (n.tmod m)):=by unfold Op.intDiv;rw [if_neg hm]
 have hg:eqGuard .rem t x y (σ x) (σ y)=pure ():=rfl
 have hb:binOp .rem t (σ x) (σ y)=pure (.int k (n.tmod m)):=by
  rw [hx,hy];simp only [binOp,hi];exact if_neg (by simp)
 unfold execOp;rw [ho];dsimp only;rw [hg,hb]
 rfl
theorem zua {n:Int} (h:0<=n) (h':n < 18446744073709551616):IntKind.u64.wrap n=n:=by
 simp only [IntKind.wrap,IntKind.signed,IntKind.bits,Bool.false_and,Bool.false_eq_true,if_false];omega
abbrev hlt (c:Clu):List Int:=zaE c.zR c.zR.length
def wS (c:Clu) (n:Int):Int × Int:=if (hlt c).length=0 then (0,5) else (((hlt c)[(n % (hlt c).length).toNat]?).getD 0,0)
theorem zmz (c:Clu) (n:Int) (hn:u64 n) (hl:c.zR.length < 1000000000000) (hh:(hlt c).length<=c.zR.length):zb Tryz.prog 301 [] [Cc c,U n] (.tup [I (wS c n).1,I (wS c n).2]) []:=by
 have ml:((hlt c).map encI).length=(hlt c).length:=List.length_map ..;refine zb.zp (fn:=Tryz.f301) Tryz.func301 rfl (uH ?_);refine ⟨_,_,(wE c hl).frame rfl _,dd ?_⟩;rw [ml];refine ⟨fun h0=>?_,fun h0=>?_⟩
 ·unfold wS;have h0:=of_decide_eq_true h0;rw [if_pos (by omega)];exact uI
 ·unfold wS;have h0:=of_decide_eq_false h0;rw [if_neg (by omega)];refine dd ?_
  have hw:IntKind.u64.wrap ((((hlt c).map encI).length:Nat):Int)≠0:=by
   have hk:=ml;have:IntKind.u64.wrap ((((hlt c).map encI).length:Nat):Int)=(hlt c).length:=by rw [ml];exact zua (by omega) (by omega)
   omega
  split
  rotate_left
  ·rename_i hno;exact (hno _ (xJ rfl rfl rfl hw)).elim
  ·rename_i v e;have e':=e.symm.trans (xJ rfl rfl rfl hw);cases e'
   refine dd ?_;have ew:IntKind.u64.wrap ((((hlt c).map encI).length:Nat):Int)=(hlt c).length:=by rw [ml];exact zua (by omega) (by omega)
   have et:n.tmod (IntKind.u64.wrap ((((hlt c).map encI).length:Nat):Int))=n % (hlt c).length:=by rw [ew];exact Int.tmod_eq_emod_of_nonneg hn.1
   have b0:0<=n % ((hlt c).length:Int):=Int.emod_nonneg _ h0;have b1:n % ((hlt c).length:Int) < (hlt c).length:=Int.emod_lt_of_pos _ (by omega);have hi:(n % ((hlt c).length:Int)).toNat < (hlt c).length:=by omega
   have gx:((hlt c).map encI)[(n.tmod (IntKind.u64.wrap ((((hlt c).map encI).length:Nat):Int))).toNat]?= some (encI ((hlt c)[(n % ((hlt c).length:Int)).toNat]'hi)):=by rw [et,List.getElem?_map,List.getElem?_eq_getElem hi];rfl
   refine ⟨by show 0<=n.tmod (IntKind.u64.wrap ((((hlt c).map encI).length:Nat):Int));rw [et];exact b0,_,gx,dd ?_⟩;rw [List.getElem?_eq_getElem hi];exact uI
theorem zlM (a x b y:Int):zb Tryz.prog 305 [] [I a,I x,I b,I y] (I (if y < x then b else a)) []:=by
 refine zb.zp (fn:=Tryz.f305) Tryz.func305 rfl (uH ?_);refine ⟨fun h=>?_,fun h=>?_⟩
 ·rw [if_pos (of_decide_eq_true h)];refine dd ?_;exact uI
 ·rw [if_neg (of_decide_eq_false h)];refine dd ?_;exact uI
theorem zdc (w:Wor) (m:Mac) (v:Ver) (g:Gr) (e:En) (hv:AtG w m v g) (o0:0<=m.other) (ho:g.ends[m.other.toNat]?= some e):
  zb Tryz.prog 263 [⟨1,28,8,[zJ w],0⟩,⟨1,97,44,[zD (m)],0⟩] [.agg [.ref 0 [] 8 0 0,.ref 1 [] 44 0 0]] (Ce (evV m v 1 7 e.zg)) [⟨1,28,8,[zJ w],0⟩,⟨1,97,44,[zD ({ m with end_:=if e.zg < m.i then m.other else m.end_,pc:=9 })],0⟩]:=by
 have er:(g.ends.map zu)[m.other.toNat]?= some (zu e):=by rw [List.getElem?_map,ho];rfl
 refine z6 (fn:=Tryz.f263) Tryz.func263 rfl (Nat.le_refl _) (uH ?_);refine .inl ⟨⟨true,[],[],[1]⟩,by kernel_rfl,uH ?_⟩;refine zq [0,1] (zep w m v g hv) rfl rfl rfl rfl rfl rfl (dd ?_);repeat (refine ⟨rfl,uH ?_⟩)
 (refine ⟨o0,_,er,dd ?_⟩)
 refine .inl ⟨⟨true,[],[],[15]⟩,by kernel_rfl,uH ?_⟩;refine ⟨_,_,(zlM m.end_ m.i m.other e.zg).frame rfl _,dd ?_⟩;repeat (refine ⟨rfl,uH ?_⟩)
 refine zq [0,1] (kh w { m with end_:=if e.zg < m.i then m.other else m.end_,pc:=9 } v ⟨hv.v0,hv.at_⟩ 1 7 e.zg) rfl rfl rfl rfl rfl rfl (dd ?_);exact ⟨.inl rfl,_,_,.refl _,rfl,cE 2⟩
structure LnE (w:Wor) (m:Mac) (v0:Ver) (g0:Gr):Prop where
 pv:0<=m.version
 lv:m.version.toNat < w.ze.length
 pg:0<=m.zf
 lg:m.zf.toNat < v0.zm.length
 pe:0<=m.end_
 le:m.end_.toNat < g0.ends.length
theorem AtE.ln {w:Wor} {m:Mac} {v0:Ver} {g0:Gr} {e0:En} (h:AtE w m v0 g0 e0):LnE w m v0 g0:=⟨h.v0,(List.getElem?_eq_some_iff.1 h.at_).1,h.g0,(List.getElem?_eq_some_iff.1 h.atg).1,h.e0,(List.getElem?_eq_some_iff.1 h.ate).1⟩
theorem zcH {P:Program} {f:FuncId} (sel:List Nat) (Kx:zk) {K H0 H':zk} {args args0:List C} {r rx:C} (h:zb P f H0 args0 r H') (hR:qK H'=true)
  (hH:xe sel K=H0) (ha:args.map (xH sel 9)=args0) (z5:sel.all (fun id=>Nat.blt id K.length)=true) (hnd:xS sel=true) (hfl:qK K=true) {k:C->zk->Prop}
  (hp:kJ sel K H'=Kx) (hr:yx (qT sel K.length) 9 r=rx) (hk:k rx Kx):∃ R,qw P f K args R∧∀ r H2,R r H2->k r H2:=
 ⟨fun x X=>x=rx∧X=Kx,(h.part sel hR hH ha z5 hnd hfl).toR ⟨hr,hp⟩,by rintro _ _ ⟨rfl,rfl⟩;exact hk⟩
theorem zaf (w:Wor) (m:Mac) (v0:Ver) (g0:Gr) (e0:En) (hv:LnE w m v0 g0):zb Tryz.prog 300 [⟨1,28,8,[(rwW w 2)],0⟩,⟨1,97,44,[zD (m)],0⟩,⟨1,0,5,rwV w m v0 3,0⟩,⟨1,0,2,rwG m v0 g0 g0.zr 4,0⟩,⟨1,0,3,rwE m g0 e0 e0.head 5 e0.zg,0⟩,⟨2,3,1,e0.next.map encI,0⟩] [.agg [.ref 0 [] 8 0 0,.ref 1 [] 44 0 0]] (.ref 3 [] 2 m.zf.toNat 0) [⟨1,28,8,[(rwW w 2)],0⟩,⟨1,97,44,[zD (m)],0⟩,⟨1,0,5,rwV w m v0 3,0⟩,⟨1,0,2,rwG m v0 g0 g0.zr 4,0⟩,⟨1,0,3,rwE m g0 e0 e0.head 5 e0.zg,0⟩,⟨2,3,1,e0.next.map encI,0⟩]:=by
 have h0:=hv.pv;have g0':=hv.pg;have lv:m.version.toNat < w.ze.length:=hv.lv;have lg:m.zf.toNat < v0.zm.length:=hv.lg;have lowV:∀ r ∈ rwV w m v0 3,∀ c ∈ r,qS 6 9 c=true:=zy (enc:=zI) (fun _=>rfl) rfl _ _;have lowG:∀ r ∈ rwG m v0 g0 g0.zr 4,∀ c ∈ r,qS 6 9 c=true:=zy (enc:=zE) (fun _=>rfl) rfl _ _;have lowE:∀ r ∈ rwE m g0 e0 e0.head 5 e0.zg,∀ c ∈ r,qS 6 9 c=true:=zy (enc:=zu) (fun _=>rfl) rfl _ _;have e1:0+m.version.toNat=m.version.toNat:=Nat.zero_add _;have e2:0+m.zf.toNat=m.zf.toNat:=Nat.zero_add _;have gv:(rwV w m v0 3)[m.version.toNat]?= some ((qJ v0.snap++[C.sl 3 [] 2 0 v0.zm.length false,Bo v0.qj])):=List.getElem?_set_self tP;refine z6 (fn:=Tryz.f300) Tryz.func300 rfl (Nat.le_refl _) (uH ?_);refine uE ?_;refine ⟨h0,lv,dd ?_⟩;rw [e1];refine ⟨_,gv,(by show 3+1<=5;decide),dd ?_⟩;refine ⟨g0',lg,dd ?_⟩;rw [e2];exact ⟨.inl rfl,_,_,.refl _,rfl,zo.xa 6 (by (conv=>whnf);(repeat (refine ⟨rfl,uH ?_⟩));exact trivial) rfl rfl rfl (zH rfl (zH rfl (zH (qc lowV) (zH (qc lowG) (zH (qc lowE) rfl))))) rfl⟩
theorem y6 (w:Wor) (m:Mac) (v0:Ver) (g0:Gr) (e0:En) (hv:LnE w m v0 g0):zb Tryz.prog 304 [⟨1,28,8,[(rwW w 2)],0⟩,⟨1,97,44,[zD (m)],0⟩,⟨1,0,5,rwV w m v0 3,0⟩,⟨1,0,2,rwG m v0 g0 g0.zr 4,0⟩,⟨1,0,3,rwE m g0 e0 e0.head 5 e0.zg,0⟩,⟨2,3,1,e0.next.map encI,0⟩] [.agg [.ref 0 [] 8 0 0,.ref 1 [] 44 0 0]] (.ref 4 [] 3 m.end_.toNat 0) [⟨1,28,8,[(rwW w 2)],0⟩,⟨1,97,44,[zD (m)],0⟩,⟨1,0,5,rwV w m v0 3,0⟩,⟨1,0,2,rwG m v0 g0 g0.zr 4,0⟩,⟨1,0,3,rwE m g0 e0 e0.head 5 e0.zg,0⟩,⟨2,3,1,e0.next.map encI,0⟩]:=by
 have h0:=hv.pe;have lg:m.zf.toNat < v0.zm.length:=hv.lg;have le:m.end_.toNat < g0.ends.length:=hv.le;have ownV:∀ r ∈ rwV w m v0 3,∀ c ∈ r,zx c=true:=zy (enc:=zI) (fun _=>rfl) rfl _ _;have ownG:∀ r ∈ rwG m v0 g0 g0.zr 4,∀ c ∈ r,zx c=true:=zy (enc:=zE) (fun _=>rfl) rfl _ _;have ownE:∀ r ∈ rwE m g0 e0 e0.head 5 e0.zg,∀ c ∈ r,zx c=true:=zy (enc:=zu) (fun _=>rfl) rfl _ _;have lowV:∀ r ∈ rwV w m v0 3,∀ c ∈ r,qS 6 9 c=true:=zy (enc:=zI) (fun _=>rfl) rfl _ _;have lowG:∀ r ∈ rwG m v0 g0 g0.zr 4,∀ c ∈ r,qS 6 9 c=true:=zy (enc:=zE) (fun _=>rfl) rfl _ _;have lowE:∀ r ∈ rwE m g0 e0 e0.head 5 e0.zg,∀ c ∈ r,qS 6 9 c=true:=zy (enc:=zu) (fun _=>rfl) rfl _ _;have e2:0+m.end_.toNat=m.end_.toNat:=Nat.zero_add _;have gg:(rwG m v0 g0 g0.zr 4)[m.zf.toNat]?= some ([U g0.zr,C.sl 4 [] 3 0 g0.ends.length false]):=List.getElem?_set_self tN;refine z6 (fn:=Tryz.f304) Tryz.func304 rfl (Nat.le_refl _) (uH ?_);refine .inl ⟨⟨true,[],[],[1]⟩,by kernel_rfl,uH ?_⟩;refine zV [0,1,2,3,4,5] [⟨1,28,8,[(rwW w 2)],0⟩,⟨1,97,44,[zD (m)],0⟩,⟨1,0,5,rwV w m v0 3,0⟩,⟨1,0,2,rwG m v0 g0 g0.zr 4,0⟩,⟨1,0,3,rwE m g0 e0 e0.head 5 e0.zg,0⟩,⟨2,3,1,e0.next.map encI,0⟩,⟨1,256,2,[[.ref 0 [] 8 0 0,.ref 1 [] 44 0 0]],0⟩] (rx:=.ref 3 [] 2 m.zf.toNat 0) (zaf w m v0 g0 e0 hv) (zc rfl (zc rfl (zc (zi ownV) (zc (zi ownG) (zc (zi ownE) rfl))))) uT rfl rfl rfl (zc rfl (zc rfl (zc (zi ownV) (zc (zi ownG) (zc (zi ownE) rfl))))) uU rfl (dd ?_);refine ⟨_,gg,(by show 1+1<=2;decide),dd ?_⟩;refine ⟨h0,le,dd ?_⟩;rw [e2];exact ⟨.inl rfl,_,_,.refl _,rfl,zo.xa 6 (by (conv=>whnf);(repeat (refine ⟨rfl,uH ?_⟩));exact trivial) rfl rfl rfl (zH rfl (zH rfl (zH (qc lowV) (zH (qc lowG) (zH (qc lowE) rfl))))) rfl⟩
theorem zl3 (w:Wor) (m:Mac) (v0:Ver) (g0:Gr) (e0:En) (hv:LnE w m v0 g0) (a b c:Int):zb Tryz.prog 303 [⟨1,28,8,[(rwW w 2)],0⟩,⟨1,97,44,[zD (m)],0⟩,⟨1,0,5,rwV w m v0 3,0⟩,⟨1,0,2,rwG m v0 g0 g0.zr 4,0⟩,⟨1,0,3,rwE m g0 e0 e0.head 5 e0.zg,0⟩,⟨2,3,1,e0.next.map encI,0⟩] [.agg [.ref 0 [] 8 0 0,.ref 1 [] 44 0 0],I a,I b,I c] (Ce (evV m v0 a b c)) [⟨1,28,8,[(rwW w 2)],0⟩,⟨1,97,44,[zD (m)],0⟩,⟨1,0,5,rwV w m v0 3,0⟩,⟨1,0,2,rwG m v0 g0 g0.zr 4,0⟩,⟨1,0,3,rwE m g0 e0 e0.head 5 e0.zg,0⟩,⟨2,3,1,e0.next.map encI,0⟩]:=by
 have h0:=hv.pv;have lv:m.version.toNat < w.ze.length:=hv.lv;have e1:0+m.version.toNat=m.version.toNat:=Nat.zero_add _
 clear hv
 obtain ⟨sn,gs,fr⟩:=v0;cases fr
 all_goals
  have ownV:∀ b,∀ r ∈ (w.ze.map zI).set m.version.toNat (qJ sn++[C.sl 3 [] 2 0 gs.length false,Bo b]),∀ c ∈ r,zx c=true:=fun b=>zy (enc:=zI) (fun _=>rfl) rfl _ _
  have ownG:∀ r ∈ (gs.map zE).set m.zf.toNat ([U g0.zr,C.sl 4 [] 3 0 g0.ends.length false]),∀ c ∈ r,zx c=true:=zy (enc:=zE) (fun _=>rfl) rfl _ _;have ownE:∀ r ∈ rwE m g0 e0 e0.head 5 e0.zg,∀ c ∈ r,zx c=true:=zy (enc:=zu) (fun _=>rfl) rfl _ _;have lowV:∀ b,∀ r ∈ (w.ze.map zI).set m.version.toNat (qJ sn++[C.sl 3 [] 2 0 gs.length false,Bo b]),∀ c ∈ r,qS 6 9 c=true:=fun b=>zy (enc:=zI) (fun _=>rfl) rfl _ _
  have gv:∀ b,((w.ze.map zI).set m.version.toNat (qJ sn++[C.sl 3 [] 2 0 gs.length false,Bo b]))[m.version.toNat]?= some (qJ sn++[C.sl 3 [] 2 0 gs.length false,Bo b]):=fun b=>List.getElem?_set_self tP
  have lowG:∀ r ∈ (gs.map zE).set m.zf.toNat ([U g0.zr,C.sl 4 [] 3 0 g0.ends.length false]),∀ c ∈ r,qS 6 9 c=true:=zy (enc:=zE) (fun _=>rfl) rfl _ _;have lowE:∀ r ∈ rwE m g0 e0 e0.head 5 e0.zg,∀ c ∈ r,qS 6 9 c=true:=zy (enc:=zu) (fun _=>rfl) rfl _ _;refine z6 (fn:=Tryz.f303) Tryz.func303 rfl (Nat.le_refl _) (uH ?_);refine zV [1] [⟨1,28,8,[(rwW w 2)],0⟩,⟨1,97,44,[zD (m)],0⟩,⟨1,0,5,(w.ze.map zI).set m.version.toNat (qJ sn++[C.sl 3 [] 2 0 gs.length false,Bo _]),0⟩,⟨1,0,2,(gs.map zE).set m.zf.toNat ([U g0.zr,C.sl 4 [] 3 0 g0.ends.length false]),0⟩,⟨1,0,3,rwE m g0 e0 e0.head 5 e0.zg,0⟩,⟨2,3,1,e0.next.map encI,0⟩,⟨1,256,2,[[.ref 0 [] 8 0 0,.ref 1 [] 44 0 0]],0⟩,⟨1,62,23,[zQ qu],0⟩] (rx:=Ce (evO m a b c)) (jb m a b c) rfl rfl rfl rfl rfl (zc rfl (zc rfl (zc (zi (ownV _)) (zc (zi ownG) (zc (zi ownE) rfl))))) rfl rfl (dd ?_);refine .inl ⟨⟨false,[6,9,11,14,17],[0,1,2,6],[]⟩,by kernel_rfl,uH ?_⟩;refine ⟨h0,lv,dd ?_⟩;rw [e1];refine ⟨_,gv _,(by show 4+1<=5;decide),dd ?_⟩
  first | ((refine ⟨fun _=>dd ?_,fun h=>absurd (h.symm.trans rfl:false=true) (by decide)⟩)) | ((refine ⟨fun h=>absurd (h.symm.trans rfl:true=false) (by decide),fun _=>dd ?_⟩))
  repeat (refine ⟨rfl,uH ?_⟩)
  exact ⟨.inl rfl,_,_,.refl _,rfl,zo.xa 6 (by (conv=>whnf);(repeat (refine ⟨rfl,uH ?_⟩));exact trivial) rfl rfl rfl (zH rfl (zH rfl (zH (qc (lowV _)) (zH (qc lowG) (zH (qc lowE) rfl))))) rfl⟩
abbrev ztH (e:En) (n:Int):En:={ e with zg:=IntKind.i64.wrap (e.zg+n) }
theorem zh0 (w:Wor) (m:Mac) (v0:Ver) (g0:Gr) (e0:En) (hv:LnE w m v0 g0):zb Tryz.prog 267 [⟨1,28,8,[(rwW w 2)],0⟩,⟨1,97,44,[zD (m)],0⟩,⟨1,0,5,rwV w m v0 3,0⟩,⟨1,0,2,rwG m v0 g0 g0.zr 4,0⟩,⟨1,0,3,rwE m g0 e0 e0.head 5 e0.zg,0⟩,⟨2,3,1,e0.next.map encI,0⟩] [.agg [.ref 0 [] 8 0 0,.ref 1 [] 44 0 0]] (Ce (evV m v0 3 7 (IntKind.i64.wrap (e0.zg+1))))
  [⟨1,28,8,[(rwW w 2)],0⟩,⟨1,97,44,[zD ({ m with answer:=⟨1,m.version,m.zf,m.end_,m.slot,m.listen,0,⟨0,0,0,0,0,0⟩⟩,pc:=20 })],0⟩,⟨1,0,5,rwV w m v0 3,0⟩,⟨1,0,2,rwG m v0 g0 g0.zr 4,0⟩,⟨1,0,3,(g0.ends.map zu).set m.end_.toNat [U e0.head,C.sl 5 [] 1 0 e0.next.length false,I (IntKind.i64.wrap (e0.zg+1))],0⟩,⟨2,3,1,e0.next.map encI,0⟩]:=by
 have le:=hv.le;have ownV:∀ r ∈ rwV w m v0 3,∀ c ∈ r,zx c=true:=zy (enc:=zI) (fun _=>rfl) rfl _ _;have ownG:∀ r ∈ rwG m v0 g0 g0.zr 4,∀ c ∈ r,zx c=true:=zy (enc:=zE) (fun _=>rfl) rfl _ _;have ownE:∀ r ∈ rwE m g0 e0 e0.head 5 e0.zg,∀ c ∈ r,zx c=true:=zy (enc:=zu) (fun _=>rfl) rfl _ _;have ge:(rwE m g0 e0 e0.head 5 e0.zg)[m.end_.toNat]?= some ([U e0.head,C.sl 5 [] 1 0 e0.next.length false,I e0.zg]):=List.getElem?_set_self tK;refine z6 (fn:=Tryz.f267) Tryz.func267 rfl (Nat.le_refl _) (uH ?_);refine zcH [0,1,2,3,4,5] [⟨1,28,8,[(rwW w 2)],0⟩,⟨1,97,44,[zD (m)],0⟩,⟨1,0,5,rwV w m v0 3,0⟩,⟨1,0,2,rwG m v0 g0 g0.zr 4,0⟩,⟨1,0,3,rwE m g0 e0 e0.head 5 e0.zg,0⟩,⟨2,3,1,e0.next.map encI,0⟩,⟨1,256,2,[[.ref 0 [] 8 0 0,.ref 1 [] 44 0 0]],0⟩,⟨1,62,23,[zQ qu],0⟩] (rx:=.ref 4 [] 3 m.end_.toNat 0) (y6 w m v0 g0 e0 hv) (zc rfl (zc rfl (zc (zi ownV) (zc (zi ownG) (zc (zi ownE) rfl))))) uT rfl rfl rfl (zc rfl (zc rfl (zc (zi ownV) (zc (zi ownG) (zc (zi ownE) rfl))))) uU rfl (dd ?_);refine ⟨_,ge,(by show 2+1<=3;decide),dd ?_⟩;refine ⟨_,ge,rfl,dd ?_⟩;rw [List.set_set];refine uE ?_;have ownE2:∀ r ∈ (g0.ends.map zu).set m.end_.toNat [U e0.head,C.sl 5 [] 1 0 e0.next.length false,I (IntKind.i64.wrap (e0.zg+1))],∀ c ∈ r,zx c=true:=zy (enc:=zu) (fun _=>rfl) rfl _ _;refine .inl ⟨⟨true,[],[],[2,6]⟩,by kernel_rfl,uH ?_⟩;have hv2:LnE w { m with answer:=⟨1,m.version,m.zf,m.end_,m.slot,m.listen,0,⟨0,0,0,0,0,0⟩⟩,pc:=20 } v0 g0:=⟨hv.pv,hv.lv,hv.pg,hv.lg,hv.pe,hv.le⟩;have ge2:((g0.ends.map zu).set m.end_.toNat [U e0.head,C.sl 5 [] 1 0 e0.next.length false,I (IntKind.i64.wrap (e0.zg+1))])[m.end_.toNat]?= some [U e0.head,C.sl 5 [] 1 0 e0.next.length false,I (IntKind.i64.wrap (e0.zg+1))]:=List.getElem?_set_self tK;have lowV:∀ r ∈ rwV w m v0 3,∀ c ∈ r,qS 6 9 c=true:=zy (enc:=zI) (fun _=>rfl) rfl _ _;have lowG:∀ r ∈ rwG m v0 g0 g0.zr 4,∀ c ∈ r,qS 6 9 c=true:=zy (enc:=zE) (fun _=>rfl) rfl _ _;have lowE:∀ r ∈ (g0.ends.map zu).set m.end_.toNat [U e0.head,C.sl 5 [] 1 0 e0.next.length false,I (IntKind.i64.wrap (e0.zg+1))],∀ c ∈ r,qS 6 9 c=true:=zy (enc:=zu) (fun _=>rfl) rfl _ _;refine zV [0,1,2,3,4,5] [⟨1,28,8,[(rwW w 2)],0⟩,⟨1,97,44,[zD ({ m with answer:=⟨1,m.version,m.zf,m.end_,m.slot,m.listen,0,⟨0,0,0,0,0,0⟩⟩,pc:=20 })],0⟩,⟨1,0,5,rwV w m v0 3,0⟩,⟨1,0,2,rwG m v0 g0 g0.zr 4,0⟩,⟨1,0,3,(g0.ends.map zu).set m.end_.toNat [U e0.head,C.sl 5 [] 1 0 e0.next.length false,I (IntKind.i64.wrap (e0.zg+1))],0⟩,⟨2,3,1,e0.next.map encI,0⟩,⟨1,256,2,[[.ref 0 [] 8 0 0,.ref 1 [] 44 0 0]],0⟩,⟨1,62,23,[zQ qu],0⟩] (rx:=.ref 4 [] 3 m.end_.toNat 0) (y6 w _ v0 g0 (ztH e0 1) hv2) (zc rfl (zc rfl (zc (zi ownV) (zc (zi ownG) (zc (zi ownE2) rfl))))) uT rfl rfl rfl (zc rfl (zc rfl (zc (zi ownV) (zc (zi ownG) (zc (zi ownE2) rfl))))) uU rfl (dd ?_);refine ⟨_,ge2,(by show 2+1<=3;decide),dd ?_⟩;refine zV [0,1,2,3,4,5] [⟨1,28,8,[(rwW w 2)],0⟩,⟨1,97,44,[zD ({ m with answer:=⟨1,m.version,m.zf,m.end_,m.slot,m.listen,0,⟨0,0,0,0,0,0⟩⟩,pc:=20 })],0⟩,⟨1,0,5,rwV w m v0 3,0⟩,⟨1,0,2,rwG m v0 g0 g0.zr 4,0⟩,⟨1,0,3,(g0.ends.map zu).set m.end_.toNat [U e0.head,C.sl 5 [] 1 0 e0.next.length false,I (IntKind.i64.wrap (e0.zg+1))],0⟩,⟨2,3,1,e0.next.map encI,0⟩,⟨1,256,2,[[.ref 0 [] 8 0 0,.ref 1 [] 44 0 0]],0⟩,⟨1,62,23,[zQ qu],0⟩] (rx:=Ce (evV m v0 3 7 (IntKind.i64.wrap (e0.zg+1)))) (zl3 w _ v0 g0 (ztH e0 1) hv2 3 7 (IntKind.i64.wrap (e0.zg+1))) (zc rfl (zc rfl (zc (zi ownV) (zc (zi ownG) (zc (zi ownE2) rfl))))) uT rfl rfl rfl (zc rfl (zc rfl (zc (zi ownV) (zc (zi ownG) (zc (zi ownE2) rfl))))) uU rfl (dd ?_);exact ⟨.inl rfl,_,_,.refl _,rfl,zo.xa 6 (by (conv=>whnf);(repeat (refine ⟨rfl,uH ?_⟩));exact trivial) rfl rfl rfl (zH rfl (zH rfl (zH (qc lowV) (zH (qc lowG) (zH (qc lowE) rfl))))) rfl⟩
end Go.Wor
