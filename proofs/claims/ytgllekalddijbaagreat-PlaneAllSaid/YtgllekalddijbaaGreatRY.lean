import Derived.Test.YtgllekalddijbaaGreatRX
set_option linter.unusedVariables false
set_option linter.unusedSimpArgs false
set_option linter.unusedSectionVars false
set_option maxRecDepth 100000
set_option maxHeartbeats 4000000
namespace Go.Wor
open Go.Ab Go.Proofs Go.Hy Go.Gat Go.Nam Go.Hos Go.Con Go.Sna
theorem xB (w:Wor) (m:Mac) (v:Ver) (hv:AtV w m v) (a b c:Int):zc Tryz.prog 216 [] [Cw w,Cm m,I a,I b,I c] (Ce (evV m v a b c)) []:=by
 have h0:=hv.v0
 have hr:=hv.row
 obtain ⟨sn,gs,fr⟩:=v
 cases fr
 all_goals
  refine zc.zr (fn:=Tryz.f216) Tryz.func216 rfl ?_
  conv=>whnf
  refine .inl ⟨⟨false,[],[],[]⟩,by kernel_rfl,?_⟩;(conv=>whnf)
  (refine ⟨h0,_,hr,?_⟩);refine dd ?_
  first | ((refine ⟨fun _=>?_,fun h=>absurd (h.symm.trans rfl:false=true) (by decide)⟩);refine dd ?_) | ((refine ⟨fun h=>absurd (h.symm.trans rfl:true=false) (by decide),fun _=>?_⟩);refine dd ?_)
  exact ⟨.inl rfl,_,.refl _,rfl⟩
theorem zc6 (w:Wor) (m:Mac) (v:Ver) (g:Gr) (e:En) (sw:ja w) (ok:OkW w) (hl:i64 m.listen) (hpc:m.pc=0) (hs:qc w m=true) (hat:AtE w m v g e) (hw:u64 m.word) (hh:u64 e.head):
  zc Tryz.prog 153 [] [Cw w,Cm m] (.tup [Cw w,Cm { m with word:=e.head,pc:=1 },Ce (evV m v 1 8 (e.head % 4294967296 - 1))]) []:=by
 have a0:=hat.v0
 have a1:=hat.toAtV.row
 have b0:=hat.g0
 have b1:(v.zf.map zp)[m.zg.toNat]?= some (zp g):=by rw [List.getElem?_map,hat.atg];rfl
 have c0:=hat.e0
 have c1:(g.ends.map zn)[m.end_.toNat]?= some (zn e):=by rw [List.getElem?_map,hat.ate];rfl
 refine zc.zr (fn:=Tryz.f153) Tryz.func153 rfl ?_
 conv=>whnf
 (repeat (first | (refine ⟨fun _=>?_,?_⟩;rotate_left 1;(focus (intro h;first | (simp [hpc] at h;done) | (have h:=of_decide_eq_true h;omega) | (have h:=of_decide_eq_false h;omega)));(refine dd ?_)) | (refine ⟨?_,fun _=>?_⟩;(focus (intro h;first | (simp [hpc] at h;done) | (have h:=of_decide_eq_true h;omega) | (have h:=of_decide_eq_false h;omega)));(refine dd ?_))))
 refine ⟨_,_,(zU w m ok hl).frame rfl _,?_⟩;refine dd ?_
 refine ⟨fun _=>?_,fun h=>absurd ((hs).symm.trans h:true=false) (by decide)⟩;refine dd ?_
 (repeat (first | (refine ⟨fun _=>?_,?_⟩;rotate_left 1;(focus (intro h;first | (simp [hpc] at h;done) | (have h:=of_decide_eq_true h;omega) | (have h:=of_decide_eq_false h;omega)));(refine dd ?_)) | (refine ⟨?_,fun _=>?_⟩;(focus (intro h;first | (simp [hpc] at h;done) | (have h:=of_decide_eq_true h;omega) | (have h:=of_decide_eq_false h;omega)));(refine dd ?_))))
 (repeat ((first | apply ya | apply yb);refine dd ?_))
 refine ⟨_,_,(qs w sw).frame rfl _,?_⟩;refine dd ?_
 refine .inl ⟨⟨false,[],[],[]⟩,by kernel_rfl,?_⟩;(conv=>whnf)
 (refine ⟨a0,_,a1,?_⟩);refine dd ?_
 (refine ⟨b0,_,b1,?_⟩);refine dd ?_
 (refine ⟨c0,_,c1,?_⟩);refine dd ?_
 refine ⟨_,_,(Slp.qg m.word hw).frame rfl _,?_⟩;refine dd ?_
 refine .inr ⟨⟨[0,1,5,6,7],[0,1],true⟩,by kernel_rfl,fun _=>rfl,_,?_,fun t2 H2 h=>h⟩;(conv=>whnf)
 refine ⟨_,zc.blind [] (Slp.qg e.head hh) rfl rfl rfl rfl rfl rfl rfl (fun _=>rfl) (fun _=>rfl),?_⟩;(conv=>whnf)
 refine ⟨_,zc.blind [] (xB w m v hat.toAtV 1 8 (e.head % 4294967296 - 1)) rfl rfl rfl rfl rfl rfl rfl (fun _=>rfl) (fun _=>rfl),?_⟩;(conv=>whnf)
 (refine ⟨?_,trivial⟩);(conv=>whnf);(repeat (refine ⟨rfl,?_⟩;(conv=>whnf)))
 (refine ⟨?_,trivial⟩);(conv=>whnf);(repeat (refine ⟨rfl,?_⟩;(conv=>whnf)))
 (refine ⟨_,_,.refl _,?_⟩);(conv=>whnf)
 (repeat (first | (refine ⟨fun _=>?_,?_⟩;rotate_left 1;(focus (intro h;first | (simp [hpc] at h;done) | (have h:=of_decide_eq_true h;omega) | (have h:=of_decide_eq_false h;omega)));(refine dd ?_)) | (refine ⟨?_,fun _=>?_⟩;(focus (intro h;first | (simp [hpc] at h;done) | (have h:=of_decide_eq_true h;omega) | (have h:=of_decide_eq_false h;omega)));(refine dd ?_))))
 refine vf.go rfl ?_;conv=>whnf
 rw [show IntKind.i64.wrap (m.pc+1)=1 from by rw [hpc];rfl]
 refine .inl ⟨⟨false,[0,1,2],[5,1,6],[]⟩,by kernel_rfl,?_⟩;(conv=>whnf)
 repeat (refine ⟨rfl,?_⟩;conv=>whnf)
 exact ⟨.inl rfl,_,.refl _,rfl⟩
abbrev zlj (m:Mac):Eve:={ qC with zo:=m.zo,access:=1,version:= -1,done:=true,answer:=zcn 7 }
theorem zdb (w:Wor) (m:Mac) (v:Ver) (g:Gr) (e:En) (sw:ja w) (ok:OkW w) (hl:i64 m.listen) (hpc:m.pc=9) (hs:qc w m=true) (hat:AtE w m v g e) (hw:u64 m.word) (hh:u64 e.head):
  zc Tryz.prog 153 [] [Cw w,Cm m] (.tup [Cw w,Cm { m with answer:=zcn 7,done:=true },Ce (zlj m)]) []:=by
 have a0:=hat.v0
 have a1:=hat.toAtV.row
 have b0:=hat.g0
 have b1:(v.zf.map zp)[m.zg.toNat]?= some (zp g):=by rw [List.getElem?_map,hat.atg];rfl
 have c0:=hat.e0
 have c1:(g.ends.map zn)[m.end_.toNat]?= some (zn e):=by rw [List.getElem?_map,hat.ate];rfl
 refine zc.zr (fn:=Tryz.f153) Tryz.func153 rfl ?_
 conv=>whnf
 (repeat (first | (refine ⟨fun _=>?_,?_⟩;rotate_left 1;(focus (intro h;first | (simp [hpc] at h;done) | (have h:=of_decide_eq_true h;omega) | (have h:=of_decide_eq_false h;omega)));(refine dd ?_)) | (refine ⟨?_,fun _=>?_⟩;(focus (intro h;first | (simp [hpc] at h;done) | (have h:=of_decide_eq_true h;omega) | (have h:=of_decide_eq_false h;omega)));(refine dd ?_))))
 refine ⟨_,_,(zU w m ok hl).frame rfl _,?_⟩;refine dd ?_
 refine ⟨fun _=>?_,fun h=>absurd ((hs).symm.trans h:true=false) (by decide)⟩;refine dd ?_
 (repeat (first | (refine ⟨fun _=>?_,?_⟩;rotate_left 1;(focus (intro h;first | (simp [hpc] at h;done) | (have h:=of_decide_eq_true h;omega) | (have h:=of_decide_eq_false h;omega)));(refine dd ?_)) | (refine ⟨?_,fun _=>?_⟩;(focus (intro h;first | (simp [hpc] at h;done) | (have h:=of_decide_eq_true h;omega) | (have h:=of_decide_eq_false h;omega)));(refine dd ?_))))
 (repeat ((first | apply ya | apply yb);refine dd ?_))
 refine ⟨_,_,(qs w sw).frame rfl _,?_⟩;refine dd ?_
 refine .inl ⟨⟨false,[],[],[]⟩,by kernel_rfl,?_⟩;(conv=>whnf)
 (refine ⟨a0,_,a1,?_⟩);refine dd ?_
 (refine ⟨b0,_,b1,?_⟩);refine dd ?_
 (refine ⟨c0,_,c1,?_⟩);refine dd ?_
 refine ⟨_,_,(Slp.qg m.word hw).frame rfl _,?_⟩;refine dd ?_
 refine .inr ⟨⟨[0,1,5,6,7],[0,1],true⟩,by kernel_rfl,fun _=>rfl,_,?_,fun t2 H2 h=>h⟩;(conv=>whnf)
 refine ⟨_,zc.blind [] (Slp.qg e.head hh) rfl rfl rfl rfl rfl rfl rfl (fun _=>rfl) (fun _=>rfl),?_⟩;(conv=>whnf)
 refine ⟨_,zc.blind [] (xB w m v hat.toAtV 1 8 (e.head % 4294967296 - 1)) rfl rfl rfl rfl rfl rfl rfl (fun _=>rfl) (fun _=>rfl),?_⟩;(conv=>whnf)
 (refine ⟨?_,trivial⟩);(conv=>whnf);(repeat (refine ⟨rfl,?_⟩;(conv=>whnf)))
 (refine ⟨?_,trivial⟩);(conv=>whnf);(repeat (refine ⟨rfl,?_⟩;(conv=>whnf)))
 (refine ⟨_,_,.refl _,?_⟩);(conv=>whnf)
 (repeat (first | (refine ⟨fun _=>?_,?_⟩;rotate_left 1;(focus (intro h;first | (simp [hpc] at h;done) | (have h:=of_decide_eq_true h;omega) | (have h:=of_decide_eq_false h;omega)));(refine dd ?_)) | (refine ⟨?_,fun _=>?_⟩;(focus (intro h;first | (simp [hpc] at h;done) | (have h:=of_decide_eq_true h;omega) | (have h:=of_decide_eq_false h;omega)));(refine dd ?_))))
 refine vf.go rfl ?_;conv=>whnf
 refine .inl ⟨⟨false,[0,1,2],[5,1,6],[]⟩,by kernel_rfl,?_⟩;(conv=>whnf)
 repeat (refine ⟨rfl,?_⟩;conv=>whnf)
 exact ⟨.inl rfl,_,.refl _,rfl⟩
end Go.Wor
namespace Go.Wor
open Go.Ab Go.Proofs Go.Hy Go.Gat Go.Nam Go.Hos Go.Con Go.Sna
theorem zc9 (w:Wor) (m:Mac) (v0:Ver) (g0:Gr) (e0:En) (sw:ja w) (ok:OkW w) (hl:i64 m.listen) (hpc:m.pc=3) (hs:qc w m=true) (hat:AtE w m v0 g0 e0) (hne:e0.next≠[]) (hw:u64 m.word) (hh:u64 e0.head) {tk hd ac:Int} (htk:tk=g0.zl) (hhd:hd=e0.head) (hac:ac=IntKind.i64.wrap (e0.zj - 1)):
  zc Tryz.prog 153 [] [Cw w,Cm m] (.tup [Cw (yB w m v0 g0 e0 tk hd ac),Cm { m with pc:=4 },Ce (evV m v0 3 7 ac)]) []:=by
 have lv:=hat.ln.lv
 have lg:=hat.ln.lg
 have le:=hat.ln.le
 have smv:=sw.zd.2 v0 (List.mem_of_getElem? hat.at_)
 have hp:zbO w.zd m.version.toNat v0 m.zg.toNat g0 m.end_.toNat e0:=⟨⟨⟨smv.2 g0 (List.mem_of_getElem? hat.atg),hat.ate,hne⟩,smv,hat.atg⟩,sw.zd,hat.at_⟩
 have ownV:∀ i,∀ r ∈ (w.zd.map zw).set m.version.toNat ((zJ v0.snap++[C.sl (i) [] 2 0 v0.zf.length false,Bo v0.zC])),∀ c ∈ r,zy c=true:=fun i=>zx (enc:=zw) (fun _=>rfl) rfl _ _
 have ownG:∀ i t,∀ r ∈ (v0.zf.map zp).set m.zg.toNat ([U (t),C.sl (i) [] 3 0 g0.ends.length false]),∀ c ∈ r,zy c=true:=fun i t=>zx (enc:=zp) (fun _=>rfl) rfl _ _
 have ownE:∀ i a b,∀ r ∈ (g0.ends.map zn).set m.end_.toNat ([U (a),C.sl (i) [] 1 0 e0.next.length false,I (b)]),∀ c ∈ r,zy c=true:=fun i a b=>zx (enc:=zn) (fun _=>rfl) rfl _ _
 have gv:((w.zd.map zw).set m.version.toNat ((zJ v0.snap++[C.sl (6) [] 2 0 v0.zf.length false,Bo v0.zC])))[m.version.toNat]?= some ((zJ v0.snap++[C.sl (6) [] 2 0 v0.zf.length false,Bo v0.zC])):=List.getElem?_set_self (by simpa using lv)
 have gg:((v0.zf.map zp).set m.zg.toNat ([U (tk),C.sl (7) [] 3 0 g0.ends.length false]))[m.zg.toNat]?= some ([U (tk),C.sl (7) [] 3 0 g0.ends.length false]):=List.getElem?_set_self (by simpa using lg)
 have ge:((g0.ends.map zn).set m.end_.toNat ([U (hd),C.sl (8) [] 1 0 e0.next.length false,I (ac)]))[m.end_.toNat]?= some ([U (hd),C.sl (8) [] 1 0 e0.next.length false,I (ac)]):=List.getElem?_set_self (by simpa using le)
 have estE:(((g0.ends.map zn).set m.end_.toNat ([U (hd),C.sl (8) [] 1 0 e0.next.length false,I (ac)])).set m.end_.toNat [U hd,C.lst 0 1 (e0.next.map encI),I ac])=(g0.ends.set m.end_.toNat (qQ e0 hd ac)).map zn:=by rw [List.set_set];exact qM zn _ _ (qQ e0 hd ac) _ rfl
 have estG:(((v0.zf.map zp).set m.zg.toNat ([U (tk),C.sl (7) [] 3 0 g0.ends.length false])).set m.zg.toNat [U tk,C.lst 0 3 (((g0.ends.set m.end_.toNat (qQ e0 hd ac)).map zn))])=(v0.zf.set m.zg.toNat (xj m g0 e0 tk hd ac)).map zp:=by rw [List.set_set];exact qM zp _ _ (xj m g0 e0 tk hd ac) _ rfl
 have estV:(((w.zd.map zw).set m.version.toNat ((zJ v0.snap++[C.sl (6) [] 2 0 v0.zf.length false,Bo v0.zC]))).set m.version.toNat (zJ v0.snap++[C.lst 0 2 (((v0.zf.set m.zg.toNat (xj m g0 e0 tk hd ac)).map zp)),Bo v0.zC]))=(w.zd.set m.version.toNat (ju m v0 g0 e0 tk hd ac)).map zw:=by rw [List.set_set];exact qM zw _ _ (ju m v0 g0 e0 tk hd ac) _ rfl
 have eshE:∀ r ∈ (((g0.ends.map zn).set m.end_.toNat ([U (hd),C.sl (8) [] 1 0 e0.next.length false,I (ac)])).set m.end_.toNat [U hd,C.lst 0 1 (e0.next.map encI),I ac]),∀ c ∈ r,qF c=true∧zy c=true:=by
  rw [estE]
  exact shut_map (enc:=zn) (fun _=>rfl) _
 have eshG:∀ r ∈ (((v0.zf.map zp).set m.zg.toNat ([U (tk),C.sl (7) [] 3 0 g0.ends.length false])).set m.zg.toNat [U tk,C.lst 0 3 (((g0.ends.map zn).set m.end_.toNat ([U (hd),C.sl (8) [] 1 0 e0.next.length false,I (ac)])).set m.end_.toNat [U hd,C.lst 0 1 (e0.next.map encI),I ac])]),∀ c ∈ r,qF c=true∧zy c=true:=by
  rw [estE,estG]
  exact shut_map (enc:=zp) (fun _=>rfl) _
 have eshV:∀ r ∈ (((w.zd.map zw).set m.version.toNat ((zJ v0.snap++[C.sl (6) [] 2 0 v0.zf.length false,Bo v0.zC]))).set m.version.toNat (zJ v0.snap++[C.lst 0 2 (((v0.zf.map zp).set m.zg.toNat ([U (tk),C.sl (7) [] 3 0 g0.ends.length false])).set m.zg.toNat [U tk,C.lst 0 3 (((g0.ends.map zn).set m.end_.toNat ([U (hd),C.sl (8) [] 1 0 e0.next.length false,I (ac)])).set m.end_.toNat [U hd,C.lst 0 1 (e0.next.map encI),I ac])]),Bo v0.zC])),∀ c ∈ r,qF c=true∧zy c=true:=by
  rw [estE,estG,estV]
  exact shut_map (enc:=zw) (fun _=>rfl) _
 have a0:=hat.v0
 have b0:=hat.g0
 have c0:=hat.e0
 have e1:0+m.version.toNat=m.version.toNat:=Nat.zero_add _
 have e2:0+m.zg.toNat=m.zg.toNat:=Nat.zero_add _
 have e3:0+m.end_.toNat=m.end_.toNat:=Nat.zero_add _
 have gg0:((v0.zf.map zp).set m.zg.toNat ([U (g0.zl),C.sl (7) [] 3 0 g0.ends.length false]))[m.zg.toNat]?= some ([U (g0.zl),C.sl (7) [] 3 0 g0.ends.length false]):=List.getElem?_set_self (by simpa using lg)
 have ge0:((g0.ends.map zn).set m.end_.toNat ([U (e0.head),C.sl (8) [] 1 0 e0.next.length false,I (e0.zj)]))[m.end_.toNat]?= some ([U (e0.head),C.sl (8) [] 1 0 e0.next.length false,I (e0.zj)]):=List.getElem?_set_self (by simpa using le)
 refine zc.zr (fn:=Tryz.f153) Tryz.func153 rfl ?_
 conv=>whnf
 (repeat (first | (refine ⟨fun _=>?_,?_⟩;rotate_left 1;(focus (intro h;first | (simp [hpc] at h;done) | (have h:=of_decide_eq_true h;omega) | (have h:=of_decide_eq_false h;omega)));(refine dd ?_)) | (refine ⟨?_,fun _=>?_⟩;(focus (intro h;first | (simp [hpc] at h;done) | (have h:=of_decide_eq_true h;omega) | (have h:=of_decide_eq_false h;omega)));(refine dd ?_))))
 refine ⟨_,_,(zU w m ok hl).frame rfl _,?_⟩;refine dd ?_
 refine ⟨fun _=>?_,fun h=>absurd ((hs).symm.trans h:true=false) (by decide)⟩;refine dd ?_
 (repeat (first | (refine ⟨fun _=>?_,?_⟩;rotate_left 1;(focus (intro h;first | (simp [hpc] at h;done) | (have h:=of_decide_eq_true h;omega) | (have h:=of_decide_eq_false h;omega)));(refine dd ?_)) | (refine ⟨?_,fun _=>?_⟩;(focus (intro h;first | (simp [hpc] at h;done) | (have h:=of_decide_eq_true h;omega) | (have h:=of_decide_eq_false h;omega)));(refine dd ?_))))
 (repeat ((first | apply ya | apply yb);refine dd ?_))
 refine zT [] [⟨1,28,8,[z5 w],0⟩,⟨1,43,44,[zP m],0⟩,⟨1,28,8,[zeW],0⟩,⟨1,43,44,[zeM],0⟩,⟨1,81,23,[qB qC],0⟩,⟨1,0,5,(w.zd.map zw).set m.version.toNat ((zJ v0.snap++[C.sl (6) [] 2 0 v0.zf.length false,Bo v0.zC])),0⟩,⟨1,0,2,(v0.zf.map zp).set m.zg.toNat ([U (g0.zl),C.sl (7) [] 3 0 g0.ends.length false]),0⟩,⟨1,0,3,(g0.ends.map zn).set m.end_.toNat ([U (e0.head),C.sl (8) [] 1 0 e0.next.length false,I (e0.zj)]),0⟩,⟨2,3,1,e0.next.map encI,0⟩] (rx:=.agg [I w.zu,I w.current,I w.lock,lI w.pins,.sl 5 [] 5 0 w.zd.length false,lL w.ze,lCo w.counts,lR w.zt]) (xl w sw w.zd rfl hp) (zb (zi (ownV 1)) (zb (zi (ownG 2 _)) (zb (zi (ownE 3 _ _)) rfl))) rfl rfl rfl rfl rfl (by show _::_::_::_::_::zF _ ⟨1,0,5,_,0⟩::zF _ ⟨1,0,2,_,0⟩::zF _ ⟨1,0,3,_,0⟩::_=_;rw [zA (enc:=zw) (fun _=>rfl),zA (enc:=zp) (fun _=>rfl),zA (enc:=zn) (fun _=>rfl)];rfl) rfl ?_
 refine dd ?_
 refine .inl ⟨⟨false,[],[],[]⟩,by kernel_rfl,?_⟩;(conv=>whnf)
 refine ⟨a0,lv,?_⟩
 refine dd ?_
 rw [e1]
 refine ⟨_,gv,(by show 3+1<=5;decide),?_⟩
 refine dd ?_
 refine ⟨b0,lg,?_⟩
 refine dd ?_
 rw [e2]
 refine ⟨_,gg0,(by show 1+1<=2;decide),?_⟩
 refine dd ?_
 refine ⟨c0,le,?_⟩
 refine dd ?_
 rw [e3]
 refine ⟨_,_,(Slp.qg m.word hw).frame rfl _,?_⟩;refine dd ?_
 refine .inr ⟨⟨[0,1,5,6,7],[0,1,7],true⟩,by kernel_rfl,fun _=>(zb rfl (zb rfl (zb rfl (zb rfl (zb rfl (zb (zi (ownV 6)) (zb (zi (ownG 7 _)) (zb (zi (ownE 8 _ _)) rfl)))))))),_,?_,fun t2 H2 h=>h⟩
 conv=>whnf
 refine ⟨_,ge0,(by show 0+1<=3;decide),?_⟩
 conv=>whnf
 refine ⟨_,zc.blind [] (Slp.qg e0.head hh) rfl rfl rfl rfl rfl rfl rfl (fun _=>rfl) (fun _=>rfl),?_⟩;(conv=>whnf)
 refine ⟨_,zc.blind [] (xB w m v0 hat.toAtV 1 8 (e0.head % 4294967296 - 1)) rfl rfl rfl rfl rfl rfl rfl (fun _=>rfl) (fun _=>rfl),?_⟩;(conv=>whnf)
 (refine ⟨?_,trivial⟩);(conv=>whnf);(refine ⟨(zb rfl (zb rfl (zb rfl (zb rfl (zb rfl (zb (zi (ownV 6)) (zb (zi (ownG 7 _)) (zb (zi (ownE 8 _ _)) rfl)))))))),?_⟩);(conv=>whnf);(repeat (refine ⟨rfl,?_⟩;(conv=>whnf)))
 (refine ⟨?_,trivial⟩);(conv=>whnf);(refine ⟨(zb rfl (zb rfl (zb rfl (zb rfl (zb rfl (zb (zi (ownV 6)) (zb (zi (ownG 7 _)) (zb (zi (ownE 8 _ _)) rfl)))))))),?_⟩);(conv=>whnf);(repeat (refine ⟨rfl,?_⟩;(conv=>whnf)))
 (refine ⟨_,_,.refl _,?_⟩);(conv=>whnf)
 (repeat (first | (refine ⟨fun _=>?_,?_⟩;rotate_left 1;(focus (intro h;first | (simp [hpc] at h;done) | (have h:=of_decide_eq_true h;omega) | (have h:=of_decide_eq_false h;omega)));(refine dd ?_)) | (refine ⟨?_,fun _=>?_⟩;(focus (intro h;first | (simp [hpc] at h;done) | (have h:=of_decide_eq_true h;omega) | (have h:=of_decide_eq_false h;omega)));(refine dd ?_))))
 refine ⟨_,ge0,(by show 2+1<=3;decide),?_⟩
 refine dd ?_
 refine ⟨_,ge0,rfl,?_⟩
 refine dd ?_
 rw [List.set_set]
 subst htk hhd hac
 refine .inl ⟨⟨false,[3],[7],[]⟩,by kernel_rfl,?_⟩;(conv=>whnf)
 refine ⟨_,ge,(by show 2+1<=3;decide),?_⟩
 refine dd ?_
 (repeat (refine ⟨rfl,?_⟩;conv=>whnf))
 refine vf.go rfl ?_;conv=>whnf
 rw [show IntKind.i64.wrap (m.pc+1)=4 from by rw [hpc];rfl]
 refine .inl ⟨⟨false,[0,1,2],[9,1,10],[]⟩,by kernel_rfl,?_⟩;(conv=>whnf)
 repeat (refine ⟨rfl,?_⟩;conv=>whnf)
 refine ⟨.inl rfl,_,(((zq.zZ 7 m.end_.toNat 1 rfl ge rfl rfl (.inr rfl) (by simp) (by simp) (shut_map (enc:=encI) (fun _=>rfl) _) (ownE 8 _ _)).trans (zq.zZ 6 m.zg.toNat 1 rfl gg rfl rfl (.inl rfl) (by simp) (by simp) eshE (ownG 7 _))).trans (zq.zZ 5 m.version.toNat 3 rfl gv rfl rfl (.inl rfl) (by simp) (by simp) eshG (ownV 6))).trans (zq.zZ 2 0 4 rfl rfl rfl rfl (.inl rfl) (by simp) (by simp) eshV (qm rfl)),?_⟩
 show _=some (C.tup [C.agg [I w.zu,I w.current,I w.lock,lI w.pins,C.lst 0 5 ((w.zd.set m.version.toNat (ju m v0 g0 e0 g0.zl e0.head (IntKind.i64.wrap (e0.zj - 1)))).map zw),lL w.ze,lCo w.counts,lR w.zt],Cm { m with pc:=4 },Ce (evV m v0 3 7 (IntKind.i64.wrap (e0.zj - 1)))])
 rw [<- estV,<- estG,<- estE]
 rfl
end Go.Wor
namespace Go.Wor
open Go.Ab Go.Proofs Go.Hy Go.Gat Go.Nam Go.Hos Go.Con Go.Sna
theorem zc8 (w:Wor) (m:Mac) (v0:Ver) (g0:Gr) (e0:En) (sw:ja w) (ok:OkW w) (hl:i64 m.listen) (hpc:m.pc=2) (hs:qc w m=true) (hat:AtE w m v0 g0 e0) (hne:e0.next≠[]) (hw:u64 m.word) (hh:u64 e0.head) (heq:e0.head=m.word) (s0: -1<=m.slot) (s1:m.slot<=2147483646) {tk hd ac:Int} (htk:tk=g0.zl) (hhd:hd=Slp.z6 m.word m.slot) (hac:ac=e0.zj):
  zc Tryz.prog 153 [] [Cw w,Cm m] (.tup [Cw (yB w m v0 g0 e0 tk hd ac),Cm { m with pc:=3 },Ce { evV m v0 4 8 m.slot with wT:=true }]) []:=by
 have lv:=hat.ln.lv
 have lg:=hat.ln.lg
 have le:=hat.ln.le
 have smv:=sw.zd.2 v0 (List.mem_of_getElem? hat.at_)
 have hp:zbO w.zd m.version.toNat v0 m.zg.toNat g0 m.end_.toNat e0:=⟨⟨⟨smv.2 g0 (List.mem_of_getElem? hat.atg),hat.ate,hne⟩,smv,hat.atg⟩,sw.zd,hat.at_⟩
 have ownV:∀ i,∀ r ∈ (w.zd.map zw).set m.version.toNat ((zJ v0.snap++[C.sl (i) [] 2 0 v0.zf.length false,Bo v0.zC])),∀ c ∈ r,zy c=true:=fun i=>zx (enc:=zw) (fun _=>rfl) rfl _ _
 have ownG:∀ i t,∀ r ∈ (v0.zf.map zp).set m.zg.toNat ([U (t),C.sl (i) [] 3 0 g0.ends.length false]),∀ c ∈ r,zy c=true:=fun i t=>zx (enc:=zp) (fun _=>rfl) rfl _ _
 have ownE:∀ i a b,∀ r ∈ (g0.ends.map zn).set m.end_.toNat ([U (a),C.sl (i) [] 1 0 e0.next.length false,I (b)]),∀ c ∈ r,zy c=true:=fun i a b=>zx (enc:=zn) (fun _=>rfl) rfl _ _
 have gv:((w.zd.map zw).set m.version.toNat ((zJ v0.snap++[C.sl (6) [] 2 0 v0.zf.length false,Bo v0.zC])))[m.version.toNat]?= some ((zJ v0.snap++[C.sl (6) [] 2 0 v0.zf.length false,Bo v0.zC])):=List.getElem?_set_self (by simpa using lv)
 have gg:((v0.zf.map zp).set m.zg.toNat ([U (tk),C.sl (7) [] 3 0 g0.ends.length false]))[m.zg.toNat]?= some ([U (tk),C.sl (7) [] 3 0 g0.ends.length false]):=List.getElem?_set_self (by simpa using lg)
 have ge:((g0.ends.map zn).set m.end_.toNat ([U (hd),C.sl (8) [] 1 0 e0.next.length false,I (ac)]))[m.end_.toNat]?= some ([U (hd),C.sl (8) [] 1 0 e0.next.length false,I (ac)]):=List.getElem?_set_self (by simpa using le)
 have estE:(((g0.ends.map zn).set m.end_.toNat ([U (hd),C.sl (8) [] 1 0 e0.next.length false,I (ac)])).set m.end_.toNat [U hd,C.lst 0 1 (e0.next.map encI),I ac])=(g0.ends.set m.end_.toNat (qQ e0 hd ac)).map zn:=by rw [List.set_set];exact qM zn _ _ (qQ e0 hd ac) _ rfl
 have estG:(((v0.zf.map zp).set m.zg.toNat ([U (tk),C.sl (7) [] 3 0 g0.ends.length false])).set m.zg.toNat [U tk,C.lst 0 3 (((g0.ends.set m.end_.toNat (qQ e0 hd ac)).map zn))])=(v0.zf.set m.zg.toNat (xj m g0 e0 tk hd ac)).map zp:=by rw [List.set_set];exact qM zp _ _ (xj m g0 e0 tk hd ac) _ rfl
 have estV:(((w.zd.map zw).set m.version.toNat ((zJ v0.snap++[C.sl (6) [] 2 0 v0.zf.length false,Bo v0.zC]))).set m.version.toNat (zJ v0.snap++[C.lst 0 2 (((v0.zf.set m.zg.toNat (xj m g0 e0 tk hd ac)).map zp)),Bo v0.zC]))=(w.zd.set m.version.toNat (ju m v0 g0 e0 tk hd ac)).map zw:=by rw [List.set_set];exact qM zw _ _ (ju m v0 g0 e0 tk hd ac) _ rfl
 have eshE:∀ r ∈ (((g0.ends.map zn).set m.end_.toNat ([U (hd),C.sl (8) [] 1 0 e0.next.length false,I (ac)])).set m.end_.toNat [U hd,C.lst 0 1 (e0.next.map encI),I ac]),∀ c ∈ r,qF c=true∧zy c=true:=by
  rw [estE]
  exact shut_map (enc:=zn) (fun _=>rfl) _
 have eshG:∀ r ∈ (((v0.zf.map zp).set m.zg.toNat ([U (tk),C.sl (7) [] 3 0 g0.ends.length false])).set m.zg.toNat [U tk,C.lst 0 3 (((g0.ends.map zn).set m.end_.toNat ([U (hd),C.sl (8) [] 1 0 e0.next.length false,I (ac)])).set m.end_.toNat [U hd,C.lst 0 1 (e0.next.map encI),I ac])]),∀ c ∈ r,qF c=true∧zy c=true:=by
  rw [estE,estG]
  exact shut_map (enc:=zp) (fun _=>rfl) _
 have eshV:∀ r ∈ (((w.zd.map zw).set m.version.toNat ((zJ v0.snap++[C.sl (6) [] 2 0 v0.zf.length false,Bo v0.zC]))).set m.version.toNat (zJ v0.snap++[C.lst 0 2 (((v0.zf.map zp).set m.zg.toNat ([U (tk),C.sl (7) [] 3 0 g0.ends.length false])).set m.zg.toNat [U tk,C.lst 0 3 (((g0.ends.map zn).set m.end_.toNat ([U (hd),C.sl (8) [] 1 0 e0.next.length false,I (ac)])).set m.end_.toNat [U hd,C.lst 0 1 (e0.next.map encI),I ac])]),Bo v0.zC])),∀ c ∈ r,qF c=true∧zy c=true:=by
  rw [estE,estG,estV]
  exact shut_map (enc:=zw) (fun _=>rfl) _
 have a0:=hat.v0
 have b0:=hat.g0
 have c0:=hat.e0
 have e1:0+m.version.toNat=m.version.toNat:=Nat.zero_add _
 have e2:0+m.zg.toNat=m.zg.toNat:=Nat.zero_add _
 have e3:0+m.end_.toNat=m.end_.toNat:=Nat.zero_add _
 have gg0:((v0.zf.map zp).set m.zg.toNat ([U (g0.zl),C.sl (7) [] 3 0 g0.ends.length false]))[m.zg.toNat]?= some ([U (g0.zl),C.sl (7) [] 3 0 g0.ends.length false]):=List.getElem?_set_self (by simpa using lg)
 have ge0:((g0.ends.map zn).set m.end_.toNat ([U (e0.head),C.sl (8) [] 1 0 e0.next.length false,I (e0.zj)]))[m.end_.toNat]?= some ([U (e0.head),C.sl (8) [] 1 0 e0.next.length false,I (e0.zj)]):=List.getElem?_set_self (by simpa using le)
 refine zc.zr (fn:=Tryz.f153) Tryz.func153 rfl ?_
 conv=>whnf
 (repeat (first | (refine ⟨fun _=>?_,?_⟩;rotate_left 1;(focus (intro h;first | (simp [hpc] at h;done) | (have h:=of_decide_eq_true h;omega) | (have h:=of_decide_eq_false h;omega)));(refine dd ?_)) | (refine ⟨?_,fun _=>?_⟩;(focus (intro h;first | (simp [hpc] at h;done) | (have h:=of_decide_eq_true h;omega) | (have h:=of_decide_eq_false h;omega)));(refine dd ?_))))
 refine ⟨_,_,(zU w m ok hl).frame rfl _,?_⟩;refine dd ?_
 refine ⟨fun _=>?_,fun h=>absurd ((hs).symm.trans h:true=false) (by decide)⟩;refine dd ?_
 (repeat (first | (refine ⟨fun _=>?_,?_⟩;rotate_left 1;(focus (intro h;first | (simp [hpc] at h;done) | (have h:=of_decide_eq_true h;omega) | (have h:=of_decide_eq_false h;omega)));(refine dd ?_)) | (refine ⟨?_,fun _=>?_⟩;(focus (intro h;first | (simp [hpc] at h;done) | (have h:=of_decide_eq_true h;omega) | (have h:=of_decide_eq_false h;omega)));(refine dd ?_))))
 (repeat ((first | apply ya | apply yb);refine dd ?_))
 refine zT [] [⟨1,28,8,[z5 w],0⟩,⟨1,43,44,[zP m],0⟩,⟨1,28,8,[zeW],0⟩,⟨1,43,44,[zeM],0⟩,⟨1,81,23,[qB qC],0⟩,⟨1,0,5,(w.zd.map zw).set m.version.toNat ((zJ v0.snap++[C.sl (6) [] 2 0 v0.zf.length false,Bo v0.zC])),0⟩,⟨1,0,2,(v0.zf.map zp).set m.zg.toNat ([U (g0.zl),C.sl (7) [] 3 0 g0.ends.length false]),0⟩,⟨1,0,3,(g0.ends.map zn).set m.end_.toNat ([U (e0.head),C.sl (8) [] 1 0 e0.next.length false,I (e0.zj)]),0⟩,⟨2,3,1,e0.next.map encI,0⟩] (rx:=.agg [I w.zu,I w.current,I w.lock,lI w.pins,.sl 5 [] 5 0 w.zd.length false,lL w.ze,lCo w.counts,lR w.zt]) (xl w sw w.zd rfl hp) (zb (zi (ownV 1)) (zb (zi (ownG 2 _)) (zb (zi (ownE 3 _ _)) rfl))) rfl rfl rfl rfl rfl (by show _::_::_::_::_::zF _ ⟨1,0,5,_,0⟩::zF _ ⟨1,0,2,_,0⟩::zF _ ⟨1,0,3,_,0⟩::_=_;rw [zA (enc:=zw) (fun _=>rfl),zA (enc:=zp) (fun _=>rfl),zA (enc:=zn) (fun _=>rfl)];rfl) rfl ?_
 refine dd ?_
 refine .inl ⟨⟨false,[],[],[]⟩,by kernel_rfl,?_⟩;(conv=>whnf)
 refine ⟨a0,lv,?_⟩
 refine dd ?_
 rw [e1]
 refine ⟨_,gv,(by show 3+1<=5;decide),?_⟩
 refine dd ?_
 refine ⟨b0,lg,?_⟩
 refine dd ?_
 rw [e2]
 refine ⟨_,gg0,(by show 1+1<=2;decide),?_⟩
 refine dd ?_
 refine ⟨c0,le,?_⟩
 refine dd ?_
 rw [e3]
 refine ⟨_,_,(Slp.qg m.word hw).frame rfl _,?_⟩;refine dd ?_
 refine .inr ⟨⟨[0,1,5,6,7],[0,1,7],true⟩,by kernel_rfl,fun _=>(zb rfl (zb rfl (zb rfl (zb rfl (zb rfl (zb (zi (ownV 6)) (zb (zi (ownG 7 _)) (zb (zi (ownE 8 _ _)) rfl)))))))),_,?_,fun t2 H2 h=>h⟩
 conv=>whnf
 refine ⟨_,ge0,(by show 0+1<=3;decide),?_⟩
 conv=>whnf
 refine ⟨_,zc.blind [] (Slp.qg e0.head hh) rfl rfl rfl rfl rfl rfl rfl (fun _=>rfl) (fun _=>rfl),?_⟩;(conv=>whnf)
 refine ⟨_,zc.blind [] (xB w m v0 hat.toAtV 1 8 (e0.head % 4294967296 - 1)) rfl rfl rfl rfl rfl rfl rfl (fun _=>rfl) (fun _=>rfl),?_⟩;(conv=>whnf)
 (refine ⟨?_,trivial⟩);(conv=>whnf);(refine ⟨(zb rfl (zb rfl (zb rfl (zb rfl (zb rfl (zb (zi (ownV 6)) (zb (zi (ownG 7 _)) (zb (zi (ownE 8 _ _)) rfl)))))))),?_⟩);(conv=>whnf);(repeat (refine ⟨rfl,?_⟩;(conv=>whnf)))
 (refine ⟨?_,trivial⟩);(conv=>whnf);(refine ⟨(zb rfl (zb rfl (zb rfl (zb rfl (zb rfl (zb (zi (ownV 6)) (zb (zi (ownG 7 _)) (zb (zi (ownE 8 _ _)) rfl)))))))),?_⟩);(conv=>whnf);(repeat (refine ⟨rfl,?_⟩;(conv=>whnf)))
 (refine ⟨_,_,.refl _,?_⟩);(conv=>whnf)
 (repeat (first | (refine ⟨fun _=>?_,?_⟩;rotate_left 1;(focus (intro h;first | (simp [hpc] at h;done) | (have h:=of_decide_eq_true h;omega) | (have h:=of_decide_eq_false h;omega)));(refine dd ?_)) | (refine ⟨?_,fun _=>?_⟩;(focus (intro h;first | (simp [hpc] at h;done) | (have h:=of_decide_eq_true h;omega) | (have h:=of_decide_eq_false h;omega)));(refine dd ?_))))
 refine .inl ⟨⟨false,[],[],[]⟩,by kernel_rfl,?_⟩;(conv=>whnf)
 refine ⟨_,ge0,(by show 0+1<=3;decide),?_⟩
 refine dd ?_
 refine ⟨fun h=>absurd h (by simp [heq]),fun _=>?_⟩
 refine dd ?_
 refine ⟨_,_,(Slp.zag m.word m.slot hw s0 s1).frame rfl _,?_⟩;refine dd ?_
 refine ⟨_,ge0,rfl,?_⟩
 refine dd ?_
 rw [List.set_set]
 subst htk hhd hac
 refine .inl ⟨⟨false,[1],[1],[]⟩,by kernel_rfl,?_⟩;(conv=>whnf)
 (repeat (refine ⟨rfl,?_⟩;conv=>whnf))
 refine vf.go rfl ?_;conv=>whnf
 rw [show IntKind.i64.wrap (m.pc+1)=3 from by rw [hpc];rfl]
 refine .inl ⟨⟨false,[0,1,2],[9,1,10],[]⟩,by kernel_rfl,?_⟩;(conv=>whnf)
 repeat (refine ⟨rfl,?_⟩;conv=>whnf)
 refine ⟨.inl rfl,_,(((zq.zZ 7 m.end_.toNat 1 rfl ge rfl rfl (.inr rfl) (by simp) (by simp) (shut_map (enc:=encI) (fun _=>rfl) _) (ownE 8 _ _)).trans (zq.zZ 6 m.zg.toNat 1 rfl gg rfl rfl (.inl rfl) (by simp) (by simp) eshE (ownG 7 _))).trans (zq.zZ 5 m.version.toNat 3 rfl gv rfl rfl (.inl rfl) (by simp) (by simp) eshG (ownV 6))).trans (zq.zZ 2 0 4 rfl rfl rfl rfl (.inl rfl) (by simp) (by simp) eshV (qm rfl)),?_⟩
 show _=some (C.tup [C.agg [I w.zu,I w.current,I w.lock,lI w.pins,C.lst 0 5 ((w.zd.set m.version.toNat (ju m v0 g0 e0 g0.zl (Slp.z6 m.word m.slot) e0.zj)).map zw),lL w.ze,lCo w.counts,lR w.zt],Cm { m with pc:=3 },Ce { evV m v0 4 8 m.slot with wT:=true }])
 rw [<- estV,<- estG,<- estE]
 rfl
end Go.Wor
namespace Go.Wor
open Go.Ab Go.Proofs Go.Hy Go.Gat Go.Nam Go.Hos Go.Con Go.Sna
abbrev k7 (m:Mac) (e0:En):En:={ e0 with next:=(e0.next.set m.slot.toNat (m.word % 4294967296 - 1)) }
theorem zc7 (w:Wor) (m:Mac) (v0:Ver) (g0:Gr) (e0:En) (sw:ja w) (ok:OkW w) (hl:i64 m.listen) (hpc:m.pc=1) (hs:qc w m=true) (hat:AtE w m v0 g0 e0) (hne:e0.next≠[]) (hw:u64 m.word) (hh:u64 e0.head) (s0:0<=m.slot) (s1:m.slot.toNat < e0.next.length) {tk hd ac:Int} (htk:tk=g0.zl) (hhd:hd=e0.head) (hac:ac=e0.zj):
  zc Tryz.prog 153 [] [Cw w,Cm m] (.tup [Cw (yB w m v0 g0 (k7 m e0) tk hd ac),Cm { m with pc:=2 },Ce (evV m v0 2 9 (m.word % 4294967296 - 1))]) []:=by
 have estE1:(((g0.ends.map zn).set m.end_.toNat ([U (e0.head),C.sl (8) [] 1 0 e0.next.length false,I (e0.zj)])).set m.end_.toNat [U e0.head,C.lst 0 1 ((e0.next.set m.slot.toNat (m.word % 4294967296 - 1)).map encI),I e0.zj])=(g0.ends.set m.end_.toNat (qQ (k7 m e0) e0.head e0.zj)).map zn:=by rw [List.set_set];exact qM zn _ _ (qQ (k7 m e0) e0.head e0.zj) _ rfl
 have estG1:(((v0.zf.map zp).set m.zg.toNat ([U (g0.zl),C.sl (7) [] 3 0 g0.ends.length false])).set m.zg.toNat [U g0.zl,C.lst 0 3 (((g0.ends.set m.end_.toNat (qQ (k7 m e0) e0.head e0.zj)).map zn))])=(v0.zf.set m.zg.toNat (xj m g0 (k7 m e0) g0.zl e0.head e0.zj)).map zp:=by rw [List.set_set];exact qM zp _ _ (xj m g0 (k7 m e0) g0.zl e0.head e0.zj) _ rfl
 have estV1:(((w.zd.map zw).set m.version.toNat ((zJ v0.snap++[C.sl (6) [] 2 0 v0.zf.length false,Bo v0.zC]))).set m.version.toNat (zJ v0.snap++[C.lst 0 2 (((v0.zf.set m.zg.toNat (xj m g0 (k7 m e0) g0.zl e0.head e0.zj)).map zp)),Bo v0.zC]))=(w.zd.set m.version.toNat (ju m v0 g0 (k7 m e0) g0.zl e0.head e0.zj)).map zw:=by rw [List.set_set];exact qM zw _ _ (ju m v0 g0 (k7 m e0) g0.zl e0.head e0.zj) _ rfl
 have eshE1:∀ r ∈ (((g0.ends.map zn).set m.end_.toNat ([U (e0.head),C.sl (8) [] 1 0 e0.next.length false,I (e0.zj)])).set m.end_.toNat [U e0.head,C.lst 0 1 ((e0.next.set m.slot.toNat (m.word % 4294967296 - 1)).map encI),I e0.zj]),∀ c ∈ r,qF c=true∧zy c=true:=by
  rw [estE1]
  exact shut_map (enc:=zn) (fun _=>rfl) _
 have eshG1:∀ r ∈ (((v0.zf.map zp).set m.zg.toNat ([U (g0.zl),C.sl (7) [] 3 0 g0.ends.length false])).set m.zg.toNat [U g0.zl,C.lst 0 3 (((g0.ends.map zn).set m.end_.toNat ([U (e0.head),C.sl (8) [] 1 0 e0.next.length false,I (e0.zj)])).set m.end_.toNat [U e0.head,C.lst 0 1 ((e0.next.set m.slot.toNat (m.word % 4294967296 - 1)).map encI),I e0.zj])]),∀ c ∈ r,qF c=true∧zy c=true:=by
  rw [estE1,estG1]
  exact shut_map (enc:=zp) (fun _=>rfl) _
 have eshV1:∀ r ∈ (((w.zd.map zw).set m.version.toNat ((zJ v0.snap++[C.sl (6) [] 2 0 v0.zf.length false,Bo v0.zC]))).set m.version.toNat (zJ v0.snap++[C.lst 0 2 (((v0.zf.map zp).set m.zg.toNat ([U (g0.zl),C.sl (7) [] 3 0 g0.ends.length false])).set m.zg.toNat [U g0.zl,C.lst 0 3 (((g0.ends.map zn).set m.end_.toNat ([U (e0.head),C.sl (8) [] 1 0 e0.next.length false,I (e0.zj)])).set m.end_.toNat [U e0.head,C.lst 0 1 ((e0.next.set m.slot.toNat (m.word % 4294967296 - 1)).map encI),I e0.zj])]),Bo v0.zC])),∀ c ∈ r,qF c=true∧zy c=true:=by
  rw [estE1,estG1,estV1]
  exact shut_map (enc:=zw) (fun _=>rfl) _
 have gn:(e0.next.map Hy.encI)[m.slot.toNat]?= some (Hy.encI (e0.next[m.slot.toNat]'s1)):=by rw [List.getElem?_map,List.getElem?_eq_getElem s1];rfl
 have hst:(e0.next.map Hy.encI).set m.slot.toNat [I (m.word % 4294967296 - 1)]=(e0.next.set m.slot.toNat (m.word % 4294967296 - 1)).map Hy.encI:=by rw [List.map_set];rfl
 have e4:0+m.slot.toNat=m.slot.toNat:=Nat.zero_add _
 have lv:=hat.ln.lv
 have lg:=hat.ln.lg
 have le:=hat.ln.le
 have smv:=sw.zd.2 v0 (List.mem_of_getElem? hat.at_)
 have hp:zbO w.zd m.version.toNat v0 m.zg.toNat g0 m.end_.toNat e0:=⟨⟨⟨smv.2 g0 (List.mem_of_getElem? hat.atg),hat.ate,hne⟩,smv,hat.atg⟩,sw.zd,hat.at_⟩
 have ownV:∀ i,∀ r ∈ (w.zd.map zw).set m.version.toNat ((zJ v0.snap++[C.sl (i) [] 2 0 v0.zf.length false,Bo v0.zC])),∀ c ∈ r,zy c=true:=fun i=>zx (enc:=zw) (fun _=>rfl) rfl _ _
 have ownG:∀ i t,∀ r ∈ (v0.zf.map zp).set m.zg.toNat ([U (t),C.sl (i) [] 3 0 g0.ends.length false]),∀ c ∈ r,zy c=true:=fun i t=>zx (enc:=zp) (fun _=>rfl) rfl _ _
 have ownE:∀ i a b,∀ r ∈ (g0.ends.map zn).set m.end_.toNat ([U (a),C.sl (i) [] 1 0 e0.next.length false,I (b)]),∀ c ∈ r,zy c=true:=fun i a b=>zx (enc:=zn) (fun _=>rfl) rfl _ _
 have gv:((w.zd.map zw).set m.version.toNat ((zJ v0.snap++[C.sl (6) [] 2 0 v0.zf.length false,Bo v0.zC])))[m.version.toNat]?= some ((zJ v0.snap++[C.sl (6) [] 2 0 v0.zf.length false,Bo v0.zC])):=List.getElem?_set_self (by simpa using lv)
 have gg:((v0.zf.map zp).set m.zg.toNat ([U (tk),C.sl (7) [] 3 0 g0.ends.length false]))[m.zg.toNat]?= some ([U (tk),C.sl (7) [] 3 0 g0.ends.length false]):=List.getElem?_set_self (by simpa using lg)
 have ge:((g0.ends.map zn).set m.end_.toNat ([U (hd),C.sl (8) [] 1 0 e0.next.length false,I (ac)]))[m.end_.toNat]?= some ([U (hd),C.sl (8) [] 1 0 e0.next.length false,I (ac)]):=List.getElem?_set_self (by simpa using le)
 have estE:(((g0.ends.map zn).set m.end_.toNat ([U (hd),C.sl (8) [] 1 0 e0.next.length false,I (ac)])).set m.end_.toNat [U hd,C.lst 0 1 (e0.next.map encI),I ac])=(g0.ends.set m.end_.toNat (qQ e0 hd ac)).map zn:=by rw [List.set_set];exact qM zn _ _ (qQ e0 hd ac) _ rfl
 have estG:(((v0.zf.map zp).set m.zg.toNat ([U (tk),C.sl (7) [] 3 0 g0.ends.length false])).set m.zg.toNat [U tk,C.lst 0 3 (((g0.ends.set m.end_.toNat (qQ e0 hd ac)).map zn))])=(v0.zf.set m.zg.toNat (xj m g0 e0 tk hd ac)).map zp:=by rw [List.set_set];exact qM zp _ _ (xj m g0 e0 tk hd ac) _ rfl
 have estV:(((w.zd.map zw).set m.version.toNat ((zJ v0.snap++[C.sl (6) [] 2 0 v0.zf.length false,Bo v0.zC]))).set m.version.toNat (zJ v0.snap++[C.lst 0 2 (((v0.zf.set m.zg.toNat (xj m g0 e0 tk hd ac)).map zp)),Bo v0.zC]))=(w.zd.set m.version.toNat (ju m v0 g0 e0 tk hd ac)).map zw:=by rw [List.set_set];exact qM zw _ _ (ju m v0 g0 e0 tk hd ac) _ rfl
 have eshE:∀ r ∈ (((g0.ends.map zn).set m.end_.toNat ([U (hd),C.sl (8) [] 1 0 e0.next.length false,I (ac)])).set m.end_.toNat [U hd,C.lst 0 1 (e0.next.map encI),I ac]),∀ c ∈ r,qF c=true∧zy c=true:=by
  rw [estE]
  exact shut_map (enc:=zn) (fun _=>rfl) _
 have eshG:∀ r ∈ (((v0.zf.map zp).set m.zg.toNat ([U (tk),C.sl (7) [] 3 0 g0.ends.length false])).set m.zg.toNat [U tk,C.lst 0 3 (((g0.ends.map zn).set m.end_.toNat ([U (hd),C.sl (8) [] 1 0 e0.next.length false,I (ac)])).set m.end_.toNat [U hd,C.lst 0 1 (e0.next.map encI),I ac])]),∀ c ∈ r,qF c=true∧zy c=true:=by
  rw [estE,estG]
  exact shut_map (enc:=zp) (fun _=>rfl) _
 have eshV:∀ r ∈ (((w.zd.map zw).set m.version.toNat ((zJ v0.snap++[C.sl (6) [] 2 0 v0.zf.length false,Bo v0.zC]))).set m.version.toNat (zJ v0.snap++[C.lst 0 2 (((v0.zf.map zp).set m.zg.toNat ([U (tk),C.sl (7) [] 3 0 g0.ends.length false])).set m.zg.toNat [U tk,C.lst 0 3 (((g0.ends.map zn).set m.end_.toNat ([U (hd),C.sl (8) [] 1 0 e0.next.length false,I (ac)])).set m.end_.toNat [U hd,C.lst 0 1 (e0.next.map encI),I ac])]),Bo v0.zC])),∀ c ∈ r,qF c=true∧zy c=true:=by
  rw [estE,estG,estV]
  exact shut_map (enc:=zw) (fun _=>rfl) _
 have a0:=hat.v0
 have b0:=hat.g0
 have c0:=hat.e0
 have e1:0+m.version.toNat=m.version.toNat:=Nat.zero_add _
 have e2:0+m.zg.toNat=m.zg.toNat:=Nat.zero_add _
 have e3:0+m.end_.toNat=m.end_.toNat:=Nat.zero_add _
 have gg0:((v0.zf.map zp).set m.zg.toNat ([U (g0.zl),C.sl (7) [] 3 0 g0.ends.length false]))[m.zg.toNat]?= some ([U (g0.zl),C.sl (7) [] 3 0 g0.ends.length false]):=List.getElem?_set_self (by simpa using lg)
 have ge0:((g0.ends.map zn).set m.end_.toNat ([U (e0.head),C.sl (8) [] 1 0 e0.next.length false,I (e0.zj)]))[m.end_.toNat]?= some ([U (e0.head),C.sl (8) [] 1 0 e0.next.length false,I (e0.zj)]):=List.getElem?_set_self (by simpa using le)
 refine zc.zr (fn:=Tryz.f153) Tryz.func153 rfl ?_
 conv=>whnf
 (repeat (first | (refine ⟨fun _=>?_,?_⟩;rotate_left 1;(focus (intro h;first | (simp [hpc] at h;done) | (have h:=of_decide_eq_true h;omega) | (have h:=of_decide_eq_false h;omega)));(refine dd ?_)) | (refine ⟨?_,fun _=>?_⟩;(focus (intro h;first | (simp [hpc] at h;done) | (have h:=of_decide_eq_true h;omega) | (have h:=of_decide_eq_false h;omega)));(refine dd ?_))))
 refine ⟨_,_,(zU w m ok hl).frame rfl _,?_⟩;refine dd ?_
 refine ⟨fun _=>?_,fun h=>absurd ((hs).symm.trans h:true=false) (by decide)⟩;refine dd ?_
 (repeat (first | (refine ⟨fun _=>?_,?_⟩;rotate_left 1;(focus (intro h;first | (simp [hpc] at h;done) | (have h:=of_decide_eq_true h;omega) | (have h:=of_decide_eq_false h;omega)));(refine dd ?_)) | (refine ⟨?_,fun _=>?_⟩;(focus (intro h;first | (simp [hpc] at h;done) | (have h:=of_decide_eq_true h;omega) | (have h:=of_decide_eq_false h;omega)));(refine dd ?_))))
 (repeat ((first | apply ya | apply yb);refine dd ?_))
 refine zT [] [⟨1,28,8,[z5 w],0⟩,⟨1,43,44,[zP m],0⟩,⟨1,28,8,[zeW],0⟩,⟨1,43,44,[zeM],0⟩,⟨1,81,23,[qB qC],0⟩,⟨1,0,5,(w.zd.map zw).set m.version.toNat ((zJ v0.snap++[C.sl (6) [] 2 0 v0.zf.length false,Bo v0.zC])),0⟩,⟨1,0,2,(v0.zf.map zp).set m.zg.toNat ([U (g0.zl),C.sl (7) [] 3 0 g0.ends.length false]),0⟩,⟨1,0,3,(g0.ends.map zn).set m.end_.toNat ([U (e0.head),C.sl (8) [] 1 0 e0.next.length false,I (e0.zj)]),0⟩,⟨2,3,1,e0.next.map encI,0⟩] (rx:=.agg [I w.zu,I w.current,I w.lock,lI w.pins,.sl 5 [] 5 0 w.zd.length false,lL w.ze,lCo w.counts,lR w.zt]) (xl w sw w.zd rfl hp) (zb (zi (ownV 1)) (zb (zi (ownG 2 _)) (zb (zi (ownE 3 _ _)) rfl))) rfl rfl rfl rfl rfl (by show _::_::_::_::_::zF _ ⟨1,0,5,_,0⟩::zF _ ⟨1,0,2,_,0⟩::zF _ ⟨1,0,3,_,0⟩::_=_;rw [zA (enc:=zw) (fun _=>rfl),zA (enc:=zp) (fun _=>rfl),zA (enc:=zn) (fun _=>rfl)];rfl) rfl ?_
 refine dd ?_
 refine .inl ⟨⟨false,[],[],[]⟩,by kernel_rfl,?_⟩;(conv=>whnf)
 refine ⟨a0,lv,?_⟩
 refine dd ?_
 rw [e1]
 refine ⟨_,gv,(by show 3+1<=5;decide),?_⟩
 refine dd ?_
 refine ⟨b0,lg,?_⟩
 refine dd ?_
 rw [e2]
 refine ⟨_,gg0,(by show 1+1<=2;decide),?_⟩
 refine dd ?_
 refine ⟨c0,le,?_⟩
 refine dd ?_
 rw [e3]
 refine ⟨_,_,(Slp.qg m.word hw).frame rfl _,?_⟩;refine dd ?_
 refine .inr ⟨⟨[0,1,5,6,7],[0,1,7],true⟩,by kernel_rfl,fun _=>(zb rfl (zb rfl (zb rfl (zb rfl (zb rfl (zb (zi (ownV 6)) (zb (zi (ownG 7 _)) (zb (zi (ownE 8 _ _)) rfl)))))))),_,?_,fun t2 H2 h=>h⟩
 conv=>whnf
 refine ⟨_,ge0,(by show 0+1<=3;decide),?_⟩
 conv=>whnf
 refine ⟨_,zc.blind [] (Slp.qg e0.head hh) rfl rfl rfl rfl rfl rfl rfl (fun _=>rfl) (fun _=>rfl),?_⟩;(conv=>whnf)
 refine ⟨_,zc.blind [] (xB w m v0 hat.toAtV 1 8 (e0.head % 4294967296 - 1)) rfl rfl rfl rfl rfl rfl rfl (fun _=>rfl) (fun _=>rfl),?_⟩;(conv=>whnf)
 (refine ⟨?_,trivial⟩);(conv=>whnf);(refine ⟨(zb rfl (zb rfl (zb rfl (zb rfl (zb rfl (zb (zi (ownV 6)) (zb (zi (ownG 7 _)) (zb (zi (ownE 8 _ _)) rfl)))))))),?_⟩);(conv=>whnf);(repeat (refine ⟨rfl,?_⟩;(conv=>whnf)))
 (refine ⟨?_,trivial⟩);(conv=>whnf);(refine ⟨(zb rfl (zb rfl (zb rfl (zb rfl (zb rfl (zb (zi (ownV 6)) (zb (zi (ownG 7 _)) (zb (zi (ownE 8 _ _)) rfl)))))))),?_⟩);(conv=>whnf);(repeat (refine ⟨rfl,?_⟩;(conv=>whnf)))
 (refine ⟨_,_,.refl _,?_⟩);(conv=>whnf)
 (repeat (first | (refine ⟨fun _=>?_,?_⟩;rotate_left 1;(focus (intro h;first | (simp [hpc] at h;done) | (have h:=of_decide_eq_true h;omega) | (have h:=of_decide_eq_false h;omega)));(refine dd ?_)) | (refine ⟨?_,fun _=>?_⟩;(focus (intro h;first | (simp [hpc] at h;done) | (have h:=of_decide_eq_true h;omega) | (have h:=of_decide_eq_false h;omega)));(refine dd ?_))))
 subst htk hhd hac
 refine .inl ⟨⟨false,[],[],[]⟩,by kernel_rfl,?_⟩;(conv=>whnf)
 refine ⟨_,ge0,(by show 1+1<=3;decide),?_⟩
 refine dd ?_
 refine ⟨s0,s1,?_⟩
 refine dd ?_
 rw [e4]
 refine ⟨_,gn,rfl,?_⟩
 refine dd ?_
 rw [hst]
 refine vf.go rfl ?_;conv=>whnf
 rw [show IntKind.i64.wrap (m.pc+1)=2 from by rw [hpc];rfl]
 refine .inl ⟨⟨false,[0,1,2],[9,1,10],[]⟩,by kernel_rfl,?_⟩;(conv=>whnf)
 repeat (refine ⟨rfl,?_⟩;conv=>whnf)
 refine ⟨.inl rfl,_,(((zq.zZ 7 m.end_.toNat 1 rfl ge rfl rfl (.inr rfl) (by simp) (by simp) (shut_map (enc:=encI) (fun _=>rfl) _) (ownE 8 _ _)).trans (zq.zZ 6 m.zg.toNat 1 rfl gg rfl rfl (.inl rfl) (by simp) (by simp) eshE1 (ownG 7 _))).trans (zq.zZ 5 m.version.toNat 3 rfl gv rfl rfl (.inl rfl) (by simp) (by simp) eshG1 (ownV 6))).trans (zq.zZ 2 0 4 rfl rfl rfl rfl (.inl rfl) (by simp) (by simp) eshV1 (qm rfl)),?_⟩
 show _=some (C.tup [C.agg [I w.zu,I w.current,I w.lock,lI w.pins,C.lst 0 5 ((w.zd.set m.version.toNat (ju m v0 g0 (k7 m e0) g0.zl e0.head e0.zj)).map zw),lL w.ze,lCo w.counts,lR w.zt],Cm { m with pc:=2 },Ce (evV m v0 2 9 (m.word % 4294967296 - 1))])
 rw [<- estV1,<- estG1,<- estE1]
 rfl
end Go.Wor
namespace Go.Wor
open Go.Ab Go.Proofs Go.Hy Go.Gat Go.Nam Go.Hos Go.Con Go.Sna
abbrev zkV (m:Mac):Ans:=⟨6,m.version,m.zg,m.end_,m.slot,m.listen,0,⟨0,0,0,0,0,0⟩⟩
abbrev zkW (m:Mac) (x:Lis):Eve:={ qC with zo:=m.zo,access:=3,cell:=5,version:= -1,value:=IntKind.i64.wrap (x.zj - 1),done:=true,answer:=zkV m }
abbrev zb6 (x:Lis):Lis:={ x with zj:=IntKind.i64.wrap (x.zj - 1) }
theorem zda (w:Wor) (m:Mac) (v:Ver) (g:Gr) (e:En) (x:Lis) (sw:ja w) (ok:OkW w) (hl:i64 m.listen) (hpc:m.pc=4) (hs:qc w m=true) (hat:AtE w m v g e) (hw:u64 m.word) (hh:u64 e.head) (hli:0<=m.listen) (hx:w.ze[m.listen.toNat]?= some x):
  zc Tryz.prog 153 [] [Cw w,Cm m] (.tup [Cw { w with ze:=w.ze.set m.listen.toNat (zb6 x) },Cm { m with answer:=zkV m,done:=true },Ce (zkW m x)]) []:=by
 have a0:=hat.v0
 have a1:=hat.toAtV.row
 have b0:=hat.g0
 have b1:(v.zf.map zp)[m.zg.toNat]?= some (zp g):=by rw [List.getElem?_map,hat.atg];rfl
 have c0:=hat.e0
 have c1:(g.ends.map zn)[m.end_.toNat]?= some (zn e):=by rw [List.getElem?_map,hat.ate];rfl
 have hn:¬m.listen < 0:=by omega
 have lt:m.listen.toNat < w.ze.length:=(List.getElem?_eq_some_iff.1 hx).1
 have gl:(w.ze.map jc)[m.listen.toNat]?= some (jc x):=by rw [List.getElem?_map,hx];rfl
 have hst:(w.ze.map jc).set m.listen.toNat [Tx x.name,Bo x.drain,I (IntKind.i64.wrap (x.zj - 1)),Bo x.closed]=(w.ze.set m.listen.toNat (zb6 x)).map jc:=by rw [List.map_set];rfl
 have gl2:((w.ze.set m.listen.toNat (zb6 x)).map jc)[m.listen.toNat]?= some (jc (zb6 x)):=by rw [List.getElem?_map,List.getElem?_set_self lt];rfl
 have e1:0+m.listen.toNat=m.listen.toNat:=Nat.zero_add _
 obtain ⟨y,l,hy⟩:∃ y l,w.ze=y::l:=by
  cases h:w.ze with
  | nil=>rw [h] at lt;simp at lt
  | cons y l=>exact ⟨y,l,rfl⟩
 refine zc.zr (fn:=Tryz.f153) Tryz.func153 rfl ?_
 conv=>whnf
 (repeat (first | (refine ⟨fun _=>?_,?_⟩;rotate_left 1;(focus (intro h;first | (simp [hpc] at h;done) | (have h:=of_decide_eq_true h;omega) | (have h:=of_decide_eq_false h;omega)));(refine dd ?_)) | (refine ⟨?_,fun _=>?_⟩;(focus (intro h;first | (simp [hpc] at h;done) | (have h:=of_decide_eq_true h;omega) | (have h:=of_decide_eq_false h;omega)));(refine dd ?_))))
 refine ⟨_,_,(zU w m ok hl).frame rfl _,?_⟩;refine dd ?_
 refine ⟨fun _=>?_,fun h=>absurd ((hs).symm.trans h:true=false) (by decide)⟩;refine dd ?_
 (repeat (first | (refine ⟨fun _=>?_,?_⟩;rotate_left 1;(focus (intro h;first | (simp [hpc] at h;done) | (have h:=of_decide_eq_true h;omega) | (have h:=of_decide_eq_false h;omega)));(refine dd ?_)) | (refine ⟨?_,fun _=>?_⟩;(focus (intro h;first | (simp [hpc] at h;done) | (have h:=of_decide_eq_true h;omega) | (have h:=of_decide_eq_false h;omega)));(refine dd ?_))))
 (repeat ((first | apply ya | apply yb);refine dd ?_))
 refine zG [] (vZ w sw y l hy) rfl rfl rfl rfl rfl rfl ?_;refine dd ?_
 refine .inl ⟨⟨false,[],[],[]⟩,by kernel_rfl,?_⟩;(conv=>whnf)
 (refine ⟨a0,_,a1,?_⟩);refine dd ?_
 (refine ⟨b0,_,b1,?_⟩);refine dd ?_
 (refine ⟨c0,_,c1,?_⟩);refine dd ?_
 refine ⟨_,_,(Slp.qg m.word hw).frame rfl _,?_⟩;refine dd ?_
 refine .inr ⟨⟨[0,1,5,6,7],[0,1],true⟩,by kernel_rfl,fun _=>rfl,_,?_,fun t2 H2 h=>h⟩;(conv=>whnf)
 refine ⟨_,zc.blind [] (Slp.qg e.head hh) rfl rfl rfl rfl rfl rfl rfl (fun _=>rfl) (fun _=>rfl),?_⟩;(conv=>whnf)
 refine ⟨_,zc.blind [] (xB w m v hat.toAtV 1 8 (e.head % 4294967296 - 1)) rfl rfl rfl rfl rfl rfl rfl (fun _=>rfl) (fun _=>rfl),?_⟩;(conv=>whnf)
 (refine ⟨?_,trivial⟩);(conv=>whnf);(repeat (refine ⟨rfl,?_⟩;(conv=>whnf)))
 (refine ⟨?_,trivial⟩);(conv=>whnf);(repeat (refine ⟨rfl,?_⟩;(conv=>whnf)))
 (refine ⟨_,_,.refl _,?_⟩);(conv=>whnf)
 (repeat (first | (refine ⟨fun _=>?_,?_⟩;rotate_left 1;(focus (intro h;first | (simp [hpc] at h;done) | (have h:=of_decide_eq_true h;omega) | (have h:=of_decide_eq_false h;omega)));(refine dd ?_)) | (refine ⟨?_,fun _=>?_⟩;(focus (intro h;first | (simp [hpc] at h;done) | (have h:=of_decide_eq_true h;omega) | (have h:=of_decide_eq_false h;omega)));(refine dd ?_))))
 refine ⟨hli,lt,?_⟩
 refine dd ?_
 rw [e1]
 refine ⟨_,gl,(by show 2+1<=4;decide),?_⟩
 refine dd ?_
 refine ⟨_,gl,rfl,?_⟩
 refine dd ?_
 rw [hst]
 refine .inl ⟨⟨false,[],[],[]⟩,by kernel_rfl,?_⟩;(conv=>whnf)
 refine ⟨_,gl2,(by show 2+1<=4;decide),?_⟩
 refine dd ?_
 refine vf.go rfl ?_;conv=>whnf
 refine .inl ⟨⟨false,[0,1,2],[6,1,7],[]⟩,by kernel_rfl,?_⟩;(conv=>whnf)
 repeat (refine ⟨rfl,?_⟩;conv=>whnf)
 exact ⟨.inl rfl,_,zq.zZ 2 0 5 rfl rfl rfl rfl (.inr rfl) (by simp) (by simp) (shut_map (enc:=jc) (fun _=>rfl) _) (qm rfl),rfl⟩
end Go.Wor
