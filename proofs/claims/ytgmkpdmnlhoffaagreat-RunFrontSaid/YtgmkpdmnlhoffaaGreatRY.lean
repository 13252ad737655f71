import Derived.Test.YtgmkpdmnlhoffaaGreatRX
set_option linter.all false
set_option maxRecDepth 100000
set_option maxHeartbeats 4000000
namespace Go.Wor
open Go.Ab Go.Proofs Go.Hy Go.Gat Go.Nam Go.Hos Go.Con Go.Sna
theorem yz (w:Wor) (m:Mac) (v:Ver) (hv:AtV w m v) (a b c:Int):zb Tryz.prog 225 [] [Cw w,Cm m,I a,I b,I c] (Ce (evV m v a b c)) []:=by
 have h0:=hv.v0;have hr:=hv.row;obtain ⟨sn,gs,fr⟩:=v;cases fr
 all_goals
  refine zb.zp (fn:=Tryz.f225) Tryz.func225 rfl (uH ?_);refine uE ?_;(refine ⟨h0,_,hr,dd ?_⟩)
  first | ((refine ⟨fun _=>dd ?_,fun h=>absurd (h.symm.trans rfl:false=true) (by decide)⟩)) | ((refine ⟨fun h=>absurd (h.symm.trans rfl:true=false) (by decide),fun _=>dd ?_⟩))
  exact uI
theorem zlf (w:Wor) (m:Mac) (v:Ver) (g:Gr) (e:En) (sw:qR w) (ok:OkW w) (hl:i64 m.listen) (hpc:m.pc=0) (hs:zW w m=true) (hat:AtE w m v g e) (hw:u64 m.word) (hh:u64 e.head):
  zb Tryz.prog 184 [] [Cw w,Cm m] (.tup [Cw w,Cm { m with word:=e.head,pc:=1 },Ce (evV m v 1 8 (e.head % 4294967296 - 1))]) []:=by
 have a0:=hat.v0;have a1:=hat.toAtV.row;have b0:=hat.g0;have b1:(v.zm.map zE)[m.zf.toNat]?= some (zE g):=by rw [List.getElem?_map,hat.atg];rfl
 have c0:=hat.e0;have c1:(g.ends.map zu)[m.end_.toNat]?= some (zu e):=by rw [List.getElem?_map,hat.ate];rfl
 refine zb.zp (fn:=Tryz.f184) Tryz.func184 rfl (uH ?_);(repeat (first | refine uA ?_ | refine uB ?_))
 refine ⟨_,_,(zM w m ok hl).frame rfl _,dd ?_⟩;refine ⟨fun _=>dd ?_,fun h=>absurd ((hs).symm.trans h:true=false) (by decide)⟩;(repeat (first | refine uA ?_ | refine uB ?_))
 (repeat refine uC ?_)
 refine ⟨_,_,(qs w sw).frame rfl _,dd ?_⟩;refine uE ?_;(refine ⟨a0,_,a1,dd ?_⟩)
 (refine ⟨b0,_,b1,dd ?_⟩)
 (refine ⟨c0,_,c1,dd ?_⟩)
 refine ⟨_,_,(Slp.qA m.word hw).frame rfl _,dd ?_⟩;refine .inr ⟨⟨[0,1,5,6,7],[0,1],true⟩,by kernel_rfl,fun _=>rfl,_,uH ?_,fun t2 H2 h=>h⟩;refine ⟨_,zb.blind [] (Slp.qA e.head hh) rfl rfl rfl rfl rfl rfl rfl (fun _=>rfl) (fun _=>rfl),uH ?_⟩;refine ⟨_,zb.blind [] (yz w m v hat.toAtV 1 8 (e.head % 4294967296 - 1)) rfl rfl rfl rfl rfl rfl rfl (fun _=>rfl) (fun _=>rfl),uH ?_⟩;(refine ⟨uH ?_,trivial⟩);(repeat (refine ⟨rfl,uH ?_⟩))
 (refine ⟨uH ?_,trivial⟩);(repeat (refine ⟨rfl,uH ?_⟩))
 (refine ⟨_,_,.refl _,uH ?_⟩)
 (repeat (first | refine uA ?_ | refine uB ?_))
 refine kR.go rfl (uH ?_);rw [show IntKind.i64.wrap (m.pc+1)=1 from by rw [hpc];rfl];refine .inl ⟨⟨false,[0,1,2],[5,1,6],[]⟩,by kernel_rfl,uH ?_⟩;repeat (refine ⟨rfl,uH ?_⟩)
 exact uI
abbrev zsA (m:Mac):Eve:={ qu with zj:=m.zj,access:=1,version:= -1,done:=true,answer:=zaH 7 }
theorem zlk (w:Wor) (m:Mac) (v:Ver) (g:Gr) (e:En) (sw:qR w) (ok:OkW w) (hl:i64 m.listen) (hpc:m.pc=9) (hs:zW w m=true) (hat:AtE w m v g e) (hw:u64 m.word) (hh:u64 e.head):
  zb Tryz.prog 184 [] [Cw w,Cm m] (.tup [Cw w,Cm { m with answer:=zaH 7,done:=true },Ce (zsA m)]) []:=by
 have a0:=hat.v0;have a1:=hat.toAtV.row;have b0:=hat.g0;have b1:(v.zm.map zE)[m.zf.toNat]?= some (zE g):=by rw [List.getElem?_map,hat.atg];rfl
 have c0:=hat.e0;have c1:(g.ends.map zu)[m.end_.toNat]?= some (zu e):=by rw [List.getElem?_map,hat.ate];rfl
 refine zb.zp (fn:=Tryz.f184) Tryz.func184 rfl (uH ?_);(repeat (first | refine uA ?_ | refine uB ?_))
 refine ⟨_,_,(zM w m ok hl).frame rfl _,dd ?_⟩;refine ⟨fun _=>dd ?_,fun h=>absurd ((hs).symm.trans h:true=false) (by decide)⟩;(repeat (first | refine uA ?_ | refine uB ?_))
 (repeat refine uC ?_)
 refine ⟨_,_,(qs w sw).frame rfl _,dd ?_⟩;refine uE ?_;(refine ⟨a0,_,a1,dd ?_⟩)
 (refine ⟨b0,_,b1,dd ?_⟩)
 (refine ⟨c0,_,c1,dd ?_⟩)
 refine ⟨_,_,(Slp.qA m.word hw).frame rfl _,dd ?_⟩;refine .inr ⟨⟨[0,1,5,6,7],[0,1],true⟩,by kernel_rfl,fun _=>rfl,_,uH ?_,fun t2 H2 h=>h⟩;refine ⟨_,zb.blind [] (Slp.qA e.head hh) rfl rfl rfl rfl rfl rfl rfl (fun _=>rfl) (fun _=>rfl),uH ?_⟩;refine ⟨_,zb.blind [] (yz w m v hat.toAtV 1 8 (e.head % 4294967296 - 1)) rfl rfl rfl rfl rfl rfl rfl (fun _=>rfl) (fun _=>rfl),uH ?_⟩;(refine ⟨uH ?_,trivial⟩);(repeat (refine ⟨rfl,uH ?_⟩))
 (refine ⟨uH ?_,trivial⟩);(repeat (refine ⟨rfl,uH ?_⟩))
 (refine ⟨_,_,.refl _,uH ?_⟩)
 (repeat (first | refine uA ?_ | refine uB ?_))
 refine kR.go rfl (uH ?_);refine .inl ⟨⟨false,[0,1,2],[5,1,6],[]⟩,by kernel_rfl,uH ?_⟩;repeat (refine ⟨rfl,uH ?_⟩)
 exact uI
theorem zli (w:Wor) (m:Mac) (v0:Ver) (g0:Gr) (e0:En) (sw:qR w) (ok:OkW w) (hl:i64 m.listen) (hpc:m.pc=3) (hs:zW w m=true) (hat:AtE w m v0 g0 e0) (hne:e0.next≠[]) (hw:u64 m.word) (hh:u64 e0.head) {tk hd ac:Int} (htk:tk=g0.zr) (hhd:hd=e0.head) (hac:ac=IntKind.i64.wrap (e0.zg - 1)):
  zb Tryz.prog 184 [] [Cw w,Cm m] (.tup [Cw (wb w m v0 g0 e0 tk hd ac),Cm { m with pc:=4 },Ce (evV m v0 3 7 ac)]) []:=by
 have lv:=hat.ln.lv;have lg:=hat.ln.lg;have le:=hat.ln.le;have smv:=sw.ze.2 v0 (List.mem_of_getElem? hat.at_);have hp:zea w.ze m.version.toNat v0 m.zf.toNat g0 m.end_.toNat e0:=⟨⟨⟨smv.2 g0 (List.mem_of_getElem? hat.atg),hat.ate,hne⟩,smv,hat.atg⟩,sw.ze,hat.at_⟩;have ownV:∀ i,∀ r ∈ rwV w m v0 (i),∀ c ∈ r,zx c=true:=fun i=>zy (enc:=zI) (fun _=>rfl) rfl _ _
 have ownG:∀ i t,∀ r ∈ rwG m v0 g0 (t) (i),∀ c ∈ r,zx c=true:=fun i t=>zy (enc:=zE) (fun _=>rfl) rfl _ _
 have ownE:∀ i a b,∀ r ∈ rwE m g0 e0 (a) (i) (b),∀ c ∈ r,zx c=true:=fun i a b=>zy (enc:=zu) (fun _=>rfl) rfl _ _
 have gv:(rwV w m v0 (6))[m.version.toNat]?= some ((qJ v0.snap++[C.sl (6) [] 2 0 v0.zm.length false,Bo v0.qj])):=List.getElem?_set_self tP;have gg:(rwG m v0 g0 (tk) (7))[m.zf.toNat]?= some ([U (tk),C.sl (7) [] 3 0 g0.ends.length false]):=List.getElem?_set_self tN;have ge:(rwE m g0 e0 (hd) (8) (ac))[m.end_.toNat]?= some ([U (hd),C.sl (8) [] 1 0 e0.next.length false,I (ac)]):=List.getElem?_set_self tK;have estE:((rwE m g0 e0 (hd) (8) (ac)).set m.end_.toNat [U hd,C.lst 0 1 (e0.next.map encI),I ac])=(g0.ends.set m.end_.toNat (qp e0 hd ac)).map zu:=by rw [List.set_set];exact jf zu _ _ (qp e0 hd ac) _ rfl
 have estG:((rwG m v0 g0 (tk) (7)).set m.zf.toNat [U tk,C.lst 0 3 (((g0.ends.set m.end_.toNat (qp e0 hd ac)).map zu))])=(v0.zm.set m.zf.toNat (yh m g0 e0 tk hd ac)).map zE:=by rw [List.set_set];exact jf zE _ _ (yh m g0 e0 tk hd ac) _ rfl
 have estV:((rwV w m v0 (6)).set m.version.toNat (qJ v0.snap++[C.lst 0 2 (((v0.zm.set m.zf.toNat (yh m g0 e0 tk hd ac)).map zE)),Bo v0.qj]))=(w.ze.set m.version.toNat (jY m v0 g0 e0 tk hd ac)).map zI:=by rw [List.set_set];exact jf zI _ _ (jY m v0 g0 e0 tk hd ac) _ rfl
 have eshE:∀ r ∈ ((rwE m g0 e0 (hd) (8) (ac)).set m.end_.toNat [U hd,C.lst 0 1 (e0.next.map encI),I ac]),∀ c ∈ r,q8 c=true∧zx c=true:=by
  rw [estE];exact shut_map (enc:=zu) (fun _=>rfl) _
 have eshG:∀ r ∈ ((rwG m v0 g0 (tk) (7)).set m.zf.toNat [U tk,C.lst 0 3 ((rwE m g0 e0 (hd) (8) (ac)).set m.end_.toNat [U hd,C.lst 0 1 (e0.next.map encI),I ac])]),∀ c ∈ r,q8 c=true∧zx c=true:=by
  rw [estE,estG];exact shut_map (enc:=zE) (fun _=>rfl) _
 have eshV:∀ r ∈ ((rwV w m v0 (6)).set m.version.toNat (qJ v0.snap++[C.lst 0 2 ((rwG m v0 g0 (tk) (7)).set m.zf.toNat [U tk,C.lst 0 3 ((rwE m g0 e0 (hd) (8) (ac)).set m.end_.toNat [U hd,C.lst 0 1 (e0.next.map encI),I ac])]),Bo v0.qj])),∀ c ∈ r,q8 c=true∧zx c=true:=by
  rw [estE,estG,estV];exact shut_map (enc:=zI) (fun _=>rfl) _
 have a0:=hat.v0;have b0:=hat.g0;have c0:=hat.e0;have e1:0+m.version.toNat=m.version.toNat:=Nat.zero_add _;have e2:0+m.zf.toNat=m.zf.toNat:=Nat.zero_add _;have e3:0+m.end_.toNat=m.end_.toNat:=Nat.zero_add _;have gg0:(rwG m v0 g0 (g0.zr) (7))[m.zf.toNat]?= some ([U (g0.zr),C.sl (7) [] 3 0 g0.ends.length false]):=List.getElem?_set_self tN;have ge0:(rwE m g0 e0 (e0.head) (8) (e0.zg))[m.end_.toNat]?= some ([U (e0.head),C.sl (8) [] 1 0 e0.next.length false,I (e0.zg)]):=List.getElem?_set_self tK;refine zb.zp (fn:=Tryz.f184) Tryz.func184 rfl (uH ?_);(repeat (first | refine uA ?_ | refine uB ?_))
 refine ⟨_,_,(zM w m ok hl).frame rfl _,dd ?_⟩;refine ⟨fun _=>dd ?_,fun h=>absurd ((hs).symm.trans h:true=false) (by decide)⟩;(repeat (first | refine uA ?_ | refine uB ?_))
 (repeat refine uC ?_)
 refine zV [] [⟨1,28,8,[zJ w],0⟩,⟨1,97,44,[zD m],0⟩,⟨1,28,8,[zeW],0⟩,⟨1,97,44,[zeM],0⟩,⟨1,62,23,[zQ qu],0⟩,⟨1,0,5,rwV w m v0 (6),0⟩,⟨1,0,2,rwG m v0 g0 (g0.zr) (7),0⟩,⟨1,0,3,rwE m g0 e0 (e0.head) (8) (e0.zg),0⟩,⟨2,3,1,e0.next.map encI,0⟩] (rx:=.agg (rwW w 5)) (yi w sw w.ze rfl hp) (zc (zi (ownV 1)) (zc (zi (ownG 2 _)) (zc (zi (ownE 3 _ _)) rfl))) rfl rfl rfl rfl rfl uV rfl (dd ?_);refine uE ?_;refine ⟨a0,lv,dd ?_⟩;rw [e1];refine ⟨_,gv,(by show 3+1<=5;decide),dd ?_⟩;refine ⟨b0,lg,dd ?_⟩;rw [e2];refine ⟨_,gg0,(by show 1+1<=2;decide),dd ?_⟩;refine ⟨c0,le,dd ?_⟩;rw [e3];refine ⟨_,_,(Slp.qA m.word hw).frame rfl _,dd ?_⟩;refine .inr ⟨⟨[0,1,5,6,7],[0,1,7],true⟩,by kernel_rfl,fun _=>(zc rfl (zc rfl (zc rfl (zc rfl (zc rfl (zc (zi (ownV 6)) (zc (zi (ownG 7 _)) (zc (zi (ownE 8 _ _)) rfl)))))))),_,uH ?_,fun t2 H2 h=>h⟩;refine ⟨_,ge0,(by show 0+1<=3;decide),uH ?_⟩;refine ⟨_,zb.blind [] (Slp.qA e0.head hh) rfl rfl rfl rfl rfl rfl rfl (fun _=>rfl) (fun _=>rfl),uH ?_⟩;refine ⟨_,zb.blind [] (yz w m v0 hat.toAtV 1 8 (e0.head % 4294967296 - 1)) rfl rfl rfl rfl rfl rfl rfl (fun _=>rfl) (fun _=>rfl),uH ?_⟩;(refine ⟨uH ?_,trivial⟩);(refine ⟨(zc rfl (zc rfl (zc rfl (zc rfl (zc rfl (zc (zi (ownV 6)) (zc (zi (ownG 7 _)) (zc (zi (ownE 8 _ _)) rfl)))))))),uH ?_⟩);(repeat (refine ⟨rfl,uH ?_⟩))
 (refine ⟨uH ?_,trivial⟩);(refine ⟨(zc rfl (zc rfl (zc rfl (zc rfl (zc rfl (zc (zi (ownV 6)) (zc (zi (ownG 7 _)) (zc (zi (ownE 8 _ _)) rfl)))))))),uH ?_⟩);(repeat (refine ⟨rfl,uH ?_⟩))
 (refine ⟨_,_,.refl _,uH ?_⟩)
 (repeat (first | refine uA ?_ | refine uB ?_))
 refine ⟨_,ge0,(by show 2+1<=3;decide),dd ?_⟩;refine ⟨_,ge0,rfl,dd ?_⟩;rw [List.set_set];subst htk hhd hac;refine .inl ⟨⟨false,[3],[7],[]⟩,by kernel_rfl,uH ?_⟩;refine ⟨_,ge,(by show 2+1<=3;decide),dd ?_⟩;(repeat (refine ⟨rfl,uH ?_⟩))
 refine kR.go rfl (uH ?_);rw [show IntKind.i64.wrap (m.pc+1)=4 from by rw [hpc];rfl];refine .inl ⟨⟨false,[0,1,2],[9,1,10],[]⟩,by kernel_rfl,uH ?_⟩;repeat (refine ⟨rfl,uH ?_⟩)
 refine ⟨.inl rfl,_,(((zo.zT 7 m.end_.toNat 1 rfl ge rfl rfl (.inr rfl) (by simp) (by simp) (shut_map (enc:=encI) (fun _=>rfl) _) (ownE 8 _ _)).trans (zo.zT 6 m.zf.toNat 1 rfl gg rfl rfl (.inl rfl) (by simp) (by simp) eshE (ownG 7 _))).trans (zo.zT 5 m.version.toNat 3 rfl gv rfl rfl (.inl rfl) (by simp) (by simp) eshG (ownV 6))).trans (zo.zT 2 0 4 rfl rfl rfl rfl (.inl rfl) (by simp) (by simp) eshV (zX rfl)),?_⟩;show _=some (C.tup [C.agg [I w.zn,I w.current,I w.lock,lI w.pins,C.lst 0 5 ((w.ze.set m.version.toNat (jY m v0 g0 e0 g0.zr e0.head (IntKind.i64.wrap (e0.zg - 1)))).map zI),lL w.zd,lCo w.counts,lR w.zt],Cm { m with pc:=4 },Ce (evV m v0 3 7 (IntKind.i64.wrap (e0.zg - 1)))]);rw [<- estV,<- estG,<- estE]
 rfl
theorem zlh (w:Wor) (m:Mac) (v0:Ver) (g0:Gr) (e0:En) (sw:qR w) (ok:OkW w) (hl:i64 m.listen) (hpc:m.pc=2) (hs:zW w m=true) (hat:AtE w m v0 g0 e0) (hne:e0.next≠[]) (hw:u64 m.word) (hh:u64 e0.head) (heq:e0.head=m.word) (s0: -1<=m.slot) (s1:m.slot<=2147483646) {tk hd ac:Int} (htk:tk=g0.zr) (hhd:hd=Slp.qP m.word m.slot) (hac:ac=e0.zg):
  zb Tryz.prog 184 [] [Cw w,Cm m] (.tup [Cw (wb w m v0 g0 e0 tk hd ac),Cm { m with pc:=3 },Ce { evV m v0 4 8 m.slot with jq:=true }]) []:=by
 have lv:=hat.ln.lv;have lg:=hat.ln.lg;have le:=hat.ln.le;have smv:=sw.ze.2 v0 (List.mem_of_getElem? hat.at_);have hp:zea w.ze m.version.toNat v0 m.zf.toNat g0 m.end_.toNat e0:=⟨⟨⟨smv.2 g0 (List.mem_of_getElem? hat.atg),hat.ate,hne⟩,smv,hat.atg⟩,sw.ze,hat.at_⟩;have ownV:∀ i,∀ r ∈ rwV w m v0 (i),∀ c ∈ r,zx c=true:=fun i=>zy (enc:=zI) (fun _=>rfl) rfl _ _
 have ownG:∀ i t,∀ r ∈ rwG m v0 g0 (t) (i),∀ c ∈ r,zx c=true:=fun i t=>zy (enc:=zE) (fun _=>rfl) rfl _ _
 have ownE:∀ i a b,∀ r ∈ rwE m g0 e0 (a) (i) (b),∀ c ∈ r,zx c=true:=fun i a b=>zy (enc:=zu) (fun _=>rfl) rfl _ _
 have gv:(rwV w m v0 (6))[m.version.toNat]?= some ((qJ v0.snap++[C.sl (6) [] 2 0 v0.zm.length false,Bo v0.qj])):=List.getElem?_set_self tP;have gg:(rwG m v0 g0 (tk) (7))[m.zf.toNat]?= some ([U (tk),C.sl (7) [] 3 0 g0.ends.length false]):=List.getElem?_set_self tN;have ge:(rwE m g0 e0 (hd) (8) (ac))[m.end_.toNat]?= some ([U (hd),C.sl (8) [] 1 0 e0.next.length false,I (ac)]):=List.getElem?_set_self tK;have estE:((rwE m g0 e0 (hd) (8) (ac)).set m.end_.toNat [U hd,C.lst 0 1 (e0.next.map encI),I ac])=(g0.ends.set m.end_.toNat (qp e0 hd ac)).map zu:=by rw [List.set_set];exact jf zu _ _ (qp e0 hd ac) _ rfl
 have estG:((rwG m v0 g0 (tk) (7)).set m.zf.toNat [U tk,C.lst 0 3 (((g0.ends.set m.end_.toNat (qp e0 hd ac)).map zu))])=(v0.zm.set m.zf.toNat (yh m g0 e0 tk hd ac)).map zE:=by rw [List.set_set];exact jf zE _ _ (yh m g0 e0 tk hd ac) _ rfl
 have estV:((rwV w m v0 (6)).set m.version.toNat (qJ v0.snap++[C.lst 0 2 (((v0.zm.set m.zf.toNat (yh m g0 e0 tk hd ac)).map zE)),Bo v0.qj]))=(w.ze.set m.version.toNat (jY m v0 g0 e0 tk hd ac)).map zI:=by rw [List.set_set];exact jf zI _ _ (jY m v0 g0 e0 tk hd ac) _ rfl
 have eshE:∀ r ∈ ((rwE m g0 e0 (hd) (8) (ac)).set m.end_.toNat [U hd,C.lst 0 1 (e0.next.map encI),I ac]),∀ c ∈ r,q8 c=true∧zx c=true:=by
  rw [estE];exact shut_map (enc:=zu) (fun _=>rfl) _
 have eshG:∀ r ∈ ((rwG m v0 g0 (tk) (7)).set m.zf.toNat [U tk,C.lst 0 3 ((rwE m g0 e0 (hd) (8) (ac)).set m.end_.toNat [U hd,C.lst 0 1 (e0.next.map encI),I ac])]),∀ c ∈ r,q8 c=true∧zx c=true:=by
  rw [estE,estG];exact shut_map (enc:=zE) (fun _=>rfl) _
 have eshV:∀ r ∈ ((rwV w m v0 (6)).set m.version.toNat (qJ v0.snap++[C.lst 0 2 ((rwG m v0 g0 (tk) (7)).set m.zf.toNat [U tk,C.lst 0 3 ((rwE m g0 e0 (hd) (8) (ac)).set m.end_.toNat [U hd,C.lst 0 1 (e0.next.map encI),I ac])]),Bo v0.qj])),∀ c ∈ r,q8 c=true∧zx c=true:=by
  rw [estE,estG,estV];exact shut_map (enc:=zI) (fun _=>rfl) _
 have a0:=hat.v0;have b0:=hat.g0;have c0:=hat.e0;have e1:0+m.version.toNat=m.version.toNat:=Nat.zero_add _;have e2:0+m.zf.toNat=m.zf.toNat:=Nat.zero_add _;have e3:0+m.end_.toNat=m.end_.toNat:=Nat.zero_add _;have gg0:(rwG m v0 g0 (g0.zr) (7))[m.zf.toNat]?= some ([U (g0.zr),C.sl (7) [] 3 0 g0.ends.length false]):=List.getElem?_set_self tN;have ge0:(rwE m g0 e0 (e0.head) (8) (e0.zg))[m.end_.toNat]?= some ([U (e0.head),C.sl (8) [] 1 0 e0.next.length false,I (e0.zg)]):=List.getElem?_set_self tK;refine zb.zp (fn:=Tryz.f184) Tryz.func184 rfl (uH ?_);(repeat (first | refine uA ?_ | refine uB ?_))
 refine ⟨_,_,(zM w m ok hl).frame rfl _,dd ?_⟩;refine ⟨fun _=>dd ?_,fun h=>absurd ((hs).symm.trans h:true=false) (by decide)⟩;(repeat (first | refine uA ?_ | refine uB ?_))
 (repeat refine uC ?_)
 refine zV [] [⟨1,28,8,[zJ w],0⟩,⟨1,97,44,[zD m],0⟩,⟨1,28,8,[zeW],0⟩,⟨1,97,44,[zeM],0⟩,⟨1,62,23,[zQ qu],0⟩,⟨1,0,5,rwV w m v0 (6),0⟩,⟨1,0,2,rwG m v0 g0 (g0.zr) (7),0⟩,⟨1,0,3,rwE m g0 e0 (e0.head) (8) (e0.zg),0⟩,⟨2,3,1,e0.next.map encI,0⟩] (rx:=.agg (rwW w 5)) (yi w sw w.ze rfl hp) (zc (zi (ownV 1)) (zc (zi (ownG 2 _)) (zc (zi (ownE 3 _ _)) rfl))) rfl rfl rfl rfl rfl uV rfl (dd ?_);refine uE ?_;refine ⟨a0,lv,dd ?_⟩;rw [e1];refine ⟨_,gv,(by show 3+1<=5;decide),dd ?_⟩;refine ⟨b0,lg,dd ?_⟩;rw [e2];refine ⟨_,gg0,(by show 1+1<=2;decide),dd ?_⟩;refine ⟨c0,le,dd ?_⟩;rw [e3];refine ⟨_,_,(Slp.qA m.word hw).frame rfl _,dd ?_⟩;refine .inr ⟨⟨[0,1,5,6,7],[0,1,7],true⟩,by kernel_rfl,fun _=>(zc rfl (zc rfl (zc rfl (zc rfl (zc rfl (zc (zi (ownV 6)) (zc (zi (ownG 7 _)) (zc (zi (ownE 8 _ _)) rfl)))))))),_,uH ?_,fun t2 H2 h=>h⟩;refine ⟨_,ge0,(by show 0+1<=3;decide),uH ?_⟩;refine ⟨_,zb.blind [] (Slp.qA e0.head hh) rfl rfl rfl rfl rfl rfl rfl (fun _=>rfl) (fun _=>rfl),uH ?_⟩;refine ⟨_,zb.blind [] (yz w m v0 hat.toAtV 1 8 (e0.head % 4294967296 - 1)) rfl rfl rfl rfl rfl rfl rfl (fun _=>rfl) (fun _=>rfl),uH ?_⟩;(refine ⟨uH ?_,trivial⟩);(refine ⟨(zc rfl (zc rfl (zc rfl (zc rfl (zc rfl (zc (zi (ownV 6)) (zc (zi (ownG 7 _)) (zc (zi (ownE 8 _ _)) rfl)))))))),uH ?_⟩);(repeat (refine ⟨rfl,uH ?_⟩))
 (refine ⟨uH ?_,trivial⟩);(refine ⟨(zc rfl (zc rfl (zc rfl (zc rfl (zc rfl (zc (zi (ownV 6)) (zc (zi (ownG 7 _)) (zc (zi (ownE 8 _ _)) rfl)))))))),uH ?_⟩);(repeat (refine ⟨rfl,uH ?_⟩))
 (refine ⟨_,_,.refl _,uH ?_⟩)
 (repeat (first | refine uA ?_ | refine uB ?_))
 refine uE ?_;refine ⟨_,ge0,(by show 0+1<=3;decide),dd ?_⟩;refine ⟨fun h=>absurd h (by simp [heq]),fun _=>dd ?_⟩;refine ⟨_,_,(Slp.zcm m.word m.slot hw s0 s1).frame rfl _,dd ?_⟩;refine ⟨_,ge0,rfl,dd ?_⟩;rw [List.set_set];subst htk hhd hac;refine .inl ⟨⟨false,[1],[1],[]⟩,by kernel_rfl,uH ?_⟩;(repeat (refine ⟨rfl,uH ?_⟩))
 refine kR.go rfl (uH ?_);rw [show IntKind.i64.wrap (m.pc+1)=3 from by rw [hpc];rfl];refine .inl ⟨⟨false,[0,1,2],[9,1,10],[]⟩,by kernel_rfl,uH ?_⟩;repeat (refine ⟨rfl,uH ?_⟩)
 refine ⟨.inl rfl,_,(((zo.zT 7 m.end_.toNat 1 rfl ge rfl rfl (.inr rfl) (by simp) (by simp) (shut_map (enc:=encI) (fun _=>rfl) _) (ownE 8 _ _)).trans (zo.zT 6 m.zf.toNat 1 rfl gg rfl rfl (.inl rfl) (by simp) (by simp) eshE (ownG 7 _))).trans (zo.zT 5 m.version.toNat 3 rfl gv rfl rfl (.inl rfl) (by simp) (by simp) eshG (ownV 6))).trans (zo.zT 2 0 4 rfl rfl rfl rfl (.inl rfl) (by simp) (by simp) eshV (zX rfl)),?_⟩;show _=some (C.tup [C.agg [I w.zn,I w.current,I w.lock,lI w.pins,C.lst 0 5 ((w.ze.set m.version.toNat (jY m v0 g0 e0 g0.zr (Slp.qP m.word m.slot) e0.zg)).map zI),lL w.zd,lCo w.counts,lR w.zt],Cm { m with pc:=3 },Ce { evV m v0 4 8 m.slot with jq:=true }]);rw [<- estV,<- estG,<- estE]
 rfl
abbrev yQ (m:Mac) (e0:En):En:={ e0 with next:=(e0.next.set m.slot.toNat (m.word % 4294967296 - 1)) }
theorem zlg (w:Wor) (m:Mac) (v0:Ver) (g0:Gr) (e0:En) (sw:qR w) (ok:OkW w) (hl:i64 m.listen) (hpc:m.pc=1) (hs:zW w m=true) (hat:AtE w m v0 g0 e0) (hne:e0.next≠[]) (hw:u64 m.word) (hh:u64 e0.head) (s0:0<=m.slot) (s1:m.slot.toNat < e0.next.length) {tk hd ac:Int} (htk:tk=g0.zr) (hhd:hd=e0.head) (hac:ac=e0.zg):
  zb Tryz.prog 184 [] [Cw w,Cm m] (.tup [Cw (wb w m v0 g0 (yQ m e0) tk hd ac),Cm { m with pc:=2 },Ce (evV m v0 2 9 (m.word % 4294967296 - 1))]) []:=by
 have estE1:((rwE m g0 e0 (e0.head) (8) (e0.zg)).set m.end_.toNat [U e0.head,C.lst 0 1 ((e0.next.set m.slot.toNat (m.word % 4294967296 - 1)).map encI),I e0.zg])=(g0.ends.set m.end_.toNat (qp (yQ m e0) e0.head e0.zg)).map zu:=by rw [List.set_set];exact jf zu _ _ (qp (yQ m e0) e0.head e0.zg) _ rfl
 have estG1:((rwG m v0 g0 (g0.zr) (7)).set m.zf.toNat [U g0.zr,C.lst 0 3 (((g0.ends.set m.end_.toNat (qp (yQ m e0) e0.head e0.zg)).map zu))])=(v0.zm.set m.zf.toNat (yh m g0 (yQ m e0) g0.zr e0.head e0.zg)).map zE:=by rw [List.set_set];exact jf zE _ _ (yh m g0 (yQ m e0) g0.zr e0.head e0.zg) _ rfl
 have estV1:((rwV w m v0 (6)).set m.version.toNat (qJ v0.snap++[C.lst 0 2 (((v0.zm.set m.zf.toNat (yh m g0 (yQ m e0) g0.zr e0.head e0.zg)).map zE)),Bo v0.qj]))=(w.ze.set m.version.toNat (jY m v0 g0 (yQ m e0) g0.zr e0.head e0.zg)).map zI:=by rw [List.set_set];exact jf zI _ _ (jY m v0 g0 (yQ m e0) g0.zr e0.head e0.zg) _ rfl
 have eshE1:∀ r ∈ ((rwE m g0 e0 (e0.head) (8) (e0.zg)).set m.end_.toNat [U e0.head,C.lst 0 1 ((e0.next.set m.slot.toNat (m.word % 4294967296 - 1)).map encI),I e0.zg]),∀ c ∈ r,q8 c=true∧zx c=true:=by
  rw [estE1];exact shut_map (enc:=zu) (fun _=>rfl) _
 have eshG1:∀ r ∈ ((rwG m v0 g0 (g0.zr) (7)).set m.zf.toNat [U g0.zr,C.lst 0 3 ((rwE m g0 e0 (e0.head) (8) (e0.zg)).set m.end_.toNat [U e0.head,C.lst 0 1 ((e0.next.set m.slot.toNat (m.word % 4294967296 - 1)).map encI),I e0.zg])]),∀ c ∈ r,q8 c=true∧zx c=true:=by
  rw [estE1,estG1];exact shut_map (enc:=zE) (fun _=>rfl) _
 have eshV1:∀ r ∈ ((rwV w m v0 (6)).set m.version.toNat (qJ v0.snap++[C.lst 0 2 ((rwG m v0 g0 (g0.zr) (7)).set m.zf.toNat [U g0.zr,C.lst 0 3 ((rwE m g0 e0 (e0.head) (8) (e0.zg)).set m.end_.toNat [U e0.head,C.lst 0 1 ((e0.next.set m.slot.toNat (m.word % 4294967296 - 1)).map encI),I e0.zg])]),Bo v0.qj])),∀ c ∈ r,q8 c=true∧zx c=true:=by
  rw [estE1,estG1,estV1];exact shut_map (enc:=zI) (fun _=>rfl) _
 have gn:(e0.next.map Hy.encI)[m.slot.toNat]?= some (Hy.encI (e0.next[m.slot.toNat]'s1)):=by rw [List.getElem?_map,List.getElem?_eq_getElem s1];rfl
 have hst:(e0.next.map Hy.encI).set m.slot.toNat [I (m.word % 4294967296 - 1)]=(e0.next.set m.slot.toNat (m.word % 4294967296 - 1)).map Hy.encI:=by rw [List.map_set];rfl
 have e4:0+m.slot.toNat=m.slot.toNat:=Nat.zero_add _;have lv:=hat.ln.lv;have lg:=hat.ln.lg;have le:=hat.ln.le;have smv:=sw.ze.2 v0 (List.mem_of_getElem? hat.at_);have hp:zea w.ze m.version.toNat v0 m.zf.toNat g0 m.end_.toNat e0:=⟨⟨⟨smv.2 g0 (List.mem_of_getElem? hat.atg),hat.ate,hne⟩,smv,hat.atg⟩,sw.ze,hat.at_⟩;have ownV:∀ i,∀ r ∈ rwV w m v0 (i),∀ c ∈ r,zx c=true:=fun i=>zy (enc:=zI) (fun _=>rfl) rfl _ _
 have ownG:∀ i t,∀ r ∈ rwG m v0 g0 (t) (i),∀ c ∈ r,zx c=true:=fun i t=>zy (enc:=zE) (fun _=>rfl) rfl _ _
 have ownE:∀ i a b,∀ r ∈ rwE m g0 e0 (a) (i) (b),∀ c ∈ r,zx c=true:=fun i a b=>zy (enc:=zu) (fun _=>rfl) rfl _ _
 have gv:(rwV w m v0 (6))[m.version.toNat]?= some ((qJ v0.snap++[C.sl (6) [] 2 0 v0.zm.length false,Bo v0.qj])):=List.getElem?_set_self tP;have gg:(rwG m v0 g0 (tk) (7))[m.zf.toNat]?= some ([U (tk),C.sl (7) [] 3 0 g0.ends.length false]):=List.getElem?_set_self tN;have ge:(rwE m g0 e0 (hd) (8) (ac))[m.end_.toNat]?= some ([U (hd),C.sl (8) [] 1 0 e0.next.length false,I (ac)]):=List.getElem?_set_self tK;have estE:((rwE m g0 e0 (hd) (8) (ac)).set m.end_.toNat [U hd,C.lst 0 1 (e0.next.map encI),I ac])=(g0.ends.set m.end_.toNat (qp e0 hd ac)).map zu:=by rw [List.set_set];exact jf zu _ _ (qp e0 hd ac) _ rfl
 have estG:((rwG m v0 g0 (tk) (7)).set m.zf.toNat [U tk,C.lst 0 3 (((g0.ends.set m.end_.toNat (qp e0 hd ac)).map zu))])=(v0.zm.set m.zf.toNat (yh m g0 e0 tk hd ac)).map zE:=by rw [List.set_set];exact jf zE _ _ (yh m g0 e0 tk hd ac) _ rfl
 have estV:((rwV w m v0 (6)).set m.version.toNat (qJ v0.snap++[C.lst 0 2 (((v0.zm.set m.zf.toNat (yh m g0 e0 tk hd ac)).map zE)),Bo v0.qj]))=(w.ze.set m.version.toNat (jY m v0 g0 e0 tk hd ac)).map zI:=by rw [List.set_set];exact jf zI _ _ (jY m v0 g0 e0 tk hd ac) _ rfl
 have eshE:∀ r ∈ ((rwE m g0 e0 (hd) (8) (ac)).set m.end_.toNat [U hd,C.lst 0 1 (e0.next.map encI),I ac]),∀ c ∈ r,q8 c=true∧zx c=true:=by
  rw [estE];exact shut_map (enc:=zu) (fun _=>rfl) _
 have eshG:∀ r ∈ ((rwG m v0 g0 (tk) (7)).set m.zf.toNat [U tk,C.lst 0 3 ((rwE m g0 e0 (hd) (8) (ac)).set m.end_.toNat [U hd,C.lst 0 1 (e0.next.map encI),I ac])]),∀ c ∈ r,q8 c=true∧zx c=true:=by
  rw [estE,estG];exact shut_map (enc:=zE) (fun _=>rfl) _
 have eshV:∀ r ∈ ((rwV w m v0 (6)).set m.version.toNat (qJ v0.snap++[C.lst 0 2 ((rwG m v0 g0 (tk) (7)).set m.zf.toNat [U tk,C.lst 0 3 ((rwE m g0 e0 (hd) (8) (ac)).set m.end_.toNat [U hd,C.lst 0 1 (e0.next.map encI),I ac])]),Bo v0.qj])),∀ c ∈ r,q8 c=true∧zx c=true:=by
  rw [estE,estG,estV];exact shut_map (enc:=zI) (fun _=>rfl) _
 have a0:=hat.v0;have b0:=hat.g0;have c0:=hat.e0;have e1:0+m.version.toNat=m.version.toNat:=Nat.zero_add _;have e2:0+m.zf.toNat=m.zf.toNat:=Nat.zero_add _;have e3:0+m.end_.toNat=m.end_.toNat:=Nat.zero_add _;have gg0:(rwG m v0 g0 (g0.zr) (7))[m.zf.toNat]?= some ([U (g0.zr),C.sl (7) [] 3 0 g0.ends.length false]):=List.getElem?_set_self tN;have ge0:(rwE m g0 e0 (e0.head) (8) (e0.zg))[m.end_.toNat]?= some ([U (e0.head),C.sl (8) [] 1 0 e0.next.length false,I (e0.zg)]):=List.getElem?_set_self tK;refine zb.zp (fn:=Tryz.f184) Tryz.func184 rfl (uH ?_);(repeat (first | refine uA ?_ | refine uB ?_))
 refine ⟨_,_,(zM w m ok hl).frame rfl _,dd ?_⟩;refine ⟨fun _=>dd ?_,fun h=>absurd ((hs).symm.trans h:true=false) (by decide)⟩;(repeat (first | refine uA ?_ | refine uB ?_))
 (repeat refine uC ?_)
 refine zV [] [⟨1,28,8,[zJ w],0⟩,⟨1,97,44,[zD m],0⟩,⟨1,28,8,[zeW],0⟩,⟨1,97,44,[zeM],0⟩,⟨1,62,23,[zQ qu],0⟩,⟨1,0,5,rwV w m v0 (6),0⟩,⟨1,0,2,rwG m v0 g0 (g0.zr) (7),0⟩,⟨1,0,3,rwE m g0 e0 (e0.head) (8) (e0.zg),0⟩,⟨2,3,1,e0.next.map encI,0⟩] (rx:=.agg (rwW w 5)) (yi w sw w.ze rfl hp) (zc (zi (ownV 1)) (zc (zi (ownG 2 _)) (zc (zi (ownE 3 _ _)) rfl))) rfl rfl rfl rfl rfl uV rfl (dd ?_);refine uE ?_;refine ⟨a0,lv,dd ?_⟩;rw [e1];refine ⟨_,gv,(by show 3+1<=5;decide),dd ?_⟩;refine ⟨b0,lg,dd ?_⟩;rw [e2];refine ⟨_,gg0,(by show 1+1<=2;decide),dd ?_⟩;refine ⟨c0,le,dd ?_⟩;rw [e3];refine ⟨_,_,(Slp.qA m.word hw).frame rfl _,dd ?_⟩;refine .inr ⟨⟨[0,1,5,6,7],[0,1,7],true⟩,by kernel_rfl,fun _=>(zc rfl (zc rfl (zc rfl (zc rfl (zc rfl (zc (zi (ownV 6)) (zc (zi (ownG 7 _)) (zc (zi (ownE 8 _ _)) rfl)))))))),_,uH ?_,fun t2 H2 h=>h⟩;refine ⟨_,ge0,(by show 0+1<=3;decide),uH ?_⟩;refine ⟨_,zb.blind [] (Slp.qA e0.head hh) rfl rfl rfl rfl rfl rfl rfl (fun _=>rfl) (fun _=>rfl),uH ?_⟩;refine ⟨_,zb.blind [] (yz w m v0 hat.toAtV 1 8 (e0.head % 4294967296 - 1)) rfl rfl rfl rfl rfl rfl rfl (fun _=>rfl) (fun _=>rfl),uH ?_⟩;(refine ⟨uH ?_,trivial⟩);(refine ⟨(zc rfl (zc rfl (zc rfl (zc rfl (zc rfl (zc (zi (ownV 6)) (zc (zi (ownG 7 _)) (zc (zi (ownE 8 _ _)) rfl)))))))),uH ?_⟩);(repeat (refine ⟨rfl,uH ?_⟩))
 (refine ⟨uH ?_,trivial⟩);(refine ⟨(zc rfl (zc rfl (zc rfl (zc rfl (zc rfl (zc (zi (ownV 6)) (zc (zi (ownG 7 _)) (zc (zi (ownE 8 _ _)) rfl)))))))),uH ?_⟩);(repeat (refine ⟨rfl,uH ?_⟩))
 (refine ⟨_,_,.refl _,uH ?_⟩)
 (repeat (first | refine uA ?_ | refine uB ?_))
 subst htk hhd hac;refine uE ?_;refine ⟨_,ge0,(by show 1+1<=3;decide),dd ?_⟩;refine ⟨s0,s1,dd ?_⟩;rw [e4];refine ⟨_,gn,rfl,dd ?_⟩;rw [hst];refine kR.go rfl (uH ?_);rw [show IntKind.i64.wrap (m.pc+1)=2 from by rw [hpc];rfl];refine .inl ⟨⟨false,[0,1,2],[9,1,10],[]⟩,by kernel_rfl,uH ?_⟩;repeat (refine ⟨rfl,uH ?_⟩)
 refine ⟨.inl rfl,_,(((zo.zT 7 m.end_.toNat 1 rfl ge rfl rfl (.inr rfl) (by simp) (by simp) (shut_map (enc:=encI) (fun _=>rfl) _) (ownE 8 _ _)).trans (zo.zT 6 m.zf.toNat 1 rfl gg rfl rfl (.inl rfl) (by simp) (by simp) eshE1 (ownG 7 _))).trans (zo.zT 5 m.version.toNat 3 rfl gv rfl rfl (.inl rfl) (by simp) (by simp) eshG1 (ownV 6))).trans (zo.zT 2 0 4 rfl rfl rfl rfl (.inl rfl) (by simp) (by simp) eshV1 (zX rfl)),?_⟩;show _=some (C.tup [C.agg [I w.zn,I w.current,I w.lock,lI w.pins,C.lst 0 5 ((w.ze.set m.version.toNat (jY m v0 g0 (yQ m e0) g0.zr e0.head e0.zg)).map zI),lL w.zd,lCo w.counts,lR w.zt],Cm { m with pc:=2 },Ce (evV m v0 2 9 (m.word % 4294967296 - 1))]);rw [<- estV1,<- estG1,<- estE1]
 rfl
abbrev zpI (m:Mac):Ans:=⟨6,m.version,m.zf,m.end_,m.slot,m.listen,0,⟨0,0,0,0,0,0⟩⟩
abbrev zst (m:Mac) (x:Lis):Eve:={ qu with zj:=m.zj,access:=3,cell:=5,version:= -1,value:=IntKind.i64.wrap (x.zg - 1),done:=true,answer:=zpI m }
abbrev zev (x:Lis):Lis:={ x with zg:=IntKind.i64.wrap (x.zg - 1) }
theorem zlj (w:Wor) (m:Mac) (v:Ver) (g:Gr) (e:En) (x:Lis) (sw:qR w) (ok:OkW w) (hl:i64 m.listen) (hpc:m.pc=4) (hs:zW w m=true) (hat:AtE w m v g e) (hw:u64 m.word) (hh:u64 e.head) (hli:0<=m.listen) (hx:w.zd[m.listen.toNat]?= some x):
  zb Tryz.prog 184 [] [Cw w,Cm m] (.tup [Cw { w with zd:=w.zd.set m.listen.toNat (zev x) },Cm { m with answer:=zpI m,done:=true },Ce (zst m x)]) []:=by
 have a0:=hat.v0;have a1:=hat.toAtV.row;have b0:=hat.g0;have b1:(v.zm.map zE)[m.zf.toNat]?= some (zE g):=by rw [List.getElem?_map,hat.atg];rfl
 have c0:=hat.e0;have c1:(g.ends.map zu)[m.end_.toNat]?= some (zu e):=by rw [List.getElem?_map,hat.ate];rfl
 have hn:¬m.listen < 0:=by omega
 have lt:m.listen.toNat < w.zd.length:=(List.getElem?_eq_some_iff.1 hx).1;have gl:(w.zd.map qG)[m.listen.toNat]?= some (qG x):=by rw [List.getElem?_map,hx];rfl
 have hst:(w.zd.map qG).set m.listen.toNat [Tx x.name,Bo x.drain,I (IntKind.i64.wrap (x.zg - 1)),Bo x.closed]=(w.zd.set m.listen.toNat (zev x)).map qG:=by rw [List.map_set];rfl
 have gl2:((w.zd.set m.listen.toNat (zev x)).map qG)[m.listen.toNat]?= some (qG (zev x)):=by rw [List.getElem?_map,List.getElem?_set_self lt];rfl
 have e1:0+m.listen.toNat=m.listen.toNat:=Nat.zero_add _
 obtain ⟨y,l,hy⟩:∃ y l,w.zd=y::l:=by
  cases h:w.zd with
  | nil=>rw [h] at lt;simp at lt
  | cons y l=>exact ⟨y,l,rfl⟩
 refine zb.zp (fn:=Tryz.f184) Tryz.func184 rfl (uH ?_);(repeat (first | refine uA ?_ | refine uB ?_))
 refine ⟨_,_,(zM w m ok hl).frame rfl _,dd ?_⟩;refine ⟨fun _=>dd ?_,fun h=>absurd ((hs).symm.trans h:true=false) (by decide)⟩;(repeat (first | refine uA ?_ | refine uB ?_))
 (repeat refine uC ?_)
 refine zq [] (yM w sw y l hy) rfl rfl rfl rfl rfl rfl (dd ?_);refine uE ?_;(refine ⟨a0,_,a1,dd ?_⟩)
 (refine ⟨b0,_,b1,dd ?_⟩)
 (refine ⟨c0,_,c1,dd ?_⟩)
 refine ⟨_,_,(Slp.qA m.word hw).frame rfl _,dd ?_⟩;refine .inr ⟨⟨[0,1,5,6,7],[0,1],true⟩,by kernel_rfl,fun _=>rfl,_,uH ?_,fun t2 H2 h=>h⟩;refine ⟨_,zb.blind [] (Slp.qA e.head hh) rfl rfl rfl rfl rfl rfl rfl (fun _=>rfl) (fun _=>rfl),uH ?_⟩;refine ⟨_,zb.blind [] (yz w m v hat.toAtV 1 8 (e.head % 4294967296 - 1)) rfl rfl rfl rfl rfl rfl rfl (fun _=>rfl) (fun _=>rfl),uH ?_⟩;(refine ⟨uH ?_,trivial⟩);(repeat (refine ⟨rfl,uH ?_⟩))
 (refine ⟨uH ?_,trivial⟩);(repeat (refine ⟨rfl,uH ?_⟩))
 (refine ⟨_,_,.refl _,uH ?_⟩)
 (repeat (first | refine uA ?_ | refine uB ?_))
 refine ⟨hli,lt,dd ?_⟩;rw [e1];refine ⟨_,gl,(by show 2+1<=4;decide),dd ?_⟩;refine ⟨_,gl,rfl,dd ?_⟩;rw [hst];refine uE ?_;refine ⟨_,gl2,(by show 2+1<=4;decide),dd ?_⟩;refine kR.go rfl (uH ?_);refine .inl ⟨⟨false,[0,1,2],[6,1,7],[]⟩,by kernel_rfl,uH ?_⟩;repeat (refine ⟨rfl,uH ?_⟩)
 exact ⟨.inl rfl,_,zo.zT 2 0 5 rfl rfl rfl rfl (.inr rfl) (by simp) (by simp) (shut_map (enc:=qG) (fun _=>rfl) _) (zX rfl),rfl⟩
end Go.Wor
