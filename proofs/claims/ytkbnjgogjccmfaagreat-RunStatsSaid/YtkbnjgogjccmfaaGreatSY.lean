import Derived.Test.YtkbnjgogjccmfaaGreatSX
set_option linter.all false
set_option maxRecDepth 100000
set_option maxHeartbeats 4000000
namespace Go.Wor
open Go.Ab Go.Proofs Tryz Go.Hy Go.Gat Go.Nam Go.Hos Go.Con Go.Sna
def yZ (w:Wor) (m:u3) (v:u9) (hv:mX w m v) (a b c:Int):to 115 [] [Cw w,Cm m,I a,I b,I c] (Ce (fx m v a b c)) []:=by
 have h0:=hv.v0;have hr:=hv.row;obtain ⟨sn,gs,fr⟩:=v;cases fr
 all_goals
  refine ab func115 ?_;refine uE ?_;(refine ⟨h0,_,hr,dd ?_⟩)
  first | ((refine ya (dd ?_))) | ((refine yb (dd ?_)))
  exact uI
def P7 (w:Wor) (m:u3) (v:u9) (g:Gr) (e:En) (sw:qZ w) (ok:fm w) (hl:i64 m.listen) (hpc:m.pc=0) (hs:z6 w m=true) (hat:fk w m v g e) (hw:u64 m.word) (hh:u64 e.head):
  to 97 [] [Cw w,Cm m] (.u7 [Cw w,Cm { m with word:=e.head,pc:=1 },Ce (fx m v 1 8 (e.head % 4294967296 - 1))]) []:=by
 have a0:=hat.v0;have a1:=hat.tomX.row;have b0:=hat.g0;have b1:(v.zm.map zE)[m.zi.toNat]?= some (zE g):=by rw [dT,hat.eG];rfl
 have c0:=hat.e0;have c1:(g.ends.map zx)[m.end_.toNat]?= some (zx e):=by rw [dT,hat.eS];rfl
 refine ab func97 ?_;(repeat (first | refine uA ?_ | refine uB ?_))
 refine ah (zO w m ok hl) ?_;refine ⟨fun _=>dd ?_,fun h=>absurd ((hs).symm.trans h:true=false) ar⟩;(repeat (first | refine uA ?_ | refine uB ?_))
 refine td ?_
 refine ah (qy w sw) ?_;refine uE ?_;(refine ⟨a0,_,a1,dd ?_⟩)
 (refine ⟨b0,_,b1,dd ?_⟩)
 (refine ⟨c0,_,c1,dd ?_⟩)
 refine ah (Slp.qJ m.word hw) ?_;refine .inr ⟨⟨[0,1,5,6,7],[0,1],true⟩,au,fun _=>rfl,_,uH ?_,fun t2 H2 h=>h⟩;refine ⟨_,ai [] (Slp.qJ e.head hh),uH ?_⟩;refine ⟨_,ai [] (yZ w m v hat.tomX 1 8 (e.head % 4294967296 - 1)),uH ?_⟩;(refine ⟨uH ?_,trivial⟩);refine tc ?_
 (refine ⟨uH ?_,trivial⟩);refine tc ?_
 (refine ⟨_,_,.refl _,uH ?_⟩)
 (repeat (first | refine uA ?_ | refine uB ?_))
 refine wM.go rfl (uH ?_);rw [show IntKind.i64.wrap (m.pc+1)=1 from cD];refine .inl ⟨⟨false,[0,1,2],[5,1,6],[]⟩,au,uH ?_⟩;refine tc ?_
 exact uI
abbrev MC (m:u3):u6:={ qC with zg:=m.zg,access:=1,version:= -1,done:=true,answer:=iK 7 }
def Qc (w:Wor) (m:u3) (v:u9) (g:Gr) (e:En) (sw:qZ w) (ok:fm w) (hl:i64 m.listen) (hpc:m.pc=9) (hs:z6 w m=true) (hat:fk w m v g e) (hw:u64 m.word) (hh:u64 e.head):
  to 97 [] [Cw w,Cm m] (.u7 [Cw w,Cm { m with answer:=iK 7,done:=true },Ce (MC m)]) []:=by
 have a0:=hat.v0;have a1:=hat.tomX.row;have b0:=hat.g0;have b1:(v.zm.map zE)[m.zi.toNat]?= some (zE g):=by rw [dT,hat.eG];rfl
 have c0:=hat.e0;have c1:(g.ends.map zx)[m.end_.toNat]?= some (zx e):=by rw [dT,hat.eS];rfl
 refine ab func97 ?_;(repeat (first | refine uA ?_ | refine uB ?_))
 refine ah (zO w m ok hl) ?_;refine ⟨fun _=>dd ?_,fun h=>absurd ((hs).symm.trans h:true=false) ar⟩;(repeat (first | refine uA ?_ | refine uB ?_))
 refine td ?_
 refine ah (qy w sw) ?_;refine uE ?_;(refine ⟨a0,_,a1,dd ?_⟩)
 (refine ⟨b0,_,b1,dd ?_⟩)
 (refine ⟨c0,_,c1,dd ?_⟩)
 refine ah (Slp.qJ m.word hw) ?_;refine .inr ⟨⟨[0,1,5,6,7],[0,1],true⟩,au,fun _=>rfl,_,uH ?_,fun t2 H2 h=>h⟩;refine ⟨_,ai [] (Slp.qJ e.head hh),uH ?_⟩;refine ⟨_,ai [] (yZ w m v hat.tomX 1 8 (e.head % 4294967296 - 1)),uH ?_⟩;(refine ⟨uH ?_,trivial⟩);refine tc ?_
 (refine ⟨uH ?_,trivial⟩);refine tc ?_
 (refine ⟨_,_,.refl _,uH ?_⟩)
 (repeat (first | refine uA ?_ | refine uB ?_))
 refine wM.go rfl (uH ?_);refine .inl ⟨⟨false,[0,1,2],[5,1,6],[]⟩,au,uH ?_⟩;refine tc ?_
 exact uI
def Qa (w:Wor) (m:u3) (v0:u9) (g0:Gr) (e0:En) (sw:qZ w) (ok:fm w) (hl:i64 m.listen) (hpc:m.pc=3) (hs:z6 w m=true) (hat:fk w m v0 g0 e0) (hne:e0.next≠[]) (hw:u64 m.word) (hh:u64 e0.head) {tk hd ac:Int} (htk:tk=g0.zt) (hhd:hd=e0.head) (hac:ac=IntKind.i64.wrap (e0.zf - 1)):
  to 97 [] [Cw w,Cm m] (.u7 [Cw (lM w m v0 g0 e0 tk hd ac),Cm { m with pc:=4 },Ce (fx m v0 3 7 ac)]) []:=by
 have lv:=hat.ln.lv;have lg:=hat.ln.lg;have le:=hat.ln.le;have il:=sw.ze.2 v0 (dS hat.at_);have hp:oX w.ze m.version.toNat v0 m.zi.toNat g0 m.end_.toNat e0:=⟨⟨⟨il.2 g0 (dS hat.eG),hat.eS,hne⟩,il,hat.eG⟩,sw.ze,hat.at_⟩;have ownV:∀ i,∀ r ∈ eD w m v0 (i),∀ c ∈ r,zy c=true:=fun i=>zA (enc:=zF) (fun _=>rfl) rfl _ _
 have ownG:∀ i t,∀ r ∈ ez m v0 g0 (t) (i),∀ c ∈ r,zy c=true:=fun i t=>zA (enc:=zE) (fun _=>rfl) rfl _ _
 have ownE:∀ i a b,∀ r ∈ ej m g0 e0 (a) (i) (b),∀ c ∈ r,zy c=true:=fun i a b=>zA (enc:=zx) (fun _=>rfl) rfl _ _
 have gv:(eD w m v0 (6))[m.version.toNat]?= some ((qN v0.snap++[C.sl (6) [] 2 0 v0.zm.length false,Bo v0.qn])):=dW tR;have gg:(ez m v0 g0 (tk) (7))[m.zi.toNat]?= some ([U (tk),C.sl (7) [] 3 0 g0.ends.length false]):=dW tO;have ge:(ej m g0 e0 (hd) (8) (ac))[m.end_.toNat]?= some ([U (hd),C.sl (8) [] 1 0 e0.next.length false,I (ac)]):=dW tL;have estE:((ej m g0 e0 (hd) (8) (ac)).set m.end_.toNat [U hd,C.u1 0 1 (e0.next.map encI),I ac])=(g0.ends.set m.end_.toNat (qw e0 hd ac)).map zx:=cG
 have estG:((ez m v0 g0 (tk) (7)).set m.zi.toNat [U tk,C.u1 0 3 (((g0.ends.set m.end_.toNat (qw e0 hd ac)).map zx))])=(v0.zm.set m.zi.toNat (yJ m g0 e0 tk hd ac)).map zE:=cH
 have estV:((eD w m v0 (6)).set m.version.toNat (qN v0.snap++[C.u1 0 2 (((v0.zm.set m.zi.toNat (yJ m g0 e0 tk hd ac)).map zE)),Bo v0.qn]))=(w.ze.set m.version.toNat (xp m v0 g0 e0 tk hd ac)).map zF:=cI
 have eshE:∀ r ∈ ((ej m g0 e0 (hd) (8) (ac)).set m.end_.toNat [U hd,C.u1 0 1 (e0.next.map encI),I ac]),∀ c ∈ r,jl c=true∧zy c=true:=by
  exact dc
 have eshG:∀ r ∈ ((ez m v0 g0 (tk) (7)).set m.zi.toNat [U tk,C.u1 0 3 ((ej m g0 e0 (hd) (8) (ac)).set m.end_.toNat [U hd,C.u1 0 1 (e0.next.map encI),I ac])]),∀ c ∈ r,jl c=true∧zy c=true:=by
  exact c9
 have eshV:∀ r ∈ ((eD w m v0 (6)).set m.version.toNat (qN v0.snap++[C.u1 0 2 ((ez m v0 g0 (tk) (7)).set m.zi.toNat [U tk,C.u1 0 3 ((ej m g0 e0 (hd) (8) (ac)).set m.end_.toNat [U hd,C.u1 0 1 (e0.next.map encI),I ac])]),Bo v0.qn])),∀ c ∈ r,jl c=true∧zy c=true:=by
  exact cZ
 have a0:=hat.v0;have b0:=hat.g0;have c0:=hat.e0;have e1:0+m.version.toNat=m.version.toNat:=gz _;have e2:0+m.zi.toNat=m.zi.toNat:=gz _;have e3:0+m.end_.toNat=m.end_.toNat:=gz _;have gg0:(ez m v0 g0 (g0.zt) (7))[m.zi.toNat]?= some ([U (g0.zt),C.sl (7) [] 3 0 g0.ends.length false]):=dW tO;have ge0:(ej m g0 e0 (e0.head) (8) (e0.zf))[m.end_.toNat]?= some ([U (e0.head),C.sl (8) [] 1 0 e0.next.length false,I (e0.zf)]):=dW tL;refine ab func97 ?_;(repeat (first | refine uA ?_ | refine uB ?_))
 refine ah (zO w m ok hl) ?_;refine ⟨fun _=>dd ?_,fun h=>absurd ((hs).symm.trans h:true=false) ar⟩;(repeat (first | refine uA ?_ | refine uB ?_))
 refine td ?_
 refine zZ [] [⟨1,37,8,[zJ w],0⟩,⟨1,69,44,[zD m],0⟩,⟨1,37,8,[fQ],0⟩,⟨1,69,44,[fP],0⟩,⟨1,48,23,[zP qC],0⟩,⟨1,0,5,eD w m v0 (6),0⟩,⟨1,0,2,ez m v0 g0 (g0.zt) (7),0⟩,⟨1,0,3,ej m g0 e0 (e0.head) (8) (e0.zf),0⟩,⟨2,3,1,e0.next.map encI,0⟩] (rx:=.agg (eZ w 5)) (yK w sw w.ze rfl hp) (zc (zj (ownV 1)) (zc (zj (ownG 2 _)) (zc (zj (ownE 3 _ _)) rfl))) rfl rfl rfl rfl rfl uV rfl (dd ?_);refine uE ?_;refine ⟨a0,lv,dd ?_⟩;rw [e1];refine ⟨_,gv,cy,dd ?_⟩;refine ⟨b0,lg,dd ?_⟩;rw [e2];refine ⟨_,gg0,cz,dd ?_⟩;refine ⟨c0,le,dd ?_⟩;rw [e3];refine ah (Slp.qJ m.word hw) ?_;refine .inr ⟨⟨[0,1,5,6,7],[0,1,7],true⟩,au,fun _=>(zc rfl (zc rfl (zc rfl (zc rfl (zc rfl (zc (zj (ownV 6)) (zc (zj (ownG 7 _)) (zc (zj (ownE 8 _ _)) rfl)))))))),_,uH ?_,fun t2 H2 h=>h⟩;refine ⟨_,ge0,cB,uH ?_⟩;refine ⟨_,ai [] (Slp.qJ e0.head hh),uH ?_⟩;refine ⟨_,ai [] (yZ w m v0 hat.tomX 1 8 (e0.head % 4294967296 - 1)),uH ?_⟩;(refine ⟨uH ?_,trivial⟩);(refine ⟨(zc rfl (zc rfl (zc rfl (zc rfl (zc rfl (zc (zj (ownV 6)) (zc (zj (ownG 7 _)) (zc (zj (ownE 8 _ _)) rfl)))))))),uH ?_⟩);refine tc ?_
 (refine ⟨uH ?_,trivial⟩);(refine ⟨(zc rfl (zc rfl (zc rfl (zc rfl (zc rfl (zc (zj (ownV 6)) (zc (zj (ownG 7 _)) (zc (zj (ownE 8 _ _)) rfl)))))))),uH ?_⟩);refine tc ?_
 (refine ⟨_,_,.refl _,uH ?_⟩)
 (repeat (first | refine uA ?_ | refine uB ?_))
 refine ⟨_,ge0,cA,dd ?_⟩;refine ⟨_,ge0,rfl,dd ?_⟩;rw [gI];subst htk hhd hac;refine .inl ⟨⟨false,[3],[7],[]⟩,au,uH ?_⟩;refine ⟨_,ge,cA,dd ?_⟩;refine tc ?_
 refine wM.go rfl (uH ?_);rw [show IntKind.i64.wrap (m.pc+1)=4 from cD];refine .inl ⟨⟨false,[0,1,2],[9,1,10],[]⟩,au,uH ?_⟩;refine tc ?_
 refine ⟨.inl rfl,_,(((zp.zV 7 m.end_.toNat 1 rfl ge rfl rfl (.inr rfl) aj aj (shut_map (enc:=encI) (fun _=>rfl) _) (ownE 8 _ _)).trans (zp.zV 6 m.zi.toNat 1 rfl gg rfl rfl (.inl rfl) aj aj eshE (ownG 7 _))).trans (zp.zV 5 m.version.toNat 3 rfl gv rfl rfl (.inl rfl) aj aj eshG (ownV 6))).trans (zp.zV 2 0 4 rfl rfl rfl rfl (.inl rfl) aj aj eshV (qa rfl)),?_⟩;show _=some (C.u7 [C.agg [I w.zn,I w.current,I w.lock,lI w.pins,C.u1 0 5 ((w.ze.set m.version.toNat (xp m v0 g0 e0 g0.zt e0.head (IntKind.i64.wrap (e0.zf - 1)))).map zF),lL w.zd,eM w.counts,lR w.zr],Cm { m with pc:=4 },Ce (fx m v0 3 7 (IntKind.i64.wrap (e0.zf - 1)))]);rw [<- estV,<- estG,<- estE]
 rfl
def P9 (w:Wor) (m:u3) (v0:u9) (g0:Gr) (e0:En) (sw:qZ w) (ok:fm w) (hl:i64 m.listen) (hpc:m.pc=2) (hs:z6 w m=true) (hat:fk w m v0 g0 e0) (hne:e0.next≠[]) (hw:u64 m.word) (hh:u64 e0.head) (heq:e0.head=m.word) (s0: -1<=m.slot) (s1:m.slot<=2147483646) {tk hd ac:Int} (htk:tk=g0.zt) (hhd:hd=Slp.qW m.word m.slot) (hac:ac=e0.zf):
  to 97 [] [Cw w,Cm m] (.u7 [Cw (lM w m v0 g0 e0 tk hd ac),Cm { m with pc:=3 },Ce { fx m v0 4 8 m.slot with qQ:=true }]) []:=by
 have lv:=hat.ln.lv;have lg:=hat.ln.lg;have le:=hat.ln.le;have il:=sw.ze.2 v0 (dS hat.at_);have hp:oX w.ze m.version.toNat v0 m.zi.toNat g0 m.end_.toNat e0:=⟨⟨⟨il.2 g0 (dS hat.eG),hat.eS,hne⟩,il,hat.eG⟩,sw.ze,hat.at_⟩;have ownV:∀ i,∀ r ∈ eD w m v0 (i),∀ c ∈ r,zy c=true:=fun i=>zA (enc:=zF) (fun _=>rfl) rfl _ _
 have ownG:∀ i t,∀ r ∈ ez m v0 g0 (t) (i),∀ c ∈ r,zy c=true:=fun i t=>zA (enc:=zE) (fun _=>rfl) rfl _ _
 have ownE:∀ i a b,∀ r ∈ ej m g0 e0 (a) (i) (b),∀ c ∈ r,zy c=true:=fun i a b=>zA (enc:=zx) (fun _=>rfl) rfl _ _
 have gv:(eD w m v0 (6))[m.version.toNat]?= some ((qN v0.snap++[C.sl (6) [] 2 0 v0.zm.length false,Bo v0.qn])):=dW tR;have gg:(ez m v0 g0 (tk) (7))[m.zi.toNat]?= some ([U (tk),C.sl (7) [] 3 0 g0.ends.length false]):=dW tO;have ge:(ej m g0 e0 (hd) (8) (ac))[m.end_.toNat]?= some ([U (hd),C.sl (8) [] 1 0 e0.next.length false,I (ac)]):=dW tL;have estE:((ej m g0 e0 (hd) (8) (ac)).set m.end_.toNat [U hd,C.u1 0 1 (e0.next.map encI),I ac])=(g0.ends.set m.end_.toNat (qw e0 hd ac)).map zx:=cG
 have estG:((ez m v0 g0 (tk) (7)).set m.zi.toNat [U tk,C.u1 0 3 (((g0.ends.set m.end_.toNat (qw e0 hd ac)).map zx))])=(v0.zm.set m.zi.toNat (yJ m g0 e0 tk hd ac)).map zE:=cH
 have estV:((eD w m v0 (6)).set m.version.toNat (qN v0.snap++[C.u1 0 2 (((v0.zm.set m.zi.toNat (yJ m g0 e0 tk hd ac)).map zE)),Bo v0.qn]))=(w.ze.set m.version.toNat (xp m v0 g0 e0 tk hd ac)).map zF:=cI
 have eshE:∀ r ∈ ((ej m g0 e0 (hd) (8) (ac)).set m.end_.toNat [U hd,C.u1 0 1 (e0.next.map encI),I ac]),∀ c ∈ r,jl c=true∧zy c=true:=by
  exact dc
 have eshG:∀ r ∈ ((ez m v0 g0 (tk) (7)).set m.zi.toNat [U tk,C.u1 0 3 ((ej m g0 e0 (hd) (8) (ac)).set m.end_.toNat [U hd,C.u1 0 1 (e0.next.map encI),I ac])]),∀ c ∈ r,jl c=true∧zy c=true:=by
  exact c9
 have eshV:∀ r ∈ ((eD w m v0 (6)).set m.version.toNat (qN v0.snap++[C.u1 0 2 ((ez m v0 g0 (tk) (7)).set m.zi.toNat [U tk,C.u1 0 3 ((ej m g0 e0 (hd) (8) (ac)).set m.end_.toNat [U hd,C.u1 0 1 (e0.next.map encI),I ac])]),Bo v0.qn])),∀ c ∈ r,jl c=true∧zy c=true:=by
  exact cZ
 have a0:=hat.v0;have b0:=hat.g0;have c0:=hat.e0;have e1:0+m.version.toNat=m.version.toNat:=gz _;have e2:0+m.zi.toNat=m.zi.toNat:=gz _;have e3:0+m.end_.toNat=m.end_.toNat:=gz _;have gg0:(ez m v0 g0 (g0.zt) (7))[m.zi.toNat]?= some ([U (g0.zt),C.sl (7) [] 3 0 g0.ends.length false]):=dW tO;have ge0:(ej m g0 e0 (e0.head) (8) (e0.zf))[m.end_.toNat]?= some ([U (e0.head),C.sl (8) [] 1 0 e0.next.length false,I (e0.zf)]):=dW tL;refine ab func97 ?_;(repeat (first | refine uA ?_ | refine uB ?_))
 refine ah (zO w m ok hl) ?_;refine ⟨fun _=>dd ?_,fun h=>absurd ((hs).symm.trans h:true=false) ar⟩;(repeat (first | refine uA ?_ | refine uB ?_))
 refine td ?_
 refine zZ [] [⟨1,37,8,[zJ w],0⟩,⟨1,69,44,[zD m],0⟩,⟨1,37,8,[fQ],0⟩,⟨1,69,44,[fP],0⟩,⟨1,48,23,[zP qC],0⟩,⟨1,0,5,eD w m v0 (6),0⟩,⟨1,0,2,ez m v0 g0 (g0.zt) (7),0⟩,⟨1,0,3,ej m g0 e0 (e0.head) (8) (e0.zf),0⟩,⟨2,3,1,e0.next.map encI,0⟩] (rx:=.agg (eZ w 5)) (yK w sw w.ze rfl hp) (zc (zj (ownV 1)) (zc (zj (ownG 2 _)) (zc (zj (ownE 3 _ _)) rfl))) rfl rfl rfl rfl rfl uV rfl (dd ?_);refine uE ?_;refine ⟨a0,lv,dd ?_⟩;rw [e1];refine ⟨_,gv,cy,dd ?_⟩;refine ⟨b0,lg,dd ?_⟩;rw [e2];refine ⟨_,gg0,cz,dd ?_⟩;refine ⟨c0,le,dd ?_⟩;rw [e3];refine ah (Slp.qJ m.word hw) ?_;refine .inr ⟨⟨[0,1,5,6,7],[0,1,7],true⟩,au,fun _=>(zc rfl (zc rfl (zc rfl (zc rfl (zc rfl (zc (zj (ownV 6)) (zc (zj (ownG 7 _)) (zc (zj (ownE 8 _ _)) rfl)))))))),_,uH ?_,fun t2 H2 h=>h⟩;refine ⟨_,ge0,cB,uH ?_⟩;refine ⟨_,ai [] (Slp.qJ e0.head hh),uH ?_⟩;refine ⟨_,ai [] (yZ w m v0 hat.tomX 1 8 (e0.head % 4294967296 - 1)),uH ?_⟩;(refine ⟨uH ?_,trivial⟩);(refine ⟨(zc rfl (zc rfl (zc rfl (zc rfl (zc rfl (zc (zj (ownV 6)) (zc (zj (ownG 7 _)) (zc (zj (ownE 8 _ _)) rfl)))))))),uH ?_⟩);refine tc ?_
 (refine ⟨uH ?_,trivial⟩);(refine ⟨(zc rfl (zc rfl (zc rfl (zc rfl (zc rfl (zc (zj (ownV 6)) (zc (zj (ownG 7 _)) (zc (zj (ownE 8 _ _)) rfl)))))))),uH ?_⟩);refine tc ?_
 (refine ⟨_,_,.refl _,uH ?_⟩)
 (repeat (first | refine uA ?_ | refine uB ?_))
 refine uE ?_;refine ⟨_,ge0,cB,dd ?_⟩;refine ⟨fun h=>absurd h (by simp [heq]),fun _=>dd ?_⟩;refine ah (Slp.Fq m.word m.slot hw s0 s1) ?_;refine ⟨_,ge0,rfl,dd ?_⟩;rw [gI];subst htk hhd hac;refine .inl ⟨⟨false,[1],[1],[]⟩,au,uH ?_⟩;refine tc ?_
 refine wM.go rfl (uH ?_);rw [show IntKind.i64.wrap (m.pc+1)=3 from cD];refine .inl ⟨⟨false,[0,1,2],[9,1,10],[]⟩,au,uH ?_⟩;refine tc ?_
 refine ⟨.inl rfl,_,(((zp.zV 7 m.end_.toNat 1 rfl ge rfl rfl (.inr rfl) aj aj (shut_map (enc:=encI) (fun _=>rfl) _) (ownE 8 _ _)).trans (zp.zV 6 m.zi.toNat 1 rfl gg rfl rfl (.inl rfl) aj aj eshE (ownG 7 _))).trans (zp.zV 5 m.version.toNat 3 rfl gv rfl rfl (.inl rfl) aj aj eshG (ownV 6))).trans (zp.zV 2 0 4 rfl rfl rfl rfl (.inl rfl) aj aj eshV (qa rfl)),?_⟩;show _=some (C.u7 [C.agg [I w.zn,I w.current,I w.lock,lI w.pins,C.u1 0 5 ((w.ze.set m.version.toNat (xp m v0 g0 e0 g0.zt (Slp.qW m.word m.slot) e0.zf)).map zF),lL w.zd,eM w.counts,lR w.zr],Cm { m with pc:=3 },Ce { fx m v0 4 8 m.slot with qQ:=true }]);rw [<- estV,<- estG,<- estE]
 rfl
abbrev vi (m:u3) (e0:En):En:={ e0 with next:=(e0.next.set m.slot.toNat (m.word % 4294967296 - 1)) }
def P8 (w:Wor) (m:u3) (v0:u9) (g0:Gr) (e0:En) (sw:qZ w) (ok:fm w) (hl:i64 m.listen) (hpc:m.pc=1) (hs:z6 w m=true) (hat:fk w m v0 g0 e0) (hne:e0.next≠[]) (hw:u64 m.word) (hh:u64 e0.head) (s0:0<=m.slot) (s1:m.slot.toNat < e0.next.length) {tk hd ac:Int} (htk:tk=g0.zt) (hhd:hd=e0.head) (hac:ac=e0.zf):
  to 97 [] [Cw w,Cm m] (.u7 [Cw (lM w m v0 g0 (vi m e0) tk hd ac),Cm { m with pc:=2 },Ce (fx m v0 2 9 (m.word % 4294967296 - 1))]) []:=by
 have estE1:((ej m g0 e0 (e0.head) (8) (e0.zf)).set m.end_.toNat [U e0.head,C.u1 0 1 ((e0.next.set m.slot.toNat (m.word % 4294967296 - 1)).map encI),I e0.zf])=(g0.ends.set m.end_.toNat (qw (vi m e0) e0.head e0.zf)).map zx:=by rw [gI];exact jv zx _ _ (qw (vi m e0) e0.head e0.zf) _ rfl
 have estG1:((ez m v0 g0 (g0.zt) (7)).set m.zi.toNat [U g0.zt,C.u1 0 3 (((g0.ends.set m.end_.toNat (qw (vi m e0) e0.head e0.zf)).map zx))])=(v0.zm.set m.zi.toNat (yJ m g0 (vi m e0) g0.zt e0.head e0.zf)).map zE:=by rw [gI];exact jv zE _ _ (yJ m g0 (vi m e0) g0.zt e0.head e0.zf) _ rfl
 have estV1:((eD w m v0 (6)).set m.version.toNat (qN v0.snap++[C.u1 0 2 (((v0.zm.set m.zi.toNat (yJ m g0 (vi m e0) g0.zt e0.head e0.zf)).map zE)),Bo v0.qn]))=(w.ze.set m.version.toNat (xp m v0 g0 (vi m e0) g0.zt e0.head e0.zf)).map zF:=by rw [gI];exact jv zF _ _ (xp m v0 g0 (vi m e0) g0.zt e0.head e0.zf) _ rfl
 have eshE1:∀ r ∈ ((ej m g0 e0 (e0.head) (8) (e0.zf)).set m.end_.toNat [U e0.head,C.u1 0 1 ((e0.next.set m.slot.toNat (m.word % 4294967296 - 1)).map encI),I e0.zf]),∀ c ∈ r,jl c=true∧zy c=true:=by
  rw [estE1];exact shut_map (enc:=zx) (fun _=>rfl) _
 have eshG1:∀ r ∈ ((ez m v0 g0 (g0.zt) (7)).set m.zi.toNat [U g0.zt,C.u1 0 3 ((ej m g0 e0 (e0.head) (8) (e0.zf)).set m.end_.toNat [U e0.head,C.u1 0 1 ((e0.next.set m.slot.toNat (m.word % 4294967296 - 1)).map encI),I e0.zf])]),∀ c ∈ r,jl c=true∧zy c=true:=by
  rw [estE1,estG1];exact shut_map (enc:=zE) (fun _=>rfl) _
 have eshV1:∀ r ∈ ((eD w m v0 (6)).set m.version.toNat (qN v0.snap++[C.u1 0 2 ((ez m v0 g0 (g0.zt) (7)).set m.zi.toNat [U g0.zt,C.u1 0 3 ((ej m g0 e0 (e0.head) (8) (e0.zf)).set m.end_.toNat [U e0.head,C.u1 0 1 ((e0.next.set m.slot.toNat (m.word % 4294967296 - 1)).map encI),I e0.zf])]),Bo v0.qn])),∀ c ∈ r,jl c=true∧zy c=true:=by
  rw [estE1,estG1,estV1];exact shut_map (enc:=zF) (fun _=>rfl) _
 have gn:(e0.next.map Hy.encI)[m.slot.toNat]?= some (Hy.encI (e0.next[m.slot.toNat]'s1)):=by rw [dT,dQ s1];rfl
 have hst:(e0.next.map Hy.encI).set m.slot.toNat [I (m.word % 4294967296 - 1)]=(e0.next.set m.slot.toNat (m.word % 4294967296 - 1)).map Hy.encI:=bR
 have e4:0+m.slot.toNat=m.slot.toNat:=gz _;have lv:=hat.ln.lv;have lg:=hat.ln.lg;have le:=hat.ln.le;have il:=sw.ze.2 v0 (dS hat.at_);have hp:oX w.ze m.version.toNat v0 m.zi.toNat g0 m.end_.toNat e0:=⟨⟨⟨il.2 g0 (dS hat.eG),hat.eS,hne⟩,il,hat.eG⟩,sw.ze,hat.at_⟩;have ownV:∀ i,∀ r ∈ eD w m v0 (i),∀ c ∈ r,zy c=true:=fun i=>zA (enc:=zF) (fun _=>rfl) rfl _ _
 have ownG:∀ i t,∀ r ∈ ez m v0 g0 (t) (i),∀ c ∈ r,zy c=true:=fun i t=>zA (enc:=zE) (fun _=>rfl) rfl _ _
 have ownE:∀ i a b,∀ r ∈ ej m g0 e0 (a) (i) (b),∀ c ∈ r,zy c=true:=fun i a b=>zA (enc:=zx) (fun _=>rfl) rfl _ _
 have gv:(eD w m v0 (6))[m.version.toNat]?= some ((qN v0.snap++[C.sl (6) [] 2 0 v0.zm.length false,Bo v0.qn])):=dW tR;have gg:(ez m v0 g0 (tk) (7))[m.zi.toNat]?= some ([U (tk),C.sl (7) [] 3 0 g0.ends.length false]):=dW tO;have ge:(ej m g0 e0 (hd) (8) (ac))[m.end_.toNat]?= some ([U (hd),C.sl (8) [] 1 0 e0.next.length false,I (ac)]):=dW tL;have estE:((ej m g0 e0 (hd) (8) (ac)).set m.end_.toNat [U hd,C.u1 0 1 (e0.next.map encI),I ac])=(g0.ends.set m.end_.toNat (qw e0 hd ac)).map zx:=cG
 have estG:((ez m v0 g0 (tk) (7)).set m.zi.toNat [U tk,C.u1 0 3 (((g0.ends.set m.end_.toNat (qw e0 hd ac)).map zx))])=(v0.zm.set m.zi.toNat (yJ m g0 e0 tk hd ac)).map zE:=cH
 have estV:((eD w m v0 (6)).set m.version.toNat (qN v0.snap++[C.u1 0 2 (((v0.zm.set m.zi.toNat (yJ m g0 e0 tk hd ac)).map zE)),Bo v0.qn]))=(w.ze.set m.version.toNat (xp m v0 g0 e0 tk hd ac)).map zF:=cI
 have eshE:∀ r ∈ ((ej m g0 e0 (hd) (8) (ac)).set m.end_.toNat [U hd,C.u1 0 1 (e0.next.map encI),I ac]),∀ c ∈ r,jl c=true∧zy c=true:=by
  exact dc
 have eshG:∀ r ∈ ((ez m v0 g0 (tk) (7)).set m.zi.toNat [U tk,C.u1 0 3 ((ej m g0 e0 (hd) (8) (ac)).set m.end_.toNat [U hd,C.u1 0 1 (e0.next.map encI),I ac])]),∀ c ∈ r,jl c=true∧zy c=true:=by
  exact c9
 have eshV:∀ r ∈ ((eD w m v0 (6)).set m.version.toNat (qN v0.snap++[C.u1 0 2 ((ez m v0 g0 (tk) (7)).set m.zi.toNat [U tk,C.u1 0 3 ((ej m g0 e0 (hd) (8) (ac)).set m.end_.toNat [U hd,C.u1 0 1 (e0.next.map encI),I ac])]),Bo v0.qn])),∀ c ∈ r,jl c=true∧zy c=true:=by
  exact cZ
 have a0:=hat.v0;have b0:=hat.g0;have c0:=hat.e0;have e1:0+m.version.toNat=m.version.toNat:=gz _;have e2:0+m.zi.toNat=m.zi.toNat:=gz _;have e3:0+m.end_.toNat=m.end_.toNat:=gz _;have gg0:(ez m v0 g0 (g0.zt) (7))[m.zi.toNat]?= some ([U (g0.zt),C.sl (7) [] 3 0 g0.ends.length false]):=dW tO;have ge0:(ej m g0 e0 (e0.head) (8) (e0.zf))[m.end_.toNat]?= some ([U (e0.head),C.sl (8) [] 1 0 e0.next.length false,I (e0.zf)]):=dW tL;refine ab func97 ?_;(repeat (first | refine uA ?_ | refine uB ?_))
 refine ah (zO w m ok hl) ?_;refine ⟨fun _=>dd ?_,fun h=>absurd ((hs).symm.trans h:true=false) ar⟩;(repeat (first | refine uA ?_ | refine uB ?_))
 refine td ?_
 refine zZ [] [⟨1,37,8,[zJ w],0⟩,⟨1,69,44,[zD m],0⟩,⟨1,37,8,[fQ],0⟩,⟨1,69,44,[fP],0⟩,⟨1,48,23,[zP qC],0⟩,⟨1,0,5,eD w m v0 (6),0⟩,⟨1,0,2,ez m v0 g0 (g0.zt) (7),0⟩,⟨1,0,3,ej m g0 e0 (e0.head) (8) (e0.zf),0⟩,⟨2,3,1,e0.next.map encI,0⟩] (rx:=.agg (eZ w 5)) (yK w sw w.ze rfl hp) (zc (zj (ownV 1)) (zc (zj (ownG 2 _)) (zc (zj (ownE 3 _ _)) rfl))) rfl rfl rfl rfl rfl uV rfl (dd ?_);refine uE ?_;refine ⟨a0,lv,dd ?_⟩;rw [e1];refine ⟨_,gv,cy,dd ?_⟩;refine ⟨b0,lg,dd ?_⟩;rw [e2];refine ⟨_,gg0,cz,dd ?_⟩;refine ⟨c0,le,dd ?_⟩;rw [e3];refine ah (Slp.qJ m.word hw) ?_;refine .inr ⟨⟨[0,1,5,6,7],[0,1,7],true⟩,au,fun _=>(zc rfl (zc rfl (zc rfl (zc rfl (zc rfl (zc (zj (ownV 6)) (zc (zj (ownG 7 _)) (zc (zj (ownE 8 _ _)) rfl)))))))),_,uH ?_,fun t2 H2 h=>h⟩;refine ⟨_,ge0,cB,uH ?_⟩;refine ⟨_,ai [] (Slp.qJ e0.head hh),uH ?_⟩;refine ⟨_,ai [] (yZ w m v0 hat.tomX 1 8 (e0.head % 4294967296 - 1)),uH ?_⟩;(refine ⟨uH ?_,trivial⟩);(refine ⟨(zc rfl (zc rfl (zc rfl (zc rfl (zc rfl (zc (zj (ownV 6)) (zc (zj (ownG 7 _)) (zc (zj (ownE 8 _ _)) rfl)))))))),uH ?_⟩);refine tc ?_
 (refine ⟨uH ?_,trivial⟩);(refine ⟨(zc rfl (zc rfl (zc rfl (zc rfl (zc rfl (zc (zj (ownV 6)) (zc (zj (ownG 7 _)) (zc (zj (ownE 8 _ _)) rfl)))))))),uH ?_⟩);refine tc ?_
 (refine ⟨_,_,.refl _,uH ?_⟩)
 (repeat (first | refine uA ?_ | refine uB ?_))
 subst htk hhd hac;refine uE ?_;refine ⟨_,ge0,(by show 1+1<=3;decide),dd ?_⟩;refine ⟨s0,s1,dd ?_⟩;rw [e4];refine ⟨_,gn,rfl,dd ?_⟩;rw [hst];refine wM.go rfl (uH ?_);rw [show IntKind.i64.wrap (m.pc+1)=2 from cD];refine .inl ⟨⟨false,[0,1,2],[9,1,10],[]⟩,au,uH ?_⟩;refine tc ?_
 refine ⟨.inl rfl,_,(((zp.zV 7 m.end_.toNat 1 rfl ge rfl rfl (.inr rfl) aj aj (shut_map (enc:=encI) (fun _=>rfl) _) (ownE 8 _ _)).trans (zp.zV 6 m.zi.toNat 1 rfl gg rfl rfl (.inl rfl) aj aj eshE1 (ownG 7 _))).trans (zp.zV 5 m.version.toNat 3 rfl gv rfl rfl (.inl rfl) aj aj eshG1 (ownV 6))).trans (zp.zV 2 0 4 rfl rfl rfl rfl (.inl rfl) aj aj eshV1 (qa rfl)),?_⟩;show _=some (C.u7 [C.agg [I w.zn,I w.current,I w.lock,lI w.pins,C.u1 0 5 ((w.ze.set m.version.toNat (xp m v0 g0 (vi m e0) g0.zt e0.head e0.zf)).map zF),lL w.zd,eM w.counts,lR w.zr],Cm { m with pc:=2 },Ce (fx m v0 2 9 (m.word % 4294967296 - 1))]);rw [<- estV1,<- estG1,<- estE1]
 rfl
abbrev Hw (m:u3):eC:=⟨6,m.version,m.zi,m.end_,m.slot,m.listen,0,⟨0,0,0,0,0,0⟩⟩
abbrev MP (m:u3) (x:eL):u6:={ qC with zg:=m.zg,access:=3,cell:=5,version:= -1,value:=IntKind.i64.wrap (x.zf - 1),done:=true,answer:=Hw m }
abbrev o5 (x:eL):eL:={ x with zf:=IntKind.i64.wrap (x.zf - 1) }
def Qb (w:Wor) (m:u3) (v:u9) (g:Gr) (e:En) (x:eL) (sw:qZ w) (ok:fm w) (hl:i64 m.listen) (hpc:m.pc=4) (hs:z6 w m=true) (hat:fk w m v g e) (hw:u64 m.word) (hh:u64 e.head) (hli:0<=m.listen) (hx:w.zd[m.listen.toNat]?= some x):
  to 97 [] [Cw w,Cm m] (.u7 [Cw { w with zd:=w.zd.set m.listen.toNat (o5 x) },Cm { m with answer:=Hw m,done:=true },Ce (MP m x)]) []:=by
 have a0:=hat.v0;have a1:=hat.tomX.row;have b0:=hat.g0;have b1:(v.zm.map zE)[m.zi.toNat]?= some (zE g):=by rw [dT,hat.eG];rfl
 have c0:=hat.e0;have c1:(g.ends.map zx)[m.end_.toNat]?= some (zx e):=by rw [dT,hat.eS];rfl
 have hn:¬m.listen < 0:=aw
 have lt:m.listen.toNat < w.zd.length:=(dP.1 hx).1;have gl:(w.zd.map qK)[m.listen.toNat]?= some (qK x):=by rw [dT,hx];rfl
 have hst:(w.zd.map qK).set m.listen.toNat [Tx x.name,Bo x.drain,I (IntKind.i64.wrap (x.zf - 1)),Bo x.closed]=(w.zd.set m.listen.toNat (o5 x)).map qK:=bR
 have gl2:((w.zd.set m.listen.toNat (o5 x)).map qK)[m.listen.toNat]?= some (qK (o5 x)):=by rw [dT,dW lt];rfl
 have e1:0+m.listen.toNat=m.listen.toNat:=gz _
 obtain ⟨y,l,hy⟩:∃ y l,w.zd=y::l:=by
  cases h:w.zd with
  | nil=>rw [h] at lt;simp at lt
  | cons y l=>exact ⟨y,l,rfl⟩
 refine ab func97 ?_;(repeat (first | refine uA ?_ | refine uB ?_))
 refine ah (zO w m ok hl) ?_;refine ⟨fun _=>dd ?_,fun h=>absurd ((hs).symm.trans h:true=false) ar⟩;(repeat (first | refine uA ?_ | refine uB ?_))
 refine td ?_
 refine af [] (vd w sw y l hy) ?_;refine uE ?_;(refine ⟨a0,_,a1,dd ?_⟩)
 (refine ⟨b0,_,b1,dd ?_⟩)
 (refine ⟨c0,_,c1,dd ?_⟩)
 refine ah (Slp.qJ m.word hw) ?_;refine .inr ⟨⟨[0,1,5,6,7],[0,1],true⟩,au,fun _=>rfl,_,uH ?_,fun t2 H2 h=>h⟩;refine ⟨_,ai [] (Slp.qJ e.head hh),uH ?_⟩;refine ⟨_,ai [] (yZ w m v hat.tomX 1 8 (e.head % 4294967296 - 1)),uH ?_⟩;(refine ⟨uH ?_,trivial⟩);refine tc ?_
 (refine ⟨uH ?_,trivial⟩);refine tc ?_
 (refine ⟨_,_,.refl _,uH ?_⟩)
 (repeat (first | refine uA ?_ | refine uB ?_))
 refine ⟨hli,lt,dd ?_⟩;rw [e1];refine ⟨_,gl,cx,dd ?_⟩;refine ⟨_,gl,rfl,dd ?_⟩;rw [hst];refine uE ?_;refine ⟨_,gl2,cx,dd ?_⟩;refine wM.go rfl (uH ?_);refine .inl ⟨⟨false,[0,1,2],[6,1,7],[]⟩,au,uH ?_⟩;refine tc ?_
 exact ⟨.inl rfl,_,zp.zV 2 0 5 rfl rfl rfl rfl (.inr rfl) aj aj (shut_map (enc:=qK) (fun _=>rfl) _) (qa rfl),rfl⟩
end Go.Wor
