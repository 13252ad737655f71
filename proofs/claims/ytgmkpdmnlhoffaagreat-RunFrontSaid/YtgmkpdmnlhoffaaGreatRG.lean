import Derived.Test.YtgmkpdmnlhoffaaGreatRV
import Derived.Test.YtgmkpdmnlhoffaaGreatRW
set_option linter.all false
set_option maxRecDepth 100000
set_option maxHeartbeats 4000000
namespace Go.Wor
open Go.Ab Go.Proofs Go.Hy Go.Gat Go.Nam Go.Hos Go.Con Go.Sna
theorem zjH (l:List Lis) (s:Str) (hl:l.length < 4611686018427387904):
  zb Tryz.prog 121 [⟨2,92,4,(l).map qG,0⟩,⟨1,9,1,[[Tx s]],0⟩] [.sl 0 [] 4 0 l.length false,.fn 122 [] [.ref 1 [] 1 0 0]] (I (z7 l s)) [⟨2,92,4,(l).map qG,0⟩,⟨1,9,1,[[Tx s]],0⟩]:=by
 refine z6 (fn:=Tryz.f121) Tryz.func121 rfl (Nat.le_refl _) (uH ?_);refine qf.seq l.length (fun k=>(.sl 0 [] 4 0 l.length false::.fn 122 [] [.ref 1 [] 1 0 0]::.za::.za::I 0::.za::.za::I l.length::I k::tY ([.za,.za]))) (fun k=>[⟨2,92,4,(l).map qG,0⟩,⟨1,9,1,[[Tx s]],0⟩]) (fun k=>∀ j,(h:j < l.length)->j < k->(l[j].name == s)=false) ?_ (by simp) (fun k hk hr=>?_) (fun hr=>?_)
 ·exact cC
 ·have hg:(l.map qG)[k]?= some (qG l[k]):=by rw [List.getElem?_map,List.getElem?_eq_getElem hk];rfl
  have e1:0+(k:Int).toNat=k:=by simp
  conv=>whnf
  refine uF ?_;refine ⟨by omega,by simpa using hk,dd ?_⟩;rw [e1];refine ⟨_,hg,(by show 0+4<=4;decide),dd ?_⟩;refine zq [1] (zhO s l[k]) rfl rfl rfl rfl rfl rfl (dd ?_);refine ⟨fun h2=>?_,fun h2=>?_⟩
  ·refine dd ?_;refine .inr ⟨by simp,uH ?_⟩
   have e:z7 l s=k:=by
    unfold z7
    have:l.findIdx? (fun x=>x.name == s)=some k:=by
     rw [List.findIdx?_eq_some_iff_getElem];exact ⟨hk,h2,fun j hj=>by simp only [hr j (by omega) hj];decide⟩
    rw [this]
   rw [e];exact ⟨.inl rfl,_,_,.refl _,rfl,cE 2⟩
  ·refine dd ?_;refine .inl ⟨rfl,?_,fun j hj hjk=>?_⟩
   ·rw [zA (by omega)];exact cE 2
   ·by_cases e:j=k
    ·subst e;exact h2
    ·exact hr j hj (by omega)
 ·refine uD ?_
  have e:z7 l s= -1:=by
   unfold z7
   have:l.findIdx? (fun x=>x.name == s)=none:=by
    rw [List.findIdx?_eq_none_iff];intro x hx;obtain ⟨j,hj,rfl⟩:=List.mem_iff_getElem.1 hx;exact hr j hj hj
   rw [this]
  rw [e];exact ⟨.inl rfl,_,_,.refl _,rfl,cE 2⟩
theorem ziM (l:List Lis) (s:Str) (hl:l.length < 4611686018427387904):zb Tryz.prog 69 [⟨2,92,4,(l).map qG,0⟩] [.sl 0 [] 4 0 l.length false,Tx s] (I (z7 l s)) [⟨2,92,4,(l).map qG,0⟩]:=by
 refine z6 (fn:=Tryz.f69) Tryz.func69 rfl (Nat.le_refl _) (uH ?_);refine zq [0,1] (zjH l s hl) rfl rfl rfl rfl rfl rfl (dd ?_);exact ⟨.inl rfl,_,_,.refl _,rfl,cE 1⟩
theorem zeh (m:Mac) (e:Eve) (a:Ans):zb Tryz.prog 231 [⟨1,97,44,[zD (m)],0⟩,⟨1,263,24,[.ref 0 [] 44 0 0::zQ (e)],0⟩] [.ref 1 [] 24 0 0,.agg (j6 a)] (.tup []) [⟨1,97,44,[zD ({ m with done:=true,answer:=a })],0⟩,⟨1,263,24,[.ref 0 [] 44 0 0::zQ ({ e with done:=true,answer:=a })],0⟩]:=by
 refine z6 (fn:=Tryz.f231) Tryz.func231 rfl (Nat.le_refl _) (uH ?_);refine .inl ⟨⟨false,[3,7,8],[1,2],[]⟩,by kernel_rfl,uH ?_⟩;repeat (refine ⟨rfl,uH ?_⟩)
 refine .inl ⟨⟨false,[2],[2],[]⟩,by kernel_rfl,uH ?_⟩;repeat (refine ⟨rfl,uH ?_⟩)
 exact ⟨.inr rfl,_,_,.refl _,rfl,cE 2⟩
abbrev drE (m:Mac):Eve:={ qu with zj:=m.zj,access:=1,version:= -1 }
theorem zgP (w:Wor) (m:Mac) (sw:qR w) (ok:OkW w) (hl:i64 m.listen) (hpc:m.pc=0) (hs:zW w m=true) (hi:z7 w.zd m.op.listen < 0):
  zb Tryz.prog 186 [] [Cw w,Cm m] (.tup [Cw w,Cm { m with done:=true,answer:=zaH 7 },Ce { drE m with done:=true,answer:=zaH 7 }]) []:=by
 refine zb.zp (fn:=Tryz.f186) Tryz.func186 rfl (uH ?_);refine ⟨fun h=>absurd h (by simp [hpc]),fun _=>dd ?_⟩;refine ⟨_,_,(zM w m ok hl).frame rfl _,dd ?_⟩;refine ⟨fun _=>dd ?_,fun h=>absurd ((hs).symm.trans h:true=false) (by decide)⟩;(repeat refine uC ?_)
 refine ⟨_,_,(qs w sw).frame rfl _,dd ?_⟩;refine ⟨_,_,(k8 w.zd m.op.listen (by have:=ok.zd.1;omega)).frame rfl _,dd ?_⟩;refine ⟨fun _=>dd ?_,fun h=>absurd h (by simpa using hi)⟩;refine zq [1,5] (zeh m (drE m) (zaH 7)) rfl rfl rfl rfl rfl rfl (dd ?_);refine .inl ⟨⟨false,[0,1,5],[0,1,5],[]⟩,by kernel_rfl,uH ?_⟩;repeat (refine ⟨rfl,uH ?_⟩)
 exact uI
abbrev zsR (m:Mac):Eve:={ qu with zj:=m.zj,access:=2,cell:=4,version:= -1,value:=1,jq:=true }
theorem zfE (w:Wor) (m:Mac) (x:Lis) (sw:qR w) (ok:OkW w) (hl:i64 m.listen) (hpc:m.pc=0) (hs:zW w m=true) (hi:0<=z7 w.zd m.op.listen) (hx:w.zd[(z7 w.zd m.op.listen).toNat]?= some x):
  zb Tryz.prog 186 [] [Cw w,Cm m] (.tup [Cw { w with zd:=w.zd.set (z7 w.zd m.op.listen).toNat (Go.Gat.we x) },Cm { m with listen:=z7 w.zd m.op.listen,done:=true,answer:=⟨10,0,0,0,0,z7 w.zd m.op.listen,0,⟨0,0,0,0,0,0⟩⟩ },Ce { zsR m with done:=true,answer:=⟨10,0,0,0,0,z7 w.zd m.op.listen,0,⟨0,0,0,0,0,0⟩⟩ }]) []:=by
 generalize hp:z7 w.zd m.op.listen=p at hi hx;have lt:p.toNat < w.zd.length:=(List.getElem?_eq_some_iff.1 hx).1;have gl:(w.zd.map qG)[p.toNat]?= some (qG x):=by rw [List.getElem?_map,hx];rfl
 have hst:(w.zd.map qG).set p.toNat [Tx (Go.Gat.we x).name,Bo (Go.Gat.we x).drain,I (Go.Gat.we x).zg,Bo (Go.Gat.we x).closed]=(w.zd.set p.toNat (Go.Gat.we x)).map qG:=by rw [List.map_set];rfl
 have e1:0+p.toNat=p.toNat:=Nat.zero_add _
 obtain ⟨y,l,hy⟩:∃ y l,w.zd=y::l:=by
  cases h:w.zd with
  | nil=>rw [h] at lt;simp at lt
  | cons y l=>exact ⟨y,l,rfl⟩
 have hpl:=ziM w.zd m.op.listen (by have:=ok.zd.1;omega);rw [hp] at hpl;refine zb.zp (fn:=Tryz.f186) Tryz.func186 rfl (uH ?_);refine ⟨fun h=>absurd h (by simp [hpc]),fun _=>dd ?_⟩;refine ⟨_,_,(zM w m ok hl).frame rfl _,dd ?_⟩;refine ⟨fun _=>dd ?_,fun h=>absurd ((hs).symm.trans h:true=false) (by decide)⟩;(repeat refine uC ?_)
 refine zq [] (yM w sw y l hy) rfl rfl rfl rfl rfl rfl (dd ?_);refine zq [5] (hpl) rfl rfl rfl rfl rfl rfl (dd ?_);refine ⟨fun h=>absurd h (by simp;omega),fun _=>dd ?_⟩;refine .inl ⟨⟨true,[1,4],[0],[8]⟩,by kernel_rfl,uH ?_⟩;repeat (refine ⟨rfl,uH ?_⟩)
 refine ⟨hi,lt,dd ?_⟩;rw [e1];refine ⟨_,gl,(by show 0+4<=4;decide),dd ?_⟩;refine ⟨_,_,(Go.Gat.zjn x).frame rfl _,dd ?_⟩;refine ⟨hi,lt,dd ?_⟩;rw [e1];refine ⟨_,gl,rfl,dd ?_⟩;repeat (refine ⟨rfl,uH ?_⟩)
 rw [hst];refine zq [1,6] (zeh { m with listen:=p } (zsR m) ⟨10,0,0,0,0,p,0,⟨0,0,0,0,0,0⟩⟩) rfl rfl rfl rfl rfl rfl (dd ?_);refine .inl ⟨⟨false,[0,1,5],[0,1,6],[]⟩,by kernel_rfl,uH ?_⟩;repeat (refine ⟨rfl,uH ?_⟩)
 exact ⟨.inl rfl,_,zo.zT 2 0 5 rfl rfl rfl rfl (.inr rfl) (by simp) (by simp) (shut_map (enc:=qG) (fun _=>rfl) _) (zX rfl),rfl⟩
abbrev atM (m:Mac) (p i:Int):Mac:={ m with pc:=p,i:=i }
theorem qy (m:Mac) (a b c:Int):zb Tryz.prog 283 [⟨1,97,44,[zD (m)],0⟩] [.agg [.za,.ref 0 [] 44 0 0],I a,I b,I c] (Ce (evO m a b c)) [⟨1,97,44,[zD (m)],0⟩]:=by
 refine z6 (fn:=Tryz.f283) Tryz.func283 rfl (Nat.le_refl _) (uH ?_);(repeat (refine ⟨rfl,uH ?_⟩));exact ⟨.inl rfl,_,_,.refl _,rfl,cE 1⟩
theorem jZ (m:Mac) (p i:Int):zb Tryz.prog 284 [⟨1,97,44,[zD (m)],0⟩] [.agg [.za,.ref 0 [] 44 0 0],I p,I i] (.tup []) [⟨1,97,44,[zD ({ m with pc:=p,i:=i })],0⟩]:=by
 refine z6 (fn:=Tryz.f284) Tryz.func284 rfl (Nat.le_refl _) (uH ?_);refine .inl ⟨⟨false,[1,3],[1],[]⟩,by kernel_rfl,uH ?_⟩;repeat (refine ⟨rfl,uH ?_⟩)
 exact ⟨.inr rfl,_,_,.refl _,rfl,cE 1⟩
theorem zed (m:Mac) (e:Eve) (a:Ans):zb Tryz.prog 282 [⟨1,97,44,[zD (m)],0⟩] [.agg [.za,.ref 0 [] 44 0 0],Ce e,.agg (j6 a)] (Ce { e with done:=true,answer:=a }) [⟨1,97,44,[zD ({ m with done:=true,answer:=a })],0⟩]:=by
 refine z6 (fn:=Tryz.f282) Tryz.func282 rfl (Nat.le_refl _) (uH ?_);refine .inl ⟨⟨false,[1,3,4],[1,3],[]⟩,by kernel_rfl,uH ?_⟩;repeat (refine ⟨rfl,uH ?_⟩)
 refine .inl ⟨⟨false,[0],[3],[]⟩,by kernel_rfl,uH ?_⟩;repeat (refine ⟨rfl,uH ?_⟩)
 (repeat (refine ⟨rfl,uH ?_⟩));exact ⟨.inl rfl,_,_,.refl _,rfl,cE 1⟩
theorem ze3 (w:Wor) (m:Mac):zb Tryz.prog 235 [⟨1,28,8,[zJ (w)],0⟩,⟨1,97,44,[zD (m)],0⟩] [.agg [.ref 0 [] 8 0 0,.ref 1 [] 44 0 0]] (Ce (evO m 1 1 w.zn)) [⟨1,28,8,[zJ (w)],0⟩,⟨1,97,44,[zD ({ m with zn:=w.zn,pc:=2,i:=0 })],0⟩]:=by
 refine z6 (fn:=Tryz.f235) Tryz.func235 rfl (Nat.le_refl _) (uH ?_);refine .inl ⟨⟨false,[1,3,6],[0,2],[]⟩,by kernel_rfl,uH ?_⟩;repeat (refine ⟨rfl,uH ?_⟩)
 refine zq [1] (jZ { m with zn:=w.zn } 2 0) rfl rfl rfl rfl rfl rfl (dd ?_);refine .inl ⟨⟨true,[],[],[]⟩,by kernel_rfl,uH ?_⟩;refine zq [1] (qy { m with zn:=w.zn,pc:=2,i:=0 } 1 1 w.zn) rfl rfl rfl rfl rfl rfl (dd ?_);(repeat (refine ⟨rfl,uH ?_⟩));exact ⟨.inl rfl,_,_,.refl _,rfl,cE 2⟩
theorem ziC (w:Wor) (m:Mac) (h:w.lock≠0):zb Tryz.prog 234 [⟨1,28,8,[zJ (w)],0⟩,⟨1,97,44,[zD (m)],0⟩] [.agg [.ref 0 [] 8 0 0,.ref 1 [] 44 0 0]] (Ce { evO m 5 14 1 with done:=true,answer:=zaH 12 }) [⟨1,28,8,[zJ (w)],0⟩,⟨1,97,44,[zD ({ m with done:=true,answer:=zaH 12 })],0⟩]:=by
 refine z6 (fn:=Tryz.f234) Tryz.func234 rfl (Nat.le_refl _) (uH ?_);refine ⟨fun _=>dd ?_,fun hh=>absurd hh (by simpa using h)⟩;refine .inl ⟨⟨true,[0,1],[2],[2]⟩,by kernel_rfl,uH ?_⟩;refine zq [1] (qy m 5 14 1) rfl rfl rfl rfl rfl rfl (dd ?_);repeat (refine ⟨rfl,uH ?_⟩)
 refine zq [1] (zed m (evO m 5 14 1) (zaH 12)) rfl rfl rfl rfl rfl rfl (dd ?_);(repeat (refine ⟨rfl,uH ?_⟩));exact ⟨.inl rfl,_,_,.refl _,rfl,cE 2⟩
theorem zg0 (w:Wor) (m:Mac) (h:w.lock=0):zb Tryz.prog 234 [⟨1,28,8,[zJ (w)],0⟩,⟨1,97,44,[zD (m)],0⟩] [.agg [.ref 0 [] 8 0 0,.ref 1 [] 44 0 0]] (Ce (evO m 4 14 1)) [⟨1,28,8,[zJ ({ w with lock:=1 })],0⟩,⟨1,97,44,[zD ({ m with pc:=1 })],0⟩]:=by
 refine z6 (fn:=Tryz.f234) Tryz.func234 rfl (Nat.le_refl _) (uH ?_);refine ⟨fun hh=>absurd hh (by simp [h]),fun _=>dd ?_⟩;refine .inl ⟨⟨false,[1,3],[2],[]⟩,by kernel_rfl,uH ?_⟩;repeat (refine ⟨rfl,uH ?_⟩)
 refine zq [1] (qy { m with pc:=1 } 4 14 1) rfl rfl rfl rfl rfl rfl (dd ?_);(repeat (refine ⟨rfl,uH ?_⟩));exact ⟨.inl rfl,_,_,.refl _,rfl,cE 2⟩
def lpM (w:Wor) (m:Mac) (p:Int):Mac:=if p≠0∧p≠IntKind.i64.wrap (m.zn+1) then atM m 4 0 else if IntKind.i64.wrap (m.i+1) < w.pins.length then { m with i:=IntKind.i64.wrap (m.i+1) } else atM m 3 (IntKind.i64.wrap (m.i+1))
theorem zgZ (w:Wor) (m:Mac) (p:Int) (h0:0<=m.i) (hp:w.pins[m.i.toNat]?= some p):zb Tryz.prog 236 [⟨1,28,8,[zJ (w)],0⟩,⟨1,97,44,[zD (m)],0⟩] [.agg [.ref 0 [] 8 0 0,.ref 1 [] 44 0 0]] (Ce (evO m 1 2 p)) [⟨1,28,8,[zJ (w)],0⟩,⟨1,97,44,[zD (lpM w m p)],0⟩]:=by
 have hg:(w.pins.map encI)[m.i.toNat]?= some (encI p):=by rw [List.getElem?_map,hp];rfl
 have ml:(w.pins.map encI).length=w.pins.length:=List.length_map ..;refine z6 (fn:=Tryz.f236) Tryz.func236 rfl (Nat.le_refl _) (uH ?_);refine uE ?_;(refine ⟨h0,_,hg,dd ?_⟩)
 refine ⟨fun q1=>?_,fun q1=>?_⟩
 ·refine dd ?_;refine ⟨fun q2=>?_,fun q2=>?_⟩
  ·rw [show lpM w m p=atM m 4 0 from if_pos ⟨by simpa using q1,by simpa using q2⟩];refine dd ?_;(repeat refine uC ?_)
   refine zq [1] (jZ m 4 0) rfl rfl rfl rfl rfl rfl (dd ?_);refine zq [1] (qy (atM m 4 0) 1 2 p) rfl rfl rfl rfl rfl rfl (dd ?_);(repeat (refine ⟨rfl,uH ?_⟩));exact ⟨.inl rfl,_,_,.refl _,rfl,cE 2⟩
  ·have q:¬(p≠0∧p≠IntKind.i64.wrap (m.zn+1)):=fun hh=>hh.2 (by simpa using q2)
   refine dd ?_;(repeat refine uC ?_)
   (rw [show lpM w m p=_ from if_neg q]);refine uE ?_;(rw [ml]);refine ⟨fun q3=>?_,fun q3=>?_⟩;(focus ((rw [if_pos (by simpa using q3)]);refine dd ?_;refine zq [1] (qy { m with i:=IntKind.i64.wrap (m.i+1) } 1 2 p) rfl rfl rfl rfl rfl rfl (dd ?_);(repeat (refine ⟨rfl,uH ?_⟩));exact ⟨.inl rfl,_,_,.refl _,rfl,cE 2⟩));(rw [if_neg (by simpa using q3)]);refine dd ?_;refine .inl ⟨⟨true,[],[],[]⟩,by kernel_rfl,uH ?_⟩;refine zq [1] (jZ m 3 (IntKind.i64.wrap (m.i+1))) rfl rfl rfl rfl rfl rfl (dd ?_);(repeat (refine ⟨rfl,uH ?_⟩));refine zq [1] (qy (atM m 3 (IntKind.i64.wrap (m.i+1))) 1 2 p) rfl rfl rfl rfl rfl rfl (dd ?_);(repeat (refine ⟨rfl,uH ?_⟩));exact ⟨.inl rfl,_,_,.refl _,rfl,cE 2⟩
 ·have q:¬(p≠0∧p≠IntKind.i64.wrap (m.zn+1)):=fun hh=>hh.1 (by simpa using q1)
  refine dd ?_;(repeat refine uC ?_)
  (rw [show lpM w m p=_ from if_neg q]);refine uE ?_;(rw [ml]);refine ⟨fun q3=>?_,fun q3=>?_⟩;(focus ((rw [if_pos (by simpa using q3)]);refine dd ?_;refine zq [1] (qy { m with i:=IntKind.i64.wrap (m.i+1) } 1 2 p) rfl rfl rfl rfl rfl rfl (dd ?_);(repeat (refine ⟨rfl,uH ?_⟩));exact ⟨.inl rfl,_,_,.refl _,rfl,cE 2⟩));(rw [if_neg (by simpa using q3)]);refine dd ?_;refine .inl ⟨⟨true,[],[],[]⟩,by kernel_rfl,uH ?_⟩;refine zq [1] (jZ m 3 (IntKind.i64.wrap (m.i+1))) rfl rfl rfl rfl rfl rfl (dd ?_);(repeat (refine ⟨rfl,uH ?_⟩));refine zq [1] (qy (atM m 3 (IntKind.i64.wrap (m.i+1))) 1 2 p) rfl rfl rfl rfl rfl rfl (dd ?_);(repeat (refine ⟨rfl,uH ?_⟩));exact ⟨.inl rfl,_,_,.refl _,rfl,cE 2⟩
theorem zdE (w:Wor) (m:Mac) (h:¬(w.zn=m.zn∧w.zn < 1000000000000)):zb Tryz.prog 237 [⟨1,28,8,[zJ (w)],0⟩,⟨1,97,44,[zD (m)],0⟩] [.agg [.ref 0 [] 8 0 0,.ref 1 [] 44 0 0]] (Ce (evO m 5 1 w.zn)) [⟨1,28,8,[zJ (w)],0⟩,⟨1,97,44,[zD (atM m 4 0)],0⟩]:=by
 refine z6 (fn:=Tryz.f237) Tryz.func237 rfl (Nat.le_refl _) (uH ?_);refine uE ?_;refine ⟨fun q1=>?_,fun q1=>?_⟩
 ·refine dd ?_;refine ⟨fun q2=>?_,fun q2=>?_⟩
  ·exact absurd ⟨by simpa using q1,by simpa using q2⟩ h
  ·refine dd ?_;(repeat refine uC ?_)
   refine zq [1] (jZ m 4 0) rfl rfl rfl rfl rfl rfl (dd ?_);refine .inl ⟨⟨true,[],[],[]⟩,by kernel_rfl,uH ?_⟩;refine zq [1] (qy (atM m 4 0) 5 1 w.zn) rfl rfl rfl rfl rfl rfl (dd ?_);(repeat (refine ⟨rfl,uH ?_⟩));exact ⟨.inl rfl,_,_,.refl _,rfl,cE 2⟩
 ·refine dd ?_;(repeat refine uC ?_)
  refine zq [1] (jZ m 4 0) rfl rfl rfl rfl rfl rfl (dd ?_);refine .inl ⟨⟨true,[],[],[]⟩,by kernel_rfl,uH ?_⟩;refine zq [1] (qy (atM m 4 0) 5 1 w.zn) rfl rfl rfl rfl rfl rfl (dd ?_);(repeat (refine ⟨rfl,uH ?_⟩));exact ⟨.inl rfl,_,_,.refl _,rfl,cE 2⟩
theorem zcJ (w:Wor) (m:Mac) (h1:w.zn=m.zn) (h2:w.zn < 1000000000000):zb Tryz.prog 237 [⟨1,28,8,[zJ (w)],0⟩,⟨1,97,44,[zD (m)],0⟩] [.agg [.ref 0 [] 8 0 0,.ref 1 [] 44 0 0]] (Ce (evO m 4 1 (IntKind.i64.wrap (w.zn+1)))) [⟨1,28,8,[zJ ({ w with zn:=IntKind.i64.wrap (w.zn+1) })],0⟩,⟨1,97,44,[zD ({ atM m 4 0 with zn:=IntKind.i64.wrap (w.zn+1) })],0⟩]:=by
 refine z6 (fn:=Tryz.f237) Tryz.func237 rfl (Nat.le_refl _) (uH ?_);refine uE ?_;refine ⟨fun _=>dd ?_,fun hh=>absurd hh tE⟩;refine ⟨fun _=>dd ?_,fun hh=>absurd hh (by simp;omega)⟩;(repeat refine uC ?_)
 refine .inl ⟨⟨false,[1,3,6],[0,2],[]⟩,by kernel_rfl,uH ?_⟩;repeat (refine ⟨rfl,uH ?_⟩)
 refine zq [1] (jZ { m with zn:=IntKind.i64.wrap (w.zn+1) } 4 0) rfl rfl rfl rfl rfl rfl (dd ?_);refine .inl ⟨⟨true,[],[],[]⟩,by kernel_rfl,uH ?_⟩;refine zq [1] (qy { atM m 4 0 with zn:=IntKind.i64.wrap (w.zn+1) } 4 1 (IntKind.i64.wrap (w.zn+1))) rfl rfl rfl rfl rfl rfl (dd ?_);(repeat (refine ⟨rfl,uH ?_⟩));exact ⟨.inl rfl,_,_,.refl _,rfl,cE 2⟩
def xU (v:Ver):List En:=v.zm.flatMap (·.ends)
structure zo7 (v:Ver):Prop where
 zm:v.zm.length<=1000
 ends : ∀ g ∈ v.zm, g.ends.length <= 1000
theorem zjx:∀ (l:List Gr),(∀ g ∈ l,g.ends.length<=1000)->(l.flatMap (·.ends)).length<=l.length * 1000
 | [],_=>by simp
 | g::l,h=>by
  have:=zjx l fun x hx=>h x (List.mem_cons_of_mem _ hx)
  have:=h g (List.mem_cons_self ..);simp only [List.flatMap_cons,List.length_append,List.length_cons];omega
theorem zej (v:Ver) (h:zo7 v):zb Tryz.prog 136 [] [Cv v] (lE (xU v)) []:=by
 have m1:(v.zm.map zE).length=v.zm.length:=List.length_map ..;have hgl:=h.zm;refine zb.zp (fn:=Tryz.f136) Tryz.func136 rfl (uH ?_);rw [m1];refine qf.seq v.zm.length (fun k=>(.za::.ref 0 [] 5 0 0::.lst 1 0 []::.gl 1 3 (((v.zm.take k).flatMap (·.ends)).map zu)::.za::.za::.za::(lG v.zm)::I v.zm.length::I k::tY ([.za]))) (fun k=>[⟨1,79,5,[zI v],0⟩,⟨4,156,3,((v.zm.take k).flatMap (·.ends)).map zu,0⟩]) (fun k=>True) ?_ trivial (fun k hk hr=>?_) (fun hr=>?_)
 ·refine zo.trans (zo.grow 3 156 3 rfl (.inl rfl)) ?_;exact cC
 ·obtain ⟨g,hx⟩:∃ g,g=v.zm[k]:=⟨_,rfl⟩;have hg:(v.zm.map zE)[k]?= some (zE g):=by rw [List.getElem?_map,List.getElem?_eq_getElem hk,hx];rfl
  have eg:((v.zm.take (k+1)).flatMap (·.ends)).map zu=((v.zm.take k).flatMap (·.ends)).map zu++g.ends.map zu:=by rw [List.take_succ_eq_append_getElem hk,<- hx];simp
  have l1:(((v.zm.take k).flatMap (·.ends)).map zu).length<=k * 1000:=by
   have:=zjx (v.zm.take k) fun x hx=>h.ends x (List.mem_of_mem_take hx)
   rw [List.length_take,Nat.min_eq_left (by omega)] at this;simpa using this
  have l2:(g.ends.map zu).length<=1000:=by rw [List.length_map];exact h.ends g (hx ▸ List.getElem_mem hk)
  conv=>whnf
  refine uF ?_;(refine ⟨by omega,_,by rw [toNat_cast];exact hg,dd ?_⟩)
  refine ⟨rfl,.inr rfl,by simp only [maxLen];omega,by show _ * 40<=_;omega,dd ?_⟩;refine .inl ⟨rfl,?_,trivial⟩;rw [zA (by omega),eg];exact cE 2
 ·refine uD ?_;rw [List.take_length];exact uI
abbrev zpe (k n:Int):Ans:=⟨k,0,0,0,0,0,n,⟨0,0,0,0,0,0⟩⟩
theorem zdV (w:Wor) (m:Mac) (l:Lis) (h0:0<=m.i) (hx:w.zd[m.i.toNat]?= some l):zb Tryz.prog 242 [⟨1,28,8,[zJ (w)],0⟩,⟨1,97,44,[zD (m)],0⟩] [.agg [.ref 0 [] 8 0 0,.ref 1 [] 44 0 0]] (Ce (evO m 1 5 l.zg)) [⟨1,28,8,[zJ (w)],0⟩,⟨1,97,44,[zD (if l.zg=0 then { m with pc:=10 } else atM m 8 (IntKind.i64.wrap (m.i+1)))],0⟩]:=by
 have hg:(w.zd.map qG)[m.i.toNat]?= some (qG l):=by rw [List.getElem?_map,hx];rfl
 refine z6 (fn:=Tryz.f242) Tryz.func242 rfl (Nat.le_refl _) (uH ?_);refine uE ?_;(refine ⟨h0,_,hg,dd ?_⟩)
 refine ⟨fun q=>?_,fun q=>?_⟩
 ·rw [if_pos (by simpa using q)];refine dd ?_;refine zq [1] (qy { m with pc:=10 } 1 5 l.zg) rfl rfl rfl rfl rfl rfl (dd ?_);(repeat (refine ⟨rfl,uH ?_⟩));exact ⟨.inl rfl,_,_,.refl _,rfl,cE 2⟩
 ·rw [if_neg (by simpa using q)];refine dd ?_;refine .inl ⟨⟨true,[],[],[]⟩,by kernel_rfl,uH ?_⟩;refine zq [1] (jZ m 8 (IntKind.i64.wrap (m.i+1))) rfl rfl rfl rfl rfl rfl (dd ?_);(repeat (refine ⟨rfl,uH ?_⟩))
  refine zq [1] (qy (atM m 8 (IntKind.i64.wrap (m.i+1))) 1 5 l.zg) rfl rfl rfl rfl rfl rfl (dd ?_);(repeat (refine ⟨rfl,uH ?_⟩));exact ⟨.inl rfl,_,_,.refl _,rfl,cE 2⟩
theorem zch (w:Wor) (m:Mac) (h:w.zd.length<=m.i):zb Tryz.prog 241 [⟨1,28,8,[zJ (w)],0⟩,⟨1,97,44,[zD (m)],0⟩] [.agg [.ref 0 [] 8 0 0,.ref 1 [] 44 0 0]] (Ce { evO m 2 14 0 with done:=true,answer:=zpe 11 m.answer.n }) [⟨1,28,8,[zJ ({ w with lock:=0 })],0⟩,⟨1,97,44,[zD ({ m with done:=true,answer:=zpe 11 m.answer.n })],0⟩]:=by
 have ml:(w.zd.map qG).length=w.zd.length:=List.length_map ..;refine z6 (fn:=Tryz.f241) Tryz.func241 rfl (Nat.le_refl _) (uH ?_);refine uE ?_;rw [ml];refine ⟨fun _=>dd ?_,fun hh=>absurd hh (by simp;omega)⟩;refine .inl ⟨⟨true,[0,1],[2],[2]⟩,by kernel_rfl,uH ?_⟩;refine zq [1] (qy m 2 14 0) rfl rfl rfl rfl rfl rfl (dd ?_);(repeat (refine ⟨rfl,uH ?_⟩))
 refine zq [1] (zed m (evO m 2 14 0) (zpe 11 m.answer.n)) rfl rfl rfl rfl rfl rfl (dd ?_);(repeat (refine ⟨rfl,uH ?_⟩));exact ⟨.inl rfl,_,_,.refl _,rfl,cE 2⟩
abbrev ldM (m:Mac) (l:Lis):Mac:=if l.drain=true∧l.closed=false then { m with pc:=9 } else { m with i:=IntKind.i64.wrap (m.i+1) }
abbrev ztS (m:Mac) (l:Lis):Eve:=evO m 1 4 (if l.drain=true then 1 else 0)
theorem zdT (w:Wor) (m:Mac) (l:Lis) (h0:0<=m.i) (hx:w.zd[m.i.toNat]?= some l):zb Tryz.prog 241 [⟨1,28,8,[zJ (w)],0⟩,⟨1,97,44,[zD (m)],0⟩] [.agg [.ref 0 [] 8 0 0,.ref 1 [] 44 0 0]] (Ce (ztS m l)) [⟨1,28,8,[zJ (w)],0⟩,⟨1,97,44,[zD (ldM m l)],0⟩]:=by
 have hg:(w.zd.map qG)[m.i.toNat]?= some (qG l):=by rw [List.getElem?_map,hx];rfl
 have hlt:=(List.getElem?_eq_some_iff.1 hx).1;have ml:(w.zd.map qG).length=w.zd.length:=List.length_map ..;obtain ⟨nm,dr,ac,cl⟩:=l;cases dr <;> cases cl
 all_goals
  refine z6 (fn:=Tryz.f241) Tryz.func241 rfl (Nat.le_refl _) (uH ?_);refine uE ?_;rw [ml];refine ⟨fun hh=>absurd hh (by simp;omega),fun _=>dd ?_⟩;refine .inr ⟨⟨[1,4,8,10],[0,1,2],true⟩,by kernel_rfl,fun _=>rfl,_,uH ?_,fun t2 H2 h=>h⟩;repeat (refine ⟨rfl,uH ?_⟩)
  (refine ⟨h0,_,hg,dd ?_⟩)
  (refine ⟨uH ?_,trivial⟩);(repeat (refine ⟨rfl,uH ?_⟩))
  (refine ⟨uH ?_,trivial⟩);(repeat (refine ⟨rfl,uH ?_⟩))
  (refine ⟨_,_,.refl _,uH ?_⟩)
  refine zq [1] (qy m 1 4 0) rfl rfl rfl rfl rfl rfl (dd ?_);(repeat (first | ((refine ⟨fun _=>dd ?_,fun h=>absurd (h.symm.trans rfl:false=true) (by decide)⟩)) | ((refine ⟨fun h=>absurd (h.symm.trans rfl:true=false) (by decide),fun _=>dd ?_⟩))))
  (repeat (refine ⟨rfl,uH ?_⟩));exact ⟨.inl rfl,_,_,.refl _,rfl,cE 2⟩
theorem zci {w w':Wor} {m m':Mac} {e:Eve} (h:w.zt.length<=m.i) (hd:zb Tryz.prog 241 [⟨1,28,8,[zJ (w)],0⟩,⟨1,97,44,[zD (atM m 8 0)],0⟩] [.agg [.ref 0 [] 8 0 0,.ref 1 [] 44 0 0]] (Ce e) [⟨1,28,8,[zJ (w')],0⟩,⟨1,97,44,[zD (m')],0⟩]):zb Tryz.prog 238 [⟨1,28,8,[zJ (w)],0⟩,⟨1,97,44,[zD (m)],0⟩] [.agg [.ref 0 [] 8 0 0,.ref 1 [] 44 0 0]] (Ce e) [⟨1,28,8,[zJ (w')],0⟩,⟨1,97,44,[zD (m')],0⟩]:=by
 have ml:(w.zt.map xi).length=w.zt.length:=List.length_map ..;refine z6 (fn:=Tryz.f238) Tryz.func238 rfl (Nat.le_refl _) (uH ?_);refine uE ?_;rw [ml];refine ⟨fun _=>dd ?_,fun hh=>absurd hh (by simp;omega)⟩;refine zq [1] (jZ m 8 0) rfl rfl rfl rfl rfl rfl (dd ?_);refine zq [0,1] (hd) rfl rfl rfl rfl rfl rfl (dd ?_);(repeat (refine ⟨rfl,uH ?_⟩));exact ⟨.inl rfl,_,_,.refl _,rfl,cE 2⟩
abbrev llM (m:Mac) (r:Ret):Mac:=if r.gone=true∨Go.Lim.zeH r.at_ m.zn=false then { m with i:=IntKind.i64.wrap (m.i+1) } else { m with version:=r.version,zf:=0,end_:=0,other:=0,slot:=0,k:=0,pc:=5 }
theorem ze4 (w:Wor) (m:Mac) (r:Ret) (hr:i64 r.at_) (h0:0<=m.i) (hx:w.zt[m.i.toNat]?= some r):zb Tryz.prog 238 [⟨1,28,8,[zJ (w)],0⟩,⟨1,97,44,[zD (m)],0⟩] [.agg [.ref 0 [] 8 0 0,.ref 1 [] 44 0 0]] (Ce (evO m 1 11 r.version)) [⟨1,28,8,[zJ (w)],0⟩,⟨1,97,44,[zD (llM m r)],0⟩]:=by
 have hg:(w.zt.map xi)[m.i.toNat]?= some (xi r):=by rw [List.getElem?_map,hx];rfl
 have hlt:=(List.getElem?_eq_some_iff.1 hx).1;have ml:(w.zt.map xi).length=w.zt.length:=List.length_map ..;obtain ⟨rv,ra,rg⟩:=r;refine z6 (fn:=Tryz.f238) Tryz.func238 rfl (Nat.le_refl _) (uH ?_);refine uE ?_;rw [ml];refine ⟨fun hh=>absurd hh (by simp;omega),fun _=>dd ?_⟩;refine .inr ⟨⟨[1,4,8,10],[0,1,2],true⟩,by kernel_rfl,fun _=>rfl,_,uH ?_,fun t2 H2 h=>h⟩;repeat (refine ⟨rfl,uH ?_⟩)
 (refine ⟨h0,_,hg,dd ?_⟩)
 (refine ⟨uH ?_,trivial⟩);(repeat (refine ⟨rfl,uH ?_⟩))
 (refine ⟨uH ?_,trivial⟩);(repeat (refine ⟨rfl,uH ?_⟩))
 (refine ⟨_,_,.refl _,uH ?_⟩)
 cases rg
 ·have eN:Go.Lim.zeH ra m.zn=false->llM m ⟨rv,ra,false⟩={ m with i:=IntKind.i64.wrap (m.i+1) }:=fun hh=>if_pos (.inr hh)
  have eY:Go.Lim.zeH ra m.zn=true->llM m ⟨rv,ra,false⟩={ m with version:=rv,zf:=0,end_:=0,other:=0,slot:=0,k:=0,pc:=5 }:=fun hh=>if_neg (by simp [hh])
  refine .inl ⟨⟨true,[],[],[9]⟩,by kernel_rfl,uH ?_⟩;(repeat (first | ((refine ⟨fun _=>dd ?_,fun h=>absurd (h.symm.trans rfl:false=true) (by decide)⟩)) | ((refine ⟨fun h=>absurd (h.symm.trans rfl:true=false) (by decide),fun _=>dd ?_⟩))))
  refine ⟨_,_,(Go.Lim.zml (now:=m.zn) hr.1 hr.2).frame rfl _,dd ?_⟩;refine ⟨fun q=>?_,fun q=>?_⟩
  ·rw [eY q];refine dd ?_;(repeat (refine ⟨rfl,uH ?_⟩))
   (repeat (first | ((refine ⟨fun _=>dd ?_,fun h=>absurd (h.symm.trans rfl:false=true) (by decide)⟩)) | ((refine ⟨fun h=>absurd (h.symm.trans rfl:true=false) (by decide),fun _=>dd ?_⟩))))
   refine zq [1] (qy { m with version:=rv,zf:=0,end_:=0,other:=0,slot:=0,k:=0,pc:=5 } 1 11 rv) rfl rfl rfl rfl rfl rfl (dd ?_);(repeat (refine ⟨rfl,uH ?_⟩));exact ⟨.inl rfl,_,_,.refl _,rfl,cE 2⟩
  ·rw [eN q];refine dd ?_;(repeat (refine ⟨rfl,uH ?_⟩))
   (repeat (first | ((refine ⟨fun _=>dd ?_,fun h=>absurd (h.symm.trans rfl:false=true) (by decide)⟩)) | ((refine ⟨fun h=>absurd (h.symm.trans rfl:true=false) (by decide),fun _=>dd ?_⟩))))
   refine zq [1] (qy { m with i:=IntKind.i64.wrap (m.i+1) } 1 11 rv) rfl rfl rfl rfl rfl rfl (dd ?_);(repeat (refine ⟨rfl,uH ?_⟩));exact ⟨.inl rfl,_,_,.refl _,rfl,cE 2⟩
 ·rw [show llM m ⟨rv,ra,true⟩=_ from if_pos (.inl rfl)];refine .inl ⟨⟨true,[],[],[9]⟩,by kernel_rfl,uH ?_⟩;(repeat (first | ((refine ⟨fun _=>dd ?_,fun h=>absurd (h.symm.trans rfl:false=true) (by decide)⟩)) | ((refine ⟨fun h=>absurd (h.symm.trans rfl:true=false) (by decide),fun _=>dd ?_⟩))))
  refine zq [1] (qy { m with i:=IntKind.i64.wrap (m.i+1) } 1 11 rv) rfl rfl rfl rfl rfl rfl (dd ?_);(repeat (refine ⟨rfl,uH ?_⟩));exact ⟨.inl rfl,_,_,.refl _,rfl,cE 2⟩
abbrev zkg (l:Lis):Lis:={ l with closed:=true }
theorem zmo (w:Wor) (m:Mac) (x:Lis) (h0:0<=m.i) (hx:w.zd[m.i.toNat]?= some x):
  zb Tryz.prog 243 [⟨1,28,8,[[I w.zn,I w.current,I w.lock,lI w.pins,lV w.ze,.sl 2 [] 4 0 w.zd.length false,lCo w.counts,lR w.zt]],0⟩,⟨1,97,44,[zD (m)],0⟩,⟨2,92,4,(w.zd).map qG,0⟩] [.agg [.ref 0 [] 8 0 0,.ref 1 [] 44 0 0]] (Ce (evO m 2 13 1)) [⟨1,28,8,[[I w.zn,I w.current,I w.lock,lI w.pins,lV w.ze,.sl 2 [] 4 0 w.zd.length false,lCo w.counts,lR w.zt]],0⟩,⟨1,97,44,[zD (atM m 8 (IntKind.i64.wrap (m.i+1)))],0⟩,⟨2,92,4,(w.zd.set m.i.toNat (zkg x)).map qG,0⟩]:=by
 have e1:0+m.i.toNat=m.i.toNat:=Nat.zero_add _;have hlt:m.i.toNat < w.zd.length:=(List.getElem?_eq_some_iff.1 hx).1;have gx:(w.zd.map qG)[m.i.toNat]?= some (qG x):=by rw [List.getElem?_map,hx];rfl
 have hst:(w.zd.map qG).set m.i.toNat [Tx x.name,Bo x.drain,I x.zg,Bo true]=(w.zd.set m.i.toNat (zkg x)).map qG:=by rw [List.map_set];rfl
 refine z6 (fn:=Tryz.f243) Tryz.func243 rfl (Nat.le_refl _) (uH ?_);refine .inl ⟨⟨false,[1,4,6,9],[0,1,3],[]⟩,by kernel_rfl,uH ?_⟩;repeat (refine ⟨rfl,uH ?_⟩)
 refine ⟨h0,hlt,dd ?_⟩;rw [e1];refine ⟨_,gx,rfl,dd ?_⟩;(repeat (refine ⟨rfl,uH ?_⟩))
 rw [hst];refine .inl ⟨⟨true,[],[],[]⟩,by kernel_rfl,uH ?_⟩;refine zq [1] (jZ m 8 (IntKind.i64.wrap (m.i+1))) rfl rfl rfl rfl rfl rfl (dd ?_);(repeat (refine ⟨rfl,uH ?_⟩))
 refine zq [1] (qy (atM m 8 (IntKind.i64.wrap (m.i+1))) 2 13 1) rfl rfl rfl rfl rfl rfl (dd ?_);(repeat (refine ⟨rfl,uH ?_⟩));exact ⟨.inl rfl,_,_,.refl _,rfl,cE 3⟩
abbrev laE (m:Mac) (v:Ver) (a:Int):Eve:={ evO m 1 7 a with version:=m.version,qj:=v.qj }
abbrev laM (m:Mac) (v:Ver) (a:Int):Mac:=if a≠0 then atM m 4 (IntKind.i64.wrap (m.i+1)) else if IntKind.i64.wrap (m.k+1) < (xU v).length then { m with k:=IntKind.i64.wrap (m.k+1) } else { m with k:=IntKind.i64.wrap (m.k+1),pc:=6 }
theorem zdS (w:Wor) (m:Mac) (v:Ver) (e:En) (hf:zo7 v) (hv:AtV w m v) (k0:0<=m.k) (hk:(xU v)[m.k.toNat]?= some e):zb Tryz.prog 239 [⟨1,28,8,[zJ (w)],0⟩,⟨1,97,44,[zD (m)],0⟩] [.agg [.ref 0 [] 8 0 0,.ref 1 [] 44 0 0]] (Ce (laE m v e.zg)) [⟨1,28,8,[zJ (w)],0⟩,⟨1,97,44,[zD (laM m v e.zg)],0⟩]:=by
 have a0:=hv.v0;have a1:=hv.row;have hg:((xU v).map zu)[m.k.toNat]?= some (zu e):=by rw [List.getElem?_map,hk];rfl
 have ml:((xU v).map zu).length=(xU v).length:=List.length_map ..;have he:=zej v hf;have eA:e.zg≠0->laM m v e.zg=atM m 4 (IntKind.i64.wrap (m.i+1)):=fun hh=>if_pos hh
 have eB:e.zg=0->laM m v e.zg=if IntKind.i64.wrap (m.k+1) < (xU v).length then { m with k:=IntKind.i64.wrap (m.k+1) } else { m with k:=IntKind.i64.wrap (m.k+1),pc:=6 }:=fun hh=>if_neg (by simp [hh])
 generalize hll:xU v=ll at he hk hg ml eA eB;obtain ⟨sn,gs,fr⟩:=v;cases fr
 all_goals
  refine z6 (fn:=Tryz.f239) Tryz.func239 rfl (Nat.le_refl _) (uH ?_);refine .inr ⟨⟨[1,4,8,10],[0,1,2],true⟩,by kernel_rfl,fun _=>rfl,_,uH ?_,fun t2 H2 h=>h⟩;repeat (refine ⟨rfl,uH ?_⟩)
  (refine ⟨a0,_,a1,dd ?_⟩)
  (refine ⟨uH ?_,trivial⟩);(repeat (refine ⟨rfl,uH ?_⟩))
  (refine ⟨uH ?_,trivial⟩);(repeat (refine ⟨rfl,uH ?_⟩))
  (refine ⟨_,_,.refl _,uH ?_⟩)
  refine ⟨_,_,(he).frame rfl _,dd ?_⟩;refine .inr ⟨⟨[0,5,8,9],[0,1,2,3,4],true⟩,by kernel_rfl,fun _=>rfl,_,uH ?_,fun t2 H2 h=>h⟩;(refine ⟨k0,_,hg,dd ?_⟩)
  refine ⟨_,zb.blind [1] (qy m 1 7 e.zg) rfl rfl rfl rfl rfl rfl rfl (fun _=>rfl) (fun _=>rfl),uH ?_⟩;(refine ⟨uH ?_,trivial⟩);(repeat (refine ⟨rfl,uH ?_⟩))
  (refine ⟨uH ?_,trivial⟩);(repeat (refine ⟨rfl,uH ?_⟩))
  (refine ⟨_,_,.refl _,uH ?_⟩)
  refine .inl ⟨⟨false,[3,5],[1,4],[]⟩,by kernel_rfl,uH ?_⟩;(repeat (first | ((refine ⟨fun _=>dd ?_,fun h=>absurd (h.symm.trans rfl:false=true) (by decide)⟩)) | ((refine ⟨fun h=>absurd (h.symm.trans rfl:true=false) (by decide),fun _=>dd ?_⟩))))
  (repeat (refine ⟨rfl,uH ?_⟩))
  refine ⟨fun q=>?_,fun q=>?_⟩
  ·rw [eA (by simpa using q)];refine dd ?_;refine .inl ⟨⟨true,[],[],[]⟩,by kernel_rfl,uH ?_⟩;refine zq [1] (jZ m 4 (IntKind.i64.wrap (m.i+1))) rfl rfl rfl rfl rfl rfl (dd ?_);(repeat (refine ⟨rfl,uH ?_⟩));exact ⟨.inl rfl,_,_,.refl _,rfl,cE 2⟩
  ·rw [eB (by simpa using q)];refine dd ?_;rw [ml];refine ⟨fun q2=>?_,fun q2=>?_⟩
   ·rw [if_pos (by simpa using q2)];refine dd ?_;(repeat (refine ⟨rfl,uH ?_⟩));exact ⟨.inl rfl,_,_,.refl _,rfl,cE 2⟩
   ·rw [if_neg (by simpa using q2)];refine dd ?_;(repeat (refine ⟨rfl,uH ?_⟩));exact ⟨.inl rfl,_,_,.refl _,rfl,cE 2⟩
abbrev zaa (v:Ver):Ver:={ v with qj:=true }
abbrev kD (r:Ret):Ret:={ r with gone:=true }
abbrev frM (m:Mac):Mac:={ m with answer:={ m.answer with n:=IntKind.i64.wrap (m.answer.n+1) },pc:=4,i:=IntKind.i64.wrap (m.i+1) }
theorem zac (w:Wor) (m:Mac) (v:Ver) (r:Ret) (hv:AtV w m v) (h0:0<=m.i) (hx:w.zt[m.i.toNat]?= some r):
  zb Tryz.prog 240 [⟨1,28,8,[[I w.zn,I w.current,I w.lock,lI w.pins,.sl 2 [] 5 0 w.ze.length false,lL w.zd,lCo w.counts,.sl 3 [] 3 0 w.zt.length false]],0⟩,⟨1,97,44,[zD (m)],0⟩,⟨2,79,5,(w.ze).map zI,0⟩,⟨2,139,3,(w.zt).map xi,0⟩] [.agg [.ref 0 [] 8 0 0,.ref 1 [] 44 0 0]] (Ce (evO m 2 12 m.version)) [⟨1,28,8,[[I w.zn,I w.current,I w.lock,lI w.pins,.sl 2 [] 5 0 w.ze.length false,lL w.zd,lCo w.counts,.sl 3 [] 3 0 w.zt.length false]],0⟩,⟨1,97,44,[zD (frM m)],0⟩,⟨2,79,5,(w.ze.set m.version.toNat (zaa v)).map zI,0⟩,⟨2,139,3,(w.zt.set m.i.toNat (kD r)).map xi,0⟩]:=by
 have a0:=hv.v0;have av:m.version.toNat < w.ze.length:=(List.getElem?_eq_some_iff.1 hv.at_).1;have gv:=hv.row;have e1:0+m.i.toNat=m.i.toNat:=Nat.zero_add _;have e2:0+m.version.toNat=m.version.toNat:=Nat.zero_add _;have hlt:m.i.toNat < w.zt.length:=(List.getElem?_eq_some_iff.1 hx).1;have gx:(w.zt.map xi)[m.i.toNat]?= some (xi r):=by rw [List.getElem?_map,hx];rfl
 have hst:(w.zt.map xi).set m.i.toNat [I r.version,I r.at_,Bo true]=(w.zt.set m.i.toNat (kD r)).map xi:=by rw [List.map_set];rfl
 have hsv:(w.ze.map zI).set m.version.toNat [lT v.snap.zd,zag v.snap.rules,lC v.snap.zl,lG v.zm,Bo true]=(w.ze.set m.version.toNat (zaa v)).map zI:=by rw [List.map_set];rfl
 refine z6 (fn:=Tryz.f240) Tryz.func240 rfl (Nat.le_refl _) (uH ?_);refine .inl ⟨⟨false,[1,4,8,10,13,17],[0,1,4],[]⟩,by kernel_rfl,uH ?_⟩;repeat (refine ⟨rfl,uH ?_⟩)
 refine ⟨a0,av,dd ?_⟩;rw [e2];refine ⟨_,gv,rfl,dd ?_⟩;(repeat (refine ⟨rfl,uH ?_⟩))
 refine ⟨h0,hlt,dd ?_⟩;rw [e1];refine ⟨_,gx,rfl,dd ?_⟩;(repeat (refine ⟨rfl,uH ?_⟩))
 rw [hst,hsv];refine .inl ⟨⟨true,[],[],[]⟩,by kernel_rfl,uH ?_⟩;refine zq [1] (jZ { m with answer:={ m.answer with n:=IntKind.i64.wrap (m.answer.n+1) } } 4 (IntKind.i64.wrap (m.i+1))) rfl rfl rfl rfl rfl rfl (dd ?_);(repeat (refine ⟨rfl,uH ?_⟩))
 refine .inl ⟨⟨true,[],[],[]⟩,by kernel_rfl,uH ?_⟩;refine zq [1] (qy (frM m) 2 12 m.version) rfl rfl rfl rfl rfl rfl (dd ?_);(repeat (refine ⟨rfl,uH ?_⟩));exact ⟨.inl rfl,_,_,.refl _,rfl,cE 4⟩
theorem zjq (v:Ver) (h:zo7 v):zb Tryz.prog 80 [] [Cv v] (I (xU v).length) []:=by
 have ml:((xU v).map zu).length=(xU v).length:=List.length_map ..;have he:=zej v h;generalize xU v=ll at he ml ⊢;refine zb.zp (fn:=Tryz.f80) Tryz.func80 rfl (uH ?_);refine ⟨_,_,(he).frame rfl _,dd ?_⟩;rw [ml];exact uI
theorem zlS (w:Wor) (m:Mac) (hpc:m.pc=2) (h:m.i < w.pins.length):zb Tryz.prog 233 [] [Cw w,Cm m] (Bo true) []:=by
 have ml:(w.pins.map encI).length=w.pins.length:=List.length_map ..;refine zb.zp (fn:=Tryz.f233) Tryz.func233 rfl (uH ?_);(repeat (first | refine uA ?_ | refine uB ?_))
 exact uI
theorem zlV (w:Wor) (m:Mac) (hpc:m.pc=9) (h:m.i < w.zd.length):zb Tryz.prog 233 [] [Cw w,Cm m] (Bo true) []:=by
 have ml:(w.zd.map qG).length=w.zd.length:=List.length_map ..;refine zb.zp (fn:=Tryz.f233) Tryz.func233 rfl (uH ?_);(repeat (first | refine uA ?_ | refine uB ?_))
 exact uI
theorem j9 (w:Wor) (m:Mac) (hpc:m.pc≠2∧m.pc≠5∧m.pc≠6∧m.pc≠9∧m.pc≠10):zb Tryz.prog 233 [] [Cw w,Cm m] (Bo true) []:=by
 refine zb.zp (fn:=Tryz.f233) Tryz.func233 rfl (uH ?_);(repeat (first | refine uA ?_ | refine uB ?_))
 exact uI
theorem zlT (w:Wor) (m:Mac) (v:Ver) (hf:zo7 v) (hpc:m.pc=5) (hv:AtV w m v) (h:m.k < (xU v).length):zb Tryz.prog 233 [] [Cw w,Cm m] (Bo true) []:=by
 have a0:=hv.v0;have a1:=hv.row;refine zb.zp (fn:=Tryz.f233) Tryz.func233 rfl (uH ?_);(repeat (first | refine uA ?_ | refine uB ?_))
 refine .inl ⟨⟨true,[],[],[8]⟩,by kernel_rfl,uH ?_⟩;(refine ⟨a0,_,a1,dd ?_⟩)
 refine ⟨_,_,(zjq v hf).frame rfl _,dd ?_⟩;(repeat (first | refine uA ?_ | refine uB ?_))
 exact uI
theorem zlU (w:Wor) (m:Mac) (r:Ret) (hpc:m.pc=6) (h0:0<=m.i) (hx:w.zt[m.i.toNat]?= some r) (h1:r.version=m.version) (h2:r.gone=false):zb Tryz.prog 233 [] [Cw w,Cm m] (Bo true) []:=by
 have hg:(w.zt.map xi)[m.i.toNat]?= some (xi r):=by rw [List.getElem?_map,hx];rfl
 have hlt:=(List.getElem?_eq_some_iff.1 hx).1;have ml:(w.zt.map xi).length=w.zt.length:=List.length_map ..;obtain ⟨rv,ra,rg⟩:=r;cases h2
 refine zb.zp (fn:=Tryz.f233) Tryz.func233 rfl (uH ?_);(repeat (first | refine uA ?_ | refine uB ?_))
 refine uE ?_;rw [ml];(repeat (first | refine uA ?_ | refine uB ?_))
 (refine ⟨h0,_,hg,dd ?_⟩)
 refine ⟨fun _=>dd ?_,fun hh=>absurd hh tE⟩;(repeat (first | ((refine ⟨fun _=>dd ?_,fun h=>absurd (h.symm.trans rfl:false=true) (by decide)⟩)) | ((refine ⟨fun h=>absurd (h.symm.trans rfl:true=false) (by decide),fun _=>dd ?_⟩))))
 (refine ⟨h0,_,hg,dd ?_⟩)
 (repeat (first | ((refine ⟨fun _=>dd ?_,fun h=>absurd (h.symm.trans rfl:false=true) (by decide)⟩)) | ((refine ⟨fun h=>absurd (h.symm.trans rfl:true=false) (by decide),fun _=>dd ?_⟩))))
 exact uI
theorem zjT (w:Wor) (m:Mac) (l:Lis) (hpc:m.pc=10) (h0:0<=m.i) (hx:w.zd[m.i.toNat]?= some l) (h1:l.drain=true):zb Tryz.prog 233 [] [Cw w,Cm m] (Bo true) []:=by
 have hg:(w.zd.map qG)[m.i.toNat]?= some (qG l):=by rw [List.getElem?_map,hx];rfl
 have hlt:=(List.getElem?_eq_some_iff.1 hx).1;have ml:(w.zd.map qG).length=w.zd.length:=List.length_map ..;obtain ⟨ln,ld,la,lc⟩:=l;cases h1
 refine zb.zp (fn:=Tryz.f233) Tryz.func233 rfl (uH ?_);(repeat (first | refine uA ?_ | refine uB ?_))
 rw [ml];(repeat (first | refine uA ?_ | refine uB ?_))
 (refine ⟨h0,_,hg,dd ?_⟩)
 (repeat (first | ((refine ⟨fun _=>dd ?_,fun h=>absurd (h.symm.trans rfl:false=true) (by decide)⟩)) | ((refine ⟨fun h=>absurd (h.symm.trans rfl:true=false) (by decide),fun _=>dd ?_⟩))))
 exact uI
theorem zrf (w:Wor) (m:Mac) (X:Ob) (j f:Nat) (R:Exit->S->Prop) (hlow:qF 8 ([⟨1,28,8,[zJ (w)],0⟩,⟨1,97,44,[zD (m)],0⟩,⟨1,28,8,[zeW],0⟩,⟨1,97,44,[zeM],0⟩,⟨1,62,23,[zQ qu],0⟩,X,⟨1,97,44,[zD (m)],0⟩,⟨1,267,2,[[.ref 5 [] 8 0 0,.ref 6 [] 44 0 0]],0⟩]++[])=true) (hf:∀ v0 v1 v2 v3 v4 v5 v6 v8 v9 v10,yY [(0,v0,0),(1,v1,1),(2,v2,2),(3,v3,3),(4,v4,4),(5,v5,5),(6,v6,6),(8,v8,7),(9,v9,8),(10,v10,9)] m.pc=some j) (hc:([.fn 234 [.agg [.ref 5 [] 8 0 0,.ref 6 [] 44 0 0]] [],.fn 235 [.agg [.ref 5 [] 8 0 0,.ref 6 [] 44 0 0]] [],.fn 236 [.agg [.ref 5 [] 8 0 0,.ref 6 [] 44 0 0]] [],.fn 237 [.agg [.ref 5 [] 8 0 0,.ref 6 [] 44 0 0]] [],.fn 238 [.agg [.ref 5 [] 8 0 0,.ref 6 [] 44 0 0]] [],.fn 239 [.agg [.ref 5 [] 8 0 0,.ref 6 [] 44 0 0]] [],.fn 240 [.agg [.ref 5 [] 8 0 0,.ref 6 [] 44 0 0]] [],.fn 241 [.agg [.ref 5 [] 8 0 0,.ref 6 [] 44 0 0]] [],.fn 242 [.agg [.ref 5 [] 8 0 0,.ref 6 [] 44 0 0]] [],.fn 243 [.agg [.ref 5 [] 8 0 0,.ref 6 [] 44 0 0]] []]:List C)[j]?= some (.fn f [.agg [.ref 5 [] 8 0 0,.ref 6 [] 44 0 0]] []))
  (hn:qQ Tryz.prog 0 (behind 5 ((Tryz.f187.body).getD .skip)) ⟨(.za::.za::.ref 0 [] 8 0 0:: .ref 1 [] 44 0 0:: .ref 2 [] 8 0 0:: .ref 3 [] 44 0 0:: .ref 4 [] 23 0 0:: .ref 5 [] 8 0 0:: .ref 6 [] 44 0 0:: .ref 7 [] 2 0 0:: .fn f [.agg [.ref 5 [] 8 0 0,.ref 6 [] 44 0 0]] []::Bo true:: tY (tY (tY (tY (tY (tY (tY ([])))))))),[⟨1,28,8,[zJ (w)],0⟩,⟨1,97,44,[zD (m)],0⟩,⟨1,28,8,[zeW],0⟩,⟨1,97,44,[zeM],0⟩,⟨1,62,23,[zQ qu],0⟩,X,⟨1,97,44,[zD (m)],0⟩,⟨1,267,2,[[.ref 5 [] 8 0 0,.ref 6 [] 44 0 0]],0⟩]++[]⟩ R):qQ Tryz.prog 0 (behind 4 ((Tryz.f187.body).getD .skip)) ⟨(.za::.za::.ref 0 [] 8 0 0:: .ref 1 [] 44 0 0:: .ref 2 [] 8 0 0:: .ref 3 [] 44 0 0:: .ref 4 [] 23 0 0:: .ref 5 [] 8 0 0:: .ref 6 [] 44 0 0:: .ref 7 [] 2 0 0:: .za::.za::tY (tY (tY (tY (tY (tY (tY ([])))))))),[⟨1,28,8,[zJ (w)],0⟩,⟨1,97,44,[zD (m)],0⟩,⟨1,28,8,[zeW],0⟩,⟨1,97,44,[zeM],0⟩,⟨1,62,23,[zQ qu],0⟩,X,⟨1,97,44,[zD (m)],0⟩,⟨1,267,2,[[.ref 5 [] 8 0 0,.ref 6 [] 44 0 0]],0⟩]++[]⟩ R:=by
 refine zaO (uH ?_);intro b;refine dd ?_;refine jt.qk (id:=8) _ _ _ _ (.inr rfl) Tryz.underlying270 Tryz.underlying3 rfl rfl rfl rfl rfl ?_;intro v0;refine dd ?_;refine jt.qk (id:=8) _ _ _ _ (.inr rfl) Tryz.underlying270 Tryz.underlying3 rfl rfl rfl rfl rfl ?_;intro v1;refine dd ?_;refine jt.qk (id:=8) _ _ _ _ (.inr rfl) Tryz.underlying270 Tryz.underlying3 rfl rfl rfl rfl rfl ?_;intro v2;refine dd ?_;refine jt.qk (id:=8) _ _ _ _ (.inr rfl) Tryz.underlying270 Tryz.underlying3 rfl rfl rfl rfl rfl ?_;intro v3;refine dd ?_;refine jt.qk (id:=8) _ _ _ _ (.inr rfl) Tryz.underlying270 Tryz.underlying3 rfl rfl rfl rfl rfl ?_;intro v4;refine dd ?_;refine jt.qk (id:=8) _ _ _ _ (.inr rfl) Tryz.underlying270 Tryz.underlying3 rfl rfl rfl rfl rfl ?_;intro v5;refine dd ?_;refine jt.qk (id:=8) _ _ _ _ (.inr rfl) Tryz.underlying270 Tryz.underlying3 rfl rfl rfl rfl rfl ?_;intro v6;refine dd ?_;refine jt.qk (id:=8) _ _ _ _ (.inr rfl) Tryz.underlying270 Tryz.underlying3 rfl rfl rfl rfl rfl ?_;intro v8;refine dd ?_;refine jt.qk (id:=8) _ _ _ _ (.inr rfl) Tryz.underlying270 Tryz.underlying3 rfl rfl rfl rfl rfl ?_;intro v9;refine dd ?_;refine jt.qk (id:=8) _ _ _ _ (.inr rfl) Tryz.underlying270 Tryz.underlying3 rfl rfl rfl rfl rfl ?_;intro v10;refine dd ?_;(refine ⟨_,_,OpV.za2 (id:=8) _ _ _ _ rfl Tryz.underlying270 Tryz.underlying3 rfl rfl rfl rfl rfl rfl (hf _ _ _ _ _ _ _ _ _ _) hc,?_⟩;(refine dd ?_))
 (repeat refine uC ?_)
 refine .inl ⟨rfl,_,_,(zo.forget 8).trans (zo.xa 8 (by (conv=>whnf);(repeat (refine ⟨rfl,uH ?_⟩));exact trivial) rfl rfl rfl hlow rfl),hn⟩
theorem zre (w:Wor) (m:Mac) (X:Ob) (Y:Ob)(j f:Nat) (R:Exit->S->Prop) (hlow:qF 9 ([⟨1,28,8,[zJ (w)],0⟩,⟨1,97,44,[zD (m)],0⟩,⟨1,28,8,[zeW],0⟩,⟨1,97,44,[zeM],0⟩,⟨1,62,23,[zQ qu],0⟩,X,⟨1,97,44,[zD (m)],0⟩,⟨1,267,2,[[.ref 5 [] 8 0 0,.ref 6 [] 44 0 0]],0⟩]++[Y])=true) (hf:∀ v0 v1 v2 v3 v4 v5 v6 v8 v9 v10,yY [(0,v0,0),(1,v1,1),(2,v2,2),(3,v3,3),(4,v4,4),(5,v5,5),(6,v6,6),(8,v8,7),(9,v9,8),(10,v10,9)] m.pc=some j) (hc:([.fn 234 [.agg [.ref 5 [] 8 0 0,.ref 6 [] 44 0 0]] [],.fn 235 [.agg [.ref 5 [] 8 0 0,.ref 6 [] 44 0 0]] [],.fn 236 [.agg [.ref 5 [] 8 0 0,.ref 6 [] 44 0 0]] [],.fn 237 [.agg [.ref 5 [] 8 0 0,.ref 6 [] 44 0 0]] [],.fn 238 [.agg [.ref 5 [] 8 0 0,.ref 6 [] 44 0 0]] [],.fn 239 [.agg [.ref 5 [] 8 0 0,.ref 6 [] 44 0 0]] [],.fn 240 [.agg [.ref 5 [] 8 0 0,.ref 6 [] 44 0 0]] [],.fn 241 [.agg [.ref 5 [] 8 0 0,.ref 6 [] 44 0 0]] [],.fn 242 [.agg [.ref 5 [] 8 0 0,.ref 6 [] 44 0 0]] [],.fn 243 [.agg [.ref 5 [] 8 0 0,.ref 6 [] 44 0 0]] []]:List C)[j]?= some (.fn f [.agg [.ref 5 [] 8 0 0,.ref 6 [] 44 0 0]] []))
  (hn:qQ Tryz.prog 0 (behind 5 ((Tryz.f187.body).getD .skip)) ⟨(.za::.za::.ref 0 [] 8 0 0:: .ref 1 [] 44 0 0:: .ref 2 [] 8 0 0:: .ref 3 [] 44 0 0:: .ref 4 [] 23 0 0:: .ref 5 [] 8 0 0:: .ref 6 [] 44 0 0:: .ref 7 [] 2 0 0:: .fn f [.agg [.ref 5 [] 8 0 0,.ref 6 [] 44 0 0]] []::Bo true:: tY (tY (tY (tY (tY (tY (tY ([])))))))),[⟨1,28,8,[zJ (w)],0⟩,⟨1,97,44,[zD (m)],0⟩,⟨1,28,8,[zeW],0⟩,⟨1,97,44,[zeM],0⟩,⟨1,62,23,[zQ qu],0⟩,X,⟨1,97,44,[zD (m)],0⟩,⟨1,267,2,[[.ref 5 [] 8 0 0,.ref 6 [] 44 0 0]],0⟩]++[Y]⟩ R):qQ Tryz.prog 0 (behind 4 ((Tryz.f187.body).getD .skip)) ⟨(.za::.za::.ref 0 [] 8 0 0:: .ref 1 [] 44 0 0:: .ref 2 [] 8 0 0:: .ref 3 [] 44 0 0:: .ref 4 [] 23 0 0:: .ref 5 [] 8 0 0:: .ref 6 [] 44 0 0:: .ref 7 [] 2 0 0:: .za::.za::tY (tY (tY (tY (tY (tY (tY ([])))))))),[⟨1,28,8,[zJ (w)],0⟩,⟨1,97,44,[zD (m)],0⟩,⟨1,28,8,[zeW],0⟩,⟨1,97,44,[zeM],0⟩,⟨1,62,23,[zQ qu],0⟩,X,⟨1,97,44,[zD (m)],0⟩,⟨1,267,2,[[.ref 5 [] 8 0 0,.ref 6 [] 44 0 0]],0⟩]++[Y]⟩ R:=by
 refine zaO (uH ?_);intro b;refine dd ?_;refine jt.qk (id:=9) _ _ _ _ (.inr rfl) Tryz.underlying270 Tryz.underlying3 rfl rfl rfl rfl rfl ?_;intro v0;refine dd ?_;refine jt.qk (id:=9) _ _ _ _ (.inr rfl) Tryz.underlying270 Tryz.underlying3 rfl rfl rfl rfl rfl ?_;intro v1;refine dd ?_;refine jt.qk (id:=9) _ _ _ _ (.inr rfl) Tryz.underlying270 Tryz.underlying3 rfl rfl rfl rfl rfl ?_;intro v2;refine dd ?_;refine jt.qk (id:=9) _ _ _ _ (.inr rfl) Tryz.underlying270 Tryz.underlying3 rfl rfl rfl rfl rfl ?_;intro v3;refine dd ?_;refine jt.qk (id:=9) _ _ _ _ (.inr rfl) Tryz.underlying270 Tryz.underlying3 rfl rfl rfl rfl rfl ?_;intro v4;refine dd ?_;refine jt.qk (id:=9) _ _ _ _ (.inr rfl) Tryz.underlying270 Tryz.underlying3 rfl rfl rfl rfl rfl ?_;intro v5;refine dd ?_;refine jt.qk (id:=9) _ _ _ _ (.inr rfl) Tryz.underlying270 Tryz.underlying3 rfl rfl rfl rfl rfl ?_;intro v6;refine dd ?_;refine jt.qk (id:=9) _ _ _ _ (.inr rfl) Tryz.underlying270 Tryz.underlying3 rfl rfl rfl rfl rfl ?_;intro v8;refine dd ?_;refine jt.qk (id:=9) _ _ _ _ (.inr rfl) Tryz.underlying270 Tryz.underlying3 rfl rfl rfl rfl rfl ?_;intro v9;refine dd ?_;refine jt.qk (id:=9) _ _ _ _ (.inr rfl) Tryz.underlying270 Tryz.underlying3 rfl rfl rfl rfl rfl ?_;intro v10;refine dd ?_;(refine ⟨_,_,OpV.za2 (id:=9) _ _ _ _ rfl Tryz.underlying270 Tryz.underlying3 rfl rfl rfl rfl rfl rfl (hf _ _ _ _ _ _ _ _ _ _) hc,?_⟩;(refine dd ?_))
 (repeat refine uC ?_)
 refine .inl ⟨rfl,_,_,(zo.forget 9).trans (zo.xa 9 (by (conv=>whnf);(repeat (refine ⟨rfl,uH ?_⟩));exact trivial) rfl rfl rfl hlow rfl),hn⟩
theorem zrd (w:Wor) (m:Mac) (X:Ob) (Y Z:Ob)(j f:Nat) (R:Exit->S->Prop) (hlow:qF 10 ([⟨1,28,8,[zJ (w)],0⟩,⟨1,97,44,[zD (m)],0⟩,⟨1,28,8,[zeW],0⟩,⟨1,97,44,[zeM],0⟩,⟨1,62,23,[zQ qu],0⟩,X,⟨1,97,44,[zD (m)],0⟩,⟨1,267,2,[[.ref 5 [] 8 0 0,.ref 6 [] 44 0 0]],0⟩]++[Y,Z])=true) (hf:∀ v0 v1 v2 v3 v4 v5 v6 v8 v9 v10,yY [(0,v0,0),(1,v1,1),(2,v2,2),(3,v3,3),(4,v4,4),(5,v5,5),(6,v6,6),(8,v8,7),(9,v9,8),(10,v10,9)] m.pc=some j) (hc:([.fn 234 [.agg [.ref 5 [] 8 0 0,.ref 6 [] 44 0 0]] [],.fn 235 [.agg [.ref 5 [] 8 0 0,.ref 6 [] 44 0 0]] [],.fn 236 [.agg [.ref 5 [] 8 0 0,.ref 6 [] 44 0 0]] [],.fn 237 [.agg [.ref 5 [] 8 0 0,.ref 6 [] 44 0 0]] [],.fn 238 [.agg [.ref 5 [] 8 0 0,.ref 6 [] 44 0 0]] [],.fn 239 [.agg [.ref 5 [] 8 0 0,.ref 6 [] 44 0 0]] [],.fn 240 [.agg [.ref 5 [] 8 0 0,.ref 6 [] 44 0 0]] [],.fn 241 [.agg [.ref 5 [] 8 0 0,.ref 6 [] 44 0 0]] [],.fn 242 [.agg [.ref 5 [] 8 0 0,.ref 6 [] 44 0 0]] [],.fn 243 [.agg [.ref 5 [] 8 0 0,.ref 6 [] 44 0 0]] []]:List C)[j]?= some (.fn f [.agg [.ref 5 [] 8 0 0,.ref 6 [] 44 0 0]] []))
  (hn:qQ Tryz.prog 0 (behind 5 ((Tryz.f187.body).getD .skip)) ⟨(.za::.za::.ref 0 [] 8 0 0:: .ref 1 [] 44 0 0:: .ref 2 [] 8 0 0:: .ref 3 [] 44 0 0:: .ref 4 [] 23 0 0:: .ref 5 [] 8 0 0:: .ref 6 [] 44 0 0:: .ref 7 [] 2 0 0:: .fn f [.agg [.ref 5 [] 8 0 0,.ref 6 [] 44 0 0]] []::Bo true:: tY (tY (tY (tY (tY (tY (tY ([])))))))),[⟨1,28,8,[zJ (w)],0⟩,⟨1,97,44,[zD (m)],0⟩,⟨1,28,8,[zeW],0⟩,⟨1,97,44,[zeM],0⟩,⟨1,62,23,[zQ qu],0⟩,X,⟨1,97,44,[zD (m)],0⟩,⟨1,267,2,[[.ref 5 [] 8 0 0,.ref 6 [] 44 0 0]],0⟩]++[Y,Z]⟩ R):qQ Tryz.prog 0 (behind 4 ((Tryz.f187.body).getD .skip)) ⟨(.za::.za::.ref 0 [] 8 0 0:: .ref 1 [] 44 0 0:: .ref 2 [] 8 0 0:: .ref 3 [] 44 0 0:: .ref 4 [] 23 0 0:: .ref 5 [] 8 0 0:: .ref 6 [] 44 0 0:: .ref 7 [] 2 0 0:: .za::.za::tY (tY (tY (tY (tY (tY (tY ([])))))))),[⟨1,28,8,[zJ (w)],0⟩,⟨1,97,44,[zD (m)],0⟩,⟨1,28,8,[zeW],0⟩,⟨1,97,44,[zeM],0⟩,⟨1,62,23,[zQ qu],0⟩,X,⟨1,97,44,[zD (m)],0⟩,⟨1,267,2,[[.ref 5 [] 8 0 0,.ref 6 [] 44 0 0]],0⟩]++[Y,Z]⟩ R:=by
 refine zaO (uH ?_);intro b;refine dd ?_;refine jt.qk (id:=10) _ _ _ _ (.inr rfl) Tryz.underlying270 Tryz.underlying3 rfl rfl rfl rfl rfl ?_;intro v0;refine dd ?_;refine jt.qk (id:=10) _ _ _ _ (.inr rfl) Tryz.underlying270 Tryz.underlying3 rfl rfl rfl rfl rfl ?_;intro v1;refine dd ?_;refine jt.qk (id:=10) _ _ _ _ (.inr rfl) Tryz.underlying270 Tryz.underlying3 rfl rfl rfl rfl rfl ?_;intro v2;refine dd ?_;refine jt.qk (id:=10) _ _ _ _ (.inr rfl) Tryz.underlying270 Tryz.underlying3 rfl rfl rfl rfl rfl ?_;intro v3;refine dd ?_;refine jt.qk (id:=10) _ _ _ _ (.inr rfl) Tryz.underlying270 Tryz.underlying3 rfl rfl rfl rfl rfl ?_;intro v4;refine dd ?_;refine jt.qk (id:=10) _ _ _ _ (.inr rfl) Tryz.underlying270 Tryz.underlying3 rfl rfl rfl rfl rfl ?_;intro v5;refine dd ?_;refine jt.qk (id:=10) _ _ _ _ (.inr rfl) Tryz.underlying270 Tryz.underlying3 rfl rfl rfl rfl rfl ?_;intro v6;refine dd ?_;refine jt.qk (id:=10) _ _ _ _ (.inr rfl) Tryz.underlying270 Tryz.underlying3 rfl rfl rfl rfl rfl ?_;intro v8;refine dd ?_;refine jt.qk (id:=10) _ _ _ _ (.inr rfl) Tryz.underlying270 Tryz.underlying3 rfl rfl rfl rfl rfl ?_;intro v9;refine dd ?_;refine jt.qk (id:=10) _ _ _ _ (.inr rfl) Tryz.underlying270 Tryz.underlying3 rfl rfl rfl rfl rfl ?_;intro v10;refine dd ?_;(refine ⟨_,_,OpV.za2 (id:=10) _ _ _ _ rfl Tryz.underlying270 Tryz.underlying3 rfl rfl rfl rfl rfl rfl (hf _ _ _ _ _ _ _ _ _ _) hc,?_⟩;(refine dd ?_))
 (repeat refine uC ?_)
 refine .inl ⟨rfl,_,_,(zo.forget 10).trans (zo.xa 10 (by (conv=>whnf);(repeat (refine ⟨rfl,uH ?_⟩));exact trivial) rfl rfl rfl hlow rfl),hn⟩
theorem jv {w w':Wor} {m m':Mac} {e:Eve} (sw:qR w) (ok:OkW w) (hl:i64 m.listen) (hs:zW w m=true) (hm:zb Tryz.prog 233 [] [Cw w,Cm m] (Bo true) []) (j f:Nat) (hcb:qm Tryz.prog f=true) (hf:∀ v0 v1 v2 v3 v4 v5 v6 v8 v9 v10,yY [(0,v0,0),(1,v1,1),(2,v2,2),(3,v3,3),(4,v4,4),(5,v5,5),(6,v6,6),(8,v8,7),(9,v9,8),(10,v10,9)] m.pc=some j) (hc:([.fn 234 [.agg [.ref 5 [] 8 0 0,.ref 6 [] 44 0 0]] [],.fn 235 [.agg [.ref 5 [] 8 0 0,.ref 6 [] 44 0 0]] [],.fn 236 [.agg [.ref 5 [] 8 0 0,.ref 6 [] 44 0 0]] [],.fn 237 [.agg [.ref 5 [] 8 0 0,.ref 6 [] 44 0 0]] [],.fn 238 [.agg [.ref 5 [] 8 0 0,.ref 6 [] 44 0 0]] [],.fn 239 [.agg [.ref 5 [] 8 0 0,.ref 6 [] 44 0 0]] [],.fn 240 [.agg [.ref 5 [] 8 0 0,.ref 6 [] 44 0 0]] [],.fn 241 [.agg [.ref 5 [] 8 0 0,.ref 6 [] 44 0 0]] [],.fn 242 [.agg [.ref 5 [] 8 0 0,.ref 6 [] 44 0 0]] [],.fn 243 [.agg [.ref 5 [] 8 0 0,.ref 6 [] 44 0 0]] []]:List C)[j]?= some (.fn f [.agg [.ref 5 [] 8 0 0,.ref 6 [] 44 0 0]] []))
  (h:zb Tryz.prog f [⟨1,28,8,[zJ (w)],0⟩,⟨1,97,44,[zD (m)],0⟩] [.agg [.ref 0 [] 8 0 0,.ref 1 [] 44 0 0]] (Ce e) [⟨1,28,8,[zJ (w')],0⟩,⟨1,97,44,[zD (m')],0⟩]):zb Tryz.prog 187 [] [Cw w,Cm m] (.tup [Cw w',Cm m',Ce e]) []:=by
 refine zb.zal Tryz.func187 rfl ?_;show qQ Tryz.prog 0 ((Tryz.f187.body).getD .skip) _ _;refine zaO (uH ?_);refine .inl ⟨rfl,_,_,.refl _,zaO (uH ?_)⟩;refine ⟨_,_,(zM w m ok hl).frame rfl _,dd ?_⟩;refine ⟨fun _=>dd ?_,fun h=>absurd ((hs).symm.trans h:true=false) (by decide)⟩;(repeat refine uC ?_)
 refine ⟨_,_,(hm).frame rfl _,dd ?_⟩;(repeat refine uC ?_)
 refine .inl ⟨rfl,_,_,.refl _,zaO (uH ?_)⟩;refine .inr ⟨⟨[0,1,2],[0,1],true⟩,by kernel_rfl,fun _=>rfl,fun t H=>t=(.za::.za::.ref 0 [] 8 0 0:: .ref 1 [] 44 0 0:: .ref 2 [] 8 0 0:: .ref 3 [] 44 0 0:: .ref 4 [] 23 0 0:: .ref 5 [] 8 0 0:: .ref 6 [] 44 0 0:: .za::.za::.za::tY (tY (tY (tY (tY (tY (tY ([]))))))))∧H=[⟨1,28,8,[zJ (w)],0⟩,⟨1,97,44,[zD (m)],0⟩,⟨1,28,8,[zeW],0⟩,⟨1,97,44,[zeM],0⟩,⟨1,62,23,[zQ qu],0⟩,⟨1,28,8,[zJ (w)],0⟩,⟨1,97,44,[zD (m)],0⟩],?_,?_⟩
 ·conv=>whnf
  refine ⟨_,zb.blind [] (qs w sw) rfl rfl rfl rfl rfl rfl rfl (fun _=>rfl) (fun _=>rfl),uH ?_⟩;repeat' (first | (exact trivial) | (refine ⟨rfl,uH ?_⟩) | (exact ⟨_,_,zo.ren [0,1,2,3,4,5,6] [2,3,4,5,6,7,8] _ _ rfl rfl rfl rfl,rfl,rfl⟩) | (exact ⟨_,_,zo.ren [0,1,2,3,4,6,5] [2,3,4,5,6,7,8] _ _ rfl rfl rfl rfl,rfl,rfl⟩) | (refine And.intro ?_ ?_ <;> (conv=>whnf)))
 rintro _ _ ⟨rfl,rfl⟩;conv=>whnf
 refine .inl ⟨rfl,_,_,.refl _,zaO (uH ?_)⟩;refine .inl ⟨rfl,_,_,cE 8,zrf w m (⟨1,28,8,[zJ (w)],0⟩) j f _ rfl hf hc ?_⟩;(refine jl (K:=fun ex t H=>(ex=.ret∨ex=.normal)∧∃ s2,zo 0 ⟨t,H⟩ s2∧(vT Tryz.prog Tryz.f187 s2).map (xW 0 9)=some (.tup [Cw w',Cm m',Ce e])) (uH ?_))
 rw [hcb];refine zq [5,6] (h) rfl rfl rfl rfl rfl rfl (dd ?_);refine .inl ⟨⟨false,[0,1,2],[5,6,8],[]⟩,by kernel_rfl,uH ?_⟩;repeat (refine ⟨rfl,uH ?_⟩)
 exact uI
theorem zij {w:Wor} {m m':Mac} {e:Eve} {ls:List Lis} (sw:qR w) (ok:OkW w) (hl:i64 m.listen) (hs:zW w m=true) (hm:zb Tryz.prog 233 [] [Cw w,Cm m] (Bo true) []) (j f:Nat) (hcb:qm Tryz.prog f=true) (hf:∀ v0 v1 v2 v3 v4 v5 v6 v8 v9 v10,yY [(0,v0,0),(1,v1,1),(2,v2,2),(3,v3,3),(4,v4,4),(5,v5,5),(6,v6,6),(8,v8,7),(9,v9,8),(10,v10,9)] m.pc=some j) (hc:([.fn 234 [.agg [.ref 5 [] 8 0 0,.ref 6 [] 44 0 0]] [],.fn 235 [.agg [.ref 5 [] 8 0 0,.ref 6 [] 44 0 0]] [],.fn 236 [.agg [.ref 5 [] 8 0 0,.ref 6 [] 44 0 0]] [],.fn 237 [.agg [.ref 5 [] 8 0 0,.ref 6 [] 44 0 0]] [],.fn 238 [.agg [.ref 5 [] 8 0 0,.ref 6 [] 44 0 0]] [],.fn 239 [.agg [.ref 5 [] 8 0 0,.ref 6 [] 44 0 0]] [],.fn 240 [.agg [.ref 5 [] 8 0 0,.ref 6 [] 44 0 0]] [],.fn 241 [.agg [.ref 5 [] 8 0 0,.ref 6 [] 44 0 0]] [],.fn 242 [.agg [.ref 5 [] 8 0 0,.ref 6 [] 44 0 0]] [],.fn 243 [.agg [.ref 5 [] 8 0 0,.ref 6 [] 44 0 0]] []]:List C)[j]?= some (.fn f [.agg [.ref 5 [] 8 0 0,.ref 6 [] 44 0 0]] []))
  (hne:w.zd≠[]) (hll:ls.length=w.zd.length) (h:zb Tryz.prog f [⟨1,28,8,[[I w.zn,I w.current,I w.lock,lI w.pins,lV w.ze,.sl 2 [] 4 0 w.zd.length false,lCo w.counts,lR w.zt]],0⟩,⟨1,97,44,[zD (m)],0⟩,⟨2,92,4,(w.zd).map qG,0⟩] [.agg [.ref 0 [] 8 0 0,.ref 1 [] 44 0 0]] (Ce e) [⟨1,28,8,[[I w.zn,I w.current,I w.lock,lI w.pins,lV w.ze,.sl 2 [] 4 0 w.zd.length false,lCo w.counts,lR w.zt]],0⟩,⟨1,97,44,[zD (m')],0⟩,⟨2,92,4,(ls).map qG,0⟩]):zb Tryz.prog 187 [] [Cw w,Cm m] (.tup [Cw { w with zd:=ls },Cm m',Ce e]) []:=by
 obtain ⟨x,l,hx⟩:=List.exists_cons_of_ne_nil hne;refine zb.zal Tryz.func187 rfl ?_;show qQ Tryz.prog 0 ((Tryz.f187.body).getD .skip) _ _;refine zaO (uH ?_);refine .inl ⟨rfl,_,_,.refl _,zaO (uH ?_)⟩;refine ⟨_,_,(zM w m ok hl).frame rfl _,dd ?_⟩;refine ⟨fun _=>dd ?_,fun h=>absurd ((hs).symm.trans h:true=false) (by decide)⟩;(repeat refine uC ?_)
 refine ⟨_,_,(hm).frame rfl _,dd ?_⟩;(repeat refine uC ?_)
 refine .inl ⟨rfl,_,_,.refl _,zaO (uH ?_)⟩;refine .inr ⟨⟨[0,2],[0,1],true⟩,by kernel_rfl,fun _=>rfl,fun t H=>t=(.za::.za::.ref 0 [] 8 0 0:: .ref 1 [] 44 0 0:: .ref 2 [] 8 0 0:: .ref 3 [] 44 0 0:: .ref 4 [] 23 0 0:: .ref 5 [] 8 0 0:: .ref 6 [] 44 0 0:: .za::.za::.za::tY (tY (tY (tY (tY (tY (tY ([]))))))))∧H=[⟨1,28,8,[zJ (w)],0⟩,⟨1,97,44,[zD (m)],0⟩,⟨1,28,8,[zeW],0⟩,⟨1,97,44,[zeM],0⟩,⟨1,62,23,[zQ qu],0⟩,⟨1,28,8,[[I w.zn,I w.current,I w.lock,lI w.pins,lV w.ze,.sl 7 [] 4 0 w.zd.length false,lCo w.counts,lR w.zt]],0⟩,⟨1,97,44,[zD (m)],0⟩,⟨2,92,4,(w.zd).map qG,0⟩],?_,?_⟩
 ·conv=>whnf
  repeat' (first | (exact trivial) | (refine ⟨rfl,uH ?_⟩) | (refine zq [] (yM w sw x l hx) rfl rfl rfl rfl rfl rfl (uH ?_)) | (exact ⟨_,_,zo.ren [0,1,2,3,4,5,6,7] [2,3,4,5,6,7,8] _ _ rfl rfl rfl rfl,rfl,rfl⟩) | (exact ⟨_,_,zo.ren [0,1,2,3,4,5,7,6] [2,3,4,5,6,7,8] _ _ rfl rfl rfl rfl,rfl,rfl⟩) | (exact ⟨_,_,zo.ren [0,1,2,3,4,6,5,7] [2,3,4,5,6,7,8] _ _ rfl rfl rfl rfl,rfl,rfl⟩) | (exact ⟨_,_,zo.ren [0,1,2,3,4,6,7,5] [2,3,4,5,6,7,8] _ _ rfl rfl rfl rfl,rfl,rfl⟩) | (exact ⟨_,_,zo.ren [0,1,2,3,4,7,5,6] [2,3,4,5,6,7,8] _ _ rfl rfl rfl rfl,rfl,rfl⟩) | (exact ⟨_,_,zo.ren [0,1,2,3,4,7,6,5] [2,3,4,5,6,7,8] _ _ rfl rfl rfl rfl,rfl,rfl⟩) | (refine And.intro ?_ ?_ <;> (conv=>whnf)))
 rintro _ _ ⟨rfl,rfl⟩;conv=>whnf
 refine .inl ⟨rfl,_,_,.refl _,zaO (uH ?_)⟩;refine .inl ⟨rfl,_,_,(zo.ren [0,1,2,3,4,5,6,8,7] [2,3,4,5,6,7,8,9] _ _ rfl rfl rfl rfl).trans (cC),zre w m (⟨1,28,8,[[I w.zn,I w.current,I w.lock,lI w.pins,lV w.ze,.sl 8 [] 4 0 w.zd.length false,lCo w.counts,lR w.zt]],0⟩) (⟨2,92,4,(w.zd).map qG,0⟩) j f _ rfl hf hc ?_⟩;(refine jl (K:=fun ex t H=>(ex=.ret∨ex=.normal)∧∃ s2,zo 0 ⟨t,H⟩ s2∧(vT Tryz.prog Tryz.f187 s2).map (xW 0 9)=some (.tup [Cw { w with zd:=ls },Cm m',Ce e])) (uH ?_))
 rw [hcb];refine zq [5,6,8] (h) rfl rfl rfl rfl rfl rfl (dd ?_);refine .inl ⟨⟨false,[0,1,2],[5,6,9],[]⟩,by kernel_rfl,uH ?_⟩;repeat (refine ⟨rfl,uH ?_⟩)
 exact ⟨.inl rfl,_,zo.zT 2 0 5 rfl rfl rfl rfl (.inr rfl) (by simp) (by rw [List.length_map];exact hll.symm) (shut_map (enc:=qG) (fun _=>rfl) _) (zX rfl),rfl⟩
theorem zib (w:Wor) (h:qR w) (x:Ret) (l:List Ret) (hx:w.zt=x::l):zb Tryz.prog 224 [] [Cw w] (.agg [I w.zn,I w.current,I w.lock,lI w.pins,.sl 0 [] 5 0 w.ze.length false,lL w.zd,lCo w.counts,.sl 1 [] 3 0 w.zt.length false]) [⟨2,79,5,(w.ze).map zI,0⟩,⟨2,139,3,(w.zt).map xi,0⟩]:=by
 have hl:l.length < 1000000000:=by have:=h.zt;rw [hx] at this;simp at this;omega
 have hc:=zjk x l hl;rw [<- hx] at hc;refine zcn (fn:=Tryz.f224) Tryz.func224 rfl (uH ?_);refine ⟨_,_,(yL w.pins h.pins).frame rfl _,dd ?_⟩;refine zq [] (kU w.ze h.ze.1 fun v hv=>jw v (h.ze.2 v hv)) rfl rfl rfl rfl rfl rfl (dd ?_);refine ⟨_,_,(vq w.zd h.zd).frame rfl _,dd ?_⟩;refine zq [] (kT w.counts h.counts.1 fun r hr=>xI r (h.counts.2 r hr)) rfl rfl rfl rfl rfl rfl (dd ?_);refine zq [] (hc) rfl rfl rfl rfl rfl rfl (dd ?_);refine ⟨.inl rfl,_,_,zo.zT 1 0 6 rfl rfl rfl rfl (.inr rfl) rfl (by simp) (shut_map (enc:=zN) (fun _=>rfl) w.counts) (zX rfl),rfl,?_⟩;exact zo.ren [3,5] [0] _ _ rfl rfl rfl (zc rfl (zc rfl (zc rfl (zc rfl (zc (zi fun r hr c hc=>((shut_map (enc:=zN) (fun _=>rfl) w.counts) r hr c hc).2) rfl)))))
theorem zii {w:Wor} {m m':Mac} {e:Eve} {vs:List Ver} {rs:List Ret} (sw:qR w) (ok:OkW w) (hl:i64 m.listen) (hs:zW w m=true) (hm:zb Tryz.prog 233 [] [Cw w,Cm m] (Bo true) []) (j f:Nat) (hcb:qm Tryz.prog f=true) (hf:∀ v0 v1 v2 v3 v4 v5 v6 v8 v9 v10,yY [(0,v0,0),(1,v1,1),(2,v2,2),(3,v3,3),(4,v4,4),(5,v5,5),(6,v6,6),(8,v8,7),(9,v9,8),(10,v10,9)] m.pc=some j) (hc:([.fn 234 [.agg [.ref 5 [] 8 0 0,.ref 6 [] 44 0 0]] [],.fn 235 [.agg [.ref 5 [] 8 0 0,.ref 6 [] 44 0 0]] [],.fn 236 [.agg [.ref 5 [] 8 0 0,.ref 6 [] 44 0 0]] [],.fn 237 [.agg [.ref 5 [] 8 0 0,.ref 6 [] 44 0 0]] [],.fn 238 [.agg [.ref 5 [] 8 0 0,.ref 6 [] 44 0 0]] [],.fn 239 [.agg [.ref 5 [] 8 0 0,.ref 6 [] 44 0 0]] [],.fn 240 [.agg [.ref 5 [] 8 0 0,.ref 6 [] 44 0 0]] [],.fn 241 [.agg [.ref 5 [] 8 0 0,.ref 6 [] 44 0 0]] [],.fn 242 [.agg [.ref 5 [] 8 0 0,.ref 6 [] 44 0 0]] [],.fn 243 [.agg [.ref 5 [] 8 0 0,.ref 6 [] 44 0 0]] []]:List C)[j]?= some (.fn f [.agg [.ref 5 [] 8 0 0,.ref 6 [] 44 0 0]] []))
  (hne:w.ze≠[]) (hne2:w.zt≠[]) (hvl:vs.length=w.ze.length) (hrl:rs.length=w.zt.length) (h:zb Tryz.prog f [⟨1,28,8,[[I w.zn,I w.current,I w.lock,lI w.pins,.sl 2 [] 5 0 w.ze.length false,lL w.zd,lCo w.counts,.sl 3 [] 3 0 w.zt.length false]],0⟩,⟨1,97,44,[zD (m)],0⟩,⟨2,79,5,(w.ze).map zI,0⟩,⟨2,139,3,(w.zt).map xi,0⟩] [.agg [.ref 0 [] 8 0 0,.ref 1 [] 44 0 0]] (Ce e) [⟨1,28,8,[[I w.zn,I w.current,I w.lock,lI w.pins,.sl 2 [] 5 0 w.ze.length false,lL w.zd,lCo w.counts,.sl 3 [] 3 0 w.zt.length false]],0⟩,⟨1,97,44,[zD (m')],0⟩,⟨2,79,5,(vs).map zI,0⟩,⟨2,139,3,(rs).map xi,0⟩]):zb Tryz.prog 187 [] [Cw w,Cm m] (.tup [Cw { w with ze:=vs,zt:=rs },Cm m',Ce e]) []:=by
 obtain ⟨v,vl,hv⟩:=List.exists_cons_of_ne_nil hne;obtain ⟨r,rl,hr⟩:=List.exists_cons_of_ne_nil hne2;refine zb.zal Tryz.func187 rfl ?_;show qQ Tryz.prog 0 ((Tryz.f187.body).getD .skip) _ _;refine zaO (uH ?_);refine .inl ⟨rfl,_,_,.refl _,zaO (uH ?_)⟩;refine ⟨_,_,(zM w m ok hl).frame rfl _,dd ?_⟩;refine ⟨fun _=>dd ?_,fun h=>absurd ((hs).symm.trans h:true=false) (by decide)⟩;(repeat refine uC ?_)
 refine ⟨_,_,(hm).frame rfl _,dd ?_⟩;(repeat refine uC ?_)
 refine .inl ⟨rfl,_,_,.refl _,zaO (uH ?_)⟩;refine .inr ⟨⟨[0,2],[0,1],true⟩,by kernel_rfl,fun _=>rfl,fun t H=>t=(.za::.za::.ref 0 [] 8 0 0:: .ref 1 [] 44 0 0:: .ref 2 [] 8 0 0:: .ref 3 [] 44 0 0:: .ref 4 [] 23 0 0:: .ref 5 [] 8 0 0:: .ref 6 [] 44 0 0:: .za::.za::.za::tY (tY (tY (tY (tY (tY (tY ([]))))))))∧H=[⟨1,28,8,[zJ (w)],0⟩,⟨1,97,44,[zD (m)],0⟩,⟨1,28,8,[zeW],0⟩,⟨1,97,44,[zeM],0⟩,⟨1,62,23,[zQ qu],0⟩,⟨1,28,8,[[I w.zn,I w.current,I w.lock,lI w.pins,.sl 7 [] 5 0 w.ze.length false,lL w.zd,lCo w.counts,.sl 8 [] 3 0 w.zt.length false]],0⟩,⟨1,97,44,[zD (m)],0⟩,⟨2,79,5,(w.ze).map zI,0⟩,⟨2,139,3,(w.zt).map xi,0⟩],?_,?_⟩
 ·conv=>whnf
  repeat' (first | (exact trivial) | (refine ⟨rfl,uH ?_⟩) | (refine zq [] (zib w sw r rl hr) rfl rfl rfl rfl rfl rfl (uH ?_)) | (exact ⟨_,_,zo.ren [0,1,2,3,4,5,6,7,8] [2,3,4,5,6,7,8] _ _ rfl rfl rfl rfl,rfl,rfl⟩) | (exact ⟨_,_,zo.ren [0,1,2,3,4,5,6,8,7] [2,3,4,5,6,7,8] _ _ rfl rfl rfl rfl,rfl,rfl⟩) | (exact ⟨_,_,zo.ren [0,1,2,3,4,5,7,6,8] [2,3,4,5,6,7,8] _ _ rfl rfl rfl rfl,rfl,rfl⟩) | (exact ⟨_,_,zo.ren [0,1,2,3,4,5,7,8,6] [2,3,4,5,6,7,8] _ _ rfl rfl rfl rfl,rfl,rfl⟩) | (exact ⟨_,_,zo.ren [0,1,2,3,4,5,8,6,7] [2,3,4,5,6,7,8] _ _ rfl rfl rfl rfl,rfl,rfl⟩) | (exact ⟨_,_,zo.ren [0,1,2,3,4,5,8,7,6] [2,3,4,5,6,7,8] _ _ rfl rfl rfl rfl,rfl,rfl⟩) | (exact ⟨_,_,zo.ren [0,1,2,3,4,6,5,7,8] [2,3,4,5,6,7,8] _ _ rfl rfl rfl rfl,rfl,rfl⟩) | (exact ⟨_,_,zo.ren [0,1,2,3,4,6,5,8,7] [2,3,4,5,6,7,8] _ _ rfl rfl rfl rfl,rfl,rfl⟩) | (exact ⟨_,_,zo.ren [0,1,2,3,4,6,7,5,8] [2,3,4,5,6,7,8] _ _ rfl rfl rfl rfl,rfl,rfl⟩) | (exact ⟨_,_,zo.ren [0,1,2,3,4,6,7,8,5] [2,3,4,5,6,7,8] _ _ rfl rfl rfl rfl,rfl,rfl⟩) | (exact ⟨_,_,zo.ren [0,1,2,3,4,6,8,5,7] [2,3,4,5,6,7,8] _ _ rfl rfl rfl rfl,rfl,rfl⟩) | (exact ⟨_,_,zo.ren [0,1,2,3,4,6,8,7,5] [2,3,4,5,6,7,8] _ _ rfl rfl rfl rfl,rfl,rfl⟩) | (exact ⟨_,_,zo.ren [0,1,2,3,4,7,5,6,8] [2,3,4,5,6,7,8] _ _ rfl rfl rfl rfl,rfl,rfl⟩) | (exact ⟨_,_,zo.ren [0,1,2,3,4,7,5,8,6] [2,3,4,5,6,7,8] _ _ rfl rfl rfl rfl,rfl,rfl⟩) | (exact ⟨_,_,zo.ren [0,1,2,3,4,7,6,5,8] [2,3,4,5,6,7,8] _ _ rfl rfl rfl rfl,rfl,rfl⟩) | (exact ⟨_,_,zo.ren [0,1,2,3,4,7,6,8,5] [2,3,4,5,6,7,8] _ _ rfl rfl rfl rfl,rfl,rfl⟩) | (exact ⟨_,_,zo.ren [0,1,2,3,4,7,8,5,6] [2,3,4,5,6,7,8] _ _ rfl rfl rfl rfl,rfl,rfl⟩) | (exact ⟨_,_,zo.ren [0,1,2,3,4,7,8,6,5] [2,3,4,5,6,7,8] _ _ rfl rfl rfl rfl,rfl,rfl⟩) | (exact ⟨_,_,zo.ren [0,1,2,3,4,8,5,6,7] [2,3,4,5,6,7,8] _ _ rfl rfl rfl rfl,rfl,rfl⟩) | (exact ⟨_,_,zo.ren [0,1,2,3,4,8,5,7,6] [2,3,4,5,6,7,8] _ _ rfl rfl rfl rfl,rfl,rfl⟩) | (exact ⟨_,_,zo.ren [0,1,2,3,4,8,6,5,7] [2,3,4,5,6,7,8] _ _ rfl rfl rfl rfl,rfl,rfl⟩) | (exact ⟨_,_,zo.ren [0,1,2,3,4,8,6,7,5] [2,3,4,5,6,7,8] _ _ rfl rfl rfl rfl,rfl,rfl⟩) | (exact ⟨_,_,zo.ren [0,1,2,3,4,8,7,5,6] [2,3,4,5,6,7,8] _ _ rfl rfl rfl rfl,rfl,rfl⟩) | (exact ⟨_,_,zo.ren [0,1,2,3,4,8,7,6,5] [2,3,4,5,6,7,8] _ _ rfl rfl rfl rfl,rfl,rfl⟩) | (refine And.intro ?_ ?_ <;> (conv=>whnf)))
 rintro _ _ ⟨rfl,rfl⟩;conv=>whnf
 refine .inl ⟨rfl,_,_,.refl _,zaO (uH ?_)⟩;refine .inl ⟨rfl,_,_,(zo.ren [0,1,2,3,4,5,6,9,7,8] [2,3,4,5,6,7,8,9] _ _ rfl rfl rfl rfl).trans (cC),zrd w m (⟨1,28,8,[[I w.zn,I w.current,I w.lock,lI w.pins,.sl 8 [] 5 0 w.ze.length false,lL w.zd,lCo w.counts,.sl 9 [] 3 0 w.zt.length false]],0⟩) (⟨2,79,5,(w.ze).map zI,0⟩) (⟨2,139,3,(w.zt).map xi,0⟩) j f _ rfl hf hc ?_⟩;(refine jl (K:=fun ex t H=>(ex=.ret∨ex=.normal)∧∃ s2,zo 0 ⟨t,H⟩ s2∧(vT Tryz.prog Tryz.f187 s2).map (xW 0 9)=some (.tup [Cw { w with ze:=vs,zt:=rs },Cm m',Ce e])) (uH ?_))
 rw [hcb];refine zq [5,6,8,9] (h) rfl rfl rfl rfl rfl rfl (dd ?_);refine .inl ⟨⟨false,[0,1,2],[5,6,10],[]⟩,by kernel_rfl,uH ?_⟩;repeat (refine ⟨rfl,uH ?_⟩)
 exact ⟨.inl rfl,_,(zo.zT 2 0 4 rfl rfl rfl rfl (.inr rfl) (by simp) (by rw [List.length_map];exact hvl.symm) (shut_map (enc:=zI) (fun _=>rfl) _) (zX rfl)).trans (zo.zT 2 0 7 rfl rfl rfl rfl (.inr rfl) (by simp) (by rw [List.length_map];exact hrl.symm) (shut_map (enc:=xi) (fun _=>rfl) _) (zX rfl)),rfl⟩
end Go.Wor
