import Derived.Test.YtkbnjgogjccmfaaGreatRV
import Derived.Test.YtkbnjgogjccmfaaGreatRW
set_option linter.all false
set_option maxRecDepth 100000
set_option maxHeartbeats 4000000
namespace Go.Wor
open Go.Ab Go.Proofs Tryz Go.Hy Go.Gat Go.Nam Go.Hos Go.Con Go.Sna
def N3 (l:List ec) (s:uu) (hl:l.length < 4611686018427387904):
  tn 59 [⟨2,85,4,(l).map qF,0⟩,⟨1,9,1,[[Tx s]],0⟩] [.sl 0 [] 4 0 l.length false,.fn 60 [] [.ref 1 [] 1 0 0]] (I (zT l s)) [⟨2,85,4,(l).map qF,0⟩,⟨1,9,1,[[Tx s]],0⟩]:=by
 refine aa func59 ?_;refine z5.seq l.length (fun k=>(.sl 0 [] 4 0 l.length false::.fn 60 [] [.ref 1 [] 1 0 0]::.za::.za::I 0::.za::.za::I l.length::I k::tZ ([.za,.za]))) (fun k=>[⟨2,85,4,(l).map qF,0⟩,⟨1,9,1,[[Tx s]],0⟩]) (fun k=>∀ j,(h:j < l.length)->j < k->(l[j].name == s)=false) ?_ aj (fun k hk hr=>?_) (fun hr=>?_)
 ·exact cC
 ·have hg:(l.map qF)[k]?= some (qF l[k]):=by rw [dN,dK hk];rfl
  have e1:0+(k:Int).toNat=k:=aj
  conv=>whnf
  refine uF ?_;refine ⟨aw,aq hk,dd ?_⟩;rw [e1];refine ⟨_,hg,(by show 0+4<=4;decide),dd ?_⟩;refine af [1] (Js s l[k]) ?_;refine ⟨fun h2=>?_,fun h2=>?_⟩
  ·refine dd ?_;refine .inr ⟨aj,uH ?_⟩
   have e:zT l s=k:=by
    unfold zT
    have:l.findIdx? (fun x=>x.name == s)=some k:=by
     exact dB
    rw [this]
   rw [e];exact cG
  ·refine dd ?_;refine .inl ⟨rfl,?_,fun j hj hjk=>?_⟩
   ·rw [zu aw];exact cE 2
   ·by_cases e:j=k
    ·subst e;exact h2
    ·exact hr j hj aw
 ·refine uD ?_
  have e:zT l s= -1:=by
   unfold zT
   have:l.findIdx? (fun x=>x.name == s)=none:=by
    rw [gy];intro x hx;obtain ⟨j,hj,rfl⟩:=gX.1 hx;exact hr j hj hj
   rw [this]
  rw [e];exact cG
def Nv (l:List ec) (s:uu) (hl:l.length < 4611686018427387904):tn 34 [⟨2,85,4,(l).map qF,0⟩] [.sl 0 [] 4 0 l.length false,Tx s] (I (zT l s)) [⟨2,85,4,(l).map qF,0⟩]:=by
 refine aa func34 ?_;refine af [0,1] (N3 l s hl) ?_;exact dx
def HJ (m:uk) (e:uv) (a:u3):tn 121 [⟨1,69,44,[zD (m)],0⟩,⟨1,223,24,[.ref 0 [] 44 0 0::zR (e)],0⟩] [.ref 1 [] 24 0 0,.agg (xm a)] (.uo []) [⟨1,69,44,[zD ({ m with done:=true,answer:=a })],0⟩,⟨1,223,24,[.ref 0 [] 44 0 0::zR ({ e with done:=true,answer:=a })],0⟩]:=by
 refine aa func121 ?_;refine .inl ⟨⟨false,[3,7,8],[1,2],[]⟩,au,uH ?_⟩;refine hZ ?_
 refine .inl ⟨⟨false,[2],[2],[]⟩,au,uH ?_⟩;refine hZ ?_
 exact ⟨.inr rfl,_,_,.refl _,rfl,cE 2⟩
abbrev DN (m:uk):uv:={ qz with zj:=m.zj,access:=1,version:= -1 }
def MC (w:Wor) (m:uk) (sw:qV w) (ok:eR w) (hl:i64 m.listen) (hpc:m.pc=0) (hs:zY w m=true) (hi:zT w.zd m.op.listen < 0):
  tn 99 [] [Cw w,Cm m] (.uo [Cw w,Cm { m with done:=true,answer:=ib 7 },Ce { DN m with done:=true,answer:=ib 7 }]) []:=by
 refine ab func99 ?_;refine ⟨fun h=>absurd h (by simp [hpc]),fun _=>dd ?_⟩;refine ah (zO w m ok hl) ?_;refine ⟨fun _=>dd ?_,fun h=>absurd ((hs).symm.trans h:true=false) ar⟩;refine tc ?_
 refine ah (qt w sw) ?_;refine ah (wv w.zd m.op.listen (by have:=ok.zd.1;omega)) ?_;refine ⟨fun _=>dd ?_,fun h=>absurd h (aq hi)⟩;refine af [1,5] (HJ m (DN m) (ib 7)) ?_;refine .inl ⟨⟨false,[0,1,5],[0,1,5],[]⟩,au,uH ?_⟩;refine hZ ?_
 exact uI
abbrev Gl (m:uk):uv:={ qz with zj:=m.zj,access:=2,cell:=4,version:= -1,value:=1,qP:=true }
def Me (w:Wor) (m:uk) (x:ec) (sw:qV w) (ok:eR w) (hl:i64 m.listen) (hpc:m.pc=0) (hs:zY w m=true) (hi:0<=zT w.zd m.op.listen) (hx:w.zd[(zT w.zd m.op.listen).toNat]?= some x):
  tn 99 [] [Cw w,Cm m] (.uo [Cw { w with zd:=w.zd.set (zT w.zd m.op.listen).toNat (Go.Gat.wC x) },Cm { m with listen:=zT w.zd m.op.listen,done:=true,answer:=⟨10,0,0,0,0,zT w.zd m.op.listen,0,⟨0,0,0,0,0,0⟩⟩ },Ce { Gl m with done:=true,answer:=⟨10,0,0,0,0,zT w.zd m.op.listen,0,⟨0,0,0,0,0,0⟩⟩ }]) []:=by
 generalize hp:zT w.zd m.op.listen=p at hi hx;have lt:p.toNat < w.zd.length:=(dJ.1 hx).1;have gl:(w.zd.map qF)[p.toNat]?= some (qF x):=by rw [dN,hx];rfl
 have hst:(w.zd.map qF).set p.toNat [Tx (Go.Gat.wC x).name,Bo (Go.Gat.wC x).drain,I (Go.Gat.wC x).zf,Bo (Go.Gat.wC x).closed]=(w.zd.set p.toNat (Go.Gat.wC x)).map qF:=bP
 have e1:0+p.toNat=p.toNat:=gf _
 obtain ⟨y,l,hy⟩:∃ y l,w.zd=y::l:=by
  cases h:w.zd with
  | nil=>rw [h] at lt;simp at lt
  | cons y l=>exact ⟨y,l,rfl⟩
 have hpl:=Nv w.zd m.op.listen (by have:=ok.zd.1;omega);rw [hp] at hpl;refine ab func99 ?_;refine ⟨fun h=>absurd h (by simp [hpc]),fun _=>dd ?_⟩;refine ah (zO w m ok hl) ?_;refine ⟨fun _=>dd ?_,fun h=>absurd ((hs).symm.trans h:true=false) ar⟩;refine tc ?_
 refine af [] (yQ w sw y l hy) ?_;refine af [5] (hpl) ?_;refine ⟨fun h=>absurd h aA,fun _=>dd ?_⟩;refine .inl ⟨⟨true,[1,4],[0],[8]⟩,au,uH ?_⟩;refine hZ ?_
 refine ⟨hi,lt,dd ?_⟩;rw [e1];refine ⟨_,gl,(by show 0+4<=4;decide),dd ?_⟩;refine ah (Go.Gat.Ns x) ?_;refine ⟨hi,lt,dd ?_⟩;rw [e1];refine ⟨_,gl,rfl,dd ?_⟩;refine hZ ?_
 rw [hst];refine af [1,6] (HJ { m with listen:=p } (Gl m) ⟨10,0,0,0,0,p,0,⟨0,0,0,0,0,0⟩⟩) ?_;refine .inl ⟨⟨false,[0,1,5],[0,1,6],[]⟩,au,uH ?_⟩;refine hZ ?_
 exact ⟨.inl rfl,_,zo.zU 2 0 5 rfl rfl rfl rfl (.inr rfl) aj aj (shut_map (enc:=qF) (fun _=>rfl) _) (zZ rfl),rfl⟩
abbrev fm (m:uk) (p i:Int):uk:={ m with pc:=p,i:=i }
def qC (m:uk) (a b c:Int):tn 167 [⟨1,69,44,[zD (m)],0⟩] [.agg [.za,.ref 0 [] 44 0 0],I a,I b,I c] (Ce (u6 m a b c)) [⟨1,69,44,[zD (m)],0⟩]:=by
 refine aa func167 ?_;refine hZ ?_;exact dx
def xa (m:uk) (p i:Int):tn 168 [⟨1,69,44,[zD (m)],0⟩] [.agg [.za,.ref 0 [] 44 0 0],I p,I i] (.uo []) [⟨1,69,44,[zD ({ m with pc:=p,i:=i })],0⟩]:=by
 refine aa func168 ?_;refine .inl ⟨⟨false,[1,3],[1],[]⟩,au,uH ?_⟩;refine hZ ?_
 exact ⟨.inr rfl,_,_,.refl _,rfl,cE 1⟩
def H5 (m:uk) (e:uv) (a:u3):tn 166 [⟨1,69,44,[zD (m)],0⟩] [.agg [.za,.ref 0 [] 44 0 0],Ce e,.agg (xm a)] (Ce { e with done:=true,answer:=a }) [⟨1,69,44,[zD ({ m with done:=true,answer:=a })],0⟩]:=by
 refine aa func166 ?_;refine .inl ⟨⟨false,[1,3,4],[1,3],[]⟩,au,uH ?_⟩;refine hZ ?_
 refine .inl ⟨⟨false,[0],[3],[]⟩,au,uH ?_⟩;refine hZ ?_
 refine hZ ?_;exact dx
def Mn (w:Wor) (m:uk):tn 125 [⟨1,37,8,[zJ (w)],0⟩,⟨1,69,44,[zD (m)],0⟩] [.agg tj] (Ce (u6 m 1 1 w.zn)) [⟨1,37,8,[zJ (w)],0⟩,⟨1,69,44,[zD ({ m with zn:=w.zn,pc:=2,i:=0 })],0⟩]:=by
 refine aa func125 ?_;refine .inl ⟨⟨false,[1,3,6],[0,2],[]⟩,au,uH ?_⟩;refine hZ ?_
 refine af [1] (xa { m with zn:=w.zn } 2 0) ?_;refine .inl ⟨⟨true,[],[],[]⟩,au,uH ?_⟩;refine af [1] (qC { m with zn:=w.zn,pc:=2,i:=0 } 1 1 w.zn) ?_;exact cP
def Nt (w:Wor) (m:uk) (h:w.lock≠0):tn 124 [⟨1,37,8,[zJ (w)],0⟩,⟨1,69,44,[zD (m)],0⟩] [.agg tj] (Ce { u6 m 5 14 1 with done:=true,answer:=ib 12 }) [⟨1,37,8,[zJ (w)],0⟩,⟨1,69,44,[zD ({ m with done:=true,answer:=ib 12 })],0⟩]:=by
 refine aa func124 ?_;refine ⟨fun _=>dd ?_,fun hh=>absurd hh (aq h)⟩;refine .inl ⟨⟨true,[0,1],[2],[2]⟩,au,uH ?_⟩;refine af [1] (qC m 5 14 1) ?_;refine hZ ?_
 refine af [1] (H5 m (u6 m 5 14 1) (ib 12)) ?_;exact cP
def ML (w:Wor) (m:uk) (h:w.lock=0):tn 124 [⟨1,37,8,[zJ (w)],0⟩,⟨1,69,44,[zD (m)],0⟩] [.agg tj] (Ce (u6 m 4 14 1)) [⟨1,37,8,[zJ ({ w with lock:=1 })],0⟩,⟨1,69,44,[zD ({ m with pc:=1 })],0⟩]:=by
 refine aa func124 ?_;refine ⟨fun hh=>absurd hh aH,fun _=>dd ?_⟩;refine .inl ⟨⟨false,[1,3],[2],[]⟩,au,uH ?_⟩;refine hZ ?_
 refine af [1] (qC { m with pc:=1 } 4 14 1) ?_;exact cP
def oG (w:Wor) (m:uk) (p:Int):uk:=if p≠0∧p≠IntKind.i64.wrap (m.zn+1) then fm m 4 0 else if IntKind.i64.wrap (m.i+1) < w.pins.length then { m with i:=IntKind.i64.wrap (m.i+1) } else fm m 3 (IntKind.i64.wrap (m.i+1))
def MK (w:Wor) (m:uk) (p:Int) (h0:0<=m.i) (hp:w.pins[m.i.toNat]?= some p):tn 126 [⟨1,37,8,[zJ (w)],0⟩,⟨1,69,44,[zD (m)],0⟩] [.agg tj] (Ce (u6 m 1 2 p)) [⟨1,37,8,[zJ (w)],0⟩,⟨1,69,44,[zD (oG w m p)],0⟩]:=by
 have hg:(w.pins.map encI)[m.i.toNat]?= some (encI p):=by rw [dN,hp];rfl
 have ml:(w.pins.map encI).length=w.pins.length:=dP ..;refine aa func126 ?_;refine uE ?_;(refine ⟨h0,_,hg,dd ?_⟩)
 refine ⟨fun q1=>?_,fun q1=>?_⟩
 ·refine dd ?_;refine ⟨fun q2=>?_,fun q2=>?_⟩
  ·rw [show oG w m p=fm m 4 0 from dO ⟨aq q1,aq q2⟩];refine dd ?_;refine tc ?_
   refine af [1] (xa m 4 0) ?_;refine af [1] (qC (fm m 4 0) 1 2 p) ?_;exact cP
  ·have q:¬(p≠0∧p≠IntKind.i64.wrap (m.zn+1)):=fun hh=>hh.2 (aq q2)
   refine dd ?_;refine tc ?_
   (rw [show oG w m p=_ from dL q]);refine uE ?_;(rw [ml]);refine ⟨fun q3=>?_,fun q3=>?_⟩;(focus ((rw [dO (aq q3)]);refine dd ?_;refine af [1] (qC { m with i:=IntKind.i64.wrap (m.i+1) } 1 2 p) ?_;refine hZ ?_;exact ⟨.inl rfl,_,_,.refl _,rfl,cE 2⟩));(rw [dL (aq q3)]);refine dd ?_;refine .inl ⟨⟨true,[],[],[]⟩,au,uH ?_⟩;refine af [1] (xa m 3 (IntKind.i64.wrap (m.i+1))) ?_;refine hZ ?_;refine af [1] (qC (fm m 3 (IntKind.i64.wrap (m.i+1))) 1 2 p) ?_;exact cP
 ·have q:¬(p≠0∧p≠IntKind.i64.wrap (m.zn+1)):=fun hh=>hh.1 (aq q1)
  refine dd ?_;refine tc ?_
  (rw [show oG w m p=_ from dL q]);refine uE ?_;(rw [ml]);refine ⟨fun q3=>?_,fun q3=>?_⟩;(focus ((rw [dO (aq q3)]);refine dd ?_;refine af [1] (qC { m with i:=IntKind.i64.wrap (m.i+1) } 1 2 p) ?_;refine hZ ?_;exact ⟨.inl rfl,_,_,.refl _,rfl,cE 2⟩));(rw [dL (aq q3)]);refine dd ?_;refine .inl ⟨⟨true,[],[],[]⟩,au,uH ?_⟩;refine af [1] (xa m 3 (IntKind.i64.wrap (m.i+1))) ?_;refine hZ ?_;refine af [1] (qC (fm m 3 (IntKind.i64.wrap (m.i+1))) 1 2 p) ?_;exact cP
def L4 (w:Wor) (m:uk) (h:¬(w.zn=m.zn∧w.zn < 1000000000000)):tn 127 [⟨1,37,8,[zJ (w)],0⟩,⟨1,69,44,[zD (m)],0⟩] [.agg tj] (Ce (u6 m 5 1 w.zn)) [⟨1,37,8,[zJ (w)],0⟩,⟨1,69,44,[zD (fm m 4 0)],0⟩]:=by
 refine aa func127 ?_;refine uE ?_;refine ⟨fun q1=>?_,fun q1=>?_⟩
 ·refine dd ?_;refine ⟨fun q2=>?_,fun q2=>?_⟩
  ·exact absurd ⟨aq q1,aq q2⟩ h
  ·refine dd ?_;refine tc ?_
   refine af [1] (xa m 4 0) ?_;refine .inl ⟨⟨true,[],[],[]⟩,au,uH ?_⟩;refine af [1] (qC (fm m 4 0) 5 1 w.zn) ?_;exact cP
 ·refine dd ?_;refine tc ?_
  refine af [1] (xa m 4 0) ?_;refine .inl ⟨⟨true,[],[],[]⟩,au,uH ?_⟩;refine af [1] (qC (fm m 4 0) 5 1 w.zn) ?_;exact cP
def LU (w:Wor) (m:uk) (h1:w.zn=m.zn) (h2:w.zn < 1000000000000):tn 127 [⟨1,37,8,[zJ (w)],0⟩,⟨1,69,44,[zD (m)],0⟩] [.agg tj] (Ce (u6 m 4 1 (IntKind.i64.wrap (w.zn+1)))) [⟨1,37,8,[zJ ({ w with zn:=IntKind.i64.wrap (w.zn+1) })],0⟩,⟨1,69,44,[zD ({ fm m 4 0 with zn:=IntKind.i64.wrap (w.zn+1) })],0⟩]:=by
 refine aa func127 ?_;refine uE ?_;refine ⟨fun _=>dd ?_,fun hh=>absurd hh tG⟩;refine ⟨fun _=>dd ?_,fun hh=>absurd hh aA⟩;refine tc ?_
 refine .inl ⟨⟨false,[1,3,6],[0,2],[]⟩,au,uH ?_⟩;refine hZ ?_
 refine af [1] (xa { m with zn:=IntKind.i64.wrap (w.zn+1) } 4 0) ?_;refine .inl ⟨⟨true,[],[],[]⟩,au,uH ?_⟩;refine af [1] (qC { fm m 4 0 with zn:=IntKind.i64.wrap (w.zn+1) } 4 1 (IntKind.i64.wrap (w.zn+1))) ?_;exact cP
def yd (v:uq):List En:=v.zm.flatMap (·.ends)
structure BX (v:uq):Prop where
 zm:v.zm.length<=1000
 ends : ∀ g ∈ v.zm, g.ends.length <= 1000
def JX:∀ (l:List Gr),(∀ g ∈ l,g.ends.length<=1000)->(l.flatMap (·.ends)).length<=l.length * 1000
 | [],_=>by simp
 | g::l,h=>by
  have:=JX l fun x hx=>h x (g9 _ hx)
  have:=h g (px ..);simp only [tz,gN,pS];omega
def HK (v:uq) (h:BX v):tn 170 [] [Cv v] (lE (yd v)) []:=by
 have m1:(v.zm.map zE).length=v.zm.length:=dP ..;have hgl:=h.zm;refine ab func170 ?_;rw [m1];refine z5.seq v.zm.length (fun k=>(.za::.ref 0 [] 5 0 0::.ui 1 0 []::.gl 1 3 (((v.zm.take k).flatMap (·.ends)).map zx)::.za::.za::.za::(lG v.zm)::I v.zm.length::I k::tZ ([.za]))) (fun k=>[⟨1,107,5,[zF v],0⟩,⟨4,136,3,((v.zm.take k).flatMap (·.ends)).map zx,0⟩]) (fun k=>True) ?_ trivial (fun k hk hr=>?_) (fun hr=>?_)
 ·refine zo.trans (zo.grow 3 136 3 rfl (.inl rfl)) ?_;exact cC
 ·obtain ⟨g,hx⟩:∃ g,g=v.zm[k]:=⟨_,rfl⟩;have hg:(v.zm.map zE)[k]?= some (zE g):=by rw [dN,dK hk,hx];rfl
  have eg:((v.zm.take (k+1)).flatMap (·.ends)).map zx=((v.zm.take k).flatMap (·.ends)).map zx++g.ends.map zx:=bN
  have l1:(((v.zm.take k).flatMap (·.ends)).map zx).length<=k * 1000:=by
   have:=JX (v.zm.take k) fun x hx=>h.ends x (pL hx)
   rw [List.length_take,Nat.min_eq_left aw] at this;simpa using this
  have l2:(g.ends.map zx).length<=1000:=by rw [dP];exact h.ends g (hx ▸ gH hk)
  conv=>whnf
  refine uF ?_;(refine td hg ?_)
  refine ⟨rfl,.inr rfl,by simp only [maxLen];omega,by show _ * 40<=_;omega,dd ?_⟩;refine .inl ⟨rfl,?_,trivial⟩;rw [zu aw,eg];exact cE 2
 ·refine uD ?_;rw [gK];exact uI
abbrev B0 (k n:Int):u3:=⟨k,0,0,0,0,0,n,⟨0,0,0,0,0,0⟩⟩
def Mc (w:Wor) (m:uk) (l:ec) (h0:0<=m.i) (hx:w.zd[m.i.toNat]?= some l):tn 132 [⟨1,37,8,[zJ (w)],0⟩,⟨1,69,44,[zD (m)],0⟩] [.agg tj] (Ce (u6 m 1 5 l.zf)) [⟨1,37,8,[zJ (w)],0⟩,⟨1,69,44,[zD (if l.zf=0 then { m with pc:=10 } else fm m 8 (IntKind.i64.wrap (m.i+1)))],0⟩]:=by
 have hg:(w.zd.map qF)[m.i.toNat]?= some (qF l):=by rw [dN,hx];rfl
 refine aa func132 ?_;refine uE ?_;(refine ⟨h0,_,hg,dd ?_⟩)
 refine ⟨fun q=>?_,fun q=>?_⟩
 ·rw [dO (aq q)];refine dd ?_;refine af [1] (qC { m with pc:=10 } 1 5 l.zf) ?_;exact cP
 ·rw [dL (aq q)];refine dd ?_;refine .inl ⟨⟨true,[],[],[]⟩,au,uH ?_⟩;refine af [1] (xa m 8 (IntKind.i64.wrap (m.i+1))) ?_;refine hZ ?_
  refine af [1] (qC (fm m 8 (IntKind.i64.wrap (m.i+1))) 1 5 l.zf) ?_;exact cP
def LW (w:Wor) (m:uk) (h:w.zd.length<=m.i):tn 131 [⟨1,37,8,[zJ (w)],0⟩,⟨1,69,44,[zD (m)],0⟩] [.agg tj] (Ce { u6 m 2 14 0 with done:=true,answer:=B0 11 m.answer.n }) [⟨1,37,8,[zJ ({ w with lock:=0 })],0⟩,⟨1,69,44,[zD ({ m with done:=true,answer:=B0 11 m.answer.n })],0⟩]:=by
 have ml:(w.zd.map qF).length=w.zd.length:=dP ..;refine aa func131 ?_;refine uE ?_;rw [ml];refine ⟨fun _=>dd ?_,fun hh=>absurd hh aA⟩;refine .inl ⟨⟨true,[0,1],[2],[2]⟩,au,uH ?_⟩;refine af [1] (qC m 2 14 0) ?_;refine hZ ?_
 refine af [1] (H5 m (u6 m 2 14 0) (B0 11 m.answer.n)) ?_;exact cP
abbrev AV (m:uk) (l:ec):uk:=if l.drain=true∧l.closed=false then { m with pc:=9 } else { m with i:=IntKind.i64.wrap (m.i+1) }
abbrev DE (m:uk) (l:ec):uv:=u6 m 1 4 (if l.drain=true then 1 else 0)
def Ma (w:Wor) (m:uk) (l:ec) (h0:0<=m.i) (hx:w.zd[m.i.toNat]?= some l):tn 131 [⟨1,37,8,[zJ (w)],0⟩,⟨1,69,44,[zD (m)],0⟩] [.agg tj] (Ce (DE m l)) [⟨1,37,8,[zJ (w)],0⟩,⟨1,69,44,[zD (AV m l)],0⟩]:=by
 have hg:(w.zd.map qF)[m.i.toNat]?= some (qF l):=by rw [dN,hx];rfl
 have uj:=(dJ.1 hx).1;have ml:(w.zd.map qF).length=w.zd.length:=dP ..;obtain ⟨nm,dr,ac,cl⟩:=l;cases dr <;> cases cl
 all_goals
  refine aa func131 ?_;refine uE ?_;rw [ml];refine ⟨fun hh=>absurd hh aA,fun _=>dd ?_⟩;refine .inr ⟨⟨[1,4,8,10],[0,1,2],true⟩,au,fun _=>rfl,_,uH ?_,fun t2 H2 h=>h⟩;refine hZ ?_
  (refine ⟨h0,_,hg,dd ?_⟩)
  (refine ⟨uH ?_,trivial⟩);refine hZ ?_
  (refine ⟨uH ?_,trivial⟩);refine hZ ?_
  (refine ⟨_,_,.refl _,uH ?_⟩)
  refine af [1] (qC m 1 4 0) ?_;(repeat (first | ((refine ya (dd ?_))) | ((refine yb (dd ?_)))))
  exact cP
def LS {w w':Wor} {m m':uk} {e:uv} (h:w.zr.length<=m.i) (hd:tn 131 [⟨1,37,8,[zJ (w)],0⟩,⟨1,69,44,[zD (fm m 8 0)],0⟩] [.agg tj] (Ce e) [⟨1,37,8,[zJ (w')],0⟩,⟨1,69,44,[zD (m')],0⟩]):tn 128 [⟨1,37,8,[zJ (w)],0⟩,⟨1,69,44,[zD (m)],0⟩] [.agg tj] (Ce e) [⟨1,37,8,[zJ (w')],0⟩,⟨1,69,44,[zD (m')],0⟩]:=by
 have ml:(w.zr.map xd).length=w.zr.length:=dP ..;refine aa func128 ?_;refine uE ?_;rw [ml];refine ⟨fun _=>dd ?_,fun hh=>absurd hh aA⟩;refine af [1] (xa m 8 0) ?_;refine af [0,1] (hd) ?_;exact cP
abbrev oF (m:uk) (r:u7):uk:=if r.gone=true∨Go.Lim.od r.at_ m.zn=false then { m with i:=IntKind.i64.wrap (m.i+1) } else { m with version:=r.version,zg:=0,end_:=0,other:=0,slot:=0,k:=0,pc:=5 }
def Mo (w:Wor) (m:uk) (r:u7) (hr:i64 r.at_) (h0:0<=m.i) (hx:w.zr[m.i.toNat]?= some r):tn 128 [⟨1,37,8,[zJ (w)],0⟩,⟨1,69,44,[zD (m)],0⟩] [.agg tj] (Ce (u6 m 1 11 r.version)) [⟨1,37,8,[zJ (w)],0⟩,⟨1,69,44,[zD (oF m r)],0⟩]:=by
 have hg:(w.zr.map xd)[m.i.toNat]?= some (xd r):=by rw [dN,hx];rfl
 have uj:=(dJ.1 hx).1;have ml:(w.zr.map xd).length=w.zr.length:=dP ..;obtain ⟨rv,ra,rg⟩:=r;refine aa func128 ?_;refine uE ?_;rw [ml];refine ⟨fun hh=>absurd hh aA,fun _=>dd ?_⟩;refine .inr ⟨⟨[1,4,8,10],[0,1,2],true⟩,au,fun _=>rfl,_,uH ?_,fun t2 H2 h=>h⟩;refine hZ ?_
 (refine ⟨h0,_,hg,dd ?_⟩)
 (refine ⟨uH ?_,trivial⟩);refine hZ ?_
 (refine ⟨uH ?_,trivial⟩);refine hZ ?_
 (refine ⟨_,_,.refl _,uH ?_⟩)
 cases rg
 ·have eN:Go.Lim.od ra m.zn=false->oF m ⟨rv,ra,false⟩={ m with i:=IntKind.i64.wrap (m.i+1) }:=fun hh=>dO (.inr hh)
  have eY:Go.Lim.od ra m.zn=true->oF m ⟨rv,ra,false⟩={ m with version:=rv,zg:=0,end_:=0,other:=0,slot:=0,k:=0,pc:=5 }:=fun hh=>dL (by simp [hh])
  refine .inl ⟨⟨true,[],[],[9]⟩,au,uH ?_⟩;(repeat (first | ((refine ya (dd ?_))) | ((refine yb (dd ?_)))))
  refine ah (Go.Lim.OU (now:=m.zn) hr.1 hr.2) ?_;refine ⟨fun q=>?_,fun q=>?_⟩
  ·rw [eY q];refine dd ?_;refine hZ ?_
   (repeat (first | ((refine ya (dd ?_))) | ((refine yb (dd ?_)))))
   refine af [1] (qC { m with version:=rv,zg:=0,end_:=0,other:=0,slot:=0,k:=0,pc:=5 } 1 11 rv) ?_;exact cP
  ·rw [eN q];refine dd ?_;refine hZ ?_
   (repeat (first | ((refine ya (dd ?_))) | ((refine yb (dd ?_)))))
   refine af [1] (qC { m with i:=IntKind.i64.wrap (m.i+1) } 1 11 rv) ?_;exact cP
 ·rw [show oF m ⟨rv,ra,true⟩=_ from dO (.inl rfl)];refine .inl ⟨⟨true,[],[],[9]⟩,au,uH ?_⟩;(repeat (first | ((refine ya (dd ?_))) | ((refine yb (dd ?_)))))
  refine af [1] (qC { m with i:=IntKind.i64.wrap (m.i+1) } 1 11 rv) ?_;exact cP
abbrev BM (l:ec):ec:={ l with closed:=true }
def OX (w:Wor) (m:uk) (x:ec) (h0:0<=m.i) (hx:w.zd[m.i.toNat]?= some x):
  tn 133 [⟨1,37,8,[[I w.zn,I w.current,I w.lock,lI w.pins,lV w.ze,.sl 2 [] 4 0 w.zd.length false,eh w.counts,lR w.zr]],0⟩,⟨1,69,44,[zD (m)],0⟩,⟨2,85,4,(w.zd).map qF,0⟩] [.agg tj] (Ce (u6 m 2 13 1)) [⟨1,37,8,[[I w.zn,I w.current,I w.lock,lI w.pins,lV w.ze,.sl 2 [] 4 0 w.zd.length false,eh w.counts,lR w.zr]],0⟩,⟨1,69,44,[zD (fm m 8 (IntKind.i64.wrap (m.i+1)))],0⟩,⟨2,85,4,(w.zd.set m.i.toNat (BM x)).map qF,0⟩]:=by
 have e1:0+m.i.toNat=m.i.toNat:=gf _;have uj:m.i.toNat < w.zd.length:=(dJ.1 hx).1;have gx:(w.zd.map qF)[m.i.toNat]?= some (qF x):=by rw [dN,hx];rfl
 have hst:(w.zd.map qF).set m.i.toNat [Tx x.name,Bo x.drain,I x.zf,Bo true]=(w.zd.set m.i.toNat (BM x)).map qF:=bP
 refine aa func133 ?_;refine .inl ⟨⟨false,[1,4,6,9],[0,1,3],[]⟩,au,uH ?_⟩;refine hZ ?_
 refine ⟨h0,uj,dd ?_⟩;rw [e1];refine ⟨_,gx,rfl,dd ?_⟩;refine hZ ?_
 rw [hst];refine .inl ⟨⟨true,[],[],[]⟩,au,uH ?_⟩;refine af [1] (xa m 8 (IntKind.i64.wrap (m.i+1))) ?_;refine hZ ?_
 refine af [1] (qC (fm m 8 (IntKind.i64.wrap (m.i+1))) 2 13 1) ?_;refine hZ ?_;exact ⟨.inl rfl,_,_,.refl _,rfl,cE 3⟩
abbrev B5 (m:uk) (v:uq) (a:Int):uv:={ u6 m 1 7 a with version:=m.version,qk:=v.qk }
abbrev Ad (m:uk) (v:uq) (a:Int):uk:=if a≠0 then fm m 4 (IntKind.i64.wrap (m.i+1)) else if IntKind.i64.wrap (m.k+1) < (yd v).length then { m with k:=IntKind.i64.wrap (m.k+1) } else { m with k:=IntKind.i64.wrap (m.k+1),pc:=6 }
def L3 (w:Wor) (m:uk) (v:uq) (e:En) (hf:BX v) (hv:mr w m v) (k0:0<=m.k) (hk:(yd v)[m.k.toNat]?= some e):tn 129 [⟨1,37,8,[zJ (w)],0⟩,⟨1,69,44,[zD (m)],0⟩] [.agg tj] (Ce (B5 m v e.zf)) [⟨1,37,8,[zJ (w)],0⟩,⟨1,69,44,[zD (Ad m v e.zf)],0⟩]:=by
 have a0:=hv.v0;have a1:=hv.row;have hg:((yd v).map zx)[m.k.toNat]?= some (zx e):=by rw [dN,hk];rfl
 have ml:((yd v).map zx).length=(yd v).length:=dP ..;have he:=HK v hf;have eA:e.zf≠0->Ad m v e.zf=fm m 4 (IntKind.i64.wrap (m.i+1)):=fun hh=>dO hh
 have eB:e.zf=0->Ad m v e.zf=if IntKind.i64.wrap (m.k+1) < (yd v).length then { m with k:=IntKind.i64.wrap (m.k+1) } else { m with k:=IntKind.i64.wrap (m.k+1),pc:=6 }:=fun hh=>dL (by simp [hh])
 generalize hll:yd v=ll at he hk hg ml eA eB;obtain ⟨sn,gs,fr⟩:=v;cases fr
 all_goals
  refine aa func129 ?_;refine .inr ⟨⟨[1,4,8,10],[0,1,2],true⟩,au,fun _=>rfl,_,uH ?_,fun t2 H2 h=>h⟩;refine hZ ?_
  (refine ⟨a0,_,a1,dd ?_⟩)
  (refine ⟨uH ?_,trivial⟩);refine hZ ?_
  (refine ⟨uH ?_,trivial⟩);refine hZ ?_
  (refine ⟨_,_,.refl _,uH ?_⟩)
  refine ah he ?_;refine .inr ⟨⟨[0,5,8,9],[0,1,2,3,4],true⟩,au,fun _=>rfl,_,uH ?_,fun t2 H2 h=>h⟩;(refine ⟨k0,_,hg,dd ?_⟩)
  refine ⟨_,ai [1] (qC m 1 7 e.zf),uH ?_⟩;(refine ⟨uH ?_,trivial⟩);refine hZ ?_
  (refine ⟨uH ?_,trivial⟩);refine hZ ?_
  (refine ⟨_,_,.refl _,uH ?_⟩)
  refine .inl ⟨⟨false,[3,5],[1,4],[]⟩,au,uH ?_⟩;(repeat (first | ((refine ya (dd ?_))) | ((refine yb (dd ?_)))))
  refine hZ ?_
  refine ⟨fun q=>?_,fun q=>?_⟩
  ·rw [eA (aq q)];refine dd ?_;refine .inl ⟨⟨true,[],[],[]⟩,au,uH ?_⟩;refine af [1] (xa m 4 (IntKind.i64.wrap (m.i+1))) ?_;exact cP
  ·rw [eB (aq q)];refine dd ?_;rw [ml];refine ⟨fun q2=>?_,fun q2=>?_⟩
   ·rw [dO (aq q2)];refine dd ?_;exact cP
   ·rw [dL (aq q2)];refine dd ?_;exact cP
abbrev nB (v:uq):uq:={ v with qk:=true }
abbrev kP (r:u7):u7:={ r with gone:=true }
abbrev AU (m:uk):uk:={ m with answer:={ m.answer with n:=IntKind.i64.wrap (m.answer.n+1) },pc:=4,i:=IntKind.i64.wrap (m.i+1) }
def Cj (w:Wor) (m:uk) (v:uq) (r:u7) (hv:mr w m v) (h0:0<=m.i) (hx:w.zr[m.i.toNat]?= some r):
  tn 130 [⟨1,37,8,[[I w.zn,I w.current,I w.lock,lI w.pins,.sl 2 [] 5 0 w.ze.length false,lL w.zd,eh w.counts,.sl 3 [] 3 0 w.zr.length false]],0⟩,⟨1,69,44,[zD (m)],0⟩,⟨2,107,5,(w.ze).map zF,0⟩,⟨2,101,3,(w.zr).map xd,0⟩] [.agg tj] (Ce (u6 m 2 12 m.version)) [⟨1,37,8,[[I w.zn,I w.current,I w.lock,lI w.pins,.sl 2 [] 5 0 w.ze.length false,lL w.zd,eh w.counts,.sl 3 [] 3 0 w.zr.length false]],0⟩,⟨1,69,44,[zD (AU m)],0⟩,⟨2,107,5,(w.ze.set m.version.toNat (nB v)).map zF,0⟩,⟨2,101,3,(w.zr.set m.i.toNat (kP r)).map xd,0⟩]:=by
 have a0:=hv.v0;have av:m.version.toNat < w.ze.length:=(dJ.1 hv.at_).1;have gv:=hv.row;have e1:0+m.i.toNat=m.i.toNat:=gf _;have e2:0+m.version.toNat=m.version.toNat:=gf _;have uj:m.i.toNat < w.zr.length:=(dJ.1 hx).1;have gx:(w.zr.map xd)[m.i.toNat]?= some (xd r):=by rw [dN,hx];rfl
 have hst:(w.zr.map xd).set m.i.toNat [I r.version,I r.at_,Bo true]=(w.zr.set m.i.toNat (kP r)).map xd:=bP
 have hsv:(w.ze.map zF).set m.version.toNat [lT v.snap.zd,fQ v.snap.rules,lC v.snap.zk,lG v.zm,Bo true]=(w.ze.set m.version.toNat (nB v)).map zF:=bP
 refine aa func130 ?_;refine .inl ⟨⟨false,[1,4,8,10,13,17],[0,1,4],[]⟩,au,uH ?_⟩;refine hZ ?_
 refine ⟨a0,av,dd ?_⟩;rw [e2];refine ⟨_,gv,rfl,dd ?_⟩;refine hZ ?_
 refine ⟨h0,uj,dd ?_⟩;rw [e1];refine ⟨_,gx,rfl,dd ?_⟩;refine hZ ?_
 rw [hst,hsv];refine .inl ⟨⟨true,[],[],[]⟩,au,uH ?_⟩;refine af [1] (xa { m with answer:={ m.answer with n:=IntKind.i64.wrap (m.answer.n+1) } } 4 (IntKind.i64.wrap (m.i+1))) ?_;refine hZ ?_
 refine .inl ⟨⟨true,[],[],[]⟩,au,uH ?_⟩;refine af [1] (qC (AU m) 2 12 m.version) ?_;refine hZ ?_;exact ⟨.inl rfl,_,_,.refl _,rfl,cE 4⟩
def Nf (v:uq) (h:BX v):tn 165 [] [Cv v] (I (yd v).length) []:=by
 have ml:((yd v).map zx).length=(yd v).length:=dP ..;have he:=HK v h;generalize yd v=ll at he ml ⊢;refine ab func165 ?_;refine ah he ?_;rw [ml];exact uI
def O3 (w:Wor) (m:uk) (hpc:m.pc=2) (h:m.i < w.pins.length):tn 123 [] [Cw w,Cm m] (Bo true) []:=by
 have ml:(w.pins.map encI).length=w.pins.length:=dP ..;refine ab func123 ?_;(repeat (first | refine uA ?_ | refine uB ?_))
 exact uI
def O6 (w:Wor) (m:uk) (hpc:m.pc=9) (h:m.i < w.zd.length):tn 123 [] [Cw w,Cm m] (Bo true) []:=by
 have ml:(w.zd.map qF).length=w.zd.length:=dP ..;refine ab func123 ?_;(repeat (first | refine uA ?_ | refine uB ?_))
 exact uI
def xg (w:Wor) (m:uk) (hpc:m.pc≠2∧m.pc≠5∧m.pc≠6∧m.pc≠9∧m.pc≠10):tn 123 [] [Cw w,Cm m] (Bo true) []:=by
 refine ab func123 ?_;(repeat (first | refine uA ?_ | refine uB ?_))
 exact uI
def O4 (w:Wor) (m:uk) (v:uq) (hf:BX v) (hpc:m.pc=5) (hv:mr w m v) (h:m.k < (yd v).length):tn 123 [] [Cw w,Cm m] (Bo true) []:=by
 have a0:=hv.v0;have a1:=hv.row;refine ab func123 ?_;(repeat (first | refine uA ?_ | refine uB ?_))
 refine .inl ⟨⟨true,[],[],[8]⟩,au,uH ?_⟩;(refine ⟨a0,_,a1,dd ?_⟩)
 refine ah (Nf v hf) ?_;(repeat (first | refine uA ?_ | refine uB ?_))
 exact uI
def O5 (w:Wor) (m:uk) (r:u7) (hpc:m.pc=6) (h0:0<=m.i) (hx:w.zr[m.i.toNat]?= some r) (h1:r.version=m.version) (h2:r.gone=false):tn 123 [] [Cw w,Cm m] (Bo true) []:=by
 have hg:(w.zr.map xd)[m.i.toNat]?= some (xd r):=by rw [dN,hx];rfl
 have uj:=(dJ.1 hx).1;have ml:(w.zr.map xd).length=w.zr.length:=dP ..;obtain ⟨rv,ra,rg⟩:=r;cases h2
 refine ab func123 ?_;(repeat (first | refine uA ?_ | refine uB ?_))
 refine uE ?_;rw [ml];(repeat (first | refine uA ?_ | refine uB ?_))
 (refine ⟨h0,_,hg,dd ?_⟩)
 refine ⟨fun _=>dd ?_,fun hh=>absurd hh tG⟩;(repeat (first | ((refine ya (dd ?_))) | ((refine yb (dd ?_)))))
 (refine ⟨h0,_,hg,dd ?_⟩)
 (repeat (first | ((refine ya (dd ?_))) | ((refine yb (dd ?_)))))
 exact uI
def N7 (w:Wor) (m:uk) (l:ec) (hpc:m.pc=10) (h0:0<=m.i) (hx:w.zd[m.i.toNat]?= some l) (h1:l.drain=true):tn 123 [] [Cw w,Cm m] (Bo true) []:=by
 have hg:(w.zd.map qF)[m.i.toNat]?= some (qF l):=by rw [dN,hx];rfl
 have uj:=(dJ.1 hx).1;have ml:(w.zd.map qF).length=w.zd.length:=dP ..;obtain ⟨ln,ld,la,lc⟩:=l;cases h1
 refine ab func123 ?_;(repeat (first | refine uA ?_ | refine uB ?_))
 rw [ml];(repeat (first | refine uA ?_ | refine uB ?_))
 (refine ⟨h0,_,hg,dd ?_⟩)
 (repeat (first | ((refine ya (dd ?_))) | ((refine yb (dd ?_)))))
 exact uI
def SY (w:Wor) (m:uk) (X:Ob) (j f:Nat) (R:Exit->S->Prop) (hlow:qL 8 ([⟨1,37,8,[zJ (w)],0⟩,⟨1,69,44,[zD (m)],0⟩,⟨1,37,8,[fx],0⟩,⟨1,69,44,[ft],0⟩,⟨1,48,23,[zR qz],0⟩,X,⟨1,69,44,[zD (m)],0⟩,⟨1,227,2,[tf],0⟩]++[])=true) (hf:∀ v0 v1 v2 v3 v4 v5 v6 v8 v9 v10,vb [(0,v0,0),(1,v1,1),(2,v2,2),(3,v3,3),(4,v4,4),(5,v5,5),(6,v6,6),(8,v8,7),(9,v9,8),(10,v10,9)] m.pc=some j) (hc:([.fn 124 [.agg tf] [],.fn 125 [.agg tf] [],.fn 126 [.agg tf] [],.fn 127 [.agg tf] [],.fn 128 [.agg tf] [],.fn 129 [.agg tf] [],.fn 130 [.agg tf] [],.fn 131 [.agg tf] [],.fn 132 [.agg tf] [],.fn 133 [.agg tf] []]:List C)[j]?= some (.fn f [.agg tf] []))
  (hn:qU prog 0 (behind 5 ((f100.body).getD .skip)) ⟨(.za::.za::.ref 0 [] 8 0 0:: .ref 1 [] 44 0 0:: .ref 2 [] 8 0 0:: .ref 3 [] 44 0 0:: .ref 4 [] 23 0 0:: .ref 5 [] 8 0 0:: .ref 6 [] 44 0 0:: .ref 7 [] 2 0 0:: .fn f [.agg tf] []::Bo true:: tZ (tZ (tZ (tZ (tZ (tZ (tZ ([])))))))),[⟨1,37,8,[zJ (w)],0⟩,⟨1,69,44,[zD (m)],0⟩,⟨1,37,8,[fx],0⟩,⟨1,69,44,[ft],0⟩,⟨1,48,23,[zR qz],0⟩,X,⟨1,69,44,[zD (m)],0⟩,⟨1,227,2,[tf],0⟩]++[]⟩ R):qU prog 0 (behind 4 ((f100.body).getD .skip)) ⟨(.za::.za::.ref 0 [] 8 0 0:: .ref 1 [] 44 0 0:: .ref 2 [] 8 0 0:: .ref 3 [] 44 0 0:: .ref 4 [] 23 0 0:: .ref 5 [] 8 0 0:: .ref 6 [] 44 0 0:: .ref 7 [] 2 0 0:: .za::.za::tZ (tZ (tZ (tZ (tZ (tZ (tZ ([])))))))),[⟨1,37,8,[zJ (w)],0⟩,⟨1,69,44,[zD (m)],0⟩,⟨1,37,8,[fx],0⟩,⟨1,69,44,[ft],0⟩,⟨1,48,23,[zR qz],0⟩,X,⟨1,69,44,[zD (m)],0⟩,⟨1,227,2,[tf],0⟩]++[]⟩ R:=by
 refine ij (uH ?_);intro b;refine dd ?_;refine jx.ql (id:=8) _ _ _ _ (.inr rfl) underlying230 underlying3 rfl rfl rfl rfl rfl ?_;intro v0;refine dd ?_;refine jx.ql (id:=8) _ _ _ _ (.inr rfl) underlying230 underlying3 rfl rfl rfl rfl rfl ?_;intro v1;refine dd ?_;refine jx.ql (id:=8) _ _ _ _ (.inr rfl) underlying230 underlying3 rfl rfl rfl rfl rfl ?_;intro v2;refine dd ?_;refine jx.ql (id:=8) _ _ _ _ (.inr rfl) underlying230 underlying3 rfl rfl rfl rfl rfl ?_;intro v3;refine dd ?_;refine jx.ql (id:=8) _ _ _ _ (.inr rfl) underlying230 underlying3 rfl rfl rfl rfl rfl ?_;intro v4;refine dd ?_;refine jx.ql (id:=8) _ _ _ _ (.inr rfl) underlying230 underlying3 rfl rfl rfl rfl rfl ?_;intro v5;refine dd ?_;refine jx.ql (id:=8) _ _ _ _ (.inr rfl) underlying230 underlying3 rfl rfl rfl rfl rfl ?_;intro v6;refine dd ?_;refine jx.ql (id:=8) _ _ _ _ (.inr rfl) underlying230 underlying3 rfl rfl rfl rfl rfl ?_;intro v8;refine dd ?_;refine jx.ql (id:=8) _ _ _ _ (.inr rfl) underlying230 underlying3 rfl rfl rfl rfl rfl ?_;intro v9;refine dd ?_;refine jx.ql (id:=8) _ _ _ _ (.inr rfl) underlying230 underlying3 rfl rfl rfl rfl rfl ?_;intro v10;refine dd ?_;(refine ⟨_,_,uw.Bg (id:=8) _ _ _ _ rfl underlying230 underlying3 rfl rfl rfl rfl rfl rfl (hf _ _ _ _ _ _ _ _ _ _) hc,?_⟩;(refine dd ?_))
 refine tc ?_
 refine .inl ⟨rfl,_,_,(zo.forget 8).trans (zo.xi 8 hU rfl rfl rfl hlow rfl),hn⟩
def SX (w:Wor) (m:uk) (X:Ob) (Y:Ob)(j f:Nat) (R:Exit->S->Prop) (hlow:qL 9 ([⟨1,37,8,[zJ (w)],0⟩,⟨1,69,44,[zD (m)],0⟩,⟨1,37,8,[fx],0⟩,⟨1,69,44,[ft],0⟩,⟨1,48,23,[zR qz],0⟩,X,⟨1,69,44,[zD (m)],0⟩,⟨1,227,2,[tf],0⟩]++[Y])=true) (hf:∀ v0 v1 v2 v3 v4 v5 v6 v8 v9 v10,vb [(0,v0,0),(1,v1,1),(2,v2,2),(3,v3,3),(4,v4,4),(5,v5,5),(6,v6,6),(8,v8,7),(9,v9,8),(10,v10,9)] m.pc=some j) (hc:([.fn 124 [.agg tf] [],.fn 125 [.agg tf] [],.fn 126 [.agg tf] [],.fn 127 [.agg tf] [],.fn 128 [.agg tf] [],.fn 129 [.agg tf] [],.fn 130 [.agg tf] [],.fn 131 [.agg tf] [],.fn 132 [.agg tf] [],.fn 133 [.agg tf] []]:List C)[j]?= some (.fn f [.agg tf] []))
  (hn:qU prog 0 (behind 5 ((f100.body).getD .skip)) ⟨(.za::.za::.ref 0 [] 8 0 0:: .ref 1 [] 44 0 0:: .ref 2 [] 8 0 0:: .ref 3 [] 44 0 0:: .ref 4 [] 23 0 0:: .ref 5 [] 8 0 0:: .ref 6 [] 44 0 0:: .ref 7 [] 2 0 0:: .fn f [.agg tf] []::Bo true:: tZ (tZ (tZ (tZ (tZ (tZ (tZ ([])))))))),[⟨1,37,8,[zJ (w)],0⟩,⟨1,69,44,[zD (m)],0⟩,⟨1,37,8,[fx],0⟩,⟨1,69,44,[ft],0⟩,⟨1,48,23,[zR qz],0⟩,X,⟨1,69,44,[zD (m)],0⟩,⟨1,227,2,[tf],0⟩]++[Y]⟩ R):qU prog 0 (behind 4 ((f100.body).getD .skip)) ⟨(.za::.za::.ref 0 [] 8 0 0:: .ref 1 [] 44 0 0:: .ref 2 [] 8 0 0:: .ref 3 [] 44 0 0:: .ref 4 [] 23 0 0:: .ref 5 [] 8 0 0:: .ref 6 [] 44 0 0:: .ref 7 [] 2 0 0:: .za::.za::tZ (tZ (tZ (tZ (tZ (tZ (tZ ([])))))))),[⟨1,37,8,[zJ (w)],0⟩,⟨1,69,44,[zD (m)],0⟩,⟨1,37,8,[fx],0⟩,⟨1,69,44,[ft],0⟩,⟨1,48,23,[zR qz],0⟩,X,⟨1,69,44,[zD (m)],0⟩,⟨1,227,2,[tf],0⟩]++[Y]⟩ R:=by
 refine ij (uH ?_);intro b;refine dd ?_;refine jx.ql (id:=9) _ _ _ _ (.inr rfl) underlying230 underlying3 rfl rfl rfl rfl rfl ?_;intro v0;refine dd ?_;refine jx.ql (id:=9) _ _ _ _ (.inr rfl) underlying230 underlying3 rfl rfl rfl rfl rfl ?_;intro v1;refine dd ?_;refine jx.ql (id:=9) _ _ _ _ (.inr rfl) underlying230 underlying3 rfl rfl rfl rfl rfl ?_;intro v2;refine dd ?_;refine jx.ql (id:=9) _ _ _ _ (.inr rfl) underlying230 underlying3 rfl rfl rfl rfl rfl ?_;intro v3;refine dd ?_;refine jx.ql (id:=9) _ _ _ _ (.inr rfl) underlying230 underlying3 rfl rfl rfl rfl rfl ?_;intro v4;refine dd ?_;refine jx.ql (id:=9) _ _ _ _ (.inr rfl) underlying230 underlying3 rfl rfl rfl rfl rfl ?_;intro v5;refine dd ?_;refine jx.ql (id:=9) _ _ _ _ (.inr rfl) underlying230 underlying3 rfl rfl rfl rfl rfl ?_;intro v6;refine dd ?_;refine jx.ql (id:=9) _ _ _ _ (.inr rfl) underlying230 underlying3 rfl rfl rfl rfl rfl ?_;intro v8;refine dd ?_;refine jx.ql (id:=9) _ _ _ _ (.inr rfl) underlying230 underlying3 rfl rfl rfl rfl rfl ?_;intro v9;refine dd ?_;refine jx.ql (id:=9) _ _ _ _ (.inr rfl) underlying230 underlying3 rfl rfl rfl rfl rfl ?_;intro v10;refine dd ?_;(refine ⟨_,_,uw.Bg (id:=9) _ _ _ _ rfl underlying230 underlying3 rfl rfl rfl rfl rfl rfl (hf _ _ _ _ _ _ _ _ _ _) hc,?_⟩;(refine dd ?_))
 refine tc ?_
 refine .inl ⟨rfl,_,_,(zo.forget 9).trans (zo.xi 9 hU rfl rfl rfl hlow rfl),hn⟩
def SW (w:Wor) (m:uk) (X:Ob) (Y Z:Ob)(j f:Nat) (R:Exit->S->Prop) (hlow:qL 10 ([⟨1,37,8,[zJ (w)],0⟩,⟨1,69,44,[zD (m)],0⟩,⟨1,37,8,[fx],0⟩,⟨1,69,44,[ft],0⟩,⟨1,48,23,[zR qz],0⟩,X,⟨1,69,44,[zD (m)],0⟩,⟨1,227,2,[tf],0⟩]++[Y,Z])=true) (hf:∀ v0 v1 v2 v3 v4 v5 v6 v8 v9 v10,vb [(0,v0,0),(1,v1,1),(2,v2,2),(3,v3,3),(4,v4,4),(5,v5,5),(6,v6,6),(8,v8,7),(9,v9,8),(10,v10,9)] m.pc=some j) (hc:([.fn 124 [.agg tf] [],.fn 125 [.agg tf] [],.fn 126 [.agg tf] [],.fn 127 [.agg tf] [],.fn 128 [.agg tf] [],.fn 129 [.agg tf] [],.fn 130 [.agg tf] [],.fn 131 [.agg tf] [],.fn 132 [.agg tf] [],.fn 133 [.agg tf] []]:List C)[j]?= some (.fn f [.agg tf] []))
  (hn:qU prog 0 (behind 5 ((f100.body).getD .skip)) ⟨(.za::.za::.ref 0 [] 8 0 0:: .ref 1 [] 44 0 0:: .ref 2 [] 8 0 0:: .ref 3 [] 44 0 0:: .ref 4 [] 23 0 0:: .ref 5 [] 8 0 0:: .ref 6 [] 44 0 0:: .ref 7 [] 2 0 0:: .fn f [.agg tf] []::Bo true:: tZ (tZ (tZ (tZ (tZ (tZ (tZ ([])))))))),[⟨1,37,8,[zJ (w)],0⟩,⟨1,69,44,[zD (m)],0⟩,⟨1,37,8,[fx],0⟩,⟨1,69,44,[ft],0⟩,⟨1,48,23,[zR qz],0⟩,X,⟨1,69,44,[zD (m)],0⟩,⟨1,227,2,[tf],0⟩]++[Y,Z]⟩ R):qU prog 0 (behind 4 ((f100.body).getD .skip)) ⟨(.za::.za::.ref 0 [] 8 0 0:: .ref 1 [] 44 0 0:: .ref 2 [] 8 0 0:: .ref 3 [] 44 0 0:: .ref 4 [] 23 0 0:: .ref 5 [] 8 0 0:: .ref 6 [] 44 0 0:: .ref 7 [] 2 0 0:: .za::.za::tZ (tZ (tZ (tZ (tZ (tZ (tZ ([])))))))),[⟨1,37,8,[zJ (w)],0⟩,⟨1,69,44,[zD (m)],0⟩,⟨1,37,8,[fx],0⟩,⟨1,69,44,[ft],0⟩,⟨1,48,23,[zR qz],0⟩,X,⟨1,69,44,[zD (m)],0⟩,⟨1,227,2,[tf],0⟩]++[Y,Z]⟩ R:=by
 refine ij (uH ?_);intro b;refine dd ?_;refine jx.ql (id:=10) _ _ _ _ (.inr rfl) underlying230 underlying3 rfl rfl rfl rfl rfl ?_;intro v0;refine dd ?_;refine jx.ql (id:=10) _ _ _ _ (.inr rfl) underlying230 underlying3 rfl rfl rfl rfl rfl ?_;intro v1;refine dd ?_;refine jx.ql (id:=10) _ _ _ _ (.inr rfl) underlying230 underlying3 rfl rfl rfl rfl rfl ?_;intro v2;refine dd ?_;refine jx.ql (id:=10) _ _ _ _ (.inr rfl) underlying230 underlying3 rfl rfl rfl rfl rfl ?_;intro v3;refine dd ?_;refine jx.ql (id:=10) _ _ _ _ (.inr rfl) underlying230 underlying3 rfl rfl rfl rfl rfl ?_;intro v4;refine dd ?_;refine jx.ql (id:=10) _ _ _ _ (.inr rfl) underlying230 underlying3 rfl rfl rfl rfl rfl ?_;intro v5;refine dd ?_;refine jx.ql (id:=10) _ _ _ _ (.inr rfl) underlying230 underlying3 rfl rfl rfl rfl rfl ?_;intro v6;refine dd ?_;refine jx.ql (id:=10) _ _ _ _ (.inr rfl) underlying230 underlying3 rfl rfl rfl rfl rfl ?_;intro v8;refine dd ?_;refine jx.ql (id:=10) _ _ _ _ (.inr rfl) underlying230 underlying3 rfl rfl rfl rfl rfl ?_;intro v9;refine dd ?_;refine jx.ql (id:=10) _ _ _ _ (.inr rfl) underlying230 underlying3 rfl rfl rfl rfl rfl ?_;intro v10;refine dd ?_;(refine ⟨_,_,uw.Bg (id:=10) _ _ _ _ rfl underlying230 underlying3 rfl rfl rfl rfl rfl rfl (hf _ _ _ _ _ _ _ _ _ _) hc,?_⟩;(refine dd ?_))
 refine tc ?_
 refine .inl ⟨rfl,_,_,(zo.forget 10).trans (zo.xi 10 hU rfl rfl rfl hlow rfl),hn⟩
def jz {w w':Wor} {m m':uk} {e:uv} (sw:qV w) (ok:eR w) (hl:i64 m.listen) (hs:zY w m=true) (hm:tn 123 [] [Cw w,Cm m] (Bo true) []) (j f:Nat) (hcb:qm prog f=true) (hf:∀ v0 v1 v2 v3 v4 v5 v6 v8 v9 v10,vb [(0,v0,0),(1,v1,1),(2,v2,2),(3,v3,3),(4,v4,4),(5,v5,5),(6,v6,6),(8,v8,7),(9,v9,8),(10,v10,9)] m.pc=some j) (hc:([.fn 124 [.agg tf] [],.fn 125 [.agg tf] [],.fn 126 [.agg tf] [],.fn 127 [.agg tf] [],.fn 128 [.agg tf] [],.fn 129 [.agg tf] [],.fn 130 [.agg tf] [],.fn 131 [.agg tf] [],.fn 132 [.agg tf] [],.fn 133 [.agg tf] []]:List C)[j]?= some (.fn f [.agg tf] []))
  (h:tn f [⟨1,37,8,[zJ (w)],0⟩,⟨1,69,44,[zD (m)],0⟩] [.agg tj] (Ce e) [⟨1,37,8,[zJ (w')],0⟩,⟨1,69,44,[zD (m')],0⟩]):tn 100 [] [Cw w,Cm m] (.uo [Cw w',Cm m',Ce e]) []:=by
 refine zb.oK func100 rfl ?_;show qU prog 0 ((f100.body).getD .skip) _ _;refine ij (uH ?_);refine .inl ⟨rfl,_,_,.refl _,ij (uH ?_)⟩;refine ah (zO w m ok hl) ?_;refine ⟨fun _=>dd ?_,fun h=>absurd ((hs).symm.trans h:true=false) ar⟩;refine tc ?_
 refine ah hm ?_;refine tc ?_
 refine .inl ⟨rfl,_,_,.refl _,ij (uH ?_)⟩;refine .inr ⟨⟨[0,1,2],[0,1],true⟩,au,fun _=>rfl,fun t H=>t=(.za::.za::.ref 0 [] 8 0 0:: .ref 1 [] 44 0 0:: .ref 2 [] 8 0 0:: .ref 3 [] 44 0 0:: .ref 4 [] 23 0 0:: .ref 5 [] 8 0 0:: .ref 6 [] 44 0 0:: .za::.za::.za::tZ (tZ (tZ (tZ (tZ (tZ (tZ ([]))))))))∧H=[⟨1,37,8,[zJ (w)],0⟩,⟨1,69,44,[zD (m)],0⟩,⟨1,37,8,[fx],0⟩,⟨1,69,44,[ft],0⟩,⟨1,48,23,[zR qz],0⟩,⟨1,37,8,[zJ (w)],0⟩,⟨1,69,44,[zD (m)],0⟩],?_,?_⟩
 ·conv=>whnf
  refine ⟨_,ai [] (qt w sw),uH ?_⟩;repeat' (first | (exact trivial) | (refine ⟨rfl,uH ?_⟩) | (exact ⟨_,_,zo.ur [0,1,2,3,4,5,6] [2,3,4,5,6,7,8] _ _ rfl rfl rfl rfl,rfl,rfl⟩) | (exact ⟨_,_,zo.ur [0,1,2,3,4,6,5] [2,3,4,5,6,7,8] _ _ rfl rfl rfl rfl,rfl,rfl⟩) | (refine And.intro ?_ ?_ <;> (conv=>whnf)))
 rintro _ _ ⟨rfl,rfl⟩;conv=>whnf
 refine .inl ⟨rfl,_,_,.refl _,ij (uH ?_)⟩;refine .inl ⟨rfl,_,_,cE 8,SY w m (⟨1,37,8,[zJ (w)],0⟩) j f _ rfl hf hc ?_⟩;(refine jr (K:=fun ex t H=>(ex=.ret∨ex=.normal)∧∃ s2,zo 0 ⟨t,H⟩ s2∧(kc prog f100 s2).map (ye 0 9)=some (.uo [Cw w',Cm m',Ce e])) (uH ?_))
 rw [hcb];refine af [5,6] (h) ?_;refine .inl ⟨⟨false,[0,1,2],[5,6,8],[]⟩,au,uH ?_⟩;refine hZ ?_
 exact uI
def M5 {w:Wor} {m m':uk} {e:uv} {ls:List ec} (sw:qV w) (ok:eR w) (hl:i64 m.listen) (hs:zY w m=true) (hm:tn 123 [] [Cw w,Cm m] (Bo true) []) (j f:Nat) (hcb:qm prog f=true) (hf:∀ v0 v1 v2 v3 v4 v5 v6 v8 v9 v10,vb [(0,v0,0),(1,v1,1),(2,v2,2),(3,v3,3),(4,v4,4),(5,v5,5),(6,v6,6),(8,v8,7),(9,v9,8),(10,v10,9)] m.pc=some j) (hc:([.fn 124 [.agg tf] [],.fn 125 [.agg tf] [],.fn 126 [.agg tf] [],.fn 127 [.agg tf] [],.fn 128 [.agg tf] [],.fn 129 [.agg tf] [],.fn 130 [.agg tf] [],.fn 131 [.agg tf] [],.fn 132 [.agg tf] [],.fn 133 [.agg tf] []]:List C)[j]?= some (.fn f [.agg tf] []))
  (hne:w.zd≠[]) (hll:ls.length=w.zd.length) (h:tn f [⟨1,37,8,[[I w.zn,I w.current,I w.lock,lI w.pins,lV w.ze,.sl 2 [] 4 0 w.zd.length false,eh w.counts,lR w.zr]],0⟩,⟨1,69,44,[zD (m)],0⟩,⟨2,85,4,(w.zd).map qF,0⟩] [.agg tj] (Ce e) [⟨1,37,8,[[I w.zn,I w.current,I w.lock,lI w.pins,lV w.ze,.sl 2 [] 4 0 w.zd.length false,eh w.counts,lR w.zr]],0⟩,⟨1,69,44,[zD (m')],0⟩,⟨2,85,4,(ls).map qF,0⟩]):tn 100 [] [Cw w,Cm m] (.uo [Cw { w with zd:=ls },Cm m',Ce e]) []:=by
 obtain ⟨x,l,hx⟩:=se hne;refine zb.oK func100 rfl ?_;show qU prog 0 ((f100.body).getD .skip) _ _;refine ij (uH ?_);refine .inl ⟨rfl,_,_,.refl _,ij (uH ?_)⟩;refine ah (zO w m ok hl) ?_;refine ⟨fun _=>dd ?_,fun h=>absurd ((hs).symm.trans h:true=false) ar⟩;refine tc ?_
 refine ah hm ?_;refine tc ?_
 refine .inl ⟨rfl,_,_,.refl _,ij (uH ?_)⟩;refine .inr ⟨⟨[0,2],[0,1],true⟩,au,fun _=>rfl,fun t H=>t=(.za::.za::.ref 0 [] 8 0 0:: .ref 1 [] 44 0 0:: .ref 2 [] 8 0 0:: .ref 3 [] 44 0 0:: .ref 4 [] 23 0 0:: .ref 5 [] 8 0 0:: .ref 6 [] 44 0 0:: .za::.za::.za::tZ (tZ (tZ (tZ (tZ (tZ (tZ ([]))))))))∧H=[⟨1,37,8,[zJ (w)],0⟩,⟨1,69,44,[zD (m)],0⟩,⟨1,37,8,[fx],0⟩,⟨1,69,44,[ft],0⟩,⟨1,48,23,[zR qz],0⟩,⟨1,37,8,[[I w.zn,I w.current,I w.lock,lI w.pins,lV w.ze,.sl 7 [] 4 0 w.zd.length false,eh w.counts,lR w.zr]],0⟩,⟨1,69,44,[zD (m)],0⟩,⟨2,85,4,(w.zd).map qF,0⟩],?_,?_⟩
 ·conv=>whnf
  repeat' (first | (exact trivial) | (refine ⟨rfl,uH ?_⟩) | (refine zq [] (yQ w sw x l hx) rfl rfl rfl rfl rfl rfl (uH ?_)) | (exact ⟨_,_,zo.ur [0,1,2,3,4,5,6,7] [2,3,4,5,6,7,8] _ _ rfl rfl rfl rfl,rfl,rfl⟩) | (exact ⟨_,_,zo.ur [0,1,2,3,4,5,7,6] [2,3,4,5,6,7,8] _ _ rfl rfl rfl rfl,rfl,rfl⟩) | (exact ⟨_,_,zo.ur [0,1,2,3,4,6,5,7] [2,3,4,5,6,7,8] _ _ rfl rfl rfl rfl,rfl,rfl⟩) | (exact ⟨_,_,zo.ur [0,1,2,3,4,6,7,5] [2,3,4,5,6,7,8] _ _ rfl rfl rfl rfl,rfl,rfl⟩) | (exact ⟨_,_,zo.ur [0,1,2,3,4,7,5,6] [2,3,4,5,6,7,8] _ _ rfl rfl rfl rfl,rfl,rfl⟩) | (exact ⟨_,_,zo.ur [0,1,2,3,4,7,6,5] [2,3,4,5,6,7,8] _ _ rfl rfl rfl rfl,rfl,rfl⟩) | (refine And.intro ?_ ?_ <;> (conv=>whnf)))
 rintro _ _ ⟨rfl,rfl⟩;conv=>whnf
 refine .inl ⟨rfl,_,_,.refl _,ij (uH ?_)⟩;refine .inl ⟨rfl,_,_,(zo.ur [0,1,2,3,4,5,6,8,7] [2,3,4,5,6,7,8,9] _ _ rfl rfl rfl rfl).trans (cC),SX w m (⟨1,37,8,[[I w.zn,I w.current,I w.lock,lI w.pins,lV w.ze,.sl 8 [] 4 0 w.zd.length false,eh w.counts,lR w.zr]],0⟩) (⟨2,85,4,(w.zd).map qF,0⟩) j f _ rfl hf hc ?_⟩;(refine jr (K:=fun ex t H=>(ex=.ret∨ex=.normal)∧∃ s2,zo 0 ⟨t,H⟩ s2∧(kc prog f100 s2).map (ye 0 9)=some (.uo [Cw { w with zd:=ls },Cm m',Ce e])) (uH ?_))
 rw [hcb];refine af [5,6,8] (h) ?_;refine .inl ⟨⟨false,[0,1,2],[5,6,9],[]⟩,au,uH ?_⟩;refine hZ ?_
 exact dt
def MX (w:Wor) (h:qV w) (x:u7) (l:List u7) (hx:w.zr=x::l):tn 114 [] [Cw w] (.agg [I w.zn,I w.current,I w.lock,lI w.pins,.sl 0 [] 5 0 w.ze.length false,lL w.zd,eh w.counts,.sl 1 [] 3 0 w.zr.length false]) [⟨2,107,5,(w.ze).map zF,0⟩,⟨2,101,3,(w.zr).map xd,0⟩]:=by
 have hl:l.length < 1000000000:=by have:=h.zr;rw [hx] at this;exact cN
 have hc:=JJ x l hl;rw [<- hx] at hc;refine oP (fn:=f114) func114 rfl (uH ?_);refine ah (yP w.pins h.pins) ?_;refine af [] (wh w.ze h.ze.1 fun v hv=>jB v (h.ze.2 v hv)) ?_;refine ah (vE w.zd h.zd) ?_;refine af [] (wg w.counts h.counts.1 fun r hr=>xP r (h.counts.2 r hr)) ?_;refine af [] (hc) ?_;refine ⟨.inl rfl,_,_,zo.zU 1 0 6 rfl rfl rfl rfl (.inr rfl) rfl aj (shut_map (enc:=zN) (fun _=>rfl) w.counts) (zZ rfl),rfl,?_⟩;exact zo.ur [3,5] [0] _ _ rfl rfl rfl (zc rfl (zc rfl (zc rfl (zc rfl (zc (zi fun r hr c hc=>((shut_map (enc:=zN) (fun _=>rfl) w.counts) r hr c hc).2) rfl)))))
def M4 {w:Wor} {m m':uk} {e:uv} {vs:List uq} {rs:List u7} (sw:qV w) (ok:eR w) (hl:i64 m.listen) (hs:zY w m=true) (hm:tn 123 [] [Cw w,Cm m] (Bo true) []) (j f:Nat) (hcb:qm prog f=true) (hf:∀ v0 v1 v2 v3 v4 v5 v6 v8 v9 v10,vb [(0,v0,0),(1,v1,1),(2,v2,2),(3,v3,3),(4,v4,4),(5,v5,5),(6,v6,6),(8,v8,7),(9,v9,8),(10,v10,9)] m.pc=some j) (hc:([.fn 124 [.agg tf] [],.fn 125 [.agg tf] [],.fn 126 [.agg tf] [],.fn 127 [.agg tf] [],.fn 128 [.agg tf] [],.fn 129 [.agg tf] [],.fn 130 [.agg tf] [],.fn 131 [.agg tf] [],.fn 132 [.agg tf] [],.fn 133 [.agg tf] []]:List C)[j]?= some (.fn f [.agg tf] []))
  (hne:w.ze≠[]) (hne2:w.zr≠[]) (hvl:vs.length=w.ze.length) (hrl:rs.length=w.zr.length) (h:tn f [⟨1,37,8,[[I w.zn,I w.current,I w.lock,lI w.pins,.sl 2 [] 5 0 w.ze.length false,lL w.zd,eh w.counts,.sl 3 [] 3 0 w.zr.length false]],0⟩,⟨1,69,44,[zD (m)],0⟩,⟨2,107,5,(w.ze).map zF,0⟩,⟨2,101,3,(w.zr).map xd,0⟩] [.agg tj] (Ce e) [⟨1,37,8,[[I w.zn,I w.current,I w.lock,lI w.pins,.sl 2 [] 5 0 w.ze.length false,lL w.zd,eh w.counts,.sl 3 [] 3 0 w.zr.length false]],0⟩,⟨1,69,44,[zD (m')],0⟩,⟨2,107,5,(vs).map zF,0⟩,⟨2,101,3,(rs).map xd,0⟩]):tn 100 [] [Cw w,Cm m] (.uo [Cw { w with ze:=vs,zr:=rs },Cm m',Ce e]) []:=by
 obtain ⟨v,vl,hv⟩:=se hne;obtain ⟨r,rl,hr⟩:=se hne2;refine zb.oK func100 rfl ?_;show qU prog 0 ((f100.body).getD .skip) _ _;refine ij (uH ?_);refine .inl ⟨rfl,_,_,.refl _,ij (uH ?_)⟩;refine ah (zO w m ok hl) ?_;refine ⟨fun _=>dd ?_,fun h=>absurd ((hs).symm.trans h:true=false) ar⟩;refine tc ?_
 refine ah hm ?_;refine tc ?_
 refine .inl ⟨rfl,_,_,.refl _,ij (uH ?_)⟩;refine .inr ⟨⟨[0,2],[0,1],true⟩,au,fun _=>rfl,fun t H=>t=(.za::.za::.ref 0 [] 8 0 0:: .ref 1 [] 44 0 0:: .ref 2 [] 8 0 0:: .ref 3 [] 44 0 0:: .ref 4 [] 23 0 0:: .ref 5 [] 8 0 0:: .ref 6 [] 44 0 0:: .za::.za::.za::tZ (tZ (tZ (tZ (tZ (tZ (tZ ([]))))))))∧H=[⟨1,37,8,[zJ (w)],0⟩,⟨1,69,44,[zD (m)],0⟩,⟨1,37,8,[fx],0⟩,⟨1,69,44,[ft],0⟩,⟨1,48,23,[zR qz],0⟩,⟨1,37,8,[[I w.zn,I w.current,I w.lock,lI w.pins,.sl 7 [] 5 0 w.ze.length false,lL w.zd,eh w.counts,.sl 8 [] 3 0 w.zr.length false]],0⟩,⟨1,69,44,[zD (m)],0⟩,⟨2,107,5,(w.ze).map zF,0⟩,⟨2,101,3,(w.zr).map xd,0⟩],?_,?_⟩
 ·conv=>whnf
  repeat' (first | (exact trivial) | (refine ⟨rfl,uH ?_⟩) | (refine zq [] (MX w sw r rl hr) rfl rfl rfl rfl rfl rfl (uH ?_)) | (exact ⟨_,_,zo.ur [0,1,2,3,4,5,6,7,8] [2,3,4,5,6,7,8] _ _ rfl rfl rfl rfl,rfl,rfl⟩) | (exact ⟨_,_,zo.ur [0,1,2,3,4,5,6,8,7] [2,3,4,5,6,7,8] _ _ rfl rfl rfl rfl,rfl,rfl⟩) | (exact ⟨_,_,zo.ur [0,1,2,3,4,5,7,6,8] [2,3,4,5,6,7,8] _ _ rfl rfl rfl rfl,rfl,rfl⟩) | (exact ⟨_,_,zo.ur [0,1,2,3,4,5,7,8,6] [2,3,4,5,6,7,8] _ _ rfl rfl rfl rfl,rfl,rfl⟩) | (exact ⟨_,_,zo.ur [0,1,2,3,4,5,8,6,7] [2,3,4,5,6,7,8] _ _ rfl rfl rfl rfl,rfl,rfl⟩) | (exact ⟨_,_,zo.ur [0,1,2,3,4,5,8,7,6] [2,3,4,5,6,7,8] _ _ rfl rfl rfl rfl,rfl,rfl⟩) | (exact ⟨_,_,zo.ur [0,1,2,3,4,6,5,7,8] [2,3,4,5,6,7,8] _ _ rfl rfl rfl rfl,rfl,rfl⟩) | (exact ⟨_,_,zo.ur [0,1,2,3,4,6,5,8,7] [2,3,4,5,6,7,8] _ _ rfl rfl rfl rfl,rfl,rfl⟩) | (exact ⟨_,_,zo.ur [0,1,2,3,4,6,7,5,8] [2,3,4,5,6,7,8] _ _ rfl rfl rfl rfl,rfl,rfl⟩) | (exact ⟨_,_,zo.ur [0,1,2,3,4,6,7,8,5] [2,3,4,5,6,7,8] _ _ rfl rfl rfl rfl,rfl,rfl⟩) | (exact ⟨_,_,zo.ur [0,1,2,3,4,6,8,5,7] [2,3,4,5,6,7,8] _ _ rfl rfl rfl rfl,rfl,rfl⟩) | (exact ⟨_,_,zo.ur [0,1,2,3,4,6,8,7,5] [2,3,4,5,6,7,8] _ _ rfl rfl rfl rfl,rfl,rfl⟩) | (exact ⟨_,_,zo.ur [0,1,2,3,4,7,5,6,8] [2,3,4,5,6,7,8] _ _ rfl rfl rfl rfl,rfl,rfl⟩) | (exact ⟨_,_,zo.ur [0,1,2,3,4,7,5,8,6] [2,3,4,5,6,7,8] _ _ rfl rfl rfl rfl,rfl,rfl⟩) | (exact ⟨_,_,zo.ur [0,1,2,3,4,7,6,5,8] [2,3,4,5,6,7,8] _ _ rfl rfl rfl rfl,rfl,rfl⟩) | (exact ⟨_,_,zo.ur [0,1,2,3,4,7,6,8,5] [2,3,4,5,6,7,8] _ _ rfl rfl rfl rfl,rfl,rfl⟩) | (exact ⟨_,_,zo.ur [0,1,2,3,4,7,8,5,6] [2,3,4,5,6,7,8] _ _ rfl rfl rfl rfl,rfl,rfl⟩) | (exact ⟨_,_,zo.ur [0,1,2,3,4,7,8,6,5] [2,3,4,5,6,7,8] _ _ rfl rfl rfl rfl,rfl,rfl⟩) | (exact ⟨_,_,zo.ur [0,1,2,3,4,8,5,6,7] [2,3,4,5,6,7,8] _ _ rfl rfl rfl rfl,rfl,rfl⟩) | (exact ⟨_,_,zo.ur [0,1,2,3,4,8,5,7,6] [2,3,4,5,6,7,8] _ _ rfl rfl rfl rfl,rfl,rfl⟩) | (exact ⟨_,_,zo.ur [0,1,2,3,4,8,6,5,7] [2,3,4,5,6,7,8] _ _ rfl rfl rfl rfl,rfl,rfl⟩) | (exact ⟨_,_,zo.ur [0,1,2,3,4,8,6,7,5] [2,3,4,5,6,7,8] _ _ rfl rfl rfl rfl,rfl,rfl⟩) | (exact ⟨_,_,zo.ur [0,1,2,3,4,8,7,5,6] [2,3,4,5,6,7,8] _ _ rfl rfl rfl rfl,rfl,rfl⟩) | (exact ⟨_,_,zo.ur [0,1,2,3,4,8,7,6,5] [2,3,4,5,6,7,8] _ _ rfl rfl rfl rfl,rfl,rfl⟩) | (refine And.intro ?_ ?_ <;> (conv=>whnf)))
 rintro _ _ ⟨rfl,rfl⟩;conv=>whnf
 refine .inl ⟨rfl,_,_,.refl _,ij (uH ?_)⟩;refine .inl ⟨rfl,_,_,(zo.ur [0,1,2,3,4,5,6,9,7,8] [2,3,4,5,6,7,8,9] _ _ rfl rfl rfl rfl).trans (cC),SW w m (⟨1,37,8,[[I w.zn,I w.current,I w.lock,lI w.pins,.sl 8 [] 5 0 w.ze.length false,lL w.zd,eh w.counts,.sl 9 [] 3 0 w.zr.length false]],0⟩) (⟨2,107,5,(w.ze).map zF,0⟩) (⟨2,101,3,(w.zr).map xd,0⟩) j f _ rfl hf hc ?_⟩;(refine jr (K:=fun ex t H=>(ex=.ret∨ex=.normal)∧∃ s2,zo 0 ⟨t,H⟩ s2∧(kc prog f100 s2).map (ye 0 9)=some (.uo [Cw { w with ze:=vs,zr:=rs },Cm m',Ce e])) (uH ?_))
 rw [hcb];refine af [5,6,8,9] (h) ?_;refine .inl ⟨⟨false,[0,1,2],[5,6,10],[]⟩,au,uH ?_⟩;refine hZ ?_
 exact ⟨.inl rfl,_,(zo.zU 2 0 4 rfl rfl rfl rfl (.inr rfl) aj (by rw [dP];exact hvl.symm) (shut_map (enc:=zF) (fun _=>rfl) _) (zZ rfl)).trans (zo.zU 2 0 7 rfl rfl rfl rfl (.inr rfl) aj (by rw [dP];exact hrl.symm) (shut_map (enc:=xd) (fun _=>rfl) _) (zZ rfl)),rfl⟩
end Go.Wor
