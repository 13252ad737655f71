import Derived.Test.YtkbnjgogjccmfaaGreatTV
import Derived.Test.YtkbnjgogjccmfaaGreatTW
set_option linter.all false
set_option maxRecDepth 100000
set_option maxHeartbeats 4000000
namespace Go.Wor
open Go.Ab Go.Proofs Tryz Go.Hy Go.Gat Go.Nam Go.Hos Go.Con Go.Sna
def OI (l:List eE) (s:u4) (hl:l.length < 4611686018427387904):
  tn 59 [⟨2,85,4,(l).map qH,0⟩,⟨1,9,1,[[Tx s]],0⟩] [.sl 0 [] 4 0 l.length false,.fn 60 [] [.ref 1 [] 1 0 0]] (I (zS l s)) [⟨2,85,4,(l).map qH,0⟩,⟨1,9,1,[[Tx s]],0⟩]:=by
 refine aa func59 ?_;refine zZ.seq l.length (fun k=>(.sl 0 [] 4 0 l.length false::.fn 60 [] [.ref 1 [] 1 0 0]::.za::.za::I 0::.za::.za::I l.length::I k::tZ ([.za,.za]))) (fun k=>[⟨2,85,4,(l).map qH,0⟩,⟨1,9,1,[[Tx s]],0⟩]) (fun k=>∀ j,(h:j < l.length)->j < k->(l[j].name == s)=false) ?_ aj (fun k hk hr=>?_) (fun hr=>?_)
 ·exact cC
 ·have hg:(l.map qH)[k]?= some (qH l[k]):=by rw [dP,dM hk];rfl
  have e1:0+(k:Int).toNat=k:=aj
  conv=>whnf
  refine uF ?_;refine ⟨aw,aq hk,dd ?_⟩;rw [e1];refine ⟨_,hg,(by show 0+4<=4;decide),dd ?_⟩;refine af [1] (J1 s l[k]) ?_;refine ⟨fun h2=>?_,fun h2=>?_⟩
  ·refine dd ?_;refine .inr ⟨aj,uH ?_⟩
   have e:zS l s=k:=by
    unfold zS
    have:l.findIdx? (fun x=>x.name == s)=some k:=by
     exact dD
    rw [this]
   rw [e];exact cI
  ·refine dd ?_;refine .inl ⟨rfl,?_,fun j hj hjk=>?_⟩
   ·rw [zu aw];exact cE 2
   ·by_cases e:j=k
    ·subst e;exact h2
    ·exact hr j hj aw
 ·refine uD ?_
  have e:zS l s= -1:=by
   unfold zS
   have:l.findIdx? (fun x=>x.name == s)=none:=by
    rw [gC];intro x hx;obtain ⟨j,hj,rfl⟩:=pa.1 hx;exact hr j hj hj
   rw [this]
  rw [e];exact cI
def N9 (l:List eE) (s:u4) (hl:l.length < 4611686018427387904):tn 34 [⟨2,85,4,(l).map qH,0⟩] [.sl 0 [] 4 0 l.length false,Tx s] (I (zS l s)) [⟨2,85,4,(l).map qH,0⟩]:=by
 refine aa func34 ?_;refine af [0,1] (OI l s hl) ?_;exact dz
def IA (m:uw) (e:uz) (a:ef):tn 121 [⟨1,69,44,[zD (m)],0⟩,⟨1,223,24,[.ref 0 [] 44 0 0::zR (e)],0⟩] [.ref 1 [] 24 0 0,.agg (xz a)] (.u1 []) [⟨1,69,44,[zD ({ m with done:=true,answer:=a })],0⟩,⟨1,223,24,[.ref 0 [] 44 0 0::zR ({ e with done:=true,answer:=a })],0⟩]:=by
 refine aa func121 ?_;refine .inl ⟨⟨false,[3,7,8],[1,2],[]⟩,au,uH ?_⟩;refine hZ ?_
 refine .inl ⟨⟨false,[2],[2],[]⟩,au,uH ?_⟩;refine hZ ?_
 exact ⟨.inr rfl,_,_,.refl _,rfl,cE 2⟩
abbrev EB (m:uw):uz:={ qA with zf:=m.zf,access:=1,version:= -1 }
def NO (w:Wor) (m:uw) (sw:qX w) (ok:fe w) (hl:i64 m.listen) (hpc:m.pc=0) (hs:zY w m=true) (hi:zS w.zd m.op.listen < 0):
  tn 99 [] [Cw w,Cm m] (.u1 [Cw w,Cm { m with done:=true,answer:=iA 7 },Ce { EB m with done:=true,answer:=iA 7 }]) []:=by
 refine ab func99 ?_;refine ⟨fun h=>absurd h (by simp [hpc]),fun _=>dd ?_⟩;refine ah (zO w m ok hl) ?_;refine ⟨fun _=>dd ?_,fun h=>absurd ((hs).symm.trans h:true=false) ar⟩;refine tc ?_
 refine ah (qw w sw) ?_;refine ah (wS w.zd m.op.listen (by have:=ok.zd.1;omega)) ?_;refine ⟨fun _=>dd ?_,fun h=>absurd h (aq hi)⟩;refine af [1,5] (IA m (EB m) (iA 7)) ?_;refine .inl ⟨⟨false,[0,1,5],[0,1,5],[]⟩,au,uH ?_⟩;refine hZ ?_
 exact uI
abbrev Hz (m:uw):uz:={ qA with zf:=m.zf,access:=2,cell:=4,version:= -1,value:=1,qR:=true }
def NB (w:Wor) (m:uw) (x:eE) (sw:qX w) (ok:fe w) (hl:i64 m.listen) (hpc:m.pc=0) (hs:zY w m=true) (hi:0<=zS w.zd m.op.listen) (hx:w.zd[(zS w.zd m.op.listen).toNat]?= some x):
  tn 99 [] [Cw w,Cm m] (.u1 [Cw { w with zd:=w.zd.set (zS w.zd m.op.listen).toNat (Go.Gat.wX x) },Cm { m with listen:=zS w.zd m.op.listen,done:=true,answer:=⟨10,0,0,0,0,zS w.zd m.op.listen,0,⟨0,0,0,0,0,0⟩⟩ },Ce { Hz m with done:=true,answer:=⟨10,0,0,0,0,zS w.zd m.op.listen,0,⟨0,0,0,0,0,0⟩⟩ }]) []:=by
 generalize hp:zS w.zd m.op.listen=p at hi hx;have lt:p.toNat < w.zd.length:=(dL.1 hx).1;have gl:(w.zd.map qH)[p.toNat]?= some (qH x):=by rw [dP,hx];rfl
 have hst:(w.zd.map qH).set p.toNat [Tx (Go.Gat.wX x).name,Bo (Go.Gat.wX x).drain,I (Go.Gat.wX x).zg,Bo (Go.Gat.wX x).closed]=(w.zd.set p.toNat (Go.Gat.wX x)).map qH:=bR
 have e1:0+p.toNat=p.toNat:=gp _
 obtain ⟨y,l,hy⟩:∃ y l,w.zd=y::l:=by
  cases h:w.zd with
  | nil=>rw [h] at lt;simp at lt
  | cons y l=>exact ⟨y,l,rfl⟩
 have hpl:=N9 w.zd m.op.listen (by have:=ok.zd.1;omega);rw [hp] at hpl;refine ab func99 ?_;refine ⟨fun h=>absurd h (by simp [hpc]),fun _=>dd ?_⟩;refine ah (zO w m ok hl) ?_;refine ⟨fun _=>dd ?_,fun h=>absurd ((hs).symm.trans h:true=false) ar⟩;refine tc ?_
 refine af [] (va w sw y l hy) ?_;refine af [5] (hpl) ?_;refine ⟨fun h=>absurd h aA,fun _=>dd ?_⟩;refine .inl ⟨⟨true,[1,4],[0],[8]⟩,au,uH ?_⟩;refine hZ ?_
 refine ⟨hi,lt,dd ?_⟩;rw [e1];refine ⟨_,gl,(by show 0+4<=4;decide),dd ?_⟩;refine ah (Go.Gat.Oz x) ?_;refine ⟨hi,lt,dd ?_⟩;rw [e1];refine ⟨_,gl,rfl,dd ?_⟩;refine hZ ?_
 rw [hst];refine af [1,6] (IA { m with listen:=p } (Hz m) ⟨10,0,0,0,0,p,0,⟨0,0,0,0,0,0⟩⟩) ?_;refine .inl ⟨⟨false,[0,1,5],[0,1,6],[]⟩,au,uH ?_⟩;refine hZ ?_
 exact ⟨.inl rfl,_,zo.zV 2 0 5 rfl rfl rfl rfl (.inr rfl) aj aj (shut_map (enc:=qH) (fun _=>rfl) _) (z5 rfl),rfl⟩
abbrev fD (m:uw) (p i:Int):uw:={ m with pc:=p,i:=i }
def qD (m:uw) (a b c:Int):tn 167 [⟨1,69,44,[zD (m)],0⟩] [.agg [.za,.ref 0 [] 44 0 0],I a,I b,I c] (Ce (ez m a b c)) [⟨1,69,44,[zD (m)],0⟩]:=by
 refine aa func167 ?_;refine hZ ?_;exact dz
def xm (m:uw) (p i:Int):tn 168 [⟨1,69,44,[zD (m)],0⟩] [.agg [.za,.ref 0 [] 44 0 0],I p,I i] (.u1 []) [⟨1,69,44,[zD ({ m with pc:=p,i:=i })],0⟩]:=by
 refine aa func168 ?_;refine .inl ⟨⟨false,[1,3],[1],[]⟩,au,uH ?_⟩;refine hZ ?_
 exact ⟨.inr rfl,_,_,.refl _,rfl,cE 1⟩
def Iw (m:uw) (e:uz) (a:ef):tn 166 [⟨1,69,44,[zD (m)],0⟩] [.agg [.za,.ref 0 [] 44 0 0],Ce e,.agg (xz a)] (Ce { e with done:=true,answer:=a }) [⟨1,69,44,[zD ({ m with done:=true,answer:=a })],0⟩]:=by
 refine aa func166 ?_;refine .inl ⟨⟨false,[1,3,4],[1,3],[]⟩,au,uH ?_⟩;refine hZ ?_
 refine .inl ⟨⟨false,[0],[3],[]⟩,au,uH ?_⟩;refine hZ ?_
 refine hZ ?_;exact dz
def Nq (w:Wor) (m:uw):tn 125 [⟨1,37,8,[zJ (w)],0⟩,⟨1,69,44,[zD (m)],0⟩] [.agg tj] (Ce (ez m 1 1 w.zn)) [⟨1,37,8,[zJ (w)],0⟩,⟨1,69,44,[zD ({ m with zn:=w.zn,pc:=2,i:=0 })],0⟩]:=by
 refine aa func125 ?_;refine .inl ⟨⟨false,[1,3,6],[0,2],[]⟩,au,uH ?_⟩;refine hZ ?_
 refine af [1] (xm { m with zn:=w.zn } 2 0) ?_;refine .inl ⟨⟨true,[],[],[]⟩,au,uH ?_⟩;refine af [1] (qD { m with zn:=w.zn,pc:=2,i:=0 } 1 1 w.zn) ?_;exact cQ
def N7 (w:Wor) (m:uw) (h:w.lock≠0):tn 124 [⟨1,37,8,[zJ (w)],0⟩,⟨1,69,44,[zD (m)],0⟩] [.agg tj] (Ce { ez m 5 14 1 with done:=true,answer:=iA 12 }) [⟨1,37,8,[zJ (w)],0⟩,⟨1,69,44,[zD ({ m with done:=true,answer:=iA 12 })],0⟩]:=by
 refine aa func124 ?_;refine ⟨fun _=>dd ?_,fun hh=>absurd hh (aq h)⟩;refine .inl ⟨⟨true,[0,1],[2],[2]⟩,au,uH ?_⟩;refine af [1] (qD m 5 14 1) ?_;refine hZ ?_
 refine af [1] (Iw m (ez m 5 14 1) (iA 12)) ?_;exact cQ
def NX (w:Wor) (m:uw) (h:w.lock=0):tn 124 [⟨1,37,8,[zJ (w)],0⟩,⟨1,69,44,[zD (m)],0⟩] [.agg tj] (Ce (ez m 4 14 1)) [⟨1,37,8,[zJ ({ w with lock:=1 })],0⟩,⟨1,69,44,[zD ({ m with pc:=1 })],0⟩]:=by
 refine aa func124 ?_;refine ⟨fun hh=>absurd hh aH,fun _=>dd ?_⟩;refine .inl ⟨⟨false,[1,3],[2],[]⟩,au,uH ?_⟩;refine hZ ?_
 refine af [1] (qD { m with pc:=1 } 4 14 1) ?_;exact cQ
def nR (w:Wor) (m:uw) (p:Int):uw:=if p≠0∧p≠IntKind.i64.wrap (m.zn+1) then fD m 4 0 else if IntKind.i64.wrap (m.i+1) < w.pins.length then { m with i:=IntKind.i64.wrap (m.i+1) } else fD m 3 (IntKind.i64.wrap (m.i+1))
def NW (w:Wor) (m:uw) (p:Int) (h0:0<=m.i) (hp:w.pins[m.i.toNat]?= some p):tn 126 [⟨1,37,8,[zJ (w)],0⟩,⟨1,69,44,[zD (m)],0⟩] [.agg tj] (Ce (ez m 1 2 p)) [⟨1,37,8,[zJ (w)],0⟩,⟨1,69,44,[zD (nR w m p)],0⟩]:=by
 have hg:(w.pins.map encI)[m.i.toNat]?= some (encI p):=by rw [dP,hp];rfl
 have ml:(w.pins.map encI).length=w.pins.length:=dR ..;refine aa func126 ?_;refine uE ?_;(refine ⟨h0,_,hg,dd ?_⟩)
 refine ⟨fun q1=>?_,fun q1=>?_⟩
 ·refine dd ?_;refine ⟨fun q2=>?_,fun q2=>?_⟩
  ·rw [show nR w m p=fD m 4 0 from dQ ⟨aq q1,aq q2⟩];refine dd ?_;refine tc ?_
   refine af [1] (xm m 4 0) ?_;refine af [1] (qD (fD m 4 0) 1 2 p) ?_;exact cQ
  ·have q:¬(p≠0∧p≠IntKind.i64.wrap (m.zn+1)):=fun hh=>hh.2 (aq q2)
   refine dd ?_;refine tc ?_
   (rw [show nR w m p=_ from dN q]);refine uE ?_;(rw [ml]);refine ⟨fun q3=>?_,fun q3=>?_⟩;(focus ((rw [dQ (aq q3)]);refine dd ?_;refine af [1] (qD { m with i:=IntKind.i64.wrap (m.i+1) } 1 2 p) ?_;refine hZ ?_;exact ⟨.inl rfl,_,_,.refl _,rfl,cE 2⟩));(rw [dN (aq q3)]);refine dd ?_;refine .inl ⟨⟨true,[],[],[]⟩,au,uH ?_⟩;refine af [1] (xm m 3 (IntKind.i64.wrap (m.i+1))) ?_;refine hZ ?_;refine af [1] (qD (fD m 3 (IntKind.i64.wrap (m.i+1))) 1 2 p) ?_;exact cQ
 ·have q:¬(p≠0∧p≠IntKind.i64.wrap (m.zn+1)):=fun hh=>hh.1 (aq q1)
  refine dd ?_;refine tc ?_
  (rw [show nR w m p=_ from dN q]);refine uE ?_;(rw [ml]);refine ⟨fun q3=>?_,fun q3=>?_⟩;(focus ((rw [dQ (aq q3)]);refine dd ?_;refine af [1] (qD { m with i:=IntKind.i64.wrap (m.i+1) } 1 2 p) ?_;refine hZ ?_;exact ⟨.inl rfl,_,_,.refl _,rfl,cE 2⟩));(rw [dN (aq q3)]);refine dd ?_;refine .inl ⟨⟨true,[],[],[]⟩,au,uH ?_⟩;refine af [1] (xm m 3 (IntKind.i64.wrap (m.i+1))) ?_;refine hZ ?_;refine af [1] (qD (fD m 3 (IntKind.i64.wrap (m.i+1))) 1 2 p) ?_;exact cQ
def Ng (w:Wor) (m:uw) (h:¬(w.zn=m.zn∧w.zn < 1000000000000)):tn 127 [⟨1,37,8,[zJ (w)],0⟩,⟨1,69,44,[zD (m)],0⟩] [.agg tj] (Ce (ez m 5 1 w.zn)) [⟨1,37,8,[zJ (w)],0⟩,⟨1,69,44,[zD (fD m 4 0)],0⟩]:=by
 refine aa func127 ?_;refine uE ?_;refine ⟨fun q1=>?_,fun q1=>?_⟩
 ·refine dd ?_;refine ⟨fun q2=>?_,fun q2=>?_⟩
  ·exact absurd ⟨aq q1,aq q2⟩ h
  ·refine dd ?_;refine tc ?_
   refine af [1] (xm m 4 0) ?_;refine .inl ⟨⟨true,[],[],[]⟩,au,uH ?_⟩;refine af [1] (qD (fD m 4 0) 5 1 w.zn) ?_;exact cQ
 ·refine dd ?_;refine tc ?_
  refine af [1] (xm m 4 0) ?_;refine .inl ⟨⟨true,[],[],[]⟩,au,uH ?_⟩;refine af [1] (qD (fD m 4 0) 5 1 w.zn) ?_;exact cQ
def M6 (w:Wor) (m:uw) (h1:w.zn=m.zn) (h2:w.zn < 1000000000000):tn 127 [⟨1,37,8,[zJ (w)],0⟩,⟨1,69,44,[zD (m)],0⟩] [.agg tj] (Ce (ez m 4 1 (IntKind.i64.wrap (w.zn+1)))) [⟨1,37,8,[zJ ({ w with zn:=IntKind.i64.wrap (w.zn+1) })],0⟩,⟨1,69,44,[zD ({ fD m 4 0 with zn:=IntKind.i64.wrap (w.zn+1) })],0⟩]:=by
 refine aa func127 ?_;refine uE ?_;refine ⟨fun _=>dd ?_,fun hh=>absurd hh tG⟩;refine ⟨fun _=>dd ?_,fun hh=>absurd hh aA⟩;refine tc ?_
 refine .inl ⟨⟨false,[1,3,6],[0,2],[]⟩,au,uH ?_⟩;refine hZ ?_
 refine af [1] (xm { m with zn:=IntKind.i64.wrap (w.zn+1) } 4 0) ?_;refine .inl ⟨⟨true,[],[],[]⟩,au,uH ?_⟩;refine af [1] (qD { fD m 4 0 with zn:=IntKind.i64.wrap (w.zn+1) } 4 1 (IntKind.i64.wrap (w.zn+1))) ?_;exact cQ
def yo (v:u3):List En:=v.zm.flatMap (·.ends)
structure CJ (v:u3):Prop where
 zm:v.zm.length<=1000
 ends : ∀ g ∈ v.zm, g.ends.length <= 1000
def KF:∀ (l:List Gr),(∀ g ∈ l,g.ends.length<=1000)->(l.flatMap (·.ends)).length<=l.length * 1000
 | [],_=>by simp
 | g::l,h=>by
  have:=KF l fun x hx=>h x (pj _ hx)
  have:=h g (pz ..);simp only [ud,gR,pV];omega
def IC (v:u3) (h:CJ v):tn 170 [] [Cv v] (lE (yo v)) []:=by
 have m1:(v.zm.map zE).length=v.zm.length:=dR ..;have hgl:=h.zm;refine ab func170 ?_;rw [m1];refine zZ.seq v.zm.length (fun k=>(.za::.ref 0 [] 5 0 0::.uv 1 0 []::.gl 1 3 (((v.zm.take k).flatMap (·.ends)).map zx)::.za::.za::.za::(lG v.zm)::I v.zm.length::I k::tZ ([.za]))) (fun k=>[⟨1,107,5,[zF v],0⟩,⟨4,136,3,((v.zm.take k).flatMap (·.ends)).map zx,0⟩]) (fun k=>True) ?_ trivial (fun k hk hr=>?_) (fun hr=>?_)
 ·refine zo.trans (zo.grow 3 136 3 rfl (.inl rfl)) ?_;exact cC
 ·obtain ⟨g,hx⟩:∃ g,g=v.zm[k]:=⟨_,rfl⟩;have hg:(v.zm.map zE)[k]?= some (zE g):=by rw [dP,dM hk,hx];rfl
  have eg:((v.zm.take (k+1)).flatMap (·.ends)).map zx=((v.zm.take k).flatMap (·.ends)).map zx++g.ends.map zx:=bP
  have l1:(((v.zm.take k).flatMap (·.ends)).map zx).length<=k * 1000:=by
   have:=KF (v.zm.take k) fun x hx=>h.ends x (pJ hx)
   rw [List.length_take,Nat.min_eq_left aw] at this;simpa using this
  have l2:(g.ends.map zx).length<=1000:=by rw [dR];exact h.ends g (hx ▸ gQ hk)
  conv=>whnf
  refine uF ?_;(refine td hg ?_)
  refine ⟨rfl,.inr rfl,by simp only [maxLen];omega,by show _ * 40<=_;omega,dd ?_⟩;refine .inl ⟨rfl,?_,trivial⟩;rw [zu aw,eg];exact cE 2
 ·refine uD ?_;rw [gO];exact uI
abbrev CN (k n:Int):ef:=⟨k,0,0,0,0,0,n,⟨0,0,0,0,0,0⟩⟩
def Nb (w:Wor) (m:uw) (l:eE) (h0:0<=m.i) (hx:w.zd[m.i.toNat]?= some l):tn 132 [⟨1,37,8,[zJ (w)],0⟩,⟨1,69,44,[zD (m)],0⟩] [.agg tj] (Ce (ez m 1 5 l.zg)) [⟨1,37,8,[zJ (w)],0⟩,⟨1,69,44,[zD (if l.zg=0 then { m with pc:=10 } else fD m 8 (IntKind.i64.wrap (m.i+1)))],0⟩]:=by
 have hg:(w.zd.map qH)[m.i.toNat]?= some (qH l):=by rw [dP,hx];rfl
 refine aa func132 ?_;refine uE ?_;(refine ⟨h0,_,hg,dd ?_⟩)
 refine ⟨fun q=>?_,fun q=>?_⟩
 ·rw [dQ (aq q)];refine dd ?_;refine af [1] (qD { m with pc:=10 } 1 5 l.zg) ?_;exact cQ
 ·rw [dN (aq q)];refine dd ?_;refine .inl ⟨⟨true,[],[],[]⟩,au,uH ?_⟩;refine af [1] (xm m 8 (IntKind.i64.wrap (m.i+1))) ?_;refine hZ ?_
  refine af [1] (qD (fD m 8 (IntKind.i64.wrap (m.i+1))) 1 5 l.zg) ?_;exact cQ
def MY (w:Wor) (m:uw) (h:w.zd.length<=m.i):tn 131 [⟨1,37,8,[zJ (w)],0⟩,⟨1,69,44,[zD (m)],0⟩] [.agg tj] (Ce { ez m 2 14 0 with done:=true,answer:=CN 11 m.answer.n }) [⟨1,37,8,[zJ ({ w with lock:=0 })],0⟩,⟨1,69,44,[zD ({ m with done:=true,answer:=CN 11 m.answer.n })],0⟩]:=by
 have ml:(w.zd.map qH).length=w.zd.length:=dR ..;refine aa func131 ?_;refine uE ?_;rw [ml];refine ⟨fun _=>dd ?_,fun hh=>absurd hh aA⟩;refine .inl ⟨⟨true,[0,1],[2],[2]⟩,au,uH ?_⟩;refine af [1] (qD m 2 14 0) ?_;refine hZ ?_
 refine af [1] (Iw m (ez m 2 14 0) (CN 11 m.answer.n)) ?_;exact cQ
abbrev o6 (m:uw) (l:eE):uw:=if l.drain=true∧l.closed=false then { m with pc:=9 } else { m with i:=IntKind.i64.wrap (m.i+1) }
abbrev Ee (m:uw) (l:eE):uz:=ez m 1 4 (if l.drain=true then 1 else 0)
def M9 (w:Wor) (m:uw) (l:eE) (h0:0<=m.i) (hx:w.zd[m.i.toNat]?= some l):tn 131 [⟨1,37,8,[zJ (w)],0⟩,⟨1,69,44,[zD (m)],0⟩] [.agg tj] (Ce (Ee m l)) [⟨1,37,8,[zJ (w)],0⟩,⟨1,69,44,[zD (o6 m l)],0⟩]:=by
 have hg:(w.zd.map qH)[m.i.toNat]?= some (qH l):=by rw [dP,hx];rfl
 have ux:=(dL.1 hx).1;have ml:(w.zd.map qH).length=w.zd.length:=dR ..;obtain ⟨nm,dr,ac,cl⟩:=l;cases dr <;> cases cl
 all_goals
  refine aa func131 ?_;refine uE ?_;rw [ml];refine ⟨fun hh=>absurd hh aA,fun _=>dd ?_⟩;refine .inr ⟨⟨[1,4,8,10],[0,1,2],true⟩,au,fun _=>rfl,_,uH ?_,fun t2 H2 h=>h⟩;refine hZ ?_
  (refine ⟨h0,_,hg,dd ?_⟩)
  (refine ⟨uH ?_,trivial⟩);refine hZ ?_
  (refine ⟨uH ?_,trivial⟩);refine hZ ?_
  (refine ⟨_,_,.refl _,uH ?_⟩)
  refine af [1] (qD m 1 4 0) ?_;(repeat (first | ((refine ya (dd ?_))) | ((refine yb (dd ?_)))))
  exact cQ
def MZ {w w':Wor} {m m':uw} {e:uz} (h:w.zr.length<=m.i) (hd:tn 131 [⟨1,37,8,[zJ (w)],0⟩,⟨1,69,44,[zD (fD m 8 0)],0⟩] [.agg tj] (Ce e) [⟨1,37,8,[zJ (w')],0⟩,⟨1,69,44,[zD (m')],0⟩]):tn 128 [⟨1,37,8,[zJ (w)],0⟩,⟨1,69,44,[zD (m)],0⟩] [.agg tj] (Ce e) [⟨1,37,8,[zJ (w')],0⟩,⟨1,69,44,[zD (m')],0⟩]:=by
 have ml:(w.zr.map xq).length=w.zr.length:=dR ..;refine aa func128 ?_;refine uE ?_;rw [ml];refine ⟨fun _=>dd ?_,fun hh=>absurd hh aA⟩;refine af [1] (xm m 8 0) ?_;refine af [0,1] (hd) ?_;exact cQ
abbrev nQ (m:uw) (r:eC):uw:=if r.gone=true∨Go.Lim.oV r.at_ m.zn=false then { m with i:=IntKind.i64.wrap (m.i+1) } else { m with version:=r.version,zi:=0,end_:=0,other:=0,slot:=0,k:=0,pc:=5 }
def Nr (w:Wor) (m:uw) (r:eC) (hr:i64 r.at_) (h0:0<=m.i) (hx:w.zr[m.i.toNat]?= some r):tn 128 [⟨1,37,8,[zJ (w)],0⟩,⟨1,69,44,[zD (m)],0⟩] [.agg tj] (Ce (ez m 1 11 r.version)) [⟨1,37,8,[zJ (w)],0⟩,⟨1,69,44,[zD (nQ m r)],0⟩]:=by
 have hg:(w.zr.map xq)[m.i.toNat]?= some (xq r):=by rw [dP,hx];rfl
 have ux:=(dL.1 hx).1;have ml:(w.zr.map xq).length=w.zr.length:=dR ..;obtain ⟨rv,ra,rg⟩:=r;refine aa func128 ?_;refine uE ?_;rw [ml];refine ⟨fun hh=>absurd hh aA,fun _=>dd ?_⟩;refine .inr ⟨⟨[1,4,8,10],[0,1,2],true⟩,au,fun _=>rfl,_,uH ?_,fun t2 H2 h=>h⟩;refine hZ ?_
 (refine ⟨h0,_,hg,dd ?_⟩)
 (refine ⟨uH ?_,trivial⟩);refine hZ ?_
 (refine ⟨uH ?_,trivial⟩);refine hZ ?_
 (refine ⟨_,_,.refl _,uH ?_⟩)
 cases rg
 ·have eN:Go.Lim.oV ra m.zn=false->nQ m ⟨rv,ra,false⟩={ m with i:=IntKind.i64.wrap (m.i+1) }:=fun hh=>dQ (.inr hh)
  have eY:Go.Lim.oV ra m.zn=true->nQ m ⟨rv,ra,false⟩={ m with version:=rv,zi:=0,end_:=0,other:=0,slot:=0,k:=0,pc:=5 }:=fun hh=>dN (by simp [hh])
  refine .inl ⟨⟨true,[],[],[9]⟩,au,uH ?_⟩;(repeat (first | ((refine ya (dd ?_))) | ((refine yb (dd ?_)))))
  refine ah (Go.Lim.QB (now:=m.zn) hr.1 hr.2) ?_;refine ⟨fun q=>?_,fun q=>?_⟩
  ·rw [eY q];refine dd ?_;refine hZ ?_
   (repeat (first | ((refine ya (dd ?_))) | ((refine yb (dd ?_)))))
   refine af [1] (qD { m with version:=rv,zi:=0,end_:=0,other:=0,slot:=0,k:=0,pc:=5 } 1 11 rv) ?_;exact cQ
  ·rw [eN q];refine dd ?_;refine hZ ?_
   (repeat (first | ((refine ya (dd ?_))) | ((refine yb (dd ?_)))))
   refine af [1] (qD { m with i:=IntKind.i64.wrap (m.i+1) } 1 11 rv) ?_;exact cQ
 ·rw [show nQ m ⟨rv,ra,true⟩=_ from dQ (.inl rfl)];refine .inl ⟨⟨true,[],[],[9]⟩,au,uH ?_⟩;(repeat (first | ((refine ya (dd ?_))) | ((refine yb (dd ?_)))))
  refine af [1] (qD { m with i:=IntKind.i64.wrap (m.i+1) } 1 11 rv) ?_;exact cQ
abbrev CD (l:eE):eE:={ l with closed:=true }
def QE (w:Wor) (m:uw) (x:eE) (h0:0<=m.i) (hx:w.zd[m.i.toNat]?= some x):
  tn 133 [⟨1,37,8,[[I w.zn,I w.current,I w.lock,lI w.pins,lV w.ze,.sl 2 [] 4 0 w.zd.length false,eG w.counts,lR w.zr]],0⟩,⟨1,69,44,[zD (m)],0⟩,⟨2,85,4,(w.zd).map qH,0⟩] [.agg tj] (Ce (ez m 2 13 1)) [⟨1,37,8,[[I w.zn,I w.current,I w.lock,lI w.pins,lV w.ze,.sl 2 [] 4 0 w.zd.length false,eG w.counts,lR w.zr]],0⟩,⟨1,69,44,[zD (fD m 8 (IntKind.i64.wrap (m.i+1)))],0⟩,⟨2,85,4,(w.zd.set m.i.toNat (CD x)).map qH,0⟩]:=by
 have e1:0+m.i.toNat=m.i.toNat:=gp _;have ux:m.i.toNat < w.zd.length:=(dL.1 hx).1;have gx:(w.zd.map qH)[m.i.toNat]?= some (qH x):=by rw [dP,hx];rfl
 have hst:(w.zd.map qH).set m.i.toNat [Tx x.name,Bo x.drain,I x.zg,Bo true]=(w.zd.set m.i.toNat (CD x)).map qH:=bR
 refine aa func133 ?_;refine .inl ⟨⟨false,[1,4,6,9],[0,1,3],[]⟩,au,uH ?_⟩;refine hZ ?_
 refine ⟨h0,ux,dd ?_⟩;rw [e1];refine ⟨_,gx,rfl,dd ?_⟩;refine hZ ?_
 rw [hst];refine .inl ⟨⟨true,[],[],[]⟩,au,uH ?_⟩;refine af [1] (xm m 8 (IntKind.i64.wrap (m.i+1))) ?_;refine hZ ?_
 refine af [1] (qD (fD m 8 (IntKind.i64.wrap (m.i+1))) 2 13 1) ?_;refine hZ ?_;exact ⟨.inl rfl,_,_,.refl _,rfl,cE 3⟩
abbrev CU (m:uw) (v:u3) (a:Int):uz:={ ez m 1 7 a with version:=m.version,qm:=v.qm }
abbrev oC (m:uw) (v:u3) (a:Int):uw:=if a≠0 then fD m 4 (IntKind.i64.wrap (m.i+1)) else if IntKind.i64.wrap (m.k+1) < (yo v).length then { m with k:=IntKind.i64.wrap (m.k+1) } else { m with k:=IntKind.i64.wrap (m.k+1),pc:=6 }
def M8 (w:Wor) (m:uw) (v:u3) (e:En) (hf:CJ v) (hv:mN w m v) (k0:0<=m.k) (hk:(yo v)[m.k.toNat]?= some e):tn 129 [⟨1,37,8,[zJ (w)],0⟩,⟨1,69,44,[zD (m)],0⟩] [.agg tj] (Ce (CU m v e.zg)) [⟨1,37,8,[zJ (w)],0⟩,⟨1,69,44,[zD (oC m v e.zg)],0⟩]:=by
 have a0:=hv.v0;have a1:=hv.row;have hg:((yo v).map zx)[m.k.toNat]?= some (zx e):=by rw [dP,hk];rfl
 have ml:((yo v).map zx).length=(yo v).length:=dR ..;have he:=IC v hf;have eA:e.zg≠0->oC m v e.zg=fD m 4 (IntKind.i64.wrap (m.i+1)):=fun hh=>dQ hh
 have eB:e.zg=0->oC m v e.zg=if IntKind.i64.wrap (m.k+1) < (yo v).length then { m with k:=IntKind.i64.wrap (m.k+1) } else { m with k:=IntKind.i64.wrap (m.k+1),pc:=6 }:=fun hh=>dN (by simp [hh])
 generalize hll:yo v=ll at he hk hg ml eA eB;obtain ⟨sn,gs,fr⟩:=v;cases fr
 all_goals
  refine aa func129 ?_;refine .inr ⟨⟨[1,4,8,10],[0,1,2],true⟩,au,fun _=>rfl,_,uH ?_,fun t2 H2 h=>h⟩;refine hZ ?_
  (refine ⟨a0,_,a1,dd ?_⟩)
  (refine ⟨uH ?_,trivial⟩);refine hZ ?_
  (refine ⟨uH ?_,trivial⟩);refine hZ ?_
  (refine ⟨_,_,.refl _,uH ?_⟩)
  refine ah he ?_;refine .inr ⟨⟨[0,5,8,9],[0,1,2,3,4],true⟩,au,fun _=>rfl,_,uH ?_,fun t2 H2 h=>h⟩;(refine ⟨k0,_,hg,dd ?_⟩)
  refine ⟨_,ai [1] (qD m 1 7 e.zg),uH ?_⟩;(refine ⟨uH ?_,trivial⟩);refine hZ ?_
  (refine ⟨uH ?_,trivial⟩);refine hZ ?_
  (refine ⟨_,_,.refl _,uH ?_⟩)
  refine .inl ⟨⟨false,[3,5],[1,4],[]⟩,au,uH ?_⟩;(repeat (first | ((refine ya (dd ?_))) | ((refine yb (dd ?_)))))
  refine hZ ?_
  refine ⟨fun q=>?_,fun q=>?_⟩
  ·rw [eA (aq q)];refine dd ?_;refine .inl ⟨⟨true,[],[],[]⟩,au,uH ?_⟩;refine af [1] (xm m 4 (IntKind.i64.wrap (m.i+1))) ?_;exact cQ
  ·rw [eB (aq q)];refine dd ?_;rw [ml];refine ⟨fun q2=>?_,fun q2=>?_⟩
   ·rw [dQ (aq q2)];refine dd ?_;exact cQ
   ·rw [dN (aq q2)];refine dd ?_;exact cQ
abbrev nX (v:u3):u3:={ v with qm:=true }
abbrev wj (r:eC):eC:={ r with gone:=true }
abbrev BB (m:uw):uw:={ m with answer:={ m.answer with n:=IntKind.i64.wrap (m.answer.n+1) },pc:=4,i:=IntKind.i64.wrap (m.i+1) }
def C7 (w:Wor) (m:uw) (v:u3) (r:eC) (hv:mN w m v) (h0:0<=m.i) (hx:w.zr[m.i.toNat]?= some r):
  tn 130 [⟨1,37,8,[[I w.zn,I w.current,I w.lock,lI w.pins,.sl 2 [] 5 0 w.ze.length false,lL w.zd,eG w.counts,.sl 3 [] 3 0 w.zr.length false]],0⟩,⟨1,69,44,[zD (m)],0⟩,⟨2,107,5,(w.ze).map zF,0⟩,⟨2,101,3,(w.zr).map xq,0⟩] [.agg tj] (Ce (ez m 2 12 m.version)) [⟨1,37,8,[[I w.zn,I w.current,I w.lock,lI w.pins,.sl 2 [] 5 0 w.ze.length false,lL w.zd,eG w.counts,.sl 3 [] 3 0 w.zr.length false]],0⟩,⟨1,69,44,[zD (BB m)],0⟩,⟨2,107,5,(w.ze.set m.version.toNat (nX v)).map zF,0⟩,⟨2,101,3,(w.zr.set m.i.toNat (wj r)).map xq,0⟩]:=by
 have a0:=hv.v0;have av:m.version.toNat < w.ze.length:=(dL.1 hv.at_).1;have gv:=hv.row;have e1:0+m.i.toNat=m.i.toNat:=gp _;have e2:0+m.version.toNat=m.version.toNat:=gp _;have ux:m.i.toNat < w.zr.length:=(dL.1 hx).1;have gx:(w.zr.map xq)[m.i.toNat]?= some (xq r):=by rw [dP,hx];rfl
 have hst:(w.zr.map xq).set m.i.toNat [I r.version,I r.at_,Bo true]=(w.zr.set m.i.toNat (wj r)).map xq:=bR
 have hsv:(w.ze.map zF).set m.version.toNat [lT v.snap.zd,ic v.snap.rules,lC v.snap.zk,lG v.zm,Bo true]=(w.ze.set m.version.toNat (nX v)).map zF:=bR
 refine aa func130 ?_;refine .inl ⟨⟨false,[1,4,8,10,13,17],[0,1,4],[]⟩,au,uH ?_⟩;refine hZ ?_
 refine ⟨a0,av,dd ?_⟩;rw [e2];refine ⟨_,gv,rfl,dd ?_⟩;refine hZ ?_
 refine ⟨h0,ux,dd ?_⟩;rw [e1];refine ⟨_,gx,rfl,dd ?_⟩;refine hZ ?_
 rw [hst,hsv];refine .inl ⟨⟨true,[],[],[]⟩,au,uH ?_⟩;refine af [1] (xm { m with answer:={ m.answer with n:=IntKind.i64.wrap (m.answer.n+1) } } 4 (IntKind.i64.wrap (m.i+1))) ?_;refine hZ ?_
 refine .inl ⟨⟨true,[],[],[]⟩,au,uH ?_⟩;refine af [1] (qD (BB m) 2 12 m.version) ?_;refine hZ ?_;exact ⟨.inl rfl,_,_,.refl _,rfl,cE 4⟩
def OA (v:u3) (h:CJ v):tn 165 [] [Cv v] (I (yo v).length) []:=by
 have ml:((yo v).map zx).length=(yo v).length:=dR ..;have he:=IC v h;generalize yo v=ll at he ml ⊢;refine ab func165 ?_;refine ah he ?_;rw [ml];exact uI
def QS (w:Wor) (m:uw) (hpc:m.pc=2) (h:m.i < w.pins.length):tn 123 [] [Cw w,Cm m] (Bo true) []:=by
 have ml:(w.pins.map encI).length=w.pins.length:=dR ..;refine ab func123 ?_;(repeat (first | refine uA ?_ | refine uB ?_))
 exact uI
def QV (w:Wor) (m:uw) (hpc:m.pc=9) (h:m.i < w.zd.length):tn 123 [] [Cw w,Cm m] (Bo true) []:=by
 have ml:(w.zd.map qH).length=w.zd.length:=dR ..;refine ab func123 ?_;(repeat (first | refine uA ?_ | refine uB ?_))
 exact uI
def xu (w:Wor) (m:uw) (hpc:m.pc≠2∧m.pc≠5∧m.pc≠6∧m.pc≠9∧m.pc≠10):tn 123 [] [Cw w,Cm m] (Bo true) []:=by
 refine ab func123 ?_;(repeat (first | refine uA ?_ | refine uB ?_))
 exact uI
def QT (w:Wor) (m:uw) (v:u3) (hf:CJ v) (hpc:m.pc=5) (hv:mN w m v) (h:m.k < (yo v).length):tn 123 [] [Cw w,Cm m] (Bo true) []:=by
 have a0:=hv.v0;have a1:=hv.row;refine ab func123 ?_;(repeat (first | refine uA ?_ | refine uB ?_))
 refine .inl ⟨⟨true,[],[],[8]⟩,au,uH ?_⟩;(refine ⟨a0,_,a1,dd ?_⟩)
 refine ah (OA v hf) ?_;(repeat (first | refine uA ?_ | refine uB ?_))
 exact uI
def QU (w:Wor) (m:uw) (r:eC) (hpc:m.pc=6) (h0:0<=m.i) (hx:w.zr[m.i.toNat]?= some r) (h1:r.version=m.version) (h2:r.gone=false):tn 123 [] [Cw w,Cm m] (Bo true) []:=by
 have hg:(w.zr.map xq)[m.i.toNat]?= some (xq r):=by rw [dP,hx];rfl
 have ux:=(dL.1 hx).1;have ml:(w.zr.map xq).length=w.zr.length:=dR ..;obtain ⟨rv,ra,rg⟩:=r;cases h2
 refine ab func123 ?_;(repeat (first | refine uA ?_ | refine uB ?_))
 refine uE ?_;rw [ml];(repeat (first | refine uA ?_ | refine uB ?_))
 (refine ⟨h0,_,hg,dd ?_⟩)
 refine ⟨fun _=>dd ?_,fun hh=>absurd hh tG⟩;(repeat (first | ((refine ya (dd ?_))) | ((refine yb (dd ?_)))))
 (refine ⟨h0,_,hg,dd ?_⟩)
 (repeat (first | ((refine ya (dd ?_))) | ((refine yb (dd ?_)))))
 exact uI
def Pf (w:Wor) (m:uw) (l:eE) (hpc:m.pc=10) (h0:0<=m.i) (hx:w.zd[m.i.toNat]?= some l) (h1:l.drain=true):tn 123 [] [Cw w,Cm m] (Bo true) []:=by
 have hg:(w.zd.map qH)[m.i.toNat]?= some (qH l):=by rw [dP,hx];rfl
 have ux:=(dL.1 hx).1;have ml:(w.zd.map qH).length=w.zd.length:=dR ..;obtain ⟨ln,ld,la,lc⟩:=l;cases h1
 refine ab func123 ?_;(repeat (first | refine uA ?_ | refine uB ?_))
 rw [ml];(repeat (first | refine uA ?_ | refine uB ?_))
 (refine ⟨h0,_,hg,dd ?_⟩)
 (repeat (first | ((refine ya (dd ?_))) | ((refine yb (dd ?_)))))
 exact uI
def Uf (w:Wor) (m:uw) (X:Ob) (j f:Nat) (R:Exit->S->Prop) (hlow:qM 8 ([⟨1,37,8,[zJ (w)],0⟩,⟨1,69,44,[zD (m)],0⟩,⟨1,37,8,[fI],0⟩,⟨1,69,44,[fH],0⟩,⟨1,48,23,[zR qA],0⟩,X,⟨1,69,44,[zD (m)],0⟩,⟨1,227,2,[tf],0⟩]++[])=true) (hf:∀ v0 v1 v2 v3 v4 v5 v6 v8 v9 v10,vu [(0,v0,0),(1,v1,1),(2,v2,2),(3,v3,3),(4,v4,4),(5,v5,5),(6,v6,6),(8,v8,7),(9,v9,8),(10,v10,9)] m.pc=some j) (hc:([.fn 124 [.agg tf] [],.fn 125 [.agg tf] [],.fn 126 [.agg tf] [],.fn 127 [.agg tf] [],.fn 128 [.agg tf] [],.fn 129 [.agg tf] [],.fn 130 [.agg tf] [],.fn 131 [.agg tf] [],.fn 132 [.agg tf] [],.fn 133 [.agg tf] []]:List C)[j]?= some (.fn f [.agg tf] []))
  (hn:qW prog 0 (behind 5 ((f100.body).getD .skip)) ⟨(.za::.za::.ref 0 [] 8 0 0:: .ref 1 [] 44 0 0:: .ref 2 [] 8 0 0:: .ref 3 [] 44 0 0:: .ref 4 [] 23 0 0:: .ref 5 [] 8 0 0:: .ref 6 [] 44 0 0:: .ref 7 [] 2 0 0:: .fn f [.agg tf] []::Bo true:: tZ (tZ (tZ (tZ (tZ (tZ (tZ ([])))))))),[⟨1,37,8,[zJ (w)],0⟩,⟨1,69,44,[zD (m)],0⟩,⟨1,37,8,[fI],0⟩,⟨1,69,44,[fH],0⟩,⟨1,48,23,[zR qA],0⟩,X,⟨1,69,44,[zD (m)],0⟩,⟨1,227,2,[tf],0⟩]++[]⟩ R):qW prog 0 (behind 4 ((f100.body).getD .skip)) ⟨(.za::.za::.ref 0 [] 8 0 0:: .ref 1 [] 44 0 0:: .ref 2 [] 8 0 0:: .ref 3 [] 44 0 0:: .ref 4 [] 23 0 0:: .ref 5 [] 8 0 0:: .ref 6 [] 44 0 0:: .ref 7 [] 2 0 0:: .za::.za::tZ (tZ (tZ (tZ (tZ (tZ (tZ ([])))))))),[⟨1,37,8,[zJ (w)],0⟩,⟨1,69,44,[zD (m)],0⟩,⟨1,37,8,[fI],0⟩,⟨1,69,44,[fH],0⟩,⟨1,48,23,[zR qA],0⟩,X,⟨1,69,44,[zD (m)],0⟩,⟨1,227,2,[tf],0⟩]++[]⟩ R:=by
 refine iC (uH ?_);intro b;refine dd ?_;refine jE.qn (id:=8) _ _ _ _ (.inr rfl) underlying230 underlying3 rfl rfl rfl rfl rfl ?_;intro v0;refine dd ?_;refine jE.qn (id:=8) _ _ _ _ (.inr rfl) underlying230 underlying3 rfl rfl rfl rfl rfl ?_;intro v1;refine dd ?_;refine jE.qn (id:=8) _ _ _ _ (.inr rfl) underlying230 underlying3 rfl rfl rfl rfl rfl ?_;intro v2;refine dd ?_;refine jE.qn (id:=8) _ _ _ _ (.inr rfl) underlying230 underlying3 rfl rfl rfl rfl rfl ?_;intro v3;refine dd ?_;refine jE.qn (id:=8) _ _ _ _ (.inr rfl) underlying230 underlying3 rfl rfl rfl rfl rfl ?_;intro v4;refine dd ?_;refine jE.qn (id:=8) _ _ _ _ (.inr rfl) underlying230 underlying3 rfl rfl rfl rfl rfl ?_;intro v5;refine dd ?_;refine jE.qn (id:=8) _ _ _ _ (.inr rfl) underlying230 underlying3 rfl rfl rfl rfl rfl ?_;intro v6;refine dd ?_;refine jE.qn (id:=8) _ _ _ _ (.inr rfl) underlying230 underlying3 rfl rfl rfl rfl rfl ?_;intro v8;refine dd ?_;refine jE.qn (id:=8) _ _ _ _ (.inr rfl) underlying230 underlying3 rfl rfl rfl rfl rfl ?_;intro v9;refine dd ?_;refine jE.qn (id:=8) _ _ _ _ (.inr rfl) underlying230 underlying3 rfl rfl rfl rfl rfl ?_;intro v10;refine dd ?_;(refine ⟨_,_,u6.BX (id:=8) _ _ _ _ rfl underlying230 underlying3 rfl rfl rfl rfl rfl rfl (hf _ _ _ _ _ _ _ _ _ _) hc,?_⟩;(refine dd ?_))
 refine tc ?_
 refine .inl ⟨rfl,_,_,(zo.forget 8).trans (zo.xv 8 hU rfl rfl rfl hlow rfl),hn⟩
def Ue (w:Wor) (m:uw) (X:Ob) (Y:Ob)(j f:Nat) (R:Exit->S->Prop) (hlow:qM 9 ([⟨1,37,8,[zJ (w)],0⟩,⟨1,69,44,[zD (m)],0⟩,⟨1,37,8,[fI],0⟩,⟨1,69,44,[fH],0⟩,⟨1,48,23,[zR qA],0⟩,X,⟨1,69,44,[zD (m)],0⟩,⟨1,227,2,[tf],0⟩]++[Y])=true) (hf:∀ v0 v1 v2 v3 v4 v5 v6 v8 v9 v10,vu [(0,v0,0),(1,v1,1),(2,v2,2),(3,v3,3),(4,v4,4),(5,v5,5),(6,v6,6),(8,v8,7),(9,v9,8),(10,v10,9)] m.pc=some j) (hc:([.fn 124 [.agg tf] [],.fn 125 [.agg tf] [],.fn 126 [.agg tf] [],.fn 127 [.agg tf] [],.fn 128 [.agg tf] [],.fn 129 [.agg tf] [],.fn 130 [.agg tf] [],.fn 131 [.agg tf] [],.fn 132 [.agg tf] [],.fn 133 [.agg tf] []]:List C)[j]?= some (.fn f [.agg tf] []))
  (hn:qW prog 0 (behind 5 ((f100.body).getD .skip)) ⟨(.za::.za::.ref 0 [] 8 0 0:: .ref 1 [] 44 0 0:: .ref 2 [] 8 0 0:: .ref 3 [] 44 0 0:: .ref 4 [] 23 0 0:: .ref 5 [] 8 0 0:: .ref 6 [] 44 0 0:: .ref 7 [] 2 0 0:: .fn f [.agg tf] []::Bo true:: tZ (tZ (tZ (tZ (tZ (tZ (tZ ([])))))))),[⟨1,37,8,[zJ (w)],0⟩,⟨1,69,44,[zD (m)],0⟩,⟨1,37,8,[fI],0⟩,⟨1,69,44,[fH],0⟩,⟨1,48,23,[zR qA],0⟩,X,⟨1,69,44,[zD (m)],0⟩,⟨1,227,2,[tf],0⟩]++[Y]⟩ R):qW prog 0 (behind 4 ((f100.body).getD .skip)) ⟨(.za::.za::.ref 0 [] 8 0 0:: .ref 1 [] 44 0 0:: .ref 2 [] 8 0 0:: .ref 3 [] 44 0 0:: .ref 4 [] 23 0 0:: .ref 5 [] 8 0 0:: .ref 6 [] 44 0 0:: .ref 7 [] 2 0 0:: .za::.za::tZ (tZ (tZ (tZ (tZ (tZ (tZ ([])))))))),[⟨1,37,8,[zJ (w)],0⟩,⟨1,69,44,[zD (m)],0⟩,⟨1,37,8,[fI],0⟩,⟨1,69,44,[fH],0⟩,⟨1,48,23,[zR qA],0⟩,X,⟨1,69,44,[zD (m)],0⟩,⟨1,227,2,[tf],0⟩]++[Y]⟩ R:=by
 refine iC (uH ?_);intro b;refine dd ?_;refine jE.qn (id:=9) _ _ _ _ (.inr rfl) underlying230 underlying3 rfl rfl rfl rfl rfl ?_;intro v0;refine dd ?_;refine jE.qn (id:=9) _ _ _ _ (.inr rfl) underlying230 underlying3 rfl rfl rfl rfl rfl ?_;intro v1;refine dd ?_;refine jE.qn (id:=9) _ _ _ _ (.inr rfl) underlying230 underlying3 rfl rfl rfl rfl rfl ?_;intro v2;refine dd ?_;refine jE.qn (id:=9) _ _ _ _ (.inr rfl) underlying230 underlying3 rfl rfl rfl rfl rfl ?_;intro v3;refine dd ?_;refine jE.qn (id:=9) _ _ _ _ (.inr rfl) underlying230 underlying3 rfl rfl rfl rfl rfl ?_;intro v4;refine dd ?_;refine jE.qn (id:=9) _ _ _ _ (.inr rfl) underlying230 underlying3 rfl rfl rfl rfl rfl ?_;intro v5;refine dd ?_;refine jE.qn (id:=9) _ _ _ _ (.inr rfl) underlying230 underlying3 rfl rfl rfl rfl rfl ?_;intro v6;refine dd ?_;refine jE.qn (id:=9) _ _ _ _ (.inr rfl) underlying230 underlying3 rfl rfl rfl rfl rfl ?_;intro v8;refine dd ?_;refine jE.qn (id:=9) _ _ _ _ (.inr rfl) underlying230 underlying3 rfl rfl rfl rfl rfl ?_;intro v9;refine dd ?_;refine jE.qn (id:=9) _ _ _ _ (.inr rfl) underlying230 underlying3 rfl rfl rfl rfl rfl ?_;intro v10;refine dd ?_;(refine ⟨_,_,u6.BX (id:=9) _ _ _ _ rfl underlying230 underlying3 rfl rfl rfl rfl rfl rfl (hf _ _ _ _ _ _ _ _ _ _) hc,?_⟩;(refine dd ?_))
 refine tc ?_
 refine .inl ⟨rfl,_,_,(zo.forget 9).trans (zo.xv 9 hU rfl rfl rfl hlow rfl),hn⟩
def Ud (w:Wor) (m:uw) (X:Ob) (Y Z:Ob)(j f:Nat) (R:Exit->S->Prop) (hlow:qM 10 ([⟨1,37,8,[zJ (w)],0⟩,⟨1,69,44,[zD (m)],0⟩,⟨1,37,8,[fI],0⟩,⟨1,69,44,[fH],0⟩,⟨1,48,23,[zR qA],0⟩,X,⟨1,69,44,[zD (m)],0⟩,⟨1,227,2,[tf],0⟩]++[Y,Z])=true) (hf:∀ v0 v1 v2 v3 v4 v5 v6 v8 v9 v10,vu [(0,v0,0),(1,v1,1),(2,v2,2),(3,v3,3),(4,v4,4),(5,v5,5),(6,v6,6),(8,v8,7),(9,v9,8),(10,v10,9)] m.pc=some j) (hc:([.fn 124 [.agg tf] [],.fn 125 [.agg tf] [],.fn 126 [.agg tf] [],.fn 127 [.agg tf] [],.fn 128 [.agg tf] [],.fn 129 [.agg tf] [],.fn 130 [.agg tf] [],.fn 131 [.agg tf] [],.fn 132 [.agg tf] [],.fn 133 [.agg tf] []]:List C)[j]?= some (.fn f [.agg tf] []))
  (hn:qW prog 0 (behind 5 ((f100.body).getD .skip)) ⟨(.za::.za::.ref 0 [] 8 0 0:: .ref 1 [] 44 0 0:: .ref 2 [] 8 0 0:: .ref 3 [] 44 0 0:: .ref 4 [] 23 0 0:: .ref 5 [] 8 0 0:: .ref 6 [] 44 0 0:: .ref 7 [] 2 0 0:: .fn f [.agg tf] []::Bo true:: tZ (tZ (tZ (tZ (tZ (tZ (tZ ([])))))))),[⟨1,37,8,[zJ (w)],0⟩,⟨1,69,44,[zD (m)],0⟩,⟨1,37,8,[fI],0⟩,⟨1,69,44,[fH],0⟩,⟨1,48,23,[zR qA],0⟩,X,⟨1,69,44,[zD (m)],0⟩,⟨1,227,2,[tf],0⟩]++[Y,Z]⟩ R):qW prog 0 (behind 4 ((f100.body).getD .skip)) ⟨(.za::.za::.ref 0 [] 8 0 0:: .ref 1 [] 44 0 0:: .ref 2 [] 8 0 0:: .ref 3 [] 44 0 0:: .ref 4 [] 23 0 0:: .ref 5 [] 8 0 0:: .ref 6 [] 44 0 0:: .ref 7 [] 2 0 0:: .za::.za::tZ (tZ (tZ (tZ (tZ (tZ (tZ ([])))))))),[⟨1,37,8,[zJ (w)],0⟩,⟨1,69,44,[zD (m)],0⟩,⟨1,37,8,[fI],0⟩,⟨1,69,44,[fH],0⟩,⟨1,48,23,[zR qA],0⟩,X,⟨1,69,44,[zD (m)],0⟩,⟨1,227,2,[tf],0⟩]++[Y,Z]⟩ R:=by
 refine iC (uH ?_);intro b;refine dd ?_;refine jE.qn (id:=10) _ _ _ _ (.inr rfl) underlying230 underlying3 rfl rfl rfl rfl rfl ?_;intro v0;refine dd ?_;refine jE.qn (id:=10) _ _ _ _ (.inr rfl) underlying230 underlying3 rfl rfl rfl rfl rfl ?_;intro v1;refine dd ?_;refine jE.qn (id:=10) _ _ _ _ (.inr rfl) underlying230 underlying3 rfl rfl rfl rfl rfl ?_;intro v2;refine dd ?_;refine jE.qn (id:=10) _ _ _ _ (.inr rfl) underlying230 underlying3 rfl rfl rfl rfl rfl ?_;intro v3;refine dd ?_;refine jE.qn (id:=10) _ _ _ _ (.inr rfl) underlying230 underlying3 rfl rfl rfl rfl rfl ?_;intro v4;refine dd ?_;refine jE.qn (id:=10) _ _ _ _ (.inr rfl) underlying230 underlying3 rfl rfl rfl rfl rfl ?_;intro v5;refine dd ?_;refine jE.qn (id:=10) _ _ _ _ (.inr rfl) underlying230 underlying3 rfl rfl rfl rfl rfl ?_;intro v6;refine dd ?_;refine jE.qn (id:=10) _ _ _ _ (.inr rfl) underlying230 underlying3 rfl rfl rfl rfl rfl ?_;intro v8;refine dd ?_;refine jE.qn (id:=10) _ _ _ _ (.inr rfl) underlying230 underlying3 rfl rfl rfl rfl rfl ?_;intro v9;refine dd ?_;refine jE.qn (id:=10) _ _ _ _ (.inr rfl) underlying230 underlying3 rfl rfl rfl rfl rfl ?_;intro v10;refine dd ?_;(refine ⟨_,_,u6.BX (id:=10) _ _ _ _ rfl underlying230 underlying3 rfl rfl rfl rfl rfl rfl (hf _ _ _ _ _ _ _ _ _ _) hc,?_⟩;(refine dd ?_))
 refine tc ?_
 refine .inl ⟨rfl,_,_,(zo.forget 10).trans (zo.xv 10 hU rfl rfl rfl hlow rfl),hn⟩
def jG {w w':Wor} {m m':uw} {e:uz} (sw:qX w) (ok:fe w) (hl:i64 m.listen) (hs:zY w m=true) (hm:tn 123 [] [Cw w,Cm m] (Bo true) []) (j f:Nat) (hcb:qp prog f=true) (hf:∀ v0 v1 v2 v3 v4 v5 v6 v8 v9 v10,vu [(0,v0,0),(1,v1,1),(2,v2,2),(3,v3,3),(4,v4,4),(5,v5,5),(6,v6,6),(8,v8,7),(9,v9,8),(10,v10,9)] m.pc=some j) (hc:([.fn 124 [.agg tf] [],.fn 125 [.agg tf] [],.fn 126 [.agg tf] [],.fn 127 [.agg tf] [],.fn 128 [.agg tf] [],.fn 129 [.agg tf] [],.fn 130 [.agg tf] [],.fn 131 [.agg tf] [],.fn 132 [.agg tf] [],.fn 133 [.agg tf] []]:List C)[j]?= some (.fn f [.agg tf] []))
  (h:tn f [⟨1,37,8,[zJ (w)],0⟩,⟨1,69,44,[zD (m)],0⟩] [.agg tj] (Ce e) [⟨1,37,8,[zJ (w')],0⟩,⟨1,69,44,[zD (m')],0⟩]):tn 100 [] [Cw w,Cm m] (.u1 [Cw w',Cm m',Ce e]) []:=by
 refine zb.o9 func100 rfl ?_;show qW prog 0 ((f100.body).getD .skip) _ _;refine iC (uH ?_);refine .inl ⟨rfl,_,_,.refl _,iC (uH ?_)⟩;refine ah (zO w m ok hl) ?_;refine ⟨fun _=>dd ?_,fun h=>absurd ((hs).symm.trans h:true=false) ar⟩;refine tc ?_
 refine ah hm ?_;refine tc ?_
 refine .inl ⟨rfl,_,_,.refl _,iC (uH ?_)⟩;refine .inr ⟨⟨[0,1,2],[0,1],true⟩,au,fun _=>rfl,fun t H=>t=(.za::.za::.ref 0 [] 8 0 0:: .ref 1 [] 44 0 0:: .ref 2 [] 8 0 0:: .ref 3 [] 44 0 0:: .ref 4 [] 23 0 0:: .ref 5 [] 8 0 0:: .ref 6 [] 44 0 0:: .za::.za::.za::tZ (tZ (tZ (tZ (tZ (tZ (tZ ([]))))))))∧H=[⟨1,37,8,[zJ (w)],0⟩,⟨1,69,44,[zD (m)],0⟩,⟨1,37,8,[fI],0⟩,⟨1,69,44,[fH],0⟩,⟨1,48,23,[zR qA],0⟩,⟨1,37,8,[zJ (w)],0⟩,⟨1,69,44,[zD (m)],0⟩],?_,?_⟩
 ·conv=>whnf
  refine ⟨_,ai [] (qw w sw),uH ?_⟩;repeat' (first | (exact trivial) | (refine ⟨rfl,uH ?_⟩) | (exact ⟨_,_,zo.u5 [0,1,2,3,4,5,6] [2,3,4,5,6,7,8] _ _ rfl rfl rfl rfl,rfl,rfl⟩) | (exact ⟨_,_,zo.u5 [0,1,2,3,4,6,5] [2,3,4,5,6,7,8] _ _ rfl rfl rfl rfl,rfl,rfl⟩) | (refine And.intro ?_ ?_ <;> (conv=>whnf)))
 rintro _ _ ⟨rfl,rfl⟩;conv=>whnf
 refine .inl ⟨rfl,_,_,.refl _,iC (uH ?_)⟩;refine .inl ⟨rfl,_,_,cE 8,Uf w m (⟨1,37,8,[zJ (w)],0⟩) j f _ rfl hf hc ?_⟩;(refine jy (K:=fun ex t H=>(ex=.ret∨ex=.normal)∧∃ s2,zo 0 ⟨t,H⟩ s2∧(kH prog f100 s2).map (yq 0 9)=some (.u1 [Cw w',Cm m',Ce e])) (uH ?_))
 rw [hcb];refine af [5,6] (h) ?_;refine .inl ⟨⟨false,[0,1,2],[5,6,8],[]⟩,au,uH ?_⟩;refine hZ ?_
 exact uI
def Oq {w:Wor} {m m':uw} {e:uz} {ls:List eE} (sw:qX w) (ok:fe w) (hl:i64 m.listen) (hs:zY w m=true) (hm:tn 123 [] [Cw w,Cm m] (Bo true) []) (j f:Nat) (hcb:qp prog f=true) (hf:∀ v0 v1 v2 v3 v4 v5 v6 v8 v9 v10,vu [(0,v0,0),(1,v1,1),(2,v2,2),(3,v3,3),(4,v4,4),(5,v5,5),(6,v6,6),(8,v8,7),(9,v9,8),(10,v10,9)] m.pc=some j) (hc:([.fn 124 [.agg tf] [],.fn 125 [.agg tf] [],.fn 126 [.agg tf] [],.fn 127 [.agg tf] [],.fn 128 [.agg tf] [],.fn 129 [.agg tf] [],.fn 130 [.agg tf] [],.fn 131 [.agg tf] [],.fn 132 [.agg tf] [],.fn 133 [.agg tf] []]:List C)[j]?= some (.fn f [.agg tf] []))
  (hne:w.zd≠[]) (hll:ls.length=w.zd.length) (h:tn f [⟨1,37,8,[[I w.zn,I w.current,I w.lock,lI w.pins,lV w.ze,.sl 2 [] 4 0 w.zd.length false,eG w.counts,lR w.zr]],0⟩,⟨1,69,44,[zD (m)],0⟩,⟨2,85,4,(w.zd).map qH,0⟩] [.agg tj] (Ce e) [⟨1,37,8,[[I w.zn,I w.current,I w.lock,lI w.pins,lV w.ze,.sl 2 [] 4 0 w.zd.length false,eG w.counts,lR w.zr]],0⟩,⟨1,69,44,[zD (m')],0⟩,⟨2,85,4,(ls).map qH,0⟩]):tn 100 [] [Cw w,Cm m] (.u1 [Cw { w with zd:=ls },Cm m',Ce e]) []:=by
 obtain ⟨x,l,hx⟩:=sA hne;refine zb.o9 func100 rfl ?_;show qW prog 0 ((f100.body).getD .skip) _ _;refine iC (uH ?_);refine .inl ⟨rfl,_,_,.refl _,iC (uH ?_)⟩;refine ah (zO w m ok hl) ?_;refine ⟨fun _=>dd ?_,fun h=>absurd ((hs).symm.trans h:true=false) ar⟩;refine tc ?_
 refine ah hm ?_;refine tc ?_
 refine .inl ⟨rfl,_,_,.refl _,iC (uH ?_)⟩;refine .inr ⟨⟨[0,2],[0,1],true⟩,au,fun _=>rfl,fun t H=>t=(.za::.za::.ref 0 [] 8 0 0:: .ref 1 [] 44 0 0:: .ref 2 [] 8 0 0:: .ref 3 [] 44 0 0:: .ref 4 [] 23 0 0:: .ref 5 [] 8 0 0:: .ref 6 [] 44 0 0:: .za::.za::.za::tZ (tZ (tZ (tZ (tZ (tZ (tZ ([]))))))))∧H=[⟨1,37,8,[zJ (w)],0⟩,⟨1,69,44,[zD (m)],0⟩,⟨1,37,8,[fI],0⟩,⟨1,69,44,[fH],0⟩,⟨1,48,23,[zR qA],0⟩,⟨1,37,8,[[I w.zn,I w.current,I w.lock,lI w.pins,lV w.ze,.sl 7 [] 4 0 w.zd.length false,eG w.counts,lR w.zr]],0⟩,⟨1,69,44,[zD (m)],0⟩,⟨2,85,4,(w.zd).map qH,0⟩],?_,?_⟩
 ·conv=>whnf
  repeat' (first | (exact trivial) | (refine ⟨rfl,uH ?_⟩) | (refine zq [] (va w sw x l hx) rfl rfl rfl rfl rfl rfl (uH ?_)) | (exact ⟨_,_,zo.u5 [0,1,2,3,4,5,6,7] [2,3,4,5,6,7,8] _ _ rfl rfl rfl rfl,rfl,rfl⟩) | (exact ⟨_,_,zo.u5 [0,1,2,3,4,5,7,6] [2,3,4,5,6,7,8] _ _ rfl rfl rfl rfl,rfl,rfl⟩) | (exact ⟨_,_,zo.u5 [0,1,2,3,4,6,5,7] [2,3,4,5,6,7,8] _ _ rfl rfl rfl rfl,rfl,rfl⟩) | (exact ⟨_,_,zo.u5 [0,1,2,3,4,6,7,5] [2,3,4,5,6,7,8] _ _ rfl rfl rfl rfl,rfl,rfl⟩) | (exact ⟨_,_,zo.u5 [0,1,2,3,4,7,5,6] [2,3,4,5,6,7,8] _ _ rfl rfl rfl rfl,rfl,rfl⟩) | (exact ⟨_,_,zo.u5 [0,1,2,3,4,7,6,5] [2,3,4,5,6,7,8] _ _ rfl rfl rfl rfl,rfl,rfl⟩) | (refine And.intro ?_ ?_ <;> (conv=>whnf)))
 rintro _ _ ⟨rfl,rfl⟩;conv=>whnf
 refine .inl ⟨rfl,_,_,.refl _,iC (uH ?_)⟩;refine .inl ⟨rfl,_,_,(zo.u5 [0,1,2,3,4,5,6,8,7] [2,3,4,5,6,7,8,9] _ _ rfl rfl rfl rfl).trans (cC),Ue w m (⟨1,37,8,[[I w.zn,I w.current,I w.lock,lI w.pins,lV w.ze,.sl 8 [] 4 0 w.zd.length false,eG w.counts,lR w.zr]],0⟩) (⟨2,85,4,(w.zd).map qH,0⟩) j f _ rfl hf hc ?_⟩;(refine jy (K:=fun ex t H=>(ex=.ret∨ex=.normal)∧∃ s2,zo 0 ⟨t,H⟩ s2∧(kH prog f100 s2).map (yq 0 9)=some (.u1 [Cw { w with zd:=ls },Cm m',Ce e])) (uH ?_))
 rw [hcb];refine af [5,6,8] (h) ?_;refine .inl ⟨⟨false,[0,1,2],[5,6,9],[]⟩,au,uH ?_⟩;refine hZ ?_
 exact dw
def Oi (w:Wor) (h:qX w) (x:eC) (l:List eC) (hx:w.zr=x::l):tn 114 [] [Cw w] (.agg [I w.zn,I w.current,I w.lock,lI w.pins,.sl 0 [] 5 0 w.ze.length false,lL w.zd,eG w.counts,.sl 1 [] 3 0 w.zr.length false]) [⟨2,107,5,(w.ze).map zF,0⟩,⟨2,101,3,(w.zr).map xq,0⟩]:=by
 have hl:l.length < 1000000000:=by have:=h.zr;rw [hx] at this;exact cP
 have hc:=Kz x l hl;rw [<- hx] at hc;refine Af (fn:=f114) func114 rfl (uH ?_);refine ah (y9 w.pins h.pins) ?_;refine af [] (wK w.ze h.ze.1 fun v hv=>jI v (h.ze.2 v hv)) ?_;refine ah (vT w.zd h.zd) ?_;refine af [] (wJ w.counts h.counts.1 fun r hr=>yc r (h.counts.2 r hr)) ?_;refine af [] (hc) ?_;refine ⟨.inl rfl,_,_,zo.zV 1 0 6 rfl rfl rfl rfl (.inr rfl) rfl aj (shut_map (enc:=zN) (fun _=>rfl) w.counts) (z5 rfl),rfl,?_⟩;exact zo.u5 [3,5] [0] _ _ rfl rfl rfl (zc rfl (zc rfl (zc rfl (zc rfl (zc (zj fun r hr c hc=>((shut_map (enc:=zN) (fun _=>rfl) w.counts) r hr c hc).2) rfl)))))
def Oo {w:Wor} {m m':uw} {e:uz} {vs:List u3} {rs:List eC} (sw:qX w) (ok:fe w) (hl:i64 m.listen) (hs:zY w m=true) (hm:tn 123 [] [Cw w,Cm m] (Bo true) []) (j f:Nat) (hcb:qp prog f=true) (hf:∀ v0 v1 v2 v3 v4 v5 v6 v8 v9 v10,vu [(0,v0,0),(1,v1,1),(2,v2,2),(3,v3,3),(4,v4,4),(5,v5,5),(6,v6,6),(8,v8,7),(9,v9,8),(10,v10,9)] m.pc=some j) (hc:([.fn 124 [.agg tf] [],.fn 125 [.agg tf] [],.fn 126 [.agg tf] [],.fn 127 [.agg tf] [],.fn 128 [.agg tf] [],.fn 129 [.agg tf] [],.fn 130 [.agg tf] [],.fn 131 [.agg tf] [],.fn 132 [.agg tf] [],.fn 133 [.agg tf] []]:List C)[j]?= some (.fn f [.agg tf] []))
  (hne:w.ze≠[]) (hne2:w.zr≠[]) (hvl:vs.length=w.ze.length) (hrl:rs.length=w.zr.length) (h:tn f [⟨1,37,8,[[I w.zn,I w.current,I w.lock,lI w.pins,.sl 2 [] 5 0 w.ze.length false,lL w.zd,eG w.counts,.sl 3 [] 3 0 w.zr.length false]],0⟩,⟨1,69,44,[zD (m)],0⟩,⟨2,107,5,(w.ze).map zF,0⟩,⟨2,101,3,(w.zr).map xq,0⟩] [.agg tj] (Ce e) [⟨1,37,8,[[I w.zn,I w.current,I w.lock,lI w.pins,.sl 2 [] 5 0 w.ze.length false,lL w.zd,eG w.counts,.sl 3 [] 3 0 w.zr.length false]],0⟩,⟨1,69,44,[zD (m')],0⟩,⟨2,107,5,(vs).map zF,0⟩,⟨2,101,3,(rs).map xq,0⟩]):tn 100 [] [Cw w,Cm m] (.u1 [Cw { w with ze:=vs,zr:=rs },Cm m',Ce e]) []:=by
 obtain ⟨v,vl,hv⟩:=sA hne;obtain ⟨r,rl,hr⟩:=sA hne2;refine zb.o9 func100 rfl ?_;show qW prog 0 ((f100.body).getD .skip) _ _;refine iC (uH ?_);refine .inl ⟨rfl,_,_,.refl _,iC (uH ?_)⟩;refine ah (zO w m ok hl) ?_;refine ⟨fun _=>dd ?_,fun h=>absurd ((hs).symm.trans h:true=false) ar⟩;refine tc ?_
 refine ah hm ?_;refine tc ?_
 refine .inl ⟨rfl,_,_,.refl _,iC (uH ?_)⟩;refine .inr ⟨⟨[0,2],[0,1],true⟩,au,fun _=>rfl,fun t H=>t=(.za::.za::.ref 0 [] 8 0 0:: .ref 1 [] 44 0 0:: .ref 2 [] 8 0 0:: .ref 3 [] 44 0 0:: .ref 4 [] 23 0 0:: .ref 5 [] 8 0 0:: .ref 6 [] 44 0 0:: .za::.za::.za::tZ (tZ (tZ (tZ (tZ (tZ (tZ ([]))))))))∧H=[⟨1,37,8,[zJ (w)],0⟩,⟨1,69,44,[zD (m)],0⟩,⟨1,37,8,[fI],0⟩,⟨1,69,44,[fH],0⟩,⟨1,48,23,[zR qA],0⟩,⟨1,37,8,[[I w.zn,I w.current,I w.lock,lI w.pins,.sl 7 [] 5 0 w.ze.length false,lL w.zd,eG w.counts,.sl 8 [] 3 0 w.zr.length false]],0⟩,⟨1,69,44,[zD (m)],0⟩,⟨2,107,5,(w.ze).map zF,0⟩,⟨2,101,3,(w.zr).map xq,0⟩],?_,?_⟩
 ·conv=>whnf
  repeat' (first | (exact trivial) | (refine ⟨rfl,uH ?_⟩) | (refine zq [] (Oi w sw r rl hr) rfl rfl rfl rfl rfl rfl (uH ?_)) | (exact ⟨_,_,zo.u5 [0,1,2,3,4,5,6,7,8] [2,3,4,5,6,7,8] _ _ rfl rfl rfl rfl,rfl,rfl⟩) | (exact ⟨_,_,zo.u5 [0,1,2,3,4,5,6,8,7] [2,3,4,5,6,7,8] _ _ rfl rfl rfl rfl,rfl,rfl⟩) | (exact ⟨_,_,zo.u5 [0,1,2,3,4,5,7,6,8] [2,3,4,5,6,7,8] _ _ rfl rfl rfl rfl,rfl,rfl⟩) | (exact ⟨_,_,zo.u5 [0,1,2,3,4,5,7,8,6] [2,3,4,5,6,7,8] _ _ rfl rfl rfl rfl,rfl,rfl⟩) | (exact ⟨_,_,zo.u5 [0,1,2,3,4,5,8,6,7] [2,3,4,5,6,7,8] _ _ rfl rfl rfl rfl,rfl,rfl⟩) | (exact ⟨_,_,zo.u5 [0,1,2,3,4,5,8,7,6] [2,3,4,5,6,7,8] _ _ rfl rfl rfl rfl,rfl,rfl⟩) | (exact ⟨_,_,zo.u5 [0,1,2,3,4,6,5,7,8] [2,3,4,5,6,7,8] _ _ rfl rfl rfl rfl,rfl,rfl⟩) | (exact ⟨_,_,zo.u5 [0,1,2,3,4,6,5,8,7] [2,3,4,5,6,7,8] _ _ rfl rfl rfl rfl,rfl,rfl⟩) | (exact ⟨_,_,zo.u5 [0,1,2,3,4,6,7,5,8] [2,3,4,5,6,7,8] _ _ rfl rfl rfl rfl,rfl,rfl⟩) | (exact ⟨_,_,zo.u5 [0,1,2,3,4,6,7,8,5] [2,3,4,5,6,7,8] _ _ rfl rfl rfl rfl,rfl,rfl⟩) | (exact ⟨_,_,zo.u5 [0,1,2,3,4,6,8,5,7] [2,3,4,5,6,7,8] _ _ rfl rfl rfl rfl,rfl,rfl⟩) | (exact ⟨_,_,zo.u5 [0,1,2,3,4,6,8,7,5] [2,3,4,5,6,7,8] _ _ rfl rfl rfl rfl,rfl,rfl⟩) | (exact ⟨_,_,zo.u5 [0,1,2,3,4,7,5,6,8] [2,3,4,5,6,7,8] _ _ rfl rfl rfl rfl,rfl,rfl⟩) | (exact ⟨_,_,zo.u5 [0,1,2,3,4,7,5,8,6] [2,3,4,5,6,7,8] _ _ rfl rfl rfl rfl,rfl,rfl⟩) | (exact ⟨_,_,zo.u5 [0,1,2,3,4,7,6,5,8] [2,3,4,5,6,7,8] _ _ rfl rfl rfl rfl,rfl,rfl⟩) | (exact ⟨_,_,zo.u5 [0,1,2,3,4,7,6,8,5] [2,3,4,5,6,7,8] _ _ rfl rfl rfl rfl,rfl,rfl⟩) | (exact ⟨_,_,zo.u5 [0,1,2,3,4,7,8,5,6] [2,3,4,5,6,7,8] _ _ rfl rfl rfl rfl,rfl,rfl⟩) | (exact ⟨_,_,zo.u5 [0,1,2,3,4,7,8,6,5] [2,3,4,5,6,7,8] _ _ rfl rfl rfl rfl,rfl,rfl⟩) | (exact ⟨_,_,zo.u5 [0,1,2,3,4,8,5,6,7] [2,3,4,5,6,7,8] _ _ rfl rfl rfl rfl,rfl,rfl⟩) | (exact ⟨_,_,zo.u5 [0,1,2,3,4,8,5,7,6] [2,3,4,5,6,7,8] _ _ rfl rfl rfl rfl,rfl,rfl⟩) | (exact ⟨_,_,zo.u5 [0,1,2,3,4,8,6,5,7] [2,3,4,5,6,7,8] _ _ rfl rfl rfl rfl,rfl,rfl⟩) | (exact ⟨_,_,zo.u5 [0,1,2,3,4,8,6,7,5] [2,3,4,5,6,7,8] _ _ rfl rfl rfl rfl,rfl,rfl⟩) | (exact ⟨_,_,zo.u5 [0,1,2,3,4,8,7,5,6] [2,3,4,5,6,7,8] _ _ rfl rfl rfl rfl,rfl,rfl⟩) | (exact ⟨_,_,zo.u5 [0,1,2,3,4,8,7,6,5] [2,3,4,5,6,7,8] _ _ rfl rfl rfl rfl,rfl,rfl⟩) | (refine And.intro ?_ ?_ <;> (conv=>whnf)))
 rintro _ _ ⟨rfl,rfl⟩;conv=>whnf
 refine .inl ⟨rfl,_,_,.refl _,iC (uH ?_)⟩;refine .inl ⟨rfl,_,_,(zo.u5 [0,1,2,3,4,5,6,9,7,8] [2,3,4,5,6,7,8,9] _ _ rfl rfl rfl rfl).trans (cC),Ud w m (⟨1,37,8,[[I w.zn,I w.current,I w.lock,lI w.pins,.sl 8 [] 5 0 w.ze.length false,lL w.zd,eG w.counts,.sl 9 [] 3 0 w.zr.length false]],0⟩) (⟨2,107,5,(w.ze).map zF,0⟩) (⟨2,101,3,(w.zr).map xq,0⟩) j f _ rfl hf hc ?_⟩;(refine jy (K:=fun ex t H=>(ex=.ret∨ex=.normal)∧∃ s2,zo 0 ⟨t,H⟩ s2∧(kH prog f100 s2).map (yq 0 9)=some (.u1 [Cw { w with ze:=vs,zr:=rs },Cm m',Ce e])) (uH ?_))
 rw [hcb];refine af [5,6,8,9] (h) ?_;refine .inl ⟨⟨false,[0,1,2],[5,6,10],[]⟩,au,uH ?_⟩;refine hZ ?_
 exact ⟨.inl rfl,_,(zo.zV 2 0 4 rfl rfl rfl rfl (.inr rfl) aj (by rw [dR];exact hvl.symm) (shut_map (enc:=zF) (fun _=>rfl) _) (z5 rfl)).trans (zo.zV 2 0 7 rfl rfl rfl rfl (.inr rfl) aj (by rw [dR];exact hrl.symm) (shut_map (enc:=xq) (fun _=>rfl) _) (z5 rfl)),rfl⟩
end Go.Wor
