import Derived.Test.YtoeaoedlpmohoaaGreatRV
import Derived.Test.YtoeaoedlpmohoaaGreatRW
set_option linter.all false
set_option maxRecDepth 100000
set_option maxHeartbeats 4000000
namespace Go.Wor
open Go.Ab Go.Proofs Tryz Go.Hy Go.Gat Go.Nam Go.Hos Go.Con Go.Sna
def RY(l:List fQ)(s:fA)(hl:l.length<4611686018427387904):
  tn 122 [⟨2,76,4,(l).map qW,0⟩,⟨1,9,1,[[Tx s]],0⟩] [.sl 0 [] 4 0 l.length false,.fn 123 [] [.ref 1 [] 1 0 0]] (I (zM l s)) [⟨2,76,4,(l).map qW,0⟩,⟨1,9,1,[[Tx s]],0⟩]:=by
 refine aa func122 ?_;refine zZ.seq l.length (λk=>(.sl 0 [] 4 0 l.length false::.fn 123 [] [.ref 1 [] 1 0 0]::.za::.za::I 0::.za::.za::I l.length::I k::mC ([.za,.za]))) (λk=>[⟨2,76,4,(l).map qW,0⟩,⟨1,9,1,[[Tx s]],0⟩]) (λk=>∀j,(h:j<l.length)->j<k->(l[j].name == s)=false) ?_ aj (λk hk hr=>?_) (λhr=>?_)
 ·exact cC
 ·have hg:(l.map qW)[k]?=some (qW l[k]):=by rw[gz,gp hk];rfl
  have e1:0+(k:Int).toNat=k:=aj
  conv=>whnf
  refine uF ?_;refine⟨aw,aq hk,dd ?_⟩;rw[e1];refine⟨_,hg,(by show 0+4<=4;decide),dd ?_⟩;refine af [1] (Mr s l[k]) ?_;refine⟨λh2=>?_,λh2=>?_⟩
  ·refine dd ?_;refine .inr ⟨aj,uH ?_⟩
   have e:zM l s=k:=by
    unfold zM
    have:l.findIdx? (λx=>x.name == s)=some k:=by
     exact dW
    rw[this]
   rw[e];exact cW
  ·refine dd ?_;refine .inl ⟨rfl,?_,λj hj hjk=>?_⟩
   ·rw[zw aw];exact cE 2
   ·by_cases e:j=k
    ·subst e;exact h2
    ·exact hr j hj aw
 ·refine uD ?_
  have e:zM l s= -1:=by
   unfold zM
   have:l.findIdx? (λx=>x.name == s)=none:=by
    rw[gX];intro x hx;obtain⟨j,hj,rfl⟩:=pF.1 hx;exact hr j hj hj
   rw[this]
  rw[e];exact cW
def RA(l:List fQ)(s:fA)(hl:l.length<4611686018427387904):tn 88 [⟨2,76,4,(l).map qW,0⟩] [.sl 0 [] 4 0 l.length false,Tx s] (I (zM l s)) [⟨2,76,4,(l).map qW,0⟩]:=by
 refine aa func88 ?_;refine af [0,1] (RY l s hl) ?_;exact dS
def K8(m:fq)(e:fx)(a:fF):tn 159 [⟨1,95,44,[zE (m)],0⟩,⟨1,257,24,[.ref 0 [] 44 0 0::zS (e)],0⟩] [.ref 1 [] 24 0 0,.agg (yG a)] (.fC []) [⟨1,95,44,[zE ({ m with done:=true,answer:=a })],0⟩,⟨1,257,24,[.ref 0 [] 44 0 0::zS ({ e with done:=true,answer:=a })],0⟩]:=by
 refine aa func159 ?_;refine .inl ⟨⟨false,[3,7,8],[1,2],[]⟩,au,uH ?_⟩;refine hZ ?_
 refine .inl ⟨⟨false,[2],[2],[]⟩,au,uH ?_⟩;refine hZ ?_
 exact⟨.inr rfl,_,_,.refl _,rfl,cE 2⟩
abbrev GU(m:fq):fx:={ qH with zf:=m.zf,access:=1,version:= -1 }
def Rl(w:Wor)(m:fq)(sw:jf w)(ok:iC w)(hl:i64 m.listen)(hpc:m.pc=0)(hs:z7 w m=true)(hi:zM w.zd m.op.listen<0):
  tn 129 [] [Cw w,Cm m] (.fC [Cw w,Cm { m with done:=true,answer:=mq 7 },Ce { GU m with done:=true,answer:=mq 7 }]) []:=by
 refine ab func129 ?_;refine⟨λh=>absurd h (by simp[hpc]),λ_=>dd ?_⟩;refine ah (zR w m ok hl) ?_;refine⟨λ_=>dd ?_,λh=>absurd ((hs).symm.trans h:true=false) ar⟩;refine tc ?_
 refine ah (qE w sw) ?_;refine ah (EU w.zd m.op.listen (by have:=ok.zd.1;omega)) ?_;refine⟨λ_=>dd ?_,λh=>absurd h (aq hi)⟩;refine af [1,5] (K8 m (GU m) (mq 7)) ?_;refine .inl ⟨⟨false,[0,1,5],[0,1,5],[]⟩,au,uH ?_⟩;refine hZ ?_
 exact uI
abbrev J3(m:fq):fx:={ qH with zf:=m.zf,access:=2,cell:=4,version:= -1,value:=1,z5:=true }
def QP(w:Wor)(m:fq)(x:fQ)(sw:jf w)(ok:iC w)(hl:i64 m.listen)(hpc:m.pc=0)(hs:z7 w m=true)(hi:0<=zM w.zd m.op.listen)(hx:w.zd[(zM w.zd m.op.listen).toNat]?=some x):
  tn 129 [] [Cw w,Cm m] (.fC [Cw { w with zd:=w.zd.set (zM w.zd m.op.listen).toNat (Go.Gat.o5 x) },Cm { m with listen:=zM w.zd m.op.listen,done:=true,answer:=⟨10,0,0,0,0,zM w.zd m.op.listen,0,⟨0,0,0,0,0,0⟩⟩ },Ce { J3 m with done:=true,answer:=⟨10,0,0,0,0,zM w.zd m.op.listen,0,⟨0,0,0,0,0,0⟩⟩ }]) []:=by
 generalize hp:zM w.zd m.op.listen=p at hi hx;have lt:p.toNat<w.zd.length:=(gm.1 hx).1;have gl:(w.zd.map qW)[p.toNat]?=some (qW x):=by rw[gz,hx];rfl
 have hst:(w.zd.map qW).set p.toNat [Tx (Go.Gat.o5 x).name,Bo (Go.Gat.o5 x).drain,I (Go.Gat.o5 x).zi,Bo (Go.Gat.o5 x).closed]=(w.zd.set p.toNat (Go.Gat.o5 x)).map qW:=bR
 have e1:0+p.toNat=p.toNat:=gN _
 obtain⟨y,l,hy⟩:∃y l,w.zd=y::l:=by
  cases h:w.zd with
  |nil=>rw[h]at lt;simp at lt
  |cons y l=>exact⟨y,l,rfl⟩
 have hpl:=RA w.zd m.op.listen (by have:=ok.zd.1;omega);rw[hp]at hpl;refine ab func129 ?_;refine⟨λh=>absurd h (by simp[hpc]),λ_=>dd ?_⟩;refine ah (zR w m ok hl) ?_;refine⟨λ_=>dd ?_,λh=>absurd ((hs).symm.trans h:true=false) ar⟩;refine tc ?_
 refine af [] (vu w sw y l hy) ?_;refine af [5] (hpl) ?_;refine⟨λh=>absurd h aA,λ_=>dd ?_⟩;refine .inl ⟨⟨true,[1,4],[0],[8]⟩,au,uH ?_⟩;refine hZ ?_
 refine⟨hi,lt,dd ?_⟩;rw[e1];refine⟨_,gl,(by show 0+4<=4;decide),dd ?_⟩;refine ah (Go.Gat.R6 x) ?_;refine⟨hi,lt,dd ?_⟩;rw[e1];refine⟨_,gl,rfl,dd ?_⟩;refine hZ ?_
 rw[hst];refine af [1,6] (K8 { m with listen:=p } (J3 m) ⟨10,0,0,0,0,p,0,⟨0,0,0,0,0,0⟩⟩) ?_;refine .inl ⟨⟨false,[0,1,5],[0,1,6],[]⟩,au,uH ?_⟩;refine hZ ?_
 exact⟨.inl rfl,_,zp.zV 2 0 5 rfl rfl rfl rfl (.inr rfl) aj aj (shut_map (enc:=qW) (λ_=>rfl) _) (z6 rfl),rfl⟩
abbrev iP(m:fq)(p i:Int):fq:={ m with pc:=p,i:=i }
def qK(m:fq)(a b c:Int):tn 211 [⟨1,95,44,[zE (m)],0⟩] [.agg [.za,.ref 0 [] 44 0 0],I a,I b,I c] (Ce (fV m a b c)) [⟨1,95,44,[zE (m)],0⟩]:=by
 refine aa func211 ?_;refine hZ ?_;exact dS
def xr(m:fq)(p i:Int):tn 212 [⟨1,95,44,[zE (m)],0⟩] [.agg [.za,.ref 0 [] 44 0 0],I p,I i] (.fC []) [⟨1,95,44,[zE ({ m with pc:=p,i:=i })],0⟩]:=by
 refine aa func212 ?_;refine .inl ⟨⟨false,[1,3],[1],[]⟩,au,uH ?_⟩;refine hZ ?_
 exact⟨.inr rfl,_,_,.refl _,rfl,cE 1⟩
def K4(m:fq)(e:fx)(a:fF):tn 210 [⟨1,95,44,[zE (m)],0⟩] [.agg [.za,.ref 0 [] 44 0 0],Ce e,.agg (yG a)] (Ce { e with done:=true,answer:=a }) [⟨1,95,44,[zE ({ m with done:=true,answer:=a })],0⟩]:=by
 refine aa func210 ?_;refine .inl ⟨⟨false,[1,3,4],[1,3],[]⟩,au,uH ?_⟩;refine hZ ?_
 refine .inl ⟨⟨false,[0],[3],[]⟩,au,uH ?_⟩;refine hZ ?_
 refine hZ ?_;exact dS
def QE(w:Wor)(m:fq):tn 163 [⟨1,38,8,[zU (w)],0⟩,⟨1,95,44,[zE (m)],0⟩] [.agg tj] (Ce (fV m 1 1 w.zr)) [⟨1,38,8,[zU (w)],0⟩,⟨1,95,44,[zE ({ m with zr:=w.zr,pc:=2,i:=0 })],0⟩]:=by
 refine aa func163 ?_;refine .inl ⟨⟨false,[1,3,6],[0,2],[]⟩,au,uH ?_⟩;refine hZ ?_
 refine af [1] (xr { m with zr:=w.zr } 2 0) ?_;refine .inl ⟨⟨true,[],[],[]⟩,au,uH ?_⟩;refine af [1] (qK { m with zr:=w.zr,pc:=2,i:=0 } 1 1 w.zr) ?_;exact df
def Rv(w:Wor)(m:fq)(h:w.lock≠0):tn 162 [⟨1,38,8,[zU (w)],0⟩,⟨1,95,44,[zE (m)],0⟩] [.agg tj] (Ce { fV m 5 14 1 with done:=true,answer:=mq 12 }) [⟨1,38,8,[zU (w)],0⟩,⟨1,95,44,[zE ({ m with done:=true,answer:=mq 12 })],0⟩]:=by
 refine aa func162 ?_;refine⟨λ_=>dd ?_,λhh=>absurd hh (aq h)⟩;refine .inl ⟨⟨true,[0,1],[2],[2]⟩,au,uH ?_⟩;refine af [1] (qK m 5 14 1) ?_;refine hZ ?_
 refine af [1] (K4 m (fV m 5 14 1) (mq 12)) ?_;exact df
def Q3(w:Wor)(m:fq)(h:w.lock=0):tn 162 [⟨1,38,8,[zU (w)],0⟩,⟨1,95,44,[zE (m)],0⟩] [.agg tj] (Ce (fV m 4 14 1)) [⟨1,38,8,[zU ({ w with lock:=1 })],0⟩,⟨1,95,44,[zE ({ m with pc:=1 })],0⟩]:=by
 refine aa func162 ?_;refine⟨λhh=>absurd hh aH,λ_=>dd ?_⟩;refine .inl ⟨⟨false,[1,3],[2],[]⟩,au,uH ?_⟩;refine hZ ?_
 refine af [1] (qK { m with pc:=1 } 4 14 1) ?_;exact df
def Av(w:Wor)(m:fq)(p:Int):fq:=if p≠0/\p≠IntKind.i64.wrap (m.zr+1) then iP m 4 0 else if IntKind.i64.wrap (m.i+1)<w.pins.length then { m with i:=IntKind.i64.wrap (m.i+1) } else iP m 3 (IntKind.i64.wrap (m.i+1))
def QZ(w:Wor)(m:fq)(p:Int)(h0:0<=m.i)(hp:w.pins[m.i.toNat]?=some p):tn 164 [⟨1,38,8,[zU (w)],0⟩,⟨1,95,44,[zE (m)],0⟩] [.agg tj] (Ce (fV m 1 2 p)) [⟨1,38,8,[zU (w)],0⟩,⟨1,95,44,[zE (Av w m p)],0⟩]:=by
 have hg:(w.pins.map encI)[m.i.toNat]?=some (encI p):=by rw[gz,hp];rfl
 have ml:(w.pins.map encI).length=w.pins.length:=gE ..;refine aa func164 ?_;refine uE ?_;(refine⟨h0,_,hg,dd ?_⟩)
 refine⟨λq1=>?_,λq1=>?_⟩
 ·refine dd ?_;refine⟨λq2=>?_,λq2=>?_⟩
  ·rw[show Av w m p=iP m 4 0 from gC ⟨aq q1,aq q2⟩];refine dd ?_;refine tc ?_
   refine af [1] (xr m 4 0) ?_;refine af [1] (qK (iP m 4 0) 1 2 p) ?_;exact df
  ·have q:¬(p≠0/\p≠IntKind.i64.wrap (m.zr+1)):=λhh=>hh.2 (aq q2)
   refine dd ?_;refine tc ?_
   (rw[show Av w m p=_ from gu q]);refine uE ?_;(rw[ml]);refine⟨λq3=>?_,λq3=>?_⟩;(focus ((rw[gC (aq q3)]);refine dd ?_;refine af [1] (qK { m with i:=IntKind.i64.wrap (m.i+1) } 1 2 p) ?_;refine hZ ?_;exact⟨.inl rfl,_,_,.refl _,rfl,cE 2⟩));(rw[gu (aq q3)]);refine dd ?_;refine .inl ⟨⟨true,[],[],[]⟩,au,uH ?_⟩;refine af [1] (xr m 3 (IntKind.i64.wrap (m.i+1))) ?_;refine hZ ?_;refine af [1] (qK (iP m 3 (IntKind.i64.wrap (m.i+1))) 1 2 p) ?_;exact df
 ·have q:¬(p≠0/\p≠IntKind.i64.wrap (m.zr+1)):=λhh=>hh.1 (aq q1)
  refine dd ?_;refine tc ?_
  (rw[show Av w m p=_ from gu q]);refine uE ?_;(rw[ml]);refine⟨λq3=>?_,λq3=>?_⟩;(focus ((rw[gC (aq q3)]);refine dd ?_;refine af [1] (qK { m with i:=IntKind.i64.wrap (m.i+1) } 1 2 p) ?_;refine hZ ?_;exact⟨.inl rfl,_,_,.refl _,rfl,cE 2⟩));(rw[gu (aq q3)]);refine dd ?_;refine .inl ⟨⟨true,[],[],[]⟩,au,uH ?_⟩;refine af [1] (xr m 3 (IntKind.i64.wrap (m.i+1))) ?_;refine hZ ?_;refine af [1] (qK (iP m 3 (IntKind.i64.wrap (m.i+1))) 1 2 p) ?_;exact df
def Qr(w:Wor)(m:fq)(h:¬(w.zr=m.zr/\w.zr<1000000000000)):tn 165 [⟨1,38,8,[zU (w)],0⟩,⟨1,95,44,[zE (m)],0⟩] [.agg tj] (Ce (fV m 5 1 w.zr)) [⟨1,38,8,[zU (w)],0⟩,⟨1,95,44,[zE (iP m 4 0)],0⟩]:=by
 refine aa func165 ?_;refine uE ?_;refine⟨λq1=>?_,λq1=>?_⟩
 ·refine dd ?_;refine⟨λq2=>?_,λq2=>?_⟩
  ·exact absurd ⟨aq q1,aq q2⟩ h
  ·refine dd ?_;refine tc ?_
   refine af [1] (xr m 4 0) ?_;refine .inl ⟨⟨true,[],[],[]⟩,au,uH ?_⟩;refine af [1] (qK (iP m 4 0) 5 1 w.zr) ?_;exact df
 ·refine dd ?_;refine tc ?_
  refine af [1] (xr m 4 0) ?_;refine .inl ⟨⟨true,[],[],[]⟩,au,uH ?_⟩;refine af [1] (qK (iP m 4 0) 5 1 w.zr) ?_;exact df
def Qh(w:Wor)(m:fq)(h1:w.zr=m.zr)(h2:w.zr<1000000000000):tn 165 [⟨1,38,8,[zU (w)],0⟩,⟨1,95,44,[zE (m)],0⟩] [.agg tj] (Ce (fV m 4 1 (IntKind.i64.wrap (w.zr+1)))) [⟨1,38,8,[zU ({ w with zr:=IntKind.i64.wrap (w.zr+1) })],0⟩,⟨1,95,44,[zE ({ iP m 4 0 with zr:=IntKind.i64.wrap (w.zr+1) })],0⟩]:=by
 refine aa func165 ?_;refine uE ?_;refine⟨λ_=>dd ?_,λhh=>absurd hh tD⟩;refine⟨λ_=>dd ?_,λhh=>absurd hh aA⟩;refine tc ?_
 refine .inl ⟨⟨false,[1,3,6],[0,2],[]⟩,au,uH ?_⟩;refine hZ ?_
 refine af [1] (xr { m with zr:=IntKind.i64.wrap (w.zr+1) } 4 0) ?_;refine .inl ⟨⟨true,[],[],[]⟩,au,uH ?_⟩;refine af [1] (qK { iP m 4 0 with zr:=IntKind.i64.wrap (w.zr+1) } 4 1 (IntKind.i64.wrap (w.zr+1))) ?_;exact df
def yv(v:fB):List En:=v.zm.flatMap (·.ends)
structure Et(v:fB):Prop where
 zm:v.zm.length<=1000
 ends : ∀g∈v.zm, g.ends.length <= 1000
def Nd:∀(l:List Gr),(∀g∈l,g.ends.length<=1000)->(l.flatMap (·.ends)).length<=l.length*1000
 |[],_=>by simp
 |g::l,h=>by
  have:=Nd l λx hx=>h x (pV _ hx)
  have:=h g (rh ..);simp only[eZ,gK,pR];omega
def La(v:fB)(h:Et v):tn 214 [] [Cv v] (lE (yv v)) []:=by
 have m1:(v.zm.map zF).length=v.zm.length:=gE ..;have hgl:=h.zm;refine ab func214 ?_;rw[m1];refine zZ.seq v.zm.length (λk=>(.za::.ref 0 [] 5 0 0::.fp 1 0 []::.gl 1 3 (((v.zm.take k).flatMap (·.ends)).map zx)::.za::.za::.za::(lG v.zm)::I v.zm.length::I k::mC ([.za]))) (λk=>[⟨1,69,5,[zK v],0⟩,⟨4,74,3,((v.zm.take k).flatMap (·.ends)).map zx,0⟩]) (λk=>True) ?_ trivial (λk hk hr=>?_) (λhr=>?_)
 ·refine zp.trans (zp.grow 3 74 3 rfl (.inl rfl)) ?_;exact cC
 ·obtain⟨g,hx⟩:∃g,g=v.zm[k]:=⟨_,rfl⟩;have hg:(v.zm.map zF)[k]?=some (zF g):=by rw[gz,gp hk,hx];rfl
  have eg:((v.zm.take (k+1)).flatMap (·.ends)).map zx=((v.zm.take k).flatMap (·.ends)).map zx++g.ends.map zx:=bP
  have l1:(((v.zm.take k).flatMap (·.ends)).map zx).length<=k*1000:=by
   have:=Nd (v.zm.take k) λx hx=>h.ends x (rP hx)
   rw[sB,Nat.min_eq_left aw]at this;simpa using this
  have l2:(g.ends.map zx).length<=1000:=by rw[gE];exact h.ends g (hx ▸ gZ hk)
  conv=>whnf
  refine uF ?_;(refine td hg ?_)
  refine⟨rfl,.inr rfl,by simp only[maxLen];omega,by show _*40<=_;omega,dd ?_⟩;refine .inl ⟨rfl,?_,trivial⟩;rw[zw aw,eg];exact cE 2
 ·refine uD ?_;rw[pQ];exact uI
abbrev Ez(k n:Int):fF:=⟨k,0,0,0,0,0,n,⟨0,0,0,0,0,0⟩⟩
def QB(w:Wor)(m:fq)(l:fQ)(h0:0<=m.i)(hx:w.zd[m.i.toNat]?=some l):tn 170 [⟨1,38,8,[zU (w)],0⟩,⟨1,95,44,[zE (m)],0⟩] [.agg tj] (Ce (fV m 1 5 l.zi)) [⟨1,38,8,[zU (w)],0⟩,⟨1,95,44,[zE (if l.zi=0 then { m with pc:=10 } else iP m 8 (IntKind.i64.wrap (m.i+1)))],0⟩]:=by
 have hg:(w.zd.map qW)[m.i.toNat]?=some (qW l):=by rw[gz,hx];rfl
 refine aa func170 ?_;refine uE ?_;(refine⟨h0,_,hg,dd ?_⟩)
 refine⟨λq=>?_,λq=>?_⟩
 ·rw[gC (aq q)];refine dd ?_;refine af [1] (qK { m with pc:=10 } 1 5 l.zi) ?_;exact df
 ·rw[gu (aq q)];refine dd ?_;refine .inl ⟨⟨true,[],[],[]⟩,au,uH ?_⟩;refine af [1] (xr m 8 (IntKind.i64.wrap (m.i+1))) ?_;refine hZ ?_
  refine af [1] (qK (iP m 8 (IntKind.i64.wrap (m.i+1))) 1 5 l.zi) ?_;exact df
def Qi(w:Wor)(m:fq)(h:w.zd.length<=m.i):tn 169 [⟨1,38,8,[zU (w)],0⟩,⟨1,95,44,[zE (m)],0⟩] [.agg tj] (Ce { fV m 2 14 0 with done:=true,answer:=Ez 11 m.answer.n }) [⟨1,38,8,[zU ({ w with lock:=0 })],0⟩,⟨1,95,44,[zE ({ m with done:=true,answer:=Ez 11 m.answer.n })],0⟩]:=by
 have ml:(w.zd.map qW).length=w.zd.length:=gE ..;refine aa func169 ?_;refine uE ?_;rw[ml];refine⟨λ_=>dd ?_,λhh=>absurd hh aA⟩;refine .inl ⟨⟨true,[0,1],[2],[2]⟩,au,uH ?_⟩;refine af [1] (qK m 2 14 0) ?_;refine hZ ?_
 refine af [1] (K4 m (fV m 2 14 0) (Ez 11 m.answer.n)) ?_;exact df
abbrev BE(m:fq)(l:fQ):fq:=if l.drain=true/\l.closed=false then { m with pc:=9 } else { m with i:=IntKind.i64.wrap (m.i+1) }
abbrev Gz(m:fq)(l:fQ):fx:=fV m 1 4 (if l.drain=true then 1 else 0)
def Qy(w:Wor)(m:fq)(l:fQ)(h0:0<=m.i)(hx:w.zd[m.i.toNat]?=some l):tn 169 [⟨1,38,8,[zU (w)],0⟩,⟨1,95,44,[zE (m)],0⟩] [.agg tj] (Ce (Gz m l)) [⟨1,38,8,[zU (w)],0⟩,⟨1,95,44,[zE (BE m l)],0⟩]:=by
 have hg:(w.zd.map qW)[m.i.toNat]?=some (qW l):=by rw[gz,hx];rfl
 have ft:=(gm.1 hx).1;have ml:(w.zd.map qW).length=w.zd.length:=gE ..;obtain⟨nm,dr,ac,cl⟩:=l;cases dr <;> cases cl
 all_goals
  refine aa func169 ?_;refine uE ?_;rw[ml];refine⟨λhh=>absurd hh aA,λ_=>dd ?_⟩;refine .inr ⟨⟨[1,4,8,10],[0,1,2],true⟩,au,λ_=>rfl,_,uH ?_,λt2 H2 h=>h⟩;refine hZ ?_
  (refine⟨h0,_,hg,dd ?_⟩)
  (refine⟨uH ?_,trivial⟩);refine hZ ?_
  (refine⟨uH ?_,trivial⟩);refine hZ ?_
  (refine⟨_,_,.refl _,uH ?_⟩)
  refine af [1] (qK m 1 4 0) ?_;(repeat (first|((refine ya (dd ?_)))|((refine yb (dd ?_)))))
  exact df
def Qj{w w':Wor}{m m':fq}{e:fx}(h:w.zu.length<=m.i)(hd:tn 169 [⟨1,38,8,[zU (w)],0⟩,⟨1,95,44,[zE (iP m 8 0)],0⟩] [.agg tj] (Ce e) [⟨1,38,8,[zU (w')],0⟩,⟨1,95,44,[zE (m')],0⟩]):tn 166 [⟨1,38,8,[zU (w)],0⟩,⟨1,95,44,[zE (m)],0⟩] [.agg tj] (Ce e) [⟨1,38,8,[zU (w')],0⟩,⟨1,95,44,[zE (m')],0⟩]:=by
 have ml:(w.zu.map xH).length=w.zu.length:=gE ..;refine aa func166 ?_;refine uE ?_;rw[ml];refine⟨λ_=>dd ?_,λhh=>absurd hh aA⟩;refine af [1] (xr m 8 0) ?_;refine af [0,1] (hd) ?_;exact df
abbrev Au(m:fq)(r:fT):fq:=if r.gone=true\/Go.Lim.Bv r.at_ m.zr=false then { m with i:=IntKind.i64.wrap (m.i+1) } else { m with version:=r.version,zg:=0,end_:=0,other:=0,slot:=0,k:=0,pc:=5 }
def QF(w:Wor)(m:fq)(r:fT)(hr:i64 r.at_)(h0:0<=m.i)(hx:w.zu[m.i.toNat]?=some r):tn 166 [⟨1,38,8,[zU (w)],0⟩,⟨1,95,44,[zE (m)],0⟩] [.agg tj] (Ce (fV m 1 11 r.version)) [⟨1,38,8,[zU (w)],0⟩,⟨1,95,44,[zE (Au m r)],0⟩]:=by
 have hg:(w.zu.map xH)[m.i.toNat]?=some (xH r):=by rw[gz,hx];rfl
 have ft:=(gm.1 hx).1;have ml:(w.zu.map xH).length=w.zu.length:=gE ..;obtain⟨rv,ra,rg⟩:=r;refine aa func166 ?_;refine uE ?_;rw[ml];refine⟨λhh=>absurd hh aA,λ_=>dd ?_⟩;refine .inr ⟨⟨[1,4,8,10],[0,1,2],true⟩,au,λ_=>rfl,_,uH ?_,λt2 H2 h=>h⟩;refine hZ ?_
 (refine⟨h0,_,hg,dd ?_⟩)
 (refine⟨uH ?_,trivial⟩);refine hZ ?_
 (refine⟨uH ?_,trivial⟩);refine hZ ?_
 (refine⟨_,_,.refl _,uH ?_⟩)
 cases rg
 ·have eN:Go.Lim.Bv ra m.zr=false->Au m ⟨rv,ra,false⟩={ m with i:=IntKind.i64.wrap (m.i+1) }:=λhh=>gC (.inr hh)
  have eY:Go.Lim.Bv ra m.zr=true->Au m ⟨rv,ra,false⟩={ m with version:=rv,zg:=0,end_:=0,other:=0,slot:=0,k:=0,pc:=5 }:=λhh=>gu (by simp[hh])
  refine .inl ⟨⟨true,[],[],[9]⟩,au,uH ?_⟩;(repeat (first|((refine ya (dd ?_)))|((refine yb (dd ?_)))))
  refine ah (Go.Lim.TS (now:=m.zr) hr.1 hr.2) ?_;refine⟨λq=>?_,λq=>?_⟩
  ·rw[eY q];refine dd ?_;refine hZ ?_
   (repeat (first|((refine ya (dd ?_)))|((refine yb (dd ?_)))))
   refine af [1] (qK { m with version:=rv,zg:=0,end_:=0,other:=0,slot:=0,k:=0,pc:=5 } 1 11 rv) ?_;exact df
  ·rw[eN q];refine dd ?_;refine hZ ?_
   (repeat (first|((refine ya (dd ?_)))|((refine yb (dd ?_)))))
   refine af [1] (qK { m with i:=IntKind.i64.wrap (m.i+1) } 1 11 rv) ?_;exact df
 ·rw[show Au m ⟨rv,ra,true⟩=_ from gC (.inl rfl)];refine .inl ⟨⟨true,[],[],[9]⟩,au,uH ?_⟩;(repeat (first|((refine ya (dd ?_)))|((refine yb (dd ?_)))))
  refine af [1] (qK { m with i:=IntKind.i64.wrap (m.i+1) } 1 11 rv) ?_;exact df
abbrev El(l:fQ):fQ:={ l with closed:=true }
def TV(w:Wor)(m:fq)(x:fQ)(h0:0<=m.i)(hx:w.zd[m.i.toNat]?=some x):
  tn 171 [⟨1,38,8,[[I w.zr,I w.current,I w.lock,lI w.pins,lV w.ze,.sl 2 [] 4 0 w.zd.length false,ig w.counts,lR w.zu]],0⟩,⟨1,95,44,[zE (m)],0⟩,⟨2,76,4,(w.zd).map qW,0⟩] [.agg tj] (Ce (fV m 2 13 1)) [⟨1,38,8,[[I w.zr,I w.current,I w.lock,lI w.pins,lV w.ze,.sl 2 [] 4 0 w.zd.length false,ig w.counts,lR w.zu]],0⟩,⟨1,95,44,[zE (iP m 8 (IntKind.i64.wrap (m.i+1)))],0⟩,⟨2,76,4,(w.zd.set m.i.toNat (El x)).map qW,0⟩]:=by
 have e1:0+m.i.toNat=m.i.toNat:=gN _;have ft:m.i.toNat<w.zd.length:=(gm.1 hx).1;have gx:(w.zd.map qW)[m.i.toNat]?=some (qW x):=by rw[gz,hx];rfl
 have hst:(w.zd.map qW).set m.i.toNat [Tx x.name,Bo x.drain,I x.zi,Bo true]=(w.zd.set m.i.toNat (El x)).map qW:=bR
 refine aa func171 ?_;refine .inl ⟨⟨false,[1,4,6,9],[0,1,3],[]⟩,au,uH ?_⟩;refine hZ ?_
 refine⟨h0,ft,dd ?_⟩;rw[e1];refine⟨_,gx,rfl,dd ?_⟩;refine hZ ?_
 rw[hst];refine .inl ⟨⟨true,[],[],[]⟩,au,uH ?_⟩;refine af [1] (xr m 8 (IntKind.i64.wrap (m.i+1))) ?_;refine hZ ?_
 refine af [1] (qK (iP m 8 (IntKind.i64.wrap (m.i+1))) 2 13 1) ?_;refine hZ ?_;exact⟨.inl rfl,_,_,.refl _,rfl,cE 3⟩
abbrev EN(m:fq)(v:fB)(a:Int):fx:={ fV m 1 7 a with version:=m.version,qt:=v.qt }
abbrev AX(m:fq)(v:fB)(a:Int):fq:=if a≠0 then iP m 4 (IntKind.i64.wrap (m.i+1)) else if IntKind.i64.wrap (m.k+1)<(yv v).length then { m with k:=IntKind.i64.wrap (m.k+1) } else { m with k:=IntKind.i64.wrap (m.k+1),pc:=6 }
def Qx(w:Wor)(m:fq)(v:fB)(e:En)(hf:Et v)(hv:oA w m v)(k0:0<=m.k)(hk:(yv v)[m.k.toNat]?=some e):tn 167 [⟨1,38,8,[zU (w)],0⟩,⟨1,95,44,[zE (m)],0⟩] [.agg tj] (Ce (EN m v e.zi)) [⟨1,38,8,[zU (w)],0⟩,⟨1,95,44,[zE (AX m v e.zi)],0⟩]:=by
 have a0:=hv.v0;have a1:=hv.row;have hg:((yv v).map zx)[m.k.toNat]?=some (zx e):=by rw[gz,hk];rfl
 have ml:((yv v).map zx).length=(yv v).length:=gE ..;have he:=La v hf;have eA:e.zi≠0->AX m v e.zi=iP m 4 (IntKind.i64.wrap (m.i+1)):=λhh=>gC hh
 have eB:e.zi=0->AX m v e.zi=if IntKind.i64.wrap (m.k+1)<(yv v).length then { m with k:=IntKind.i64.wrap (m.k+1) } else { m with k:=IntKind.i64.wrap (m.k+1),pc:=6 }:=λhh=>gu (by simp[hh])
 generalize hll:yv v=ll at he hk hg ml eA eB;obtain⟨sn,gs,fr⟩:=v;cases fr
 all_goals
  refine aa func167 ?_;refine .inr ⟨⟨[1,4,8,10],[0,1,2],true⟩,au,λ_=>rfl,_,uH ?_,λt2 H2 h=>h⟩;refine hZ ?_
  (refine⟨a0,_,a1,dd ?_⟩)
  (refine⟨uH ?_,trivial⟩);refine hZ ?_
  (refine⟨uH ?_,trivial⟩);refine hZ ?_
  (refine⟨_,_,.refl _,uH ?_⟩)
  refine ah he ?_;refine .inr ⟨⟨[0,5,8,9],[0,1,2,3,4],true⟩,au,λ_=>rfl,_,uH ?_,λt2 H2 h=>h⟩;(refine⟨k0,_,hg,dd ?_⟩)
  refine⟨_,ai [1] (qK m 1 7 e.zi),uH ?_⟩;(refine⟨uH ?_,trivial⟩);refine hZ ?_
  (refine⟨uH ?_,trivial⟩);refine hZ ?_
  (refine⟨_,_,.refl _,uH ?_⟩)
  refine .inl ⟨⟨false,[3,5],[1,4],[]⟩,au,uH ?_⟩;(repeat (first|((refine ya (dd ?_)))|((refine yb (dd ?_)))))
  refine hZ ?_
  refine⟨λq=>?_,λq=>?_⟩
  ·rw[eA (aq q)];refine dd ?_;refine .inl ⟨⟨true,[],[],[]⟩,au,uH ?_⟩;refine af [1] (xr m 4 (IntKind.i64.wrap (m.i+1))) ?_;exact df
  ·rw[eB (aq q)];refine dd ?_;rw[ml];refine⟨λq2=>?_,λq2=>?_⟩
   ·rw[gC (aq q2)];refine dd ?_;exact df
   ·rw[gu (aq q2)];refine dd ?_;exact df
abbrev AD(v:fB):fB:={ v with qt:=true }
abbrev wN(r:fT):fT:={ r with gone:=true }
abbrev Dh(m:fq):fq:={ m with answer:={ m.answer with n:=IntKind.i64.wrap (m.answer.n+1) },pc:=4,i:=IntKind.i64.wrap (m.i+1) }
def E4(w:Wor)(m:fq)(v:fB)(r:fT)(hv:oA w m v)(h0:0<=m.i)(hx:w.zu[m.i.toNat]?=some r):
  tn 168 [⟨1,38,8,[[I w.zr,I w.current,I w.lock,lI w.pins,.sl 2 [] 5 0 w.ze.length false,lL w.zd,ig w.counts,.sl 3 [] 3 0 w.zu.length false]],0⟩,⟨1,95,44,[zE (m)],0⟩,⟨2,69,5,(w.ze).map zK,0⟩,⟨2,254,3,(w.zu).map xH,0⟩] [.agg tj] (Ce (fV m 2 12 m.version)) [⟨1,38,8,[[I w.zr,I w.current,I w.lock,lI w.pins,.sl 2 [] 5 0 w.ze.length false,lL w.zd,ig w.counts,.sl 3 [] 3 0 w.zu.length false]],0⟩,⟨1,95,44,[zE (Dh m)],0⟩,⟨2,69,5,(w.ze.set m.version.toNat (AD v)).map zK,0⟩,⟨2,254,3,(w.zu.set m.i.toNat (wN r)).map xH,0⟩]:=by
 have a0:=hv.v0;have av:m.version.toNat<w.ze.length:=(gm.1 hv.at_).1;have gv:=hv.row;have e1:0+m.i.toNat=m.i.toNat:=gN _;have e2:0+m.version.toNat=m.version.toNat:=gN _;have ft:m.i.toNat<w.zu.length:=(gm.1 hx).1;have gx:(w.zu.map xH)[m.i.toNat]?=some (xH r):=by rw[gz,hx];rfl
 have hst:(w.zu.map xH).set m.i.toNat [I r.version,I r.at_,Bo true]=(w.zu.set m.i.toNat (wN r)).map xH:=bR
 have hsv:(w.ze.map zK).set m.version.toNat [lT v.snap.zd,lQ v.snap.rules,lC v.snap.zk,lG v.zm,Bo true]=(w.ze.set m.version.toNat (AD v)).map zK:=bR
 refine aa func168 ?_;refine .inl ⟨⟨false,[1,4,8,10,13,17],[0,1,4],[]⟩,au,uH ?_⟩;refine hZ ?_
 refine⟨a0,av,dd ?_⟩;rw[e2];refine⟨_,gv,rfl,dd ?_⟩;refine hZ ?_
 refine⟨h0,ft,dd ?_⟩;rw[e1];refine⟨_,gx,rfl,dd ?_⟩;refine hZ ?_
 rw[hst,hsv];refine .inl ⟨⟨true,[],[],[]⟩,au,uH ?_⟩;refine af [1] (xr { m with answer:={ m.answer with n:=IntKind.i64.wrap (m.answer.n+1) } } 4 (IntKind.i64.wrap (m.i+1))) ?_;refine hZ ?_
 refine .inl ⟨⟨true,[],[],[]⟩,au,uH ?_⟩;refine af [1] (qK (Dh m) 2 12 m.version) ?_;refine hZ ?_;exact⟨.inl rfl,_,_,.refl _,rfl,cE 4⟩
def R8(v:fB)(h:Et v):tn 209 [] [Cv v] (I (yv v).length) []:=by
 have ml:((yv v).map zx).length=(yv v).length:=gE ..;have he:=La v h;generalize yv v=ll at he ml ⊢;refine ab func209 ?_;refine ah he ?_;rw[ml];exact uI
def Uy(w:Wor)(m:fq)(hpc:m.pc=2)(h:m.i<w.pins.length):tn 161 [] [Cw w,Cm m] (Bo true) []:=by
 have ml:(w.pins.map encI).length=w.pins.length:=gE ..;refine ab func161 ?_;(repeat (first|refine uA ?_|refine uB ?_))
 exact uI
def TY(w:Wor)(m:fq)(hpc:m.pc=9)(h:m.i<w.zd.length):tn 161 [] [Cw w,Cm m] (Bo true) []:=by
 have ml:(w.zd.map qW).length=w.zd.length:=gE ..;refine ab func161 ?_;(repeat (first|refine uA ?_|refine uB ?_))
 exact uI
def xx(w:Wor)(m:fq)(hpc:m.pc≠2/\m.pc≠5/\m.pc≠6/\m.pc≠9/\m.pc≠10):tn 161 [] [Cw w,Cm m] (Bo true) []:=by
 refine ab func161 ?_;(repeat (first|refine uA ?_|refine uB ?_))
 exact uI
def Uz(w:Wor)(m:fq)(v:fB)(hf:Et v)(hpc:m.pc=5)(hv:oA w m v)(h:m.k<(yv v).length):tn 161 [] [Cw w,Cm m] (Bo true) []:=by
 have a0:=hv.v0;have a1:=hv.row;refine ab func161 ?_;(repeat (first|refine uA ?_|refine uB ?_))
 refine .inl ⟨⟨true,[],[],[8]⟩,au,uH ?_⟩;(refine⟨a0,_,a1,dd ?_⟩)
 refine ah (R8 v hf) ?_;(repeat (first|refine uA ?_|refine uB ?_))
 exact uI
def TX(w:Wor)(m:fq)(r:fT)(hpc:m.pc=6)(h0:0<=m.i)(hx:w.zu[m.i.toNat]?=some r)(h1:r.version=m.version)(h2:r.gone=false):tn 161 [] [Cw w,Cm m] (Bo true) []:=by
 have hg:(w.zu.map xH)[m.i.toNat]?=some (xH r):=by rw[gz,hx];rfl
 have ft:=(gm.1 hx).1;have ml:(w.zu.map xH).length=w.zu.length:=gE ..;obtain⟨rv,ra,rg⟩:=r;cases h2
 refine ab func161 ?_;(repeat (first|refine uA ?_|refine uB ?_))
 refine uE ?_;rw[ml];(repeat (first|refine uA ?_|refine uB ?_))
 (refine⟨h0,_,hg,dd ?_⟩)
 refine⟨λ_=>dd ?_,λhh=>absurd hh tD⟩;(repeat (first|((refine ya (dd ?_)))|((refine yb (dd ?_)))))
 (refine⟨h0,_,hg,dd ?_⟩)
 (repeat (first|((refine ya (dd ?_)))|((refine yb (dd ?_)))))
 exact uI
def SS(w:Wor)(m:fq)(l:fQ)(hpc:m.pc=10)(h0:0<=m.i)(hx:w.zd[m.i.toNat]?=some l)(h1:l.drain=true):tn 161 [] [Cw w,Cm m] (Bo true) []:=by
 have hg:(w.zd.map qW)[m.i.toNat]?=some (qW l):=by rw[gz,hx];rfl
 have ft:=(gm.1 hx).1;have ml:(w.zd.map qW).length=w.zd.length:=gE ..;obtain⟨ln,ld,la,lc⟩:=l;cases h1
 refine ab func161 ?_;(repeat (first|refine uA ?_|refine uB ?_))
 rw[ml];(repeat (first|refine uA ?_|refine uB ?_))
 (refine⟨h0,_,hg,dd ?_⟩)
 (repeat (first|((refine ya (dd ?_)))|((refine yb (dd ?_)))))
 exact uI
def YJ(w:Wor)(m:fq)(X:Ob)(j f:Nat)(R:Exit->S->Prop)(hlow:qV 8 ([⟨1,38,8,[zU (w)],0⟩,⟨1,95,44,[zE (m)],0⟩,⟨1,38,8,[iT],0⟩,⟨1,95,44,[iS],0⟩,⟨1,55,23,[zS qH],0⟩,X,⟨1,95,44,[zE (m)],0⟩,⟨1,261,2,[tf],0⟩]++[])=true)(hf:∀v0 v1 v2 v3 v4 v5 v6 v8 v9 v10,vL [(0,v0,0),(1,v1,1),(2,v2,2),(3,v3,3),(4,v4,4),(5,v5,5),(6,v6,6),(8,v8,7),(9,v9,8),(10,v10,9)] m.pc=some j)(hc:([.fn 162 [.agg tf] [],.fn 163 [.agg tf] [],.fn 164 [.agg tf] [],.fn 165 [.agg tf] [],.fn 166 [.agg tf] [],.fn 167 [.agg tf] [],.fn 168 [.agg tf] [],.fn 169 [.agg tf] [],.fn 170 [.agg tf] [],.fn 171 [.agg tf] []]:List C)[j]?=some (.fn f [.agg tf] []))
 (hn:qX prog 0 (behind 5 ((f130.body).getD .skip)) ⟨(.za::.za::.ref 0 [] 8 0 0:: .ref 1 [] 44 0 0:: .ref 2 [] 8 0 0:: .ref 3 [] 44 0 0:: .ref 4 [] 23 0 0:: .ref 5 [] 8 0 0:: .ref 6 [] 44 0 0:: .ref 7 [] 2 0 0:: .fn f [.agg tf] []::Bo true:: mC (mC (mC (mC (mC (mC (mC ([])))))))),[⟨1,38,8,[zU (w)],0⟩,⟨1,95,44,[zE (m)],0⟩,⟨1,38,8,[iT],0⟩,⟨1,95,44,[iS],0⟩,⟨1,55,23,[zS qH],0⟩,X,⟨1,95,44,[zE (m)],0⟩,⟨1,261,2,[tf],0⟩]++[]⟩ R):qX prog 0 (behind 4 ((f130.body).getD .skip)) ⟨(.za::.za::.ref 0 [] 8 0 0:: .ref 1 [] 44 0 0:: .ref 2 [] 8 0 0:: .ref 3 [] 44 0 0:: .ref 4 [] 23 0 0:: .ref 5 [] 8 0 0:: .ref 6 [] 44 0 0:: .ref 7 [] 2 0 0:: .za::.za::mC (mC (mC (mC (mC (mC (mC ([])))))))),[⟨1,38,8,[zU (w)],0⟩,⟨1,95,44,[zE (m)],0⟩,⟨1,38,8,[iT],0⟩,⟨1,95,44,[iS],0⟩,⟨1,55,23,[zS qH],0⟩,X,⟨1,95,44,[zE (m)],0⟩,⟨1,261,2,[tf],0⟩]++[]⟩ R:=by
 refine vH (uH ?_);intro b;refine dd ?_;refine jN.qu (id:=8) _ _ _ _ (.inr rfl) underlying264 underlying3 rfl rfl rfl rfl rfl ?_;intro v0;refine dd ?_;refine jN.qu (id:=8) _ _ _ _ (.inr rfl) underlying264 underlying3 rfl rfl rfl rfl rfl ?_;intro v1;refine dd ?_;refine jN.qu (id:=8) _ _ _ _ (.inr rfl) underlying264 underlying3 rfl rfl rfl rfl rfl ?_;intro v2;refine dd ?_;refine jN.qu (id:=8) _ _ _ _ (.inr rfl) underlying264 underlying3 rfl rfl rfl rfl rfl ?_;intro v3;refine dd ?_;refine jN.qu (id:=8) _ _ _ _ (.inr rfl) underlying264 underlying3 rfl rfl rfl rfl rfl ?_;intro v4;refine dd ?_;refine jN.qu (id:=8) _ _ _ _ (.inr rfl) underlying264 underlying3 rfl rfl rfl rfl rfl ?_;intro v5;refine dd ?_;refine jN.qu (id:=8) _ _ _ _ (.inr rfl) underlying264 underlying3 rfl rfl rfl rfl rfl ?_;intro v6;refine dd ?_;refine jN.qu (id:=8) _ _ _ _ (.inr rfl) underlying264 underlying3 rfl rfl rfl rfl rfl ?_;intro v8;refine dd ?_;refine jN.qu (id:=8) _ _ _ _ (.inr rfl) underlying264 underlying3 rfl rfl rfl rfl rfl ?_;intro v9;refine dd ?_;refine jN.qu (id:=8) _ _ _ _ (.inr rfl) underlying264 underlying3 rfl rfl rfl rfl rfl ?_;intro v10;refine dd ?_;(refine⟨_,_,fE.DH (id:=8) _ _ _ _ rfl underlying264 underlying3 rfl rfl rfl rfl rfl rfl (hf _ _ _ _ _ _ _ _ _ _) hc,?_⟩;(refine dd ?_))
 refine tc ?_
 refine .inl ⟨rfl,_,_,(zp.forget 8).trans (zp.xy 8 hU rfl rfl rfl hlow rfl),hn⟩
def YI(w:Wor)(m:fq)(X:Ob)(Y:Ob)(j f:Nat)(R:Exit->S->Prop)(hlow:qV 9 ([⟨1,38,8,[zU (w)],0⟩,⟨1,95,44,[zE (m)],0⟩,⟨1,38,8,[iT],0⟩,⟨1,95,44,[iS],0⟩,⟨1,55,23,[zS qH],0⟩,X,⟨1,95,44,[zE (m)],0⟩,⟨1,261,2,[tf],0⟩]++[Y])=true)(hf:∀v0 v1 v2 v3 v4 v5 v6 v8 v9 v10,vL [(0,v0,0),(1,v1,1),(2,v2,2),(3,v3,3),(4,v4,4),(5,v5,5),(6,v6,6),(8,v8,7),(9,v9,8),(10,v10,9)] m.pc=some j)(hc:([.fn 162 [.agg tf] [],.fn 163 [.agg tf] [],.fn 164 [.agg tf] [],.fn 165 [.agg tf] [],.fn 166 [.agg tf] [],.fn 167 [.agg tf] [],.fn 168 [.agg tf] [],.fn 169 [.agg tf] [],.fn 170 [.agg tf] [],.fn 171 [.agg tf] []]:List C)[j]?=some (.fn f [.agg tf] []))
 (hn:qX prog 0 (behind 5 ((f130.body).getD .skip)) ⟨(.za::.za::.ref 0 [] 8 0 0:: .ref 1 [] 44 0 0:: .ref 2 [] 8 0 0:: .ref 3 [] 44 0 0:: .ref 4 [] 23 0 0:: .ref 5 [] 8 0 0:: .ref 6 [] 44 0 0:: .ref 7 [] 2 0 0:: .fn f [.agg tf] []::Bo true:: mC (mC (mC (mC (mC (mC (mC ([])))))))),[⟨1,38,8,[zU (w)],0⟩,⟨1,95,44,[zE (m)],0⟩,⟨1,38,8,[iT],0⟩,⟨1,95,44,[iS],0⟩,⟨1,55,23,[zS qH],0⟩,X,⟨1,95,44,[zE (m)],0⟩,⟨1,261,2,[tf],0⟩]++[Y]⟩ R):qX prog 0 (behind 4 ((f130.body).getD .skip)) ⟨(.za::.za::.ref 0 [] 8 0 0:: .ref 1 [] 44 0 0:: .ref 2 [] 8 0 0:: .ref 3 [] 44 0 0:: .ref 4 [] 23 0 0:: .ref 5 [] 8 0 0:: .ref 6 [] 44 0 0:: .ref 7 [] 2 0 0:: .za::.za::mC (mC (mC (mC (mC (mC (mC ([])))))))),[⟨1,38,8,[zU (w)],0⟩,⟨1,95,44,[zE (m)],0⟩,⟨1,38,8,[iT],0⟩,⟨1,95,44,[iS],0⟩,⟨1,55,23,[zS qH],0⟩,X,⟨1,95,44,[zE (m)],0⟩,⟨1,261,2,[tf],0⟩]++[Y]⟩ R:=by
 refine vH (uH ?_);intro b;refine dd ?_;refine jN.qu (id:=9) _ _ _ _ (.inr rfl) underlying264 underlying3 rfl rfl rfl rfl rfl ?_;intro v0;refine dd ?_;refine jN.qu (id:=9) _ _ _ _ (.inr rfl) underlying264 underlying3 rfl rfl rfl rfl rfl ?_;intro v1;refine dd ?_;refine jN.qu (id:=9) _ _ _ _ (.inr rfl) underlying264 underlying3 rfl rfl rfl rfl rfl ?_;intro v2;refine dd ?_;refine jN.qu (id:=9) _ _ _ _ (.inr rfl) underlying264 underlying3 rfl rfl rfl rfl rfl ?_;intro v3;refine dd ?_;refine jN.qu (id:=9) _ _ _ _ (.inr rfl) underlying264 underlying3 rfl rfl rfl rfl rfl ?_;intro v4;refine dd ?_;refine jN.qu (id:=9) _ _ _ _ (.inr rfl) underlying264 underlying3 rfl rfl rfl rfl rfl ?_;intro v5;refine dd ?_;refine jN.qu (id:=9) _ _ _ _ (.inr rfl) underlying264 underlying3 rfl rfl rfl rfl rfl ?_;intro v6;refine dd ?_;refine jN.qu (id:=9) _ _ _ _ (.inr rfl) underlying264 underlying3 rfl rfl rfl rfl rfl ?_;intro v8;refine dd ?_;refine jN.qu (id:=9) _ _ _ _ (.inr rfl) underlying264 underlying3 rfl rfl rfl rfl rfl ?_;intro v9;refine dd ?_;refine jN.qu (id:=9) _ _ _ _ (.inr rfl) underlying264 underlying3 rfl rfl rfl rfl rfl ?_;intro v10;refine dd ?_;(refine⟨_,_,fE.DH (id:=9) _ _ _ _ rfl underlying264 underlying3 rfl rfl rfl rfl rfl rfl (hf _ _ _ _ _ _ _ _ _ _) hc,?_⟩;(refine dd ?_))
 refine tc ?_
 refine .inl ⟨rfl,_,_,(zp.forget 9).trans (zp.xy 9 hU rfl rfl rfl hlow rfl),hn⟩
def YH(w:Wor)(m:fq)(X:Ob)(Y Z:Ob)(j f:Nat)(R:Exit->S->Prop)(hlow:qV 10 ([⟨1,38,8,[zU (w)],0⟩,⟨1,95,44,[zE (m)],0⟩,⟨1,38,8,[iT],0⟩,⟨1,95,44,[iS],0⟩,⟨1,55,23,[zS qH],0⟩,X,⟨1,95,44,[zE (m)],0⟩,⟨1,261,2,[tf],0⟩]++[Y,Z])=true)(hf:∀v0 v1 v2 v3 v4 v5 v6 v8 v9 v10,vL [(0,v0,0),(1,v1,1),(2,v2,2),(3,v3,3),(4,v4,4),(5,v5,5),(6,v6,6),(8,v8,7),(9,v9,8),(10,v10,9)] m.pc=some j)(hc:([.fn 162 [.agg tf] [],.fn 163 [.agg tf] [],.fn 164 [.agg tf] [],.fn 165 [.agg tf] [],.fn 166 [.agg tf] [],.fn 167 [.agg tf] [],.fn 168 [.agg tf] [],.fn 169 [.agg tf] [],.fn 170 [.agg tf] [],.fn 171 [.agg tf] []]:List C)[j]?=some (.fn f [.agg tf] []))
 (hn:qX prog 0 (behind 5 ((f130.body).getD .skip)) ⟨(.za::.za::.ref 0 [] 8 0 0:: .ref 1 [] 44 0 0:: .ref 2 [] 8 0 0:: .ref 3 [] 44 0 0:: .ref 4 [] 23 0 0:: .ref 5 [] 8 0 0:: .ref 6 [] 44 0 0:: .ref 7 [] 2 0 0:: .fn f [.agg tf] []::Bo true:: mC (mC (mC (mC (mC (mC (mC ([])))))))),[⟨1,38,8,[zU (w)],0⟩,⟨1,95,44,[zE (m)],0⟩,⟨1,38,8,[iT],0⟩,⟨1,95,44,[iS],0⟩,⟨1,55,23,[zS qH],0⟩,X,⟨1,95,44,[zE (m)],0⟩,⟨1,261,2,[tf],0⟩]++[Y,Z]⟩ R):qX prog 0 (behind 4 ((f130.body).getD .skip)) ⟨(.za::.za::.ref 0 [] 8 0 0:: .ref 1 [] 44 0 0:: .ref 2 [] 8 0 0:: .ref 3 [] 44 0 0:: .ref 4 [] 23 0 0:: .ref 5 [] 8 0 0:: .ref 6 [] 44 0 0:: .ref 7 [] 2 0 0:: .za::.za::mC (mC (mC (mC (mC (mC (mC ([])))))))),[⟨1,38,8,[zU (w)],0⟩,⟨1,95,44,[zE (m)],0⟩,⟨1,38,8,[iT],0⟩,⟨1,95,44,[iS],0⟩,⟨1,55,23,[zS qH],0⟩,X,⟨1,95,44,[zE (m)],0⟩,⟨1,261,2,[tf],0⟩]++[Y,Z]⟩ R:=by
 refine vH (uH ?_);intro b;refine dd ?_;refine jN.qu (id:=10) _ _ _ _ (.inr rfl) underlying264 underlying3 rfl rfl rfl rfl rfl ?_;intro v0;refine dd ?_;refine jN.qu (id:=10) _ _ _ _ (.inr rfl) underlying264 underlying3 rfl rfl rfl rfl rfl ?_;intro v1;refine dd ?_;refine jN.qu (id:=10) _ _ _ _ (.inr rfl) underlying264 underlying3 rfl rfl rfl rfl rfl ?_;intro v2;refine dd ?_;refine jN.qu (id:=10) _ _ _ _ (.inr rfl) underlying264 underlying3 rfl rfl rfl rfl rfl ?_;intro v3;refine dd ?_;refine jN.qu (id:=10) _ _ _ _ (.inr rfl) underlying264 underlying3 rfl rfl rfl rfl rfl ?_;intro v4;refine dd ?_;refine jN.qu (id:=10) _ _ _ _ (.inr rfl) underlying264 underlying3 rfl rfl rfl rfl rfl ?_;intro v5;refine dd ?_;refine jN.qu (id:=10) _ _ _ _ (.inr rfl) underlying264 underlying3 rfl rfl rfl rfl rfl ?_;intro v6;refine dd ?_;refine jN.qu (id:=10) _ _ _ _ (.inr rfl) underlying264 underlying3 rfl rfl rfl rfl rfl ?_;intro v8;refine dd ?_;refine jN.qu (id:=10) _ _ _ _ (.inr rfl) underlying264 underlying3 rfl rfl rfl rfl rfl ?_;intro v9;refine dd ?_;refine jN.qu (id:=10) _ _ _ _ (.inr rfl) underlying264 underlying3 rfl rfl rfl rfl rfl ?_;intro v10;refine dd ?_;(refine⟨_,_,fE.DH (id:=10) _ _ _ _ rfl underlying264 underlying3 rfl rfl rfl rfl rfl rfl (hf _ _ _ _ _ _ _ _ _ _) hc,?_⟩;(refine dd ?_))
 refine tc ?_
 refine .inl ⟨rfl,_,_,(zp.forget 10).trans (zp.xy 10 hU rfl rfl rfl hlow rfl),hn⟩
def jP{w w':Wor}{m m':fq}{e:fx}(sw:jf w)(ok:iC w)(hl:i64 m.listen)(hs:z7 w m=true)(hm:tn 161 [] [Cw w,Cm m] (Bo true) [])(j f:Nat)(hcb:qm prog f=true)(hf:∀v0 v1 v2 v3 v4 v5 v6 v8 v9 v10,vL [(0,v0,0),(1,v1,1),(2,v2,2),(3,v3,3),(4,v4,4),(5,v5,5),(6,v6,6),(8,v8,7),(9,v9,8),(10,v10,9)] m.pc=some j)(hc:([.fn 162 [.agg tf] [],.fn 163 [.agg tf] [],.fn 164 [.agg tf] [],.fn 165 [.agg tf] [],.fn 166 [.agg tf] [],.fn 167 [.agg tf] [],.fn 168 [.agg tf] [],.fn 169 [.agg tf] [],.fn 170 [.agg tf] [],.fn 171 [.agg tf] []]:List C)[j]?=some (.fn f [.agg tf] []))
 (h:tn f [⟨1,38,8,[zU (w)],0⟩,⟨1,95,44,[zE (m)],0⟩] [.agg tj] (Ce e) [⟨1,38,8,[zU (w')],0⟩,⟨1,95,44,[zE (m')],0⟩]):tn 130 [] [Cw w,Cm m] (.fC [Cw w',Cm m',Ce e]) []:=by
 refine zb.BM func130 rfl ?_;show qX prog 0 ((f130.body).getD .skip) _ _;refine vH (uH ?_);refine .inl ⟨rfl,_,_,.refl _,vH (uH ?_)⟩;refine ah (zR w m ok hl) ?_;refine⟨λ_=>dd ?_,λh=>absurd ((hs).symm.trans h:true=false) ar⟩;refine tc ?_
 refine ah hm ?_;refine tc ?_
 refine .inl ⟨rfl,_,_,.refl _,vH (uH ?_)⟩;refine .inr ⟨⟨[0,1,2],[0,1],true⟩,au,λ_=>rfl,λt H=>t=(.za::.za::.ref 0 [] 8 0 0:: .ref 1 [] 44 0 0:: .ref 2 [] 8 0 0:: .ref 3 [] 44 0 0:: .ref 4 [] 23 0 0:: .ref 5 [] 8 0 0:: .ref 6 [] 44 0 0:: .za::.za::.za::mC (mC (mC (mC (mC (mC (mC ([]))))))))/\H=[⟨1,38,8,[zU (w)],0⟩,⟨1,95,44,[zE (m)],0⟩,⟨1,38,8,[iT],0⟩,⟨1,95,44,[iS],0⟩,⟨1,55,23,[zS qH],0⟩,⟨1,38,8,[zU (w)],0⟩,⟨1,95,44,[zE (m)],0⟩],?_,?_⟩
 ·conv=>whnf
  refine⟨_,ai [] (qE w sw),uH ?_⟩;repeat' (first|(exact trivial)|(refine⟨rfl,uH ?_⟩)|(exact⟨_,_,zp.fD [0,1,2,3,4,5,6] [2,3,4,5,6,7,8] _ _ rfl rfl rfl rfl,rfl,rfl⟩)|(exact⟨_,_,zp.fD [0,1,2,3,4,6,5] [2,3,4,5,6,7,8] _ _ rfl rfl rfl rfl,rfl,rfl⟩)|(refine And.intro ?_ ?_ <;> (conv=>whnf)))
 rintro _ _ ⟨rfl,rfl⟩;conv=>whnf
 refine .inl ⟨rfl,_,_,.refl _,vH (uH ?_)⟩;refine .inl ⟨rfl,_,_,cE 8,YJ w m (⟨1,38,8,[zU (w)],0⟩) j f _ rfl hf hc ?_⟩;(refine jD (K:=λex t H=>(ex=.ret\/ex=.normal)/\∃s2,zp 0 ⟨t,H⟩ s2/\(vJ prog f130 s2).map (yw 0 9)=some (.fC [Cw w',Cm m',Ce e])) (uH ?_))
 rw[hcb];refine af [5,6] (h) ?_;refine .inl ⟨⟨false,[0,1,2],[5,6,8],[]⟩,au,uH ?_⟩;refine hZ ?_
 exact uI
def RO{w:Wor}{m m':fq}{e:fx}{ls:List fQ}(sw:jf w)(ok:iC w)(hl:i64 m.listen)(hs:z7 w m=true)(hm:tn 161 [] [Cw w,Cm m] (Bo true) [])(j f:Nat)(hcb:qm prog f=true)(hf:∀v0 v1 v2 v3 v4 v5 v6 v8 v9 v10,vL [(0,v0,0),(1,v1,1),(2,v2,2),(3,v3,3),(4,v4,4),(5,v5,5),(6,v6,6),(8,v8,7),(9,v9,8),(10,v10,9)] m.pc=some j)(hc:([.fn 162 [.agg tf] [],.fn 163 [.agg tf] [],.fn 164 [.agg tf] [],.fn 165 [.agg tf] [],.fn 166 [.agg tf] [],.fn 167 [.agg tf] [],.fn 168 [.agg tf] [],.fn 169 [.agg tf] [],.fn 170 [.agg tf] [],.fn 171 [.agg tf] []]:List C)[j]?=some (.fn f [.agg tf] []))
 (hne:w.zd≠[])(hll:ls.length=w.zd.length)(h:tn f [⟨1,38,8,[[I w.zr,I w.current,I w.lock,lI w.pins,lV w.ze,.sl 2 [] 4 0 w.zd.length false,ig w.counts,lR w.zu]],0⟩,⟨1,95,44,[zE (m)],0⟩,⟨2,76,4,(w.zd).map qW,0⟩] [.agg tj] (Ce e) [⟨1,38,8,[[I w.zr,I w.current,I w.lock,lI w.pins,lV w.ze,.sl 2 [] 4 0 w.zd.length false,ig w.counts,lR w.zu]],0⟩,⟨1,95,44,[zE (m')],0⟩,⟨2,76,4,(ls).map qW,0⟩]):tn 130 [] [Cw w,Cm m] (.fC [Cw { w with zd:=ls },Cm m',Ce e]) []:=by
 obtain⟨x,l,hx⟩:=ug hne;refine zb.BM func130 rfl ?_;show qX prog 0 ((f130.body).getD .skip) _ _;refine vH (uH ?_);refine .inl ⟨rfl,_,_,.refl _,vH (uH ?_)⟩;refine ah (zR w m ok hl) ?_;refine⟨λ_=>dd ?_,λh=>absurd ((hs).symm.trans h:true=false) ar⟩;refine tc ?_
 refine ah hm ?_;refine tc ?_
 refine .inl ⟨rfl,_,_,.refl _,vH (uH ?_)⟩;refine .inr ⟨⟨[0,2],[0,1],true⟩,au,λ_=>rfl,λt H=>t=(.za::.za::.ref 0 [] 8 0 0:: .ref 1 [] 44 0 0:: .ref 2 [] 8 0 0:: .ref 3 [] 44 0 0:: .ref 4 [] 23 0 0:: .ref 5 [] 8 0 0:: .ref 6 [] 44 0 0:: .za::.za::.za::mC (mC (mC (mC (mC (mC (mC ([]))))))))/\H=[⟨1,38,8,[zU (w)],0⟩,⟨1,95,44,[zE (m)],0⟩,⟨1,38,8,[iT],0⟩,⟨1,95,44,[iS],0⟩,⟨1,55,23,[zS qH],0⟩,⟨1,38,8,[[I w.zr,I w.current,I w.lock,lI w.pins,lV w.ze,.sl 7 [] 4 0 w.zd.length false,ig w.counts,lR w.zu]],0⟩,⟨1,95,44,[zE (m)],0⟩,⟨2,76,4,(w.zd).map qW,0⟩],?_,?_⟩
 ·conv=>whnf
  repeat' (first|(exact trivial)|(refine⟨rfl,uH ?_⟩)|(refine zn [] (vu w sw x l hx) rfl rfl rfl rfl rfl rfl (uH ?_))|(exact⟨_,_,zp.fD [0,1,2,3,4,5,6,7] [2,3,4,5,6,7,8] _ _ rfl rfl rfl rfl,rfl,rfl⟩)|(exact⟨_,_,zp.fD [0,1,2,3,4,5,7,6] [2,3,4,5,6,7,8] _ _ rfl rfl rfl rfl,rfl,rfl⟩)|(exact⟨_,_,zp.fD [0,1,2,3,4,6,5,7] [2,3,4,5,6,7,8] _ _ rfl rfl rfl rfl,rfl,rfl⟩)|(exact⟨_,_,zp.fD [0,1,2,3,4,6,7,5] [2,3,4,5,6,7,8] _ _ rfl rfl rfl rfl,rfl,rfl⟩)|(exact⟨_,_,zp.fD [0,1,2,3,4,7,5,6] [2,3,4,5,6,7,8] _ _ rfl rfl rfl rfl,rfl,rfl⟩)|(exact⟨_,_,zp.fD [0,1,2,3,4,7,6,5] [2,3,4,5,6,7,8] _ _ rfl rfl rfl rfl,rfl,rfl⟩)|(refine And.intro ?_ ?_ <;> (conv=>whnf)))
 rintro _ _ ⟨rfl,rfl⟩;conv=>whnf
 refine .inl ⟨rfl,_,_,.refl _,vH (uH ?_)⟩;refine .inl ⟨rfl,_,_,(zp.fD [0,1,2,3,4,5,6,8,7] [2,3,4,5,6,7,8,9] _ _ rfl rfl rfl rfl).trans (cC),YI w m (⟨1,38,8,[[I w.zr,I w.current,I w.lock,lI w.pins,lV w.ze,.sl 8 [] 4 0 w.zd.length false,ig w.counts,lR w.zu]],0⟩) (⟨2,76,4,(w.zd).map qW,0⟩) j f _ rfl hf hc ?_⟩;(refine jD (K:=λex t H=>(ex=.ret\/ex=.normal)/\∃s2,zp 0 ⟨t,H⟩ s2/\(vJ prog f130 s2).map (yw 0 9)=some (.fC [Cw { w with zd:=ls },Cm m',Ce e])) (uH ?_))
 rw[hcb];refine af [5,6,8] (h) ?_;refine .inl ⟨⟨false,[0,1,2],[5,6,9],[]⟩,au,uH ?_⟩;refine hZ ?_
 exact dP
def Ro(w:Wor)(h:jf w)(x:fT)(l:List fT)(hx:w.zu=x::l):tn 152 [] [Cw w] (.agg [I w.zr,I w.current,I w.lock,lI w.pins,.sl 0 [] 5 0 w.ze.length false,lL w.zd,ig w.counts,.sl 1 [] 3 0 w.zu.length false]) [⟨2,69,5,(w.ze).map zK,0⟩,⟨2,254,3,(w.zu).map xH,0⟩]:=by
 have hl:l.length<1000000000:=by have:=h.zu;rw[hx]at this;exact de
 have hc:=M4 x l hl;rw[<-hx]at hc;refine BO (fn:=f152) func152 rfl (uH ?_);refine ah (vt w.pins h.pins) ?_;refine af [] (Bc w.ze h.ze.1 λv hv=>jR v (h.ze.2 v hv)) ?_;refine ah (ky w.zd h.zd) ?_;refine af [] (Bb w.counts h.counts.1 λr hr=>yh r (h.counts.2 r hr)) ?_;refine af [] (hc) ?_;refine⟨.inl rfl,_,_,zp.zV 1 0 6 rfl rfl rfl rfl (.inr rfl) rfl aj (shut_map (enc:=zP) (λ_=>rfl) w.counts) (z6 rfl),rfl,?_⟩;exact zp.fD [3,5] [0] _ _ rfl rfl rfl (zc rfl (zc rfl (zc rfl (zc rfl (zc (zj λr hr c hc=>((shut_map (enc:=zP) (λ_=>rfl) w.counts) r hr c hc).2) rfl)))))
def RN{w:Wor}{m m':fq}{e:fx}{vs:List fB}{rs:List fT}(sw:jf w)(ok:iC w)(hl:i64 m.listen)(hs:z7 w m=true)(hm:tn 161 [] [Cw w,Cm m] (Bo true) [])(j f:Nat)(hcb:qm prog f=true)(hf:∀v0 v1 v2 v3 v4 v5 v6 v8 v9 v10,vL [(0,v0,0),(1,v1,1),(2,v2,2),(3,v3,3),(4,v4,4),(5,v5,5),(6,v6,6),(8,v8,7),(9,v9,8),(10,v10,9)] m.pc=some j)(hc:([.fn 162 [.agg tf] [],.fn 163 [.agg tf] [],.fn 164 [.agg tf] [],.fn 165 [.agg tf] [],.fn 166 [.agg tf] [],.fn 167 [.agg tf] [],.fn 168 [.agg tf] [],.fn 169 [.agg tf] [],.fn 170 [.agg tf] [],.fn 171 [.agg tf] []]:List C)[j]?=some (.fn f [.agg tf] []))
 (hne:w.ze≠[])(hne2:w.zu≠[])(hvl:vs.length=w.ze.length)(hrl:rs.length=w.zu.length)(h:tn f [⟨1,38,8,[[I w.zr,I w.current,I w.lock,lI w.pins,.sl 2 [] 5 0 w.ze.length false,lL w.zd,ig w.counts,.sl 3 [] 3 0 w.zu.length false]],0⟩,⟨1,95,44,[zE (m)],0⟩,⟨2,69,5,(w.ze).map zK,0⟩,⟨2,254,3,(w.zu).map xH,0⟩] [.agg tj] (Ce e) [⟨1,38,8,[[I w.zr,I w.current,I w.lock,lI w.pins,.sl 2 [] 5 0 w.ze.length false,lL w.zd,ig w.counts,.sl 3 [] 3 0 w.zu.length false]],0⟩,⟨1,95,44,[zE (m')],0⟩,⟨2,69,5,(vs).map zK,0⟩,⟨2,254,3,(rs).map xH,0⟩]):tn 130 [] [Cw w,Cm m] (.fC [Cw { w with ze:=vs,zu:=rs },Cm m',Ce e]) []:=by
 obtain⟨v,vl,hv⟩:=ug hne;obtain⟨r,rl,hr⟩:=ug hne2;refine zb.BM func130 rfl ?_;show qX prog 0 ((f130.body).getD .skip) _ _;refine vH (uH ?_);refine .inl ⟨rfl,_,_,.refl _,vH (uH ?_)⟩;refine ah (zR w m ok hl) ?_;refine⟨λ_=>dd ?_,λh=>absurd ((hs).symm.trans h:true=false) ar⟩;refine tc ?_
 refine ah hm ?_;refine tc ?_
 refine .inl ⟨rfl,_,_,.refl _,vH (uH ?_)⟩;refine .inr ⟨⟨[0,2],[0,1],true⟩,au,λ_=>rfl,λt H=>t=(.za::.za::.ref 0 [] 8 0 0:: .ref 1 [] 44 0 0:: .ref 2 [] 8 0 0:: .ref 3 [] 44 0 0:: .ref 4 [] 23 0 0:: .ref 5 [] 8 0 0:: .ref 6 [] 44 0 0:: .za::.za::.za::mC (mC (mC (mC (mC (mC (mC ([]))))))))/\H=[⟨1,38,8,[zU (w)],0⟩,⟨1,95,44,[zE (m)],0⟩,⟨1,38,8,[iT],0⟩,⟨1,95,44,[iS],0⟩,⟨1,55,23,[zS qH],0⟩,⟨1,38,8,[[I w.zr,I w.current,I w.lock,lI w.pins,.sl 7 [] 5 0 w.ze.length false,lL w.zd,ig w.counts,.sl 8 [] 3 0 w.zu.length false]],0⟩,⟨1,95,44,[zE (m)],0⟩,⟨2,69,5,(w.ze).map zK,0⟩,⟨2,254,3,(w.zu).map xH,0⟩],?_,?_⟩
 ·conv=>whnf
  repeat' (first|(exact trivial)|(refine⟨rfl,uH ?_⟩)|(refine zn [] (Ro w sw r rl hr) rfl rfl rfl rfl rfl rfl (uH ?_))|(exact⟨_,_,zp.fD [0,1,2,3,4,5,6,7,8] [2,3,4,5,6,7,8] _ _ rfl rfl rfl rfl,rfl,rfl⟩)|(exact⟨_,_,zp.fD [0,1,2,3,4,5,6,8,7] [2,3,4,5,6,7,8] _ _ rfl rfl rfl rfl,rfl,rfl⟩)|(exact⟨_,_,zp.fD [0,1,2,3,4,5,7,6,8] [2,3,4,5,6,7,8] _ _ rfl rfl rfl rfl,rfl,rfl⟩)|(exact⟨_,_,zp.fD [0,1,2,3,4,5,7,8,6] [2,3,4,5,6,7,8] _ _ rfl rfl rfl rfl,rfl,rfl⟩)|(exact⟨_,_,zp.fD [0,1,2,3,4,5,8,6,7] [2,3,4,5,6,7,8] _ _ rfl rfl rfl rfl,rfl,rfl⟩)|(exact⟨_,_,zp.fD [0,1,2,3,4,5,8,7,6] [2,3,4,5,6,7,8] _ _ rfl rfl rfl rfl,rfl,rfl⟩)|(exact⟨_,_,zp.fD [0,1,2,3,4,6,5,7,8] [2,3,4,5,6,7,8] _ _ rfl rfl rfl rfl,rfl,rfl⟩)|(exact⟨_,_,zp.fD [0,1,2,3,4,6,5,8,7] [2,3,4,5,6,7,8] _ _ rfl rfl rfl rfl,rfl,rfl⟩)|(exact⟨_,_,zp.fD [0,1,2,3,4,6,7,5,8] [2,3,4,5,6,7,8] _ _ rfl rfl rfl rfl,rfl,rfl⟩)|(exact⟨_,_,zp.fD [0,1,2,3,4,6,7,8,5] [2,3,4,5,6,7,8] _ _ rfl rfl rfl rfl,rfl,rfl⟩)|(exact⟨_,_,zp.fD [0,1,2,3,4,6,8,5,7] [2,3,4,5,6,7,8] _ _ rfl rfl rfl rfl,rfl,rfl⟩)|(exact⟨_,_,zp.fD [0,1,2,3,4,6,8,7,5] [2,3,4,5,6,7,8] _ _ rfl rfl rfl rfl,rfl,rfl⟩)|(exact⟨_,_,zp.fD [0,1,2,3,4,7,5,6,8] [2,3,4,5,6,7,8] _ _ rfl rfl rfl rfl,rfl,rfl⟩)|(exact⟨_,_,zp.fD [0,1,2,3,4,7,5,8,6] [2,3,4,5,6,7,8] _ _ rfl rfl rfl rfl,rfl,rfl⟩)|(exact⟨_,_,zp.fD [0,1,2,3,4,7,6,5,8] [2,3,4,5,6,7,8] _ _ rfl rfl rfl rfl,rfl,rfl⟩)|(exact⟨_,_,zp.fD [0,1,2,3,4,7,6,8,5] [2,3,4,5,6,7,8] _ _ rfl rfl rfl rfl,rfl,rfl⟩)|(exact⟨_,_,zp.fD [0,1,2,3,4,7,8,5,6] [2,3,4,5,6,7,8] _ _ rfl rfl rfl rfl,rfl,rfl⟩)|(exact⟨_,_,zp.fD [0,1,2,3,4,7,8,6,5] [2,3,4,5,6,7,8] _ _ rfl rfl rfl rfl,rfl,rfl⟩)|(exact⟨_,_,zp.fD [0,1,2,3,4,8,5,6,7] [2,3,4,5,6,7,8] _ _ rfl rfl rfl rfl,rfl,rfl⟩)|(exact⟨_,_,zp.fD [0,1,2,3,4,8,5,7,6] [2,3,4,5,6,7,8] _ _ rfl rfl rfl rfl,rfl,rfl⟩)|(exact⟨_,_,zp.fD [0,1,2,3,4,8,6,5,7] [2,3,4,5,6,7,8] _ _ rfl rfl rfl rfl,rfl,rfl⟩)|(exact⟨_,_,zp.fD [0,1,2,3,4,8,6,7,5] [2,3,4,5,6,7,8] _ _ rfl rfl rfl rfl,rfl,rfl⟩)|(exact⟨_,_,zp.fD [0,1,2,3,4,8,7,5,6] [2,3,4,5,6,7,8] _ _ rfl rfl rfl rfl,rfl,rfl⟩)|(exact⟨_,_,zp.fD [0,1,2,3,4,8,7,6,5] [2,3,4,5,6,7,8] _ _ rfl rfl rfl rfl,rfl,rfl⟩)|(refine And.intro ?_ ?_ <;> (conv=>whnf)))
 rintro _ _ ⟨rfl,rfl⟩;conv=>whnf
 refine .inl ⟨rfl,_,_,.refl _,vH (uH ?_)⟩;refine .inl ⟨rfl,_,_,(zp.fD [0,1,2,3,4,5,6,9,7,8] [2,3,4,5,6,7,8,9] _ _ rfl rfl rfl rfl).trans (cC),YH w m (⟨1,38,8,[[I w.zr,I w.current,I w.lock,lI w.pins,.sl 8 [] 5 0 w.ze.length false,lL w.zd,ig w.counts,.sl 9 [] 3 0 w.zu.length false]],0⟩) (⟨2,69,5,(w.ze).map zK,0⟩) (⟨2,254,3,(w.zu).map xH,0⟩) j f _ rfl hf hc ?_⟩;(refine jD (K:=λex t H=>(ex=.ret\/ex=.normal)/\∃s2,zp 0 ⟨t,H⟩ s2/\(vJ prog f130 s2).map (yw 0 9)=some (.fC [Cw { w with ze:=vs,zu:=rs },Cm m',Ce e])) (uH ?_))
 rw[hcb];refine af [5,6,8,9] (h) ?_;refine .inl ⟨⟨false,[0,1,2],[5,6,10],[]⟩,au,uH ?_⟩;refine hZ ?_
 exact⟨.inl rfl,_,(zp.zV 2 0 4 rfl rfl rfl rfl (.inr rfl) aj (by rw[gE];exact hvl.symm) (shut_map (enc:=zK) (λ_=>rfl) _) (z6 rfl)).trans (zp.zV 2 0 7 rfl rfl rfl rfl (.inr rfl) aj (by rw[gE];exact hrl.symm) (shut_map (enc:=xH) (λ_=>rfl) _) (z6 rfl)),rfl⟩
end Go.Wor
