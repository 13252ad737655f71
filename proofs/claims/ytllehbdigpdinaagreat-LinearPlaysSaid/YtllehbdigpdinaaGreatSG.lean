import Derived.Test.YtllehbdigpdinaaGreatSV
import Derived.Test.YtllehbdigpdinaaGreatSW
set_option linter.all false
set_option maxRecDepth 100000
set_option maxHeartbeats 4000000
namespace Go.Wor
open Go.Ab Go.Proofs Tryz Go.Hy Go.Gat Go.Nam Go.Hos Go.Con Go.Sna
def Te(l:List fq)(s:eZ)(hl:l.length<4611686018427387904):
  tn 114 [⟨2,144,4,(l).map qN,0⟩,⟨1,9,1,[[Tx s]],0⟩] [.sl 0 [] 4 0 l.length false,.fn 115 [] [.ref 1 [] 1 0 0]] (I (zx l s)) [⟨2,144,4,(l).map qN,0⟩,⟨1,9,1,[[Tx s]],0⟩]:=by
 refine aa func114 ?_;refine qa.seq l.length (λk=>(.sl 0 [] 4 0 l.length false::.fn 115 [] [.ref 1 [] 1 0 0]::.za::.za::I 0::.za::.za::I l.length::I k::hU ([.za,.za]))) (λk=>[⟨2,144,4,(l).map qN,0⟩,⟨1,9,1,[[Tx s]],0⟩]) (λk=>∀j,(h:j<l.length)->j<k->(l[j].name == s)=false) ?_ aj (λk hk hr=>?_) (λhr=>?_)
 ·exact cC
 ·have hg:(l.map qN)[k]?=some (qN l[k]):=by rw[gj,dZ hk];rfl
  have e1:0+(k:Int).toNat=k:=aj
  conv=>whnf
  refine uF ?_;refine⟨aw,aq hk,dd ?_⟩;rw[e1];refine⟨_,hg,(by show 0+4<=4;decide),dd ?_⟩;refine af [1] (MU s l[k]) ?_;refine⟨λh2=>?_,λh2=>?_⟩
  ·refine dd ?_;refine .inr ⟨aj,uH ?_⟩
   have e:zx l s=k:=by
    unfold zx
    have:l.findIdx? (λx=>x.name == s)=some k:=by
     exact dQ
    rw[this]
   rw[e];exact cW
  ·refine dd ?_;refine .inl ⟨rfl,?_,λj hj hjk=>?_⟩
   ·rw[zw aw];exact cE 2
   ·by_cases e:j=k
    ·subst e;exact h2
    ·exact hr j hj aw
 ·refine uD ?_
  have e:zx l s= -1:=by
   unfold zx
   have:l.findIdx? (λx=>x.name == s)=none:=by
    rw[gP];intro x hx;obtain⟨j,hj,rfl⟩:=pz.1 hx;exact hr j hj hj
   rw[this]
  rw[e];exact cW
def RU(l:List fq)(s:eZ)(hl:l.length<4611686018427387904):tn 66 [⟨2,144,4,(l).map qN,0⟩] [.sl 0 [] 4 0 l.length false,Tx s] (I (zx l s)) [⟨2,144,4,(l).map qN,0⟩]:=by
 refine aa func66 ?_;refine af [0,1] (Te l s hl) ?_;exact dM
def Lr(m:eR)(e:eV)(a:ff):tn 170 [oM m,⟨1,270,24,[.ref 0 [] 44 0 0::j3 (e)],0⟩] [.ref 1 [] 24 0 0,.agg (x3 a)] (.fb []) [oM ({m with done:=true,answer:=a}),⟨1,270,24,[.ref 0 [] 44 0 0::j3 ({e with done:=true,answer:=a})],0⟩]:=by
 refine aa func170 ?_;refine .inl ⟨⟨false,[3,7,8],[1,2],[]⟩,au,uH ?_⟩;refine hZ ?_
 refine .inl ⟨⟨false,[2],[2],[]⟩,au,uH ?_⟩;refine hZ ?_
 exact⟨.inr O,_,_,.refl _,rfl,cE 2⟩
abbrev GR(m:eR):eV:={qz with zf:=m.zf,access:=1,version:= -1}
def RA(w:Wor)(m:eR)(sw:q8 w)(ok:fY w)(hl:i64 m.listen)(hpc:m.pc=0)(hs:zY w m=true)(hi:zx w.zd m.op.listen<0):
  tn 136 [] [Cw w,Cm m] (.fb [Cw w,Cm {m with done:=true,answer:=lH 7},Ce {GR m with done:=true,answer:=lH 7}]) []:=by
 refine ab func136 ?_;refine⟨λh=>absurd h (by simp[hpc]),λ_=>dd ?_⟩;refine ah (zO w m ok hl) ?_;refine⟨λ_=>dd ?_,λh=>absurd ((hs).symm.trans h:true=false) ar⟩;refine tc ?_
 refine ah (qw w sw) ?_;refine ah (E4 w.zd m.op.listen (by have:=ok.zd.1;omega)) ?_;refine⟨λ_=>dd ?_,λh=>absurd h (aq hi)⟩;refine af [1,5] (Lr m (GR m) (lH 7)) ?_;refine .inl ⟨⟨false,[0,1,5],[0,1,5],[]⟩,au,uH ?_⟩;refine hZ ?_
 exact uI
abbrev Kc(m:eR):eV:={qz with zf:=m.zf,access:=2,cell:=4,version:= -1,value:=1,zI:=true}
def Rp(w:Wor)(m:eR)(x:fq)(sw:q8 w)(ok:fY w)(hl:i64 m.listen)(hpc:m.pc=0)(hs:zY w m=true)(hi:0<=zx w.zd m.op.listen)(hx:w.zd[(zx w.zd m.op.listen).toNat]?=some x):
  tn 136 [] [Cw w,Cm m] (.fb [Cw {w with zd:=w.zd.set (zx w.zd m.op.listen).toNat (Go.Gat.yD x)},Cm {m with listen:=zx w.zd m.op.listen,done:=true,answer:=⟨10,0,0,0,0,zx w.zd m.op.listen,0,⟨0,0,0,0,0,0⟩⟩},Ce {Kc m with done:=true,answer:=⟨10,0,0,0,0,zx w.zd m.op.listen,0,⟨0,0,0,0,0,0⟩⟩}]) []:=by
 generalize hp:zx w.zd m.op.listen=p at hi hx;have lt:p.toNat<w.zd.length:=(dY.1 hx).1;have gl:(w.zd.map qN)[p.toNat]?=some (qN x):=by rw[gj,hx];rfl
 have hst:(w.zd.map qN).set p.toNat [Tx (Go.Gat.yD x).name,Bo (Go.Gat.yD x).drain,I (Go.Gat.yD x).zi,Bo (Go.Gat.yD x).closed]=(w.zd.set p.toNat (Go.Gat.yD x)).map qN:=bT
 have e1:0+p.toNat=p.toNat:=gI _
 obtain⟨y,l,hy⟩:∃y l,w.zd=y::l:=by
  cases h:w.zd with
  |nil=>rw[h]at lt;simp at lt
  |cons y l=>exact⟨y,l,rfl⟩
 have hpl:=RU w.zd m.op.listen (by have:=ok.zd.1;omega);rw[hp]at hpl;refine ab func136 ?_;refine⟨λh=>absurd h (by simp[hpc]),λ_=>dd ?_⟩;refine ah (zO w m ok hl) ?_;refine⟨λ_=>dd ?_,λh=>absurd ((hs).symm.trans h:true=false) ar⟩;refine tc ?_
 refine af [] (vx w sw y l hy) ?_;refine af [5] (hpl) ?_;refine⟨λh=>absurd h aA,λ_=>dd ?_⟩;refine .inl ⟨⟨true,[1,4],[0],[8]⟩,au,uH ?_⟩;refine hZ ?_
 refine⟨hi,lt,dd ?_⟩;rw[e1];refine⟨_,gl,(by show 0+4<=4;decide),dd ?_⟩;refine ah (Go.Gat.SJ x) ?_;refine⟨hi,lt,dd ?_⟩;rw[e1];refine⟨_,gl,rfl,dd ?_⟩;refine hZ ?_
 rw[hst];refine af [1,6] (Lr {m with listen:=p} (Kc m) ⟨10,0,0,0,0,p,0,⟨0,0,0,0,0,0⟩⟩) ?_;refine .inl ⟨⟨false,[0,1,5],[0,1,6],[]⟩,au,uH ?_⟩;refine hZ ?_
 exact⟨.inl O,_,zn.zS 2 0 5 O O O O (.inr O) aj aj (shut_map (enc:=qN) (λ_=>O) _) (z5 O),rfl⟩
abbrev iA(m:eR)(p i:Int):eR:={m with pc:=p,i:=i}
def qE(m:eR)(a b c:Int):tn 221 [oM m] [.agg [.za,.ref 0 [] 44 0 0],I a,I b,I c] (Ce (fx m a b c)) [oM m]:=by
 refine aa func221 ?_;refine hZ ?_;exact dM
def xt(m:eR)(p i:Int):tn 222 [oM m] [.agg [.za,.ref 0 [] 44 0 0],I p,I i] (.fb []) [oM ({m with pc:=p,i:=i})]:=by
 refine aa func222 ?_;refine .inl ⟨⟨false,[1,3],[1],[]⟩,au,uH ?_⟩;refine hZ ?_
 exact⟨.inr O,_,_,.refl _,rfl,cE 1⟩
def Ln(m:eR)(e:eV)(a:ff):tn 220 [oM m] [.agg [.za,.ref 0 [] 44 0 0],Ce e,.agg (x3 a)] (Ce {e with done:=true,answer:=a}) [oM ({m with done:=true,answer:=a})]:=by
 refine aa func220 ?_;refine .inl ⟨⟨false,[1,3,4],[1,3],[]⟩,au,uH ?_⟩;refine hZ ?_
 refine .inl ⟨⟨false,[0],[3],[]⟩,au,uH ?_⟩;refine hZ ?_
 refine hZ ?_;exact dM
def Re(w:Wor)(m:eR):tn 174 [oW w,oM m] [.agg tj] (Ce (fx m 1 1 w.zo)) [oW w,oM ({m with zo:=w.zo,pc:=2,i:=0})]:=by
 refine aa func174 ?_;refine .inl ⟨⟨false,[1,3,6],[0,2],[]⟩,au,uH ?_⟩;refine hZ ?_
 refine af [1] (xt {m with zo:=w.zo} 2 0) ?_;refine .inl ⟨⟨true,[],[],[]⟩,au,uH ?_⟩;refine af [1] (qE {m with zo:=w.zo,pc:=2,i:=0} 1 1 w.zo) ?_;exact df
def R6(w:Wor)(m:eR)(h:w.lock≠0):tn 173 [oW w,oM m] [.agg tj] (Ce {fx m 5 14 1 with done:=true,answer:=lH 12}) [oW w,oM ({m with done:=true,answer:=lH 12})]:=by
 refine aa func173 ?_;refine⟨λ_=>dd ?_,λhh=>absurd hh (aq h)⟩;refine .inl ⟨⟨true,[0,1],[2],[2]⟩,au,uH ?_⟩;refine af [1] (qE m 5 14 1) ?_;refine hZ ?_
 refine af [1] (Ln m (fx m 5 14 1) (lH 12)) ?_;exact df
def RM(w:Wor)(m:eR)(h:w.lock=0):tn 173 [oW w,oM m] [.agg tj] (Ce (fx m 4 14 1)) [oW ({w with lock:=1}),oM ({m with pc:=1})]:=by
 refine aa func173 ?_;refine⟨λhh=>absurd hh aI,λ_=>dd ?_⟩;refine .inl ⟨⟨false,[1,3],[2],[]⟩,au,uH ?_⟩;refine hZ ?_
 refine af [1] (qE {m with pc:=1} 4 14 1) ?_;exact df
def Az(w:Wor)(m:eR)(p:Int):eR:=if p≠0/\p≠IntKind.i64.wrap (m.zo+1) then iA m 4 0 else if IntKind.i64.wrap (m.i+1)<w.pins.length then {m with i:=IntKind.i64.wrap (m.i+1)} else iA m 3 (IntKind.i64.wrap (m.i+1))
def RL(w:Wor)(m:eR)(p:Int)(h0:0<=m.i)(hp:w.pins[m.i.toNat]?=some p):tn 175 [oW w,oM m] [.agg tj] (Ce (fx m 1 2 p)) [oW w,oM (Az w m p)]:=by
 have hg:(w.pins.map encI)[m.i.toNat]?=some (encI p):=by rw[gj,hp];rfl
 have ml:(w.pins.map encI).length=w.pins.length:=gp ..;refine aa func175 ?_;refine uE ?_;(refine⟨h0,_,hg,dd ?_⟩)
 refine⟨λq1=>?_,λq1=>?_⟩
 ·refine dd ?_;refine⟨λq2=>?_,λq2=>?_⟩
  ·rw[show Az w m p=iA m 4 0 from gk ⟨aq q1,aq q2⟩];refine dd ?_;refine tc ?_
   refine af [1] (xt m 4 0) ?_;refine af [1] (qE (iA m 4 0) 1 2 p) ?_;exact df
  ·have q:¬(p≠0/\p≠IntKind.i64.wrap (m.zo+1)):=λhh=>hh.2 (aq q2)
   refine dd ?_;refine tc ?_
   (rw[show Az w m p=_ from gf q]);refine uE ?_;(rw[ml]);refine⟨λq3=>?_,λq3=>?_⟩;(focus ((rw[gk (aq q3)]);refine dd ?_;refine af [1] (qE {m with i:=IntKind.i64.wrap (m.i+1)} 1 2 p) ?_;refine hZ ?_;exact⟨.inl O,_,_,.refl _,rfl,cE 2⟩));(rw[gf (aq q3)]);refine dd ?_;refine .inl ⟨⟨true,[],[],[]⟩,au,uH ?_⟩;refine af [1] (xt m 3 (IntKind.i64.wrap (m.i+1))) ?_;refine hZ ?_;refine af [1] (qE (iA m 3 (IntKind.i64.wrap (m.i+1))) 1 2 p) ?_;exact df
 ·have q:¬(p≠0/\p≠IntKind.i64.wrap (m.zo+1)):=λhh=>hh.1 (aq q1)
  refine dd ?_;refine tc ?_
  (rw[show Az w m p=_ from gf q]);refine uE ?_;(rw[ml]);refine⟨λq3=>?_,λq3=>?_⟩;(focus ((rw[gk (aq q3)]);refine dd ?_;refine af [1] (qE {m with i:=IntKind.i64.wrap (m.i+1)} 1 2 p) ?_;refine hZ ?_;exact⟨.inl O,_,_,.refl _,rfl,cE 2⟩));(rw[gf (aq q3)]);refine dd ?_;refine .inl ⟨⟨true,[],[],[]⟩,au,uH ?_⟩;refine af [1] (xt m 3 (IntKind.i64.wrap (m.i+1))) ?_;refine hZ ?_;refine af [1] (qE (iA m 3 (IntKind.i64.wrap (m.i+1))) 1 2 p) ?_;exact df
def QX(w:Wor)(m:eR)(h:¬(w.zo=m.zo/\w.zo<1000000000000)):tn 176 [oW w,oM m] [.agg tj] (Ce (fx m 5 1 w.zo)) [oW w,oM (iA m 4 0)]:=by
 refine aa func176 ?_;refine uE ?_;refine⟨λq1=>?_,λq1=>?_⟩
 ·refine dd ?_;refine⟨λq2=>?_,λq2=>?_⟩
  ·exact absurd ⟨aq q1,aq q2⟩ h
  ·refine dd ?_;refine tc ?_
   refine af [1] (xt m 4 0) ?_;refine .inl ⟨⟨true,[],[],[]⟩,au,uH ?_⟩;refine af [1] (qE (iA m 4 0) 5 1 w.zo) ?_;exact df
 ·refine dd ?_;refine tc ?_
  refine af [1] (xt m 4 0) ?_;refine .inl ⟨⟨true,[],[],[]⟩,au,uH ?_⟩;refine af [1] (qE (iA m 4 0) 5 1 w.zo) ?_;exact df
def QT(w:Wor)(m:eR)(h1:w.zo=m.zo)(h2:w.zo<1000000000000):tn 176 [oW w,oM m] [.agg tj] (Ce (fx m 4 1 (IntKind.i64.wrap (w.zo+1)))) [oW ({w with zo:=IntKind.i64.wrap (w.zo+1)}),oM ({iA m 4 0 with zo:=IntKind.i64.wrap (w.zo+1)})]:=by
 refine aa func176 ?_;refine uE ?_;refine⟨λ_=>dd ?_,λhh=>absurd hh tD⟩;refine⟨λ_=>dd ?_,λhh=>absurd hh aA⟩;refine tc ?_
 refine .inl ⟨⟨false,[1,3,6],[0,2],[]⟩,au,uH ?_⟩;refine hZ ?_
 refine af [1] (xt {m with zo:=IntKind.i64.wrap (w.zo+1)} 4 0) ?_;refine .inl ⟨⟨true,[],[],[]⟩,au,uH ?_⟩;refine af [1] (qE {iA m 4 0 with zo:=IntKind.i64.wrap (w.zo+1)} 4 1 (IntKind.i64.wrap (w.zo+1))) ?_;exact df
def yw(v:fc):List En:=v.zq.flatMap (·.ends)
structure ED(v:fc):Prop where
 zq:v.zq.length<=1000
 ends : ∀g∈v.zq, g.ends.length <= 1000
def NW:∀(l:List Gr),(∀g∈l,g.ends.length<=1000)->(l.flatMap (·.ends)).length<=l.length*1000
 |[],_=>by simp
 |g::l,h=>by
  have:=NW l λx hx=>h x (pT _ hx)
  have:=h g (pW ..);simp only[eF,gE,pC];omega
def Ls(v:fc)(h:ED v):tn 97 [] [Cv v] (lE (yw v)) []:=by
 have m1:(v.zq.map zK).length=v.zq.length:=gp ..;have hgl:=h.zq;refine ab func97 ?_;rw[m1];refine qa.seq v.zq.length (λk=>(.za::.ref 0 [] 5 0 0::.eS 1 0 []::.gl 1 3 (((v.zq.take k).flatMap (·.ends)).map zD)::.za::.za::.za::(lG v.zq)::I v.zq.length::I k::hU ([.za]))) (λk=>[⟨1,138,5,[zN v],0⟩,⟨4,168,3,((v.zq.take k).flatMap (·.ends)).map zD,0⟩]) (λk=>True) ?_ trivial (λk hk hr=>?_) (λhr=>?_)
 ·refine zn.trans (zn.grow 3 168 3 O (.inl O)) ?_;exact cC
 ·obtain⟨g,hx⟩:∃g,g=v.zq[k]:=⟨_,rfl⟩;have hg:(v.zq.map zK)[k]?=some (zK g):=by rw[gj,dZ hk,hx];rfl
  have eg:((v.zq.take (k+1)).flatMap (·.ends)).map zD=((v.zq.take k).flatMap (·.ends)).map zD++g.ends.map zD:=bR
  have l1:(((v.zq.take k).flatMap (·.ends)).map zD).length<=k*1000:=by
   have:=NW (v.zq.take k) λx hx=>h.ends x (rG hx)
   rw[sd,Nat.min_eq_left aw]at this;simpa using this
  have l2:(g.ends.map zD).length<=1000:=by rw[gp];exact h.ends g (hx ▸ gW hk)
  conv=>whnf
  refine uF ?_;(refine td hg ?_)
  refine⟨rfl,.inr O,by simp only[maxLen];omega,by show _*40<=_;omega,dd ?_⟩;refine .inl ⟨rfl,?_,trivial⟩;rw[zw aw,eg];exact cE 2
 ·refine uD ?_;rw[pQ];exact uI
abbrev EF(k n:Int):ff:=⟨k,0,0,0,0,0,n,⟨0,0,0,0,0,0⟩⟩
def Q9(w:Wor)(m:eR)(l:fq)(h0:0<=m.i)(hx:w.zd[m.i.toNat]?=some l):tn 181 [oW w,oM m] [.agg tj] (Ce (fx m 1 5 l.zi)) [oW w,oM (if l.zi=0 then {m with pc:=10} else iA m 8 (IntKind.i64.wrap (m.i+1)))]:=by
 have hg:(w.zd.map qN)[m.i.toNat]?=some (qN l):=by rw[gj,hx];rfl
 refine aa func181 ?_;refine uE ?_;(refine⟨h0,_,hg,dd ?_⟩)
 refine⟨λq=>?_,λq=>?_⟩
 ·rw[gk (aq q)];refine dd ?_;refine af [1] (qE {m with pc:=10} 1 5 l.zi) ?_;exact df
 ·rw[gf (aq q)];refine dd ?_;refine .inl ⟨⟨true,[],[],[]⟩,au,uH ?_⟩;refine af [1] (xt m 8 (IntKind.i64.wrap (m.i+1))) ?_;refine hZ ?_
  refine af [1] (qE (iA m 8 (IntKind.i64.wrap (m.i+1))) 1 5 l.zi) ?_;exact df
def QN(w:Wor)(m:eR)(h:w.zd.length<=m.i):tn 180 [oW w,oM m] [.agg tj] (Ce {fx m 2 14 0 with done:=true,answer:=EF 11 m.answer.n}) [oW ({w with lock:=0}),oM ({m with done:=true,answer:=EF 11 m.answer.n})]:=by
 have ml:(w.zd.map qN).length=w.zd.length:=gp ..;refine aa func180 ?_;refine uE ?_;rw[ml];refine⟨λ_=>dd ?_,λhh=>absurd hh aA⟩;refine .inl ⟨⟨true,[0,1],[2],[2]⟩,au,uH ?_⟩;refine af [1] (qE m 2 14 0) ?_;refine hZ ?_
 refine af [1] (Ln m (fx m 2 14 0) (EF 11 m.answer.n)) ?_;exact df
abbrev BN(m:eR)(l:fq):eR:=if l.drain=true/\l.closed=false then {m with pc:=9} else {m with i:=IntKind.i64.wrap (m.i+1)}
abbrev GC(m:eR)(l:fq):eV:=fx m 1 4 (if l.drain=true then 1 else 0)
def Q7(w:Wor)(m:eR)(l:fq)(h0:0<=m.i)(hx:w.zd[m.i.toNat]?=some l):tn 180 [oW w,oM m] [.agg tj] (Ce (GC m l)) [oW w,oM (BN m l)]:=by
 have hg:(w.zd.map qN)[m.i.toNat]?=some (qN l):=by rw[gj,hx];rfl
 have eU:=(dY.1 hx).1;have ml:(w.zd.map qN).length=w.zd.length:=gp ..;obtain⟨nm,dr,ac,cl⟩:=l;cases dr <;> cases cl
 all_goals
  refine aa func180 ?_;refine uE ?_;rw[ml];refine⟨λhh=>absurd hh aA,λ_=>dd ?_⟩;refine .inr ⟨⟨[1,4,8,10],[0,1,2],true⟩,au,λ_=>O,_,uH ?_,λt2 H2 h=>h⟩;refine hZ ?_
  (refine⟨h0,_,hg,dd ?_⟩)
  (refine⟨uH ?_,trivial⟩);refine hZ ?_
  (refine⟨uH ?_,trivial⟩);refine hZ ?_
  (refine⟨_,_,.refl _,uH ?_⟩)
  refine af [1] (qE m 1 4 0) ?_;(repeat (first|((refine ya (dd ?_)))|((refine yb (dd ?_)))))
  exact df
def QO{w w':Wor}{m m':eR}{e:eV}(h:w.zr.length<=m.i)(hd:tn 180 [oW w,oM (iA m 8 0)] [.agg tj] (Ce e) [oW w',oM m']):tn 177 [oW w,oM m] [.agg tj] (Ce e) [oW w',oM m']:=by
 have ml:(w.zr.map xF).length=w.zr.length:=gp ..;refine aa func177 ?_;refine uE ?_;rw[ml];refine⟨λ_=>dd ?_,λhh=>absurd hh aA⟩;refine af [1] (xt m 8 0) ?_;refine af [0,1] (hd) ?_;exact df
abbrev Ay(m:eR)(r:fA):eR:=if r.gone=true\/Go.Lim.BD r.at_ m.zo=false then {m with i:=IntKind.i64.wrap (m.i+1)} else {m with version:=r.version,zj:=0,end_:=0,other:=0,slot:=0,k:=0,pc:=5}
def Rf(w:Wor)(m:eR)(r:fA)(hr:i64 r.at_)(h0:0<=m.i)(hx:w.zr[m.i.toNat]?=some r):tn 177 [oW w,oM m] [.agg tj] (Ce (fx m 1 11 r.version)) [oW w,oM (Ay m r)]:=by
 have hg:(w.zr.map xF)[m.i.toNat]?=some (xF r):=by rw[gj,hx];rfl
 have eU:=(dY.1 hx).1;have ml:(w.zr.map xF).length=w.zr.length:=gp ..;obtain⟨rv,ra,rg⟩:=r;refine aa func177 ?_;refine uE ?_;rw[ml];refine⟨λhh=>absurd hh aA,λ_=>dd ?_⟩;refine .inr ⟨⟨[1,4,8,10],[0,1,2],true⟩,au,λ_=>O,_,uH ?_,λt2 H2 h=>h⟩;refine hZ ?_
 (refine⟨h0,_,hg,dd ?_⟩)
 (refine⟨uH ?_,trivial⟩);refine hZ ?_
 (refine⟨uH ?_,trivial⟩);refine hZ ?_
 (refine⟨_,_,.refl _,uH ?_⟩)
 cases rg
 ·have eN:Go.Lim.BD ra m.zo=false->Ay m ⟨rv,ra,false⟩={m with i:=IntKind.i64.wrap (m.i+1)}:=λhh=>gk (.inr hh)
  have eY:Go.Lim.BD ra m.zo=true->Ay m ⟨rv,ra,false⟩={m with version:=rv,zj:=0,end_:=0,other:=0,slot:=0,k:=0,pc:=5}:=λhh=>gf (by simp[hh])
  refine .inl ⟨⟨true,[],[],[9]⟩,au,uH ?_⟩;(repeat (first|((refine ya (dd ?_)))|((refine yb (dd ?_)))))
  refine ah (Go.Lim.Vp (now:=m.zo) hr.1 hr.2) ?_;refine⟨λq=>?_,λq=>?_⟩
  ·rw[eY q];refine dd ?_;refine hZ ?_
   (repeat (first|((refine ya (dd ?_)))|((refine yb (dd ?_)))))
   refine af [1] (qE {m with version:=rv,zj:=0,end_:=0,other:=0,slot:=0,k:=0,pc:=5} 1 11 rv) ?_;exact df
  ·rw[eN q];refine dd ?_;refine hZ ?_
   (repeat (first|((refine ya (dd ?_)))|((refine yb (dd ?_)))))
   refine af [1] (qE {m with i:=IntKind.i64.wrap (m.i+1)} 1 11 rv) ?_;exact df
 ·rw[show Ay m ⟨rv,ra,true⟩=_ from gk (.inl O)];refine .inl ⟨⟨true,[],[],[9]⟩,au,uH ?_⟩;(repeat (first|((refine ya (dd ?_)))|((refine yb (dd ?_)))))
  refine af [1] (qE {m with i:=IntKind.i64.wrap (m.i+1)} 1 11 rv) ?_;exact df
abbrev Ep(l:fq):fq:={l with closed:=true}
def UM(w:Wor)(m:eR)(x:fq)(h0:0<=m.i)(hx:w.zd[m.i.toNat]?=some x):
  tn 182 [⟨1,38,8,[[I w.zo,I w.current,I w.lock,lI w.pins,lV w.ze,.sl 2 [] 4 0 w.zd.length false,fK w.counts,lR w.zr]],0⟩,oM m,⟨2,144,4,(w.zd).map qN,0⟩] [.agg tj] (Ce (fx m 2 13 1)) [⟨1,38,8,[[I w.zo,I w.current,I w.lock,lI w.pins,lV w.ze,.sl 2 [] 4 0 w.zd.length false,fK w.counts,lR w.zr]],0⟩,oM (iA m 8 (IntKind.i64.wrap (m.i+1))),⟨2,144,4,(w.zd.set m.i.toNat (Ep x)).map qN,0⟩]:=by
 have e1:0+m.i.toNat=m.i.toNat:=gI _;have eU:m.i.toNat<w.zd.length:=(dY.1 hx).1;have gx:(w.zd.map qN)[m.i.toNat]?=some (qN x):=by rw[gj,hx];rfl
 have hst:(w.zd.map qN).set m.i.toNat [Tx x.name,Bo x.drain,I x.zi,Bo true]=(w.zd.set m.i.toNat (Ep x)).map qN:=bT
 refine aa func182 ?_;refine .inl ⟨⟨false,[1,4,6,9],[0,1,3],[]⟩,au,uH ?_⟩;refine hZ ?_
 refine⟨h0,eU,dd ?_⟩;rw[e1];refine⟨_,gx,rfl,dd ?_⟩;refine hZ ?_
 rw[hst];refine .inl ⟨⟨true,[],[],[]⟩,au,uH ?_⟩;refine af [1] (xt m 8 (IntKind.i64.wrap (m.i+1))) ?_;refine hZ ?_
 refine af [1] (qE (iA m 8 (IntKind.i64.wrap (m.i+1))) 2 13 1) ?_;refine hZ ?_;exact⟨.inl O,_,_,.refl _,rfl,cE 3⟩
abbrev ER(m:eR)(v:fc)(a:Int):eV:={fx m 1 7 a with version:=m.version,qQ:=v.qQ}
abbrev Bb(m:eR)(v:fc)(a:Int):eR:=if a≠0 then iA m 4 (IntKind.i64.wrap (m.i+1)) else if IntKind.i64.wrap (m.k+1)<(yw v).length then {m with k:=IntKind.i64.wrap (m.k+1)} else {m with k:=IntKind.i64.wrap (m.k+1),pc:=6}
def Q6(w:Wor)(m:eR)(v:fc)(e:En)(hf:ED v)(hv:oq w m v)(k0:0<=m.k)(hk:(yw v)[m.k.toNat]?=some e):tn 178 [oW w,oM m] [.agg tj] (Ce (ER m v e.zi)) [oW w,oM (Bb m v e.zi)]:=by
 have a0:=hv.v0;have a1:=hv.row;have hg:((yw v).map zD)[m.k.toNat]?=some (zD e):=by rw[gj,hk];rfl
 have ml:((yw v).map zD).length=(yw v).length:=gp ..;have he:=Ls v hf;have eA:e.zi≠0->Bb m v e.zi=iA m 4 (IntKind.i64.wrap (m.i+1)):=λhh=>gk hh
 have eB:e.zi=0->Bb m v e.zi=if IntKind.i64.wrap (m.k+1)<(yw v).length then {m with k:=IntKind.i64.wrap (m.k+1)} else {m with k:=IntKind.i64.wrap (m.k+1),pc:=6}:=λhh=>gf (by simp[hh])
 generalize hll:yw v=ll at he hk hg ml eA eB;obtain⟨sn,gs,fr⟩:=v;cases fr
 all_goals
  refine aa func178 ?_;refine .inr ⟨⟨[1,4,8,10],[0,1,2],true⟩,au,λ_=>O,_,uH ?_,λt2 H2 h=>h⟩;refine hZ ?_
  (refine⟨a0,_,a1,dd ?_⟩)
  (refine⟨uH ?_,trivial⟩);refine hZ ?_
  (refine⟨uH ?_,trivial⟩);refine hZ ?_
  (refine⟨_,_,.refl _,uH ?_⟩)
  refine ah he ?_;refine .inr ⟨⟨[0,5,8,9],[0,1,2,3,4],true⟩,au,λ_=>O,_,uH ?_,λt2 H2 h=>h⟩;(refine⟨k0,_,hg,dd ?_⟩)
  refine⟨_,ai [1] (qE m 1 7 e.zi),uH ?_⟩;(refine⟨uH ?_,trivial⟩);refine hZ ?_
  (refine⟨uH ?_,trivial⟩);refine hZ ?_
  (refine⟨_,_,.refl _,uH ?_⟩)
  refine .inl ⟨⟨false,[3,5],[1,4],[]⟩,au,uH ?_⟩;(repeat (first|((refine ya (dd ?_)))|((refine yb (dd ?_)))))
  refine hZ ?_
  refine⟨λq=>?_,λq=>?_⟩
  ·rw[eA (aq q)];refine dd ?_;refine .inl ⟨⟨true,[],[],[]⟩,au,uH ?_⟩;refine af [1] (xt m 4 (IntKind.i64.wrap (m.i+1))) ?_;exact df
  ·rw[eB (aq q)];refine dd ?_;rw[ml];refine⟨λq2=>?_,λq2=>?_⟩
   ·rw[gk (aq q2)];refine dd ?_;exact df
   ·rw[gf (aq q2)];refine dd ?_;exact df
abbrev AG(v:fc):fc:={v with qQ:=true}
abbrev wU(r:fA):fA:={r with gone:=true}
abbrev Ds(m:eR):eR:={m with answer:={m.answer with n:=IntKind.i64.wrap (m.answer.n+1)},pc:=4,i:=IntKind.i64.wrap (m.i+1)}
def Hu(w:Wor)(m:eR)(v:fc)(r:fA)(hv:oq w m v)(h0:0<=m.i)(hx:w.zr[m.i.toNat]?=some r):
  tn 179 [⟨1,38,8,[[I w.zo,I w.current,I w.lock,lI w.pins,.sl 2 [] 5 0 w.ze.length false,lL w.zd,fK w.counts,.sl 3 [] 3 0 w.zr.length false]],0⟩,oM m,⟨2,138,5,(w.ze).map zN,0⟩,⟨2,142,3,(w.zr).map xF,0⟩] [.agg tj] (Ce (fx m 2 12 m.version)) [⟨1,38,8,[[I w.zo,I w.current,I w.lock,lI w.pins,.sl 2 [] 5 0 w.ze.length false,lL w.zd,fK w.counts,.sl 3 [] 3 0 w.zr.length false]],0⟩,oM (Ds m),⟨2,138,5,(w.ze.set m.version.toNat (AG v)).map zN,0⟩,⟨2,142,3,(w.zr.set m.i.toNat (wU r)).map xF,0⟩]:=by
 have a0:=hv.v0;have av:m.version.toNat<w.ze.length:=(dY.1 hv.at_).1;have gv:=hv.row;have e1:0+m.i.toNat=m.i.toNat:=gI _;have e2:0+m.version.toNat=m.version.toNat:=gI _;have eU:m.i.toNat<w.zr.length:=(dY.1 hx).1;have gx:(w.zr.map xF)[m.i.toNat]?=some (xF r):=by rw[gj,hx];rfl
 have hst:(w.zr.map xF).set m.i.toNat [I r.version,I r.at_,Bo true]=(w.zr.set m.i.toNat (wU r)).map xF:=bT
 have hsv:(w.ze.map zN).set m.version.toNat [lT v.snap.zd,lf v.snap.rules,lC v.snap.zk,lG v.zq,Bo true]=(w.ze.set m.version.toNat (AG v)).map zN:=bT
 refine aa func179 ?_;refine .inl ⟨⟨false,[1,4,8,10,13,17],[0,1,4],[]⟩,au,uH ?_⟩;refine hZ ?_
 refine⟨a0,av,dd ?_⟩;rw[e2];refine⟨_,gv,rfl,dd ?_⟩;refine hZ ?_
 refine⟨h0,eU,dd ?_⟩;rw[e1];refine⟨_,gx,rfl,dd ?_⟩;refine hZ ?_
 rw[hst,hsv];refine .inl ⟨⟨true,[],[],[]⟩,au,uH ?_⟩;refine af [1] (xt {m with answer:={m.answer with n:=IntKind.i64.wrap (m.answer.n+1)} } 4 (IntKind.i64.wrap (m.i+1))) ?_;refine hZ ?_
 refine .inl ⟨⟨true,[],[],[]⟩,au,uH ?_⟩;refine af [1] (qE (Ds m) 2 12 m.version) ?_;refine hZ ?_;exact⟨.inl O,_,_,.refl _,rfl,cE 4⟩
def Sv(v:fc)(h:ED v):tn 56 [] [Cv v] (I (yw v).length) []:=by
 have ml:((yw v).map zD).length=(yw v).length:=gp ..;have he:=Ls v h;generalize yw v=ll at he ml ⊢;refine ab func56 ?_;refine ah he ?_;rw[ml];exact uI
def Ut(w:Wor)(m:eR)(hpc:m.pc=2)(h:m.i<w.pins.length):tn 172 [] [Cw w,Cm m] (Bo true) []:=by
 have ml:(w.pins.map encI).length=w.pins.length:=gp ..;refine ab func172 ?_;(repeat (first|refine uA ?_|refine uB ?_))
 exact uI
def T4(w:Wor)(m:eR)(hpc:m.pc=9)(h:m.i<w.zd.length):tn 172 [] [Cw w,Cm m] (Bo true) []:=by
 have ml:(w.zd.map qN).length=w.zd.length:=gp ..;refine ab func172 ?_;(repeat (first|refine uA ?_|refine uB ?_))
 exact uI
def xv(w:Wor)(m:eR)(hpc:m.pc≠2/\m.pc≠5/\m.pc≠6/\m.pc≠9/\m.pc≠10):tn 172 [] [Cw w,Cm m] (Bo true) []:=by
 refine ab func172 ?_;(repeat (first|refine uA ?_|refine uB ?_))
 exact uI
def T2(w:Wor)(m:eR)(v:fc)(hf:ED v)(hpc:m.pc=5)(hv:oq w m v)(h:m.k<(yw v).length):tn 172 [] [Cw w,Cm m] (Bo true) []:=by
 have a0:=hv.v0;have a1:=hv.row;refine ab func172 ?_;(repeat (first|refine uA ?_|refine uB ?_))
 refine .inl ⟨⟨true,[],[],[8]⟩,au,uH ?_⟩;(refine⟨a0,_,a1,dd ?_⟩)
 refine ah (Sv v hf) ?_;(repeat (first|refine uA ?_|refine uB ?_))
 exact uI
def T3(w:Wor)(m:eR)(r:fA)(hpc:m.pc=6)(h0:0<=m.i)(hx:w.zr[m.i.toNat]?=some r)(h1:r.version=m.version)(h2:r.gone=false):tn 172 [] [Cw w,Cm m] (Bo true) []:=by
 have hg:(w.zr.map xF)[m.i.toNat]?=some (xF r):=by rw[gj,hx];rfl
 have eU:=(dY.1 hx).1;have ml:(w.zr.map xF).length=w.zr.length:=gp ..;obtain⟨rv,ra,rg⟩:=r;cases h2
 refine ab func172 ?_;(repeat (first|refine uA ?_|refine uB ?_))
 refine uE ?_;rw[ml];(repeat (first|refine uA ?_|refine uB ?_))
 (refine⟨h0,_,hg,dd ?_⟩)
 refine⟨λ_=>dd ?_,λhh=>absurd hh tD⟩;(repeat (first|((refine ya (dd ?_)))|((refine yb (dd ?_)))))
 (refine⟨h0,_,hg,dd ?_⟩)
 (repeat (first|((refine ya (dd ?_)))|((refine yb (dd ?_)))))
 exact uI
def SY(w:Wor)(m:eR)(l:fq)(hpc:m.pc=10)(h0:0<=m.i)(hx:w.zd[m.i.toNat]?=some l)(h1:l.drain=true):tn 172 [] [Cw w,Cm m] (Bo true) []:=by
 have hg:(w.zd.map qN)[m.i.toNat]?=some (qN l):=by rw[gj,hx];rfl
 have eU:=(dY.1 hx).1;have ml:(w.zd.map qN).length=w.zd.length:=gp ..;obtain⟨ln,ld,la,lc⟩:=l;cases h1
 refine ab func172 ?_;(repeat (first|refine uA ?_|refine uB ?_))
 rw[ml];(repeat (first|refine uA ?_|refine uB ?_))
 (refine⟨h0,_,hg,dd ?_⟩)
 (repeat (first|((refine ya (dd ?_)))|((refine yb (dd ?_)))))
 exact uI
def Zw(w:Wor)(m:eR)(X:Ob)(j f:Nat)(R:Exit->S->Prop)(hlow:qM 8 ([oW w,oM m,⟨1,38,8,[iG],0⟩,⟨1,68,44,[iF],0⟩,oE qz,X,oM m,⟨1,274,2,[tf],0⟩]++[])=true)(hf:∀v0 v1 v2 v3 v4 v5 v6 v8 v9 v10,vP [(0,v0,0),(1,v1,1),(2,v2,2),(3,v3,3),(4,v4,4),(5,v5,5),(6,v6,6),(8,v8,7),(9,v9,8),(10,v10,9)] m.pc=some j)(hc:([.fn 173 [.agg tf] [],.fn 174 [.agg tf] [],.fn 175 [.agg tf] [],.fn 176 [.agg tf] [],.fn 177 [.agg tf] [],.fn 178 [.agg tf] [],.fn 179 [.agg tf] [],.fn 180 [.agg tf] [],.fn 181 [.agg tf] [],.fn 182 [.agg tf] []]:List C)[j]?=some (.fn f [.agg tf] []))
 (hn:qO prog 0 (behind 5 ((f137.body).getD .skip)) ⟨(.za::.za::.ref 0 [] 8 0 0:: .ref 1 [] 44 0 0:: .ref 2 [] 8 0 0:: .ref 3 [] 44 0 0:: .ref 4 [] 23 0 0:: .ref 5 [] 8 0 0:: .ref 6 [] 44 0 0:: .ref 7 [] 2 0 0:: .fn f [.agg tf] []::Bo true:: hU (jp (hU (hU ([]))))),[oW w,oM m,⟨1,38,8,[iG],0⟩,⟨1,68,44,[iF],0⟩,oE qz,X,oM m,⟨1,274,2,[tf],0⟩]++[]⟩ R):qO prog 0 (behind 4 ((f137.body).getD .skip)) ⟨(.za::.za::.ref 0 [] 8 0 0:: .ref 1 [] 44 0 0:: .ref 2 [] 8 0 0:: .ref 3 [] 44 0 0:: .ref 4 [] 23 0 0:: .ref 5 [] 8 0 0:: .ref 6 [] 44 0 0:: .ref 7 [] 2 0 0:: .za::.za::hU (jp (hU (hU ([]))))),[oW w,oM m,⟨1,38,8,[iG],0⟩,⟨1,68,44,[iF],0⟩,oE qz,X,oM m,⟨1,274,2,[tf],0⟩]++[]⟩ R:=by
 refine vK (uH ?_);intro b;refine dd ?_;refine jJ.qm (id:=8) _ _ _ _ (.inr O) underlying277 underlying3 O O O O O ?_;intro v0;refine dd ?_;refine jJ.qm (id:=8) _ _ _ _ (.inr O) underlying277 underlying3 O O O O O ?_;intro v1;refine dd ?_;refine jJ.qm (id:=8) _ _ _ _ (.inr O) underlying277 underlying3 O O O O O ?_;intro v2;refine dd ?_;refine jJ.qm (id:=8) _ _ _ _ (.inr O) underlying277 underlying3 O O O O O ?_;intro v3;refine dd ?_;refine jJ.qm (id:=8) _ _ _ _ (.inr O) underlying277 underlying3 O O O O O ?_;intro v4;refine dd ?_;refine jJ.qm (id:=8) _ _ _ _ (.inr O) underlying277 underlying3 O O O O O ?_;intro v5;refine dd ?_;refine jJ.qm (id:=8) _ _ _ _ (.inr O) underlying277 underlying3 O O O O O ?_;intro v6;refine dd ?_;refine jJ.qm (id:=8) _ _ _ _ (.inr O) underlying277 underlying3 O O O O O ?_;intro v8;refine dd ?_;refine jJ.qm (id:=8) _ _ _ _ (.inr O) underlying277 underlying3 O O O O O ?_;intro v9;refine dd ?_;refine jJ.qm (id:=8) _ _ _ _ (.inr O) underlying277 underlying3 O O O O O ?_;intro v10;refine dd ?_;(refine⟨_,_,fg.DW (id:=8) _ _ _ _ O underlying277 underlying3 O O O O O O (hf _ _ _ _ _ _ _ _ _ _) hc,?_⟩;(refine dd ?_))
 refine tc ?_
 refine .inl ⟨rfl,_,_,(zn.forget 8).trans (zn.xw 8 hC O O O hlow O),hn⟩
def Zv(w:Wor)(m:eR)(X:Ob)(Y:Ob)(j f:Nat)(R:Exit->S->Prop)(hlow:qM 9 ([oW w,oM m,⟨1,38,8,[iG],0⟩,⟨1,68,44,[iF],0⟩,oE qz,X,oM m,⟨1,274,2,[tf],0⟩]++[Y])=true)(hf:∀v0 v1 v2 v3 v4 v5 v6 v8 v9 v10,vP [(0,v0,0),(1,v1,1),(2,v2,2),(3,v3,3),(4,v4,4),(5,v5,5),(6,v6,6),(8,v8,7),(9,v9,8),(10,v10,9)] m.pc=some j)(hc:([.fn 173 [.agg tf] [],.fn 174 [.agg tf] [],.fn 175 [.agg tf] [],.fn 176 [.agg tf] [],.fn 177 [.agg tf] [],.fn 178 [.agg tf] [],.fn 179 [.agg tf] [],.fn 180 [.agg tf] [],.fn 181 [.agg tf] [],.fn 182 [.agg tf] []]:List C)[j]?=some (.fn f [.agg tf] []))
 (hn:qO prog 0 (behind 5 ((f137.body).getD .skip)) ⟨(.za::.za::.ref 0 [] 8 0 0:: .ref 1 [] 44 0 0:: .ref 2 [] 8 0 0:: .ref 3 [] 44 0 0:: .ref 4 [] 23 0 0:: .ref 5 [] 8 0 0:: .ref 6 [] 44 0 0:: .ref 7 [] 2 0 0:: .fn f [.agg tf] []::Bo true:: hU (jp (hU (hU ([]))))),[oW w,oM m,⟨1,38,8,[iG],0⟩,⟨1,68,44,[iF],0⟩,oE qz,X,oM m,⟨1,274,2,[tf],0⟩]++[Y]⟩ R):qO prog 0 (behind 4 ((f137.body).getD .skip)) ⟨(.za::.za::.ref 0 [] 8 0 0:: .ref 1 [] 44 0 0:: .ref 2 [] 8 0 0:: .ref 3 [] 44 0 0:: .ref 4 [] 23 0 0:: .ref 5 [] 8 0 0:: .ref 6 [] 44 0 0:: .ref 7 [] 2 0 0:: .za::.za::hU (jp (hU (hU ([]))))),[oW w,oM m,⟨1,38,8,[iG],0⟩,⟨1,68,44,[iF],0⟩,oE qz,X,oM m,⟨1,274,2,[tf],0⟩]++[Y]⟩ R:=by
 refine vK (uH ?_);intro b;refine dd ?_;refine jJ.qm (id:=9) _ _ _ _ (.inr O) underlying277 underlying3 O O O O O ?_;intro v0;refine dd ?_;refine jJ.qm (id:=9) _ _ _ _ (.inr O) underlying277 underlying3 O O O O O ?_;intro v1;refine dd ?_;refine jJ.qm (id:=9) _ _ _ _ (.inr O) underlying277 underlying3 O O O O O ?_;intro v2;refine dd ?_;refine jJ.qm (id:=9) _ _ _ _ (.inr O) underlying277 underlying3 O O O O O ?_;intro v3;refine dd ?_;refine jJ.qm (id:=9) _ _ _ _ (.inr O) underlying277 underlying3 O O O O O ?_;intro v4;refine dd ?_;refine jJ.qm (id:=9) _ _ _ _ (.inr O) underlying277 underlying3 O O O O O ?_;intro v5;refine dd ?_;refine jJ.qm (id:=9) _ _ _ _ (.inr O) underlying277 underlying3 O O O O O ?_;intro v6;refine dd ?_;refine jJ.qm (id:=9) _ _ _ _ (.inr O) underlying277 underlying3 O O O O O ?_;intro v8;refine dd ?_;refine jJ.qm (id:=9) _ _ _ _ (.inr O) underlying277 underlying3 O O O O O ?_;intro v9;refine dd ?_;refine jJ.qm (id:=9) _ _ _ _ (.inr O) underlying277 underlying3 O O O O O ?_;intro v10;refine dd ?_;(refine⟨_,_,fg.DW (id:=9) _ _ _ _ O underlying277 underlying3 O O O O O O (hf _ _ _ _ _ _ _ _ _ _) hc,?_⟩;(refine dd ?_))
 refine tc ?_
 refine .inl ⟨rfl,_,_,(zn.forget 9).trans (zn.xw 9 hC O O O hlow O),hn⟩
def Zu(w:Wor)(m:eR)(X:Ob)(Y Z:Ob)(j f:Nat)(R:Exit->S->Prop)(hlow:qM 10 ([oW w,oM m,⟨1,38,8,[iG],0⟩,⟨1,68,44,[iF],0⟩,oE qz,X,oM m,⟨1,274,2,[tf],0⟩]++[Y,Z])=true)(hf:∀v0 v1 v2 v3 v4 v5 v6 v8 v9 v10,vP [(0,v0,0),(1,v1,1),(2,v2,2),(3,v3,3),(4,v4,4),(5,v5,5),(6,v6,6),(8,v8,7),(9,v9,8),(10,v10,9)] m.pc=some j)(hc:([.fn 173 [.agg tf] [],.fn 174 [.agg tf] [],.fn 175 [.agg tf] [],.fn 176 [.agg tf] [],.fn 177 [.agg tf] [],.fn 178 [.agg tf] [],.fn 179 [.agg tf] [],.fn 180 [.agg tf] [],.fn 181 [.agg tf] [],.fn 182 [.agg tf] []]:List C)[j]?=some (.fn f [.agg tf] []))
 (hn:qO prog 0 (behind 5 ((f137.body).getD .skip)) ⟨(.za::.za::.ref 0 [] 8 0 0:: .ref 1 [] 44 0 0:: .ref 2 [] 8 0 0:: .ref 3 [] 44 0 0:: .ref 4 [] 23 0 0:: .ref 5 [] 8 0 0:: .ref 6 [] 44 0 0:: .ref 7 [] 2 0 0:: .fn f [.agg tf] []::Bo true:: hU (jp (hU (hU ([]))))),[oW w,oM m,⟨1,38,8,[iG],0⟩,⟨1,68,44,[iF],0⟩,oE qz,X,oM m,⟨1,274,2,[tf],0⟩]++[Y,Z]⟩ R):qO prog 0 (behind 4 ((f137.body).getD .skip)) ⟨(.za::.za::.ref 0 [] 8 0 0:: .ref 1 [] 44 0 0:: .ref 2 [] 8 0 0:: .ref 3 [] 44 0 0:: .ref 4 [] 23 0 0:: .ref 5 [] 8 0 0:: .ref 6 [] 44 0 0:: .ref 7 [] 2 0 0:: .za::.za::hU (jp (hU (hU ([]))))),[oW w,oM m,⟨1,38,8,[iG],0⟩,⟨1,68,44,[iF],0⟩,oE qz,X,oM m,⟨1,274,2,[tf],0⟩]++[Y,Z]⟩ R:=by
 refine vK (uH ?_);intro b;refine dd ?_;refine jJ.qm (id:=10) _ _ _ _ (.inr O) underlying277 underlying3 O O O O O ?_;intro v0;refine dd ?_;refine jJ.qm (id:=10) _ _ _ _ (.inr O) underlying277 underlying3 O O O O O ?_;intro v1;refine dd ?_;refine jJ.qm (id:=10) _ _ _ _ (.inr O) underlying277 underlying3 O O O O O ?_;intro v2;refine dd ?_;refine jJ.qm (id:=10) _ _ _ _ (.inr O) underlying277 underlying3 O O O O O ?_;intro v3;refine dd ?_;refine jJ.qm (id:=10) _ _ _ _ (.inr O) underlying277 underlying3 O O O O O ?_;intro v4;refine dd ?_;refine jJ.qm (id:=10) _ _ _ _ (.inr O) underlying277 underlying3 O O O O O ?_;intro v5;refine dd ?_;refine jJ.qm (id:=10) _ _ _ _ (.inr O) underlying277 underlying3 O O O O O ?_;intro v6;refine dd ?_;refine jJ.qm (id:=10) _ _ _ _ (.inr O) underlying277 underlying3 O O O O O ?_;intro v8;refine dd ?_;refine jJ.qm (id:=10) _ _ _ _ (.inr O) underlying277 underlying3 O O O O O ?_;intro v9;refine dd ?_;refine jJ.qm (id:=10) _ _ _ _ (.inr O) underlying277 underlying3 O O O O O ?_;intro v10;refine dd ?_;(refine⟨_,_,fg.DW (id:=10) _ _ _ _ O underlying277 underlying3 O O O O O O (hf _ _ _ _ _ _ _ _ _ _) hc,?_⟩;(refine dd ?_))
 refine tc ?_
 refine .inl ⟨rfl,_,_,(zn.forget 10).trans (zn.xw 10 hC O O O hlow O),hn⟩
def jL{w w':Wor}{m m':eR}{e:eV}(sw:q8 w)(ok:fY w)(hl:i64 m.listen)(hs:zY w m=true)(hm:tn 172 [] [Cw w,Cm m] (Bo true) [])(j f:Nat)(hcb:qi prog f=true)(hf:∀v0 v1 v2 v3 v4 v5 v6 v8 v9 v10,vP [(0,v0,0),(1,v1,1),(2,v2,2),(3,v3,3),(4,v4,4),(5,v5,5),(6,v6,6),(8,v8,7),(9,v9,8),(10,v10,9)] m.pc=some j)(hc:([.fn 173 [.agg tf] [],.fn 174 [.agg tf] [],.fn 175 [.agg tf] [],.fn 176 [.agg tf] [],.fn 177 [.agg tf] [],.fn 178 [.agg tf] [],.fn 179 [.agg tf] [],.fn 180 [.agg tf] [],.fn 181 [.agg tf] [],.fn 182 [.agg tf] []]:List C)[j]?=some (.fn f [.agg tf] []))
 (h:tn f [oW w,oM m] [.agg tj] (Ce e) [oW w',oM m']):tn 137 [] [Cw w,Cm m] (.fb [Cw w',Cm m',Ce e]) []:=by
 refine zb.BR func137 O ?_;show qO prog 0 ((f137.body).getD .skip) _ _;refine vK (uH ?_);refine .inl ⟨rfl,_,_,.refl _,vK (uH ?_)⟩;refine ah (zO w m ok hl) ?_;refine⟨λ_=>dd ?_,λh=>absurd ((hs).symm.trans h:true=false) ar⟩;refine tc ?_
 refine ah hm ?_;refine tc ?_
 refine .inl ⟨rfl,_,_,.refl _,vK (uH ?_)⟩;refine .inr ⟨⟨[0,1,2],[0,1],true⟩,au,λ_=>O,λt H=>t=(.za::.za::.ref 0 [] 8 0 0:: .ref 1 [] 44 0 0:: .ref 2 [] 8 0 0:: .ref 3 [] 44 0 0:: .ref 4 [] 23 0 0:: .ref 5 [] 8 0 0:: .ref 6 [] 44 0 0:: .za::.za::.za::hU (jp (hU (hU ([])))))/\H=[oW w,oM m,⟨1,38,8,[iG],0⟩,⟨1,68,44,[iF],0⟩,oE qz,oW w,oM m],?_,?_⟩
 ·conv=>whnf
  refine⟨_,ai [] (qw w sw),uH ?_⟩;repeat' (first|(exact trivial)|(refine⟨rfl,uH ?_⟩)|(exact⟨_,_,zn.fe [0,1,2,3,4,5,6] [2,3,4,5,6,7,8] _ _ O O O O,rfl,rfl⟩)|(exact⟨_,_,zn.fe [0,1,2,3,4,6,5] [2,3,4,5,6,7,8] _ _ O O O O,rfl,rfl⟩)|(refine And.intro ?_ ?_ <;> (conv=>whnf)))
 rintro _ _ ⟨rfl,rfl⟩;conv=>whnf
 refine .inl ⟨rfl,_,_,.refl _,vK (uH ?_)⟩;refine .inl ⟨rfl,_,_,cE 8,Zw w m (oW w) j f _ O hf hc ?_⟩;(refine jy (K:=λex t H=>(ex=.ret\/ex=.normal)/\∃s2,zn 0 ⟨t,H⟩ s2/\(vL prog f137 s2).map (yx 0 9)=some (.fb [Cw w',Cm m',Ce e])) (uH ?_))
 rw[hcb];refine af [5,6] (h) ?_;refine .inl ⟨⟨false,[0,1,2],[5,6,8],[]⟩,au,uH ?_⟩;refine hZ ?_
 exact uI
def Ss{w:Wor}{m m':eR}{e:eV}{ls:List fq}(sw:q8 w)(ok:fY w)(hl:i64 m.listen)(hs:zY w m=true)(hm:tn 172 [] [Cw w,Cm m] (Bo true) [])(j f:Nat)(hcb:qi prog f=true)(hf:∀v0 v1 v2 v3 v4 v5 v6 v8 v9 v10,vP [(0,v0,0),(1,v1,1),(2,v2,2),(3,v3,3),(4,v4,4),(5,v5,5),(6,v6,6),(8,v8,7),(9,v9,8),(10,v10,9)] m.pc=some j)(hc:([.fn 173 [.agg tf] [],.fn 174 [.agg tf] [],.fn 175 [.agg tf] [],.fn 176 [.agg tf] [],.fn 177 [.agg tf] [],.fn 178 [.agg tf] [],.fn 179 [.agg tf] [],.fn 180 [.agg tf] [],.fn 181 [.agg tf] [],.fn 182 [.agg tf] []]:List C)[j]?=some (.fn f [.agg tf] []))
 (hne:w.zd≠[])(hll:ls.length=w.zd.length)(h:tn f [⟨1,38,8,[[I w.zo,I w.current,I w.lock,lI w.pins,lV w.ze,.sl 2 [] 4 0 w.zd.length false,fK w.counts,lR w.zr]],0⟩,oM m,⟨2,144,4,(w.zd).map qN,0⟩] [.agg tj] (Ce e) [⟨1,38,8,[[I w.zo,I w.current,I w.lock,lI w.pins,lV w.ze,.sl 2 [] 4 0 w.zd.length false,fK w.counts,lR w.zr]],0⟩,oM m',⟨2,144,4,(ls).map qN,0⟩]):tn 137 [] [Cw w,Cm m] (.fb [Cw {w with zd:=ls},Cm m',Ce e]) []:=by
 obtain⟨x,l,hx⟩:=tY hne;refine zb.BR func137 O ?_;show qO prog 0 ((f137.body).getD .skip) _ _;refine vK (uH ?_);refine .inl ⟨rfl,_,_,.refl _,vK (uH ?_)⟩;refine ah (zO w m ok hl) ?_;refine⟨λ_=>dd ?_,λh=>absurd ((hs).symm.trans h:true=false) ar⟩;refine tc ?_
 refine ah hm ?_;refine tc ?_
 refine .inl ⟨rfl,_,_,.refl _,vK (uH ?_)⟩;refine .inr ⟨⟨[0,2],[0,1],true⟩,au,λ_=>O,λt H=>t=(.za::.za::.ref 0 [] 8 0 0:: .ref 1 [] 44 0 0:: .ref 2 [] 8 0 0:: .ref 3 [] 44 0 0:: .ref 4 [] 23 0 0:: .ref 5 [] 8 0 0:: .ref 6 [] 44 0 0:: .za::.za::.za::hU (jp (hU (hU ([])))))/\H=[oW w,oM m,⟨1,38,8,[iG],0⟩,⟨1,68,44,[iF],0⟩,oE qz,⟨1,38,8,[[I w.zo,I w.current,I w.lock,lI w.pins,lV w.ze,.sl 7 [] 4 0 w.zd.length false,fK w.counts,lR w.zr]],0⟩,oM m,⟨2,144,4,(w.zd).map qN,0⟩],?_,?_⟩
 ·conv=>whnf
  repeat' (first|(exact trivial)|(refine⟨rfl,uH ?_⟩)|(refine zm [] (vx w sw x l hx) O O O O O O (uH ?_))|(exact⟨_,_,zn.fe [0,1,2,3,4,5,6,7] [2,3,4,5,6,7,8] _ _ O O O O,rfl,rfl⟩)|(exact⟨_,_,zn.fe [0,1,2,3,4,5,7,6] [2,3,4,5,6,7,8] _ _ O O O O,rfl,rfl⟩)|(exact⟨_,_,zn.fe [0,1,2,3,4,6,5,7] [2,3,4,5,6,7,8] _ _ O O O O,rfl,rfl⟩)|(exact⟨_,_,zn.fe [0,1,2,3,4,6,7,5] [2,3,4,5,6,7,8] _ _ O O O O,rfl,rfl⟩)|(exact⟨_,_,zn.fe [0,1,2,3,4,7,5,6] [2,3,4,5,6,7,8] _ _ O O O O,rfl,rfl⟩)|(exact⟨_,_,zn.fe [0,1,2,3,4,7,6,5] [2,3,4,5,6,7,8] _ _ O O O O,rfl,rfl⟩)|(refine And.intro ?_ ?_ <;> (conv=>whnf)))
 rintro _ _ ⟨rfl,rfl⟩;conv=>whnf
 refine .inl ⟨rfl,_,_,.refl _,vK (uH ?_)⟩;refine .inl ⟨rfl,_,_,(zn.fe [0,1,2,3,4,5,6,8,7] [2,3,4,5,6,7,8,9] _ _ O O O O).trans (cC),Zv w m (⟨1,38,8,[[I w.zo,I w.current,I w.lock,lI w.pins,lV w.ze,.sl 8 [] 4 0 w.zd.length false,fK w.counts,lR w.zr]],0⟩) (⟨2,144,4,(w.zd).map qN,0⟩) j f _ O hf hc ?_⟩;(refine jy (K:=λex t H=>(ex=.ret\/ex=.normal)/\∃s2,zn 0 ⟨t,H⟩ s2/\(vL prog f137 s2).map (yx 0 9)=some (.fb [Cw {w with zd:=ls},Cm m',Ce e])) (uH ?_))
 rw[hcb];refine af [5,6,8] (h) ?_;refine .inl ⟨⟨false,[0,1,2],[5,6,9],[]⟩,au,uH ?_⟩;refine hZ ?_
 exact dJ
def Si(w:Wor)(h:q8 w)(x:fA)(l:List fA)(hx:w.zr=x::l):tn 162 [] [Cw w] (.agg [I w.zo,I w.current,I w.lock,lI w.pins,.sl 0 [] 5 0 w.ze.length false,lL w.zd,fK w.counts,.sl 1 [] 3 0 w.zr.length false]) [⟨2,138,5,(w.ze).map zN,0⟩,⟨2,142,3,(w.zr).map xF,0⟩]:=by
 have hl:l.length<1000000000:=by have:=h.zr;rw[hx]at this;exact de
 have hc:=NC x l hl;rw[<-hx]at hc;refine BY (fn:=f162) func162 O (uH ?_);refine ah (vw w.pins h.pins) ?_;refine af [] (Bj w.ze h.ze.1 λv hv=>jM v (h.ze.2 v hv)) ?_;refine ah (kF w.zd h.zd) ?_;refine af [] (Bi w.counts h.counts.1 λr hr=>yf r (h.counts.2 r hr)) ?_;refine af [] (hc) ?_;refine⟨.inl O,_,_,zn.zS 1 0 6 O O O O (.inr O) O aj (shut_map (enc:=zP) (λ_=>O) w.counts) (z5 O),rfl,?_⟩;exact zn.fe [3,5] [0] _ _ O O O (zc O (zc O (zc O (zc O (zc (zg λr hr c hc=>((shut_map (enc:=zP) (λ_=>O) w.counts) r hr c hc).2) O)))))
def Sq{w:Wor}{m m':eR}{e:eV}{vs:List fc}{rs:List fA}(sw:q8 w)(ok:fY w)(hl:i64 m.listen)(hs:zY w m=true)(hm:tn 172 [] [Cw w,Cm m] (Bo true) [])(j f:Nat)(hcb:qi prog f=true)(hf:∀v0 v1 v2 v3 v4 v5 v6 v8 v9 v10,vP [(0,v0,0),(1,v1,1),(2,v2,2),(3,v3,3),(4,v4,4),(5,v5,5),(6,v6,6),(8,v8,7),(9,v9,8),(10,v10,9)] m.pc=some j)(hc:([.fn 173 [.agg tf] [],.fn 174 [.agg tf] [],.fn 175 [.agg tf] [],.fn 176 [.agg tf] [],.fn 177 [.agg tf] [],.fn 178 [.agg tf] [],.fn 179 [.agg tf] [],.fn 180 [.agg tf] [],.fn 181 [.agg tf] [],.fn 182 [.agg tf] []]:List C)[j]?=some (.fn f [.agg tf] []))
 (hne:w.ze≠[])(hne2:w.zr≠[])(hvl:vs.length=w.ze.length)(hrl:rs.length=w.zr.length)(h:tn f [⟨1,38,8,[[I w.zo,I w.current,I w.lock,lI w.pins,.sl 2 [] 5 0 w.ze.length false,lL w.zd,fK w.counts,.sl 3 [] 3 0 w.zr.length false]],0⟩,oM m,⟨2,138,5,(w.ze).map zN,0⟩,⟨2,142,3,(w.zr).map xF,0⟩] [.agg tj] (Ce e) [⟨1,38,8,[[I w.zo,I w.current,I w.lock,lI w.pins,.sl 2 [] 5 0 w.ze.length false,lL w.zd,fK w.counts,.sl 3 [] 3 0 w.zr.length false]],0⟩,oM m',⟨2,138,5,(vs).map zN,0⟩,⟨2,142,3,(rs).map xF,0⟩]):tn 137 [] [Cw w,Cm m] (.fb [Cw {w with ze:=vs,zr:=rs},Cm m',Ce e]) []:=by
 obtain⟨v,vl,hv⟩:=tY hne;obtain⟨r,rl,hr⟩:=tY hne2;refine zb.BR func137 O ?_;show qO prog 0 ((f137.body).getD .skip) _ _;refine vK (uH ?_);refine .inl ⟨rfl,_,_,.refl _,vK (uH ?_)⟩;refine ah (zO w m ok hl) ?_;refine⟨λ_=>dd ?_,λh=>absurd ((hs).symm.trans h:true=false) ar⟩;refine tc ?_
 refine ah hm ?_;refine tc ?_
 refine .inl ⟨rfl,_,_,.refl _,vK (uH ?_)⟩;refine .inr ⟨⟨[0,2],[0,1],true⟩,au,λ_=>O,λt H=>t=(.za::.za::.ref 0 [] 8 0 0:: .ref 1 [] 44 0 0:: .ref 2 [] 8 0 0:: .ref 3 [] 44 0 0:: .ref 4 [] 23 0 0:: .ref 5 [] 8 0 0:: .ref 6 [] 44 0 0:: .za::.za::.za::hU (jp (hU (hU ([])))))/\H=[oW w,oM m,⟨1,38,8,[iG],0⟩,⟨1,68,44,[iF],0⟩,oE qz,⟨1,38,8,[[I w.zo,I w.current,I w.lock,lI w.pins,.sl 7 [] 5 0 w.ze.length false,lL w.zd,fK w.counts,.sl 8 [] 3 0 w.zr.length false]],0⟩,oM m,⟨2,138,5,(w.ze).map zN,0⟩,⟨2,142,3,(w.zr).map xF,0⟩],?_,?_⟩
 ·conv=>whnf
  repeat' (first|(exact trivial)|(refine⟨rfl,uH ?_⟩)|(refine zm [] (Si w sw r rl hr) O O O O O O (uH ?_))|(exact⟨_,_,zn.fe [0,1,2,3,4,5,6,7,8] [2,3,4,5,6,7,8] _ _ O O O O,rfl,rfl⟩)|(exact⟨_,_,zn.fe [0,1,2,3,4,5,6,8,7] [2,3,4,5,6,7,8] _ _ O O O O,rfl,rfl⟩)|(exact⟨_,_,zn.fe [0,1,2,3,4,5,7,6,8] [2,3,4,5,6,7,8] _ _ O O O O,rfl,rfl⟩)|(exact⟨_,_,zn.fe [0,1,2,3,4,5,7,8,6] [2,3,4,5,6,7,8] _ _ O O O O,rfl,rfl⟩)|(exact⟨_,_,zn.fe [0,1,2,3,4,5,8,6,7] [2,3,4,5,6,7,8] _ _ O O O O,rfl,rfl⟩)|(exact⟨_,_,zn.fe [0,1,2,3,4,5,8,7,6] [2,3,4,5,6,7,8] _ _ O O O O,rfl,rfl⟩)|(exact⟨_,_,zn.fe [0,1,2,3,4,6,5,7,8] [2,3,4,5,6,7,8] _ _ O O O O,rfl,rfl⟩)|(exact⟨_,_,zn.fe [0,1,2,3,4,6,5,8,7] [2,3,4,5,6,7,8] _ _ O O O O,rfl,rfl⟩)|(exact⟨_,_,zn.fe [0,1,2,3,4,6,7,5,8] [2,3,4,5,6,7,8] _ _ O O O O,rfl,rfl⟩)|(exact⟨_,_,zn.fe [0,1,2,3,4,6,7,8,5] [2,3,4,5,6,7,8] _ _ O O O O,rfl,rfl⟩)|(exact⟨_,_,zn.fe [0,1,2,3,4,6,8,5,7] [2,3,4,5,6,7,8] _ _ O O O O,rfl,rfl⟩)|(exact⟨_,_,zn.fe [0,1,2,3,4,6,8,7,5] [2,3,4,5,6,7,8] _ _ O O O O,rfl,rfl⟩)|(exact⟨_,_,zn.fe [0,1,2,3,4,7,5,6,8] [2,3,4,5,6,7,8] _ _ O O O O,rfl,rfl⟩)|(exact⟨_,_,zn.fe [0,1,2,3,4,7,5,8,6] [2,3,4,5,6,7,8] _ _ O O O O,rfl,rfl⟩)|(exact⟨_,_,zn.fe [0,1,2,3,4,7,6,5,8] [2,3,4,5,6,7,8] _ _ O O O O,rfl,rfl⟩)|(exact⟨_,_,zn.fe [0,1,2,3,4,7,6,8,5] [2,3,4,5,6,7,8] _ _ O O O O,rfl,rfl⟩)|(exact⟨_,_,zn.fe [0,1,2,3,4,7,8,5,6] [2,3,4,5,6,7,8] _ _ O O O O,rfl,rfl⟩)|(exact⟨_,_,zn.fe [0,1,2,3,4,7,8,6,5] [2,3,4,5,6,7,8] _ _ O O O O,rfl,rfl⟩)|(exact⟨_,_,zn.fe [0,1,2,3,4,8,5,6,7] [2,3,4,5,6,7,8] _ _ O O O O,rfl,rfl⟩)|(exact⟨_,_,zn.fe [0,1,2,3,4,8,5,7,6] [2,3,4,5,6,7,8] _ _ O O O O,rfl,rfl⟩)|(exact⟨_,_,zn.fe [0,1,2,3,4,8,6,5,7] [2,3,4,5,6,7,8] _ _ O O O O,rfl,rfl⟩)|(exact⟨_,_,zn.fe [0,1,2,3,4,8,6,7,5] [2,3,4,5,6,7,8] _ _ O O O O,rfl,rfl⟩)|(exact⟨_,_,zn.fe [0,1,2,3,4,8,7,5,6] [2,3,4,5,6,7,8] _ _ O O O O,rfl,rfl⟩)|(exact⟨_,_,zn.fe [0,1,2,3,4,8,7,6,5] [2,3,4,5,6,7,8] _ _ O O O O,rfl,rfl⟩)|(refine And.intro ?_ ?_ <;> (conv=>whnf)))
 rintro _ _ ⟨rfl,rfl⟩;conv=>whnf
 refine .inl ⟨rfl,_,_,.refl _,vK (uH ?_)⟩;refine .inl ⟨rfl,_,_,(zn.fe [0,1,2,3,4,5,6,9,7,8] [2,3,4,5,6,7,8,9] _ _ O O O O).trans (cC),Zu w m (⟨1,38,8,[[I w.zo,I w.current,I w.lock,lI w.pins,.sl 8 [] 5 0 w.ze.length false,lL w.zd,fK w.counts,.sl 9 [] 3 0 w.zr.length false]],0⟩) (⟨2,138,5,(w.ze).map zN,0⟩) (⟨2,142,3,(w.zr).map xF,0⟩) j f _ O hf hc ?_⟩;(refine jy (K:=λex t H=>(ex=.ret\/ex=.normal)/\∃s2,zn 0 ⟨t,H⟩ s2/\(vL prog f137 s2).map (yx 0 9)=some (.fb [Cw {w with ze:=vs,zr:=rs},Cm m',Ce e])) (uH ?_))
 rw[hcb];refine af [5,6,8,9] (h) ?_;refine .inl ⟨⟨false,[0,1,2],[5,6,10],[]⟩,au,uH ?_⟩;refine hZ ?_
 exact⟨.inl O,_,(zn.zS 2 0 4 O O O O (.inr O) aj (by rw[gp];exact hvl.symm) (shut_map (enc:=zN) (λ_=>O) _) (z5 O)).trans (zn.zS 2 0 7 O O O O (.inr O) aj (by rw[gp];exact hrl.symm) (shut_map (enc:=xF) (λ_=>O) _) (z5 O)),rfl⟩
end Go.Wor
