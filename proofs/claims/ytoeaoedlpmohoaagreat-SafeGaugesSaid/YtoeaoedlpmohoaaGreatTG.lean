import Derived.Test.YtoeaoedlpmohoaaGreatTV
import Derived.Test.YtoeaoedlpmohoaaGreatTW
set_option linter.all false
set_option maxRecDepth 100000
set_option maxHeartbeats 4000000
namespace Go.Wor
open Go.Ab Go.Proofs Tryz Go.Hy Go.Gat Go.Nam Go.Hos Go.Con Go.Sna
def Sz(l:List fI)(s:ft)(hl:l.length<4611686018427387904):
  tj 122 [⟨2,76,4,(l).map qP,0⟩,⟨1,9,1,[[Tx s]],0⟩] [.sl 0 [] 4 0 l.length false,.fn 123 [] [.ref 1 [] 1 0 0]] (I (zU l s)) [⟨2,76,4,(l).map qP,0⟩,⟨1,9,1,[[Tx s]],0⟩]:=by
 refine aa func122 ?_;refine qe.seq l.length (λk=>(.sl 0 [] 4 0 l.length false::.fn 123 [] [.ref 1 [] 1 0 0]::.za::.za::I 0::.za::.za::I l.length::I k::tZ ([.za,.za]))) (λk=>[⟨2,76,4,(l).map qP,0⟩,⟨1,9,1,[[Tx s]],0⟩]) (λk=>∀j,(h:j<l.length)->j<k->(l[j].name == s)=false) ?_ aj (λk hk hr=>?_) (λhr=>?_)
 ·exact cC
 ·have hg:(l.map qP)[k]?=some (qP l[k]):=by rw[gf,dX hk];rfl
  have e1:0+(k:Int).toNat=k:=aj
  conv=>whnf
  refine uF ?_;refine⟨aw,aq hk,dd ?_⟩;rw[e1];refine⟨_,hg,(by show 0+4<=4;decide),dd ?_⟩;refine af [1] (Nn s l[k]) ?_;refine⟨λh2=>?_,λh2=>?_⟩
  ·refine dd ?_;refine .inr ⟨aj,uH ?_⟩
   have e:zU l s=k:=by
    unfold zU
    have:l.findIdx? (λx=>x.name == s)=some k:=by
     exact dP
    rw[this]
   rw[e];exact cN
  ·refine dd ?_;refine .inl ⟨rfl,?_,λj hj hjk=>?_⟩
   ·rw[zw aw];exact cE 2
   ·by_cases e:j=k
    ·subst e;exact h2
    ·exact hr j hj aw
 ·refine uD ?_
  have e:zU l s= -1:=by
   unfold zU
   have:l.findIdx? (λx=>x.name == s)=none:=by
    rw[gS];intro x hx;obtain⟨j,hj,rfl⟩:=pM.1 hx;exact hr j hj hj
   rw[this]
  rw[e];exact cN
def Sn(l:List fI)(s:ft)(hl:l.length<4611686018427387904):tj 88 [⟨2,76,4,(l).map qP,0⟩] [.sl 0 [] 4 0 l.length false,Tx s] (I (zU l s)) [⟨2,76,4,(l).map qP,0⟩]:=by
 refine aa func88 ?_;refine af [0,1] (Sz l s hl) ?_;exact dL
def LI(m:fi)(e:fk)(a:fA):tj 159 [oM m,⟨1,257,24,[.ref 0 [] 44 0 0::jO (e)],0⟩] [.ref 1 [] 24 0 0,.agg (xk a)] (.fq []) [oM ({m with done:=true,answer:=a}),⟨1,257,24,[.ref 0 [] 44 0 0::jO ({e with done:=true,answer:=a})],0⟩]:=by
 refine aa func159 ?_;refine .inl ⟨⟨false,[3,7,8],[1,2],[]⟩,au,uH ?_⟩;refine hU ?_
 refine .inl ⟨⟨false,[2],[2],[]⟩,au,uH ?_⟩;refine hU ?_
 exact⟨.inr J,_,_,.refl _,rfl,cE 2⟩
abbrev Hb(m:fi):fk:={qG with zf:=m.zf,access:=1,version:= -1}
def Ri(w:Wor)(m:fi)(sw:jd w)(ok:ir w)(hl:i64 m.listen)(hpc:m.pc=0)(hs:qd w m=true)(hi:zU w.ze m.op.listen<0):
  tj 129 [] [Cw w,Cm m] (.fq [Cw w,Cm {m with done:=true,answer:=mj 7},Ce {Hb m with done:=true,answer:=mj 7}]) []:=by
 refine ab func129 ?_;refine⟨λh=>absurd h (by simp[hpc]),λ_=>dd ?_⟩;refine ah (zP w m ok hl) ?_;refine⟨λ_=>dd ?_,λh=>absurd ((hs).symm.trans h:true=false) ar⟩;refine hZ ?_
 refine ah (qC w sw) ?_;refine ah (E6 w.ze m.op.listen (by have:=ok.ze.1;omega)) ?_;refine⟨λ_=>dd ?_,λh=>absurd h (aq hi)⟩;refine af [1,5] (LI m (Hb m) (mj 7)) ?_;refine .inl ⟨⟨false,[0,1,5],[0,1,5],[]⟩,au,uH ?_⟩;refine hU ?_
 exact uI
abbrev Kf(m:fi):fk:={qG with zf:=m.zf,access:=2,cell:=4,version:= -1,value:=1,qY:=true}
def Re(w:Wor)(m:fi)(x:fI)(sw:jd w)(ok:ir w)(hl:i64 m.listen)(hpc:m.pc=0)(hs:qd w m=true)(hi:0<=zU w.ze m.op.listen)(hx:w.ze[(zU w.ze m.op.listen).toNat]?=some x):
  tj 129 [] [Cw w,Cm m] (.fq [Cw {w with ze:=w.ze.set (zU w.ze m.op.listen).toNat (Go.Gat.AD x)},Cm {m with listen:=zU w.ze m.op.listen,done:=true,answer:=⟨10,0,0,0,0,zU w.ze m.op.listen,0,⟨0,0,0,0,0,0⟩⟩},Ce {Kf m with done:=true,answer:=⟨10,0,0,0,0,zU w.ze m.op.listen,0,⟨0,0,0,0,0,0⟩⟩}]) []:=by
 generalize hp:zU w.ze m.op.listen=p at hi hx;have lt:p.toNat<w.ze.length:=(dW.1 hx).1;have gl:(w.ze.map qP)[p.toNat]?=some (qP x):=by rw[gf,hx];rfl
 have hst:(w.ze.map qP).set p.toNat [Tx (Go.Gat.AD x).name,Bo (Go.Gat.AD x).drain,I (Go.Gat.AD x).zi,Bo (Go.Gat.AD x).closed]=(w.ze.set p.toNat (Go.Gat.AD x)).map qP:=bR
 have e1:0+p.toNat=p.toNat:=gP _
 obtain⟨y,l,hy⟩:∃y l,w.ze=y::l:=by
  cases h:w.ze with
  |nil=>rw[h]at lt;simp at lt
  |cons y l=>exact⟨y,l,rfl⟩
 have hpl:=Sn w.ze m.op.listen (by have:=ok.ze.1;omega);rw[hp]at hpl;refine ab func129 ?_;refine⟨λh=>absurd h (by simp[hpc]),λ_=>dd ?_⟩;refine ah (zP w m ok hl) ?_;refine⟨λ_=>dd ?_,λh=>absurd ((hs).symm.trans h:true=false) ar⟩;refine hZ ?_
 refine af [] (vG w sw y l hy) ?_;refine af [5] (hpl) ?_;refine⟨λh=>absurd h aA,λ_=>dd ?_⟩;refine .inl ⟨⟨true,[1,4],[0],[8]⟩,au,uH ?_⟩;refine hU ?_
 refine⟨hi,lt,dd ?_⟩;rw[e1];refine⟨_,gl,(by show 0+4<=4;decide),dd ?_⟩;refine ah (Go.Gat.SO x) ?_;refine⟨hi,lt,dd ?_⟩;rw[e1];refine⟨_,gl,rfl,dd ?_⟩;refine hU ?_
 rw[hst];refine af [1,6] (LI {m with listen:=p} (Kf m) ⟨10,0,0,0,0,p,0,⟨0,0,0,0,0,0⟩⟩) ?_;refine .inl ⟨⟨false,[0,1,5],[0,1,6],[]⟩,au,uH ?_⟩;refine hU ?_
 exact⟨.inl J,_,zq.zV 2 0 5 J J J J (.inr J) aj aj (shut_map (enc:=qP) (λ_=>J) _) (qa J),rfl⟩
abbrev iI(m:fi)(p i:Int):fi:={m with pc:=p,i:=i}
def qK(m:fi)(a b c:Int):tj 211 [oM m] [.agg [.za,.ref 0 [] 44 0 0],I a,I b,I c] (Ce (fK m a b c)) [oM m]:=by
 refine aa func211 ?_;refine hU ?_;exact dL
def xD(m:fi)(p i:Int):tj 212 [oM m] [.agg [.za,.ref 0 [] 44 0 0],I p,I i] (.fq []) [oM ({m with pc:=p,i:=i})]:=by
 refine aa func212 ?_;refine .inl ⟨⟨false,[1,3],[1],[]⟩,au,uH ?_⟩;refine hU ?_
 exact⟨.inr J,_,_,.refl _,rfl,cE 1⟩
def LD(m:fi)(e:fk)(a:fA):tj 210 [oM m] [.agg [.za,.ref 0 [] 44 0 0],Ce e,.agg (xk a)] (Ce {e with done:=true,answer:=a}) [oM ({m with done:=true,answer:=a})]:=by
 refine aa func210 ?_;refine .inl ⟨⟨false,[1,3,4],[1,3],[]⟩,au,uH ?_⟩;refine hU ?_
 refine .inl ⟨⟨false,[0],[3],[]⟩,au,uH ?_⟩;refine hU ?_
 refine hU ?_;exact dL
def Q4(w:Wor)(m:fi):tj 163 [oW w,oM m] [.agg tf] (Ce (fK m 1 1 w.zl)) [oW w,oM ({m with zl:=w.zl,pc:=2,i:=0})]:=by
 refine aa func163 ?_;refine .inl ⟨⟨false,[1,3,6],[0,2],[]⟩,au,uH ?_⟩;refine hU ?_
 refine af [1] (xD {m with zl:=w.zl} 2 0) ?_;refine .inl ⟨⟨true,[],[],[]⟩,au,uH ?_⟩;refine af [1] (qK {m with zl:=w.zl,pc:=2,i:=0} 1 1 w.zl) ?_;exact cY
def Sk(w:Wor)(m:fi)(h:w.lock≠0):tj 162 [oW w,oM m] [.agg tf] (Ce {fK m 5 14 1 with done:=true,answer:=mj 12}) [oW w,oM ({m with done:=true,answer:=mj 12})]:=by
 refine aa func162 ?_;refine⟨λ_=>dd ?_,λhh=>absurd hh (aq h)⟩;refine .inl ⟨⟨true,[0,1],[2],[2]⟩,au,uH ?_⟩;refine af [1] (qK m 5 14 1) ?_;refine hU ?_
 refine af [1] (LD m (fK m 5 14 1) (mj 12)) ?_;exact cY
def Rz(w:Wor)(m:fi)(h:w.lock=0):tj 162 [oW w,oM m] [.agg tf] (Ce (fK m 4 14 1)) [oW ({w with lock:=1}),oM ({m with pc:=1})]:=by
 refine aa func162 ?_;refine⟨λhh=>absurd hh aH,λ_=>dd ?_⟩;refine .inl ⟨⟨false,[1,3],[2],[]⟩,au,uH ?_⟩;refine hU ?_
 refine af [1] (qK {m with pc:=1} 4 14 1) ?_;exact cY
def oY(w:Wor)(m:fi)(p:Int):fi:=if p≠0/\p≠IntKind.i64.wrap (m.zl+1) then iI m 4 0 else if IntKind.i64.wrap (m.i+1)<w.pins.length then {m with i:=IntKind.i64.wrap (m.i+1)} else iI m 3 (IntKind.i64.wrap (m.i+1))
def Ry(w:Wor)(m:fi)(p:Int)(h0:0<=m.i)(hp:w.pins[m.i.toNat]?=some p):tj 164 [oW w,oM m] [.agg tf] (Ce (fK m 1 2 p)) [oW w,oM (oY w m p)]:=by
 have hg:(w.pins.map encI)[m.i.toNat]?=some (encI p):=by rw[gf,hp];rfl
 have ml:(w.pins.map encI).length=w.pins.length:=gu ..;refine aa func164 ?_;refine uE ?_;(refine⟨h0,_,hg,dd ?_⟩)
 refine⟨λq1=>?_,λq1=>?_⟩
 ·refine dd ?_;refine⟨λq2=>?_,λq2=>?_⟩
  ·rw[show oY w m p=iI m 4 0 from gh ⟨aq q1,aq q2⟩];refine dd ?_;refine hZ ?_
   refine af [1] (xD m 4 0) ?_;refine af [1] (qK (iI m 4 0) 1 2 p) ?_;exact cY
  ·have q:¬(p≠0/\p≠IntKind.i64.wrap (m.zl+1)):=λhh=>hh.2 (aq q2)
   refine dd ?_;refine hZ ?_
   (rw[show oY w m p=_ from dZ q]);refine uE ?_;(rw[ml]);refine⟨λq3=>?_,λq3=>?_⟩;(focus ((rw[gh (aq q3)]);refine dd ?_;refine af [1] (qK {m with i:=IntKind.i64.wrap (m.i+1)} 1 2 p) ?_;refine hU ?_;exact⟨.inl J,_,_,.refl _,rfl,cE 2⟩));(rw[dZ (aq q3)]);refine dd ?_;refine .inl ⟨⟨true,[],[],[]⟩,au,uH ?_⟩;refine af [1] (xD m 3 (IntKind.i64.wrap (m.i+1))) ?_;refine hU ?_;refine af [1] (qK (iI m 3 (IntKind.i64.wrap (m.i+1))) 1 2 p) ?_;exact cY
 ·have q:¬(p≠0/\p≠IntKind.i64.wrap (m.zl+1)):=λhh=>hh.1 (aq q1)
  refine dd ?_;refine hZ ?_
  (rw[show oY w m p=_ from dZ q]);refine uE ?_;(rw[ml]);refine⟨λq3=>?_,λq3=>?_⟩;(focus ((rw[gh (aq q3)]);refine dd ?_;refine af [1] (qK {m with i:=IntKind.i64.wrap (m.i+1)} 1 2 p) ?_;refine hU ?_;exact⟨.inl J,_,_,.refl _,rfl,cE 2⟩));(rw[dZ (aq q3)]);refine dd ?_;refine .inl ⟨⟨true,[],[],[]⟩,au,uH ?_⟩;refine af [1] (xD m 3 (IntKind.i64.wrap (m.i+1))) ?_;refine hU ?_;refine af [1] (qK (iI m 3 (IntKind.i64.wrap (m.i+1))) 1 2 p) ?_;exact cY
def QZ(w:Wor)(m:fi)(h:¬(w.zl=m.zl/\w.zl<1000000000000)):tj 165 [oW w,oM m] [.agg tf] (Ce (fK m 5 1 w.zl)) [oW w,oM (iI m 4 0)]:=by
 refine aa func165 ?_;refine uE ?_;refine⟨λq1=>?_,λq1=>?_⟩
 ·refine dd ?_;refine⟨λq2=>?_,λq2=>?_⟩
  ·exact absurd ⟨aq q1,aq q2⟩ h
  ·refine dd ?_;refine hZ ?_
   refine af [1] (xD m 4 0) ?_;refine .inl ⟨⟨true,[],[],[]⟩,au,uH ?_⟩;refine af [1] (qK (iI m 4 0) 5 1 w.zl) ?_;exact cY
 ·refine dd ?_;refine hZ ?_
  refine af [1] (xD m 4 0) ?_;refine .inl ⟨⟨true,[],[],[]⟩,au,uH ?_⟩;refine af [1] (qK (iI m 4 0) 5 1 w.zl) ?_;exact cY
def QO(w:Wor)(m:fi)(h1:w.zl=m.zl)(h2:w.zl<1000000000000):tj 165 [oW w,oM m] [.agg tf] (Ce (fK m 4 1 (IntKind.i64.wrap (w.zl+1)))) [oW ({w with zl:=IntKind.i64.wrap (w.zl+1)}),oM ({iI m 4 0 with zl:=IntKind.i64.wrap (w.zl+1)})]:=by
 refine aa func165 ?_;refine uE ?_;refine⟨λ_=>dd ?_,λhh=>absurd hh tE⟩;refine⟨λ_=>dd ?_,λhh=>absurd hh aA⟩;refine hZ ?_
 refine .inl ⟨⟨false,[1,3,6],[0,2],[]⟩,au,uH ?_⟩;refine hU ?_
 refine af [1] (xD {m with zl:=IntKind.i64.wrap (w.zl+1)} 4 0) ?_;refine .inl ⟨⟨true,[],[],[]⟩,au,uH ?_⟩;refine af [1] (qK {iI m 4 0 with zl:=IntKind.i64.wrap (w.zl+1)} 4 1 (IntKind.i64.wrap (w.zl+1))) ?_;exact cY
def xc(v:fp):List En:=v.zo.flatMap (·.ends)
structure EM(v:fp):Prop where
 zo:v.zo.length<=1000
 ends : ∀g∈v.zo, g.ends.length <= 1000
def It:∀(l:List Gr),(∀g∈l,g.ends.length<=1000)->(l.flatMap (·.ends)).length<=l.length*1000
 |[],_=>by simp
 |g::l,h=>by
  have:=It l λx hx=>h x (pP _ hx)
  have:=h g (pT ..);simp only[rp,pj,rk];omega
def LM(v:fp)(h:EM v):tj 214 [] [Cv v] (lE (xc v)) []:=by
 have m1:(v.zo.map zE).length=v.zo.length:=gu ..;have hgl:=h.zo;refine ab func214 ?_;rw[m1];refine qe.seq v.zo.length (λk=>(.za::.ref 0 [] 5 0 0::.fh 1 0 []::.gl 1 3 (((v.zo.take k).flatMap (·.ends)).map zA)::.za::.za::.za::(lG v.zo)::I v.zo.length::I k::tZ ([.za]))) (λk=>[⟨1,69,5,[zH v],0⟩,⟨4,74,3,((v.zo.take k).flatMap (·.ends)).map zA,0⟩]) (λk=>True) ?_ trivial (λk hk hr=>?_) (λhr=>?_)
 ·refine zq.trans (zq.grow 3 74 3 J (.inl J)) ?_;exact cC
 ·obtain⟨g,hx⟩:∃g,g=v.zo[k]:=⟨_,rfl⟩;have hg:(v.zo.map zE)[k]?=some (zE g):=by rw[gf,dX hk,hx];rfl
  have eg:((v.zo.take (k+1)).flatMap (·.ends)).map zA=((v.zo.take k).flatMap (·.ends)).map zA++g.ends.map zA:=bP
  have l1:(((v.zo.take k).flatMap (·.ends)).map zA).length<=k*1000:=by
   have:=It (v.zo.take k) λx hx=>h.ends x (rB hx)
   rw[u4,Nat.min_eq_left aw]at this;simpa using this
  have l2:(g.ends.map zA).length<=1000:=by rw[gu];exact h.ends g (hx ▸ gU hk)
  conv=>whnf
  refine uF ?_;(refine tc hg ?_)
  refine⟨rfl,.inr J,by simp only[maxLen];omega,by show _*40<=_;omega,dd ?_⟩;refine .inl ⟨rfl,?_,trivial⟩;rw[zw aw,eg];exact cE 2
 ·refine uD ?_;rw[gZ];exact uI
abbrev EI(k n:Int):fA:=⟨k,0,0,0,0,0,n,⟨0,0,0,0,0,0⟩⟩
def QY(w:Wor)(m:fi)(l:fI)(h0:0<=m.i)(hx:w.ze[m.i.toNat]?=some l):tj 170 [oW w,oM m] [.agg tf] (Ce (fK m 1 5 l.zi)) [oW w,oM (if l.zi=0 then {m with pc:=10} else iI m 8 (IntKind.i64.wrap (m.i+1)))]:=by
 have hg:(w.ze.map qP)[m.i.toNat]?=some (qP l):=by rw[gf,hx];rfl
 refine aa func170 ?_;refine uE ?_;(refine⟨h0,_,hg,dd ?_⟩)
 refine⟨λq=>?_,λq=>?_⟩
 ·rw[gh (aq q)];refine dd ?_;refine af [1] (qK {m with pc:=10} 1 5 l.zi) ?_;exact cY
 ·rw[dZ (aq q)];refine dd ?_;refine .inl ⟨⟨true,[],[],[]⟩,au,uH ?_⟩;refine af [1] (xD m 8 (IntKind.i64.wrap (m.i+1))) ?_;refine hU ?_
  refine af [1] (qK (iI m 8 (IntKind.i64.wrap (m.i+1))) 1 5 l.zi) ?_;exact cY
def QH(w:Wor)(m:fi)(h:w.ze.length<=m.i):tj 169 [oW w,oM m] [.agg tf] (Ce {fK m 2 14 0 with done:=true,answer:=EI 11 m.answer.n}) [oW ({w with lock:=0}),oM ({m with done:=true,answer:=EI 11 m.answer.n})]:=by
 have ml:(w.ze.map qP).length=w.ze.length:=gu ..;refine aa func169 ?_;refine uE ?_;rw[ml];refine⟨λ_=>dd ?_,λhh=>absurd hh aA⟩;refine .inl ⟨⟨true,[0,1],[2],[2]⟩,au,uH ?_⟩;refine af [1] (qK m 2 14 0) ?_;refine hU ?_
 refine af [1] (LD m (fK m 2 14 0) (EI 11 m.answer.n)) ?_;exact cY
abbrev BA(m:fi)(l:fI):fi:=if l.drain=true/\l.closed=false then {m with pc:=9} else {m with i:=IntKind.i64.wrap (m.i+1)}
abbrev GL(m:fi)(l:fI):fk:=fK m 1 4 (if l.drain=true then 1 else 0)
def QW(w:Wor)(m:fi)(l:fI)(h0:0<=m.i)(hx:w.ze[m.i.toNat]?=some l):tj 169 [oW w,oM m] [.agg tf] (Ce (GL m l)) [oW w,oM (BA m l)]:=by
 have hg:(w.ze.map qP)[m.i.toNat]?=some (qP l):=by rw[gf,hx];rfl
 have fj:=(dW.1 hx).1;have ml:(w.ze.map qP).length=w.ze.length:=gu ..;obtain⟨nm,dr,ac,cl⟩:=l;cases dr <;> cases cl
 all_goals
  refine aa func169 ?_;refine uE ?_;rw[ml];refine⟨λhh=>absurd hh aA,λ_=>dd ?_⟩;refine .inr ⟨⟨[1,4,8,10],[0,1,2],true⟩,au,λ_=>J,_,uH ?_,λt2 H2 h=>h⟩;refine hU ?_
  (refine⟨h0,_,hg,dd ?_⟩)
  (refine⟨uH ?_,trivial⟩);refine hU ?_
  (refine⟨uH ?_,trivial⟩);refine hU ?_
  (refine⟨_,_,.refl _,uH ?_⟩)
  refine af [1] (qK m 1 4 0) ?_;(repeat (first|((refine ya (dd ?_)))|((refine yb (dd ?_)))))
  exact cY
def QI{w w':Wor}{m m':fi}{e:fk}(h:w.zp.length<=m.i)(hd:tj 169 [oW w,oM (iI m 8 0)] [.agg tf] (Ce e) [oW w',oM m']):tj 166 [oW w,oM m] [.agg tf] (Ce e) [oW w',oM m']:=by
 have ml:(w.zp.map xR).length=w.zp.length:=gu ..;refine aa func166 ?_;refine uE ?_;rw[ml];refine⟨λ_=>dd ?_,λhh=>absurd hh aA⟩;refine af [1] (xD m 8 0) ?_;refine af [0,1] (hd) ?_;exact cY
abbrev Ax(m:fi)(r:fH):fi:=if r.gone=true\/Go.Lim.Af r.at_ m.zl=false then {m with i:=IntKind.i64.wrap (m.i+1)} else {m with version:=r.version,zg:=0,end_:=0,other:=0,slot:=0,k:=0,pc:=5}
def Q5(w:Wor)(m:fi)(r:fH)(hr:i64 r.at_)(h0:0<=m.i)(hx:w.zp[m.i.toNat]?=some r):tj 166 [oW w,oM m] [.agg tf] (Ce (fK m 1 11 r.version)) [oW w,oM (Ax m r)]:=by
 have hg:(w.zp.map xR)[m.i.toNat]?=some (xR r):=by rw[gf,hx];rfl
 have fj:=(dW.1 hx).1;have ml:(w.zp.map xR).length=w.zp.length:=gu ..;obtain⟨rv,ra,rg⟩:=r;refine aa func166 ?_;refine uE ?_;rw[ml];refine⟨λhh=>absurd hh aA,λ_=>dd ?_⟩;refine .inr ⟨⟨[1,4,8,10],[0,1,2],true⟩,au,λ_=>J,_,uH ?_,λt2 H2 h=>h⟩;refine hU ?_
 (refine⟨h0,_,hg,dd ?_⟩)
 (refine⟨uH ?_,trivial⟩);refine hU ?_
 (refine⟨uH ?_,trivial⟩);refine hU ?_
 (refine⟨_,_,.refl _,uH ?_⟩)
 cases rg
 ·have eN:Go.Lim.Af ra m.zl=false->Ax m ⟨rv,ra,false⟩={m with i:=IntKind.i64.wrap (m.i+1)}:=λhh=>gh (.inr hh)
  have eY:Go.Lim.Af ra m.zl=true->Ax m ⟨rv,ra,false⟩={m with version:=rv,zg:=0,end_:=0,other:=0,slot:=0,k:=0,pc:=5}:=λhh=>dZ (by simp[hh])
  refine .inl ⟨⟨true,[],[],[9]⟩,au,uH ?_⟩;(repeat (first|((refine ya (dd ?_)))|((refine yb (dd ?_)))))
  refine ah (Go.Lim.Ux (now:=m.zl) hr.1 hr.2) ?_;refine⟨λq=>?_,λq=>?_⟩
  ·rw[eY q];refine dd ?_;refine hU ?_
   (repeat (first|((refine ya (dd ?_)))|((refine yb (dd ?_)))))
   refine af [1] (qK {m with version:=rv,zg:=0,end_:=0,other:=0,slot:=0,k:=0,pc:=5} 1 11 rv) ?_;exact cY
  ·rw[eN q];refine dd ?_;refine hU ?_
   (repeat (first|((refine ya (dd ?_)))|((refine yb (dd ?_)))))
   refine af [1] (qK {m with i:=IntKind.i64.wrap (m.i+1)} 1 11 rv) ?_;exact cY
 ·rw[show Ax m ⟨rv,ra,true⟩=_ from gh (.inl J)];refine .inl ⟨⟨true,[],[],[9]⟩,au,uH ?_⟩;(repeat (first|((refine ya (dd ?_)))|((refine yb (dd ?_)))))
  refine af [1] (qK {m with i:=IntKind.i64.wrap (m.i+1)} 1 11 rv) ?_;exact cY
abbrev EG(l:fI):fI:={l with closed:=true}
def UB(w:Wor)(m:fi)(x:fI)(h0:0<=m.i)(hx:w.ze[m.i.toNat]?=some x):
  tj 171 [⟨1,38,8,[[I w.zl,I w.current,I w.lock,lI w.pins,lV w.zd,.sl 2 [] 4 0 w.ze.length false,fU w.counts,lR w.zp]],0⟩,oM m,⟨2,76,4,(w.ze).map qP,0⟩] [.agg tf] (Ce (fK m 2 13 1)) [⟨1,38,8,[[I w.zl,I w.current,I w.lock,lI w.pins,lV w.zd,.sl 2 [] 4 0 w.ze.length false,fU w.counts,lR w.zp]],0⟩,oM (iI m 8 (IntKind.i64.wrap (m.i+1))),⟨2,76,4,(w.ze.set m.i.toNat (EG x)).map qP,0⟩]:=by
 have e1:0+m.i.toNat=m.i.toNat:=gP _;have fj:m.i.toNat<w.ze.length:=(dW.1 hx).1;have gx:(w.ze.map qP)[m.i.toNat]?=some (qP x):=by rw[gf,hx];rfl
 have hst:(w.ze.map qP).set m.i.toNat [Tx x.name,Bo x.drain,I x.zi,Bo true]=(w.ze.set m.i.toNat (EG x)).map qP:=bR
 refine aa func171 ?_;refine .inl ⟨⟨false,[1,4,6,9],[0,1,3],[]⟩,au,uH ?_⟩;refine hU ?_
 refine⟨h0,fj,dd ?_⟩;rw[e1];refine⟨_,gx,rfl,dd ?_⟩;refine hU ?_
 rw[hst];refine .inl ⟨⟨true,[],[],[]⟩,au,uH ?_⟩;refine af [1] (xD m 8 (IntKind.i64.wrap (m.i+1))) ?_;refine hU ?_
 refine af [1] (qK (iI m 8 (IntKind.i64.wrap (m.i+1))) 2 13 1) ?_;refine hU ?_;exact⟨.inl J,_,_,.refl _,rfl,cE 3⟩
abbrev EU(m:fi)(v:fp)(a:Int):fk:={fK m 1 7 a with version:=m.version,zW:=v.zW}
abbrev oq(m:fi)(v:fp)(a:Int):fi:=if a≠0 then iI m 4 (IntKind.i64.wrap (m.i+1)) else if IntKind.i64.wrap (m.k+1)<(xc v).length then {m with k:=IntKind.i64.wrap (m.k+1)} else {m with k:=IntKind.i64.wrap (m.k+1),pc:=6}
def QV(w:Wor)(m:fi)(v:fp)(e:En)(hf:EM v)(hv:oT w m v)(k0:0<=m.k)(hk:(xc v)[m.k.toNat]?=some e):tj 167 [oW w,oM m] [.agg tf] (Ce (EU m v e.zi)) [oW w,oM (oq m v e.zi)]:=by
 have a0:=hv.v0;have a1:=hv.row;have hg:((xc v).map zA)[m.k.toNat]?=some (zA e):=by rw[gf,hk];rfl
 have ml:((xc v).map zA).length=(xc v).length:=gu ..;have he:=LM v hf;have eA:e.zi≠0->oq m v e.zi=iI m 4 (IntKind.i64.wrap (m.i+1)):=λhh=>gh hh
 have eB:e.zi=0->oq m v e.zi=if IntKind.i64.wrap (m.k+1)<(xc v).length then {m with k:=IntKind.i64.wrap (m.k+1)} else {m with k:=IntKind.i64.wrap (m.k+1),pc:=6}:=λhh=>dZ (by simp[hh])
 generalize hll:xc v=ll at he hk hg ml eA eB;obtain⟨sn,gs,fr⟩:=v;cases fr
 all_goals
  refine aa func167 ?_;refine .inr ⟨⟨[1,4,8,10],[0,1,2],true⟩,au,λ_=>J,_,uH ?_,λt2 H2 h=>h⟩;refine hU ?_
  (refine⟨a0,_,a1,dd ?_⟩)
  (refine⟨uH ?_,trivial⟩);refine hU ?_
  (refine⟨uH ?_,trivial⟩);refine hU ?_
  (refine⟨_,_,.refl _,uH ?_⟩)
  refine ah he ?_;refine .inr ⟨⟨[0,5,8,9],[0,1,2,3,4],true⟩,au,λ_=>J,_,uH ?_,λt2 H2 h=>h⟩;(refine⟨k0,_,hg,dd ?_⟩)
  refine⟨_,ai [1] (qK m 1 7 e.zi),uH ?_⟩;(refine⟨uH ?_,trivial⟩);refine hU ?_
  (refine⟨uH ?_,trivial⟩);refine hU ?_
  (refine⟨_,_,.refl _,uH ?_⟩)
  refine .inl ⟨⟨false,[3,5],[1,4],[]⟩,au,uH ?_⟩;(repeat (first|((refine ya (dd ?_)))|((refine yb (dd ?_)))))
  refine hU ?_
  refine⟨λq=>?_,λq=>?_⟩
  ·rw[eA (aq q)];refine dd ?_;refine .inl ⟨⟨true,[],[],[]⟩,au,uH ?_⟩;refine af [1] (xD m 4 (IntKind.i64.wrap (m.i+1))) ?_;exact cY
  ·rw[eB (aq q)];refine dd ?_;rw[ml];refine⟨λq2=>?_,λq2=>?_⟩
   ·rw[gh (aq q2)];refine dd ?_;exact cY
   ·rw[dZ (aq q2)];refine dd ?_;exact cY
abbrev wj(v:fp):fp:={v with zW:=true}
abbrev vL(r:fH):fH:={r with gone:=true}
abbrev DC(m:fi):fi:={m with answer:={m.answer with n:=IntKind.i64.wrap (m.answer.n+1)},pc:=4,i:=IntKind.i64.wrap (m.i+1)}
def w6(w:Wor)(m:fi)(v:fp)(r:fH)(hv:oT w m v)(h0:0<=m.i)(hx:w.zp[m.i.toNat]?=some r):
  tj 168 [⟨1,38,8,[[I w.zl,I w.current,I w.lock,lI w.pins,.sl 2 [] 5 0 w.zd.length false,lL w.ze,fU w.counts,.sl 3 [] 3 0 w.zp.length false]],0⟩,oM m,⟨2,69,5,(w.zd).map zH,0⟩,⟨2,254,3,(w.zp).map xR,0⟩] [.agg tf] (Ce (fK m 2 12 m.version)) [⟨1,38,8,[[I w.zl,I w.current,I w.lock,lI w.pins,.sl 2 [] 5 0 w.zd.length false,lL w.ze,fU w.counts,.sl 3 [] 3 0 w.zp.length false]],0⟩,oM (DC m),⟨2,69,5,(w.zd.set m.version.toNat (wj v)).map zH,0⟩,⟨2,254,3,(w.zp.set m.i.toNat (vL r)).map xR,0⟩]:=by
 have a0:=hv.v0;have av:m.version.toNat<w.zd.length:=(dW.1 hv.at_).1;have gv:=hv.row;have e1:0+m.i.toNat=m.i.toNat:=gP _;have e2:0+m.version.toNat=m.version.toNat:=gP _;have fj:m.i.toNat<w.zp.length:=(dW.1 hx).1;have gx:(w.zp.map xR)[m.i.toNat]?=some (xR r):=by rw[gf,hx];rfl
 have hst:(w.zp.map xR).set m.i.toNat [I r.version,I r.at_,Bo true]=(w.zp.set m.i.toNat (vL r)).map xR:=bR
 have hsv:(w.zd.map zH).set m.version.toNat [lT v.snap.ze,lM v.snap.rules,lC v.snap.zn,lG v.zo,Bo true]=(w.zd.set m.version.toNat (wj v)).map zH:=bR
 refine aa func168 ?_;refine .inl ⟨⟨false,[1,4,8,10,13,17],[0,1,4],[]⟩,au,uH ?_⟩;refine hU ?_
 refine⟨a0,av,dd ?_⟩;rw[e2];refine⟨_,gv,rfl,dd ?_⟩;refine hU ?_
 refine⟨h0,fj,dd ?_⟩;rw[e1];refine⟨_,gx,rfl,dd ?_⟩;refine hU ?_
 rw[hst,hsv];refine .inl ⟨⟨true,[],[],[]⟩,au,uH ?_⟩;refine af [1] (xD {m with answer:={m.answer with n:=IntKind.i64.wrap (m.answer.n+1)} } 4 (IntKind.i64.wrap (m.i+1))) ?_;refine hU ?_
 refine .inl ⟨⟨true,[],[],[]⟩,au,uH ?_⟩;refine af [1] (qK (DC m) 2 12 m.version) ?_;refine hU ?_;exact⟨.inl J,_,_,.refl _,rfl,cE 4⟩
def SQ(v:fp)(h:EM v):tj 209 [] [Cv v] (I (xc v).length) []:=by
 have ml:((xc v).map zA).length=(xc v).length:=gu ..;have he:=LM v h;generalize xc v=ll at he ml ⊢;refine ab func209 ?_;refine ah he ?_;rw[ml];exact uI
def UO(w:Wor)(m:fi)(hpc:m.pc=2)(h:m.i<w.pins.length):tj 161 [] [Cw w,Cm m] (Bo true) []:=by
 have ml:(w.pins.map encI).length=w.pins.length:=gu ..;refine ab func161 ?_;(repeat (first|refine uA ?_|refine uB ?_))
 exact uI
def UR(w:Wor)(m:fi)(hpc:m.pc=9)(h:m.i<w.ze.length):tj 161 [] [Cw w,Cm m] (Bo true) []:=by
 have ml:(w.ze.map qP).length=w.ze.length:=gu ..;refine ab func161 ?_;(repeat (first|refine uA ?_|refine uB ?_))
 exact uI
def xI(w:Wor)(m:fi)(hpc:m.pc≠2/\m.pc≠5/\m.pc≠6/\m.pc≠9/\m.pc≠10):tj 161 [] [Cw w,Cm m] (Bo true) []:=by
 refine ab func161 ?_;(repeat (first|refine uA ?_|refine uB ?_))
 exact uI
def UP(w:Wor)(m:fi)(v:fp)(hf:EM v)(hpc:m.pc=5)(hv:oT w m v)(h:m.k<(xc v).length):tj 161 [] [Cw w,Cm m] (Bo true) []:=by
 have a0:=hv.v0;have a1:=hv.row;refine ab func161 ?_;(repeat (first|refine uA ?_|refine uB ?_))
 refine .inl ⟨⟨true,[],[],[8]⟩,au,uH ?_⟩;(refine⟨a0,_,a1,dd ?_⟩)
 refine ah (SQ v hf) ?_;(repeat (first|refine uA ?_|refine uB ?_))
 exact uI
def UQ(w:Wor)(m:fi)(r:fH)(hpc:m.pc=6)(h0:0<=m.i)(hx:w.zp[m.i.toNat]?=some r)(h1:r.version=m.version)(h2:r.gone=false):tj 161 [] [Cw w,Cm m] (Bo true) []:=by
 have hg:(w.zp.map xR)[m.i.toNat]?=some (xR r):=by rw[gf,hx];rfl
 have fj:=(dW.1 hx).1;have ml:(w.zp.map xR).length=w.zp.length:=gu ..;obtain⟨rv,ra,rg⟩:=r;cases h2
 refine ab func161 ?_;(repeat (first|refine uA ?_|refine uB ?_))
 refine uE ?_;rw[ml];(repeat (first|refine uA ?_|refine uB ?_))
 (refine⟨h0,_,hg,dd ?_⟩)
 refine⟨λ_=>dd ?_,λhh=>absurd hh tE⟩;(repeat (first|((refine ya (dd ?_)))|((refine yb (dd ?_)))))
 (refine⟨h0,_,hg,dd ?_⟩)
 (repeat (first|((refine ya (dd ?_)))|((refine yb (dd ?_)))))
 exact uI
def SG(w:Wor)(m:fi)(l:fI)(hpc:m.pc=10)(h0:0<=m.i)(hx:w.ze[m.i.toNat]?=some l)(h1:l.drain=true):tj 161 [] [Cw w,Cm m] (Bo true) []:=by
 have hg:(w.ze.map qP)[m.i.toNat]?=some (qP l):=by rw[gf,hx];rfl
 have fj:=(dW.1 hx).1;have ml:(w.ze.map qP).length=w.ze.length:=gu ..;obtain⟨ln,ld,la,lc⟩:=l;cases h1
 refine ab func161 ?_;(repeat (first|refine uA ?_|refine uB ?_))
 rw[ml];(repeat (first|refine uA ?_|refine uB ?_))
 (refine⟨h0,_,hg,dd ?_⟩)
 (repeat (first|((refine ya (dd ?_)))|((refine yb (dd ?_)))))
 exact uI
def YI(w:Wor)(m:fi)(X:Ob)(j f:Nat)(R:Exit->S->Prop)(hlow:zX 8 ([oW w,oM m,⟨1,38,8,[iQ],0⟩,⟨1,95,44,[iP],0⟩,oE qG,X,oM m,⟨1,261,2,[td],0⟩]++[])=true)(hf:∀v0 v1 v2 v3 v4 v5 v6 v8 v9 v10,xt [(0,v0,0),(1,v1,1),(2,v2,2),(3,v3,3),(4,v4,4),(5,v5,5),(6,v6,6),(8,v8,7),(9,v9,8),(10,v10,9)] m.pc=some j)(hc:([.fn 162 [.agg td] [],.fn 163 [.agg td] [],.fn 164 [.agg td] [],.fn 165 [.agg td] [],.fn 166 [.agg td] [],.fn 167 [.agg td] [],.fn 168 [.agg td] [],.fn 169 [.agg td] [],.fn 170 [.agg td] [],.fn 171 [.agg td] []]:List C)[j]?=some (.fn f [.agg td] []))
 (hn:qU prog 0 (behind 5 ((f130.body).getD .skip)) ⟨(.za::.za::.ref 0 [] 8 0 0:: .ref 1 [] 44 0 0:: .ref 2 [] 8 0 0:: .ref 3 [] 44 0 0:: .ref 4 [] 23 0 0:: .ref 5 [] 8 0 0:: .ref 6 [] 44 0 0:: .ref 7 [] 2 0 0:: .fn f [.agg td] []::Bo true:: tZ (jp (tZ (tZ ([]))))),[oW w,oM m,⟨1,38,8,[iQ],0⟩,⟨1,95,44,[iP],0⟩,oE qG,X,oM m,⟨1,261,2,[td],0⟩]++[]⟩ R):qU prog 0 (behind 4 ((f130.body).getD .skip)) ⟨(.za::.za::.ref 0 [] 8 0 0:: .ref 1 [] 44 0 0:: .ref 2 [] 8 0 0:: .ref 3 [] 44 0 0:: .ref 4 [] 23 0 0:: .ref 5 [] 8 0 0:: .ref 6 [] 44 0 0:: .ref 7 [] 2 0 0:: .za::.za::tZ (jp (tZ (tZ ([]))))),[oW w,oM m,⟨1,38,8,[iQ],0⟩,⟨1,95,44,[iP],0⟩,oE qG,X,oM m,⟨1,261,2,[td],0⟩]++[]⟩ R:=by
 refine kP (uH ?_);intro b;refine dd ?_;refine qT.qo (id:=8) _ _ _ _ (.inr J) underlying264 underlying3 J J J J J ?_;intro v0;refine dd ?_;refine qT.qo (id:=8) _ _ _ _ (.inr J) underlying264 underlying3 J J J J J ?_;intro v1;refine dd ?_;refine qT.qo (id:=8) _ _ _ _ (.inr J) underlying264 underlying3 J J J J J ?_;intro v2;refine dd ?_;refine qT.qo (id:=8) _ _ _ _ (.inr J) underlying264 underlying3 J J J J J ?_;intro v3;refine dd ?_;refine qT.qo (id:=8) _ _ _ _ (.inr J) underlying264 underlying3 J J J J J ?_;intro v4;refine dd ?_;refine qT.qo (id:=8) _ _ _ _ (.inr J) underlying264 underlying3 J J J J J ?_;intro v5;refine dd ?_;refine qT.qo (id:=8) _ _ _ _ (.inr J) underlying264 underlying3 J J J J J ?_;intro v6;refine dd ?_;refine qT.qo (id:=8) _ _ _ _ (.inr J) underlying264 underlying3 J J J J J ?_;intro v8;refine dd ?_;refine qT.qo (id:=8) _ _ _ _ (.inr J) underlying264 underlying3 J J J J J ?_;intro v9;refine dd ?_;refine qT.qo (id:=8) _ _ _ _ (.inr J) underlying264 underlying3 J J J J J ?_;intro v10;refine dd ?_;(refine⟨_,_,fy.vR (id:=8) _ _ _ _ J underlying264 underlying3 J J J J J J (hf _ _ _ _ _ _ _ _ _ _) hc,?_⟩;(refine dd ?_))
 refine hZ ?_
 refine .inl ⟨rfl,_,_,(zq.forget 8).trans (zq.xG 8 hC J J J hlow J),hn⟩
def YH(w:Wor)(m:fi)(X:Ob)(Y:Ob)(j f:Nat)(R:Exit->S->Prop)(hlow:zX 9 ([oW w,oM m,⟨1,38,8,[iQ],0⟩,⟨1,95,44,[iP],0⟩,oE qG,X,oM m,⟨1,261,2,[td],0⟩]++[Y])=true)(hf:∀v0 v1 v2 v3 v4 v5 v6 v8 v9 v10,xt [(0,v0,0),(1,v1,1),(2,v2,2),(3,v3,3),(4,v4,4),(5,v5,5),(6,v6,6),(8,v8,7),(9,v9,8),(10,v10,9)] m.pc=some j)(hc:([.fn 162 [.agg td] [],.fn 163 [.agg td] [],.fn 164 [.agg td] [],.fn 165 [.agg td] [],.fn 166 [.agg td] [],.fn 167 [.agg td] [],.fn 168 [.agg td] [],.fn 169 [.agg td] [],.fn 170 [.agg td] [],.fn 171 [.agg td] []]:List C)[j]?=some (.fn f [.agg td] []))
 (hn:qU prog 0 (behind 5 ((f130.body).getD .skip)) ⟨(.za::.za::.ref 0 [] 8 0 0:: .ref 1 [] 44 0 0:: .ref 2 [] 8 0 0:: .ref 3 [] 44 0 0:: .ref 4 [] 23 0 0:: .ref 5 [] 8 0 0:: .ref 6 [] 44 0 0:: .ref 7 [] 2 0 0:: .fn f [.agg td] []::Bo true:: tZ (jp (tZ (tZ ([]))))),[oW w,oM m,⟨1,38,8,[iQ],0⟩,⟨1,95,44,[iP],0⟩,oE qG,X,oM m,⟨1,261,2,[td],0⟩]++[Y]⟩ R):qU prog 0 (behind 4 ((f130.body).getD .skip)) ⟨(.za::.za::.ref 0 [] 8 0 0:: .ref 1 [] 44 0 0:: .ref 2 [] 8 0 0:: .ref 3 [] 44 0 0:: .ref 4 [] 23 0 0:: .ref 5 [] 8 0 0:: .ref 6 [] 44 0 0:: .ref 7 [] 2 0 0:: .za::.za::tZ (jp (tZ (tZ ([]))))),[oW w,oM m,⟨1,38,8,[iQ],0⟩,⟨1,95,44,[iP],0⟩,oE qG,X,oM m,⟨1,261,2,[td],0⟩]++[Y]⟩ R:=by
 refine kP (uH ?_);intro b;refine dd ?_;refine qT.qo (id:=9) _ _ _ _ (.inr J) underlying264 underlying3 J J J J J ?_;intro v0;refine dd ?_;refine qT.qo (id:=9) _ _ _ _ (.inr J) underlying264 underlying3 J J J J J ?_;intro v1;refine dd ?_;refine qT.qo (id:=9) _ _ _ _ (.inr J) underlying264 underlying3 J J J J J ?_;intro v2;refine dd ?_;refine qT.qo (id:=9) _ _ _ _ (.inr J) underlying264 underlying3 J J J J J ?_;intro v3;refine dd ?_;refine qT.qo (id:=9) _ _ _ _ (.inr J) underlying264 underlying3 J J J J J ?_;intro v4;refine dd ?_;refine qT.qo (id:=9) _ _ _ _ (.inr J) underlying264 underlying3 J J J J J ?_;intro v5;refine dd ?_;refine qT.qo (id:=9) _ _ _ _ (.inr J) underlying264 underlying3 J J J J J ?_;intro v6;refine dd ?_;refine qT.qo (id:=9) _ _ _ _ (.inr J) underlying264 underlying3 J J J J J ?_;intro v8;refine dd ?_;refine qT.qo (id:=9) _ _ _ _ (.inr J) underlying264 underlying3 J J J J J ?_;intro v9;refine dd ?_;refine qT.qo (id:=9) _ _ _ _ (.inr J) underlying264 underlying3 J J J J J ?_;intro v10;refine dd ?_;(refine⟨_,_,fy.vR (id:=9) _ _ _ _ J underlying264 underlying3 J J J J J J (hf _ _ _ _ _ _ _ _ _ _) hc,?_⟩;(refine dd ?_))
 refine hZ ?_
 refine .inl ⟨rfl,_,_,(zq.forget 9).trans (zq.xG 9 hC J J J hlow J),hn⟩
def YG(w:Wor)(m:fi)(X:Ob)(Y Z:Ob)(j f:Nat)(R:Exit->S->Prop)(hlow:zX 10 ([oW w,oM m,⟨1,38,8,[iQ],0⟩,⟨1,95,44,[iP],0⟩,oE qG,X,oM m,⟨1,261,2,[td],0⟩]++[Y,Z])=true)(hf:∀v0 v1 v2 v3 v4 v5 v6 v8 v9 v10,xt [(0,v0,0),(1,v1,1),(2,v2,2),(3,v3,3),(4,v4,4),(5,v5,5),(6,v6,6),(8,v8,7),(9,v9,8),(10,v10,9)] m.pc=some j)(hc:([.fn 162 [.agg td] [],.fn 163 [.agg td] [],.fn 164 [.agg td] [],.fn 165 [.agg td] [],.fn 166 [.agg td] [],.fn 167 [.agg td] [],.fn 168 [.agg td] [],.fn 169 [.agg td] [],.fn 170 [.agg td] [],.fn 171 [.agg td] []]:List C)[j]?=some (.fn f [.agg td] []))
 (hn:qU prog 0 (behind 5 ((f130.body).getD .skip)) ⟨(.za::.za::.ref 0 [] 8 0 0:: .ref 1 [] 44 0 0:: .ref 2 [] 8 0 0:: .ref 3 [] 44 0 0:: .ref 4 [] 23 0 0:: .ref 5 [] 8 0 0:: .ref 6 [] 44 0 0:: .ref 7 [] 2 0 0:: .fn f [.agg td] []::Bo true:: tZ (jp (tZ (tZ ([]))))),[oW w,oM m,⟨1,38,8,[iQ],0⟩,⟨1,95,44,[iP],0⟩,oE qG,X,oM m,⟨1,261,2,[td],0⟩]++[Y,Z]⟩ R):qU prog 0 (behind 4 ((f130.body).getD .skip)) ⟨(.za::.za::.ref 0 [] 8 0 0:: .ref 1 [] 44 0 0:: .ref 2 [] 8 0 0:: .ref 3 [] 44 0 0:: .ref 4 [] 23 0 0:: .ref 5 [] 8 0 0:: .ref 6 [] 44 0 0:: .ref 7 [] 2 0 0:: .za::.za::tZ (jp (tZ (tZ ([]))))),[oW w,oM m,⟨1,38,8,[iQ],0⟩,⟨1,95,44,[iP],0⟩,oE qG,X,oM m,⟨1,261,2,[td],0⟩]++[Y,Z]⟩ R:=by
 refine kP (uH ?_);intro b;refine dd ?_;refine qT.qo (id:=10) _ _ _ _ (.inr J) underlying264 underlying3 J J J J J ?_;intro v0;refine dd ?_;refine qT.qo (id:=10) _ _ _ _ (.inr J) underlying264 underlying3 J J J J J ?_;intro v1;refine dd ?_;refine qT.qo (id:=10) _ _ _ _ (.inr J) underlying264 underlying3 J J J J J ?_;intro v2;refine dd ?_;refine qT.qo (id:=10) _ _ _ _ (.inr J) underlying264 underlying3 J J J J J ?_;intro v3;refine dd ?_;refine qT.qo (id:=10) _ _ _ _ (.inr J) underlying264 underlying3 J J J J J ?_;intro v4;refine dd ?_;refine qT.qo (id:=10) _ _ _ _ (.inr J) underlying264 underlying3 J J J J J ?_;intro v5;refine dd ?_;refine qT.qo (id:=10) _ _ _ _ (.inr J) underlying264 underlying3 J J J J J ?_;intro v6;refine dd ?_;refine qT.qo (id:=10) _ _ _ _ (.inr J) underlying264 underlying3 J J J J J ?_;intro v8;refine dd ?_;refine qT.qo (id:=10) _ _ _ _ (.inr J) underlying264 underlying3 J J J J J ?_;intro v9;refine dd ?_;refine qT.qo (id:=10) _ _ _ _ (.inr J) underlying264 underlying3 J J J J J ?_;intro v10;refine dd ?_;(refine⟨_,_,fy.vR (id:=10) _ _ _ _ J underlying264 underlying3 J J J J J J (hf _ _ _ _ _ _ _ _ _ _) hc,?_⟩;(refine dd ?_))
 refine hZ ?_
 refine .inl ⟨rfl,_,_,(zq.forget 10).trans (zq.xG 10 hC J J J hlow J),hn⟩
def jR{w w':Wor}{m m':fi}{e:fk}(sw:jd w)(ok:ir w)(hl:i64 m.listen)(hs:qd w m=true)(hm:tj 161 [] [Cw w,Cm m] (Bo true) [])(j f:Nat)(hcb:qp prog f=true)(hf:∀v0 v1 v2 v3 v4 v5 v6 v8 v9 v10,xt [(0,v0,0),(1,v1,1),(2,v2,2),(3,v3,3),(4,v4,4),(5,v5,5),(6,v6,6),(8,v8,7),(9,v9,8),(10,v10,9)] m.pc=some j)(hc:([.fn 162 [.agg td] [],.fn 163 [.agg td] [],.fn 164 [.agg td] [],.fn 165 [.agg td] [],.fn 166 [.agg td] [],.fn 167 [.agg td] [],.fn 168 [.agg td] [],.fn 169 [.agg td] [],.fn 170 [.agg td] [],.fn 171 [.agg td] []]:List C)[j]?=some (.fn f [.agg td] []))
 (h:tj f [oW w,oM m] [.agg tf] (Ce e) [oW w',oM m']):tj 130 [] [Cw w,Cm m] (.fq [Cw w',Cm m',Ce e]) []:=by
 refine zb.BH func130 J ?_;show qU prog 0 ((f130.body).getD .skip) _ _;refine kP (uH ?_);refine .inl ⟨rfl,_,_,.refl _,kP (uH ?_)⟩;refine ah (zP w m ok hl) ?_;refine⟨λ_=>dd ?_,λh=>absurd ((hs).symm.trans h:true=false) ar⟩;refine hZ ?_
 refine ah hm ?_;refine hZ ?_
 refine .inl ⟨rfl,_,_,.refl _,kP (uH ?_)⟩;refine .inr ⟨⟨[0,1,2],[0,1],true⟩,au,λ_=>J,λt H=>t=(.za::.za::.ref 0 [] 8 0 0:: .ref 1 [] 44 0 0:: .ref 2 [] 8 0 0:: .ref 3 [] 44 0 0:: .ref 4 [] 23 0 0:: .ref 5 [] 8 0 0:: .ref 6 [] 44 0 0:: .za::.za::.za::tZ (jp (tZ (tZ ([])))))/\H=[oW w,oM m,⟨1,38,8,[iQ],0⟩,⟨1,95,44,[iP],0⟩,oE qG,oW w,oM m],?_,?_⟩
 ·conv=>whnf
  refine⟨_,ai [] (qC w sw),uH ?_⟩;repeat' (first|(exact trivial)|(refine⟨rfl,uH ?_⟩)|(exact⟨_,_,zq.fx [0,1,2,3,4,5,6] [2,3,4,5,6,7,8] _ _ J J J J,rfl,rfl⟩)|(exact⟨_,_,zq.fx [0,1,2,3,4,6,5] [2,3,4,5,6,7,8] _ _ J J J J,rfl,rfl⟩)|(refine And.intro ?_ ?_ <;> (conv=>whnf)))
 rintro _ _ ⟨rfl,rfl⟩;conv=>whnf
 refine .inl ⟨rfl,_,_,.refl _,kP (uH ?_)⟩;refine .inl ⟨rfl,_,_,cE 8,YI w m (oW w) j f _ J hf hc ?_⟩;(refine jG (K:=λex t H=>(ex=.ret\/ex=.normal)/\∃s2,zq 0 ⟨t,H⟩ s2/\(kB prog f130 s2).map (xz 0 9)=some (.fq [Cw w',Cm m',Ce e])) (uH ?_))
 rw[hcb];refine af [5,6] (h) ?_;refine .inl ⟨⟨false,[0,1,2],[5,6,8],[]⟩,au,uH ?_⟩;refine hU ?_
 exact uI
def RZ{w:Wor}{m m':fi}{e:fk}{ls:List fI}(sw:jd w)(ok:ir w)(hl:i64 m.listen)(hs:qd w m=true)(hm:tj 161 [] [Cw w,Cm m] (Bo true) [])(j f:Nat)(hcb:qp prog f=true)(hf:∀v0 v1 v2 v3 v4 v5 v6 v8 v9 v10,xt [(0,v0,0),(1,v1,1),(2,v2,2),(3,v3,3),(4,v4,4),(5,v5,5),(6,v6,6),(8,v8,7),(9,v9,8),(10,v10,9)] m.pc=some j)(hc:([.fn 162 [.agg td] [],.fn 163 [.agg td] [],.fn 164 [.agg td] [],.fn 165 [.agg td] [],.fn 166 [.agg td] [],.fn 167 [.agg td] [],.fn 168 [.agg td] [],.fn 169 [.agg td] [],.fn 170 [.agg td] [],.fn 171 [.agg td] []]:List C)[j]?=some (.fn f [.agg td] []))
 (hne:w.ze≠[])(hll:ls.length=w.ze.length)(h:tj f [⟨1,38,8,[[I w.zl,I w.current,I w.lock,lI w.pins,lV w.zd,.sl 2 [] 4 0 w.ze.length false,fU w.counts,lR w.zp]],0⟩,oM m,⟨2,76,4,(w.ze).map qP,0⟩] [.agg tf] (Ce e) [⟨1,38,8,[[I w.zl,I w.current,I w.lock,lI w.pins,lV w.zd,.sl 2 [] 4 0 w.ze.length false,fU w.counts,lR w.zp]],0⟩,oM m',⟨2,76,4,(ls).map qP,0⟩]):tj 130 [] [Cw w,Cm m] (.fq [Cw {w with ze:=ls},Cm m',Ce e]) []:=by
 obtain⟨x,l,hx⟩:=tX hne;refine zb.BH func130 J ?_;show qU prog 0 ((f130.body).getD .skip) _ _;refine kP (uH ?_);refine .inl ⟨rfl,_,_,.refl _,kP (uH ?_)⟩;refine ah (zP w m ok hl) ?_;refine⟨λ_=>dd ?_,λh=>absurd ((hs).symm.trans h:true=false) ar⟩;refine hZ ?_
 refine ah hm ?_;refine hZ ?_
 refine .inl ⟨rfl,_,_,.refl _,kP (uH ?_)⟩;refine .inr ⟨⟨[0,2],[0,1],true⟩,au,λ_=>J,λt H=>t=(.za::.za::.ref 0 [] 8 0 0:: .ref 1 [] 44 0 0:: .ref 2 [] 8 0 0:: .ref 3 [] 44 0 0:: .ref 4 [] 23 0 0:: .ref 5 [] 8 0 0:: .ref 6 [] 44 0 0:: .za::.za::.za::tZ (jp (tZ (tZ ([])))))/\H=[oW w,oM m,⟨1,38,8,[iQ],0⟩,⟨1,95,44,[iP],0⟩,oE qG,⟨1,38,8,[[I w.zl,I w.current,I w.lock,lI w.pins,lV w.zd,.sl 7 [] 4 0 w.ze.length false,fU w.counts,lR w.zp]],0⟩,oM m,⟨2,76,4,(w.ze).map qP,0⟩],?_,?_⟩
 ·conv=>whnf
  repeat' (first|(exact trivial)|(refine⟨rfl,uH ?_⟩)|(refine zt [] (vG w sw x l hx) J J J J J J (uH ?_))|(exact⟨_,_,zq.fx [0,1,2,3,4,5,6,7] [2,3,4,5,6,7,8] _ _ J J J J,rfl,rfl⟩)|(exact⟨_,_,zq.fx [0,1,2,3,4,5,7,6] [2,3,4,5,6,7,8] _ _ J J J J,rfl,rfl⟩)|(exact⟨_,_,zq.fx [0,1,2,3,4,6,5,7] [2,3,4,5,6,7,8] _ _ J J J J,rfl,rfl⟩)|(exact⟨_,_,zq.fx [0,1,2,3,4,6,7,5] [2,3,4,5,6,7,8] _ _ J J J J,rfl,rfl⟩)|(exact⟨_,_,zq.fx [0,1,2,3,4,7,5,6] [2,3,4,5,6,7,8] _ _ J J J J,rfl,rfl⟩)|(exact⟨_,_,zq.fx [0,1,2,3,4,7,6,5] [2,3,4,5,6,7,8] _ _ J J J J,rfl,rfl⟩)|(refine And.intro ?_ ?_ <;> (conv=>whnf)))
 rintro _ _ ⟨rfl,rfl⟩;conv=>whnf
 refine .inl ⟨rfl,_,_,.refl _,kP (uH ?_)⟩;refine .inl ⟨rfl,_,_,(zq.fx [0,1,2,3,4,5,6,8,7] [2,3,4,5,6,7,8,9] _ _ J J J J).trans (cC),YH w m (⟨1,38,8,[[I w.zl,I w.current,I w.lock,lI w.pins,lV w.zd,.sl 8 [] 4 0 w.ze.length false,fU w.counts,lR w.zp]],0⟩) (⟨2,76,4,(w.ze).map qP,0⟩) j f _ J hf hc ?_⟩;(refine jG (K:=λex t H=>(ex=.ret\/ex=.normal)/\∃s2,zq 0 ⟨t,H⟩ s2/\(kB prog f130 s2).map (xz 0 9)=some (.fq [Cw {w with ze:=ls},Cm m',Ce e])) (uH ?_))
 rw[hcb];refine af [5,6,8] (h) ?_;refine .inl ⟨⟨false,[0,1,2],[5,6,9],[]⟩,au,uH ?_⟩;refine hU ?_
 exact dH
def RR(w:Wor)(h:jd w)(x:fH)(l:List fH)(hx:w.zp=x::l):tj 152 [] [Cw w] (.agg [I w.zl,I w.current,I w.lock,lI w.pins,.sl 0 [] 5 0 w.zd.length false,lL w.ze,fU w.counts,.sl 1 [] 3 0 w.zp.length false]) [⟨2,69,5,(w.zd).map zH,0⟩,⟨2,254,3,(w.zp).map xR,0⟩]:=by
 have hl:l.length<1000000000:=by have:=h.zp;rw[hx]at this;exact cW
 have hc:=NX x l hl;rw[<-hx]at hc;refine Cg (fn:=f152) func152 J (uH ?_);refine ah (vF w.pins h.pins) ?_;refine af [] (BE w.zd h.zd.1 λv hv=>jT v (h.zd.2 v hv)) ?_;refine ah (kO w.ze h.ze) ?_;refine af [] (BD w.counts h.counts.1 λr hr=>yp r (h.counts.2 r hr)) ?_;refine af [] (hc) ?_;refine⟨.inl J,_,_,zq.zV 1 0 6 J J J J (.inr J) J aj (shut_map (enc:=zN) (λ_=>J) w.counts) (qa J),rfl,?_⟩;exact zq.fx [3,5] [0] _ _ J J J (zc J (zc J (zc J (zc J (zc (zj λr hr c hc=>((shut_map (enc:=zN) (λ_=>J) w.counts) r hr c hc).2) J)))))
def RY{w:Wor}{m m':fi}{e:fk}{vs:List fp}{rs:List fH}(sw:jd w)(ok:ir w)(hl:i64 m.listen)(hs:qd w m=true)(hm:tj 161 [] [Cw w,Cm m] (Bo true) [])(j f:Nat)(hcb:qp prog f=true)(hf:∀v0 v1 v2 v3 v4 v5 v6 v8 v9 v10,xt [(0,v0,0),(1,v1,1),(2,v2,2),(3,v3,3),(4,v4,4),(5,v5,5),(6,v6,6),(8,v8,7),(9,v9,8),(10,v10,9)] m.pc=some j)(hc:([.fn 162 [.agg td] [],.fn 163 [.agg td] [],.fn 164 [.agg td] [],.fn 165 [.agg td] [],.fn 166 [.agg td] [],.fn 167 [.agg td] [],.fn 168 [.agg td] [],.fn 169 [.agg td] [],.fn 170 [.agg td] [],.fn 171 [.agg td] []]:List C)[j]?=some (.fn f [.agg td] []))
 (hne:w.zd≠[])(hne2:w.zp≠[])(hvl:vs.length=w.zd.length)(hrl:rs.length=w.zp.length)(h:tj f [⟨1,38,8,[[I w.zl,I w.current,I w.lock,lI w.pins,.sl 2 [] 5 0 w.zd.length false,lL w.ze,fU w.counts,.sl 3 [] 3 0 w.zp.length false]],0⟩,oM m,⟨2,69,5,(w.zd).map zH,0⟩,⟨2,254,3,(w.zp).map xR,0⟩] [.agg tf] (Ce e) [⟨1,38,8,[[I w.zl,I w.current,I w.lock,lI w.pins,.sl 2 [] 5 0 w.zd.length false,lL w.ze,fU w.counts,.sl 3 [] 3 0 w.zp.length false]],0⟩,oM m',⟨2,69,5,(vs).map zH,0⟩,⟨2,254,3,(rs).map xR,0⟩]):tj 130 [] [Cw w,Cm m] (.fq [Cw {w with zd:=vs,zp:=rs},Cm m',Ce e]) []:=by
 obtain⟨v,vl,hv⟩:=tX hne;obtain⟨r,rl,hr⟩:=tX hne2;refine zb.BH func130 J ?_;show qU prog 0 ((f130.body).getD .skip) _ _;refine kP (uH ?_);refine .inl ⟨rfl,_,_,.refl _,kP (uH ?_)⟩;refine ah (zP w m ok hl) ?_;refine⟨λ_=>dd ?_,λh=>absurd ((hs).symm.trans h:true=false) ar⟩;refine hZ ?_
 refine ah hm ?_;refine hZ ?_
 refine .inl ⟨rfl,_,_,.refl _,kP (uH ?_)⟩;refine .inr ⟨⟨[0,2],[0,1],true⟩,au,λ_=>J,λt H=>t=(.za::.za::.ref 0 [] 8 0 0:: .ref 1 [] 44 0 0:: .ref 2 [] 8 0 0:: .ref 3 [] 44 0 0:: .ref 4 [] 23 0 0:: .ref 5 [] 8 0 0:: .ref 6 [] 44 0 0:: .za::.za::.za::tZ (jp (tZ (tZ ([])))))/\H=[oW w,oM m,⟨1,38,8,[iQ],0⟩,⟨1,95,44,[iP],0⟩,oE qG,⟨1,38,8,[[I w.zl,I w.current,I w.lock,lI w.pins,.sl 7 [] 5 0 w.zd.length false,lL w.ze,fU w.counts,.sl 8 [] 3 0 w.zp.length false]],0⟩,oM m,⟨2,69,5,(w.zd).map zH,0⟩,⟨2,254,3,(w.zp).map xR,0⟩],?_,?_⟩
 ·conv=>whnf
  repeat' (first|(exact trivial)|(refine⟨rfl,uH ?_⟩)|(refine zt [] (RR w sw r rl hr) J J J J J J (uH ?_))|(exact⟨_,_,zq.fx [0,1,2,3,4,5,6,7,8] [2,3,4,5,6,7,8] _ _ J J J J,rfl,rfl⟩)|(exact⟨_,_,zq.fx [0,1,2,3,4,5,6,8,7] [2,3,4,5,6,7,8] _ _ J J J J,rfl,rfl⟩)|(exact⟨_,_,zq.fx [0,1,2,3,4,5,7,6,8] [2,3,4,5,6,7,8] _ _ J J J J,rfl,rfl⟩)|(exact⟨_,_,zq.fx [0,1,2,3,4,5,7,8,6] [2,3,4,5,6,7,8] _ _ J J J J,rfl,rfl⟩)|(exact⟨_,_,zq.fx [0,1,2,3,4,5,8,6,7] [2,3,4,5,6,7,8] _ _ J J J J,rfl,rfl⟩)|(exact⟨_,_,zq.fx [0,1,2,3,4,5,8,7,6] [2,3,4,5,6,7,8] _ _ J J J J,rfl,rfl⟩)|(exact⟨_,_,zq.fx [0,1,2,3,4,6,5,7,8] [2,3,4,5,6,7,8] _ _ J J J J,rfl,rfl⟩)|(exact⟨_,_,zq.fx [0,1,2,3,4,6,5,8,7] [2,3,4,5,6,7,8] _ _ J J J J,rfl,rfl⟩)|(exact⟨_,_,zq.fx [0,1,2,3,4,6,7,5,8] [2,3,4,5,6,7,8] _ _ J J J J,rfl,rfl⟩)|(exact⟨_,_,zq.fx [0,1,2,3,4,6,7,8,5] [2,3,4,5,6,7,8] _ _ J J J J,rfl,rfl⟩)|(exact⟨_,_,zq.fx [0,1,2,3,4,6,8,5,7] [2,3,4,5,6,7,8] _ _ J J J J,rfl,rfl⟩)|(exact⟨_,_,zq.fx [0,1,2,3,4,6,8,7,5] [2,3,4,5,6,7,8] _ _ J J J J,rfl,rfl⟩)|(exact⟨_,_,zq.fx [0,1,2,3,4,7,5,6,8] [2,3,4,5,6,7,8] _ _ J J J J,rfl,rfl⟩)|(exact⟨_,_,zq.fx [0,1,2,3,4,7,5,8,6] [2,3,4,5,6,7,8] _ _ J J J J,rfl,rfl⟩)|(exact⟨_,_,zq.fx [0,1,2,3,4,7,6,5,8] [2,3,4,5,6,7,8] _ _ J J J J,rfl,rfl⟩)|(exact⟨_,_,zq.fx [0,1,2,3,4,7,6,8,5] [2,3,4,5,6,7,8] _ _ J J J J,rfl,rfl⟩)|(exact⟨_,_,zq.fx [0,1,2,3,4,7,8,5,6] [2,3,4,5,6,7,8] _ _ J J J J,rfl,rfl⟩)|(exact⟨_,_,zq.fx [0,1,2,3,4,7,8,6,5] [2,3,4,5,6,7,8] _ _ J J J J,rfl,rfl⟩)|(exact⟨_,_,zq.fx [0,1,2,3,4,8,5,6,7] [2,3,4,5,6,7,8] _ _ J J J J,rfl,rfl⟩)|(exact⟨_,_,zq.fx [0,1,2,3,4,8,5,7,6] [2,3,4,5,6,7,8] _ _ J J J J,rfl,rfl⟩)|(exact⟨_,_,zq.fx [0,1,2,3,4,8,6,5,7] [2,3,4,5,6,7,8] _ _ J J J J,rfl,rfl⟩)|(exact⟨_,_,zq.fx [0,1,2,3,4,8,6,7,5] [2,3,4,5,6,7,8] _ _ J J J J,rfl,rfl⟩)|(exact⟨_,_,zq.fx [0,1,2,3,4,8,7,5,6] [2,3,4,5,6,7,8] _ _ J J J J,rfl,rfl⟩)|(exact⟨_,_,zq.fx [0,1,2,3,4,8,7,6,5] [2,3,4,5,6,7,8] _ _ J J J J,rfl,rfl⟩)|(refine And.intro ?_ ?_ <;> (conv=>whnf)))
 rintro _ _ ⟨rfl,rfl⟩;conv=>whnf
 refine .inl ⟨rfl,_,_,.refl _,kP (uH ?_)⟩;refine .inl ⟨rfl,_,_,(zq.fx [0,1,2,3,4,5,6,9,7,8] [2,3,4,5,6,7,8,9] _ _ J J J J).trans (cC),YG w m (⟨1,38,8,[[I w.zl,I w.current,I w.lock,lI w.pins,.sl 8 [] 5 0 w.zd.length false,lL w.ze,fU w.counts,.sl 9 [] 3 0 w.zp.length false]],0⟩) (⟨2,69,5,(w.zd).map zH,0⟩) (⟨2,254,3,(w.zp).map xR,0⟩) j f _ J hf hc ?_⟩;(refine jG (K:=λex t H=>(ex=.ret\/ex=.normal)/\∃s2,zq 0 ⟨t,H⟩ s2/\(kB prog f130 s2).map (xz 0 9)=some (.fq [Cw {w with zd:=vs,zp:=rs},Cm m',Ce e])) (uH ?_))
 rw[hcb];refine af [5,6,8,9] (h) ?_;refine .inl ⟨⟨false,[0,1,2],[5,6,10],[]⟩,au,uH ?_⟩;refine hU ?_
 exact⟨.inl J,_,(zq.zV 2 0 4 J J J J (.inr J) aj (by rw[gu];exact hvl.symm) (shut_map (enc:=zH) (λ_=>J) _) (qa J)).trans (zq.zV 2 0 7 J J J J (.inr J) aj (by rw[gu];exact hrl.symm) (shut_map (enc:=xR) (λ_=>J) _) (qa J)),rfl⟩
end Go.Wor
