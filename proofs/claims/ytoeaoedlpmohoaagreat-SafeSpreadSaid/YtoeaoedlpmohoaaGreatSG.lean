import Derived.Test.YtoeaoedlpmohoaaGreatSV
import Derived.Test.YtoeaoedlpmohoaaGreatSW
set_option linter.all false
set_option maxRecDepth 100000
set_option maxHeartbeats 4000000
namespace Go.Wor
open Go.Ab Go.Proofs Tryz Go.Hy Go.Gat Go.Nam Go.Hos Go.Con Go.Sna
def zpo(l:List mj)(s:lH)(hl:l.length<4611686018427387904):
  tp 122 [⟨2,76,4,(l).map ji,0⟩,⟨1,9,1,[[Tx s]],0⟩] [.sl 0 [] 4 0 l.length false,.fn 123 [] [.ref 1 [] 1 0 0]] (I (zD l s)) [⟨2,76,4,(l).map ji,0⟩,⟨1,9,1,[[Tx s]],0⟩]:=by
 refine aa func122 ?_;refine zW.seq l.length (λk=>(.sl 0 [] 4 0 l.length false::.fn 123 [] [.ref 1 [] 1 0 0]::.za::.za::I 0::.za::.za::I l.length::I k::mF ([.za,.za]))) (λk=>[⟨2,76,4,(l).map ji,0⟩,⟨1,9,1,[[Tx s]],0⟩]) (λk=>∀j,(h:j<l.length)->j<k->(l[j].name == s)=false) ?_ aj (λk hk hr=>?_) (λhr=>?_)
 ·exact cC
 ·have hg:(l.map ji)[k]?=some (ji l[k]):=by rw[pj,pa hk];rfl
  have e1:0+(k:Int).toNat=k:=aj
  conv=>whnf
  refine uF ?_;refine⟨aw,aq hk,dd ?_⟩;rw[e1];refine⟨_,hg,(by show 0+4<=4;decide),dd ?_⟩;refine af [1] (Up s l[k]) ?_;refine⟨λh2=>?_,λh2=>?_⟩
  ·refine dd ?_;refine .inr ⟨aj,uH ?_⟩
   have e:zD l s=k:=by
    unfold zD
    have:l.findIdx? (λx=>x.name == s)=some k:=by
     exact gP
    rw[this]
   rw[e];exact di
  ·refine dd ?_;refine .inl ⟨rfl,?_,λj hj hjk=>?_⟩
   ·rw[zy aw];exact cE 2
   ·by_cases e:j=k
    ·subst e;exact h2
    ·exact hr j hj aw
 ·refine uD ?_
  have e:zD l s= -1:=by
   unfold zD
   have:l.findIdx? (λx=>x.name == s)=none:=by
    rw[pW];intro x hx;obtain⟨j,hj,rfl⟩:=rP.1 hx;exact hr j hj hj
   rw[this]
  rw[e];exact di
def znT(l:List mj)(s:lH)(hl:l.length<4611686018427387904):tp 88 [⟨2,76,4,(l).map ji,0⟩] [.sl 0 [] 4 0 l.length false,Tx s] (I (zD l s)) [⟨2,76,4,(l).map ji,0⟩]:=by
 refine aa func88 ?_;refine af [0,1] (zpo l s hl) ?_;exact gK
def R9(m:lh)(e:lD)(a:lM):tp 159 [oM m,⟨1,257,24,[.ref 0 [] 44 0 0::jd (e)],0⟩] [.ref 1 [] 24 0 0,.agg (xK a)] (.lK []) [oM ({m with done:=true,answer:=a}),⟨1,257,24,[.ref 0 [] 44 0 0::jd ({e with done:=true,answer:=a})],0⟩]:=by
 refine aa func159 ?_;refine .inl ⟨⟨false,[3,7,8],[1,2],[]⟩,au,uH ?_⟩;refine td ?_
 refine .inl ⟨⟨false,[2],[2],[]⟩,au,uH ?_⟩;refine td ?_
 exact⟨.inr O,_,_,.refl _,rfl,cE 2⟩
abbrev Ma(m:lh):lD:={qV with zg:=m.zg,access:=1,version:= -1}
def zlc(w:Wor)(m:lh)(sw:jF w)(ok:nk w)(hl:i64 m.listen)(hpc:m.pc=0)(hs:ql w m=true)(hi:zD w.zf m.op.listen<0):
  tp 129 [] [Cw w,Cm m] (.lK [Cw w,Cm {m with done:=true,answer:=Ah 7},Ce {Ma m with done:=true,answer:=Ah 7}]) []:=by
 refine ab func129 ?_;refine⟨λh=>absurd h (by simp[hpc]),λ_=>dd ?_⟩;refine ah (zV w m ok hl) ?_;refine⟨λ_=>dd ?_,λh=>absurd ((hs).symm.trans h:true=false) ar⟩;refine tf ?_
 refine ah (qP w sw) ?_;refine ah (JP w.zf m.op.listen (by have:=ok.zf.1;omega)) ?_;refine⟨λ_=>dd ?_,λh=>absurd h (aq hi)⟩;refine af [1,5] (R9 m (Ma m) (Ah 7)) ?_;refine .inl ⟨⟨false,[0,1,5],[0,1,5],[]⟩,au,uH ?_⟩;refine td ?_
 exact uI
abbrev MD(m:lh):lD:={qV with zg:=m.zg,access:=2,cell:=4,version:= -1,value:=1,zQ:=true}
def zjS(w:Wor)(m:lh)(x:mj)(sw:jF w)(ok:nk w)(hl:i64 m.listen)(hpc:m.pc=0)(hs:ql w m=true)(hi:0<=zD w.zf m.op.listen)(hx:w.zf[(zD w.zf m.op.listen).toNat]?=some x):
  tp 129 [] [Cw w,Cm m] (.lK [Cw {w with zf:=w.zf.set (zD w.zf m.op.listen).toNat (Go.Gat.vL x)},Cm {m with listen:=zD w.zf m.op.listen,done:=true,answer:=⟨10,0,0,0,0,zD w.zf m.op.listen,0,⟨0,0,0,0,0,0⟩⟩},Ce {MD m with done:=true,answer:=⟨10,0,0,0,0,zD w.zf m.op.listen,0,⟨0,0,0,0,0,0⟩⟩}]) []:=by
 generalize hp:zD w.zf m.op.listen=p at hi hx;have lt:p.toNat<w.zf.length:=(gZ.1 hx).1;have gl:(w.zf.map ji)[p.toNat]?=some (ji x):=by rw[pj,hx];rfl
 have hst:(w.zf.map ji).set p.toNat [Tx (Go.Gat.vL x).name,Bo (Go.Gat.vL x).drain,I (Go.Gat.vL x).zj,Bo (Go.Gat.vL x).closed]=(w.zf.set p.toNat (Go.Gat.vL x)).map ji:=bU
 have e1:0+p.toNat=p.toNat:=pR _
 obtain⟨y,l,hy⟩:∃y l,w.zf=y::l:=by
  cases h:w.zf with
  |nil=>rw[h]at lt;simp at lt
  |cons y l=>exact⟨y,l,rfl⟩
 have hpl:=znT w.zf m.op.listen (by have:=ok.zf.1;omega);rw[hp]at hpl;refine ab func129 ?_;refine⟨λh=>absurd h (by simp[hpc]),λ_=>dd ?_⟩;refine ah (zV w m ok hl) ?_;refine⟨λ_=>dd ?_,λh=>absurd ((hs).symm.trans h:true=false) ar⟩;refine tf ?_
 refine af [] (k9 w sw y l hy) ?_;refine af [5] (hpl) ?_;refine⟨λh=>absurd h aA,λ_=>dd ?_⟩;refine .inl ⟨⟨true,[1,4],[0],[8]⟩,au,uH ?_⟩;refine td ?_
 refine⟨hi,lt,dd ?_⟩;rw[e1];refine⟨_,gl,(by show 0+4<=4;decide),dd ?_⟩;refine ah (Go.Gat.zoY x) ?_;refine⟨hi,lt,dd ?_⟩;rw[e1];refine⟨_,gl,rfl,dd ?_⟩;refine td ?_
 rw[hst];refine af [1,6] (R9 {m with listen:=p} (MD m) ⟨10,0,0,0,0,p,0,⟨0,0,0,0,0,0⟩⟩) ?_;refine .inl ⟨⟨false,[0,1,5],[0,1,6],[]⟩,au,uH ?_⟩;refine td ?_
 exact⟨.inl O,_,zt.qa 2 0 5 O O O O (.inr O) aj aj (shut_map (enc:=ji) (λ_=>O) _) (qk O),rfl⟩
abbrev nH(m:lh)(p i:Int):lh:={m with pc:=p,i:=i}
def qZ(m:lh)(a b c:Int):tp 211 [oM m] [.agg [.za,.ref 0 [] 44 0 0],I a,I b,I c] (Ce (mD m a b c)) [oM m]:=by
 refine aa func211 ?_;refine td ?_;exact gK
def yf(m:lh)(p i:Int):tp 212 [oM m] [.agg [.za,.ref 0 [] 44 0 0],I p,I i] (.lK []) [oM ({m with pc:=p,i:=i})]:=by
 refine aa func212 ?_;refine .inl ⟨⟨false,[1,3],[1],[]⟩,au,uH ?_⟩;refine td ?_
 exact⟨.inr O,_,_,.refl _,rfl,cE 1⟩
def R5(m:lh)(e:lD)(a:lM):tp 210 [oM m] [.agg [.za,.ref 0 [] 44 0 0],Ce e,.agg (xK a)] (Ce {e with done:=true,answer:=a}) [oM ({m with done:=true,answer:=a})]:=by
 refine aa func210 ?_;refine .inl ⟨⟨false,[1,3,4],[1,3],[]⟩,au,uH ?_⟩;refine td ?_
 refine .inl ⟨⟨false,[0],[3],[]⟩,au,uH ?_⟩;refine td ?_
 refine td ?_;exact gK
def ziV(w:Wor)(m:lh):tp 163 [oW w,oM m] [.agg to] (Ce (mD m 1 1 w.zn)) [oW w,oM ({m with zn:=w.zn,pc:=2,i:=0})]:=by
 refine aa func163 ?_;refine .inl ⟨⟨false,[1,3,6],[0,2],[]⟩,au,uH ?_⟩;refine td ?_
 refine af [1] (yf {m with zn:=w.zn} 2 0) ?_;refine .inl ⟨⟨true,[],[],[]⟩,au,uH ?_⟩;refine af [1] (qZ {m with zn:=w.zn,pc:=2,i:=0} 1 1 w.zn) ?_;exact dE
def znA(w:Wor)(m:lh)(h:w.lock≠0):tp 162 [oW w,oM m] [.agg to] (Ce {mD m 5 14 1 with done:=true,answer:=Ah 12}) [oW w,oM ({m with done:=true,answer:=Ah 12})]:=by
 refine aa func162 ?_;refine⟨λ_=>dd ?_,λhh=>absurd hh (aq h)⟩;refine .inl ⟨⟨true,[0,1],[2],[2]⟩,au,uH ?_⟩;refine af [1] (qZ m 5 14 1) ?_;refine td ?_
 refine af [1] (R5 m (mD m 5 14 1) (Ah 12)) ?_;exact dE
def zln(w:Wor)(m:lh)(h:w.lock=0):tp 162 [oW w,oM m] [.agg to] (Ce (mD m 4 14 1)) [oW ({w with lock:=1}),oM ({m with pc:=1})]:=by
 refine aa func162 ?_;refine⟨λhh=>absurd hh aI,λ_=>dd ?_⟩;refine .inl ⟨⟨false,[1,3],[2],[]⟩,au,uH ?_⟩;refine td ?_
 refine af [1] (qZ {m with pc:=1} 4 14 1) ?_;exact dE
def CW(w:Wor)(m:lh)(p:Int):lh:=if p≠0/\p≠IntKind.i64.wrap (m.zn+1) then nH m 4 0 else if IntKind.i64.wrap (m.i+1)<w.pins.length then {m with i:=IntKind.i64.wrap (m.i+1)} else nH m 3 (IntKind.i64.wrap (m.i+1))
def zlm(w:Wor)(m:lh)(p:Int)(h0:0<=m.i)(hp:w.pins[m.i.toNat]?=some p):tp 164 [oW w,oM m] [.agg to] (Ce (mD m 1 2 p)) [oW w,oM (CW w m p)]:=by
 have hg:(w.pins.map encI)[m.i.toNat]?=some (encI p):=by rw[pj,hp];rfl
 have ml:(w.pins.map encI).length=w.pins.length:=pB ..;refine aa func164 ?_;refine uE ?_;(refine⟨h0,_,hg,dd ?_⟩)
 refine⟨λq1=>?_,λq1=>?_⟩
 ·refine dd ?_;refine⟨λq2=>?_,λq2=>?_⟩
  ·rw[show CW w m p=nH m 4 0 from pA ⟨aq q1,aq q2⟩];refine dd ?_;refine tf ?_
   refine af [1] (yf m 4 0) ?_;refine af [1] (qZ (nH m 4 0) 1 2 p) ?_;exact dE
  ·have q:¬(p≠0/\p≠IntKind.i64.wrap (m.zn+1)):=λhh=>hh.2 (aq q2)
   refine dd ?_;refine tf ?_
   (rw[show CW w m p=_ from pw q]);refine uE ?_;(rw[ml]);refine⟨λq3=>?_,λq3=>?_⟩;(focus ((rw[pA (aq q3)]);refine dd ?_;refine af [1] (qZ {m with i:=IntKind.i64.wrap (m.i+1)} 1 2 p) ?_;refine td ?_;exact⟨.inl O,_,_,.refl _,rfl,cE 2⟩));(rw[pw (aq q3)]);refine dd ?_;refine .inl ⟨⟨true,[],[],[]⟩,au,uH ?_⟩;refine af [1] (yf m 3 (IntKind.i64.wrap (m.i+1))) ?_;refine td ?_;refine af [1] (qZ (nH m 3 (IntKind.i64.wrap (m.i+1))) 1 2 p) ?_;exact dE
 ·have q:¬(p≠0/\p≠IntKind.i64.wrap (m.zn+1)):=λhh=>hh.1 (aq q1)
  refine dd ?_;refine tf ?_
  (rw[show CW w m p=_ from pw q]);refine uE ?_;(rw[ml]);refine⟨λq3=>?_,λq3=>?_⟩;(focus ((rw[pA (aq q3)]);refine dd ?_;refine af [1] (qZ {m with i:=IntKind.i64.wrap (m.i+1)} 1 2 p) ?_;refine td ?_;exact⟨.inl O,_,_,.refl _,rfl,cE 2⟩));(rw[pw (aq q3)]);refine dd ?_;refine .inl ⟨⟨true,[],[],[]⟩,au,uH ?_⟩;refine af [1] (yf m 3 (IntKind.i64.wrap (m.i+1))) ?_;refine td ?_;refine af [1] (qZ (nH m 3 (IntKind.i64.wrap (m.i+1))) 1 2 p) ?_;exact dE
def zhj(w:Wor)(m:lh)(h:¬(w.zn=m.zn/\w.zn<1000000000000)):tp 165 [oW w,oM m] [.agg to] (Ce (mD m 5 1 w.zn)) [oW w,oM (nH m 4 0)]:=by
 refine aa func165 ?_;refine uE ?_;refine⟨λq1=>?_,λq1=>?_⟩
 ·refine dd ?_;refine⟨λq2=>?_,λq2=>?_⟩
  ·exact absurd ⟨aq q1,aq q2⟩ h
  ·refine dd ?_;refine tf ?_
   refine af [1] (yf m 4 0) ?_;refine .inl ⟨⟨true,[],[],[]⟩,au,uH ?_⟩;refine af [1] (qZ (nH m 4 0) 5 1 w.zn) ?_;exact dE
 ·refine dd ?_;refine tf ?_
  refine af [1] (yf m 4 0) ?_;refine .inl ⟨⟨true,[],[],[]⟩,au,uH ?_⟩;refine af [1] (qZ (nH m 4 0) 5 1 w.zn) ?_;exact dE
def zf7(w:Wor)(m:lh)(h1:w.zn=m.zn)(h2:w.zn<1000000000000):tp 165 [oW w,oM m] [.agg to] (Ce (mD m 4 1 (IntKind.i64.wrap (w.zn+1)))) [oW ({w with zn:=IntKind.i64.wrap (w.zn+1)}),oM ({nH m 4 0 with zn:=IntKind.i64.wrap (w.zn+1)})]:=by
 refine aa func165 ?_;refine uE ?_;refine⟨λ_=>dd ?_,λhh=>absurd hh tE⟩;refine⟨λ_=>dd ?_,λhh=>absurd hh aA⟩;refine tf ?_
 refine .inl ⟨⟨false,[1,3,6],[0,2],[]⟩,au,uH ?_⟩;refine td ?_
 refine af [1] (yf {m with zn:=IntKind.i64.wrap (w.zn+1)} 4 0) ?_;refine .inl ⟨⟨true,[],[],[]⟩,au,uH ?_⟩;refine af [1] (qZ {nH m 4 0 with zn:=IntKind.i64.wrap (w.zn+1)} 4 1 (IntKind.i64.wrap (w.zn+1))) ?_;exact dE
def xJ(v:lJ):List En:=v.zp.flatMap (·.ends)
structure Jh(v:lJ):Prop where
 zp:v.zp.length<=1000
 ends : ∀g∈v.zp, g.ends.length <= 1000
def NT:∀(l:List Gr),(∀g∈l,g.ends.length<=1000)->(l.flatMap (·.ends)).length<=l.length*1000
 |[],_=>by simp
 |g::l,h=>by
  have:=NT l λx hx=>h x (r8 _ hx)
  have:=h g (r7 ..);simp only[sO,pL,rF];omega
def Sa(v:lJ)(h:Jh v):tp 214 [] [Cv v] (lE (xJ v)) []:=by
 have m1:(v.zp.map zI).length=v.zp.length:=pB ..;have hgl:=h.zp;refine ab func214 ?_;rw[m1];refine zW.seq v.zp.length (λk=>(.za::.ref 0 [] 5 0 0::.lq 1 0 []::.gl 1 3 (((v.zp.take k).flatMap (·.ends)).map zF)::.za::.za::.za::(lG v.zp)::I v.zp.length::I k::mF ([.za]))) (λk=>[⟨1,69,5,[zJ v],0⟩,⟨4,74,3,((v.zp.take k).flatMap (·.ends)).map zF,0⟩]) (λk=>True) ?_ trivial (λk hk hr=>?_) (λhr=>?_)
 ·refine zt.trans (zt.grow 3 74 3 O (.inl O)) ?_;exact cC
 ·obtain⟨g,hx⟩:∃g,g=v.zp[k]:=⟨_,rfl⟩;have hg:(v.zp.map zI)[k]?=some (zI g):=by rw[pj,pa hk,hx];rfl
  have eg:((v.zp.take (k+1)).flatMap (·.ends)).map zF=((v.zp.take k).flatMap (·.ends)).map zF++g.ends.map zF:=bS
  have l1:(((v.zp.take k).flatMap (·.ends)).map zF).length<=k*1000:=by
   have:=NT (v.zp.take k) λx hx=>h.ends x (sT hx)
   rw[u5,Nat.min_eq_left aw]at this;simpa using this
  have l2:(g.ends.map zF).length<=1000:=by rw[pB];exact h.ends g (hx ▸ pY hk)
  conv=>whnf
  refine uF ?_;(refine tj hg ?_)
  refine⟨rfl,.inr O,by simp only[maxLen];omega,by show _*40<=_;omega,dd ?_⟩;refine .inl ⟨rfl,?_,trivial⟩;rw[zy aw,eg];exact cE 2
 ·refine uD ?_;rw[rj];exact uI
abbrev Jc(k n:Int):lM:=⟨k,0,0,0,0,0,n,⟨0,0,0,0,0,0⟩⟩
def zhB(w:Wor)(m:lh)(l:mj)(h0:0<=m.i)(hx:w.zf[m.i.toNat]?=some l):tp 170 [oW w,oM m] [.agg to] (Ce (mD m 1 5 l.zj)) [oW w,oM (if l.zj=0 then {m with pc:=10} else nH m 8 (IntKind.i64.wrap (m.i+1)))]:=by
 have hg:(w.zf.map ji)[m.i.toNat]?=some (ji l):=by rw[pj,hx];rfl
 refine aa func170 ?_;refine uE ?_;(refine⟨h0,_,hg,dd ?_⟩)
 refine⟨λq=>?_,λq=>?_⟩
 ·rw[pA (aq q)];refine dd ?_;refine af [1] (qZ {m with pc:=10} 1 5 l.zj) ?_;exact dE
 ·rw[pw (aq q)];refine dd ?_;refine .inl ⟨⟨true,[],[],[]⟩,au,uH ?_⟩;refine af [1] (yf m 8 (IntKind.i64.wrap (m.i+1))) ?_;refine td ?_
  refine af [1] (qZ (nH m 8 (IntKind.i64.wrap (m.i+1))) 1 5 l.zj) ?_;exact dE
def zfy(w:Wor)(m:lh)(h:w.zf.length<=m.i):tp 169 [oW w,oM m] [.agg to] (Ce {mD m 2 14 0 with done:=true,answer:=Jc 11 m.answer.n}) [oW ({w with lock:=0}),oM ({m with done:=true,answer:=Jc 11 m.answer.n})]:=by
 have ml:(w.zf.map ji).length=w.zf.length:=pB ..;refine aa func169 ?_;refine uE ?_;rw[ml];refine⟨λ_=>dd ?_,λhh=>absurd hh aA⟩;refine .inl ⟨⟨true,[0,1],[2],[2]⟩,au,uH ?_⟩;refine af [1] (qZ m 2 14 0) ?_;refine td ?_
 refine af [1] (R5 m (mD m 2 14 0) (Jc 11 m.answer.n)) ?_;exact dE
abbrev Es(m:lh)(l:mj):lh:=if l.drain=true/\l.closed=false then {m with pc:=9} else {m with i:=IntKind.i64.wrap (m.i+1)}
abbrev JC(m:lh)(l:mj):lD:=mD m 1 4 (if l.drain=true then 1 else 0)
def zhz(w:Wor)(m:lh)(l:mj)(h0:0<=m.i)(hx:w.zf[m.i.toNat]?=some l):tp 169 [oW w,oM m] [.agg to] (Ce (JC m l)) [oW w,oM (Es m l)]:=by
 have hg:(w.zf.map ji)[m.i.toNat]?=some (ji l):=by rw[pj,hx];rfl
 have lu:=(gZ.1 hx).1;have ml:(w.zf.map ji).length=w.zf.length:=pB ..;obtain⟨nm,dr,ac,cl⟩:=l;cases dr <;> cases cl
 all_goals
  refine aa func169 ?_;refine uE ?_;rw[ml];refine⟨λhh=>absurd hh aA,λ_=>dd ?_⟩;refine .inr ⟨⟨[1,4,8,10],[0,1,2],true⟩,au,λ_=>O,_,uH ?_,λt2 H2 h=>h⟩;refine td ?_
  (refine⟨h0,_,hg,dd ?_⟩)
  (refine⟨uH ?_,trivial⟩);refine td ?_
  (refine⟨uH ?_,trivial⟩);refine td ?_
  (refine⟨_,_,.refl _,uH ?_⟩)
  refine af [1] (qZ m 1 4 0) ?_;(repeat (first|((refine ya (dd ?_)))|((refine yb (dd ?_)))))
  exact dE
def zfz{w w':Wor}{m m':lh}{e:lD}(h:w.zr.length<=m.i)(hd:tp 169 [oW w,oM (nH m 8 0)] [.agg to] (Ce e) [oW w',oM m']):tp 166 [oW w,oM m] [.agg to] (Ce e) [oW w',oM m']:=by
 have ml:(w.zr.map yB).length=w.zr.length:=pB ..;refine aa func166 ?_;refine uE ?_;rw[ml];refine⟨λ_=>dd ?_,λhh=>absurd hh aA⟩;refine af [1] (yf m 8 0) ?_;refine af [0,1] (hd) ?_;exact dE
abbrev Dq(m:lh)(r:mw):lh:=if r.gone=true\/Go.Lim.Dd r.at_ m.zn=false then {m with i:=IntKind.i64.wrap (m.i+1)} else {m with version:=r.version,zi:=0,end_:=0,other:=0,slot:=0,k:=0,pc:=5}
def ziW(w:Wor)(m:lh)(r:mw)(hr:i64 r.at_)(h0:0<=m.i)(hx:w.zr[m.i.toNat]?=some r):tp 166 [oW w,oM m] [.agg to] (Ce (mD m 1 11 r.version)) [oW w,oM (Dq m r)]:=by
 have hg:(w.zr.map yB)[m.i.toNat]?=some (yB r):=by rw[pj,hx];rfl
 have lu:=(gZ.1 hx).1;have ml:(w.zr.map yB).length=w.zr.length:=pB ..;obtain⟨rv,ra,rg⟩:=r;refine aa func166 ?_;refine uE ?_;rw[ml];refine⟨λhh=>absurd hh aA,λ_=>dd ?_⟩;refine .inr ⟨⟨[1,4,8,10],[0,1,2],true⟩,au,λ_=>O,_,uH ?_,λt2 H2 h=>h⟩;refine td ?_
 (refine⟨h0,_,hg,dd ?_⟩)
 (refine⟨uH ?_,trivial⟩);refine td ?_
 (refine⟨uH ?_,trivial⟩);refine td ?_
 (refine⟨_,_,.refl _,uH ?_⟩)
 cases rg
 ·have eN:Go.Lim.Dd ra m.zn=false->Dq m ⟨rv,ra,false⟩={m with i:=IntKind.i64.wrap (m.i+1)}:=λhh=>pA (.inr hh)
  have eY:Go.Lim.Dd ra m.zn=true->Dq m ⟨rv,ra,false⟩={m with version:=rv,zi:=0,end_:=0,other:=0,slot:=0,k:=0,pc:=5}:=λhh=>pw (by simp[hh])
  refine .inl ⟨⟨true,[],[],[9]⟩,au,uH ?_⟩;(repeat (first|((refine ya (dd ?_)))|((refine yb (dd ?_)))))
  refine ah (Go.Lim.zsM (now:=m.zn) hr.1 hr.2) ?_;refine⟨λq=>?_,λq=>?_⟩
  ·rw[eY q];refine dd ?_;refine td ?_
   (repeat (first|((refine ya (dd ?_)))|((refine yb (dd ?_)))))
   refine af [1] (qZ {m with version:=rv,zi:=0,end_:=0,other:=0,slot:=0,k:=0,pc:=5} 1 11 rv) ?_;exact dE
  ·rw[eN q];refine dd ?_;refine td ?_
   (repeat (first|((refine ya (dd ?_)))|((refine yb (dd ?_)))))
   refine af [1] (qZ {m with i:=IntKind.i64.wrap (m.i+1)} 1 11 rv) ?_;exact dE
 ·rw[show Dq m ⟨rv,ra,true⟩=_ from pA (.inl O)];refine .inl ⟨⟨true,[],[],[9]⟩,au,uH ?_⟩;(repeat (first|((refine ya (dd ?_)))|((refine yb (dd ?_)))))
  refine af [1] (qZ {m with i:=IntKind.i64.wrap (m.i+1)} 1 11 rv) ?_;exact dE
abbrev I9(l:mj):mj:={l with closed:=true}
def zsQ(w:Wor)(m:lh)(x:mj)(h0:0<=m.i)(hx:w.zf[m.i.toNat]?=some x):
  tp 171 [⟨1,38,8,[[I w.zn,I w.current,I w.lock,lI w.pins,lV w.zd,.sl 2 [] 4 0 w.zf.length false,mQ w.counts,lR w.zr]],0⟩,oM m,⟨2,76,4,(w.zf).map ji,0⟩] [.agg to] (Ce (mD m 2 13 1)) [⟨1,38,8,[[I w.zn,I w.current,I w.lock,lI w.pins,lV w.zd,.sl 2 [] 4 0 w.zf.length false,mQ w.counts,lR w.zr]],0⟩,oM (nH m 8 (IntKind.i64.wrap (m.i+1))),⟨2,76,4,(w.zf.set m.i.toNat (I9 x)).map ji,0⟩]:=by
 have e1:0+m.i.toNat=m.i.toNat:=pR _;have lu:m.i.toNat<w.zf.length:=(gZ.1 hx).1;have gx:(w.zf.map ji)[m.i.toNat]?=some (ji x):=by rw[pj,hx];rfl
 have hst:(w.zf.map ji).set m.i.toNat [Tx x.name,Bo x.drain,I x.zj,Bo true]=(w.zf.set m.i.toNat (I9 x)).map ji:=bU
 refine aa func171 ?_;refine .inl ⟨⟨false,[1,4,6,9],[0,1,3],[]⟩,au,uH ?_⟩;refine td ?_
 refine⟨h0,lu,dd ?_⟩;rw[e1];refine⟨_,gx,rfl,dd ?_⟩;refine td ?_
 rw[hst];refine .inl ⟨⟨true,[],[],[]⟩,au,uH ?_⟩;refine af [1] (yf m 8 (IntKind.i64.wrap (m.i+1))) ?_;refine td ?_
 refine af [1] (qZ (nH m 8 (IntKind.i64.wrap (m.i+1))) 2 13 1) ?_;refine td ?_;exact⟨.inl O,_,_,.refl _,rfl,cE 3⟩
abbrev Jt(m:lh)(v:lJ)(a:Int):lD:={mD m 1 7 a with version:=m.version,qd:=v.qd}
abbrev Cd(m:lh)(v:lJ)(a:Int):lh:=if a≠0 then nH m 4 (IntKind.i64.wrap (m.i+1)) else if IntKind.i64.wrap (m.k+1)<(xJ v).length then {m with k:=IntKind.i64.wrap (m.k+1)} else {m with k:=IntKind.i64.wrap (m.k+1),pc:=6}
def zhy(w:Wor)(m:lh)(v:lJ)(e:En)(hf:Jh v)(hv:CT w m v)(k0:0<=m.k)(hk:(xJ v)[m.k.toNat]?=some e):tp 167 [oW w,oM m] [.agg to] (Ce (Jt m v e.zj)) [oW w,oM (Cd m v e.zj)]:=by
 have a0:=hv.v0;have a1:=hv.row;have hg:((xJ v).map zF)[m.k.toNat]?=some (zF e):=by rw[pj,hk];rfl
 have ml:((xJ v).map zF).length=(xJ v).length:=pB ..;have he:=Sa v hf;have eA:e.zj≠0->Cd m v e.zj=nH m 4 (IntKind.i64.wrap (m.i+1)):=λhh=>pA hh
 have eB:e.zj=0->Cd m v e.zj=if IntKind.i64.wrap (m.k+1)<(xJ v).length then {m with k:=IntKind.i64.wrap (m.k+1)} else {m with k:=IntKind.i64.wrap (m.k+1),pc:=6}:=λhh=>pw (by simp[hh])
 generalize hll:xJ v=ll at he hk hg ml eA eB;obtain⟨sn,gs,fr⟩:=v;cases fr
 all_goals
  refine aa func167 ?_;refine .inr ⟨⟨[1,4,8,10],[0,1,2],true⟩,au,λ_=>O,_,uH ?_,λt2 H2 h=>h⟩;refine td ?_
  (refine⟨a0,_,a1,dd ?_⟩)
  (refine⟨uH ?_,trivial⟩);refine td ?_
  (refine⟨uH ?_,trivial⟩);refine td ?_
  (refine⟨_,_,.refl _,uH ?_⟩)
  refine ah he ?_;refine .inr ⟨⟨[0,5,8,9],[0,1,2,3,4],true⟩,au,λ_=>O,_,uH ?_,λt2 H2 h=>h⟩;(refine⟨k0,_,hg,dd ?_⟩)
  refine⟨_,ai [1] (qZ m 1 7 e.zj),uH ?_⟩;(refine⟨uH ?_,trivial⟩);refine td ?_
  (refine⟨uH ?_,trivial⟩);refine td ?_
  (refine⟨_,_,.refl _,uH ?_⟩)
  refine .inl ⟨⟨false,[3,5],[1,4],[]⟩,au,uH ?_⟩;(repeat (first|((refine ya (dd ?_)))|((refine yb (dd ?_)))))
  refine td ?_
  refine⟨λq=>?_,λq=>?_⟩
  ·rw[eA (aq q)];refine dd ?_;refine .inl ⟨⟨true,[],[],[]⟩,au,uH ?_⟩;refine af [1] (yf m 4 (IntKind.i64.wrap (m.i+1))) ?_;exact dE
  ·rw[eB (aq q)];refine dd ?_;rw[ml];refine⟨λq2=>?_,λq2=>?_⟩
   ·rw[pA (aq q2)];refine dd ?_;exact dE
   ·rw[pw (aq q2)];refine dd ?_;exact dE
abbrev Cg(v:lJ):lJ:={v with qd:=true}
abbrev wb(r:mw):mw:={r with gone:=true}
abbrev HB(m:lh):lh:={m with answer:={m.answer with n:=IntKind.i64.wrap (m.answer.n+1)},pc:=4,i:=IntKind.i64.wrap (m.i+1)}
def HU(w:Wor)(m:lh)(v:lJ)(r:mw)(hv:CT w m v)(h0:0<=m.i)(hx:w.zr[m.i.toNat]?=some r):
  tp 168 [⟨1,38,8,[[I w.zn,I w.current,I w.lock,lI w.pins,.sl 2 [] 5 0 w.zd.length false,lL w.zf,mQ w.counts,.sl 3 [] 3 0 w.zr.length false]],0⟩,oM m,⟨2,69,5,(w.zd).map zJ,0⟩,⟨2,254,3,(w.zr).map yB,0⟩] [.agg to] (Ce (mD m 2 12 m.version)) [⟨1,38,8,[[I w.zn,I w.current,I w.lock,lI w.pins,.sl 2 [] 5 0 w.zd.length false,lL w.zf,mQ w.counts,.sl 3 [] 3 0 w.zr.length false]],0⟩,oM (HB m),⟨2,69,5,(w.zd.set m.version.toNat (Cg v)).map zJ,0⟩,⟨2,254,3,(w.zr.set m.i.toNat (wb r)).map yB,0⟩]:=by
 have a0:=hv.v0;have av:m.version.toNat<w.zd.length:=(gZ.1 hv.at_).1;have gv:=hv.row;have e1:0+m.i.toNat=m.i.toNat:=pR _;have e2:0+m.version.toNat=m.version.toNat:=pR _;have lu:m.i.toNat<w.zr.length:=(gZ.1 hx).1;have gx:(w.zr.map yB)[m.i.toNat]?=some (yB r):=by rw[pj,hx];rfl
 have hst:(w.zr.map yB).set m.i.toNat [I r.version,I r.at_,Bo true]=(w.zr.set m.i.toNat (wb r)).map yB:=bU
 have hsv:(w.zd.map zJ).set m.version.toNat [lT v.snap.zf,o7 v.snap.rules,lC v.snap.zm,lG v.zp,Bo true]=(w.zd.set m.version.toNat (Cg v)).map zJ:=bU
 refine aa func168 ?_;refine .inl ⟨⟨false,[1,4,8,10,13,17],[0,1,4],[]⟩,au,uH ?_⟩;refine td ?_
 refine⟨a0,av,dd ?_⟩;rw[e2];refine⟨_,gv,rfl,dd ?_⟩;refine td ?_
 refine⟨h0,lu,dd ?_⟩;rw[e1];refine⟨_,gx,rfl,dd ?_⟩;refine td ?_
 rw[hst,hsv];refine .inl ⟨⟨true,[],[],[]⟩,au,uH ?_⟩;refine af [1] (yf {m with answer:={m.answer with n:=IntKind.i64.wrap (m.answer.n+1)} } 4 (IntKind.i64.wrap (m.i+1))) ?_;refine td ?_
 refine .inl ⟨⟨true,[],[],[]⟩,au,uH ?_⟩;refine af [1] (qZ (HB m) 2 12 m.version) ?_;refine td ?_;exact⟨.inl O,_,_,.refl _,rfl,cE 4⟩
def zo4(v:lJ)(h:Jh v):tp 209 [] [Cv v] (I (xJ v).length) []:=by
 have ml:((xJ v).map zF).length=(xJ v).length:=pB ..;have he:=Sa v h;generalize xJ v=ll at he ml ⊢;refine ab func209 ?_;refine ah he ?_;rw[ml];exact uI
def zse(w:Wor)(m:lh)(hpc:m.pc=2)(h:m.i<w.pins.length):tp 161 [] [Cw w,Cm m] (Bo true) []:=by
 have ml:(w.pins.map encI).length=w.pins.length:=pB ..;refine ab func161 ?_;(repeat (first|refine uA ?_|refine uB ?_))
 exact uI
def zsh(w:Wor)(m:lh)(hpc:m.pc=9)(h:m.i<w.zf.length):tp 161 [] [Cw w,Cm m] (Bo true) []:=by
 have ml:(w.zf.map ji).length=w.zf.length:=pB ..;refine ab func161 ?_;(repeat (first|refine uA ?_|refine uB ?_))
 exact uI
def yk(w:Wor)(m:lh)(hpc:m.pc≠2/\m.pc≠5/\m.pc≠6/\m.pc≠9/\m.pc≠10):tp 161 [] [Cw w,Cm m] (Bo true) []:=by
 refine ab func161 ?_;(repeat (first|refine uA ?_|refine uB ?_))
 exact uI
def zsf(w:Wor)(m:lh)(v:lJ)(hf:Jh v)(hpc:m.pc=5)(hv:CT w m v)(h:m.k<(xJ v).length):tp 161 [] [Cw w,Cm m] (Bo true) []:=by
 have a0:=hv.v0;have a1:=hv.row;refine ab func161 ?_;(repeat (first|refine uA ?_|refine uB ?_))
 refine .inl ⟨⟨true,[],[],[8]⟩,au,uH ?_⟩;(refine⟨a0,_,a1,dd ?_⟩)
 refine ah (zo4 v hf) ?_;(repeat (first|refine uA ?_|refine uB ?_))
 exact uI
def zsg(w:Wor)(m:lh)(r:mw)(hpc:m.pc=6)(h0:0<=m.i)(hx:w.zr[m.i.toNat]?=some r)(h1:r.version=m.version)(h2:r.gone=false):tp 161 [] [Cw w,Cm m] (Bo true) []:=by
 have hg:(w.zr.map yB)[m.i.toNat]?=some (yB r):=by rw[pj,hx];rfl
 have lu:=(gZ.1 hx).1;have ml:(w.zr.map yB).length=w.zr.length:=pB ..;obtain⟨rv,ra,rg⟩:=r;cases h2
 refine ab func161 ?_;(repeat (first|refine uA ?_|refine uB ?_))
 refine uE ?_;rw[ml];(repeat (first|refine uA ?_|refine uB ?_))
 (refine⟨h0,_,hg,dd ?_⟩)
 refine⟨λ_=>dd ?_,λhh=>absurd hh tE⟩;(repeat (first|((refine ya (dd ?_)))|((refine yb (dd ?_)))))
 (refine⟨h0,_,hg,dd ?_⟩)
 (repeat (first|((refine ya (dd ?_)))|((refine yb (dd ?_)))))
 exact uI
def zpE(w:Wor)(m:lh)(l:mj)(hpc:m.pc=10)(h0:0<=m.i)(hx:w.zf[m.i.toNat]?=some l)(h1:l.drain=true):tp 161 [] [Cw w,Cm m] (Bo true) []:=by
 have hg:(w.zf.map ji)[m.i.toNat]?=some (ji l):=by rw[pj,hx];rfl
 have lu:=(gZ.1 hx).1;have ml:(w.zf.map ji).length=w.zf.length:=pB ..;obtain⟨ln,ld,la,lc⟩:=l;cases h1
 refine ab func161 ?_;(repeat (first|refine uA ?_|refine uB ?_))
 rw[ml];(repeat (first|refine uA ?_|refine uB ?_))
 (refine⟨h0,_,hg,dd ?_⟩)
 (repeat (first|((refine ya (dd ?_)))|((refine yb (dd ?_)))))
 exact uI
def zzM(w:Wor)(m:lh)(X:Ob)(j f:Nat)(R:Exit->S->Prop)(hlow:qf 8 ([oW w,oM m,⟨1,38,8,[nU],0⟩,⟨1,95,44,[nT],0⟩,oE qV,X,oM m,⟨1,261,2,[tn],0⟩]++[])=true)(hf:∀v0 v1 v2 v3 v4 v5 v6 v8 v9 v10,xV [(0,v0,0),(1,v1,1),(2,v2,2),(3,v3,3),(4,v4,4),(5,v5,5),(6,v6,6),(8,v8,7),(9,v9,8),(10,v10,9)] m.pc=some j)(hc:([.fn 162 [.agg tn] [],.fn 163 [.agg tn] [],.fn 164 [.agg tn] [],.fn 165 [.agg tn] [],.fn 166 [.agg tn] [],.fn 167 [.agg tn] [],.fn 168 [.agg tn] [],.fn 169 [.agg tn] [],.fn 170 [.agg tn] [],.fn 171 [.agg tn] []]:List C)[j]?=some (.fn f [.agg tn] []))
 (hn:jh prog 0 (behind 5 ((f130.body).getD .skip)) ⟨(.za::.za::.ref 0 [] 8 0 0:: .ref 1 [] 44 0 0:: .ref 2 [] 8 0 0:: .ref 3 [] 44 0 0:: .ref 4 [] 23 0 0:: .ref 5 [] 8 0 0:: .ref 6 [] 44 0 0:: .ref 7 [] 2 0 0:: .fn f [.agg tn] []::Bo true:: mF (jp (mF (mF ([]))))),[oW w,oM m,⟨1,38,8,[nU],0⟩,⟨1,95,44,[nT],0⟩,oE qV,X,oM m,⟨1,261,2,[tn],0⟩]++[]⟩ R):jh prog 0 (behind 4 ((f130.body).getD .skip)) ⟨(.za::.za::.ref 0 [] 8 0 0:: .ref 1 [] 44 0 0:: .ref 2 [] 8 0 0:: .ref 3 [] 44 0 0:: .ref 4 [] 23 0 0:: .ref 5 [] 8 0 0:: .ref 6 [] 44 0 0:: .ref 7 [] 2 0 0:: .za::.za::mF (jp (mF (mF ([]))))),[oW w,oM m,⟨1,38,8,[nU],0⟩,⟨1,95,44,[nT],0⟩,oE qV,X,oM m,⟨1,261,2,[tn],0⟩]++[]⟩ R:=by
 refine vy (uH ?_);intro b;refine dd ?_;refine jq.qB (id:=8) _ _ _ _ (.inr O) underlying264 underlying3 O O O O O ?_;intro v0;refine dd ?_;refine jq.qB (id:=8) _ _ _ _ (.inr O) underlying264 underlying3 O O O O O ?_;intro v1;refine dd ?_;refine jq.qB (id:=8) _ _ _ _ (.inr O) underlying264 underlying3 O O O O O ?_;intro v2;refine dd ?_;refine jq.qB (id:=8) _ _ _ _ (.inr O) underlying264 underlying3 O O O O O ?_;intro v3;refine dd ?_;refine jq.qB (id:=8) _ _ _ _ (.inr O) underlying264 underlying3 O O O O O ?_;intro v4;refine dd ?_;refine jq.qB (id:=8) _ _ _ _ (.inr O) underlying264 underlying3 O O O O O ?_;intro v5;refine dd ?_;refine jq.qB (id:=8) _ _ _ _ (.inr O) underlying264 underlying3 O O O O O ?_;intro v6;refine dd ?_;refine jq.qB (id:=8) _ _ _ _ (.inr O) underlying264 underlying3 O O O O O ?_;intro v8;refine dd ?_;refine jq.qB (id:=8) _ _ _ _ (.inr O) underlying264 underlying3 O O O O O ?_;intro v9;refine dd ?_;refine jq.qB (id:=8) _ _ _ _ (.inr O) underlying264 underlying3 O O O O O ?_;intro v10;refine dd ?_;(refine⟨_,_,lS.wm (id:=8) _ _ _ _ O underlying264 underlying3 O O O O O O (hf _ _ _ _ _ _ _ _ _ _) hc,?_⟩;(refine dd ?_))
 refine tf ?_
 refine .inl ⟨rfl,_,_,(zt.forget 8).trans (zt.yi 8 tc O O O hlow O),hn⟩
def zzL(w:Wor)(m:lh)(X:Ob)(Y:Ob)(j f:Nat)(R:Exit->S->Prop)(hlow:qf 9 ([oW w,oM m,⟨1,38,8,[nU],0⟩,⟨1,95,44,[nT],0⟩,oE qV,X,oM m,⟨1,261,2,[tn],0⟩]++[Y])=true)(hf:∀v0 v1 v2 v3 v4 v5 v6 v8 v9 v10,xV [(0,v0,0),(1,v1,1),(2,v2,2),(3,v3,3),(4,v4,4),(5,v5,5),(6,v6,6),(8,v8,7),(9,v9,8),(10,v10,9)] m.pc=some j)(hc:([.fn 162 [.agg tn] [],.fn 163 [.agg tn] [],.fn 164 [.agg tn] [],.fn 165 [.agg tn] [],.fn 166 [.agg tn] [],.fn 167 [.agg tn] [],.fn 168 [.agg tn] [],.fn 169 [.agg tn] [],.fn 170 [.agg tn] [],.fn 171 [.agg tn] []]:List C)[j]?=some (.fn f [.agg tn] []))
 (hn:jh prog 0 (behind 5 ((f130.body).getD .skip)) ⟨(.za::.za::.ref 0 [] 8 0 0:: .ref 1 [] 44 0 0:: .ref 2 [] 8 0 0:: .ref 3 [] 44 0 0:: .ref 4 [] 23 0 0:: .ref 5 [] 8 0 0:: .ref 6 [] 44 0 0:: .ref 7 [] 2 0 0:: .fn f [.agg tn] []::Bo true:: mF (jp (mF (mF ([]))))),[oW w,oM m,⟨1,38,8,[nU],0⟩,⟨1,95,44,[nT],0⟩,oE qV,X,oM m,⟨1,261,2,[tn],0⟩]++[Y]⟩ R):jh prog 0 (behind 4 ((f130.body).getD .skip)) ⟨(.za::.za::.ref 0 [] 8 0 0:: .ref 1 [] 44 0 0:: .ref 2 [] 8 0 0:: .ref 3 [] 44 0 0:: .ref 4 [] 23 0 0:: .ref 5 [] 8 0 0:: .ref 6 [] 44 0 0:: .ref 7 [] 2 0 0:: .za::.za::mF (jp (mF (mF ([]))))),[oW w,oM m,⟨1,38,8,[nU],0⟩,⟨1,95,44,[nT],0⟩,oE qV,X,oM m,⟨1,261,2,[tn],0⟩]++[Y]⟩ R:=by
 refine vy (uH ?_);intro b;refine dd ?_;refine jq.qB (id:=9) _ _ _ _ (.inr O) underlying264 underlying3 O O O O O ?_;intro v0;refine dd ?_;refine jq.qB (id:=9) _ _ _ _ (.inr O) underlying264 underlying3 O O O O O ?_;intro v1;refine dd ?_;refine jq.qB (id:=9) _ _ _ _ (.inr O) underlying264 underlying3 O O O O O ?_;intro v2;refine dd ?_;refine jq.qB (id:=9) _ _ _ _ (.inr O) underlying264 underlying3 O O O O O ?_;intro v3;refine dd ?_;refine jq.qB (id:=9) _ _ _ _ (.inr O) underlying264 underlying3 O O O O O ?_;intro v4;refine dd ?_;refine jq.qB (id:=9) _ _ _ _ (.inr O) underlying264 underlying3 O O O O O ?_;intro v5;refine dd ?_;refine jq.qB (id:=9) _ _ _ _ (.inr O) underlying264 underlying3 O O O O O ?_;intro v6;refine dd ?_;refine jq.qB (id:=9) _ _ _ _ (.inr O) underlying264 underlying3 O O O O O ?_;intro v8;refine dd ?_;refine jq.qB (id:=9) _ _ _ _ (.inr O) underlying264 underlying3 O O O O O ?_;intro v9;refine dd ?_;refine jq.qB (id:=9) _ _ _ _ (.inr O) underlying264 underlying3 O O O O O ?_;intro v10;refine dd ?_;(refine⟨_,_,lS.wm (id:=9) _ _ _ _ O underlying264 underlying3 O O O O O O (hf _ _ _ _ _ _ _ _ _ _) hc,?_⟩;(refine dd ?_))
 refine tf ?_
 refine .inl ⟨rfl,_,_,(zt.forget 9).trans (zt.yi 9 tc O O O hlow O),hn⟩
def zzK(w:Wor)(m:lh)(X:Ob)(Y Z:Ob)(j f:Nat)(R:Exit->S->Prop)(hlow:qf 10 ([oW w,oM m,⟨1,38,8,[nU],0⟩,⟨1,95,44,[nT],0⟩,oE qV,X,oM m,⟨1,261,2,[tn],0⟩]++[Y,Z])=true)(hf:∀v0 v1 v2 v3 v4 v5 v6 v8 v9 v10,xV [(0,v0,0),(1,v1,1),(2,v2,2),(3,v3,3),(4,v4,4),(5,v5,5),(6,v6,6),(8,v8,7),(9,v9,8),(10,v10,9)] m.pc=some j)(hc:([.fn 162 [.agg tn] [],.fn 163 [.agg tn] [],.fn 164 [.agg tn] [],.fn 165 [.agg tn] [],.fn 166 [.agg tn] [],.fn 167 [.agg tn] [],.fn 168 [.agg tn] [],.fn 169 [.agg tn] [],.fn 170 [.agg tn] [],.fn 171 [.agg tn] []]:List C)[j]?=some (.fn f [.agg tn] []))
 (hn:jh prog 0 (behind 5 ((f130.body).getD .skip)) ⟨(.za::.za::.ref 0 [] 8 0 0:: .ref 1 [] 44 0 0:: .ref 2 [] 8 0 0:: .ref 3 [] 44 0 0:: .ref 4 [] 23 0 0:: .ref 5 [] 8 0 0:: .ref 6 [] 44 0 0:: .ref 7 [] 2 0 0:: .fn f [.agg tn] []::Bo true:: mF (jp (mF (mF ([]))))),[oW w,oM m,⟨1,38,8,[nU],0⟩,⟨1,95,44,[nT],0⟩,oE qV,X,oM m,⟨1,261,2,[tn],0⟩]++[Y,Z]⟩ R):jh prog 0 (behind 4 ((f130.body).getD .skip)) ⟨(.za::.za::.ref 0 [] 8 0 0:: .ref 1 [] 44 0 0:: .ref 2 [] 8 0 0:: .ref 3 [] 44 0 0:: .ref 4 [] 23 0 0:: .ref 5 [] 8 0 0:: .ref 6 [] 44 0 0:: .ref 7 [] 2 0 0:: .za::.za::mF (jp (mF (mF ([]))))),[oW w,oM m,⟨1,38,8,[nU],0⟩,⟨1,95,44,[nT],0⟩,oE qV,X,oM m,⟨1,261,2,[tn],0⟩]++[Y,Z]⟩ R:=by
 refine vy (uH ?_);intro b;refine dd ?_;refine jq.qB (id:=10) _ _ _ _ (.inr O) underlying264 underlying3 O O O O O ?_;intro v0;refine dd ?_;refine jq.qB (id:=10) _ _ _ _ (.inr O) underlying264 underlying3 O O O O O ?_;intro v1;refine dd ?_;refine jq.qB (id:=10) _ _ _ _ (.inr O) underlying264 underlying3 O O O O O ?_;intro v2;refine dd ?_;refine jq.qB (id:=10) _ _ _ _ (.inr O) underlying264 underlying3 O O O O O ?_;intro v3;refine dd ?_;refine jq.qB (id:=10) _ _ _ _ (.inr O) underlying264 underlying3 O O O O O ?_;intro v4;refine dd ?_;refine jq.qB (id:=10) _ _ _ _ (.inr O) underlying264 underlying3 O O O O O ?_;intro v5;refine dd ?_;refine jq.qB (id:=10) _ _ _ _ (.inr O) underlying264 underlying3 O O O O O ?_;intro v6;refine dd ?_;refine jq.qB (id:=10) _ _ _ _ (.inr O) underlying264 underlying3 O O O O O ?_;intro v8;refine dd ?_;refine jq.qB (id:=10) _ _ _ _ (.inr O) underlying264 underlying3 O O O O O ?_;intro v9;refine dd ?_;refine jq.qB (id:=10) _ _ _ _ (.inr O) underlying264 underlying3 O O O O O ?_;intro v10;refine dd ?_;(refine⟨_,_,lS.wm (id:=10) _ _ _ _ O underlying264 underlying3 O O O O O O (hf _ _ _ _ _ _ _ _ _ _) hc,?_⟩;(refine dd ?_))
 refine tf ?_
 refine .inl ⟨rfl,_,_,(zt.forget 10).trans (zt.yi 10 tc O O O hlow O),hn⟩
def xp{w w':Wor}{m m':lh}{e:lD}(sw:jF w)(ok:nk w)(hl:i64 m.listen)(hs:ql w m=true)(hm:tp 161 [] [Cw w,Cm m] (Bo true) [])(j f:Nat)(hcb:qw prog f=true)(hf:∀v0 v1 v2 v3 v4 v5 v6 v8 v9 v10,xV [(0,v0,0),(1,v1,1),(2,v2,2),(3,v3,3),(4,v4,4),(5,v5,5),(6,v6,6),(8,v8,7),(9,v9,8),(10,v10,9)] m.pc=some j)(hc:([.fn 162 [.agg tn] [],.fn 163 [.agg tn] [],.fn 164 [.agg tn] [],.fn 165 [.agg tn] [],.fn 166 [.agg tn] [],.fn 167 [.agg tn] [],.fn 168 [.agg tn] [],.fn 169 [.agg tn] [],.fn 170 [.agg tn] [],.fn 171 [.agg tn] []]:List C)[j]?=some (.fn f [.agg tn] []))
 (h:tp f [oW w,oM m] [.agg to] (Ce e) [oW w',oM m']):tp 130 [] [Cw w,Cm m] (.lK [Cw w',Cm m',Ce e]) []:=by
 refine zc.EL func130 O ?_;show jh prog 0 ((f130.body).getD .skip) _ _;refine vy (uH ?_);refine .inl ⟨rfl,_,_,.refl _,vy (uH ?_)⟩;refine ah (zV w m ok hl) ?_;refine⟨λ_=>dd ?_,λh=>absurd ((hs).symm.trans h:true=false) ar⟩;refine tf ?_
 refine ah hm ?_;refine tf ?_
 refine .inl ⟨rfl,_,_,.refl _,vy (uH ?_)⟩;refine .inr ⟨⟨[0,1,2],[0,1],true⟩,au,λ_=>O,λt H=>t=(.za::.za::.ref 0 [] 8 0 0:: .ref 1 [] 44 0 0:: .ref 2 [] 8 0 0:: .ref 3 [] 44 0 0:: .ref 4 [] 23 0 0:: .ref 5 [] 8 0 0:: .ref 6 [] 44 0 0:: .za::.za::.za::mF (jp (mF (mF ([])))))/\H=[oW w,oM m,⟨1,38,8,[nU],0⟩,⟨1,95,44,[nT],0⟩,oE qV,oW w,oM m],?_,?_⟩
 ·conv=>whnf
  refine⟨_,ai [] (qP w sw),uH ?_⟩;repeat' (first|(exact trivial)|(refine⟨rfl,uH ?_⟩)|(exact⟨_,_,zt.lQ [0,1,2,3,4,5,6] [2,3,4,5,6,7,8] _ _ O O O O,rfl,rfl⟩)|(exact⟨_,_,zt.lQ [0,1,2,3,4,6,5] [2,3,4,5,6,7,8] _ _ O O O O,rfl,rfl⟩)|(refine And.intro ?_ ?_ <;> (conv=>whnf)))
 rintro _ _ ⟨rfl,rfl⟩;conv=>whnf
 refine .inl ⟨rfl,_,_,.refl _,vy (uH ?_)⟩;refine .inl ⟨rfl,_,_,cE 8,zzM w m (oW w) j f _ O hf hc ?_⟩;(refine jU (K:=λex t H=>(ex=.ret\/ex=.normal)/\∃s2,zt 0 ⟨t,H⟩ s2/\(kJ prog f130 s2).map (yc 0 9)=some (.lK [Cw w',Cm m',Ce e])) (uH ?_))
 rw[hcb];refine af [5,6] (h) ?_;refine .inl ⟨⟨false,[0,1,2],[5,6,8],[]⟩,au,uH ?_⟩;refine td ?_
 exact uI
def zm4{w:Wor}{m m':lh}{e:lD}{ls:List mj}(sw:jF w)(ok:nk w)(hl:i64 m.listen)(hs:ql w m=true)(hm:tp 161 [] [Cw w,Cm m] (Bo true) [])(j f:Nat)(hcb:qw prog f=true)(hf:∀v0 v1 v2 v3 v4 v5 v6 v8 v9 v10,xV [(0,v0,0),(1,v1,1),(2,v2,2),(3,v3,3),(4,v4,4),(5,v5,5),(6,v6,6),(8,v8,7),(9,v9,8),(10,v10,9)] m.pc=some j)(hc:([.fn 162 [.agg tn] [],.fn 163 [.agg tn] [],.fn 164 [.agg tn] [],.fn 165 [.agg tn] [],.fn 166 [.agg tn] [],.fn 167 [.agg tn] [],.fn 168 [.agg tn] [],.fn 169 [.agg tn] [],.fn 170 [.agg tn] [],.fn 171 [.agg tn] []]:List C)[j]?=some (.fn f [.agg tn] []))
 (hne:w.zf≠[])(hll:ls.length=w.zf.length)(h:tp f [⟨1,38,8,[[I w.zn,I w.current,I w.lock,lI w.pins,lV w.zd,.sl 2 [] 4 0 w.zf.length false,mQ w.counts,lR w.zr]],0⟩,oM m,⟨2,76,4,(w.zf).map ji,0⟩] [.agg to] (Ce e) [⟨1,38,8,[[I w.zn,I w.current,I w.lock,lI w.pins,lV w.zd,.sl 2 [] 4 0 w.zf.length false,mQ w.counts,lR w.zr]],0⟩,oM m',⟨2,76,4,(ls).map ji,0⟩]):tp 130 [] [Cw w,Cm m] (.lK [Cw {w with zf:=ls},Cm m',Ce e]) []:=by
 obtain⟨x,l,hx⟩:=fS hne;refine zc.EL func130 O ?_;show jh prog 0 ((f130.body).getD .skip) _ _;refine vy (uH ?_);refine .inl ⟨rfl,_,_,.refl _,vy (uH ?_)⟩;refine ah (zV w m ok hl) ?_;refine⟨λ_=>dd ?_,λh=>absurd ((hs).symm.trans h:true=false) ar⟩;refine tf ?_
 refine ah hm ?_;refine tf ?_
 refine .inl ⟨rfl,_,_,.refl _,vy (uH ?_)⟩;refine .inr ⟨⟨[0,2],[0,1],true⟩,au,λ_=>O,λt H=>t=(.za::.za::.ref 0 [] 8 0 0:: .ref 1 [] 44 0 0:: .ref 2 [] 8 0 0:: .ref 3 [] 44 0 0:: .ref 4 [] 23 0 0:: .ref 5 [] 8 0 0:: .ref 6 [] 44 0 0:: .za::.za::.za::mF (jp (mF (mF ([])))))/\H=[oW w,oM m,⟨1,38,8,[nU],0⟩,⟨1,95,44,[nT],0⟩,oE qV,⟨1,38,8,[[I w.zn,I w.current,I w.lock,lI w.pins,lV w.zd,.sl 7 [] 4 0 w.zf.length false,mQ w.counts,lR w.zr]],0⟩,oM m,⟨2,76,4,(w.zf).map ji,0⟩],?_,?_⟩
 ·conv=>whnf
  repeat' (first|(exact trivial)|(refine⟨rfl,uH ?_⟩)|(refine zw [] (k9 w sw x l hx) O O O O O O (uH ?_))|(exact⟨_,_,zt.lQ [0,1,2,3,4,5,6,7] [2,3,4,5,6,7,8] _ _ O O O O,rfl,rfl⟩)|(exact⟨_,_,zt.lQ [0,1,2,3,4,5,7,6] [2,3,4,5,6,7,8] _ _ O O O O,rfl,rfl⟩)|(exact⟨_,_,zt.lQ [0,1,2,3,4,6,5,7] [2,3,4,5,6,7,8] _ _ O O O O,rfl,rfl⟩)|(exact⟨_,_,zt.lQ [0,1,2,3,4,6,7,5] [2,3,4,5,6,7,8] _ _ O O O O,rfl,rfl⟩)|(exact⟨_,_,zt.lQ [0,1,2,3,4,7,5,6] [2,3,4,5,6,7,8] _ _ O O O O,rfl,rfl⟩)|(exact⟨_,_,zt.lQ [0,1,2,3,4,7,6,5] [2,3,4,5,6,7,8] _ _ O O O O,rfl,rfl⟩)|(refine And.intro ?_ ?_ <;> (conv=>whnf)))
 rintro _ _ ⟨rfl,rfl⟩;conv=>whnf
 refine .inl ⟨rfl,_,_,.refl _,vy (uH ?_)⟩;refine .inl ⟨rfl,_,_,(zt.lQ [0,1,2,3,4,5,6,8,7] [2,3,4,5,6,7,8,9] _ _ O O O O).trans (cC),zzL w m (⟨1,38,8,[[I w.zn,I w.current,I w.lock,lI w.pins,lV w.zd,.sl 8 [] 4 0 w.zf.length false,mQ w.counts,lR w.zr]],0⟩) (⟨2,76,4,(w.zf).map ji,0⟩) j f _ O hf hc ?_⟩;(refine jU (K:=λex t H=>(ex=.ret\/ex=.normal)/\∃s2,zt 0 ⟨t,H⟩ s2/\(kJ prog f130 s2).map (yc 0 9)=some (.lK [Cw {w with zf:=ls},Cm m',Ce e])) (uH ?_))
 rw[hcb];refine af [5,6,8] (h) ?_;refine .inl ⟨⟨false,[0,1,2],[5,6,9],[]⟩,au,uH ?_⟩;refine td ?_
 exact gG
def zmT(w:Wor)(h:jF w)(x:mw)(l:List mw)(hx:w.zr=x::l):tp 152 [] [Cw w] (.agg [I w.zn,I w.current,I w.lock,lI w.pins,.sl 0 [] 5 0 w.zd.length false,lL w.zf,mQ w.counts,.sl 1 [] 3 0 w.zr.length false]) [⟨2,69,5,(w.zd).map zJ,0⟩,⟨2,254,3,(w.zr).map yB,0⟩]:=by
 have hl:l.length<1000000000:=by have:=h.zr;rw[hx]at this;exact dB
 have hc:=UH x l hl;rw[<-hx]at hc;refine Fx (fn:=f152) func152 O (uH ?_);refine ah (k8 w.pins h.pins) ?_;refine af [] (EI w.zd h.zd.1 λv hv=>xr v (h.zd.2 v hv)) ?_;refine ah (Ex w.zf h.zf) ?_;refine af [] (EH w.counts h.counts.1 λr hr=>vg r (h.counts.2 r hr)) ?_;refine af [] (hc) ?_;refine⟨.inl O,_,_,zt.qa 1 0 6 O O O O (.inr O) O aj (shut_map (enc:=zT) (λ_=>O) w.counts) (qk O),rfl,?_⟩;exact zt.lQ [3,5] [0] _ _ O O O (ze O (ze O (ze O (ze O (ze (zl λr hr c hc=>((shut_map (enc:=zT) (λ_=>O) w.counts) r hr c hc).2) O)))))
def zm3{w:Wor}{m m':lh}{e:lD}{vs:List lJ}{rs:List mw}(sw:jF w)(ok:nk w)(hl:i64 m.listen)(hs:ql w m=true)(hm:tp 161 [] [Cw w,Cm m] (Bo true) [])(j f:Nat)(hcb:qw prog f=true)(hf:∀v0 v1 v2 v3 v4 v5 v6 v8 v9 v10,xV [(0,v0,0),(1,v1,1),(2,v2,2),(3,v3,3),(4,v4,4),(5,v5,5),(6,v6,6),(8,v8,7),(9,v9,8),(10,v10,9)] m.pc=some j)(hc:([.fn 162 [.agg tn] [],.fn 163 [.agg tn] [],.fn 164 [.agg tn] [],.fn 165 [.agg tn] [],.fn 166 [.agg tn] [],.fn 167 [.agg tn] [],.fn 168 [.agg tn] [],.fn 169 [.agg tn] [],.fn 170 [.agg tn] [],.fn 171 [.agg tn] []]:List C)[j]?=some (.fn f [.agg tn] []))
 (hne:w.zd≠[])(hne2:w.zr≠[])(hvl:vs.length=w.zd.length)(hrl:rs.length=w.zr.length)(h:tp f [⟨1,38,8,[[I w.zn,I w.current,I w.lock,lI w.pins,.sl 2 [] 5 0 w.zd.length false,lL w.zf,mQ w.counts,.sl 3 [] 3 0 w.zr.length false]],0⟩,oM m,⟨2,69,5,(w.zd).map zJ,0⟩,⟨2,254,3,(w.zr).map yB,0⟩] [.agg to] (Ce e) [⟨1,38,8,[[I w.zn,I w.current,I w.lock,lI w.pins,.sl 2 [] 5 0 w.zd.length false,lL w.zf,mQ w.counts,.sl 3 [] 3 0 w.zr.length false]],0⟩,oM m',⟨2,69,5,(vs).map zJ,0⟩,⟨2,254,3,(rs).map yB,0⟩]):tp 130 [] [Cw w,Cm m] (.lK [Cw {w with zd:=vs,zr:=rs},Cm m',Ce e]) []:=by
 obtain⟨v,vl,hv⟩:=fS hne;obtain⟨r,rl,hr⟩:=fS hne2;refine zc.EL func130 O ?_;show jh prog 0 ((f130.body).getD .skip) _ _;refine vy (uH ?_);refine .inl ⟨rfl,_,_,.refl _,vy (uH ?_)⟩;refine ah (zV w m ok hl) ?_;refine⟨λ_=>dd ?_,λh=>absurd ((hs).symm.trans h:true=false) ar⟩;refine tf ?_
 refine ah hm ?_;refine tf ?_
 refine .inl ⟨rfl,_,_,.refl _,vy (uH ?_)⟩;refine .inr ⟨⟨[0,2],[0,1],true⟩,au,λ_=>O,λt H=>t=(.za::.za::.ref 0 [] 8 0 0:: .ref 1 [] 44 0 0:: .ref 2 [] 8 0 0:: .ref 3 [] 44 0 0:: .ref 4 [] 23 0 0:: .ref 5 [] 8 0 0:: .ref 6 [] 44 0 0:: .za::.za::.za::mF (jp (mF (mF ([])))))/\H=[oW w,oM m,⟨1,38,8,[nU],0⟩,⟨1,95,44,[nT],0⟩,oE qV,⟨1,38,8,[[I w.zn,I w.current,I w.lock,lI w.pins,.sl 7 [] 5 0 w.zd.length false,lL w.zf,mQ w.counts,.sl 8 [] 3 0 w.zr.length false]],0⟩,oM m,⟨2,69,5,(w.zd).map zJ,0⟩,⟨2,254,3,(w.zr).map yB,0⟩],?_,?_⟩
 ·conv=>whnf
  repeat' (first|(exact trivial)|(refine⟨rfl,uH ?_⟩)|(refine zw [] (zmT w sw r rl hr) O O O O O O (uH ?_))|(exact⟨_,_,zt.lQ [0,1,2,3,4,5,6,7,8] [2,3,4,5,6,7,8] _ _ O O O O,rfl,rfl⟩)|(exact⟨_,_,zt.lQ [0,1,2,3,4,5,6,8,7] [2,3,4,5,6,7,8] _ _ O O O O,rfl,rfl⟩)|(exact⟨_,_,zt.lQ [0,1,2,3,4,5,7,6,8] [2,3,4,5,6,7,8] _ _ O O O O,rfl,rfl⟩)|(exact⟨_,_,zt.lQ [0,1,2,3,4,5,7,8,6] [2,3,4,5,6,7,8] _ _ O O O O,rfl,rfl⟩)|(exact⟨_,_,zt.lQ [0,1,2,3,4,5,8,6,7] [2,3,4,5,6,7,8] _ _ O O O O,rfl,rfl⟩)|(exact⟨_,_,zt.lQ [0,1,2,3,4,5,8,7,6] [2,3,4,5,6,7,8] _ _ O O O O,rfl,rfl⟩)|(exact⟨_,_,zt.lQ [0,1,2,3,4,6,5,7,8] [2,3,4,5,6,7,8] _ _ O O O O,rfl,rfl⟩)|(exact⟨_,_,zt.lQ [0,1,2,3,4,6,5,8,7] [2,3,4,5,6,7,8] _ _ O O O O,rfl,rfl⟩)|(exact⟨_,_,zt.lQ [0,1,2,3,4,6,7,5,8] [2,3,4,5,6,7,8] _ _ O O O O,rfl,rfl⟩)|(exact⟨_,_,zt.lQ [0,1,2,3,4,6,7,8,5] [2,3,4,5,6,7,8] _ _ O O O O,rfl,rfl⟩)|(exact⟨_,_,zt.lQ [0,1,2,3,4,6,8,5,7] [2,3,4,5,6,7,8] _ _ O O O O,rfl,rfl⟩)|(exact⟨_,_,zt.lQ [0,1,2,3,4,6,8,7,5] [2,3,4,5,6,7,8] _ _ O O O O,rfl,rfl⟩)|(exact⟨_,_,zt.lQ [0,1,2,3,4,7,5,6,8] [2,3,4,5,6,7,8] _ _ O O O O,rfl,rfl⟩)|(exact⟨_,_,zt.lQ [0,1,2,3,4,7,5,8,6] [2,3,4,5,6,7,8] _ _ O O O O,rfl,rfl⟩)|(exact⟨_,_,zt.lQ [0,1,2,3,4,7,6,5,8] [2,3,4,5,6,7,8] _ _ O O O O,rfl,rfl⟩)|(exact⟨_,_,zt.lQ [0,1,2,3,4,7,6,8,5] [2,3,4,5,6,7,8] _ _ O O O O,rfl,rfl⟩)|(exact⟨_,_,zt.lQ [0,1,2,3,4,7,8,5,6] [2,3,4,5,6,7,8] _ _ O O O O,rfl,rfl⟩)|(exact⟨_,_,zt.lQ [0,1,2,3,4,7,8,6,5] [2,3,4,5,6,7,8] _ _ O O O O,rfl,rfl⟩)|(exact⟨_,_,zt.lQ [0,1,2,3,4,8,5,6,7] [2,3,4,5,6,7,8] _ _ O O O O,rfl,rfl⟩)|(exact⟨_,_,zt.lQ [0,1,2,3,4,8,5,7,6] [2,3,4,5,6,7,8] _ _ O O O O,rfl,rfl⟩)|(exact⟨_,_,zt.lQ [0,1,2,3,4,8,6,5,7] [2,3,4,5,6,7,8] _ _ O O O O,rfl,rfl⟩)|(exact⟨_,_,zt.lQ [0,1,2,3,4,8,6,7,5] [2,3,4,5,6,7,8] _ _ O O O O,rfl,rfl⟩)|(exact⟨_,_,zt.lQ [0,1,2,3,4,8,7,5,6] [2,3,4,5,6,7,8] _ _ O O O O,rfl,rfl⟩)|(exact⟨_,_,zt.lQ [0,1,2,3,4,8,7,6,5] [2,3,4,5,6,7,8] _ _ O O O O,rfl,rfl⟩)|(refine And.intro ?_ ?_ <;> (conv=>whnf)))
 rintro _ _ ⟨rfl,rfl⟩;conv=>whnf
 refine .inl ⟨rfl,_,_,.refl _,vy (uH ?_)⟩;refine .inl ⟨rfl,_,_,(zt.lQ [0,1,2,3,4,5,6,9,7,8] [2,3,4,5,6,7,8,9] _ _ O O O O).trans (cC),zzK w m (⟨1,38,8,[[I w.zn,I w.current,I w.lock,lI w.pins,.sl 8 [] 5 0 w.zd.length false,lL w.zf,mQ w.counts,.sl 9 [] 3 0 w.zr.length false]],0⟩) (⟨2,69,5,(w.zd).map zJ,0⟩) (⟨2,254,3,(w.zr).map yB,0⟩) j f _ O hf hc ?_⟩;(refine jU (K:=λex t H=>(ex=.ret\/ex=.normal)/\∃s2,zt 0 ⟨t,H⟩ s2/\(kJ prog f130 s2).map (yc 0 9)=some (.lK [Cw {w with zd:=vs,zr:=rs},Cm m',Ce e])) (uH ?_))
 rw[hcb];refine af [5,6,8,9] (h) ?_;refine .inl ⟨⟨false,[0,1,2],[5,6,10],[]⟩,au,uH ?_⟩;refine td ?_
 exact⟨.inl O,_,(zt.qa 2 0 4 O O O O (.inr O) aj (by rw[pB];exact hvl.symm) (shut_map (enc:=zJ) (λ_=>O) _) (qk O)).trans (zt.qa 2 0 7 O O O O (.inr O) aj (by rw[pB];exact hrl.symm) (shut_map (enc:=yB) (λ_=>O) _) (qk O)),rfl⟩
end Go.Wor
