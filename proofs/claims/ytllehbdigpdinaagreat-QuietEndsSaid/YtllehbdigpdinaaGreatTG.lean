import Derived.Test.YtllehbdigpdinaaGreatTV
import Derived.Test.YtllehbdigpdinaaGreatTW
set_option linter.all false
set_option maxRecDepth 100000
set_option maxHeartbeats 4000000
namespace Go.Wor
open Go.Ab Go.Proofs Tryz Go.Hy Go.Gat Go.Nam Go.Hos Go.Con Go.Sna
variable{w:Wor}{m':fD}{e:fG}
def Xq(l:List fT)(s:fK)(hl:l.length<4611686018427387904):
  tj 114 [⟨2,144,4,(l).map qO,0⟩,⟨1,9,1,[[Tx s]],0⟩] [.sl 0 [] 4 0 l.length false,.fn 115 [] [.ref 1 [] 1 0 0]] (I (zT l s)) [⟨2,144,4,(l).map qO,0⟩,⟨1,9,1,[[Tx s]],0⟩]:=by
 refine aa func114 ?_;refine qg.seq l.length (λk=>(.sl 0 [] 4 0 l.length false::.fn 115 [] [.ref 1 [] 1 0 0]::.za::.za::I 0::.za::.za::I l.length::I k::tY ([.za,.za]))) (λk=>[⟨2,144,4,(l).map qO,0⟩,⟨1,9,1,[[Tx s]],0⟩]) (λk=>∀j,(h:j<l.length)->j<k->(l[j].name == s)=false) ?_ aj (λk hk hr=>?_) (λhr=>?_)
 .exact cC
 .have hg:(l.map qO)[k]?=some (qO l[k]):=by rw[gy,gk hk];rfl
  have e1:0+(k:Int).toNat=k:=aj
  conv=>whnf
  refine uF ?_;refine⟨aw,aq hk,dd ?_⟩;rw[e1];refine⟨_,hg,(by show 0+4<=4;decide),dd ?_⟩;refine af [1] (QD s l[k]) ?_;refine⟨λh2=>?_,λh2=>?_⟩
  .refine dd ?_;refine zaJ ?_
   have e:zT l s=k:=by
    unfold zT
    have:l.findIdx? (λx=>x.name == s)=some k:=by
     exact dS
    rw[this]
   rw[e];exact cW
  .refine dd ?_;refine .inl ⟨rfl,?_,λj hj hjk=>?_⟩
   .rw[zw aw];exact cE 2
   .by_cases e:j=k
    .subst e;exact h2
    .exact hr j hj aw
 .refine uD ?_
  have e:zT l s= -1:=by
   unfold zT
   have:l.findIdx? (λx=>x.name == s)=none:=by
    rw[gV];intro x hx;obtain⟨j,hj,rfl⟩:=pJ.1 hx;exact hr j hj hj
   rw[this]
  rw[e];exact cW
def Xc(l:List fT)(s:fK)(hl:l.length<4611686018427387904):tj 66 [⟨2,144,4,(l).map qO,0⟩] [.sl 0 [] 4 0 l.length false,Tx s] (I (zT l s)) [⟨2,144,4,(l).map qO,0⟩]:=by
 refine aa func66 ?_;refine af [0,1] (Xq l s hl) ?_;exact dO
def OC(m:fD)(e:fG)(a:fN):tj 170 [oM m,⟨1,270,24,[.ref 0 [] 44 0 0::xv (e)],0⟩] [.ref 1 [] 24 0 0,.agg (xx a)] (.fJ []) [oM ({m with done:=true,answer:=a}),⟨1,270,24,[.ref 0 [] 44 0 0::xv ({e with done:=true,answer:=a})],0⟩]:=by
 refine aa func170 ?_;refine .inl ⟨⟨false,[3,7,8],[1,2],[]⟩,au,uH ?_⟩;refine hU ?_
 refine .inl ⟨⟨false,[2],[2],[]⟩,au,uH ?_⟩;refine hU ?_
 exact⟨.inr V,_,_,.refl _,rfl,cE 2⟩
abbrev Ji(m:fD):fG:={qJ with zf:=m.zf,access:=1,version:= -1}
def Wo(w:Wor)(m:fD)(sw:jg w)(ok:iw w)(hl:i64 m.listen)(hpc:m.pc=0)(hs:z8 w m=true)(hi:zT w.zc m.op.listen<0):
  tj 136 [] [Cw w,Cm m] (.fJ [Cw w,Cm {m with done:=true,answer:=mT 7},Ce {Ji m with done:=true,answer:=mT 7}]) []:=by
 refine ab func136 ?_;refine⟨λh=>absurd h (by simp[hpc]),λ_=>dd ?_⟩;refine zaO ?_
 refine ah (qE w sw) ?_;refine ah (wR w.zc m.op.listen (by have:=ok.zc.1;omega)) ?_;refine⟨λ_=>dd ?_,λh=>absurd h (aq hi)⟩;refine af [1,5] (OC m (Ji m) (mT 7)) ?_;refine .inl ⟨⟨false,[0,1,5],[0,1,5],[]⟩,au,uH ?_⟩;refine hU ?_
 exact uI
abbrev MY(m:fD):fG:={qJ with zf:=m.zf,access:=2,cell:=4,version:= -1,value:=1,jd:=true}
def V3(w:Wor)(m:fD)(x:fT)(sw:jg w)(ok:iw w)(hl:i64 m.listen)(hpc:m.pc=0)(hs:z8 w m=true)(hi:0<=zT w.zc m.op.listen)(hx:w.zc[(zT w.zc m.op.listen).toNat]?=some x):
  tj 136 [] [Cw w,Cm m] (.fJ [Cw {w with zc:=w.zc.set (zT w.zc m.op.listen).toNat (Go.Gat.Br x)},Cm {m with listen:=zT w.zc m.op.listen,done:=true,answer:=⟨10,0,0,0,0,zT w.zc m.op.listen,0,⟨0,0,0,0,0,0⟩⟩},Ce {MY m with done:=true,answer:=⟨10,0,0,0,0,zT w.zc m.op.listen,0,⟨0,0,0,0,0,0⟩⟩}]) []:=by
 generalize hp:zT w.zc m.op.listen=p at hi hx;have lt:p.toNat<w.zc.length:=(gh.1 hx).1;have gl:(w.zc.map qO)[p.toNat]?=some (qO x):=by rw[gy,hx];rfl
 have hst:(w.zc.map qO).set p.toNat [Tx (Go.Gat.Br x).name,Bo (Go.Gat.Br x).drain,I (Go.Gat.Br x).zj,Bo (Go.Gat.Br x).closed]=(w.zc.set p.toNat (Go.Gat.Br x)).map qO:=bZ
 have e1:0+p.toNat=p.toNat:=gU _
 obtain⟨y,l,hy⟩:∃y l,w.zc=y::l:=by
  cases h:w.zc with
  |nil=>rw[h]at lt;simp at lt
  |cons y l=>exact⟨y,l,rfl⟩
 have hpl:=Xc w.zc m.op.listen (by have:=ok.zc.1;omega);rw[hp]at hpl;refine ab func136 ?_;refine⟨λh=>absurd h (by simp[hpc]),λ_=>dd ?_⟩;refine zaO ?_
 refine af [] (kj w sw y l hy) ?_;refine af [5] (hpl) ?_;refine zbd ?_;refine .inl ⟨⟨true,[1,4],[0],[8]⟩,au,uH ?_⟩;refine hU ?_
 refine⟨hi,lt,dd ?_⟩;rw[e1];refine⟨_,gl,(by show 0+4<=4;decide),dd ?_⟩;refine ah (Go.Gat.XD x) ?_;refine⟨hi,lt,dd ?_⟩;rw[e1];refine⟨_,gl,rfl,dd ?_⟩;refine hU ?_
 rw[hst];refine af [1,6] (OC {m with listen:=p} (MY m) ⟨10,0,0,0,0,p,0,⟨0,0,0,0,0,0⟩⟩) ?_;refine .inl ⟨⟨false,[0,1,5],[0,1,6],[]⟩,au,uH ?_⟩;refine hU ?_
 exact⟨.inl V,_,zp.zV 2 0 5 V V V V (.inr V) aj aj (shut_map (enc:=qO) (λ_=>V) _) (qa V),rfl⟩
abbrev iV(m:fD)(p i:Int):fD:={m with pc:=p,i:=i}
def qN(m:fD)(a b c:Int):tj 221 [oM m] [.agg [.za,.ref 0 [] 44 0 0],I a,I b,I c] (Ce (fX m a b c)) [oM m]:=by
 refine aa func221 ?_;refine hU ?_;exact dO
def xL(m:fD)(p i:Int):tj 222 [oM m] [.agg [.za,.ref 0 [] 44 0 0],I p,I i] (.fJ []) [oM ({m with pc:=p,i:=i})]:=by
 refine aa func222 ?_;refine .inl ⟨⟨false,[1,3],[1],[]⟩,au,uH ?_⟩;refine hU ?_
 exact⟨.inr V,_,_,.refl _,rfl,cE 1⟩
def Oz(m:fD)(e:fG)(a:fN):tj 220 [oM m] [.agg [.za,.ref 0 [] 44 0 0],Ce e,.agg (xx a)] (Ce {e with done:=true,answer:=a}) [oM ({m with done:=true,answer:=a})]:=by
 refine aa func220 ?_;refine .inl ⟨⟨false,[1,3,4],[1,3],[]⟩,au,uH ?_⟩;refine hU ?_
 refine .inl ⟨⟨false,[0],[3],[]⟩,au,uH ?_⟩;refine hU ?_
 refine hU ?_;exact dO
def VX(w:Wor)(m:fD):tj 174 [oW w,oM m] [.agg tf] (Ce (fX m 1 1 w.zl)) [oW w,oM ({m with zl:=w.zl,pc:=2,i:=0})]:=by
 refine aa func174 ?_;refine .inl ⟨⟨false,[1,3,6],[0,2],[]⟩,au,uH ?_⟩;refine hU ?_
 refine af [1] (xL {m with zl:=w.zl} 2 0) ?_;refine zaz ?_;refine af [1] (qN {m with zl:=w.zl,pc:=2,i:=0} 1 1 w.zl) ?_;exact df
def W9(w:Wor)(m:fD)(h:w.lock≠0):tj 173 [oW w,oM m] [.agg tf] (Ce {fX m 5 14 1 with done:=true,answer:=mT 12}) [oW w,oM ({m with done:=true,answer:=mT 12})]:=by
 refine aa func173 ?_;refine⟨λ_=>dd ?_,λhh=>absurd hh tO⟩;refine .inl ⟨⟨true,[0,1],[2],[2]⟩,au,uH ?_⟩;refine af [1] (qN m 5 14 1) ?_;refine hU ?_
 refine af [1] (Oz m (fX m 5 14 1) (mT 12)) ?_;exact df
def Wg(w:Wor)(m:fD)(h:w.lock=0):tj 173 [oW w,oM m] [.agg tf] (Ce (fX m 4 14 1)) [oW ({w with lock:=1}),oM ({m with pc:=1})]:=by
 refine aa func173 ?_;refine⟨λhh=>absurd hh aH,λ_=>dd ?_⟩;refine .inl ⟨⟨false,[1,3],[2],[]⟩,au,uH ?_⟩;refine hU ?_
 refine af [1] (qN {m with pc:=1} 4 14 1) ?_;exact df
def n7(w:Wor)(m:fD)(p:Int):fD:=if p≠0/\p≠IntKind.i64.wrap (m.zl+1) then iV m 4 0 else if IntKind.i64.wrap (m.i+1)<w.pins.length then {m with i:=IntKind.i64.wrap (m.i+1)} else iV m 3 (IntKind.i64.wrap (m.i+1))
def Wf(w:Wor)(m:fD)(p:Int)(h0:0<=m.i)(hp:w.pins[m.i.toNat]?=some p):tj 175 [oW w,oM m] [.agg tf] (Ce (fX m 1 2 p)) [oW w,oM (n7 w m p)]:=by
 have hg:(w.pins.map encI)[m.i.toNat]?=some (encI p):=by rw[gy,hp];rfl
 have ml:(w.pins.map encI).length=w.pins.length:=gC ..;refine aa func175 ?_;refine uE ?_;(refine⟨h0,_,hg,dd ?_⟩)
 refine⟨λq1=>?_,λq1=>?_⟩
 .refine dd ?_;refine⟨λq2=>?_,λq2=>?_⟩
  .rw[show n7 w m p=iV m 4 0 from gz ⟨aq q1,aq q2⟩];refine zad ?_
   refine af [1] (xL m 4 0) ?_;refine af [1] (qN (iV m 4 0) 1 2 p) ?_;exact df
  .have q:¬(p≠0/\p≠IntKind.i64.wrap (m.zl+1)):=λhh=>hh.2 (aq q2)
   refine zad ?_
   (rw[show n7 w m p=_ from gp q]);refine uE ?_;(rw[ml]);refine⟨λq3=>?_,λq3=>?_⟩;(focus ((rw[gz (aq q3)]);refine dd ?_;refine af [1] (qN {m with i:=IntKind.i64.wrap (m.i+1)} 1 2 p) ?_;refine hU ?_;exact⟨.inl V,_,_,.refl _,rfl,cE 2⟩));exact zaT
 .have q:¬(p≠0/\p≠IntKind.i64.wrap (m.zl+1)):=λhh=>hh.1 (aq q1)
  refine zad ?_
  (rw[show n7 w m p=_ from gp q]);refine uE ?_;(rw[ml]);refine⟨λq3=>?_,λq3=>?_⟩;(focus ((rw[gz (aq q3)]);refine dd ?_;refine af [1] (qN {m with i:=IntKind.i64.wrap (m.i+1)} 1 2 p) ?_;refine hU ?_;exact⟨.inl V,_,_,.refl _,rfl,cE 2⟩));exact zaT
def VO(w:Wor)(m:fD)(h:¬(w.zl=m.zl/\w.zl<1000000000000)):tj 176 [oW w,oM m] [.agg tf] (Ce (fX m 5 1 w.zl)) [oW w,oM (iV m 4 0)]:=by
 refine aa func176 ?_;refine uE ?_;refine⟨λq1=>?_,λq1=>?_⟩
 .refine dd ?_;refine⟨λq2=>?_,λq2=>?_⟩
  .exact absurd ⟨aq q1,aq q2⟩ h
  .refine zad ?_
   refine af [1] (xL m 4 0) ?_;refine zaz ?_;refine af [1] (qN (iV m 4 0) 5 1 w.zl) ?_;exact df
 .refine zad ?_
  refine af [1] (xL m 4 0) ?_;refine zaz ?_;refine af [1] (qN (iV m 4 0) 5 1 w.zl) ?_;exact df
def VG(w:Wor)(m:fD)(h1:w.zl=m.zl)(h2:w.zl<1000000000000):tj 176 [oW w,oM m] [.agg tf] (Ce (fX m 4 1 (IntKind.i64.wrap (w.zl+1)))) [oW ({w with zl:=IntKind.i64.wrap (w.zl+1)}),oM ({iV m 4 0 with zl:=IntKind.i64.wrap (w.zl+1)})]:=by
 refine aa func176 ?_;refine uE ?_;refine⟨λ_=>dd ?_,λhh=>absurd hh tG⟩;refine⟨λ_=>dd ?_,λhh=>absurd hh aA⟩;refine hZ ?_
 refine .inl ⟨⟨false,[1,3,6],[0,2],[]⟩,au,uH ?_⟩;refine hU ?_
 refine af [1] (xL {m with zl:=IntKind.i64.wrap (w.zl+1)} 4 0) ?_;refine zaz ?_;refine af [1] (qN {iV m 4 0 with zl:=IntKind.i64.wrap (w.zl+1)} 4 1 (IntKind.i64.wrap (w.zl+1))) ?_;exact df
def qv(v:fI):List En:=v.zq.flatMap (·.ends)
structure EW(v:fI):Prop where
 zq:v.zq.length<=1000
 ends : ∀g∈v.zq, g.ends.length <= 1000
def HH:∀(l:List Gr),(∀g∈l,g.ends.length<=1000)->(l.flatMap (·.ends)).length<=l.length*1000
 |[],_=>by simp
 |g::l,h=>by
  have:=HH l λx hx=>h x (pL _ hx)
  have:=h g (pX ..);simp only[sd,pz,ry];omega
def OS(v:fI)(h:EW v):tj 97 [] [Cv v] (lE (qv v)) []:=by
 have m1:(v.zq.map zK).length=v.zq.length:=gC ..;have hgl:=h.zq;refine ab func97 ?_;rw[m1];refine qg.seq v.zq.length (λk=>(.za::.ref 0 [] 5 0 0::.fF 1 0 []::.gl 1 3 (((v.zq.take k).flatMap (·.ends)).map zE)::.za::.za::.za::(lG v.zq)::I v.zq.length::I k::tY ([.za]))) (λk=>[⟨1,138,5,[zM v],0⟩,⟨4,168,3,((v.zq.take k).flatMap (·.ends)).map zE,0⟩]) (λk=>True) ?_ trivial (λk hk hr=>?_) (λhr=>?_)
 .refine zp.trans (zp.grow 3 168 3 V (.inl V)) ?_;exact cC
 .obtain⟨g,hx⟩:∃g,g=v.zq[k]:=⟨_,rfl⟩;have hg:(v.zq.map zK)[k]?=some (zK g):=by rw[gy,gk hk,hx];rfl
  have eg:((v.zq.take (k+1)).flatMap (·.ends)).map zE=((v.zq.take k).flatMap (·.ends)).map zE++g.ends.map zE:=bX
  have l1:(((v.zq.take k).flatMap (·.ends)).map zE).length<=k*1000:=by
   have:=HH (v.zq.take k) λx hx=>h.ends x (rH hx)
   rw[ua,Nat.min_eq_left aw]at this;simpa using this
  have l2:(g.ends.map zE).length<=1000:=by rw[gC];exact h.ends g (hx ▸ pt hk)
  conv=>whnf
  refine zan ?_
  refine⟨rfl,.inr V,by simp only[maxLen];omega,by show _*40<=_;omega,dd ?_⟩;refine zaF ?_;rw[zw aw,eg];exact cE 2
 .exact dK
abbrev Gu(k n:Int):fN:=⟨k,0,0,0,0,0,n,⟨0,0,0,0,0,0⟩⟩
def VN(w:Wor)(m:fD)(l:fT)(h0:0<=m.i)(hx:w.zc[m.i.toNat]?=some l):tj 181 [oW w,oM m] [.agg tf] (Ce (fX m 1 5 l.zj)) [oW w,oM (if l.zj=0 then {m with pc:=10} else iV m 8 (IntKind.i64.wrap (m.i+1)))]:=by
 have hg:(w.zc.map qO)[m.i.toNat]?=some (qO l):=by rw[gy,hx];rfl
 refine aa func181 ?_;refine uE ?_;(refine⟨h0,_,hg,dd ?_⟩)
 refine⟨λq=>?_,λq=>?_⟩
 .rw[gz (aq q)];refine dd ?_;refine af [1] (qN {m with pc:=10} 1 5 l.zj) ?_;exact df
 .rw[gp (aq q)];refine dd ?_;refine zaz ?_;refine af [1] (xL m 8 (IntKind.i64.wrap (m.i+1))) ?_;refine hU ?_
  refine af [1] (qN (iV m 8 (IntKind.i64.wrap (m.i+1))) 1 5 l.zj) ?_;exact df
def Vz(w:Wor)(m:fD)(h:w.zc.length<=m.i):tj 180 [oW w,oM m] [.agg tf] (Ce {fX m 2 14 0 with done:=true,answer:=Gu 11 m.answer.n}) [oW ({w with lock:=0}),oM ({m with done:=true,answer:=Gu 11 m.answer.n})]:=by
 have ml:(w.zc.map qO).length=w.zc.length:=gC ..;refine aa func180 ?_;refine uE ?_;rw[ml];refine⟨λ_=>dd ?_,λhh=>absurd hh aA⟩;refine .inl ⟨⟨true,[0,1],[2],[2]⟩,au,uH ?_⟩;refine af [1] (qN m 2 14 0) ?_;refine hU ?_
 refine af [1] (Oz m (fX m 2 14 0) (Gu 11 m.answer.n)) ?_;exact df
abbrev Ak(m:fD)(l:fT):fD:=if l.drain=true/\l.closed=false then {m with pc:=9} else {m with i:=IntKind.i64.wrap (m.i+1)}
abbrev IU(m:fD)(l:fT):fG:=fX m 1 4 (if l.drain=true then 1 else 0)
def VL(w:Wor)(m:fD)(l:fT)(h0:0<=m.i)(hx:w.zc[m.i.toNat]?=some l):tj 180 [oW w,oM m] [.agg tf] (Ce (IU m l)) [oW w,oM (Ak m l)]:=by
 have hg:(w.zc.map qO)[m.i.toNat]?=some (qO l):=by rw[gy,hx];rfl
 have fE:=(gh.1 hx).1;have ml:(w.zc.map qO).length=w.zc.length:=gC ..;obtain⟨nm,dr,ac,cl⟩:=l;cases dr <;> cases cl
 all_goals
  refine aa func180 ?_;refine uE ?_;rw[ml];refine⟨λhh=>absurd hh aA,λ_=>dd ?_⟩;refine zbe ?_
  (refine⟨h0,_,hg,dd ?_⟩)
  refine zaK ?_
  refine zaK ?_
  refine zaU ?_
  refine af [1] (qN m 1 4 0) ?_;refine zaB ?_
  exact df
def VA{w':Wor}{m:fD}(h:w.zm.length<=m.i)(hd:tj 180 [oW w,oM (iV m 8 0)] [.agg tf] (Ce e) [oW w',oM m']):tj 177 [oW w,oM m] [.agg tf] (Ce e) [oW w',oM m']:=by
 have ml:(w.zm.map xz).length=w.zm.length:=gC ..;refine aa func177 ?_;refine uE ?_;rw[ml];refine⟨λ_=>dd ?_,λhh=>absurd hh aA⟩;refine af [1] (xL m 8 0) ?_;refine af [0,1] (hd) ?_;exact df
abbrev oO(m:fD)(r:fS):fD:=if r.gone=true\/Go.Lim.wS r.at_ m.zl=false then {m with i:=IntKind.i64.wrap (m.i+1)} else {m with version:=r.version,zg:=0,end_:=0,other:=0,slot:=0,k:=0,pc:=5}
def VY(w:Wor)(m:fD)(r:fS)(hr:i64 r.at_)(h0:0<=m.i)(hx:w.zm[m.i.toNat]?=some r):tj 177 [oW w,oM m] [.agg tf] (Ce (fX m 1 11 r.version)) [oW w,oM (oO m r)]:=by
 have hg:(w.zm.map xz)[m.i.toNat]?=some (xz r):=by rw[gy,hx];rfl
 have fE:=(gh.1 hx).1;have ml:(w.zm.map xz).length=w.zm.length:=gC ..;obtain⟨rv,ra,rg⟩:=r;refine aa func177 ?_;refine uE ?_;rw[ml];refine⟨λhh=>absurd hh aA,λ_=>dd ?_⟩;refine zbe ?_
 (refine⟨h0,_,hg,dd ?_⟩)
 refine zaK ?_
 refine zaK ?_
 refine zaU ?_
 cases rg
 .have eN:Go.Lim.wS ra m.zl=false->oO m ⟨rv,ra,false⟩={m with i:=IntKind.i64.wrap (m.i+1)}:=λhh=>gz (.inr hh)
  have eY:Go.Lim.wS ra m.zl=true->oO m ⟨rv,ra,false⟩={m with version:=rv,zg:=0,end_:=0,other:=0,slot:=0,k:=0,pc:=5}:=λhh=>gp (by simp[hh])
  refine .inl ⟨⟨true,[],[],[9]⟩,au,uH ?_⟩;refine zaB ?_
  refine ah (Go.Lim.Zm (now:=m.zl) hr.1 hr.2) ?_;refine⟨λq=>?_,λq=>?_⟩
  .rw[eY q];refine dd ?_;refine hU ?_
   refine zaB ?_
   refine af [1] (qN {m with version:=rv,zg:=0,end_:=0,other:=0,slot:=0,k:=0,pc:=5} 1 11 rv) ?_;exact df
  .rw[eN q];refine dd ?_;refine hU ?_
   refine zaB ?_
   refine af [1] (qN {m with i:=IntKind.i64.wrap (m.i+1)} 1 11 rv) ?_;exact df
 .rw[show oO m ⟨rv,ra,true⟩=_ from gz (.inl V)];refine .inl ⟨⟨true,[],[],[9]⟩,au,uH ?_⟩;refine zaB ?_
  refine af [1] (qN {m with i:=IntKind.i64.wrap (m.i+1)} 1 11 rv) ?_;exact df
abbrev As(l:fT):fT:={l with closed:=true}
def Zq(w:Wor)(m:fD)(x:fT)(h0:0<=m.i)(hx:w.zc[m.i.toNat]?=some x):
  tj 182 [⟨1,38,8,[nG 2 w],0⟩,oM m,⟨2,144,4,(w.zc).map qO,0⟩] [.agg tf] (Ce (fX m 2 13 1)) [⟨1,38,8,[nG 2 w],0⟩,oM (iV m 8 (IntKind.i64.wrap (m.i+1))),⟨2,144,4,(w.zc.set m.i.toNat (As x)).map qO,0⟩]:=by
 have e1:0+m.i.toNat=m.i.toNat:=gU _;have fE:m.i.toNat<w.zc.length:=(gh.1 hx).1;have gx:(w.zc.map qO)[m.i.toNat]?=some (qO x):=by rw[gy,hx];rfl
 have hst:(w.zc.map qO).set m.i.toNat [Tx x.name,Bo x.drain,I x.zj,Bo true]=(w.zc.set m.i.toNat (As x)).map qO:=bZ
 refine aa func182 ?_;refine .inl ⟨⟨false,[1,4,6,9],[0,1,3],[]⟩,au,uH ?_⟩;refine hU ?_
 refine⟨h0,fE,dd ?_⟩;rw[e1];refine⟨_,gx,rfl,dd ?_⟩;refine hU ?_
 rw[hst];refine zaz ?_;refine af [1] (xL m 8 (IntKind.i64.wrap (m.i+1))) ?_;refine hU ?_
 refine af [1] (qN (iV m 8 (IntKind.i64.wrap (m.i+1))) 2 13 1) ?_;refine hU ?_;exact⟨.inl V,_,_,.refl _,rfl,cE 3⟩
abbrev GK(m:fD)(v:fI)(a:Int):fG:={fX m 1 7 a with version:=m.version,qX:=v.qX}
abbrev nD(m:fD)(v:fI)(a:Int):fD:=if a≠0 then iV m 4 (IntKind.i64.wrap (m.i+1)) else if IntKind.i64.wrap (m.k+1)<(qv v).length then {m with k:=IntKind.i64.wrap (m.k+1)} else {m with k:=IntKind.i64.wrap (m.k+1),pc:=6}
def VK(w:Wor)(m:fD)(v:fI)(e:En)(hf:EW v)(hv:AH w m v)(k0:0<=m.k)(hk:(qv v)[m.k.toNat]?=some e):tj 178 [oW w,oM m] [.agg tf] (Ce (GK m v e.zj)) [oW w,oM (nD m v e.zj)]:=by
 have a0:=hv.v0;have a1:=hv.row;have hg:((qv v).map zE)[m.k.toNat]?=some (zE e):=by rw[gy,hk];rfl
 have ml:((qv v).map zE).length=(qv v).length:=gC ..;have he:=OS v hf;have eA:e.zj≠0->nD m v e.zj=iV m 4 (IntKind.i64.wrap (m.i+1)):=λhh=>gz hh
 have eB:e.zj=0->nD m v e.zj=if IntKind.i64.wrap (m.k+1)<(qv v).length then {m with k:=IntKind.i64.wrap (m.k+1)} else {m with k:=IntKind.i64.wrap (m.k+1),pc:=6}:=λhh=>gp (by simp[hh])
 generalize hll:qv v=ll at he hk hg ml eA eB;obtain⟨sn,gs,fr⟩:=v;cases fr
 all_goals
  refine aa func178 ?_;refine zbe ?_
  (refine⟨a0,_,a1,dd ?_⟩)
  refine zaK ?_
  refine zaK ?_
  refine zaU ?_
  refine ah he ?_;refine .inr ⟨⟨[0,5,8,9],[0,1,2,3,4],true⟩,au,λ_=>V,_,uH ?_,λt2 H2 h=>h⟩;(refine⟨k0,_,hg,dd ?_⟩)
  refine⟨_,ai [1] (qN m 1 7 e.zj),uH ?_⟩;refine zaK ?_
  refine zaK ?_
  refine zaU ?_
  refine .inl ⟨⟨false,[3,5],[1,4],[]⟩,au,uH ?_⟩;refine zaB ?_
  refine hU ?_
  refine⟨λq=>?_,λq=>?_⟩
  .rw[eA (aq q)];refine dd ?_;refine zaz ?_;refine af [1] (xL m 4 (IntKind.i64.wrap (m.i+1))) ?_;exact df
  .rw[eB (aq q)];refine dd ?_;rw[ml];refine⟨λq2=>?_,λq2=>?_⟩
   .rw[gz (aq q2)];refine dd ?_;exact df
   .rw[gp (aq q2)];refine dd ?_;exact df
abbrev x5(v:fI):fI:={v with qX:=true}
abbrev xG(r:fS):fS:={r with gone:=true}
abbrev Cr(m:fD):fD:={m with answer:={m.answer with n:=IntKind.i64.wrap (m.answer.n+1)},pc:=4,i:=IntKind.i64.wrap (m.i+1)}
def Kc(w:Wor)(m:fD)(v:fI)(r:fS)(hv:AH w m v)(h0:0<=m.i)(hx:w.zm[m.i.toNat]?=some r):
  tj 179 [⟨1,38,8,[[I w.zl,I w.current,I w.lock,lI w.pins,.sl 2 [] 5 0 w.ze.length false,lL w.zc,iG w.counts,.sl 3 [] 3 0 w.zm.length false]],0⟩,oM m,⟨2,138,5,(w.ze).map zM,0⟩,⟨2,142,3,(w.zm).map xz,0⟩] [.agg tf] (Ce (fX m 2 12 m.version)) [⟨1,38,8,[[I w.zl,I w.current,I w.lock,lI w.pins,.sl 2 [] 5 0 w.ze.length false,lL w.zc,iG w.counts,.sl 3 [] 3 0 w.zm.length false]],0⟩,oM (Cr m),⟨2,138,5,(w.ze.set m.version.toNat (x5 v)).map zM,0⟩,⟨2,142,3,(w.zm.set m.i.toNat (xG r)).map xz,0⟩]:=by
 have a0:=hv.v0;have av:m.version.toNat<w.ze.length:=(gh.1 hv.at_).1;have gv:=hv.row;have e1:0+m.i.toNat=m.i.toNat:=gU _;have e2:0+m.version.toNat=m.version.toNat:=gU _;have fE:m.i.toNat<w.zm.length:=(gh.1 hx).1;have gx:(w.zm.map xz)[m.i.toNat]?=some (xz r):=by rw[gy,hx];rfl
 have hst:(w.zm.map xz).set m.i.toNat [I r.version,I r.at_,Bo true]=(w.zm.set m.i.toNat (xG r)).map xz:=bZ
 have hsv:(w.ze.map zM).set m.version.toNat [lT v.snap.zc,mE v.snap.rules,lC v.snap.zo,lG v.zq,Bo true]=(w.ze.set m.version.toNat (x5 v)).map zM:=bZ
 refine aa func179 ?_;refine .inl ⟨⟨false,[1,4,8,10,13,17],[0,1,4],[]⟩,au,uH ?_⟩;refine hU ?_
 refine⟨a0,av,dd ?_⟩;rw[e2];refine⟨_,gv,rfl,dd ?_⟩;refine hU ?_
 refine⟨h0,fE,dd ?_⟩;rw[e1];refine⟨_,gx,rfl,dd ?_⟩;refine hU ?_
 rw[hst,hsv];refine zaz ?_;refine af [1] (xL {m with answer:={m.answer with n:=IntKind.i64.wrap (m.answer.n+1)} } 4 (IntKind.i64.wrap (m.i+1))) ?_;refine hU ?_
 refine zaz ?_;refine af [1] (qN (Cr m) 2 12 m.version) ?_;refine hU ?_;exact⟨.inl V,_,_,.refl _,rfl,cE 4⟩
def OR(v:fI)(h:EW v):tj 56 [] [Cv v] (I (qv v).length) []:=by
 have ml:((qv v).map zE).length=(qv v).length:=gC ..;have he:=OS v h;generalize qv v=ll at he ml|-;refine ab func56 ?_;refine ah he ?_;rw[ml];exact uI
def Zz(w:Wor)(m:fD)(hpc:m.pc=2)(h:m.i<w.pins.length):tj 172 [] [Cw w,Cm m] (Bo true) []:=by
 have ml:(w.pins.map encI).length=w.pins.length:=gC ..;refine ab func172 ?_;refine zac ?_
 exact uI
def ZC(w:Wor)(m:fD)(hpc:m.pc=9)(h:m.i<w.zc.length):tj 172 [] [Cw w,Cm m] (Bo true) []:=by
 have ml:(w.zc.map qO).length=w.zc.length:=gC ..;refine ab func172 ?_;refine zac ?_
 exact uI
def xS(w:Wor)(m:fD)(hpc:m.pc≠2/\m.pc≠5/\m.pc≠6/\m.pc≠9/\m.pc≠10):tj 172 [] [Cw w,Cm m] (Bo true) []:=by
 refine ab func172 ?_;refine zac ?_
 exact uI
def ZA(w:Wor)(m:fD)(v:fI)(hf:EW v)(hpc:m.pc=5)(hv:AH w m v)(h:m.k<(qv v).length):tj 172 [] [Cw w,Cm m] (Bo true) []:=by
 have a0:=hv.v0;have a1:=hv.row;refine ab func172 ?_;refine zac ?_
 refine .inl ⟨⟨true,[],[],[8]⟩,au,uH ?_⟩;(refine⟨a0,_,a1,dd ?_⟩)
 refine ah (OR v hf) ?_;refine zac ?_
 exact uI
def ZB(w:Wor)(m:fD)(r:fS)(hpc:m.pc=6)(h0:0<=m.i)(hx:w.zm[m.i.toNat]?=some r)(h1:r.version=m.version)(h2:r.gone=false):tj 172 [] [Cw w,Cm m] (Bo true) []:=by
 have hg:(w.zm.map xz)[m.i.toNat]?=some (xz r):=by rw[gy,hx];rfl
 have fE:=(gh.1 hx).1;have ml:(w.zm.map xz).length=w.zm.length:=gC ..;obtain⟨rv,ra,rg⟩:=r;cases h2
 refine ab func172 ?_;refine zac ?_
 refine uE ?_;rw[ml];refine zac ?_
 (refine⟨h0,_,hg,dd ?_⟩)
 refine⟨λ_=>dd ?_,λhh=>absurd hh tG⟩;refine zaB ?_
 (refine⟨h0,_,hg,dd ?_⟩)
 refine zaB ?_
 exact uI
def Xi(w:Wor)(m:fD)(l:fT)(hpc:m.pc=10)(h0:0<=m.i)(hx:w.zc[m.i.toNat]?=some l)(h1:l.drain=true):tj 172 [] [Cw w,Cm m] (Bo true) []:=by
 have hg:(w.zc.map qO)[m.i.toNat]?=some (qO l):=by rw[gy,hx];rfl
 have fE:=(gh.1 hx).1;have ml:(w.zc.map qO).length=w.zc.length:=gC ..;obtain⟨ln,ld,la,lc⟩:=l;cases h1
 refine ab func172 ?_;refine zac ?_
 rw[ml];refine zac ?_
 (refine⟨h0,_,hg,dd ?_⟩)
 refine zaB ?_
 exact uI
def zxI(w:Wor)(m:fD)(X:Ob)(j f:Nat)(R:Exit->S->Prop)(hlow:zW 8 ([oW w,oM m,⟨1,38,8,[lu],0⟩,⟨1,68,44,[lq],0⟩,oE qJ,X,oM m,⟨1,274,2,[td],0⟩]++[])=true)(hf:∀v0 v1 v2 v3 v4 v5 v6 v8 v9 v10,y6 [(0,v0,0),(1,v1,1),(2,v2,2),(3,v3,3),(4,v4,4),(5,v5,5),(6,v6,6),(8,v8,7),(9,v9,8),(10,v10,9)] m.pc=some j)(hc:([.fn 173 [.agg td] [],.fn 174 [.agg td] [],.fn 175 [.agg td] [],.fn 176 [.agg td] [],.fn 177 [.agg td] [],.fn 178 [.agg td] [],.fn 179 [.agg td] [],.fn 180 [.agg td] [],.fn 181 [.agg td] [],.fn 182 [.agg td] []]:List C)[j]?=some (.fn f [.agg td] []))
 (hn:jb prog 0 (behind 5 ((f137.body).getD .skip)) ⟨(.za::.za::.ref 0 [] 8 0 0:: .ref 1 [] 44 0 0:: .ref 2 [] 8 0 0:: .ref 3 [] 44 0 0:: .ref 4 [] 23 0 0:: .ref 5 [] 8 0 0:: .ref 6 [] 44 0 0:: .ref 7 [] 2 0 0:: .fn f [.agg td] []::Bo true:: tY (jp (tY (tY ([]))))),[oW w,oM m,⟨1,38,8,[lu],0⟩,⟨1,68,44,[lq],0⟩,oE qJ,X,oM m,⟨1,274,2,[td],0⟩]++[]⟩ R):jb prog 0 (behind 4 ((f137.body).getD .skip)) ⟨(.za::.za::.ref 0 [] 8 0 0:: .ref 1 [] 44 0 0:: .ref 2 [] 8 0 0:: .ref 3 [] 44 0 0:: .ref 4 [] 23 0 0:: .ref 5 [] 8 0 0:: .ref 6 [] 44 0 0:: .ref 7 [] 2 0 0:: .za::.za::tY (jp (tY (tY ([]))))),[oW w,oM m,⟨1,38,8,[lu],0⟩,⟨1,68,44,[lq],0⟩,oE qJ,X,oM m,⟨1,274,2,[td],0⟩]++[]⟩ R:=by
 refine wC (uH ?_);intro b;refine zaq ?_;intro v0;refine zaq ?_;intro v1;refine zaq ?_;intro v2;refine zaq ?_;intro v3;refine zaq ?_;intro v4;refine zaq ?_;intro v5;refine zaq ?_;intro v6;refine zaq ?_;intro v8;refine zaq ?_;intro v9;refine zaq ?_;intro v10;refine dd ?_;(refine⟨_,_,fO.ks (id:=8) _ _ _ _ V underlying277 underlying3 V V V V V V (hf _ _ _ _ _ _ _ _ _ _) hc,?_⟩;(refine dd ?_))
 refine hZ ?_
 refine .inl ⟨rfl,_,_,(zp.forget 8).trans (zp.xO 8 hC V V V hlow V),hn⟩
def zxH(w:Wor)(m:fD)(X:Ob)(Y:Ob)(j f:Nat)(R:Exit->S->Prop)(hlow:zW 9 ([oW w,oM m,⟨1,38,8,[lu],0⟩,⟨1,68,44,[lq],0⟩,oE qJ,X,oM m,⟨1,274,2,[td],0⟩]++[Y])=true)(hf:∀v0 v1 v2 v3 v4 v5 v6 v8 v9 v10,y6 [(0,v0,0),(1,v1,1),(2,v2,2),(3,v3,3),(4,v4,4),(5,v5,5),(6,v6,6),(8,v8,7),(9,v9,8),(10,v10,9)] m.pc=some j)(hc:([.fn 173 [.agg td] [],.fn 174 [.agg td] [],.fn 175 [.agg td] [],.fn 176 [.agg td] [],.fn 177 [.agg td] [],.fn 178 [.agg td] [],.fn 179 [.agg td] [],.fn 180 [.agg td] [],.fn 181 [.agg td] [],.fn 182 [.agg td] []]:List C)[j]?=some (.fn f [.agg td] []))
 (hn:jb prog 0 (behind 5 ((f137.body).getD .skip)) ⟨(.za::.za::.ref 0 [] 8 0 0:: .ref 1 [] 44 0 0:: .ref 2 [] 8 0 0:: .ref 3 [] 44 0 0:: .ref 4 [] 23 0 0:: .ref 5 [] 8 0 0:: .ref 6 [] 44 0 0:: .ref 7 [] 2 0 0:: .fn f [.agg td] []::Bo true:: tY (jp (tY (tY ([]))))),[oW w,oM m,⟨1,38,8,[lu],0⟩,⟨1,68,44,[lq],0⟩,oE qJ,X,oM m,⟨1,274,2,[td],0⟩]++[Y]⟩ R):jb prog 0 (behind 4 ((f137.body).getD .skip)) ⟨(.za::.za::.ref 0 [] 8 0 0:: .ref 1 [] 44 0 0:: .ref 2 [] 8 0 0:: .ref 3 [] 44 0 0:: .ref 4 [] 23 0 0:: .ref 5 [] 8 0 0:: .ref 6 [] 44 0 0:: .ref 7 [] 2 0 0:: .za::.za::tY (jp (tY (tY ([]))))),[oW w,oM m,⟨1,38,8,[lu],0⟩,⟨1,68,44,[lq],0⟩,oE qJ,X,oM m,⟨1,274,2,[td],0⟩]++[Y]⟩ R:=by
 refine wC (uH ?_);intro b;refine zar ?_;intro v0;refine zar ?_;intro v1;refine zar ?_;intro v2;refine zar ?_;intro v3;refine zar ?_;intro v4;refine zar ?_;intro v5;refine zar ?_;intro v6;refine zar ?_;intro v8;refine zar ?_;intro v9;refine zar ?_;intro v10;refine dd ?_;(refine⟨_,_,fO.ks (id:=9) _ _ _ _ V underlying277 underlying3 V V V V V V (hf _ _ _ _ _ _ _ _ _ _) hc,?_⟩;(refine dd ?_))
 refine hZ ?_
 refine .inl ⟨rfl,_,_,(zp.forget 9).trans (zp.xO 9 hC V V V hlow V),hn⟩
def zxG(w:Wor)(m:fD)(X:Ob)(Y Z:Ob)(j f:Nat)(R:Exit->S->Prop)(hlow:zW 10 ([oW w,oM m,⟨1,38,8,[lu],0⟩,⟨1,68,44,[lq],0⟩,oE qJ,X,oM m,⟨1,274,2,[td],0⟩]++[Y,Z])=true)(hf:∀v0 v1 v2 v3 v4 v5 v6 v8 v9 v10,y6 [(0,v0,0),(1,v1,1),(2,v2,2),(3,v3,3),(4,v4,4),(5,v5,5),(6,v6,6),(8,v8,7),(9,v9,8),(10,v10,9)] m.pc=some j)(hc:([.fn 173 [.agg td] [],.fn 174 [.agg td] [],.fn 175 [.agg td] [],.fn 176 [.agg td] [],.fn 177 [.agg td] [],.fn 178 [.agg td] [],.fn 179 [.agg td] [],.fn 180 [.agg td] [],.fn 181 [.agg td] [],.fn 182 [.agg td] []]:List C)[j]?=some (.fn f [.agg td] []))
 (hn:jb prog 0 (behind 5 ((f137.body).getD .skip)) ⟨(.za::.za::.ref 0 [] 8 0 0:: .ref 1 [] 44 0 0:: .ref 2 [] 8 0 0:: .ref 3 [] 44 0 0:: .ref 4 [] 23 0 0:: .ref 5 [] 8 0 0:: .ref 6 [] 44 0 0:: .ref 7 [] 2 0 0:: .fn f [.agg td] []::Bo true:: tY (jp (tY (tY ([]))))),[oW w,oM m,⟨1,38,8,[lu],0⟩,⟨1,68,44,[lq],0⟩,oE qJ,X,oM m,⟨1,274,2,[td],0⟩]++[Y,Z]⟩ R):jb prog 0 (behind 4 ((f137.body).getD .skip)) ⟨(.za::.za::.ref 0 [] 8 0 0:: .ref 1 [] 44 0 0:: .ref 2 [] 8 0 0:: .ref 3 [] 44 0 0:: .ref 4 [] 23 0 0:: .ref 5 [] 8 0 0:: .ref 6 [] 44 0 0:: .ref 7 [] 2 0 0:: .za::.za::tY (jp (tY (tY ([]))))),[oW w,oM m,⟨1,38,8,[lu],0⟩,⟨1,68,44,[lq],0⟩,oE qJ,X,oM m,⟨1,274,2,[td],0⟩]++[Y,Z]⟩ R:=by
 refine wC (uH ?_);intro b;refine zap ?_;intro v0;refine zap ?_;intro v1;refine zap ?_;intro v2;refine zap ?_;intro v3;refine zap ?_;intro v4;refine zap ?_;intro v5;refine zap ?_;intro v6;refine zap ?_;intro v8;refine zap ?_;intro v9;refine zap ?_;intro v10;refine dd ?_;(refine⟨_,_,fO.ks (id:=10) _ _ _ _ V underlying277 underlying3 V V V V V V (hf _ _ _ _ _ _ _ _ _ _) hc,?_⟩;(refine dd ?_))
 refine hZ ?_
 refine .inl ⟨rfl,_,_,(zp.forget 10).trans (zp.xO 10 hC V V V hlow V),hn⟩
def jV{w':Wor}{m:fD}(sw:jg w)(ok:iw w)(hl:i64 m.listen)(hs:z8 w m=true)(hm:tj 172 [] [Cw w,Cm m] (Bo true) [])(j f:Nat)(hcb:qh prog f=true)(hf:∀v0 v1 v2 v3 v4 v5 v6 v8 v9 v10,y6 [(0,v0,0),(1,v1,1),(2,v2,2),(3,v3,3),(4,v4,4),(5,v5,5),(6,v6,6),(8,v8,7),(9,v9,8),(10,v10,9)] m.pc=some j)(hc:([.fn 173 [.agg td] [],.fn 174 [.agg td] [],.fn 175 [.agg td] [],.fn 176 [.agg td] [],.fn 177 [.agg td] [],.fn 178 [.agg td] [],.fn 179 [.agg td] [],.fn 180 [.agg td] [],.fn 181 [.agg td] [],.fn 182 [.agg td] []]:List C)[j]?=some (.fn f [.agg td] []))
 (h:tj f [oW w,oM m] [.agg tf] (Ce e) [oW w',oM m']):tj 137 [] [Cw w,Cm m] (.fJ [Cw w',Cm m',Ce e]) []:=by
 refine zaY ?_
 refine ah hm ?_;refine hZ ?_
 refine zaC ?_;refine .inr ⟨⟨[0,1,2],[0,1],true⟩,au,λ_=>V,λt H=>t=(.za::.za::.ref 0 [] 8 0 0:: .ref 1 [] 44 0 0:: .ref 2 [] 8 0 0:: .ref 3 [] 44 0 0:: .ref 4 [] 23 0 0:: .ref 5 [] 8 0 0:: .ref 6 [] 44 0 0:: .za::.za::.za::tY (jp (tY (tY ([])))))/\H=[oW w,oM m,⟨1,38,8,[lu],0⟩,⟨1,68,44,[lq],0⟩,oE qJ,oW w,oM m],?_,?_⟩
 .conv=>whnf
  refine⟨_,ai [] (qE w sw),uH ?_⟩;repeat' (first|(exact trivial)|(refine⟨rfl,uH ?_⟩)|(exact⟨_,_,zp.fL [0,1,2,3,4,5,6] [2,3,4,5,6,7,8] _ _ V V V V,rfl,rfl⟩)|(exact⟨_,_,zp.fL [0,1,2,3,4,6,5] [2,3,4,5,6,7,8] _ _ V V V V,rfl,rfl⟩)|(refine And.intro ?_ ?_ <;> (conv=>whnf)))
 rintro _ _ ⟨rfl,rfl⟩;conv=>whnf
 refine zaC ?_;refine .inl ⟨rfl,_,_,cE 8,zxI w m (oW w) j f _ V hf hc ?_⟩;(refine jJ (K:=λex t H=>(ex=.ret\/ex=.normal)/\∃s2,zp 0 ⟨t,H⟩ s2/\(wa prog f137 s2).map (xH 0 9)=some (.fJ [Cw w',Cm m',Ce e])) (uH ?_))
 rw[hcb];refine af [5,6] (h) ?_;refine .inl ⟨⟨false,[0,1,2],[5,6,8],[]⟩,au,uH ?_⟩;refine hU ?_
 exact uI
def WL{m:fD}{ls:List fT}(sw:jg w)(ok:iw w)(hl:i64 m.listen)(hs:z8 w m=true)(hm:tj 172 [] [Cw w,Cm m] (Bo true) [])(j f:Nat)(hcb:qh prog f=true)(hf:∀v0 v1 v2 v3 v4 v5 v6 v8 v9 v10,y6 [(0,v0,0),(1,v1,1),(2,v2,2),(3,v3,3),(4,v4,4),(5,v5,5),(6,v6,6),(8,v8,7),(9,v9,8),(10,v10,9)] m.pc=some j)(hc:([.fn 173 [.agg td] [],.fn 174 [.agg td] [],.fn 175 [.agg td] [],.fn 176 [.agg td] [],.fn 177 [.agg td] [],.fn 178 [.agg td] [],.fn 179 [.agg td] [],.fn 180 [.agg td] [],.fn 181 [.agg td] [],.fn 182 [.agg td] []]:List C)[j]?=some (.fn f [.agg td] []))
 (hne:w.zc≠[])(hll:ls.length=w.zc.length)(h:tj f [⟨1,38,8,[nG 2 w],0⟩,oM m,⟨2,144,4,(w.zc).map qO,0⟩] [.agg tf] (Ce e) [⟨1,38,8,[nG 2 w],0⟩,oM m',⟨2,144,4,(ls).map qO,0⟩]):tj 137 [] [Cw w,Cm m] (.fJ [Cw {w with zc:=ls},Cm m',Ce e]) []:=by
 obtain⟨x,l,hx⟩:=uf hne;refine zaY ?_
 refine ah hm ?_;refine hZ ?_
 refine zaC ?_;refine .inr ⟨⟨[0,2],[0,1],true⟩,au,λ_=>V,λt H=>t=(.za::.za::.ref 0 [] 8 0 0:: .ref 1 [] 44 0 0:: .ref 2 [] 8 0 0:: .ref 3 [] 44 0 0:: .ref 4 [] 23 0 0:: .ref 5 [] 8 0 0:: .ref 6 [] 44 0 0:: .za::.za::.za::tY (jp (tY (tY ([])))))/\H=[oW w,oM m,⟨1,38,8,[lu],0⟩,⟨1,68,44,[lq],0⟩,oE qJ,⟨1,38,8,[nG 7 w],0⟩,oM m,⟨2,144,4,(w.zc).map qO,0⟩],?_,?_⟩
 .conv=>whnf
  repeat' (first|(exact trivial)|(refine⟨rfl,uH ?_⟩)|(refine zt [] (kj w sw x l hx) V V V V V V (uH ?_))|(exact⟨_,_,zp.fL [0,1,2,3,4,5,6,7] [2,3,4,5,6,7,8] _ _ V V V V,rfl,rfl⟩)|(exact⟨_,_,zp.fL [0,1,2,3,4,5,7,6] [2,3,4,5,6,7,8] _ _ V V V V,rfl,rfl⟩)|(exact⟨_,_,zp.fL [0,1,2,3,4,6,5,7] [2,3,4,5,6,7,8] _ _ V V V V,rfl,rfl⟩)|(exact⟨_,_,zp.fL [0,1,2,3,4,6,7,5] [2,3,4,5,6,7,8] _ _ V V V V,rfl,rfl⟩)|(exact⟨_,_,zp.fL [0,1,2,3,4,7,5,6] [2,3,4,5,6,7,8] _ _ V V V V,rfl,rfl⟩)|(exact⟨_,_,zp.fL [0,1,2,3,4,7,6,5] [2,3,4,5,6,7,8] _ _ V V V V,rfl,rfl⟩)|(refine And.intro ?_ ?_ <;> (conv=>whnf)))
 rintro _ _ ⟨rfl,rfl⟩;conv=>whnf
 refine zaC ?_;refine .inl ⟨rfl,_,_,(zp.fL [0,1,2,3,4,5,6,8,7] [2,3,4,5,6,7,8,9] _ _ V V V V).trans (cC),zxH w m (⟨1,38,8,[nG 8 w],0⟩) (⟨2,144,4,(w.zc).map qO,0⟩) j f _ V hf hc ?_⟩;(refine jJ (K:=λex t H=>(ex=.ret\/ex=.normal)/\∃s2,zp 0 ⟨t,H⟩ s2/\(wa prog f137 s2).map (xH 0 9)=some (.fJ [Cw {w with zc:=ls},Cm m',Ce e])) (uH ?_))
 rw[hcb];refine af [5,6,8] (h) ?_;refine .inl ⟨⟨false,[0,1,2],[5,6,9],[]⟩,au,uH ?_⟩;refine hU ?_
 exact dJ
def WD(w:Wor)(h:jg w)(x:fS)(l:List fS)(hx:w.zm=x::l):tj 162 [] [Cw w] (.agg [I w.zl,I w.current,I w.lock,lI w.pins,.sl 0 [] 5 0 w.ze.length false,lL w.zc,iG w.counts,.sl 1 [] 3 0 w.zm.length false]) [⟨2,138,5,(w.ze).map zM,0⟩,⟨2,142,3,(w.zm).map xz,0⟩]:=by
 have hl:l.length<1000000000:=by have:=h.zm;rw[hx]at this;exact dc
 have hc:=Ra x l hl;rw[<-hx]at hc;refine zaQ ?_;refine zao ?_;refine af [] (hc) ?_;refine za2 ?_;exact zp.fL [3,5] [0] _ _ V V V (zd V (zd V (zd V (zd V (zd (zi λr hr c hc=>((shut_map (enc:=zQ) (λ_=>V) w.counts) r hr c hc).2) V)))))
def WJ{m:fD}{vs:List fI}{rs:List fS}(sw:jg w)(ok:iw w)(hl:i64 m.listen)(hs:z8 w m=true)(hm:tj 172 [] [Cw w,Cm m] (Bo true) [])(j f:Nat)(hcb:qh prog f=true)(hf:∀v0 v1 v2 v3 v4 v5 v6 v8 v9 v10,y6 [(0,v0,0),(1,v1,1),(2,v2,2),(3,v3,3),(4,v4,4),(5,v5,5),(6,v6,6),(8,v8,7),(9,v9,8),(10,v10,9)] m.pc=some j)(hc:([.fn 173 [.agg td] [],.fn 174 [.agg td] [],.fn 175 [.agg td] [],.fn 176 [.agg td] [],.fn 177 [.agg td] [],.fn 178 [.agg td] [],.fn 179 [.agg td] [],.fn 180 [.agg td] [],.fn 181 [.agg td] [],.fn 182 [.agg td] []]:List C)[j]?=some (.fn f [.agg td] []))
 (hne:w.ze≠[])(hne2:w.zm≠[])(hvl:vs.length=w.ze.length)(hrl:rs.length=w.zm.length)(h:tj f [⟨1,38,8,[[I w.zl,I w.current,I w.lock,lI w.pins,.sl 2 [] 5 0 w.ze.length false,lL w.zc,iG w.counts,.sl 3 [] 3 0 w.zm.length false]],0⟩,oM m,⟨2,138,5,(w.ze).map zM,0⟩,⟨2,142,3,(w.zm).map xz,0⟩] [.agg tf] (Ce e) [⟨1,38,8,[[I w.zl,I w.current,I w.lock,lI w.pins,.sl 2 [] 5 0 w.ze.length false,lL w.zc,iG w.counts,.sl 3 [] 3 0 w.zm.length false]],0⟩,oM m',⟨2,138,5,(vs).map zM,0⟩,⟨2,142,3,(rs).map xz,0⟩]):tj 137 [] [Cw w,Cm m] (.fJ [Cw {w with ze:=vs,zm:=rs},Cm m',Ce e]) []:=by
 obtain⟨v,vl,hv⟩:=uf hne;obtain⟨r,rl,hr⟩:=uf hne2;refine zaY ?_
 refine ah hm ?_;refine hZ ?_
 refine zaC ?_;refine .inr ⟨⟨[0,2],[0,1],true⟩,au,λ_=>V,λt H=>t=(.za::.za::.ref 0 [] 8 0 0:: .ref 1 [] 44 0 0:: .ref 2 [] 8 0 0:: .ref 3 [] 44 0 0:: .ref 4 [] 23 0 0:: .ref 5 [] 8 0 0:: .ref 6 [] 44 0 0:: .za::.za::.za::tY (jp (tY (tY ([])))))/\H=[oW w,oM m,⟨1,38,8,[lu],0⟩,⟨1,68,44,[lq],0⟩,oE qJ,⟨1,38,8,[[I w.zl,I w.current,I w.lock,lI w.pins,.sl 7 [] 5 0 w.ze.length false,lL w.zc,iG w.counts,.sl 8 [] 3 0 w.zm.length false]],0⟩,oM m,⟨2,138,5,(w.ze).map zM,0⟩,⟨2,142,3,(w.zm).map xz,0⟩],?_,?_⟩
 .conv=>whnf
  repeat' (first|(exact trivial)|(refine⟨rfl,uH ?_⟩)|(refine zt [] (WD w sw r rl hr) V V V V V V (uH ?_))|(exact⟨_,_,zp.fL [0,1,2,3,4,5,6,7,8] [2,3,4,5,6,7,8] _ _ V V V V,rfl,rfl⟩)|(exact⟨_,_,zp.fL [0,1,2,3,4,5,6,8,7] [2,3,4,5,6,7,8] _ _ V V V V,rfl,rfl⟩)|(exact⟨_,_,zp.fL [0,1,2,3,4,5,7,6,8] [2,3,4,5,6,7,8] _ _ V V V V,rfl,rfl⟩)|(exact⟨_,_,zp.fL [0,1,2,3,4,5,7,8,6] [2,3,4,5,6,7,8] _ _ V V V V,rfl,rfl⟩)|(exact⟨_,_,zp.fL [0,1,2,3,4,5,8,6,7] [2,3,4,5,6,7,8] _ _ V V V V,rfl,rfl⟩)|(exact⟨_,_,zp.fL [0,1,2,3,4,5,8,7,6] [2,3,4,5,6,7,8] _ _ V V V V,rfl,rfl⟩)|(exact⟨_,_,zp.fL [0,1,2,3,4,6,5,7,8] [2,3,4,5,6,7,8] _ _ V V V V,rfl,rfl⟩)|(exact⟨_,_,zp.fL [0,1,2,3,4,6,5,8,7] [2,3,4,5,6,7,8] _ _ V V V V,rfl,rfl⟩)|(exact⟨_,_,zp.fL [0,1,2,3,4,6,7,5,8] [2,3,4,5,6,7,8] _ _ V V V V,rfl,rfl⟩)|(exact⟨_,_,zp.fL [0,1,2,3,4,6,7,8,5] [2,3,4,5,6,7,8] _ _ V V V V,rfl,rfl⟩)|(exact⟨_,_,zp.fL [0,1,2,3,4,6,8,5,7] [2,3,4,5,6,7,8] _ _ V V V V,rfl,rfl⟩)|(exact⟨_,_,zp.fL [0,1,2,3,4,6,8,7,5] [2,3,4,5,6,7,8] _ _ V V V V,rfl,rfl⟩)|(exact⟨_,_,zp.fL [0,1,2,3,4,7,5,6,8] [2,3,4,5,6,7,8] _ _ V V V V,rfl,rfl⟩)|(exact⟨_,_,zp.fL [0,1,2,3,4,7,5,8,6] [2,3,4,5,6,7,8] _ _ V V V V,rfl,rfl⟩)|(exact⟨_,_,zp.fL [0,1,2,3,4,7,6,5,8] [2,3,4,5,6,7,8] _ _ V V V V,rfl,rfl⟩)|(exact⟨_,_,zp.fL [0,1,2,3,4,7,6,8,5] [2,3,4,5,6,7,8] _ _ V V V V,rfl,rfl⟩)|(exact⟨_,_,zp.fL [0,1,2,3,4,7,8,5,6] [2,3,4,5,6,7,8] _ _ V V V V,rfl,rfl⟩)|(exact⟨_,_,zp.fL [0,1,2,3,4,7,8,6,5] [2,3,4,5,6,7,8] _ _ V V V V,rfl,rfl⟩)|(exact⟨_,_,zp.fL [0,1,2,3,4,8,5,6,7] [2,3,4,5,6,7,8] _ _ V V V V,rfl,rfl⟩)|(exact⟨_,_,zp.fL [0,1,2,3,4,8,5,7,6] [2,3,4,5,6,7,8] _ _ V V V V,rfl,rfl⟩)|(exact⟨_,_,zp.fL [0,1,2,3,4,8,6,5,7] [2,3,4,5,6,7,8] _ _ V V V V,rfl,rfl⟩)|(exact⟨_,_,zp.fL [0,1,2,3,4,8,6,7,5] [2,3,4,5,6,7,8] _ _ V V V V,rfl,rfl⟩)|(exact⟨_,_,zp.fL [0,1,2,3,4,8,7,5,6] [2,3,4,5,6,7,8] _ _ V V V V,rfl,rfl⟩)|(exact⟨_,_,zp.fL [0,1,2,3,4,8,7,6,5] [2,3,4,5,6,7,8] _ _ V V V V,rfl,rfl⟩)|(refine And.intro ?_ ?_ <;> (conv=>whnf)))
 rintro _ _ ⟨rfl,rfl⟩;conv=>whnf
 refine zaC ?_;refine .inl ⟨rfl,_,_,(zp.fL [0,1,2,3,4,5,6,9,7,8] [2,3,4,5,6,7,8,9] _ _ V V V V).trans (cC),zxG w m (⟨1,38,8,[[I w.zl,I w.current,I w.lock,lI w.pins,.sl 8 [] 5 0 w.ze.length false,lL w.zc,iG w.counts,.sl 9 [] 3 0 w.zm.length false]],0⟩) (⟨2,138,5,(w.ze).map zM,0⟩) (⟨2,142,3,(w.zm).map xz,0⟩) j f _ V hf hc ?_⟩;(refine jJ (K:=λex t H=>(ex=.ret\/ex=.normal)/\∃s2,zp 0 ⟨t,H⟩ s2/\(wa prog f137 s2).map (xH 0 9)=some (.fJ [Cw {w with ze:=vs,zm:=rs},Cm m',Ce e])) (uH ?_))
 rw[hcb];refine af [5,6,8,9] (h) ?_;refine .inl ⟨⟨false,[0,1,2],[5,6,10],[]⟩,au,uH ?_⟩;refine hU ?_
 exact⟨.inl V,_,(zp.zV 2 0 4 V V V V (.inr V) aj (by rw[gC];exact hvl.symm) (shut_map (enc:=zM) (λ_=>V) _) (qa V)).trans (zp.zV 2 0 7 V V V V (.inr V) aj (by rw[gC];exact hrl.symm) (shut_map (enc:=xz) (λ_=>V) _) (qa V)),rfl⟩
end Go.Wor
