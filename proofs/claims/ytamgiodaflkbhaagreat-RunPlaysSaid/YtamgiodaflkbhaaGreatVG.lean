import Derived.Test.YtamgiodaflkbhaaGreatVV
import Derived.Test.YtamgiodaflkbhaaGreatVW
set_option linter.all false
set_option maxRecDepth 100000
set_option maxHeartbeats 4000000
namespace Go.Wor
open Go.Ab Go.Proofs Tryz Go.Hy Go.Gat Go.Nam Go.Hos Go.Con Go.Sna
variable{w:Wor}{m':fx}{e:fF}
def QK(l:List fO)(s:fB)(hl:l.length<4611686018427387904):
  th 121 [⟨2,98,4,(l).map zT,0⟩,⟨1,9,1,[[Tx s]],0⟩] [.sl 0 [] 4 0 l.length false,.fn 122 [] [.ref 1 [] 1 0 0]] (I (zZ l s)) [⟨2,98,4,(l).map zT,0⟩,⟨1,9,1,[[Tx s]],0⟩]:=by
 refine aa func121 ?_;refine zH.seq l.length (λk=>(.sl 0 [] 4 0 l.length false::.fn 122 [] [.ref 1 [] 1 0 0]::.za::.za::I 0::.za::.za::I l.length::I k::mL ([.za,.za]))) (λk=>[⟨2,98,4,(l).map zT,0⟩,⟨1,9,1,[[Tx s]],0⟩]) (λk=>∀j,(h:j<l.length)->j<k->(l[j].name == s)=false) ?_ ah (λk hk hr=>?_) (λhr=>?_)
 .exact cC
 .have hg:(l.map zT)[k]?=some (zT l[k]):=by rw[pw,pq hk];rfl
  have e1:0+(k:Int).toNat=k:=ah
  conv=>whnf
  refine uF ?_;refine⟨an,ai hk,dd ?_⟩;rw[e1];refine⟨_,hg,(by show 0+4<=4;decide),dd ?_⟩;refine ae [1] (Lb s l[k]) ?_;refine⟨λh2=>?_,λh2=>?_⟩
  .refine zci ?_
   have e:zZ l s=k:=by
    unfold zZ
    have:l.findIdx? (λx=>x.name == s)=some k:=by
     exact dC
    rw[this]
   rw[e];exact dk
  .refine dd ?_;refine .inl ⟨rfl,?_,λj hj hjk=>?_⟩
   .exact gL
   .by_cases e:j=k
    .subst e;exact h2
    .exact gE
 .refine uD ?_
  have e:zZ l s= -1:=by
   unfold zZ
   have:l.findIdx? (λx=>x.name == s)=none:=by
    rw[pX];intro x hx;obtain⟨j,hj,rfl⟩:=pU.1 hx;exact hr j hj hj
   rw[this]
  rw[e];exact dk
def Qt(l:List fO)(s:fB)(hl:l.length<4611686018427387904):th 65 [⟨2,98,4,(l).map zT,0⟩] [.sl 0 [] 4 0 l.length false,Tx s] (I (zZ l s)) [⟨2,98,4,(l).map zT,0⟩]:=by
 refine aa func65 ?_;refine ae [0,1] (QK l s hl) ?_;exact dF
def JM(m:fx)(e:fF)(a:fM):th 180 [oM m,⟨1,236,24,[.ref 0 [] 44 0 0::jb (e)],0⟩] [.ref 1 [] 24 0 0,.agg (qY a)] (.fy []) [oM ({m with done:=true,answer:=a}),⟨1,236,24,[.ref 0 [] 44 0 0::jb ({e with done:=true,answer:=a})],0⟩]:=by
 refine aa func180 ?_;refine .inl ⟨⟨false,[3,7,8],[1,2],[]⟩,ak,uH ?_⟩;refine tc ?_
 refine .inl ⟨⟨false,[2],[2],[]⟩,ak,uH ?_⟩;refine tc ?_
 exact⟨.inr V,_,_,.refl _,rfl,cE 2⟩
abbrev DO(m:fx):fF:={zW with zm:=m.zm,access:=1,version:= -1}
def OE(w:Wor)(m:fx)(sw:z6 w)(ok:fG w)(hl:i64 m.listen)(hpc:m.pc=0)(hs:zG w m=true)(hi:zZ w.zc m.op.listen<0):
  th 140 [] [Cw w,Cm m] (.fy [Cw w,Cm {m with done:=true,answer:=wW 7},Ce {DO m with done:=true,answer:=wW 7}]) []:=by
 refine ab func140 ?_;refine⟨λh=>absurd h (by simp[hpc]),λ_=>dd ?_⟩;refine zbq ?_
 refine af (qz w sw) ?_;refine af (vr w.zc m.op.listen (by have:=ok.zc.1;omega)) ?_;refine⟨λ_=>dd ?_,λh=>absurd h (ai hi)⟩;refine ae [1,5] (JM m (DO m) (wW 7)) ?_;refine .inl ⟨⟨false,[0,1,5],[0,1,5],[]⟩,ak,uH ?_⟩;refine tc ?_
 exact uI
abbrev Fh(m:fx):fF:={zW with zm:=m.zm,access:=2,cell:=4,version:= -1,value:=1,jo:=true}
def Ov(w:Wor)(m:fx)(x:fO)(sw:z6 w)(ok:fG w)(hl:i64 m.listen)(hpc:m.pc=0)(hs:zG w m=true)(hi:0<=zZ w.zc m.op.listen)(hx:w.zc[(zZ w.zc m.op.listen).toNat]?=some x):
  th 140 [] [Cw w,Cm m] (.fy [Cw {w with zc:=w.zc.set (zZ w.zc m.op.listen).toNat (Go.Gat.wH x)},Cm {m with listen:=zZ w.zc m.op.listen,done:=true,answer:=⟨10,0,0,0,0,zZ w.zc m.op.listen,0,⟨0,0,0,0,0,0⟩⟩},Ce {Fh m with done:=true,answer:=⟨10,0,0,0,0,zZ w.zc m.op.listen,0,⟨0,0,0,0,0,0⟩⟩}]) []:=by
 generalize hp:zZ w.zc m.op.listen=p at hi hx;have lt:p.toNat<w.zc.length:=(px.1 hx).1;have gl:(w.zc.map zT)[p.toNat]?=some (zT x):=by rw[pw,hx];rfl
 have hst:(w.zc.map zT).set p.toNat [Tx (Go.Gat.wH x).name,Bo (Go.Gat.wH x).drain,I (Go.Gat.wH x).zo,Bo (Go.Gat.wH x).closed]=(w.zc.set p.toNat (Go.Gat.wH x)).map zT:=bO
 have e1:0+p.toNat=p.toNat:=pK _
 obtain⟨y,l,hy⟩:∃y l,w.zc=y::l:=by
  cases h:w.zc with
  |nil=>rw[h]at lt;simp at lt
  |cons y l=>exact⟨y,l,rfl⟩
 have hpl:=Qt w.zc m.op.listen (by have:=ok.zc.1;omega);rw[hp]at hpl;refine ab func140 ?_;refine⟨λh=>absurd h (by simp[hpc]),λ_=>dd ?_⟩;refine zbq ?_
 refine ae [] (vz w sw y l hy) ?_;refine ae [5] (hpl) ?_;refine za9 ?_;refine .inl ⟨⟨true,[1,4],[0],[8]⟩,ak,uH ?_⟩;refine tc ?_
 refine⟨hi,lt,dd ?_⟩;rw[e1];refine⟨_,gl,(by show 0+4<=4;decide),dd ?_⟩;refine af (Go.Gat.QS x) ?_;refine⟨hi,lt,dd ?_⟩;rw[e1];refine⟨_,gl,rfl,dd ?_⟩;refine tc ?_
 rw[hst];refine ae [1,6] (JM {m with listen:=p} (Fh m) ⟨10,0,0,0,0,p,0,⟨0,0,0,0,0,0⟩⟩) ?_;refine .inl ⟨⟨false,[0,1,5],[0,1,6],[]⟩,ak,uH ?_⟩;refine tc ?_
 exact gQ
abbrev im(m:fx)(p i:Int):fx:={m with pc:=p,i:=i}
def qF(m:fx)(a b c:Int):th 236 [oM m] [.agg [.za,.ref 0 [] 44 0 0],I a,I b,I c] (Ce (fI m a b c)) [oM m]:=by
 refine aa func236 ?_;refine tc ?_;exact dF
def xp(m:fx)(p i:Int):th 237 [oM m] [.agg [.za,.ref 0 [] 44 0 0],I p,I i] (.fy []) [oM ({m with pc:=p,i:=i})]:=by
 refine aa func237 ?_;refine .inl ⟨⟨false,[1,3],[1],[]⟩,ak,uH ?_⟩;refine tc ?_
 exact⟨.inr V,_,_,.refl _,rfl,cE 1⟩
def JJ(m:fx)(e:fF)(a:fM):th 235 [oM m] [.agg [.za,.ref 0 [] 44 0 0],Ce e,.agg (qY a)] (Ce {e with done:=true,answer:=a}) [oM ({m with done:=true,answer:=a})]:=by
 refine aa func235 ?_;refine .inl ⟨⟨false,[1,3,4],[1,3],[]⟩,ak,uH ?_⟩;refine tc ?_
 refine .inl ⟨⟨false,[0],[3],[]⟩,ak,uH ?_⟩;refine tc ?_
 refine tc ?_;exact dF
def Oh(w:Wor)(m:fx):th 184 [oW w,oM m] [.agg tg] (Ce (fI m 1 1 w.zr)) [oW w,oM ({m with zr:=w.zr,pc:=2,i:=0})]:=by
 refine aa func184 ?_;refine .inl ⟨⟨false,[1,3,6],[0,2],[]⟩,ak,uH ?_⟩;refine tc ?_
 refine ae [1] (xp {m with zr:=w.zr} 2 0) ?_;refine zaY ?_;refine ae [1] (qF {m with zr:=w.zr,pc:=2,i:=0} 1 1 w.zr) ?_;exact dM
def Qq(w:Wor)(m:fx)(h:w.lock≠0):th 183 [oW w,oM m] [.agg tg] (Ce {fI m 5 14 1 with done:=true,answer:=wW 12}) [oW w,oM ({m with done:=true,answer:=wW 12})]:=by
 refine aa func183 ?_;refine⟨λ_=>dd ?_,λhh=>absurd hh uW⟩;refine .inl ⟨⟨true,[0,1],[2],[2]⟩,ak,uH ?_⟩;refine ae [1] (qF m 5 14 1) ?_;refine tc ?_
 refine ae [1] (JJ m (fI m 5 14 1) (wW 12)) ?_;exact dM
def Pj(w:Wor)(m:fx)(h:w.lock=0):th 183 [oW w,oM m] [.agg tg] (Ce (fI m 4 14 1)) [oW ({w with lock:=1}),oM ({m with pc:=1})]:=by
 refine aa func183 ?_;refine⟨λhh=>absurd hh aA,λ_=>dd ?_⟩;refine .inl ⟨⟨false,[1,3],[2],[]⟩,ak,uH ?_⟩;refine tc ?_
 refine ae [1] (qF {m with pc:=1} 4 14 1) ?_;exact dM
def oV(w:Wor)(m:fx)(p:Int):fx:=if p≠0/\p≠IntKind.i64.wrap (m.zr+1) then im m 4 0 else if IntKind.i64.wrap (m.i+1)<w.pins.length then {m with i:=IntKind.i64.wrap (m.i+1)} else im m 3 (IntKind.i64.wrap (m.i+1))
def Ph(w:Wor)(m:fx)(p:Int)(h0:0<=m.i)(hp:w.pins[m.i.toNat]?=some p):th 185 [oW w,oM m] [.agg tg] (Ce (fI m 1 2 p)) [oW w,oM (oV w m p)]:=by
 have hg:(w.pins.map encI)[m.i.toNat]?=some (encI p):=by rw[pw,hp];rfl
 have ml:(w.pins.map encI).length=w.pins.length:=pz ..;refine aa func185 ?_;refine uE ?_;(refine⟨h0,_,hg,dd ?_⟩)
 refine⟨λq1=>?_,λq1=>?_⟩
 .refine dd ?_;refine⟨λq2=>?_,λq2=>?_⟩
  .rw[show oV w m p=im m 4 0 from pD ⟨ai q1,ai q2⟩];refine zac ?_
   refine ae [1] (xp m 4 0) ?_;refine ae [1] (qF (im m 4 0) 1 2 p) ?_;exact dM
  .have q:¬(p≠0/\p≠IntKind.i64.wrap (m.zr+1)):=λhh=>hh.2 (ai q2)
   refine zac ?_
   (rw[show oV w m p=_ from pA q]);refine uE ?_;(rw[ml]);refine⟨λq3=>?_,λq3=>?_⟩;(focus ((rw[pD (ai q3)]);refine dd ?_;refine ae [1] (qF {m with i:=IntKind.i64.wrap (m.i+1)} 1 2 p) ?_;refine tc ?_;exact⟨.inl V,_,_,.refl _,rfl,cE 2⟩));exact zbM
 .have q:¬(p≠0/\p≠IntKind.i64.wrap (m.zr+1)):=λhh=>hh.1 (ai q1)
  refine zac ?_
  (rw[show oV w m p=_ from pA q]);refine uE ?_;(rw[ml]);refine⟨λq3=>?_,λq3=>?_⟩;(focus ((rw[pD (ai q3)]);refine dd ?_;refine ae [1] (qF {m with i:=IntKind.i64.wrap (m.i+1)} 1 2 p) ?_;refine tc ?_;exact⟨.inl V,_,_,.refl _,rfl,cE 2⟩));exact zbM
def N1(w:Wor)(m:fx)(h:¬(w.zr=m.zr/\w.zr<1000000000000)):th 186 [oW w,oM m] [.agg tg] (Ce (fI m 5 1 w.zr)) [oW w,oM (im m 4 0)]:=by
 refine aa func186 ?_;refine uE ?_;refine⟨λq1=>?_,λq1=>?_⟩
 .refine dd ?_;refine⟨λq2=>?_,λq2=>?_⟩
  .exact absurd ⟨ai q1,ai q2⟩ h
  .refine zac ?_
   refine ae [1] (xp m 4 0) ?_;refine zaY ?_;refine ae [1] (qF (im m 4 0) 5 1 w.zr) ?_;exact dM
 .refine zac ?_
  refine ae [1] (xp m 4 0) ?_;refine zaY ?_;refine ae [1] (qF (im m 4 0) 5 1 w.zr) ?_;exact dM
def NV(w:Wor)(m:fx)(h1:w.zr=m.zr)(h2:w.zr<1000000000000):th 186 [oW w,oM m] [.agg tg] (Ce (fI m 4 1 (IntKind.i64.wrap (w.zr+1)))) [oW ({w with zr:=IntKind.i64.wrap (w.zr+1)}),oM ({im m 4 0 with zr:=IntKind.i64.wrap (w.zr+1)})]:=by
 refine aa func186 ?_;refine uE ?_;refine⟨λ_=>dd ?_,λhh=>absurd hh uZ⟩;refine⟨λ_=>dd ?_,λhh=>absurd hh ar⟩;refine td ?_
 refine .inl ⟨⟨false,[1,3,6],[0,2],[]⟩,ak,uH ?_⟩;refine tc ?_
 refine ae [1] (xp {m with zr:=IntKind.i64.wrap (w.zr+1)} 4 0) ?_;refine zaY ?_;refine ae [1] (qF {im m 4 0 with zr:=IntKind.i64.wrap (w.zr+1)} 4 1 (IntKind.i64.wrap (w.zr+1))) ?_;exact dM
def jf(v:fC):List En:=v.zg.flatMap (·.ends)
structure nF(v:fC):Prop where
 zg:v.zg.length<=1000
 ends : ∀g∈v.zg, g.ends.length <= 1000
def Gv:∀(l:List Gr),(∀g∈l,g.ends.length<=1000)->(l.flatMap (·.ends)).length<=l.length*1000
 |[],_=>by simp
 |g::l,h=>by
  have:=Gv l λx hx=>h x (rY _ hx)
  have:=h g (sd ..);simp only[List.flatMap_cons,rB,r8];omega
def JP(v:fC)(h:nF v):th 239 [] [Cv v] (lE (jf v)) []:=by
 have m1:(v.zg.map zy).length=v.zg.length:=pz ..;have hgl:=h.zg;refine ab func239 ?_;rw[m1];refine zH.seq v.zg.length (λk=>(.za::.ref 0 [] 5 0 0::.fq 1 0 []::.gl 1 3 (((v.zg.take k).flatMap (·.ends)).map zx)::.za::.za::.za::(lG v.zg)::I v.zg.length::I k::mL ([.za]))) (λk=>[⟨1,106,5,[zt v],0⟩,⟨4,151,3,((v.zg.take k).flatMap (·.ends)).map zx,0⟩]) (λk=>True) ?_ trivial (λk hk hr=>?_) (λhr=>?_)
 .refine zl.trans (zl.grow 3 151 3 V (.inl V)) ?_;exact cC
 .obtain⟨g,hx⟩:∃g,g=v.zg[k]:=⟨_,rfl⟩;have hg:(v.zg.map zy)[k]?=some (zy g):=by rw[pw,pq hk,hx];rfl
  have eg:((v.zg.take (k+1)).flatMap (·.ends)).map zx=((v.zg.take k).flatMap (·.ends)).map zx++g.ends.map zx:=bM
  have l1:(((v.zg.take k).flatMap (·.ends)).map zx).length<=k*1000:=by
   have:=Gv (v.zg.take k) λx hx=>h.ends x (pF hx)
   rw[sI,fl an]at this;simpa using this
  have l2:(g.ends.map zx).length<=1000:=by rw[pz];exact h.ends g (hx ▸ rj hk)
  conv=>whnf
  refine zaD ?_
  refine⟨rfl,.inr V,by simp only[maxLen];omega,by show _*40<=_;omega,dd ?_⟩;refine zap ?_;rw[zk an,eg];exact cE 2
 .refine uD ?_;exact gN
abbrev Bh(k n:Int):fM:=⟨k,0,0,0,0,0,n,⟨0,0,0,0,0,0⟩⟩
def Oc(w:Wor)(m:fx)(l:fO)(h0:0<=m.i)(hx:w.zc[m.i.toNat]?=some l):th 191 [oW w,oM m] [.agg tg] (Ce (fI m 1 5 l.zo)) [oW w,oM (if l.zo=0 then {m with pc:=10} else im m 8 (IntKind.i64.wrap (m.i+1)))]:=by
 have hg:(w.zc.map zT)[m.i.toNat]?=some (zT l):=by rw[pw,hx];rfl
 refine aa func191 ?_;refine uE ?_;(refine⟨h0,_,hg,dd ?_⟩)
 refine⟨λq=>?_,λq=>?_⟩
 .rw[pD tO];refine dd ?_;refine ae [1] (qF {m with pc:=10} 1 5 l.zo) ?_;exact dM
 .rw[pA tO];refine dd ?_;refine zaY ?_;refine ae [1] (xp m 8 (IntKind.i64.wrap (m.i+1))) ?_;refine tc ?_
  refine ae [1] (qF (im m 8 (IntKind.i64.wrap (m.i+1))) 1 5 l.zo) ?_;exact dM
def NY(w:Wor)(m:fx)(h:w.zc.length<=m.i):th 190 [oW w,oM m] [.agg tg] (Ce {fI m 2 14 0 with done:=true,answer:=Bh 11 m.answer.n}) [oW ({w with lock:=0}),oM ({m with done:=true,answer:=Bh 11 m.answer.n})]:=by
 have ml:(w.zc.map zT).length=w.zc.length:=pz ..;refine aa func190 ?_;refine uE ?_;rw[ml];refine⟨λ_=>dd ?_,λhh=>absurd hh ar⟩;refine .inl ⟨⟨true,[0,1],[2],[2]⟩,ak,uH ?_⟩;refine ae [1] (qF m 2 14 0) ?_;refine tc ?_
 refine ae [1] (JJ m (fI m 2 14 0) (Bh 11 m.answer.n)) ?_;exact dM
abbrev FA(m:fx)(l:fO):fx:=if l.drain=true/\l.closed=false then {m with pc:=9} else {m with i:=IntKind.i64.wrap (m.i+1)}
abbrev Ny(m:fx)(l:fO):fF:=fI m 1 4 (if l.drain=true then 1 else 0)
def N9(w:Wor)(m:fx)(l:fO)(h0:0<=m.i)(hx:w.zc[m.i.toNat]?=some l):th 190 [oW w,oM m] [.agg tg] (Ce (Ny m l)) [oW w,oM (FA m l)]:=by
 have hg:(w.zc.map zT)[m.i.toNat]?=some (zT l):=by rw[pw,hx];rfl
 have ft:=(px.1 hx).1;have ml:(w.zc.map zT).length=w.zc.length:=pz ..;obtain⟨nm,dr,ac,cl⟩:=l;cases dr <;> cases cl
 all_goals
  refine aa func190 ?_;refine uE ?_;rw[ml];refine⟨λhh=>absurd hh ar,λ_=>dd ?_⟩;refine zcq ?_
  (refine⟨h0,_,hg,dd ?_⟩)
  refine zbj ?_
  refine zbj ?_
  refine zaM ?_
  refine ae [1] (qF m 1 4 0) ?_;refine zaG ?_
  exact dM
def NZ{w':Wor}{m:fx}(h:w.zn.length<=m.i)(hd:th 190 [oW w,oM (im m 8 0)] [.agg tg] (Ce e) [oW w',oM m']):th 187 [oW w,oM m] [.agg tg] (Ce e) [oW w',oM m']:=by
 have ml:(w.zn.map qk).length=w.zn.length:=pz ..;refine aa func187 ?_;refine uE ?_;rw[ml];refine⟨λ_=>dd ?_,λhh=>absurd hh ar⟩;refine ae [1] (xp m 8 0) ?_;refine ae [0,1] (hd) ?_;exact dM
abbrev Ai(m:fx)(r:fK):fx:=if r.gone=true\/Go.Lim.vU r.at_ m.zr=false then {m with i:=IntKind.i64.wrap (m.i+1)} else {m with version:=r.version,zp:=0,end_:=0,other:=0,slot:=0,k:=0,pc:=5}
def Oi(w:Wor)(m:fx)(r:fK)(hr:i64 r.at_)(h0:0<=m.i)(hx:w.zn[m.i.toNat]?=some r):th 187 [oW w,oM m] [.agg tg] (Ce (fI m 1 11 r.version)) [oW w,oM (Ai m r)]:=by
 have hg:(w.zn.map qk)[m.i.toNat]?=some (qk r):=by rw[pw,hx];rfl
 have ft:=(px.1 hx).1;have ml:(w.zn.map qk).length=w.zn.length:=pz ..;obtain⟨rv,ra,rg⟩:=r;refine aa func187 ?_;refine uE ?_;rw[ml];refine⟨λhh=>absurd hh ar,λ_=>dd ?_⟩;refine zcq ?_
 (refine⟨h0,_,hg,dd ?_⟩)
 refine zbj ?_
 refine zbj ?_
 refine zaM ?_
 cases rg
 .have eN:Go.Lim.vU ra m.zr=false->Ai m ⟨rv,ra,false⟩={m with i:=IntKind.i64.wrap (m.i+1)}:=λhh=>pD (.inr hh)
  have eY:Go.Lim.vU ra m.zr=true->Ai m ⟨rv,ra,false⟩={m with version:=rv,zp:=0,end_:=0,other:=0,slot:=0,k:=0,pc:=5}:=λhh=>pA (by simp[hh])
  refine .inl ⟨⟨true,[],[],[9]⟩,ak,uH ?_⟩;refine zaG ?_
  refine af (Go.Lim.Tq (now:=m.zr) hr.1 hr.2) ?_;refine⟨λq=>?_,λq=>?_⟩
  .rw[eY q];refine dd ?_;refine tc ?_
   refine zaG ?_
   refine ae [1] (qF {m with version:=rv,zp:=0,end_:=0,other:=0,slot:=0,k:=0,pc:=5} 1 11 rv) ?_;exact dM
  .rw[eN q];refine dd ?_;refine tc ?_
   refine zaG ?_
   refine ae [1] (qF {m with i:=IntKind.i64.wrap (m.i+1)} 1 11 rv) ?_;exact dM
 .rw[show Ai m ⟨rv,ra,true⟩=_ from pD (.inl V)];refine .inl ⟨⟨true,[],[],[9]⟩,ak,uH ?_⟩;refine zaG ?_
  refine ae [1] (qF {m with i:=IntKind.i64.wrap (m.i+1)} 1 11 rv) ?_;exact dM
abbrev AZ(l:fO):fO:={l with closed:=true}
def Tt(w:Wor)(m:fx)(x:fO)(h0:0<=m.i)(hx:w.zc[m.i.toNat]?=some x):
  th 192 [⟨1,38,8,[iU 2 w],0⟩,oM m,⟨2,98,4,(w.zc).map zT,0⟩] [.agg tg] (Ce (fI m 2 13 1)) [⟨1,38,8,[iU 2 w],0⟩,oM (im m 8 (IntKind.i64.wrap (m.i+1))),⟨2,98,4,(w.zc.set m.i.toNat (AZ x)).map zT,0⟩]:=by
 have e1:0+m.i.toNat=m.i.toNat:=pK _;have ft:m.i.toNat<w.zc.length:=(px.1 hx).1;have gx:(w.zc.map zT)[m.i.toNat]?=some (zT x):=by rw[pw,hx];rfl
 have hst:(w.zc.map zT).set m.i.toNat [Tx x.name,Bo x.drain,I x.zo,Bo true]=(w.zc.set m.i.toNat (AZ x)).map zT:=bO
 refine aa func192 ?_;refine .inl ⟨⟨false,[1,4,6,9],[0,1,3],[]⟩,ak,uH ?_⟩;refine tc ?_
 refine zbl ?_
 rw[hst];refine zaY ?_;refine ae [1] (xp m 8 (IntKind.i64.wrap (m.i+1))) ?_;refine tc ?_
 refine ae [1] (qF (im m 8 (IntKind.i64.wrap (m.i+1))) 2 13 1) ?_;refine tc ?_;exact⟨.inl V,_,_,.refl _,rfl,cE 3⟩
abbrev Fz(m:fx)(v:fC)(a:Int):fF:={fI m 1 7 a with version:=m.version,qH:=v.qH}
abbrev AJ(m:fx)(v:fC)(a:Int):fx:=if a≠0 then im m 4 (IntKind.i64.wrap (m.i+1)) else if IntKind.i64.wrap (m.k+1)<(jf v).length then {m with k:=IntKind.i64.wrap (m.k+1)} else {m with k:=IntKind.i64.wrap (m.k+1),pc:=6}
def N8(w:Wor)(m:fx)(v:fC)(e:En)(hf:nF v)(hv:mK w m v)(k0:0<=m.k)(hk:(jf v)[m.k.toNat]?=some e):th 188 [oW w,oM m] [.agg tg] (Ce (Fz m v e.zo)) [oW w,oM (AJ m v e.zo)]:=by
 have a0:=hv.v0;have a1:=hv.row;have hg:((jf v).map zx)[m.k.toNat]?=some (zx e):=by rw[pw,hk];rfl
 have ml:((jf v).map zx).length=(jf v).length:=pz ..;have he:=JP v hf;have eA:e.zo≠0->AJ m v e.zo=im m 4 (IntKind.i64.wrap (m.i+1)):=λhh=>pD hh
 have eB:e.zo=0->AJ m v e.zo=if IntKind.i64.wrap (m.k+1)<(jf v).length then {m with k:=IntKind.i64.wrap (m.k+1)} else {m with k:=IntKind.i64.wrap (m.k+1),pc:=6}:=λhh=>pA (by simp[hh])
 generalize hll:jf v=ll at he hk hg ml eA eB;obtain⟨sn,gs,fr⟩:=v;cases fr
 all_goals
  refine aa func188 ?_;refine zcq ?_
  (refine⟨a0,_,a1,dd ?_⟩)
  refine zbj ?_
  refine zbj ?_
  refine zaM ?_
  refine af he ?_;refine .inr ⟨⟨[0,5,8,9],[0,1,2,3,4],true⟩,ak,λ_=>V,_,uH ?_,λt2 H2 h=>h⟩;(refine⟨k0,_,hg,dd ?_⟩)
  refine⟨_,ag [1] (qF m 1 7 e.zo),uH ?_⟩;refine zbj ?_
  refine zbj ?_
  refine zaM ?_
  refine .inl ⟨⟨false,[3,5],[1,4],[]⟩,ak,uH ?_⟩;refine zaG ?_
  refine tc ?_
  refine⟨λq=>?_,λq=>?_⟩
  .rw[eA tO];refine dd ?_;refine zaY ?_;refine ae [1] (xp m 4 (IntKind.i64.wrap (m.i+1))) ?_;exact dM
  .rw[eB tO];refine dd ?_;rw[ml];refine⟨λq2=>?_,λq2=>?_⟩
   .rw[pD (ai q2)];refine dd ?_;exact dM
   .rw[pA (ai q2)];refine dd ?_;exact dM
abbrev Bv(v:fC):fC:={v with qH:=true}
abbrev ny(r:fK):fK:={r with gone:=true}
abbrev BP(m:fx):fx:={m with answer:={m.answer with n:=IntKind.i64.wrap (m.answer.n+1)},pc:=4,i:=IntKind.i64.wrap (m.i+1)}
def DZ(w:Wor)(m:fx)(v:fC)(r:fK)(hv:mK w m v)(h0:0<=m.i)(hx:w.zn[m.i.toNat]?=some r):
  th 189 [⟨1,38,8,[[I w.zr,I w.current,I w.lock,lI w.pins,.sl 2 [] 5 0 w.zd.length false,lL w.zc,fJ w.counts,.sl 3 [] 3 0 w.zn.length false]],0⟩,oM m,⟨2,106,5,(w.zd).map zt,0⟩,⟨2,157,3,(w.zn).map qk,0⟩] [.agg tg] (Ce (fI m 2 12 m.version)) [⟨1,38,8,[[I w.zr,I w.current,I w.lock,lI w.pins,.sl 2 [] 5 0 w.zd.length false,lL w.zc,fJ w.counts,.sl 3 [] 3 0 w.zn.length false]],0⟩,oM (BP m),⟨2,106,5,(w.zd.set m.version.toNat (Bv v)).map zt,0⟩,⟨2,157,3,(w.zn.set m.i.toNat (ny r)).map qk,0⟩]:=by
 have a0:=hv.v0;have av:m.version.toNat<w.zd.length:=(px.1 hv.at_).1;have gv:=hv.row;have e1:0+m.i.toNat=m.i.toNat:=pK _;have e2:0+m.version.toNat=m.version.toNat:=pK _;have ft:m.i.toNat<w.zn.length:=(px.1 hx).1;have gx:(w.zn.map qk)[m.i.toNat]?=some (qk r):=by rw[pw,hx];rfl
 have hst:(w.zn.map qk).set m.i.toNat [I r.version,I r.at_,Bo true]=(w.zn.set m.i.toNat (ny r)).map qk:=bO
 have hsv:(w.zd.map zt).set m.version.toNat [lT v.snap.zc,kY v.snap.rules,lC v.snap.zj,lG v.zg,Bo true]=(w.zd.set m.version.toNat (Bv v)).map zt:=bO
 refine aa func189 ?_;refine .inl ⟨⟨false,[1,4,8,10,13,17],[0,1,4],[]⟩,ak,uH ?_⟩;refine tc ?_
 refine⟨a0,av,dd ?_⟩;rw[e2];refine⟨_,gv,rfl,dd ?_⟩;refine tc ?_
 refine zbl ?_
 rw[hst,hsv];refine zaY ?_;refine ae [1] (xp {m with answer:={m.answer with n:=IntKind.i64.wrap (m.answer.n+1)} } 4 (IntKind.i64.wrap (m.i+1))) ?_;refine tc ?_
 refine zaY ?_;refine ae [1] (qF (BP m) 2 12 m.version) ?_;refine tc ?_;exact⟨.inl V,_,_,.refl _,rfl,cE 4⟩
def Bc(w:Wor)(m:fx):Bool:=
 if m.pc=2 then decide (m.i<w.pins.length)
 else if m.pc=5 then (match w.zd[m.version.toNat]? with|some v=>decide (m.k<(jf v).length)|none=>false)
 else if m.pc=6 then (match w.zn[m.i.toNat]? with|some r=>(r.version == m.version) && !r.gone|none=>false)
 else if m.pc=9 then decide (m.i<w.zc.length)
 else if m.pc=10 then (match w.zc[m.i.toNat]? with|some l=>l.drain|none=>false)
 else true
def JO(v:fC)(h:nF v):th 234 [] [Cv v] (I (jf v).length) []:=by
 have ml:((jf v).map zx).length=(jf v).length:=pz ..;have he:=JP v h;generalize jf v=ll at he ml|-;refine ab func234 ?_;refine af he ?_;rw[ml];exact uI
def Tg(w:Wor)(m:fx)(hpc:m.pc=2)(h:m.i<w.pins.length):th 182 [] [Cw w,Cm m] (Bo true) []:=by
 have ml:(w.pins.map encI).length=w.pins.length:=pz ..;refine ab func182 ?_;refine zah ?_
 exact uI
def Tj(w:Wor)(m:fx)(hpc:m.pc=9)(h:m.i<w.zc.length):th 182 [] [Cw w,Cm m] (Bo true) []:=by
 have ml:(w.zc.map zT).length=w.zc.length:=pz ..;refine ab func182 ?_;refine zah ?_
 exact uI
def xu(w:Wor)(m:fx)(hpc:m.pc≠2/\m.pc≠5/\m.pc≠6/\m.pc≠9/\m.pc≠10):th 182 [] [Cw w,Cm m] (Bo true) []:=by
 refine ab func182 ?_;refine zah ?_
 exact uI
def Th(w:Wor)(m:fx)(v:fC)(hf:nF v)(hpc:m.pc=5)(hv:mK w m v)(h:m.k<(jf v).length):th 182 [] [Cw w,Cm m] (Bo true) []:=by
 have a0:=hv.v0;have a1:=hv.row;refine ab func182 ?_;refine zah ?_
 refine .inl ⟨⟨true,[],[],[8]⟩,ak,uH ?_⟩;(refine⟨a0,_,a1,dd ?_⟩)
 refine af (JO v hf) ?_;refine zah ?_
 exact uI
def Ti(w:Wor)(m:fx)(r:fK)(hpc:m.pc=6)(h0:0<=m.i)(hx:w.zn[m.i.toNat]?=some r)(h1:r.version=m.version)(h2:r.gone=false):th 182 [] [Cw w,Cm m] (Bo true) []:=by
 have hg:(w.zn.map qk)[m.i.toNat]?=some (qk r):=by rw[pw,hx];rfl
 have ft:=(px.1 hx).1;have ml:(w.zn.map qk).length=w.zn.length:=pz ..;obtain⟨rv,ra,rg⟩:=r;cases h2
 refine ab func182 ?_;refine zah ?_
 refine uE ?_;rw[ml];refine zah ?_
 (refine⟨h0,_,hg,dd ?_⟩)
 refine⟨λ_=>dd ?_,λhh=>absurd hh uZ⟩;refine zaG ?_
 (refine⟨h0,_,hg,dd ?_⟩)
 refine zaG ?_
 exact uI
def Qz(w:Wor)(m:fx)(l:fO)(hpc:m.pc=10)(h0:0<=m.i)(hx:w.zc[m.i.toNat]?=some l)(h1:l.drain=true):th 182 [] [Cw w,Cm m] (Bo true) []:=by
 have hg:(w.zc.map zT)[m.i.toNat]?=some (zT l):=by rw[pw,hx];rfl
 have ft:=(px.1 hx).1;have ml:(w.zc.map zT).length=w.zc.length:=pz ..;obtain⟨ln,ld,la,lc⟩:=l;cases h1
 refine ab func182 ?_;refine zah ?_
 rw[ml];refine zah ?_
 (refine⟨h0,_,hg,dd ?_⟩)
 refine zaG ?_
 exact uI
def Wi(w:Wor)(m:fx)(X:Ob)(j f:Nat)(R:Exit->S->Prop)(hlow:qj 8 ([oW w,oM m,⟨1,38,8,[iE],0⟩,⟨1,64,44,[iD],0⟩,oE zW,X,oM m,⟨1,240,2,[tf],0⟩]++[])=true)(hf:∀v0 v1 v2 v3 v4 v5 v6 v8 v9 v10,vS [(0,v0,0),(1,v1,1),(2,v2,2),(3,v3,3),(4,v4,4),(5,v5,5),(6,v6,6),(8,v8,7),(9,v9,8),(10,v10,9)] m.pc=some j)(hc:([.fn 183 [.agg tf] [],.fn 184 [.agg tf] [],.fn 185 [.agg tf] [],.fn 186 [.agg tf] [],.fn 187 [.agg tf] [],.fn 188 [.agg tf] [],.fn 189 [.agg tf] [],.fn 190 [.agg tf] [],.fn 191 [.agg tf] [],.fn 192 [.agg tf] []]:List C)[j]?=some (.fn f [.agg tf] []))
 (hn:qX prog 0 (behind 5 ((f141.body).getD .skip)) ⟨(.za::.za::.ref 0 [] 8 0 0:: .ref 1 [] 44 0 0:: .ref 2 [] 8 0 0:: .ref 3 [] 44 0 0:: .ref 4 [] 23 0 0:: .ref 5 [] 8 0 0:: .ref 6 [] 44 0 0:: .ref 7 [] 2 0 0:: .fn f [.agg tf] []::Bo true:: mL (jp (mL (mL ([]))))),[oW w,oM m,⟨1,38,8,[iE],0⟩,⟨1,64,44,[iD],0⟩,oE zW,X,oM m,⟨1,240,2,[tf],0⟩]++[]⟩ R):qX prog 0 (behind 4 ((f141.body).getD .skip)) ⟨(.za::.za::.ref 0 [] 8 0 0:: .ref 1 [] 44 0 0:: .ref 2 [] 8 0 0:: .ref 3 [] 44 0 0:: .ref 4 [] 23 0 0:: .ref 5 [] 8 0 0:: .ref 6 [] 44 0 0:: .ref 7 [] 2 0 0:: .za::.za::mL (jp (mL (mL ([]))))),[oW w,oM m,⟨1,38,8,[iE],0⟩,⟨1,64,44,[iD],0⟩,oE zW,X,oM m,⟨1,240,2,[tf],0⟩]++[]⟩ R:=by
 refine lM (uH ?_);intro b;refine zaP ?_;intro v0;refine zaP ?_;intro v1;refine zaP ?_;intro v2;refine zaP ?_;intro v3;refine zaP ?_;intro v4;refine zaP ?_;intro v5;refine zaP ?_;intro v6;refine zaP ?_;intro v8;refine zaP ?_;intro v9;refine zaP ?_;intro v10;refine dd ?_;(refine⟨_,_,fE.C6 (id:=8) _ _ _ _ V underlying243 underlying3 V V V V V V (hf _ _ _ _ _ _ _ _ _ _) hc,?_⟩;(refine dd ?_))
 refine td ?_
 refine .inl ⟨rfl,_,_,(zl.forget 8).trans (zl.jd 8 ta V V V hlow V),hn⟩
def Wh(w:Wor)(m:fx)(X:Ob)(Y:Ob)(j f:Nat)(R:Exit->S->Prop)(hlow:qj 9 ([oW w,oM m,⟨1,38,8,[iE],0⟩,⟨1,64,44,[iD],0⟩,oE zW,X,oM m,⟨1,240,2,[tf],0⟩]++[Y])=true)(hf:∀v0 v1 v2 v3 v4 v5 v6 v8 v9 v10,vS [(0,v0,0),(1,v1,1),(2,v2,2),(3,v3,3),(4,v4,4),(5,v5,5),(6,v6,6),(8,v8,7),(9,v9,8),(10,v10,9)] m.pc=some j)(hc:([.fn 183 [.agg tf] [],.fn 184 [.agg tf] [],.fn 185 [.agg tf] [],.fn 186 [.agg tf] [],.fn 187 [.agg tf] [],.fn 188 [.agg tf] [],.fn 189 [.agg tf] [],.fn 190 [.agg tf] [],.fn 191 [.agg tf] [],.fn 192 [.agg tf] []]:List C)[j]?=some (.fn f [.agg tf] []))
 (hn:qX prog 0 (behind 5 ((f141.body).getD .skip)) ⟨(.za::.za::.ref 0 [] 8 0 0:: .ref 1 [] 44 0 0:: .ref 2 [] 8 0 0:: .ref 3 [] 44 0 0:: .ref 4 [] 23 0 0:: .ref 5 [] 8 0 0:: .ref 6 [] 44 0 0:: .ref 7 [] 2 0 0:: .fn f [.agg tf] []::Bo true:: mL (jp (mL (mL ([]))))),[oW w,oM m,⟨1,38,8,[iE],0⟩,⟨1,64,44,[iD],0⟩,oE zW,X,oM m,⟨1,240,2,[tf],0⟩]++[Y]⟩ R):qX prog 0 (behind 4 ((f141.body).getD .skip)) ⟨(.za::.za::.ref 0 [] 8 0 0:: .ref 1 [] 44 0 0:: .ref 2 [] 8 0 0:: .ref 3 [] 44 0 0:: .ref 4 [] 23 0 0:: .ref 5 [] 8 0 0:: .ref 6 [] 44 0 0:: .ref 7 [] 2 0 0:: .za::.za::mL (jp (mL (mL ([]))))),[oW w,oM m,⟨1,38,8,[iE],0⟩,⟨1,64,44,[iD],0⟩,oE zW,X,oM m,⟨1,240,2,[tf],0⟩]++[Y]⟩ R:=by
 refine lM (uH ?_);intro b;refine zaQ ?_;intro v0;refine zaQ ?_;intro v1;refine zaQ ?_;intro v2;refine zaQ ?_;intro v3;refine zaQ ?_;intro v4;refine zaQ ?_;intro v5;refine zaQ ?_;intro v6;refine zaQ ?_;intro v8;refine zaQ ?_;intro v9;refine zaQ ?_;intro v10;refine dd ?_;(refine⟨_,_,fE.C6 (id:=9) _ _ _ _ V underlying243 underlying3 V V V V V V (hf _ _ _ _ _ _ _ _ _ _) hc,?_⟩;(refine dd ?_))
 refine td ?_
 refine .inl ⟨rfl,_,_,(zl.forget 9).trans (zl.jd 9 ta V V V hlow V),hn⟩
def Wg(w:Wor)(m:fx)(X:Ob)(Y Z:Ob)(j f:Nat)(R:Exit->S->Prop)(hlow:qj 10 ([oW w,oM m,⟨1,38,8,[iE],0⟩,⟨1,64,44,[iD],0⟩,oE zW,X,oM m,⟨1,240,2,[tf],0⟩]++[Y,Z])=true)(hf:∀v0 v1 v2 v3 v4 v5 v6 v8 v9 v10,vS [(0,v0,0),(1,v1,1),(2,v2,2),(3,v3,3),(4,v4,4),(5,v5,5),(6,v6,6),(8,v8,7),(9,v9,8),(10,v10,9)] m.pc=some j)(hc:([.fn 183 [.agg tf] [],.fn 184 [.agg tf] [],.fn 185 [.agg tf] [],.fn 186 [.agg tf] [],.fn 187 [.agg tf] [],.fn 188 [.agg tf] [],.fn 189 [.agg tf] [],.fn 190 [.agg tf] [],.fn 191 [.agg tf] [],.fn 192 [.agg tf] []]:List C)[j]?=some (.fn f [.agg tf] []))
 (hn:qX prog 0 (behind 5 ((f141.body).getD .skip)) ⟨(.za::.za::.ref 0 [] 8 0 0:: .ref 1 [] 44 0 0:: .ref 2 [] 8 0 0:: .ref 3 [] 44 0 0:: .ref 4 [] 23 0 0:: .ref 5 [] 8 0 0:: .ref 6 [] 44 0 0:: .ref 7 [] 2 0 0:: .fn f [.agg tf] []::Bo true:: mL (jp (mL (mL ([]))))),[oW w,oM m,⟨1,38,8,[iE],0⟩,⟨1,64,44,[iD],0⟩,oE zW,X,oM m,⟨1,240,2,[tf],0⟩]++[Y,Z]⟩ R):qX prog 0 (behind 4 ((f141.body).getD .skip)) ⟨(.za::.za::.ref 0 [] 8 0 0:: .ref 1 [] 44 0 0:: .ref 2 [] 8 0 0:: .ref 3 [] 44 0 0:: .ref 4 [] 23 0 0:: .ref 5 [] 8 0 0:: .ref 6 [] 44 0 0:: .ref 7 [] 2 0 0:: .za::.za::mL (jp (mL (mL ([]))))),[oW w,oM m,⟨1,38,8,[iE],0⟩,⟨1,64,44,[iD],0⟩,oE zW,X,oM m,⟨1,240,2,[tf],0⟩]++[Y,Z]⟩ R:=by
 refine lM (uH ?_);intro b;refine zaN ?_;intro v0;refine zaN ?_;intro v1;refine zaN ?_;intro v2;refine zaN ?_;intro v3;refine zaN ?_;intro v4;refine zaN ?_;intro v5;refine zaN ?_;intro v6;refine zaN ?_;intro v8;refine zaN ?_;intro v9;refine zaN ?_;intro v10;refine dd ?_;(refine⟨_,_,fE.C6 (id:=10) _ _ _ _ V underlying243 underlying3 V V V V V V (hf _ _ _ _ _ _ _ _ _ _) hc,?_⟩;(refine dd ?_))
 refine td ?_
 refine .inl ⟨rfl,_,_,(zl.forget 10).trans (zl.jd 10 ta V V V hlow V),hn⟩
def jE{w':Wor}{m:fx}(sw:z6 w)(ok:fG w)(hl:i64 m.listen)(hs:zG w m=true)(hm:th 182 [] [Cw w,Cm m] (Bo true) [])(j f:Nat)(hcb:qv prog f=true)(hf:∀v0 v1 v2 v3 v4 v5 v6 v8 v9 v10,vS [(0,v0,0),(1,v1,1),(2,v2,2),(3,v3,3),(4,v4,4),(5,v5,5),(6,v6,6),(8,v8,7),(9,v9,8),(10,v10,9)] m.pc=some j)(hc:([.fn 183 [.agg tf] [],.fn 184 [.agg tf] [],.fn 185 [.agg tf] [],.fn 186 [.agg tf] [],.fn 187 [.agg tf] [],.fn 188 [.agg tf] [],.fn 189 [.agg tf] [],.fn 190 [.agg tf] [],.fn 191 [.agg tf] [],.fn 192 [.agg tf] []]:List C)[j]?=some (.fn f [.agg tf] []))
 (h:th f [oW w,oM m] [.agg tg] (Ce e) [oW w',oM m']):th 141 [] [Cw w,Cm m] (.fy [Cw w',Cm m',Ce e]) []:=by
 refine zbY ?_
 refine af hm ?_;refine td ?_
 refine zbx ?_;refine .inr ⟨⟨[0,1,2],[0,1],true⟩,ak,λ_=>V,λt H=>t=(.za::.za::.ref 0 [] 8 0 0:: .ref 1 [] 44 0 0:: .ref 2 [] 8 0 0:: .ref 3 [] 44 0 0:: .ref 4 [] 23 0 0:: .ref 5 [] 8 0 0:: .ref 6 [] 44 0 0:: .za::.za::.za::mL (jp (mL (mL ([])))))/\H=[oW w,oM m,⟨1,38,8,[iE],0⟩,⟨1,64,44,[iD],0⟩,oE zW,oW w,oM m],?_,?_⟩
 .conv=>whnf
  refine⟨_,ag [] (qz w sw),uH ?_⟩;repeat' (first|(exact trivial)|(refine⟨rfl,uH ?_⟩)|(exact⟨_,_,zl.fD [0,1,2,3,4,5,6] [2,3,4,5,6,7,8] _ _ V V V V,rfl,rfl⟩)|(exact⟨_,_,zl.fD [0,1,2,3,4,6,5] [2,3,4,5,6,7,8] _ _ V V V V,rfl,rfl⟩)|(refine And.intro ?_ ?_ <;> (conv=>whnf)))
 rintro _ _ ⟨rfl,rfl⟩;conv=>whnf
 refine zbx ?_;refine .inl ⟨rfl,_,_,cE 8,Wi w m (oW w) j f _ V hf hc ?_⟩;(refine jh (K:=λex t H=>(ex=.ret\/ex=.normal)/\∃s2,zl 0 ⟨t,H⟩ s2/\(kg prog f141 s2).map (xN 0 9)=some (.fy [Cw w',Cm m',Ce e])) (uH ?_))
 rw[hcb];refine ae [5,6] (h) ?_;refine .inl ⟨⟨false,[0,1,2],[5,6,8],[]⟩,ak,uH ?_⟩;refine tc ?_
 exact uI
def PU{m:fx}{ls:List fO}(sw:z6 w)(ok:fG w)(hl:i64 m.listen)(hs:zG w m=true)(hm:th 182 [] [Cw w,Cm m] (Bo true) [])(j f:Nat)(hcb:qv prog f=true)(hf:∀v0 v1 v2 v3 v4 v5 v6 v8 v9 v10,vS [(0,v0,0),(1,v1,1),(2,v2,2),(3,v3,3),(4,v4,4),(5,v5,5),(6,v6,6),(8,v8,7),(9,v9,8),(10,v10,9)] m.pc=some j)(hc:([.fn 183 [.agg tf] [],.fn 184 [.agg tf] [],.fn 185 [.agg tf] [],.fn 186 [.agg tf] [],.fn 187 [.agg tf] [],.fn 188 [.agg tf] [],.fn 189 [.agg tf] [],.fn 190 [.agg tf] [],.fn 191 [.agg tf] [],.fn 192 [.agg tf] []]:List C)[j]?=some (.fn f [.agg tf] []))
 (hne:w.zc≠[])(hll:ls.length=w.zc.length)(h:th f [⟨1,38,8,[iU 2 w],0⟩,oM m,⟨2,98,4,(w.zc).map zT,0⟩] [.agg tg] (Ce e) [⟨1,38,8,[iU 2 w],0⟩,oM m',⟨2,98,4,(ls).map zT,0⟩]):th 141 [] [Cw w,Cm m] (.fy [Cw {w with zc:=ls},Cm m',Ce e]) []:=by
 obtain⟨x,l,hx⟩:=uw hne;refine zbY ?_
 refine af hm ?_;refine td ?_
 refine zbx ?_;refine .inr ⟨⟨[0,2],[0,1],true⟩,ak,λ_=>V,λt H=>t=(.za::.za::.ref 0 [] 8 0 0:: .ref 1 [] 44 0 0:: .ref 2 [] 8 0 0:: .ref 3 [] 44 0 0:: .ref 4 [] 23 0 0:: .ref 5 [] 8 0 0:: .ref 6 [] 44 0 0:: .za::.za::.za::mL (jp (mL (mL ([])))))/\H=[oW w,oM m,⟨1,38,8,[iE],0⟩,⟨1,64,44,[iD],0⟩,oE zW,⟨1,38,8,[iU 7 w],0⟩,oM m,⟨2,98,4,(w.zc).map zT,0⟩],?_,?_⟩
 .conv=>whnf
  repeat' (first|(exact trivial)|(refine⟨rfl,uH ?_⟩)|(refine zu [] (vz w sw x l hx) V V V V V V (uH ?_))|(exact⟨_,_,zl.fD [0,1,2,3,4,5,6,7] [2,3,4,5,6,7,8] _ _ V V V V,rfl,rfl⟩)|(exact⟨_,_,zl.fD [0,1,2,3,4,5,7,6] [2,3,4,5,6,7,8] _ _ V V V V,rfl,rfl⟩)|(exact⟨_,_,zl.fD [0,1,2,3,4,6,5,7] [2,3,4,5,6,7,8] _ _ V V V V,rfl,rfl⟩)|(exact⟨_,_,zl.fD [0,1,2,3,4,6,7,5] [2,3,4,5,6,7,8] _ _ V V V V,rfl,rfl⟩)|(exact⟨_,_,zl.fD [0,1,2,3,4,7,5,6] [2,3,4,5,6,7,8] _ _ V V V V,rfl,rfl⟩)|(exact⟨_,_,zl.fD [0,1,2,3,4,7,6,5] [2,3,4,5,6,7,8] _ _ V V V V,rfl,rfl⟩)|(refine And.intro ?_ ?_ <;> (conv=>whnf)))
 rintro _ _ ⟨rfl,rfl⟩;conv=>whnf
 refine zbx ?_;refine .inl ⟨rfl,_,_,(zl.fD [0,1,2,3,4,5,6,8,7] [2,3,4,5,6,7,8,9] _ _ V V V V).trans (cC),Wh w m (⟨1,38,8,[iU 8 w],0⟩) (⟨2,98,4,(w.zc).map zT,0⟩) j f _ V hf hc ?_⟩;(refine jh (K:=λex t H=>(ex=.ret\/ex=.normal)/\∃s2,zl 0 ⟨t,H⟩ s2/\(kg prog f141 s2).map (xN 0 9)=some (.fy [Cw {w with zc:=ls},Cm m',Ce e])) (uH ?_))
 rw[hcb];refine ae [5,6,8] (h) ?_;refine .inl ⟨⟨false,[0,1,2],[5,6,9],[]⟩,ak,uH ?_⟩;refine tc ?_
 exact gP
def PK(w:Wor)(h:z6 w)(x:fK)(l:List fK)(hx:w.zn=x::l):th 173 [] [Cw w] (.agg [I w.zr,I w.current,I w.lock,lI w.pins,.sl 0 [] 5 0 w.zd.length false,lL w.zc,fJ w.counts,.sl 1 [] 3 0 w.zn.length false]) [⟨2,106,5,(w.zd).map zt,0⟩,⟨2,157,3,(w.zn).map qk,0⟩]:=by
 have hl:l.length<1000000000:=by have:=h.zn;rw[hx]at this;exact dL
 have hc:=LD x l hl;rw[<-hx]at hc;refine zbv ?_;refine zaL ?_;refine ae [] (hc) ?_;refine zb3 ?_;exact zl.fD [3,5] [0] _ _ V V V (ze V (ze V (ze V (ze V (ze (zf λr hr c hc=>((shut_map (enc:=zA) (λ_=>V) w.counts) r hr c hc).2) V)))))
def PS{m:fx}{vs:List fC}{rs:List fK}(sw:z6 w)(ok:fG w)(hl:i64 m.listen)(hs:zG w m=true)(hm:th 182 [] [Cw w,Cm m] (Bo true) [])(j f:Nat)(hcb:qv prog f=true)(hf:∀v0 v1 v2 v3 v4 v5 v6 v8 v9 v10,vS [(0,v0,0),(1,v1,1),(2,v2,2),(3,v3,3),(4,v4,4),(5,v5,5),(6,v6,6),(8,v8,7),(9,v9,8),(10,v10,9)] m.pc=some j)(hc:([.fn 183 [.agg tf] [],.fn 184 [.agg tf] [],.fn 185 [.agg tf] [],.fn 186 [.agg tf] [],.fn 187 [.agg tf] [],.fn 188 [.agg tf] [],.fn 189 [.agg tf] [],.fn 190 [.agg tf] [],.fn 191 [.agg tf] [],.fn 192 [.agg tf] []]:List C)[j]?=some (.fn f [.agg tf] []))
 (hne:w.zd≠[])(hne2:w.zn≠[])(hvl:vs.length=w.zd.length)(hrl:rs.length=w.zn.length)(h:th f [⟨1,38,8,[[I w.zr,I w.current,I w.lock,lI w.pins,.sl 2 [] 5 0 w.zd.length false,lL w.zc,fJ w.counts,.sl 3 [] 3 0 w.zn.length false]],0⟩,oM m,⟨2,106,5,(w.zd).map zt,0⟩,⟨2,157,3,(w.zn).map qk,0⟩] [.agg tg] (Ce e) [⟨1,38,8,[[I w.zr,I w.current,I w.lock,lI w.pins,.sl 2 [] 5 0 w.zd.length false,lL w.zc,fJ w.counts,.sl 3 [] 3 0 w.zn.length false]],0⟩,oM m',⟨2,106,5,(vs).map zt,0⟩,⟨2,157,3,(rs).map qk,0⟩]):th 141 [] [Cw w,Cm m] (.fy [Cw {w with zd:=vs,zn:=rs},Cm m',Ce e]) []:=by
 obtain⟨v,vl,hv⟩:=uw hne;obtain⟨r,rl,hr⟩:=uw hne2;refine zbY ?_
 refine af hm ?_;refine td ?_
 refine zbx ?_;refine .inr ⟨⟨[0,2],[0,1],true⟩,ak,λ_=>V,λt H=>t=(.za::.za::.ref 0 [] 8 0 0:: .ref 1 [] 44 0 0:: .ref 2 [] 8 0 0:: .ref 3 [] 44 0 0:: .ref 4 [] 23 0 0:: .ref 5 [] 8 0 0:: .ref 6 [] 44 0 0:: .za::.za::.za::mL (jp (mL (mL ([])))))/\H=[oW w,oM m,⟨1,38,8,[iE],0⟩,⟨1,64,44,[iD],0⟩,oE zW,⟨1,38,8,[[I w.zr,I w.current,I w.lock,lI w.pins,.sl 7 [] 5 0 w.zd.length false,lL w.zc,fJ w.counts,.sl 8 [] 3 0 w.zn.length false]],0⟩,oM m,⟨2,106,5,(w.zd).map zt,0⟩,⟨2,157,3,(w.zn).map qk,0⟩],?_,?_⟩
 .conv=>whnf
  repeat' (first|(exact trivial)|(refine⟨rfl,uH ?_⟩)|(refine zu [] (PK w sw r rl hr) V V V V V V (uH ?_))|(exact⟨_,_,zl.fD [0,1,2,3,4,5,6,7,8] [2,3,4,5,6,7,8] _ _ V V V V,rfl,rfl⟩)|(exact⟨_,_,zl.fD [0,1,2,3,4,5,6,8,7] [2,3,4,5,6,7,8] _ _ V V V V,rfl,rfl⟩)|(exact⟨_,_,zl.fD [0,1,2,3,4,5,7,6,8] [2,3,4,5,6,7,8] _ _ V V V V,rfl,rfl⟩)|(exact⟨_,_,zl.fD [0,1,2,3,4,5,7,8,6] [2,3,4,5,6,7,8] _ _ V V V V,rfl,rfl⟩)|(exact⟨_,_,zl.fD [0,1,2,3,4,5,8,6,7] [2,3,4,5,6,7,8] _ _ V V V V,rfl,rfl⟩)|(exact⟨_,_,zl.fD [0,1,2,3,4,5,8,7,6] [2,3,4,5,6,7,8] _ _ V V V V,rfl,rfl⟩)|(exact⟨_,_,zl.fD [0,1,2,3,4,6,5,7,8] [2,3,4,5,6,7,8] _ _ V V V V,rfl,rfl⟩)|(exact⟨_,_,zl.fD [0,1,2,3,4,6,5,8,7] [2,3,4,5,6,7,8] _ _ V V V V,rfl,rfl⟩)|(exact⟨_,_,zl.fD [0,1,2,3,4,6,7,5,8] [2,3,4,5,6,7,8] _ _ V V V V,rfl,rfl⟩)|(exact⟨_,_,zl.fD [0,1,2,3,4,6,7,8,5] [2,3,4,5,6,7,8] _ _ V V V V,rfl,rfl⟩)|(exact⟨_,_,zl.fD [0,1,2,3,4,6,8,5,7] [2,3,4,5,6,7,8] _ _ V V V V,rfl,rfl⟩)|(exact⟨_,_,zl.fD [0,1,2,3,4,6,8,7,5] [2,3,4,5,6,7,8] _ _ V V V V,rfl,rfl⟩)|(exact⟨_,_,zl.fD [0,1,2,3,4,7,5,6,8] [2,3,4,5,6,7,8] _ _ V V V V,rfl,rfl⟩)|(exact⟨_,_,zl.fD [0,1,2,3,4,7,5,8,6] [2,3,4,5,6,7,8] _ _ V V V V,rfl,rfl⟩)|(exact⟨_,_,zl.fD [0,1,2,3,4,7,6,5,8] [2,3,4,5,6,7,8] _ _ V V V V,rfl,rfl⟩)|(exact⟨_,_,zl.fD [0,1,2,3,4,7,6,8,5] [2,3,4,5,6,7,8] _ _ V V V V,rfl,rfl⟩)|(exact⟨_,_,zl.fD [0,1,2,3,4,7,8,5,6] [2,3,4,5,6,7,8] _ _ V V V V,rfl,rfl⟩)|(exact⟨_,_,zl.fD [0,1,2,3,4,7,8,6,5] [2,3,4,5,6,7,8] _ _ V V V V,rfl,rfl⟩)|(exact⟨_,_,zl.fD [0,1,2,3,4,8,5,6,7] [2,3,4,5,6,7,8] _ _ V V V V,rfl,rfl⟩)|(exact⟨_,_,zl.fD [0,1,2,3,4,8,5,7,6] [2,3,4,5,6,7,8] _ _ V V V V,rfl,rfl⟩)|(exact⟨_,_,zl.fD [0,1,2,3,4,8,6,5,7] [2,3,4,5,6,7,8] _ _ V V V V,rfl,rfl⟩)|(exact⟨_,_,zl.fD [0,1,2,3,4,8,6,7,5] [2,3,4,5,6,7,8] _ _ V V V V,rfl,rfl⟩)|(exact⟨_,_,zl.fD [0,1,2,3,4,8,7,5,6] [2,3,4,5,6,7,8] _ _ V V V V,rfl,rfl⟩)|(exact⟨_,_,zl.fD [0,1,2,3,4,8,7,6,5] [2,3,4,5,6,7,8] _ _ V V V V,rfl,rfl⟩)|(refine And.intro ?_ ?_ <;> (conv=>whnf)))
 rintro _ _ ⟨rfl,rfl⟩;conv=>whnf
 refine zbx ?_;refine .inl ⟨rfl,_,_,(zl.fD [0,1,2,3,4,5,6,9,7,8] [2,3,4,5,6,7,8,9] _ _ V V V V).trans (cC),Wg w m (⟨1,38,8,[[I w.zr,I w.current,I w.lock,lI w.pins,.sl 8 [] 5 0 w.zd.length false,lL w.zc,fJ w.counts,.sl 9 [] 3 0 w.zn.length false]],0⟩) (⟨2,106,5,(w.zd).map zt,0⟩) (⟨2,157,3,(w.zn).map qk,0⟩) j f _ V hf hc ?_⟩;(refine jh (K:=λex t H=>(ex=.ret\/ex=.normal)/\∃s2,zl 0 ⟨t,H⟩ s2/\(kg prog f141 s2).map (xN 0 9)=some (.fy [Cw {w with zd:=vs,zn:=rs},Cm m',Ce e])) (uH ?_))
 rw[hcb];refine ae [5,6,8,9] (h) ?_;refine .inl ⟨⟨false,[0,1,2],[5,6,10],[]⟩,ak,uH ?_⟩;refine tc ?_
 exact⟨.inl V,_,(zl.zN 2 0 4 V V V V (.inr V) ah (by rw[pz];exact hvl.symm) (shut_map (enc:=zt) (λ_=>V) _) (zB V)).trans (zl.zN 2 0 7 V V V V (.inr V) ah (by rw[pz];exact hrl.symm) (shut_map (enc:=qk) (λ_=>V) _) (zB V)),rfl⟩
end Go.Wor
