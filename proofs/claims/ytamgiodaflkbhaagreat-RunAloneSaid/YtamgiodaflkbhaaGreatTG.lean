import Derived.Test.YtamgiodaflkbhaaGreatTV
import Derived.Test.YtamgiodaflkbhaaGreatTW
set_option linter.all false
set_option maxRecDepth 100000
set_option maxHeartbeats 4000000
namespace Go.Wor
open Go.Ab Go.Proofs Tryz Go.Hy Go.Gat Go.Nam Go.Hos Go.Con Go.Sna
variable{w:Wor}{m':eQ}{e:e7}
def PZ(l:List fj)(s:eU)(hl:l.length<4611686018427387904):
  th 121 [⟨2,98,4,(l).map zU,0⟩,⟨1,9,1,[[Tx s]],0⟩] [.sl 0 [] 4 0 l.length false,.fn 122 [] [.ref 1 [] 1 0 0]] (I (z7 l s)) [⟨2,98,4,(l).map zU,0⟩,⟨1,9,1,[[Tx s]],0⟩]:=by
 refine aa func121 ?_;refine zH.seq l.length (λk=>(.sl 0 [] 4 0 l.length false::.fn 122 [] [.ref 1 [] 1 0 0]::.za::.za::I 0::.za::.za::I l.length::I k::mK ([.za,.za]))) (λk=>[⟨2,98,4,(l).map zU,0⟩,⟨1,9,1,[[Tx s]],0⟩]) (λk=>∀j,(h:j<l.length)->j<k->(l[j].name == s)=false) ?_ ah (λk hk hr=>?_) (λhr=>?_)
 .exact cC
 .have hg:(l.map zU)[k]?=some (zU l[k]):=by rw[gM,gL hk];rfl
  have e1:0+(k:Int).toNat=k:=ah
  conv=>whnf
  refine uF ?_;refine⟨an,ai hk,dd ?_⟩;rw[e1];refine⟨_,hg,(by show 0+4<=4;decide),dd ?_⟩;refine ae [1] (Kw s l[k]) ?_;refine⟨λh2=>?_,λh2=>?_⟩
  .refine zca ?_
   have e:z7 l s=k:=by
    unfold z7
    have:l.findIdx? (λx=>x.name == s)=some k:=by
     exact dp
    rw[this]
   rw[e];exact cX
  .refine dd ?_;refine .inl ⟨rfl,?_,λj hj hjk=>?_⟩
   .exact dH
   .by_cases e:j=k
    .subst e;exact h2
    .exact dP
 .refine uD ?_
  have e:z7 l s= -1:=by
   unfold z7
   have:l.findIdx? (λx=>x.name == s)=none:=by
    rw[pD];intro x hx;obtain⟨j,hj,rfl⟩:=pz.1 hx;exact hr j hj hj
   rw[this]
  rw[e];exact cX
def PA(l:List fj)(s:eU)(hl:l.length<4611686018427387904):th 65 [⟨2,98,4,(l).map zU,0⟩] [.sl 0 [] 4 0 l.length false,Tx s] (I (z7 l s)) [⟨2,98,4,(l).map zU,0⟩]:=by
 refine aa func65 ?_;refine ae [0,1] (PZ l s hl) ?_;exact dG
def IJ(m:eQ)(e:e7)(a:fe):th 180 [oM m,⟨1,236,24,[.ref 0 [] 44 0 0::jY (e)],0⟩] [.ref 1 [] 24 0 0,.agg (jr a)] (.eR []) [oM ({m with done:=true,answer:=a}),⟨1,236,24,[.ref 0 [] 44 0 0::jY ({e with done:=true,answer:=a})],0⟩]:=by
 refine aa func180 ?_;refine .inl ⟨⟨false,[3,7,8],[1,2],[]⟩,ak,uH ?_⟩;refine tc ?_
 refine .inl ⟨⟨false,[2],[2],[]⟩,ak,uH ?_⟩;refine tc ?_
 exact⟨.inr V,_,_,.refl _,rfl,cE 2⟩
abbrev Dh(m:eQ):e7:={zY with zl:=m.zl,access:=1,version:= -1}
def Oc(w:Wor)(m:eQ)(sw:z6 w)(ok:fa w)(hl:i64 m.listen)(hpc:m.pc=0)(hs:zE w m=true)(hi:z7 w.zc m.op.listen<0):
  th 140 [] [Cw w,Cm m] (.eR [Cw w,Cm {m with done:=true,answer:=wG 7},Ce {Dh m with done:=true,answer:=wG 7}]) []:=by
 refine ab func140 ?_;refine⟨λh=>absurd h (by simp[hpc]),λ_=>dd ?_⟩;refine zbd ?_
 refine af (qx w sw) ?_;refine af (va w.zc m.op.listen (by have:=ok.zc.1;omega)) ?_;refine⟨λ_=>dd ?_,λh=>absurd h (ai hi)⟩;refine ae [1,5] (IJ m (Dh m) (wG 7)) ?_;refine .inl ⟨⟨false,[0,1,5],[0,1,5],[]⟩,ak,uH ?_⟩;refine tc ?_
 exact uI
abbrev Ex(m:eQ):e7:={zY with zl:=m.zl,access:=2,cell:=4,version:= -1,value:=1,jj:=true}
def NR(w:Wor)(m:eQ)(x:fj)(sw:z6 w)(ok:fa w)(hl:i64 m.listen)(hpc:m.pc=0)(hs:zE w m=true)(hi:0<=z7 w.zc m.op.listen)(hx:w.zc[(z7 w.zc m.op.listen).toNat]?=some x):
  th 140 [] [Cw w,Cm m] (.eR [Cw {w with zc:=w.zc.set (z7 w.zc m.op.listen).toNat (Go.Gat.wj x)},Cm {m with listen:=z7 w.zc m.op.listen,done:=true,answer:=⟨10,0,0,0,0,z7 w.zc m.op.listen,0,⟨0,0,0,0,0,0⟩⟩},Ce {Ex m with done:=true,answer:=⟨10,0,0,0,0,z7 w.zc m.op.listen,0,⟨0,0,0,0,0,0⟩⟩}]) []:=by
 generalize hp:z7 w.zc m.op.listen=p at hi hx;have lt:p.toNat<w.zc.length:=(gN.1 hx).1;have gl:(w.zc.map zU)[p.toNat]?=some (zU x):=by rw[gM,hx];rfl
 have hst:(w.zc.map zU).set p.toNat [Tx (Go.Gat.wj x).name,Bo (Go.Gat.wj x).drain,I (Go.Gat.wj x).zo,Bo (Go.Gat.wj x).closed]=(w.zc.set p.toNat (Go.Gat.wj x)).map zU:=bE
 have e1:0+p.toNat=p.toNat:=gZ _
 obtain⟨y,l,hy⟩:∃y l,w.zc=y::l:=by
  cases h:w.zc with
  |nil=>rw[h]at lt;simp at lt
  |cons y l=>exact⟨y,l,rfl⟩
 have hpl:=PA w.zc m.op.listen (by have:=ok.zc.1;omega);rw[hp]at hpl;refine ab func140 ?_;refine⟨λh=>absurd h (by simp[hpc]),λ_=>dd ?_⟩;refine zbd ?_
 refine ae [] (vh w sw y l hy) ?_;refine ae [5] (hpl) ?_;refine zbv ?_;refine .inl ⟨⟨true,[1,4],[0],[8]⟩,ak,uH ?_⟩;refine tc ?_
 refine⟨hi,lt,dd ?_⟩;rw[e1];refine⟨_,gl,(by show 0+4<=4;decide),dd ?_⟩;refine af (Go.Gat.Qf x) ?_;refine⟨hi,lt,dd ?_⟩;rw[e1];refine⟨_,gl,rfl,dd ?_⟩;refine tc ?_
 rw[hst];refine ae [1,6] (IJ {m with listen:=p} (Ex m) ⟨10,0,0,0,0,p,0,⟨0,0,0,0,0,0⟩⟩) ?_;refine .inl ⟨⟨false,[0,1,5],[0,1,6],[]⟩,ak,uH ?_⟩;refine tc ?_
 exact gi
abbrev fJ(m:eQ)(p i:Int):eQ:={m with pc:=p,i:=i}
def qC(m:eQ)(a b c:Int):th 236 [oM m] [.agg [.za,.ref 0 [] 44 0 0],I a,I b,I c] (Ce (fc m a b c)) [oM m]:=by
 refine aa func236 ?_;refine tc ?_;exact dG
def xh(m:eQ)(p i:Int):th 237 [oM m] [.agg [.za,.ref 0 [] 44 0 0],I p,I i] (.eR []) [oM ({m with pc:=p,i:=i})]:=by
 refine aa func237 ?_;refine .inl ⟨⟨false,[1,3],[1],[]⟩,ak,uH ?_⟩;refine tc ?_
 exact⟨.inr V,_,_,.refl _,rfl,cE 1⟩
def IG(m:eQ)(e:e7)(a:fe):th 235 [oM m] [.agg [.za,.ref 0 [] 44 0 0],Ce e,.agg (jr a)] (Ce {e with done:=true,answer:=a}) [oM ({m with done:=true,answer:=a})]:=by
 refine aa func235 ?_;refine .inl ⟨⟨false,[1,3,4],[1,3],[]⟩,ak,uH ?_⟩;refine tc ?_
 refine .inl ⟨⟨false,[0],[3],[]⟩,ak,uH ?_⟩;refine tc ?_
 refine tc ?_;exact dG
def NB(w:Wor)(m:eQ):th 184 [oW w,oM m] [.agg tg] (Ce (fc m 1 1 w.zr)) [oW w,oM ({m with zr:=w.zr,pc:=2,i:=0})]:=by
 refine aa func184 ?_;refine .inl ⟨⟨false,[1,3,6],[0,2],[]⟩,ak,uH ?_⟩;refine tc ?_
 refine ae [1] (xh {m with zr:=w.zr} 2 0) ?_;refine zaL ?_;refine ae [1] (qC {m with zr:=w.zr,pc:=2,i:=0} 1 1 w.zr) ?_;exact dq
def OS(w:Wor)(m:eQ)(h:w.lock≠0):th 183 [oW w,oM m] [.agg tg] (Ce {fc m 5 14 1 with done:=true,answer:=wG 12}) [oW w,oM ({m with done:=true,answer:=wG 12})]:=by
 refine aa func183 ?_;refine⟨λ_=>dd ?_,λhh=>absurd hh uW⟩;refine .inl ⟨⟨true,[0,1],[2],[2]⟩,ak,uH ?_⟩;refine ae [1] (qC m 5 14 1) ?_;refine tc ?_
 refine ae [1] (IG m (fc m 5 14 1) (wG 12)) ?_;exact dq
def NU(w:Wor)(m:eQ)(h:w.lock=0):th 183 [oW w,oM m] [.agg tg] (Ce (fc m 4 14 1)) [oW ({w with lock:=1}),oM ({m with pc:=1})]:=by
 refine aa func183 ?_;refine⟨λhh=>absurd hh aA,λ_=>dd ?_⟩;refine .inl ⟨⟨false,[1,3],[2],[]⟩,ak,uH ?_⟩;refine tc ?_
 refine ae [1] (qC {m with pc:=1} 4 14 1) ?_;exact dq
def nU(w:Wor)(m:eQ)(p:Int):eQ:=if p≠0/\p≠IntKind.i64.wrap (m.zr+1) then fJ m 4 0 else if IntKind.i64.wrap (m.i+1)<w.pins.length then {m with i:=IntKind.i64.wrap (m.i+1)} else fJ m 3 (IntKind.i64.wrap (m.i+1))
def NT(w:Wor)(m:eQ)(p:Int)(h0:0<=m.i)(hp:w.pins[m.i.toNat]?=some p):th 185 [oW w,oM m] [.agg tg] (Ce (fc m 1 2 p)) [oW w,oM (nU w m p)]:=by
 have hg:(w.pins.map encI)[m.i.toNat]?=some (encI p):=by rw[gM,hp];rfl
 have ml:(w.pins.map encI).length=w.pins.length:=gO ..;refine aa func185 ?_;refine uE ?_;(refine⟨h0,_,hg,dd ?_⟩)
 refine⟨λq1=>?_,λq1=>?_⟩
 .refine dd ?_;refine⟨λq2=>?_,λq2=>?_⟩
  .rw[show nU w m p=fJ m 4 0 from gS ⟨ai q1,ai q2⟩];refine zac ?_
   refine ae [1] (xh m 4 0) ?_;refine ae [1] (qC (fJ m 4 0) 1 2 p) ?_;exact dq
  .have q:¬(p≠0/\p≠IntKind.i64.wrap (m.zr+1)):=λhh=>hh.2 (ai q2)
   refine zac ?_
   (rw[show nU w m p=_ from gP q]);refine uE ?_;(rw[ml]);refine⟨λq3=>?_,λq3=>?_⟩;(focus ((rw[gS (ai q3)]);refine dd ?_;refine ae [1] (qC {m with i:=IntKind.i64.wrap (m.i+1)} 1 2 p) ?_;refine tc ?_;exact⟨.inl V,_,_,.refl _,rfl,cE 2⟩));exact zbz
 .have q:¬(p≠0/\p≠IntKind.i64.wrap (m.zr+1)):=λhh=>hh.1 (ai q1)
  refine zac ?_
  (rw[show nU w m p=_ from gP q]);refine uE ?_;(rw[ml]);refine⟨λq3=>?_,λq3=>?_⟩;(focus ((rw[gS (ai q3)]);refine dd ?_;refine ae [1] (qC {m with i:=IntKind.i64.wrap (m.i+1)} 1 2 p) ?_;refine tc ?_;exact⟨.inl V,_,_,.refl _,rfl,cE 2⟩));exact zbz
def Nt(w:Wor)(m:eQ)(h:¬(w.zr=m.zr/\w.zr<1000000000000)):th 186 [oW w,oM m] [.agg tg] (Ce (fc m 5 1 w.zr)) [oW w,oM (fJ m 4 0)]:=by
 refine aa func186 ?_;refine uE ?_;refine⟨λq1=>?_,λq1=>?_⟩
 .refine dd ?_;refine⟨λq2=>?_,λq2=>?_⟩
  .exact absurd ⟨ai q1,ai q2⟩ h
  .refine zac ?_
   refine ae [1] (xh m 4 0) ?_;refine zaL ?_;refine ae [1] (qC (fJ m 4 0) 5 1 w.zr) ?_;exact dq
 .refine zac ?_
  refine ae [1] (xh m 4 0) ?_;refine zaL ?_;refine ae [1] (qC (fJ m 4 0) 5 1 w.zr) ?_;exact dq
def Nh(w:Wor)(m:eQ)(h1:w.zr=m.zr)(h2:w.zr<1000000000000):th 186 [oW w,oM m] [.agg tg] (Ce (fc m 4 1 (IntKind.i64.wrap (w.zr+1)))) [oW ({w with zr:=IntKind.i64.wrap (w.zr+1)}),oM ({fJ m 4 0 with zr:=IntKind.i64.wrap (w.zr+1)})]:=by
 refine aa func186 ?_;refine uE ?_;refine⟨λ_=>dd ?_,λhh=>absurd hh uZ⟩;refine⟨λ_=>dd ?_,λhh=>absurd hh ar⟩;refine td ?_
 refine .inl ⟨⟨false,[1,3,6],[0,2],[]⟩,ak,uH ?_⟩;refine tc ?_
 refine ae [1] (xh {m with zr:=IntKind.i64.wrap (w.zr+1)} 4 0) ?_;refine zaL ?_;refine ae [1] (qC {fJ m 4 0 with zr:=IntKind.i64.wrap (w.zr+1)} 4 1 (IntKind.i64.wrap (w.zr+1))) ?_;exact dq
def jb(v:eX):List En:=v.zg.flatMap (·.ends)
structure mR(v:eX):Prop where
 zg:v.zg.length<=1000
 ends : ∀g∈v.zg, g.ends.length <= 1000
def FP:∀(l:List Gr),(∀g∈l,g.ends.length<=1000)->(l.flatMap (·.ends)).length<=l.length*1000
 |[],_=>by simp
 |g::l,h=>by
  have:=FP l λx hx=>h x (rE _ hx)
  have:=h g (rM ..);simp only[List.flatMap_cons,pW,rK];omega
def I4(v:eX)(h:mR v):th 239 [] [Cv v] (lE (jb v)) []:=by
 have m1:(v.zg.map zy).length=v.zg.length:=gO ..;have hgl:=h.zg;refine ab func239 ?_;rw[m1];refine zH.seq v.zg.length (λk=>(.za::.ref 0 [] 5 0 0::.eM 1 0 []::.gl 1 3 (((v.zg.take k).flatMap (·.ends)).map zu)::.za::.za::.za::(lG v.zg)::I v.zg.length::I k::mK ([.za]))) (λk=>[⟨1,106,5,[zt v],0⟩,⟨4,151,3,((v.zg.take k).flatMap (·.ends)).map zu,0⟩]) (λk=>True) ?_ trivial (λk hk hr=>?_) (λhr=>?_)
 .refine zk.trans (zk.grow 3 151 3 V (.inl V)) ?_;exact cC
 .obtain⟨g,hx⟩:∃g,g=v.zg[k]:=⟨_,rfl⟩;have hg:(v.zg.map zy)[k]?=some (zy g):=by rw[gM,gL hk,hx];rfl
  have eg:((v.zg.take (k+1)).flatMap (·.ends)).map zu=((v.zg.take k).flatMap (·.ends)).map zu++g.ends.map zu:=bC
  have l1:(((v.zg.take k).flatMap (·.ends)).map zu).length<=k*1000:=by
   have:=FP (v.zg.take k) λx hx=>h.ends x (gU hx)
   rw[tj,Nat.min_eq_left an]at this;simpa using this
  have l2:(g.ends.map zu).length<=1000:=by rw[gO];exact h.ends g (hx ▸ pH hk)
  conv=>whnf
  refine zay ?_
  refine⟨rfl,.inr V,by simp only[maxLen];omega,by show _*40<=_;omega,dd ?_⟩;refine zai ?_;rw[zm an,eg];exact cE 2
 .refine uD ?_;exact dZ
abbrev As(k n:Int):fe:=⟨k,0,0,0,0,0,n,⟨0,0,0,0,0,0⟩⟩
def Nq(w:Wor)(m:eQ)(l:fj)(h0:0<=m.i)(hx:w.zc[m.i.toNat]?=some l):th 191 [oW w,oM m] [.agg tg] (Ce (fc m 1 5 l.zo)) [oW w,oM (if l.zo=0 then {m with pc:=10} else fJ m 8 (IntKind.i64.wrap (m.i+1)))]:=by
 have hg:(w.zc.map zU)[m.i.toNat]?=some (zU l):=by rw[gM,hx];rfl
 refine aa func191 ?_;refine uE ?_;(refine⟨h0,_,hg,dd ?_⟩)
 refine⟨λq=>?_,λq=>?_⟩
 .rw[gS mG];refine dd ?_;refine ae [1] (qC {m with pc:=10} 1 5 l.zo) ?_;exact dq
 .rw[gP mG];refine dd ?_;refine zaL ?_;refine ae [1] (xh m 8 (IntKind.i64.wrap (m.i+1))) ?_;refine tc ?_
  refine ae [1] (qC (fJ m 8 (IntKind.i64.wrap (m.i+1))) 1 5 l.zo) ?_;exact dq
def Nf(w:Wor)(m:eQ)(h:w.zc.length<=m.i):th 190 [oW w,oM m] [.agg tg] (Ce {fc m 2 14 0 with done:=true,answer:=As 11 m.answer.n}) [oW ({w with lock:=0}),oM ({m with done:=true,answer:=As 11 m.answer.n})]:=by
 have ml:(w.zc.map zU).length=w.zc.length:=gO ..;refine aa func190 ?_;refine uE ?_;rw[ml];refine⟨λ_=>dd ?_,λhh=>absurd hh ar⟩;refine .inl ⟨⟨true,[0,1],[2],[2]⟩,ak,uH ?_⟩;refine ae [1] (qC m 2 14 0) ?_;refine tc ?_
 refine ae [1] (IG m (fc m 2 14 0) (As 11 m.answer.n)) ?_;exact dq
abbrev ER(m:eQ)(l:fj):eQ:=if l.drain=true/\l.closed=false then {m with pc:=9} else {m with i:=IntKind.i64.wrap (m.i+1)}
abbrev MO(m:eQ)(l:fj):e7:=fc m 1 4 (if l.drain=true then 1 else 0)
def Nn(w:Wor)(m:eQ)(l:fj)(h0:0<=m.i)(hx:w.zc[m.i.toNat]?=some l):th 190 [oW w,oM m] [.agg tg] (Ce (MO m l)) [oW w,oM (ER m l)]:=by
 have hg:(w.zc.map zU)[m.i.toNat]?=some (zU l):=by rw[gM,hx];rfl
 have eP:=(gN.1 hx).1;have ml:(w.zc.map zU).length=w.zc.length:=gO ..;obtain⟨nm,dr,ac,cl⟩:=l;cases dr <;> cases cl
 all_goals
  refine aa func190 ?_;refine uE ?_;rw[ml];refine⟨λhh=>absurd hh ar,λ_=>dd ?_⟩;refine zcc ?_
  (refine⟨h0,_,hg,dd ?_⟩)
  refine za5 ?_
  refine za5 ?_
  refine zaC ?_
  refine ae [1] (qC m 1 4 0) ?_;refine zav ?_
  exact dq
def Ng{w':Wor}{m:eQ}(h:w.zn.length<=m.i)(hd:th 190 [oW w,oM (fJ m 8 0)] [.agg tg] (Ce e) [oW w',oM m']):th 187 [oW w,oM m] [.agg tg] (Ce e) [oW w',oM m']:=by
 have ml:(w.zn.map qh).length=w.zn.length:=gO ..;refine aa func187 ?_;refine uE ?_;rw[ml];refine⟨λ_=>dd ?_,λhh=>absurd hh ar⟩;refine ae [1] (xh m 8 0) ?_;refine ae [0,1] (hd) ?_;exact dq
abbrev oz(m:eQ)(r:fg):eQ:=if r.gone=true\/Go.Lim.vC r.at_ m.zr=false then {m with i:=IntKind.i64.wrap (m.i+1)} else {m with version:=r.version,zp:=0,end_:=0,other:=0,slot:=0,k:=0,pc:=5}
def NC(w:Wor)(m:eQ)(r:fg)(hr:i64 r.at_)(h0:0<=m.i)(hx:w.zn[m.i.toNat]?=some r):th 187 [oW w,oM m] [.agg tg] (Ce (fc m 1 11 r.version)) [oW w,oM (oz m r)]:=by
 have hg:(w.zn.map qh)[m.i.toNat]?=some (qh r):=by rw[gM,hx];rfl
 have eP:=(gN.1 hx).1;have ml:(w.zn.map qh).length=w.zn.length:=gO ..;obtain⟨rv,ra,rg⟩:=r;refine aa func187 ?_;refine uE ?_;rw[ml];refine⟨λhh=>absurd hh ar,λ_=>dd ?_⟩;refine zcc ?_
 (refine⟨h0,_,hg,dd ?_⟩)
 refine za5 ?_
 refine za5 ?_
 refine zaC ?_
 cases rg
 .have eN:Go.Lim.vC ra m.zr=false->oz m ⟨rv,ra,false⟩={m with i:=IntKind.i64.wrap (m.i+1)}:=λhh=>gS (.inr hh)
  have eY:Go.Lim.vC ra m.zr=true->oz m ⟨rv,ra,false⟩={m with version:=rv,zp:=0,end_:=0,other:=0,slot:=0,k:=0,pc:=5}:=λhh=>gP (by simp[hh])
  refine .inl ⟨⟨true,[],[],[9]⟩,ak,uH ?_⟩;refine zav ?_
  refine af (Go.Lim.Sk (now:=m.zr) hr.1 hr.2) ?_;refine⟨λq=>?_,λq=>?_⟩
  .rw[eY q];refine dd ?_;refine tc ?_
   refine zav ?_
   refine ae [1] (qC {m with version:=rv,zp:=0,end_:=0,other:=0,slot:=0,k:=0,pc:=5} 1 11 rv) ?_;exact dq
  .rw[eN q];refine dd ?_;refine tc ?_
   refine zav ?_
   refine ae [1] (qC {m with i:=IntKind.i64.wrap (m.i+1)} 1 11 rv) ?_;exact dq
 .rw[show oz m ⟨rv,ra,true⟩=_ from gS (.inl V)];refine .inl ⟨⟨true,[],[],[9]⟩,ak,uH ?_⟩;refine zav ?_
  refine ae [1] (qC {m with i:=IntKind.i64.wrap (m.i+1)} 1 11 rv) ?_;exact dq
abbrev Ao(l:fj):fj:={l with closed:=true}
def Sp(w:Wor)(m:eQ)(x:fj)(h0:0<=m.i)(hx:w.zc[m.i.toNat]?=some x):
  th 192 [⟨1,38,8,[iv 2 w],0⟩,oM m,⟨2,98,4,(w.zc).map zU,0⟩] [.agg tg] (Ce (fc m 2 13 1)) [⟨1,38,8,[iv 2 w],0⟩,oM (fJ m 8 (IntKind.i64.wrap (m.i+1))),⟨2,98,4,(w.zc.set m.i.toNat (Ao x)).map zU,0⟩]:=by
 have e1:0+m.i.toNat=m.i.toNat:=gZ _;have eP:m.i.toNat<w.zc.length:=(gN.1 hx).1;have gx:(w.zc.map zU)[m.i.toNat]?=some (zU x):=by rw[gM,hx];rfl
 have hst:(w.zc.map zU).set m.i.toNat [Tx x.name,Bo x.drain,I x.zo,Bo true]=(w.zc.set m.i.toNat (Ao x)).map zU:=bE
 refine aa func192 ?_;refine .inl ⟨⟨false,[1,4,6,9],[0,1,3],[]⟩,ak,uH ?_⟩;refine tc ?_
 refine za8 ?_
 rw[hst];refine zaL ?_;refine ae [1] (xh m 8 (IntKind.i64.wrap (m.i+1))) ?_;refine tc ?_
 refine ae [1] (qC (fJ m 8 (IntKind.i64.wrap (m.i+1))) 2 13 1) ?_;refine tc ?_;exact⟨.inl V,_,_,.refl _,rfl,cE 3⟩
abbrev EP(m:eQ)(v:eX)(a:Int):e7:={fc m 1 7 a with version:=m.version,qF:=v.qF}
abbrev o9(m:eQ)(v:eX)(a:Int):eQ:=if a≠0 then fJ m 4 (IntKind.i64.wrap (m.i+1)) else if IntKind.i64.wrap (m.k+1)<(jb v).length then {m with k:=IntKind.i64.wrap (m.k+1)} else {m with k:=IntKind.i64.wrap (m.k+1),pc:=6}
def Nm(w:Wor)(m:eQ)(v:eX)(e:En)(hf:mR v)(hv:lS w m v)(k0:0<=m.k)(hk:(jb v)[m.k.toNat]?=some e):th 188 [oW w,oM m] [.agg tg] (Ce (EP m v e.zo)) [oW w,oM (o9 m v e.zo)]:=by
 have a0:=hv.v0;have a1:=hv.row;have hg:((jb v).map zu)[m.k.toNat]?=some (zu e):=by rw[gM,hk];rfl
 have ml:((jb v).map zu).length=(jb v).length:=gO ..;have he:=I4 v hf;have eA:e.zo≠0->o9 m v e.zo=fJ m 4 (IntKind.i64.wrap (m.i+1)):=λhh=>gS hh
 have eB:e.zo=0->o9 m v e.zo=if IntKind.i64.wrap (m.k+1)<(jb v).length then {m with k:=IntKind.i64.wrap (m.k+1)} else {m with k:=IntKind.i64.wrap (m.k+1),pc:=6}:=λhh=>gP (by simp[hh])
 generalize hll:jb v=ll at he hk hg ml eA eB;obtain⟨sn,gs,fr⟩:=v;cases fr
 all_goals
  refine aa func188 ?_;refine zcc ?_
  (refine⟨a0,_,a1,dd ?_⟩)
  refine za5 ?_
  refine za5 ?_
  refine zaC ?_
  refine af he ?_;refine .inr ⟨⟨[0,5,8,9],[0,1,2,3,4],true⟩,ak,λ_=>V,_,uH ?_,λt2 H2 h=>h⟩;(refine⟨k0,_,hg,dd ?_⟩)
  refine⟨_,ag [1] (qC m 1 7 e.zo),uH ?_⟩;refine za5 ?_
  refine za5 ?_
  refine zaC ?_
  refine .inl ⟨⟨false,[3,5],[1,4],[]⟩,ak,uH ?_⟩;refine zav ?_
  refine tc ?_
  refine⟨λq=>?_,λq=>?_⟩
  .rw[eA mG];refine dd ?_;refine zaL ?_;refine ae [1] (xh m 4 (IntKind.i64.wrap (m.i+1))) ?_;exact dq
  .rw[eB mG];refine dd ?_;rw[ml];refine⟨λq2=>?_,λq2=>?_⟩
   .rw[gS (ai q2)];refine dd ?_;exact dq
   .rw[gP (ai q2)];refine dd ?_;exact dq
abbrev AH(v:eX):eX:={v with qF:=true}
abbrev mM(r:fg):fg:={r with gone:=true}
abbrev Bb(m:eQ):eQ:={m with answer:={m.answer with n:=IntKind.i64.wrap (m.answer.n+1)},pc:=4,i:=IntKind.i64.wrap (m.i+1)}
def Dq(w:Wor)(m:eQ)(v:eX)(r:fg)(hv:lS w m v)(h0:0<=m.i)(hx:w.zn[m.i.toNat]?=some r):
  th 189 [⟨1,38,8,[[I w.zr,I w.current,I w.lock,lI w.pins,.sl 2 [] 5 0 w.zd.length false,lL w.zc,ff w.counts,.sl 3 [] 3 0 w.zn.length false]],0⟩,oM m,⟨2,106,5,(w.zd).map zt,0⟩,⟨2,157,3,(w.zn).map qh,0⟩] [.agg tg] (Ce (fc m 2 12 m.version)) [⟨1,38,8,[[I w.zr,I w.current,I w.lock,lI w.pins,.sl 2 [] 5 0 w.zd.length false,lL w.zc,ff w.counts,.sl 3 [] 3 0 w.zn.length false]],0⟩,oM (Bb m),⟨2,106,5,(w.zd.set m.version.toNat (AH v)).map zt,0⟩,⟨2,157,3,(w.zn.set m.i.toNat (mM r)).map qh,0⟩]:=by
 have a0:=hv.v0;have av:m.version.toNat<w.zd.length:=(gN.1 hv.at_).1;have gv:=hv.row;have e1:0+m.i.toNat=m.i.toNat:=gZ _;have e2:0+m.version.toNat=m.version.toNat:=gZ _;have eP:m.i.toNat<w.zn.length:=(gN.1 hx).1;have gx:(w.zn.map qh)[m.i.toNat]?=some (qh r):=by rw[gM,hx];rfl
 have hst:(w.zn.map qh).set m.i.toNat [I r.version,I r.at_,Bo true]=(w.zn.set m.i.toNat (mM r)).map qh:=bE
 have hsv:(w.zd.map zt).set m.version.toNat [lT v.snap.zc,vM v.snap.rules,lC v.snap.zi,lG v.zg,Bo true]=(w.zd.set m.version.toNat (AH v)).map zt:=bE
 refine aa func189 ?_;refine .inl ⟨⟨false,[1,4,8,10,13,17],[0,1,4],[]⟩,ak,uH ?_⟩;refine tc ?_
 refine⟨a0,av,dd ?_⟩;rw[e2];refine⟨_,gv,rfl,dd ?_⟩;refine tc ?_
 refine za8 ?_
 rw[hst,hsv];refine zaL ?_;refine ae [1] (xh {m with answer:={m.answer with n:=IntKind.i64.wrap (m.answer.n+1)} } 4 (IntKind.i64.wrap (m.i+1))) ?_;refine tc ?_
 refine zaL ?_;refine ae [1] (qC (Bb m) 2 12 m.version) ?_;refine tc ?_;exact⟨.inl V,_,_,.refl _,rfl,cE 4⟩
def Aw(w:Wor)(m:eQ):Bool:=
 if m.pc=2 then decide (m.i<w.pins.length)
 else if m.pc=5 then (match w.zd[m.version.toNat]? with|some v=>decide (m.k<(jb v).length)|none=>false)
 else if m.pc=6 then (match w.zn[m.i.toNat]? with|some r=>(r.version == m.version) && !r.gone|none=>false)
 else if m.pc=9 then decide (m.i<w.zc.length)
 else if m.pc=10 then (match w.zc[m.i.toNat]? with|some l=>l.drain|none=>false)
 else true
def IL(v:eX)(h:mR v):th 234 [] [Cv v] (I (jb v).length) []:=by
 have ml:((jb v).map zu).length=(jb v).length:=gO ..;have he:=I4 v h;generalize jb v=ll at he ml|-;refine ab func234 ?_;refine af he ?_;rw[ml];exact uI
def Sv(w:Wor)(m:eQ)(hpc:m.pc=2)(h:m.i<w.pins.length):th 182 [] [Cw w,Cm m] (Bo true) []:=by
 have ml:(w.pins.map encI).length=w.pins.length:=gO ..;refine ab func182 ?_;refine zad ?_
 exact uI
def Sz(w:Wor)(m:eQ)(hpc:m.pc=9)(h:m.i<w.zc.length):th 182 [] [Cw w,Cm m] (Bo true) []:=by
 have ml:(w.zc.map zU).length=w.zc.length:=gO ..;refine ab func182 ?_;refine zad ?_
 exact uI
def xm(w:Wor)(m:eQ)(hpc:m.pc≠2/\m.pc≠5/\m.pc≠6/\m.pc≠9/\m.pc≠10):th 182 [] [Cw w,Cm m] (Bo true) []:=by
 refine ab func182 ?_;refine zad ?_
 exact uI
def Sx(w:Wor)(m:eQ)(v:eX)(hf:mR v)(hpc:m.pc=5)(hv:lS w m v)(h:m.k<(jb v).length):th 182 [] [Cw w,Cm m] (Bo true) []:=by
 have a0:=hv.v0;have a1:=hv.row;refine ab func182 ?_;refine zad ?_
 refine .inl ⟨⟨true,[],[],[8]⟩,ak,uH ?_⟩;(refine⟨a0,_,a1,dd ?_⟩)
 refine af (IL v hf) ?_;refine zad ?_
 exact uI
def Sy(w:Wor)(m:eQ)(r:fg)(hpc:m.pc=6)(h0:0<=m.i)(hx:w.zn[m.i.toNat]?=some r)(h1:r.version=m.version)(h2:r.gone=false):th 182 [] [Cw w,Cm m] (Bo true) []:=by
 have hg:(w.zn.map qh)[m.i.toNat]?=some (qh r):=by rw[gM,hx];rfl
 have eP:=(gN.1 hx).1;have ml:(w.zn.map qh).length=w.zn.length:=gO ..;obtain⟨rv,ra,rg⟩:=r;cases h2
 refine ab func182 ?_;refine zad ?_
 refine uE ?_;rw[ml];refine zad ?_
 (refine⟨h0,_,hg,dd ?_⟩)
 refine⟨λ_=>dd ?_,λhh=>absurd hh uZ⟩;refine zav ?_
 (refine⟨h0,_,hg,dd ?_⟩)
 refine zav ?_
 exact uI
def P3(w:Wor)(m:eQ)(l:fj)(hpc:m.pc=10)(h0:0<=m.i)(hx:w.zc[m.i.toNat]?=some l)(h1:l.drain=true):th 182 [] [Cw w,Cm m] (Bo true) []:=by
 have hg:(w.zc.map zU)[m.i.toNat]?=some (zU l):=by rw[gM,hx];rfl
 have eP:=(gN.1 hx).1;have ml:(w.zc.map zU).length=w.zc.length:=gO ..;obtain⟨ln,ld,la,lc⟩:=l;cases h1
 refine ab func182 ?_;refine zad ?_
 rw[ml];refine zad ?_
 (refine⟨h0,_,hg,dd ?_⟩)
 refine zav ?_
 exact uI
def VK(w:Wor)(m:eQ)(X:Ob)(j f:Nat)(R:Exit->S->Prop)(hlow:ql 8 ([oW w,oM m,⟨1,38,8,[fX],0⟩,⟨1,64,44,[fW],0⟩,oE zY,X,oM m,⟨1,240,2,[tf],0⟩]++[])=true)(hf:∀v0 v1 v2 v3 v4 v5 v6 v8 v9 v10,vA [(0,v0,0),(1,v1,1),(2,v2,2),(3,v3,3),(4,v4,4),(5,v5,5),(6,v6,6),(8,v8,7),(9,v9,8),(10,v10,9)] m.pc=some j)(hc:([.fn 183 [.agg tf] [],.fn 184 [.agg tf] [],.fn 185 [.agg tf] [],.fn 186 [.agg tf] [],.fn 187 [.agg tf] [],.fn 188 [.agg tf] [],.fn 189 [.agg tf] [],.fn 190 [.agg tf] [],.fn 191 [.agg tf] [],.fn 192 [.agg tf] []]:List C)[j]?=some (.fn f [.agg tf] []))
 (hn:qW prog 0 (behind 5 ((f141.body).getD .skip)) ⟨(.za::.za::.ref 0 [] 8 0 0:: .ref 1 [] 44 0 0:: .ref 2 [] 8 0 0:: .ref 3 [] 44 0 0:: .ref 4 [] 23 0 0:: .ref 5 [] 8 0 0:: .ref 6 [] 44 0 0:: .ref 7 [] 2 0 0:: .fn f [.agg tf] []::Bo true:: mK (jp (mK (mK ([]))))),[oW w,oM m,⟨1,38,8,[fX],0⟩,⟨1,64,44,[fW],0⟩,oE zY,X,oM m,⟨1,240,2,[tf],0⟩]++[]⟩ R):qW prog 0 (behind 4 ((f141.body).getD .skip)) ⟨(.za::.za::.ref 0 [] 8 0 0:: .ref 1 [] 44 0 0:: .ref 2 [] 8 0 0:: .ref 3 [] 44 0 0:: .ref 4 [] 23 0 0:: .ref 5 [] 8 0 0:: .ref 6 [] 44 0 0:: .ref 7 [] 2 0 0:: .za::.za::mK (jp (mK (mK ([]))))),[oW w,oM m,⟨1,38,8,[fX],0⟩,⟨1,64,44,[fW],0⟩,oE zY,X,oM m,⟨1,240,2,[tf],0⟩]++[]⟩ R:=by
 refine iR (uH ?_);intro b;refine zaE ?_;intro v0;refine zaE ?_;intro v1;refine zaE ?_;intro v2;refine zaE ?_;intro v3;refine zaE ?_;intro v4;refine zaE ?_;intro v5;refine zaE ?_;intro v6;refine zaE ?_;intro v8;refine zaE ?_;intro v9;refine zaE ?_;intro v10;refine dd ?_;(refine⟨_,_,e6.Cy (id:=8) _ _ _ _ V underlying243 underlying3 V V V V V V (hf _ _ _ _ _ _ _ _ _ _) hc,?_⟩;(refine dd ?_))
 refine td ?_
 refine .inl ⟨rfl,_,_,(zk.forget 8).trans (zk.jq 8 ta V V V hlow V),hn⟩
def VJ(w:Wor)(m:eQ)(X:Ob)(Y:Ob)(j f:Nat)(R:Exit->S->Prop)(hlow:ql 9 ([oW w,oM m,⟨1,38,8,[fX],0⟩,⟨1,64,44,[fW],0⟩,oE zY,X,oM m,⟨1,240,2,[tf],0⟩]++[Y])=true)(hf:∀v0 v1 v2 v3 v4 v5 v6 v8 v9 v10,vA [(0,v0,0),(1,v1,1),(2,v2,2),(3,v3,3),(4,v4,4),(5,v5,5),(6,v6,6),(8,v8,7),(9,v9,8),(10,v10,9)] m.pc=some j)(hc:([.fn 183 [.agg tf] [],.fn 184 [.agg tf] [],.fn 185 [.agg tf] [],.fn 186 [.agg tf] [],.fn 187 [.agg tf] [],.fn 188 [.agg tf] [],.fn 189 [.agg tf] [],.fn 190 [.agg tf] [],.fn 191 [.agg tf] [],.fn 192 [.agg tf] []]:List C)[j]?=some (.fn f [.agg tf] []))
 (hn:qW prog 0 (behind 5 ((f141.body).getD .skip)) ⟨(.za::.za::.ref 0 [] 8 0 0:: .ref 1 [] 44 0 0:: .ref 2 [] 8 0 0:: .ref 3 [] 44 0 0:: .ref 4 [] 23 0 0:: .ref 5 [] 8 0 0:: .ref 6 [] 44 0 0:: .ref 7 [] 2 0 0:: .fn f [.agg tf] []::Bo true:: mK (jp (mK (mK ([]))))),[oW w,oM m,⟨1,38,8,[fX],0⟩,⟨1,64,44,[fW],0⟩,oE zY,X,oM m,⟨1,240,2,[tf],0⟩]++[Y]⟩ R):qW prog 0 (behind 4 ((f141.body).getD .skip)) ⟨(.za::.za::.ref 0 [] 8 0 0:: .ref 1 [] 44 0 0:: .ref 2 [] 8 0 0:: .ref 3 [] 44 0 0:: .ref 4 [] 23 0 0:: .ref 5 [] 8 0 0:: .ref 6 [] 44 0 0:: .ref 7 [] 2 0 0:: .za::.za::mK (jp (mK (mK ([]))))),[oW w,oM m,⟨1,38,8,[fX],0⟩,⟨1,64,44,[fW],0⟩,oE zY,X,oM m,⟨1,240,2,[tf],0⟩]++[Y]⟩ R:=by
 refine iR (uH ?_);intro b;refine zaF ?_;intro v0;refine zaF ?_;intro v1;refine zaF ?_;intro v2;refine zaF ?_;intro v3;refine zaF ?_;intro v4;refine zaF ?_;intro v5;refine zaF ?_;intro v6;refine zaF ?_;intro v8;refine zaF ?_;intro v9;refine zaF ?_;intro v10;refine dd ?_;(refine⟨_,_,e6.Cy (id:=9) _ _ _ _ V underlying243 underlying3 V V V V V V (hf _ _ _ _ _ _ _ _ _ _) hc,?_⟩;(refine dd ?_))
 refine td ?_
 refine .inl ⟨rfl,_,_,(zk.forget 9).trans (zk.jq 9 ta V V V hlow V),hn⟩
def VI(w:Wor)(m:eQ)(X:Ob)(Y Z:Ob)(j f:Nat)(R:Exit->S->Prop)(hlow:ql 10 ([oW w,oM m,⟨1,38,8,[fX],0⟩,⟨1,64,44,[fW],0⟩,oE zY,X,oM m,⟨1,240,2,[tf],0⟩]++[Y,Z])=true)(hf:∀v0 v1 v2 v3 v4 v5 v6 v8 v9 v10,vA [(0,v0,0),(1,v1,1),(2,v2,2),(3,v3,3),(4,v4,4),(5,v5,5),(6,v6,6),(8,v8,7),(9,v9,8),(10,v10,9)] m.pc=some j)(hc:([.fn 183 [.agg tf] [],.fn 184 [.agg tf] [],.fn 185 [.agg tf] [],.fn 186 [.agg tf] [],.fn 187 [.agg tf] [],.fn 188 [.agg tf] [],.fn 189 [.agg tf] [],.fn 190 [.agg tf] [],.fn 191 [.agg tf] [],.fn 192 [.agg tf] []]:List C)[j]?=some (.fn f [.agg tf] []))
 (hn:qW prog 0 (behind 5 ((f141.body).getD .skip)) ⟨(.za::.za::.ref 0 [] 8 0 0:: .ref 1 [] 44 0 0:: .ref 2 [] 8 0 0:: .ref 3 [] 44 0 0:: .ref 4 [] 23 0 0:: .ref 5 [] 8 0 0:: .ref 6 [] 44 0 0:: .ref 7 [] 2 0 0:: .fn f [.agg tf] []::Bo true:: mK (jp (mK (mK ([]))))),[oW w,oM m,⟨1,38,8,[fX],0⟩,⟨1,64,44,[fW],0⟩,oE zY,X,oM m,⟨1,240,2,[tf],0⟩]++[Y,Z]⟩ R):qW prog 0 (behind 4 ((f141.body).getD .skip)) ⟨(.za::.za::.ref 0 [] 8 0 0:: .ref 1 [] 44 0 0:: .ref 2 [] 8 0 0:: .ref 3 [] 44 0 0:: .ref 4 [] 23 0 0:: .ref 5 [] 8 0 0:: .ref 6 [] 44 0 0:: .ref 7 [] 2 0 0:: .za::.za::mK (jp (mK (mK ([]))))),[oW w,oM m,⟨1,38,8,[fX],0⟩,⟨1,64,44,[fW],0⟩,oE zY,X,oM m,⟨1,240,2,[tf],0⟩]++[Y,Z]⟩ R:=by
 refine iR (uH ?_);intro b;refine zaD ?_;intro v0;refine zaD ?_;intro v1;refine zaD ?_;intro v2;refine zaD ?_;intro v3;refine zaD ?_;intro v4;refine zaD ?_;intro v5;refine zaD ?_;intro v6;refine zaD ?_;intro v8;refine zaD ?_;intro v9;refine zaD ?_;intro v10;refine dd ?_;(refine⟨_,_,e6.Cy (id:=10) _ _ _ _ V underlying243 underlying3 V V V V V V (hf _ _ _ _ _ _ _ _ _ _) hc,?_⟩;(refine dd ?_))
 refine td ?_
 refine .inl ⟨rfl,_,_,(zk.forget 10).trans (zk.jq 10 ta V V V hlow V),hn⟩
def jA{w':Wor}{m:eQ}(sw:z6 w)(ok:fa w)(hl:i64 m.listen)(hs:zE w m=true)(hm:th 182 [] [Cw w,Cm m] (Bo true) [])(j f:Nat)(hcb:qt prog f=true)(hf:∀v0 v1 v2 v3 v4 v5 v6 v8 v9 v10,vA [(0,v0,0),(1,v1,1),(2,v2,2),(3,v3,3),(4,v4,4),(5,v5,5),(6,v6,6),(8,v8,7),(9,v9,8),(10,v10,9)] m.pc=some j)(hc:([.fn 183 [.agg tf] [],.fn 184 [.agg tf] [],.fn 185 [.agg tf] [],.fn 186 [.agg tf] [],.fn 187 [.agg tf] [],.fn 188 [.agg tf] [],.fn 189 [.agg tf] [],.fn 190 [.agg tf] [],.fn 191 [.agg tf] [],.fn 192 [.agg tf] []]:List C)[j]?=some (.fn f [.agg tf] []))
 (h:th f [oW w,oM m] [.agg tg] (Ce e) [oW w',oM m']):th 141 [] [Cw w,Cm m] (.eR [Cw w',Cm m',Ce e]) []:=by
 refine zbJ ?_
 refine af hm ?_;refine td ?_
 refine zbk ?_;refine .inr ⟨⟨[0,1,2],[0,1],true⟩,ak,λ_=>V,λt H=>t=(.za::.za::.ref 0 [] 8 0 0:: .ref 1 [] 44 0 0:: .ref 2 [] 8 0 0:: .ref 3 [] 44 0 0:: .ref 4 [] 23 0 0:: .ref 5 [] 8 0 0:: .ref 6 [] 44 0 0:: .za::.za::.za::mK (jp (mK (mK ([])))))/\H=[oW w,oM m,⟨1,38,8,[fX],0⟩,⟨1,64,44,[fW],0⟩,oE zY,oW w,oM m],?_,?_⟩
 .conv=>whnf
  refine⟨_,ag [] (qx w sw),uH ?_⟩;repeat' (first|(exact trivial)|(refine⟨rfl,uH ?_⟩)|(exact⟨_,_,zk.eZ [0,1,2,3,4,5,6] [2,3,4,5,6,7,8] _ _ V V V V,rfl,rfl⟩)|(exact⟨_,_,zk.eZ [0,1,2,3,4,6,5] [2,3,4,5,6,7,8] _ _ V V V V,rfl,rfl⟩)|(refine And.intro ?_ ?_ <;> (conv=>whnf)))
 rintro _ _ ⟨rfl,rfl⟩;conv=>whnf
 refine zbk ?_;refine .inl ⟨rfl,_,_,cE 8,VK w m (oW w) j f _ V hf hc ?_⟩;(refine jd (K:=λex t H=>(ex=.ret\/ex=.normal)/\∃s2,zk 0 ⟨t,H⟩ s2/\(vP prog f141 s2).map (xG 0 9)=some (.eR [Cw w',Cm m',Ce e])) (uH ?_))
 rw[hcb];refine ae [5,6] (h) ?_;refine .inl ⟨⟨false,[0,1,2],[5,6,8],[]⟩,ak,uH ?_⟩;refine tc ?_
 exact uI
def OZ{m:eQ}{ls:List fj}(sw:z6 w)(ok:fa w)(hl:i64 m.listen)(hs:zE w m=true)(hm:th 182 [] [Cw w,Cm m] (Bo true) [])(j f:Nat)(hcb:qt prog f=true)(hf:∀v0 v1 v2 v3 v4 v5 v6 v8 v9 v10,vA [(0,v0,0),(1,v1,1),(2,v2,2),(3,v3,3),(4,v4,4),(5,v5,5),(6,v6,6),(8,v8,7),(9,v9,8),(10,v10,9)] m.pc=some j)(hc:([.fn 183 [.agg tf] [],.fn 184 [.agg tf] [],.fn 185 [.agg tf] [],.fn 186 [.agg tf] [],.fn 187 [.agg tf] [],.fn 188 [.agg tf] [],.fn 189 [.agg tf] [],.fn 190 [.agg tf] [],.fn 191 [.agg tf] [],.fn 192 [.agg tf] []]:List C)[j]?=some (.fn f [.agg tf] []))
 (hne:w.zc≠[])(hll:ls.length=w.zc.length)(h:th f [⟨1,38,8,[iv 2 w],0⟩,oM m,⟨2,98,4,(w.zc).map zU,0⟩] [.agg tg] (Ce e) [⟨1,38,8,[iv 2 w],0⟩,oM m',⟨2,98,4,(ls).map zU,0⟩]):th 141 [] [Cw w,Cm m] (.eR [Cw {w with zc:=ls},Cm m',Ce e]) []:=by
 obtain⟨x,l,hx⟩:=tt hne;refine zbJ ?_
 refine af hm ?_;refine td ?_
 refine zbk ?_;refine .inr ⟨⟨[0,2],[0,1],true⟩,ak,λ_=>V,λt H=>t=(.za::.za::.ref 0 [] 8 0 0:: .ref 1 [] 44 0 0:: .ref 2 [] 8 0 0:: .ref 3 [] 44 0 0:: .ref 4 [] 23 0 0:: .ref 5 [] 8 0 0:: .ref 6 [] 44 0 0:: .za::.za::.za::mK (jp (mK (mK ([])))))/\H=[oW w,oM m,⟨1,38,8,[fX],0⟩,⟨1,64,44,[fW],0⟩,oE zY,⟨1,38,8,[iv 7 w],0⟩,oM m,⟨2,98,4,(w.zc).map zU,0⟩],?_,?_⟩
 .conv=>whnf
  repeat' (first|(exact trivial)|(refine⟨rfl,uH ?_⟩)|(refine zx [] (vh w sw x l hx) V V V V V V (uH ?_))|(exact⟨_,_,zk.eZ [0,1,2,3,4,5,6,7] [2,3,4,5,6,7,8] _ _ V V V V,rfl,rfl⟩)|(exact⟨_,_,zk.eZ [0,1,2,3,4,5,7,6] [2,3,4,5,6,7,8] _ _ V V V V,rfl,rfl⟩)|(exact⟨_,_,zk.eZ [0,1,2,3,4,6,5,7] [2,3,4,5,6,7,8] _ _ V V V V,rfl,rfl⟩)|(exact⟨_,_,zk.eZ [0,1,2,3,4,6,7,5] [2,3,4,5,6,7,8] _ _ V V V V,rfl,rfl⟩)|(exact⟨_,_,zk.eZ [0,1,2,3,4,7,5,6] [2,3,4,5,6,7,8] _ _ V V V V,rfl,rfl⟩)|(exact⟨_,_,zk.eZ [0,1,2,3,4,7,6,5] [2,3,4,5,6,7,8] _ _ V V V V,rfl,rfl⟩)|(refine And.intro ?_ ?_ <;> (conv=>whnf)))
 rintro _ _ ⟨rfl,rfl⟩;conv=>whnf
 refine zbk ?_;refine .inl ⟨rfl,_,_,(zk.eZ [0,1,2,3,4,5,6,8,7] [2,3,4,5,6,7,8,9] _ _ V V V V).trans (cC),VJ w m (⟨1,38,8,[iv 8 w],0⟩) (⟨2,98,4,(w.zc).map zU,0⟩) j f _ V hf hc ?_⟩;(refine jd (K:=λex t H=>(ex=.ret\/ex=.normal)/\∃s2,zk 0 ⟨t,H⟩ s2/\(vP prog f141 s2).map (xG 0 9)=some (.eR [Cw {w with zc:=ls},Cm m',Ce e])) (uH ?_))
 rw[hcb];refine ae [5,6,8] (h) ?_;refine .inl ⟨⟨false,[0,1,2],[5,6,9],[]⟩,ak,uH ?_⟩;refine tc ?_
 exact gh
def Pg(w:Wor)(h:z6 w)(x:fg)(l:List fg)(hx:w.zn=x::l):th 173 [] [Cw w] (.agg [I w.zr,I w.current,I w.lock,lI w.pins,.sl 0 [] 5 0 w.zd.length false,lL w.zc,ff w.counts,.sl 1 [] 3 0 w.zn.length false]) [⟨2,106,5,(w.zd).map zt,0⟩,⟨2,157,3,(w.zn).map qh,0⟩]:=by
 have hl:l.length<1000000000:=by have:=h.zn;rw[hx]at this;exact dt
 have hc:=KY x l hl;rw[<-hx]at hc;refine zbi ?_;refine zaB ?_;refine ae [] (hc) ?_;refine zbP ?_;exact zk.eZ [3,5] [0] _ _ V V V (ze V (ze V (ze V (ze V (ze (zf λr hr c hc=>((shut_map (enc:=zA) (λ_=>V) w.counts) r hr c hc).2) V)))))
def OY{m:eQ}{vs:List eX}{rs:List fg}(sw:z6 w)(ok:fa w)(hl:i64 m.listen)(hs:zE w m=true)(hm:th 182 [] [Cw w,Cm m] (Bo true) [])(j f:Nat)(hcb:qt prog f=true)(hf:∀v0 v1 v2 v3 v4 v5 v6 v8 v9 v10,vA [(0,v0,0),(1,v1,1),(2,v2,2),(3,v3,3),(4,v4,4),(5,v5,5),(6,v6,6),(8,v8,7),(9,v9,8),(10,v10,9)] m.pc=some j)(hc:([.fn 183 [.agg tf] [],.fn 184 [.agg tf] [],.fn 185 [.agg tf] [],.fn 186 [.agg tf] [],.fn 187 [.agg tf] [],.fn 188 [.agg tf] [],.fn 189 [.agg tf] [],.fn 190 [.agg tf] [],.fn 191 [.agg tf] [],.fn 192 [.agg tf] []]:List C)[j]?=some (.fn f [.agg tf] []))
 (hne:w.zd≠[])(hne2:w.zn≠[])(hvl:vs.length=w.zd.length)(hrl:rs.length=w.zn.length)(h:th f [⟨1,38,8,[[I w.zr,I w.current,I w.lock,lI w.pins,.sl 2 [] 5 0 w.zd.length false,lL w.zc,ff w.counts,.sl 3 [] 3 0 w.zn.length false]],0⟩,oM m,⟨2,106,5,(w.zd).map zt,0⟩,⟨2,157,3,(w.zn).map qh,0⟩] [.agg tg] (Ce e) [⟨1,38,8,[[I w.zr,I w.current,I w.lock,lI w.pins,.sl 2 [] 5 0 w.zd.length false,lL w.zc,ff w.counts,.sl 3 [] 3 0 w.zn.length false]],0⟩,oM m',⟨2,106,5,(vs).map zt,0⟩,⟨2,157,3,(rs).map qh,0⟩]):th 141 [] [Cw w,Cm m] (.eR [Cw {w with zd:=vs,zn:=rs},Cm m',Ce e]) []:=by
 obtain⟨v,vl,hv⟩:=tt hne;obtain⟨r,rl,hr⟩:=tt hne2;refine zbJ ?_
 refine af hm ?_;refine td ?_
 refine zbk ?_;refine .inr ⟨⟨[0,2],[0,1],true⟩,ak,λ_=>V,λt H=>t=(.za::.za::.ref 0 [] 8 0 0:: .ref 1 [] 44 0 0:: .ref 2 [] 8 0 0:: .ref 3 [] 44 0 0:: .ref 4 [] 23 0 0:: .ref 5 [] 8 0 0:: .ref 6 [] 44 0 0:: .za::.za::.za::mK (jp (mK (mK ([])))))/\H=[oW w,oM m,⟨1,38,8,[fX],0⟩,⟨1,64,44,[fW],0⟩,oE zY,⟨1,38,8,[[I w.zr,I w.current,I w.lock,lI w.pins,.sl 7 [] 5 0 w.zd.length false,lL w.zc,ff w.counts,.sl 8 [] 3 0 w.zn.length false]],0⟩,oM m,⟨2,106,5,(w.zd).map zt,0⟩,⟨2,157,3,(w.zn).map qh,0⟩],?_,?_⟩
 .conv=>whnf
  repeat' (first|(exact trivial)|(refine⟨rfl,uH ?_⟩)|(refine zx [] (Pg w sw r rl hr) V V V V V V (uH ?_))|(exact⟨_,_,zk.eZ [0,1,2,3,4,5,6,7,8] [2,3,4,5,6,7,8] _ _ V V V V,rfl,rfl⟩)|(exact⟨_,_,zk.eZ [0,1,2,3,4,5,6,8,7] [2,3,4,5,6,7,8] _ _ V V V V,rfl,rfl⟩)|(exact⟨_,_,zk.eZ [0,1,2,3,4,5,7,6,8] [2,3,4,5,6,7,8] _ _ V V V V,rfl,rfl⟩)|(exact⟨_,_,zk.eZ [0,1,2,3,4,5,7,8,6] [2,3,4,5,6,7,8] _ _ V V V V,rfl,rfl⟩)|(exact⟨_,_,zk.eZ [0,1,2,3,4,5,8,6,7] [2,3,4,5,6,7,8] _ _ V V V V,rfl,rfl⟩)|(exact⟨_,_,zk.eZ [0,1,2,3,4,5,8,7,6] [2,3,4,5,6,7,8] _ _ V V V V,rfl,rfl⟩)|(exact⟨_,_,zk.eZ [0,1,2,3,4,6,5,7,8] [2,3,4,5,6,7,8] _ _ V V V V,rfl,rfl⟩)|(exact⟨_,_,zk.eZ [0,1,2,3,4,6,5,8,7] [2,3,4,5,6,7,8] _ _ V V V V,rfl,rfl⟩)|(exact⟨_,_,zk.eZ [0,1,2,3,4,6,7,5,8] [2,3,4,5,6,7,8] _ _ V V V V,rfl,rfl⟩)|(exact⟨_,_,zk.eZ [0,1,2,3,4,6,7,8,5] [2,3,4,5,6,7,8] _ _ V V V V,rfl,rfl⟩)|(exact⟨_,_,zk.eZ [0,1,2,3,4,6,8,5,7] [2,3,4,5,6,7,8] _ _ V V V V,rfl,rfl⟩)|(exact⟨_,_,zk.eZ [0,1,2,3,4,6,8,7,5] [2,3,4,5,6,7,8] _ _ V V V V,rfl,rfl⟩)|(exact⟨_,_,zk.eZ [0,1,2,3,4,7,5,6,8] [2,3,4,5,6,7,8] _ _ V V V V,rfl,rfl⟩)|(exact⟨_,_,zk.eZ [0,1,2,3,4,7,5,8,6] [2,3,4,5,6,7,8] _ _ V V V V,rfl,rfl⟩)|(exact⟨_,_,zk.eZ [0,1,2,3,4,7,6,5,8] [2,3,4,5,6,7,8] _ _ V V V V,rfl,rfl⟩)|(exact⟨_,_,zk.eZ [0,1,2,3,4,7,6,8,5] [2,3,4,5,6,7,8] _ _ V V V V,rfl,rfl⟩)|(exact⟨_,_,zk.eZ [0,1,2,3,4,7,8,5,6] [2,3,4,5,6,7,8] _ _ V V V V,rfl,rfl⟩)|(exact⟨_,_,zk.eZ [0,1,2,3,4,7,8,6,5] [2,3,4,5,6,7,8] _ _ V V V V,rfl,rfl⟩)|(exact⟨_,_,zk.eZ [0,1,2,3,4,8,5,6,7] [2,3,4,5,6,7,8] _ _ V V V V,rfl,rfl⟩)|(exact⟨_,_,zk.eZ [0,1,2,3,4,8,5,7,6] [2,3,4,5,6,7,8] _ _ V V V V,rfl,rfl⟩)|(exact⟨_,_,zk.eZ [0,1,2,3,4,8,6,5,7] [2,3,4,5,6,7,8] _ _ V V V V,rfl,rfl⟩)|(exact⟨_,_,zk.eZ [0,1,2,3,4,8,6,7,5] [2,3,4,5,6,7,8] _ _ V V V V,rfl,rfl⟩)|(exact⟨_,_,zk.eZ [0,1,2,3,4,8,7,5,6] [2,3,4,5,6,7,8] _ _ V V V V,rfl,rfl⟩)|(exact⟨_,_,zk.eZ [0,1,2,3,4,8,7,6,5] [2,3,4,5,6,7,8] _ _ V V V V,rfl,rfl⟩)|(refine And.intro ?_ ?_ <;> (conv=>whnf)))
 rintro _ _ ⟨rfl,rfl⟩;conv=>whnf
 refine zbk ?_;refine .inl ⟨rfl,_,_,(zk.eZ [0,1,2,3,4,5,6,9,7,8] [2,3,4,5,6,7,8,9] _ _ V V V V).trans (cC),VI w m (⟨1,38,8,[[I w.zr,I w.current,I w.lock,lI w.pins,.sl 8 [] 5 0 w.zd.length false,lL w.zc,ff w.counts,.sl 9 [] 3 0 w.zn.length false]],0⟩) (⟨2,106,5,(w.zd).map zt,0⟩) (⟨2,157,3,(w.zn).map qh,0⟩) j f _ V hf hc ?_⟩;(refine jd (K:=λex t H=>(ex=.ret\/ex=.normal)/\∃s2,zk 0 ⟨t,H⟩ s2/\(vP prog f141 s2).map (xG 0 9)=some (.eR [Cw {w with zd:=vs,zn:=rs},Cm m',Ce e])) (uH ?_))
 rw[hcb];refine ae [5,6,8,9] (h) ?_;refine .inl ⟨⟨false,[0,1,2],[5,6,10],[]⟩,ak,uH ?_⟩;refine tc ?_
 exact⟨.inl V,_,(zk.zN 2 0 4 V V V V (.inr V) ah (by rw[gO];exact hvl.symm) (shut_map (enc:=zt) (λ_=>V) _) (zB V)).trans (zk.zN 2 0 7 V V V V (.inr V) ah (by rw[gO];exact hrl.symm) (shut_map (enc:=qh) (λ_=>V) _) (zB V)),rfl⟩
end Go.Wor
