import Derived.Test.YtdgkfpgepoelcaaGreatSV
import Derived.Test.YtdgkfpgepoelcaaGreatSW
set_option linter.all false
set_option maxRecDepth 100000
set_option maxHeartbeats 4000000
namespace Go.Wor
open Go.Ab Go.Proofs Tryz Go.Hy Go.Gat Go.Nam Go.Hos Go.Con Go.Sna
variable{w:Wor}{m':rH}{e:rV}
abbrev JI(m:rH):rV:={yA with zO:=m.zO,access:=1,version:= -1}
abbrev J3(m:rH):rV:={yA with zO:=m.zO,access:=2,cell:=4,version:= -1,value:=1,iI:=true}
abbrev rW(m:rH)(p i:Int):rH:={m with pc:=p,i:=i}
def zS(m:rH)(a b c:Int):tc 277 [oM m] [.agg [.za,.ref 0 [] 44 0 0],I a,I b,I c] (Ce (rY m a b c)) [oM m]:=by
 refine aa func277 ?_;refine hO ?_;exact⟨.inl V,_,_,.refl _,rfl,cE 1⟩
def qN(m:rH)(p i:Int):tc 278 [oM m] [.agg [.za,.ref 0 [] 44 0 0],I p,I i] (.rO []) [oM ({m with pc:=p,i:=i})]:=by
 refine aa func278 ?_;refine .inl ⟨⟨false,[1,3],[1],[]⟩,an,uH ?_⟩;refine hO ?_
 exact⟨.inr V,_,_,.refl _,rfl,cE 1⟩
def ox(m:rH)(e:rV)(a:r3):tc 276 [oM m] [.agg [.za,.ref 0 [] 44 0 0],Ce e,.agg (xy a)] (Ce {e with done:=true,answer:=a}) [oM ({m with done:=true,answer:=a})]:=by
 refine aa func276 ?_;refine .inl ⟨⟨false,[1,3,4],[1,3],[]⟩,an,uH ?_⟩;refine hO ?_
 refine .inl ⟨⟨false,[0],[3],[]⟩,an,uH ?_⟩;refine hO ?_
 refine hO ?_;exact⟨.inl V,_,_,.refl _,rfl,cE 1⟩
def CZ(w:Wor)(m:rH):tc 229 [oW w,oM m] [.agg ta] (Ce (rY m 1 1 w.zl)) [oW w,oM ({m with zl:=w.zl,pc:=2,i:=0})]:=by
 refine aa func229 ?_;refine .inl ⟨⟨false,[1,3,6],[0,2],[]⟩,an,uH ?_⟩;refine hO ?_
 refine ae [1] (qN {m with zl:=w.zl} 2 0) ?_;refine zan ?_;refine ae [1] (zS {m with zl:=w.zl,pc:=2,i:=0} 1 1 w.zl) ?_;exact bU
def Eb(w:Wor)(m:rH)(h:w.lock≠0):tc 228 [oW w,oM m] [.agg ta] (Ce {rY m 5 14 1 with done:=true,answer:=tT 12}) [oW w,oM ({m with done:=true,answer:=tT 12})]:=by
 refine aa func228 ?_;refine⟨λ_=>dd ?_,λhh=>absurd hh uY⟩;refine .inl ⟨⟨true,[0,1],[2],[2]⟩,an,uH ?_⟩;refine ae [1] (zS m 5 14 1) ?_;refine hO ?_
 refine ae [1] (ox m (rY m 5 14 1) (tT 12)) ?_;exact bU
def Dm(w:Wor)(m:rH)(h:w.lock=0):tc 228 [oW w,oM m] [.agg ta] (Ce (rY m 4 14 1)) [oW ({w with lock:=1}),oM ({m with pc:=1})]:=by
 refine aa func228 ?_;refine⟨λhh=>absurd hh aG,λ_=>dd ?_⟩;refine .inl ⟨⟨false,[1,3],[2],[]⟩,an,uH ?_⟩;refine hO ?_
 refine ae [1] (zS {m with pc:=1} 4 14 1) ?_;exact bU
def tu(w:Wor)(m:rH)(p:Int):rH:=if p≠0/\p≠IntKind.i64.wrap (m.zl+1) then rW m 4 0 else if IntKind.i64.wrap (m.i+1)<w.pins.length then {m with i:=IntKind.i64.wrap (m.i+1)} else rW m 3 (IntKind.i64.wrap (m.i+1))
def Dl(w:Wor)(m:rH)(p:Int)(h0:0<=m.i)(hp:w.pins[m.i.toNat]?=some p):tc 230 [oW w,oM m] [.agg ta] (Ce (rY m 1 2 p)) [oW w,oM (tu w m p)]:=by
 have hg:(w.pins.map encI)[m.i.toNat]?=some (encI p):=by rw[cX,hp];rfl
 have ml:(w.pins.map encI).length=w.pins.length:=cY ..;refine aa func230 ?_;refine uE ?_;(refine⟨h0,_,hg,dd ?_⟩)
 refine⟨λq1=>?_,λq1=>?_⟩
 .refine dd ?_;refine⟨λq2=>?_,λq2=>?_⟩
  .rw[show tu w m p=rW m 4 0 from c7 ⟨ak q1,ak q2⟩];refine zab ?_
   refine ae [1] (qN m 4 0) ?_;refine ae [1] (zS (rW m 4 0) 1 2 p) ?_;exact bU
  .have q:¬(p≠0/\p≠IntKind.i64.wrap (m.zl+1)):=λhh=>hh.2 (ak q2)
   refine zab ?_
   (rw[show tu w m p=_ from c6 q]);refine uE ?_;(rw[ml]);refine⟨λq3=>?_,λq3=>?_⟩;(focus ((rw[c7 (ak q3)]);refine dd ?_;refine ae [1] (zS {m with i:=IntKind.i64.wrap (m.i+1)} 1 2 p) ?_;refine hO ?_;exact⟨.inl V,_,_,.refl _,rfl,cE 2⟩));exact zaz
 .have q:¬(p≠0/\p≠IntKind.i64.wrap (m.zl+1)):=λhh=>hh.1 (ak q1)
  refine zab ?_
  (rw[show tu w m p=_ from c6 q]);refine uE ?_;(rw[ml]);refine⟨λq3=>?_,λq3=>?_⟩;(focus ((rw[c7 (ak q3)]);refine dd ?_;refine ae [1] (zS {m with i:=IntKind.i64.wrap (m.i+1)} 1 2 p) ?_;refine hO ?_;exact⟨.inl V,_,_,.refl _,rfl,cE 2⟩));exact zaz
def CT(w:Wor)(m:rH)(h:¬(w.zl=m.zl/\w.zl<1000000000000)):tc 231 [oW w,oM m] [.agg ta] (Ce (rY m 5 1 w.zl)) [oW w,oM (rW m 4 0)]:=by
 refine aa func231 ?_;refine uE ?_;refine⟨λq1=>?_,λq1=>?_⟩
 .refine dd ?_;refine⟨λq2=>?_,λq2=>?_⟩
  .exact absurd ⟨ak q1,ak q2⟩ h
  .refine zab ?_
   refine ae [1] (qN m 4 0) ?_;refine zan ?_;refine ae [1] (zS (rW m 4 0) 5 1 w.zl) ?_;exact bU
 .refine zab ?_
  refine ae [1] (qN m 4 0) ?_;refine zan ?_;refine ae [1] (zS (rW m 4 0) 5 1 w.zl) ?_;exact bU
def wq(w:Wor)(m:rH)(h1:w.zl=m.zl)(h2:w.zl<1000000000000):tc 231 [oW w,oM m] [.agg ta] (Ce (rY m 4 1 (IntKind.i64.wrap (w.zl+1)))) [oW ({w with zl:=IntKind.i64.wrap (w.zl+1)}),oM ({rW m 4 0 with zl:=IntKind.i64.wrap (w.zl+1)})]:=by
 refine aa func231 ?_;refine uE ?_;refine⟨λ_=>dd ?_,λhh=>absurd hh tD⟩;refine⟨λ_=>dd ?_,λhh=>absurd hh aw⟩;refine hU ?_
 refine .inl ⟨⟨false,[1,3,6],[0,2],[]⟩,an,uH ?_⟩;refine hO ?_
 refine ae [1] (qN {m with zl:=IntKind.i64.wrap (w.zl+1)} 4 0) ?_;refine zan ?_;refine ae [1] (zS {rW m 4 0 with zl:=IntKind.i64.wrap (w.zl+1)} 4 1 (IntKind.i64.wrap (w.zl+1))) ?_;exact bU
def zY(v:rL):List En:=v.zg.flatMap (·.ends)
structure tx(v:rL):Prop where
 zg:v.zg.length<=1000
 ends : ∀g∈v.zg, g.ends.length <= 1000
def wG:∀(l:List Gr),(∀g∈l,g.ends.length<=1000)->(l.flatMap (·.ends)).length<=l.length*1000
 |[],_=>by simp
 |g::l,h=>by
  have:=wG l λx hx=>h x (dV _ hx)
  have:=h g (gm ..);simp only[List.flatMap_cons,dX,gA];omega
def oB(v:rL)(h:tx v):tc 128 [] [Cv v] (lE (zY v)) []:=by
 have m1:(v.zg.map zM).length=v.zg.length:=cY ..;have hgl:=h.zg;refine ab func128 ?_;rw[m1];refine zp.seq v.zg.length (λk=>(.za::.ref 0 [] 5 0 0::.rG 1 0 []::.gl 1 3 (((v.zg.take k).flatMap (·.ends)).map zP)::.za::.za::.za::(lG v.zg)::I v.zg.length::I k::tJ ([.za]))) (λk=>[⟨1,67,5,[zw v],0⟩,⟨4,141,3,((v.zg.take k).flatMap (·.ends)).map zP,0⟩]) (λk=>True) ?_ trivial (λk hk hr=>?_) (λhr=>?_)
 .refine zm.trans (zm.grow 3 141 3 V (.inl V)) ?_;exact cC
 .obtain⟨g,hx⟩:∃g,g=v.zg[k]:=⟨_,rfl⟩;have hg:(v.zg.map zM)[k]?=some (zM g):=by rw[cX,cV hk,hx];rfl
  have eg:((v.zg.take (k+1)).flatMap (·.ends)).map zP=((v.zg.take k).flatMap (·.ends)).map zP++g.ends.map zP:=ax
  have l1:(((v.zg.take k).flatMap (·.ends)).map zP).length<=k*1000:=by
   have:=wG (v.zg.take k) λx hx=>h.ends x (gK hx)
   rw[rp,Nat.min_eq_left ah]at this;simpa using this
  have l2:(g.ends.map zP).length<=1000:=by rw[cY];exact h.ends g (hx ▸ dn hk)
  conv=>whnf
  refine zar ?_
  refine⟨rfl,.inr V,by simp only[maxLen];omega,by show _*40<=_;omega,dd ?_⟩;refine zat ?_;rw[zk ah,eg];exact cE 2
 .refine uD ?_;rw[dy];exact uI
abbrev ud(k n:Int):r3:=⟨k,0,0,0,0,0,n,⟨0,0,0,0,0,0⟩⟩
def CR(w:Wor)(m:rH)(l:rS)(h0:0<=m.i)(hx:w.zc[m.i.toNat]?=some l):tc 236 [oW w,oM m] [.agg ta] (Ce (rY m 1 5 l.zt)) [oW w,oM (if l.zt=0 then {m with pc:=10} else rW m 8 (IntKind.i64.wrap (m.i+1)))]:=by
 have hg:(w.zc.map z1)[m.i.toNat]?=some (z1 l):=by rw[cX,hx];rfl
 refine aa func236 ?_;refine uE ?_;(refine⟨h0,_,hg,dd ?_⟩)
 refine⟨λq=>?_,λq=>?_⟩
 .rw[c7 (ak q)];refine dd ?_;refine ae [1] (zS {m with pc:=10} 1 5 l.zt) ?_;exact bU
 .rw[c6 (ak q)];refine dd ?_;refine zan ?_;refine ae [1] (qN m 8 (IntKind.i64.wrap (m.i+1))) ?_;refine hO ?_
  refine ae [1] (zS (rW m 8 (IntKind.i64.wrap (m.i+1))) 1 5 l.zt) ?_;exact bU
def kS(w:Wor)(m:rH)(h:w.zc.length<=m.i):tc 235 [oW w,oM m] [.agg ta] (Ce {rY m 2 14 0 with done:=true,answer:=ud 11 m.answer.n}) [oW ({w with lock:=0}),oM ({m with done:=true,answer:=ud 11 m.answer.n})]:=by
 have ml:(w.zc.map z1).length=w.zc.length:=cY ..;refine aa func235 ?_;refine uE ?_;rw[ml];refine⟨λ_=>dd ?_,λhh=>absurd hh aw⟩;refine .inl ⟨⟨true,[0,1],[2],[2]⟩,an,uH ?_⟩;refine ae [1] (zS m 2 14 0) ?_;refine hO ?_
 refine ae [1] (ox m (rY m 2 14 0) (ud 11 m.answer.n)) ?_;exact bU
abbrev eZ(m:rH)(l:rS):rH:=if l.drain=true/\l.closed=false then {m with pc:=9} else {m with i:=IntKind.i64.wrap (m.i+1)}
abbrev Cx(m:rH)(l:rS):rV:=rY m 1 4 (if l.drain=true then 1 else 0)
def CQ(w:Wor)(m:rH)(l:rS)(h0:0<=m.i)(hx:w.zc[m.i.toNat]?=some l):tc 235 [oW w,oM m] [.agg ta] (Ce (Cx m l)) [oW w,oM (eZ m l)]:=by
 have hg:(w.zc.map z1)[m.i.toNat]?=some (z1 l):=by rw[cX,hx];rfl
 have rF:=(cW.1 hx).1;have ml:(w.zc.map z1).length=w.zc.length:=cY ..;obtain⟨nm,dr,ac,cl⟩:=l;cases dr <;> cases cl
 all_goals
  refine aa func235 ?_;refine uE ?_;rw[ml];refine⟨λhh=>absurd hh aw,λ_=>dd ?_⟩;refine zaS ?_
  (refine⟨h0,_,hg,dd ?_⟩)
  refine zaF ?_
  refine zaF ?_
  refine zaC ?_
  refine ae [1] (zS m 1 4 0) ?_;refine zao ?_
  exact bU
def kT{w':Wor}{m:rH}(h:w.zi.length<=m.i)(hd:tc 235 [oW w,oM (rW m 8 0)] [.agg ta] (Ce e) [oW w',oM m']):tc 232 [oW w,oM m] [.agg ta] (Ce e) [oW w',oM m']:=by
 have ml:(w.zi.map zW).length=w.zi.length:=cY ..;refine aa func232 ?_;refine uE ?_;rw[ml];refine⟨λ_=>dd ?_,λhh=>absurd hh aw⟩;refine ae [1] (qN m 8 0) ?_;refine ae [0,1] (hd) ?_;exact bU
abbrev tz(m:rH)(r:rP):rH:=if r.gone=true\/Go.Lim.j0 r.at_ m.zl=false then {m with i:=IntKind.i64.wrap (m.i+1)} else {m with version:=r.version,zn:=0,end_:=0,other:=0,slot:=0,k:=0,pc:=5}
def C0(w:Wor)(m:rH)(r:rP)(hr:i64 r.at_)(h0:0<=m.i)(hx:w.zi[m.i.toNat]?=some r):tc 232 [oW w,oM m] [.agg ta] (Ce (rY m 1 11 r.version)) [oW w,oM (tz m r)]:=by
 have hg:(w.zi.map zW)[m.i.toNat]?=some (zW r):=by rw[cX,hx];rfl
 have rF:=(cW.1 hx).1;have ml:(w.zi.map zW).length=w.zi.length:=cY ..;obtain⟨rv,ra,rg⟩:=r;refine aa func232 ?_;refine uE ?_;rw[ml];refine⟨λhh=>absurd hh aw,λ_=>dd ?_⟩;refine zaS ?_
 (refine⟨h0,_,hg,dd ?_⟩)
 refine zaF ?_
 refine zaF ?_
 refine zaC ?_
 cases rg
 .have eN:Go.Lim.j0 ra m.zl=false->tz m ⟨rv,ra,false⟩={m with i:=IntKind.i64.wrap (m.i+1)}:=λhh=>c7 (.inr hh)
  have eY:Go.Lim.j0 ra m.zl=true->tz m ⟨rv,ra,false⟩={m with version:=rv,zn:=0,end_:=0,other:=0,slot:=0,k:=0,pc:=5}:=λhh=>c6 (by simp[hh])
  refine .inl ⟨⟨true,[],[],[9]⟩,an,uH ?_⟩;refine zao ?_
  refine af (Go.Lim.FU (now:=m.zl) hr.1 hr.2) ?_;refine⟨λq=>?_,λq=>?_⟩
  .rw[eY q];refine dd ?_;refine hO ?_
   refine zao ?_
   refine ae [1] (zS {m with version:=rv,zn:=0,end_:=0,other:=0,slot:=0,k:=0,pc:=5} 1 11 rv) ?_;exact bU
  .rw[eN q];refine dd ?_;refine hO ?_
   refine zao ?_
   refine ae [1] (zS {m with i:=IntKind.i64.wrap (m.i+1)} 1 11 rv) ?_;exact bU
 .rw[show tz m ⟨rv,ra,true⟩=_ from c7 (.inl V)];refine .inl ⟨⟨true,[],[],[9]⟩,an,uH ?_⟩;refine zao ?_
  refine ae [1] (zS {m with i:=IntKind.i64.wrap (m.i+1)} 1 11 rv) ?_;exact bU
abbrev vo(l:rS):rS:={l with closed:=true}
def FV(w:Wor)(m:rH)(x:rS)(h0:0<=m.i)(hx:w.zc[m.i.toNat]?=some x):
  tc 237 [⟨1,28,8,[tG 2 w],0⟩,oM m,⟨2,81,4,(w.zc).map z1,0⟩] [.agg ta] (Ce (rY m 2 13 1)) [⟨1,28,8,[tG 2 w],0⟩,oM (rW m 8 (IntKind.i64.wrap (m.i+1))),⟨2,81,4,(w.zc.set m.i.toNat (vo x)).map z1,0⟩]:=by
 have e1:0+m.i.toNat=m.i.toNat:=dF _;have rF:m.i.toNat<w.zc.length:=(cW.1 hx).1;have gx:(w.zc.map z1)[m.i.toNat]?=some (z1 x):=by rw[cX,hx];rfl
 have hst:(w.zc.map z1).set m.i.toNat [Tx x.name,Bo x.drain,I x.zt,Bo true]=(w.zc.set m.i.toNat (vo x)).map z1:=ba
 refine aa func237 ?_;refine .inl ⟨⟨false,[1,4,6,9],[0,1,3],[]⟩,an,uH ?_⟩;refine hO ?_
 refine zaN ?_
 rw[hst];refine zan ?_;refine ae [1] (qN m 8 (IntKind.i64.wrap (m.i+1))) ?_;refine hO ?_
 refine ae [1] (zS (rW m 8 (IntKind.i64.wrap (m.i+1))) 2 13 1) ?_;refine hO ?_;exact⟨.inl V,_,_,.refl _,rfl,cE 3⟩
abbrev lr(m:rH)(v:rL)(a:Int):rV:={rY m 1 7 a with version:=m.version,qQ:=v.qQ}
abbrev tL(m:rH)(v:rL)(a:Int):rH:=if a≠0 then rW m 4 (IntKind.i64.wrap (m.i+1)) else if IntKind.i64.wrap (m.k+1)<(zY v).length then {m with k:=IntKind.i64.wrap (m.k+1)} else {m with k:=IntKind.i64.wrap (m.k+1),pc:=6}
def CW(w:Wor)(m:rH)(v:rL)(e:En)(hf:tx v)(hv:ed w m v)(k0:0<=m.k)(hk:(zY v)[m.k.toNat]?=some e):tc 233 [oW w,oM m] [.agg ta] (Ce (lr m v e.zt)) [oW w,oM (tL m v e.zt)]:=by
 have a0:=hv.v0;have a1:=hv.row;have hg:((zY v).map zP)[m.k.toNat]?=some (zP e):=by rw[cX,hk];rfl
 have ml:((zY v).map zP).length=(zY v).length:=cY ..;have he:=oB v hf;have eA:e.zt≠0->tL m v e.zt=rW m 4 (IntKind.i64.wrap (m.i+1)):=λhh=>c7 hh
 have eB:e.zt=0->tL m v e.zt=if IntKind.i64.wrap (m.k+1)<(zY v).length then {m with k:=IntKind.i64.wrap (m.k+1)} else {m with k:=IntKind.i64.wrap (m.k+1),pc:=6}:=λhh=>c6 (by simp[hh])
 generalize hll:zY v=ll at he hk hg ml eA eB;obtain⟨sn,gs,fr⟩:=v;cases fr
 all_goals
  refine aa func233 ?_;refine zaS ?_
  (refine⟨a0,_,a1,dd ?_⟩)
  refine zaF ?_
  refine zaF ?_
  refine zaC ?_
  refine af he ?_;refine .inr ⟨⟨[0,5,8,9],[0,1,2,3,4],true⟩,an,λ_=>V,_,uH ?_,λt2 H2 h=>h⟩;(refine⟨k0,_,hg,dd ?_⟩)
  refine⟨_,ag [1] (zS m 1 7 e.zt),uH ?_⟩;refine zaF ?_
  refine zaF ?_
  refine zaC ?_
  refine .inl ⟨⟨false,[3,5],[1,4],[]⟩,an,uH ?_⟩;refine zao ?_
  refine hO ?_
  refine⟨λq=>?_,λq=>?_⟩
  .rw[eA (ak q)];refine dd ?_;refine zan ?_;refine ae [1] (qN m 4 (IntKind.i64.wrap (m.i+1))) ?_;exact bU
  .rw[eB (ak q)];refine dd ?_;rw[ml];refine⟨λq2=>?_,λq2=>?_⟩
   .rw[c7 (ak q2)];refine dd ?_;exact bU
   .rw[c6 (ak q2)];refine dd ?_;exact bU
abbrev x7(v:rL):rL:={v with qQ:=true}
abbrev xb(r:rP):rP:={r with gone:=true}
abbrev tY(m:rH):rH:={m with answer:={m.answer with n:=IntKind.i64.wrap (m.answer.n+1)},pc:=4,i:=IntKind.i64.wrap (m.i+1)}
def kQ(w:Wor)(m:rH)(v:rL)(r:rP)(hv:ed w m v)(h0:0<=m.i)(hx:w.zi[m.i.toNat]?=some r):
  tc 234 [⟨1,28,8,[[I w.zl,I w.current,I w.lock,lI w.pins,.sl 2 [] 5 0 w.zd.length false,lL w.zc,rZ w.counts,.sl 3 [] 3 0 w.zi.length false]],0⟩,oM m,⟨2,67,5,(w.zd).map zw,0⟩,⟨2,126,3,(w.zi).map zW,0⟩] [.agg ta] (Ce (rY m 2 12 m.version)) [⟨1,28,8,[[I w.zl,I w.current,I w.lock,lI w.pins,.sl 2 [] 5 0 w.zd.length false,lL w.zc,rZ w.counts,.sl 3 [] 3 0 w.zi.length false]],0⟩,oM (tY m),⟨2,67,5,(w.zd.set m.version.toNat (x7 v)).map zw,0⟩,⟨2,126,3,(w.zi.set m.i.toNat (xb r)).map zW,0⟩]:=by
 have a0:=hv.v0;have av:m.version.toNat<w.zd.length:=(cW.1 hv.at_).1;have gv:=hv.row;have e1:0+m.i.toNat=m.i.toNat:=dF _;have e2:0+m.version.toNat=m.version.toNat:=dF _;have rF:m.i.toNat<w.zi.length:=(cW.1 hx).1;have gx:(w.zi.map zW)[m.i.toNat]?=some (zW r):=by rw[cX,hx];rfl
 have hst:(w.zi.map zW).set m.i.toNat [I r.version,I r.at_,Bo true]=(w.zi.set m.i.toNat (xb r)).map zW:=ba
 have hsv:(w.zd.map zw).set m.version.toNat [lT v.snap.zc,u1 v.snap.rules,lC v.snap.ze,lG v.zg,Bo true]=(w.zd.set m.version.toNat (x7 v)).map zw:=ba
 refine aa func234 ?_;refine .inl ⟨⟨false,[1,4,8,10,13,17],[0,1,4],[]⟩,an,uH ?_⟩;refine hO ?_
 refine⟨a0,av,dd ?_⟩;rw[e2];refine⟨_,gv,rfl,dd ?_⟩;refine hO ?_
 refine zaN ?_
 rw[hst,hsv];refine zan ?_;refine ae [1] (qN {m with answer:={m.answer with n:=IntKind.i64.wrap (m.answer.n+1)} } 4 (IntKind.i64.wrap (m.i+1))) ?_;refine hO ?_
 refine zan ?_;refine ae [1] (zS (tY m) 2 12 m.version) ?_;refine hO ?_;exact⟨.inl V,_,_,.refl _,rfl,cE 4⟩
def oA(v:rL)(h:tx v):tc 67 [] [Cv v] (I (zY v).length) []:=by
 have ml:((zY v).map zP).length=(zY v).length:=cY ..;have he:=oB v h;generalize zY v=ll at he ml|-;refine ab func67 ?_;refine af he ?_;rw[ml];exact uI
def ET(w:Wor)(m:rH)(hpc:m.pc=2)(h:m.i<w.pins.length):tc 227 [] [Cw w,Cm m] (Bo true) []:=by
 have ml:(w.pins.map encI).length=w.pins.length:=cY ..;refine zax ?_
 exact uI
def EW(w:Wor)(m:rH)(hpc:m.pc=9)(h:m.i<w.zc.length):tc 227 [] [Cw w,Cm m] (Bo true) []:=by
 have ml:(w.zc.map z1).length=w.zc.length:=cY ..;refine zax ?_
 exact uI
def qT(w:Wor)(m:rH)(hpc:m.pc≠2/\m.pc≠5/\m.pc≠6/\m.pc≠9/\m.pc≠10):tc 227 [] [Cw w,Cm m] (Bo true) []:=by
 refine zax ?_
 exact uI
def EU(w:Wor)(m:rH)(v:rL)(hf:tx v)(hpc:m.pc=5)(hv:ed w m v)(h:m.k<(zY v).length):tc 227 [] [Cw w,Cm m] (Bo true) []:=by
 have a0:=hv.v0;have a1:=hv.row;refine zax ?_
 refine .inl ⟨⟨true,[],[],[8]⟩,an,uH ?_⟩;(refine⟨a0,_,a1,dd ?_⟩)
 refine af (oA v hf) ?_;(repeat (first|refine uA ?_|refine uB ?_))
 exact uI
def EV(w:Wor)(m:rH)(r:rP)(hpc:m.pc=6)(h0:0<=m.i)(hx:w.zi[m.i.toNat]?=some r)(h1:r.version=m.version)(h2:r.gone=false):tc 227 [] [Cw w,Cm m] (Bo true) []:=by
 have hg:(w.zi.map zW)[m.i.toNat]?=some (zW r):=by rw[cX,hx];rfl
 have rF:=(cW.1 hx).1;have ml:(w.zi.map zW).length=w.zi.length:=cY ..;obtain⟨rv,ra,rg⟩:=r;cases h2
 refine zax ?_
 refine uE ?_;rw[ml];(repeat (first|refine uA ?_|refine uB ?_))
 (refine⟨h0,_,hg,dd ?_⟩)
 refine⟨λ_=>dd ?_,λhh=>absurd hh tD⟩;refine zao ?_
 (refine⟨h0,_,hg,dd ?_⟩)
 refine zao ?_
 exact uI
def Ek(w:Wor)(m:rH)(l:rS)(hpc:m.pc=10)(h0:0<=m.i)(hx:w.zc[m.i.toNat]?=some l)(h1:l.drain=true):tc 227 [] [Cw w,Cm m] (Bo true) []:=by
 have hg:(w.zc.map z1)[m.i.toNat]?=some (z1 l):=by rw[cX,hx];rfl
 have rF:=(cW.1 hx).1;have ml:(w.zc.map z1).length=w.zc.length:=cY ..;obtain⟨ln,ld,la,lc⟩:=l;cases h1
 refine zax ?_
 rw[ml];(repeat (first|refine uA ?_|refine uB ?_))
 (refine⟨h0,_,hg,dd ?_⟩)
 refine zao ?_
 exact uI
def HI(w:Wor)(m:rH)(X:Ob)(j f:Nat)(R:Exit->S->Prop)(hlow:jk 8 ([oW w,oM m,⟨1,28,8,[ti],0⟩,⟨1,86,44,[th],0⟩,oE yA,X,oM m,⟨1,263,2,[hZ],0⟩]++[])=true)(hf:∀v0 v1 v2 v3 v4 v5 v6 v8 v9 v10,xA [(0,v0,0),(1,v1,1),(2,v2,2),(3,v3,3),(4,v4,4),(5,v5,5),(6,v6,6),(8,v8,7),(9,v9,8),(10,v10,9)] m.pc=some j)(hc:([.fn 228 [.agg hZ] [],.fn 229 [.agg hZ] [],.fn 230 [.agg hZ] [],.fn 231 [.agg hZ] [],.fn 232 [.agg hZ] [],.fn 233 [.agg hZ] [],.fn 234 [.agg hZ] [],.fn 235 [.agg hZ] [],.fn 236 [.agg hZ] [],.fn 237 [.agg hZ] []]:List C)[j]?=some (.fn f [.agg hZ] []))
 (hn:qb prog 0 (behind 5 ((f181.body).getD .skip)) ⟨(.za::.za::.ref 0 [] 8 0 0:: .ref 1 [] 44 0 0:: .ref 2 [] 8 0 0:: .ref 3 [] 44 0 0:: .ref 4 [] 23 0 0:: .ref 5 [] 8 0 0:: .ref 6 [] 44 0 0:: .ref 7 [] 2 0 0:: .fn f [.agg hZ] []::Bo true:: tJ (jp (tJ (tJ ([]))))),[oW w,oM m,⟨1,28,8,[ti],0⟩,⟨1,86,44,[th],0⟩,oE yA,X,oM m,⟨1,263,2,[hZ],0⟩]++[]⟩ R):qb prog 0 (behind 4 ((f181.body).getD .skip)) ⟨(.za::.za::.ref 0 [] 8 0 0:: .ref 1 [] 44 0 0:: .ref 2 [] 8 0 0:: .ref 3 [] 44 0 0:: .ref 4 [] 23 0 0:: .ref 5 [] 8 0 0:: .ref 6 [] 44 0 0:: .ref 7 [] 2 0 0:: .za::.za::tJ (jp (tJ (tJ ([]))))),[oW w,oM m,⟨1,28,8,[ti],0⟩,⟨1,86,44,[th],0⟩,oE yA,X,oM m,⟨1,263,2,[hZ],0⟩]++[]⟩ R:=by
 refine kO (uH ?_);intro b;refine zag ?_;intro v0;refine zag ?_;intro v1;refine zag ?_;intro v2;refine zag ?_;intro v3;refine zag ?_;intro v4;refine zag ?_;intro v5;refine zag ?_;intro v6;refine zag ?_;intro v8;refine zag ?_;intro v9;refine zag ?_;intro v10;refine dd ?_;(refine⟨_,_,rQ.l8 (id:=8) _ _ _ _ V underlying266 underlying3 V V V V V V (hf _ _ _ _ _ _ _ _ _ _) hc,?_⟩;(refine dd ?_))
 refine hU ?_
 refine .inl ⟨rfl,_,_,(zm.forget 8).trans (zm.fM 8 hC V V V hlow V),hn⟩
def Iq(w:Wor)(m:rH)(X:Ob)(Y:Ob)(j f:Nat)(R:Exit->S->Prop)(hlow:jk 9 ([oW w,oM m,⟨1,28,8,[ti],0⟩,⟨1,86,44,[th],0⟩,oE yA,X,oM m,⟨1,263,2,[hZ],0⟩]++[Y])=true)(hf:∀v0 v1 v2 v3 v4 v5 v6 v8 v9 v10,xA [(0,v0,0),(1,v1,1),(2,v2,2),(3,v3,3),(4,v4,4),(5,v5,5),(6,v6,6),(8,v8,7),(9,v9,8),(10,v10,9)] m.pc=some j)(hc:([.fn 228 [.agg hZ] [],.fn 229 [.agg hZ] [],.fn 230 [.agg hZ] [],.fn 231 [.agg hZ] [],.fn 232 [.agg hZ] [],.fn 233 [.agg hZ] [],.fn 234 [.agg hZ] [],.fn 235 [.agg hZ] [],.fn 236 [.agg hZ] [],.fn 237 [.agg hZ] []]:List C)[j]?=some (.fn f [.agg hZ] []))
 (hn:qb prog 0 (behind 5 ((f181.body).getD .skip)) ⟨(.za::.za::.ref 0 [] 8 0 0:: .ref 1 [] 44 0 0:: .ref 2 [] 8 0 0:: .ref 3 [] 44 0 0:: .ref 4 [] 23 0 0:: .ref 5 [] 8 0 0:: .ref 6 [] 44 0 0:: .ref 7 [] 2 0 0:: .fn f [.agg hZ] []::Bo true:: tJ (jp (tJ (tJ ([]))))),[oW w,oM m,⟨1,28,8,[ti],0⟩,⟨1,86,44,[th],0⟩,oE yA,X,oM m,⟨1,263,2,[hZ],0⟩]++[Y]⟩ R):qb prog 0 (behind 4 ((f181.body).getD .skip)) ⟨(.za::.za::.ref 0 [] 8 0 0:: .ref 1 [] 44 0 0:: .ref 2 [] 8 0 0:: .ref 3 [] 44 0 0:: .ref 4 [] 23 0 0:: .ref 5 [] 8 0 0:: .ref 6 [] 44 0 0:: .ref 7 [] 2 0 0:: .za::.za::tJ (jp (tJ (tJ ([]))))),[oW w,oM m,⟨1,28,8,[ti],0⟩,⟨1,86,44,[th],0⟩,oE yA,X,oM m,⟨1,263,2,[hZ],0⟩]++[Y]⟩ R:=by
 refine kO (uH ?_);intro b;refine zah ?_;intro v0;refine zah ?_;intro v1;refine zah ?_;intro v2;refine zah ?_;intro v3;refine zah ?_;intro v4;refine zah ?_;intro v5;refine zah ?_;intro v6;refine zah ?_;intro v8;refine zah ?_;intro v9;refine zah ?_;intro v10;refine dd ?_;(refine⟨_,_,rQ.l8 (id:=9) _ _ _ _ V underlying266 underlying3 V V V V V V (hf _ _ _ _ _ _ _ _ _ _) hc,?_⟩;(refine dd ?_))
 refine hU ?_
 refine .inl ⟨rfl,_,_,(zm.forget 9).trans (zm.fM 9 hC V V V hlow V),hn⟩
def Ip(w:Wor)(m:rH)(X:Ob)(Y Z:Ob)(j f:Nat)(R:Exit->S->Prop)(hlow:jk 10 ([oW w,oM m,⟨1,28,8,[ti],0⟩,⟨1,86,44,[th],0⟩,oE yA,X,oM m,⟨1,263,2,[hZ],0⟩]++[Y,Z])=true)(hf:∀v0 v1 v2 v3 v4 v5 v6 v8 v9 v10,xA [(0,v0,0),(1,v1,1),(2,v2,2),(3,v3,3),(4,v4,4),(5,v5,5),(6,v6,6),(8,v8,7),(9,v9,8),(10,v10,9)] m.pc=some j)(hc:([.fn 228 [.agg hZ] [],.fn 229 [.agg hZ] [],.fn 230 [.agg hZ] [],.fn 231 [.agg hZ] [],.fn 232 [.agg hZ] [],.fn 233 [.agg hZ] [],.fn 234 [.agg hZ] [],.fn 235 [.agg hZ] [],.fn 236 [.agg hZ] [],.fn 237 [.agg hZ] []]:List C)[j]?=some (.fn f [.agg hZ] []))
 (hn:qb prog 0 (behind 5 ((f181.body).getD .skip)) ⟨(.za::.za::.ref 0 [] 8 0 0:: .ref 1 [] 44 0 0:: .ref 2 [] 8 0 0:: .ref 3 [] 44 0 0:: .ref 4 [] 23 0 0:: .ref 5 [] 8 0 0:: .ref 6 [] 44 0 0:: .ref 7 [] 2 0 0:: .fn f [.agg hZ] []::Bo true:: tJ (jp (tJ (tJ ([]))))),[oW w,oM m,⟨1,28,8,[ti],0⟩,⟨1,86,44,[th],0⟩,oE yA,X,oM m,⟨1,263,2,[hZ],0⟩]++[Y,Z]⟩ R):qb prog 0 (behind 4 ((f181.body).getD .skip)) ⟨(.za::.za::.ref 0 [] 8 0 0:: .ref 1 [] 44 0 0:: .ref 2 [] 8 0 0:: .ref 3 [] 44 0 0:: .ref 4 [] 23 0 0:: .ref 5 [] 8 0 0:: .ref 6 [] 44 0 0:: .ref 7 [] 2 0 0:: .za::.za::tJ (jp (tJ (tJ ([]))))),[oW w,oM m,⟨1,28,8,[ti],0⟩,⟨1,86,44,[th],0⟩,oE yA,X,oM m,⟨1,263,2,[hZ],0⟩]++[Y,Z]⟩ R:=by
 refine kO (uH ?_);intro b;refine zaf ?_;intro v0;refine zaf ?_;intro v1;refine zaf ?_;intro v2;refine zaf ?_;intro v3;refine zaf ?_;intro v4;refine zaf ?_;intro v5;refine zaf ?_;intro v6;refine zaf ?_;intro v8;refine zaf ?_;intro v9;refine zaf ?_;intro v10;refine dd ?_;(refine⟨_,_,rQ.l8 (id:=10) _ _ _ _ V underlying266 underlying3 V V V V V V (hf _ _ _ _ _ _ _ _ _ _) hc,?_⟩;(refine dd ?_))
 refine hU ?_
 refine .inl ⟨rfl,_,_,(zm.forget 10).trans (zm.fM 10 hC V V V hlow V),hn⟩
def qu{w':Wor}{m:rH}(sw:x3 w)(ok:so w)(hl:i64 m.listen)(hs:qe w m=true)(hm:tc 227 [] [Cw w,Cm m] (Bo true) [])(j f:Nat)(hcb:zC prog f=true)(hf:∀v0 v1 v2 v3 v4 v5 v6 v8 v9 v10,xA [(0,v0,0),(1,v1,1),(2,v2,2),(3,v3,3),(4,v4,4),(5,v5,5),(6,v6,6),(8,v8,7),(9,v9,8),(10,v10,9)] m.pc=some j)(hc:([.fn 228 [.agg hZ] [],.fn 229 [.agg hZ] [],.fn 230 [.agg hZ] [],.fn 231 [.agg hZ] [],.fn 232 [.agg hZ] [],.fn 233 [.agg hZ] [],.fn 234 [.agg hZ] [],.fn 235 [.agg hZ] [],.fn 236 [.agg hZ] [],.fn 237 [.agg hZ] []]:List C)[j]?=some (.fn f [.agg hZ] []))
 (h:tc f [oW w,oM m] [.agg ta] (Ce e) [oW w',oM m']):tc 181 [] [Cw w,Cm m] (.rO [Cw w',Cm m',Ce e]) []:=by
 refine zal ?_
 refine af hm ?_;refine hU ?_
 refine zaV ?_;refine .inr ⟨⟨[0,1,2],[0,1],true⟩,an,λ_=>V,λt H=>t=(.za::.za::.ref 0 [] 8 0 0:: .ref 1 [] 44 0 0:: .ref 2 [] 8 0 0:: .ref 3 [] 44 0 0:: .ref 4 [] 23 0 0:: .ref 5 [] 8 0 0:: .ref 6 [] 44 0 0:: .za::.za::.za::tJ (jp (tJ (tJ ([])))))/\H=[oW w,oM m,⟨1,28,8,[ti],0⟩,⟨1,86,44,[th],0⟩,oE yA,oW w,oM m],?_,?_⟩
 .conv=>whnf
  refine⟨_,ag [] (oz w sw),uH ?_⟩;repeat' (first|(exact trivial)|(refine⟨rfl,uH ?_⟩)|(exact⟨_,_,zm.rJ [0,1,2,3,4,5,6] [2,3,4,5,6,7,8] _ _ V V V V,rfl,rfl⟩)|(exact⟨_,_,zm.rJ [0,1,2,3,4,6,5] [2,3,4,5,6,7,8] _ _ V V V V,rfl,rfl⟩)|(refine And.intro ?_ ?_ <;> (conv=>whnf)))
 rintro _ _ ⟨rfl,rfl⟩;conv=>whnf
 refine zaV ?_;refine .inl ⟨rfl,_,_,cE 8,HI w m (oW w) j f _ V hf hc ?_⟩;(refine qD (K:=λex t H=>(ex=.ret\/ex=.normal)/\∃s2,zm 0 ⟨t,H⟩ s2/\(yJ prog f181 s2).map (jL 0 9)=some (.rO [Cw w',Cm m',Ce e])) (uH ?_))
 rw[hcb];refine ae [5,6] (h) ?_;refine .inl ⟨⟨false,[0,1,2],[5,6,8],[]⟩,an,uH ?_⟩;refine hO ?_
 exact uI
def DI{m:rH}{ls:List rS}(sw:x3 w)(ok:so w)(hl:i64 m.listen)(hs:qe w m=true)(hm:tc 227 [] [Cw w,Cm m] (Bo true) [])(j f:Nat)(hcb:zC prog f=true)(hf:∀v0 v1 v2 v3 v4 v5 v6 v8 v9 v10,xA [(0,v0,0),(1,v1,1),(2,v2,2),(3,v3,3),(4,v4,4),(5,v5,5),(6,v6,6),(8,v8,7),(9,v9,8),(10,v10,9)] m.pc=some j)(hc:([.fn 228 [.agg hZ] [],.fn 229 [.agg hZ] [],.fn 230 [.agg hZ] [],.fn 231 [.agg hZ] [],.fn 232 [.agg hZ] [],.fn 233 [.agg hZ] [],.fn 234 [.agg hZ] [],.fn 235 [.agg hZ] [],.fn 236 [.agg hZ] [],.fn 237 [.agg hZ] []]:List C)[j]?=some (.fn f [.agg hZ] []))
 (hne:w.zc≠[])(hll:ls.length=w.zc.length)(h:tc f [⟨1,28,8,[tG 2 w],0⟩,oM m,⟨2,81,4,(w.zc).map z1,0⟩] [.agg ta] (Ce e) [⟨1,28,8,[tG 2 w],0⟩,oM m',⟨2,81,4,(ls).map z1,0⟩]):tc 181 [] [Cw w,Cm m] (.rO [Cw {w with zc:=ls},Cm m',Ce e]) []:=by
 obtain⟨x,l,hx⟩:=pq hne;refine zal ?_
 refine af hm ?_;refine hU ?_
 refine zaV ?_;refine .inr ⟨⟨[0,2],[0,1],true⟩,an,λ_=>V,λt H=>t=(.za::.za::.ref 0 [] 8 0 0:: .ref 1 [] 44 0 0:: .ref 2 [] 8 0 0:: .ref 3 [] 44 0 0:: .ref 4 [] 23 0 0:: .ref 5 [] 8 0 0:: .ref 6 [] 44 0 0:: .za::.za::.za::tJ (jp (tJ (tJ ([])))))/\H=[oW w,oM m,⟨1,28,8,[ti],0⟩,⟨1,86,44,[th],0⟩,oE yA,⟨1,28,8,[tG 7 w],0⟩,oM m,⟨2,81,4,(w.zc).map z1,0⟩],?_,?_⟩
 .conv=>whnf
  repeat' (first|(exact trivial)|(refine⟨rfl,uH ?_⟩)|(refine zo [] (DE w sw x l hx) V V V V V V (uH ?_))|(exact⟨_,_,zm.rJ [0,1,2,3,4,5,6,7] [2,3,4,5,6,7,8] _ _ V V V V,rfl,rfl⟩)|(exact⟨_,_,zm.rJ [0,1,2,3,4,5,7,6] [2,3,4,5,6,7,8] _ _ V V V V,rfl,rfl⟩)|(exact⟨_,_,zm.rJ [0,1,2,3,4,6,5,7] [2,3,4,5,6,7,8] _ _ V V V V,rfl,rfl⟩)|(exact⟨_,_,zm.rJ [0,1,2,3,4,6,7,5] [2,3,4,5,6,7,8] _ _ V V V V,rfl,rfl⟩)|(exact⟨_,_,zm.rJ [0,1,2,3,4,7,5,6] [2,3,4,5,6,7,8] _ _ V V V V,rfl,rfl⟩)|(exact⟨_,_,zm.rJ [0,1,2,3,4,7,6,5] [2,3,4,5,6,7,8] _ _ V V V V,rfl,rfl⟩)|(refine And.intro ?_ ?_ <;> (conv=>whnf)))
 rintro _ _ ⟨rfl,rfl⟩;conv=>whnf
 refine zaV ?_;refine .inl ⟨rfl,_,_,(zm.rJ [0,1,2,3,4,5,6,8,7] [2,3,4,5,6,7,8,9] _ _ V V V V).trans (cC),Iq w m (⟨1,28,8,[tG 8 w],0⟩) (⟨2,81,4,(w.zc).map z1,0⟩) j f _ V hf hc ?_⟩;(refine qD (K:=λex t H=>(ex=.ret\/ex=.normal)/\∃s2,zm 0 ⟨t,H⟩ s2/\(yJ prog f181 s2).map (jL 0 9)=some (.rO [Cw {w with zc:=ls},Cm m',Ce e])) (uH ?_))
 rw[hcb];refine ae [5,6,8] (h) ?_;refine .inl ⟨⟨false,[0,1,2],[5,6,9],[]⟩,an,uH ?_⟩;refine hO ?_
 exact⟨.inl V,_,zm.jv 2 0 5 V V V V (.inr V) aj (by rw[cY];exact hll.symm) (shut_map (enc:=z1) (λ_=>V) _) (qG V),rfl⟩
def DD(w:Wor)(h:x3 w)(x:rP)(l:List rP)(hx:w.zi=x::l):tc 218 [] [Cw w] (.agg [I w.zl,I w.current,I w.lock,lI w.pins,.sl 0 [] 5 0 w.zd.length false,lL w.zc,rZ w.counts,.sl 1 [] 3 0 w.zi.length false]) [⟨2,67,5,(w.zd).map zw,0⟩,⟨2,126,3,(w.zi).map zW,0⟩]:=by
 have hl:l.length<1000000000:=by have:=h.zi;rw[hx]at this;exact cN
 have hc:=Hu x l hl;rw[<-hx]at hc;refine iH (fn:=f218) func218 V (uH ?_);refine zaK ?_;refine ae [] (hc) ?_;refine⟨.inl V,_,_,zm.jv 1 0 6 V V V V (.inr V) V aj (shut_map (enc:=zX) (λ_=>V) w.counts) (qG V),rfl,?_⟩;exact zm.rJ [3,5] [0] _ _ V V V (jq V (jq V (jq V (jq V (jq (lW λr hr c hc=>((shut_map (enc:=zX) (λ_=>V) w.counts) r hr c hc).2) V)))))
def DH{m:rH}{vs:List rL}{rs:List rP}(sw:x3 w)(ok:so w)(hl:i64 m.listen)(hs:qe w m=true)(hm:tc 227 [] [Cw w,Cm m] (Bo true) [])(j f:Nat)(hcb:zC prog f=true)(hf:∀v0 v1 v2 v3 v4 v5 v6 v8 v9 v10,xA [(0,v0,0),(1,v1,1),(2,v2,2),(3,v3,3),(4,v4,4),(5,v5,5),(6,v6,6),(8,v8,7),(9,v9,8),(10,v10,9)] m.pc=some j)(hc:([.fn 228 [.agg hZ] [],.fn 229 [.agg hZ] [],.fn 230 [.agg hZ] [],.fn 231 [.agg hZ] [],.fn 232 [.agg hZ] [],.fn 233 [.agg hZ] [],.fn 234 [.agg hZ] [],.fn 235 [.agg hZ] [],.fn 236 [.agg hZ] [],.fn 237 [.agg hZ] []]:List C)[j]?=some (.fn f [.agg hZ] []))
 (hne:w.zd≠[])(hne2:w.zi≠[])(hvl:vs.length=w.zd.length)(hrl:rs.length=w.zi.length)(h:tc f [⟨1,28,8,[[I w.zl,I w.current,I w.lock,lI w.pins,.sl 2 [] 5 0 w.zd.length false,lL w.zc,rZ w.counts,.sl 3 [] 3 0 w.zi.length false]],0⟩,oM m,⟨2,67,5,(w.zd).map zw,0⟩,⟨2,126,3,(w.zi).map zW,0⟩] [.agg ta] (Ce e) [⟨1,28,8,[[I w.zl,I w.current,I w.lock,lI w.pins,.sl 2 [] 5 0 w.zd.length false,lL w.zc,rZ w.counts,.sl 3 [] 3 0 w.zi.length false]],0⟩,oM m',⟨2,67,5,(vs).map zw,0⟩,⟨2,126,3,(rs).map zW,0⟩]):tc 181 [] [Cw w,Cm m] (.rO [Cw {w with zd:=vs,zi:=rs},Cm m',Ce e]) []:=by
 obtain⟨v,vl,hv⟩:=pq hne;obtain⟨r,rl,hr⟩:=pq hne2;refine zal ?_
 refine af hm ?_;refine hU ?_
 refine zaV ?_;refine .inr ⟨⟨[0,2],[0,1],true⟩,an,λ_=>V,λt H=>t=(.za::.za::.ref 0 [] 8 0 0:: .ref 1 [] 44 0 0:: .ref 2 [] 8 0 0:: .ref 3 [] 44 0 0:: .ref 4 [] 23 0 0:: .ref 5 [] 8 0 0:: .ref 6 [] 44 0 0:: .za::.za::.za::tJ (jp (tJ (tJ ([])))))/\H=[oW w,oM m,⟨1,28,8,[ti],0⟩,⟨1,86,44,[th],0⟩,oE yA,⟨1,28,8,[[I w.zl,I w.current,I w.lock,lI w.pins,.sl 7 [] 5 0 w.zd.length false,lL w.zc,rZ w.counts,.sl 8 [] 3 0 w.zi.length false]],0⟩,oM m,⟨2,67,5,(w.zd).map zw,0⟩,⟨2,126,3,(w.zi).map zW,0⟩],?_,?_⟩
 .conv=>whnf
  repeat' (first|(exact trivial)|(refine⟨rfl,uH ?_⟩)|(refine zo [] (DD w sw r rl hr) V V V V V V (uH ?_))|(exact⟨_,_,zm.rJ [0,1,2,3,4,5,6,7,8] [2,3,4,5,6,7,8] _ _ V V V V,rfl,rfl⟩)|(exact⟨_,_,zm.rJ [0,1,2,3,4,5,6,8,7] [2,3,4,5,6,7,8] _ _ V V V V,rfl,rfl⟩)|(exact⟨_,_,zm.rJ [0,1,2,3,4,5,7,6,8] [2,3,4,5,6,7,8] _ _ V V V V,rfl,rfl⟩)|(exact⟨_,_,zm.rJ [0,1,2,3,4,5,7,8,6] [2,3,4,5,6,7,8] _ _ V V V V,rfl,rfl⟩)|(exact⟨_,_,zm.rJ [0,1,2,3,4,5,8,6,7] [2,3,4,5,6,7,8] _ _ V V V V,rfl,rfl⟩)|(exact⟨_,_,zm.rJ [0,1,2,3,4,5,8,7,6] [2,3,4,5,6,7,8] _ _ V V V V,rfl,rfl⟩)|(exact⟨_,_,zm.rJ [0,1,2,3,4,6,5,7,8] [2,3,4,5,6,7,8] _ _ V V V V,rfl,rfl⟩)|(exact⟨_,_,zm.rJ [0,1,2,3,4,6,5,8,7] [2,3,4,5,6,7,8] _ _ V V V V,rfl,rfl⟩)|(exact⟨_,_,zm.rJ [0,1,2,3,4,6,7,5,8] [2,3,4,5,6,7,8] _ _ V V V V,rfl,rfl⟩)|(exact⟨_,_,zm.rJ [0,1,2,3,4,6,7,8,5] [2,3,4,5,6,7,8] _ _ V V V V,rfl,rfl⟩)|(exact⟨_,_,zm.rJ [0,1,2,3,4,6,8,5,7] [2,3,4,5,6,7,8] _ _ V V V V,rfl,rfl⟩)|(exact⟨_,_,zm.rJ [0,1,2,3,4,6,8,7,5] [2,3,4,5,6,7,8] _ _ V V V V,rfl,rfl⟩)|(exact⟨_,_,zm.rJ [0,1,2,3,4,7,5,6,8] [2,3,4,5,6,7,8] _ _ V V V V,rfl,rfl⟩)|(exact⟨_,_,zm.rJ [0,1,2,3,4,7,5,8,6] [2,3,4,5,6,7,8] _ _ V V V V,rfl,rfl⟩)|(exact⟨_,_,zm.rJ [0,1,2,3,4,7,6,5,8] [2,3,4,5,6,7,8] _ _ V V V V,rfl,rfl⟩)|(exact⟨_,_,zm.rJ [0,1,2,3,4,7,6,8,5] [2,3,4,5,6,7,8] _ _ V V V V,rfl,rfl⟩)|(exact⟨_,_,zm.rJ [0,1,2,3,4,7,8,5,6] [2,3,4,5,6,7,8] _ _ V V V V,rfl,rfl⟩)|(exact⟨_,_,zm.rJ [0,1,2,3,4,7,8,6,5] [2,3,4,5,6,7,8] _ _ V V V V,rfl,rfl⟩)|(exact⟨_,_,zm.rJ [0,1,2,3,4,8,5,6,7] [2,3,4,5,6,7,8] _ _ V V V V,rfl,rfl⟩)|(exact⟨_,_,zm.rJ [0,1,2,3,4,8,5,7,6] [2,3,4,5,6,7,8] _ _ V V V V,rfl,rfl⟩)|(exact⟨_,_,zm.rJ [0,1,2,3,4,8,6,5,7] [2,3,4,5,6,7,8] _ _ V V V V,rfl,rfl⟩)|(exact⟨_,_,zm.rJ [0,1,2,3,4,8,6,7,5] [2,3,4,5,6,7,8] _ _ V V V V,rfl,rfl⟩)|(exact⟨_,_,zm.rJ [0,1,2,3,4,8,7,5,6] [2,3,4,5,6,7,8] _ _ V V V V,rfl,rfl⟩)|(exact⟨_,_,zm.rJ [0,1,2,3,4,8,7,6,5] [2,3,4,5,6,7,8] _ _ V V V V,rfl,rfl⟩)|(refine And.intro ?_ ?_ <;> (conv=>whnf)))
 rintro _ _ ⟨rfl,rfl⟩;conv=>whnf
 refine zaV ?_;refine .inl ⟨rfl,_,_,(zm.rJ [0,1,2,3,4,5,6,9,7,8] [2,3,4,5,6,7,8,9] _ _ V V V V).trans (cC),Ip w m (⟨1,28,8,[[I w.zl,I w.current,I w.lock,lI w.pins,.sl 8 [] 5 0 w.zd.length false,lL w.zc,rZ w.counts,.sl 9 [] 3 0 w.zi.length false]],0⟩) (⟨2,67,5,(w.zd).map zw,0⟩) (⟨2,126,3,(w.zi).map zW,0⟩) j f _ V hf hc ?_⟩;(refine qD (K:=λex t H=>(ex=.ret\/ex=.normal)/\∃s2,zm 0 ⟨t,H⟩ s2/\(yJ prog f181 s2).map (jL 0 9)=some (.rO [Cw {w with zd:=vs,zi:=rs},Cm m',Ce e])) (uH ?_))
 rw[hcb];refine ae [5,6,8,9] (h) ?_;refine .inl ⟨⟨false,[0,1,2],[5,6,10],[]⟩,an,uH ?_⟩;refine hO ?_
 exact⟨.inl V,_,(zm.jv 2 0 4 V V V V (.inr V) aj (by rw[cY];exact hvl.symm) (shut_map (enc:=zw) (λ_=>V) _) (qG V)).trans (zm.jv 2 0 7 V V V V (.inr V) aj (by rw[cY];exact hrl.symm) (shut_map (enc:=zW) (λ_=>V) _) (qG V)),rfl⟩
end Go.Wor
