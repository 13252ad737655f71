import Derived.Test.YtamgiodaflkbhaaGreatV6
import Derived.Test.YtamgiodaflkbhaaGreatV7
import Derived.Test.YtamgiodaflkbhaaGreatV8
import Derived.Test.YtamgiodaflkbhaaGreatV5
import Derived.Test.YtamgiodaflkbhaaGreatVF
import Derived.Test.YtamgiodaflkbhaaGreatV0
import Derived.Test.YtamgiodaflkbhaaGreatV1
set_option linter.all false
set_option maxRecDepth 100000
set_option maxHeartbeats 4000000
namespace Go.Ply
open Go.Ab Go.Proofs Tryz Go.Hy Go.Wor
variable{X:List ia}{t:Nat}{x:ia}
def T4{i:Nat}(x:ia)(h:t≠i):vB (X.set t x) i=vB X i:=by
 unfold vB;rw[rC h]
def Sb(x:ia)(h:t<X.length):vB (X.set t x) t=x.given:=by
 unfold vB;rw[pH h]
def VT(h:X[t]?=some x):vB X t=x.given:=by
 unfold vB;rw[h]
def Wc(X:List ia)(t:Nat)(x:ia):(X.mapIdx (z7 1)).set t (z7 1 t x)=(X.set t x).mapIdx (z7 1):=by
 refine rL λi=>?_
 rw[rK,pM,pM,rK,List.length_mapIdx];by_cases h:t=i
 .subst h;rw[pD V,pD V];split <;> rfl
 .rw[pA h,pA h]
def Wu{o:fQ}{w w':Wor}{m':fx}{e:fF}(hx:X[t]?=some x)(ho:x.ops[x.done]?=some o)(hX:X.length<=8)(hgn:x.given.length<=1000)(hdn:x.done<=1000)
 (hp:th 42 [] [.agg (xc w),.agg (vX (Bd x t o))] (.fy [.agg (xc w'),.agg (vX m'),.agg (jb e)]) []):
  th 19 (nS 1 X) [.ref 0 [] 48 t 0,.agg (xc w),I t] (.fy [.agg (xc w'),.agg (jb (BC e x))]) (nS 1 (X.set t (yh x m'))):=by
 have htl:=(px.1 hx).1;have ga:=VT hx;have h8:t<8:=an
 have res:nS 1 (X.set t (yh x m'))=mR X ⟨1,0,48,(X.mapIdx (z7 1)).set t (z7 1 t (yh x m')),0⟩ (oL (yh x m').given) [] t:=by
  have g:∀i,fA (X.set t (yh x m')) i=if t=i then oL (yh x m').given else fA X i:=λi=>by
   split
   .rename_i e;subst e;show fA _ t=_;unfold fA;rw[Sb _ htl]
   .rename_i e;unfold fA;rw[T4 _ e]
  rw[Wc];unfold nS;rw[g 0,g 1,g 2,g 3,g 4,g 5,g 6,g 7];rcases eight h8 with rfl|rfl|rfl|rfl|rfl|rfl|rfl|rfl <;> rfl
 rw[Vu X h8,res,ga];obtain⟨ops,dn,on,m,given⟩:=x;cases on
 .exact Ya h8 X ops dn m given w w' _ m' e o hx hX hgn hdn ho (Beg.Jd t o given (by have h:given.length<=1000:=hgn;omega)) hp
 .exact Yb h8 X ops dn m given w w' m' e hx hX hgn hdn hp
end Go.Ply
namespace Go.Wor
open Go.Ab Go.Proofs Tryz Go.Gat Go.Nam Go.Hos Go.Con Go.Sna Go.Pla Go.Ply
open Go.Hy hiding encI
variable{s:ic}
structure Aq(s:ic):Prop where
 wk:CM s
 cfg:yH s.first=true->qQ s.first
 Im:∀l∈s.threads,∀o∈l,yp o.config
 names:∀x∈jL s,x.length<=reachBytes
 ops:∀l∈s.threads,∀o∈l,o.host.length<4000000000000/\o.path.length<4000000000000/\i64 o.d0/\i64 o.d1/\(o.kind=3->yp o.config)
 zY:∀p∈s.zY,i64 p
def yV(h:(qS s).2=0):iJ s=true/\k9 (qB s.first).1 (jL s) s.threads.length=((qS s).1,0):=by
 unfold qS at h|-;split at h
 .rename_i q;rw[pD q];exact⟨q,by rw[<-h]⟩
 .exact absurd (show(1:Int)=0 from h) aj
def TR(h:iJ s=true):(jL s).length<=600:=by
 obtain⟨p1,p2,p3,p4,p5,p6⟩:=yl h;have a:=B8 [] (yM p1)
 have b:=yW xr 64 s.threads (yx [] s.first) λl hl o=>by
  have hl2:=(p5 l hl).1;exact C4 o hl2
 have c:jL s=s.threads.foldl xr (yx [] s.first):=rfl;rw[c];simp at a;omega
end Go.Wor
namespace Go.Run
open Go.Ab Go.Proofs Tryz Go.Hy Go.Gat Go.Nam Go.Hos Go.Con
def oQ(o:fQ):Bool:=iZ o.config || (decide (100<o.host.length) || decide (100<o.path.length))
def Ae(l:List fQ):Bool:=decide (40<l.length) || l.any oQ
def na(s:ic):Bool:=iZ s.first || decide (20<s.threads.length) || decide (5000<s.zY.length) || s.threads.any Ae
structure Iv(s:ic):Prop where
 first:s.first.zc.length<4000000000000000000/\s.first.zK.length<4000000000000000000/\s.first.zj.length<4000000000000000000
 threads:s.threads.length<4000000000000000000
 ops:∀l∈s.threads,l.length<4000000000000000000
 cfg:∀l∈s.threads,∀o∈l,o.config.zc.length<4000000000000000000/\o.config.zK.length<4000000000000000000/\o.config.zj.length<4000000000000000000
def Su(s:ic)(hs:Iv s):th 5 [] [.agg (vA s)] (Bo (na s)) []:=by
 have m1:(s.threads.map j0).length=s.threads.length:=pz ..;have m2:(s.zY.map Go.Hy.encI).length=s.zY.length:=pz ..;have hf:=hs.first;have ht:=hs.threads;refine ab func5 ?_;refine af (KS s.first hf.1 hf.2.1 hf.2.2) ?_;(refine⟨λa1=>?_,λa1=>?_⟩);(focus ((have e:na s=true:=(by (try simp at a1);simp[na];first|omega|(rw[a1];simp)));(rw[e]);refine dd ?_;refine td ?_;exact uI));refine dd ?_
 rw[m1];(refine⟨λa2=>?_,λa2=>?_⟩);(focus ((have e:na s=true:=(by (try simp at a2);simp[na];first|omega|(rw[a2];simp)));(rw[e]);refine dd ?_;refine td ?_;exact uI));refine dd ?_
 rw[m2];(refine⟨λa3=>?_,λa3=>?_⟩);(focus ((have e:na s=true:=(by (try simp at a3);simp[na];first|omega|(rw[a3];simp)));(rw[e]);refine dd ?_;refine td ?_;exact uI));refine dd ?_
 refine td ?_
 have eW:na s=s.threads.any Ae:=by
  unfold na;simp at a2 a3;rw[a1,rW an,rW an]
  rfl
 refine zH.seq s.threads.length (λk=>(.za::.ref 0 [] 5 0 0::Bo false::I k:: mL (jp (mL (mL (mL ([]))))))) (λk=>[oS s]) (λk=>∀j,(h:j<s.threads.length)->j<k->Ae s.threads[j]=false) ?_ ah (λk hk hr=>?_) (λhr=>?_)
 .exact cC
 .obtain⟨v,hx⟩:∃v,v=s.threads[k]:=⟨_,rfl⟩;have hv:v∈s.threads:=by rw[hx];exact gp
  have hg:(s.threads.map j0)[k]?=some (j0 v):=by rw[pw,pq hk,hx];rfl
  have mg:(v.map yB).length=v.length:=pz ..
  have bad:Ae v=true->na s=true:=λh=>by
   rw[eW];exact rJ.2 ⟨v,hv,h⟩
  have bg:=hs.ops v hv;conv=>whnf
  rw[m1];refine zaD ?_
  rw[mg];refine⟨λc2=>?_,λc2=>?_⟩
  .rw[bad (by unfold Ae;rw[rX (by simp at c2;omega)];rfl)];refine zbV ?_
   exact uI
  refine dd ?_;refine zH.seq v.length (λj=>(.za::.ref 0 [] 5 0 0::Bo false::I k::I j:: .za::.za::.za::.za::.za::.za::.za::mL (jp (mL (mL ([])))))) (λj=>[oS s]) (λj=>∀i,(h:i<v.length)->i<j->oQ v[i]=false) ?_ ah (λj hj hrj=>?_) (λhrj=>?_)
  .exact cC
  .obtain⟨o,hxg⟩:∃o,o=v[j]:=⟨_,rfl⟩;have ho:o∈v:=by rw[hxg];exact ph
   have hgg:(v.map yB)[j]?=some (yB o):=by rw[pw,pq hj,hxg];rfl
   have hc:=hs.cfg v hv o ho
   have badg:oQ o=true->na s=true:=λh=>bad (by
    have:v.any oQ=true:=rJ.2 ⟨o,ho,h⟩;unfold Ae;rw[this,uh])
   conv=>whnf
   refine zbR ?_
   rw[mg];refine zaD ?_
   refine zbh ?_
   refine af (KS o.config hc.1 hc.2.1 hc.2.2) ?_;refine⟨λc3=>?_,λc3=>?_⟩
   .rw[badg (by unfold oQ;rw[c3];rfl)];refine zac ?_
    refine zaw ?_
    refine zbS ?_
    exact uI
   refine dd ?_;refine⟨λc4=>?_,λc4=>?_⟩
   .rw[badg (by unfold oQ;rw[c3,rX (by simp at c4;omega)];rfl)];refine zac ?_
    refine zaw ?_
    refine zbS ?_
    exact uI
   refine dd ?_;refine⟨λc5=>?_,λc5=>?_⟩
   .rw[badg (by unfold oQ;rw[c3,rX (p:=100<o.path.length) (by simp at c5;omega)];simp)];refine zac ?_
    refine zaw ?_
    refine zbS ?_
    exact uI
   refine zac ?_
   refine .inl ⟨rfl,?_,λi hi hij=>?_⟩
   .exact dG
   .by_cases e:i=j
    .subst e;rw[<-hxg];unfold oQ;rw[c3,rW (by simp at c4;omega),rW (by simp at c5;omega)]
     rfl
    .exact hrj i hi an
  .have h0:v.any oQ=false:=by
    rw[rk];intro x hx;obtain⟨i,hi,rfl⟩:=pU.1 hx;simp[hrj i hi hi]
   have no:Ae v=false:=by unfold Ae;rw[h0,rW (by simp at c2;omega)];rfl
   conv=>whnf
   refine zbR ?_
   rw[mg];refine zaf ?_;refine .inl ⟨rfl,?_,λi hi hij=>?_⟩
   .exact dG
   .by_cases e:i=k
    .subst e;rw[<-hx];exact no
    .exact hr i hi an
 .have h0:s.threads.any Ae=false:=by
   rw[rk];intro x hx;obtain⟨i,hi,rfl⟩:=pU.1 hx;simp[hr i hi hi]
  rw[eW,h0];conv=>whnf
  rw[m1];exact dO
def Rk(l:List fF)(hl:l.length<4000000000000000000):th 11 [] [lq l,lq l] (Bo true) []:=by
 have m1:(l.map jb).length=l.length:=pz ..;refine ab func11 ?_;refine zcd ?_;refine zH.seq l.length (λk=>((lq l)::(lq l)::.za::.za::Bo false::I k::mL (mL ([.za,.za,.za,.za])))) (λk=>[]) (λ_=>True) ?_ trivial (λk hk _=>?_) (λ_=>?_)
 .exact cC
 .have hg:(l.map jb)[k]?=some (jb l[k]):=by rw[pw,pq hk];rfl
  conv=>whnf
  rw[m1];refine za8 ?_
  refine zbR ?_
  refine⟨ak,dd ?_⟩;refine zcd ?_;exact pd
 .conv=>whnf
  rw[m1];exact dO
end Go.Run
namespace Go.Run
open Go.Ab Go.Proofs Tryz Go.Gat Go.Nam Go.Hos Go.Con Go.Sna Go.Pla Go.Ply Go.Wor
open Go.Hy hiding encI
abbrev iV:fB:=[105,110]
abbrev DK:fZ:=⟨[iV],[⟨iV,[42],[47],[97]⟩],[⟨[97],1,1,[true]⟩]⟩
abbrev ox:fQ:=⟨1,iV,[120],[47],0,0,0,⟨[],[],[]⟩⟩
abbrev vF(k:Nat):List Int:=(List.range k).map λi=>((i / 10:Nat):Int)
abbrev XS(k:Nat):ic:=⟨DK,[[ox,⟨2,[],[],[],0,0,0,⟨[],[],[]⟩⟩,ox],[⟨4,iV,[],[],0,0,0,⟨[],[],[]⟩⟩]],vF k⟩
abbrev jM:ic:=XS 60
def CP(k:Int)(l h p:fB):List C:=[I k,Tx l,Tx h,Tx p,I 0,I 0,I 0,.fq 1 0 [],.fq 1 0 [],.fq 1 0 []]
def Fj:List C:=[.fq 1 1 [[Tx iV]],.fq 1 4 [[Tx iV,Tx [42],Tx [47],Tx [97]]],.fq 1 4 [[Tx [97],I 1,I 1,.fq 1 1 [[Bo true]]]]]
def CG(p:C):List C:=Fj++[.fq 1 1 [[.fq 1 10 [CP 1 iV [120] [47],CP 2 [] [] [],CP 1 iV [120] [47]]],[.fq 1 10 [CP 4 iV [] []]]],p]
def Rq(k:Nat):vF (k+1)=vF k++[((k / 10:Nat):Int)]:=by
 unfold vF;rw[u5,ry]
 rfl
def FJ:th 32 [] [] (.agg (CG (lI (vF 60)))) []:=by
 refine ab func32 ?_;refine zH.seq 60 (λk=>(.ref 0 [] 5 0 0::.za::.za::.ref 3 [] 5 0 0::I k::mL (mL (mL ([.za,.za,.za,.za,.za]))))) (λk=>[⟨1,30,5,[[.fq 1 0 [],.fq 1 0 [],.fq 1 0 [],.fq 1 0 [],.fq 1 0 []]],0⟩,⟨1,26,3,[Fj],0⟩,⟨1,48,10,[CP 1 iV [120] [47]],0⟩,⟨1,30,5,[CG (.gl 4 1 ((vF k).map Go.Hy.encI))],0⟩,⟨4,3,1,(vF k).map Go.Hy.encI,0⟩]) (λ_=>True) ?_ trivial (λk hk _=>?_) (λ_=>?_)
 .exact(zl.qN 3 4 3 1 V V (.inl V) V V).trans (cC)
 .have mp:((vF k).map Go.Hy.encI).length=k:=by simp
  conv=>whnf
  refine uF ?_;refine⟨rfl,.inr V,by rw[mp];simp[maxLen];omega,by rw[mp];show _*8<=_;simp;omega,dd ?_⟩;refine zap ?_
  have e:IntKind.i64.wrap ((k:Int).tdiv 10)=((k / 10:Nat):Int):=by
   have:(k:Int).tdiv 10=((k / 10:Nat):Int):=rfl;rw[this,jF an an]
  have e2:(vF k).map Go.Hy.encI++[[I ((k / 10:Nat):Int)]]=(vF (k+1)).map Go.Hy.encI:=by rw[Rq,ry];rfl
  rw[zk an,e,e2];exact cC
 .refine uD ?_;exact uI
abbrev AB:ic:=⟨⟨[],[],[]⟩,[],[]⟩
abbrev nM(c:fZ):fQ:=⟨3,[],[],[],0,0,0,c⟩
def Rt{l:List fF}{w b x zw:Wor}{c0 c1 c2 c3:Cal}(hP:th 6 [] [.agg (CG (lI (vF 60)))] (.fy [lq l,.agg (xc w),I 0]) [])(hl:l.length=30)(hC:th 33 [] [lq l] (.fy [Fm [c0,c1,c2,c3],I 0]) [])
 (hE:th 6 [] [.agg [.fq 1 0 [],.fq 1 0 [],.fq 1 0 [],.fq 1 0 [],.fq 1 0 []]] (.fy [lq [],.agg (xc zw),I 1]) [])(hB:th 8 [] [.agg (CG (lI (vF 60)))] (.fy [.agg (xc b),I 0]) [])
 (hA:th 15 [] [.agg (xc b),I 0,.agg ([I 3,Tx [],Tx [],Tx [],I 0,I 0,I 0]++Fj),.fq 1 0 []] (.fy [.agg (xc x),.agg (qY ⟨8,1,0,0,0,0,0,⟨0,0,0,0,0,0⟩⟩),I (3:Nat)]) [])
 (hN:th 15 [] [.agg (xc b),I 9,.agg [I 3,Tx [],Tx [],Tx [],I 0,I 0,I 0,.fq 1 0 [],.fq 1 0 [],.fq 1 0 []],.fq 1 0 []] (.fy [.agg (xc b),.agg (qY ⟨0,0,0,0,0,0,0,⟨0,0,0,0,0,0⟩⟩),I 0]) [])
 (hH:th 34 [] [.agg (xc w)] (I (0:Nat)) [])(k0:c0.answer.kind=1)(k1:c1.answer.kind=10)(t1:c1.zm=1)(k2:c2.answer.kind=6)(k3:c3.answer.kind=5)(hw:w.zc=[⟨iV,true,0,false⟩])(hb:b.pins.length=2)(hx:x.current=1):
  th 10 [] [] (Bo true) []:=by
 have ml:(l.map jb).length=30:=(pz ..).trans hl;obtain⟨w1,w2,w3,w4,w5,w6,w7,w8⟩:=w;have hw:w6=[⟨iV,true,0,false⟩]:=hw;subst hw;obtain⟨x1,x2,x3,x4,x5,x6,x7,x8⟩:=x;have hx:x2=1:=hx;subst hx;have mb:(b.pins.map Go.Hy.encI).length=2:=(pz ..).trans hb;obtain⟨d1,d2,d3,d4,d5,⟨a1,a2,a3,a4,a5,a6,a7,a8⟩⟩:=c0;obtain⟨f1,f2,f3,f4,f5,⟨g1,g2,g3,g4,g5,g6,g7,g8⟩⟩:=c1;obtain⟨h1,h2,h3,h4,h5,⟨i1,i2,i3,i4,i5,i6,i7,i8⟩⟩:=c2;obtain⟨j1,j2,j3,j4,j5,⟨p1,p2,p3,p4,p5,p6,p7,p8⟩⟩:=c3;have k0:a1=1:=k0;have k1:g1=10:=k1;have t1:f1=1:=t1;have k2:i1=6:=k2;have k3:p1=5:=k3;subst k0 k1 t1 k2 k3;refine ab func10 ?_;refine af FJ ?_;refine af hP ?_;refine af hC ?_;refine af hE ?_;refine af FJ ?_;refine af hB ?_;refine .inr ⟨⟨[0,1,4],[2],false⟩,ak,λh=>absurd h aj,λt1 H1=>(t1=(.za::lq l:: .ref 0 [] 8 0 0::I 0::Fm [⟨d1,d2,d3,d4,d5,⟨1,a2,a3,a4,a5,a6,a7,a8⟩⟩,⟨1,f2,f3,f4,f5,⟨10,g2,g3,g4,g5,g6,g7,g8⟩⟩,⟨h1,h2,h3,h4,h5,⟨6,i2,i3,i4,i5,i6,i7,i8⟩⟩,⟨j1,j2,j3,j4,j5,⟨5,p2,p3,p4,p5,p6,p7,p8⟩⟩]::I 0:: .za::.za::I 1:: .ref 2 [] 8 0 0::I 0:: .ref 3 [] 8 0 0:: .ref 4 [] 13 0 0::I (3:Nat):: .za::.za::mL (jp (jp (jp (jp (mL (mL ([]))))))))/\H1=[oW ⟨w1,w2,w3,w4,w5,[⟨iV,true,0,false⟩],w7,w8⟩,oW zw,oW b,oW ⟨x1,1,x3,x4,x5,x6,x7,x8⟩,⟨1,55,13,[qY (⟨8,1,0,0,0,0,0,⟨0,0,0,0,0,0⟩⟩)],0⟩])\/(t1=(.za::lq l:: .ref 0 [] 8 0 0::I 0::Fm [⟨d1,d2,d3,d4,d5,⟨1,a2,a3,a4,a5,a6,a7,a8⟩⟩,⟨1,f2,f3,f4,f5,⟨10,g2,g3,g4,g5,g6,g7,g8⟩⟩,⟨h1,h2,h3,h4,h5,⟨6,i2,i3,i4,i5,i6,i7,i8⟩⟩,⟨j1,j2,j3,j4,j5,⟨5,p2,p3,p4,p5,p6,p7,p8⟩⟩]::I 0:: .za::.za::I 1:: .ref 2 [] 8 0 0::I 0:: .ref 4 [] 8 0 0:: .ref 3 [] 13 0 0::I (3:Nat):: .za::.za::mL (jp (jp (jp (jp (mL (mL ([]))))))))/\H1=[oW ⟨w1,w2,w3,w4,w5,[⟨iV,true,0,false⟩],w7,w8⟩,oW zw,oW b,⟨1,55,13,[qY (⟨8,1,0,0,0,0,0,⟨0,0,0,0,0,0⟩⟩)],0⟩,oW ⟨x1,1,x3,x4,x5,x6,x7,x8⟩]),?_,?_⟩
 .conv=>whnf
  repeat' (first|(exact trivial)|(refine⟨rfl,uH ?_⟩)|(refine⟨_,λH2 _=>FJ.frame V H2,uH ?_⟩)|(refine⟨_,λH2 _=>(show zb _ _ _ _ _ _ from hA).frame V H2,uH ?_⟩)|(exact⟨_,_,cC,.inl ⟨rfl,rfl⟩⟩)|(exact⟨_,_,cC,.inr ⟨rfl,rfl⟩⟩)|(refine And.intro ?_ ?_ <;> (conv=>whnf)))
 rintro _ _ (⟨rfl,rfl⟩|⟨rfl,rfl⟩)
 .conv=>whnf
  refine zcv ?_
  exact uI
 .conv=>whnf
  refine zcv ?_
  exact uI
def AL:Aq jM:=by
 refine⟨⟨⟨⟨aj,aj⟩,⟨aj,aj⟩,⟨aj,aj⟩⟩,aj,aj,ah⟩,λ_=>⟨⟨aj,aj⟩,⟨aj,aj⟩,⟨aj,aj⟩⟩,?_,?_,?_,?_⟩
 .intro l hl o ho
  have:o.config=⟨[],[],[]⟩:=by
   have hl:l=[ox,⟨2,[],[],[],0,0,0,⟨[],[],[]⟩⟩,ox]\/l=[⟨4,iV,[],[],0,0,0,⟨[],[],[]⟩⟩]:=ai hl
   rcases hl with rfl|rfl
   .have ho:o=ox\/o=⟨2,[],[],[],0,0,0,⟨[],[],[]⟩⟩\/o=ox:=by simpa using ho
    rcases ho with rfl|rfl|rfl <;> rfl
   .have ho:o=⟨4,iV,[],[],0,0,0,⟨[],[],[]⟩⟩:=by simpa using ho
    rw[ho]
  rw[this];exact⟨⟨aj,aj⟩,⟨aj,aj⟩,⟨aj,aj⟩⟩
 .intro x hx;have e:jL jM=[iV]:=by kernel_rfl
  rw[e]at hx;rw[rH.1 hx]
  decide
 .intro l hl o ho;have hl:l=[ox,⟨2,[],[],[],0,0,0,⟨[],[],[]⟩⟩,ox]\/l=[⟨4,iV,[],[],0,0,0,⟨[],[],[]⟩⟩]:=by simpa using hl
  have k:o=ox\/o=⟨2,[],[],[],0,0,0,⟨[],[],[]⟩⟩\/o=⟨4,iV,[],[],0,0,0,⟨[],[],[]⟩⟩:=by
   rcases hl with rfl|rfl
   .have ho:o=ox\/o=⟨2,[],[],[],0,0,0,⟨[],[],[]⟩⟩\/o=ox:=by simpa using ho
    rcases ho with rfl|rfl|rfl
    .exact .inl V
    .exact .inr (.inl V)
    .exact .inl V
   .have ho:o=⟨4,iV,[],[],0,0,0,⟨[],[],[]⟩⟩:=by simpa using ho
    exact .inr (.inr ho)
  rcases k with rfl|rfl|rfl
  .exact⟨aj,aj,aj,aj,λh=>absurd h aj⟩
  .exact⟨aj,aj,aj,aj,λh=>absurd h aj⟩
  .exact⟨aj,aj,aj,aj,λh=>absurd h aj⟩
 .intro p hp;obtain⟨i,hi,rfl⟩:=rp.1 hp;have:=sy.1 hi;unfold i64;omega
def NN:Aq AB:=by
 refine⟨⟨⟨⟨aj,aj⟩,⟨aj,aj⟩,⟨aj,aj⟩⟩,aj,aj,aj⟩,λ_=>⟨⟨aj,aj⟩,⟨aj,aj⟩,⟨aj,aj⟩⟩,λl hl=>(by cases hl),?_,λl hl=>(by cases hl),λp hp=>(by cases hp)⟩;intro x hx;have e:jL AB=[]:=ak
 rw[e]at hx;cases hx
end Go.Run
