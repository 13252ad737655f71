import Derived.Test.YtamgiodaflkbhaaGreatT6
import Derived.Test.YtamgiodaflkbhaaGreatT7
import Derived.Test.YtamgiodaflkbhaaGreatT8
import Derived.Test.YtamgiodaflkbhaaGreatT5
import Derived.Test.YtamgiodaflkbhaaGreatTF
import Derived.Test.YtamgiodaflkbhaaGreatT0
import Derived.Test.YtamgiodaflkbhaaGreatT1
set_option linter.all false
set_option maxRecDepth 100000
set_option maxHeartbeats 4000000
namespace Go.Ply
open Go.Ab Go.Proofs Tryz Go.Hy Go.Wor
variable{X:List fE}{t:Nat}{x:fE}
def T0{i:Nat}(x:fE)(h:t≠i):vi (X.set t x) i=vi X i:=by
 unfold vi;rw[pT h]
def Rl(x:fE)(h:t<X.length):vi (X.set t x) t=x.given:=by
 unfold vi;rw[gX h]
def Va(h:X[t]?=some x):vi X t=x.given:=by
 unfold vi;rw[h]
def VE(X:List fE)(t:Nat)(x:fE):(X.mapIdx (qe 1)).set t (qe 1 t x)=(X.set t x).mapIdx (qe 1):=by
 refine rh λi=>?_
 rw[rb,pd,pd,rb,List.length_mapIdx];by_cases h:t=i
 .subst h;rw[gS V,gS V];split <;> rfl
 .rw[gP h,gP h]
def VW{o:ft}{w w':Wor}{m':eQ}{e:e7}(hx:X[t]?=some x)(ho:x.ops[x.done]?=some o)(hX:X.length<=8)(hgn:x.given.length<=1000)(hdn:x.done<=1000)
 (hp:th 42 [] [.agg (xk w),.agg (lp (AW x t o))] (.eR [.agg (xk w'),.agg (lp m'),.agg (jY e)]) []):
  th 19 (m9 1 X) [.ref 0 [] 48 t 0,.agg (xk w),I t] (.eR [.agg (xk w'),.agg (jY (Hc e x))]) (m9 1 (X.set t (yH x m'))):=by
 have htl:=(gN.1 hx).1;have ga:=Va hx;have h8:t<8:=an
 have res:m9 1 (X.set t (yH x m'))=l6 X ⟨1,0,48,(X.mapIdx (qe 1)).set t (qe 1 t (yH x m')),0⟩ (nM (yH x m').given) [] t:=by
  have g:∀i,eS (X.set t (yH x m')) i=if t=i then nM (yH x m').given else eS X i:=λi=>by
   split
   .rename_i e;subst e;show eS _ t=_;unfold eS;rw[Rl _ htl]
   .rename_i e;unfold eS;rw[T0 _ e]
  rw[VE];unfold m9;rw[g 0,g 1,g 2,g 3,g 4,g 5,g 6,g 7];rcases eight h8 with rfl|rfl|rfl|rfl|rfl|rfl|rfl|rfl <;> rfl
 rw[Vi X h8,res,ga];obtain⟨ops,dn,on,m,given⟩:=x;cases on
 .exact Xs h8 X ops dn m given w w' _ m' e o hx hX hgn hdn ho (Beg.Fg t o given (by have h:given.length<=1000:=hgn;omega)) hp
 .exact Xt h8 X ops dn m given w w' m' e hx hX hgn hdn hp
end Go.Ply
namespace Go.Wor
open Go.Ab Go.Proofs Tryz Go.Gat Go.Nam Go.Hos Go.Con Go.Sna Go.Pla Go.Ply
open Go.Hy hiding encI
variable{s:ia}
structure BL(s:ia):Prop where
 wk:EK s
 cfg:nY s.first=true->jv s.first
 MG:∀l∈s.threads,∀o∈l,yf o.config
 names:∀x∈yj s,x.length<=reachBytes
 ops:∀l∈s.threads,∀o∈l,o.host.length<4000000000000/\o.path.length<4000000000000/\i64 o.d0/\i64 o.d1/\(o.kind=3->yf o.config)
 qT:∀p∈s.qT,i64 p
def wh(h:(jP s).2=0):iH s=true/\lM (qI s.first).1 (yj s) s.threads.length=((jP s).1,0):=by
 unfold jP at h|-;split at h
 .rename_i q;rw[gS q];exact⟨q,by rw[<-h]⟩
 .exact absurd (show(1:Int)=0 from h) aj
def Tu(h:iH s=true):(yj s).length<=600:=by
 obtain⟨p1,p2,p3,p4,p5,p6⟩:=kZ h;have a:=DJ [] (wa p1)
 have b:=Ct kB 64 s.threads (wF [] s.first) λl hl o=>by
  have hl2:=(p5 l hl).1;exact FG o hl2
 have c:yj s=s.threads.foldl kB (wF [] s.first):=rfl;rw[c];simp at a;omega
end Go.Wor
namespace Go.Run
open Go.Ab Go.Proofs Tryz Go.Hy Go.Gat Go.Nam Go.Hos Go.Con
def Hv(o:ft):Bool:=iB o.config || (decide (100<o.host.length) || decide (100<o.path.length))
def MF(l:List ft):Bool:=decide (40<l.length) || l.any Hv
def ME(s:ia):Bool:=iB s.first || decide (20<s.threads.length) || decide (5000<s.qT.length) || s.threads.any MF
structure X5(s:ia):Prop where
 first:s.first.zc.length<4000000000000000000/\s.first.zK.length<4000000000000000000/\s.first.zi.length<4000000000000000000
 threads:s.threads.length<4000000000000000000
 ops:∀l∈s.threads,l.length<4000000000000000000
 cfg:∀l∈s.threads,∀o∈l,o.config.zc.length<4000000000000000000/\o.config.zK.length<4000000000000000000/\o.config.zi.length<4000000000000000000
end Go.Run
namespace Go.Run
open Go.Ab Go.Proofs Tryz Go.Gat Go.Nam Go.Hos Go.Con Go.Sna Go.Pla Go.Ply Go.Wor
open Go.Hy hiding encI
abbrev iw:eU:=[105,110]
abbrev Dd:fC:=⟨[iw],[⟨iw,[42],[47],[97]⟩],[⟨[97],1,1,[true]⟩]⟩
abbrev nB:ft:=⟨1,iw,[120],[47],0,0,0,⟨[],[],[]⟩⟩
abbrev vo(k:Nat):List Int:=(List.range k).map λi=>((i / 10:Nat):Int)
abbrev Xh(k:Nat):ia:=⟨Dd,[[nB,⟨2,[],[],[],0,0,0,⟨[],[],[]⟩⟩,nB],[⟨4,iw,[],[],0,0,0,⟨[],[],[]⟩⟩]],vo k⟩
abbrev jG:ia:=Xh 60
def B6(k:Int)(l h p:eU):List C:=[I k,Tx l,Tx h,Tx p,I 0,I 0,I 0,.eM 1 0 [],.eM 1 0 [],.eM 1 0 []]
def EG:List C:=[.eM 1 1 [[Tx iw]],.eM 1 4 [[Tx iw,Tx [42],Tx [47],Tx [97]]],.eM 1 4 [[Tx [97],I 1,I 1,.eM 1 1 [[Bo true]]]]]
def BX(p:C):List C:=EG++[.eM 1 1 [[.eM 1 10 [B6 1 iw [120] [47],B6 2 [] [] [],B6 1 iw [120] [47]]],[.eM 1 10 [B6 4 iw [] []]]],p]
def PO(k:Nat):vo (k+1)=vo k++[((k / 10:Nat):Int)]:=by
 unfold vo;rw[ua,pZ]
 rfl
def Fc:th 32 [] [] (.agg (BX (lI (vo 60)))) []:=by
 refine ab func32 ?_;refine zH.seq 60 (λk=>(.ref 0 [] 5 0 0::.za::.za::.ref 3 [] 5 0 0::I k::mK (mK (mK ([.za,.za,.za,.za,.za]))))) (λk=>[⟨1,30,5,[[.eM 1 0 [],.eM 1 0 [],.eM 1 0 [],.eM 1 0 [],.eM 1 0 []]],0⟩,⟨1,26,3,[EG],0⟩,⟨1,48,10,[B6 1 iw [120] [47]],0⟩,⟨1,30,5,[BX (.gl 4 1 ((vo k).map Go.Hy.encI))],0⟩,⟨4,3,1,(vo k).map Go.Hy.encI,0⟩]) (λ_=>True) ?_ trivial (λk hk _=>?_) (λ_=>?_)
 .exact(zk.qM 3 4 3 1 V V (.inl V) V V).trans (cC)
 .have mp:((vo k).map Go.Hy.encI).length=k:=by simp
  conv=>whnf
  refine uF ?_;refine⟨rfl,.inr V,by rw[mp];simp[maxLen];omega,by rw[mp];show _*8<=_;simp;omega,dd ?_⟩;refine zai ?_
  have e:IntKind.i64.wrap ((k:Int).tdiv 10)=((k / 10:Nat):Int):=by
   have:(k:Int).tdiv 10=((k / 10:Nat):Int):=rfl;rw[this,jB an an]
  have e2:(vo k).map Go.Hy.encI++[[I ((k / 10:Nat):Int)]]=(vo (k+1)).map Go.Hy.encI:=by rw[PO,pZ];rfl
  rw[zm an,e,e2];exact cC
 .refine uD ?_;exact uI
abbrev o4:ia:=⟨⟨[],[],[]⟩,[],[]⟩
abbrev mY(c:fC):ft:=⟨3,[],[],[],0,0,0,c⟩
def PS{l:List e7}{w b x zw:Wor}{c0 c1 c2 c3:Cal}(hP:th 6 [] [.agg (BX (lI (vo 60)))] (.eR [mX l,.agg (xk w),I 0]) [])(hl:l.length=30)(hC:th 33 [] [mX l] (.eR [EB [c0,c1,c2,c3],I 0]) [])
 (hE:th 6 [] [.agg [.eM 1 0 [],.eM 1 0 [],.eM 1 0 [],.eM 1 0 [],.eM 1 0 []]] (.eR [mX [],.agg (xk zw),I 1]) [])(hB:th 8 [] [.agg (BX (lI (vo 60)))] (.eR [.agg (xk b),I 0]) [])
 (hA:th 15 [] [.agg (xk b),I 0,.agg ([I 3,Tx [],Tx [],Tx [],I 0,I 0,I 0]++EG),.eM 1 0 []] (.eR [.agg (xk x),.agg (jr ⟨8,1,0,0,0,0,0,⟨0,0,0,0,0,0⟩⟩),I (3:Nat)]) [])
 (hN:th 15 [] [.agg (xk b),I 9,.agg [I 3,Tx [],Tx [],Tx [],I 0,I 0,I 0,.eM 1 0 [],.eM 1 0 [],.eM 1 0 []],.eM 1 0 []] (.eR [.agg (xk b),.agg (jr ⟨0,0,0,0,0,0,0,⟨0,0,0,0,0,0⟩⟩),I 0]) [])
 (hH:th 34 [] [.agg (xk w)] (I (0:Nat)) [])(k0:c0.answer.kind=1)(k1:c1.answer.kind=10)(t1:c1.zl=1)(k2:c2.answer.kind=6)(k3:c3.answer.kind=5)(hw:w.zc=[⟨iw,true,0,false⟩])(hb:b.pins.length=2)(hx:x.current=1):
  th 10 [] [] (Bo true) []:=by
 have ml:(l.map jY).length=30:=(gO ..).trans hl;obtain⟨w1,w2,w3,w4,w5,w6,w7,w8⟩:=w;have hw:w6=[⟨iw,true,0,false⟩]:=hw;subst hw;obtain⟨x1,x2,x3,x4,x5,x6,x7,x8⟩:=x;have hx:x2=1:=hx;subst hx;have mb:(b.pins.map Go.Hy.encI).length=2:=(gO ..).trans hb;obtain⟨d1,d2,d3,d4,d5,⟨a1,a2,a3,a4,a5,a6,a7,a8⟩⟩:=c0;obtain⟨f1,f2,f3,f4,f5,⟨g1,g2,g3,g4,g5,g6,g7,g8⟩⟩:=c1;obtain⟨h1,h2,h3,h4,h5,⟨i1,i2,i3,i4,i5,i6,i7,i8⟩⟩:=c2;obtain⟨j1,j2,j3,j4,j5,⟨p1,p2,p3,p4,p5,p6,p7,p8⟩⟩:=c3;have k0:a1=1:=k0;have k1:g1=10:=k1;have t1:f1=1:=t1;have k2:i1=6:=k2;have k3:p1=5:=k3;subst k0 k1 t1 k2 k3;refine ab func10 ?_;refine af Fc ?_;refine af hP ?_;refine af hC ?_;refine af hE ?_;refine af Fc ?_;refine af hB ?_;refine .inr ⟨⟨[0,1,4],[2],false⟩,ak,λh=>absurd h aj,λt1 H1=>(t1=(.za::mX l:: .ref 0 [] 8 0 0::I 0::EB [⟨d1,d2,d3,d4,d5,⟨1,a2,a3,a4,a5,a6,a7,a8⟩⟩,⟨1,f2,f3,f4,f5,⟨10,g2,g3,g4,g5,g6,g7,g8⟩⟩,⟨h1,h2,h3,h4,h5,⟨6,i2,i3,i4,i5,i6,i7,i8⟩⟩,⟨j1,j2,j3,j4,j5,⟨5,p2,p3,p4,p5,p6,p7,p8⟩⟩]::I 0:: .za::.za::I 1:: .ref 2 [] 8 0 0::I 0:: .ref 3 [] 8 0 0:: .ref 4 [] 13 0 0::I (3:Nat):: .za::.za::mK (jp (jp (jp (jp (mK (mK ([]))))))))/\H1=[oW ⟨w1,w2,w3,w4,w5,[⟨iw,true,0,false⟩],w7,w8⟩,oW zw,oW b,oW ⟨x1,1,x3,x4,x5,x6,x7,x8⟩,⟨1,55,13,[jr (⟨8,1,0,0,0,0,0,⟨0,0,0,0,0,0⟩⟩)],0⟩])\/(t1=(.za::mX l:: .ref 0 [] 8 0 0::I 0::EB [⟨d1,d2,d3,d4,d5,⟨1,a2,a3,a4,a5,a6,a7,a8⟩⟩,⟨1,f2,f3,f4,f5,⟨10,g2,g3,g4,g5,g6,g7,g8⟩⟩,⟨h1,h2,h3,h4,h5,⟨6,i2,i3,i4,i5,i6,i7,i8⟩⟩,⟨j1,j2,j3,j4,j5,⟨5,p2,p3,p4,p5,p6,p7,p8⟩⟩]::I 0:: .za::.za::I 1:: .ref 2 [] 8 0 0::I 0:: .ref 4 [] 8 0 0:: .ref 3 [] 13 0 0::I (3:Nat):: .za::.za::mK (jp (jp (jp (jp (mK (mK ([]))))))))/\H1=[oW ⟨w1,w2,w3,w4,w5,[⟨iw,true,0,false⟩],w7,w8⟩,oW zw,oW b,⟨1,55,13,[jr (⟨8,1,0,0,0,0,0,⟨0,0,0,0,0,0⟩⟩)],0⟩,oW ⟨x1,1,x3,x4,x5,x6,x7,x8⟩]),?_,?_⟩
 .conv=>whnf
  repeat' (first|(exact trivial)|(refine⟨rfl,uH ?_⟩)|(refine⟨_,λH2 _=>Fc.frame V H2,uH ?_⟩)|(refine⟨_,λH2 _=>(show zb _ _ _ _ _ _ from hA).frame V H2,uH ?_⟩)|(exact⟨_,_,cC,.inl ⟨rfl,rfl⟩⟩)|(exact⟨_,_,cC,.inr ⟨rfl,rfl⟩⟩)|(refine And.intro ?_ ?_ <;> (conv=>whnf)))
 rintro _ _ (⟨rfl,rfl⟩|⟨rfl,rfl⟩)
 .conv=>whnf
  refine zcg ?_
  exact uI
 .conv=>whnf
  refine zcg ?_
  exact uI
def Ac:BL jG:=by
 refine⟨⟨⟨⟨aj,aj⟩,⟨aj,aj⟩,⟨aj,aj⟩⟩,aj,aj,ah⟩,λ_=>⟨⟨aj,aj⟩,⟨aj,aj⟩,⟨aj,aj⟩⟩,?_,?_,?_,?_⟩
 .intro l hl o ho
  have:o.config=⟨[],[],[]⟩:=by
   have hl:l=[nB,⟨2,[],[],[],0,0,0,⟨[],[],[]⟩⟩,nB]\/l=[⟨4,iw,[],[],0,0,0,⟨[],[],[]⟩⟩]:=ai hl
   rcases hl with rfl|rfl
   .have ho:o=nB\/o=⟨2,[],[],[],0,0,0,⟨[],[],[]⟩⟩\/o=nB:=by simpa using ho
    rcases ho with rfl|rfl|rfl <;> rfl
   .have ho:o=⟨4,iw,[],[],0,0,0,⟨[],[],[]⟩⟩:=by simpa using ho
    rw[ho]
  rw[this];exact⟨⟨aj,aj⟩,⟨aj,aj⟩,⟨aj,aj⟩⟩
 .intro x hx;have e:yj jG=[iw]:=by kernel_rfl
  rw[e]at hx;rw[pX.1 hx]
  decide
 .intro l hl o ho;have hl:l=[nB,⟨2,[],[],[],0,0,0,⟨[],[],[]⟩⟩,nB]\/l=[⟨4,iw,[],[],0,0,0,⟨[],[],[]⟩⟩]:=by simpa using hl
  have k:o=nB\/o=⟨2,[],[],[],0,0,0,⟨[],[],[]⟩⟩\/o=⟨4,iw,[],[],0,0,0,⟨[],[],[]⟩⟩:=by
   rcases hl with rfl|rfl
   .have ho:o=nB\/o=⟨2,[],[],[],0,0,0,⟨[],[],[]⟩⟩\/o=nB:=by simpa using ho
    rcases ho with rfl|rfl|rfl
    .exact .inl V
    .exact .inr (.inl V)
    .exact .inl V
   .have ho:o=⟨4,iw,[],[],0,0,0,⟨[],[],[]⟩⟩:=by simpa using ho
    exact .inr (.inr ho)
  rcases k with rfl|rfl|rfl
  .exact⟨aj,aj,aj,aj,λh=>absurd h aj⟩
  .exact⟨aj,aj,aj,aj,λh=>absurd h aj⟩
  .exact⟨aj,aj,aj,aj,λh=>absurd h aj⟩
 .intro p hp;obtain⟨i,hi,rfl⟩:=pO.1 hp;have:=rS.1 hi;unfold i64;omega
def M5:BL o4:=by
 refine⟨⟨⟨⟨aj,aj⟩,⟨aj,aj⟩,⟨aj,aj⟩⟩,aj,aj,aj⟩,λ_=>⟨⟨aj,aj⟩,⟨aj,aj⟩,⟨aj,aj⟩⟩,λl hl=>(by cases hl),?_,λl hl=>(by cases hl),λp hp=>(by cases hp)⟩;intro x hx;have e:yj o4=[]:=ak
 rw[e]at hx;cases hx
end Go.Run
