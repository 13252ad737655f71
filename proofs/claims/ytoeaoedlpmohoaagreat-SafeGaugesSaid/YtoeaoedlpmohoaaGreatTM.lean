import Derived.Test.YtoeaoedlpmohoaaGreatTL
import Derived.Test.YtoeaoedlpmohoaaGreatTP
import Derived.Test.YtoeaoedlpmohoaaGreatTJ
import Derived.Test.YtoeaoedlpmohoaaGreatShf
set_option linter.all false
set_option maxRecDepth 100000
set_option maxHeartbeats 4000000
namespace Go.Cal
open Go.Ab Go.Proofs Tryz Go.Hy
def ZV(l:List fk):(ib l).1.length<=l.length:=by
 unfold ib;cases h:vA l l.length with
 |none=>exact gV _
 |some b=>exact(FZ h).2
end Go.Cal
namespace Go.Saf
open Go.Ab Go.Proofs Tryz Go.Hy Go.Pla
abbrev Ce(e:fk):C:=.agg (jO e)
def i5(b:Nat->Bool):Nat->Nat
 |0=>0
 |k+1=>i5 b k+if b k then 1 else 0
def I0(b:Nat->Bool):∀k,i5 b k<=k
 |0=>gC _
 |k+1=>by have:=I0 b k;unfold i5;split <;> omega
def RX(l:List fk)(f:FuncId)(b:Nat->Bool)(hl:l.length<1000000000000)(hcb:qp prog f=true)(hp:∀(i:Nat) (e:fk),l[i]?=some e->tj f [] [I i,Ce e] (Bo (b i)) []):
  tj 45 [] [iK l,.fn f [] []] (I (i5 b l.length:Nat)) []:=by
 have m1:(l.map jO).length=l.length:=gu ..;refine ab func45 ?_;rw[m1];refine qe.seq l.length (λk=>((iK l)::.fn f [] []::.za::.za::I 0::I (i5 b k:Nat)::.za::.za::(iK l)::I l.length::I k::tZ ([.za,.za,.za,.za]))) (λk=>[]) (λ_=>True) ?_ trivial (λk hk _=>?_) (λ_=>?_)
 ·exact cC
 ·have hq:l[k]?=some l[k]:=dX hk;generalize l[k]=e at hq;have gq:(l.map jO)[k]?=some (jO e):=by rw[gf,hq];rfl
  have hc:=I0 b k;conv=>whnf
  refine uF ?_;refine⟨aw,_,gq,dd ?_⟩;rw[hcb];refine ah (hp k e hq) ?_;refine⟨λh1=>?_,λh1=>?_⟩
  ·refine dd ?_;have e1:i5 b (k+1)=i5 b k+1:=by show i5 b k+_=_;rw[h1];rfl
   refine .inl ⟨rfl,?_,trivial⟩;rw[zw aw,zw aw,e1];exact cE 0
  ·refine dd ?_;have e1:i5 b (k+1)=i5 b k:=by show i5 b k+_=_;rw[h1];rfl
   refine .inl ⟨rfl,?_,trivial⟩;rw[zw aw,e1];exact cE 0
 ·conv=>whnf
  refine⟨λh=>absurd h aj,λ_=>dd ?_⟩;refine⟨aj,uH ?_⟩;exact uI
def La(l:List fk)(f:FuncId)(b:Nat->Bool)(bb ty:Nat)(es:Nat->Array MapEntry)(ck:Nat->Nat)(hl:l.length<1000000000000)(hcb:qp prog f=true)
 (hp:∀(i:Nat) (e:fk),l[i]?=some e->tj f [fQ bb (es i) (ck i),⟨1,ty,1,[[.v (.map (some bb))]],0⟩] [I i,Ce e,.ref 1 [] 1 0 0] (Bo (b i)) [fQ bb (es (i+1)) (ck (i+1)),⟨1,ty,1,[[.v (.map (some bb))]],0⟩]):
  tj 45 [fQ bb (es 0) (ck 0),⟨1,ty,1,[[.v (.map (some bb))]],0⟩] [iK l,.fn f [] [.ref 1 [] 1 0 0]] (I (i5 b l.length:Nat)) [fQ bb (es l.length) (ck l.length),⟨1,ty,1,[[.v (.map (some bb))]],0⟩]:=by
 have m1:(l.map jO).length=l.length:=gu ..;refine zb.zL (fn:=f45) func45 J (uH ?_);rw[m1];refine qe.seq l.length (λk=>((iK l)::.fn f [] [.ref 1 [] 1 0 0]::.za::.za::I 0::I (i5 b k:Nat)::.za::.za::(iK l)::I l.length::I k::tZ ([.za,.za,.za,.za]))) (λk=>[fQ bb (es k) (ck k),⟨1,ty,1,[[.v (.map (some bb))]],0⟩]) (λ_=>True) ?_ trivial (λk hk _=>?_) (λ_=>?_)
 ·exact cC
 ·have hq:l[k]?=some l[k]:=dX hk;generalize l[k]=e at hq;have gq:(l.map jO)[k]?=some (jO e):=by rw[gf,hq];rfl
  have hc:=I0 b k;conv=>whnf
  refine uF ?_;refine⟨aw,_,gq,dd ?_⟩;rw[hcb];refine af [0,1] (hp k e hq) ?_;refine⟨λh1=>?_,λh1=>?_⟩
  ·refine dd ?_;have e1:i5 b (k+1)=i5 b k+1:=by show i5 b k+_=_;rw[h1];rfl
   refine .inl ⟨rfl,?_,trivial⟩;rw[zw aw,zw aw,e1];exact cE 2
  ·refine dd ?_;have e1:i5 b (k+1)=i5 b k:=by show i5 b k+_=_;rw[h1];rfl
   refine .inl ⟨rfl,?_,trivial⟩;rw[zw aw,e1];exact cE 2
 ·conv=>whnf
  refine⟨λh=>absurd h aj,λ_=>dd ?_⟩;refine⟨aj,uH ?_⟩;exact uJ
def oV(e:fk):Bool:=decide (e.access=2) && decide (e.cell=12)
def LQ(e:fk):tj 48 [] [Ce e] (Bo (oV e)) []:=by
 refine ab func48 ?_;refine⟨λh1=>?_,λh1=>?_⟩
 ·refine dd ?_;refine⟨λh2=>?_,λh2=>?_⟩
  ·refine dd ?_
   (exact⟨.inl J,_,.refl _,uN (by unfold oV;simp at h1 h2 ⊢;simp[h1,h2])⟩)
  ·refine dd ?_
   (exact⟨.inl J,_,.refl _,uN (by unfold oV;simp at h1 h2 ⊢;simp[h1,h2])⟩)
 ·refine dd ?_
  (exact⟨.inl J,_,.refl _,uN (by unfold oV;simp at h1 ⊢;simp[h1])⟩)
def Sg(i:Nat)(e:fk):tj 46 [] [I i,Ce e] (Bo e.zW) []:=by
 refine ab func46 ?_;refine⟨λh1=>?_,λh1=>?_⟩ <;> refine dd ?_
 ·(exact⟨.inl J,_,.refl _,uN (by exact h1.symm)⟩)
 ·(exact⟨.inl J,_,.refl _,uN (by exact h1.symm)⟩)
def od(l:List fk)(i:Nat):fk:=(l[i]?).getD ⟨0,0,0,0,0,false,0,false,false,false,⟨0,0,0,0,0,0,0,vq⟩⟩
def Jt{l:List fk}{i:Nat}{e:fk}(h:l[i]?=some e):od l i=e:=by unfold od;rw[h];rfl
def Pv(l:List fk):Nat:=i5 (λi=>(od l i).zW) l.length
def RF(l:List fk)(hl:l.length<1000000000000):tj 19 [] [iK l] (I (Pv l)) []:=by
 refine ab func19 ?_;refine ah (RX l 46 (λi=>(od l i).zW) hl au (λi e h=>(by rw[Jt h];exact Sg i e))) ?_;exact uI
def vB(l:List Int):List (Int×Value):=l.map λx=>(x,.bool true)
def nB(l:List Int)(x:Int):List Int:=if x∈l then l else l++[x]
def JK(l:List Int):(vB l).length=l.length:=by simp[vB]
def OX(l:List Int)(x:Int):jg (vB l) x=l.findIdx? λy=>decide (y=x):=by
 unfold jg vB;rw[rS]
 rfl
def zyd(l:List Int)(x:Int):yn (vB l) x (.bool true)=vB (nB l x):=by
 unfold yn nB;rw[OX];cases h:l.findIdx? λy=>decide (y=x) with
 |none=>
  rw[gS]at h;have:x∉l:=λhx=>by have:=h x hx;simp at this
  rw[dZ this];simp[vB]
 |some i=>
  obtain⟨h1,h2,_⟩:=gK.1 h;have e:l[i]=x:=aq h2
  rw[gh (e ▸ gU h1)];dsimp only;apply pq
  intro j;rw[gD];split
  ·rename_i hij;subst hij;simp[vB,h1,e]
  ·rfl
def zxJ(l:List Int)(x:Int):(((jg (vB l) x).bind λi=>((vB l)[i]?).map (·.2)).getD (.bool false))=.bool (decide (x∈l)):=by
 rw[OX];cases h:l.findIdx? λy=>decide (y=x) with
 |none=>
  rw[gS]at h;have:x∉l:=λhx=>by have:=h x hx;simp at this
  simp[this]
 |some i=>
  obtain⟨h1,h2,_⟩:=gK.1 h;have e:l[i]=x:=aq h2
  simp[vB,h1,e ▸ gU h1]
def Di(l:List fk):Nat->List Int
 |0=>[]
 |k+1=>if oV (od l k) then nB (Di l k) (od l k).value else Di l k
def KL(l:List fk)(i:Nat):Bool:=oV (od l i) && decide ((od l i).value∈Di l i)
def Px(l:List fk):Nat:=i5 (KL l) l.length
def mD:mi prog 3 zT:=.int underlying3
def Sh(i bb:Nat)(e:fk)(s:List Int):tj 47 [fQ bb (jQ zT (vB (s))) (s).length,⟨1,125,1,[[.v (.map (some bb))]],0⟩] [I i,Ce e,.ref 1 [] 1 0 0] (Bo (oV e && decide (e.value∈s))) [fQ bb (jQ zT (vB (if oV e then nB s e.value else s))) (if oV e then nB s e.value else s).length,⟨1,125,1,[[.v (.map (some bb))]],0⟩]:=by
 refine zb.zL (fn:=f47) func47 J (uH ?_);refine ah (LQ e) ?_;refine⟨λh1=>?_,λh1=>?_⟩
 ·rw[h1];refine dd ?_;refine⟨_,_,fy.lookup (id:=0) _ _ _ J underlying125 mD (by rw[JK];rfl) J (e.value) (λE u h=>je h) J J (λE=>by rw[zxJ];exact .v _ J),dd ?_⟩;refine⟨_,_,fy.mapUpdate (id:=0) _ _ _ _ (.inl J) underlying125 mD (by rw[JK];rfl) J (e.value) (λE u h=>je h) (.bool true) (λE u h=>je h),dd ?_⟩;rw[zyd,JK];cases hd:decide (e.value∈s) with
  |true=>exact⟨.inl J,⟨(.za::.za::.za::.za::.za::Bo true::tZ ([.za,.za,.za,.za])),_⟩,cE 2,rfl,rfl⟩
  |false=>exact⟨.inl J,⟨(.za::.za::.za::.za::.za::Bo false::tZ ([.za,.za,.za,.za])),_⟩,cE 2,rfl,rfl⟩
 ·rw[h1];refine dd ?_;exact⟨.inl J,⟨(.za::.za::.za::.za::.za::Bo false::tZ ([.za,.za,.za,.za])),_⟩,cE 2,rfl,rfl⟩
def S6(l:List fk)(hl:l.length<1000000000000):tj 20 [] [iK l] (I (Px l)) []:=by
 refine ab func20 ?_;intro bb;refine dd ?_
 have h:=La l 47 (KL l) bb 125 (λi=>jQ zT (vB (Di l i))) (λi=>(Di l i).length) hl au λi e h=>(by
  have:=Sh i bb e (Di l i);rw[<-Jt h]at this ⊢;exact this)
 refine⟨_,_,h,dd ?_⟩;exact uI
abbrev Hs:=List (Int×Int×Nat)
def eE(h:Hs):List im:=h.map λx=>(x.1,zT x.2.1,x.2.2)
def og(h:Hs)(t:Int):Option Nat:=h.findIdx? λx=>decide (x.1=t)
def D4(h:Hs)(t:Int):xt (eE h) t=og h t:=by
 unfold xt eE og;rw[rS]
 rfl
def Cd(e:fk):Bool:=decide (e.access=1) && decide (e.cell=3)
def AR(h:Hs)(k:Nat)(t v:Int):Hs×Nat:=match og h t with
 |some i=>(h.set i (t,v,((h[i]?).getD (0,0,0)).2.2),k)
 |none=>(h++[(t,v,k)],k+1)
def n7(h:Hs)(t:Int):Hs:=match og h t with
 |some i=>h.eraseIdx i
 |none=>h
def jW(s:Hs×Nat)(e:fk):Hs×Nat:=if Cd e then AR s.1 s.2 e.zf e.value else s
def jV(s:Hs×Nat)(e:fk):Hs×Nat:=if e.done then (n7 s.1 e.zf,s.2) else s
def Am(l:List fk):Nat->Hs×Nat
 |0=>([],0)
 |k+1=>jV (jW (Am l k) (od l k)) (od l k)
def Ej(h:Hs)(v:Int):Bool:=h.any λx=>decide (x.2.1=v)
def P8(l:List fk)(i:Nat):Bool:=oV (od l i) && Ej (Am l i).1 (od l i).value
def Pd(l:List fk):Nat:=i5 (P8 l) l.length
structure mK(h:Hs)(k:Nat):Prop where
 lt:∀x∈h,x.2.2<k
 st:(h.map (·.2.2)).Nodup
 key:(h.map (·.1)).Nodup
def IE{h:Hs}{t:Int}{i:Nat}(e:og h t=some i):∃x,h[i]?=some x/\x.1=t:=by
 obtain⟨h1,h2,_⟩:=gK.1 e;exact⟨h[i],dX h1,aq h2⟩
def XD{h:Hs}{t:Int}(e:og h t=none):∀x∈h,x.1≠t:=λx hx=>by
 unfold og at e;rw[gS]at e;simpa using e x hx
def wE{α β:Type}(f:α->β){l:List α}{i:Nat}{x y:α}(hx:l[i]?=some x)(he:f y=f x):(l.set i y).map f=l.map f:=by
 apply pq
 intro j;rw[gf,gD,gf];split
 ·rename_i e;subst e;rw[gh (dW.1 hx).1,hx];simp[he]
 ·rfl
def mK.put{h:Hs}{k:Nat}(o:mK h k)(t v:Int):mK (AR h k t v).1 (AR h k t v).2:=by
 unfold AR;cases e:og h t with
 |some i=>
  obtain⟨x,hx,hxt⟩:=IE e;dsimp only;rw[hx];dsimp only[Option.getD_some];refine⟨λy hy=>?_,?_,?_⟩
  ·rcases pw hy with h1|rfl
   ·exact o.lt y h1
   ·exact o.lt x (dY hx)
  ·rw[wE (y:=(t,v,x.2.2)) (·.2.2) hx J];exact o.st
  ·rw[wE (y:=(t,v,x.2.2)) (·.1) hx hxt.symm];exact o.key
 |none=>
  dsimp only;refine⟨λy hy=>?_,?_,?_⟩
  ·rcases gY.1 hy with h1|h1
   ·have:=o.lt y h1;omega
   ·simp at h1;subst h1;simp
  ·rw[pE,uu];refine⟨o.st,aj,?_⟩;intro a ha b hb;simp at hb;subst hb;obtain⟨x,hx,rfl⟩:=gR.1 ha;have:=o.lt x hx;omega
  ·rw[pE,uu];refine⟨o.key,aj,?_⟩;intro a ha b hb;simp at hb;subst hb;obtain⟨x,hx,rfl⟩:=gR.1 ha;exact XD e x hx
def mK.del{h:Hs}{k:Nat}(o:mK h k)(t:Int):mK (n7 h t) k:=by
 unfold n7;cases e:og h t with
 |none=>exact o
 |some i=>
  dsimp only;have hs:=List.eraseIdx_sublist h i;exact⟨λx hx=>o.lt x (hs.subset hx),(hs.map _).nodup o.st,(hs.map _).nodup o.key⟩
def mK.load{s:Hs×Nat}(o:mK s.1 s.2)(e:fk):mK (jW s e).1 (jW s e).2:=by
 unfold jW;split
 ·exact o.put _ _
 ·exact o
def mK.done{s:Hs×Nat}(o:mK s.1 s.2)(e:fk):mK (jV s e).1 (jV s e).2:=by
 unfold jV;split
 ·exact o.del _
 ·exact o
def O3(l:List fk):∀k,mK (Am l k).1 (Am l k).2
 |0=>⟨by simp[Am],by simp[Am],by simp[Am]⟩
 |k+1=>((O3 l k).load _).done _
def zxH{h:Hs}{j:Nat}{x:im}(hx:(eE h)[j]?=some x):∃y,h[j]?=some y/\x=(y.1,zT y.2.1,y.2.2):=by
 unfold eE at hx;rw[gf]at hx;cases hy:h[j]? with
 |none=>rw[hy]at hx;cases hx
 |some y=>rw[hy]at hx;cases hx;exact⟨y,rfl,rfl⟩
def BJ{P:Program}{o:Oper}{ρ:Operand->C}{H:zm}{kt et:TypeId}(cl:Call)(ho:o.op=.call cl)(hcl:cl.callee=.builtin .delete){m x:Operand}{tm tk:TypeId}(ha:cl.args= #[m,x])(hat:cl.argTypes= #[tm,tk])(ht:P.underlying tm=some (.map kt et))(hu:P.underlying kt=some (.int .i64)){id b k:Nat}{h:Hs}(hob:H[id]?=some (fQ b (jU (eE h)) k))
 (hm:ρ m=.v (.map (some b))){kx:Int}(hx:ρ x=.v (.int .i64 kx)){R:C->zm->Prop}(h1:R .un (H.set id (fQ b (jU (eE (n7 h kx))) k))):qT P o ρ H R:=by
 refine qT.V0 cl ho hcl ha hat ht hu hob hm hx ?_;rw[D4];unfold n7 at h1;cases hf:og h kx with
 |none=>rw[hf]at h1;exact h1
 |some i=>rw[hf]at h1;rw[show(eE (h.eraseIdx i))=(eE h).eraseIdx i from(Hq _ _ _).symm]at h1;exact h1
def Bn(h:Hs)(seen:Array Nat)(v:Int):Bool:=h.any λx=>seen.contains x.2.2 && decide (x.2.1=v)
def UA{h:Hs}{k:Nat}(ok:mK h k)(seen:Array Nat){y:Int×Int×Nat}(hy:y∈h)(v:Int):Bn h (seen.push y.2.2) v=(Bn h seen v || decide (y.2.1=v)):=by
 unfold Bn;rw[se];simp only[p9,pX,gA,gH,Array.contains_eq_mem,Array.mem_push];constructor
 ·rintro⟨x,hx,h1|h1,h2⟩
  ·exact .inl ⟨x,hx,h1,h2⟩
  ·obtain⟨i,hi⟩:=gE.1 hx;obtain⟨j,hj⟩:=gE.1 hy;have hil:=(dW.1 hi).1;have hjl:=(dW.1 hj).1;have hst:=uf.1 ok.st;rw[dX hil]at hi;rw[dX hjl]at hj;have hi':=gp hi;have hj':=gp hj
   have:i=j:=by
    rcases rO i j with fj|heq|fj
    ·exact(hst i j (aq hil) (aq hjl) fj (by simp only[u5];rw[hi',hj'];exact h1)).elim
    ·exact heq
    ·exact(hst j i (aq hjl) (aq hil) fj (by simp only[u5];rw[hi',hj'];exact h1.symm)).elim
   subst this;rw[hi']at hj';subst hj';exact .inr h2
 ·rintro(⟨x,hx,h1,h2⟩|h2)
  ·exact⟨x,hx,.inl h1,h2⟩
  ·exact⟨y,hy,.inr J,h2⟩
def Wo{h:Hs}(seen:Array Nat){y:Int×Int×Nat}(hy:y∈h)(hs:seen.contains y.2.2=false):(h.filter λx=>!(seen.push y.2.2).contains x.2.2).length<(h.filter λx=>!seen.contains x.2.2).length:=by
 have e:(h.filter λx=>!(seen.push y.2.2).contains x.2.2)=(h.filter λx=>!seen.contains x.2.2).filter λx=>!(x.2.2 == y.2.2):=by
  rw[List.filter_filter];refine eP λx _=>?_
  rw[se];simp[Array.mem_push,not_or,and_comm]
 rw[e];refine ua.2 ⟨y,?_,aj⟩;rw[eu];exact⟨hy,aq hs⟩
def R2(i bb:Nat)(e:fk)(h:Hs)(k:Nat)(ok:mK h k):tj 49 [fQ bb (jU (eE (h))) (k),⟨1,117,1,[[.v (.map (some bb))]],0⟩] [I i,Ce e,.ref 1 [] 1 0 0] (Bo (oV e && Ej h e.value)) [fQ bb (jU (eE ((jV (jW (h,k) e) e).1))) ((jV (jW (h,k) e) e).2),⟨1,117,1,[[.v (.map (some bb))]],0⟩]:=by
 refine zb.zL (fn:=f49) func49 J (uH ?_);refine ah (LQ e) ?_;refine⟨λh1=>?_,λh1=>?_⟩
 ·rw[h1];refine dd ?_;refine qT.rangeMap (id:=0) _ _ J J J J ?_;intro r;refine dd ?_;refine qe.inv (λn t1 H1=>∃seen:Array Nat,n=(h.filter λx=>!seen.contains x.2.2).length/\t1=(I i::(Ce e)::.ref 1 [] 1 0 0::.za::.ref 2 [] 23 0 0::Bo false::Bo (Bn h seen e.value)::.za::.za::.za::.za::.za::.v (.pointer (some ⟨r,0,none⟩))::tZ (tZ (tZ ([.za,.za,.za,.za,.za,.za]))))/\H1=[fQ bb (jU (eE (h))) (k),⟨1,117,1,[[.v (.map (some bb))]],0⟩,oE e,CF r bb k seen k]) h.length ?_ ?_
  ·have e0:Bn h #[] e.value=false:=by simp[Bn]
   refine⟨(I i::(Ce e)::.ref 1 [] 1 0 0::.za::.ref 2 [] 23 0 0::Bo false::Bo false::.za::.za::.za::.za::.za::.v (.pointer (some ⟨r,0,none⟩))::tZ (tZ (tZ ([.za,.za,.za,.za,.za,.za])))),[fQ bb (jU (eE (h))) (k),⟨1,117,1,[[.v (.map (some bb))]],0⟩,oE e,CF r bb k #[] k],cC, #[],(by show h.length=_;rw[List.filter_eq_self.2 aj]),?_,rfl⟩;rw[e0]
  ·rintro n _ _ ⟨seen,hn,rfl,rfl⟩;conv=>whnf
   refine qT.ZT (id:=0) (id2:=3) _ J J J J (λx hx=>?_) (gC _) (λz8=>?_) (λj x hx hs=>?_)
   ·simp only[eE,gR]at hx;obtain⟨y,hy,rfl⟩:=hx;exact ok.lt y hy
   ·refine dd ?_;refine hZ ?_
    refine .inr ⟨aj,?_⟩
    have eh:Bn h seen e.value=Ej h e.value:=by
     unfold Bn Ej;rw[se,p9,p9];constructor
     ·rintro⟨x,hx,hv⟩;rw[gA]at hv;exact⟨x,hx,hv.2⟩
     ·rintro⟨x,hx,hv⟩;exact⟨x,hx,by rw[z8 _ (List.mem_map_of_mem (f:=λx:Int×Int×Nat=>((x.1,zT x.2.1,x.2.2):im)) hx)];simpa using hv⟩
    rw[eh];refine dd ?_;refine⟨λhl1=>?_,λhl1=>?_⟩
    ·refine dd ?_;refine⟨λhl2=>?_,λhl2=>?_⟩
     ·refine dd ?_;have hL0:jW (h,k) e=AR h k e.zf e.value:=by unfold jW Cd;rw[show decide (e.access=1)=true from hl1,show decide (e.cell=3)=true from hl2];rfl
      cases hf:og h e.zf with
      |some j=>
       obtain⟨x,hx,hxt⟩:=IE hf;have hL:jW (h,k) e=(h.set j (e.zf,e.value,x.2.2),k):=by rw[hL0];unfold AR;rw[hf];dsimp only;rw[hx];rfl
       refine⟨_,_,fy.Pz (id:=0) _ _ _ _ (.inl J) J J J J J ((D4 h e.zf).trans hf) (by unfold eE;rw[gf,hx];rfl) J,?_⟩;refine dd ?_;rw[show((eE h).set j (x.1,zT e.value,x.2.2))=eE (h.set j (e.zf,e.value,x.2.2)) from by unfold eE;rw[rj,hxt]];refine⟨λhd=>?_,λhd=>?_⟩
       ·refine dd ?_;refine BJ (id:=0) _ J J J J J J J J J ?_;have eD:jV (jW (h,k) e) e=(n7 (h.set j (e.zf,e.value,x.2.2)) e.zf,k):=by unfold jV;exact dS
        rw[eD];refine dd ?_;exact cO
       ·refine dd ?_;have eD:jV (jW (h,k) e) e=((h.set j (e.zf,e.value,x.2.2)),k):=by unfold jV;exact dS
        rw[eD];exact cO
      |none=>
       have hL:jW (h,k) e=(h++[(e.zf,e.value,k)],k+1):=by rw[hL0];unfold AR;rw[hf]
       refine⟨_,_,fy.OJ (id:=0) _ _ _ _ (.inl J) J J J J J ((D4 h e.zf).trans hf) J,dd ?_⟩;rw[show(eE h++[(e.zf,zT e.value,k)])=eE (h++[(e.zf,e.value,k)]) from by unfold eE;simp];refine⟨λhd=>?_,λhd=>?_⟩
       ·refine dd ?_;refine BJ (id:=0) _ J J J J J J J J J ?_;have eD:jV (jW (h,k) e) e=(n7 (h++[(e.zf,e.value,k)]) e.zf,(k+1)):=by unfold jV;exact dS
        rw[eD];refine dd ?_;exact cO
       ·refine dd ?_;have eD:jV (jW (h,k) e) e=((h++[(e.zf,e.value,k)]),(k+1)):=by unfold jV;exact dS
        rw[eD];exact cO
     ·refine dd ?_;have hL:jW (h,k) e=(h,k):=by unfold jW Cd;rw[show decide (e.cell=3)=false from hl2];simp
      refine⟨λhd=>?_,λhd=>?_⟩
      ·refine dd ?_;refine BJ (id:=0) _ J J J J J J J J J ?_;have eD:jV (jW (h,k) e) e=(n7 h e.zf,k):=by unfold jV;exact dS
       rw[eD];refine dd ?_;exact cO
      ·refine dd ?_;have eD:jV (jW (h,k) e) e=(h,k):=by unfold jV;exact dS
       rw[eD];exact cO
    ·refine dd ?_;have hL:jW (h,k) e=(h,k):=by unfold jW Cd;rw[show decide (e.access=1)=false from hl1];simp
     refine⟨λhd=>?_,λhd=>?_⟩
     ·refine dd ?_;refine BJ (id:=0) _ J J J J J J J J J ?_;have eD:jV (jW (h,k) e) e=(n7 h e.zf,k):=by unfold jV;exact dS
      rw[eD];refine dd ?_;exact cO
     ·refine dd ?_;have eD:jV (jW (h,k) e) e=(h,k):=by unfold jV;exact dS
      rw[eD];exact cO
   ·obtain⟨y,hy,rfl⟩:=zxH hx;refine dd ?_;refine hZ ?_
    refine qT.XT (id:=0) (id2:=3) _ J J hx J J (by simpa [eE,rA,Function.comp_def] using ok.st) J (dd ?_);have hym:=dY hy;have hps:=UA ok seen hym e.value;have hls:=Wo seen hym hs;cases hb:Bn h seen e.value with
    |true=>
     refine dd ?_;rw[hb,ef]at hps;exact dI
    |false=>
     rw[hb,rL]at hps;refine dd ?_;refine⟨λh2=>?_,λh2=>?_⟩ <;> refine dd ?_
     ·rw[show decide (y.2.1=e.value)=true from aq h2]at hps;exact dI
     ·rw[show decide (y.2.1=e.value)=false from aq h2]at hps;exact dI
 ·rw[h1];refine dd ?_;refine⟨λhl1=>?_,λhl1=>?_⟩
  ·refine dd ?_;refine⟨λhl2=>?_,λhl2=>?_⟩
   ·refine dd ?_;have hL0:jW (h,k) e=AR h k e.zf e.value:=by unfold jW Cd;rw[show decide (e.access=1)=true from hl1,show decide (e.cell=3)=true from hl2];rfl
    cases hf:og h e.zf with
    |some j=>
     obtain⟨x,hx,hxt⟩:=IE hf;have hL:jW (h,k) e=(h.set j (e.zf,e.value,x.2.2),k):=by rw[hL0];unfold AR;rw[hf];dsimp only;rw[hx];rfl
     refine⟨_,_,fy.Pz (id:=0) _ _ _ _ (.inl J) J J J J J ((D4 h e.zf).trans hf) (by unfold eE;rw[gf,hx];rfl) J,?_⟩;refine dd ?_;rw[show((eE h).set j (x.1,zT e.value,x.2.2))=eE (h.set j (e.zf,e.value,x.2.2)) from by unfold eE;rw[rj,hxt]];refine⟨λhd=>?_,λhd=>?_⟩
     ·refine dd ?_;refine BJ (id:=0) _ J J J J J J J J J ?_;have eD:jV (jW (h,k) e) e=(n7 (h.set j (e.zf,e.value,x.2.2)) e.zf,k):=by unfold jV;exact dS
      rw[eD];refine dd ?_;exact cP
     ·refine dd ?_;have eD:jV (jW (h,k) e) e=((h.set j (e.zf,e.value,x.2.2)),k):=by unfold jV;exact dS
      rw[eD];exact cP
    |none=>
     have hL:jW (h,k) e=(h++[(e.zf,e.value,k)],k+1):=by rw[hL0];unfold AR;rw[hf]
     refine⟨_,_,fy.OJ (id:=0) _ _ _ _ (.inl J) J J J J J ((D4 h e.zf).trans hf) J,dd ?_⟩;rw[show(eE h++[(e.zf,zT e.value,k)])=eE (h++[(e.zf,e.value,k)]) from by unfold eE;simp];refine⟨λhd=>?_,λhd=>?_⟩
     ·refine dd ?_;refine BJ (id:=0) _ J J J J J J J J J ?_;have eD:jV (jW (h,k) e) e=(n7 (h++[(e.zf,e.value,k)]) e.zf,(k+1)):=by unfold jV;exact dS
      rw[eD];refine dd ?_;exact cP
     ·refine dd ?_;have eD:jV (jW (h,k) e) e=((h++[(e.zf,e.value,k)]),(k+1)):=by unfold jV;exact dS
      rw[eD];exact cP
   ·refine dd ?_;have hL:jW (h,k) e=(h,k):=by unfold jW Cd;rw[show decide (e.cell=3)=false from hl2];simp
    refine⟨λhd=>?_,λhd=>?_⟩
    ·refine dd ?_;refine BJ (id:=0) _ J J J J J J J J J ?_;have eD:jV (jW (h,k) e) e=(n7 h e.zf,k):=by unfold jV;exact dS
     rw[eD];refine dd ?_;exact cP
    ·refine dd ?_;have eD:jV (jW (h,k) e) e=(h,k):=by unfold jV;exact dS
     rw[eD];exact cP
  ·refine dd ?_;have hL:jW (h,k) e=(h,k):=by unfold jW Cd;rw[show decide (e.access=1)=false from hl1];simp
   refine⟨λhd=>?_,λhd=>?_⟩
   ·refine dd ?_;refine BJ (id:=0) _ J J J J J J J J J ?_;have eD:jV (jW (h,k) e) e=(n7 h e.zf,k):=by unfold jV;exact dS
    rw[eD];refine dd ?_;exact cP
   ·refine dd ?_;have eD:jV (jW (h,k) e) e=(h,k):=by unfold jV;exact dS
    rw[eD];exact cP
def LJ(l:List fk)(hl:l.length<1000000000000):tj 21 [] [iK l] (I (Pd l)) []:=by
 refine ab func21 ?_;intro bb;refine dd ?_
 have h:=La l 49 (P8 l) bb 117 (λi=>jU (eE (Am l i).1)) (λi=>(Am l i).2) hl au λi e h=>(by
  have:=R2 i bb e (Am l i).1 (Am l i).2 (O3 l i);rw[<-Jt h]at this ⊢;exact this)
 refine⟨_,_,h,dd ?_⟩;exact uI
abbrev Gs:=List (Int×List fA)
def Av(g:Gs)(t:Int):Option Nat:=g.findIdx? λx=>decide (x.1=t)
def Dq(g:Gs)(t:Int)(a:fA):Gs:=match Av g t with
 |some j=>g.set j (t,(((g[j]?).getD (0,[])).2)++[a])
 |none=>g++[(t,[a])]
def xS(x:Cal):Bool:=!decide (x.fY<0)
def jE(c:List Cal)(k:Nat):Cal:=(c[k]?).getD ⟨0,0,0,0,0,⟨0,0,0,0,0,0,0,vq⟩⟩
def gN(c:List Cal):Nat->Gs
 |0=>[]
 |k+1=>if xS (jE c k) then Dq (gN c k) (jE c k).zf (jE c k).answer else gN c k
def vZ(c:List Cal):Nat->Bool
 |0=>true
 |k+1=>vZ c k && xS (jE c k)
def j5(c:List Cal)(t:Int):List fA:=(c.filter λx=>decide (x.zf=t) && xS x).map (·.answer)
def AL(g:List fA)(i:Nat):fA:=(g[i]?).getD ⟨0,0,0,0,0,0,0,vq⟩
def Ct(g:List fA):List fA:=(qE g).map (AL g)
def CL{c:List Cal}{k:Nat}{x:Cal}(h:c[k]?=some x):jE c k=x:=by unfold jE;rw[h];rfl
def ID{g:Gs}{t:Int}{j:Nat}(h:Av g t=some j):∃x,g[j]?=some x/\x.1=t:=by
 obtain⟨h1,h2,_⟩:=gK.1 h;exact⟨g[j],dX h1,aq h2⟩
def Nz{g:Gs}{t:Int}(h:Av g t=none):∀x∈g,x.1≠t:=λx hx=>by
 unfold Av at h;rw[gS]at h;simpa using h x hx
structure Qm(c:List Cal)(k:Nat)(g:Gs):Prop where
 key:(g.map (·.1)).Nodup
 val:∀x∈g,x.2=j5 (c.take k) x.1/\x.2≠[]
 all:∀t,j5 (c.take k) t≠[]->∃x∈g,x.1=t
def TJ(c:List Cal)(k:Nat)(hk:k<c.length)(t:Int):j5 (c.take (k+1)) t=j5 (c.take k) t++if (jE c k).zf=t/\xS (jE c k)=true then [(jE c k).answer] else []:=by
 have hq:c[k]?=some c[k]:=dX hk;rw[CL hq];unfold j5;rw[eQ,hq,sK,pE]
 congr 1
 by_cases h1:c[k].zf=t <;> cases h2:xS c[k] <;> simp[h1,h2]
def Yw{g:Gs}(hk:(g.map (·.1)).Nodup){i j:Nat}{x y:Int×List fA}(hi:g[i]?=some x)(hj:g[j]?=some y)(e:x.1=y.1):i=j:=by
 have hil:=(dW.1 hi).1;have hjl:=(dW.1 hj).1;have hst:=uf.1 hk;rw[dX hil]at hi;rw[dX hjl]at hj;have hi':=gp hi;have hj':=gp hj;rcases rO i j with fj|heq|fj
 ·exact(hst i j (aq hil) (aq hjl) fj (by simp only[u5];rw[hi',hj'];exact e)).elim
 ·exact heq
 ·exact(hst j i (aq hjl) (aq hil) fj (by simp only[u5];rw[hi',hj'];exact e.symm)).elim
def Et(c:List Cal):∀k,k<=c.length->Qm c k (gN c k)
 |0,_=>⟨by simp[gN],by simp[gN],λt h=>by simp[j5]at h⟩
 |k+1,hk=>by
  have ih:=Et c k aw;have hg:=TJ c k aw;unfold gN;cases he:xS (jE c k) with
  |false=>
   have hg':∀t,j5 (c.take (k+1)) t=j5 (c.take k) t:=λt=>by rw[hg t,he];simp
   exact⟨ih.key,λx hx=>by rw[hg'];exact ih.val x hx,λt ht=>ih.all t (by rw[<-hg'];exact ht)⟩
  |true=>
   simp only[if_true];rw[he]at hg;simp only[and_true]at hg;unfold Dq;cases hat:Av (gN c k) (jE c k).zf with
   |some j=>
    obtain⟨x,hx,hxt⟩:=ID hat;dsimp only;rw[hx];dsimp only[Option.getD_some];have hxm:=dY hx;refine⟨by rw[wE (y:=((jE c k).zf,x.2++[(jE c k).answer])) (·.1) hx hxt.symm];exact ih.key,λy hy=>?_,λt ht=>?_⟩
    ·obtain⟨i,hi⟩:=gE.1 hy;rw[gD]at hi;split at hi
     ·rename_i hij;subst hij;split at hi
      ·cases hi
       dsimp only;rw[hg,gh J,<-hxt,(ih.val x hxm).1,hxt];exact⟨rfl,aj⟩
      ·cases hi
     ·rename_i hij;have hne:(jE c k).zf≠y.1:=λe=>hij (Yw ih.key hx hi (hxt.trans e))
      rw[hg,dZ hne,pY];exact ih.val y (dY hi)
    ·by_cases e:(jE c k).zf=t
     ·exact⟨_,gE.2 ⟨j,by rw[gD,gh J,gh (dW.1 hx).1]⟩,e⟩
     ·rw[hg,dZ e,pY]at ht;obtain⟨y,hy,hyt⟩:=ih.all t ht;obtain⟨i,hi⟩:=gE.1 hy;refine⟨y,gE.2 ⟨i,?_⟩,hyt⟩;rw[gD,dZ]
      ·exact hi
      ·rintro rfl;rw[hx]at hi;cases hi
       exact e (hxt.symm.trans hyt)
   |none=>
    have hno:=Nz hat;dsimp only;refine⟨?_,λy hy=>?_,λt ht=>?_⟩
    ·rw[pE,uu];refine⟨ih.key,aj,?_⟩;intro a ha b hb;simp at hb;subst hb;obtain⟨x,hx,rfl⟩:=gR.1 ha;exact hno x hx
    ·rcases gY.1 hy with hy|hy
     ·rw[hg,dZ (λe=>hno y hy e.symm),pY];exact ih.val y hy
     ·simp at hy;subst hy;dsimp only
      have:j5 (c.take k) (jE c k).zf=[]:=by
       cases hgv:j5 (c.take k) (jE c k).zf with
       |nil=>rfl
       |cons a rest=>
        obtain⟨x,hx,hxt⟩:=ih.all (jE c k).zf (by rw[hgv];simp);exact absurd hxt (hno x hx)
      rw[hg,gh J,this];exact⟨rfl,aj⟩
    ·by_cases e:(jE c k).zf=t
     ·exact⟨((jE c k).zf,[(jE c k).answer]),aj,e⟩
     ·rw[hg,dZ e,pY]at ht;obtain⟨y,hy,hyt⟩:=ih.all t ht;exact⟨y,by simp[hy],hyt⟩
def EZ{β:Type}(f:Int->List β):∀(A B:List Int),A.Pairwise (· < ·)->B.Pairwise (· < ·)->(∀x∈A,x∈B)->(∀x∈B,x∉A->f x=[])->A.flatMap f=B.flatMap f
 |[],B,_,_,_,h=>by
  rw[List.flatMap_nil]
  symm
  rw[List.flatMap_eq_nil_iff]
  exactλx hx=>h x hx aj
 |a::A,[],_,_,hs,_=>by have:=hs a aj;simp at this
 |a::A,b::B,hA,hB,hs,hz=>by
  have hA':=sL.1 hA;have hB':=sL.1 hB;by_cases e:a=b
  ·subst e;rw[rp,rp]
   congr 1
   refine EZ f A B hA'.2 hB'.2 (λx hx=>?_) (λx hx hn=>hz x bY ?_)
   ·rcases rz.1 (hs x bY) with h|h
    ·have:=hA'.1 x hx;omega
    ·exact h
   ·intro hm;rcases rz.1 hm with h|h
    ·have:=hB'.1 x hx;omega
    ·exact hn h
  ·have haB:a∈B:=by
    rcases rz.1 (hs a aj) with h|h
    ·exact absurd h e
    ·exact h
   have hb:b∉a::A:=by
    intro hm;have h1:=hB'.1 a haB;rcases rz.1 hm with h|h
    ·omega
    ·have:=hA'.1 b h;omega
   rw[show(b::B).flatMap f=f b++B.flatMap f from rp,hz b aj hb,fe];refine EZ f (a::A) B hA hB'.2 (λx hx=>?_) (λx hx hn=>hz x bY hn);rcases rz.1 (hs x hx) with h|h
   ·exact absurd (h ▸ hx) hb
   ·exact h
termination_by A B=>A.length+B.length
def nz(c:List Cal)(more:Int)(first:Bool):Nat->Option Int
 |0=>none
 |k+1=>let t:=(jE c k).zf
  if (first || decide (more<t)) && (match nz c more first k with|none=>true|some b=>decide (t<b)) then some t else nz c more first k
def FM(c:List Cal)(more:Int)(first:Bool):∀k,match nz c more first k with
  |none=>∀j,j<k->¬(first=true\/more<(jE c j).zf)
  |some b=>(first=true\/more<b)/\(∃j,j<k/\(jE c j).zf=b)/\∀j,j<k->(first=true\/more<(jE c j).zf)->b<=(jE c j).zf
 |0=>by simp[nz]
 |k+1=>by
  have ih:=FM c more first k;unfold nz;dsimp only;by_cases hf:(first=true\/more<(jE c k).zf)
  ·have hf':(first || decide (more<(jE c k).zf))=true:=by simpa using hf
   rw[hf',tY];cases hb:nz c more first k with
   |none=>
    rw[hb]at ih;dsimp only at ih ⊢;rw[gh J];dsimp only;refine⟨hf,⟨k,aw,rfl⟩,λj hj hjf=>?_⟩;by_cases e:j=k
    ·rw[e];exact gL _
    ·exact absurd hjf (ih j aw)
   |some b=>
    rw[hb]at ih;dsimp only at ih ⊢;obtain⟨h1,⟨j0,h2,h3⟩,h4⟩:=ih;by_cases fj:(jE c k).zf<b
    ·rw[gh tS];dsimp only;refine⟨hf,⟨k,aw,rfl⟩,λj hj hjf=>?_⟩;by_cases e:j=k
     ·rw[e];exact gL _
     ·have:=h4 j aw hjf;omega
    ·rw[dZ tS];dsimp only;refine⟨h1,⟨j0,aw,h3⟩,λj hj hjf=>?_⟩;by_cases e:j=k
     ·rw[e];omega
     ·exact h4 j aw hjf
  ·have hf':(first || decide (more<(jE c k).zf))=false:=by
    rw[Bool.eq_false_iff];simpa using hf
   rw[hf',ff];simp only[sd,if_false];cases hb:nz c more first k with
   |none=>
    rw[hb]at ih;dsimp only at ih ⊢;intro j hj;by_cases e:j=k
    ·rw[e];exact hf
    ·exact ih j aw
   |some b=>
    rw[hb]at ih;dsimp only at ih ⊢;obtain⟨h1,⟨j0,h2,h3⟩,h4⟩:=ih;refine⟨h1,⟨j0,aw,h3⟩,λj hj hjf=>?_⟩;by_cases e:j=k
    ·rw[e]at hjf;exact absurd hjf hf
    ·exact h4 j aw hjf
def Ey(c:List Cal)(t:Int):Nat:=((List.range c.length).filter λj=>decide (t<(jE c j).zf)).length
def NY{c:List Cal}{t t':Int}(h:nz c t false c.length=some t'):Ey c t'<Ey c t:=by
 have hs:=FM c t false c.length;rw[h]at hs;dsimp only at hs;obtain⟨h1,⟨j,h2,h3⟩,_⟩:=hs;have h1:t<t':=aq h1
 have e:((List.range c.length).filter λj=>decide (t'<(jE c j).zf))=((List.range c.length).filter λj=>decide (t<(jE c j).zf)).filter λj=>decide (t'<(jE c j).zf):=by
  rw[List.filter_filter];refine eP λi _=>?_
  rw[se];simp only[gA,gH];constructor
  ·intro h;exact⟨h,aw⟩
  ·exactλh=>h.1
 unfold Ey;rw[e];refine ua.2 ⟨j,?_,aA⟩;rw[eu];exact⟨p7.2 h2,aA⟩
def vy(c:List Cal)(t:Int):List Int:=match h:nz c t false c.length with
 |none=>[]
 |some t'=>t'::vy c t'
termination_by Ey c t
decreasing_by exact NY h
def GS(c:List Cal):List Int:=match nz c 0 true c.length with
 |none=>[]
 |some t=>t::vy c t
def Wy{c:List Cal}{t:Int}(h:nz c t false c.length=none):vy c t=[]:=by
 rw[vy];split
 ·rfl
 ·rename_i h';rw[h]at h';cases h'
def Wz{c:List Cal}{t t':Int}(h:nz c t false c.length=some t'):vy c t=t'::vy c t':=by
 rw[vy];split
 ·rename_i h';rw[h]at h';cases h'
 ·rename_i h';rw[h]at h';cases h';rfl
def WA(c:List Cal)(t:Int):(vy c t).Pairwise (· < ·)/\∀x,x∈vy c t↔t<x/\∃j,j<c.length/\(jE c j).zf=x:=by
 generalize hn:Ey c t=n
 induction n using Nat.strongRecOn generalizing t with
 |_ n ih=>
  have hs:=FM c t false c.length;cases h:nz c t false c.length with
  |none=>
   rw[h]at hs;rw[Wy h];refine⟨.nil,λx=>⟨λhx=>by simp at hx,?_⟩⟩;rintro⟨h1,j,h2,h3⟩;exact absurd (.inr (by rw[h3];exact h1)) (hs j h2)
  |some t'=>
   rw[h]at hs;dsimp only at hs;obtain⟨h1,⟨j0,h2,h3⟩,h4⟩:=hs;have h1:t<t':=aq h1
   obtain⟨i1,i2⟩:=ih _ (by rw[<-hn];exact NY h) t' J;rw[Wz h];refine⟨sL.2 ⟨λx hx=>((i2 x).1 hx).1,i1⟩,λx=>?_⟩;rw[rz,i2 x];constructor
   ·rintro(rfl|⟨h5,h6⟩)
    ·exact⟨h1,j0,h2,h3⟩
    ·exact⟨aw,h6⟩
   ·rintro⟨h5,j,h6,h7⟩;have:=h4 j h6 (.inr (by rw[h7];exact h5));rw[h7]at this;by_cases e:x=t'
    ·exact .inl e
    ·exact .inr ⟨aw,j,h6,h7⟩
def DY(c:List Cal):(GS c).Pairwise (· < ·)/\∀x,x∈GS c↔∃j,j<c.length/\(jE c j).zf=x:=by
 have hs:=FM c 0 true c.length;unfold GS;cases h:nz c 0 true c.length with
 |none=>
  rw[h]at hs;refine⟨.nil,λx=>⟨λhx=>by simp at hx,?_⟩⟩;rintro⟨j,h2,h3⟩;exact absurd (.inl J) (hs j h2)
 |some t'=>
  rw[h]at hs;dsimp only at hs;obtain⟨_,⟨j0,h2,h3⟩,h4⟩:=hs;obtain⟨i1,i2⟩:=WA c t';dsimp only;refine⟨sL.2 ⟨λx hx=>((i2 x).1 hx).1,i1⟩,λx=>?_⟩;rw[rz,i2 x];constructor
  ·rintro(rfl|⟨_,h6⟩)
   ·exact⟨j0,h2,h3⟩
   ·exact h6
  ·rintro⟨j,h6,h7⟩;have:=h4 j h6 (.inl J);rw[h7]at this;by_cases e:x=t'
   ·exact .inl e
   ·exact .inr ⟨aw,j,h6,h7⟩
def jL(c:List Cal):List Int:=((gN c c.length).map (·.1)).mergeSort λx y=>decide (x<=y)
def yP(c:List Cal):List fA:=(jL c).flatMap λt=>Ct (j5 c t)
def PS(c:List Cal):List fA:=(GS c).flatMap λt=>Ct (j5 c t)
def SA(c:List Cal):(jL c).Pairwise (· < ·):=by
 have hk:=(Et c c.length (gC _)).key;have h1:(jL c).Pairwise λx y=>(decide (x<=y))=true:=List.pairwise_mergeSort (by intro a b d;simp;omega) (by intro a b;simp;omega) _
 have h2:(jL c).Nodup:=(List.mergeSort_perm _ _).nodup_iff.2 hk
 exact(h1.and h2).imp λ{a b} ⟨h3,h4⟩=>by
   have:a<=b:=aq h3
   omega
def IM(c:List Cal)(t:Int):t∈jL c↔j5 c t≠[]:=by
 have ok:=Et c c.length (gC _);unfold jL;rw[(List.mergeSort_perm _ _).mem_iff,gR];constructor
 ·rintro⟨x,hx,rfl⟩;have:=ok.val x hx;rw[gZ]at this;rw[<-this.1];exact this.2
 ·intro h;obtain⟨x,hx,h2⟩:=ok.all t (by rw[gZ];exact h);exact⟨x,hx,h2⟩
def F6(c:List Cal):yP c=PS c:=by
 refine EZ _ _ _ (SA c) (DY c).1 (λt ht=>?_) (λt _ hn=>?_)
 ·rw[IM]at ht;rw[(DY c).2];unfold j5 at ht;have:(c.filter λx=>decide (x.zf=t) && xS x)≠[]:=λe=>ht (by rw[e];rfl)
  obtain⟨x,hx⟩:=List.exists_mem_of_ne_nil _ this;rw[eu]at hx;obtain⟨j,hj⟩:=gE.1 hx.1;refine⟨j,(dW.1 hj).1,?_⟩;rw[CL hj];have:=hx.2;simp only[gA,gH]at this;exact this.1
 ·rw[IM]at hn;have:j5 c t=[]:=by simpa using hn
  rw[this]
  rfl
def J4(l:List Int):List Int:=l.mergeSort λx y=>decide (x<=y)
def XU(l:List Int):(J4 l).length=l.length:=u7 l
def UD(l:List Int)(hl:l.length<4611686018427387904):tj 50 [⟨2,3,1,l.map wq,0⟩] [.sl 0 [] 1 0 l.length false] (.fq []) [⟨2,3,1,(J4 l).map wq,0⟩]:=
 zb.ofRow (xs:=[]) (zs:=l) (zs':=J4 l) (XU l) aj λb cap w hH hb hcap=>by
  refine(Tryz.slices_Sort_int b 0 cap l w hH hb hl).mono ?_;rintro e w' ⟨rfl,n,os,rfl⟩;exact⟨_,rfl,λE _ _ _ _=>.fq _ _ J aj,n,os,rfl⟩
def Lv:tj 50 [] [.fh 1 0 []] (.fq []) []:=λw E vs hh hl=>by
 obtain⟨v,hv,hl0⟩:=hl.get (i:=0) J
 obtain⟨a,rfl⟩:∃a,v=.slice a 0 0:=by
  generalize hc:C.fh 1 0 []=c at hl0;cases hl0 with
  |fh o sz rows b off cap us ho hcp hsz hst hL=>
   cases hc
   rcases ho with h|⟨_,h⟩
   ·cases h
   ·rw[h];exact⟨_,rfl⟩
  |xx o sz ho a=>cases hc;exact⟨a,rfl⟩
  |_=>cases hc
 have hvs:vs= #[.slice a 0 0]:=by
  apply Array.ext'
  have h1:vs.toList.length=1:=by rw[<-hl.1];rfl
  match hvl:vs.toList,h1 with
  |[x],_=>rw[hvl]at hv;simp at hv;rw[hv]
 rw[hvs];refine(Tryz.slices_Sort_int_none a 0 w).mono ?_;rintro e w' ⟨rfl,rfl⟩;exact⟨_,E,rfl,hh,.fq _ _ J aj,.refl _ _ _⟩
abbrev kh(l:List fA):List (List C):=l.map xk
def xn(g:Gs):List C:=g.mapIdx λj x=>.gl (2*j+2) 13 (kh x.2)
def lK(g:Gs):C:=if g=[] then .fh 1 0 [] else .sl (2*g.length-1) [] 1 0 g.length false
structure n9(g:Gs)(es:List im):Prop where
 len:es.length=g.length
 at_:∀(j:Nat) x,g[j]?=some x->∃v,es[j]?=some (x.1,v,j)
structure Bs(g:Gs)(X:zm):Prop where
 len:X.length=2*g.length
 row:∀(j:Nat) x,g[j]?=some x->X[2*j+1]?=some ⟨4,51,13,kh x.2,0⟩
 arr:g≠[]->X[2*g.length-2]?=some ⟨2,3,1,(g.map (·.1)).map wq,0⟩
 flat:qt X=true
 low:∀n,zX n X=true
def n9.find{g:Gs}{es:List im}(h:n9 g es)(t:Int):xt es t=Av g t:=by
 unfold xt Av
 have e:es.map (·.1)=g.map (·.1):=by
  apply pq
  intro j;rw[gf,gf];cases hx:g[j]? with
  |none=>
   have:es[j]?=none:=by rw[pV]at hx ⊢;rw[h.len];exact hx
   rw[this];rfl
  |some x=>obtain⟨v,hv⟩:=h.at_ j x hx;rw[hv];rfl
 have k:∀{α:Type} (l:List (Int×α)),l.findIdx? (λx=>decide (x.1=t))=(l.map (·.1)).findIdx? λy=>decide (y=t):=λl=>by rw[rS];rfl
 rw[k,k,e]
def SP(x:Cal):∀c∈jS x,jc c=true/\zx c=true:=by
 intro c hc;simp[jS,xk,BW]at hc;rcases hc with h|h|h|h|h|h|h|h|h|h|h|h|h|h|h|h|h|h <;> (subst h;exact⟨rfl,rfl⟩)
def Zk(g:Gs):xz (2*g.length+1) 9 (lK g)=lK g:=by
 unfold lK;split
 ·rfl
 ·show(if Nat.blt (2*g.length-1) (2*g.length+1) then _ else _)=_;rw[gh];rw[fg];omega
def W6{n:Nat}{x:Ob}{H:zm}(h1:zX n [x]=true)(h2:zX n H=true):zX n (x::H)=true:=by
 unfold zX at *;exact dw
def ZN(g:Gs)(b:Nat)(es:List im):zX (2*g.length+1) [iF b es g.length (xn g)]=true:=by
 unfold zX;simp only[rW,sZ,sq]
 have:((xn g).all (qX (2*g.length+1) 9))=true:=by
  refine gz.2 λc hc=>?_
  unfold xn at hc;rw[ud]at hc;obtain⟨j,hj,rfl⟩:=hc;simp[qX];omega
 rw[this]
 rfl
abbrev Au(a:List fA):Ob:=⟨4,51,13,kh a,0⟩
abbrev i4(l:List Int):Ob:=⟨2,3,1,l.map wq,0⟩
def VW(g:Gs)(j:Nat)(t:Int)(a:List fA)(hj:j<g.length):xn (g.set j (t,a))=(xn g).set j (.gl (2*j+2) 13 (kh a)):=by
 apply pq
 intro i;unfold xn;rw[pD,gD,gD,pD];split
 ·rename_i e;subst e;simp[hj]
 ·rfl
def n9.set{g:Gs}{es:List im}(h:n9 g es){j:Nat}(hj:j<g.length)(t:Int)(a:List fA)(v:Value):n9 (g.set j (t,a)) (es.set j (t,v,j)):=by
 refine⟨by rw[pU,pU,h.len],λi y hy=>?_⟩;rw[gD]at hy ⊢;split at hy
 ·rename_i e;subst e
  try rw[gh hj]at hy
  cases hy
  exact⟨v,by rw[gh J,gh (by rw[h.len];exact hj)]⟩
 ·rename_i e;obtain⟨w,hw⟩:=h.at_ i y hy;exact⟨w,by rw[dZ e];exact hw⟩
def CQ{X:zm}(h:qt X=true)(i:Nat){o:Ob}(ho:qt [o]=true):qt (X.set i o)=true:=by
 unfold qt at *;rw[gz] at *;intro x hx;rcases pw hx with h1|rfl
 ·exact h x h1
 ·exact ho x aj
def Ox{X:zm}{n:Nat}(h:zX n X=true)(i:Nat){o:Ob}(ho:zX n [o]=true):zX n (X.set i o)=true:=by
 unfold zX at *;rw[gz] at *;intro x hx;rcases pw hx with h1|rfl
 ·exact h x h1
 ·exact ho x aj
def Bs.set{g:Gs}{X:zm}(h:Bs g X){j:Nat}{y:Int×List fA}(hy:g[j]?=some y)(a:List fA):Bs (g.set j (y.1,a)) (X.set (2*j+1) (Au a)):=by
 have hj:=(dW.1 hy).1;have hne:g≠[]:=by rintro rfl;simp at hj
 refine⟨by rw[pU,pU,h.len],λi x hx=>?_,λ_=>?_,CQ h.flat _ J,λn=>Ox (h.low n) _ J⟩
 ·rw[gD]at hx ⊢;split at hx
  ·rename_i e;subst e
   try rw[gh hj]at hx
   cases hx
   rw[gh J,gh (by rw[h.len];omega)]
  ·rename_i e;rw[dZ aw];exact h.row i x hx
 ·rw[pU,gD,dZ aw,wE (y:=(y.1,a)) (·.1) hy J];exact h.arr hne
def Zl(g:Gs)(j:Nat)(x:Int×List fA):lK (g.set j x)=lK g:=by
 unfold lK;rw[pU];simp only[List.set_eq_nil_iff]
def L7(g:Gs)(t:Int)(a:List fA):xn (g++[(t,a)])=xn g++[.gl (2*g.length+2) 13 (kh a)]:=by
 unfold xn;rw[List.mapIdx_append];simp
def n9.push{g:Gs}{es:List im}(h:n9 g es)(t:Int)(a:List fA)(v:Value):n9 (g++[(t,a)]) (es++[(t,v,g.length)]):=by
 refine⟨by simp[h.len],λi y hy=>?_⟩;rw[tt]at hy ⊢;rw[h.len];split at hy
 ·rename_i e;rw[gh e];exact h.at_ i y hy
 ·rename_i e;rw[dZ e];cases hi:i-g.length with
  |zero=>
   rw[hi]at hy;cases hy
   exact⟨v,by rw[show i=g.length from aw];rfl⟩
  |succ m=>rw[hi]at hy;cases hy
def N6{X Y:zm}(h:qt X=true)(h2:qt Y=true):qt (X++Y)=true:=by
 unfold qt at *;rw[ue,h,h2];rfl
def Yz{X Y:zm}{n:Nat}(h:zX n X=true)(h2:zX n Y=true):zX n (X++Y)=true:=by
 unfold zX at *;rw[ue,h,h2];rfl
def Bs.push{g:Gs}{X Y:zm}(h:Bs g X)(hY:Y.length=X.length)(hrow:∀i,i≠2*g.length-2->Y[i]?=X[i]?)(fW:qt Y=true)(hlo:∀n,zX n Y=true)(t:Int)(a:List fA):
  Bs (g++[(t,a)]) (Y++[i4 ((g++[(t,a)]).map (·.1)),Au a]):=by
 have hl:=h.len;have hfa:qt [i4 ((g++[(t,a)]).map (·.1)),Au a]=true:=rfl;refine⟨by simp[hY,h.len];omega,λi x hx=>?_,λ_=>?_,N6 fW hfa,λn=>Yz (hlo n) J⟩
 ·rw[tt]at hx;split at hx
  ·rename_i e;rw[gy aw,hrow _ aw];exact h.row i x hx
  ·rename_i e
   have hi:i=g.length:=by
    cases hi:i-g.length with
    |zero=>omega
    |succ m=>rw[hi]at hx;cases hx
   subst hi;rw[rK]at hx;cases hx
   rw[gG aw,show 2*g.length+1-Y.length=1 from aw]
   rfl
 ·rw[pj,rH,gG aw,show 2*(g.length+1)-2-Y.length=0 from aw]
  rfl
def Iu(c:List Cal)(t:Int):(j5 c t).length<=c.length:=by
 unfold j5;rw[gu];exact List.length_filter_le _ _
def Ye(n:Nat)(l:List Int):zX n [⟨0,3,1,l.map wq,0⟩]=true:=by
 unfold zX;simp only[rW,sZ,sq];have:((l.map wq).all λr=>r.all (qX n 9))=true:=gz.2 λr hr=>by obtain⟨z,_,rfl⟩:=gR.1 hr;rfl
 rw[this]
 rfl
def Z8(l:List Int):(l.map wq).all (·.all zx)=true:=gz.2 λr hr=>by obtain⟨z,_,rfl⟩:=gR.1 hr;rfl
def Gf(c:List Cal):∀k,(gN c k).length<=k
 |0=>gC _
 |k+1=>by
  have ih:=Gf c k;unfold gN;split
  ·unfold Dq;split
   ·rw[pU];omega
   ·simp;omega
  ·omega
def WO(l:List fk)(c:List Cal)(b:Nat)(hc:c.length<1000000000000)(R:Exit->S->Prop)
 (hR:∀es X,n9 (gN c c.length) es->Bs (gN c c.length) X->qU prog 0 (behind 7 ((f22.body).getD .skip)) ⟨(iK l:: .za::.fh 1 0 []::Bo false::AQ c:: .za::.v (.map (some b))::lK (gN c c.length)::Bo (vZ c c.length):: .za::.za::.za::.za::.za::tZ (jp (jp ([])))),iF b es (gN c c.length).length (xn (gN c c.length))::X⟩ R):
  qU prog 0 (behind 4 ((f22.body).getD .skip)) ⟨(iK l:: .za::.fh 1 0 []::Bo false::AQ c:: .za::.v (.map (some b)):: .za::.za::.za::.za::.za::.za::.za::tZ (jp (jp ([])))),[iF b [] 0 []]⟩ R:=by
 have m1:(c.map jS).length=c.length:=gu ..;refine kP (uH ?_);refine .inl ⟨rfl,_,_,.refl _,kP (uH ?_)⟩;refine .inl ⟨rfl,_,_,.refl _,kP (uH ?_)⟩;rw[m1];refine qe.zzn (λn t1 H1=>∃k es X,k+n=c.length/\n9 (gN c k) es/\Bs (gN c k) X/\t1=(iK l:: .za::.fh 1 0 []::Bo false::AQ c:: .za::.v (.map (some b))::lK (gN c k)::Bo (vZ c k):: .za::.za::.za::.za::.za::.za::.za::tZ (AQ c::I c.length::I k:: .za::.za::.za::tZ (jp (tZ (tZ ([]))))))/\H1=iF b es (gN c k).length (xn (gN c k))::X) c.length ?_ ?_
 ·refine⟨_,_,zq.mask [0,2,3,4,6,7,8,24,25,26] _ _,0,[],[],aj,⟨rfl,by simp[gN]⟩,⟨rfl,by simp[gN],by simp[gN],rfl,λ_=>J⟩,rfl,rfl⟩
 rintro n _ _ ⟨k,es,X,hk,hE,hX,rfl,rfl⟩;refine .seq (.m9 ?_);conv=>whnf
 refine⟨λh=>?_,λh=>?_⟩
 rotate_left
 ·refine dd ?_;refine .seq (.m9 ?_);conv=>whnf
  refine .inr ⟨aj,uH ?_⟩
  have ek:k=c.length:=by
    have:¬k<c.length:=aq h
    omega
  subst ek;exact .inl ⟨rfl,_,_,zq.mask [0,2,3,4,6,7,8] _ _,hR es X hE hX⟩
 have fj:k<c.length:=aq h
 have hq:c[k]?=some c[k]:=dX fj;have hat:=CL hq;generalize c[k]=x at hq hat;have gq:(c.map jS)[k]?=some (jS x):=by rw[gf,hq];rfl
 refine dd ?_;refine .seq (.m9 ?_);conv=>whnf
 refine .seq (.block (.seq (.Ni [_,_] [_,_] J ?_)));conv=>whnf
 refine⟨aw,_,gq,dd ?_⟩;have hl2:(iF b es (gN c k).length (xn (gN c k))::X).length=2*(gN c k).length+1:=by rw[rk,hX.len]
 refine .Jl (row:=jS x) (zero:=jS ⟨0,0,0,0,0,⟨0,0,0,0,0,0,0,vq⟩⟩) J J J J J J au J J J J (by intro h;cases h) rfl (SP x) (rR rfl) (gV _) (by rw[hl2];exact W6 (ZN _ _ _) (hX.low _)) (by rw[hl2];simp only[put,uh,sb,pN,sX,Zk];rfl) ?_;refine .seq (.m9 ?_);conv=>whnf
 refine⟨λh1=>?_,λh1=>?_⟩
 ·have he:xS (jE c k)=false:=by rw[hat];unfold xS;rw[show decide (x.fY<0)=true from h1];rfl
  have eg:gN c (k+1)=gN c k:=by show(if xS (jE c k) then _ else _)=_;rw[he];rfl
  have ea:vZ c (k+1)=false:=by show(vZ c k && xS (jE c k))=false;rw[he,sy]
  refine dd ?_;refine .m9 (uH ?_);rw[zw aw];refine .inl ⟨rfl,n-1,_,_,aw,zq.mask [0,2,3,4,6,7,8,24,25,26] _ _,k+1,es,X,aw,by rw[eg];exact hE,by rw[eg];exact hX,?_,?_⟩
  ·rw[eg,ea];rfl
  ·rw[eg]
 have he:xS (jE c k)=true:=by rw[hat];unfold xS;rw[show decide (x.fY<0)=false from h1];rfl
 have eg:gN c (k+1)=Dq (gN c k) x.zf x.answer:=by show(if xS (jE c k) then _ else _)=_;rw[he,hat];rfl
 have ea:vZ c (k+1)=vZ c k:=by show(vZ c k && xS (jE c k))=_;rw[he,sq]
 refine dd ?_;have hce:(xn (gN c k)).length=es.length:=by unfold xn;rw[List.length_mapIdx,hE.len]
 have okG:=Et c k aw;refine .seq ?_;cases hf:Av (gN c k) x.zf with
 |some j=>
  obtain⟨y,hy,hyt⟩:=ID hf;have hyn:=(okG.val y (dY hy)).2;have hjl:=(dW.1 hy).1;have hyl:y.2.length<=k:=by rw[(okG.val y (dY hy)).1];exact pA (Iu _ _) (by rw[u4];omega)
  have hcj:(xn (gN c k))[j]?=some (.gl (2*j+2) 13 (kh y.2)):=by unfold xn;rw[pD,hy];rfl
  refine .m9 (uH ?_);refine⟨_,_,fy.vR (id:=0) _ _ _ _ J J J J hce J J J J ((hE.find x.zf).trans hf) hcj,dd ?_⟩;refine⟨λh=>?_,λ_=>?_⟩
  ·exfalso
   have:(y.2.length:Int)=0:=aq h
   exact hyn (rh.1 aw)
  refine dd ?_;refine .m9 (uH ?_);refine .inr ⟨⟨[2,5,8],[],false⟩,au,λh=>absurd h ar,_,uH ?_,λt2 H2 h=>h⟩;refine⟨uH ?_,trivial⟩;refine⟨_,_,fy.vR (id:=0) _ _ _ _ J J J J hce J J J J ((hE.find x.zf).trans hf) hcj,dd ?_⟩;refine⟨uH ?_,trivial⟩;have hob:(iF b es (gN c k).length (xn (gN c k))::X)[2*j+2]?=some ⟨4,51,13,kh y.2,0⟩:=by rw[pZ];exact hX.row j y hy
  refine(fy.FP _ J _ _ ⟨rfl,rfl,⟨_,rfl,underlying61⟩,rfl,rfl,rfl⟩ J hob J J (.inr J) ay (by show _*104<=_;simp;omega)).iO (dd ?_);refine⟨uH ?_,trivial⟩;obtain⟨v0,hv0⟩:=hE.at_ j y hy;refine qT.Zn (id:=0) _ _ _ _ (.inl J) J J J hce J J ((hE.find x.zf).trans hf) hv0 ?_;intro v;refine dd ?_;refine⟨_,_,.refl _,uH ?_⟩;refine .m9 (uH ?_);rw[zw aw];have eg2:gN c (k+1)=(gN c k).set j (y.1,y.2++[x.answer]):=by rw[eg];unfold Dq;rw[hf];dsimp only;rw[hy,hyt];rfl
  refine .inl ⟨rfl,n-1,_,_,aw,zq.mask [0,2,3,4,6,7,8,24,25,26] _ _,k+1,es.set j (y.1,v,j),X.set (2*j+1) (Au (y.2++[x.answer])),aw,by rw[eg2];exact hE.set hjl _ _ _,by rw[eg2];exact hX.set hy _,?_,?_⟩
  ·rw[eg2,ea,Zl];rfl
  ·have er:kh (y.2++[x.answer])=kh y.2++[xk x.answer]:=pE;rw[eg2,VW _ _ _ _ hjl,pU];simp only[Au];rw[er]
   rfl
 |none=>
  refine .seq (.m9 ?_);conv=>whnf
  refine⟨_,_,fy.Ib (id:=0) _ _ _ _ J J J J J J J J ((hE.find x.zf).trans hf) (λE=>.xx 1 0 (.inr J)),dd ?_⟩;refine hZ ?_
  refine .cond (b:=true) J (.Ni [] _ J (OK.run J ((fy.Kb _ (.inl J)).iO (OK.app [_,_,_] [_,_] ?_))));conv=>whnf
  have eg2:gN c (k+1)=gN c k++[(x.zf,[x.answer])]:=by rw[eg];unfold Dq;rw[hf]
  have hgl:(gN c k).length<=k:=Gf c k
  have hthr:lK (gN c k++[(x.zf,[x.answer])])=.sl (2*(gN c k).length+1) [] 1 0 ((gN c k).length+1) false:=by
   unfold lK;rw[dZ aj,pj]
   rfl
  by_cases hg:gN c k=[]
  ·have hl0:=hX.len;rw[hg]at hE hX hce hthr eg2 hl0 okG hf ⊢;have ht:lK []=.fh 1 0 []:=rfl;obtain rfl:X=[]:=rh.1 hl0;have hY:([]:zm).length=([]:zm).length:=rfl;have hrow:∀i:Nat,i≠2*([]:Gs).length-2->([]:zm)[i]?=([]:zm)[i]?:=λ_ _=>rfl
   have fW:qt []=true:=rfl;have hlo:∀n,zX n []=true:=λ_=>rfl
   rw[ht];refine OK.run J ((fy.R5 _ J _ _ ⟨rfl,rfl,⟨_,rfl,underlying28⟩,rfl,rfl,rfl⟩ J (.inl J) J aj (by show 0+1<=maxLen;decide) (by show(0+1)*8<=_;decide)).iO ?_);refine OK.run J ((fy.Kb _ (.inr J)).iO (OK.nil ?_));have hHl:(iF b es ([]:Gs).length (xn ([]:Gs))::(([]:zm)++[i4 (([]:Gs).map (·.1)++[x.zf])])).length=2*([]:Gs).length+2:=by rw[rk,pj,hY,hX.len];rfl
   refine .m9 (uH ?_);refine .inr ⟨⟨[2,5,8],[],false⟩,au,λh=>absurd h ar,_,uH ?_,λt2 H2 h=>h⟩;refine⟨uH ?_,trivial⟩;refine⟨_,_,fy.Ib (id:=0) _ _ _ _ J J J J J J J J ((hE.find x.zf).trans hf) (λE=>.xx 1 99 (.inr J)),dd ?_⟩;refine⟨uH ?_,trivial⟩;refine(fy.Hz _ J _ _ ⟨rfl,rfl,⟨_,rfl,underlying61⟩,rfl,rfl,rfl⟩ J (.inl J) J (.inr J) (by show 0+1<=maxLen;decide) (by show(0+1)*104<=_;decide)).iO (dd ?_);refine⟨uH ?_,trivial⟩;refine qT.qo (id:=0) _ _ _ _ (.inl J) J J J hce J J ((hE.find x.zf).trans hf) ?_;intro v;refine dd ?_;refine⟨_,_,.refl _,uH ?_⟩;refine .m9 (uH ?_);rw[zw aw];refine .inl ⟨rfl,n-1,_,_,aw,zq.mask [0,2,3,4,6,7,8,24,25,26] _ _,k+1,es++[(x.zf,v,([]:Gs).length)],([]:zm)++[i4 ((([]:Gs)++[(x.zf,[x.answer])]).map (·.1)),Au [x.answer]],aw,by rw[eg2];exact hE.push _ _ _,by rw[eg2];exact hX.push hY hrow fW hlo _ _,?_,?_⟩
   ·rw[eg2,ea,hthr];rfl
   ·have e3:(([]:Gs)++[(x.zf,[x.answer])]).length=([]:Gs).length+1:=by simp
    rw[eg2,L7,e3];have e2:([]:zm)++[i4 ((([]:Gs)++[(x.zf,[x.answer])]).map (·.1)),Au [x.answer]]=(([]:zm)++[i4 (([]:Gs).map (·.1)++[x.zf])])++[Au [x.answer]]:=aj
    rw[e2,<-hHl]
    rfl
  ·have hpos:0<(gN c k).length:=r7.2 hg;have ht:lK (gN c k)=.sl (2*(gN c k).length-1) [] 1 0 (gN c k).length false:=by unfold lK;rw[dZ hg]
   have harr:(iF b es (gN c k).length (xn (gN c k))::X)[2*(gN c k).length-1]?=some (i4 ((gN c k).map (·.1))):=by
    rw[show 2*(gN c k).length-1=(2*(gN c k).length-2)+1 from aw,pZ];exact hX.arr hg
   have hkill:jP (iF b es (gN c k).length (xn (gN c k))::X) (2*(gN c k).length-1)=iF b es (gN c k).length (xn (gN c k))::jP X (2*(gN c k).length-2):=by
    rw[show 2*(gN c k).length-1=(2*(gN c k).length-2)+1 from aw]
    rfl
   have hY:(jP X (2*(gN c k).length-2)).length=X.length:=by unfold jP;simp
   have hrow:∀i:Nat,i≠2*(gN c k).length-2->(jP X (2*(gN c k).length-2))[i]?=X[i]?:=λi hi=>by
    rw[yA];cases X[i]? with
    |none=>rfl
    |some o=>rw[gF,dZ (Ne.symm hi)]
   have hks:jP X (2*(gN c k).length-2)=X.set (2*(gN c k).length-2) ⟨0,3,1,((gN c k).map (·.1)).map wq,0⟩:=by
    apply pq
    intro i;rw[yA,gD];have h1:=hX.arr hg;split
    ·rename_i e;subst e;rw[gh (dW.1 h1).1,h1];simp
    ·rename_i e;cases X[i]? with
     |none=>rfl
     |some o=>simp[e]
   have fW:qt (jP X (2*(gN c k).length-2))=true:=by rw[hks];exact CQ hX.flat _ J
   have hlo:∀n,zX n (jP X (2*(gN c k).length-2))=true:=λn=>by rw[hks];exact Ox (hX.low n) _ (Ye n _)
   rw[ht];refine OK.run J ((fy.SV _ J _ _ ⟨rfl,rfl,⟨_,rfl,underlying28⟩,rfl,rfl,rfl⟩ J harr J J J aj (Z8 _) J aj ay bc).iO ?_);refine OK.run J ((fy.Kb _ (.inr J)).iO (OK.nil ?_));rw[hkill,hl2];have em:(i4 ((gN c k).map (·.1))).rows++[[C.v (.int .i64 x.zf)]]=((gN c k).map (·.1)++[x.zf]).map wq:=aj
   rw[em];have hHl:(iF b es (gN c k).length (xn (gN c k))::((jP X (2*(gN c k).length-2))++[i4 ((gN c k).map (·.1)++[x.zf])])).length=2*(gN c k).length+2:=by rw[rk,pj,hY,hX.len];rfl
   refine .m9 (uH ?_);refine .inr ⟨⟨[2,5,8],[],false⟩,au,λh=>absurd h ar,_,uH ?_,λt2 H2 h=>h⟩;refine⟨uH ?_,trivial⟩;refine⟨_,_,fy.Ib (id:=0) _ _ _ _ J J J J J J J J ((hE.find x.zf).trans hf) (λE=>.xx 1 99 (.inr J)),dd ?_⟩;refine⟨uH ?_,trivial⟩;refine(fy.Hz _ J _ _ ⟨rfl,rfl,⟨_,rfl,underlying61⟩,rfl,rfl,rfl⟩ J (.inl J) J (.inr J) (by show 0+1<=maxLen;decide) (by show(0+1)*104<=_;decide)).iO (dd ?_);refine⟨uH ?_,trivial⟩;refine qT.qo (id:=0) _ _ _ _ (.inl J) J J J hce J J ((hE.find x.zf).trans hf) ?_;intro v;refine dd ?_;refine⟨_,_,.refl _,uH ?_⟩;refine .m9 (uH ?_);rw[zw aw];refine .inl ⟨rfl,n-1,_,_,aw,zq.mask [0,2,3,4,6,7,8,24,25,26] _ _,k+1,es++[(x.zf,v,(gN c k).length)],(jP X (2*(gN c k).length-2))++[i4 (((gN c k)++[(x.zf,[x.answer])]).map (·.1)),Au [x.answer]],aw,by rw[eg2];exact hE.push _ _ _,by rw[eg2];exact hX.push hY hrow fW hlo _ _,?_,?_⟩
   ·rw[eg2,ea,hthr];rfl
   ·have e3:((gN c k)++[(x.zf,[x.answer])]).length=(gN c k).length+1:=by simp
    rw[eg2,L7,e3];have e2:(jP X (2*(gN c k).length-2))++[i4 (((gN c k)++[(x.zf,[x.answer])]).map (·.1)),Au [x.answer]]=((jP X (2*(gN c k).length-2))++[i4 ((gN c k).map (·.1)++[x.zf])])++[Au [x.answer]]:=aj
    rw[e2,<-hHl]
    rfl
def yf(g:Gs):List C:=g.map λx=>.fh 0 13 (kh x.2)
def Nu:∀(g:Gs) (f:Nat->Nat),iL (g.mapIdx λj x=>C.gl (f j) 13 (kh x.2)) (yf g)
 |[],_=>.nil
 |x::g,f=>by
  rw[eS];exact .cons (.gl _ _ _) (Nu g λj=>f (j+1))
def l8(c:List Cal)(k:Nat):List fA:=((jL c).take k).flatMap λt=>Ct (j5 c t)
def Z7(g:List fA):(Ct g).length<=g.length:=by
 unfold Ct;rw[gu];exact ky g _
def MG(c:List Cal)(k:Nat)(t:Int)(h:(jL c)[k]?=some t):l8 c (k+1)=l8 c k++Ct (j5 c t):=by
 unfold l8;rw[eQ,h];simp
def Jq(c:List Cal):∀k,k<=(jL c).length->(l8 c k).length<=k*c.length
 |0,_=>by simp[l8]
 |k+1,hk=>by
  have hq:(jL c)[k]?=some (jL c)[k]:=dX hk;rw[MG c k _ hq,pj];have h1:=Jq c k aw;have h2:=Z7 (j5 c (jL c)[k]);have h3:=Iu c (jL c)[k];rw[Nat.succ_mul];omega
def NO(c:List Cal):(jL c).length<=c.length:=by
 unfold jL;rw[u7,gu];exact Gf c c.length
def WQ(c:List Cal)(b:Nat)(es:List im)(hc:c.length<=1000)(hE:n9 (gN c c.length) es):
  qU prog 0 (behind 8 ((f22.body).getD .skip)) ⟨(.za::.za::.fh 1 0 []::Bo false:: .za::.za::.v (.map (some b))::lI (jL c)::Bo (vZ c c.length):: .za::.za::.za::.za::.za::tZ (jp (jp ([])))),[iF b es (gN c c.length).length (yf (gN c c.length))]⟩ λex s=>(ex=.ret\/ex=.normal)/\∃s2,zq 0 s s2/\(kB prog f22 s2).map (xz 0 9)=some (.fq [lA (yP c),Bo (vZ c c.length)]):=by
 have m1:((jL c).map Hy.encI).length=(jL c).length:=gu ..;have hkl:=NO c;refine(RK.m9 (K:=λex t H=>(ex=.ret\/ex=.normal)/\∃s2,zq 0 ⟨t,H⟩ s2/\(kB prog f22 s2).map (xz 0 9)=some (.fq [lA (yP c),Bo (vZ c c.length)])) (uH ?_)).out;rw[m1];refine qe.seq (jL c).length (λk=>(.za::.za::.fh 1 0 []::Bo false:: .za::.za::.v (.map (some b)):: .za::Bo (vZ c c.length):: .za::.za::.gl 1 13 (kh (l8 c k)):: .za::.za::.za::.za::.za::.za::tZ (jp (lI (jL c)::I (jL c).length::I k:: .za::tZ (tZ (tZ ([]))))))) (λk=>[iF b es (gN c c.length).length (yf (gN c c.length)),⟨4,51,13,kh (l8 c k),0⟩]) (λ_=>True) ?_ trivial (λk hk _=>?_) (λ_=>?_)
 ·exact(zq.grow 11 51 13 J (.inl J)).trans (cC)
 ·have hq:(jL c)[k]?=some (jL c)[k]:=dX hk;have hkm:=gU hk;generalize (jL c)[k]=t at hq hkm;have gq:((jL c).map Hy.encI)[k]?=some (Hy.encI t):=by rw[gf,hq];rfl
  have okG:=Et c c.length (gC _);have hgt:j5 c t≠[]:=(IM c t).1 hkm;obtain⟨y0,hy0,hyt0⟩:=okG.all t (by rw[gZ];exact hgt);have hce:(yf (gN c c.length)).length=es.length:=by unfold yf;rw[gu,hE.len]
  obtain⟨j0,hf⟩:∃j0,Av (gN c c.length) t=some j0:=by
   cases hf:Av (gN c c.length) t with
   |some j=>exact⟨j,rfl⟩
   |none=>exact absurd hyt0 (Nz hf y0 hy0)
  obtain⟨y,hy,hyt⟩:=ID hf;have hyv:=(okG.val y (dY hy)).1;rw[gZ,hyt]at hyv;have hcj:(yf (gN c c.length))[j0]?=some (.fh 0 13 (kh y.2)):=by unfold yf;rw[gf,hy];rfl
  rw[hyv]at hcj;have hst:=MG c k t hq;have hol:=Jq c k aw;have hgl:=Iu c t;have hob:(l8 c k).length<=1000000:=pA hol (by have:=Nat.mul_le_mul (show k<=1000 by omega) hc;omega);obtain⟨g,hg⟩:∃g,g=j5 c t:=⟨_,rfl⟩;rw[<-hg]at hcj hst hgl;conv=>whnf
  refine uF ?_;refine⟨aw,_,gq,dd ?_⟩;refine⟨_,_,fy.vR (id:=0) _ _ _ _ J J J J hce J J J J ((hE.find t).trans hf) hcj,dd ?_⟩;refine ah (My g aw) ?_;have m2:(((qE g).map λ(n:Nat)=>(n:Int)).map Hy.encI).length=(qE g).length:=aj
  have hov:(qE g).length<=g.length:=ky g _;rw[m2];refine qe.seq (qE g).length (λj=>(.za::.za::.fh 1 0 []::Bo false:: .za::.za::.v (.map (some b)):: .za::Bo (vZ c c.length):: .za::.za::.gl 1 13 (kh (l8 c k++((qE g).take j).map (AL g))):: .za::I t:: .za::.za::.za::.za::tZ (jp (lI (jL c)::I (jL c).length::I k:: .za::.za::.za::.za::.za::.za::lI ((qE g).map λ(n:Nat)=>(n:Int))::I (qE g).length::I j:: tZ (tZ ([])))))) (λj=>[iF b es (gN c c.length).length (yf (gN c c.length)),⟨4,51,13,kh (l8 c k++((qE g).take j).map (AL g)),0⟩]) (λ_=>True) ?_ trivial (λj hj _=>?_) (λ_=>?_)
  ·rw[sV,sX,pY];exact cC
  ·have hqj:(qE g)[j]?=some (qE g)[j]:=dX hj;have hnl:=vT g _ (gC _) _ (gU hj);generalize (qE g)[j]=n at hqj hnl;have gj:(((qE g).map λ(n:Nat)=>(n:Int)).map Hy.encI)[j]?=some (Hy.encI n):=by rw[gf,gf,hqj];rfl
   have hb:g[n]?=some g[n]:=dX hnl;have hat:AL g n=g[n]:=by unfold AL;rw[hb];rfl
   generalize g[n]=a at hb hat;have gb:(g.map xk)[n]?=some (xk a):=by rw[gf,hb];rfl
   have htk:((qE g).take (j+1)).map (AL g)=((qE g).take j).map (AL g)++[a]:=by rw[eQ,hqj,pE];simp[hat]
   have fj:((qE g).take j).length<=1000:=by rw[u4];omega
   conv=>whnf
   refine uF ?_;refine⟨aw,_,gj,dd ?_⟩;refine⟨_,_,fy.vR (id:=0) _ _ _ _ J J J J hce J J J J ((hE.find t).trans hf) hcj,dd ?_⟩;refine⟨aw,_,gb,dd ?_⟩;refine(fy.FP _ J _ _ ⟨rfl,rfl,⟨_,rfl,underlying61⟩,rfl,rfl,rfl⟩ J J J J (.inr J) ay (by show _*104<=_;simp;omega)).iO (dd ?_);rw[zw aw];have er:kh (l8 c k++((qE g).take (j+1)).map (AL g))=kh (l8 c k++((qE g).take j).map (AL g))++[xk a]:=by rw[htk];simp
   refine .inl ⟨rfl,?_,trivial⟩;rw[er];exact cC
  ·conv=>whnf
   refine⟨λh=>absurd h aj,λ_=>dd ?_⟩;refine⟨aj,dd ?_⟩;rw[zw aw];refine .inl ⟨rfl,?_,trivial⟩;rw[gZ];rw[show l8 c (k+1)=l8 c k++(qE g).map (AL g) from hst];exact cC
 ·conv=>whnf
  refine⟨λh=>absurd h aj,λ_=>dd ?_⟩;refine⟨aj,uH ?_⟩;have eo:l8 c (jL c).length=yP c:=by unfold l8 yP;rw[gZ]
  rw[eo];cases vZ c c.length <;> exact uI
def K9(g:Gs):(yf g).all B0=true:=gz.2 λc hc=>by
 obtain⟨x,_,rfl⟩:=gR.1 hc
 rfl
def OE(sel:List Nat)(l:List Int):zK sel (i4 l)=i4 l:=by
 unfold zK i4;simp only[rA]
def ZM(ρ:Nat->Nat)(l:List Int):zG ρ (i4 l)=i4 l:=by
 unfold zG i4;simp only[rA]
 first|done|rfl
def VM(n b k:Nat)(es:List im)(g:Gs):zX n [iF b es k (yf g)]=true:=by
 unfold zX;simp only[rW,sZ,sq];have:((yf g).all (qX n 9))=true:=gz.2 λc hc=>by obtain⟨x,_,rfl⟩:=gR.1 hc;rfl
 rw[this]
 rfl
def Yv(l:List fk)(c:List Cal)(b:Nat)(es:List im)(X:zm)(hc:c.length<=1000)(hE:n9 (gN c c.length) es)(hX:Bs (gN c c.length) X):
  qU prog 0 (behind 7 ((f22.body).getD .skip)) ⟨(iK l:: .za::.fh 1 0 []::Bo false::AQ c:: .za::.v (.map (some b))::lK (gN c c.length)::Bo (vZ c c.length):: .za::.za::.za::.za::.za::tZ (jp (jp ([])))),iF b es (gN c c.length).length (xn (gN c c.length))::X⟩ λex s=>(ex=.ret\/ex=.normal)/\∃s2,zq 0 s s2/\(kB prog f22 s2).map (xz 0 9)=some (.fq [lA (yP c),Bo (vZ c c.length)]):=by
 have ht:=WQ c b es hc hE;have hgl:=Gf c c.length;by_cases hg:gN c c.length=[]
 ·have hk:jL c=[]:=by unfold jL;rw[hg];exact List.mergeSort_nil
  obtain rfl:X=[]:=by
   have:=hX.len;rw[hg]at this;exact rh.1 this
  rw[hk,hg]at ht;rw[hg];refine kP (uH ?_);refine ah Lv ?_;exact .inl ⟨rfl,_,_,(zq.cell 7 J (WC.nil 0 1)).trans (cC),ht⟩
 ·have hpos:0<(gN c c.length).length:=r7.2 hg;have e1:lK (gN c c.length)=.sl (2*(gN c c.length).length-1) [] 1 0 (gN c c.length).length false:=by unfold lK;rw[dZ hg]
  have w1:=zq.zzr (B:=0) 0 (s:=⟨(iK l:: .za::.fh 1 0 []::Bo false::AQ c:: .za::.v (.map (some b))::lK (gN c c.length)::Bo (vZ c c.length):: .za::.za::.za::.za::.za::tZ (jp (jp ([])))),iF b es (gN c c.length).length (xn (gN c c.length))::X⟩) J J (Nu (gN c c.length) λj=>2*j+2)
  have hsel:posOf [0,2*(gN c c.length).length-1] 0 (2*(gN c c.length).length-1)=some 1:=by
   unfold posOf;rw[dZ aA];unfold posOf;rw[gh aj]
  have w2:=zq.fx (B:=0) [0,2*(gN c c.length).length-1] [2,3,6,7,8] (iK l:: .za::.fh 1 0 []::Bo false::AQ c:: .za::.v (.map (some b))::lK (gN c c.length)::Bo (vZ c c.length):: .za::.za::.za::.za::.za::tZ (jp (jp ([])))) (iF b es (gN c c.length).length (yf (gN c c.length))::X) J (by simp[hX.len];omega) (by simp[yl];omega) (by
   have:qt ([iF b es (gN c c.length).length (yf (gN c c.length))]++X)=true:=N6 (by unfold qt;simp[K9]) hX.flat;exact this)
  have hren:xC [0,2*(gN c c.length).length-1] (iF b es (gN c c.length).length (yf (gN c c.length))::X)=[iF b es (gN c c.length).length (yf (gN c c.length)),i4 ((gN c c.length).map (·.1))]:=by
   unfold xC;simp only[pN,sX]
   rw[show(iF b es (gN c c.length).length (yf (gN c c.length))::X)[0]?=some (iF b es (gN c c.length).length (yf (gN c c.length))) from J,show(iF b es (gN c c.length).length (yf (gN c c.length))::X)[2*(gN c c.length).length-1]?=some (i4 ((gN c c.length).map (·.1))) from by
    rw[show 2*(gN c c.length).length-1=(2*(gN c c.length).length-2)+1 from aw,pZ];exact hX.arr hg]
   simp only[Option.getD_some];rw[F9 J,OE]
  have htm:(AH [2,3,6,7,8] 0 (iK l:: .za::.fh 1 0 []::Bo false::AQ c:: .za::.v (.map (some b))::lK (gN c c.length)::Bo (vZ c c.length):: .za::.za::.za::.za::.za::tZ (jp (jp ([]))))).map (xO [0,2*(gN c c.length).length-1] 9)=(.za::.za::.fh 1 0 []::Bo false:: .za::.za::.v (.map (some b)):: .sl 1 [] 1 0 (gN c c.length).length false::Bo (vZ c c.length):: .za::.za::.za::.za::.za::tZ (jp (jp ([])))):=by
   rw[e1]
   have e2:xO [0,2*(gN c c.length).length-1] 9 (.sl (2*(gN c c.length).length-1) [] 1 0 (gN c c.length).length false)=.sl 1 [] 1 0 (gN c c.length).length false:=by
    unfold xO;dsimp only;rw[hsel]
   have hm:AH [2,3,6,7,8] 0 (iK l:: .za::.fh 1 0 []::Bo false::AQ c:: .za::.v (.map (some b)):: .sl (2*(gN c c.length).length-1) [] 1 0 (gN c c.length).length false::Bo (vZ c c.length):: .za::.za::.za::.za::.za::tZ (jp (jp ([]))))=(.za::.za::.fh 1 0 []::Bo false:: .za::.za::.v (.map (some b)):: .sl (2*(gN c c.length).length-1) [] 1 0 (gN c c.length).length false::Bo (vZ c c.length):: .za::.za::.za::.za::.za::tZ (jp (jp ([])))):=rfl;refine(rq (List.map _) hm).trans ?_;simp only[pN,sX,e2]
   rfl
  rw[hren,htm]at w2;refine .pre (w1.trans w2) (kP ?_);conv=>whnf
  have hlen:((gN c c.length).map (·.1)).length=(gN c c.length).length:=gu ..;have hso:=UD ((gN c c.length).map (·.1)) aw;rw[hlen]at hso;refine zZ [1] [iF b es (gN c c.length).length (yf (gN c c.length)),i4 (jL c)] (rx:=.fq []) hso J (by unfold xC;simp only[pN,sX];exact rq (·::[]) (OE _ _)) J J J (by unfold qt;simp[K9]) (by unfold wC;show [_,zG _ (i4 (jL c))]=_;rw[ZM];rfl) J (dd ?_);have hkl:(jL c).length=(gN c c.length).length:=by unfold jL;rw[u7,gu]
  refine .inl ⟨rfl,_,_,?_,ht⟩;exact(zq.HA 7 J J (.inr J) (by simp[hkl]) (λr hr c hc=>by obtain⟨z,_,rfl⟩:=gR.1 hr;simp at hc;subst hc;exact⟨rfl,rfl⟩)).trans (zq.xG 1 hC J J J (VM _ _ _ _ _) J)
def DI(l:List fk)(hl:l.length<=1000):tj 22 [] [iK l] (if (Go.Cal.ib l).2≠0 then .fq [.fh 1 0 [],Bo false] else .fq [lA (yP (Go.Cal.ib l).1),Bo (vZ (Go.Cal.ib l).1 (Go.Cal.ib l).1.length)]) []:=by
 have ho:=Go.Cal.Yr l aw;have hn:=Go.Cal.ZV l;generalize Go.Cal.ib l=q at *;obtain⟨c,e⟩:=q;dsimp only at hn;refine zb.BH (fn:=f22) func22 J ?_;refine kP (uH ?_);refine .inl ⟨rfl,_,_,.refl _,kP (uH ?_)⟩;refine ah ho ?_;refine .inl ⟨rfl,_,_,.refl _,kP (uH ?_)⟩;refine⟨λh1=>?_,λh1=>?_⟩
 ·refine dd ?_;have he:e≠0:=by simpa using h1
  rw[gh (show(c,e).2≠0 from he)];exact .inr ⟨aj,.inl J,_,.refl _,rfl⟩
 ·refine dd ?_;have he:e=0:=by simpa using h1
  rw[dZ (show ¬(c,e).2≠0 from λh=>h he)];refine .inl ⟨rfl,_,_,.refl _,kP (uH ?_)⟩;intro b;refine dd ?_;exact .inl ⟨rfl,_,_,zq.mask [0,2,3,4,6] _ _,WO l c b aw _ λes X hE hX=>Yv l c b es X aw hE hX⟩
def NF(c:List Cal)(hc:c.length<=1000):(PS c).length<=1000000:=by
 rw[<-F6];have h:=Jq c (jL c).length (gC _);have e:l8 c (jL c).length=yP c:=by unfold l8 yP;rw[gZ]
 rw[e]at h;have hk:=NO c;refine pA h (pA (Nat.mul_le_mul (show(jL c).length<=1000 by omega) hc) (gC _))
def Ls(a:List fA)(ha:a.length<4611686018427387904):tj 44 [] [lA a,lA a] (Bo true) []:=by
 have m1:(a.map xk).length=a.length:=gu ..;refine ab func44 ?_;refine⟨λh=>absurd h aj,λ_=>dd ?_⟩;refine qe.seq a.length (λk=>((lA a)::(lA a)::.za::.za::Bo false::I k::tZ (tZ ([.za,.za,.za,.za])))) (λk=>[]) (λ_=>True) ?_ trivial (λk hk _=>?_) (λ_=>?_)
 ·exact cC
 ·have gq:(a.map xk)[k]?=some (xk a[k]):=by rw[gf,dX hk];rfl
  generalize a[k]=x at gq;conv=>whnf
  rw[m1];refine uF ?_;refine uE ?_;refine⟨aw,_,gq,dd ?_⟩;refine⟨aw,_,gq,dd ?_⟩;refine⟨au,dd ?_⟩;refine⟨λh=>?_,λ_=>?_⟩
  ·exfalso
   revert h
   simp
  refine dd ?_;refine .inl ⟨rfl,?_,trivial⟩;rw[zw aw];exact cE 0
 ·conv=>whnf
  rw[m1];refine⟨λh=>absurd h aj,λ_=>dd ?_⟩;refine⟨aj,uH ?_⟩;exact uI
abbrev mB(s:Int):fA:=⟨1,0,0,0,s,0,0,vq⟩
abbrev yI:fA:=⟨0,0,0,0,0,0,0,vq⟩
abbrev e0:fk:=⟨0,0,1,3,0,false,3,true,false,false,yI⟩
abbrev e1:fk:=⟨1,0,2,12,0,false,3,true,false,true,mB 0⟩
abbrev e2:fk:=⟨0,0,1,0,0,true,0,false,false,false,yI⟩
abbrev e3:fk:=⟨0,0,0,0,0,false,0,false,false,true,mB 1⟩
abbrev e4:fk:=⟨1,1,2,12,0,false,3,true,false,false,yI⟩
abbrev yZ:List fk:=[e0,e1,e2,e3,e4]
def Te:tj 43 [] [] (.fh 1 23 (yZ.map jO)) []:=by
 refine ab func43 ?_;exact uI
abbrev c0:Cal:=⟨0,0,0, -1,3,mB 1⟩
abbrev c1:Cal:=⟨1,0,1, -1,1,mB 0⟩
abbrev c2:Cal:=⟨1,1,4, -1, -1,yI⟩
def Ay:Go.Cal.ib yZ=([c0,c1,c2],0):=by kernel_rfl
def KG:Go.Cal.ib [e0,e1,e2,e3]=([c0,c1],0):=by kernel_rfl
def KH:Go.Cal.ib [e1,e2]=([],11):=by kernel_rfl
def t0:Pv yZ=1:=by kernel_rfl
def t1:Px yZ=1:=by kernel_rfl
def t2:Pd yZ=1:=by kernel_rfl
def zyQ:yP [c0,c1,c2]=[mB 1,mB 0]:=by
 have e:jL [c0,c1,c2]=[0,1]:=by
  have h:((gN [c0,c1,c2] [c0,c1,c2].length).map (·.1))=[0,1]:=au
  unfold jL;rw[h];exact eK ar
 unfold yP;rw[e]
 rfl
def zyR:yP [c0,c1]=[mB 1,mB 0]:=by
 have e:jL [c0,c1]=[0,1]:=by
  have h:((gN [c0,c1] [c0,c1].length).map (·.1))=[0,1]:=au
  unfold jL;rw[h];exact eK ar
 unfold yP;rw[e]
 rfl
def o0:tj 22 [] [iK yZ] (.fq [lA [mB 1,mB 0],Bo false]) []:=by
 have h:=DI yZ ar;rw[Ay,dZ ar,show yP ([c0,c1,c2],(0:Int)).1=_ from zyQ]at h;exact h
def o1:tj 22 [] [iK [e0,e1,e2,e3]] (.fq [lA [mB 1,mB 0],Bo true]) []:=by
 have h:=DI [e0,e1,e2,e3] ar;rw[KG,dZ ar,show yP ([c0,c1],(0:Int)).1=_ from zyR]at h;exact h
def o2:tj 22 [] [iK [e1,e2]] (.fq [.fh 1 0 [],Bo false]) []:=by
 have h:=DI [e1,e2] ar;rw[KH,gh ar]at h;exact h
def yS:tj 18 [] [] (Bo true) []:=by
 have htv:=RF yZ ar;rw[t0]at htv;have htw:=S6 yZ ar;rw[t1]at htw;have hea:=LJ yZ ar;rw[t2]at hea;have hen:=LJ [] ar;have w23:∀l:List fk,iL [C.fh 1 23 (l.map jO)] [iK l]:=λl=>.cons (.share 1 23 _) .nil
 refine ab func18 ?_;refine ah Te ?_;refine ah (o0.pre (w23 yZ)) ?_;refine hZ ?_
 refine⟨.inr J,dd ?_⟩;refine⟨ar,dd ?_⟩;refine⟨ar,ar,dd ?_⟩;refine ah o1 ?_;refine hZ ?_
 refine⟨.inr J,dd ?_⟩;refine⟨ar,dd ?_⟩;refine⟨ar,dd ?_⟩;refine⟨ar,ar,dd ?_⟩;refine ah o2 ?_;refine hZ ?_
 refine ah (htv.pre (w23 yZ)) ?_;refine hZ ?_
 refine ah (htw.pre (w23 yZ)) ?_;refine hZ ?_
 refine ah (hea.pre (w23 yZ)) ?_;refine hZ ?_
 refine ah ((Ls [mB 1,mB 0] ar).pre (.cons (.refl _) (.cons (.share 1 13 _) .nil))) ?_;refine hZ ?_
 refine ah (Ls [mB 1,mB 0] ar) ?_;refine hZ ?_
 refine ah (hen.pre (.cons (.nil 0 23) .nil)) ?_;refine hZ ?_
 exact uI
end Go.Saf
