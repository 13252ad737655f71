import Derived.Test.YtoeaoedlpmohoaaGreatSL
import Derived.Test.YtoeaoedlpmohoaaGreatSP
import Derived.Test.YtoeaoedlpmohoaaGreatSJ
import Derived.Test.YtoeaoedlpmohoaaGreatShf
set_option linter.all false
set_option maxRecDepth 100000
set_option maxHeartbeats 4000000
namespace Go.Cal
open Go.Ab Go.Proofs Tryz Go.Hy
def XS(l:List lD):(l8 l).1.length<=l.length:=by
 unfold l8;cases h:vE l l.length with
 |none=>exact rk _
 |some b=>exact(KN h).2
end Go.Cal
namespace Go.Saf
open Go.Ab Go.Proofs Tryz Go.Hy Go.Pla
abbrev Ce(e:lD):C:=.agg (jd e)
def oo(b:Nat->Bool):Nat->Nat
 |0=>0
 |k+1=>oo b k+if b k then 1 else 0
def Oy(b:Nat->Bool):∀k,oo b k<=k
 |0=>pI _
 |k+1=>by have:=Oy b k;unfold oo;split <;> omega
def zm1(l:List lD)(f:FuncId)(b:Nat->Bool)(hl:l.length<1000000000000)(hcb:qw prog f=true)(hp:∀(i:Nat) (e:lD),l[i]?=some e->tp f [] [I i,Ce e] (Bo (b i)) []):
  tp 45 [] [na l,.fn f [] []] (I (oo b l.length:Nat)) []:=by
 have m1:(l.map jd).length=l.length:=pB ..;refine ab func45 ?_;rw[m1];refine zW.seq l.length (λk=>((na l)::.fn f [] []::.za::.za::I 0::I (oo b k:Nat)::.za::.za::(na l)::I l.length::I k::mF ([.za,.za,.za,.za]))) (λk=>[]) (λ_=>True) ?_ trivial (λk hk _=>?_) (λ_=>?_)
 ·exact cC
 ·have hq:l[k]?=some l[k]:=pa hk;generalize l[k]=e at hq;have gq:(l.map jd)[k]?=some (jd e):=by rw[pj,hq];rfl
  have hc:=Oy b k;conv=>whnf
  refine uF ?_;refine⟨aw,_,gq,dd ?_⟩;rw[hcb];refine ah (hp k e hq) ?_;refine⟨λh1=>?_,λh1=>?_⟩
  ·refine dd ?_;have e1:oo b (k+1)=oo b k+1:=by show oo b k+_=_;rw[h1];rfl
   refine .inl ⟨rfl,?_,trivial⟩;rw[zy aw,zy aw,e1];exact cE 0
  ·refine dd ?_;have e1:oo b (k+1)=oo b k:=by show oo b k+_=_;rw[h1];rfl
   refine .inl ⟨rfl,?_,trivial⟩;rw[zy aw,e1];exact cE 0
 ·conv=>whnf
  refine⟨λh=>absurd h aj,λ_=>dd ?_⟩;refine⟨aj,uH ?_⟩;exact uI
def RX(l:List lD)(f:FuncId)(b:Nat->Bool)(bb ty:Nat)(es:Nat->Array MapEntry)(ck:Nat->Nat)(hl:l.length<1000000000000)(hcb:qw prog f=true)
 (hp:∀(i:Nat) (e:lD),l[i]?=some e->tp f [mC bb (es i) (ck i),⟨1,ty,1,[[.v (.map (some bb))]],0⟩] [I i,Ce e,.ref 1 [] 1 0 0] (Bo (b i)) [mC bb (es (i+1)) (ck (i+1)),⟨1,ty,1,[[.v (.map (some bb))]],0⟩]):
  tp 45 [mC bb (es 0) (ck 0),⟨1,ty,1,[[.v (.map (some bb))]],0⟩] [na l,.fn f [] [.ref 1 [] 1 0 0]] (I (oo b l.length:Nat)) [mC bb (es l.length) (ck l.length),⟨1,ty,1,[[.v (.map (some bb))]],0⟩]:=by
 have m1:(l.map jd).length=l.length:=pB ..;refine zc.zM (fn:=f45) func45 O (uH ?_);rw[m1];refine zW.seq l.length (λk=>((na l)::.fn f [] [.ref 1 [] 1 0 0]::.za::.za::I 0::I (oo b k:Nat)::.za::.za::(na l)::I l.length::I k::mF ([.za,.za,.za,.za]))) (λk=>[mC bb (es k) (ck k),⟨1,ty,1,[[.v (.map (some bb))]],0⟩]) (λ_=>True) ?_ trivial (λk hk _=>?_) (λ_=>?_)
 ·exact cC
 ·have hq:l[k]?=some l[k]:=pa hk;generalize l[k]=e at hq;have gq:(l.map jd)[k]?=some (jd e):=by rw[pj,hq];rfl
  have hc:=Oy b k;conv=>whnf
  refine uF ?_;refine⟨aw,_,gq,dd ?_⟩;rw[hcb];refine af [0,1] (hp k e hq) ?_;refine⟨λh1=>?_,λh1=>?_⟩
  ·refine dd ?_;have e1:oo b (k+1)=oo b k+1:=by show oo b k+_=_;rw[h1];rfl
   refine .inl ⟨rfl,?_,trivial⟩;rw[zy aw,zy aw,e1];exact cE 2
  ·refine dd ?_;have e1:oo b (k+1)=oo b k:=by show oo b k+_=_;rw[h1];rfl
   refine .inl ⟨rfl,?_,trivial⟩;rw[zy aw,e1];exact cE 2
 ·conv=>whnf
  refine⟨λh=>absurd h aj,λ_=>dd ?_⟩;refine⟨aj,uH ?_⟩;exact uJ
def Ap(e:lD):Bool:=decide (e.access=2) && decide (e.cell=12)
def Sx(e:lD):tp 48 [] [Ce e] (Bo (Ap e)) []:=by
 refine ab func48 ?_;refine⟨λh1=>?_,λh1=>?_⟩
 ·refine dd ?_;refine⟨λh2=>?_,λh2=>?_⟩
  ·refine dd ?_
   (exact⟨.inl O,_,.refl _,uN (by unfold Ap;simp at h1 h2 ⊢;simp[h1,h2])⟩)
  ·refine dd ?_
   (exact⟨.inl O,_,.refl _,uN (by unfold Ap;simp at h1 h2 ⊢;simp[h1,h2])⟩)
 ·refine dd ?_
  (exact⟨.inl O,_,.refl _,uN (by unfold Ap;simp at h1 ⊢;simp[h1])⟩)
def zos(i:Nat)(e:lD):tp 46 [] [I i,Ce e] (Bo e.qd) []:=by
 refine ab func46 ?_;refine⟨λh1=>?_,λh1=>?_⟩ <;> refine dd ?_
 ·(exact⟨.inl O,_,.refl _,uN (by exact h1.symm)⟩)
 ·(exact⟨.inl O,_,.refl _,uN (by exact h1.symm)⟩)
def mT(l:List lD)(i:Nat):lD:=(l[i]?).getD ⟨0,0,0,0,0,false,0,false,false,false,⟨0,0,0,0,0,0,0,kK⟩⟩
def IP{l:List lD}{i:Nat}{e:lD}(h:l[i]?=some e):mT l i=e:=by unfold mT;rw[h];rfl
def Lz(l:List lD):Nat:=oo (λi=>(mT l i).qd) l.length
def RO(l:List lD)(hl:l.length<1000000000000):tp 19 [] [na l] (I (Lz l)) []:=by
 refine ab func19 ?_;refine ah (zm1 l 46 (λi=>(mT l i).qd) hl au (λi e h=>(by rw[IP h];exact zos i e))) ?_;exact uI
def vB(l:List Int):List (Int×Value):=l.map λx=>(x,.bool true)
def AR(l:List Int)(x:Int):List Int:=if x∈l then l else l++[x]
def PM(l:List Int):(vB l).length=l.length:=by simp[vB]
def VO(l:List Int)(x:Int):jw (vB l) x=l.findIdx? λy=>decide (y=x):=by
 unfold jw vB;rw[sN]
 rfl
def Y6(l:List Int)(x:Int):yK (vB l) x (.bool true)=vB (AR l x):=by
 unfold yK AR;rw[VO];cases h:l.findIdx? λy=>decide (y=x) with
 |none=>
  rw[pW]at h;have:x∉l:=λhx=>by have:=h x hx;simp at this
  rw[pw this];simp[vB]
 |some i=>
  obtain⟨h1,h2,_⟩:=pO.1 h;have e:l[i]=x:=aq h2
  rw[pA (e ▸ pY h1)];dsimp only;apply rp
  intro j;rw[pK];split
  ·rename_i hij;subst hij;simp[vB,h1,e]
  ·rfl
def ZG(l:List Int)(x:Int):(((jw (vB l) x).bind λi=>((vB l)[i]?).map (·.2)).getD (.bool false))=.bool (decide (x∈l)):=by
 rw[VO];cases h:l.findIdx? λy=>decide (y=x) with
 |none=>
  rw[pW]at h;have:x∉l:=λhx=>by have:=h x hx;simp at this
  simp[this]
 |some i=>
  obtain⟨h1,h2,_⟩:=pO.1 h;have e:l[i]=x:=aq h2
  simp[vB,h1,e ▸ pY h1]
def CB(l:List lD):Nat->List Int
 |0=>[]
 |k+1=>if Ap (mT l k) then AR (CB l k) (mT l k).value else CB l k
def Jy(l:List lD)(i:Nat):Bool:=Ap (mT l i) && decide ((mT l i).value∈CB l i)
def LA(l:List lD):Nat:=oo (Jy l) l.length
def AU:oG prog 3 zZ:=.int underlying3
def zou(i bb:Nat)(e:lD)(s:List Int):tp 47 [mC bb (jH zZ (vB (s))) (s).length,⟨1,125,1,[[.v (.map (some bb))]],0⟩] [I i,Ce e,.ref 1 [] 1 0 0] (Bo (Ap e && decide (e.value∈s))) [mC bb (jH zZ (vB (if Ap e then AR s e.value else s))) (if Ap e then AR s e.value else s).length,⟨1,125,1,[[.v (.map (some bb))]],0⟩]:=by
 refine zc.zM (fn:=f47) func47 O (uH ?_);refine ah (Sx e) ?_;refine⟨λh1=>?_,λh1=>?_⟩
 ·rw[h1];refine dd ?_;refine⟨_,_,lS.lookup (id:=0) _ _ _ O underlying125 AU (by rw[PM];rfl) O (e.value) (λE u h=>jo h) O O (λE=>by rw[ZG];exact .v _ O),dd ?_⟩;refine⟨_,_,lS.mapUpdate (id:=0) _ _ _ _ (.inl O) underlying125 AU (by rw[PM];rfl) O (e.value) (λE u h=>jo h) (.bool true) (λE u h=>jo h),dd ?_⟩;rw[Y6,PM];cases hd:decide (e.value∈s) with
  |true=>exact⟨.inl O,⟨(.za::.za::.za::.za::.za::Bo true::mF ([.za,.za,.za,.za])),_⟩,cE 2,rfl,rfl⟩
  |false=>exact⟨.inl O,⟨(.za::.za::.za::.za::.za::Bo false::mF ([.za,.za,.za,.za])),_⟩,cE 2,rfl,rfl⟩
 ·rw[h1];refine dd ?_;exact⟨.inl O,⟨(.za::.za::.za::.za::.za::Bo false::mF ([.za,.za,.za,.za])),_⟩,cE 2,rfl,rfl⟩
def Su(l:List lD)(hl:l.length<1000000000000):tp 20 [] [na l] (I (LA l)) []:=by
 refine ab func20 ?_;intro bb;refine dd ?_
 have h:=RX l 47 (Jy l) bb 125 (λi=>jH zZ (vB (CB l i))) (λi=>(CB l i).length) hl au λi e h=>(by
  have:=zou i bb e (CB l i);rw[<-IP h]at this ⊢;exact this)
 refine⟨_,_,h,dd ?_⟩;exact uI
abbrev Hs:=List (Int×Int×Nat)
def eE(h:Hs):List ng:=h.map λx=>(x.1,zZ x.2.1,x.2.2)
def Bs(h:Hs)(t:Int):Option Nat:=h.findIdx? λx=>decide (x.1=t)
def II(h:Hs)(t:Int):xV (eE h) t=Bs h t:=by
 unfold xV eE Bs;rw[sN]
 rfl
def Ch(e:lD):Bool:=decide (e.access=1) && decide (e.cell=3)
def CR(h:Hs)(k:Nat)(t v:Int):Hs×Nat:=match Bs h t with
 |some i=>(h.set i (t,v,((h[i]?).getD (0,0,0)).2.2),k)
 |none=>(h++[(t,v,k)],k+1)
def Bp(h:Hs)(t:Int):Hs:=match Bs h t with
 |some i=>h.eraseIdx i
 |none=>h
def j7(s:Hs×Nat)(e:lD):Hs×Nat:=if Ch e then CR s.1 s.2 e.zg e.value else s
def xf(s:Hs×Nat)(e:lD):Hs×Nat:=if e.done then (Bp s.1 e.zg,s.2) else s
def Aj(l:List lD):Nat->Hs×Nat
 |0=>([],0)
 |k+1=>xf (j7 (Aj l k) (mT l k)) (mT l k)
def GP(h:Hs)(v:Int):Bool:=h.any λx=>decide (x.2.1=v)
def LY(l:List lD)(i:Nat):Bool:=Ap (mT l i) && GP (Aj l i).1 (mT l i).value
def K8(l:List lD):Nat:=oo (LY l) l.length
structure Ac(h:Hs)(k:Nat):Prop where
 lt:∀x∈h,x.2.2<k
 st:(h.map (·.2.2)).Nodup
 key:(h.map (·.1)).Nodup
def Ik{h:Hs}{t:Int}{i:Nat}(e:Bs h t=some i):∃x,h[i]?=some x/\x.1=t:=by
 obtain⟨h1,h2,_⟩:=pO.1 e;exact⟨h[i],pa h1,aq h2⟩
def NX{h:Hs}{t:Int}(e:Bs h t=none):∀x∈h,x.1≠t:=λx hx=>by
 unfold Bs at e;rw[pW]at e;simpa using e x hx
def JL{α β:Type}(f:α->β){l:List α}{i:Nat}{x y:α}(hx:l[i]?=some x)(he:f y=f x):(l.set i y).map f=l.map f:=by
 apply rp
 intro j;rw[pj,pK,pj];split
 ·rename_i e;subst e;rw[pA (gZ.1 hx).1,hx];simp[he]
 ·rfl
def Ac.put{h:Hs}{k:Nat}(o:Ac h k)(t v:Int):Ac (CR h k t v).1 (CR h k t v).2:=by
 unfold CR;cases e:Bs h t with
 |some i=>
  obtain⟨x,hx,hxt⟩:=Ik e;dsimp only;rw[hx];dsimp only[Option.getD_some];refine⟨λy hy=>?_,?_,?_⟩
  ·rcases rC hy with h1|rfl
   ·exact o.lt y h1
   ·exact o.lt x (pq hx)
  ·rw[JL (y:=(t,v,x.2.2)) (·.2.2) hx O];exact o.st
  ·rw[JL (y:=(t,v,x.2.2)) (·.1) hx hxt.symm];exact o.key
 |none=>
  dsimp only;refine⟨λy hy=>?_,?_,?_⟩
  ·rcases pV.1 hy with h1|h1
   ·have:=o.lt y h1;omega
   ·simp at h1;subst h1;simp
  ·rw[rD,ir];refine⟨o.st,aj,?_⟩;intro a ha b hb;simp at hb;subst hb;obtain⟨x,hx,rfl⟩:=pZ.1 ha;have:=o.lt x hx;omega
  ·rw[rD,ir];refine⟨o.key,aj,?_⟩;intro a ha b hb;simp at hb;subst hb;obtain⟨x,hx,rfl⟩:=pZ.1 ha;exact NX e x hx
def Ac.del{h:Hs}{k:Nat}(o:Ac h k)(t:Int):Ac (Bp h t) k:=by
 unfold Bp;cases e:Bs h t with
 |none=>exact o
 |some i=>
  dsimp only;have hs:=List.eraseIdx_sublist h i;exact⟨λx hx=>o.lt x (hs.subset hx),(hs.map _).nodup o.st,(hs.map _).nodup o.key⟩
def Ac.load{s:Hs×Nat}(o:Ac s.1 s.2)(e:lD):Ac (j7 s e).1 (j7 s e).2:=by
 unfold j7;split
 ·exact o.put _ _
 ·exact o
def Ac.done{s:Hs×Nat}(o:Ac s.1 s.2)(e:lD):Ac (xf s e).1 (xf s e).2:=by
 unfold xf;split
 ·exact o.del _
 ·exact o
def OV(l:List lD):∀k,Ac (Aj l k).1 (Aj l k).2
 |0=>⟨by simp[Aj],by simp[Aj],by simp[Aj]⟩
 |k+1=>((OV l k).load _).done _
def ZE{h:Hs}{j:Nat}{x:ng}(hx:(eE h)[j]?=some x):∃y,h[j]?=some y/\x=(y.1,zZ y.2.1,y.2.2):=by
 unfold eE at hx;rw[pj]at hx;cases hy:h[j]? with
 |none=>rw[hy]at hx;cases hx
 |some y=>rw[hy]at hx;cases hx;exact⟨y,rfl,rfl⟩
def EG{P:Program}{o:Oper}{ρ:Operand->C}{H:zo}{kt et:TypeId}(cl:Call)(ho:o.op=.call cl)(hcl:cl.callee=.builtin .delete){m x:Operand}{tm tk:TypeId}(ha:cl.args= #[m,x])(hat:cl.argTypes= #[tm,tk])(ht:P.underlying tm=some (.map kt et))(hu:P.underlying kt=some (.int .i64)){id b k:Nat}{h:Hs}(hob:H[id]?=some (mC b (xt (eE h)) k))
 (hm:ρ m=.v (.map (some b))){kx:Int}(hx:ρ x=.v (.int .i64 kx)){R:C->zo->Prop}(h1:R .un (H.set id (mC b (xt (eE (Bp h kx))) k))):jq P o ρ H R:=by
 refine jq.zuG cl ho hcl ha hat ht hu hob hm hx ?_;rw[II];unfold Bp at h1;cases hf:Bs h kx with
 |none=>rw[hf]at h1;exact h1
 |some i=>rw[hf]at h1;rw[show(eE (h.eraseIdx i))=(eE h).eraseIdx i from(ML _ _ _).symm]at h1;exact h1
def Eb(h:Hs)(seen:Array Nat)(v:Int):Bool:=h.any λx=>seen.contains x.2.2 && decide (x.2.1=v)
def zsP{h:Hs}{k:Nat}(ok:Ac h k)(seen:Array Nat){y:Int×Int×Nat}(hy:y∈h)(v:Int):Eb h (seen.push y.2.2) v=(Eb h seen v || decide (y.2.1=v)):=by
 unfold Eb;rw[uz];simp only[sb,sB,pG,pQ,Array.contains_eq_mem,Array.mem_push];constructor
 ·rintro⟨x,hx,h1|h1,h2⟩
  ·exact .inl ⟨x,hx,h1,h2⟩
  ·obtain⟨i,hi⟩:=pJ.1 hx;obtain⟨j,hj⟩:=pJ.1 hy;have hil:=(gZ.1 hi).1;have hjl:=(gZ.1 hj).1;have hst:=uw.1 ok.st;rw[pa hil]at hi;rw[pa hjl]at hj;have hi':=pz hi;have hj':=pz hj
   have:i=j:=by
    rcases sX i j with lu|heq|lu
    ·exact(hst i j (aq hil) (aq hjl) lu (by simp only[eX];rw[hi',hj'];exact h1)).elim
    ·exact heq
    ·exact(hst j i (aq hjl) (aq hil) lu (by simp only[eX];rw[hi',hj'];exact h1.symm)).elim
   subst this;rw[hi']at hj';subst hj';exact .inr h2
 ·rintro(⟨x,hx,h1,h2⟩|h2)
  ·exact⟨x,hx,.inl h1,h2⟩
  ·exact⟨y,hy,.inr O,h2⟩
def zwa{h:Hs}(seen:Array Nat){y:Int×Int×Nat}(hy:y∈h)(hs:seen.contains y.2.2=false):(h.filter λx=>!(seen.push y.2.2).contains x.2.2).length<(h.filter λx=>!seen.contains x.2.2).length:=by
 have e:(h.filter λx=>!(seen.push y.2.2).contains x.2.2)=(h.filter λx=>!seen.contains x.2.2).filter λx=>!(x.2.2 == y.2.2):=by
  rw[List.filter_filter];refine iV λx _=>?_
  rw[uz];simp[Array.mem_push,not_or,and_comm]
 rw[e];refine fT.2 ⟨y,?_,aj⟩;rw[iL];exact⟨hy,aq hs⟩
def zm8(i bb:Nat)(e:lD)(h:Hs)(k:Nat)(ok:Ac h k):tp 49 [mC bb (xt (eE (h))) (k),⟨1,117,1,[[.v (.map (some bb))]],0⟩] [I i,Ce e,.ref 1 [] 1 0 0] (Bo (Ap e && GP h e.value)) [mC bb (xt (eE ((xf (j7 (h,k) e) e).1))) ((xf (j7 (h,k) e) e).2),⟨1,117,1,[[.v (.map (some bb))]],0⟩]:=by
 refine zc.zM (fn:=f49) func49 O (uH ?_);refine ah (Sx e) ?_;refine⟨λh1=>?_,λh1=>?_⟩
 ·rw[h1];refine dd ?_;refine jq.rangeMap (id:=0) _ _ O O O O ?_;intro r;refine dd ?_;refine zW.inv (λn t1 H1=>∃seen:Array Nat,n=(h.filter λx=>!seen.contains x.2.2).length/\t1=(I i::(Ce e)::.ref 1 [] 1 0 0::.za::.ref 2 [] 23 0 0::Bo false::Bo (Eb h seen e.value)::.za::.za::.za::.za::.za::.v (.pointer (some ⟨r,0,none⟩))::mF (mF (mF ([.za,.za,.za,.za,.za,.za]))))/\H1=[mC bb (xt (eE (h))) (k),⟨1,117,1,[[.v (.map (some bb))]],0⟩,oE e,FZ r bb k seen k]) h.length ?_ ?_
  ·have e0:Eb h #[] e.value=false:=by simp[Eb]
   refine⟨(I i::(Ce e)::.ref 1 [] 1 0 0::.za::.ref 2 [] 23 0 0::Bo false::Bo false::.za::.za::.za::.za::.za::.v (.pointer (some ⟨r,0,none⟩))::mF (mF (mF ([.za,.za,.za,.za,.za,.za])))),[mC bb (xt (eE (h))) (k),⟨1,117,1,[[.v (.map (some bb))]],0⟩,oE e,FZ r bb k #[] k],cC, #[],(by show h.length=_;rw[List.filter_eq_self.2 aj]),?_,rfl⟩;rw[e0]
  ·rintro n _ _ ⟨seen,hn,rfl,rfl⟩;conv=>whnf
   refine jq.XP (id:=0) (id2:=3) _ O O O O (λx hx=>?_) (pI _) (λqj=>?_) (λj x hx hs=>?_)
   ·simp only[eE,pZ]at hx;obtain⟨y,hy,rfl⟩:=hx;exact ok.lt y hy
   ·refine dd ?_;refine tf ?_
    refine .inr ⟨aj,?_⟩
    have eh:Eb h seen e.value=GP h e.value:=by
     unfold Eb GP;rw[uz,sb,sb];constructor
     ·rintro⟨x,hx,hv⟩;rw[pG]at hv;exact⟨x,hx,hv.2⟩
     ·rintro⟨x,hx,hv⟩;exact⟨x,hx,by rw[qj _ (iN (f:=λx:Int×Int×Nat=>((x.1,zZ x.2.1,x.2.2):ng)) hx)];simpa using hv⟩
    rw[eh];refine dd ?_;refine⟨λhl1=>?_,λhl1=>?_⟩
    ·refine dd ?_;refine⟨λhl2=>?_,λhl2=>?_⟩
     ·refine dd ?_;have hL0:j7 (h,k) e=CR h k e.zg e.value:=by unfold j7 Ch;rw[show decide (e.access=1)=true from hl1,show decide (e.cell=3)=true from hl2];rfl
      cases hf:Bs h e.zg with
      |some j=>
       obtain⟨x,hx,hxt⟩:=Ik hf;have hL:j7 (h,k) e=(h.set j (e.zg,e.value,x.2.2),k):=by rw[hL0];unfold CR;rw[hf];dsimp only;rw[hx];rfl
       refine⟨_,_,lS.WW (id:=0) _ _ _ _ (.inl O) O O O O O ((II h e.zg).trans hf) (by unfold eE;rw[pj,hx];rfl) O,?_⟩;refine dd ?_;rw[show((eE h).set j (x.1,zZ e.value,x.2.2))=eE (h.set j (e.zg,e.value,x.2.2)) from by unfold eE;rw[r6,hxt]];refine⟨λhd=>?_,λhd=>?_⟩
       ·refine dd ?_;refine EG (id:=0) _ O O O O O O O O O ?_;have eD:xf (j7 (h,k) e) e=(Bp (h.set j (e.zg,e.value,x.2.2)) e.zg,k):=by unfold xf;exact gT
        rw[eD];refine dd ?_;exact dj
       ·refine dd ?_;have eD:xf (j7 (h,k) e) e=((h.set j (e.zg,e.value,x.2.2)),k):=by unfold xf;exact gT
        rw[eD];exact dj
      |none=>
       have hL:j7 (h,k) e=(h++[(e.zg,e.value,k)],k+1):=by rw[hL0];unfold CR;rw[hf]
       refine⟨_,_,lS.VK (id:=0) _ _ _ _ (.inl O) O O O O O ((II h e.zg).trans hf) O,dd ?_⟩;rw[show(eE h++[(e.zg,zZ e.value,k)])=eE (h++[(e.zg,e.value,k)]) from by unfold eE;simp];refine⟨λhd=>?_,λhd=>?_⟩
       ·refine dd ?_;refine EG (id:=0) _ O O O O O O O O O ?_;have eD:xf (j7 (h,k) e) e=(Bp (h++[(e.zg,e.value,k)]) e.zg,(k+1)):=by unfold xf;exact gT
        rw[eD];refine dd ?_;exact dj
       ·refine dd ?_;have eD:xf (j7 (h,k) e) e=((h++[(e.zg,e.value,k)]),(k+1)):=by unfold xf;exact gT
        rw[eD];exact dj
     ·refine dd ?_;have hL:j7 (h,k) e=(h,k):=by unfold j7 Ch;rw[show decide (e.cell=3)=false from hl2];simp
      refine⟨λhd=>?_,λhd=>?_⟩
      ·refine dd ?_;refine EG (id:=0) _ O O O O O O O O O ?_;have eD:xf (j7 (h,k) e) e=(Bp h e.zg,k):=by unfold xf;exact gT
       rw[eD];refine dd ?_;exact dj
      ·refine dd ?_;have eD:xf (j7 (h,k) e) e=(h,k):=by unfold xf;exact gT
       rw[eD];exact dj
    ·refine dd ?_;have hL:j7 (h,k) e=(h,k):=by unfold j7 Ch;rw[show decide (e.access=1)=false from hl1];simp
     refine⟨λhd=>?_,λhd=>?_⟩
     ·refine dd ?_;refine EG (id:=0) _ O O O O O O O O O ?_;have eD:xf (j7 (h,k) e) e=(Bp h e.zg,k):=by unfold xf;exact gT
      rw[eD];refine dd ?_;exact dj
     ·refine dd ?_;have eD:xf (j7 (h,k) e) e=(h,k):=by unfold xf;exact gT
      rw[eD];exact dj
   ·obtain⟨y,hy,rfl⟩:=ZE hx;refine dd ?_;refine tf ?_
    refine jq.zxg (id:=0) (id2:=3) _ O O hx O O (by simpa [eE,sM,Function.comp_def] using ok.st) O (dd ?_);have hym:=pq hy;have hps:=zsP ok seen hym e.value;have hls:=zwa seen hym hs;cases hb:Eb h seen e.value with
    |true=>
     refine dd ?_;rw[hb,iK]at hps;exact gH
    |false=>
     rw[hb,uc]at hps;refine dd ?_;refine⟨λh2=>?_,λh2=>?_⟩ <;> refine dd ?_
     ·rw[show decide (y.2.1=e.value)=true from aq h2]at hps;exact gH
     ·rw[show decide (y.2.1=e.value)=false from aq h2]at hps;exact gH
 ·rw[h1];refine dd ?_;refine⟨λhl1=>?_,λhl1=>?_⟩
  ·refine dd ?_;refine⟨λhl2=>?_,λhl2=>?_⟩
   ·refine dd ?_;have hL0:j7 (h,k) e=CR h k e.zg e.value:=by unfold j7 Ch;rw[show decide (e.access=1)=true from hl1,show decide (e.cell=3)=true from hl2];rfl
    cases hf:Bs h e.zg with
    |some j=>
     obtain⟨x,hx,hxt⟩:=Ik hf;have hL:j7 (h,k) e=(h.set j (e.zg,e.value,x.2.2),k):=by rw[hL0];unfold CR;rw[hf];dsimp only;rw[hx];rfl
     refine⟨_,_,lS.WW (id:=0) _ _ _ _ (.inl O) O O O O O ((II h e.zg).trans hf) (by unfold eE;rw[pj,hx];rfl) O,?_⟩;refine dd ?_;rw[show((eE h).set j (x.1,zZ e.value,x.2.2))=eE (h.set j (e.zg,e.value,x.2.2)) from by unfold eE;rw[r6,hxt]];refine⟨λhd=>?_,λhd=>?_⟩
     ·refine dd ?_;refine EG (id:=0) _ O O O O O O O O O ?_;have eD:xf (j7 (h,k) e) e=(Bp (h.set j (e.zg,e.value,x.2.2)) e.zg,k):=by unfold xf;exact gT
      rw[eD];refine dd ?_;exact dk
     ·refine dd ?_;have eD:xf (j7 (h,k) e) e=((h.set j (e.zg,e.value,x.2.2)),k):=by unfold xf;exact gT
      rw[eD];exact dk
    |none=>
     have hL:j7 (h,k) e=(h++[(e.zg,e.value,k)],k+1):=by rw[hL0];unfold CR;rw[hf]
     refine⟨_,_,lS.VK (id:=0) _ _ _ _ (.inl O) O O O O O ((II h e.zg).trans hf) O,dd ?_⟩;rw[show(eE h++[(e.zg,zZ e.value,k)])=eE (h++[(e.zg,e.value,k)]) from by unfold eE;simp];refine⟨λhd=>?_,λhd=>?_⟩
     ·refine dd ?_;refine EG (id:=0) _ O O O O O O O O O ?_;have eD:xf (j7 (h,k) e) e=(Bp (h++[(e.zg,e.value,k)]) e.zg,(k+1)):=by unfold xf;exact gT
      rw[eD];refine dd ?_;exact dk
     ·refine dd ?_;have eD:xf (j7 (h,k) e) e=((h++[(e.zg,e.value,k)]),(k+1)):=by unfold xf;exact gT
      rw[eD];exact dk
   ·refine dd ?_;have hL:j7 (h,k) e=(h,k):=by unfold j7 Ch;rw[show decide (e.cell=3)=false from hl2];simp
    refine⟨λhd=>?_,λhd=>?_⟩
    ·refine dd ?_;refine EG (id:=0) _ O O O O O O O O O ?_;have eD:xf (j7 (h,k) e) e=(Bp h e.zg,k):=by unfold xf;exact gT
     rw[eD];refine dd ?_;exact dk
    ·refine dd ?_;have eD:xf (j7 (h,k) e) e=(h,k):=by unfold xf;exact gT
     rw[eD];exact dk
  ·refine dd ?_;have hL:j7 (h,k) e=(h,k):=by unfold j7 Ch;rw[show decide (e.access=1)=false from hl1];simp
   refine⟨λhd=>?_,λhd=>?_⟩
   ·refine dd ?_;refine EG (id:=0) _ O O O O O O O O O ?_;have eD:xf (j7 (h,k) e) e=(Bp h e.zg,k):=by unfold xf;exact gT
    rw[eD];refine dd ?_;exact dk
   ·refine dd ?_;have eD:xf (j7 (h,k) e) e=(h,k):=by unfold xf;exact gT
    rw[eD];exact dk
def MW(l:List lD)(hl:l.length<1000000000000):tp 21 [] [na l] (I (K8 l)) []:=by
 refine ab func21 ?_;intro bb;refine dd ?_
 have h:=RX l 49 (LY l) bb 117 (λi=>xt (eE (Aj l i).1)) (λi=>(Aj l i).2) hl au λi e h=>(by
  have:=zm8 i bb e (Aj l i).1 (Aj l i).2 (OV l i);rw[<-IP h]at this ⊢;exact this)
 refine⟨_,_,h,dd ?_⟩;exact uI
def LW(p:Nat->Bool):Nat->Bool
 |0=>false
 |k+1=>LW p k || p k
def zwJ(p:Nat->Bool):∀k,LW p k=true↔∃j,j<k/\p j=true
 |0=>by simp[LW]
 |k+1=>by
  unfold LW;rw[sB,zwJ p k];constructor
  ·rintro(⟨j,h1,h2⟩|h)
   ·exact⟨j,aw,h2⟩
   ·exact⟨k,aw,h⟩
  ·rintro⟨j,h1,h2⟩;by_cases h:j=k
   ·subst h;exact .inr h2
   ·exact .inl ⟨j,aw,h2⟩
def ZF{l:List lD}{k:Nat}(hk:k<l.length):l[k]?=some (mT l k)/\(l.map jd)[k]?=some (jd (mT l k)):=by
 have h:l[k]?=some l[k]:=pa hk;rw[IP h,pj];exact⟨h,by rw[h];rfl⟩
def Vs(l:List lD)(v:Int):∀k,v∈CB l k↔∃j,j<k/\Ap (mT l j)=true/\(mT l j).value=v
 |0=>by simp[CB]
 |k+1=>by
  have ih:=Vs l v k
  have step:v∈CB l (k+1)↔v∈CB l k\/(Ap (mT l k)=true/\(mT l k).value=v):=by
   show v∈(if Ap (mT l k) then AR (CB l k) (mT l k).value else CB l k)↔_;cases hf:Ap (mT l k) with
   |false=>simp
   |true=>
    simp only[if_true,fj];unfold AR;split
    ·rename_i hm;constructor
     ·exact .inl
     ·rintro(h|h)
      ·exact h
      ·rw[<-h];exact hm
    ·simp[eq_comm]
  rw[step,ih];constructor
  ·rintro(⟨j,h1,h2⟩|h)
   ·exact⟨j,aw,h2⟩
   ·exact⟨k,aw,h⟩
  ·rintro⟨j,h1,h2⟩;by_cases h:j=k
   ·subst h;exact .inr h2
   ·exact .inl ⟨j,aw,h2⟩
def Ja(l:List lD)(t:Int)(c:Option Int)(k:Nat):Option Int:=
 if (mT l k).zg=t then (if (mT l k).done then none else if Ch (mT l k) then some (mT l k).value else c) else c
def E7(l:List lD)(t:Int):Nat->Option Int
 |0=>none
 |k+1=>Ja l t (E7 l t k) k
def Dh(h:Hs)(t v:Int):Prop:=∃x∈h,x.1=t/\x.2.1=v
def Pm{h:Hs}{k:Nat}(ok:Ac h k){i j:Nat}{x y:Int×Int×Nat}(hi:h[i]?=some x)(hj:h[j]?=some y)(e:x.1=y.1):i=j:=by
 have hil:=(gZ.1 hi).1;have hjl:=(gZ.1 hj).1;have hst:=uw.1 ok.key;rw[pa hil]at hi;rw[pa hjl]at hj;have hi':=pz hi;have hj':=pz hj;rcases sX i j with lu|heq|lu
 ·exact(hst i j (aq hil) (aq hjl) lu (by simp only[eX];rw[hi',hj'];exact e)).elim
 ·exact heq
 ·exact(hst j i (aq hjl) (aq hil) lu (by simp only[eX];rw[hi',hj'];exact e.symm)).elim
def Ye{h:Hs}{k:Nat}(ok:Ac h k)(t v t' v':Int):Dh (CR h k t v).1 t' v'↔if t'=t then v'=v else Dh h t' v':=by
 unfold CR;cases e:Bs h t with
 |some i=>
  obtain⟨x,hx,hxt⟩:=Ik e;dsimp only;rw[hx];dsimp only[Option.getD_some];have hil:=(gZ.1 hx).1;constructor
  ·rintro⟨y,hy,h1,h2⟩;obtain⟨j,hj⟩:=pJ.1 hy;rw[pK]at hj;split at hj
   ·rename_i hij;cases hj
    rw[pA h1.symm];exact h2.symm
   ·rename_i hij;have:t'≠t:=λht=>hij (Pm ok hx hj (by rw[hxt,h1,ht]))
    rw[pw this];exact⟨y,pq hj,h1,h2⟩
  ·intro hh;split at hh
   ·rename_i ht;subst ht hh;exact⟨_,pJ.2 ⟨i,by rw[pK,pA O,pA hil]⟩,rfl,rfl⟩
   ·rename_i ht;obtain⟨y,hy,h1,h2⟩:=hh;obtain⟨j,hj⟩:=pJ.1 hy;refine⟨y,pJ.2 ⟨j,?_⟩,h1,h2⟩;rw[pK,pw]
    ·exact hj
    ·rintro rfl;rw[hx]at hj;cases hj
     exact ht (h1.symm.trans hxt)
 |none=>
  have hno:=NX e;dsimp only;constructor
  ·rintro⟨y,hy,h1,h2⟩;rcases pV.1 hy with hy|hy
   ·rw[pw (λht=>hno y hy (h1.trans ht))];exact⟨y,hy,h1,h2⟩
   ·simp at hy;subst hy;rw[pA h1.symm];exact h2.symm
  ·intro hh;split at hh
   ·rename_i ht;subst ht hh;exact⟨(t',v',k),aj,rfl,rfl⟩
   ·obtain⟨y,hy,h1,h2⟩:=hh;exact⟨y,by simp[hy],h1,h2⟩
def Yd{h:Hs}{k:Nat}(ok:Ac h k)(t t' v':Int):Dh (Bp h t) t' v'↔t'≠t/\Dh h t' v':=by
 unfold Bp;cases e:Bs h t with
 |some i=>
  obtain⟨x,hx,hxt⟩:=Ik e;dsimp only;constructor
  ·rintro⟨y,hy,h1,h2⟩;obtain⟨j,hj⟩:=pJ.1 hy;rw[iw]at hj;refine⟨λht=>?_,y,?_,h1,h2⟩
   ·split at hj
    ·have:=Pm ok hx hj (by rw[hxt,h1,ht]);omega
    ·have:=Pm ok hx hj (by rw[hxt,h1,ht]);omega
   ·split at hj <;> exact pq hj
  ·rintro⟨ht,y,hy,h1,h2⟩;obtain⟨j,hj⟩:=pJ.1 hy
   have hne:i≠j:=by
    rintro rfl;rw[hx]at hj;cases hj
    exact ht (h1.symm.trans hxt)
   refine⟨y,?_,h1,h2⟩;rcases sd j i with lu|hge
   ·exact pJ.2 ⟨j,by rw[iw,pA lu];exact hj⟩
   ·exact pJ.2 ⟨j-1,by rw[iw,pw aw,show j-1+1=j from aw];exact hj⟩
 |none=>
  have hno:=NX e;constructor
  ·rintro⟨y,hy,h1,h2⟩;exact⟨λht=>hno y hy (h1.trans ht),y,hy,h1,h2⟩
  ·exactλhh=>hh.2
def VR(l:List lD)(t v:Int):∀k,Dh (Aj l k).1 t v↔E7 l t k=some v
 |0=>by simp[Dh,Aj,E7]
 |k+1=>by
  have ih:=VR l t v k;have ok:=OV l k;have ok1:=ok.load (mT l k)
  have e1:Dh (j7 (Aj l k) (mT l k)).1 t v↔if Ch (mT l k)=true/\t=(mT l k).zg then v=(mT l k).value else Dh (Aj l k).1 t v:=by
   unfold j7;cases hl:Ch (mT l k) with
   |false=>simp
   |true=>
    simp only[if_true,fj];exact Ye ok _ _ _ _
  have e2:Dh (xf (j7 (Aj l k) (mT l k)) (mT l k)).1 t v↔((mT l k).done=true->t≠(mT l k).zg)/\Dh (j7 (Aj l k) (mT l k)).1 t v:=by
   unfold xf;cases hd:(mT l k).done with
   |false=>simp
   |true=>
    simp only[if_true,true_implies];exact Yd ok1 _ _ _
  show Dh (xf (j7 (Aj l k) (mT l k)) (mT l k)).1 t v↔Ja l t (E7 l t k) k=some v;rw[e2,e1,ih];unfold Ja;by_cases ht:(mT l k).zg=t
  ·subst ht;simp only[if_true,ne_eq,not_true,and_true];cases (mT l k).done with
   |true=>simp
   |false=>
    simp only[ug,false_implies,fj,if_false];split
    ·simp[eq_comm]
    ·rfl
  ·rw[pw ht];have ht':¬t=(mT l k).zg:=λh=>ht h.symm
   simp[ht']
abbrev Gs:=List (Int×List lM)
def Dn(g:Gs)(t:Int):Option Nat:=g.findIdx? λx=>decide (x.1=t)
def Hk(g:Gs)(t:Int)(a:lM):Gs:=match Dn g t with
 |some j=>g.set j (t,(((g[j]?).getD (0,[])).2)++[a])
 |none=>g++[(t,[a])]
def yD(x:Cal):Bool:=!decide (x.mK<0)
def j6(c:List Cal)(k:Nat):Cal:=(c[k]?).getD ⟨0,0,0,0,0,⟨0,0,0,0,0,0,0,kK⟩⟩
def gN(c:List Cal):Nat->Gs
 |0=>[]
 |k+1=>if yD (j6 c k) then Hk (gN c k) (j6 c k).zg (j6 c k).answer else gN c k
def wx(c:List Cal):Nat->Bool
 |0=>true
 |k+1=>wx c k && yD (j6 c k)
def xE(c:List Cal)(t:Int):List lM:=(c.filter λx=>decide (x.zg=t) && yD x).map (·.answer)
def DB(g:List lM)(i:Nat):lM:=(g[i]?).getD ⟨0,0,0,0,0,0,0,kK⟩
def FQ(g:List lM):List lM:=(qQ g).map (DB g)
def Gq{c:List Cal}{k:Nat}{x:Cal}(h:c[k]?=some x):j6 c k=x:=by unfold j6;rw[h];rfl
def NW{g:Gs}{t:Int}{j:Nat}(h:Dn g t=some j):∃x,g[j]?=some x/\x.1=t:=by
 obtain⟨h1,h2,_⟩:=pO.1 h;exact⟨g[j],pa h1,aq h2⟩
def UD{g:Gs}{t:Int}(h:Dn g t=none):∀x∈g,x.1≠t:=λx hx=>by
 unfold Dn at h;rw[pW]at h;simpa using h x hx
structure W3(c:List Cal)(k:Nat)(g:Gs):Prop where
 key:(g.map (·.1)).Nodup
 val:∀x∈g,x.2=xE (c.take k) x.1/\x.2≠[]
 all:∀t,xE (c.take k) t≠[]->∃x∈g,x.1=t
def zrE(c:List Cal)(k:Nat)(hk:k<c.length)(t:Int):xE (c.take (k+1)) t=xE (c.take k) t++if (j6 c k).zg=t/\yD (j6 c k)=true then [(j6 c k).answer] else []:=by
 have hq:c[k]?=some c[k]:=pa hk;rw[Gq hq];unfold xE;rw[iW,hq,ez,rD]
 congr 1
 by_cases h1:c[k].zg=t <;> cases h2:yD c[k] <;> simp[h1,h2]
def Yk{g:Gs}(hk:(g.map (·.1)).Nodup){i j:Nat}{x y:Int×List lM}(hi:g[i]?=some x)(hj:g[j]?=some y)(e:x.1=y.1):i=j:=by
 have hil:=(gZ.1 hi).1;have hjl:=(gZ.1 hj).1;have hst:=uw.1 hk;rw[pa hil]at hi;rw[pa hjl]at hj;have hi':=pz hi;have hj':=pz hj;rcases sX i j with lu|heq|lu
 ·exact(hst i j (aq hil) (aq hjl) lu (by simp only[eX];rw[hi',hj'];exact e)).elim
 ·exact heq
 ·exact(hst j i (aq hjl) (aq hil) lu (by simp only[eX];rw[hi',hj'];exact e.symm)).elim
def I2(c:List Cal):∀k,k<=c.length->W3 c k (gN c k)
 |0,_=>⟨by simp[gN],by simp[gN],λt h=>by simp[xE]at h⟩
 |k+1,hk=>by
  have ih:=I2 c k aw;have hg:=zrE c k aw;unfold gN;cases he:yD (j6 c k) with
  |false=>
   have hg':∀t,xE (c.take (k+1)) t=xE (c.take k) t:=λt=>by rw[hg t,he];simp
   exact⟨ih.key,λx hx=>by rw[hg'];exact ih.val x hx,λt ht=>ih.all t (by rw[<-hg'];exact ht)⟩
  |true=>
   simp only[if_true];rw[he]at hg;simp only[and_true]at hg;unfold Hk;cases hat:Dn (gN c k) (j6 c k).zg with
   |some j=>
    obtain⟨x,hx,hxt⟩:=NW hat;dsimp only;rw[hx];dsimp only[Option.getD_some];have hxm:=pq hx;refine⟨by rw[JL (y:=((j6 c k).zg,x.2++[(j6 c k).answer])) (·.1) hx hxt.symm];exact ih.key,λy hy=>?_,λt ht=>?_⟩
    ·obtain⟨i,hi⟩:=pJ.1 hy;rw[pK]at hi;split at hi
     ·rename_i hij;subst hij;split at hi
      ·cases hi
       dsimp only;rw[hg,pA O,<-hxt,(ih.val x hxm).1,hxt];exact⟨rfl,aj⟩
      ·cases hi
     ·rename_i hij;have hne:(j6 c k).zg≠y.1:=λe=>hij (Yk ih.key hx hi (hxt.trans e))
      rw[hg,pw hne,rK];exact ih.val y (pq hi)
    ·by_cases e:(j6 c k).zg=t
     ·exact⟨_,pJ.2 ⟨j,by rw[pK,pA O,pA (gZ.1 hx).1]⟩,e⟩
     ·rw[hg,pw e,rK]at ht;obtain⟨y,hy,hyt⟩:=ih.all t ht;obtain⟨i,hi⟩:=pJ.1 hy;refine⟨y,pJ.2 ⟨i,?_⟩,hyt⟩;rw[pK,pw]
      ·exact hi
      ·rintro rfl;rw[hx]at hi;cases hi
       exact e (hxt.symm.trans hyt)
   |none=>
    have hno:=UD hat;dsimp only;refine⟨?_,λy hy=>?_,λt ht=>?_⟩
    ·rw[rD,ir];refine⟨ih.key,aj,?_⟩;intro a ha b hb;simp at hb;subst hb;obtain⟨x,hx,rfl⟩:=pZ.1 ha;exact hno x hx
    ·rcases pV.1 hy with hy|hy
     ·rw[hg,pw (λe=>hno y hy e.symm),rK];exact ih.val y hy
     ·simp at hy;subst hy;dsimp only
      have:xE (c.take k) (j6 c k).zg=[]:=by
       cases hgv:xE (c.take k) (j6 c k).zg with
       |nil=>rfl
       |cons a rest=>
        obtain⟨x,hx,hxt⟩:=ih.all (j6 c k).zg (by rw[hgv];simp);exact absurd hxt (hno x hx)
      rw[hg,pA O,this];exact⟨rfl,aj⟩
    ·by_cases e:(j6 c k).zg=t
     ·exact⟨((j6 c k).zg,[(j6 c k).answer]),aj,e⟩
     ·rw[hg,pw e,rK]at ht;obtain⟨y,hy,hyt⟩:=ih.all t ht;exact⟨y,by simp[hy],hyt⟩
def JT{β:Type}(f:Int->List β):∀(A B:List Int),A.Pairwise (· < ·)->B.Pairwise (· < ·)->(∀x∈A,x∈B)->(∀x∈B,x∉A->f x=[])->A.flatMap f=B.flatMap f
 |[],B,_,_,_,h=>by
  rw[List.flatMap_nil]
  symm
  rw[List.flatMap_eq_nil_iff]
  exactλx hx=>h x hx aj
 |a::A,[],_,_,hs,_=>by have:=hs a aj;simp at this
 |a::A,b::B,hA,hB,hs,hz=>by
  have hA':=sA.1 hA;have hB':=sA.1 hB;by_cases e:a=b
  ·subst e;rw[sO,sO]
   congr 1
   refine JT f A B hA'.2 hB'.2 (λx hx=>?_) (λx hx hn=>hz x b9 ?_)
   ·rcases rO.1 (hs x b9) with h|h
    ·have:=hA'.1 x hx;omega
    ·exact h
   ·intro hm;rcases rO.1 hm with h|h
    ·have:=hB'.1 x hx;omega
    ·exact hn h
  ·have haB:a∈B:=by
    rcases rO.1 (hs a aj) with h|h
    ·exact absurd h e
    ·exact h
   have hb:b∉a::A:=by
    intro hm;have h1:=hB'.1 a haB;rcases rO.1 hm with h|h
    ·omega
    ·have:=hA'.1 b h;omega
   rw[show(b::B).flatMap f=f b++B.flatMap f from sO,hz b aj hb,i7];refine JT f (a::A) B hA hB'.2 (λx hx=>?_) (λx hx hn=>hz x b9 hn);rcases rO.1 (hs x hx) with h|h
   ·exact absurd (h ▸ hx) hb
   ·exact h
termination_by A B=>A.length+B.length
def BG(c:List Cal)(more:Int)(first:Bool):Nat->Option Int
 |0=>none
 |k+1=>let t:=(j6 c k).zg
  if (first || decide (more<t)) && (match BG c more first k with|none=>true|some b=>decide (t<b)) then some t else BG c more first k
def Kw(c:List Cal)(more:Int)(first:Bool):∀k,match BG c more first k with
  |none=>∀j,j<k->¬(first=true\/more<(j6 c j).zg)
  |some b=>(first=true\/more<b)/\(∃j,j<k/\(j6 c j).zg=b)/\∀j,j<k->(first=true\/more<(j6 c j).zg)->b<=(j6 c j).zg
 |0=>by simp[BG]
 |k+1=>by
  have ih:=Kw c more first k;unfold BG;dsimp only;by_cases hf:(first=true\/more<(j6 c k).zg)
  ·have hf':(first || decide (more<(j6 c k).zg))=true:=by simpa using hf
   rw[hf',ui];cases hb:BG c more first k with
   |none=>
    rw[hb]at ih;dsimp only at ih ⊢;rw[pA O];dsimp only;refine⟨hf,⟨k,aw,rfl⟩,λj hj hjf=>?_⟩;by_cases e:j=k
    ·rw[e];exact p8 _
    ·exact absurd hjf (ih j aw)
   |some b=>
    rw[hb]at ih;dsimp only at ih ⊢;obtain⟨h1,⟨j0,h2,h3⟩,h4⟩:=ih;by_cases lu:(j6 c k).zg<b
    ·rw[pA mB];dsimp only;refine⟨hf,⟨k,aw,rfl⟩,λj hj hjf=>?_⟩;by_cases e:j=k
     ·rw[e];exact p8 _
     ·have:=h4 j aw hjf;omega
    ·rw[pw mB];dsimp only;refine⟨h1,⟨j0,aw,h3⟩,λj hj hjf=>?_⟩;by_cases e:j=k
     ·rw[e];omega
     ·exact h4 j aw hjf
  ·have hf':(first || decide (more<(j6 c k).zg))=false:=by
    rw[Bool.eq_false_iff];simpa using hf
   rw[hf',ue];simp only[ug,if_false];cases hb:BG c more first k with
   |none=>
    rw[hb]at ih;dsimp only at ih ⊢;intro j hj;by_cases e:j=k
    ·rw[e];exact hf
    ·exact ih j aw
   |some b=>
    rw[hb]at ih;dsimp only at ih ⊢;obtain⟨h1,⟨j0,h2,h3⟩,h4⟩:=ih;refine⟨h1,⟨j0,aw,h3⟩,λj hj hjf=>?_⟩;by_cases e:j=k
    ·rw[e]at hjf;exact absurd hjf hf
    ·exact h4 j aw hjf
def IY(c:List Cal)(t:Int):Nat:=((List.range c.length).filter λj=>decide (t<(j6 c j).zg)).length
def UI{c:List Cal}{t t':Int}(h:BG c t false c.length=some t'):IY c t'<IY c t:=by
 have hs:=Kw c t false c.length;rw[h]at hs;dsimp only at hs;obtain⟨h1,⟨j,h2,h3⟩,_⟩:=hs;have h1:t<t':=aq h1
 have e:((List.range c.length).filter λj=>decide (t'<(j6 c j).zg))=((List.range c.length).filter λj=>decide (t<(j6 c j).zg)).filter λj=>decide (t'<(j6 c j).zg):=by
  rw[List.filter_filter];refine iV λi _=>?_
  rw[uz];simp only[pG,pQ];constructor
  ·intro h;exact⟨h,aw⟩
  ·exactλh=>h.1
 unfold IY;rw[e];refine fT.2 ⟨j,?_,aA⟩;rw[iL];exact⟨sJ.2 h2,aA⟩
def kV(c:List Cal)(t:Int):List Int:=match h:BG c t false c.length with
 |none=>[]
 |some t'=>t'::kV c t'
termination_by IY c t
decreasing_by exact UI h
def JI(c:List Cal):List Int:=match BG c 0 true c.length with
 |none=>[]
 |some t=>t::kV c t
def zwo{c:List Cal}{t:Int}(h:BG c t false c.length=none):kV c t=[]:=by
 rw[kV];split
 ·rfl
 ·rename_i h';rw[h]at h';cases h'
def zwp{c:List Cal}{t t':Int}(h:BG c t false c.length=some t'):kV c t=t'::kV c t':=by
 rw[kV];split
 ·rename_i h';rw[h]at h';cases h'
 ·rename_i h';rw[h]at h';cases h';rfl
def zwq(c:List Cal)(t:Int):(kV c t).Pairwise (· < ·)/\∀x,x∈kV c t↔t<x/\∃j,j<c.length/\(j6 c j).zg=x:=by
 generalize hn:IY c t=n
 induction n using Nat.strongRecOn generalizing t with
 |_ n ih=>
  have hs:=Kw c t false c.length;cases h:BG c t false c.length with
  |none=>
   rw[h]at hs;rw[zwo h];refine⟨.nil,λx=>⟨λhx=>by simp at hx,?_⟩⟩;rintro⟨h1,j,h2,h3⟩;exact absurd (.inr (by rw[h3];exact h1)) (hs j h2)
  |some t'=>
   rw[h]at hs;dsimp only at hs;obtain⟨h1,⟨j0,h2,h3⟩,h4⟩:=hs;have h1:t<t':=aq h1
   obtain⟨i1,i2⟩:=ih _ (by rw[<-hn];exact UI h) t' O;rw[zwp h];refine⟨sA.2 ⟨λx hx=>((i2 x).1 hx).1,i1⟩,λx=>?_⟩;rw[rO,i2 x];constructor
   ·rintro(rfl|⟨h5,h6⟩)
    ·exact⟨h1,j0,h2,h3⟩
    ·exact⟨aw,h6⟩
   ·rintro⟨h5,j,h6,h7⟩;have:=h4 j h6 (.inr (by rw[h7];exact h5));rw[h7]at this;by_cases e:x=t'
    ·exact .inl e
    ·exact .inr ⟨aw,j,h6,h7⟩
def Ir(c:List Cal):(JI c).Pairwise (· < ·)/\∀x,x∈JI c↔∃j,j<c.length/\(j6 c j).zg=x:=by
 have hs:=Kw c 0 true c.length;unfold JI;cases h:BG c 0 true c.length with
 |none=>
  rw[h]at hs;refine⟨.nil,λx=>⟨λhx=>by simp at hx,?_⟩⟩;rintro⟨j,h2,h3⟩;exact absurd (.inl O) (hs j h2)
 |some t'=>
  rw[h]at hs;dsimp only at hs;obtain⟨_,⟨j0,h2,h3⟩,h4⟩:=hs;obtain⟨i1,i2⟩:=zwq c t';dsimp only;refine⟨sA.2 ⟨λx hx=>((i2 x).1 hx).1,i1⟩,λx=>?_⟩;rw[rO,i2 x];constructor
  ·rintro(rfl|⟨_,h6⟩)
   ·exact⟨j0,h2,h3⟩
   ·exact h6
  ·rintro⟨j,h6,h7⟩;have:=h4 j h6 (.inl O);rw[h7]at this;by_cases e:x=t'
   ·exact .inl e
   ·exact .inr ⟨aw,j,h6,h7⟩
def jf(c:List Cal):List Int:=((gN c c.length).map (·.1)).mergeSort λx y=>decide (x<=y)
def vP(c:List Cal):List lM:=(jf c).flatMap λt=>FQ (xE c t)
def Q5(c:List Cal):List lM:=(JI c).flatMap λt=>FQ (xE c t)
def zps(c:List Cal):(jf c).Pairwise (· < ·):=by
 have hk:=(I2 c c.length (pI _)).key;have h1:(jf c).Pairwise λx y=>(decide (x<=y))=true:=List.pairwise_mergeSort (by intro a b d;simp;omega) (by intro a b;simp;omega) _
 have h2:(jf c).Nodup:=(List.mergeSort_perm _ _).nodup_iff.2 hk
 exact(h1.and h2).imp λ{a b} ⟨h3,h4⟩=>by
   have:a<=b:=aq h3
   omega
def Of(c:List Cal)(t:Int):t∈jf c↔xE c t≠[]:=by
 have ok:=I2 c c.length (pI _);unfold jf;rw[(List.mergeSort_perm _ _).mem_iff,pZ];constructor
 ·rintro⟨x,hx,rfl⟩;have:=ok.val x hx;rw[rj]at this;rw[<-this.1];exact this.2
 ·intro h;obtain⟨x,hx,h2⟩:=ok.all t (by rw[rj];exact h);exact⟨x,hx,h2⟩
def KX(c:List Cal):vP c=Q5 c:=by
 refine JT _ _ _ (zps c) (Ir c).1 (λt ht=>?_) (λt _ hn=>?_)
 ·rw[Of]at ht;rw[(Ir c).2];unfold xE at ht;have:(c.filter λx=>decide (x.zg=t) && yD x)≠[]:=λe=>ht (by rw[e];rfl)
  obtain⟨x,hx⟩:=List.exists_mem_of_ne_nil _ this;rw[iL]at hx;obtain⟨j,hj⟩:=pJ.1 hx.1;refine⟨j,(gZ.1 hj).1,?_⟩;rw[Gq hj];have:=hx.2;simp only[pG,pQ]at this;exact this.1
 ·rw[Of]at hn;have:xE c t=[]:=by simpa using hn
  rw[this]
  rfl
def P6(l:List Int):List Int:=l.mergeSort λx y=>decide (x<=y)
def zyT(l:List Int):(P6 l).length=l.length:=iG l
def Ng(l:List Int)(hl:l.length<4611686018427387904):tp 50 [⟨2,3,1,l.map n7,0⟩] [.sl 0 [] 1 0 l.length false] (.lK []) [⟨2,3,1,(P6 l).map n7,0⟩]:=
 zc.ofRow (xs:=[]) (zs:=l) (zs':=P6 l) (zyT l) aj λb cap w hH hb hcap=>by
  refine(Tryz.slices_Sort_int b 0 cap l w hH hb hl).mono ?_;rintro e w' ⟨rfl,n,os,rfl⟩;exact⟨_,rfl,λE _ _ _ _=>.lK _ _ O aj,n,os,rfl⟩
def M0:tp 50 [] [.lq 1 0 []] (.lK []) []:=λw E vs hh hl=>by
 obtain⟨v,hv,hl0⟩:=hl.get (i:=0) O
 obtain⟨a,rfl⟩:∃a,v=.slice a 0 0:=by
  generalize hc:C.lq 1 0 []=c at hl0;cases hl0 with
  |lq o sz rows b off cap us ho hcp hsz hst hL=>
   cases hc
   rcases ho with h|⟨_,h⟩
   ·cases h
   ·rw[h];exact⟨_,rfl⟩
  |xR o sz ho a=>cases hc;exact⟨a,rfl⟩
  |_=>cases hc
 have hvs:vs= #[.slice a 0 0]:=by
  apply Array.ext'
  have h1:vs.toList.length=1:=by rw[<-hl.1];rfl
  match hvl:vs.toList,h1 with
  |[x],_=>rw[hvl]at hv;simp at hv;rw[hv]
 rw[hvs];refine(Tryz.slices_Sort_int_none a 0 w).mono ?_;rintro e w' ⟨rfl,rfl⟩;exact⟨_,E,rfl,hh,.lK _ _ O aj,.refl _ _ _⟩
abbrev wI(l:List lM):List (List C):=l.map xK
def xP(g:Gs):List C:=g.mapIdx λj x=>.gl (2*j+2) 13 (wI x.2)
def o9(g:Gs):C:=if g=[] then .lq 1 0 [] else .sl (2*g.length-1) [] 1 0 g.length false
structure B9(g:Gs)(es:List ng):Prop where
 len:es.length=g.length
 at_:∀(j:Nat) x,g[j]?=some x->∃v,es[j]?=some (x.1,v,j)
structure Eh(g:Gs)(X:zo):Prop where
 len:X.length=2*g.length
 row:∀(j:Nat) x,g[j]?=some x->X[2*j+1]?=some ⟨4,51,13,wI x.2,0⟩
 arr:g≠[]->X[2*g.length-2]?=some ⟨2,3,1,(g.map (·.1)).map n7,0⟩
 flat:qC X=true
 low:∀n,qf n X=true
def B9.find{g:Gs}{es:List ng}(h:B9 g es)(t:Int):xV es t=Dn g t:=by
 unfold xV Dn
 have e:es.map (·.1)=g.map (·.1):=by
  apply rp
  intro j;rw[pj,pj];cases hx:g[j]? with
  |none=>
   have:es[j]?=none:=by rw[rH]at hx ⊢;rw[h.len];exact hx
   rw[this];rfl
  |some x=>obtain⟨v,hv⟩:=h.at_ j x hx;rw[hv];rfl
 have k:∀{α:Type} (l:List (Int×α)),l.findIdx? (λx=>decide (x.1=t))=(l.map (·.1)).findIdx? λy=>decide (y=t):=λl=>by rw[sN];rfl
 rw[k,k,e]
def zo0(x:Cal):∀c∈qN x,jE c=true/\zB c=true:=by
 intro c hc;simp[qN,xK,E5]at hc;rcases hc with h|h|h|h|h|h|h|h|h|h|h|h|h|h|h|h|h|h <;> (subst h;exact⟨rfl,rfl⟩)
def YW(g:Gs):yc (2*g.length+1) 9 (o9 g)=o9 g:=by
 unfold o9;split
 ·rfl
 ·show(if Nat.blt (2*g.length-1) (2*g.length+1) then _ else _)=_;rw[pA];rw[lf];omega
def zv7{n:Nat}{x:Ob}{H:zo}(h1:qf n [x]=true)(h2:qf n H=true):qf n (x::H)=true:=by
 unfold qf at *;exact gf
def Yu(g:Gs)(b:Nat)(es:List ng):qf (2*g.length+1) [nC b es g.length (xP g)]=true:=by
 unfold qf;simp only[uq,fI,eJ]
 have:((xP g).all (jv (2*g.length+1) 9))=true:=by
  refine pH.2 λc hc=>?_
  unfold xP at hc;rw[fW]at hc;obtain⟨j,hj,rfl⟩:=hc;simp[jv];omega
 rw[this]
 rfl
abbrev Bh(a:List lM):Ob:=⟨4,51,13,wI a,0⟩
abbrev oH(l:List Int):Ob:=⟨2,3,1,l.map n7,0⟩
def zuz(g:Gs)(j:Nat)(t:Int)(a:List lM)(hj:j<g.length):xP (g.set j (t,a))=(xP g).set j (.gl (2*j+2) 13 (wI a)):=by
 apply rp
 intro i;unfold xP;rw[rQ,pK,pK,rQ];split
 ·rename_i e;subst e;simp[hj]
 ·rfl
def B9.set{g:Gs}{es:List ng}(h:B9 g es){j:Nat}(hj:j<g.length)(t:Int)(a:List lM)(v:Value):B9 (g.set j (t,a)) (es.set j (t,v,j)):=by
 refine⟨by rw[rX,rX,h.len],λi y hy=>?_⟩;rw[pK]at hy ⊢;split at hy
 ·rename_i e;subst e
  try rw[pA hj]at hy
  cases hy
  exact⟨v,by rw[pA O,pA (by rw[h.len];exact hj)]⟩
 ·rename_i e;obtain⟨w,hw⟩:=h.at_ i y hy;exact⟨w,by rw[pw e];exact hw⟩
def Gx{X:zo}(h:qC X=true)(i:Nat){o:Ob}(ho:qC [o]=true):qC (X.set i o)=true:=by
 unfold qC at *;rw[pH] at *;intro x hx;rcases rC hx with h1|rfl
 ·exact h x h1
 ·exact ho x aj
def VW{X:zo}{n:Nat}(h:qf n X=true)(i:Nat){o:Ob}(ho:qf n [o]=true):qf n (X.set i o)=true:=by
 unfold qf at *;rw[pH] at *;intro x hx;rcases rC hx with h1|rfl
 ·exact h x h1
 ·exact ho x aj
def Eh.set{g:Gs}{X:zo}(h:Eh g X){j:Nat}{y:Int×List lM}(hy:g[j]?=some y)(a:List lM):Eh (g.set j (y.1,a)) (X.set (2*j+1) (Bh a)):=by
 have hj:=(gZ.1 hy).1;have hne:g≠[]:=by rintro rfl;simp at hj
 refine⟨by rw[rX,rX,h.len],λi x hx=>?_,λ_=>?_,Gx h.flat _ O,λn=>VW (h.low n) _ O⟩
 ·rw[pK]at hx ⊢;split at hx
  ·rename_i e;subst e
   try rw[pA hj]at hx
   cases hx
   rw[pA O,pA (by rw[h.len];omega)]
  ·rename_i e;rw[pw aw];exact h.row i x hx
 ·rw[rX,pK,pw aw,JL (y:=(y.1,a)) (·.1) hy O];exact h.arr hne
def YX(g:Gs)(j:Nat)(x:Int×List lM):o9 (g.set j x)=o9 g:=by
 unfold o9;rw[rX];simp only[List.set_eq_nil_iff]
def S2(g:Gs)(t:Int)(a:List lM):xP (g++[(t,a)])=xP g++[.gl (2*g.length+2) 13 (wI a)]:=by
 unfold xP;rw[List.mapIdx_append];simp
def B9.push{g:Gs}{es:List ng}(h:B9 g es)(t:Int)(a:List lM)(v:Value):B9 (g++[(t,a)]) (es++[(t,v,g.length)]):=by
 refine⟨by simp[h.len],λi y hy=>?_⟩;rw[eP]at hy ⊢;rw[h.len];split at hy
 ·rename_i e;rw[pA e];exact h.at_ i y hy
 ·rename_i e;rw[pw e];cases hi:i-g.length with
  |zero=>
   rw[hi]at hy;cases hy
   exact⟨v,by rw[show i=g.length from aw];rfl⟩
  |succ m=>rw[hi]at hy;cases hy
def Va{X Y:zo}(h:qC X=true)(h2:qC Y=true):qC (X++Y)=true:=by
 unfold qC at *;rw[fX,h,h2];rfl
def Yp{X Y:zo}{n:Nat}(h:qf n X=true)(h2:qf n Y=true):qf n (X++Y)=true:=by
 unfold qf at *;rw[fX,h,h2];rfl
def Eh.push{g:Gs}{X Y:zo}(h:Eh g X)(hY:Y.length=X.length)(hrow:∀i,i≠2*g.length-2->Y[i]?=X[i]?)(mU:qC Y=true)(hlo:∀n,qf n Y=true)(t:Int)(a:List lM):
  Eh (g++[(t,a)]) (Y++[oH ((g++[(t,a)]).map (·.1)),Bh a]):=by
 have hl:=h.len;have hfa:qC [oH ((g++[(t,a)]).map (·.1)),Bh a]=true:=rfl;refine⟨by simp[hY,h.len];omega,λi x hx=>?_,λ_=>?_,Va mU hfa,λn=>Yp (hlo n) O⟩
 ·rw[eP]at hx;split at hx
  ·rename_i e;rw[pD aw,hrow _ aw];exact h.row i x hx
  ·rename_i e
   have hi:i=g.length:=by
    cases hi:i-g.length with
    |zero=>omega
    |succ m=>rw[hi]at hx;cases hx
   subst hi;rw[sY]at hx;cases hx
   rw[pT aw,show 2*g.length+1-Y.length=1 from aw]
   rfl
 ·rw[pL,tt,pT aw,show 2*(g.length+1)-2-Y.length=0 from aw]
  rfl
def NU(c:List Cal)(t:Int):(xE c t).length<=c.length:=by
 unfold xE;rw[pB];exact List.length_filter_le _ _
def zyN(n:Nat)(l:List Int):qf n [⟨0,3,1,l.map n7,0⟩]=true:=by
 unfold qf;simp only[uq,fI,eJ];have:((l.map n7).all λr=>r.all (jv n 9))=true:=pH.2 λr hr=>by obtain⟨z,_,rfl⟩:=pZ.1 hr;rfl
 rw[this]
 rfl
def X8(l:List Int):(l.map n7).all (·.all zB)=true:=pH.2 λr hr=>by obtain⟨z,_,rfl⟩:=pZ.1 hr;rfl
def Ln(c:List Cal):∀k,(gN c k).length<=k
 |0=>pI _
 |k+1=>by
  have ih:=Ln c k;unfold gN;split
  ·unfold Hk;split
   ·rw[rX];omega
   ·simp;omega
  ·omega
def zvP(l:List lD)(c:List Cal)(b:Nat)(hc:c.length<1000000000000)(R:Exit->S->Prop)
 (hR:∀es X,B9 (gN c c.length) es->Eh (gN c c.length) X->jh prog 0 (behind 7 ((f22.body).getD .skip)) ⟨(na l:: .za::.lq 1 0 []::Bo false::jb c:: .za::.v (.map (some b))::o9 (gN c c.length)::Bo (wx c c.length):: .za::.za::.za::.za::.za::mF (jp (jp ([])))),nC b es (gN c c.length).length (xP (gN c c.length))::X⟩ R):
  jh prog 0 (behind 4 ((f22.body).getD .skip)) ⟨(na l:: .za::.lq 1 0 []::Bo false::jb c:: .za::.v (.map (some b)):: .za::.za::.za::.za::.za::.za::.za::mF (jp (jp ([])))),[nC b [] 0 []]⟩ R:=by
 have m1:(c.map qN).length=c.length:=pB ..;refine vy (uH ?_);refine .inl ⟨rfl,_,_,.refl _,vy (uH ?_)⟩;refine .inl ⟨rfl,_,_,.refl _,vy (uH ?_)⟩;rw[m1];refine zW.zEp (λn t1 H1=>∃k es X,k+n=c.length/\B9 (gN c k) es/\Eh (gN c k) X/\t1=(na l:: .za::.lq 1 0 []::Bo false::jb c:: .za::.v (.map (some b))::o9 (gN c k)::Bo (wx c k):: .za::.za::.za::.za::.za::.za::.za::mF (jb c::I c.length::I k:: .za::.za::.za::mF (jp (mF (mF ([]))))))/\H1=nC b es (gN c k).length (xP (gN c k))::X) c.length ?_ ?_
 ·refine⟨_,_,zt.mask [0,2,3,4,6,7,8,24,25,26] _ _,0,[],[],aj,⟨rfl,by simp[gN]⟩,⟨rfl,by simp[gN],by simp[gN],rfl,λ_=>O⟩,rfl,rfl⟩
 rintro n _ _ ⟨k,es,X,hk,hE,hX,rfl,rfl⟩;refine .seq (.Bv ?_);conv=>whnf
 refine⟨λh=>?_,λh=>?_⟩
 rotate_left
 ·refine dd ?_;refine .seq (.Bv ?_);conv=>whnf
  refine .inr ⟨aj,uH ?_⟩
  have ek:k=c.length:=by
    have:¬k<c.length:=aq h
    omega
  subst ek;exact .inl ⟨rfl,_,_,zt.mask [0,2,3,4,6,7,8] _ _,hR es X hE hX⟩
 have lu:k<c.length:=aq h
 have hq:c[k]?=some c[k]:=pa lu;have hat:=Gq hq;generalize c[k]=x at hq hat;have gq:(c.map qN)[k]?=some (qN x):=by rw[pj,hq];rfl
 refine dd ?_;refine .seq (.Bv ?_);conv=>whnf
 refine .seq (.block (.seq (.Ul [_,_] [_,_] O ?_)));conv=>whnf
 refine⟨aw,_,gq,dd ?_⟩;have hl2:(nC b es (gN c k).length (xP (gN c k))::X).length=2*(gN c k).length+1:=by rw[rF,hX.len]
 refine .OE (row:=qN x) (zero:=qN ⟨0,0,0,0,0,⟨0,0,0,0,0,0,0,kK⟩⟩) O O O O O O au O O O O (by intro h;cases h) rfl (zo0 x) (rq rfl) (rk _) (by rw[hl2];exact zv7 (Yu _ _ _) (hX.low _)) (by rw[hl2];simp only[put,fY,u9,se,fE,YW];rfl) ?_;refine .seq (.Bv ?_);conv=>whnf
 refine⟨λh1=>?_,λh1=>?_⟩
 ·have he:yD (j6 c k)=false:=by rw[hat];unfold yD;rw[show decide (x.mK<0)=true from h1];rfl
  have eg:gN c (k+1)=gN c k:=by show(if yD (j6 c k) then _ else _)=_;rw[he];rfl
  have ea:wx c (k+1)=false:=by show(wx c k && yD (j6 c k))=false;rw[he,eQ]
  refine dd ?_;refine .Bv (uH ?_);rw[zy aw];refine .inl ⟨rfl,n-1,_,_,aw,zt.mask [0,2,3,4,6,7,8,24,25,26] _ _,k+1,es,X,aw,by rw[eg];exact hE,by rw[eg];exact hX,?_,?_⟩
  ·rw[eg,ea];rfl
  ·rw[eg]
 have he:yD (j6 c k)=true:=by rw[hat];unfold yD;rw[show decide (x.mK<0)=false from h1];rfl
 have eg:gN c (k+1)=Hk (gN c k) x.zg x.answer:=by show(if yD (j6 c k) then _ else _)=_;rw[he,hat];rfl
 have ea:wx c (k+1)=wx c k:=by show(wx c k && yD (j6 c k))=_;rw[he,eJ]
 refine dd ?_;have hce:(xP (gN c k)).length=es.length:=by unfold xP;rw[List.length_mapIdx,hE.len]
 have okG:=I2 c k aw;refine .seq ?_;cases hf:Dn (gN c k) x.zg with
 |some j=>
  obtain⟨y,hy,hyt⟩:=NW hf;have hyn:=(okG.val y (pq hy)).2;have hjl:=(gZ.1 hy).1;have hyl:y.2.length<=k:=by rw[(okG.val y (pq hy)).1];exact rB (NU _ _) cq
  have hcj:(xP (gN c k))[j]?=some (.gl (2*j+2) 13 (wI y.2)):=by unfold xP;rw[rQ,hy];rfl
  refine .Bv (uH ?_);refine⟨_,_,lS.wm (id:=0) _ _ _ _ O O O O hce O O O O ((hE.find x.zg).trans hf) hcj,dd ?_⟩;refine⟨λh=>?_,λ_=>?_⟩
  ·exfalso
   have:(y.2.length:Int)=0:=aq h
   exact hyn (sD.1 aw)
  refine dd ?_;refine .Bv (uH ?_);refine .inr ⟨⟨[2,5,8],[],false⟩,au,λh=>absurd h ar,_,uH ?_,λt2 H2 h=>h⟩;refine⟨uH ?_,trivial⟩;refine⟨_,_,lS.wm (id:=0) _ _ _ _ O O O O hce O O O O ((hE.find x.zg).trans hf) hcj,dd ?_⟩;refine⟨uH ?_,trivial⟩;have hob:(nC b es (gN c k).length (xP (gN c k))::X)[2*j+2]?=some ⟨4,51,13,wI y.2,0⟩:=by rw[sI];exact hX.row j y hy
  refine(lS.Ko _ O _ _ ⟨rfl,rfl,⟨_,rfl,underlying61⟩,rfl,rfl,rfl⟩ O hob O O (.inr O) ay (by show _*104<=_;simp;omega)).nO (dd ?_);refine⟨uH ?_,trivial⟩;obtain⟨v0,hv0⟩:=hE.at_ j y hy;refine jq.YC (id:=0) _ _ _ _ (.inl O) O O O hce O O ((hE.find x.zg).trans hf) hv0 ?_;intro v;refine dd ?_;refine⟨_,_,.refl _,uH ?_⟩;refine .Bv (uH ?_);rw[zy aw];have eg2:gN c (k+1)=(gN c k).set j (y.1,y.2++[x.answer]):=by rw[eg];unfold Hk;rw[hf];dsimp only;rw[hy,hyt];rfl
  refine .inl ⟨rfl,n-1,_,_,aw,zt.mask [0,2,3,4,6,7,8,24,25,26] _ _,k+1,es.set j (y.1,v,j),X.set (2*j+1) (Bh (y.2++[x.answer])),aw,by rw[eg2];exact hE.set hjl _ _ _,by rw[eg2];exact hX.set hy _,?_,?_⟩
  ·rw[eg2,ea,YX];rfl
  ·have er:wI (y.2++[x.answer])=wI y.2++[xK x.answer]:=rD;rw[eg2,zuz _ _ _ _ hjl,rX];simp only[Bh];rw[er]
   rfl
 |none=>
  refine .seq (.Bv ?_);conv=>whnf
  refine⟨_,_,lS.Nu (id:=0) _ _ _ _ O O O O O O O O ((hE.find x.zg).trans hf) (λE=>.xR 1 0 (.inr O)),dd ?_⟩;refine tf ?_
  refine .cond (b:=true) O (.Ul [] _ O (OK.run O ((lS.PX _ (.inl O)).nO (OK.app [_,_,_] [_,_] ?_))));conv=>whnf
  have eg2:gN c (k+1)=gN c k++[(x.zg,[x.answer])]:=by rw[eg];unfold Hk;rw[hf]
  have hgl:(gN c k).length<=k:=Ln c k
  have hthr:o9 (gN c k++[(x.zg,[x.answer])])=.sl (2*(gN c k).length+1) [] 1 0 ((gN c k).length+1) false:=by
   unfold o9;rw[pw aj,pL]
   rfl
  by_cases hg:gN c k=[]
  ·have hl0:=hX.len;rw[hg]at hE hX hce hthr eg2 hl0 okG hf ⊢;have ht:o9 []=.lq 1 0 []:=rfl;obtain rfl:X=[]:=sD.1 hl0;have hY:([]:zo).length=([]:zo).length:=rfl;have hrow:∀i:Nat,i≠2*([]:Gs).length-2->([]:zo)[i]?=([]:zo)[i]?:=λ_ _=>rfl
   have mU:qC []=true:=rfl;have hlo:∀n,qf n []=true:=λ_=>rfl
   rw[ht];refine OK.run O ((lS.zoE _ O _ _ ⟨rfl,rfl,⟨_,rfl,underlying28⟩,rfl,rfl,rfl⟩ O (.inl O) O aj (by show 0+1<=maxLen;decide) (by show(0+1)*8<=_;decide)).nO ?_);refine OK.run O ((lS.PX _ (.inr O)).nO (OK.nil ?_));have hHl:(nC b es ([]:Gs).length (xP ([]:Gs))::(([]:zo)++[oH (([]:Gs).map (·.1)++[x.zg])])).length=2*([]:Gs).length+2:=by rw[rF,pL,hY,hX.len];rfl
   refine .Bv (uH ?_);refine .inr ⟨⟨[2,5,8],[],false⟩,au,λh=>absurd h ar,_,uH ?_,λt2 H2 h=>h⟩;refine⟨uH ?_,trivial⟩;refine⟨_,_,lS.Nu (id:=0) _ _ _ _ O O O O O O O O ((hE.find x.zg).trans hf) (λE=>.xR 1 99 (.inr O)),dd ?_⟩;refine⟨uH ?_,trivial⟩;refine(lS.MO _ O _ _ ⟨rfl,rfl,⟨_,rfl,underlying61⟩,rfl,rfl,rfl⟩ O (.inl O) O (.inr O) (by show 0+1<=maxLen;decide) (by show(0+1)*104<=_;decide)).nO (dd ?_);refine⟨uH ?_,trivial⟩;refine jq.qB (id:=0) _ _ _ _ (.inl O) O O O hce O O ((hE.find x.zg).trans hf) ?_;intro v;refine dd ?_;refine⟨_,_,.refl _,uH ?_⟩;refine .Bv (uH ?_);rw[zy aw];refine .inl ⟨rfl,n-1,_,_,aw,zt.mask [0,2,3,4,6,7,8,24,25,26] _ _,k+1,es++[(x.zg,v,([]:Gs).length)],([]:zo)++[oH ((([]:Gs)++[(x.zg,[x.answer])]).map (·.1)),Bh [x.answer]],aw,by rw[eg2];exact hE.push _ _ _,by rw[eg2];exact hX.push hY hrow mU hlo _ _,?_,?_⟩
   ·rw[eg2,ea,hthr];rfl
   ·have e3:(([]:Gs)++[(x.zg,[x.answer])]).length=([]:Gs).length+1:=by simp
    rw[eg2,S2,e3];have e2:([]:zo)++[oH ((([]:Gs)++[(x.zg,[x.answer])]).map (·.1)),Bh [x.answer]]=(([]:zo)++[oH (([]:Gs).map (·.1)++[x.zg])])++[Bh [x.answer]]:=aj
    rw[e2,<-hHl]
    rfl
  ·have hpos:0<(gN c k).length:=u4.2 hg;have ht:o9 (gN c k)=.sl (2*(gN c k).length-1) [] 1 0 (gN c k).length false:=by unfold o9;rw[pw hg]
   have harr:(nC b es (gN c k).length (xP (gN c k))::X)[2*(gN c k).length-1]?=some (oH ((gN c k).map (·.1))):=by
    rw[show 2*(gN c k).length-1=(2*(gN c k).length-2)+1 from aw,sI];exact hX.arr hg
   have hkill:xm (nC b es (gN c k).length (xP (gN c k))::X) (2*(gN c k).length-1)=nC b es (gN c k).length (xP (gN c k))::xm X (2*(gN c k).length-2):=by
    rw[show 2*(gN c k).length-1=(2*(gN c k).length-2)+1 from aw]
    rfl
   have hY:(xm X (2*(gN c k).length-2)).length=X.length:=by unfold xm;simp
   have hrow:∀i:Nat,i≠2*(gN c k).length-2->(xm X (2*(gN c k).length-2))[i]?=X[i]?:=λi hi=>by
    rw[vt];cases X[i]? with
    |none=>rfl
    |some o=>rw[pM,pw (Ne.symm hi)]
   have hks:xm X (2*(gN c k).length-2)=X.set (2*(gN c k).length-2) ⟨0,3,1,((gN c k).map (·.1)).map n7,0⟩:=by
    apply rp
    intro i;rw[vt,pK];have h1:=hX.arr hg;split
    ·rename_i e;subst e;rw[pA (gZ.1 h1).1,h1];simp
    ·rename_i e;cases X[i]? with
     |none=>rfl
     |some o=>simp[e]
   have mU:qC (xm X (2*(gN c k).length-2))=true:=by rw[hks];exact Gx hX.flat _ O
   have hlo:∀n,qf n (xm X (2*(gN c k).length-2))=true:=λn=>by rw[hks];exact VW (hX.low n) _ (zyN n _)
   rw[ht];refine OK.run O ((lS.zqV _ O _ _ ⟨rfl,rfl,⟨_,rfl,underlying28⟩,rfl,rfl,rfl⟩ O harr O O O aj (X8 _) O aj ay bf).nO ?_);refine OK.run O ((lS.PX _ (.inr O)).nO (OK.nil ?_));rw[hkill,hl2];have em:(oH ((gN c k).map (·.1))).rows++[[C.v (.int .i64 x.zg)]]=((gN c k).map (·.1)++[x.zg]).map n7:=aj
   rw[em];have hHl:(nC b es (gN c k).length (xP (gN c k))::((xm X (2*(gN c k).length-2))++[oH ((gN c k).map (·.1)++[x.zg])])).length=2*(gN c k).length+2:=by rw[rF,pL,hY,hX.len];rfl
   refine .Bv (uH ?_);refine .inr ⟨⟨[2,5,8],[],false⟩,au,λh=>absurd h ar,_,uH ?_,λt2 H2 h=>h⟩;refine⟨uH ?_,trivial⟩;refine⟨_,_,lS.Nu (id:=0) _ _ _ _ O O O O O O O O ((hE.find x.zg).trans hf) (λE=>.xR 1 99 (.inr O)),dd ?_⟩;refine⟨uH ?_,trivial⟩;refine(lS.MO _ O _ _ ⟨rfl,rfl,⟨_,rfl,underlying61⟩,rfl,rfl,rfl⟩ O (.inl O) O (.inr O) (by show 0+1<=maxLen;decide) (by show(0+1)*104<=_;decide)).nO (dd ?_);refine⟨uH ?_,trivial⟩;refine jq.qB (id:=0) _ _ _ _ (.inl O) O O O hce O O ((hE.find x.zg).trans hf) ?_;intro v;refine dd ?_;refine⟨_,_,.refl _,uH ?_⟩;refine .Bv (uH ?_);rw[zy aw];refine .inl ⟨rfl,n-1,_,_,aw,zt.mask [0,2,3,4,6,7,8,24,25,26] _ _,k+1,es++[(x.zg,v,(gN c k).length)],(xm X (2*(gN c k).length-2))++[oH (((gN c k)++[(x.zg,[x.answer])]).map (·.1)),Bh [x.answer]],aw,by rw[eg2];exact hE.push _ _ _,by rw[eg2];exact hX.push hY hrow mU hlo _ _,?_,?_⟩
   ·rw[eg2,ea,hthr];rfl
   ·have e3:((gN c k)++[(x.zg,[x.answer])]).length=(gN c k).length+1:=by simp
    rw[eg2,S2,e3];have e2:(xm X (2*(gN c k).length-2))++[oH (((gN c k)++[(x.zg,[x.answer])]).map (·.1)),Bh [x.answer]]=((xm X (2*(gN c k).length-2))++[oH ((gN c k).map (·.1)++[x.zg])])++[Bh [x.answer]]:=aj
    rw[e2,<-hHl]
    rfl
def yZ(g:Gs):List C:=g.map λx=>.lq 0 13 (wI x.2)
def Ua:∀(g:Gs) (f:Nat->Nat),nJ (g.mapIdx λj x=>C.gl (f j) 13 (wI x.2)) (yZ g)
 |[],_=>.nil
 |x::g,f=>by
  rw[iY];exact .cons (.gl _ _ _) (Ua g λj=>f (j+1))
def Al(c:List Cal)(k:Nat):List lM:=((jf c).take k).flatMap λt=>FQ (xE c t)
def X7(g:List lM):(FQ g).length<=g.length:=by
 unfold FQ;rw[pB];exact wV g _
def Ug(c:List Cal)(k:Nat)(t:Int)(h:(jf c)[k]?=some t):Al c (k+1)=Al c k++FQ (xE c t):=by
 unfold Al;rw[iW,h];simp
def OM(c:List Cal):∀k,k<=(jf c).length->(Al c k).length<=k*c.length
 |0,_=>by simp[Al]
 |k+1,hk=>by
  have hq:(jf c)[k]?=some (jf c)[k]:=pa hk;rw[Ug c k _ hq,pL];have h1:=OM c k aw;have h2:=X7 (xE c (jf c)[k]);have h3:=NU c (jf c)[k];rw[Nat.succ_mul];omega
def Vi(c:List Cal):(jf c).length<=c.length:=by
 unfold jf;rw[iG,pB];exact Ln c c.length
def zvQ(c:List Cal)(b:Nat)(es:List ng)(hc:c.length<=1000)(hE:B9 (gN c c.length) es):
  jh prog 0 (behind 8 ((f22.body).getD .skip)) ⟨(.za::.za::.lq 1 0 []::Bo false:: .za::.za::.v (.map (some b))::lI (jf c)::Bo (wx c c.length):: .za::.za::.za::.za::.za::mF (jp (jp ([])))),[nC b es (gN c c.length).length (yZ (gN c c.length))]⟩ λex s=>(ex=.ret\/ex=.normal)/\∃s2,zt 0 s s2/\(kJ prog f22 s2).map (yc 0 9)=some (.lK [lA (vP c),Bo (wx c c.length)]):=by
 have m1:((jf c).map Hy.encI).length=(jf c).length:=pB ..;have hkl:=Vi c;refine(RK.Bv (K:=λex t H=>(ex=.ret\/ex=.normal)/\∃s2,zt 0 ⟨t,H⟩ s2/\(kJ prog f22 s2).map (yc 0 9)=some (.lK [lA (vP c),Bo (wx c c.length)])) (uH ?_)).out;rw[m1];refine zW.seq (jf c).length (λk=>(.za::.za::.lq 1 0 []::Bo false:: .za::.za::.v (.map (some b)):: .za::Bo (wx c c.length):: .za::.za::.gl 1 13 (wI (Al c k)):: .za::.za::.za::.za::.za::.za::mF (jp (lI (jf c)::I (jf c).length::I k:: .za::mF (mF (mF ([]))))))) (λk=>[nC b es (gN c c.length).length (yZ (gN c c.length)),⟨4,51,13,wI (Al c k),0⟩]) (λ_=>True) ?_ trivial (λk hk _=>?_) (λ_=>?_)
 ·exact(zt.grow 11 51 13 O (.inl O)).trans (cC)
 ·have hq:(jf c)[k]?=some (jf c)[k]:=pa hk;have hkm:=pY hk;generalize (jf c)[k]=t at hq hkm;have gq:((jf c).map Hy.encI)[k]?=some (Hy.encI t):=by rw[pj,hq];rfl
  have okG:=I2 c c.length (pI _);have hgt:xE c t≠[]:=(Of c t).1 hkm;obtain⟨y0,hy0,hyt0⟩:=okG.all t (by rw[rj];exact hgt);have hce:(yZ (gN c c.length)).length=es.length:=by unfold yZ;rw[pB,hE.len]
  obtain⟨j0,hf⟩:∃j0,Dn (gN c c.length) t=some j0:=by
   cases hf:Dn (gN c c.length) t with
   |some j=>exact⟨j,rfl⟩
   |none=>exact absurd hyt0 (UD hf y0 hy0)
  obtain⟨y,hy,hyt⟩:=NW hf;have hyv:=(okG.val y (pq hy)).1;rw[rj,hyt]at hyv;have hcj:(yZ (gN c c.length))[j0]?=some (.lq 0 13 (wI y.2)):=by unfold yZ;rw[pj,hy];rfl
  rw[hyv]at hcj;have hst:=Ug c k t hq;have hol:=OM c k aw;have hgl:=NU c t;have hob:(Al c k).length<=1000000:=rB hol (by have:=Nat.mul_le_mul (show k<=1000 by omega) hc;omega);obtain⟨g,hg⟩:∃g,g=xE c t:=⟨_,rfl⟩;rw[<-hg]at hcj hst hgl;conv=>whnf
  refine uF ?_;refine⟨aw,_,gq,dd ?_⟩;refine⟨_,_,lS.wm (id:=0) _ _ _ _ O O O O hce O O O O ((hE.find t).trans hf) hcj,dd ?_⟩;refine ah (Te g aw) ?_;have m2:(((qQ g).map λ(n:Nat)=>(n:Int)).map Hy.encI).length=(qQ g).length:=aj
  have hov:(qQ g).length<=g.length:=wV g _;rw[m2];refine zW.seq (qQ g).length (λj=>(.za::.za::.lq 1 0 []::Bo false:: .za::.za::.v (.map (some b)):: .za::Bo (wx c c.length):: .za::.za::.gl 1 13 (wI (Al c k++((qQ g).take j).map (DB g))):: .za::I t:: .za::.za::.za::.za::mF (jp (lI (jf c)::I (jf c).length::I k:: .za::.za::.za::.za::.za::.za::lI ((qQ g).map λ(n:Nat)=>(n:Int))::I (qQ g).length::I j:: mF (mF ([])))))) (λj=>[nC b es (gN c c.length).length (yZ (gN c c.length)),⟨4,51,13,wI (Al c k++((qQ g).take j).map (DB g)),0⟩]) (λ_=>True) ?_ trivial (λj hj _=>?_) (λ_=>?_)
  ·rw[fC,fE,rK];exact cC
  ·have hqj:(qQ g)[j]?=some (qQ g)[j]:=pa hj;have hnl:=wu g _ (pI _) _ (pY hj);generalize (qQ g)[j]=n at hqj hnl;have gj:(((qQ g).map λ(n:Nat)=>(n:Int)).map Hy.encI)[j]?=some (Hy.encI n):=by rw[pj,pj,hqj];rfl
   have hb:g[n]?=some g[n]:=pa hnl;have hat:DB g n=g[n]:=by unfold DB;rw[hb];rfl
   generalize g[n]=a at hb hat;have gb:(g.map xK)[n]?=some (xK a):=by rw[pj,hb];rfl
   have htk:((qQ g).take (j+1)).map (DB g)=((qQ g).take j).map (DB g)++[a]:=by rw[iW,hqj,rD];simp[hat]
   have lu:((qQ g).take j).length<=1000:=cq
   conv=>whnf
   refine uF ?_;refine⟨aw,_,gj,dd ?_⟩;refine⟨_,_,lS.wm (id:=0) _ _ _ _ O O O O hce O O O O ((hE.find t).trans hf) hcj,dd ?_⟩;refine⟨aw,_,gb,dd ?_⟩;refine(lS.Ko _ O _ _ ⟨rfl,rfl,⟨_,rfl,underlying61⟩,rfl,rfl,rfl⟩ O O O O (.inr O) ay (by show _*104<=_;simp;omega)).nO (dd ?_);rw[zy aw];have er:wI (Al c k++((qQ g).take (j+1)).map (DB g))=wI (Al c k++((qQ g).take j).map (DB g))++[xK a]:=by rw[htk];simp
   refine .inl ⟨rfl,?_,trivial⟩;rw[er];exact cC
  ·conv=>whnf
   refine⟨λh=>absurd h aj,λ_=>dd ?_⟩;refine⟨aj,dd ?_⟩;rw[zy aw];refine .inl ⟨rfl,?_,trivial⟩;rw[rj];rw[show Al c (k+1)=Al c k++(qQ g).map (DB g) from hst];exact cC
 ·conv=>whnf
  refine⟨λh=>absurd h aj,λ_=>dd ?_⟩;refine⟨aj,uH ?_⟩;have eo:Al c (jf c).length=vP c:=by unfold Al vP;rw[rj]
  rw[eo];cases wx c c.length <;> exact uI
def RW(g:Gs):(yZ g).all Ft=true:=pH.2 λc hc=>by
 obtain⟨x,_,rfl⟩:=pZ.1 hc
 rfl
def VF(sel:List Nat)(l:List Int):zR sel (oH l)=oH l:=by
 unfold zR oH;simp only[sM]
def Yt(ρ:Nat->Nat)(l:List Int):zL ρ (oH l)=oH l:=by
 unfold zL oH;simp only[sM]
 first|done|rfl
def zvp(n b k:Nat)(es:List ng)(g:Gs):qf n [nC b es k (yZ g)]=true:=by
 unfold qf;simp only[uq,fI,eJ];have:((yZ g).all (jv n 9))=true:=pH.2 λc hc=>by obtain⟨x,_,rfl⟩:=pZ.1 hc;rfl
 rw[this]
 rfl
def zym(l:List lD)(c:List Cal)(b:Nat)(es:List ng)(X:zo)(hc:c.length<=1000)(hE:B9 (gN c c.length) es)(hX:Eh (gN c c.length) X):
  jh prog 0 (behind 7 ((f22.body).getD .skip)) ⟨(na l:: .za::.lq 1 0 []::Bo false::jb c:: .za::.v (.map (some b))::o9 (gN c c.length)::Bo (wx c c.length):: .za::.za::.za::.za::.za::mF (jp (jp ([])))),nC b es (gN c c.length).length (xP (gN c c.length))::X⟩ λex s=>(ex=.ret\/ex=.normal)/\∃s2,zt 0 s s2/\(kJ prog f22 s2).map (yc 0 9)=some (.lK [lA (vP c),Bo (wx c c.length)]):=by
 have ht:=zvQ c b es hc hE;have hgl:=Ln c c.length;by_cases hg:gN c c.length=[]
 ·have hk:jf c=[]:=by unfold jf;rw[hg];exact List.mergeSort_nil
  obtain rfl:X=[]:=by
   have:=hX.len;rw[hg]at this;exact sD.1 this
  rw[hk,hg]at ht;rw[hg];refine vy (uH ?_);refine ah M0 ?_;exact .inl ⟨rfl,_,_,(zt.cell 7 O (WC.nil 0 1)).trans (cC),ht⟩
 ·have hpos:0<(gN c c.length).length:=u4.2 hg;have e1:o9 (gN c c.length)=.sl (2*(gN c c.length).length-1) [] 1 0 (gN c c.length).length false:=by unfold o9;rw[pw hg]
  have w1:=zt.zEt (B:=0) 0 (s:=⟨(na l:: .za::.lq 1 0 []::Bo false::jb c:: .za::.v (.map (some b))::o9 (gN c c.length)::Bo (wx c c.length):: .za::.za::.za::.za::.za::mF (jp (jp ([])))),nC b es (gN c c.length).length (xP (gN c c.length))::X⟩) O O (Ua (gN c c.length) λj=>2*j+2)
  have hsel:posOf [0,2*(gN c c.length).length-1] 0 (2*(gN c c.length).length-1)=some 1:=by
   unfold posOf;rw[pw aA];unfold posOf;rw[pA aj]
  have w2:=zt.lQ (B:=0) [0,2*(gN c c.length).length-1] [2,3,6,7,8] (na l:: .za::.lq 1 0 []::Bo false::jb c:: .za::.v (.map (some b))::o9 (gN c c.length)::Bo (wx c c.length):: .za::.za::.za::.za::.za::mF (jp (jp ([])))) (nC b es (gN c c.length).length (yZ (gN c c.length))::X) O (by simp[hX.len];omega) (by simp[yI];omega) (by
   have:qC ([nC b es (gN c c.length).length (yZ (gN c c.length))]++X)=true:=Va (by unfold qC;simp[RW]) hX.flat;exact this)
  have hren:x7 [0,2*(gN c c.length).length-1] (nC b es (gN c c.length).length (yZ (gN c c.length))::X)=[nC b es (gN c c.length).length (yZ (gN c c.length)),oH ((gN c c.length).map (·.1))]:=by
   unfold x7;simp only[se,fE]
   rw[show(nC b es (gN c c.length).length (yZ (gN c c.length))::X)[0]?=some (nC b es (gN c c.length).length (yZ (gN c c.length))) from O,show(nC b es (gN c c.length).length (yZ (gN c c.length))::X)[2*(gN c c.length).length-1]?=some (oH ((gN c c.length).map (·.1))) from by
    rw[show 2*(gN c c.length).length-1=(2*(gN c c.length).length-2)+1 from aw,sI];exact hX.arr hg]
   simp only[Option.getD_some];rw[K0 O,VF]
  have htm:(DD [2,3,6,7,8] 0 (na l:: .za::.lq 1 0 []::Bo false::jb c:: .za::.v (.map (some b))::o9 (gN c c.length)::Bo (wx c c.length):: .za::.za::.za::.za::.za::mF (jp (jp ([]))))).map (yq [0,2*(gN c c.length).length-1] 9)=(.za::.za::.lq 1 0 []::Bo false:: .za::.za::.v (.map (some b)):: .sl 1 [] 1 0 (gN c c.length).length false::Bo (wx c c.length):: .za::.za::.za::.za::.za::mF (jp (jp ([])))):=by
   rw[e1]
   have e2:yq [0,2*(gN c c.length).length-1] 9 (.sl (2*(gN c c.length).length-1) [] 1 0 (gN c c.length).length false)=.sl 1 [] 1 0 (gN c c.length).length false:=by
    unfold yq;dsimp only;rw[hsel]
   have hm:DD [2,3,6,7,8] 0 (na l:: .za::.lq 1 0 []::Bo false::jb c:: .za::.v (.map (some b)):: .sl (2*(gN c c.length).length-1) [] 1 0 (gN c c.length).length false::Bo (wx c c.length):: .za::.za::.za::.za::.za::mF (jp (jp ([]))))=(.za::.za::.lq 1 0 []::Bo false:: .za::.za::.v (.map (some b)):: .sl (2*(gN c c.length).length-1) [] 1 0 (gN c c.length).length false::Bo (wx c c.length):: .za::.za::.za::.za::.za::mF (jp (jp ([])))):=rfl;refine(sF (List.map _) hm).trans ?_;simp only[se,fE,e2]
   rfl
  rw[hren,htm]at w2;refine .pre (w1.trans w2) (vy ?_);conv=>whnf
  have hlen:((gN c c.length).map (·.1)).length=(gN c c.length).length:=pB ..;have hso:=Ng ((gN c c.length).map (·.1)) aw;rw[hlen]at hso;refine qg [1] [nC b es (gN c c.length).length (yZ (gN c c.length)),oH (jf c)] (rx:=.lK []) hso O (by unfold x7;simp only[se,fE];exact sF (·::[]) (VF _ _)) O O O (by unfold qC;simp[RW]) (by unfold nR;show [_,zL _ (oH (jf c))]=_;rw[Yt];rfl) O (dd ?_);have hkl:(jf c).length=(gN c c.length).length:=by unfold jf;rw[iG,pB]
  refine .inl ⟨rfl,_,_,?_,ht⟩;exact(zt.MZ 7 O O (.inr O) (by simp[hkl]) (λr hr c hc=>by obtain⟨z,_,rfl⟩:=pZ.1 hr;simp at hc;subst hc;exact⟨rfl,rfl⟩)).trans (zt.yi 1 tc O O O (zvp _ _ _ _ _) O)
def HY(l:List lD)(hl:l.length<=1000):tp 22 [] [na l] (if (Go.Cal.l8 l).2≠0 then .lK [.lq 1 0 [],Bo false] else .lK [lA (vP (Go.Cal.l8 l).1),Bo (wx (Go.Cal.l8 l).1 (Go.Cal.l8 l).1.length)]) []:=by
 have ho:=Go.Cal.On l aw;have hn:=Go.Cal.XS l;generalize Go.Cal.l8 l=q at *;obtain⟨c,e⟩:=q;dsimp only at hn;refine zc.EL (fn:=f22) func22 O ?_;refine vy (uH ?_);refine .inl ⟨rfl,_,_,.refl _,vy (uH ?_)⟩;refine ah ho ?_;refine .inl ⟨rfl,_,_,.refl _,vy (uH ?_)⟩;refine⟨λh1=>?_,λh1=>?_⟩
 ·refine dd ?_;have he:e≠0:=by simpa using h1
  rw[pA (show(c,e).2≠0 from he)];exact .inr ⟨aj,.inl O,_,.refl _,rfl⟩
 ·refine dd ?_;have he:e=0:=by simpa using h1
  rw[pw (show ¬(c,e).2≠0 from λh=>h he)];refine .inl ⟨rfl,_,_,.refl _,vy (uH ?_)⟩;intro b;refine dd ?_;exact .inl ⟨rfl,_,_,zt.mask [0,2,3,4,6] _ _,zvP l c b aw _ λes X hE hX=>zym l c b es X aw hE hX⟩
def U0(c:List Cal)(hc:c.length<=1000):(Q5 c).length<=1000000:=by
 rw[<-KX];have h:=OM c (jf c).length (pI _);have e:Al c (jf c).length=vP c:=by unfold Al vP;rw[rj]
 rw[e]at h;have hk:=Vi c;refine rB h (rB (Nat.mul_le_mul (show(jf c).length<=1000 by omega) hc) (pI _))
def SV(a:List lM)(ha:a.length<4611686018427387904):tp 44 [] [lA a,lA a] (Bo true) []:=by
 have m1:(a.map xK).length=a.length:=pB ..;refine ab func44 ?_;refine⟨λh=>absurd h aj,λ_=>dd ?_⟩;refine zW.seq a.length (λk=>((lA a)::(lA a)::.za::.za::Bo false::I k::mF (mF ([.za,.za,.za,.za])))) (λk=>[]) (λ_=>True) ?_ trivial (λk hk _=>?_) (λ_=>?_)
 ·exact cC
 ·have gq:(a.map xK)[k]?=some (xK a[k]):=by rw[pj,pa hk];rfl
  generalize a[k]=x at gq;conv=>whnf
  rw[m1];refine uF ?_;refine uE ?_;refine⟨aw,_,gq,dd ?_⟩;refine⟨aw,_,gq,dd ?_⟩;refine⟨au,dd ?_⟩;refine⟨λh=>?_,λ_=>?_⟩
  ·exfalso
   revert h
   simp
  refine dd ?_;refine .inl ⟨rfl,?_,trivial⟩;rw[zy aw];exact cE 0
 ·conv=>whnf
  rw[m1];refine⟨λh=>absurd h aj,λ_=>dd ?_⟩;refine⟨aj,uH ?_⟩;exact uI
abbrev AS(s:Int):lM:=⟨1,0,0,0,s,0,0,kK⟩
abbrev vG:lM:=⟨0,0,0,0,0,0,0,kK⟩
abbrev e0:lD:=⟨0,0,1,3,0,false,3,true,false,false,vG⟩
abbrev e1:lD:=⟨1,0,2,12,0,false,3,true,false,true,AS 0⟩
abbrev e2:lD:=⟨0,0,1,0,0,true,0,false,false,false,vG⟩
abbrev e3:lD:=⟨0,0,0,0,0,false,0,false,false,true,AS 1⟩
abbrev e4:lD:=⟨1,1,2,12,0,false,3,true,false,false,vG⟩
abbrev kf:List lD:=[e0,e1,e2,e3,e4]
def HN:tp 43 [] [] (.lq 1 23 (kf.map jd)) []:=by
 refine ab func43 ?_;exact uI
abbrev c0:Cal:=⟨0,0,0, -1,3,AS 1⟩
abbrev c1:Cal:=⟨1,0,1, -1,1,AS 0⟩
abbrev c2:Cal:=⟨1,1,4, -1, -1,vG⟩
def Dr:Go.Cal.l8 kf=([c0,c1,c2],0):=by kernel_rfl
def Qo:Go.Cal.l8 [e0,e1,e2,e3]=([c0,c1],0):=by kernel_rfl
def Qp:Go.Cal.l8 [e1,e2]=([],11):=by kernel_rfl
def t0:Lz kf=1:=by kernel_rfl
def t1:LA kf=1:=by kernel_rfl
def t2:K8 kf=1:=by kernel_rfl
def Z7:vP [c0,c1,c2]=[AS 1,AS 0]:=by
 have e:jf [c0,c1,c2]=[0,1]:=by
  have h:((gN [c0,c1,c2] [c0,c1,c2].length).map (·.1))=[0,1]:=au
  unfold jf;rw[h];exact iS ar
 unfold vP;rw[e]
 rfl
def Z8:vP [c0,c1]=[AS 1,AS 0]:=by
 have e:jf [c0,c1]=[0,1]:=by
  have h:((gN [c0,c1] [c0,c1].length).map (·.1))=[0,1]:=au
  unfold jf;rw[h];exact iS ar
 unfold vP;rw[e]
 rfl
def o0:tp 22 [] [na kf] (.lK [lA [AS 1,AS 0],Bo false]) []:=by
 have h:=HY kf ar;rw[Dr,pw ar,show vP ([c0,c1,c2],(0:Int)).1=_ from Z7]at h;exact h
def o1:tp 22 [] [na [e0,e1,e2,e3]] (.lK [lA [AS 1,AS 0],Bo true]) []:=by
 have h:=HY [e0,e1,e2,e3] ar;rw[Qo,pw ar,show vP ([c0,c1],(0:Int)).1=_ from Z8]at h;exact h
def o2:tp 22 [] [na [e1,e2]] (.lK [.lq 1 0 [],Bo false]) []:=by
 have h:=HY [e1,e2] ar;rw[Qp,pA ar]at h;exact h
def jm:tp 18 [] [] (Bo true) []:=by
 have htv:=RO kf ar;rw[t0]at htv;have htw:=Su kf ar;rw[t1]at htw;have hea:=MW kf ar;rw[t2]at hea;have hen:=MW [] ar;have w23:∀l:List lD,nJ [C.lq 1 23 (l.map jd)] [na l]:=λl=>.cons (.share 1 23 _) .nil
 refine ab func18 ?_;refine ah HN ?_;refine ah (o0.pre (w23 kf)) ?_;refine tf ?_
 refine⟨.inr O,dd ?_⟩;refine⟨ar,dd ?_⟩;refine⟨ar,ar,dd ?_⟩;refine ah o1 ?_;refine tf ?_
 refine⟨.inr O,dd ?_⟩;refine⟨ar,dd ?_⟩;refine⟨ar,dd ?_⟩;refine⟨ar,ar,dd ?_⟩;refine ah o2 ?_;refine tf ?_
 refine ah (htv.pre (w23 kf)) ?_;refine tf ?_
 refine ah (htw.pre (w23 kf)) ?_;refine tf ?_
 refine ah (hea.pre (w23 kf)) ?_;refine tf ?_
 refine ah ((SV [AS 1,AS 0] ar).pre (.cons (.refl _) (.cons (.share 1 13 _) .nil))) ?_;refine tf ?_
 refine ah (SV [AS 1,AS 0] ar) ?_;refine tf ?_
 refine ah (hen.pre (.cons (.nil 0 23) .nil)) ?_;refine tf ?_
 exact uI
end Go.Saf
