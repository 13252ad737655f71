import Derived.Test.YtdbcjcnfaajpjaaGreatRP
import Derived.Test.YtdbcjcnfaajpjaaGreatRS
import Derived.Test.YtdbcjcnfaajpjaaGreatRC
set_option linter.unusedVariables false
set_option linter.unusedSimpArgs false
set_option linter.unusedSectionVars false
set_option maxRecDepth 100000
set_option maxHeartbeats 4000000
namespace Go.Beg
open Go.Ab Go.Proofs Go.Hy Go.Pla
abbrev op0:Opn:=⟨0,[],[],[],0,0,0,⟨[],[],[]⟩⟩
abbrev zid:Ans:=⟨0,0,0,0,0,0,0,wL⟩
abbrev zoG:Mac:=⟨op0,0,0,0,0,0,0,0,0,0,0,0,0,0,0,false,zid,wL⟩
abbrev Cma (m:Mac):C:=.agg (zE m)
abbrev Can (a:Ans):C:=.agg (qT a)
abbrev Cop (o:Opn):C:=.agg (zg8 o)
abbrev zpF (m:Mac):List C:=[I m.zq,I m.pc,I m.zn,I m.version,I m.listen,I m.zg,I m.end_,I m.other,I m.slot,U m.word,I m.link,I m.i,I m.k,I m.sum,Bo m.done]++qT m.answer++zkz m.counts
abbrev zp2 (n:Int):List C:=[I n,Tx [],Tx [],Tx [],I 0,I 0,I 0,.lst 1 0 [],.lst 1 0 [],.lst 1 0 []]
def zc8 (t:Int) (a:Ans):Mac:={ zoG with op:={ op0 with kind:=2 },zq:=t,version:=a.version,zg:=a.zg,end_:=a.end_,slot:=a.slot,listen:=if a.kind=1 then a.listen else -1,pc:=if a.kind=1 then 0 else 9 }
theorem kB (t:Int) (a:Ans):zb Tryz.prog 23 [] [I t,Can a] (.agg (zp2 2++zpF (zc8 t a))) []:=by
 refine zb.zp (fn:=Tryz.f23) Tryz.func23 rfl ?_
 conv=>whnf
 unfold zc8
 refine ⟨fun h=>?_,fun h=>?_⟩
 ·have h1:a.kind≠1:=by simpa using h
  rw [if_neg h1,if_neg h1]
  refine dd ?_
  exact ⟨.inl rfl,_,.refl _,rfl⟩
 ·have h1:a.kind=1:=by simpa using h
  rw [if_pos h1,if_pos h1]
  refine dd ?_
  exact ⟨.inl rfl,_,.refl _,rfl⟩
end Go.Beg
namespace Go.Beg
open Go.Ab Go.Proofs Go.Hy Go.Pla
def zex (o:Opn) (given:List Ans):Ans:=if 0<=o.n∧o.n < (j1 given).length then (given[(j1 given).getD o.n.toNat 0]?).getD zid else zid
def xG (t:Int) (o:Opn) (given:List Ans):Mac:=if o.kind=2 then { zc8 t (zex o given) with op:=o } else { zoG with op:=o,zq:=t,listen:= -1 }
theorem zmX {o:Opn} {given:List Ans} (h0:0<=o.n) (h1:o.n < (j1 given).length):∃ i a,(j1 given)[o.n.toNat]?= some i∧given[i]?= some a∧zex o given=a:=by
 have hi:(j1 given)[o.n.toNat]?= some ((j1 given)[o.n.toNat]'(by omega)):=List.getElem?_eq_getElem _
 have hlt:=zd6 given given.length (Nat.le_refl _) _ (List.getElem_mem (l:=j1 given) (n:=o.n.toNat) (by omega))
 refine ⟨_,given[(j1 given)[o.n.toNat]'(by omega)],hi,List.getElem?_eq_getElem _,?_⟩
 unfold zex
 rw [if_pos ⟨h0,h1⟩,List.getD_eq_getElem?_getD,hi,Option.getD_some,List.getElem?_eq_getElem hlt]
 rfl
theorem zcb {o:Opn} {given:List Ans} (h:¬(0<=o.n∧o.n < (j1 given).length)):zex o given=zid:=if_neg h
theorem xQ (t:Int) (o:Opn) (given:List Ans) (hlen:given.length < 1000000000000):zb Tryz.prog 8 [] [I t,Cop o,lA given] (Cma (xG t o given)) []:=by
 have m1:((j1 given).map fun (n:Nat)=>[I (n:Int)]).length=(j1 given).length:=List.length_map ..
 have hl:=kj given given.length
 have mA:(given.map qT).length=given.length:=List.length_map ..
 have eb:o.kind=2->xG t o given={ zc8 t (zex o given) with op:=o }:=fun h=>if_pos h
 have eb2:o.kind≠2->xG t o given={ zoG with op:=o,zq:=t,listen:= -1 }:=fun h=>if_neg h
 refine zb.zp (fn:=Tryz.f8) Tryz.func8 rfl ?_
 conv=>whnf
 refine ⟨fun hk=>?_,fun hk=>?_⟩
 ·have h1:o.kind≠2:=by simpa using hk
  rw [eb2 h1]
  refine dd ?_
  exact ⟨.inl rfl,_,.refl _,rfl⟩
 ·have h1:o.kind=2:=by simpa using hk
  rw [eb h1]
  refine dd ?_
  refine ⟨_,_,(zd7 given hlen).frame rfl _,?_⟩;refine dd ?_
  refine ⟨fun h2=>?_,fun h2=>?_⟩
  ·have g0:0<=o.n:=by simpa using h2
   refine dd ?_
   have el:((List.map (fun (n:Nat)=>(n:Int)) (j1 given)).map Hy.encI).length=(j1 given).length:=by simp
   rw [el]
   refine ⟨fun h3=>?_,fun h3=>?_⟩
   ·have g1:o.n < (j1 given).length:=by simpa using h3
    obtain ⟨i,a,q1,q2,q3⟩:=zmX g0 g1
    have r1:((List.map (fun (n:Nat)=>(n:Int)) (j1 given)).map Hy.encI)[o.n.toNat]?= some (Hy.encI (i:Int)):=by rw [List.getElem?_map,List.getElem?_map,q1];rfl
    have r2:(given.map qT)[i]?= some (qT a):=by rw [List.getElem?_map,q2];rfl
    rw [q3]
    refine dd ?_
    refine ⟨g0,_,r1,?_⟩
    refine dd ?_
    refine ⟨by omega,_,(by rw [toNat_cast];exact r2),?_⟩
    refine dd ?_
    refine ⟨_,_,(kB t a).frame rfl _,?_⟩;refine dd ?_
    exact ⟨.inl rfl,_,.refl _,rfl⟩
   ·have g1:¬(0<=o.n∧o.n < (j1 given).length):=by
     have:¬o.n < (j1 given).length:=by simpa using h3
     omega
    rw [zcb g1]
    refine dd ?_
    refine ⟨_,_,(kB t zid).frame rfl _,?_⟩;refine dd ?_
    exact ⟨.inl rfl,_,.refl _,rfl⟩
  ·have g1:¬(0<=o.n∧o.n < (j1 given).length):=by
    have:¬0<=o.n:=by simpa using h2
    omega
   rw [zcb g1]
   refine dd ?_
   (repeat ((first | apply ya | apply yb);refine dd ?_))
   refine ⟨_,_,(kB t zid).frame rfl _,?_⟩;refine dd ?_
   exact ⟨.inl rfl,_,.refl _,rfl⟩
end Go.Beg
namespace Go.Beg
open Go.Ab Go.Proofs Go.Hy Go.Pla
end Go.Beg
namespace Go.Beg
open Go.Ab Go.Proofs Go.Hy Go.Pla
end Go.Beg
namespace Go.Beg
open Go.Ab Go.Proofs Go.Hy Go.Pla
end Go.Beg
namespace Go.Pla
open Go.Ab Go.Proofs Go.Hy
theorem zkY:zb Tryz.prog 46 [] [I 1] (.ifc 130 (.fn 62 [] [])) []:=by
 refine zb.zp (fn:=Tryz.f46) Tryz.func46 rfl ?_;(conv=>whnf);(repeat ((first | apply ya | apply yb);refine dd ?_));(refine ⟨by decide,_,rfl,?_⟩);refine dd ?_;exact ⟨.inl rfl,_,.refl _,rfl⟩
theorem zkZ:zb Tryz.prog 46 [] [I 2] (.ifc 130 (.fn 63 [] [])) []:=by
 refine zb.zp (fn:=Tryz.f46) Tryz.func46 rfl ?_;(conv=>whnf);(repeat ((first | apply ya | apply yb);refine dd ?_));(refine ⟨by decide,_,rfl,?_⟩);refine dd ?_;exact ⟨.inl rfl,_,.refl _,rfl⟩
theorem zk0:zb Tryz.prog 46 [] [I 3] (.ifc 130 (.fn 64 [] [])) []:=by
 refine zb.zp (fn:=Tryz.f46) Tryz.func46 rfl ?_;(conv=>whnf);(repeat ((first | apply ya | apply yb);refine dd ?_));(refine ⟨by decide,_,rfl,?_⟩);refine dd ?_;exact ⟨.inl rfl,_,.refl _,rfl⟩
theorem zk1:zb Tryz.prog 46 [] [I 4] (.ifc 130 (.fn 65 [] [])) []:=by
 refine zb.zp (fn:=Tryz.f46) Tryz.func46 rfl ?_;(conv=>whnf);(repeat ((first | apply ya | apply yb);refine dd ?_));(refine ⟨by decide,_,rfl,?_⟩);refine dd ?_;exact ⟨.inl rfl,_,.refl _,rfl⟩
theorem zk2:zb Tryz.prog 46 [] [I 5] (.ifc 130 (.fn 66 [] [])) []:=by
 refine zb.zp (fn:=Tryz.f46) Tryz.func46 rfl ?_;(conv=>whnf);(repeat ((first | apply ya | apply yb);refine dd ?_));(refine ⟨by decide,_,rfl,?_⟩);refine dd ?_;exact ⟨.inl rfl,_,.refl _,rfl⟩
theorem zk3:zb Tryz.prog 46 [] [I 6] (.ifc 130 (.fn 67 [] [])) []:=by
 refine zb.zp (fn:=Tryz.f46) Tryz.func46 rfl ?_;(conv=>whnf);(repeat ((first | apply ya | apply yb);refine dd ?_));(refine ⟨by decide,_,rfl,?_⟩);refine dd ?_;exact ⟨.inl rfl,_,.refl _,rfl⟩
theorem zji (k:Int) (h:¬(1<=k∧k<=6)):zb Tryz.prog 46 [] [I k] (.ifc 114 (.agg [])) []:=by
 refine zb.zp (fn:=Tryz.f46) Tryz.func46 rfl ?_
 conv=>whnf
 refine ⟨fun h1=>?_,fun h1=>?_⟩
 ·refine dd ?_
  (repeat ((first | apply ya | apply yb);refine dd ?_))
  exact ⟨.inl rfl,_,.refl _,rfl⟩
 ·refine dd ?_
  have h2:6 < k:=by
   have:¬k < 1:=by simpa using h1
   omega
  refine ⟨fun _=>?_,fun h=>absurd h (by simpa using h2)⟩
  refine dd ?_
  (repeat ((first | apply ya | apply yb);refine dd ?_))
  exact ⟨.inl rfl,_,.refl _,rfl⟩
end Go.Pla
namespace Go.Pla
open Go.Ab Go.Proofs Go.Hy
abbrev Sw (w:Wor):C:=.agg (zQ w)
abbrev Sm (m:Mac):C:=.agg (zE m)
abbrev Se (e:Eve):C:=.agg (qj e)
abbrev Sr (w:Wor) (m:Mac) (e:Eve):C:=.tup [Sw w,Sm m,Se e]
theorem zjJ {w w':Wor} {m m':Mac} {e:Eve} (h:zb Tryz.prog 62 [] [Sw w,Sm m] (Sr w' m' e) []):zb Tryz.prog 217 [] [.fn 62 [] [],Sw w,Sm m] (Sr w' m' e) []:=by
 refine zb.zp (fn:=Tryz.f217) Tryz.func217 rfl ?_;(conv=>whnf);refine ⟨_,_,(h).frame rfl _,?_⟩;refine dd ?_;exact ⟨.inl rfl,_,.refl _,rfl⟩
theorem zW {w w':Wor} {m m':Mac} {e:Eve} (hk:m.op.kind=1) (h:zb Tryz.prog 62 [] [Sw w,Sm m] (Sr w' m' e) []):zb Tryz.prog 32 [] [Sw w,Sm m] (Sr w' m' e) []:=by
 (have ho:=zkY);(rw [<- hk] at ho);refine zb.zp (fn:=Tryz.f32) Tryz.func32 rfl ?_;(conv=>whnf);refine ⟨_,_,(ho).frame rfl _,?_⟩;refine dd ?_;(repeat ((first | apply ya | apply yb);refine dd ?_));(refine ⟨217,by kernel_rfl,rfl,_,_,(zjJ h).frame rfl _,?_⟩);refine dd ?_;exact ⟨.inl rfl,_,.refl _,rfl⟩
theorem zjK {w w':Wor} {m m':Mac} {e:Eve} (h:zb Tryz.prog 63 [] [Sw w,Sm m] (Sr w' m' e) []):zb Tryz.prog 217 [] [.fn 63 [] [],Sw w,Sm m] (Sr w' m' e) []:=by
 refine zb.zp (fn:=Tryz.f217) Tryz.func217 rfl ?_;(conv=>whnf);refine ⟨_,_,(h).frame rfl _,?_⟩;refine dd ?_;exact ⟨.inl rfl,_,.refl _,rfl⟩
theorem xq {w w':Wor} {m m':Mac} {e:Eve} (hk:m.op.kind=2) (h:zb Tryz.prog 63 [] [Sw w,Sm m] (Sr w' m' e) []):zb Tryz.prog 32 [] [Sw w,Sm m] (Sr w' m' e) []:=by
 (have ho:=zkZ);(rw [<- hk] at ho);refine zb.zp (fn:=Tryz.f32) Tryz.func32 rfl ?_;(conv=>whnf);refine ⟨_,_,(ho).frame rfl _,?_⟩;refine dd ?_;(repeat ((first | apply ya | apply yb);refine dd ?_));(refine ⟨217,by kernel_rfl,rfl,_,_,(zjK h).frame rfl _,?_⟩);refine dd ?_;exact ⟨.inl rfl,_,.refl _,rfl⟩
theorem zjL {w w':Wor} {m m':Mac} {e:Eve} (h:zb Tryz.prog 64 [] [Sw w,Sm m] (Sr w' m' e) []):zb Tryz.prog 217 [] [.fn 64 [] [],Sw w,Sm m] (Sr w' m' e) []:=by
 refine zb.zp (fn:=Tryz.f217) Tryz.func217 rfl ?_;(conv=>whnf);refine ⟨_,_,(h).frame rfl _,?_⟩;refine dd ?_;exact ⟨.inl rfl,_,.refl _,rfl⟩
theorem zhT {w w':Wor} {m m':Mac} {e:Eve} (hk:m.op.kind=3) (h:zb Tryz.prog 64 [] [Sw w,Sm m] (Sr w' m' e) []):zb Tryz.prog 32 [] [Sw w,Sm m] (Sr w' m' e) []:=by
 (have ho:=zk0);(rw [<- hk] at ho);refine zb.zp (fn:=Tryz.f32) Tryz.func32 rfl ?_;(conv=>whnf);refine ⟨_,_,(ho).frame rfl _,?_⟩;refine dd ?_;(repeat ((first | apply ya | apply yb);refine dd ?_));(refine ⟨217,by kernel_rfl,rfl,_,_,(zjL h).frame rfl _,?_⟩);refine dd ?_;exact ⟨.inl rfl,_,.refl _,rfl⟩
theorem zjM {w w':Wor} {m m':Mac} {e:Eve} (h:zb Tryz.prog 65 [] [Sw w,Sm m] (Sr w' m' e) []):zb Tryz.prog 217 [] [.fn 65 [] [],Sw w,Sm m] (Sr w' m' e) []:=by
 refine zb.zp (fn:=Tryz.f217) Tryz.func217 rfl ?_;(conv=>whnf);refine ⟨_,_,(h).frame rfl _,?_⟩;refine dd ?_;exact ⟨.inl rfl,_,.refl _,rfl⟩
theorem zhU {w w':Wor} {m m':Mac} {e:Eve} (hk:m.op.kind=4) (h:zb Tryz.prog 65 [] [Sw w,Sm m] (Sr w' m' e) []):zb Tryz.prog 32 [] [Sw w,Sm m] (Sr w' m' e) []:=by
 (have ho:=zk1);(rw [<- hk] at ho);refine zb.zp (fn:=Tryz.f32) Tryz.func32 rfl ?_;(conv=>whnf);refine ⟨_,_,(ho).frame rfl _,?_⟩;refine dd ?_;(repeat ((first | apply ya | apply yb);refine dd ?_));(refine ⟨217,by kernel_rfl,rfl,_,_,(zjM h).frame rfl _,?_⟩);refine dd ?_;exact ⟨.inl rfl,_,.refl _,rfl⟩
theorem zjN {w w':Wor} {m m':Mac} {e:Eve} (h:zb Tryz.prog 66 [] [Sw w,Sm m] (Sr w' m' e) []):zb Tryz.prog 217 [] [.fn 66 [] [],Sw w,Sm m] (Sr w' m' e) []:=by
 refine zb.zp (fn:=Tryz.f217) Tryz.func217 rfl ?_;(conv=>whnf);refine ⟨_,_,(h).frame rfl _,?_⟩;refine dd ?_;exact ⟨.inl rfl,_,.refl _,rfl⟩
theorem zhV {w w':Wor} {m m':Mac} {e:Eve} (hk:m.op.kind=5) (h:zb Tryz.prog 66 [] [Sw w,Sm m] (Sr w' m' e) []):zb Tryz.prog 32 [] [Sw w,Sm m] (Sr w' m' e) []:=by
 (have ho:=zk2);(rw [<- hk] at ho);refine zb.zp (fn:=Tryz.f32) Tryz.func32 rfl ?_;(conv=>whnf);refine ⟨_,_,(ho).frame rfl _,?_⟩;refine dd ?_;(repeat ((first | apply ya | apply yb);refine dd ?_));(refine ⟨217,by kernel_rfl,rfl,_,_,(zjN h).frame rfl _,?_⟩);refine dd ?_;exact ⟨.inl rfl,_,.refl _,rfl⟩
theorem zjO {w w':Wor} {m m':Mac} {e:Eve} (h:zb Tryz.prog 67 [] [Sw w,Sm m] (Sr w' m' e) []):zb Tryz.prog 217 [] [.fn 67 [] [],Sw w,Sm m] (Sr w' m' e) []:=by
 refine zb.zp (fn:=Tryz.f217) Tryz.func217 rfl ?_;(conv=>whnf);refine ⟨_,_,(h).frame rfl _,?_⟩;refine dd ?_;exact ⟨.inl rfl,_,.refl _,rfl⟩
theorem xr {w w':Wor} {m m':Mac} {e:Eve} (hk:m.op.kind=6) (h:zb Tryz.prog 67 [] [Sw w,Sm m] (Sr w' m' e) []):zb Tryz.prog 32 [] [Sw w,Sm m] (Sr w' m' e) []:=by
 (have ho:=zk3);(rw [<- hk] at ho);refine zb.zp (fn:=Tryz.f32) Tryz.func32 rfl ?_;(conv=>whnf);refine ⟨_,_,(ho).frame rfl _,?_⟩;refine dd ?_;(repeat ((first | apply ya | apply yb);refine dd ?_));(refine ⟨217,by kernel_rfl,rfl,_,_,(zjO h).frame rfl _,?_⟩);refine dd ?_;exact ⟨.inl rfl,_,.refl _,rfl⟩
abbrev zpZ:Eve:=⟨0,0,0,0,0,false,0,false,false,false,⟨0,0,0,0,0,0,0,wL⟩⟩
theorem zgL (w:Wor) (m:Mac) (hk:¬(1<=m.op.kind∧m.op.kind<=6)):zb Tryz.prog 32 [] [Sw w,Sm m] (Sr w m zpZ) []:=by
 refine zb.zp (fn:=Tryz.f32) Tryz.func32 rfl ?_
 conv=>whnf
 refine ⟨_,_,(zji _ hk).frame rfl _,?_⟩;refine dd ?_
 (repeat ((first | apply ya | apply yb);refine dd ?_))
 refine .inl ⟨⟨false,[0,1],[0,1],[]⟩,by kernel_rfl,?_⟩;(conv=>whnf)
 repeat (refine ⟨rfl,?_⟩;conv=>whnf)
 exact ⟨.inl rfl,_,.refl _,rfl⟩
end Go.Pla
namespace Go.Pla
open Go.Ab Go.Proofs Go.Hy
inductive jt:Nat->Wor->Mac->Wor->Mac->Prop
 | last {w w':Wor} {m m':Mac} {e:Eve} (h:zb Tryz.prog 32 [] [Sw w,Sm m] (Sr w' m' e) []) (he:e.access≠0) (hd:m'.done=true):jt 1 w m w' m'
 | more {n:Nat} {w w' w2:Wor} {m m' m2:Mac} {e:Eve} (h:zb Tryz.prog 32 [] [Sw w,Sm m] (Sr w' m' e) []) (he:e.access≠0) (hd:m'.done=false) (hg:jt n w' m' w2 m2):jt (n+1) w m w2 m2
theorem xP {n:Nat} {w w':Wor} {m m':Mac} (hg:jt n w m w' m') (hn:n<=3000):zb Tryz.prog 17 [] [Sw w,Sm m] (.tup [Sw w',.agg (qT m'.answer),Bo true]) []:=by
 refine zb.zp (fn:=Tryz.f17) Tryz.func17 rfl ?_
 conv=>whnf
 refine qa.inv (fun i t1 H1=>∃ (k:Nat) (wk:Wor) (mk:Mac),k+i=n∧jt i wk mk w' m'∧t1=[.za,.za,.ref 0 [] 8 0 0,.ref 1 [] 44 0 0,.ref 2 [] 8 0 0,.ref 3 [] 13 0 0,Bo false,I k,.za,.za,.za,.za,.za,.za,.za,.za,.za,.za,.za,.za,.za,.za,.za,.za,.za,.za,.za,.za,.za,.za,.za,.za,.za,.za,.za,.za,.za,.za]∧H1=[⟨1,48,8,[zQ (wk)],0⟩,⟨1,37,44,[zE (mk)],0⟩,⟨1,48,8,[[I 0,I 0,I 0,.lst 1 0 [],.lst 1 0 [],.lst 1 0 [],.lst 1 0 [],.lst 1 0 []]],0⟩,⟨1,35,13,[qT ⟨0,0,0,0,0,0,0,wL⟩],0⟩]) n ?_ ?_
 ·exact ⟨_,_,cC,0,w,m,by simp,hg,rfl,rfl⟩
 rintro i _ _ ⟨k,wk,mk,hk,hg,rfl,rfl⟩
 have hi:1<=i:=by cases hg <;> omega
 conv=>whnf
 (refine ⟨fun _=>?_,fun h=>absurd h (by simp;omega)⟩);refine dd ?_
 cases hg with
 | last h he hd=>
  refine ⟨_,_,(h).frame rfl _,?_⟩;refine dd ?_
  refine ⟨fun h=>absurd h (by simpa using he),fun _=>?_⟩
  refine dd ?_
  refine ⟨fun _=>?_,fun h=>absurd ((hd).symm.trans h:true=false) (by decide)⟩;refine dd ?_
  refine .inl ⟨⟨false,[0,2],[0,1],[]⟩,by kernel_rfl,?_⟩;(conv=>whnf)
  repeat (refine ⟨rfl,?_⟩;conv=>whnf)
  refine .inr ⟨by simp,?_⟩
  conv=>whnf
  exact ⟨.inl rfl,_,.refl _,rfl⟩
 | more h he hd hg=>
  refine ⟨_,_,(h).frame rfl _,?_⟩;refine dd ?_
  refine ⟨fun h=>absurd h (by simpa using he),fun _=>?_⟩
  refine dd ?_
  refine ⟨fun h=>absurd ((hd).symm.trans h:false=true) (by decide),fun _=>?_⟩;refine dd ?_
  rw [zC (by omega)]
  exact .inl ⟨rfl,_,_,_,Nat.lt_succ_self _,cE 4,k+1,_,_,by omega,hg,rfl,rfl⟩
end Go.Pla
namespace Go.Dep
open Go.Ab
def xk:Nat->C->C
 | 0,c=>c
 | k+1,c=>match c with
  | .lst o sz rows=>match rows with
   | []=>.lst (if o=2 then 2 else 0) 0 []
   | r::rs=>.lst (if o=2 then 2 else 0) sz (r.map (xk k)::rs.map fun r=>r.map (xk k))
  | .agg cs=>.agg (cs.map (xk k))
  | c=>c
theorem zfg (k o sz:Nat) (rows:List (List C)) (h:rows≠[]):xk (k+1) (.lst o sz rows)=.lst (if o=2 then 2 else 0) sz (rows.map fun r=>r.map (xk k)):=by
 cases rows with
 | nil=>exact absurd rfl h
 | cons r rs=>rfl
theorem zfd {f:C->C} {rows:List (List C)} {i j:Nat} {r:List C} {c:C} (h1:(rows.map fun r=>r.map f)[i]?= some r) (h2:r[j]?= some c):∃ r0 c0,rows[i]?= some r0∧r0[j]?= some c0∧c=f c0:=by
 rw [List.getElem?_map] at h1
 cases h3:rows[i]? with
 | none=>rw [h3] at h1;cases h1
 | some r0=>
  rw [h3] at h1
  cases h1
  rw [List.getElem?_map] at h2
  cases h4:r0[j]? with
  | none=>rw [h4] at h2;cases h2
  | some c0=>rw [h4] at h2;cases h2;exact ⟨r0,c0,rfl,h4,rfl⟩
theorem zng:∀ (k:Nat) {E:Env} {c:C} {y:Value},L E c y->L E (xk k c) y:=by
 intro k
 induction k with
 | zero=>intro E c y h;exact h
 | succ k ih=>
  intro E c y h
  cases h with
  | lst o sz rows b off cap us ho hc hsz hst hL=>
   have ho2:o≠2:=by rcases ho with h | h <;> omega
   by_cases hr:rows=[]
   ·subst hr
    have e:xk (k+1) (.lst o sz [])=.lst 0 0 []:=by show C.lst (if o=2 then 2 else 0) 0 _=_;rw [if_neg ho2]
    rw [e]
    exact .lst 0 0 [] b off cap us (.inl rfl) hc (fun r hr=>by cases hr) (fun i r j c h1 h2=>by simp at h1) (fun i r j c h1 h2=>by simp at h1)
   rw [zfg k o sz rows hr,if_neg ho2]
   have:=L.lst (E:=E) 0 sz (rows.map fun r=>r.map (xk k)) b off cap us (.inl rfl) (by simpa using hc)
    (fun r hr=>by obtain ⟨r0,h1,rfl⟩:=List.mem_map.1 hr;simpa using hsz r0 h1)
    (fun i r j c h1 h2=>by obtain ⟨r0,c0,h3,h4,rfl⟩:=zfd h1 h2;exact hst i r0 j c0 h3 h4)
    (fun i r j c h1 h2=>by obtain ⟨r0,c0,h3,h4,rfl⟩:=zfd h1 h2;exact ih (hL i r0 j c0 h3 h4))
   rw [List.length_map] at this
   exact this
  | jR o sz ho a=>
   have ho2:o≠2:=by rcases ho with h | h <;> omega
   have e:xk (k+1) (.lst o sz [])=.lst 0 0 []:=by show C.lst (if o=2 then 2 else 0) 0 _=_;rw [if_neg ho2]
   rw [e]
   exact .jR 0 0 (.inl rfl) a
  | agg cs ys h1 h2 h3=>
   have:=LL.ren (f:=xk k) (E':=E) (cs:=cs) (ys:=ys.toList) ⟨by simpa using h1,fun i c y e1 e2=>h2 i c y e1 (by simpa using e2)⟩ (fun c y hl=>ih hl)
   exact .agg _ ys (by simpa using this.1) (fun i c y e1 e2=>this.2 i c y e1 (by simpa using e2)) h3
  | v x hx=>exact .v _ hx
  | jg cells b off us hst hL=>exact .jg cells b off us hst hL
  | ref id hops sz i j hn=>exact .ref id hops sz i j hn
  | sl id hops sz lo len full cap hn hlen hf hf'=>exact .sl id hops sz lo len full cap hn hlen hf hf'
  | fn f first caps ys zs h1 h2 h3 h4=>exact .fn f first caps ys zs h1 h2 h3 h4
  | mp id hn=>exact .mp id hn
  | tup cs ys h1 h2=>exact .tup cs ys h1 h2
  | un=>exact .un
  | za y=>exact .za y
  | gl id sz rows y hn hg h=>exact .gl id sz rows y hn hg h
  | ifc t c y h=>exact .ifc t c y h
def zb5:Nat->C->Bool
 | 0,_=>true
 | k+1,c=>match c with
  | .lst o _ rows=>o == 0 && rows.all fun r=>r.all (zb5 k)
  | .agg cs=>cs.all (zb5 k)
  | _=>true
theorem ziA:∀ (k:Nat) {E:Env} {c:C} {y:Value},zb5 k c=true->L E (xk k c) y->L E c y:=by
 intro k
 induction k with
 | zero=>intro E c y _ h;exact h
 | succ k ih=>
  intro E c y hp h
  cases c with
  | lst o sz rows=>
   simp only [zb5,Bool.and_eq_true,beq_iff_eq,List.all_eq_true] at hp
   obtain ⟨rfl,hp⟩:=hp
   by_cases hr:rows=[]
   ·subst hr
    have h:L E (.lst 0 0 []) y:=h
    exact WC.none 0 0 sz E y h
   rw [zfg k 0 sz rows hr,if_neg (by decide)] at h
   generalize hgr:(rows.map fun r=>r.map (xk k))=rows' at h
   cases h with
   | lst _ _ _ b off cap us ho hc hsz hst hL=>
    subst hgr
    have back:∀ {i:Nat} {r:List C} {j:Nat} {c:C},rows[i]?= some r->r[j]?= some c->(rows.map fun r=>r.map (xk k))[i]?= some (r.map (xk k))∧(r.map (xk k))[j]?= some (xk k c):=fun h1 h2=>by
     rw [List.getElem?_map,h1,List.getElem?_map,h2];exact ⟨rfl,rfl⟩
    have:=L.lst (E:=E) 0 sz rows b off cap us (.inl rfl) (by simpa using hc)
     (fun r hr=>by have:=hsz _ (List.mem_map_of_mem (f:=fun r=>r.map (xk k)) hr);simpa using this)
     (fun i r j c h1 h2=>hst i _ j _ (back h1 h2).1 (back h1 h2).2)
     (fun i r j c h1 h2=>ih (hp r (List.mem_of_getElem? h1) c (List.mem_of_getElem? h2)) (hL i _ j _ (back h1 h2).1 (back h1 h2).2))
    rw [List.length_map]
    exact this
   | jR o sz ho a=>exact absurd (List.map_eq_nil_iff.1 hgr) hr
  | agg cs=>
   have hp:cs.all (zb5 k)=true:=hp
   rw [List.all_eq_true] at hp
   have h:L E (.agg (cs.map (xk k))) y:=h
   generalize hg:cs.map (xk k)=cs' at h
   cases h with
   | agg _ ys h1 h2 h3=>
    subst hg
    refine .agg cs ys (by simpa using h1) (fun i c y e1 e2=>ih (hp c (List.mem_of_getElem? e1)) (h2 i _ y (by rw [List.getElem?_map,e1];rfl) e2)) h3
  | _=>exact h
theorem zb.zdu {P:Program} {f:FuncId} {H H':zl} {args args':List C} {r:C} (k:Nat) (h:zb P f H args r H') (hp:args.all (zb5 k)=true) (ha:args'.map (xk k)=args.map (xk k)):zb P f H args' r H':=fun w E vs hh hl=>
 h w E vs hh ⟨by have:=congrArg List.length ha;simp at this;rw [<- this];exact hl.1,fun i c y e1 e2=>by
  have e3:(args'.map (xk k))[i]?= some (xk k c):=by rw [ha,List.getElem?_map,e1];rfl
  rw [List.getElem?_map] at e3
  cases hx:args'[i]? with
  | none=>rw [hx] at e3;cases e3
  | some c'=>
   rw [hx] at e3
   simp only [Option.map_some,Option.some.injEq] at e3
   exact ziA k (List.all_eq_true.1 hp c (List.mem_of_getElem? e1)) (e3 ▸ zng k (hl.2 i c' y hx e2))⟩
end Go.Dep
