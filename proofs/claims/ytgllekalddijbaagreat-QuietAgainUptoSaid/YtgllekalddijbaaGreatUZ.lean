import Derived.Test.YtgllekalddijbaaGreatUP
import Derived.Test.YtgllekalddijbaaGreatUS
import Derived.Test.YtgllekalddijbaaGreatUC
set_option linter.unusedVariables false
set_option linter.unusedSimpArgs false
set_option linter.unusedSectionVars false
set_option maxRecDepth 100000
set_option maxHeartbeats 4000000
namespace Go.Beg
open Go.Ab Go.Proofs Go.Hy Go.Pla
abbrev op0:Opn:=⟨0,[],[],[],0,0,0,⟨[],[],[]⟩⟩
abbrev zes:Ans:=⟨0,0,0,0,0,0,0,zbf⟩
abbrev zlA:Mac:=⟨op0,0,0,0,0,0,0,0,0,0,0,0,0,0,0,false,zes,zbf⟩
abbrev Cma (m:Mac):C:=.agg (zW m)
abbrev Can (a:Ans):C:=.agg (xq a)
abbrev Cop (o:Opn):C:=.agg (zbJ o)
abbrev zmD (m:Mac):List C:=[I m.zC,I m.pc,I m.zj,I m.version,I m.listen,I m.zn,I m.end_,I m.other,I m.slot,U m.word,I m.link,I m.i,I m.k,I m.sum,Bo m.done]++xq m.answer++zkn m.counts
abbrev zmY (n:Int):List C:=[I n,Tx [],Tx [],Tx [],I 0,I 0,I 0,.lst 1 0 [],.lst 1 0 [],.lst 1 0 []]
def zbj (t:Int) (a:Ans):Mac:={ zlA with op:={ op0 with kind:=2 },zC:=t,version:=a.version,zn:=a.zn,end_:=a.end_,slot:=a.slot,listen:=if a.kind=1 then a.listen else -1,pc:=if a.kind=1 then 0 else 9 }
theorem yT (t:Int) (a:Ans):zb Tryz.prog 50 [] [I t,Can a] (.agg (zmY 2++zmD (zbj t a))) []:=by
 refine zb.zm (fn:=Tryz.f50) Tryz.func50 rfl ?_
 conv=>whnf
 unfold zbj
 refine ⟨fun h=>?_,fun h=>?_⟩
 ·have h1:a.kind≠1:=by simpa using h
  rw [if_neg h1,if_neg h1]
  refine dd ?_
  exact ⟨.inl rfl,_,.refl _,rfl⟩
 ·have h1:a.kind=1:=by simpa using h
  rw [if_pos h1,if_pos h1]
  refine dd ?_
  exact ⟨.inl rfl,_,.refl _,rfl⟩
end Go.Beg
namespace Go.Beg
open Go.Ab Go.Proofs Go.Hy Go.Pla
def zco (o:Opn) (given:List Ans):Ans:=if 0<=o.n∧o.n < (je given).length then (given[(je given).getD o.n.toNat 0]?).getD zes else zes
def wW (t:Int) (o:Opn) (given:List Ans):Mac:=if o.kind=2 then { zbj t (zco o given) with op:=o } else { zlA with op:=o,zC:=t,listen:= -1 }
theorem zjZ {o:Opn} {given:List Ans} (h0:0<=o.n) (h1:o.n < (je given).length):∃ i a,(je given)[o.n.toNat]?= some i∧given[i]?= some a∧zco o given=a:=by
 have hi:(je given)[o.n.toNat]?= some ((je given)[o.n.toNat]'(by omega)):=List.getElem?_eq_getElem _
 have hlt:=zb6 given given.length (Nat.le_refl _) _ (List.getElem_mem (l:=je given) (n:=o.n.toNat) (by omega))
 refine ⟨_,given[(je given)[o.n.toNat]'(by omega)],hi,List.getElem?_eq_getElem _,?_⟩
 unfold zco
 rw [if_pos ⟨h0,h1⟩,List.getD_eq_getElem?_getD,hi,Option.getD_some,List.getElem?_eq_getElem hlt]
 rfl
theorem zat {o:Opn} {given:List Ans} (h:¬(0<=o.n∧o.n < (je given).length)):zco o given=zes:=if_neg h
theorem zew (t:Int) (o:Opn) (given:List Ans) (hlen:given.length < 1000000000000):zb Tryz.prog 18 [] [I t,Cop o,lA given] (Cma (wW t o given)) []:=by
 have m1:((je given).map fun (n:Nat)=>[I (n:Int)]).length=(je given).length:=List.length_map ..
 have hl:=yK given given.length
 have mA:(given.map xq).length=given.length:=List.length_map ..
 have eb:o.kind=2->wW t o given={ zbj t (zco o given) with op:=o }:=fun h=>if_pos h
 have eb2:o.kind≠2->wW t o given={ zlA with op:=o,zC:=t,listen:= -1 }:=fun h=>if_neg h
 refine zb.zm (fn:=Tryz.f18) Tryz.func18 rfl ?_
 conv=>whnf
 refine ⟨fun hk=>?_,fun hk=>?_⟩
 ·have h1:o.kind≠2:=by simpa using hk
  rw [eb2 h1]
  refine dd ?_
  exact ⟨.inl rfl,_,.refl _,rfl⟩
 ·have h1:o.kind=2:=by simpa using hk
  rw [eb h1]
  refine dd ?_
  refine ⟨_,_,(zgI given hlen).frame rfl _,?_⟩;refine dd ?_
  refine ⟨fun h2=>?_,fun h2=>?_⟩
  ·have g0:0<=o.n:=by simpa using h2
   refine dd ?_
   have el:((List.map (fun (n:Nat)=>(n:Int)) (je given)).map Hy.encI).length=(je given).length:=by simp
   rw [el]
   refine ⟨fun h3=>?_,fun h3=>?_⟩
   ·have g1:o.n < (je given).length:=by simpa using h3
    obtain ⟨i,a,q1,q2,q3⟩:=zjZ g0 g1
    have r1:((List.map (fun (n:Nat)=>(n:Int)) (je given)).map Hy.encI)[o.n.toNat]?= some (Hy.encI (i:Int)):=by rw [List.getElem?_map,List.getElem?_map,q1];rfl
    have r2:(given.map xq)[i]?= some (xq a):=by rw [List.getElem?_map,q2];rfl
    rw [q3]
    refine dd ?_
    refine ⟨g0,_,r1,?_⟩
    refine dd ?_
    refine ⟨by omega,_,(by rw [toNat_cast];exact r2),?_⟩
    refine dd ?_
    refine ⟨_,_,(yT t a).frame rfl _,?_⟩;refine dd ?_
    exact ⟨.inl rfl,_,.refl _,rfl⟩
   ·have g1:¬(0<=o.n∧o.n < (je given).length):=by
     have:¬o.n < (je given).length:=by simpa using h3
     omega
    rw [zat g1]
    refine dd ?_
    refine ⟨_,_,(yT t zes).frame rfl _,?_⟩;refine dd ?_
    exact ⟨.inl rfl,_,.refl _,rfl⟩
  ·have g1:¬(0<=o.n∧o.n < (je given).length):=by
    have:¬0<=o.n:=by simpa using h2
    omega
   rw [zat g1]
   refine dd ?_
   (repeat ((first | apply ya | apply yb);refine dd ?_))
   refine ⟨_,_,(yT t zes).frame rfl _,?_⟩;refine dd ?_
   exact ⟨.inl rfl,_,.refl _,rfl⟩
end Go.Beg
namespace Go.Beg
open Go.Ab Go.Proofs Go.Hy Go.Pla
end Go.Beg
namespace Go.Beg
open Go.Ab Go.Proofs Go.Hy Go.Pla
end Go.Beg
namespace Go.Beg
open Go.Ab Go.Proofs Go.Hy Go.Pla
end Go.Beg
namespace Go.Pla
open Go.Ab Go.Proofs Go.Hy
theorem zh8:zb Tryz.prog 101 [] [I 5] (.ifc 205 (.fn 156 [] [])) []:=by
 refine zb.zm (fn:=Tryz.f101) Tryz.func101 rfl ?_;(conv=>whnf);(repeat ((first | apply ya | apply yb);refine dd ?_));(refine ⟨by decide,_,rfl,?_⟩);refine dd ?_;exact ⟨.inl rfl,_,.refl _,rfl⟩
end Go.Pla
namespace Go.Pla
open Go.Ab Go.Proofs Go.Hy
abbrev Sw (w:Wor):C:=.agg (zU w)
abbrev Sm (m:Mac):C:=.agg (zW m)
abbrev Se (e:Eve):C:=.agg (yk e)
abbrev Sr (w:Wor) (m:Mac) (e:Eve):C:=.tup [Sw w,Sm m,Se e]
theorem zg3 {w w':Wor} {m m':Mac} {e:Eve} (h:zb Tryz.prog 156 [] [Sw w,Sm m] (Sr w' m' e) []):zb Tryz.prog 368 [] [.fn 156 [] [],Sw w,Sm m] (Sr w' m' e) []:=by
 refine zb.zm (fn:=Tryz.f368) Tryz.func368 rfl ?_;(conv=>whnf);refine ⟨_,_,(h).frame rfl _,?_⟩;refine dd ?_;exact ⟨.inl rfl,_,.refl _,rfl⟩
theorem zfx {w w':Wor} {m m':Mac} {e:Eve} (hk:m.op.kind=5) (h:zb Tryz.prog 156 [] [Sw w,Sm m] (Sr w' m' e) []):zb Tryz.prog 53 [] [Sw w,Sm m] (Sr w' m' e) []:=by
 (have ho:=zh8);(rw [<- hk] at ho);refine zb.zm (fn:=Tryz.f53) Tryz.func53 rfl ?_;(conv=>whnf);refine ⟨_,_,(ho).frame rfl _,?_⟩;refine dd ?_;(repeat ((first | apply ya | apply yb);refine dd ?_));(refine ⟨368,by kernel_rfl,rfl,_,_,(zg3 h).frame rfl _,?_⟩);refine dd ?_;exact ⟨.inl rfl,_,.refl _,rfl⟩
end Go.Pla
namespace Go.Pla
open Go.Ab Go.Proofs Go.Hy
inductive wR:Nat->Wor->Mac->Wor->Mac->Prop
 | last {w w':Wor} {m m':Mac} {e:Eve} (h:zb Tryz.prog 53 [] [Sw w,Sm m] (Sr w' m' e) []) (he:e.access≠0) (hd:m'.done=true):wR 1 w m w' m'
 | more {n:Nat} {w w' w2:Wor} {m m' m2:Mac} {e:Eve} (h:zb Tryz.prog 53 [] [Sw w,Sm m] (Sr w' m' e) []) (he:e.access≠0) (hd:m'.done=false) (hg:wR n w' m' w2 m2):wR (n+1) w m w2 m2
end Go.Pla
namespace Go.Dep
open Go.Ab
def jt:Nat->C->C
 | 0,c=>c
 | k+1,c=>match c with
  | .lst o sz rows=>match rows with
   | []=>.lst (if o=2 then 2 else 0) 0 []
   | r::rs=>.lst (if o=2 then 2 else 0) sz (r.map (jt k)::rs.map fun r=>r.map (jt k))
  | .agg cs=>.agg (cs.map (jt k))
  | c=>c
theorem zcW (k o sz:Nat) (rows:List (List C)) (h:rows≠[]):jt (k+1) (.lst o sz rows)=.lst (if o=2 then 2 else 0) sz (rows.map fun r=>r.map (jt k)):=by
 cases rows with
 | nil=>exact absurd rfl h
 | cons r rs=>rfl
theorem zcT {f:C->C} {rows:List (List C)} {i j:Nat} {r:List C} {c:C} (h1:(rows.map fun r=>r.map f)[i]?= some r) (h2:r[j]?= some c):∃ r0 c0,rows[i]?= some r0∧r0[j]?= some c0∧c=f c0:=by
 rw [List.getElem?_map] at h1
 cases h3:rows[i]? with
 | none=>rw [h3] at h1;cases h1
 | some r0=>
  rw [h3] at h1
  cases h1
  rw [List.getElem?_map] at h2
  cases h4:r0[j]? with
  | none=>rw [h4] at h2;cases h2
  | some c0=>rw [h4] at h2;cases h2;exact ⟨r0,c0,rfl,h4,rfl⟩
theorem zkj:∀ (k:Nat) {E:Env} {c:C} {y:Value},L E c y->L E (jt k c) y:=by
 intro k
 induction k with
 | zero=>intro E c y h;exact h
 | succ k ih=>
  intro E c y h
  cases h with
  | lst o sz rows b off cap us ho hc hsz hst hL=>
   have ho2:o≠2:=by rcases ho with h | h <;> omega
   by_cases hr:rows=[]
   ·subst hr
    have e:jt (k+1) (.lst o sz [])=.lst 0 0 []:=by show C.lst (if o=2 then 2 else 0) 0 _=_;rw [if_neg ho2]
    rw [e]
    exact .lst 0 0 [] b off cap us (.inl rfl) hc (fun r hr=>by cases hr) (fun i r j c h1 h2=>by simp at h1) (fun i r j c h1 h2=>by simp at h1)
   rw [zcW k o sz rows hr,if_neg ho2]
   have:=L.lst (E:=E) 0 sz (rows.map fun r=>r.map (jt k)) b off cap us (.inl rfl) (by simpa using hc)
    (fun r hr=>by obtain ⟨r0,h1,rfl⟩:=List.mem_map.1 hr;simpa using hsz r0 h1)
    (fun i r j c h1 h2=>by obtain ⟨r0,c0,h3,h4,rfl⟩:=zcT h1 h2;exact hst i r0 j c0 h3 h4)
    (fun i r j c h1 h2=>by obtain ⟨r0,c0,h3,h4,rfl⟩:=zcT h1 h2;exact ih (hL i r0 j c0 h3 h4))
   rw [List.length_map] at this
   exact this
  | qP o sz ho a=>
   have ho2:o≠2:=by rcases ho with h | h <;> omega
   have e:jt (k+1) (.lst o sz [])=.lst 0 0 []:=by show C.lst (if o=2 then 2 else 0) 0 _=_;rw [if_neg ho2]
   rw [e]
   exact .qP 0 0 (.inl rfl) a
  | agg cs ys h1 h2 h3=>
   have:=LL.ren (f:=jt k) (E':=E) (cs:=cs) (ys:=ys.toList) ⟨by simpa using h1,fun i c y e1 e2=>h2 i c y e1 (by simpa using e2)⟩ (fun c y hl=>ih hl)
   exact .agg _ ys (by simpa using this.1) (fun i c y e1 e2=>this.2 i c y e1 (by simpa using e2)) h3
  | v x hx=>exact .v _ hx
  | qv cells b off us hst hL=>exact .qv cells b off us hst hL
  | ref id hops sz i j hn=>exact .ref id hops sz i j hn
  | sl id hops sz lo len full cap hn hlen hf hf'=>exact .sl id hops sz lo len full cap hn hlen hf hf'
  | fn f first caps ys zs h1 h2 h3 h4=>exact .fn f first caps ys zs h1 h2 h3 h4
  | mp id hn=>exact .mp id hn
  | tup cs ys h1 h2=>exact .tup cs ys h1 h2
  | un=>exact .un
  | za y=>exact .za y
  | gl id sz rows y hn hg h=>exact .gl id sz rows y hn hg h
  | ifc t c y h=>exact .ifc t c y h
def zao:Nat->C->Bool
 | 0,_=>true
 | k+1,c=>match c with
  | .lst o _ rows=>o == 0 && rows.all fun r=>r.all (zao k)
  | .agg cs=>cs.all (zao k)
  | _=>true
theorem zfZ:∀ (k:Nat) {E:Env} {c:C} {y:Value},zao k c=true->L E (jt k c) y->L E c y:=by
 intro k
 induction k with
 | zero=>intro E c y _ h;exact h
 | succ k ih=>
  intro E c y hp h
  cases c with
  | lst o sz rows=>
   simp only [zao,Bool.and_eq_true,beq_iff_eq,List.all_eq_true] at hp
   obtain ⟨rfl,hp⟩:=hp
   by_cases hr:rows=[]
   ·subst hr
    have h:L E (.lst 0 0 []) y:=h
    exact WC.none 0 0 sz E y h
   rw [zcW k 0 sz rows hr,if_neg (by decide)] at h
   generalize hgr:(rows.map fun r=>r.map (jt k))=rows' at h
   cases h with
   | lst _ _ _ b off cap us ho hc hsz hst hL=>
    subst hgr
    have back:∀ {i:Nat} {r:List C} {j:Nat} {c:C},rows[i]?= some r->r[j]?= some c->(rows.map fun r=>r.map (jt k))[i]?= some (r.map (jt k))∧(r.map (jt k))[j]?= some (jt k c):=fun h1 h2=>by
     rw [List.getElem?_map,h1,List.getElem?_map,h2];exact ⟨rfl,rfl⟩
    have:=L.lst (E:=E) 0 sz rows b off cap us (.inl rfl) (by simpa using hc)
     (fun r hr=>by have:=hsz _ (List.mem_map_of_mem (f:=fun r=>r.map (jt k)) hr);simpa using this)
     (fun i r j c h1 h2=>hst i _ j _ (back h1 h2).1 (back h1 h2).2)
     (fun i r j c h1 h2=>ih (hp r (List.mem_of_getElem? h1) c (List.mem_of_getElem? h2)) (hL i _ j _ (back h1 h2).1 (back h1 h2).2))
    rw [List.length_map]
    exact this
   | qP o sz ho a=>exact absurd (List.map_eq_nil_iff.1 hgr) hr
  | agg cs=>
   have hp:cs.all (zao k)=true:=hp
   rw [List.all_eq_true] at hp
   have h:L E (.agg (cs.map (jt k))) y:=h
   generalize hg:cs.map (jt k)=cs' at h
   cases h with
   | agg _ ys h1 h2 h3=>
    subst hg
    refine .agg cs ys (by simpa using h1) (fun i c y e1 e2=>ih (hp c (List.mem_of_getElem? e1)) (h2 i _ y (by rw [List.getElem?_map,e1];rfl) e2)) h3
  | _=>exact h
theorem zb.zeO {P:Program} {f:FuncId} {H H':ze} {args args':List C} {r:C} (k:Nat) (h:zb P f H args r H') (hp:args.all (zao k)=true) (ha:args'.map (jt k)=args.map (jt k)):zb P f H args' r H':=fun w E vs hh hl=>
 h w E vs hh ⟨by have:=congrArg List.length ha;simp at this;rw [<- this];exact hl.1,fun i c y e1 e2=>by
  have e3:(args'.map (jt k))[i]?= some (jt k c):=by rw [ha,List.getElem?_map,e1];rfl
  rw [List.getElem?_map] at e3
  cases hx:args'[i]? with
  | none=>rw [hx] at e3;cases e3
  | some c'=>
   rw [hx] at e3
   simp only [Option.map_some,Option.some.injEq] at e3
   exact zfZ k (List.all_eq_true.1 hp c (List.mem_of_getElem? e1)) (e3 ▸ zkj k (hl.2 i c' y hx e2))⟩
end Go.Dep
