import Derived.Test.YtgmkpdmnlhoffaaGreatRP
import Derived.Test.YtgmkpdmnlhoffaaGreatRS
import Derived.Test.YtgmkpdmnlhoffaaGreatRC
set_option linter.all false
set_option maxRecDepth 100000
set_option maxHeartbeats 4000000
namespace Go.Beg
open Go.Ab Go.Proofs Go.Hy Go.Pla
abbrev op0:Opn:=⟨0,[],[],[],0,0,0,⟨[],[],[]⟩⟩
abbrev vR:Ans:=⟨0,0,0,0,0,0,0,zbd⟩
abbrev zs0:Mac:=⟨op0,0,0,0,0,0,0,0,0,0,0,0,0,0,0,false,vR,zbd⟩
abbrev Cma (m:Mac):C:=.agg (zD m)
abbrev Can (a:Ans):C:=.agg (j6 a)
abbrev Cop (o:Opn):C:=.agg (y5 o)
abbrev zt3 (m:Mac):List C:=[I m.zj,I m.pc,I m.zn,I m.version,I m.listen,I m.zf,I m.end_,I m.other,I m.slot,U m.word,I m.link,I m.i,I m.k,I m.sum,Bo m.done]++j6 m.answer++zk8 m.counts
abbrev zuk (n:Int):List C:=[I n,Tx [],Tx [],Tx [],I 0,I 0,I 0,.lst 1 0 [],.lst 1 0 [],.lst 1 0 []]
def zcV (t:Int) (a:Ans):Mac:={ zs0 with op:={ op0 with kind:=2 },zj:=t,version:=a.version,zf:=a.zf,end_:=a.end_,slot:=a.slot,listen:=if a.kind=1 then a.listen else -1,pc:=if a.kind=1 then 0 else 9 }
theorem wY (t:Int) (a:Ans):zb Tryz.prog 112 [] [I t,Can a] (.agg (zuk 2++zt3 (zcV t a))) []:=by
 refine zb.zp (fn:=Tryz.f112) Tryz.func112 rfl (uH ?_);unfold zcV;refine ⟨fun h=>?_,fun h=>?_⟩
 ·have h1:a.kind≠1:=by simpa using h
  rw [if_neg h1,if_neg h1];refine dd ?_;exact uI
 ·have h1:a.kind=1:=by simpa using h
  rw [if_pos h1,if_pos h1];refine dd ?_;exact uI
def zcv (o:Opn) (given:List Ans):Ans:=if 0<=o.n∧o.n < (jo given).length then (given[(jo given).getD o.n.toNat 0]?).getD vR else vR
def xY (t:Int) (o:Opn) (given:List Ans):Mac:=if o.kind=2 then { zcV t (zcv o given) with op:=o } else { zs0 with op:=o,zj:=t,listen:= -1 }
theorem zkw {o:Opn} {given:List Ans} (h0:0<=o.n) (h1:o.n < (jo given).length):∃ i a,(jo given)[o.n.toNat]?= some i∧given[i]?= some a∧zcv o given=a:=by
 have hi:(jo given)[o.n.toNat]?= some ((jo given)[o.n.toNat]'(by omega)):=List.getElem?_eq_getElem _;have hlt:=vA given given.length (Nat.le_refl _) _ (List.getElem_mem (l:=jo given) (n:=o.n.toNat) (by omega));refine ⟨_,given[(jo given)[o.n.toNat]'(by omega)],hi,List.getElem?_eq_getElem _,?_⟩;unfold zcv;rw [if_pos ⟨h0,h1⟩,List.getD_eq_getElem?_getD,hi,Option.getD_some,List.getElem?_eq_getElem hlt]
 rfl
theorem zd6 {o:Opn} {given:List Ans} (h:¬(0<=o.n∧o.n < (jo given).length)):zcv o given=vR:=if_neg h
theorem zaI (t:Int) (o:Opn) (given:List Ans) (hlen:given.length < 1000000000000):zb Tryz.prog 57 [] [I t,Cop o,lA given] (Cma (xY t o given)) []:=by
 have m1:((jo given).map fun (n:Nat)=>[I (n:Int)]).length=(jo given).length:=List.length_map ..;have hl:=wM given given.length;have mA:(given.map j6).length=given.length:=List.length_map ..;have eb:o.kind=2->xY t o given={ zcV t (zcv o given) with op:=o }:=fun h=>if_pos h
 have eb2:o.kind≠2->xY t o given={ zs0 with op:=o,zj:=t,listen:= -1 }:=fun h=>if_neg h
 refine zb.zp (fn:=Tryz.f57) Tryz.func57 rfl (uH ?_);refine ⟨fun hk=>?_,fun hk=>?_⟩
 ·have h1:o.kind≠2:=by simpa using hk
  rw [eb2 h1];refine dd ?_;exact uI
 ·have h1:o.kind=2:=by simpa using hk
  rw [eb h1];refine dd ?_;refine ⟨_,_,(zl1 given hlen).frame rfl _,dd ?_⟩;refine ⟨fun h2=>?_,fun h2=>?_⟩
  ·have g0:0<=o.n:=by simpa using h2
   refine dd ?_;have el:((List.map (fun (n:Nat)=>(n:Int)) (jo given)).map Hy.encI).length=(jo given).length:=by simp
   rw [el];refine ⟨fun h3=>?_,fun h3=>?_⟩
   ·have g1:o.n < (jo given).length:=by simpa using h3
    obtain ⟨i,a,q1,q2,q3⟩:=zkw g0 g1;have r1:((List.map (fun (n:Nat)=>(n:Int)) (jo given)).map Hy.encI)[o.n.toNat]?= some (Hy.encI (i:Int)):=by rw [List.getElem?_map,List.getElem?_map,q1];rfl
    have r2:(given.map j6)[i]?= some (j6 a):=by rw [List.getElem?_map,q2];rfl
    rw [q3];refine dd ?_;refine ⟨g0,_,r1,dd ?_⟩;refine ⟨by omega,_,(by rw [toNat_cast];exact r2),dd ?_⟩;refine ⟨_,_,(wY t a).frame rfl _,dd ?_⟩;exact uI
   ·have g1:¬(0<=o.n∧o.n < (jo given).length):=by
     have:¬o.n < (jo given).length:=by simpa using h3
     omega
    rw [zd6 g1];refine dd ?_;refine ⟨_,_,(wY t vR).frame rfl _,dd ?_⟩;exact uI
  ·have g1:¬(0<=o.n∧o.n < (jo given).length):=by
    have:¬0<=o.n:=by simpa using h2
    omega
   rw [zd6 g1];refine dd ?_;(repeat refine uC ?_)
   refine ⟨_,_,(wY t vR).frame rfl _,dd ?_⟩;exact uI
end Go.Beg
namespace Go.Pla
open Go.Ab Go.Proofs Go.Hy
theorem zoq:zb Tryz.prog 113 [] [I 1] (.ifc 229 (.fn 183 [] [])) []:=by
 refine zb.zp (fn:=Tryz.f113) Tryz.func113 rfl (uH ?_);(repeat refine uC ?_);(refine ⟨by decide,_,rfl,dd ?_⟩);exact uI
theorem zor:zb Tryz.prog 113 [] [I 2] (.ifc 229 (.fn 184 [] [])) []:=by
 refine zb.zp (fn:=Tryz.f113) Tryz.func113 rfl (uH ?_);(repeat refine uC ?_);(refine ⟨by decide,_,rfl,dd ?_⟩);exact uI
theorem zos:zb Tryz.prog 113 [] [I 3] (.ifc 229 (.fn 185 [] [])) []:=by
 refine zb.zp (fn:=Tryz.f113) Tryz.func113 rfl (uH ?_);(repeat refine uC ?_);(refine ⟨by decide,_,rfl,dd ?_⟩);exact uI
theorem zot:zb Tryz.prog 113 [] [I 4] (.ifc 229 (.fn 186 [] [])) []:=by
 refine zb.zp (fn:=Tryz.f113) Tryz.func113 rfl (uH ?_);(repeat refine uC ?_);(refine ⟨by decide,_,rfl,dd ?_⟩);exact uI
theorem zou:zb Tryz.prog 113 [] [I 5] (.ifc 229 (.fn 187 [] [])) []:=by
 refine zb.zp (fn:=Tryz.f113) Tryz.func113 rfl (uH ?_);(repeat refine uC ?_);(refine ⟨by decide,_,rfl,dd ?_⟩);exact uI
theorem zov:zb Tryz.prog 113 [] [I 6] (.ifc 229 (.fn 188 [] [])) []:=by
 refine zb.zp (fn:=Tryz.f113) Tryz.func113 rfl (uH ?_);(repeat refine uC ?_);(refine ⟨by decide,_,rfl,dd ?_⟩);exact uI
abbrev Sw (w:Wor):C:=.agg (zJ w)
abbrev Sm (m:Mac):C:=.agg (zD m)
abbrev Se (e:Eve):C:=.agg (zQ e)
abbrev Sr (w:Wor) (m:Mac) (e:Eve):C:=.tup [Sw w,Sm m,Se e]
theorem zmB {w w':Wor} {m m':Mac} {e:Eve} (h:zb Tryz.prog 183 [] [Sw w,Sm m] (Sr w' m' e) []):zb Tryz.prog 354 [] [.fn 183 [] [],Sw w,Sm m] (Sr w' m' e) []:=by
 refine zb.zp (fn:=Tryz.f354) Tryz.func354 rfl (uH ?_);refine ⟨_,_,(h).frame rfl _,dd ?_⟩;exact uI
theorem zkl {w w':Wor} {m m':Mac} {e:Eve} (hk:m.op.kind=1) (h:zb Tryz.prog 183 [] [Sw w,Sm m] (Sr w' m' e) []):zb Tryz.prog 58 [] [Sw w,Sm m] (Sr w' m' e) []:=by
 (have ho:=zoq);(rw [<- hk] at ho);refine zb.zp (fn:=Tryz.f58) Tryz.func58 rfl (uH ?_);refine ⟨_,_,(ho).frame rfl _,dd ?_⟩;(repeat refine uC ?_);(refine ⟨354,by kernel_rfl,rfl,_,_,(zmB h).frame rfl _,dd ?_⟩);exact uI
theorem zmC {w w':Wor} {m m':Mac} {e:Eve} (h:zb Tryz.prog 184 [] [Sw w,Sm m] (Sr w' m' e) []):zb Tryz.prog 354 [] [.fn 184 [] [],Sw w,Sm m] (Sr w' m' e) []:=by
 refine zb.zp (fn:=Tryz.f354) Tryz.func354 rfl (uH ?_);refine ⟨_,_,(h).frame rfl _,dd ?_⟩;exact uI
theorem zkm {w w':Wor} {m m':Mac} {e:Eve} (hk:m.op.kind=2) (h:zb Tryz.prog 184 [] [Sw w,Sm m] (Sr w' m' e) []):zb Tryz.prog 58 [] [Sw w,Sm m] (Sr w' m' e) []:=by
 (have ho:=zor);(rw [<- hk] at ho);refine zb.zp (fn:=Tryz.f58) Tryz.func58 rfl (uH ?_);refine ⟨_,_,(ho).frame rfl _,dd ?_⟩;(repeat refine uC ?_);(refine ⟨354,by kernel_rfl,rfl,_,_,(zmC h).frame rfl _,dd ?_⟩);exact uI
theorem zmD {w w':Wor} {m m':Mac} {e:Eve} (h:zb Tryz.prog 185 [] [Sw w,Sm m] (Sr w' m' e) []):zb Tryz.prog 354 [] [.fn 185 [] [],Sw w,Sm m] (Sr w' m' e) []:=by
 refine zb.zp (fn:=Tryz.f354) Tryz.func354 rfl (uH ?_);refine ⟨_,_,(h).frame rfl _,dd ?_⟩;exact uI
theorem zbe {w w':Wor} {m m':Mac} {e:Eve} (hk:m.op.kind=3) (h:zb Tryz.prog 185 [] [Sw w,Sm m] (Sr w' m' e) []):zb Tryz.prog 58 [] [Sw w,Sm m] (Sr w' m' e) []:=by
 (have ho:=zos);(rw [<- hk] at ho);refine zb.zp (fn:=Tryz.f58) Tryz.func58 rfl (uH ?_);refine ⟨_,_,(ho).frame rfl _,dd ?_⟩;(repeat refine uC ?_);(refine ⟨354,by kernel_rfl,rfl,_,_,(zmD h).frame rfl _,dd ?_⟩);exact uI
theorem zmE {w w':Wor} {m m':Mac} {e:Eve} (h:zb Tryz.prog 186 [] [Sw w,Sm m] (Sr w' m' e) []):zb Tryz.prog 354 [] [.fn 186 [] [],Sw w,Sm m] (Sr w' m' e) []:=by
 refine zb.zp (fn:=Tryz.f354) Tryz.func354 rfl (uH ?_);refine ⟨_,_,(h).frame rfl _,dd ?_⟩;exact uI
theorem zkn {w w':Wor} {m m':Mac} {e:Eve} (hk:m.op.kind=4) (h:zb Tryz.prog 186 [] [Sw w,Sm m] (Sr w' m' e) []):zb Tryz.prog 58 [] [Sw w,Sm m] (Sr w' m' e) []:=by
 (have ho:=zot);(rw [<- hk] at ho);refine zb.zp (fn:=Tryz.f58) Tryz.func58 rfl (uH ?_);refine ⟨_,_,(ho).frame rfl _,dd ?_⟩;(repeat refine uC ?_);(refine ⟨354,by kernel_rfl,rfl,_,_,(zmE h).frame rfl _,dd ?_⟩);exact uI
theorem zmF {w w':Wor} {m m':Mac} {e:Eve} (h:zb Tryz.prog 187 [] [Sw w,Sm m] (Sr w' m' e) []):zb Tryz.prog 354 [] [.fn 187 [] [],Sw w,Sm m] (Sr w' m' e) []:=by
 refine zb.zp (fn:=Tryz.f354) Tryz.func354 rfl (uH ?_);refine ⟨_,_,(h).frame rfl _,dd ?_⟩;exact uI
theorem zko {w w':Wor} {m m':Mac} {e:Eve} (hk:m.op.kind=5) (h:zb Tryz.prog 187 [] [Sw w,Sm m] (Sr w' m' e) []):zb Tryz.prog 58 [] [Sw w,Sm m] (Sr w' m' e) []:=by
 (have ho:=zou);(rw [<- hk] at ho);refine zb.zp (fn:=Tryz.f58) Tryz.func58 rfl (uH ?_);refine ⟨_,_,(ho).frame rfl _,dd ?_⟩;(repeat refine uC ?_);(refine ⟨354,by kernel_rfl,rfl,_,_,(zmF h).frame rfl _,dd ?_⟩);exact uI
theorem zmG {w w':Wor} {m m':Mac} {e:Eve} (h:zb Tryz.prog 188 [] [Sw w,Sm m] (Sr w' m' e) []):zb Tryz.prog 354 [] [.fn 188 [] [],Sw w,Sm m] (Sr w' m' e) []:=by
 refine zb.zp (fn:=Tryz.f354) Tryz.func354 rfl (uH ?_);refine ⟨_,_,(h).frame rfl _,dd ?_⟩;exact uI
theorem zkp {w w':Wor} {m m':Mac} {e:Eve} (hk:m.op.kind=6) (h:zb Tryz.prog 188 [] [Sw w,Sm m] (Sr w' m' e) []):zb Tryz.prog 58 [] [Sw w,Sm m] (Sr w' m' e) []:=by
 (have ho:=zov);(rw [<- hk] at ho);refine zb.zp (fn:=Tryz.f58) Tryz.func58 rfl (uH ?_);refine ⟨_,_,(ho).frame rfl _,dd ?_⟩;(repeat refine uC ?_);(refine ⟨354,by kernel_rfl,rfl,_,_,(zmG h).frame rfl _,dd ?_⟩);exact uI
abbrev znK:Eve:=⟨0,0,0,0,0,false,0,false,false,false,⟨0,0,0,0,0,0,0,zbd⟩⟩
inductive znq:Nat->Wor->Mac->Wor->Mac->Prop
 | last {w w':Wor} {m m':Mac} {e:Eve} (h:zb Tryz.prog 58 [] [Sw w,Sm m] (Sr w' m' e) []) (he:e.access≠0) (hd:m'.done=true):znq 1 w m w' m'
 | more {n:Nat} {w w' w2:Wor} {m m' m2:Mac} {e:Eve} (h:zb Tryz.prog 58 [] [Sw w,Sm m] (Sr w' m' e) []) (he:e.access≠0) (hd:m'.done=false) (hg:znq n w' m' w2 m2):znq (n+1) w m w2 m2
end Go.Pla
namespace Go.Dep
open Go.Ab
def x9:Nat->C->C
 | 0,c=>c
 | k+1,c=>match c with
  | .lst o sz rows=>match rows with
   | []=>.lst (if o=2 then 2 else 0) 0 []
   | r::rs=>.lst (if o=2 then 2 else 0) sz (r.map (x9 k)::rs.map fun r=>r.map (x9 k))
  | .agg cs=>.agg (cs.map (x9 k))
  | c=>c
theorem zhj (k o sz:Nat) (rows:List (List C)) (h:rows≠[]):x9 (k+1) (.lst o sz rows)=.lst (if o=2 then 2 else 0) sz (rows.map fun r=>r.map (x9 k)):=by
 cases rows with
 | nil=>exact absurd rfl h
 | cons r rs=>rfl
theorem zhg {f:C->C} {rows:List (List C)} {i j:Nat} {r:List C} {c:C} (h1:(rows.map fun r=>r.map f)[i]?= some r) (h2:r[j]?= some c):∃ r0 c0,rows[i]?= some r0∧r0[j]?= some c0∧c=f c0:=by
 rw [List.getElem?_map] at h1;cases h3:rows[i]? with
 | none=>rw [h3] at h1;cases h1
 | some r0=>
  rw [h3] at h1;cases h1
  rw [List.getElem?_map] at h2;cases h4:r0[j]? with
  | none=>rw [h4] at h2;cases h2
  | some c0=>rw [h4] at h2;cases h2;exact ⟨r0,c0,rfl,h4,rfl⟩
theorem zrg:∀ (k:Nat) {E:Env} {c:C} {y:Value},L E c y->L E (x9 k c) y:=by
 intro k
 induction k with
 | zero=>intro E c y h;exact h
 | succ k ih=>
  intro E c y h;cases h with
  | lst o sz rows b off cap us ho hc hsz hst hL=>
   have ho2:o≠2:=by rcases ho with h | h <;> omega
   by_cases hr:rows=[]
   ·subst hr;have e:x9 (k+1) (.lst o sz [])=.lst 0 0 []:=by show C.lst (if o=2 then 2 else 0) 0 _=_;rw [if_neg ho2]
    rw [e];exact .lst 0 0 [] b off cap us (.inl rfl) hc (fun r hr=>by cases hr) (fun i r j c h1 h2=>by simp at h1) (fun i r j c h1 h2=>by simp at h1)
   rw [zhj k o sz rows hr,if_neg ho2]
   have:=L.lst (E:=E) 0 sz (rows.map fun r=>r.map (x9 k)) b off cap us (.inl rfl) (by simpa using hc)
    (fun r hr=>by obtain ⟨r0,h1,rfl⟩:=List.mem_map.1 hr;simpa using hsz r0 h1)
    (fun i r j c h1 h2=>by obtain ⟨r0,c0,h3,h4,rfl⟩:=zhg h1 h2;exact hst i r0 j c0 h3 h4)
    (fun i r j c h1 h2=>by obtain ⟨r0,c0,h3,h4,rfl⟩:=zhg h1 h2;exact ih (hL i r0 j c0 h3 h4))
   rw [List.length_map] at this;exact this
  | xd o sz ho a=>
   have ho2:o≠2:=by rcases ho with h | h <;> omega
   have e:x9 (k+1) (.lst o sz [])=.lst 0 0 []:=by show C.lst (if o=2 then 2 else 0) 0 _=_;rw [if_neg ho2]
   rw [e];exact .xd 0 0 (.inl rfl) a
  | agg cs ys h1 h2 h3=>
   have:=LL.ren (f:=x9 k) (E':=E) (cs:=cs) (ys:=ys.toList) ⟨by simpa using h1,fun i c y e1 e2=>h2 i c y e1 uY⟩ (fun c y hl=>ih hl);exact .agg _ ys (by simpa using this.1) (fun i c y e1 e2=>this.2 i c y e1 uY) h3
  | v x hx=>exact .v _ hx
  | jG cells b off us hst hL=>exact .jG cells b off us hst hL
  | ref id hops sz i j hn=>exact .ref id hops sz i j hn
  | sl id hops sz lo len full cap hn hlen hf hf'=>exact .sl id hops sz lo len full cap hn hlen hf hf'
  | fn f first caps ys zs h1 h2 h3 h4=>exact .fn f first caps ys zs h1 h2 h3 h4
  | mp id hn=>exact .mp id hn
  | tup cs ys h1 h2=>exact .tup cs ys h1 h2
  | un=>exact .un
  | za y=>exact .za y
  | gl id sz rows y hn hg h=>exact .gl id sz rows y hn hg h
  | ifc t c y h=>exact .ifc t c y h
def zd2:Nat->C->Bool
 | 0,_=>true
 | k+1,c=>match c with
  | .lst o _ rows=>o == 0 && rows.all fun r=>r.all (zd2 k)
  | .agg cs=>cs.all (zd2 k)
  | _=>true
theorem zk5:∀ (k:Nat) {E:Env} {c:C} {y:Value},zd2 k c=true->L E (x9 k c) y->L E c y:=by
 intro k
 induction k with
 | zero=>intro E c y _ h;exact h
 | succ k ih=>
  intro E c y hp h;cases c with
  | lst o sz rows=>
   simp only [zd2,Bool.and_eq_true,beq_iff_eq,List.all_eq_true] at hp;obtain ⟨rfl,hp⟩:=hp;by_cases hr:rows=[]
   ·subst hr;have h:L E (.lst 0 0 []) y:=h;exact WC.none 0 0 sz E y h
   rw [zhj k 0 sz rows hr,if_neg (by decide)] at h;generalize hgr:(rows.map fun r=>r.map (x9 k))=rows' at h;cases h with
   | lst _ _ _ b off cap us ho hc hsz hst hL=>
    subst hgr
    have back:∀ {i:Nat} {r:List C} {j:Nat} {c:C},rows[i]?= some r->r[j]?= some c->(rows.map fun r=>r.map (x9 k))[i]?= some (r.map (x9 k))∧(r.map (x9 k))[j]?= some (x9 k c):=fun h1 h2=>by
     rw [List.getElem?_map,h1,List.getElem?_map,h2];exact ⟨rfl,rfl⟩
    have:=L.lst (E:=E) 0 sz rows b off cap us (.inl rfl) (by simpa using hc)
     (fun r hr=>by have:=hsz _ (List.mem_map_of_mem (f:=fun r=>r.map (x9 k)) hr);simpa using this)
     (fun i r j c h1 h2=>hst i _ j _ (back h1 h2).1 (back h1 h2).2)
     (fun i r j c h1 h2=>ih (hp r (List.mem_of_getElem? h1) c (List.mem_of_getElem? h2)) (hL i _ j _ (back h1 h2).1 (back h1 h2).2))
    rw [List.length_map];exact this
   | xd o sz ho a=>exact absurd (List.map_eq_nil_iff.1 hgr) hr
  | agg cs=>
   have hp:cs.all (zd2 k)=true:=hp;rw [List.all_eq_true] at hp;have h:L E (.agg (cs.map (x9 k))) y:=h;generalize hg:cs.map (x9 k)=cs' at h;cases h with
   | agg _ ys h1 h2 h3=>
    subst hg;refine .agg cs ys tE (fun i c y e1 e2=>ih (hp c (List.mem_of_getElem? e1)) (h2 i _ y (by rw [List.getElem?_map,e1];rfl) e2)) h3
  | _=>exact h
theorem zb.zjm {P:Program} {f:FuncId} {H H':zk} {args args':List C} {r:C} (k:Nat) (h:zb P f H args r H') (hp:args.all (zd2 k)=true) (ha:args'.map (x9 k)=args.map (x9 k)):zb P f H args' r H':=fun w E vs hh hl=>
 h w E vs hh ⟨by have:=congrArg List.length ha;simp at this;rw [<- this];exact hl.1,fun i c y e1 e2=>by
  have e3:(args'.map (x9 k))[i]?= some (x9 k c):=by rw [ha,List.getElem?_map,e1];rfl
  rw [List.getElem?_map] at e3;cases hx:args'[i]? with
  | none=>rw [hx] at e3;cases e3
  | some c'=>
   rw [hx] at e3;simp only [Option.map_some,Option.some.injEq] at e3;exact zk5 k (List.all_eq_true.1 hp c (List.mem_of_getElem? e1)) (e3 ▸ zrg k (hl.2 i c' y hx e2))⟩
end Go.Dep
