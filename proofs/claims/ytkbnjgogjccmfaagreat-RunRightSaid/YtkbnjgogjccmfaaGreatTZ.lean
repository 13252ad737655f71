import Derived.Test.YtkbnjgogjccmfaaGreatTP
import Derived.Test.YtkbnjgogjccmfaaGreatTS
import Derived.Test.YtkbnjgogjccmfaaGreatTC
set_option linter.all false
set_option maxRecDepth 100000
set_option maxHeartbeats 4000000
namespace Go.Beg
open Go.Ab Go.Proofs Tryz Go.Hy Go.Pla
abbrev HS:eD:=⟨0,[],[],[],0,0,0,⟨[],[],[]⟩⟩
abbrev ko:ef:=⟨0,0,0,0,0,0,0,fY⟩
abbrev Ho:uw:=⟨HS,0,0,0,0,0,0,0,0,0,0,0,0,0,0,false,ko,fY⟩
abbrev MG (m:uw):C:=.agg (zD m)
abbrev Can (a:ef):C:=.agg (xz a)
abbrev MH (o:eD):C:=.agg (vb o)
abbrev Wh (m:uw):List C:=[I m.zf,I m.pc,I m.zn,I m.version,I m.listen,I m.zi,I m.end_,I m.other,I m.slot,U m.word,I m.link,I m.i,I m.k,I m.sum,Bo m.done]++xz m.answer++Ar m.counts
abbrev WS (n:Int):List C:=[I n,Tx [],Tx [],Tx [],I 0,I 0,I 0,.uv 1 0 [],.uv 1 0 [],.uv 1 0 []]
def wL (t:Int) (a:ef):uw:={ Ho with op:={ HS with kind:=2 },zf:=t,version:=a.version,zi:=a.zi,end_:=a.end_,slot:=a.slot,listen:=if a.kind=1 then a.listen else -1,pc:=if a.kind=1 then 0 else 9 }
def EL (t:Int) (a:ef):tn 71 [] [I t,Can a] (.agg (WS 2++Wh (wL t a))) []:=by
 refine ab func71 ?_;unfold wL;refine ⟨fun h=>?_,fun h=>?_⟩
 ·have h1:a.kind≠1:=by simpa using h
  rw [dN h1,dN h1];exact df
 ·have h1:a.kind=1:=by simpa using h
  rw [dQ h1,dQ h1];exact df
def Ak (o:eD) (given:List ef):ef:=if 0<=o.n∧o.n < (jB given).length then (given[(jB given).getD o.n.toNat 0]?).getD ko else ko
def xb (t:Int) (o:eD) (given:List ef):uw:=if o.kind=2 then { wL t (Ak o given) with op:=o } else { Ho with op:=o,zf:=t,listen:= -1 }
def K1 {o:eD} {given:List ef} (h0:0<=o.n) (h1:o.n < (jB given).length):∃ i a,(jB given)[o.n.toNat]?= some i∧given[i]?= some a∧Ak o given=a:=by
 have hi:(jB given)[o.n.toNat]?= some ((jB given)[o.n.toNat]'aw):=dM _;have ux:=kb given given.length (dW _) _ (gQ (l:=jB given) (n:=o.n.toNat) aw);refine ⟨_,given[(jB given)[o.n.toNat]'aw],hi,dM _,?_⟩;unfold Ak;rw [dQ ⟨h0,h1⟩,uc,hi,gY,dM ux]
 rfl
def Fs {o:eD} {given:List ef} (h:¬(0<=o.n∧o.n < (jB given).length)):Ak o given=ko:=dN h
def ET (t:Int) (o:eD) (given:List ef) (hlen:given.length < 1000000000000):tn 46 [] [I t,MH o,lA given] (MG (xb t o given)) []:=by
 have m1:((jB given).map fun (n:Nat)=>[I (n:Int)]).length=(jB given).length:=dR ..;have hl:=BG given given.length;have mA:(given.map xz).length=given.length:=dR ..;have eb:o.kind=2->xb t o given={ wL t (Ak o given) with op:=o }:=fun h=>dQ h
 have eb2:o.kind≠2->xb t o given={ Ho with op:=o,zf:=t,listen:= -1 }:=fun h=>dN h
 refine ab func46 ?_;refine ⟨fun hk=>?_,fun hk=>?_⟩
 ·have h1:o.kind≠2:=by simpa using hk
  rw [eb2 h1];exact df
 ·have h1:o.kind=2:=by simpa using hk
  rw [eb h1];refine dd ?_;refine ah (Q0 given hlen) ?_;refine ⟨fun h2=>?_,fun h2=>?_⟩
  ·have g0:0<=o.n:=by simpa using h2
   refine dd ?_;have el:((List.map (fun (n:Nat)=>(n:Int)) (jB given)).map Hy.encI).length=(jB given).length:=aj
   rw [el];refine ⟨fun h3=>?_,fun h3=>?_⟩
   ·have g1:o.n < (jB given).length:=by simpa using h3
    obtain ⟨i,a,q1,q2,q3⟩:=K1 g0 g1;have r1:((List.map (fun (n:Nat)=>(n:Int)) (jB given)).map Hy.encI)[o.n.toNat]?= some (Hy.encI (i:Int)):=by rw [dP,dP,q1];rfl
    have r2:(given.map xz)[i]?= some (xz a):=by rw [dP,q2];rfl
    rw [q3];refine dd ?_;refine ⟨g0,_,r1,dd ?_⟩;refine ⟨aw,_,(by rw [toNat_cast];exact r2),dd ?_⟩;refine ah (EL t a) ?_;exact uI
   ·have g1:¬(0<=o.n∧o.n < (jB given).length):=by
     have:¬o.n < (jB given).length:=aq h3
     omega
    rw [Fs g1];refine dd ?_;refine ah (EL t ko) ?_;exact uI
  ·have g1:¬(0<=o.n∧o.n < (jB given).length):=by
    have:¬0<=o.n:=aq h2
    omega
   rw [Fs g1];refine dd ?_;refine tc ?_
   refine ah (EL t ko) ?_;exact uI
end Go.Beg
namespace Go.Pla
open Go.Ab Go.Proofs Tryz Go.Hy
def RT:tn 72 [] [I 1] (.eZ 197 (.fn 96 [] [])) []:=by
 refine ab func72 ?_;refine tc ?_;(refine ⟨ar,_,rfl,dd ?_⟩);exact uI
def RU:tn 72 [] [I 2] (.eZ 197 (.fn 97 [] [])) []:=by
 refine ab func72 ?_;refine tc ?_;(refine ⟨ar,_,rfl,dd ?_⟩);exact uI
def RV:tn 72 [] [I 3] (.eZ 197 (.fn 98 [] [])) []:=by
 refine ab func72 ?_;refine tc ?_;(refine ⟨ar,_,rfl,dd ?_⟩);exact uI
def RW:tn 72 [] [I 4] (.eZ 197 (.fn 99 [] [])) []:=by
 refine ab func72 ?_;refine tc ?_;(refine ⟨ar,_,rfl,dd ?_⟩);exact uI
def RX:tn 72 [] [I 5] (.eZ 197 (.fn 100 [] [])) []:=by
 refine ab func72 ?_;refine tc ?_;(refine ⟨ar,_,rfl,dd ?_⟩);exact uI
def RY:tn 72 [] [I 6] (.eZ 197 (.fn 101 [] [])) []:=by
 refine ab func72 ?_;refine tc ?_;(refine ⟨ar,_,rfl,dd ?_⟩);exact uI
abbrev Sw (w:Wor):C:=.agg (zJ w)
abbrev Sm (m:uw):C:=.agg (zD m)
abbrev Se (e:uz):C:=.agg (zR e)
abbrev Sr (w:Wor) (m:uw) (e:uz):C:=.u1 [Sw w,Sm m,Se e]
def Qk {w w':Wor} {m m':uw} {e:uz} (h:tn 96 [] [Sw w,Sm m] (Sr w' m' e) []):tn 229 [] [.fn 96 [] [],Sw w,Sm m] (Sr w' m' e) []:=by
 exact dh
def OZ {w w':Wor} {m m':uw} {e:uz} (hk:m.op.kind=1) (h:tn 96 [] [Sw w,Sm m] (Sr w' m' e) []):tn 47 [] [Sw w,Sm m] (Sr w' m' e) []:=by
 (have ho:=RT);(rw [<- hk] at ho);refine ab func47 ?_;refine ah ho ?_;refine tc ?_;(refine ⟨229,au,rfl,_,_,(Qk h).frame rfl _,dd ?_⟩);exact uI
def Ql {w w':Wor} {m m':uw} {e:uz} (h:tn 97 [] [Sw w,Sm m] (Sr w' m' e) []):tn 229 [] [.fn 97 [] [],Sw w,Sm m] (Sr w' m' e) []:=by
 exact dh
def O3 {w w':Wor} {m m':uw} {e:uz} (hk:m.op.kind=2) (h:tn 97 [] [Sw w,Sm m] (Sr w' m' e) []):tn 47 [] [Sw w,Sm m] (Sr w' m' e) []:=by
 (have ho:=RU);(rw [<- hk] at ho);refine ab func47 ?_;refine ah ho ?_;refine tc ?_;(refine ⟨229,au,rfl,_,_,(Ql h).frame rfl _,dd ?_⟩);exact uI
def Qm {w w':Wor} {m m':uw} {e:uz} (h:tn 98 [] [Sw w,Sm m] (Sr w' m' e) []):tn 229 [] [.fn 98 [] [],Sw w,Sm m] (Sr w' m' e) []:=by
 exact dh
def EN {w w':Wor} {m m':uw} {e:uz} (hk:m.op.kind=3) (h:tn 98 [] [Sw w,Sm m] (Sr w' m' e) []):tn 47 [] [Sw w,Sm m] (Sr w' m' e) []:=by
 (have ho:=RV);(rw [<- hk] at ho);refine ab func47 ?_;refine ah ho ?_;refine tc ?_;(refine ⟨229,au,rfl,_,_,(Qm h).frame rfl _,dd ?_⟩);exact uI
def Qn {w w':Wor} {m m':uw} {e:uz} (h:tn 99 [] [Sw w,Sm m] (Sr w' m' e) []):tn 229 [] [.fn 99 [] [],Sw w,Sm m] (Sr w' m' e) []:=by
 exact dh
def O4 {w w':Wor} {m m':uw} {e:uz} (hk:m.op.kind=4) (h:tn 99 [] [Sw w,Sm m] (Sr w' m' e) []):tn 47 [] [Sw w,Sm m] (Sr w' m' e) []:=by
 (have ho:=RW);(rw [<- hk] at ho);refine ab func47 ?_;refine ah ho ?_;refine tc ?_;(refine ⟨229,au,rfl,_,_,(Qn h).frame rfl _,dd ?_⟩);exact uI
def Qo {w w':Wor} {m m':uw} {e:uz} (h:tn 100 [] [Sw w,Sm m] (Sr w' m' e) []):tn 229 [] [.fn 100 [] [],Sw w,Sm m] (Sr w' m' e) []:=by
 exact dh
def O5 {w w':Wor} {m m':uw} {e:uz} (hk:m.op.kind=5) (h:tn 100 [] [Sw w,Sm m] (Sr w' m' e) []):tn 47 [] [Sw w,Sm m] (Sr w' m' e) []:=by
 (have ho:=RX);(rw [<- hk] at ho);refine ab func47 ?_;refine ah ho ?_;refine tc ?_;(refine ⟨229,au,rfl,_,_,(Qo h).frame rfl _,dd ?_⟩);exact uI
def Rq {w w':Wor} {m m':uw} {e:uz} (h:tn 101 [] [Sw w,Sm m] (Sr w' m' e) []):tn 229 [] [.fn 101 [] [],Sw w,Sm m] (Sr w' m' e) []:=by
 exact dh
def O6 {w w':Wor} {m m':uw} {e:uz} (hk:m.op.kind=6) (h:tn 101 [] [Sw w,Sm m] (Sr w' m' e) []):tn 47 [] [Sw w,Sm m] (Sr w' m' e) []:=by
 (have ho:=RY);(rw [<- hk] at ho);refine ab func47 ?_;refine ah ho ?_;refine tc ?_;(refine ⟨229,au,rfl,_,_,(Rq h).frame rfl _,dd ?_⟩);exact uI
abbrev Br:uz:=⟨0,0,0,0,0,false,0,false,false,false,⟨0,0,0,0,0,0,0,fY⟩⟩
inductive ot:Nat->Wor->uw->Wor->uw->Prop
 | last {w w':Wor} {m m':uw} {e:uz} (h:tn 47 [] [Sw w,Sm m] (Sr w' m' e) []) (he:e.access≠0) (hd:m'.done=true):ot 1 w m w' m'
 | more {n:Nat} {w w' w2:Wor} {m m' m2:uw} {e:uz} (h:tn 47 [] [Sw w,Sm m] (Sr w' m' e) []) (he:e.access≠0) (hd:m'.done=false) (hg:ot n w' m' w2 m2):ot (n+1) w m w2 m2
end Go.Pla
namespace Go.Dep
open Go.Ab
def yv:Nat->C->C
 | 0,c=>c
 | k+1,c=>match c with
  | .uv o sz rows=>match rows with
   | []=>.uv (if o=2 then 2 else 0) 0 []
   | r::rs=>.uv (if o=2 then 2 else 0) sz (r.map (yv k)::rs.map fun r=>r.map (yv k))
  | .agg cs=>.agg (cs.map (yv k))
  | c=>c
def Kg (k o sz:Nat) (rows:List (List C)) (h:rows≠[]):yv (k+1) (.uv o sz rows)=.uv (if o=2 then 2 else 0) sz (rows.map fun r=>r.map (yv k)):=by
 cases rows with
 | nil=>exact absurd rfl h
 | cons r rs=>rfl
def Kd {f:C->C} {rows:List (List C)} {i j:Nat} {r:List C} {c:C} (h1:(rows.map fun r=>r.map f)[i]?= some r) (h2:r[j]?= some c):∃ r0 c0,rows[i]?= some r0∧r0[j]?= some c0∧c=f c0:=by
 rw [dP] at h1;cases h3:rows[i]? with
 | none=>rw [h3] at h1;cases h1
 | some r0=>
  rw [h3] at h1;cases h1
  rw [dP] at h2;cases h4:r0[j]? with
  | none=>rw [h4] at h2;cases h2
  | some c0=>rw [h4] at h2;cases h2;exact ⟨r0,c0,rfl,h4,rfl⟩
def Ug:∀ (k:Nat) {E:Env} {c:C} {y:Value},L E c y->L E (yv k c) y:=by
 intro k
 induction k with
 | zero=>intro E c y h;exact h
 | succ k ih=>
  intro E c y h;cases h with
  | uv o sz rows b off cap us ho hc hsz hst hL=>
   have ho2:o≠2:=by rcases ho with h | h <;> omega
   by_cases hr:rows=[]
   ·subst hr;have e:yv (k+1) (.uv o sz [])=.uv 0 0 []:=by show C.uv (if o=2 then 2 else 0) 0 _=_;rw [dN ho2]
    rw [e];exact .uv 0 0 [] b off cap us (.inl rfl) hc (fun r hr=>by cases hr) (fun i r j c h1 h2=>by simp at h1) (fun i r j c h1 h2=>by simp at h1)
   rw [Kg k o sz rows hr,dN ho2]
   have:=L.uv (E:=E) 0 sz (rows.map fun r=>r.map (yv k)) b off cap us (.inl rfl) (aq hc)
    (fun r hr=>by obtain ⟨r0,h1,rfl⟩:=gG.1 hr;simpa using hsz r0 h1)
    (fun i r j c h1 h2=>by obtain ⟨r0,c0,h3,h4,rfl⟩:=Kd h1 h2;exact hst i r0 j c0 h3 h4)
    (fun i r j c h1 h2=>by obtain ⟨r0,c0,h3,h4,rfl⟩:=Kd h1 h2;exact ih (hL i r0 j c0 h3 h4))
   rw [dR] at this;exact dy
  | xt o sz ho a=>
   have ho2:o≠2:=by rcases ho with h | h <;> omega
   have e:yv (k+1) (.uv o sz [])=.uv 0 0 []:=by show C.uv (if o=2 then 2 else 0) 0 _=_;rw [dN ho2]
   rw [e];exact .xt 0 0 (.inl rfl) a
  | agg cs ys h1 h2 h3=>
   have:=LL.u5 (f:=yv k) (E':=E) (cs:=cs) (ys:=ys.toList) ⟨aq h1,fun i c y e1 e2=>h2 i c y e1 uY⟩ (fun c y hl=>ih hl);exact dg
  | v x hx=>exact .v _ hx
  | jN cells b off us hst hL=>exact .jN cells b off us hst hL
  | ref id hops sz i j hn=>exact .ref id hops sz i j hn
  | sl id hops sz lo len full cap hn hlen hf hf'=>exact .sl id hops sz lo len full cap hn hlen hf hf'
  | fn f first caps ys zs h1 h2 h3 h4=>exact .fn f first caps ys zs h1 h2 h3 h4
  | mp id hn=>exact .mp id hn
  | u1 cs ys h1 h2=>exact .u1 cs ys h1 h2
  | un=>exact .un
  | za y=>exact .za y
  | gl id sz rows y hn hg h=>exact .gl id sz rows y hn hg h
  | eZ t c y h=>exact .eZ t c y h
def AU:Nat->C->Bool
 | 0,_=>true
 | k+1,c=>match c with
  | .uv o _ rows=>o == 0 && rows.all fun r=>r.all (AU k)
  | .agg cs=>cs.all (AU k)
  | _=>true
def Qd:∀ (k:Nat) {E:Env} {c:C} {y:Value},AU k c=true->L E (yv k c) y->L E c y:=by
 intro k
 induction k with
 | zero=>intro E c y _ h;exact h
 | succ k ih=>
  intro E c y hp h;cases c with
  | uv o sz rows=>
   simp only [AU,dU,gT,dV] at hp;obtain ⟨rfl,hp⟩:=hp;by_cases hr:rows=[]
   ·subst hr;have h:L E (.uv 0 0 []) y:=h;exact WC.none 0 0 sz E y h
   rw [Kg k 0 sz rows hr,dN ar] at h;generalize hgr:(rows.map fun r=>r.map (yv k))=rows' at h;cases h with
   | uv _ _ _ b off cap us ho hc hsz hst hL=>
    subst hgr
    have back:∀ {i:Nat} {r:List C} {j:Nat} {c:C},rows[i]?= some r->r[j]?= some c->(rows.map fun r=>r.map (yv k))[i]?= some (r.map (yv k))∧(r.map (yv k))[j]?= some (yv k c):=fun h1 h2=>by
     rw [dP,h1,dP,h2];exact ⟨rfl,rfl⟩
    have:=L.uv (E:=E) 0 sz rows b off cap us (.inl rfl) (aq hc)
     (fun r hr=>by have:=hsz _ (List.mem_map_of_mem (f:=fun r=>r.map (yv k)) hr);simpa using this)
     (fun i r j c h1 h2=>hst i _ j _ (back h1 h2).1 (back h1 h2).2)
     (fun i r j c h1 h2=>ih (hp r (dO h1) c (dO h2)) (hL i _ j _ (back h1 h2).1 (back h1 h2).2))
    rw [dR];exact dy
   | xt o sz ho a=>exact absurd (List.map_eq_nil_iff.1 hgr) hr
  | agg cs=>
   have hp:cs.all (AU k)=true:=hp;rw [dV] at hp;have h:L E (.agg (cs.map (yv k))) y:=h;generalize hg:cs.map (yv k)=cs' at h;cases h with
   | agg _ ys h1 h2 h3=>
    subst hg;refine .agg cs ys tG (fun i c y e1 e2=>ih (hp c (dO e1)) (h2 i _ y (by rw [dP,e1];rfl) e2)) h3
  | _=>exact h
def zb.Cy {P:Program} {f:FuncId} {H H':zl} {args args':List C} {r:C} (k:Nat) (h:zb P f H args r H') (hp:args.all (AU k)=true) (ha:args'.map (yv k)=args.map (yv k)):zb P f H args' r H':=fun w E vs hh hl=>
 h w E vs hh ⟨by have:=pW List.length ha;simp at this;rw [<- this];exact hl.1,fun i c y e1 e2=>by
  have e3:(args'.map (yv k))[i]?= some (yv k c):=by rw [ha,dP,e1];rfl
  rw [dP] at e3;cases hx:args'[i]? with
  | none=>rw [hx] at e3;cases e3
  | some c'=>
   rw [hx] at e3;simp only [dX,gu] at e3;exact Qd k (dV.1 hp c (dO e1)) (e3 ▸ Ug k (hl.2 i c' y hx e2))⟩
end Go.Dep
