import Derived.Test.YtkbnjgogjccmfaaGreatSP
import Derived.Test.YtkbnjgogjccmfaaGreatSS
import Derived.Test.YtkbnjgogjccmfaaGreatSC
set_option linter.all false
set_option maxRecDepth 100000
set_option maxHeartbeats 4000000
namespace Go.Beg
open Go.Ab Go.Proofs Tryz Go.Hy Go.Pla
abbrev Ie:eK:=⟨0,[],[],[],0,0,0,⟨[],[],[]⟩⟩
abbrev ky:eC:=⟨0,0,0,0,0,0,0,iu⟩
abbrev HH:u3:=⟨Ie,0,0,0,0,0,0,0,0,0,0,0,0,0,0,false,ky,iu⟩
abbrev M8 (m:u3):C:=.agg (zD m)
abbrev Can (a:eC):C:=.agg (xB a)
abbrev M9 (o:eK):C:=.agg (vt o)
abbrev Xd (m:u3):List C:=[I m.zg,I m.pc,I m.zn,I m.version,I m.listen,I m.zi,I m.end_,I m.other,I m.slot,U m.word,I m.link,I m.i,I m.k,I m.sum,Bo m.done]++xB m.answer++AA m.counts
abbrev W3 (n:Int):List C:=[I n,Tx [],Tx [],Tx [],I 0,I 0,I 0,.u1 1 0 [],.u1 1 0 [],.u1 1 0 []]
def kK (t:Int) (a:eC):u3:={ HH with op:={ Ie with kind:=2 },zg:=t,version:=a.version,zi:=a.zi,end_:=a.end_,slot:=a.slot,listen:=if a.kind=1 then a.listen else -1,pc:=if a.kind=1 then 0 else 9 }
def EY (t:Int) (a:eC):to 71 [] [I t,Can a] (.agg (W3 2++Xd (kK t a))) []:=by
 refine ab func71 ?_;unfold kK;refine ⟨fun h=>?_,fun h=>?_⟩
 ·have h1:a.kind≠1:=by simpa using h
  rw [dR h1,dR h1];exact di
 ·have h1:a.kind=1:=by simpa using h
  rw [dU h1,dU h1];exact di
def At (o:eK) (given:List eC):eC:=if 0<=o.n∧o.n < (jG given).length then (given[(jG given).getD o.n.toNat 0]?).getD ky else ky
def j7 (t:Int) (o:eK) (given:List eC):u3:=if o.kind=2 then { kK t (At o given) with op:=o } else { HH with op:=o,zg:=t,listen:= -1 }
def La {o:eK} {given:List eC} (h0:0<=o.n) (h1:o.n < (jG given).length):∃ i a,(jG given)[o.n.toNat]?= some i∧given[i]?= some a∧At o given=a:=by
 have hi:(jG given)[o.n.toNat]?= some ((jG given)[o.n.toNat]'aw):=dQ _;have u4:=km given given.length (gf _) _ (gS (l:=jG given) (n:=o.n.toNat) aw);refine ⟨_,given[(jG given)[o.n.toNat]'aw],hi,dQ _,?_⟩;unfold At;rw [dU ⟨h0,h1⟩,ui,hi,pj,dQ u4]
 rfl
def FA {o:eK} {given:List eC} (h:¬(0<=o.n∧o.n < (jG given).length)):At o given=ky:=dR h
def Fb (t:Int) (o:eK) (given:List eC) (hlen:given.length < 1000000000000):to 46 [] [I t,M9 o,lA given] (M8 (j7 t o given)) []:=by
 have m1:((jG given).map fun (n:Nat)=>[I (n:Int)]).length=(jG given).length:=dV ..;have hl:=BQ given given.length;have mA:(given.map xB).length=given.length:=dV ..;have eb:o.kind=2->j7 t o given={ kK t (At o given) with op:=o }:=fun h=>dU h
 have eb2:o.kind≠2->j7 t o given={ HH with op:=o,zg:=t,listen:= -1 }:=fun h=>dR h
 refine ab func46 ?_;refine ⟨fun hk=>?_,fun hk=>?_⟩
 ·have h1:o.kind≠2:=by simpa using hk
  rw [eb2 h1];exact di
 ·have h1:o.kind=2:=by simpa using hk
  rw [eb h1];refine dd ?_;refine ah (QG given hlen) ?_;refine ⟨fun h2=>?_,fun h2=>?_⟩
  ·have g0:0<=o.n:=by simpa using h2
   refine dd ?_;have el:((List.map (fun (n:Nat)=>(n:Int)) (jG given)).map Hy.encI).length=(jG given).length:=aj
   rw [el];refine ⟨fun h3=>?_,fun h3=>?_⟩
   ·have g1:o.n < (jG given).length:=by simpa using h3
    obtain ⟨i,a,q1,q2,q3⟩:=La g0 g1;have r1:((List.map (fun (n:Nat)=>(n:Int)) (jG given)).map Hy.encI)[o.n.toNat]?= some (Hy.encI (i:Int)):=by rw [dT,dT,q1];rfl
    have r2:(given.map xB)[i]?= some (xB a):=by rw [dT,q2];rfl
    rw [q3];refine dd ?_;refine ⟨g0,_,r1,dd ?_⟩;refine ⟨aw,_,(by rw [toNat_cast];exact r2),dd ?_⟩;refine ah (EY t a) ?_;exact uI
   ·have g1:¬(0<=o.n∧o.n < (jG given).length):=by
     have:¬o.n < (jG given).length:=aq h3
     omega
    rw [FA g1];refine dd ?_;refine ah (EY t ky) ?_;exact uI
  ·have g1:¬(0<=o.n∧o.n < (jG given).length):=by
    have:¬0<=o.n:=aq h2
    omega
   rw [FA g1];refine dd ?_;refine td ?_
   refine ah (EY t ky) ?_;exact uI
end Go.Beg
namespace Go.Pla
open Go.Ab Go.Proofs Tryz Go.Hy
def RF:to 72 [] [I 1] (.fh 197 (.fn 96 [] [])) []:=by
 refine ab func72 ?_;refine td ?_;(refine ⟨ar,_,rfl,dd ?_⟩);exact uI
def RG:to 72 [] [I 2] (.fh 197 (.fn 97 [] [])) []:=by
 refine ab func72 ?_;refine td ?_;(refine ⟨ar,_,rfl,dd ?_⟩);exact uI
def RH:to 72 [] [I 3] (.fh 197 (.fn 98 [] [])) []:=by
 refine ab func72 ?_;refine td ?_;(refine ⟨ar,_,rfl,dd ?_⟩);exact uI
def RI:to 72 [] [I 4] (.fh 197 (.fn 99 [] [])) []:=by
 refine ab func72 ?_;refine td ?_;(refine ⟨ar,_,rfl,dd ?_⟩);exact uI
def RJ:to 72 [] [I 5] (.fh 197 (.fn 100 [] [])) []:=by
 refine ab func72 ?_;refine td ?_;(refine ⟨ar,_,rfl,dd ?_⟩);exact uI
def RL:to 72 [] [I 6] (.fh 197 (.fn 101 [] [])) []:=by
 refine ab func72 ?_;refine td ?_;(refine ⟨ar,_,rfl,dd ?_⟩);exact uI
abbrev Sw (w:Wor):C:=.agg (zJ w)
abbrev Sm (m:u3):C:=.agg (zD m)
abbrev Se (e:u6):C:=.agg (zP e)
abbrev Sr (w:Wor) (m:u3) (e:u6):C:=.u7 [Sw w,Sm m,Se e]
def Ru {w w':Wor} {m m':u3} {e:u6} (h:to 96 [] [Sw w,Sm m] (Sr w' m' e) []):to 229 [] [.fn 96 [] [],Sw w,Sm m] (Sr w' m' e) []:=by
 exact dk
def Pv {w w':Wor} {m m':u3} {e:u6} (hk:m.op.kind=1) (h:to 96 [] [Sw w,Sm m] (Sr w' m' e) []):to 47 [] [Sw w,Sm m] (Sr w' m' e) []:=by
 (have ho:=RF);(rw [<- hk] at ho);refine ab func47 ?_;refine ah ho ?_;refine td ?_;(refine ⟨229,au,rfl,_,_,(Ru h).frame rfl _,dd ?_⟩);exact uI
def Rv {w w':Wor} {m m':u3} {e:u6} (h:to 97 [] [Sw w,Sm m] (Sr w' m' e) []):to 229 [] [.fn 97 [] [],Sw w,Sm m] (Sr w' m' e) []:=by
 exact dk
def Pw {w w':Wor} {m m':u3} {e:u6} (hk:m.op.kind=2) (h:to 97 [] [Sw w,Sm m] (Sr w' m' e) []):to 47 [] [Sw w,Sm m] (Sr w' m' e) []:=by
 (have ho:=RG);(rw [<- hk] at ho);refine ab func47 ?_;refine ah ho ?_;refine td ?_;(refine ⟨229,au,rfl,_,_,(Rv h).frame rfl _,dd ?_⟩);exact uI
def Rw {w w':Wor} {m m':u3} {e:u6} (h:to 98 [] [Sw w,Sm m] (Sr w' m' e) []):to 229 [] [.fn 98 [] [],Sw w,Sm m] (Sr w' m' e) []:=by
 exact dk
def E4 {w w':Wor} {m m':u3} {e:u6} (hk:m.op.kind=3) (h:to 98 [] [Sw w,Sm m] (Sr w' m' e) []):to 47 [] [Sw w,Sm m] (Sr w' m' e) []:=by
 (have ho:=RH);(rw [<- hk] at ho);refine ab func47 ?_;refine ah ho ?_;refine td ?_;(refine ⟨229,au,rfl,_,_,(Rw h).frame rfl _,dd ?_⟩);exact uI
def Rx {w w':Wor} {m m':u3} {e:u6} (h:to 99 [] [Sw w,Sm m] (Sr w' m' e) []):to 229 [] [.fn 99 [] [],Sw w,Sm m] (Sr w' m' e) []:=by
 exact dk
def Px {w w':Wor} {m m':u3} {e:u6} (hk:m.op.kind=4) (h:to 99 [] [Sw w,Sm m] (Sr w' m' e) []):to 47 [] [Sw w,Sm m] (Sr w' m' e) []:=by
 (have ho:=RI);(rw [<- hk] at ho);refine ab func47 ?_;refine ah ho ?_;refine td ?_;(refine ⟨229,au,rfl,_,_,(Rx h).frame rfl _,dd ?_⟩);exact uI
def Ry {w w':Wor} {m m':u3} {e:u6} (h:to 100 [] [Sw w,Sm m] (Sr w' m' e) []):to 229 [] [.fn 100 [] [],Sw w,Sm m] (Sr w' m' e) []:=by
 exact dk
def Py {w w':Wor} {m m':u3} {e:u6} (hk:m.op.kind=5) (h:to 100 [] [Sw w,Sm m] (Sr w' m' e) []):to 47 [] [Sw w,Sm m] (Sr w' m' e) []:=by
 (have ho:=RJ);(rw [<- hk] at ho);refine ab func47 ?_;refine ah ho ?_;refine td ?_;(refine ⟨229,au,rfl,_,_,(Ry h).frame rfl _,dd ?_⟩);exact uI
def Rz {w w':Wor} {m m':u3} {e:u6} (h:to 101 [] [Sw w,Sm m] (Sr w' m' e) []):to 229 [] [.fn 101 [] [],Sw w,Sm m] (Sr w' m' e) []:=by
 exact dk
def Pz {w w':Wor} {m m':u3} {e:u6} (hk:m.op.kind=6) (h:to 101 [] [Sw w,Sm m] (Sr w' m' e) []):to 47 [] [Sw w,Sm m] (Sr w' m' e) []:=by
 (have ho:=RL);(rw [<- hk] at ho);refine ab func47 ?_;refine ah ho ?_;refine td ?_;(refine ⟨229,au,rfl,_,_,(Rz h).frame rfl _,dd ?_⟩);exact uI
abbrev BC:u6:=⟨0,0,0,0,0,false,0,false,false,false,⟨0,0,0,0,0,0,0,iu⟩⟩
inductive oF:Nat->Wor->u3->Wor->u3->Prop
 | last {w w':Wor} {m m':u3} {e:u6} (h:to 47 [] [Sw w,Sm m] (Sr w' m' e) []) (he:e.access≠0) (hd:m'.done=true):oF 1 w m w' m'
 | more {n:Nat} {w w' w2:Wor} {m m' m2:u3} {e:u6} (h:to 47 [] [Sw w,Sm m] (Sr w' m' e) []) (he:e.access≠0) (hd:m'.done=false) (hg:oF n w' m' w2 m2):oF (n+1) w m w2 m2
end Go.Pla
namespace Go.Dep
open Go.Ab
def yB:Nat->C->C
 | 0,c=>c
 | k+1,c=>match c with
  | .u1 o sz rows=>match rows with
   | []=>.u1 (if o=2 then 2 else 0) 0 []
   | r::rs=>.u1 (if o=2 then 2 else 0) sz (r.map (yB k)::rs.map fun r=>r.map (yB k))
  | .agg cs=>.agg (cs.map (yB k))
  | c=>c
def KG (k o sz:Nat) (rows:List (List C)) (h:rows≠[]):yB (k+1) (.u1 o sz rows)=.u1 (if o=2 then 2 else 0) sz (rows.map fun r=>r.map (yB k)):=by
 cases rows with
 | nil=>exact absurd rfl h
 | cons r rs=>rfl
def KC {f:C->C} {rows:List (List C)} {i j:Nat} {r:List C} {c:C} (h1:(rows.map fun r=>r.map f)[i]?= some r) (h2:r[j]?= some c):∃ r0 c0,rows[i]?= some r0∧r0[j]?= some c0∧c=f c0:=by
 rw [dT] at h1;cases h3:rows[i]? with
 | none=>rw [h3] at h1;cases h1
 | some r0=>
  rw [h3] at h1;cases h1
  rw [dT] at h2;cases h4:r0[j]? with
  | none=>rw [h4] at h2;cases h2
  | some c0=>rw [h4] at h2;cases h2;exact ⟨r0,c0,rfl,h4,rfl⟩
def Vm:∀ (k:Nat) {E:Env} {c:C} {y:Value},L E c y->L E (yB k c) y:=by
 intro k
 induction k with
 | zero=>intro E c y h;exact h
 | succ k ih=>
  intro E c y h;cases h with
  | u1 o sz rows b off cap us ho hc hsz hst hL=>
   have ho2:o≠2:=by rcases ho with h | h <;> omega
   by_cases hr:rows=[]
   ·subst hr;have e:yB (k+1) (.u1 o sz [])=.u1 0 0 []:=by show C.u1 (if o=2 then 2 else 0) 0 _=_;rw [dR ho2]
    rw [e];exact .u1 0 0 [] b off cap us (.inl rfl) hc (fun r hr=>by cases hr) (fun i r j c h1 h2=>by simp at h1) (fun i r j c h1 h2=>by simp at h1)
   rw [KG k o sz rows hr,dR ho2]
   have:=L.u1 (E:=E) 0 sz (rows.map fun r=>r.map (yB k)) b off cap us (.inl rfl) (aq hc)
    (fun r hr=>by obtain ⟨r0,h1,rfl⟩:=gL.1 hr;simpa using hsz r0 h1)
    (fun i r j c h1 h2=>by obtain ⟨r0,c0,h3,h4,rfl⟩:=KC h1 h2;exact hst i r0 j c0 h3 h4)
    (fun i r j c h1 h2=>by obtain ⟨r0,c0,h3,h4,rfl⟩:=KC h1 h2;exact ih (hL i r0 j c0 h3 h4))
   rw [dV] at this;exact dB
  | xv o sz ho a=>
   have ho2:o≠2:=by rcases ho with h | h <;> omega
   have e:yB (k+1) (.u1 o sz [])=.u1 0 0 []:=by show C.u1 (if o=2 then 2 else 0) 0 _=_;rw [dR ho2]
   rw [e];exact .xv 0 0 (.inl rfl) a
  | agg cs ys h1 h2 h3=>
   have:=LL.ed (f:=yB k) (E':=E) (cs:=cs) (ys:=ys.toList) ⟨aq h1,fun i c y e1 e2=>h2 i c y e1 uZ⟩ (fun c y hl=>ih hl);exact dj
  | v x hx=>exact .v _ hx
  | jS cells b off us hst hL=>exact .jS cells b off us hst hL
  | ref id hops sz i j hn=>exact .ref id hops sz i j hn
  | sl id hops sz lo len full cap hn hlen hf hf'=>exact .sl id hops sz lo len full cap hn hlen hf hf'
  | fn f first caps ys zs h1 h2 h3 h4=>exact .fn f first caps ys zs h1 h2 h3 h4
  | mp id hn=>exact .mp id hn
  | u7 cs ys h1 h2=>exact .u7 cs ys h1 h2
  | un=>exact .un
  | za y=>exact .za y
  | gl id sz rows y hn hg h=>exact .gl id sz rows y hn hg h
  | fh t c y h=>exact .fh t c y h
def Bh:Nat->C->Bool
 | 0,_=>true
 | k+1,c=>match c with
  | .u1 o _ rows=>o == 0 && rows.all fun r=>r.all (Bh k)
  | .agg cs=>cs.all (Bh k)
  | _=>true
def P1:∀ (k:Nat) {E:Env} {c:C} {y:Value},Bh k c=true->L E (yB k c) y->L E c y:=by
 intro k
 induction k with
 | zero=>intro E c y _ h;exact h
 | succ k ih=>
  intro E c y hp h;cases c with
  | u1 o sz rows=>
   simp only [Bh,dY,gT,dZ] at hp;obtain ⟨rfl,hp⟩:=hp;by_cases hr:rows=[]
   ·subst hr;have h:L E (.u1 0 0 []) y:=h;exact WC.none 0 0 sz E y h
   rw [KG k 0 sz rows hr,dR ar] at h;generalize hgr:(rows.map fun r=>r.map (yB k))=rows' at h;cases h with
   | u1 _ _ _ b off cap us ho hc hsz hst hL=>
    subst hgr
    have back:∀ {i:Nat} {r:List C} {j:Nat} {c:C},rows[i]?= some r->r[j]?= some c->(rows.map fun r=>r.map (yB k))[i]?= some (r.map (yB k))∧(r.map (yB k))[j]?= some (yB k c):=fun h1 h2=>by
     rw [dT,h1,dT,h2];exact dJ
    have:=L.u1 (E:=E) 0 sz rows b off cap us (.inl rfl) (aq hc)
     (fun r hr=>by have:=hsz _ (List.mem_map_of_mem (f:=fun r=>r.map (yB k)) hr);simpa using this)
     (fun i r j c h1 h2=>hst i _ j _ (back h1 h2).1 (back h1 h2).2)
     (fun i r j c h1 h2=>ih (hp r (dS h1) c (dS h2)) (hL i _ j _ (back h1 h2).1 (back h1 h2).2))
    rw [dV];exact dB
   | xv o sz ho a=>exact absurd (List.map_eq_nil_iff.1 hgr) hr
  | agg cs=>
   have hp:cs.all (Bh k)=true:=hp;rw [dZ] at hp;have h:L E (.agg (cs.map (yB k))) y:=h;generalize hg:cs.map (yB k)=cs' at h;cases h with
   | agg _ ys h1 h2 h3=>
    subst hg;refine .agg cs ys tH (fun i c y e1 e2=>ih (hp c (dS e1)) (h2 i _ y (by rw [dT,e1];rfl) e2)) h3
  | _=>exact h
def zb.CF {P:Program} {f:FuncId} {H H':zl} {args args':List C} {r:C} (k:Nat) (h:zb P f H args r H') (hp:args.all (Bh k)=true) (ha:args'.map (yB k)=args.map (yB k)):zb P f H args' r H':=fun w E vs hh hl=>
 h w E vs hh ⟨by have:=pS List.length ha;simp at this;rw [<- this];exact hl.1,fun i c y e1 e2=>by
  have e3:(args'.map (yB k))[i]?= some (yB k c):=by rw [ha,dT,e1];rfl
  rw [dT] at e3;cases hx:args'[i]? with
  | none=>rw [hx] at e3;cases e3
  | some c'=>
   rw [hx] at e3;simp only [gh,gC] at e3;exact P1 k (dZ.1 hp c (dS e1)) (e3 ▸ Vm k (hl.2 i c' y hx e2))⟩
end Go.Dep
