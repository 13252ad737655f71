import Derived.Test.YtkbnjgogjccmfaaGreatRP
import Derived.Test.YtkbnjgogjccmfaaGreatRS
import Derived.Test.YtkbnjgogjccmfaaGreatRC
set_option linter.all false
set_option maxRecDepth 100000
set_option maxHeartbeats 4000000
namespace Go.Beg
open Go.Ab Go.Proofs Tryz Go.Hy Go.Pla
abbrev GR:ef:=⟨0,[],[],[],0,0,0,⟨[],[],[]⟩⟩
abbrev ka:u3:=⟨0,0,0,0,0,0,0,iA⟩
abbrev Gt:uk:=⟨GR,0,0,0,0,0,0,0,0,0,0,0,0,0,0,false,ka,iA⟩
abbrev LA (m:uk):C:=.agg (zD m)
abbrev Can (a:u3):C:=.agg (xm a)
abbrev LB (o:ef):C:=.agg (y8 o)
abbrev UW (m:uk):List C:=[I m.zj,I m.pc,I m.zn,I m.version,I m.listen,I m.zg,I m.end_,I m.other,I m.slot,U m.word,I m.link,I m.i,I m.k,I m.sum,Bo m.done]++xm m.answer++o4 m.counts
abbrev Vr (n:Int):List C:=[I n,Tx [],Tx [],Tx [],I 0,I 0,I 0,.ui 1 0 [],.ui 1 0 [],.ui 1 0 []]
def Br (t:Int) (a:u3):uk:={ Gt with op:={ GR with kind:=2 },zj:=t,version:=a.version,zg:=a.zg,end_:=a.end_,slot:=a.slot,listen:=if a.kind=1 then a.listen else -1,pc:=if a.kind=1 then 0 else 9 }
def DY (t:Int) (a:u3):tn 71 [] [I t,Can a] (.agg (Vr 2++UW (Br t a))) []:=by
 refine ab func71 ?_;unfold Br;refine ⟨fun h=>?_,fun h=>?_⟩
 ·have h1:a.kind≠1:=by simpa using h
  rw [dL h1,dL h1];exact de
 ·have h1:a.kind=1:=by simpa using h
  rw [dO h1,dO h1];exact de
def oR (o:ef) (given:List u3):u3:=if 0<=o.n∧o.n < (jv given).length then (given[(jv given).getD o.n.toNat 0]?).getD ka else ka
def yg (t:Int) (o:ef) (given:List u3):uk:=if o.kind=2 then { Br t (oR o given) with op:=o } else { Gt with op:=o,zj:=t,listen:= -1 }
def Ka {o:ef} {given:List u3} (h0:0<=o.n) (h1:o.n < (jv given).length):∃ i a,(jv given)[o.n.toNat]?= some i∧given[i]?= some a∧oR o given=a:=by
 have hi:(jv given)[o.n.toNat]?= some ((jv given)[o.n.toNat]'aw):=dK _;have uj:=vO given given.length (dU _) _ (gH (l:=jv given) (n:=o.n.toNat) aw);refine ⟨_,given[(jv given)[o.n.toNat]'aw],hi,dK _,?_⟩;unfold oR;rw [dO ⟨h0,h1⟩,tu,hi,gS,dK uj]
 rfl
def EG {o:ef} {given:List u3} (h:¬(0<=o.n∧o.n < (jv given).length)):oR o given=ka:=dL h
def DW (t:Int) (o:ef) (given:List u3) (hlen:given.length < 1000000000000):tn 46 [] [I t,LB o,lA given] (LA (yg t o given)) []:=by
 have m1:((jv given).map fun (n:Nat)=>[I (n:Int)]).length=(jv given).length:=dP ..;have hl:=Ba given given.length;have mA:(given.map xm).length=given.length:=dP ..;have eb:o.kind=2->yg t o given={ Br t (oR o given) with op:=o }:=fun h=>dO h
 have eb2:o.kind≠2->yg t o given={ Gt with op:=o,zj:=t,listen:= -1 }:=fun h=>dL h
 refine ab func46 ?_;refine ⟨fun hk=>?_,fun hk=>?_⟩
 ·have h1:o.kind≠2:=by simpa using hk
  rw [eb2 h1];exact de
 ·have h1:o.kind=2:=by simpa using hk
  rw [eb h1];refine dd ?_;refine ah (Pb given hlen) ?_;refine ⟨fun h2=>?_,fun h2=>?_⟩
  ·have g0:0<=o.n:=by simpa using h2
   refine dd ?_;have el:((List.map (fun (n:Nat)=>(n:Int)) (jv given)).map Hy.encI).length=(jv given).length:=aj
   rw [el];refine ⟨fun h3=>?_,fun h3=>?_⟩
   ·have g1:o.n < (jv given).length:=by simpa using h3
    obtain ⟨i,a,q1,q2,q3⟩:=Ka g0 g1;have r1:((List.map (fun (n:Nat)=>(n:Int)) (jv given)).map Hy.encI)[o.n.toNat]?= some (Hy.encI (i:Int)):=by rw [dN,dN,q1];rfl
    have r2:(given.map xm)[i]?= some (xm a):=by rw [dN,q2];rfl
    rw [q3];refine dd ?_;refine ⟨g0,_,r1,dd ?_⟩;refine ⟨aw,_,(by rw [toNat_cast];exact r2),dd ?_⟩;refine ah (DY t a) ?_;exact uI
   ·have g1:¬(0<=o.n∧o.n < (jv given).length):=by
     have:¬o.n < (jv given).length:=aq h3
     omega
    rw [EG g1];refine dd ?_;refine ah (DY t ka) ?_;exact uI
  ·have g1:¬(0<=o.n∧o.n < (jv given).length):=by
    have:¬0<=o.n:=aq h2
    omega
   rw [EG g1];refine dd ?_;refine tc ?_
   refine ah (DY t ka) ?_;exact uI
end Go.Beg
namespace Go.Pla
open Go.Ab Go.Proofs Tryz Go.Hy
def Rk:tn 72 [] [I 1] (.eM 197 (.fn 96 [] [])) []:=by
 refine ab func72 ?_;refine tc ?_;(refine ⟨ar,_,rfl,dd ?_⟩);exact uI
def Rl:tn 72 [] [I 2] (.eM 197 (.fn 97 [] [])) []:=by
 refine ab func72 ?_;refine tc ?_;(refine ⟨ar,_,rfl,dd ?_⟩);exact uI
def Rm:tn 72 [] [I 3] (.eM 197 (.fn 98 [] [])) []:=by
 refine ab func72 ?_;refine tc ?_;(refine ⟨ar,_,rfl,dd ?_⟩);exact uI
def Rn:tn 72 [] [I 4] (.eM 197 (.fn 99 [] [])) []:=by
 refine ab func72 ?_;refine tc ?_;(refine ⟨ar,_,rfl,dd ?_⟩);exact uI
def Ro:tn 72 [] [I 5] (.eM 197 (.fn 100 [] [])) []:=by
 refine ab func72 ?_;refine tc ?_;(refine ⟨ar,_,rfl,dd ?_⟩);exact uI
def Rp:tn 72 [] [I 6] (.eM 197 (.fn 101 [] [])) []:=by
 refine ab func72 ?_;refine tc ?_;(refine ⟨ar,_,rfl,dd ?_⟩);exact uI
abbrev Sw (w:Wor):C:=.agg (zJ w)
abbrev Sm (m:uk):C:=.agg (zD m)
abbrev Se (e:uv):C:=.agg (zR e)
abbrev Sr (w:Wor) (m:uk) (e:uv):C:=.uo [Sw w,Sm m,Se e]
def PV {w w':Wor} {m m':uk} {e:uv} (h:tn 96 [] [Sw w,Sm m] (Sr w' m' e) []):tn 229 [] [.fn 96 [] [],Sw w,Sm m] (Sr w' m' e) []:=by
 exact dg
def NF {w w':Wor} {m m':uk} {e:uv} (hk:m.op.kind=1) (h:tn 96 [] [Sw w,Sm m] (Sr w' m' e) []):tn 47 [] [Sw w,Sm m] (Sr w' m' e) []:=by
 (have ho:=Rk);(rw [<- hk] at ho);refine ab func47 ?_;refine ah ho ?_;refine tc ?_;(refine ⟨229,au,rfl,_,_,(PV h).frame rfl _,dd ?_⟩);exact uI
def PW {w w':Wor} {m m':uk} {e:uv} (h:tn 97 [] [Sw w,Sm m] (Sr w' m' e) []):tn 229 [] [.fn 97 [] [],Sw w,Sm m] (Sr w' m' e) []:=by
 exact dg
def NG {w w':Wor} {m m':uk} {e:uv} (hk:m.op.kind=2) (h:tn 97 [] [Sw w,Sm m] (Sr w' m' e) []):tn 47 [] [Sw w,Sm m] (Sr w' m' e) []:=by
 (have ho:=Rl);(rw [<- hk] at ho);refine ab func47 ?_;refine ah ho ?_;refine tc ?_;(refine ⟨229,au,rfl,_,_,(PW h).frame rfl _,dd ?_⟩);exact uI
def PX {w w':Wor} {m m':uk} {e:uv} (h:tn 98 [] [Sw w,Sm m] (Sr w' m' e) []):tn 229 [] [.fn 98 [] [],Sw w,Sm m] (Sr w' m' e) []:=by
 exact dg
def D0 {w w':Wor} {m m':uk} {e:uv} (hk:m.op.kind=3) (h:tn 98 [] [Sw w,Sm m] (Sr w' m' e) []):tn 47 [] [Sw w,Sm m] (Sr w' m' e) []:=by
 (have ho:=Rm);(rw [<- hk] at ho);refine ab func47 ?_;refine ah ho ?_;refine tc ?_;(refine ⟨229,au,rfl,_,_,(PX h).frame rfl _,dd ?_⟩);exact uI
def PY {w w':Wor} {m m':uk} {e:uv} (h:tn 99 [] [Sw w,Sm m] (Sr w' m' e) []):tn 229 [] [.fn 99 [] [],Sw w,Sm m] (Sr w' m' e) []:=by
 exact dg
def NH {w w':Wor} {m m':uk} {e:uv} (hk:m.op.kind=4) (h:tn 99 [] [Sw w,Sm m] (Sr w' m' e) []):tn 47 [] [Sw w,Sm m] (Sr w' m' e) []:=by
 (have ho:=Rn);(rw [<- hk] at ho);refine ab func47 ?_;refine ah ho ?_;refine tc ?_;(refine ⟨229,au,rfl,_,_,(PY h).frame rfl _,dd ?_⟩);exact uI
def PZ {w w':Wor} {m m':uk} {e:uv} (h:tn 100 [] [Sw w,Sm m] (Sr w' m' e) []):tn 229 [] [.fn 100 [] [],Sw w,Sm m] (Sr w' m' e) []:=by
 exact dg
def NI {w w':Wor} {m m':uk} {e:uv} (hk:m.op.kind=5) (h:tn 100 [] [Sw w,Sm m] (Sr w' m' e) []):tn 47 [] [Sw w,Sm m] (Sr w' m' e) []:=by
 (have ho:=Ro);(rw [<- hk] at ho);refine ab func47 ?_;refine ah ho ?_;refine tc ?_;(refine ⟨229,au,rfl,_,_,(PZ h).frame rfl _,dd ?_⟩);exact uI
def P0 {w w':Wor} {m m':uk} {e:uv} (h:tn 101 [] [Sw w,Sm m] (Sr w' m' e) []):tn 229 [] [.fn 101 [] [],Sw w,Sm m] (Sr w' m' e) []:=by
 exact dg
def NJ {w w':Wor} {m m':uk} {e:uv} (hk:m.op.kind=6) (h:tn 101 [] [Sw w,Sm m] (Sr w' m' e) []):tn 47 [] [Sw w,Sm m] (Sr w' m' e) []:=by
 (have ho:=Rp);(rw [<- hk] at ho);refine ab func47 ?_;refine ah ho ?_;refine tc ?_;(refine ⟨229,au,rfl,_,_,(P0 h).frame rfl _,dd ?_⟩);exact uI
abbrev AM:uv:=⟨0,0,0,0,0,false,0,false,false,false,⟨0,0,0,0,0,0,0,iA⟩⟩
inductive nS:Nat->Wor->uk->Wor->uk->Prop
 | last {w w':Wor} {m m':uk} {e:uv} (h:tn 47 [] [Sw w,Sm m] (Sr w' m' e) []) (he:e.access≠0) (hd:m'.done=true):nS 1 w m w' m'
 | more {n:Nat} {w w' w2:Wor} {m m' m2:uk} {e:uv} (h:tn 47 [] [Sw w,Sm m] (Sr w' m' e) []) (he:e.access≠0) (hd:m'.done=false) (hg:nS n w' m' w2 m2):nS (n+1) w m w2 m2
end Go.Pla
namespace Go.Dep
open Go.Ab
def yi:Nat->C->C
 | 0,c=>c
 | k+1,c=>match c with
  | .ui o sz rows=>match rows with
   | []=>.ui (if o=2 then 2 else 0) 0 []
   | r::rs=>.ui (if o=2 then 2 else 0) sz (r.map (yi k)::rs.map fun r=>r.map (yi k))
  | .agg cs=>.agg (cs.map (yi k))
  | c=>c
def I7 (k o sz:Nat) (rows:List (List C)) (h:rows≠[]):yi (k+1) (.ui o sz rows)=.ui (if o=2 then 2 else 0) sz (rows.map fun r=>r.map (yi k)):=by
 cases rows with
 | nil=>exact absurd rfl h
 | cons r rs=>rfl
def I4 {f:C->C} {rows:List (List C)} {i j:Nat} {r:List C} {c:C} (h1:(rows.map fun r=>r.map f)[i]?= some r) (h2:r[j]?= some c):∃ r0 c0,rows[i]?= some r0∧r0[j]?= some c0∧c=f c0:=by
 rw [dN] at h1;cases h3:rows[i]? with
 | none=>rw [h3] at h1;cases h1
 | some r0=>
  rw [h3] at h1;cases h1
  rw [dN] at h2;cases h4:r0[j]? with
  | none=>rw [h4] at h2;cases h2
  | some c0=>rw [h4] at h2;cases h2;exact ⟨r0,c0,rfl,h4,rfl⟩
def Sy:∀ (k:Nat) {E:Env} {c:C} {y:Value},L E c y->L E (yi k c) y:=by
 intro k
 induction k with
 | zero=>intro E c y h;exact h
 | succ k ih=>
  intro E c y h;cases h with
  | ui o sz rows b off cap us ho hc hsz hst hL=>
   have ho2:o≠2:=by rcases ho with h | h <;> omega
   by_cases hr:rows=[]
   ·subst hr;have e:yi (k+1) (.ui o sz [])=.ui 0 0 []:=by show C.ui (if o=2 then 2 else 0) 0 _=_;rw [dL ho2]
    rw [e];exact .ui 0 0 [] b off cap us (.inl rfl) hc (fun r hr=>by cases hr) (fun i r j c h1 h2=>by simp at h1) (fun i r j c h1 h2=>by simp at h1)
   rw [I7 k o sz rows hr,dL ho2]
   have:=L.ui (E:=E) 0 sz (rows.map fun r=>r.map (yi k)) b off cap us (.inl rfl) (aq hc)
    (fun r hr=>by obtain ⟨r0,h1,rfl⟩:=gC.1 hr;simpa using hsz r0 h1)
    (fun i r j c h1 h2=>by obtain ⟨r0,c0,h3,h4,rfl⟩:=I4 h1 h2;exact hst i r0 j c0 h3 h4)
    (fun i r j c h1 h2=>by obtain ⟨r0,c0,h3,h4,rfl⟩:=I4 h1 h2;exact ih (hL i r0 j c0 h3 h4))
   rw [dP] at this;exact dw
  | xf o sz ho a=>
   have ho2:o≠2:=by rcases ho with h | h <;> omega
   have e:yi (k+1) (.ui o sz [])=.ui 0 0 []:=by show C.ui (if o=2 then 2 else 0) 0 _=_;rw [dL ho2]
   rw [e];exact .xf 0 0 (.inl rfl) a
  | agg cs ys h1 h2 h3=>
   have:=LL.ur (f:=yi k) (E':=E) (cs:=cs) (ys:=ys.toList) ⟨aq h1,fun i c y e1 e2=>h2 i c y e1 uY⟩ (fun c y hl=>ih hl);exact df
  | v x hx=>exact .v _ hx
  | jH cells b off us hst hL=>exact .jH cells b off us hst hL
  | ref id hops sz i j hn=>exact .ref id hops sz i j hn
  | sl id hops sz lo len full cap hn hlen hf hf'=>exact .sl id hops sz lo len full cap hn hlen hf hf'
  | fn f first caps ys zs h1 h2 h3 h4=>exact .fn f first caps ys zs h1 h2 h3 h4
  | mp id hn=>exact .mp id hn
  | uo cs ys h1 h2=>exact .uo cs ys h1 h2
  | un=>exact .un
  | za y=>exact .za y
  | gl id sz rows y hn hg h=>exact .gl id sz rows y hn hg h
  | eM t c y h=>exact .eM t c y h
def At:Nat->C->Bool
 | 0,_=>true
 | k+1,c=>match c with
  | .ui o _ rows=>o == 0 && rows.all fun r=>r.all (At k)
  | .agg cs=>cs.all (At k)
  | _=>true
def Ow:∀ (k:Nat) {E:Env} {c:C} {y:Value},At k c=true->L E (yi k c) y->L E c y:=by
 intro k
 induction k with
 | zero=>intro E c y _ h;exact h
 | succ k ih=>
  intro E c y hp h;cases c with
  | ui o sz rows=>
   simp only [At,dS,gM,dT] at hp;obtain ⟨rfl,hp⟩:=hp;by_cases hr:rows=[]
   ·subst hr;have h:L E (.ui 0 0 []) y:=h;exact WC.none 0 0 sz E y h
   rw [I7 k 0 sz rows hr,dL ar] at h;generalize hgr:(rows.map fun r=>r.map (yi k))=rows' at h;cases h with
   | ui _ _ _ b off cap us ho hc hsz hst hL=>
    subst hgr
    have back:∀ {i:Nat} {r:List C} {j:Nat} {c:C},rows[i]?= some r->r[j]?= some c->(rows.map fun r=>r.map (yi k))[i]?= some (r.map (yi k))∧(r.map (yi k))[j]?= some (yi k c):=fun h1 h2=>by
     rw [dN,h1,dN,h2];exact ⟨rfl,rfl⟩
    have:=L.ui (E:=E) 0 sz rows b off cap us (.inl rfl) (aq hc)
     (fun r hr=>by have:=hsz _ (List.mem_map_of_mem (f:=fun r=>r.map (yi k)) hr);simpa using this)
     (fun i r j c h1 h2=>hst i _ j _ (back h1 h2).1 (back h1 h2).2)
     (fun i r j c h1 h2=>ih (hp r (dM h1) c (dM h2)) (hL i _ j _ (back h1 h2).1 (back h1 h2).2))
    rw [dP];exact dw
   | xf o sz ho a=>exact absurd (List.map_eq_nil_iff.1 hgr) hr
  | agg cs=>
   have hp:cs.all (At k)=true:=hp;rw [dT] at hp;have h:L E (.agg (cs.map (yi k))) y:=h;generalize hg:cs.map (yi k)=cs' at h;cases h with
   | agg _ ys h1 h2 h3=>
    subst hg;refine .agg cs ys tG (fun i c y e1 e2=>ih (hp c (dM e1)) (h2 i _ y (by rw [dN,e1];rfl) e2)) h3
  | _=>exact h
def zb.BJ {P:Program} {f:FuncId} {H H':zl} {args args':List C} {r:C} (k:Nat) (h:zb P f H args r H') (hp:args.all (At k)=true) (ha:args'.map (yi k)=args.map (yi k)):zb P f H args' r H':=fun w E vs hh hl=>
 h w E vs hh ⟨by have:=pX List.length ha;simp at this;rw [<- this];exact hl.1,fun i c y e1 e2=>by
  have e3:(args'.map (yi k))[i]?= some (yi k c):=by rw [ha,dN,e1];rfl
  rw [dN] at e3;cases hx:args'[i]? with
  | none=>rw [hx] at e3;cases e3
  | some c'=>
   rw [hx] at e3;simp only [dV,gj] at e3;exact Ow k (dT.1 hp c (dM e1)) (e3 ▸ Sy k (hl.2 i c' y hx e2))⟩
end Go.Dep
