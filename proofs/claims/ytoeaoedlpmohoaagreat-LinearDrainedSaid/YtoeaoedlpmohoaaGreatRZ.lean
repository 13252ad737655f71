import Derived.Test.YtoeaoedlpmohoaaGreatRP
import Derived.Test.YtoeaoedlpmohoaaGreatRS
import Derived.Test.YtoeaoedlpmohoaaGreatRC
set_option linter.all false
set_option maxRecDepth 100000
set_option maxHeartbeats 4000000
namespace Go.Beg
open Go.Ab Go.Proofs Tryz Go.Hy Go.Pla
abbrev Kj:fG:=⟨0,[],[],[],0,0,0,⟨[],[],[]⟩⟩
abbrev vp:fF:=⟨0,0,0,0,0,0,0,lJ⟩
abbrev JW:fq:=⟨Kj,0,0,0,0,0,0,0,0,0,0,0,0,0,0,false,vp,lJ⟩
abbrev PD(m:fq):C:=.agg (zE m)
abbrev Can(a:fF):C:=.agg (yG a)
abbrev PE(o:fG):C:=.agg (vq o)
abbrev zxS(m:fq):List C:=[I m.zf,I m.pc,I m.zr,I m.version,I m.listen,I m.zg,I m.end_,I m.other,I m.slot,U m.word,I m.link,I m.i,I m.k,I m.sum,Bo m.done]++yG m.answer++B1 m.counts
abbrev zyf(n:Int):List C:=[I n,Tx [],Tx [],Tx [],I 0,I 0,I 0,.fp 1 0 [],.fp 1 0 [],.fp 1 0 []]
def k9(t:Int)(a:fF):fq:={ JW with op:={ Kj with kind:=2 },zf:=t,version:=a.version,zg:=a.zg,end_:=a.end_,slot:=a.slot,listen:=if a.kind=1 then a.listen else -1,pc:=if a.kind=1 then 0 else 9 }
def Hk(t:Int)(a:fF):tn 92 [] [I t,Can a] (.agg (zyf 2++zxS (k9 t a))) []:=by
 refine ab func92 ?_;unfold k9;refine⟨λh=>?_,λh=>?_⟩
 ·have h1:a.kind≠1:=by simpa using h
  rw[gu h1,gu h1];exact dA
 ·have h1:a.kind=1:=by simpa using h
  rw[gC h1,gC h1];exact dA
def BQ(o:fG)(given:List fF):fF:=if 0<=o.n/\o.n<(jF given).length then (given[(jF given).getD o.n.toNat 0]?).getD vp else vp
def xa(t:Int)(o:fG)(given:List fF):fq:=if o.kind=2 then { k9 t (BQ o given) with op:=o } else { JW with op:=o,zf:=t,listen:= -1 }
def NB{o:fG}{given:List fF}(h0:0<=o.n)(h1:o.n<(jF given).length):∃i a,(jF given)[o.n.toNat]?=some i/\given[i]?=some a/\BQ o given=a:=by
 have hi:(jF given)[o.n.toNat]?=some ((jF given)[o.n.toNat]'aw):=gp _;have ft:=vA given given.length (gJ _) _ (gZ (l:=jF given) (n:=o.n.toNat) aw);refine⟨_,given[(jF given)[o.n.toNat]'aw],hi,gp _,?_⟩;unfold BQ;rw[gC ⟨h0,h1⟩,rG,hi,pS,gp ft]
 rfl
def HV{o:fG}{given:List fF}(h:¬(0<=o.n/\o.n<(jF given).length)):BQ o given=vp:=gu h
def Sq(t:Int)(o:fG)(given:List fF)(hlen:given.length<1000000000000):tn 62 [] [I t,PE o,lA given] (PD (xa t o given)) []:=by
 have m1:((jF given).map λ(n:Nat)=>[I (n:Int)]).length=(jF given).length:=gE ..;have hl:=Dz given given.length;have mA:(given.map yG).length=given.length:=gE ..;have eb:o.kind=2->xa t o given={ k9 t (BQ o given) with op:=o }:=λh=>gC h
 have eb2:o.kind≠2->xa t o given={ JW with op:=o,zf:=t,listen:= -1 }:=λh=>gu h
 refine ab func62 ?_;refine⟨λhk=>?_,λhk=>?_⟩
 ·have h1:o.kind≠2:=by simpa using hk
  rw[eb2 h1];exact dA
 ·have h1:o.kind=2:=by simpa using hk
  rw[eb h1];refine dd ?_;refine ah (T4 given hlen) ?_;refine⟨λh2=>?_,λh2=>?_⟩
  ·have g0:0<=o.n:=by simpa using h2
   refine dd ?_;have el:((List.map (λ(n:Nat)=>(n:Int)) (jF given)).map Hy.encI).length=(jF given).length:=aj
   rw[el];refine⟨λh3=>?_,λh3=>?_⟩
   ·have g1:o.n<(jF given).length:=by simpa using h3
    obtain⟨i,a,q1,q2,q3⟩:=NB g0 g1;have r1:((List.map (λ(n:Nat)=>(n:Int)) (jF given)).map Hy.encI)[o.n.toNat]?=some (Hy.encI (i:Int)):=by rw[gz,gz,q1];rfl
    have r2:(given.map yG)[i]?=some (yG a):=by rw[gz,q2];rfl
    rw[q3];refine dd ?_;refine⟨g0,_,r1,dd ?_⟩;refine⟨aw,_,(by rw[toNat_cast];exact r2),dd ?_⟩;refine ah (Hk t a) ?_;exact uI
   ·have g1:¬(0<=o.n/\o.n<(jF given).length):=by
     have:¬o.n<(jF given).length:=aq h3
     omega
    rw[HV g1];refine dd ?_;refine ah (Hk t vp) ?_;exact uI
  ·have g1:¬(0<=o.n/\o.n<(jF given).length):=by
    have:¬0<=o.n:=aq h2
    omega
   rw[HV g1];refine dd ?_;refine tc ?_
   refine ah (Hk t vp) ?_;exact uI
end Go.Beg
namespace Go.Pla
open Go.Ab Go.Proofs Tryz Go.Hy
def Ws:tn 93 [] [I 1] (.iu 221 (.fn 126 [] [])) []:=by
 refine ab func93 ?_;refine tc ?_;(refine⟨ar,_,rfl,dd ?_⟩);exact uI
def Wt:tn 93 [] [I 2] (.iu 221 (.fn 127 [] [])) []:=by
 refine ab func93 ?_;refine tc ?_;(refine⟨ar,_,rfl,dd ?_⟩);exact uI
def Wu:tn 93 [] [I 3] (.iu 221 (.fn 128 [] [])) []:=by
 refine ab func93 ?_;refine tc ?_;(refine⟨ar,_,rfl,dd ?_⟩);exact uI
def Wv:tn 93 [] [I 4] (.iu 221 (.fn 129 [] [])) []:=by
 refine ab func93 ?_;refine tc ?_;(refine⟨ar,_,rfl,dd ?_⟩);exact uI
def Ww:tn 93 [] [I 5] (.iu 221 (.fn 130 [] [])) []:=by
 refine ab func93 ?_;refine tc ?_;(refine⟨ar,_,rfl,dd ?_⟩);exact uI
def Wx:tn 93 [] [I 6] (.iu 221 (.fn 131 [] [])) []:=by
 refine ab func93 ?_;refine tc ?_;(refine⟨ar,_,rfl,dd ?_⟩);exact uI
abbrev Sw(w:Wor):C:=.agg (zU w)
abbrev Sm(m:fq):C:=.agg (zE m)
abbrev Se(e:fx):C:=.agg (zS e)
abbrev Sr(w:Wor)(m:fq)(e:fx):C:=.fC [Sw w,Sm m,Se e]
def UK{w w':Wor}{m m':fq}{e:fx}(h:tn 126 [] [Sw w,Sm m] (Sr w' m' e) []):tn 277 [] [.fn 126 [] [],Sw w,Sm m] (Sr w' m' e) []:=by
 exact dC
def SE{w w':Wor}{m m':fq}{e:fx}(hk:m.op.kind=1)(h:tn 126 [] [Sw w,Sm m] (Sr w' m' e) []):tn 63 [] [Sw w,Sm m] (Sr w' m' e) []:=by
 (have ho:=Ws);(rw[<-hk]at ho);refine ab func63 ?_;refine ah ho ?_;refine tc ?_;(refine⟨277,au,rfl,_,_,(UK h).frame rfl _,dd ?_⟩);exact uI
def UL{w w':Wor}{m m':fq}{e:fx}(h:tn 127 [] [Sw w,Sm m] (Sr w' m' e) []):tn 277 [] [.fn 127 [] [],Sw w,Sm m] (Sr w' m' e) []:=by
 exact dC
def SF{w w':Wor}{m m':fq}{e:fx}(hk:m.op.kind=2)(h:tn 127 [] [Sw w,Sm m] (Sr w' m' e) []):tn 63 [] [Sw w,Sm m] (Sr w' m' e) []:=by
 (have ho:=Wt);(rw[<-hk]at ho);refine ab func63 ?_;refine ah ho ?_;refine tc ?_;(refine⟨277,au,rfl,_,_,(UL h).frame rfl _,dd ?_⟩);exact uI
def UM{w w':Wor}{m m':fq}{e:fx}(h:tn 128 [] [Sw w,Sm m] (Sr w' m' e) []):tn 277 [] [.fn 128 [] [],Sw w,Sm m] (Sr w' m' e) []:=by
 exact dC
def SG{w w':Wor}{m m':fq}{e:fx}(hk:m.op.kind=3)(h:tn 128 [] [Sw w,Sm m] (Sr w' m' e) []):tn 63 [] [Sw w,Sm m] (Sr w' m' e) []:=by
 (have ho:=Wu);(rw[<-hk]at ho);refine ab func63 ?_;refine ah ho ?_;refine tc ?_;(refine⟨277,au,rfl,_,_,(UM h).frame rfl _,dd ?_⟩);exact uI
def UN{w w':Wor}{m m':fq}{e:fx}(h:tn 129 [] [Sw w,Sm m] (Sr w' m' e) []):tn 277 [] [.fn 129 [] [],Sw w,Sm m] (Sr w' m' e) []:=by
 exact dC
def SH{w w':Wor}{m m':fq}{e:fx}(hk:m.op.kind=4)(h:tn 129 [] [Sw w,Sm m] (Sr w' m' e) []):tn 63 [] [Sw w,Sm m] (Sr w' m' e) []:=by
 (have ho:=Wv);(rw[<-hk]at ho);refine ab func63 ?_;refine ah ho ?_;refine tc ?_;(refine⟨277,au,rfl,_,_,(UN h).frame rfl _,dd ?_⟩);exact uI
def UO{w w':Wor}{m m':fq}{e:fx}(h:tn 130 [] [Sw w,Sm m] (Sr w' m' e) []):tn 277 [] [.fn 130 [] [],Sw w,Sm m] (Sr w' m' e) []:=by
 exact dC
def SJ{w w':Wor}{m m':fq}{e:fx}(hk:m.op.kind=5)(h:tn 130 [] [Sw w,Sm m] (Sr w' m' e) []):tn 63 [] [Sw w,Sm m] (Sr w' m' e) []:=by
 (have ho:=Ww);(rw[<-hk]at ho);refine ab func63 ?_;refine ah ho ?_;refine tc ?_;(refine⟨277,au,rfl,_,_,(UO h).frame rfl _,dd ?_⟩);exact uI
def UP{w w':Wor}{m m':fq}{e:fx}(h:tn 131 [] [Sw w,Sm m] (Sr w' m' e) []):tn 277 [] [.fn 131 [] [],Sw w,Sm m] (Sr w' m' e) []:=by
 exact dC
def SK{w w':Wor}{m m':fq}{e:fx}(hk:m.op.kind=6)(h:tn 131 [] [Sw w,Sm m] (Sr w' m' e) []):tn 63 [] [Sw w,Sm m] (Sr w' m' e) []:=by
 (have ho:=Wx);(rw[<-hk]at ho);refine ab func63 ?_;refine ah ho ?_;refine tc ?_;(refine⟨277,au,rfl,_,_,(UP h).frame rfl _,dd ?_⟩);exact uI
abbrev Ew:fx:=⟨0,0,0,0,0,false,0,false,false,false,⟨0,0,0,0,0,0,0,lJ⟩⟩
inductive C3:Nat->Wor->fq->Wor->fq->Prop
 |last {w w':Wor} {m m':fq} {e:fx} (h:tn 63 [] [Sw w,Sm m] (Sr w' m' e) []) (he:e.access≠0) (hd:m'.done=true):C3 1 w m w' m'
 |more {n:Nat} {w w' w2:Wor} {m m' m2:fq} {e:fx} (h:tn 63 [] [Sw w,Sm m] (Sr w' m' e) []) (he:e.access≠0) (hd:m'.done=false) (hg:C3 n w' m' w2 m2):C3 (n+1) w m w2 m2
end Go.Pla
namespace Go.Dep
open Go.Ab
def q9:Nat->C->C
 |0,c=>c
 |k+1,c=>match c with
  |.fp o sz rows=>match rows with
   |[]=>.fp (if o=2 then 2 else 0) 0 []
   |r::rs=>.fp (if o=2 then 2 else 0) sz (r.map (q9 k)::rs.map λr=>r.map (q9 k))
  |.agg cs=>.agg (cs.map (q9 k))
  |c=>c
def Dr(k o sz:Nat)(rows:List (List C))(h:rows≠[]):q9 (k+1) (.fp o sz rows)=.fp (if o=2 then 2 else 0) sz (rows.map λr=>r.map (q9 k)):=by
 cases rows with
 |nil=>exact absurd rfl h
 |cons r rs=>rfl
def Dp{f:C->C}{rows:List (List C)}{i j:Nat}{r:List C}{c:C}(h1:(rows.map λr=>r.map f)[i]?=some r)(h2:r[j]?=some c):∃r0 c0,rows[i]?=some r0/\r0[j]?=some c0/\c=f c0:=by
 rw[gz]at h1;cases h3:rows[i]? with
 |none=>rw[h3]at h1;cases h1
 |some r0=>
  rw[h3]at h1;cases h1
  rw[gz]at h2;cases h4:r0[j]? with
  |none=>rw[h4]at h2;cases h2
  |some c0=>rw[h4]at h2;cases h2;exact⟨r0,c0,rfl,h4,rfl⟩
def DY:∀(k:Nat) {E:Env} {c:C} {y:Value},L E c y->L E (q9 k c) y:=by
 intro k
 induction k with
 |zero=>intro E c y h;exact h
 |succ k ih=>
  intro E c y h;cases h with
  |fp o sz rows b off cap us ho hc hsz hst hL=>
   have ho2:o≠2:=cy
   by_cases hr:rows=[]
   ·subst hr;have e:q9 (k+1) (.fp o sz [])=.fp 0 0 []:=by show C.fp (if o=2 then 2 else 0) 0 _=_;rw[gu ho2]
    rw[e];exact .fp 0 0 [] b off cap us (.inl rfl) hc (λr hr=>by cases hr) (λi r j c h1 h2=>by simp at h1) (λi r j c h1 h2=>by simp at h1)
   rw[Dr k o sz rows hr,gu ho2]
   have:=L.fp (E:=E) 0 sz (rows.map λr=>r.map (q9 k)) b off cap us (.inl rfl) (aq hc)
    (λr hr=>by obtain⟨r0,h1,rfl⟩:=pd.1 hr;simpa using hsz r0 h1)
    (λi r j c h1 h2=>by obtain⟨r0,c0,h3,h4,rfl⟩:=Dp h1 h2;exact hst i r0 j c0 h3 h4)
    (λi r j c h1 h2=>by obtain⟨r0,c0,h3,h4,rfl⟩:=Dp h1 h2;exact ih (hL i r0 j c0 h3 h4))
   rw[gE]at this;exact dM
  |xp o sz ho a=>
   have ho2:o≠2:=cy
   have e:q9 (k+1) (.fp o sz [])=.fp 0 0 []:=by show C.fp (if o=2 then 2 else 0) 0 _=_;rw[gu ho2]
   rw[e];exact .xp 0 0 (.inl rfl) a
  |agg cs ys h1 h2 h3=>
   have:=LL.fD (f:=q9 k) (E':=E) (cs:=cs) (ys:=ys.toList) ⟨aq h1,λi c y e1 e2=>h2 i c y e1 uZ⟩ (λc y hl=>ih hl);exact dB
  |v x hx=>exact .v _ hx
  |jU cells b off us hst hL=>exact .jU cells b off us hst hL
  |ref id hops sz i j hn=>exact .ref id hops sz i j hn
  |sl id hops sz lo len full cap hn hlen hf hf'=>exact .sl id hops sz lo len full cap hn hlen hf hf'
  |fn f first caps ys zs h1 h2 h3 h4=>exact .fn f first caps ys zs h1 h2 h3 h4
  |mp id hn=>exact .mp id hn
  |fC cs ys h1 h2=>exact .fC cs ys h1 h2
  |un=>exact .un
  |za y=>exact .za y
  |gl id sz rows y hn hg h=>exact .gl id sz rows y hn hg h
  |iu t c y h=>exact .iu t c y h
def y8:Nat->C->Bool
 |0,_=>true
 |k+1,c=>match c with
  |.fp o _ rows=>o == 0 && rows.all λr=>r.all (y8 k)
  |.agg cs=>cs.all (y8 k)
  |_=>true
def wH:∀(k:Nat) {E:Env} {c:C} {y:Value},y8 k c=true->L E (q9 k c) y->L E c y:=by
 intro k
 induction k with
 |zero=>intro E c y _ h;exact h
 |succ k ih=>
  intro E c y hp h;cases c with
  |fp o sz rows=>
   simp only[y8,gH,pH,gI]at hp;obtain⟨rfl,hp⟩:=hp;by_cases hr:rows=[]
   ·subst hr;have h:L E (.fp 0 0 []) y:=h;exact WC.none 0 0 sz E y h
   rw[Dr k 0 sz rows hr,gu ar]at h;generalize hgr:(rows.map λr=>r.map (q9 k))=rows' at h;cases h with
   |fp _ _ _ b off cap us ho hc hsz hst hL=>
    subst hgr
    have back:∀{i:Nat} {r:List C} {j:Nat} {c:C},rows[i]?=some r->r[j]?=some c->(rows.map λr=>r.map (q9 k))[i]?=some (r.map (q9 k))/\(r.map (q9 k))[j]?=some (q9 k c):=λh1 h2=>by
     rw[gz,h1,gz,h2];exact⟨rfl,rfl⟩
    have:=L.fp (E:=E) 0 sz rows b off cap us (.inl rfl) (aq hc)
     (λr hr=>by have:=hsz _ (List.mem_map_of_mem (f:=λr=>r.map (q9 k)) hr);simpa using this)
     (λi r j c h1 h2=>hst i _ j _ (back h1 h2).1 (back h1 h2).2)
     (λi r j c h1 h2=>ih (hp r (gA h1) c (gA h2)) (hL i _ j _ (back h1 h2).1 (back h1 h2).2))
    rw[gE];exact dM
   |xp o sz ho a=>exact absurd (List.map_eq_nil_iff.1 hgr) hr
  |agg cs=>
   have hp:cs.all (y8 k)=true:=hp;rw[gI]at hp;have h:L E (.agg (cs.map (q9 k))) y:=h;generalize hg:cs.map (q9 k)=cs' at h;cases h with
   |agg _ ys h1 h2 h3=>
    subst hg;refine .agg cs ys tD (λi c y e1 e2=>ih (hp c (gA e1)) (h2 i _ y (by rw[gz,e1];rfl) e2)) h3
  |_=>exact h
def zb.deep{P:Program}{f:FuncId}{H H':zl}{args:List C}{r:C}(k:Nat)(h:zb P f H args r H'){r':C}(hp:y8 k r'=true)(hr:q9 k r=q9 k r'):zb P f H args r' H':=λw E vs hh hl=>
 (h w E vs hh hl).mono λe w' ⟨v,E',h1,h2,h3,h4⟩=>⟨v,E',h1,h2,wH k hp (hr ▸ DY k h3),h4⟩
def zb.kV{P:Program}{f:FuncId}{H H':zl}{args args':List C}{r:C}(k:Nat)(h:zb P f H args r H')(hp:args.all (y8 k)=true)(ha:args'.map (q9 k)=args.map (q9 k)):zb P f H args' r H':=λw E vs hh hl=>
 h w E vs hh ⟨cz,λi c y e1 e2=>by
  have e3:(args'.map (q9 k))[i]?=some (q9 k c):=by rw[ha,gz,e1];rfl
  rw[gz]at e3;cases hx:args'[i]? with
  |none=>rw[hx]at e3;cases e3
  |some c'=>
   rw[hx]at e3;simp only[gL,gV]at e3;exact wH k (gI.1 hp c (gA e1)) (e3 ▸ DY k (hl.2 i c' y hx e2))⟩
end Go.Dep
