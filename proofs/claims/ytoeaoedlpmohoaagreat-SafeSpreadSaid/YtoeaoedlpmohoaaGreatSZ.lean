import Derived.Test.YtoeaoedlpmohoaaGreatSP
import Derived.Test.YtoeaoedlpmohoaaGreatSS
import Derived.Test.YtoeaoedlpmohoaaGreatSC
set_option linter.all false
set_option maxRecDepth 100000
set_option maxHeartbeats 4000000
namespace Go.Beg
open Go.Ab Go.Proofs Tryz Go.Hy Go.Pla
abbrev Qq:lX:=⟨0,[],[],[],0,0,0,⟨[],[],[]⟩⟩
abbrev vG:lM:=⟨0,0,0,0,0,0,0,kK⟩
abbrev Mt:lh:=⟨Qq,0,0,0,0,0,0,0,0,0,0,0,0,0,0,false,vG,kK⟩
abbrev WY(m:lh):C:=.agg (AT m)
abbrev Can(a:lM):C:=.agg (xK a)
abbrev WZ(o:lX):C:=.agg (wy o)
abbrev ZO(m:lh):List C:=[I m.zg,I m.pc,I m.zn,I m.version,I m.listen,I m.zi,I m.end_,I m.other,I m.slot,U m.word,I m.link,I m.i,I m.k,I m.sum,Bo m.done]++xK m.answer++E5 m.counts
abbrev zEq(n:Int):List C:=[I n,Tx [],Tx [],Tx [],I 0,I 0,I 0,.lq 1 0 [],.lq 1 0 [],.lq 1 0 []]
def EJ(t:Int)(a:lM):lh:={Mt with op:={Qq with kind:=2},zg:=t,version:=a.version,zi:=a.zi,end_:=a.end_,slot:=a.slot,listen:=if a.kind=1 then a.listen else -1,pc:=if a.kind=1 then 0 else 9}
def MQ(t:Int)(a:lM):tp 92 [] [I t,Can a] (.agg (zEq 2++ZO (EJ t a))) []:=by
 refine ab func92 ?_;unfold EJ;refine⟨λh=>?_,λh=>?_⟩
 ·have h1:a.kind≠1:=by simpa using h
  rw[pw h1,pw h1];exact dT
 ·have h1:a.kind=1:=by simpa using h
  rw[pA h1,pA h1];exact dT
def FA(o:lX)(given:List lM):lM:=if 0<=o.n/\o.n<(qQ given).length then (given[(qQ given).getD o.n.toNat 0]?).getD vG else vG
def xC(t:Int)(o:lX)(given:List lM):lh:=if o.kind=2 then {EJ t (FA o given) with op:=o} else {Mt with op:=o,zg:=t,listen:= -1}
def Vz{o:lX}{given:List lM}(h0:0<=o.n)(h1:o.n<(qQ given).length):∃i a,(qQ given)[o.n.toNat]?=some i/\given[i]?=some a/\FA o given=a:=by
 have hi:(qQ given)[o.n.toNat]?=some ((qQ given)[o.n.toNat]'aw):=pa _;have lu:=wu given given.length (pI _) _ (pY (l:=qQ given) (n:=o.n.toNat) aw);refine⟨_,given[(qQ given)[o.n.toNat]'aw],hi,pa _,?_⟩;unfold FA;rw[pA ⟨h0,h1⟩,sS,hi,Option.getD_some,pa lu]
 rfl
def NH{o:lX}{given:List lM}(h:¬(0<=o.n/\o.n<(qQ given).length)):FA o given=vG:=pw h
def zoJ(t:Int)(o:lX)(given:List lM)(hlen:given.length<1000000000000):tp 62 [] [I t,WZ o,lA given] (WY (xC t o given)) []:=by
 have m1:((qQ given).map λ(n:Nat)=>[I (n:Int)]).length=(qQ given).length:=pB ..;have hl:=wV given given.length;have mA:(given.map xK).length=given.length:=pB ..;have eb:o.kind=2->xC t o given={EJ t (FA o given) with op:=o}:=λh=>pA h
 have eb2:o.kind≠2->xC t o given={Mt with op:=o,zg:=t,listen:= -1}:=λh=>pw h
 refine ab func62 ?_;refine⟨λhk=>?_,λhk=>?_⟩
 ·have h1:o.kind≠2:=by simpa using hk
  rw[eb2 h1];exact dT
 ·have h1:o.kind=2:=by simpa using hk
  rw[eb h1];refine dd ?_;refine ah (Te given hlen) ?_;refine⟨λh2=>?_,λh2=>?_⟩
  ·have g0:0<=o.n:=by simpa using h2
   refine dd ?_;have el:((List.map (λ(n:Nat)=>(n:Int)) (qQ given)).map Hy.encI).length=(qQ given).length:=aj
   rw[el];refine⟨λh3=>?_,λh3=>?_⟩
   ·have g1:o.n<(qQ given).length:=by simpa using h3
    obtain⟨i,a,q1,q2,q3⟩:=Vz g0 g1;have r1:((List.map (λ(n:Nat)=>(n:Int)) (qQ given)).map Hy.encI)[o.n.toNat]?=some (Hy.encI (i:Int)):=by rw[pj,pj,q1];rfl
    have r2:(given.map xK)[i]?=some (xK a):=by rw[pj,q2];rfl
    rw[q3];refine dd ?_;refine⟨g0,_,r1,dd ?_⟩;refine⟨aw,_,(by rw[toNat_cast];exact r2),dd ?_⟩;refine ah (MQ t a) ?_;exact uI
   ·have g1:¬(0<=o.n/\o.n<(qQ given).length):=by
     have:¬o.n<(qQ given).length:=aq h3
     omega
    rw[NH g1];refine dd ?_;refine ah (MQ t vG) ?_;exact uI
  ·have g1:¬(0<=o.n/\o.n<(qQ given).length):=by
    have:¬0<=o.n:=aq h2
    omega
   rw[NH g1];refine dd ?_;refine tf ?_
   refine ah (MQ t vG) ?_;exact uI
end Go.Beg
namespace Go.Pla
open Go.Ab Go.Proofs Tryz Go.Hy
def zvD:tp 93 [] [I 1] (.mZ 221 (.fn 126 [] [])) []:=by
 refine ab func93 ?_;refine tf ?_;(refine⟨ar,_,rfl,dd ?_⟩);exact uI
def zvE:tp 93 [] [I 2] (.mZ 221 (.fn 127 [] [])) []:=by
 refine ab func93 ?_;refine tf ?_;(refine⟨ar,_,rfl,dd ?_⟩);exact uI
def zvF:tp 93 [] [I 3] (.mZ 221 (.fn 128 [] [])) []:=by
 refine ab func93 ?_;refine tf ?_;(refine⟨ar,_,rfl,dd ?_⟩);exact uI
def zvG:tp 93 [] [I 4] (.mZ 221 (.fn 129 [] [])) []:=by
 refine ab func93 ?_;refine tf ?_;(refine⟨ar,_,rfl,dd ?_⟩);exact uI
def zvH:tp 93 [] [I 5] (.mZ 221 (.fn 130 [] [])) []:=by
 refine ab func93 ?_;refine tf ?_;(refine⟨ar,_,rfl,dd ?_⟩);exact uI
def zvI:tp 93 [] [I 6] (.mZ 221 (.fn 131 [] [])) []:=by
 refine ab func93 ?_;refine tf ?_;(refine⟨ar,_,rfl,dd ?_⟩);exact uI
abbrev Sw(w:Wor):C:=.agg (kY w)
abbrev Sm(m:lh):C:=.agg (AT m)
abbrev Se(e:lD):C:=.agg (jd e)
abbrev Sr(w:Wor)(m:lh)(e:lD):C:=.lK [Sw w,Sm m,Se e]
def ztc{w w':Wor}{m m':lh}{e:lD}(h:tp 126 [] [Sw w,Sm m] (Sr w' m' e) []):tp 277 [] [.fn 126 [] [],Sw w,Sm m] (Sr w' m' e) []:=by
 exact dV
def zqj{w w':Wor}{m m':lh}{e:lD}(hk:m.op.kind=1)(h:tp 126 [] [Sw w,Sm m] (Sr w' m' e) []):tp 63 [] [Sw w,Sm m] (Sr w' m' e) []:=by
 (have ho:=zvD);(rw[<-hk]at ho);refine ab func63 ?_;refine ah ho ?_;refine tf ?_;(refine⟨277,au,rfl,_,_,(ztc h).frame O _,dd ?_⟩);exact uI
def ztd{w w':Wor}{m m':lh}{e:lD}(h:tp 127 [] [Sw w,Sm m] (Sr w' m' e) []):tp 277 [] [.fn 127 [] [],Sw w,Sm m] (Sr w' m' e) []:=by
 exact dV
def zqk{w w':Wor}{m m':lh}{e:lD}(hk:m.op.kind=2)(h:tp 127 [] [Sw w,Sm m] (Sr w' m' e) []):tp 63 [] [Sw w,Sm m] (Sr w' m' e) []:=by
 (have ho:=zvE);(rw[<-hk]at ho);refine ab func63 ?_;refine ah ho ?_;refine tf ?_;(refine⟨277,au,rfl,_,_,(ztd h).frame O _,dd ?_⟩);exact uI
def zte{w w':Wor}{m m':lh}{e:lD}(h:tp 128 [] [Sw w,Sm m] (Sr w' m' e) []):tp 277 [] [.fn 128 [] [],Sw w,Sm m] (Sr w' m' e) []:=by
 exact dV
def zql{w w':Wor}{m m':lh}{e:lD}(hk:m.op.kind=3)(h:tp 128 [] [Sw w,Sm m] (Sr w' m' e) []):tp 63 [] [Sw w,Sm m] (Sr w' m' e) []:=by
 (have ho:=zvF);(rw[<-hk]at ho);refine ab func63 ?_;refine ah ho ?_;refine tf ?_;(refine⟨277,au,rfl,_,_,(zte h).frame O _,dd ?_⟩);exact uI
def ztf{w w':Wor}{m m':lh}{e:lD}(h:tp 129 [] [Sw w,Sm m] (Sr w' m' e) []):tp 277 [] [.fn 129 [] [],Sw w,Sm m] (Sr w' m' e) []:=by
 exact dV
def zqm{w w':Wor}{m m':lh}{e:lD}(hk:m.op.kind=4)(h:tp 129 [] [Sw w,Sm m] (Sr w' m' e) []):tp 63 [] [Sw w,Sm m] (Sr w' m' e) []:=by
 (have ho:=zvG);(rw[<-hk]at ho);refine ab func63 ?_;refine ah ho ?_;refine tf ?_;(refine⟨277,au,rfl,_,_,(ztf h).frame O _,dd ?_⟩);exact uI
def ztg{w w':Wor}{m m':lh}{e:lD}(h:tp 130 [] [Sw w,Sm m] (Sr w' m' e) []):tp 277 [] [.fn 130 [] [],Sw w,Sm m] (Sr w' m' e) []:=by
 exact dV
def zqn{w w':Wor}{m m':lh}{e:lD}(hk:m.op.kind=5)(h:tp 130 [] [Sw w,Sm m] (Sr w' m' e) []):tp 63 [] [Sw w,Sm m] (Sr w' m' e) []:=by
 (have ho:=zvH);(rw[<-hk]at ho);refine ab func63 ?_;refine ah ho ?_;refine tf ?_;(refine⟨277,au,rfl,_,_,(ztg h).frame O _,dd ?_⟩);exact uI
def zth{w w':Wor}{m m':lh}{e:lD}(h:tp 131 [] [Sw w,Sm m] (Sr w' m' e) []):tp 277 [] [.fn 131 [] [],Sw w,Sm m] (Sr w' m' e) []:=by
 exact dV
def zqo{w w':Wor}{m m':lh}{e:lD}(hk:m.op.kind=6)(h:tp 131 [] [Sw w,Sm m] (Sr w' m' e) []):tp 63 [] [Sw w,Sm m] (Sr w' m' e) []:=by
 (have ho:=zvI);(rw[<-hk]at ho);refine ab func63 ?_;refine ah ho ?_;refine tf ?_;(refine⟨277,au,rfl,_,_,(zth h).frame O _,dd ?_⟩);exact uI
abbrev Jk:lD:=⟨0,0,0,0,0,false,0,false,false,false,⟨0,0,0,0,0,0,0,kK⟩⟩
inductive He:Nat->Wor->lh->Wor->lh->Prop
 |last {w w':Wor} {m m':lh} {e:lD} (h:tp 63 [] [Sw w,Sm m] (Sr w' m' e) []) (he:e.access≠0) (hd:m'.done=true):He 1 w m w' m'
 |more {n:Nat} {w w' w2:Wor} {m m' m2:lh} {e:lD} (h:tp 63 [] [Sw w,Sm m] (Sr w' m' e) []) (he:e.access≠0) (hd:m'.done=false) (hg:He n w' m' w2 m2):He (n+1) w m w2 m2
end Go.Pla
namespace Go.Dep
open Go.Ab
def jr:Nat->C->C
 |0,c=>c
 |k+1,c=>match c with
  |.lq o sz rows=>match rows with
   |[]=>.lq (if o=2 then 2 else 0) 0 []
   |r::rs=>.lq (if o=2 then 2 else 0) sz (r.map (jr k)::rs.map λr=>r.map (jr k))
  |.agg cs=>.agg (cs.map (jr k))
  |c=>c
def H9(k o sz:Nat)(rows:List (List C))(h:rows≠[]):jr (k+1) (.lq o sz rows)=.lq (if o=2 then 2 else 0) sz (rows.map λr=>r.map (jr k)):=by
 cases rows with
 |nil=>exact absurd O h
 |cons r rs=>rfl
def H7{f:C->C}{rows:List (List C)}{i j:Nat}{r:List C}{c:C}(h1:(rows.map λr=>r.map f)[i]?=some r)(h2:r[j]?=some c):∃r0 c0,rows[i]?=some r0/\r0[j]?=some c0/\c=f c0:=by
 rw[pj]at h1;cases h3:rows[i]? with
 |none=>rw[h3]at h1;cases h1
 |some r0=>
  rw[h3]at h1;cases h1
  rw[pj]at h2;cases h4:r0[j]? with
  |none=>rw[h4]at h2;cases h2
  |some c0=>rw[h4]at h2;cases h2;exact⟨r0,c0,rfl,h4,rfl⟩
def IH:∀(k:Nat) {E:Env} {c:C} {y:Value},L E c y->L E (jr k c) y:=by
 intro k
 induction k with
 |zero=>intro E c y h;exact h
 |succ k ih=>
  intro E c y h;cases h with
  |lq o sz rows b off cap us ho hc hsz hst hL=>
   have ho2:o≠2:=cJ
   by_cases hr:rows=[]
   ·subst hr;have e:jr (k+1) (.lq o sz [])=.lq 0 0 []:=by show C.lq (if o=2 then 2 else 0) 0 _=_;rw[pw ho2]
    rw[e];exact .lq 0 0 [] b off cap us (.inl O) hc (λr hr=>by cases hr) (λi r j c h1 h2=>by simp at h1) (λi r j c h1 h2=>by simp at h1)
   rw[H9 k o sz rows hr,pw ho2]
   have:=L.lq (E:=E) 0 sz (rows.map λr=>r.map (jr k)) b off cap us (.inl O) (aq hc)
    (λr hr=>by obtain⟨r0,h1,rfl⟩:=pZ.1 hr;simpa using hsz r0 h1)
    (λi r j c h1 h2=>by obtain⟨r0,c0,h3,h4,rfl⟩:=H7 h1 h2;exact hst i r0 j c0 h3 h4)
    (λi r j c h1 h2=>by obtain⟨r0,c0,h3,h4,rfl⟩:=H7 h1 h2;exact ih (hL i r0 j c0 h3 h4))
   rw[pB]at this;exact gh
  |xR o sz ho a=>
   have ho2:o≠2:=cJ
   have e:jr (k+1) (.lq o sz [])=.lq 0 0 []:=by show C.lq (if o=2 then 2 else 0) 0 _=_;rw[pw ho2]
   rw[e];exact .xR 0 0 (.inl O) a
  |agg cs ys h1 h2 h3=>
   have:=LL.lQ (f:=jr k) (E':=E) (cs:=cs) (ys:=ys.toList) ⟨aq h1,λi c y e1 e2=>h2 i c y e1 uZ⟩ (λc y hl=>ih hl);exact dU
  |v x hx=>exact .v _ hx
  |jK cells b off us hst hL=>exact .jK cells b off us hst hL
  |ref id hops sz i j hn=>exact .ref id hops sz i j hn
  |sl id hops sz lo len full cap hn hlen hf hf'=>exact .sl id hops sz lo len full cap hn hlen hf hf'
  |fn f first caps ys zs h1 h2 h3 h4=>exact .fn f first caps ys zs h1 h2 h3 h4
  |mp id hn=>exact .mp id hn
  |lK cs ys h1 h2=>exact .lK cs ys h1 h2
  |un=>exact .un
  |za y=>exact .za y
  |gl id sz rows y hn hg h=>exact .gl id sz rows y hn hg h
  |mZ t c y h=>exact .mZ t c y h
def kI:Nat->C->Bool
 |0,_=>true
 |k+1,c=>match c with
  |.lq o _ rows=>o == 0 && rows.all λr=>r.all (kI k)
  |.agg cs=>cs.all (kI k)
  |_=>true
def HT:∀(k:Nat) {E:Env} {c:C} {y:Value},kI k c=true->L E (jr k c) y->L E c y:=by
 intro k
 induction k with
 |zero=>intro E c y _ h;exact h
 |succ k ih=>
  intro E c y hp h;cases c with
  |lq o sz rows=>
   simp only[kI,pG,rJ,pH]at hp;obtain⟨rfl,hp⟩:=hp;by_cases hr:rows=[]
   ·subst hr;have h:L E (.lq 0 0 []) y:=h;exact WC.none 0 0 sz E y h
   rw[H9 k 0 sz rows hr,pw ar]at h;generalize hgr:(rows.map λr=>r.map (jr k))=rows' at h;cases h with
   |lq _ _ _ b off cap us ho hc hsz hst hL=>
    subst hgr
    have back:∀{i:Nat} {r:List C} {j:Nat} {c:C},rows[i]?=some r->r[j]?=some c->(rows.map λr=>r.map (jr k))[i]?=some (r.map (jr k))/\(r.map (jr k))[j]?=some (jr k c):=λh1 h2=>by
     rw[pj,h1,pj,h2];exact gD
    have:=L.lq (E:=E) 0 sz rows b off cap us (.inl O) (aq hc)
     (λr hr=>by have:=hsz _ (iN (f:=λr=>r.map (jr k)) hr);simpa using this)
     (λi r j c h1 h2=>hst i _ j _ (back h1 h2).1 (back h1 h2).2)
     (λi r j c h1 h2=>ih (hp r (pq h1) c (pq h2)) (hL i _ j _ (back h1 h2).1 (back h1 h2).2))
    rw[pB];exact gh
   |xR o sz ho a=>exact absurd (List.map_eq_nil_iff.1 hgr) hr
  |agg cs=>
   have hp:cs.all (kI k)=true:=hp;rw[pH]at hp;have h:L E (.agg (cs.map (jr k))) y:=h;generalize hg:cs.map (jr k)=cs' at h;cases h with
   |agg _ ys h1 h2 h3=>
    subst hg;refine .agg cs ys tE (λi c y e1 e2=>ih (hp c (pq e1)) (h2 i _ y (by rw[pj,e1];rfl) e2)) h3
  |_=>exact h
def zc.deep{P:Program}{f:FuncId}{H H':zo}{args:List C}{r:C}(k:Nat)(h:zc P f H args r H'){r':C}(hp:kI k r'=true)(hr:jr k r=jr k r'):zc P f H args r' H':=λw E vs hh hl=>
 (h w E vs hh hl).mono λe w' ⟨v,E',h1,h2,h3,h4⟩=>⟨v,E',h1,h2,HT k hp (hr ▸ IH k h3),h4⟩
def zc.AJ{P:Program}{f:FuncId}{H H':zo}{args args':List C}{r:C}(k:Nat)(h:zc P f H args r H')(hp:args.all (kI k)=true)(ha:args'.map (jr k)=args.map (jr k)):zc P f H args' r H':=λw E vs hh hl=>
 h w E vs hh ⟨cK,λi c y e1 e2=>by
  have e3:(args'.map (jr k))[i]?=some (jr k c):=by rw[ha,pj,e1];rfl
  rw[pj]at e3;cases hx:args'[i]? with
  |none=>rw[hx]at e3;cases e3
  |some c'=>
   rw[hx]at e3;simp only[pM,p9]at e3;exact HT k (pH.1 hp c (pq e1)) (e3 ▸ IH k (hl.2 i c' y hx e2))⟩
end Go.Dep
