import Derived.Test.YtllehbdigpdinaaGreatTP
import Derived.Test.YtllehbdigpdinaaGreatTS
import Derived.Test.YtllehbdigpdinaaGreatTC
set_option linter.all false
set_option maxRecDepth 100000
set_option maxHeartbeats 4000000
namespace Go.Beg
open Go.Ab Go.Proofs Tryz Go.Hy Go.Pla
variable{o:fQ}{given:List fN}
abbrev Nd:fQ:=⟨0,[],[],[],0,0,0,⟨[],[],[]⟩⟩
abbrev yL:fN:=⟨0,0,0,0,0,0,0,vd⟩
abbrev MR:fD:=⟨Nd,0,0,0,0,0,0,0,0,0,0,0,0,0,0,false,yL,vd⟩
abbrev TD(m:fD):C:=.agg (mJ m)
abbrev Can(a:fN):C:=.agg (xx a)
abbrev TE(o:fQ):C:=.agg (yW o)
abbrev UR(m:fD):List C:=[I m.zf,I m.pc,I m.zl,I m.version,I m.listen,I m.zg,I m.end_,I m.other,I m.slot,U m.word,I m.link,I m.i,I m.k,I m.sum,Bo m.done]++xx m.answer++CZ m.counts
abbrev UM(n:Int):List C:=[I n,Tx [],Tx [],Tx [],I 0,I 0,I 0,.fF 1 0 [],.fF 1 0 [],.fF 1 0 []]
def De(t:Int)(a:fN):fD:={MR with op:={Nd with kind:=2},zf:=t,version:=a.version,zg:=a.zg,end_:=a.end_,slot:=a.slot,listen:=if a.kind=1 then a.listen else -1,pc:=if a.kind=1 then 0 else 9}
def JV(t:Int)(a:fN):tj 89 [] [I t,Can a] (.agg (UM 2++UR (De t a))) []:=by
 refine ab func89 ?_;unfold De;refine⟨λh=>?_,λh=>?_⟩
 .have h1:a.kind≠1:=by simpa using h
  rw[gp h1,gp h1];exact dp
 .have h1:a.kind=1:=by simpa using h
  rw[gz h1,gz h1];exact dp
def Dk(o:fQ)(given:List fN):fN:=if 0<=o.n/\o.n<(qG given).length then (given[(qG given).getD o.n.toNat 0]?).getD yL else yL
def ji(t:Int)(o:fQ)(given:List fN):fD:=if o.kind=2 then {De t (Dk o given) with op:=o} else {MR with op:=o,zf:=t,listen:= -1}
def Ro(h0:0<=o.n)(h1:o.n<(qG given).length):∃i a,(qG given)[o.n.toNat]?=some i/\given[i]?=some a/\Dk o given=a:=by
 have hi:(qG given)[o.n.toNat]?=some ((qG given)[o.n.toNat]'aw):=gk _;have fE:=ky given given.length (gG _) _ (pt (l:=qG given) (n:=o.n.toNat) aw);refine⟨_,given[(qG given)[o.n.toNat]'aw],hi,gk _,?_⟩;unfold Dk;rw[gz ⟨h0,h1⟩,eU,hi,Option.getD_some,gk fE]
 rfl
def KD(h:¬(0<=o.n/\o.n<(qG given).length)):Dk o given=yL:=gp h
def GS(t:Int)(o:fQ)(given:List fN)(hlen:given.length<1000000000000):tj 48 [] [I t,TE o,lA given] (TD (ji t o given)) []:=by
 have m1:((qG given).map λ(n:Nat)=>[I (n:Int)]).length=(qG given).length:=gC ..;have hl:=kZ given given.length;have mA:(given.map xx).length=given.length:=gC ..;have eb:o.kind=2->ji t o given={De t (Dk o given) with op:=o}:=λh=>gz h
 have eb2:o.kind≠2->ji t o given={MR with op:=o,zf:=t,listen:= -1}:=λh=>gp h
 refine ab func48 ?_;refine⟨λhk=>?_,λhk=>?_⟩
 .have h1:o.kind≠2:=by simpa using hk
  rw[eb2 h1];exact dp
 .have h1:o.kind=2:=by simpa using hk
  rw[eb h1];refine dd ?_;refine ah (PL given hlen) ?_;refine⟨λh2=>?_,λh2=>?_⟩
  .have g0:0<=o.n:=by simpa using h2
   refine dd ?_;have el:((List.map (λ(n:Nat)=>(n:Int)) (qG given)).map Hy.encI).length=(qG given).length:=aj
   rw[el];refine⟨λh3=>?_,λh3=>?_⟩
   .have g1:o.n<(qG given).length:=by simpa using h3
    obtain⟨i,a,q1,q2,q3⟩:=Ro g0 g1;have r1:((List.map (λ(n:Nat)=>(n:Int)) (qG given)).map Hy.encI)[o.n.toNat]?=some (Hy.encI (i:Int)):=by rw[gy,gy,q1];rfl
    have r2:(given.map xx)[i]?=some (xx a):=by rw[gy,q2];rfl
    rw[q3];refine dd ?_;refine⟨g0,_,r1,dd ?_⟩;refine⟨aw,_,(by rw[toNat_cast];exact r2),dd ?_⟩;refine ah (JV t a) ?_;exact uI
   .have g1:¬(0<=o.n/\o.n<(qG given).length):=by
     have:¬o.n<(qG given).length:=aq h3
     omega
    rw[KD g1];refine dd ?_;refine ah (JV t yL) ?_;exact uI
  .have g1:¬(0<=o.n/\o.n<(qG given).length):=by
    have:¬0<=o.n:=aq h2
    omega
   rw[KD g1];refine zad ?_
   refine ah (JV t yL) ?_;exact uI
end Go.Beg
namespace Go.Pla
open Go.Ab Go.Proofs Tryz Go.Hy
variable{w w':Wor}{m m':fD}{e:fG}
def ztE:tj 90 [] [I 1] (.iF 233 (.fn 133 [] [])) []:=by
 exact zaI
def ztF:tj 90 [] [I 2] (.iF 233 (.fn 134 [] [])) []:=by
 exact zaI
def ztG:tj 90 [] [I 3] (.iF 233 (.fn 135 [] [])) []:=by
 exact zaI
def ztH:tj 90 [] [I 4] (.iF 233 (.fn 136 [] [])) []:=by
 exact zaI
def ztI:tj 90 [] [I 5] (.iF 233 (.fn 137 [] [])) []:=by
 exact zaI
def ztJ:tj 90 [] [I 6] (.iF 233 (.fn 138 [] [])) []:=by
 exact zaI
abbrev Sw(w:Wor):C:=.agg (yC w)
abbrev Sm(m:fD):C:=.agg (mJ m)
abbrev Se(e:fG):C:=.agg (xv e)
abbrev Sr(w:Wor)(m:fD)(e:fG):C:=.fJ [Sw w,Sm m,Se e]
def ZQ(h:tj 133 [] [Sw w,Sm m] (Sr w' m' e) []):tj 277 [] [.fn 133 [] [],Sw w,Sm m] (Sr w' m' e) []:=by
 exact dw
def XQ(hk:m.op.kind=1)(h:tj 133 [] [Sw w,Sm m] (Sr w' m' e) []):tj 49 [] [Sw w,Sm m] (Sr w' m' e) []:=by
 (have ho:=ztE);(rw[<-hk]at ho);refine za8 ?_;(refine⟨277,au,rfl,_,_,(ZQ h).frame V _,dd ?_⟩);exact uI
def ZR(h:tj 134 [] [Sw w,Sm m] (Sr w' m' e) []):tj 277 [] [.fn 134 [] [],Sw w,Sm m] (Sr w' m' e) []:=by
 exact dw
def XR(hk:m.op.kind=2)(h:tj 134 [] [Sw w,Sm m] (Sr w' m' e) []):tj 49 [] [Sw w,Sm m] (Sr w' m' e) []:=by
 (have ho:=ztF);(rw[<-hk]at ho);refine za8 ?_;(refine⟨277,au,rfl,_,_,(ZR h).frame V _,dd ?_⟩);exact uI
def ZS(h:tj 135 [] [Sw w,Sm m] (Sr w' m' e) []):tj 277 [] [.fn 135 [] [],Sw w,Sm m] (Sr w' m' e) []:=by
 exact dw
def JZ(hk:m.op.kind=3)(h:tj 135 [] [Sw w,Sm m] (Sr w' m' e) []):tj 49 [] [Sw w,Sm m] (Sr w' m' e) []:=by
 (have ho:=ztG);(rw[<-hk]at ho);refine za8 ?_;(refine⟨277,au,rfl,_,_,(ZS h).frame V _,dd ?_⟩);exact uI
def ZT(h:tj 136 [] [Sw w,Sm m] (Sr w' m' e) []):tj 277 [] [.fn 136 [] [],Sw w,Sm m] (Sr w' m' e) []:=by
 exact dw
def XS(hk:m.op.kind=4)(h:tj 136 [] [Sw w,Sm m] (Sr w' m' e) []):tj 49 [] [Sw w,Sm m] (Sr w' m' e) []:=by
 (have ho:=ztH);(rw[<-hk]at ho);refine za8 ?_;(refine⟨277,au,rfl,_,_,(ZT h).frame V _,dd ?_⟩);exact uI
def ZU(h:tj 137 [] [Sw w,Sm m] (Sr w' m' e) []):tj 277 [] [.fn 137 [] [],Sw w,Sm m] (Sr w' m' e) []:=by
 exact dw
def OL(hk:m.op.kind=5)(h:tj 137 [] [Sw w,Sm m] (Sr w' m' e) []):tj 49 [] [Sw w,Sm m] (Sr w' m' e) []:=by
 (have ho:=ztI);(rw[<-hk]at ho);refine za8 ?_;(refine⟨277,au,rfl,_,_,(ZU h).frame V _,dd ?_⟩);exact uI
def ZV(h:tj 138 [] [Sw w,Sm m] (Sr w' m' e) []):tj 277 [] [.fn 138 [] [],Sw w,Sm m] (Sr w' m' e) []:=by
 exact dw
def XT(hk:m.op.kind=6)(h:tj 138 [] [Sw w,Sm m] (Sr w' m' e) []):tj 49 [] [Sw w,Sm m] (Sr w' m' e) []:=by
 (have ho:=ztJ);(rw[<-hk]at ho);refine za8 ?_;(refine⟨277,au,rfl,_,_,(ZV h).frame V _,dd ?_⟩);exact uI
abbrev EV:fG:=⟨0,0,0,0,0,false,0,false,false,false,⟨0,0,0,0,0,0,0,vd⟩⟩
inductive nV:Nat->Wor->fD->Wor->fD->Prop
 |last {w w':Wor} {m m':fD} {e:fG} (h:tj 49 [] [Sw w,Sm m] (Sr w' m' e) []) (he:e.access≠0) (hd:m'.done=true):nV 1 w m w' m'
 |more {n:Nat} {w w' w2:Wor} {m m' m2:fD} {e:fG} (h:tj 49 [] [Sw w,Sm m] (Sr w' m' e) []) (he:e.access≠0) (hd:m'.done=false) (hg:nV n w' m' w2 m2):nV (n+1) w m w2 m2
end Go.Pla
namespace Go.Dep
open Go.Ab
def yY:Nat->C->C
 |0,c=>c
 |k+1,c=>match c with
  |.fF o sz rows=>match rows with
   |[]=>.fF (if o=2 then 2 else 0) 0 []
   |r::rs=>.fF (if o=2 then 2 else 0) sz (r.map (yY k)::rs.map λr=>r.map (yY k))
  |.agg cs=>.agg (cs.map (yY k))
  |c=>c
def P3(k o sz:Nat)(rows:List (List C))(h:rows≠[]):yY (k+1) (.fF o sz rows)=.fF (if o=2 then 2 else 0) sz (rows.map λr=>r.map (yY k)):=by
 cases rows with
 |nil=>exact absurd V h
 |cons r rs=>rfl
def Qy{f:C->C}{rows:List (List C)}{i j:Nat}{r:List C}{c:C}(h1:(rows.map λr=>r.map f)[i]?=some r)(h2:r[j]?=some c):∃r0 c0,rows[i]?=some r0/\r0[j]?=some c0/\c=f c0:=by
 rw[gy]at h1;cases h3:rows[i]? with
 |none=>rw[h3]at h1;cases h1
 |some r0=>
  rw[h3]at h1;cases h1
  rw[gy]at h2;cases h4:r0[j]? with
  |none=>rw[h4]at h2;cases h2
  |some c0=>rw[h4]at h2;cases h2;exact⟨r0,c0,rfl,h4,rfl⟩
def zxJ:∀(k:Nat) {E:Env} {c:C} {y:Value},L E c y->L E (yY k c) y:=by
 intro k
 induction k with
 |zero=>intro E c y h;exact h
 |succ k ih=>
  intro E c y h;cases h with
  |fF o sz rows b off cap us ho hc hsz hst hL=>
   have ho2:o≠2:=by rcases ho with h|h <;> omega
   by_cases hr:rows=[]
   .subst hr;have e:yY (k+1) (.fF o sz [])=.fF 0 0 []:=by show C.fF (if o=2 then 2 else 0) 0 _=_;rw[gp ho2]
    rw[e];exact .fF 0 0 [] b off cap us (.inl V) hc (λr hr=>by cases hr) (λi r j c h1 h2=>by simp at h1) (λi r j c h1 h2=>by simp at h1)
   rw[P3 k o sz rows hr,gp ho2]
   have:=L.fF (E:=E) 0 sz (rows.map λr=>r.map (yY k)) b off cap us (.inl V) (aq hc)
    (λr hr=>by obtain⟨r0,h1,rfl⟩:=gY.1 hr;simpa using hsz r0 h1)
    (λi r j c h1 h2=>by obtain⟨r0,c0,h3,h4,rfl⟩:=Qy h1 h2;exact hst i r0 j c0 h3 h4)
    (λi r j c h1 h2=>by obtain⟨r0,c0,h3,h4,rfl⟩:=Qy h1 h2;exact ih (hL i r0 j c0 h3 h4))
   rw[gC]at this;exact dG
  |xE o sz ho a=>
   have ho2:o≠2:=by rcases ho with h|h <;> omega
   have e:yY (k+1) (.fF o sz [])=.fF 0 0 []:=by show C.fF (if o=2 then 2 else 0) 0 _=_;rw[gp ho2]
   rw[e];exact .xE 0 0 (.inl V) a
  |agg cs ys h1 h2 h3=>
   have:=LL.fL (f:=yY k) (E':=E) (cs:=cs) (ys:=ys.toList) ⟨aq h1,λi c y e1 e2=>h2 i c y e1 uZ⟩ (λc y hl=>ih hl);exact dD
  |v x hx=>exact .v _ hx
  |jy cells b off us hst hL=>exact .jy cells b off us hst hL
  |ref id hops sz i j hn=>exact .ref id hops sz i j hn
  |sl id hops sz lo len full cap hn hlen hf hf'=>exact .sl id hops sz lo len full cap hn hlen hf hf'
  |fn f first caps ys zs h1 h2 h3 h4=>exact .fn f first caps ys zs h1 h2 h3 h4
  |mp id hn=>exact .mp id hn
  |fJ cs ys h1 h2=>exact .fJ cs ys h1 h2
  |un=>exact .un
  |za y=>exact .za y
  |gl id sz rows y hn hg h=>exact .gl id sz rows y hn hg h
  |iF t c y h=>exact .iF t c y h
def Eu:Nat->C->Bool
 |0,_=>true
 |k+1,c=>match c with
  |.fF o _ rows=>o == 0 && rows.all λr=>r.all (Eu k)
  |.agg cs=>cs.all (Eu k)
  |_=>true
def YT:∀(k:Nat) {E:Env} {c:C} {y:Value},Eu k c=true->L E (yY k c) y->L E c y:=by
 intro k
 induction k with
 |zero=>intro E c y _ h;exact h
 |succ k ih=>
  intro E c y hp h;cases c with
  |fF o sz rows=>
   simp only[Eu,gH,pT,gE]at hp;obtain⟨rfl,hp⟩:=hp;by_cases hr:rows=[]
   .subst hr;have h:L E (.fF 0 0 []) y:=h;exact WC.none 0 0 sz E y h
   rw[P3 k 0 sz rows hr,gp ar]at h;generalize hgr:(rows.map λr=>r.map (yY k))=rows' at h;cases h with
   |fF _ _ _ b off cap us ho hc hsz hst hL=>
    subst hgr
    have back:∀{i:Nat} {r:List C} {j:Nat} {c:C},rows[i]?=some r->r[j]?=some c->(rows.map λr=>r.map (yY k))[i]?=some (r.map (yY k))/\(r.map (yY k))[j]?=some (yY k c):=λh1 h2=>by
     rw[gy,h1,gy,h2];exact dN
    have:=L.fF (E:=E) 0 sz rows b off cap us (.inl V) (aq hc)
     (λr hr=>by have:=hsz _ (List.mem_map_of_mem (f:=λr=>r.map (yY k)) hr);simpa using this)
     (λi r j c h1 h2=>hst i _ j _ (back h1 h2).1 (back h1 h2).2)
     (λi r j c h1 h2=>ih (hp r (gu h1) c (gu h2)) (hL i _ j _ (back h1 h2).1 (back h1 h2).2))
    rw[gC];exact dG
   |xE o sz ho a=>exact absurd (List.map_eq_nil_iff.1 hgr) hr
  |agg cs=>
   have hp:cs.all (Eu k)=true:=hp;rw[gE]at hp;have h:L E (.agg (cs.map (yY k))) y:=h;generalize hg:cs.map (yY k)=cs' at h;cases h with
   |agg _ ys h1 h2 h3=>
    subst hg;refine .agg cs ys tG (λi c y e1 e2=>ih (hp c (gu e1)) (h2 i _ y (by rw[gy,e1];rfl) e2)) h3
  |_=>exact h
def zb.Bx{P:Program}{f:FuncId}{H H':zn}{args args':List C}{r:C}(k:Nat)(h:zb P f H args r H')(hp:args.all (Eu k)=true)(ha:args'.map (yY k)=args.map (yY k)):zb P f H args' r H':=λw E vs hh hl=>
 h w E vs hh ⟨by have:=rq List.length ha;simp at this;rw[<-this];exact hl.1,λi c y e1 e2=>by
  have e3:(args'.map (yY k))[i]?=some (yY k c):=by rw[ha,gy,e1];rfl
  rw[gy]at e3;cases hx:args'[i]? with
  |none=>rw[hx]at e3;cases e3
  |some c'=>
   rw[hx]at e3;simp only[gK,gX]at e3;exact YT k (gE.1 hp c (gu e1)) (e3 ▸ zxJ k (hl.2 i c' y hx e2))⟩
end Go.Dep
