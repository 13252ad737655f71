import Derived.Test.YtamgiodaflkbhaaGreatVP
import Derived.Test.YtamgiodaflkbhaaGreatVS
import Derived.Test.YtamgiodaflkbhaaGreatVC
set_option linter.all false
set_option maxRecDepth 100000
set_option maxHeartbeats 4000000
namespace Go.Beg
open Go.Ab Go.Proofs Tryz Go.Hy Go.Pla
variable{o:fQ}{given:List fM}
abbrev IE:fQ:=⟨0,[],[],[],0,0,0,⟨[],[],[]⟩⟩
abbrev lZ:fM:=⟨0,0,0,0,0,0,0,Ay⟩
abbrev DJ:fx:=⟨IE,0,0,0,0,0,0,0,0,0,0,0,0,0,0,false,lZ,Ay⟩
abbrev Is(m:fx):C:=.agg (vX m)
abbrev Can(a:fM):C:=.agg (qY a)
abbrev It(o:fQ):C:=.agg (yB o)
abbrev Nf(m:fx):List C:=[I m.zm,I m.pc,I m.zr,I m.version,I m.listen,I m.zp,I m.end_,I m.other,I m.slot,U m.word,I m.link,I m.i,I m.k,I m.sum,Bo m.done]++qY m.answer++BF m.counts
abbrev NA(n:Int):List C:=[I n,Tx [],Tx [],Tx [],I 0,I 0,I 0,.fq 1 0 [],.fq 1 0 [],.fq 1 0 []]
def xW(t:Int)(a:fM):fx:={DJ with op:={IE with kind:=2},zm:=t,version:=a.version,zp:=a.zp,end_:=a.end_,slot:=a.slot,listen:=if a.kind=1 then a.listen else -1,pc:=if a.kind=1 then 0 else 9}
def FM(t:Int)(a:fM):th 83 [] [I t,Can a] (.agg (NA 2++Nf (xW t a))) []:=by
 refine ab func83 ?_;unfold xW;refine⟨λh=>?_,λh=>?_⟩
 .have h1:a.kind≠1:=by simpa using h
  rw[pA h1,pA h1];exact dB
 .have h1:a.kind=1:=by simpa using h
  rw[pD h1,pD h1];exact dB
def FF(t:Int)(a:fM):th 47 [] [I t,Can a] (.agg (NA 2++Nf (xW t a))) []:=by
 refine ab func47 ?_;unfold xW;refine⟨λh=>?_,λh=>?_⟩
 .have h1:a.kind≠1:=by simpa using h
  rw[pA h1,pA h1];exact dB
 .have h1:a.kind=1:=by simpa using h
  rw[pD h1,pD h1];exact dB
def o5(o:fQ)(given:List fM):fM:=if 0<=o.n/\o.n<(q7 given).length then (given[(q7 given).getD o.n.toNat 0]?).getD lZ else lZ
def xS(t:Int)(o:fQ)(given:List fM):fx:=if o.kind=2 then {xW t (o5 o given) with op:=o} else {DJ with op:=o,zm:=t,listen:= -1}
def LK(h0:0<=o.n)(h1:o.n<(q7 given).length):∃i a,(q7 given)[o.n.toNat]?=some i/\given[i]?=some a/\o5 o given=a:=by
 have hi:(q7 given)[o.n.toNat]?=some ((q7 given)[o.n.toNat]'an):=pq _;have ft:=wO given given.length (pN _) _ (rj (l:=q7 given) (n:=o.n.toNat) an);refine⟨_,given[(q7 given)[o.n.toNat]'an],hi,pq _,?_⟩;unfold o5;rw[pD ⟨h0,h1⟩,e7,hi,rO,pq ft]
 rfl
def D9(h:¬(0<=o.n/\o.n<(q7 given).length)):o5 o given=lZ:=pA h
def Jd(t:Int)(o:fQ)(given:List fM)(hlen:given.length<1000000000000):th 41 [] [I t,It o,lA given] (Is (xS t o given)) []:=by
 have m1:((q7 given).map λ(n:Nat)=>[I (n:Int)]).length=(q7 given).length:=pz ..;have hl:=ke given given.length;have mA:(given.map qY).length=given.length:=pz ..;have eb:o.kind=2->xS t o given={xW t (o5 o given) with op:=o}:=λh=>pD h
 have eb2:o.kind≠2->xS t o given={DJ with op:=o,zm:=t,listen:= -1}:=λh=>pA h
 refine ab func41 ?_;refine⟨λhk=>?_,λhk=>?_⟩
 .have h1:o.kind≠2:=by simpa using hk
  rw[eb2 h1];exact dB
 .have h1:o.kind=2:=by simpa using hk
  rw[eb h1];refine dd ?_;refine af (SK given hlen) ?_;refine⟨λh2=>?_,λh2=>?_⟩
  .have g0:0<=o.n:=by simpa using h2
   refine dd ?_;have el:((List.map (λ(n:Nat)=>(n:Int)) (q7 given)).map Hy.encI).length=(q7 given).length:=ah
   rw[el];refine⟨λh3=>?_,λh3=>?_⟩
   .have g1:o.n<(q7 given).length:=by simpa using h3
    obtain⟨i,a,q1,q2,q3⟩:=LK g0 g1;have r1:((List.map (λ(n:Nat)=>(n:Int)) (q7 given)).map Hy.encI)[o.n.toNat]?=some (Hy.encI (i:Int)):=by rw[pw,pw,q1];rfl
    have r2:(given.map qY)[i]?=some (qY a):=by rw[pw,q2];rfl
    rw[q3];refine dd ?_;refine⟨g0,_,r1,dd ?_⟩;refine⟨an,_,(by rw[toNat_cast];exact r2),dd ?_⟩;refine af (FM t a) ?_;exact uI
   .have g1:¬(0<=o.n/\o.n<(q7 given).length):=by
     have:¬o.n<(q7 given).length:=ai h3
     omega
    rw[D9 g1];refine dd ?_;refine af (FM t lZ) ?_;exact uI
  .have g1:¬(0<=o.n/\o.n<(q7 given).length):=by
    have:¬0<=o.n:=ai h2
    omega
   rw[D9 g1];refine zac ?_
   refine af (FM t lZ) ?_;exact uI
def PH(t:Int)(o:fQ)(given:List fM)(hlen:given.length<1000000000000):th 22 [] [I t,It o,lA given] (Is (xS t o given)) []:=by
 have m1:((q7 given).map λ(n:Nat)=>[I (n:Int)]).length=(q7 given).length:=pz ..;have hl:=ke given given.length;have mA:(given.map qY).length=given.length:=pz ..;have eb:o.kind=2->xS t o given={xW t (o5 o given) with op:=o}:=λh=>pD h
 have eb2:o.kind≠2->xS t o given={DJ with op:=o,zm:=t,listen:= -1}:=λh=>pA h
 refine ab func22 ?_;refine⟨λhk=>?_,λhk=>?_⟩
 .have h1:o.kind≠2:=by simpa using hk
  rw[eb2 h1];exact dB
 .have h1:o.kind=2:=by simpa using hk
  rw[eb h1];refine dd ?_;refine af (Ro given hlen) ?_;refine⟨λh2=>?_,λh2=>?_⟩
  .have g0:0<=o.n:=by simpa using h2
   refine dd ?_;have el:((List.map (λ(n:Nat)=>(n:Int)) (q7 given)).map Hy.encI).length=(q7 given).length:=ah
   rw[el];refine⟨λh3=>?_,λh3=>?_⟩
   .have g1:o.n<(q7 given).length:=by simpa using h3
    obtain⟨i,a,q1,q2,q3⟩:=LK g0 g1;have r1:((List.map (λ(n:Nat)=>(n:Int)) (q7 given)).map Hy.encI)[o.n.toNat]?=some (Hy.encI (i:Int)):=by rw[pw,pw,q1];rfl
    have r2:(given.map qY)[i]?=some (qY a):=by rw[pw,q2];rfl
    rw[q3];refine dd ?_;refine⟨g0,_,r1,dd ?_⟩;refine⟨an,_,(by rw[toNat_cast];exact r2),dd ?_⟩;refine af (FF t a) ?_;exact uI
   .have g1:¬(0<=o.n/\o.n<(q7 given).length):=by
     have:¬o.n<(q7 given).length:=ai h3
     omega
    rw[D9 g1];refine dd ?_;refine af (FF t lZ) ?_;exact uI
  .have g1:¬(0<=o.n/\o.n<(q7 given).length):=by
    have:¬0<=o.n:=ai h2
    omega
   rw[D9 g1];refine zac ?_
   refine af (FF t lZ) ?_;exact uI
end Go.Beg
namespace Go.Pla
open Go.Ab Go.Proofs Tryz Go.Hy
variable{w w':Wor}{m m':fx}{e:fF}
def TU:th 84 [] [I 1] (.iq 205 (.fn 137 [] [])) []:=by
 exact zbi
def U0:th 84 [] [I 2] (.iq 205 (.fn 138 [] [])) []:=by
 exact zbi
def U1:th 84 [] [I 3] (.iq 205 (.fn 139 [] [])) []:=by
 exact zbi
def U2:th 84 [] [I 4] (.iq 205 (.fn 140 [] [])) []:=by
 exact zbi
def U3:th 84 [] [I 5] (.iq 205 (.fn 141 [] [])) []:=by
 exact zbi
def U4:th 84 [] [I 6] (.iq 205 (.fn 142 [] [])) []:=by
 exact zbi
def Tl(k:Int)(h:¬(1<=k/\k<=6)):th 84 [] [I k] (.iq 165 (.agg [])) []:=by
 refine ab func84 ?_;refine⟨λh1=>?_,λh1=>?_⟩
 .refine zac ?_
  exact uI
 .refine dd ?_
  have h2:6<k:=by
   have:¬k<1:=ai h1
   omega
  refine⟨λ_=>dd ?_,λh=>absurd h tM⟩;refine td ?_
  exact uI
abbrev Sw(w:Wor):C:=.agg (xc w)
abbrev Sm(m:fx):C:=.agg (vX m)
abbrev Se(e:fF):C:=.agg (jb e)
abbrev Sr(w:Wor)(m:fx)(e:fF):C:=.fy [Sw w,Sm m,Se e]
def TG(h:th 137 [] [Sw w,Sm m] (Sr w' m' e) []):th 327 [] [.fn 137 [] [],Sw w,Sm m] (Sr w' m' e) []:=by
 exact gD
def JA(hk:m.op.kind=1)(h:th 137 [] [Sw w,Sm m] (Sr w' m' e) []):th 42 [] [Sw w,Sm m] (Sr w' m' e) []:=by
 (have ho:=TU);(rw[<-hk]at ho);refine zcf ?_;(refine⟨327,ak,rfl,_,_,(TG h).frame V _,dd ?_⟩);exact uI
def TH(h:th 138 [] [Sw w,Sm m] (Sr w' m' e) []):th 327 [] [.fn 138 [] [],Sw w,Sm m] (Sr w' m' e) []:=by
 exact gD
def FU(hk:m.op.kind=2)(h:th 138 [] [Sw w,Sm m] (Sr w' m' e) []):th 42 [] [Sw w,Sm m] (Sr w' m' e) []:=by
 (have ho:=U0);(rw[<-hk]at ho);refine zcf ?_;(refine⟨327,ak,rfl,_,_,(TH h).frame V _,dd ?_⟩);exact uI
def TI(h:th 139 [] [Sw w,Sm m] (Sr w' m' e) []):th 327 [] [.fn 139 [] [],Sw w,Sm m] (Sr w' m' e) []:=by
 exact gD
def FV(hk:m.op.kind=3)(h:th 139 [] [Sw w,Sm m] (Sr w' m' e) []):th 42 [] [Sw w,Sm m] (Sr w' m' e) []:=by
 (have ho:=U1);(rw[<-hk]at ho);refine zcf ?_;(refine⟨327,ak,rfl,_,_,(TI h).frame V _,dd ?_⟩);exact uI
def TJ(h:th 140 [] [Sw w,Sm m] (Sr w' m' e) []):th 327 [] [.fn 140 [] [],Sw w,Sm m] (Sr w' m' e) []:=by
 exact gD
def JB(hk:m.op.kind=4)(h:th 140 [] [Sw w,Sm m] (Sr w' m' e) []):th 42 [] [Sw w,Sm m] (Sr w' m' e) []:=by
 (have ho:=U2);(rw[<-hk]at ho);refine zcf ?_;(refine⟨327,ak,rfl,_,_,(TJ h).frame V _,dd ?_⟩);exact uI
def TK(h:th 141 [] [Sw w,Sm m] (Sr w' m' e) []):th 327 [] [.fn 141 [] [],Sw w,Sm m] (Sr w' m' e) []:=by
 exact gD
def FW(hk:m.op.kind=5)(h:th 141 [] [Sw w,Sm m] (Sr w' m' e) []):th 42 [] [Sw w,Sm m] (Sr w' m' e) []:=by
 (have ho:=U3);(rw[<-hk]at ho);refine zcf ?_;(refine⟨327,ak,rfl,_,_,(TK h).frame V _,dd ?_⟩);exact uI
def TL(h:th 142 [] [Sw w,Sm m] (Sr w' m' e) []):th 327 [] [.fn 142 [] [],Sw w,Sm m] (Sr w' m' e) []:=by
 exact gD
def FX(hk:m.op.kind=6)(h:th 142 [] [Sw w,Sm m] (Sr w' m' e) []):th 42 [] [Sw w,Sm m] (Sr w' m' e) []:=by
 (have ho:=U4);(rw[<-hk]at ho);refine zcf ?_;(refine⟨327,ak,rfl,_,_,(TL h).frame V _,dd ?_⟩);exact uI
abbrev mz:fF:=⟨0,0,0,0,0,false,0,false,false,false,⟨0,0,0,0,0,0,0,Ay⟩⟩
def Jk(w:Wor)(m:fx)(hk:¬(1<=m.op.kind/\m.op.kind<=6)):th 42 [] [Sw w,Sm m] (Sr w m mz) []:=by
 refine ab func42 ?_;refine af (Tl _ hk) ?_;refine td ?_
 refine .inl ⟨⟨false,[0,1],[0,1],[]⟩,ak,uH ?_⟩;refine tc ?_
 exact uI
inductive Ii:Nat->Wor->fx->Wor->fx->Prop
 |last {w w':Wor} {m m':fx} {e:fF} (h:th 42 [] [Sw w,Sm m] (Sr w' m' e) []) (he:e.access≠0) (hd:m'.done=true):Ii 1 w m w' m'
 |more {n:Nat} {w w' w2:Wor} {m m' m2:fx} {e:fF} (h:th 42 [] [Sw w,Sm m] (Sr w' m' e) []) (he:e.access≠0) (hd:m'.done=false) (hg:Ii n w' m' w2 m2):Ii (n+1) w m w2 m2
end Go.Pla
namespace Go.Dep
open Go.Ab
def yf:Nat->C->C
 |0,c=>c
 |k+1,c=>match c with
  |.fq o sz rows=>match rows with
   |[]=>.fq (if o=2 then 2 else 0) 0 []
   |r::rs=>.fq (if o=2 then 2 else 0) sz (r.map (yf k)::rs.map λr=>r.map (yf k))
  |.agg cs=>.agg (cs.map (yf k))
  |c=>c
def KX(k o sz:Nat)(rows:List (List C))(h:rows≠[]):yf (k+1) (.fq o sz rows)=.fq (if o=2 then 2 else 0) sz (rows.map λr=>r.map (yf k)):=by
 cases rows with
 |nil=>exact absurd V h
 |cons r rs=>rfl
def KU{f:C->C}{rows:List (List C)}{i j:Nat}{r:List C}{c:C}(h1:(rows.map λr=>r.map f)[i]?=some r)(h2:r[j]?=some c):∃r0 c0,rows[i]?=some r0/\r0[j]?=some c0/\c=f c0:=by
 rw[pw]at h1;cases h3:rows[i]? with
 |none=>rw[h3]at h1;cases h1
 |some r0=>
  rw[h3]at h1;cases h1
  rw[pw]at h2;cases h4:r0[j]? with
  |none=>rw[h4]at h2;cases h2
  |some c0=>rw[h4]at h2;cases h2;exact⟨r0,c0,rfl,h4,rfl⟩
def Me:∀(k:Nat) {E:Env} {c:C} {y:Value},L E c y->L E (yf k c) y:=by
 intro k
 induction k with
 |zero=>intro E c y h;exact h
 |succ k ih=>
  intro E c y h;cases h with
  |fq o sz rows b off cap us ho hc hsz hst hL=>
   have ho2:o≠2:=by rcases ho with h|h <;> omega
   by_cases hr:rows=[]
   .subst hr;have e:yf (k+1) (.fq o sz [])=.fq 0 0 []:=by show C.fq (if o=2 then 2 else 0) 0 _=_;rw[pA ho2]
    rw[e];exact .fq 0 0 [] b off cap us (.inl V) hc (λr hr=>by cases hr) (λi r j c h1 h2=>by simp at h1) (λi r j c h1 h2=>by simp at h1)
   rw[KX k o sz rows hr,pA ho2]
   have:=L.fq (E:=E) 0 sz (rows.map λr=>r.map (yf k)) b off cap us (.inl V) (ai hc)
    (λr hr=>by obtain⟨r0,h1,rfl⟩:=rp.1 hr;simpa using hsz r0 h1)
    (λi r j c h1 h2=>by obtain⟨r0,c0,h3,h4,rfl⟩:=KU h1 h2;exact hst i r0 j c0 h3 h4)
    (λi r j c h1 h2=>by obtain⟨r0,c0,h3,h4,rfl⟩:=KU h1 h2;exact ih (hL i r0 j c0 h3 h4))
   rw[pz]at this;exact gI
  |xA o sz ho a=>
   have ho2:o≠2:=by rcases ho with h|h <;> omega
   have e:yf (k+1) (.fq o sz [])=.fq 0 0 []:=by show C.fq (if o=2 then 2 else 0) 0 _=_;rw[pA ho2]
   rw[e];exact .xA 0 0 (.inl V) a
  |agg cs ys h1 h2 h3=>
   have:=LL.fD (f:=yf k) (E':=E) (cs:=cs) (ys:=ys.toList) ⟨ai h1,λi c y e1 e2=>h2 i c y e1 uX⟩ (λc y hl=>ih hl);exact gJ
  |v x hx=>exact .v _ hx
  |jR cells b off us hst hL=>exact .jR cells b off us hst hL
  |ref id hops sz i j hn=>exact .ref id hops sz i j hn
  |sl id hops sz lo len full cap hn hlen hf hf'=>exact .sl id hops sz lo len full cap hn hlen hf hf'
  |fn f first caps ys zs h1 h2 h3 h4=>exact .fn f first caps ys zs h1 h2 h3 h4
  |mp id hn=>exact .mp id hn
  |fy cs ys h1 h2=>exact .fy cs ys h1 h2
  |un=>exact .un
  |za y=>exact .za y
  |gl id sz rows y hn hg h=>exact .gl id sz rows y hn hg h
  |iq t c y h=>exact .iq t c y h
def Br:Nat->C->Bool
 |0,_=>true
 |k+1,c=>match c with
  |.fq o _ rows=>o == 0 && rows.all λr=>r.all (Br k)
  |.agg cs=>cs.all (Br k)
  |_=>true
def Ka:∀(k:Nat) {E:Env} {c:C} {y:Value},Br k c=true->L E (yf k c) y->L E c y:=by
 intro k
 induction k with
 |zero=>intro E c y _ h;exact h
 |succ k ih=>
  intro E c y hp h;cases c with
  |fq o sz rows=>
   simp only[Br,pJ,rF,pG]at hp;obtain⟨rfl,hp⟩:=hp;by_cases hr:rows=[]
   .subst hr;have h:L E (.fq 0 0 []) y:=h;exact WC.none 0 0 sz E y h
   rw[KX k 0 sz rows hr,pA aj]at h;generalize hgr:(rows.map λr=>r.map (yf k))=rows' at h;cases h with
   |fq _ _ _ b off cap us ho hc hsz hst hL=>
    subst hgr
    have back:∀{i:Nat} {r:List C} {j:Nat} {c:C},rows[i]?=some r->r[j]?=some c->(rows.map λr=>r.map (yf k))[i]?=some (r.map (yf k))/\(r.map (yf k))[j]?=some (yf k c):=λh1 h2=>by
     rw[pw,h1,pw,h2];exact gO
    have:=L.fq (E:=E) 0 sz rows b off cap us (.inl V) (ai hc)
     (λr hr=>by have:=hsz _ (List.mem_map_of_mem (f:=λr=>r.map (yf k)) hr);simpa using this)
     (λi r j c h1 h2=>hst i _ j _ (back h1 h2).1 (back h1 h2).2)
     (λi r j c h1 h2=>ih (hp r (pE h1) c (pE h2)) (hL i _ j _ (back h1 h2).1 (back h1 h2).2))
    rw[pz];exact gI
   |xA o sz ho a=>exact absurd (List.map_eq_nil_iff.1 hgr) hr
  |agg cs=>
   have hp:cs.all (Br k)=true:=hp;rw[pG]at hp;have h:L E (.agg (cs.map (yf k))) y:=h;generalize hg:cs.map (yf k)=cs' at h;cases h with
   |agg _ ys h1 h2 h3=>
    subst hg;refine .agg cs ys uZ (λi c y e1 e2=>ih (hp c (pE e1)) (h2 i _ y (by rw[pw,e1];rfl) e2)) h3
  |_=>exact h
def zb.DB{P:Program}{f:FuncId}{H H':zq}{args args':List C}{r:C}(k:Nat)(h:zb P f H args r H')(hp:args.all (Br k)=true)(ha:args'.map (yf k)=args.map (yf k)):zb P f H args' r H':=λw E vs hh hl=>
 h w E vs hh ⟨by have:=sH List.length ha;simp at this;rw[<-this];exact hl.1,λi c y e1 e2=>by
  have e3:(args'.map (yf k))[i]?=some (yf k c):=by rw[ha,pw,e1];rfl
  rw[pw]at e3;cases hx:args'[i]? with
  |none=>rw[hx]at e3;cases e3
  |some c'=>
   rw[hx]at e3;simp only[pL,rh]at e3;exact Ka k (pG.1 hp c (pE e1)) (e3 ▸ Me k (hl.2 i c' y hx e2))⟩
end Go.Dep
