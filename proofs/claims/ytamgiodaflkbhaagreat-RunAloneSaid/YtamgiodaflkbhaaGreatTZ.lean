import Derived.Test.YtamgiodaflkbhaaGreatTP
import Derived.Test.YtamgiodaflkbhaaGreatTS
import Derived.Test.YtamgiodaflkbhaaGreatTC
set_option linter.all false
set_option maxRecDepth 100000
set_option maxHeartbeats 4000000
namespace Go.Beg
open Go.Ab Go.Proofs Tryz Go.Hy Go.Pla
variable{o:ft}{given:List fe}
abbrev HS:ft:=⟨0,[],[],[],0,0,0,⟨[],[],[]⟩⟩
abbrev lj:fe:=⟨0,0,0,0,0,0,0,oq⟩
abbrev Df:eQ:=⟨HS,0,0,0,0,0,0,0,0,0,0,0,0,0,0,false,lj,oq⟩
abbrev HF(m:eQ):C:=.agg (lp m)
abbrev Can(a:fe):C:=.agg (jr a)
abbrev HG(o:ft):C:=.agg (vx o)
abbrev Mk(m:eQ):List C:=[I m.zl,I m.pc,I m.zr,I m.version,I m.listen,I m.zp,I m.end_,I m.other,I m.slot,U m.word,I m.link,I m.i,I m.k,I m.sum,Bo m.done]++jr m.answer++oX m.counts
abbrev MQ(n:Int):List C:=[I n,Tx [],Tx [],Tx [],I 0,I 0,I 0,.eM 1 0 [],.eM 1 0 [],.eM 1 0 []]
def xO(t:Int)(a:fe):eQ:={Df with op:={HS with kind:=2},zl:=t,version:=a.version,zp:=a.zp,end_:=a.end_,slot:=a.slot,listen:=if a.kind=1 then a.listen else -1,pc:=if a.kind=1 then 0 else 9}
def EW(t:Int)(a:fe):th 83 [] [I t,Can a] (.agg (MQ 2++Mk (xO t a))) []:=by
 refine ab func83 ?_;unfold xO;refine⟨λh=>?_,λh=>?_⟩
 .have h1:a.kind≠1:=by simpa using h
  rw[gP h1,gP h1];exact dg
 .have h1:a.kind=1:=by simpa using h
  rw[gS h1,gS h1];exact dg
def w9(t:Int)(a:fe):th 47 [] [I t,Can a] (.agg (MQ 2++Mk (xO t a))) []:=by
 refine ab func47 ?_;unfold xO;refine⟨λh=>?_,λh=>?_⟩
 .have h1:a.kind≠1:=by simpa using h
  rw[gP h1,gP h1];exact dg
 .have h1:a.kind=1:=by simpa using h
  rw[gS h1,gS h1];exact dg
def nZ(o:ft)(given:List fe):fe:=if 0<=o.n/\o.n<(qZ given).length then (given[(qZ given).getD o.n.toNat 0]?).getD lj else lj
def yg(t:Int)(o:ft)(given:List fe):eQ:=if o.kind=2 then {xO t (nZ o given) with op:=o} else {Df with op:=o,zl:=t,listen:= -1}
def K9(h0:0<=o.n)(h1:o.n<(qZ given).length):∃i a,(qZ given)[o.n.toNat]?=some i/\given[i]?=some a/\nZ o given=a:=by
 have hi:(qZ given)[o.n.toNat]?=some ((qZ given)[o.n.toNat]'an):=gL _;have eP:=wy given given.length (pj _) _ (pH (l:=qZ given) (n:=o.n.toNat) an);refine⟨_,given[(qZ given)[o.n.toNat]'an],hi,gL _,?_⟩;unfold nZ;rw[gS ⟨h0,h1⟩,ec,hi,rm,gL eP]
 rfl
def DB(h:¬(0<=o.n/\o.n<(qZ given).length)):nZ o given=lj:=gP h
def Fg(t:Int)(o:ft)(given:List fe)(hlen:given.length<1000000000000):th 41 [] [I t,HG o,lA given] (HF (yg t o given)) []:=by
 have m1:((qZ given).map λ(n:Nat)=>[I (n:Int)]).length=(qZ given).length:=gO ..;have hl:=vN given given.length;have mA:(given.map jr).length=given.length:=gO ..;have eb:o.kind=2->yg t o given={xO t (nZ o given) with op:=o}:=λh=>gS h
 have eb2:o.kind≠2->yg t o given={Df with op:=o,zl:=t,listen:= -1}:=λh=>gP h
 refine ab func41 ?_;refine⟨λhk=>?_,λhk=>?_⟩
 .have h1:o.kind≠2:=by simpa using hk
  rw[eb2 h1];exact dg
 .have h1:o.kind=2:=by simpa using hk
  rw[eb h1];refine dd ?_;refine af (SG given hlen) ?_;refine⟨λh2=>?_,λh2=>?_⟩
  .have g0:0<=o.n:=by simpa using h2
   refine dd ?_;have el:((List.map (λ(n:Nat)=>(n:Int)) (qZ given)).map Hy.encI).length=(qZ given).length:=ah
   rw[el];refine⟨λh3=>?_,λh3=>?_⟩
   .have g1:o.n<(qZ given).length:=by simpa using h3
    obtain⟨i,a,q1,q2,q3⟩:=K9 g0 g1;have r1:((List.map (λ(n:Nat)=>(n:Int)) (qZ given)).map Hy.encI)[o.n.toNat]?=some (Hy.encI (i:Int)):=by rw[gM,gM,q1];rfl
    have r2:(given.map jr)[i]?=some (jr a):=by rw[gM,q2];rfl
    rw[q3];refine dd ?_;refine⟨g0,_,r1,dd ?_⟩;refine⟨an,_,(by rw[toNat_cast];exact r2),dd ?_⟩;refine af (EW t a) ?_;exact uI
   .have g1:¬(0<=o.n/\o.n<(qZ given).length):=by
     have:¬o.n<(qZ given).length:=ai h3
     omega
    rw[DB g1];refine dd ?_;refine af (EW t lj) ?_;exact uI
  .have g1:¬(0<=o.n/\o.n<(qZ given).length):=by
    have:¬0<=o.n:=ai h2
    omega
   rw[DB g1];refine zac ?_
   refine af (EW t lj) ?_;exact uI
def Pd(t:Int)(o:ft)(given:List fe)(hlen:given.length<1000000000000):th 22 [] [I t,HG o,lA given] (HF (yg t o given)) []:=by
 have m1:((qZ given).map λ(n:Nat)=>[I (n:Int)]).length=(qZ given).length:=gO ..;have hl:=vN given given.length;have mA:(given.map jr).length=given.length:=gO ..;have eb:o.kind=2->yg t o given={xO t (nZ o given) with op:=o}:=λh=>gS h
 have eb2:o.kind≠2->yg t o given={Df with op:=o,zl:=t,listen:= -1}:=λh=>gP h
 refine ab func22 ?_;refine⟨λhk=>?_,λhk=>?_⟩
 .have h1:o.kind≠2:=by simpa using hk
  rw[eb2 h1];exact dg
 .have h1:o.kind=2:=by simpa using hk
  rw[eb h1];refine dd ?_;refine af (P6 given hlen) ?_;refine⟨λh2=>?_,λh2=>?_⟩
  .have g0:0<=o.n:=by simpa using h2
   refine dd ?_;have el:((List.map (λ(n:Nat)=>(n:Int)) (qZ given)).map Hy.encI).length=(qZ given).length:=ah
   rw[el];refine⟨λh3=>?_,λh3=>?_⟩
   .have g1:o.n<(qZ given).length:=by simpa using h3
    obtain⟨i,a,q1,q2,q3⟩:=K9 g0 g1;have r1:((List.map (λ(n:Nat)=>(n:Int)) (qZ given)).map Hy.encI)[o.n.toNat]?=some (Hy.encI (i:Int)):=by rw[gM,gM,q1];rfl
    have r2:(given.map jr)[i]?=some (jr a):=by rw[gM,q2];rfl
    rw[q3];refine dd ?_;refine⟨g0,_,r1,dd ?_⟩;refine⟨an,_,(by rw[toNat_cast];exact r2),dd ?_⟩;refine af (w9 t a) ?_;exact uI
   .have g1:¬(0<=o.n/\o.n<(qZ given).length):=by
     have:¬o.n<(qZ given).length:=ai h3
     omega
    rw[DB g1];refine dd ?_;refine af (w9 t lj) ?_;exact uI
  .have g1:¬(0<=o.n/\o.n<(qZ given).length):=by
    have:¬0<=o.n:=ai h2
    omega
   rw[DB g1];refine zac ?_
   refine af (w9 t lj) ?_;exact uI
end Go.Beg
namespace Go.Pla
open Go.Ab Go.Proofs Tryz Go.Hy
variable{w w':Wor}{m m':eQ}{e:e7}
def Ty:th 84 [] [I 1] (.fK 205 (.fn 137 [] [])) []:=by
 exact za4
def Tz:th 84 [] [I 2] (.fK 205 (.fn 138 [] [])) []:=by
 exact za4
def TC:th 84 [] [I 3] (.fK 205 (.fn 139 [] [])) []:=by
 exact za4
def TD:th 84 [] [I 4] (.fK 205 (.fn 140 [] [])) []:=by
 exact za4
def TE:th 84 [] [I 5] (.fK 205 (.fn 141 [] [])) []:=by
 exact za4
def TF:th 84 [] [I 6] (.fK 205 (.fn 142 [] [])) []:=by
 exact za4
def SB(k:Int)(h:¬(1<=k/\k<=6)):th 84 [] [I k] (.fK 165 (.agg [])) []:=by
 refine ab func84 ?_;refine⟨λh1=>?_,λh1=>?_⟩
 .refine zac ?_
  exact uI
 .refine dd ?_
  have h2:6<k:=by
   have:¬k<1:=ai h1
   omega
  refine⟨λ_=>dd ?_,λh=>absurd h tM⟩;refine td ?_
  exact uI
abbrev Sw(w:Wor):C:=.agg (xk w)
abbrev Sm(m:eQ):C:=.agg (lp m)
abbrev Se(e:e7):C:=.agg (jY e)
abbrev Sr(w:Wor)(m:eQ)(e:e7):C:=.eR [Sw w,Sm m,Se e]
def S4(h:th 137 [] [Sw w,Sm m] (Sr w' m' e) []):th 327 [] [.fn 137 [] [],Sw w,Sm m] (Sr w' m' e) []:=by
 exact dS
def IX(hk:m.op.kind=1)(h:th 137 [] [Sw w,Sm m] (Sr w' m' e) []):th 42 [] [Sw w,Sm m] (Sr w' m' e) []:=by
 (have ho:=Ty);(rw[<-hk]at ho);refine zb2 ?_;(refine⟨327,ak,rfl,_,_,(S4 h).frame V _,dd ?_⟩);exact uI
def S5(h:th 138 [] [Sw w,Sm m] (Sr w' m' e) []):th 327 [] [.fn 138 [] [],Sw w,Sm m] (Sr w' m' e) []:=by
 exact dS
def E7(hk:m.op.kind=2)(h:th 138 [] [Sw w,Sm m] (Sr w' m' e) []):th 42 [] [Sw w,Sm m] (Sr w' m' e) []:=by
 (have ho:=Tz);(rw[<-hk]at ho);refine zb2 ?_;(refine⟨327,ak,rfl,_,_,(S5 h).frame V _,dd ?_⟩);exact uI
def S6(h:th 139 [] [Sw w,Sm m] (Sr w' m' e) []):th 327 [] [.fn 139 [] [],Sw w,Sm m] (Sr w' m' e) []:=by
 exact dS
def E8(hk:m.op.kind=3)(h:th 139 [] [Sw w,Sm m] (Sr w' m' e) []):th 42 [] [Sw w,Sm m] (Sr w' m' e) []:=by
 (have ho:=TC);(rw[<-hk]at ho);refine zb2 ?_;(refine⟨327,ak,rfl,_,_,(S6 h).frame V _,dd ?_⟩);exact uI
def S7(h:th 140 [] [Sw w,Sm m] (Sr w' m' e) []):th 327 [] [.fn 140 [] [],Sw w,Sm m] (Sr w' m' e) []:=by
 exact dS
def IY(hk:m.op.kind=4)(h:th 140 [] [Sw w,Sm m] (Sr w' m' e) []):th 42 [] [Sw w,Sm m] (Sr w' m' e) []:=by
 (have ho:=TD);(rw[<-hk]at ho);refine zb2 ?_;(refine⟨327,ak,rfl,_,_,(S7 h).frame V _,dd ?_⟩);exact uI
def S8(h:th 141 [] [Sw w,Sm m] (Sr w' m' e) []):th 327 [] [.fn 141 [] [],Sw w,Sm m] (Sr w' m' e) []:=by
 exact dS
def E9(hk:m.op.kind=5)(h:th 141 [] [Sw w,Sm m] (Sr w' m' e) []):th 42 [] [Sw w,Sm m] (Sr w' m' e) []:=by
 (have ho:=TE);(rw[<-hk]at ho);refine zb2 ?_;(refine⟨327,ak,rfl,_,_,(S8 h).frame V _,dd ?_⟩);exact uI
def S9(h:th 142 [] [Sw w,Sm m] (Sr w' m' e) []):th 327 [] [.fn 142 [] [],Sw w,Sm m] (Sr w' m' e) []:=by
 exact dS
def Fa(hk:m.op.kind=6)(h:th 142 [] [Sw w,Sm m] (Sr w' m' e) []):th 42 [] [Sw w,Sm m] (Sr w' m' e) []:=by
 (have ho:=TF);(rw[<-hk]at ho);refine zb2 ?_;(refine⟨327,ak,rfl,_,_,(S9 h).frame V _,dd ?_⟩);exact uI
abbrev lz:e7:=⟨0,0,0,0,0,false,0,false,false,false,⟨0,0,0,0,0,0,0,oq⟩⟩
def IM(w:Wor)(m:eQ)(hk:¬(1<=m.op.kind/\m.op.kind<=6)):th 42 [] [Sw w,Sm m] (Sr w m lz) []:=by
 refine ab func42 ?_;refine af (SB _ hk) ?_;refine td ?_
 refine .inl ⟨⟨false,[0,1],[0,1],[]⟩,ak,uH ?_⟩;refine tc ?_
 exact uI
inductive He:Nat->Wor->eQ->Wor->eQ->Prop
 |last {w w':Wor} {m m':eQ} {e:e7} (h:th 42 [] [Sw w,Sm m] (Sr w' m' e) []) (he:e.access≠0) (hd:m'.done=true):He 1 w m w' m'
 |more {n:Nat} {w w' w2:Wor} {m m' m2:eQ} {e:e7} (h:th 42 [] [Sw w,Sm m] (Sr w' m' e) []) (he:e.access≠0) (hd:m'.done=false) (hg:He n w' m' w2 m2):He (n+1) w m w2 m2
end Go.Pla
namespace Go.Dep
open Go.Ab
def yq:Nat->C->C
 |0,c=>c
 |k+1,c=>match c with
  |.eM o sz rows=>match rows with
   |[]=>.eM (if o=2 then 2 else 0) 0 []
   |r::rs=>.eM (if o=2 then 2 else 0) sz (r.map (yq k)::rs.map λr=>r.map (yq k))
  |.agg cs=>.agg (cs.map (yq k))
  |c=>c
def Kj(k o sz:Nat)(rows:List (List C))(h:rows≠[]):yq (k+1) (.eM o sz rows)=.eM (if o=2 then 2 else 0) sz (rows.map λr=>r.map (yq k)):=by
 cases rows with
 |nil=>exact absurd V h
 |cons r rs=>rfl
def Kg{f:C->C}{rows:List (List C)}{i j:Nat}{r:List C}{c:C}(h1:(rows.map λr=>r.map f)[i]?=some r)(h2:r[j]?=some c):∃r0 c0,rows[i]?=some r0/\r0[j]?=some c0/\c=f c0:=by
 rw[gM]at h1;cases h3:rows[i]? with
 |none=>rw[h3]at h1;cases h1
 |some r0=>
  rw[h3]at h1;cases h1
  rw[gM]at h2;cases h4:r0[j]? with
  |none=>rw[h4]at h2;cases h2
  |some c0=>rw[h4]at h2;cases h2;exact⟨r0,c0,rfl,h4,rfl⟩
def VL:∀(k:Nat) {E:Env} {c:C} {y:Value},L E c y->L E (yq k c) y:=by
 intro k
 induction k with
 |zero=>intro E c y h;exact h
 |succ k ih=>
  intro E c y h;cases h with
  |eM o sz rows b off cap us ho hc hsz hst hL=>
   have ho2:o≠2:=by rcases ho with h|h <;> omega
   by_cases hr:rows=[]
   .subst hr;have e:yq (k+1) (.eM o sz [])=.eM 0 0 []:=by show C.eM (if o=2 then 2 else 0) 0 _=_;rw[gP ho2]
    rw[e];exact .eM 0 0 [] b off cap us (.inl V) hc (λr hr=>by cases hr) (λi r j c h1 h2=>by simp at h1) (λi r j c h1 h2=>by simp at h1)
   rw[Kj k o sz rows hr,gP ho2]
   have:=L.eM (E:=E) 0 sz (rows.map λr=>r.map (yq k)) b off cap us (.inl V) (ai hc)
    (λr hr=>by obtain⟨r0,h1,rfl⟩:=pO.1 hr;simpa using hsz r0 h1)
    (λi r j c h1 h2=>by obtain⟨r0,c0,h3,h4,rfl⟩:=Kg h1 h2;exact hst i r0 j c0 h3 h4)
    (λi r j c h1 h2=>by obtain⟨r0,c0,h3,h4,rfl⟩:=Kg h1 h2;exact ih (hL i r0 j c0 h3 h4))
   rw[gO]at this;exact dW
  |xu o sz ho a=>
   have ho2:o≠2:=by rcases ho with h|h <;> omega
   have e:yq (k+1) (.eM o sz [])=.eM 0 0 []:=by show C.eM (if o=2 then 2 else 0) 0 _=_;rw[gP ho2]
   rw[e];exact .xu 0 0 (.inl V) a
  |agg cs ys h1 h2 h3=>
   have:=LL.eZ (f:=yq k) (E':=E) (cs:=cs) (ys:=ys.toList) ⟨ai h1,λi c y e1 e2=>h2 i c y e1 uX⟩ (λc y hl=>ih hl);exact dX
  |v x hx=>exact .v _ hx
  |jL cells b off us hst hL=>exact .jL cells b off us hst hL
  |ref id hops sz i j hn=>exact .ref id hops sz i j hn
  |sl id hops sz lo len full cap hn hlen hf hf'=>exact .sl id hops sz lo len full cap hn hlen hf hf'
  |fn f first caps ys zs h1 h2 h3 h4=>exact .fn f first caps ys zs h1 h2 h3 h4
  |mp id hn=>exact .mp id hn
  |eR cs ys h1 h2=>exact .eR cs ys h1 h2
  |un=>exact .un
  |za y=>exact .za y
  |gl id sz rows y hn hg h=>exact .gl id sz rows y hn hg h
  |fK t c y h=>exact .fK t c y h
def BF:Nat->C->Bool
 |0,_=>true
 |k+1,c=>match c with
  |.eM o _ rows=>o == 0 && rows.all λr=>r.all (BF k)
  |.agg cs=>cs.all (BF k)
  |_=>true
def RL:∀(k:Nat) {E:Env} {c:C} {y:Value},BF k c=true->L E (yq k c) y->L E c y:=by
 intro k
 induction k with
 |zero=>intro E c y _ h;exact h
 |succ k ih=>
  intro E c y hp h;cases c with
  |eM o sz rows=>
   simp only[BF,gY,pU,gV]at hp;obtain⟨rfl,hp⟩:=hp;by_cases hr:rows=[]
   .subst hr;have h:L E (.eM 0 0 []) y:=h;exact WC.none 0 0 sz E y h
   rw[Kj k 0 sz rows hr,gP aj]at h;generalize hgr:(rows.map λr=>r.map (yq k))=rows' at h;cases h with
   |eM _ _ _ b off cap us ho hc hsz hst hL=>
    subst hgr
    have back:∀{i:Nat} {r:List C} {j:Nat} {c:C},rows[i]?=some r->r[j]?=some c->(rows.map λr=>r.map (yq k))[i]?=some (r.map (yq k))/\(r.map (yq k))[j]?=some (yq k c):=λh1 h2=>by
     rw[gM,h1,gM,h2];exact gd
    have:=L.eM (E:=E) 0 sz rows b off cap us (.inl V) (ai hc)
     (λr hr=>by have:=hsz _ (List.mem_map_of_mem (f:=λr=>r.map (yq k)) hr);simpa using this)
     (λi r j c h1 h2=>hst i _ j _ (back h1 h2).1 (back h1 h2).2)
     (λi r j c h1 h2=>ih (hp r (gT h1) c (gT h2)) (hL i _ j _ (back h1 h2).1 (back h1 h2).2))
    rw[gO];exact dW
   |xu o sz ho a=>exact absurd (List.map_eq_nil_iff.1 hgr) hr
  |agg cs=>
   have hp:cs.all (BF k)=true:=hp;rw[gV]at hp;have h:L E (.agg (cs.map (yq k))) y:=h;generalize hg:cs.map (yq k)=cs' at h;cases h with
   |agg _ ys h1 h2 h3=>
    subst hg;refine .agg cs ys uZ (λi c y e1 e2=>ih (hp c (gT e1)) (h2 i _ y (by rw[gM,e1];rfl) e2)) h3
  |_=>exact h
def zb.CZ{P:Program}{f:FuncId}{H H':zq}{args args':List C}{r:C}(k:Nat)(h:zb P f H args r H')(hp:args.all (BF k)=true)(ha:args'.map (yq k)=args.map (yq k)):zb P f H args' r H':=λw E vs hh hl=>
 h w E vs hh ⟨by have:=r6 List.length ha;simp at this;rw[<-this];exact hl.1,λi c y e1 e2=>by
  have e3:(args'.map (yq k))[i]?=some (yq k c):=by rw[ha,gM,e1];rfl
  rw[gM]at e3;cases hx:args'[i]? with
  |none=>rw[hx]at e3;cases e3
  |some c'=>
   rw[hx]at e3;simp only[g9,pG]at e3;exact RL k (gV.1 hp c (gT e1)) (e3 ▸ VL k (hl.2 i c' y hx e2))⟩
end Go.Dep
