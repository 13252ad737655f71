import Derived.Test.YtllehbdigpdinaaGreatSP
import Derived.Test.YtllehbdigpdinaaGreatSS
import Derived.Test.YtllehbdigpdinaaGreatSC
set_option linter.all false
set_option maxRecDepth 100000
set_option maxHeartbeats 4000000
namespace Go.Beg
open Go.Ab Go.Proofs Tryz Go.Hy Go.Pla
abbrev Kz:fh:=⟨0,[],[],[],0,0,0,⟨[],[],[]⟩⟩
abbrev y6:ff:=⟨0,0,0,0,0,0,0,i4⟩
abbrev Kh:eR:=⟨Kz,0,0,0,0,0,0,0,0,0,0,0,0,0,0,false,y6,i4⟩
abbrev Qe(m:eR):C:=.agg (lJ m)
abbrev Can(a:ff):C:=.agg (x3 a)
abbrev Qf(o:fh):C:=.agg (y8 o)
abbrev zyG(m:eR):List C:=[I m.zf,I m.pc,I m.zo,I m.version,I m.listen,I m.zj,I m.end_,I m.other,I m.slot,U m.word,I m.link,I m.i,I m.k,I m.sum,Bo m.done]++x3 m.answer++Cd m.counts
abbrev zy3(n:Int):List C:=[I n,Tx [],Tx [],Tx [],I 0,I 0,I 0,.eS 1 0 [],.eS 1 0 [],.eS 1 0 []]
def Bl(t:Int)(a:ff):eR:={Kh with op:={Kz with kind:=2},zf:=t,version:=a.version,zj:=a.zj,end_:=a.end_,slot:=a.slot,listen:=if a.kind=1 then a.listen else -1,pc:=if a.kind=1 then 0 else 9}
def Hh(t:Int)(a:ff):tn 89 [] [I t,Can a] (.agg (zy3 2++zyG (Bl t a))) []:=by
 refine ab func89 ?_;unfold Bl;refine⟨λh=>?_,λh=>?_⟩
 ·have h1:a.kind≠1:=by simpa using h
  rw[gf h1,gf h1];exact du
 ·have h1:a.kind=1:=by simpa using h
  rw[gk h1,gk h1];exact du
def B0(o:fh)(given:List ff):ff:=if 0<=o.n/\o.n<(jH given).length then (given[(jH given).getD o.n.toNat 0]?).getD y6 else y6
def jY(t:Int)(o:fh)(given:List ff):eR:=if o.kind=2 then {Bl t (B0 o given) with op:=o} else {Kh with op:=o,zf:=t,listen:= -1}
def Oc{o:fh}{given:List ff}(h0:0<=o.n)(h1:o.n<(jH given).length):∃i a,(jH given)[o.n.toNat]?=some i/\given[i]?=some a/\B0 o given=a:=by
 have hi:(jH given)[o.n.toNat]?=some ((jH given)[o.n.toNat]'aw):=dZ _;have eU:=kM given given.length (gD _) _ (gW (l:=jH given) (n:=o.n.toNat) aw);refine⟨_,given[(jH given)[o.n.toNat]'aw],hi,dZ _,?_⟩;unfold B0;rw[gk ⟨h0,h1⟩,rA,hi,pL,dZ eU]
 rfl
def HW{o:fh}{given:List ff}(h:¬(0<=o.n/\o.n<(jH given).length)):B0 o given=y6:=gf h
def He(t:Int)(o:fh)(given:List ff)(hlen:given.length<1000000000000):tn 48 [] [I t,Qf o,lA given] (Qe (jY t o given)) []:=by
 have m1:((jH given).map λ(n:Nat)=>[I (n:Int)]).length=(jH given).length:=gp ..;have hl:=DM given given.length;have mA:(given.map x3).length=given.length:=gp ..;have eb:o.kind=2->jY t o given={Bl t (B0 o given) with op:=o}:=λh=>gk h
 have eb2:o.kind≠2->jY t o given={Kh with op:=o,zf:=t,listen:= -1}:=λh=>gf h
 refine ab func48 ?_;refine⟨λhk=>?_,λhk=>?_⟩
 ·have h1:o.kind≠2:=by simpa using hk
  rw[eb2 h1];exact du
 ·have h1:o.kind=2:=by simpa using hk
  rw[eb h1];refine dd ?_;refine ah (U9 given hlen) ?_;refine⟨λh2=>?_,λh2=>?_⟩
  ·have g0:0<=o.n:=by simpa using h2
   refine dd ?_;have el:((List.map (λ(n:Nat)=>(n:Int)) (jH given)).map Hy.encI).length=(jH given).length:=aj
   rw[el];refine⟨λh3=>?_,λh3=>?_⟩
   ·have g1:o.n<(jH given).length:=by simpa using h3
    obtain⟨i,a,q1,q2,q3⟩:=Oc g0 g1;have r1:((List.map (λ(n:Nat)=>(n:Int)) (jH given)).map Hy.encI)[o.n.toNat]?=some (Hy.encI (i:Int)):=by rw[gj,gj,q1];rfl
    have r2:(given.map x3)[i]?=some (x3 a):=by rw[gj,q2];rfl
    rw[q3];refine dd ?_;refine⟨g0,_,r1,dd ?_⟩;refine⟨aw,_,(by rw[toNat_cast];exact r2),dd ?_⟩;refine ah (Hh t a) ?_;exact uI
   ·have g1:¬(0<=o.n/\o.n<(jH given).length):=by
     have:¬o.n<(jH given).length:=aq h3
     omega
    rw[HW g1];refine dd ?_;refine ah (Hh t y6) ?_;exact uI
  ·have g1:¬(0<=o.n/\o.n<(jH given).length):=by
    have:¬0<=o.n:=aq h2
    omega
   rw[HW g1];refine dd ?_;refine tc ?_
   refine ah (Hh t y6) ?_;exact uI
end Go.Beg
namespace Go.Pla
open Go.Ab Go.Proofs Tryz Go.Hy
def VO:tn 90 [] [I 1] (.fR 233 (.fn 133 [] [])) []:=by
 refine ab func90 ?_;refine tc ?_;(refine⟨ar,_,rfl,dd ?_⟩);exact uI
def VP:tn 90 [] [I 2] (.fR 233 (.fn 134 [] [])) []:=by
 refine ab func90 ?_;refine tc ?_;(refine⟨ar,_,rfl,dd ?_⟩);exact uI
def VQ:tn 90 [] [I 3] (.fR 233 (.fn 135 [] [])) []:=by
 refine ab func90 ?_;refine tc ?_;(refine⟨ar,_,rfl,dd ?_⟩);exact uI
def VR:tn 90 [] [I 4] (.fR 233 (.fn 136 [] [])) []:=by
 refine ab func90 ?_;refine tc ?_;(refine⟨ar,_,rfl,dd ?_⟩);exact uI
def VS:tn 90 [] [I 5] (.fR 233 (.fn 137 [] [])) []:=by
 refine ab func90 ?_;refine tc ?_;(refine⟨ar,_,rfl,dd ?_⟩);exact uI
def VT:tn 90 [] [I 6] (.fR 233 (.fn 138 [] [])) []:=by
 refine ab func90 ?_;refine tc ?_;(refine⟨ar,_,rfl,dd ?_⟩);exact uI
abbrev Sw(w:Wor):C:=.agg (yt w)
abbrev Sm(m:eR):C:=.agg (lJ m)
abbrev Se(e:eV):C:=.agg (j3 e)
abbrev Sr(w:Wor)(m:eR)(e:eV):C:=.fb [Sw w,Sm m,Se e]
def U0{w w':Wor}{m m':eR}{e:eV}(h:tn 133 [] [Sw w,Sm m] (Sr w' m' e) []):tn 277 [] [.fn 133 [] [],Sw w,Sm m] (Sr w' m' e) []:=by
 exact dx
def TO{w w':Wor}{m m':eR}{e:eV}(hk:m.op.kind=1)(h:tn 133 [] [Sw w,Sm m] (Sr w' m' e) []):tn 49 [] [Sw w,Sm m] (Sr w' m' e) []:=by
 (have ho:=VO);(rw[<-hk]at ho);refine ab func49 ?_;refine ah ho ?_;refine tc ?_;(refine⟨277,au,rfl,_,_,(U0 h).frame O _,dd ?_⟩);exact uI
def U1{w w':Wor}{m m':eR}{e:eV}(h:tn 134 [] [Sw w,Sm m] (Sr w' m' e) []):tn 277 [] [.fn 134 [] [],Sw w,Sm m] (Sr w' m' e) []:=by
 exact dx
def TP{w w':Wor}{m m':eR}{e:eV}(hk:m.op.kind=2)(h:tn 134 [] [Sw w,Sm m] (Sr w' m' e) []):tn 49 [] [Sw w,Sm m] (Sr w' m' e) []:=by
 (have ho:=VP);(rw[<-hk]at ho);refine ab func49 ?_;refine ah ho ?_;refine tc ?_;(refine⟨277,au,rfl,_,_,(U1 h).frame O _,dd ?_⟩);exact uI
def U2{w w':Wor}{m m':eR}{e:eV}(h:tn 135 [] [Sw w,Sm m] (Sr w' m' e) []):tn 277 [] [.fn 135 [] [],Sw w,Sm m] (Sr w' m' e) []:=by
 exact dx
def Hl{w w':Wor}{m m':eR}{e:eV}(hk:m.op.kind=3)(h:tn 135 [] [Sw w,Sm m] (Sr w' m' e) []):tn 49 [] [Sw w,Sm m] (Sr w' m' e) []:=by
 (have ho:=VQ);(rw[<-hk]at ho);refine ab func49 ?_;refine ah ho ?_;refine tc ?_;(refine⟨277,au,rfl,_,_,(U2 h).frame O _,dd ?_⟩);exact uI
def U3{w w':Wor}{m m':eR}{e:eV}(h:tn 136 [] [Sw w,Sm m] (Sr w' m' e) []):tn 277 [] [.fn 136 [] [],Sw w,Sm m] (Sr w' m' e) []:=by
 exact dx
def TQ{w w':Wor}{m m':eR}{e:eV}(hk:m.op.kind=4)(h:tn 136 [] [Sw w,Sm m] (Sr w' m' e) []):tn 49 [] [Sw w,Sm m] (Sr w' m' e) []:=by
 (have ho:=VR);(rw[<-hk]at ho);refine ab func49 ?_;refine ah ho ?_;refine tc ?_;(refine⟨277,au,rfl,_,_,(U3 h).frame O _,dd ?_⟩);exact uI
def U4{w w':Wor}{m m':eR}{e:eV}(h:tn 137 [] [Sw w,Sm m] (Sr w' m' e) []):tn 277 [] [.fn 137 [] [],Sw w,Sm m] (Sr w' m' e) []:=by
 exact dx
def TR{w w':Wor}{m m':eR}{e:eV}(hk:m.op.kind=5)(h:tn 137 [] [Sw w,Sm m] (Sr w' m' e) []):tn 49 [] [Sw w,Sm m] (Sr w' m' e) []:=by
 (have ho:=VS);(rw[<-hk]at ho);refine ab func49 ?_;refine ah ho ?_;refine tc ?_;(refine⟨277,au,rfl,_,_,(U4 h).frame O _,dd ?_⟩);exact uI
def U5{w w':Wor}{m m':eR}{e:eV}(h:tn 138 [] [Sw w,Sm m] (Sr w' m' e) []):tn 277 [] [.fn 138 [] [],Sw w,Sm m] (Sr w' m' e) []:=by
 exact dx
def TS{w w':Wor}{m m':eR}{e:eV}(hk:m.op.kind=6)(h:tn 138 [] [Sw w,Sm m] (Sr w' m' e) []):tn 49 [] [Sw w,Sm m] (Sr w' m' e) []:=by
 (have ho:=VT);(rw[<-hk]at ho);refine ab func49 ?_;refine ah ho ?_;refine tc ?_;(refine⟨277,au,rfl,_,_,(U5 h).frame O _,dd ?_⟩);exact uI
abbrev Dj:eV:=⟨0,0,0,0,0,false,0,false,false,false,⟨0,0,0,0,0,0,0,i4⟩⟩
inductive AT:Nat->Wor->eR->Wor->eR->Prop
 |last {w w':Wor} {m m':eR} {e:eV} (h:tn 49 [] [Sw w,Sm m] (Sr w' m' e) []) (he:e.access≠0) (hd:m'.done=true):AT 1 w m w' m'
 |more {n:Nat} {w w' w2:Wor} {m m' m2:eR} {e:eV} (h:tn 49 [] [Sw w,Sm m] (Sr w' m' e) []) (he:e.access≠0) (hd:m'.done=false) (hg:AT n w' m' w2 m2):AT (n+1) w m w2 m2
end Go.Pla
namespace Go.Dep
open Go.Ab
def qR:Nat->C->C
 |0,c=>c
 |k+1,c=>match c with
  |.eS o sz rows=>match rows with
   |[]=>.eS (if o=2 then 2 else 0) 0 []
   |r::rs=>.eS (if o=2 then 2 else 0) sz (r.map (qR k)::rs.map λr=>r.map (qR k))
  |.agg cs=>.agg (cs.map (qR k))
  |c=>c
def DE(k o sz:Nat)(rows:List (List C))(h:rows≠[]):qR (k+1) (.eS o sz rows)=.eS (if o=2 then 2 else 0) sz (rows.map λr=>r.map (qR k)):=by
 cases rows with
 |nil=>exact absurd O h
 |cons r rs=>rfl
def DC{f:C->C}{rows:List (List C)}{i j:Nat}{r:List C}{c:C}(h1:(rows.map λr=>r.map f)[i]?=some r)(h2:r[j]?=some c):∃r0 c0,rows[i]?=some r0/\r0[j]?=some c0/\c=f c0:=by
 rw[gj]at h1;cases h3:rows[i]? with
 |none=>rw[h3]at h1;cases h1
 |some r0=>
  rw[h3]at h1;cases h1
  rw[gj]at h2;cases h4:r0[j]? with
  |none=>rw[h4]at h2;cases h2
  |some c0=>rw[h4]at h2;cases h2;exact⟨r0,c0,rfl,h4,rfl⟩
def Ed:∀(k:Nat) {E:Env} {c:C} {y:Value},L E c y->L E (qR k c) y:=by
 intro k
 induction k with
 |zero=>intro E c y h;exact h
 |succ k ih=>
  intro E c y h;cases h with
  |eS o sz rows b off cap us ho hc hsz hst hL=>
   have ho2:o≠2:=cD
   by_cases hr:rows=[]
   ·subst hr;have e:qR (k+1) (.eS o sz [])=.eS 0 0 []:=by show C.eS (if o=2 then 2 else 0) 0 _=_;rw[gf ho2]
    rw[e];exact .eS 0 0 [] b off cap us (.inl O) hc (λr hr=>by cases hr) (λi r j c h1 h2=>by simp at h1) (λi r j c h1 h2=>by simp at h1)
   rw[DE k o sz rows hr,gf ho2]
   have:=L.eS (E:=E) 0 sz (rows.map λr=>r.map (qR k)) b off cap us (.inl O) (aq hc)
    (λr hr=>by obtain⟨r0,h1,rfl⟩:=gZ.1 hr;simpa using hsz r0 h1)
    (λi r j c h1 h2=>by obtain⟨r0,c0,h3,h4,rfl⟩:=DC h1 h2;exact hst i r0 j c0 h3 h4)
    (λi r j c h1 h2=>by obtain⟨r0,c0,h3,h4,rfl⟩:=DC h1 h2;exact ih (hL i r0 j c0 h3 h4))
   rw[gp]at this;exact dF
  |xq o sz ho a=>
   have ho2:o≠2:=cD
   have e:qR (k+1) (.eS o sz [])=.eS 0 0 []:=by show C.eS (if o=2 then 2 else 0) 0 _=_;rw[gf ho2]
   rw[e];exact .xq 0 0 (.inl O) a
  |agg cs ys h1 h2 h3=>
   have:=LL.fe (f:=qR k) (E':=E) (cs:=cs) (ys:=ys.toList) ⟨aq h1,λi c y e1 e2=>h2 i c y e1 uZ⟩ (λc y hl=>ih hl);exact dw
  |v x hx=>exact .v _ hx
  |jP cells b off us hst hL=>exact .jP cells b off us hst hL
  |ref id hops sz i j hn=>exact .ref id hops sz i j hn
  |sl id hops sz lo len full cap hn hlen hf hf'=>exact .sl id hops sz lo len full cap hn hlen hf hf'
  |fn f first caps ys zs h1 h2 h3 h4=>exact .fn f first caps ys zs h1 h2 h3 h4
  |mp id hn=>exact .mp id hn
  |fb cs ys h1 h2=>exact .fb cs ys h1 h2
  |un=>exact .un
  |za y=>exact .za y
  |gl id sz rows y hn hg h=>exact .gl id sz rows y hn hg h
  |fR t c y h=>exact .fR t c y h
def vd:Nat->C->Bool
 |0,_=>true
 |k+1,c=>match c with
  |.eS o _ rows=>o == 0 && rows.all λr=>r.all (vd k)
  |.agg cs=>cs.all (vd k)
  |_=>true
def wM:∀(k:Nat) {E:Env} {c:C} {y:Value},vd k c=true->L E (qR k c) y->L E c y:=by
 intro k
 induction k with
 |zero=>intro E c y _ h;exact h
 |succ k ih=>
  intro E c y hp h;cases c with
  |eS o sz rows=>
   simp only[vd,gC,pq,gA]at hp;obtain⟨rfl,hp⟩:=hp;by_cases hr:rows=[]
   ·subst hr;have h:L E (.eS 0 0 []) y:=h;exact WC.none 0 0 sz E y h
   rw[DE k 0 sz rows hr,gf ar]at h;generalize hgr:(rows.map λr=>r.map (qR k))=rows' at h;cases h with
   |eS _ _ _ b off cap us ho hc hsz hst hL=>
    subst hgr
    have back:∀{i:Nat} {r:List C} {j:Nat} {c:C},rows[i]?=some r->r[j]?=some c->(rows.map λr=>r.map (qR k))[i]?=some (r.map (qR k))/\(r.map (qR k))[j]?=some (qR k c):=λh1 h2=>by
     rw[gj,h1,gj,h2];exact⟨rfl,rfl⟩
    have:=L.eS (E:=E) 0 sz rows b off cap us (.inl O) (aq hc)
     (λr hr=>by have:=hsz _ (List.mem_map_of_mem (f:=λr=>r.map (qR k)) hr);simpa using this)
     (λi r j c h1 h2=>hst i _ j _ (back h1 h2).1 (back h1 h2).2)
     (λi r j c h1 h2=>ih (hp r (gh h1) c (gh h2)) (hL i _ j _ (back h1 h2).1 (back h1 h2).2))
    rw[gp];exact dF
   |xq o sz ho a=>exact absurd (List.map_eq_nil_iff.1 hgr) hr
  |agg cs=>
   have hp:cs.all (vd k)=true:=hp;rw[gA]at hp;have h:L E (.agg (cs.map (qR k))) y:=h;generalize hg:cs.map (qR k)=cs' at h;cases h with
   |agg _ ys h1 h2 h3=>
    subst hg;refine .agg cs ys tD (λi c y e1 e2=>ih (hp c (gh e1)) (h2 i _ y (by rw[gj,e1];rfl) e2)) h3
  |_=>exact h
def zb.deep{P:Program}{f:FuncId}{H H':zl}{args:List C}{r:C}(k:Nat)(h:zb P f H args r H'){r':C}(hp:vd k r'=true)(hr:qR k r=qR k r'):zb P f H args r' H':=λw E vs hh hl=>
 (h w E vs hh hl).mono λe w' ⟨v,E',h1,h2,h3,h4⟩=>⟨v,E',h1,h2,wM k hp (hr ▸ Ed k h3),h4⟩
def zb.vN{P:Program}{f:FuncId}{H H':zl}{args args':List C}{r:C}(k:Nat)(h:zb P f H args r H')(hp:args.all (vd k)=true)(ha:args'.map (qR k)=args.map (qR k)):zb P f H args' r H':=λw E vs hh hl=>
 h w E vs hh ⟨cF,λi c y e1 e2=>by
  have e3:(args'.map (qR k))[i]?=some (qR k c):=by rw[ha,gj,e1];rfl
  rw[gj]at e3;cases hx:args'[i]? with
  |none=>rw[hx]at e3;cases e3
  |some c'=>
   rw[hx]at e3;simp only[gF,gS]at e3;exact wM k (gA.1 hp c (gh e1)) (e3 ▸ Ed k (hl.2 i c' y hx e2))⟩
end Go.Dep
