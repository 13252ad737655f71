import Derived.Test.YtoeaoedlpmohoaaGreatTP
import Derived.Test.YtoeaoedlpmohoaaGreatTS
import Derived.Test.YtoeaoedlpmohoaaGreatTC
set_option linter.all false
set_option maxRecDepth 100000
set_option maxHeartbeats 4000000
namespace Go.Beg
open Go.Ab Go.Proofs Tryz Go.Hy Go.Pla
abbrev KI:fJ:=⟨0,[],[],[],0,0,0,⟨[],[],[]⟩⟩
abbrev yI:fA:=⟨0,0,0,0,0,0,0,vq⟩
abbrev Kk:fi:=⟨KI,0,0,0,0,0,0,0,0,0,0,0,0,0,0,false,yI,vq⟩
abbrev Qj(m:fi):C:=.agg (mC m)
abbrev Can(a:fA):C:=.agg (xk a)
abbrev Qk(o:fJ):C:=.agg (i7 o)
abbrev zy0(m:fi):List C:=[I m.zf,I m.pc,I m.zl,I m.version,I m.listen,I m.zg,I m.end_,I m.other,I m.slot,U m.word,I m.link,I m.i,I m.k,I m.sum,Bo m.done]++xk m.answer++BW m.counts
abbrev zzo(n:Int):List C:=[I n,Tx [],Tx [],Tx [],I 0,I 0,I 0,.fh 1 0 [],.fh 1 0 [],.fh 1 0 []]
def BF(t:Int)(a:fA):fi:={Kk with op:={KI with kind:=2},zf:=t,version:=a.version,zg:=a.zg,end_:=a.end_,slot:=a.slot,listen:=if a.kind=1 then a.listen else -1,pc:=if a.kind=1 then 0 else 9}
def Hv(t:Int)(a:fA):tj 92 [] [I t,Can a] (.agg (zzo 2++zy0 (BF t a))) []:=by
 refine ab func92 ?_;unfold BF;refine⟨λh=>?_,λh=>?_⟩
 ·have h1:a.kind≠1:=by simpa using h
  rw[dZ h1,dZ h1];exact dk
 ·have h1:a.kind=1:=by simpa using h
  rw[gh h1,gh h1];exact dk
def B8(o:fJ)(given:List fA):fA:=if 0<=o.n/\o.n<(qE given).length then (given[(qE given).getD o.n.toNat 0]?).getD yI else yI
def xA(t:Int)(o:fJ)(given:List fA):fi:=if o.kind=2 then {BF t (B8 o given) with op:=o} else {Kk with op:=o,zf:=t,listen:= -1}
def N8{o:fJ}{given:List fA}(h0:0<=o.n)(h1:o.n<(qE given).length):∃i a,(qE given)[o.n.toNat]?=some i/\given[i]?=some a/\B8 o given=a:=by
 have hi:(qE given)[o.n.toNat]?=some ((qE given)[o.n.toNat]'aw):=dX _;have fj:=vT given given.length (gC _) _ (gU (l:=qE given) (n:=o.n.toNat) aw);refine⟨_,given[(qE given)[o.n.toNat]'aw],hi,dX _,?_⟩;unfold B8;rw[gh ⟨h0,h1⟩,eJ,hi,Option.getD_some,dX fj]
 rfl
def H6{o:fJ}{given:List fA}(h:¬(0<=o.n/\o.n<(qE given).length)):B8 o given=yI:=dZ h
def R6(t:Int)(o:fJ)(given:List fA)(hlen:given.length<1000000000000):tj 62 [] [I t,Qk o,lA given] (Qj (xA t o given)) []:=by
 have m1:((qE given).map λ(n:Nat)=>[I (n:Int)]).length=(qE given).length:=gu ..;have hl:=ky given given.length;have mA:(given.map xk).length=given.length:=gu ..;have eb:o.kind=2->xA t o given={BF t (B8 o given) with op:=o}:=λh=>gh h
 have eb2:o.kind≠2->xA t o given={Kk with op:=o,zf:=t,listen:= -1}:=λh=>dZ h
 refine ab func62 ?_;refine⟨λhk=>?_,λhk=>?_⟩
 ·have h1:o.kind≠2:=by simpa using hk
  rw[eb2 h1];exact dk
 ·have h1:o.kind=2:=by simpa using hk
  rw[eb h1];refine dd ?_;refine ah (My given hlen) ?_;refine⟨λh2=>?_,λh2=>?_⟩
  ·have g0:0<=o.n:=by simpa using h2
   refine dd ?_;have el:((List.map (λ(n:Nat)=>(n:Int)) (qE given)).map Hy.encI).length=(qE given).length:=aj
   rw[el];refine⟨λh3=>?_,λh3=>?_⟩
   ·have g1:o.n<(qE given).length:=by simpa using h3
    obtain⟨i,a,q1,q2,q3⟩:=N8 g0 g1;have r1:((List.map (λ(n:Nat)=>(n:Int)) (qE given)).map Hy.encI)[o.n.toNat]?=some (Hy.encI (i:Int)):=by rw[gf,gf,q1];rfl
    have r2:(given.map xk)[i]?=some (xk a):=by rw[gf,q2];rfl
    rw[q3];refine dd ?_;refine⟨g0,_,r1,dd ?_⟩;refine⟨aw,_,(by rw[toNat_cast];exact r2),dd ?_⟩;refine ah (Hv t a) ?_;exact uI
   ·have g1:¬(0<=o.n/\o.n<(qE given).length):=by
     have:¬o.n<(qE given).length:=aq h3
     omega
    rw[H6 g1];refine dd ?_;refine ah (Hv t yI) ?_;exact uI
  ·have g1:¬(0<=o.n/\o.n<(qE given).length):=by
    have:¬0<=o.n:=aq h2
    omega
   rw[H6 g1];refine dd ?_;refine hZ ?_
   refine ah (Hv t yI) ?_;exact uI
end Go.Beg
namespace Go.Pla
open Go.Ab Go.Proofs Tryz Go.Hy
def Vq:tj 93 [] [I 1] (.ig 221 (.fn 126 [] [])) []:=by
 refine ab func93 ?_;refine hZ ?_;(refine⟨ar,_,rfl,dd ?_⟩);exact uI
def Vr:tj 93 [] [I 2] (.ig 221 (.fn 127 [] [])) []:=by
 refine ab func93 ?_;refine hZ ?_;(refine⟨ar,_,rfl,dd ?_⟩);exact uI
def Vs:tj 93 [] [I 3] (.ig 221 (.fn 128 [] [])) []:=by
 refine ab func93 ?_;refine hZ ?_;(refine⟨ar,_,rfl,dd ?_⟩);exact uI
def Vt:tj 93 [] [I 4] (.ig 221 (.fn 129 [] [])) []:=by
 refine ab func93 ?_;refine hZ ?_;(refine⟨ar,_,rfl,dd ?_⟩);exact uI
def Vu:tj 93 [] [I 5] (.ig 221 (.fn 130 [] [])) []:=by
 refine ab func93 ?_;refine hZ ?_;(refine⟨ar,_,rfl,dd ?_⟩);exact uI
def WI:tj 93 [] [I 6] (.ig 221 (.fn 131 [] [])) []:=by
 refine ab func93 ?_;refine hZ ?_;(refine⟨ar,_,rfl,dd ?_⟩);exact uI
abbrev Sw(w:Wor):C:=.agg (vC w)
abbrev Sm(m:fi):C:=.agg (mC m)
abbrev Se(e:fk):C:=.agg (jO e)
abbrev Sr(w:Wor)(m:fi)(e:fk):C:=.fq [Sw w,Sm m,Se e]
def Ul{w w':Wor}{m m':fi}{e:fk}(h:tj 126 [] [Sw w,Sm m] (Sr w' m' e) []):tj 277 [] [.fn 126 [] [],Sw w,Sm m] (Sr w' m' e) []:=by
 exact dm
def Tk{w w':Wor}{m m':fi}{e:fk}(hk:m.op.kind=1)(h:tj 126 [] [Sw w,Sm m] (Sr w' m' e) []):tj 63 [] [Sw w,Sm m] (Sr w' m' e) []:=by
 (have ho:=Vq);(rw[<-hk]at ho);refine ab func63 ?_;refine ah ho ?_;refine hZ ?_;(refine⟨277,au,rfl,_,_,(Ul h).frame J _,dd ?_⟩);exact uI
def Um{w w':Wor}{m m':fi}{e:fk}(h:tj 127 [] [Sw w,Sm m] (Sr w' m' e) []):tj 277 [] [.fn 127 [] [],Sw w,Sm m] (Sr w' m' e) []:=by
 exact dm
def Tl{w w':Wor}{m m':fi}{e:fk}(hk:m.op.kind=2)(h:tj 127 [] [Sw w,Sm m] (Sr w' m' e) []):tj 63 [] [Sw w,Sm m] (Sr w' m' e) []:=by
 (have ho:=Vr);(rw[<-hk]at ho);refine ab func63 ?_;refine ah ho ?_;refine hZ ?_;(refine⟨277,au,rfl,_,_,(Um h).frame J _,dd ?_⟩);exact uI
def Un{w w':Wor}{m m':fi}{e:fk}(h:tj 128 [] [Sw w,Sm m] (Sr w' m' e) []):tj 277 [] [.fn 128 [] [],Sw w,Sm m] (Sr w' m' e) []:=by
 exact dm
def Tm{w w':Wor}{m m':fi}{e:fk}(hk:m.op.kind=3)(h:tj 128 [] [Sw w,Sm m] (Sr w' m' e) []):tj 63 [] [Sw w,Sm m] (Sr w' m' e) []:=by
 (have ho:=Vs);(rw[<-hk]at ho);refine ab func63 ?_;refine ah ho ?_;refine hZ ?_;(refine⟨277,au,rfl,_,_,(Un h).frame J _,dd ?_⟩);exact uI
def Uo{w w':Wor}{m m':fi}{e:fk}(h:tj 129 [] [Sw w,Sm m] (Sr w' m' e) []):tj 277 [] [.fn 129 [] [],Sw w,Sm m] (Sr w' m' e) []:=by
 exact dm
def Tn{w w':Wor}{m m':fi}{e:fk}(hk:m.op.kind=4)(h:tj 129 [] [Sw w,Sm m] (Sr w' m' e) []):tj 63 [] [Sw w,Sm m] (Sr w' m' e) []:=by
 (have ho:=Vt);(rw[<-hk]at ho);refine ab func63 ?_;refine ah ho ?_;refine hZ ?_;(refine⟨277,au,rfl,_,_,(Uo h).frame J _,dd ?_⟩);exact uI
def Up{w w':Wor}{m m':fi}{e:fk}(h:tj 130 [] [Sw w,Sm m] (Sr w' m' e) []):tj 277 [] [.fn 130 [] [],Sw w,Sm m] (Sr w' m' e) []:=by
 exact dm
def To{w w':Wor}{m m':fi}{e:fk}(hk:m.op.kind=5)(h:tj 130 [] [Sw w,Sm m] (Sr w' m' e) []):tj 63 [] [Sw w,Sm m] (Sr w' m' e) []:=by
 (have ho:=Vu);(rw[<-hk]at ho);refine ab func63 ?_;refine ah ho ?_;refine hZ ?_;(refine⟨277,au,rfl,_,_,(Up h).frame J _,dd ?_⟩);exact uI
def Uq{w w':Wor}{m m':fi}{e:fk}(h:tj 131 [] [Sw w,Sm m] (Sr w' m' e) []):tj 277 [] [.fn 131 [] [],Sw w,Sm m] (Sr w' m' e) []:=by
 exact dm
def Tp{w w':Wor}{m m':fi}{e:fk}(hk:m.op.kind=6)(h:tj 131 [] [Sw w,Sm m] (Sr w' m' e) []):tj 63 [] [Sw w,Sm m] (Sr w' m' e) []:=by
 (have ho:=WI);(rw[<-hk]at ho);refine ab func63 ?_;refine ah ho ?_;refine hZ ?_;(refine⟨277,au,rfl,_,_,(Uq h).frame J _,dd ?_⟩);exact uI
abbrev EO:fk:=⟨0,0,0,0,0,false,0,false,false,false,⟨0,0,0,0,0,0,0,vq⟩⟩
inductive Dn:Nat->Wor->fi->Wor->fi->Prop
 |last {w w':Wor} {m m':fi} {e:fk} (h:tj 63 [] [Sw w,Sm m] (Sr w' m' e) []) (he:e.access≠0) (hd:m'.done=true):Dn 1 w m w' m'
 |more {n:Nat} {w w' w2:Wor} {m m' m2:fi} {e:fk} (h:tj 63 [] [Sw w,Sm m] (Sr w' m' e) []) (he:e.access≠0) (hd:m'.done=false) (hg:Dn n w' m' w2 m2):Dn (n+1) w m w2 m2
end Go.Pla
namespace Go.Dep
open Go.Ab
def yL:Nat->C->C
 |0,c=>c
 |k+1,c=>match c with
  |.fh o sz rows=>match rows with
   |[]=>.fh (if o=2 then 2 else 0) 0 []
   |r::rs=>.fh (if o=2 then 2 else 0) sz (r.map (yL k)::rs.map λr=>r.map (yL k))
  |.agg cs=>.agg (cs.map (yL k))
  |c=>c
def MP(k o sz:Nat)(rows:List (List C))(h:rows≠[]):yL (k+1) (.fh o sz rows)=.fh (if o=2 then 2 else 0) sz (rows.map λr=>r.map (yL k)):=by
 cases rows with
 |nil=>exact absurd J h
 |cons r rs=>rfl
def MM{f:C->C}{rows:List (List C)}{i j:Nat}{r:List C}{c:C}(h1:(rows.map λr=>r.map f)[i]?=some r)(h2:r[j]?=some c):∃r0 c0,rows[i]?=some r0/\r0[j]?=some c0/\c=f c0:=by
 rw[gf]at h1;cases h3:rows[i]? with
 |none=>rw[h3]at h1;cases h1
 |some r0=>
  rw[h3]at h1;cases h1
  rw[gf]at h2;cases h4:r0[j]? with
  |none=>rw[h4]at h2;cases h2
  |some c0=>rw[h4]at h2;cases h2;exact⟨r0,c0,rfl,h4,rfl⟩
def YJ:∀(k:Nat) {E:Env} {c:C} {y:Value},L E c y->L E (yL k c) y:=by
 intro k
 induction k with
 |zero=>intro E c y h;exact h
 |succ k ih=>
  intro E c y h;cases h with
  |fh o sz rows b off cap us ho hc hsz hst hL=>
   have ho2:o≠2:=by rcases ho with h|h <;> omega
   by_cases hr:rows=[]
   ·subst hr;have e:yL (k+1) (.fh o sz [])=.fh 0 0 []:=by show C.fh (if o=2 then 2 else 0) 0 _=_;rw[dZ ho2]
    rw[e];exact .fh 0 0 [] b off cap us (.inl J) hc (λr hr=>by cases hr) (λi r j c h1 h2=>by simp at h1) (λi r j c h1 h2=>by simp at h1)
   rw[MP k o sz rows hr,dZ ho2]
   have:=L.fh (E:=E) 0 sz (rows.map λr=>r.map (yL k)) b off cap us (.inl J) (aq hc)
    (λr hr=>by obtain⟨r0,h1,rfl⟩:=gR.1 hr;simpa using hsz r0 h1)
    (λi r j c h1 h2=>by obtain⟨r0,c0,h3,h4,rfl⟩:=MM h1 h2;exact hst i r0 j c0 h3 h4)
    (λi r j c h1 h2=>by obtain⟨r0,c0,h3,h4,rfl⟩:=MM h1 h2;exact ih (hL i r0 j c0 h3 h4))
   rw[gu]at this;exact dG
  |xx o sz ho a=>
   have ho2:o≠2:=by rcases ho with h|h <;> omega
   have e:yL (k+1) (.fh o sz [])=.fh 0 0 []:=by show C.fh (if o=2 then 2 else 0) 0 _=_;rw[dZ ho2]
   rw[e];exact .xx 0 0 (.inl J) a
  |agg cs ys h1 h2 h3=>
   have:=LL.fx (f:=yL k) (E':=E) (cs:=cs) (ys:=ys.toList) ⟨aq h1,λi c y e1 e2=>h2 i c y e1 uY⟩ (λc y hl=>ih hl);exact dB
  |v x hx=>exact .v _ hx
  |jt cells b off us hst hL=>exact .jt cells b off us hst hL
  |ref id hops sz i j hn=>exact .ref id hops sz i j hn
  |sl id hops sz lo len full cap hn hlen hf hf'=>exact .sl id hops sz lo len full cap hn hlen hf hf'
  |fn f first caps ys zs h1 h2 h3 h4=>exact .fn f first caps ys zs h1 h2 h3 h4
  |mp id hn=>exact .mp id hn
  |fq cs ys h1 h2=>exact .fq cs ys h1 h2
  |un=>exact .un
  |za y=>exact .za y
  |gl id sz rows y hn hg h=>exact .gl id sz rows y hn hg h
  |ig t c y h=>exact .ig t c y h
def C7:Nat->C->Bool
 |0,_=>true
 |k+1,c=>match c with
  |.fh o _ rows=>o == 0 && rows.all λr=>r.all (C7 k)
  |.agg cs=>cs.all (C7 k)
  |_=>true
def T7:∀(k:Nat) {E:Env} {c:C} {y:Value},C7 k c=true->L E (yL k c) y->L E c y:=by
 intro k
 induction k with
 |zero=>intro E c y _ h;exact h
 |succ k ih=>
  intro E c y hp h;cases c with
  |fh o sz rows=>
   simp only[C7,gA,pF,gz]at hp;obtain⟨rfl,hp⟩:=hp;by_cases hr:rows=[]
   ·subst hr;have h:L E (.fh 0 0 []) y:=h;exact WC.none 0 0 sz E y h
   rw[MP k 0 sz rows hr,dZ ar]at h;generalize hgr:(rows.map λr=>r.map (yL k))=rows' at h;cases h with
   |fh _ _ _ b off cap us ho hc hsz hst hL=>
    subst hgr
    have back:∀{i:Nat} {r:List C} {j:Nat} {c:C},rows[i]?=some r->r[j]?=some c->(rows.map λr=>r.map (yL k))[i]?=some (r.map (yL k))/\(r.map (yL k))[j]?=some (yL k c):=λh1 h2=>by
     rw[gf,h1,gf,h2];exact dK
    have:=L.fh (E:=E) 0 sz rows b off cap us (.inl J) (aq hc)
     (λr hr=>by have:=hsz _ (List.mem_map_of_mem (f:=λr=>r.map (yL k)) hr);simpa using this)
     (λi r j c h1 h2=>hst i _ j _ (back h1 h2).1 (back h1 h2).2)
     (λi r j c h1 h2=>ih (hp r (dY h1) c (dY h2)) (hL i _ j _ (back h1 h2).1 (back h1 h2).2))
    rw[gu];exact dG
   |xx o sz ho a=>exact absurd (List.map_eq_nil_iff.1 hgr) hr
  |agg cs=>
   have hp:cs.all (C7 k)=true:=hp;rw[gz]at hp;have h:L E (.agg (cs.map (yL k))) y:=h;generalize hg:cs.map (yL k)=cs' at h;cases h with
   |agg _ ys h1 h2 h3=>
    subst hg;refine .agg cs ys tE (λi c y e1 e2=>ih (hp c (dY e1)) (h2 i _ y (by rw[gf,e1];rfl) e2)) h3
  |_=>exact h
def zb.J2{P:Program}{f:FuncId}{H H':zm}{args args':List C}{r:C}(k:Nat)(h:zb P f H args r H')(hp:args.all (C7 k)=true)(ha:args'.map (yL k)=args.map (yL k)):zb P f H args' r H':=λw E vs hh hl=>
 h w E vs hh ⟨by have:=rq List.length ha;simp at this;rw[<-this];exact hl.1,λi c y e1 e2=>by
  have e3:(args'.map (yL k))[i]?=some (yL k c):=by rw[ha,gf,e1];rfl
  rw[gf]at e3;cases hx:args'[i]? with
  |none=>rw[hx]at e3;cases e3
  |some c'=>
   rw[hx]at e3;simp only[gF,gQ]at e3;exact T7 k (gz.1 hp c (dY e1)) (e3 ▸ YJ k (hl.2 i c' y hx e2))⟩
end Go.Dep
