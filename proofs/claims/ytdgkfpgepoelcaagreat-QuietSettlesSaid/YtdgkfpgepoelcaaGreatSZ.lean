import Derived.Test.YtdgkfpgepoelcaaGreatSP
import Derived.Test.YtdgkfpgepoelcaaGreatSS
import Derived.Test.YtdgkfpgepoelcaaGreatSC
set_option linter.all false
set_option maxRecDepth 100000
set_option maxHeartbeats 4000000
namespace Go.Beg
open Go.Ab Go.Proofs Tryz Go.Hy Go.Pla
variable{o:ss}{given:List r3}
abbrev oa:ss:=⟨0,[],[],[],0,0,0,⟨[],[],[]⟩⟩
abbrev u5:r3:=⟨0,0,0,0,0,0,0,ux⟩
abbrev nN:rH:=⟨oa,0,0,0,0,0,0,0,0,0,0,0,0,0,0,false,u5,ux⟩
abbrev CC(m:rH):C:=.agg (fO m)
abbrev Can(a:r3):C:=.agg (xy a)
abbrev CD(o:ss):C:=.agg (tf o)
abbrev I7(m:rH):List C:=[I m.zO,I m.pc,I m.zl,I m.version,I m.listen,I m.zn,I m.end_,I m.other,I m.slot,U m.word,I m.link,I m.i,I m.k,I m.sum,Bo m.done]++xy m.answer++iS m.counts
abbrev I2(n:Int):List C:=[I n,Tx [],Tx [],Tx [],I 0,I 0,I 0,.rG 1 0 [],.rG 1 0 [],.rG 1 0 []]
def ia(t:Int)(a:r3):rH:={nN with op:={oa with kind:=2},zO:=t,version:=a.version,zn:=a.zn,end_:=a.end_,slot:=a.slot,listen:=if a.kind=1 then a.listen else -1,pc:=if a.kind=1 then 0 else 9}
def y7(t:Int)(a:r3):tc 105 [] [I t,Can a] (.agg (I2 2++I7 (ia t a))) []:=by
 refine ab func105 ?_;unfold ia;refine⟨λh=>?_,λh=>?_⟩
 .have h1:a.kind≠1:=by simpa using h
  rw[c6 h1,c6 h1];exact cr
 .have h1:a.kind=1:=by simpa using h
  rw[c7 h1,c7 h1];exact cr
def fj(o:ss)(given:List r3):r3:=if 0<=o.n/\o.n<(jw given).length then (given[(jw given).getD o.n.toNat 0]?).getD u5 else u5
def iw(t:Int)(o:ss)(given:List r3):rH:=if o.kind=2 then {ia t (fj o given) with op:=o} else {nN with op:=o,zO:=t,listen:= -1}
def Ic(h0:0<=o.n)(h1:o.n<(jw given).length):∃i a,(jw given)[o.n.toNat]?=some i/\given[i]?=some a/\fj o given=a:=by
 have hi:(jw given)[o.n.toNat]?=some ((jw given)[o.n.toNat]'ah):=cV _;have rF:=mj given given.length (de _) _ (dn (l:=jw given) (n:=o.n.toNat) ah);refine⟨_,given[(jw given)[o.n.toNat]'ah],hi,cV _,?_⟩;unfold fj;rw[c7 ⟨h0,h1⟩,rj,hi,dL,cV rF]
 rfl
def AA(h:¬(0<=o.n/\o.n<(jw given).length)):fj o given=u5:=c6 h
def DO(t:Int)(o:ss)(given:List r3)(hlen:given.length<1000000000000):tc 51 [] [I t,CD o,lA given] (CC (iw t o given)) []:=by
 have m1:((jw given).map λ(n:Nat)=>[I (n:Int)]).length=(jw given).length:=cY ..;have hl:=yY given given.length;have mA:(given.map xy).length=given.length:=cY ..;have eb:o.kind=2->iw t o given={ia t (fj o given) with op:=o}:=λh=>c7 h
 have eb2:o.kind≠2->iw t o given={nN with op:=o,zO:=t,listen:= -1}:=λh=>c6 h
 refine ab func51 ?_;refine⟨λhk=>?_,λhk=>?_⟩
 .have h1:o.kind≠2:=by simpa using hk
  rw[eb2 h1];exact cr
 .have h1:o.kind=2:=by simpa using hk
  rw[eb h1];refine dd ?_;refine af (FK given hlen) ?_;refine⟨λh2=>?_,λh2=>?_⟩
  .have g0:0<=o.n:=by simpa using h2
   refine dd ?_;have el:((List.map (λ(n:Nat)=>(n:Int)) (jw given)).map Hy.encI).length=(jw given).length:=aj
   rw[el];refine⟨λh3=>?_,λh3=>?_⟩
   .have g1:o.n<(jw given).length:=by simpa using h3
    obtain⟨i,a,q1,q2,q3⟩:=Ic g0 g1;have r1:((List.map (λ(n:Nat)=>(n:Int)) (jw given)).map Hy.encI)[o.n.toNat]?=some (Hy.encI (i:Int)):=by rw[cX,cX,q1];rfl
    have r2:(given.map xy)[i]?=some (xy a):=by rw[cX,q2];rfl
    rw[q3];refine dd ?_;refine⟨g0,_,r1,dd ?_⟩;refine⟨ah,_,(by rw[toNat_cast];exact r2),dd ?_⟩;refine af (y7 t a) ?_;exact uI
   .have g1:¬(0<=o.n/\o.n<(jw given).length):=by
     have:¬o.n<(jw given).length:=ak h3
     omega
    rw[AA g1];refine dd ?_;refine af (y7 t u5) ?_;exact uI
  .have g1:¬(0<=o.n/\o.n<(jw given).length):=by
    have:¬0<=o.n:=ak h2
    omega
   rw[AA g1];refine zab ?_
   refine af (y7 t u5) ?_;exact uI
end Go.Beg
namespace Go.Pla
open Go.Ab Go.Proofs Tryz Go.Hy
variable{e:rV}
def Gd:tc 106 [] [I 5] (.r4 225 (.fn 181 [] [])) []:=by
 refine ab func106 ?_;refine hU ?_;(refine⟨aq,_,rfl,dd ?_⟩);exact uI
abbrev Sw(w:Wor):C:=.agg (u9 w)
abbrev Sm(m:rH):C:=.agg (fO m)
abbrev Se(e:rV):C:=.agg (nD e)
abbrev Sr(w:Wor)(m:rH)(e:rV):C:=.rO [Sw w,Sm m,Se e]
def FE{w w':Wor}{m m':rH}(h:tc 181 [] [Sw w,Sm m] (Sr w' m' e) []):tc 348 [] [.fn 181 [] [],Sw w,Sm m] (Sr w' m' e) []:=by
 refine ab func348 ?_;refine af h ?_;exact uI
def Eh{w w':Wor}{m m':rH}(hk:m.op.kind=5)(h:tc 181 [] [Sw w,Sm m] (Sr w' m' e) []):tc 52 [] [Sw w,Sm m] (Sr w' m' e) []:=by
 (have ho:=Gd);(rw[<-hk]at ho);refine ab func52 ?_;refine af ho ?_;refine hU ?_;(refine⟨348,an,rfl,_,_,(FE h).frame V _,dd ?_⟩);exact uI
inductive tR:Nat->Wor->rH->Wor->rH->Prop
 |last {w w':Wor} {m m':rH} {e:rV} (h:tc 52 [] [Sw w,Sm m] (Sr w' m' e) []) (he:e.access≠0) (hd:m'.done=true):tR 1 w m w' m'
 |more {n:Nat} {w w' w2:Wor} {m m' m2:rH} {e:rV} (h:tc 52 [] [Sw w,Sm m] (Sr w' m' e) []) (he:e.access≠0) (hd:m'.done=false) (hg:tR n w' m' w2 m2):tR (n+1) w m w2 m2
end Go.Pla
namespace Go.Dep
open Go.Ab
def jy:Nat->C->C
 |0,c=>c
 |k+1,c=>match c with
  |.rG o sz rows=>match rows with
   |[]=>.rG (if o=2 then 2 else 0) 0 []
   |r::rs=>.rG (if o=2 then 2 else 0) sz (r.map (jy k)::rs.map λr=>r.map (jy k))
  |.agg cs=>.agg (cs.map (jy k))
  |c=>c
def AK(k o sz:Nat)(rows:List (List C))(h:rows≠[]):jy (k+1) (.rG o sz rows)=.rG (if o=2 then 2 else 0) sz (rows.map λr=>r.map (jy k)):=by
 cases rows with
 |nil=>exact absurd V h
 |cons r rs=>rfl
def AH{f:C->C}{rows:List (List C)}{i j:Nat}{r:List C}{c:C}(h1:(rows.map λr=>r.map f)[i]?=some r)(h2:r[j]?=some c):∃r0 c0,rows[i]?=some r0/\r0[j]?=some c0/\c=f c0:=by
 rw[cX]at h1;cases h3:rows[i]? with
 |none=>rw[h3]at h1;cases h1
 |some r0=>
  rw[h3]at h1;cases h1
  rw[cX]at h2;cases h4:r0[j]? with
  |none=>rw[h4]at h2;cases h2
  |some c0=>rw[h4]at h2;cases h2;exact⟨r0,c0,rfl,h4,rfl⟩
def HJ:∀(k:Nat) {E:Env} {c:C} {y:Value},L E c y->L E (jy k c) y:=by
 intro k
 induction k with
 |zero=>intro E c y h;exact h
 |succ k ih=>
  intro E c y h;cases h with
  |rG o sz rows b off cap us ho hc hsz hst hL=>
   have ho2:o≠2:=by rcases ho with h|h <;> omega
   by_cases hr:rows=[]
   .subst hr;have e:jy (k+1) (.rG o sz [])=.rG 0 0 []:=by show C.rG (if o=2 then 2 else 0) 0 _=_;rw[c6 ho2]
    rw[e];exact .rG 0 0 [] b off cap us (.inl V) hc (λr hr=>by cases hr) (λi r j c h1 h2=>by simp at h1) (λi r j c h1 h2=>by simp at h1)
   rw[AK k o sz rows hr,c6 ho2]
   have:=L.rG (E:=E) 0 sz (rows.map λr=>r.map (jy k)) b off cap us (.inl V) (ak hc)
    (λr hr=>by obtain⟨r0,h1,rfl⟩:=dT.1 hr;simpa using hsz r0 h1)
    (λi r j c h1 h2=>by obtain⟨r0,c0,h3,h4,rfl⟩:=AH h1 h2;exact hst i r0 j c0 h3 h4)
    (λi r j c h1 h2=>by obtain⟨r0,c0,h3,h4,rfl⟩:=AH h1 h2;exact ih (hL i r0 j c0 h3 h4))
   rw[cY]at this;exact cQ
  |q6 o sz ho a=>
   have ho2:o≠2:=by rcases ho with h|h <;> omega
   have e:jy (k+1) (.rG o sz [])=.rG 0 0 []:=by show C.rG (if o=2 then 2 else 0) 0 _=_;rw[c6 ho2]
   rw[e];exact .q6 0 0 (.inl V) a
  |agg cs ys h1 h2 h3=>
   have:=LL.rJ (f:=jy k) (E':=E) (cs:=cs) (ys:=ys.toList) ⟨ak h1,λi c y e1 e2=>h2 i c y e1 uS⟩ (λc y hl=>ih hl);exact cG
  |v x hx=>exact .v _ hx
  |qC cells b off us hst hL=>exact .qC cells b off us hst hL
  |ref id hops sz i j hn=>exact .ref id hops sz i j hn
  |sl id hops sz lo len full cap hn hlen hf hf'=>exact .sl id hops sz lo len full cap hn hlen hf hf'
  |fn f first caps ys zs h1 h2 h3 h4=>exact .fn f first caps ys zs h1 h2 h3 h4
  |mp id hn=>exact .mp id hn
  |rO cs ys h1 h2=>exact .rO cs ys h1 h2
  |un=>exact .un
  |za y=>exact .za y
  |gl id sz rows y hn hg h=>exact .gl id sz rows y hn hg h
  |r4 t c y h=>exact .r4 t c y h
def eu:Nat->C->Bool
 |0,_=>true
 |k+1,c=>match c with
  |.rG o _ rows=>o == 0 && rows.all λr=>r.all (eu k)
  |.agg cs=>cs.all (eu k)
  |_=>true
def Fz:∀(k:Nat) {E:Env} {c:C} {y:Value},eu k c=true->L E (jy k c) y->L E c y:=by
 intro k
 induction k with
 |zero=>intro E c y _ h;exact h
 |succ k ih=>
  intro E c y hp h;cases c with
  |rG o sz rows=>
   simp only[eu,c9,dH,c8]at hp;obtain⟨rfl,hp⟩:=hp;by_cases hr:rows=[]
   .subst hr;have h:L E (.rG 0 0 []) y:=h;exact WC.none 0 0 sz E y h
   rw[AK k 0 sz rows hr,c6 aq]at h;generalize hgr:(rows.map λr=>r.map (jy k))=rows' at h;cases h with
   |rG _ _ _ b off cap us ho hc hsz hst hL=>
    subst hgr
    have back:∀{i:Nat} {r:List C} {j:Nat} {c:C},rows[i]?=some r->r[j]?=some c->(rows.map λr=>r.map (jy k))[i]?=some (r.map (jy k))/\(r.map (jy k))[j]?=some (jy k c):=λh1 h2=>by
     rw[cX,h1,cX,h2];exact⟨rfl,rfl⟩
    have:=L.rG (E:=E) 0 sz rows b off cap us (.inl V) (ak hc)
     (λr hr=>by have:=hsz _ (List.mem_map_of_mem (f:=λr=>r.map (jy k)) hr);simpa using this)
     (λi r j c h1 h2=>hst i _ j _ (back h1 h2).1 (back h1 h2).2)
     (λi r j c h1 h2=>ih (hp r (cZ h1) c (cZ h2)) (hL i _ j _ (back h1 h2).1 (back h1 h2).2))
    rw[cY];exact cQ
   |q6 o sz ho a=>exact absurd (List.map_eq_nil_iff.1 hgr) hr
  |agg cs=>
   have hp:cs.all (eu k)=true:=hp;rw[c8]at hp;have h:L E (.agg (cs.map (jy k))) y:=h;generalize hg:cs.map (jy k)=cs' at h;cases h with
   |agg _ ys h1 h2 h3=>
    subst hg;refine .agg cs ys tD (λi c y e1 e2=>ih (hp c (cZ e1)) (h2 i _ y (by rw[cX,e1];rfl) e2)) h3
  |_=>exact h
def zb.fH{P:Program}{f:FuncId}{H H':zf}{args args':List C}{r:C}(k:Nat)(h:zb P f H args r H')(hp:args.all (eu k)=true)(ha:args'.map (jy k)=args.map (jy k)):zb P f H args' r H':=λw E vs hh hl=>
 h w E vs hh ⟨by have:=gy List.length ha;simp at this;rw[<-this];exact hl.1,λi c y e1 e2=>by
  have e3:(args'.map (jy k))[i]?=some (jy k c):=by rw[ha,cX,e1];rfl
  rw[cX]at e3;cases hx:args'[i]? with
  |none=>rw[hx]at e3;cases e3
  |some c'=>
   rw[hx]at e3;simp only[dc,dj]at e3;exact Fz k (c8.1 hp c (cZ e1)) (e3 ▸ HJ k (hl.2 i c' y hx e2))⟩
end Go.Dep
