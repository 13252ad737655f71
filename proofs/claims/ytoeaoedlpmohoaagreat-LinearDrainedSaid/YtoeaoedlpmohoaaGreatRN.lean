import Derived.Test.YtoeaoedlpmohoaaGreatR0
import Derived.Test.YtoeaoedlpmohoaaGreatRR
import Derived.Test.YtoeaoedlpmohoaaGreatRM
import Derived.Test.YtoeaoedlpmohoaaGreatRQ
set_option linter.all false
set_option maxRecDepth 100000
set_option maxHeartbeats 4000000
namespace Go.Cal
open Go.Ab Go.Hy
structure Pt(l:List fx)(k:Nat)(c:Cal):Prop where
 m1:c.z5= -1\/0<=c.z5
 pt:0<=c.z5->∃e:fx,l[c.z5.toNat]?=some e/\e.z5=true/\e.zf=c.zf/\e.op=c.op/\c.z5<(k:Int)/\(e.done=true->0<=c.iw)
 last:∀(j:Nat) (e:fx),c.z5<(j:Int)->j<k->l[j]?=some e->e.zf=c.zf->e.op=c.op->e.z5=false
structure Pts(l:List fx)(k:Nat)(b:List Cal):Prop where
 all:∀c∈b,Pt l k c
 Ar:∀(j:Nat) (e:fx),j<k->l[j]?=some e->∃c∈b,c.zf=e.zf/\c.op=e.op
 nd:∀(i j:Nat) (c d:Cal),b[i]?=some c->b[j]?=some d->c.zf=d.zf->c.op=d.op->i=j
end Go.Cal
namespace Go.Run
open Go.Ab Go.Proofs Tryz Go.Gat Go.Nam Go.Hos Go.Con Go.Sna Go.Pla Go.Ply Go.Wor
open Go.Lin (iA handleV jT)
open Go.Hy hiding encI
structure Eg(w:Wor)(M:iA):Prop where
 now:M.now=w.current
 qz:M.qz=w.ze.map (·.snap)
 dr:∀n,n∈M.dr↔mT w n
 PW:∀v∈w.ze,∀n∈v.snap.zd,0<=zM w.zd n
def Hb(w:Wor)(M:iA)(m:fq):Prop:=M.now=m.version/\(m.op.listen∈M.dr->mT w m.op.listen)/\∃v,w.ze[m.version.toNat]?=some v/\M.qz[m.version.toNat]?=some v.snap
def Hd(w:Wor)(M:iA)(m:fq):Prop:=m.op.listen∉M.dr/\M.now=m.version/\∃v c,w.ze[m.version.toNat]?=some v/\M.qz[m.version.toNat]?=some v.snap/\(xg v.snap m.op.listen m.op.host m.op.path).2=0/\(xg v.snap m.op.listen m.op.host m.op.path).1=m.zg/\
 v.snap.zk[m.zg.toNat]?=some c/\ft c≠[]/\(7<=m.pc->m.end_∈ft c)/\(7<=m.pc->m.pc<=8->m.other∈ft c)
def EJ(w:Wor)(M:iA)(m:fq):Prop:=((m.pc=4\/m.pc=5)/\0<=m.listen/\m.listen=zM w.zd m.op.listen/\Hb w M m)\/((6<=m.pc/\m.pc<=12)/\Hd w M m)\/(20<=m.pc/\handleV M m.op m.answer=true)
def EJ.keep{w w':Wor}{p:Key->Nat}(kp:jL w w' p){M:iA}{m:fq}(h:EJ w M m):EJ w' M m:=by
 have at_:∀{i:Nat} {v:fB},w.ze[i]?=some v->∃v',w'.ze[i]?=some v'/\v'.snap=v.snap:=λ{i v} h1=>by
  obtain⟨v',hv'⟩:∃v',w'.ze[i]?=some v':=⟨_,gp (by have:=(gm.1 h1).1;have:=kp.lu;omega)⟩;exact⟨v',hv',(kp.fX _ v v' h1 hv').snap⟩
 rcases h with⟨h1,h2,h3,h4,h5,v,h6,h7⟩|⟨h1,h2,h3,v,c,h4,h5⟩|h
 ·obtain⟨v',a,b⟩:=at_ h6;exact .inl ⟨h1,h2,by rw[wR kp];exact h3,h4,λz=>M6 kp (h5 z),v',a,by rw[b];exact h7⟩
 ·obtain⟨v',a,b⟩:=at_ h4;exact .inr (.inl ⟨h1,h2,h3,v',c,a,by rw[b];exact h5⟩)
 ·exact .inr (.inr h)
section
variable {w:Wor} {M Mn:iA} {m:fq} {v:fB} {g:Gr} {e:En} {r:Wor×fq×fx}
end
abbrev Di(l:fQ):fA×Bool:=(l.name,l.drain)
def yO(w w':Wor):Prop:=w'.current=w.current/\w'.ze.map (·.snap)=w.ze.map (·.snap)/\w'.zd.map Di=w.zd.map Di
def NO(l:List fQ)(n:fA):zM l n=match (l.map Di).findIdx? (λr=>r.1 == n) with|some i=>(i:Int)|none=> -1:=by
 unfold zM;rw[r4]
 rfl
def Ot{w:Wor}{n:fA}:mT w n↔0<=zM w.zd n/\∃p,(w.zd.map Di)[(zM w.zd n).toNat]?=some p/\p.2=true:=by
 unfold mT;constructor
 ·rintro⟨h1,l,h2,h3⟩;exact⟨h1,Di l,by rw[gz,h2];rfl,h3⟩
 ·rintro⟨h1,p,h2,h3⟩;rw[gz]at h2;obtain⟨l,h4,rfl⟩:=gU.1 h2;exact⟨h1,l,h4,h3⟩
def yO.place{w w':Wor}(s:yO w w')(n:fA):zM w'.zd n=zM w.zd n:=by rw[NO,NO,s.2.2]
def yO.PN{w w':Wor}(s:yO w w')(n:fA):mT w' n↔mT w n:=by rw[Ot,Ot,s.place,s.2.2]
def Eg.same{w w':Wor}{M:iA}(h:Eg w M)(s:yO w w'):Eg w' M:=by
 refine⟨h.now.trans s.1.symm,h.qz.trans s.2.1.symm,λn=>(h.dr n).trans (s.PN n).symm,λv hv n hn=>?_⟩;have:v.snap∈w.ze.map (·.snap):=by rw[<-s.2.1];exact pd.2 ⟨v,hv,rfl⟩
 obtain⟨v0,h0,e⟩:=pd.1 this;rw[s.place];exact h.PW v0 h0 n (by rw[e];exact hn)
def yO.refl(w:Wor):yO w w:=⟨rfl,rfl,rfl⟩
section
variable {w:Wor} {m:fq} {v:fB} {g:Gr} {e:En} {r:Wor×fq×fx}
end
def zye(T:List (List fG))(M:iA)(e:fx):iA:=match iY T e with
 |none=>M
 |some o=>if o.kind=3/\e.cell=3/\e.access=6 then ⟨M.qz++[(qa o.config).1],(M.qz.length:Int),M.dr⟩
  else if o.kind=4/\e.done=true/\e.answer.kind=10 then ⟨M.qz,M.now,M.dr++[o.listen]⟩ else M
def EF(T:List (List fG))(m0:iA)(l:List fx):iA:=l.foldl (zye T) m0
section
variable {T:List (List fG)} {m0 M:iA} {l:List fx} {e:fx} {o:fG}
end
def D6(l:List fx)(t k:Int)(g:Nat):Prop:=∃e:fx,l[g]?=some e/\e.z5=true/\e.zf=t/\e.op=k/\∀(j:Nat) (e':fx),g<j->l[j]?=some e'->e'.zf=t->e'.op=k->e'.z5=false
section
variable {l:List fx} {t k:Int} {g g':Nat} {e:fx}
end
structure MI(T:List (List fG))(m0:iA)(s:Wor.iE):Prop where
 tr:Tr s
 ops:s.2.1.map (·.ops)=T
 dn:∀e∈s.2.2,e.done=true->∃(t:Nat) (x:fN),e.zf=(t:Int)/\s.2.1[t]?=some x/\e.op<x.done
 PR:Eg s.1 (EF T m0 s.2.2)
 nmt:∀L∈T,∀o∈L,o.kind=3->(qO o.config).1=0->∀n∈o.config.zd,0<=zM s.1.zd n
 run:∀(t:Nat) (x:fN),s.2.1[t]?=some x->x.on=true->x.m.op.kind=1->4<=x.m.pc->∃g,D6 s.2.2 t x.done g/\EJ s.1 (EF T m0 (s.2.2.take g)) x.m
 swp:∀(t:Nat) (x:fN),s.2.1[t]?=some x->x.on=true->x.m.op.kind=3->1<=x.m.pc->∃g e,D6 s.2.2 t x.done g/\s.2.2[g]?=some e/\og e/\e.value=x.m.i
 PZ:∀(g:Nat) (e:fx),s.2.2[g]?=some e->og e->D6 s.2.2 e.zf e.op g/\∃o,iY T e=some o/\o.kind=3/\(qO o.config).1=0/\e.value=((EF T m0 (s.2.2.take g)).qz.length:Int)
 pon:∀(g:Nat) (e:fx) (t:Nat) (x:fN),s.2.2[g]?=some e->og e->e.zf=(t:Int)->s.2.1[t]?=some x->e.op=x.done->x.on=true/\1<=x.m.pc
 drn:∀(g:Nat) (e:fx) (o:fG),s.2.2[g]?=some e->iY T e=some o->o.kind=4->e.done=true->e.answer.kind=10->D6 s.2.2 e.zf e.op g
 ptk:∀(g:Nat) (e:fx) (o:fG),s.2.2[g]?=some e->e.z5=true->iY T e=some o->o.kind=3->og e\/e.done=true
 fin:∀(τ g:Nat) (e:fx) (o:fG),s.2.2[τ]?=some e->e.done=true->iY T e=some o->D6 s.2.2 e.zf e.op g->jT (EF T m0 (s.2.2.take g)) o e.answer=(true,EF T m0 (s.2.2.take (g+1)))
structure MS(w:Wor)(M:iA)(M':iA)(o:fG)(m:fq)(r:Wor×fq×fx):Prop where
 PR:Eg r.1 M'
 PZ:og r.2.2->o.kind=3/\(qO o.config).1=0/\r.2.2.z5=true/\r.2.2.value=(M.qz.length:Int)/\r.2.1.done=false/\r.2.1.pc=1/\r.2.1.i=r.2.2.value
 dr:o.kind=4->r.2.1.done=true/\(r.2.1.answer.kind=10/\r.2.2.z5=true\/r.2.1.answer.kind=7/\r.2.2.z5=false)
 sw:o.kind=3->(og r.2.2)\/(¬og r.2.2/\r.2.1.done=true/\(qO o.config).1≠0/\r.2.1.answer=Ax (qO o.config).1/\r.2.2.z5=true)\/(¬og r.2.2/\1<=m.pc/\r.2.2.z5=false/\(r.2.1.done=false->1<=r.2.1.pc/\r.2.1.i=m.i)/\(r.2.1.done=true->r.2.1.answer=B8 m))
 sw1:o.kind=3->1<=m.pc->r.2.2.z5=false
end Go.Run
namespace Go.Run
open Go.Ab Go.Proofs Tryz Go.Gat Go.Nam Go.Hos Go.Con Go.Sna Go.Pla Go.Ply Go.Wor
open Go.Hy hiding encI
def oX(l:List fx)(F v:Int)(j:Nat):Bool:=(List.range j).any λg=>decide (F<=(g:Int)) && decide (mu (l.take g)=v)
def Yv(l:List fx)(F v:Int)(j:Nat):oX l F v (j+1)=(oX l F v j || (decide (F<=(j:Int)) && decide (mu (l.take j)=v))):=by
 unfold oX;rw[fk,List.any_append,List.any_cons,List.any_nil,eX]
def XO{l:List fx}{j:Nat}(h:j<l.length):mu (l.take (j+1))=C1 (mu (l.take j)) l[j]:=by rw[rb h,Oi]
def linearVersion_sound(s:fW)(hs:s.nQ):tn 4 [] [.agg (qi s)] (Bo true) []:=by
 have m1:(s.zW.map Go.Hy.encI).length=s.zW.length:=gE ..;refine ab func4 ?_;refine ah (Lj s (Jy hs)) ?_;refine⟨λh0=>?_,λh0=>?_⟩
 ·refine dd ?_;refine tc ?_
  exact uI
 have ok:=OH h0 hs;refine dd ?_;rw[m1];refine⟨λh1=>?_,λh1=>?_⟩
 ·refine dd ?_;refine tc ?_
  exact uI
 refine dd ?_;have bl:=NP ok;refine ah (E8 s ok) ?_;refine ah (Cal.Il (qo s).1 aw) ?_;have key:=Sz ok;have oC:=K9 (l:=(qo s).1);generalize qo s=p at *;obtain⟨l,w,e⟩:=p;dsimp only at *;generalize Cal.fS l=oc at *;obtain⟨cs,f⟩:=oc;dsimp only at *;have ml:(l.map zS).length=l.length:=gE ..;have mc:(cs.map qC).length=cs.length:=gE ..;refine⟨λh3=>?_,λh3=>?_⟩
 ·refine dd ?_;refine tc ?_
  exact dG
 have e0:e=0:=aq h3
 subst e0;refine dd ?_;refine⟨λh4=>?_,λh4=>?_⟩
 ·refine dd ?_;refine tc ?_
  exact dG
 have f0:f=0:=aq h4
 subst f0;refine dd ?_;obtain⟨n1,n2⟩:=oC rfl;have key:=key rfl rfl;refine zZ.seq cs.length (λk=>(.agg (qi s):: .ref 0 [] 5 0 0::Bo false::mf l:: .za::.za::qZ cs:: .za::I k:: .za::.za::mC (mC (mC (mC (mC (mC (mC (mC (mC (mC (mC (mC ([])))))))))))))) (λk=>[⟨1,30,5,[qi s],0⟩]) (λk=>True) ?_ trivial (λk hk hr=>?_) (λhr=>?_)
 ·exact cE 1
 ·obtain⟨c,hx⟩:∃c,c=cs[k]:=⟨_,rfl⟩;have hg:(cs.map qC)[k]?=some (qC c):=by rw[gz,gp hk,hx];rfl
  have kc:=key c tK;obtain⟨c1,c2,F,c4,c5,⟨ak,a2,a3,a4,a5,a6,a7,a8⟩⟩:=c;conv=>whnf
  rw[mc];refine uF ?_;(refine td hg ?_)
  refine⟨λh5=>?_,λh5=>?_⟩
  ·refine dd ?_;refine tc ?_
   (refine .inl ⟨rfl,?_,trivial⟩);(rw[zw aw]);exact cE 1
  have h0:0<=c5:=aq h5
  refine dd ?_;(refine td hg ?_)
  refine⟨λh6=>?_,λh6=>?_⟩
  ·refine dd ?_;refine tc ?_
   (refine .inl ⟨rfl,?_,trivial⟩);(rw[zw aw]);exact cE 1
  have h6:ak=1:=aq h6
  subst h6;obtain⟨g,p1,p2,p3,p4⟩:=kc h0 rfl;(try dsimp only at p1 p2 p3 p4)
  obtain⟨G,rfl⟩:∃G:Nat,c5=G:=⟨c5.toNat,aw⟩;refine dd ?_;refine zZ.seq (G+1) (λj=>(.agg (qi s):: .ref 0 [] 5 0 0::Bo false::mf l:: .za::.za::qZ cs:: .za::I k::I (mu (l.take j))::Bo (oX l F a2 j)::I j:: .za::.za::.za::.za::.za::.za::.za::mC (mC (mC (mC (mC (mC (mC (mC (mC (mC (mC ([]))))))))))))) (λj=>[⟨1,30,5,[qi s],0⟩]) (λj=>True) ?_ trivial (λj hj hr2=>?_) (λhr2=>?_)
  ·exact cE 1
  ·have hjl:j<l.length:=by omega
   obtain⟨e,he⟩:∃e,e=l[j]:=⟨_,rfl⟩;have hge:(l.map zS)[j]?=some (zS e):=by rw[gz,gp hjl,he];rfl
   have nt:=XO hjl;rw[<-he]at nt;have ws:=Yv l F a2 j;obtain⟨e1,e2,e3,e4,e5,e6,e7,e8,e9,e10,e11⟩:=e;conv=>whnf
   (refine td hg ?_)
   refine⟨λ_=>dd ?_,λh=>absurd h aA⟩;(refine td hg ?_)
   refine⟨λq1=>?_,λq1=>?_⟩
   ·have q1:F<=(j:Int):=by simpa using q1
    refine dd ?_;(refine td hg ?_)
    refine⟨λq2=>?_,λq2=>?_⟩
    ·have q2:mu (l.take j)=a2:=by simpa using q2
     have ws2:oX l F a2 (j+1)=true:=by rw[ws];simp[q1,q2]
     refine dd ?_;(refine td hge ?_);refine⟨λp1=>?_,λp1=>?_⟩;(focus (have p1:e4=3:=by simpa using p1);refine dd ?_;(refine td hge ?_);refine⟨λp2=>?_,λp2=>?_⟩;(focus (have p2:e3=6:=by simpa using p2);(have nt2:=nt.trans (gC ⟨p1,p2⟩));refine dd ?_;(refine td hge ?_);(refine .inl ⟨rfl,?_,trivial⟩);(rw[zw aw,ws2,nt2]);exact cE 1);(focus (have p2:¬e3=6:=by simpa using p2);(have nt2:=nt.trans (gu λz=>p2 z.2));refine dd ?_;(refine .inl ⟨rfl,?_,trivial⟩);(rw[zw aw,ws2,nt2]);exact cE 1));(focus (have p1:¬e4=3:=by simpa using p1);(have nt2:=nt.trans (gu λz=>p1 z.1));refine dd ?_;refine tc ?_;(refine .inl ⟨rfl,?_,trivial⟩);(rw[zw aw,ws2,nt2]);exact cE 1)
    ·have q2:¬mu (l.take j)=a2:=by simpa using q2
     have ws2:oX l F a2 (j+1)=oX l F a2 j:=by rw[ws];simp[q2]
     refine dd ?_;(refine td hge ?_);refine⟨λp1=>?_,λp1=>?_⟩;(focus (have p1:e4=3:=by simpa using p1);refine dd ?_;(refine td hge ?_);refine⟨λp2=>?_,λp2=>?_⟩;(focus (have p2:e3=6:=by simpa using p2);(have nt2:=nt.trans (gC ⟨p1,p2⟩));refine dd ?_;(refine td hge ?_);(refine .inl ⟨rfl,?_,trivial⟩);(rw[zw aw,ws2,nt2]);exact cE 1);(focus (have p2:¬e3=6:=by simpa using p2);(have nt2:=nt.trans (gu λz=>p2 z.2));refine dd ?_;(refine .inl ⟨rfl,?_,trivial⟩);(rw[zw aw,ws2,nt2]);exact cE 1));(focus (have p1:¬e4=3:=by simpa using p1);(have nt2:=nt.trans (gu λz=>p1 z.1));refine dd ?_;refine tc ?_;(refine .inl ⟨rfl,?_,trivial⟩);(rw[zw aw,ws2,nt2]);exact cE 1)
   ·have q1:¬F<=(j:Int):=by simpa using q1
    have ws2:oX l F a2 (j+1)=oX l F a2 j:=by rw[ws];simp[q1]
    refine dd ?_;refine tc ?_
    (refine td hge ?_);refine⟨λp1=>?_,λp1=>?_⟩;(focus (have p1:e4=3:=by simpa using p1);refine dd ?_;(refine td hge ?_);refine⟨λp2=>?_,λp2=>?_⟩;(focus (have p2:e3=6:=by simpa using p2);(have nt2:=nt.trans (gC ⟨p1,p2⟩));refine dd ?_;(refine td hge ?_);(refine .inl ⟨rfl,?_,trivial⟩);(rw[zw aw,ws2,nt2]);exact cE 1);(focus (have p2:¬e3=6:=by simpa using p2);(have nt2:=nt.trans (gu λz=>p2 z.2));refine dd ?_;(refine .inl ⟨rfl,?_,trivial⟩);(rw[zw aw,ws2,nt2]);exact cE 1));(focus (have p1:¬e4=3:=by simpa using p1);(have nt2:=nt.trans (gu λz=>p1 z.1));refine dd ?_;refine tc ?_;(refine .inl ⟨rfl,?_,trivial⟩);(rw[zw aw,ws2,nt2]);exact cE 1)
  ·have hw:oX l F a2 (G+1)=true:=by
    unfold oX;rw[rB];exact⟨g,rC.2 aw,by simp[p1,p4]⟩
   conv=>whnf
   (refine td hg ?_)
   refine⟨λh=>absurd h aA,λ_=>dd ?_⟩;refine⟨aj,uH ?_⟩;rw[hw];refine tc ?_
   (refine .inl ⟨rfl,?_,trivial⟩);(rw[zw aw]);exact cE 1
 ·conv=>whnf
  rw[mc];refine uD ?_;exact dG
def YG{s:fW}(ok:nG s)(h:(qo s).2.2=0)(hf:(Cal.fS (qo s).1).2=0):∀c∈(Cal.fS (qo s).1).1,∃L o,0<=c.zf/\s.threads[c.zf.toNat]?=some L/\0<=c.op/\L[c.op.toNat]?=some o:=λc hc=>by
 obtain⟨_,_,_,_,r5⟩:=VY ok h;unfold Cal.fS at hf hc;cases hbk:Cal.yE (qo s).1 (qo s).1.length with
 |none=>rw[hbk]at hf;cases hf
 |some b=>
  rw[hbk]at hc;obtain⟨⟨_,e,y1,_,y3,y4⟩,_⟩:=Cal.DO _ hbk c hc;obtain⟨_,t,L,z1,z2,z3,z4⟩:=r5 e (gA y1);refine⟨L,L[c.op.toNat]'aw,aw,?_,aw,gp _⟩;rw[<-y3,z1,toNat_cast];exact z2
def linearDrained_sound(s:fW)(hs:s.nQ):tn 5 [] [.agg (qi s)] (Bo true) []:=by
 have m1:(s.zW.map Go.Hy.encI).length=s.zW.length:=gE ..;refine ab func5 ?_;refine ah (Lj s (Jy hs)) ?_;refine⟨λh0=>?_,λh0=>?_⟩
 ·refine dd ?_;refine tc ?_
  exact uI
 have ok:=OH h0 hs;refine dd ?_;rw[m1];refine⟨λh1=>?_,λh1=>?_⟩
 ·refine dd ?_;refine tc ?_
  exact uI
 refine dd ?_;have bl:=NP ok;refine ah (E8 s ok) ?_;refine ah (Cal.Il (qo s).1 aw) ?_;have key:=R7 ok;have cop:=YG ok;have oC:=K9 (l:=(qo s).1);generalize qo s=p at *;obtain⟨l,w,e⟩:=p;dsimp only at *;generalize Cal.fS l=oc at *;obtain⟨cs,f⟩:=oc;dsimp only at *;have ml:(l.map zS).length=l.length:=gE ..;have mc:(cs.map qC).length=cs.length:=gE ..;refine⟨λh3=>?_,λh3=>?_⟩
 ·refine dd ?_;refine tc ?_
  exact dG
 have e0:e=0:=aq h3
 subst e0;refine dd ?_;refine⟨λh4=>?_,λh4=>?_⟩
 ·refine dd ?_;refine tc ?_
  exact dG
 have f0:f=0:=aq h4
 subst f0;refine dd ?_;obtain⟨n1,n2⟩:=oC rfl;have key:=key rfl rfl;have cop:=cop rfl rfl;refine zZ.seq cs.length (λk=>(.agg (qi s):: .ref 0 [] 5 0 0::Bo false::mf l:: .za::.za::qZ cs:: .za::I k:: .za::.za::.za::.za::.za::.za::.za::mC (mC (mC (mC (mC (mC (mC (mC (mC (mC (mC (mC (mC (mC (mC ([]))))))))))))))))) (λk=>[⟨1,30,5,[qi s],0⟩]) (λk=>True) ?_ trivial (λk hk hr=>?_) (λhr=>?_)
 ·exact cE 1
 ·obtain⟨c,hx⟩:∃c,c=cs[k]:=⟨_,rfl⟩;have hg:(cs.map qC)[k]?=some (qC c):=by rw[gz,gp hk,hx];rfl
  have cm:c∈cs:=bN
  have kc:=key c cm;obtain⟨L,oc,o1,o2,o3,o4⟩:=cop c cm;have hT:(s.threads.map xf)[c.zf.toNat]?=some (xf L):=by rw[gz,o2];rfl
  have hO:(L.map vq)[c.op.toNat]?=some (vq oc):=by rw[gz,o4];rfl
  conv=>whnf
  rw[mc];refine uF ?_;(refine td hg ?_)
  refine⟨λh5=>?_,λh5=>?_⟩
  ·refine dd ?_;refine tc ?_
   (refine .inl ⟨rfl,?_,trivial⟩);(rw[zw aw]);exact cE 1
  have h0:0<=c.iw:=aq h5
  refine dd ?_;(refine td hg ?_)
  refine⟨λh6=>?_,λh6=>?_⟩
  ·refine dd ?_;refine tc ?_
   (refine .inl ⟨rfl,?_,trivial⟩);(rw[zw aw]);exact cE 1
  have h6:c.answer.kind=10:=aq h6
  refine dd ?_;refine .inl ⟨⟨false,[1],[0],[]⟩,au,uH ?_⟩;(refine td hg ?_)
  (refine⟨o1,_,hT,dd ?_⟩)
  (refine td hg ?_)
  (refine⟨o3,_,hO,dd ?_⟩)
  refine zZ.seq cs.length (λj=>(.agg (qi s):: .ref 0 [] 5 0 0::Bo false::mf l:: .za::.za::qZ cs:: .za::I k::Tx oc.listen::I j:: .za::.za::.za::.za::.za::mC (mC (mC (mC (mC (mC (mC (mC (mC (mC (mC (mC (mC (mC (mC ([]))))))))))))))))) (λj=>[⟨1,30,5,[qi s],0⟩]) (λj=>True) ?_ trivial (λj hj hr2=>?_) (λhr2=>?_)
  ·exact cE 1
  ·obtain⟨d,hy⟩:∃d,d=cs[j]:=⟨_,rfl⟩;have hgd:(cs.map qC)[j]?=some (qC d):=by rw[gz,gp hj,hy];rfl
   have dm:d∈cs:=by rw[hy];exact gZ hj
   have kd:=kc d dm h0 h6;obtain⟨Ld,od,d1,d2,d3,d4⟩:=cop d dm;have hTd:(s.threads.map xf)[d.zf.toNat]?=some (xf Ld):=by rw[gz,d2];rfl
   have hOd:(Ld.map vq)[d.op.toNat]?=some (vq od):=by rw[gz,d4];rfl
   conv=>whnf
   rw[mc];refine uF ?_;refine .inl ⟨⟨false,[1,6,8,13,15],[0],[]⟩,au,uH ?_⟩;(refine td hgd ?_)
   (refine⟨d1,_,hTd,dd ?_⟩)
   (refine td hgd ?_)
   (refine⟨d3,_,hOd,dd ?_⟩)
   refine hZ ?_
   refine .inl ⟨⟨true,[11,16],[0,1],[8]⟩,au,uH ?_⟩;(refine td hg ?_)
   (refine td hgd ?_)
   refine ah (Cal.Sp c d) ?_;refine⟨λq1=>?_,λq1=>?_⟩
   ·have q1:Cal.F9 c d=true:=q1;refine dd ?_;refine⟨λq2=>?_,λq2=>?_⟩
    ·have q2:od.kind=1:=by simpa using q2
     refine dd ?_;refine⟨λq3=>?_,λq3=>?_⟩
     ·have q3:od.listen=oc.listen:=by simpa using q3
      refine dd ?_;(refine td hgd ?_)
      refine⟨λq4=>?_,λq4=>?_⟩
      ·have q4:0<=d.iw:=by simpa using q4
       refine dd ?_;(refine td hgd ?_)
       have lt:c.iw<d.from_:=by
        unfold Cal.F9 at q1;simp only[gH,gQ]at q1;exact q1.2
       have e5:=kd q4 lt L Ld oc od o2 o4 d2 d4 q2 q3.symm;refine⟨λh=>absurd h (by simp[e5]),λ_=>dd ?_⟩;refine hZ ?_
       refine tc ?_
       (refine .inl ⟨rfl,?_,trivial⟩);(rw[zw aw]);exact cE 1
      ·refine dd ?_;refine hZ ?_;refine tc ?_;(refine .inl ⟨rfl,?_,trivial⟩);(rw[zw aw]);exact cE 1
     ·refine dd ?_;refine hZ ?_;refine tc ?_;(refine .inl ⟨rfl,?_,trivial⟩);(rw[zw aw]);exact cE 1
    ·refine dd ?_;refine hZ ?_;refine tc ?_;(refine .inl ⟨rfl,?_,trivial⟩);(rw[zw aw]);exact cE 1
   ·refine dd ?_;refine hZ ?_;refine tc ?_;(refine .inl ⟨rfl,?_,trivial⟩);(rw[zw aw]);exact cE 1
  ·conv=>whnf
   rw[mc];refine uD ?_;(refine .inl ⟨rfl,?_,trivial⟩);(rw[zw aw]);exact cE 1
 ·conv=>whnf
  rw[mc];refine uD ?_;exact dG
end Go.Run
