import Derived.Test.YtllehbdigpdinaaGreatSQ
import Derived.Test.YtllehbdigpdinaaGreatS0
set_option linter.all false
set_option maxRecDepth 100000
set_option maxHeartbeats 4000000
namespace Go.Run
open Go.Ab Go.Proofs Tryz Go.Gat Go.Nam Go.Hos Go.Con Go.Sna Go.Pla Go.Ply Go.Wor
open Go.Hy hiding encI
def Kr(k:Nat)(a:ff):Nat:=if 1<=a.kind/\a.kind<=5/\(k=0\/a.kind=k) then 1 else 0
def Qm(k:Nat)(m:eR):Nat:=if m.op.kind=1/\m.done=false/\(if k=0 then 22 else 21)<=m.pc then Kr k m.answer else 0
def Qn(k:Nat)(x:fp):Nat:=if x.on=true then Qm k x.m else 0
def Ql(k:Nat)(e:eV):Nat:=if e.done=true then Kr k e.answer else 0
def zy0(k:Nat)(l:List (List Int)):Int:=(l.map λr=>(r[k]?).getD 0).sum
def n9(e:eV):Prop:=e.cell=10/\e.access=3
def nu(K:List Int)(w:Wor)(m:eR)(r:Wor×eR×eV):Prop:=r.1.counts=w.counts/\r.2.1.op=m.op/\(r.2.1.done=true->r.2.1.answer.kind∈K)/\¬n9 r.2.2
def D5{e:eV}(h:e.cell≠10):¬n9 e:=λz=>h z.1
def CE{K:List Int}{α:Type}{w:Wor}{m:eR}{o:Option α}{f:α->Wor×eR×eV}{r:Wor×eR×eV}(h:o.map f=some r)(hf:∀x,nu K w m (f x)):nu K w m r:=by
 obtain⟨x,_,rfl⟩:=gT.1 h;exact hf x
def WO{K:List Int}{w:Wor}{m:eR}{f:fq->Wor×eR×eV}{r:Wor×eR×eV}(h:wi w m f=some r)(hf:∀x,nu K w m (f x)):nu K w m r:=by
 unfold wi at h;rcases zu h with h|h
 ·cases h
 ·exact CE h hf
def xg{K:List Int}{w w':Wor}{m m':eR}{e:eV}(h1:w'.counts=w.counts)(h2:m'.op=m.op)(h3:m'.done=false)(h4:e.cell≠10:=by exact gH au):nu K w m (w',m',e):=⟨h1,h2,λq=>absurd (q.symm.trans h3) ar,D5 h4⟩
def kE{K:List Int}{w w':Wor}{m m':eR}{e:eV}(h1:w'.counts=w.counts)(h2:m'.op=m.op)(h3:m'.answer.kind∈K)(h4:e.cell≠10:=by exact gH au):nu K w m (w',m',e):=⟨h1,h2,λ_=>h3,D5 h4⟩
def SE{w:Wor}{m:eR}{v:fc}{g:Gr}{e:En}{r:Wor×eR×eV}(hd:m.done=false)(h:xa w m v g e=some r):nu [6,7] w m r:=by
 unfold xa at h;rcases zu h with h|h
 ·obtain rfl:=gm h;exact dC
 rcases zu h with h|h
 ·obtain rfl:=gm h;exact dC
 rcases zu h with h|h
 ·rcases zu h with h|h
  ·obtain rfl:=gm h;exact dC
  ·obtain rfl:=gm h;exact dC
 rcases zu h with h|h
 ·obtain rfl:=gm h;exact dC
 rcases zu h with h|h
 ·exact WO h λx=>kE O O (by exact gH au)
 rcases zu h with h|h
 ·obtain rfl:=gm h;exact dD
 ·cases h
def Vx{w:Wor}{m:eR}{r:Wor×eR×eV}(hd:m.done=false)(h:yL w m=some r):nu [8,9] w m r:=by
 unfold yL at h;rcases zu h with h|h
 ·rcases zu h with h|h
  ·obtain rfl:=gm h;exact dC
  ·obtain rfl:=gm h;exact dD
 rcases zu h with h|h
 ·obtain rfl:=gm h;exact dC
 rcases zu h with h|h
 ·rcases zu h with h|h
  ·cases h
  ·obtain rfl:=gm h;exact dD
 ·cases h
def TH{w:Wor}{m:eR}{r:Wor×eR×eV}(hd:m.done=false)(h:vz w m=some r):nu [7,10] w m r:=by
 unfold vz at h;rcases zu h with h|h
 ·rcases zu h with h|h
  ·obtain rfl:=gm h;exact dD
  ·exact CE h λx=>kE O O (by exact gH au)
 ·cases h
def OA(w:Wor)(m m0:eR)(hd:m.done=false)(ho:m.op=m0.op):nu [11,12] w m0 (l8 w m):=by
 unfold l8;split
 ·exact kE O ho (by exact gH au)
 ·refine xg O ?_ ?_
  ·unfold BN;repeat' split
   all_goals exact ho
  ·unfold BN;repeat' split
   all_goals exact hd
def Sg{w:Wor}{m:eR}{r:Wor×eR×eV}(hd:m.done=false)(h:j8 w m=some r):nu [11,12] w m r:=by
 unfold j8 at h;rcases zu h with h|h
 ·obtain rfl:=gm h;split
  ·exact dC
  ·exact dD
 rcases zu h with h|h
 ·obtain rfl:=gm h;exact dC
 rcases zu h with h|h
 ·refine CE h λx=>xg O ?_ ?_
  ·unfold Az;repeat' split
   all_goals rfl
  ·unfold Az;repeat' split
   all_goals exact hd
 rcases zu h with h|h
 ·obtain rfl:=gm h;split
  ·exact dC
  ·exact dC
 rcases zu h with h|h
 ·obtain rfl:=gm h;split
  ·exact OA w (iA m 8 0) m hd O
  ·refine xg O ?_ ?_
   ·unfold Ay;repeat' split
    all_goals rfl
   ·unfold Ay;repeat' split
    all_goals exact hd
 rcases zu h with h|h
 ·obtain⟨v,_,h⟩:=gU.1 h;refine CE h λx=>xg O ?_ ?_
  ·unfold Bb;repeat' split
   all_goals rfl
  ·unfold Bb;repeat' split
   all_goals exact hd
 rcases zu h with h|h
 ·obtain⟨v,_,h⟩:=gU.1 h;obtain⟨x,_,h⟩:=gU.1 h;rcases zu h with h|h
  ·obtain rfl:=gm h;exact dC
  ·cases h
 rcases zu h with h|h
 ·obtain rfl:=gm h;exact OA w m m hd O
 rcases zu h with h|h
 ·refine CE h λx=>xg O ?_ ?_
  ·split <;> rfl
  ·split <;> exact hd
 rcases zu h with h|h
 ·obtain⟨v,_,h⟩:=gU.1 h;rcases zu h with h|h
  ·obtain rfl:=gm h;exact dC
  ·cases h
 ·cases h
def MV(w:Wor)(m:eR)(n:Int):(jo w m n).op=m.op/\((jo w m n).done=m.done\/(jo w m n).answer.kind=13):=by
 unfold jo;dsimp only;repeat' split
 all_goals exact⟨rfl,by first|exact .inl rfl|exact .inr O⟩
def TJ{w:Wor}{m:eR}{r:Wor×eR×eV}(hd:m.done=false)(h:yu w m=some r):nu [13] w m r:=by
 unfold yu at h;rcases zu h with h|h
 ·obtain⟨v,_,h⟩:=gU.1 h;refine CE h λx=>⟨rfl,(MV w m x).1,λq=>?_,λz=>absurd (show(1:Int)=3 from z.2) ar⟩
  dsimp only at q ⊢;rcases(MV w m x).2 with z|z
  ·exact absurd (hd.symm.trans (z.symm.trans q)) ar
  ·exact gN.2 z
 ·cases h
def zU{α:Type}{c:Prop}[Decidable c]{a b x:α}(h:(if c then a else b)=x):(c/\a=x)\/(¬c/\b=x):=by
 by_cases q:c
 ·rw[gk q]at h;exact .inl ⟨q,h⟩
 ·rw[gf q]at h;exact .inr ⟨q,h⟩
def Cn(w:Wor)(m:eR)(r:Wor×eR×eV):Prop:=
 (r.1.counts=w.counts/\m.pc<20/\r.2.1.pc<=20/\r.2.1.done=false/\¬n9 r.2.2)\/
 (∃(k:Nat) (r0:List Int) (x:Int),w.counts[m.zf.toNat]?=some r0/\r0[k]?=some x/\r.1.counts=w.counts.set m.zf.toNat (r0.set k (IntKind.u64.wrap (x+1)))/\(n9 r.2.2/\r.2.2.value=k)/\((m.pc=20/\k=(oN m.answer.kind).toNat/\r.2.1={m with pc:=21})\/(m.pc=21/\k=0/\∃p,22<=p/\r.2.1={m with pc:=p})))\/
 (r.1.counts=w.counts/\22<=m.pc/\¬n9 r.2.2/\(r.2.1={m with pc:=23}\/r.2.1={m with done:=true}))
def FX{α:Type}{w:Wor}{m:eR}{o:Option α}{f:α->Wor×eR×eV}{r:Wor×eR×eV}(h:o.map f=some r)(hf:∀x,Cn w m (f x)):Cn w m r:=by
 obtain⟨x,_,rfl⟩:=gT.1 h;exact hf x
def IP{w:Wor}{m:eR}{f:fq->Wor×eR×eV}{r:Wor×eR×eV}(h:wi w m f=some r)(hf:∀x,Cn w m (f x)):Cn w m r:=by
 unfold wi at h;rcases zu h with h|h
 ·cases h
 ·exact FX h hf
def vB{w w':Wor}{m m':eR}{e:eV}(h1:w'.counts=w.counts)(h2:m.pc<20)(h3:m'.pc<=20)(h4:m'.done=false)(h5:e.cell≠10:=by exact gH au):Cn w m (w',m',e):=.inl ⟨h1,h2,h3,h4,D5 h5⟩
def ME{w:Wor}{m:eR}{k p:Int}{r:Wor×eR×eV}(h:yU w m k p=some r):∃r0 x,w.counts[m.zf.toNat]?=some r0/\r0[k.toNat]?=some x/\r.1.counts=w.counts.set m.zf.toNat (r0.set k.toNat (IntKind.u64.wrap (x+1)))/\(n9 r.2.2/\r.2.2.value=k)/\r.2.1={m with pc:=p}:=by
 unfold yU at h;split at h
 ·cases h
 ·rename_i r0 h0;split at h
  ·cases h
  ·rename_i x hx;obtain rfl:=gm h;exact⟨r0,x,h0,hx,rfl,⟨⟨rfl,rfl⟩,rfl⟩,rfl⟩
def LX{w:Wor}{m:eR}{v:fc}{g:Gr}{e:En}{r:Wor×eR×eV}(hd:m.done=false)(h:zZ w m v g e=some r):Cn w m r:=by
 have rt:m.pc<=20->(xe m v).pc<=20:=λh=>by
  unfold xe;repeat' split
  all_goals first|exact h|exact gH au
 have rd:(xe m v).done=false:=by
  unfold xe;repeat' split
  all_goals exact hd
 unfold zZ at h;rcases zU h with⟨p,h⟩|⟨p,h⟩
 ·unfold oU at h;rcases zu h with h|h
  ·obtain rfl:=gm h;exact vB O aw (by show(1:Int)<=20;decide) hd
  rcases zu h with h|h
  ·obtain rfl:=gm h;exact vB O aw (by show(2:Int)<=20;decide) hd
  rcases zu h with h|h
  ·obtain rfl:=gm h;exact vB O aw (by dsimp only;split <;> decide) hd
  ·cases h
 rcases zU h with⟨p,h⟩|⟨_,h⟩
 ·obtain rfl:=gm h;refine vB O aw ?_ ?_
  ·split
   ·show(20:Int)<=20;decide
   ·show(4:Int)<=20;decide
  ·split <;> exact hd
 rcases zU h with⟨p,h⟩|⟨_,h⟩
 ·exact IP h λx=>vB O aw (by show(5:Int)<=20;decide) hd
 rcases zU h with⟨p,h⟩|⟨_,h⟩
 ·refine IP h λx=>vB O aw ?_ ?_ (by split <;> exact gH au)
  ·split
   ·show(20:Int)<=20;decide
   ·exact rt aw
  ·split
   ·exact hd
   ·exact rd
 rcases zU h with⟨p,h⟩|⟨_,h⟩
 ·exact FX h λx=>vB O aw (by show(9:Int)<=20;decide) hd
 rcases zU h with⟨p,h⟩|⟨_,h⟩
 ·obtain rfl:=gm h;exact vB O aw (by show(8:Int)<=20;decide) hd
 rcases zU h with⟨p,h⟩|⟨_,h⟩
 ·exact FX h λx=>vB O aw (by show(9:Int)<=20;decide) hd
 rcases zU h with⟨p,h⟩|⟨_,h⟩
 ·obtain rfl:=gm h;refine vB O aw ?_ ?_
  ·split
   ·show(10:Int)<=20;decide
   ·show(20:Int)<=20;decide
  ·split <;> exact hd
 rcases zU h with⟨p,h⟩|⟨_,h⟩
 ·exact FX h λx=>vB O aw (by show(11:Int)<=20;decide) hd
 rcases zU h with⟨p,h⟩|⟨_,h⟩
 ·rcases zu h with h|h
  ·obtain rfl:=gm h;exact vB O aw (by show(12:Int)<=20;decide) hd
  ·obtain rfl:=gm h;exact vB O aw (by show(9:Int)<=20;decide) hd
 rcases zU h with⟨p,h⟩|⟨_,h⟩
 ·obtain rfl:=gm h;exact vB O aw cG hd
 rcases zU h with⟨p,h⟩|⟨_,h⟩
 ·obtain⟨r0,x,a1,a2,a3,⟨a5,a6⟩,a4⟩:=ME h;exact .inr (.inl ⟨_,r0,x,a1,a2,a3,⟨a5,by rw[a6];unfold oN;split <;> omega⟩,.inl ⟨p,rfl,a4⟩⟩)
 rcases zU h with⟨p,h⟩|⟨_,h⟩
 ·obtain⟨r0,x,a1,a2,a3,a5,a4⟩:=ME h;exact .inr (.inl ⟨0,r0,x,a1,a2,a3,a5,.inr ⟨p,rfl,_,by split <;> decide,a4⟩⟩)
 rcases zU h with⟨p,h⟩|⟨_,h⟩
 ·refine IP h λx=>.inr (.inr ⟨rfl,aw,D5 (gH au),.inl O⟩)
 rcases zU h with⟨p,h⟩|⟨_,h⟩
 ·obtain rfl:=gm h;exact .inr (.inr ⟨rfl,aw,D5 (gH au),.inr O⟩)
 ·cases h
structure CI(N:Nat)(s:Wor.ij):Prop where
 col:∀k,k<6->zy0 k s.1.counts=(((s.2.2.map (Ql k)).sum+(s.2.1.map (Qn k)).sum:Nat):Int)
 low:∀r∈s.1.counts,∀x∈r,0<=x/\x<=(N:Int)
 on:s.2.2.countP (·.qX)=s.2.2.countP (·.done)+s.2.1.countP (·.on)
def ZQ{N K:Nat}{w:Wor}{X:List fp}{t:Nat}{x:fp}{o:fh}(gi:GI N K w X)(hx:X[t]?=some x):(jF x t o).op.kind=1->20<=(jF x t o).pc->1<=(jF x t o).answer.kind/\(jF x t o).answer.kind<=5:=by
 cases hon:x.on with
 |false=>
  intro hk hp;have e:jF x t o=Beg.jY t o x.given:=aY
  rw[e]at hk hp;by_cases h:o.kind=2
  ·have:(Beg.jY t o x.given).op.kind=2:=by
    unfold Beg.jY;rw[gk h];unfold Beg.Bl;repeat' split
    all_goals exact h
   omega
  ·rw[DB h]at hp;exact absurd (show(20:Int)<=0 from hp) ar
 |true=>
  have e:jF x t o=x.m:=aY
  rw[e];intro hk hp;obtain⟨os,hl,hti,_⟩:=gi.own;obtain⟨ow,ho⟩:∃o,os[t]?=some o:=⟨_,dZ (by have:=(dY.1 hx).1;omega)⟩;obtain⟨L,_,_,h|⟨_,h⟩⟩:=(hti t x ow hx ho).open_
  ·have:=h.1;rw[hon]at this;cases this
  ·obtain⟨v,g,e,su,lc⟩:=h.lc;rcases lc with⟨_,lc⟩|⟨k,_⟩|⟨k,_⟩|⟨k,_⟩|⟨k,_⟩|⟨k,_⟩
   ·exact⟨(lc.mz hp).1,(lc.mz hp).2.1⟩
   all_goals omega
def HC{N K:Nat}{w:Wor}{X:List fp}{t:Nat}{x:fp}(o:fh)(gi:GI N K w X)(hx:X[t]?=some x):(jF x t o).zf=t:=by
 cases hon:x.on with
 |false=>
  unfold jF Beg.jY;rw[hon,gf ar];split
  ·unfold Beg.Bl;repeat' split
   all_goals rfl
  ·rfl
 |true=>
  unfold jF;rw[hon,gk O];obtain⟨os,hl,hti,_⟩:=gi.own;obtain⟨ow,ho⟩:∃o,os[t]?=some o:=⟨_,dZ (by have:=(dY.1 hx).1;omega)⟩;obtain⟨L,_,_,h|⟨_,h⟩⟩:=(hti t x ow hx ho).open_
  ·have:=h.1;rw[hon]at this;cases this
  ·exact h.th
structure Tr(s:Wor.ij):Prop where
 th:∀e∈s.2.2,∃(t:Nat) (x:fp),e.zf=(t:Int)/\s.2.1[t]?=some x/\0<=e.op/\(e.op<x.done\/(e.op=x.done/\x.on=true))
 uniq:∀(a b:Nat) (ea eb:eV),s.2.2[a]?=some ea->s.2.2[b]?=some eb->ea.qX=true->eb.qX=true->ea.zf=eb.zf->ea.op=eb.op->a=b
 on:∀(t:Nat) (x:fp),s.2.1[t]?=some x->x.on=true->∃(f:Nat) (e:eV),s.2.2[f]?=some e/\e.qX=true/\e.zf=(t:Int)/\e.op=x.done
def vT{α:Type}{l:List α}{y x:α}{a:Nat}(h:(l++[y])[a]?=some x):(a<l.length/\l[a]?=some x)\/(a=l.length/\x=y):=by
 rw[ez]at h;split at h
 ·exact .inl ⟨by assumption,h⟩
 ·rename_i q;have hl:a-l.length<1:=by simpa using (dY.1 h).1
  have e0:a-l.length=0:=aw
  rw[e0]at h;exact .inr ⟨aw,aq h.symm⟩
def yA{α:Type}{l:List α}(y:α){x:α}{a:Nat}(h:l[a]?=some x):(l++[y])[a]?=some x:=by
 rw[gz (dY.1 h).1];exact h
def vv{α:Type}(l:List α)(y:α):(l++[y])[l.length]?=some y:=by simp
def I3{s:Wor.ij}{t:Nat}{x:fp}{m:eR}{w:Wor}{e:eV}(tr:Tr s)(hx:s.2.1[t]?=some x)(he:e.zf=(t:Int)):Tr (w,s.2.1.set t (Wor.jj x m),s.2.2++[nT e x]):=by
 have hl:=(dY.1 hx).1
 have y:(Wor.jj x m).done=x.done+1/\(Wor.jj x m).on=false\/(Wor.jj x m).done=x.done/\(Wor.jj x m).on=true:=by
  unfold Wor.jj;by_cases q:m.done=true
  ·rw[gk q];exact .inl ⟨rfl,rfl⟩
  ·rw[gf q];exact .inr ⟨rfl,rfl⟩
 refine⟨λe' h=>?_,λa b ea eb h1 h2 b1 b2 q1 q2=>?_,λt' x' h1 h2=>?_⟩
 ·dsimp only at h ⊢;rcases gO.1 h with h|h
  ·obtain⟨t',x',p1,p2,p3,p4⟩:=tr.th e' h;by_cases q:t=t'
   ·subst q;rw[hx]at p2;cases p2
    refine⟨t,_,p1,gu hl,p3,?_⟩;rcases y with⟨y1,y2⟩|⟨y1,y2⟩
    ·rw[y1];exact .inl aw
    ·rw[y1,y2];rcases p4 with p4|p4
     ·exact .inl p4
     ·exact .inr ⟨p4.1,rfl⟩
   ·exact⟨t',x',p1,by rw[gV q];exact p2,p3,p4⟩
  ·rw[gN]at h;subst h;refine⟨t,_,he,gu hl,by show(0:Int)<=(x.done:Int);omega,?_⟩;show(x.done:Int)<_\/(x.done:Int)=_/\_;rcases y with⟨y1,y2⟩|⟨y1,y2⟩
   ·rw[y1];exact .inl aw
   ·rw[y1,y2];exact .inr ⟨rfl,rfl⟩
 ·dsimp only at h1 h2
  have none_:∀ea∈s.2.2,x.on=false->ea.zf=(t:Int)->ea.op=(x.done:Int)->False:=λea hm hoff hth hop=>by
   obtain⟨t',x',p1,p2,p3,p4⟩:=tr.th ea hm;have:t'=t:=aw
   subst this;rw[hx]at p2;cases p2
   rcases p4 with p4|⟨_,p4⟩
   ·omega
   ·rw[hoff]at p4;cases p4
  rcases vT h1 with⟨l1,h1⟩|⟨l1,rfl⟩
  ·rcases vT h2 with⟨l2,h2⟩|⟨l2,rfl⟩
   ·exact tr.uniq a b ea eb h1 h2 b1 b2 q1 q2
   ·exact(none_ ea (gh h1) (by have:(!x.on)=true:=b2;simpa using this) (q1.trans he) q2).elim
  ·rcases vT h2 with⟨l2,h2⟩|⟨l2,rfl⟩
   ·exact(none_ eb (gh h2) (by have:(!x.on)=true:=b1;simpa using this) (q1.symm.trans he) q2.symm).elim
   ·omega
 ·dsimp only at h1 ⊢;by_cases q:t=t'
  ·subst q;rw[gu hl]at h1;cases h1
   rcases y with⟨y1,y2⟩|⟨y1,y2⟩
   ·rw[h2]at y2;cases y2
   ·rw[y1];cases hon:x.on with
    |true=>
     obtain⟨f,e1,p1,p2,p3,p4⟩:=tr.on t x hx hon;exact⟨f,e1,yA _ p1,p2,p3,p4⟩
    |false=>exact⟨s.2.2.length,_,vv _ _,by show(!x.on)=true;rw[hon];rfl,he,rfl⟩
  ·rw[gV q]at h1;obtain⟨f,e1,p1,p2,p3,p4⟩:=tr.on t' x' h1 h2;exact⟨f,e1,yA _ p1,p2,p3,p4⟩
def IE(w:Wor)(T:List (List fh)):Tr (w,T.map iP,[]):=by
 refine⟨λe h=>aT,λa b ea eb h1=>(by cases h1),λt x h1 h2=>?_⟩;obtain⟨L,_,rfl⟩:=gT.1 ((gj ..).symm.trans h1);cases h2
def isAdd(k:Nat)(e:eV):Bool:=e.cell == 10 && e.access == 3 && e.value == (k:Int)
def BE(i k:Nat)(e:eV):Bool:=isAdd k e && e.zf == (i:Int)
def mQ(n k:Nat)(e:eV):Bool:=isAdd k e && decide (e.zf<(n:Int))
def kR(x:na)(k:Nat):Int:=if k=0 then x.c0 else if k=1 then x.c1 else if k=2 then x.c2 else if k=3 then x.c3 else if k=4 then x.c4 else x.c5
def XP{k:Nat}{e:eV}(h:¬n9 e):isAdd k e=false:=by
 unfold isAdd;cases q:(e.cell == 10 && e.access == 3) with
 |false=>rfl
 |true=>
  simp only[gC,pq]at q;exact absurd q h
def V6{k kk:Nat}{e:eV}(h:n9 e)(hv:e.value=(kk:Int)):isAdd k e=decide (k=kk):=by
 unfold isAdd;rw[h.1,h.2,hv];by_cases q:k=kk
 ·subst q;simp
 ·have:¬((kk:Int)=k):=by omega
  simp[q,this]
def lt_succ(n k:Nat):∀l:List eV,l.countP (mQ (n+1) k)=l.countP (mQ n k)+l.countP (BE n k)
 |[]=>rfl
 |e::l=>by
  have ih:=lt_succ n k l;rw[eM,eM,eM,ih]
  have:(if mQ (n+1) k e=true then 1 else 0)=(if mQ n k e=true then 1 else 0)+(if BE n k e=true then 1 else 0):=by
   unfold mQ BE;cases isAdd k e with
   |false=>simp
   |true=>
    simp only[rX,pq,gM];by_cases q:e.zf<(n:Int)
    ·rw[gk aw,gk q,gf aw]
    ·rw[gf q];by_cases z:e.zf=(n:Int)
     ·rw[gk aw,gk z]
     ·rw[gf aw,gf z]
  omega
def Y8(k:Nat){l:List eV}(h:∀e∈l,0<=e.zf):l.countP (mQ 0 k)=0:=by
 rw[List.countP_eq_zero];intro e he;have:=h e he;unfold mQ;simp;omega
def O7(n k:Nat){l:List eV}(h:∀e∈l,e.zf<(n:Int)):l.countP (mQ n k)=l.countP (isAdd k):=by
 refine List.countP_congr λe he=>?_
 have:=h e he;unfold mQ;simp[this]
def l9(m:eR)(k:Nat):Nat:=m.i.toNat+if (k:Int)<m.k then 1 else 0
def Bd(F L:List eV)(m:eR):Prop:=∀k,k<6->(F.countP (mQ (l9 m k) k):Int)<=kR m.counts k/\kR m.counts k<=L.countP (mQ (l9 m k) k)
def Bd.grow{F L:List eV}{m:eR}(e:eV)(h:Bd F L m):Bd F (L++[e]) m:=λk hk=>by
 have:=h k hk;rw[sg];omega
def YQ(x:na)(a k:Nat)(n:Int)(ha:a<6)(hk:k<6)(h:0<=kR x a+n)(h2:kR x a+n<18446744073709551616):kR (wc x a n) k=kR x k+if k=a then n else 0:=by
 have w:∀z:Int,0<=z->z<18446744073709551616->IntKind.u64.wrap z=z:=λz h1 h2=>by
  show z%18446744073709551616=z;omega
 obtain⟨c0,c1,c2,c3,c4,c5⟩:=x;obtain rfl|rfl|rfl|rfl|rfl|rfl:a=0\/a=1\/a=2\/a=3\/a=4\/a=5:=aw
 all_goals
  obtain rfl|rfl|rfl|rfl|rfl|rfl:k=0\/k=1\/k=2\/k=3\/k=4\/k=5:=aw
 all_goals
  simp[kR,wc]at h h2 ⊢
 all_goals exact w _ h h2
def Zs{F L:List eV}{w:Wor}{m:eR}{r:Wor×eR×eV}(b:Bd F L m)(hF:∀p:eV->Bool,F.countP p<=L.countP p)(h0:0<=m.i)(h1:0<=m.k)(hL:L.length<=1000000000000)
 (ou:∀(i k:Nat) (row:List Int) (n:Int),w.counts[i]?=some row->row[k]?=some n->n=L.countP (BE i k))(h:yu w m=some r)(hd:m.done=false)(hth:∀e∈L,e.zf<(w.counts.length:Int))(hthF:∀e∈F,e.zf<(w.counts.length:Int)):
  (r.2.1.done=false->Bd F L r.2.1)/\(r.2.1.done=true->∀k,k<6->(F.countP (isAdd k):Int)<=kR r.2.1.answer.counts k/\kR r.2.1.answer.counts k<=L.countP (isAdd k)):=by
 unfold yu at h;rcases zU h with⟨⟨p1,p2⟩,h⟩|⟨_,h⟩
 ·obtain⟨row,hrow,h⟩:=gU.1 h;obtain⟨n,hn,rfl⟩:=gT.1 h;have en:=ou _ _ row n hrow hn;obtain⟨kk,ek⟩:∃kk:Nat,m.k=kk:=⟨m.k.toNat,aw⟩;have kk6:kk<6:=by omega
  rw[ek,toNat_cast]at hn en;have le:∀p:eV->Bool,L.countP p<=L.length:=λp=>u5
  have rd0:l9 m kk=m.i.toNat:=by unfold l9;rw[ek,gf aw];rfl
  have bk:=b kk kk6;have sp:=lt_succ m.i.toNat kk L;have spF:=lt_succ m.i.toNat kk F;have hFb:=hF (BE m.i.toNat kk);have l1:=le (mQ (m.i.toNat+1) kk);rw[rd0]at bk
  have key:∀k,k<6->(F.countP (mQ (l9 m k+if k=kk then 1 else 0) k):Int)<=kR (wc m.counts m.k n) k/\kR (wc m.counts m.k n) k<=L.countP (mQ (l9 m k+if k=kk then 1 else 0) k):=λk hk=>by
   rw[ek,YQ m.counts kk k n kk6 hk aw aw];by_cases q:k=kk
   ·subst q;rw[gk O,gk O,rd0];omega
   ·rw[gf q,gf q,r6];have:=b k hk;omega
  have hi:=(dY.1 hrow).1;dsimp only;by_cases q5:m.k+1=6
  ·have rdn:∀k,k<6->l9 m k+(if k=kk then 1 else 0)=m.i.toNat+1:=λk hk=>by
    unfold l9;rw[ek];by_cases q:k=kk
    ·rw[gk q,gf aw]
    ·rw[gf q,gk aw]
   by_cases q6:m.i+1=w.counts.length
   ·have es:jo w m n={m with counts:=wc m.counts m.k n,k:=0,i:=m.i+1,done:=true,answer:=⟨13,0,0,0,0,0,0,wc m.counts m.k n⟩}:=by
     unfold jo;dsimp only;rw[gk q5,gk q6]
    rw[es];refine⟨λq=>absurd (show true=false from q) ar,λ_ k hk=>?_⟩;have a:=key k hk;rw[rdn k hk,show m.i.toNat+1=w.counts.length from aw]at a;rw[O7 _ _ hth]at a;rw[O7 _ _ hthF]at a;exact a
   ·have es:jo w m n={m with counts:=wc m.counts m.k n,k:=0,i:=m.i+1}:=by
     unfold jo;dsimp only;rw[gk q5,gf q6]
    rw[es];refine⟨λ_ k hk=>?_,λq=>absurd (hd.symm.trans q) ar⟩;have a:=key k hk
    have e:l9 {m with counts:=wc m.counts m.k n,k:=0,i:=m.i+1} k=l9 m k+if k=kk then 1 else 0:=by
     rw[rdn k hk];unfold l9;dsimp only;rw[gf aw];omega
    rw[e];exact a
  ·have q7:¬(m.i=w.counts.length):=by omega
   have es:jo w m n={m with counts:=wc m.counts m.k n,k:=m.k+1}:=by
    unfold jo;dsimp only;rw[gf q5,gf q7]
   rw[es];refine⟨λ_ k hk=>?_,λq=>absurd (hd.symm.trans q) ar⟩;have a:=key k hk
   have e:l9 {m with counts:=wc m.counts m.k n,k:=m.k+1} k=l9 m k+if k=kk then 1 else 0:=by
    unfold l9;dsimp only;rw[ek];by_cases q:k=kk
    ·rw[gk q,gk aw,gf aw]
    ·rw[gf q];by_cases z:(k:Int)<kk
     ·rw[gk aw,gk z]
     ·rw[gf aw,gf z]
   rw[e];exact a
 ·cases h
def SG{w:Wor}{m:eR}{v:fc}{g:Gr}{e:En}{r:Wor×eR×eV}(su:qF w m v g e)(h:yl w m=some r):
  ((r.1.counts=w.counts/\¬n9 r.2.2)\/∃(kk:Nat) (r0:List Int) (x:Int),w.counts[m.zf.toNat]?=some r0/\r0[kk]?=some x/\r.1.counts=w.counts.set m.zf.toNat (r0.set kk (IntKind.u64.wrap (x+1)))/\n9 r.2.2/\r.2.2.value=kk)/\
  (r.2.1.done=true->r.2.1.answer.kind=13->(m.op.kind=1->20<=m.pc->m.answer.kind<=5)->m.op.kind=6):=by
 have calm:∀{K:List Int},nu K w m r->(∀z∈K,z≠13)->((r.1.counts=w.counts/\¬n9 r.2.2)\/∃(kk:Nat) (r0:List Int) (x:Int),w.counts[m.zf.toNat]?=some r0/\r0[kk]?=some x/\r.1.counts=w.counts.set m.zf.toNat (r0.set kk (IntKind.u64.wrap (x+1)))/\n9 r.2.2/\r.2.2.value=kk)/\
   (r.2.1.done=true->r.2.1.answer.kind=13->(m.op.kind=1->20<=m.pc->m.answer.kind<=5)->m.op.kind=6):=@λK ⟨c1,c2,c3,c4⟩ hh=>⟨.inl ⟨c1,c4⟩,λa b _=>absurd b (hh _ (c3 a))⟩
 unfold yl at h;rw[su.fH]at h;dsimp only at h;rw[su.fE]at h;dsimp only at h;rw[su.fL]at h;dsimp only at h;rcases zU h with⟨k1,h⟩|⟨k1,h⟩
 ·rcases LX su.done h with⟨c1,c2,c3,c4,c5⟩|⟨kk,r0,x,a1,a2,a3,a5,a4⟩|⟨c1,c2,c4,c3⟩
  ·exact⟨.inl ⟨c1,c5⟩,λa=>by rw[c4]at a;cases a⟩
  ·refine⟨.inr ⟨kk,r0,x,a1,a2,a3,a5.1,a5.2⟩,λa=>?_⟩;rcases a4 with⟨_,_,e⟩|⟨_,_,p,_,e⟩ <;> (rw[e]at a;exact absurd (su.done.symm.trans a) ar)
  ·refine⟨.inl ⟨c1,c4⟩,λa b c=>?_⟩;have:=c k1 aw;rcases c3 with e|e <;> (rw[e]at b;dsimp only at b;omega)
 rcases zU h with⟨k2,h⟩|⟨_,h⟩
 ·exact calm (SE su.done h) ar
 rcases zU h with⟨k2,h⟩|⟨_,h⟩
 ·exact calm (Vx su.done h) ar
 rcases zU h with⟨k2,h⟩|⟨_,h⟩
 ·exact calm (TH su.done h) ar
 rcases zU h with⟨k2,h⟩|⟨_,h⟩
 ·exact calm (Sg su.done h) ar
 rcases zU h with⟨k2,h⟩|⟨_,h⟩
 ·have c:=TJ su.done h;exact⟨.inl ⟨c.1,c.2.2.2⟩,λ_ _ _=>k2⟩
 ·cases h
def Jm{N K:Nat}{w:Wor}{X:List fp}{t:Nat}{x:fp}{o:fh}(gi:GI N K w X)(hx:X[t]?=some x)(ho:x.ops[x.done]?=some o):(jF x t o).op=o:=by
 cases hon:x.on with
 |false=>
  unfold jF Beg.jY;rw[hon,gf ar];split
  ·unfold Beg.Bl;repeat' split
   all_goals rfl
  ·rfl
 |true=>
  unfold jF;rw[hon,gk O];obtain⟨os,hl,hti,_⟩:=gi.own;obtain⟨ow,ho2⟩:∃o,os[t]?=some o:=⟨_,dZ (by have:=(dY.1 hx).1;omega)⟩;obtain⟨L,_,_,h|⟨_,h⟩⟩:=(hti t x ow hx ho2).open_
  ·have:=h.1;rw[hon]at this;cases this
  ·have:=h.at_;rw[ho]at this;exact(gm this).symm
structure SI(s:Wor.ij):Prop where
 tr:Tr s
 ou:∀(i k:Nat) (row:List Int) (n:Int),s.1.counts[i]?=some row->row[k]?=some n->n=(s.2.2.countP (BE i k):Nat)
 rd:∀(t:Nat) (x:fp),s.2.1[t]?=some x->x.on=true->x.m.op.kind=6->∃(f:Nat) (e:eV),s.2.2[f]?=some e/\e.qX=true/\e.zf=(t:Int)/\e.op=x.done/\Bd (s.2.2.take f) s.2.2 x.m
 fin:∀(τ:Nat) (e:eV),s.2.2[τ]?=some e->e.done=true->e.answer.kind=13->∃(f:Nat) (e0:eV),f<=τ/\s.2.2[f]?=some e0/\e0.qX=true/\e0.zf=e.zf/\e0.op=e.op/\
  ∀k,k<6->((s.2.2.take f).countP (isAdd k):Int)<=kR e.answer.counts k/\kR e.answer.counts k<=(s.2.2.take (τ+1)).countP (isAdd k)
def CN{α:Type}{l:List α}(y:α){n:Nat}(h:n<=l.length):(l++[y]).take n=l.take n:=by rw[List.take_append_of_le_length h]
def zws{N K:Nat}{s:Wor.ij}(gi:GI N K s.1 s.2.1)(si:SI s)(p:Int)(hN:N<=100000000)(hK:K<=1099511627776)(hL:s.2.2.length<=1000000000000):SI (vp s p):=by
 rcases yI gi p hN hK with⟨_,e⟩|⟨t,x,o,r,hat,hx,ho,hsu,htm,hst,_,e,gi2⟩
 ·rw[e];exact si
 ·rw[e];obtain⟨v,g,en,su⟩:=ku hsu;have tl:=HL su.done hst;have nt:=HC o gi hx;have no:=Jm gi hx ho;have eth:r.2.2.zf=(t:Int):=tl.2.2.trans nt;have hl:=(dY.1 hx).1;have gr:=qf.1 gi.st.jz.ground;have wl:s.1.counts.length=s.2.1.length:=gr.counts.1.trans gi.len;obtain⟨cc,c13⟩:=SG su hst
  have Bf:∀e∈s.2.2,0<=e.zf/\e.zf<(s.1.counts.length:Int):=λe he=>by
   obtain⟨t',x',p1,p2,_⟩:=si.tr.th e he;have:=(dY.1 p2).1;omega
  have rdm:(jF x t o).op.kind=6->∃f,f<=s.2.2.length/\(∃e:eV,(s.2.2++[nT r.2.2 x])[f]?=some e/\e.qX=true/\e.zf=(t:Int)/\e.op=x.done)/\Bd (s.2.2.take f) s.2.2 (jF x t o):=λhk=>by
   cases hon:x.on with
   |true=>
    have en:jF x t o=x.m:=aY
    rw[en]at hk ⊢;obtain⟨f,e1,p1,p2,p3,p4,p5⟩:=si.rd t x hx hon hk;exact⟨f,sZ (dY.1 p1).1,⟨e1,yA _ p1,p2,p3,p4⟩,p5⟩
   |false=>
    refine⟨s.2.2.length,gD _,⟨_,vv _ _,by show(!x.on)=true;rw[hon];rfl,eth,rfl⟩,?_⟩;have en:jF x t o=Beg.jY t o x.given:=aY
    rw[no]at hk;rw[en,DB aw,pQ];intro k hk6
    have rd0:l9 ⟨o,t,0,0,0, -1,0,0,0,0,0,0,0,0,0,false,Beg.y6,i4⟩ k=0:=by
     unfold l9;dsimp only;rw[gf aw]
     rfl
    have s0:kR i4 k=0:=by
     unfold kR i4;repeat' split
     all_goals rfl
    dsimp only at rd0 ⊢;rw[rd0,Y8 k λe he=>(Bf e he).1,s0];exact⟨gR _,gR _⟩
  have stp:∀f,(jF x t o).op.kind=6->Bd (s.2.2.take f) s.2.2 (jF x t o)->(r.2.1.done=false->Bd (s.2.2.take f) s.2.2 r.2.1)/\(r.2.1.done=true->∀k,k<6->((s.2.2.take f).countP (isAdd k):Int)<=kR r.2.1.answer.counts k/\kR r.2.1.answer.counts k<=s.2.2.countP (isAdd k)):=λf hk b=>by
   have h:=hst;unfold yl at h;rw[su.fH]at h;dsimp only at h;rw[su.fE]at h;dsimp only at h;rw[su.fL]at h;dsimp only at h;rw[gf aw,gf aw,gf aw,gf aw,gf aw,gk hk]at h;exact Zs b (λp=>(eI f s.2.2).countP_le) su.i su.k hL si.ou h su.done (λe he=>(Bf e he).2) λe he=>(Bf e (rG he)).2
  refine⟨I3 si.tr hx eth,λi k row n h1 h2=>?_,λt' x' h1 h2 h3=>?_,λτ e1 h1 h2 h3=>?_⟩
  ·dsimp only at h1 h2 ⊢
   have ad:BE i k (nT r.2.2 x)=(isAdd k r.2.2 && decide ((t:Int)=i)):=by
    show(isAdd k r.2.2 && (r.2.2.zf == (i:Int)))=_;rw[eth]
    rfl
   rw[sg,sO,ad];rcases cc with⟨c1,c2⟩|⟨kk,r0,x0,a1,a2,a3,a4,a5⟩
   ·rw[c1]at h1;rw[si.ou i k row n h1 h2,XP c2];simp
   ·rw[a3,nt,toNat_cast]at h1;rw[nt,toNat_cast]at a1;have ex:=si.ou t kk r0 x0 a1 a2;have le:s.2.2.countP (BE t kk)<=s.2.2.length:=u5
    have wr:IntKind.u64.wrap (x0+1)=x0+1:=by
     show(x0+1)%18446744073709551616=x0+1;omega
    rw[V6 a4 a5];rcases x7 h1 with⟨rfl,rfl,_⟩|⟨hne,h1⟩
    ·rcases x7 h2 with⟨rfl,rfl,_⟩|⟨hne,h2⟩
     ·rw[wr,ex];simp
     ·rw[si.ou t k r0 n a1 h2];have:¬(k=kk):=λz=>hne z.symm
      simp[this]
    ·rw[si.ou i k row n h1 h2];have:¬((t:Int)=i):=by omega
     simp[this]
  ·dsimp only at h1 ⊢;by_cases q:t=t'
   ·subst q;have gx:(s.2.1.set t (Wor.jj x r.2.1))[t]?=some (Wor.jj x r.2.1):=gu hl;rw[gx]at h1;cases h1
    have nd:r.2.1.done=false:=by
     cases z:r.2.1.done with
     |false=>rfl
     |true=>rw[Wor.vq z]at h2;cases h2
    rw[BS nd]at h3 ⊢;dsimp only at h3 ⊢;have ho2:(Wor.jj x r.2.1).ops[(Wor.jj x r.2.1).done]?=some o:=by rw[BS nd];exact ho
    have n2:=Jm gi2 gx ho2;have e2:jF (Wor.jj x r.2.1) t o=r.2.1:=by rw[BS nd];rfl
    rw[e2]at n2;have hk:(jF x t o).op.kind=6:=by rw[no,<-n2];exact h3
    obtain⟨f,f1,⟨e3,q1,q2,q3,q4⟩,q5⟩:=rdm hk;refine⟨f,e3,q1,q2,q3,q4,?_⟩;rw[CN _ f1];exact((stp f hk q5).1 nd).grow _
   ·rw[gV q]at h1;obtain⟨f,e3,q1,q2,q3,q4,q5⟩:=si.rd t' x' h1 h2 h3;refine⟨f,e3,yA _ q1,q2,q3,q4,?_⟩;rw[CN _ (sZ (dY.1 q1).1)];exact q5.grow _
  ·dsimp only at h1 ⊢;rcases vT h1 with⟨l1,h1⟩|⟨rfl,rfl⟩
   ·obtain⟨f,e0,q1,q2,q3,q4,q5,q6⟩:=si.fin τ e1 h1 h2 h3;refine⟨f,e0,q1,yA _ q2,q3,q4,q5,?_⟩;rw[CN _ aw,CN _ aw];exact q6
   ·have dn:r.2.1.done=true:=by rw[<-tl.1];exact h2
    have ea:(nT r.2.2 x).answer=r.2.1.answer:=tl.2.1 dn;rw[ea]at h3 ⊢;have hk:=c13 dn h3 λa b=>(ZQ gi hx a b).2
    obtain⟨f,f1,⟨e3,q1,q2,q3,q4⟩,q5⟩:=rdm hk;refine⟨f,e3,f1,q1,q2,q3.trans eth.symm,q4,λk hk6=>?_⟩;have z:=(stp f hk q5).2 dn k hk6;rw[CN _ f1,sf (l:=s.2.2++[nT r.2.2 x]) aj,sg];omega
def PL{N K:Nat}{s:Wor.ij}(gi:GI N K s.1 s.2.1)(si:SI s)(l:List Int)(h0:s.2.2.length=0):∀k,k<=l.length->N+k<=100000000->K+k<=1099511627776->SI (iv s l k)/\(iv s l k).2.2.length<=k
 |0,_,_,_=>⟨si,by show s.2.2.length<=0;omega⟩
 |k+1,hk,hN,hK=>by
  have ih:=PL gi si l h0 k aw aw aw;have g:=CZ gi l k aw aw aw;rw[wK (dZ aw)];refine⟨zws g ih.1 _ aw aw aw,?_⟩;rcases yI g l[k] aw aw with⟨_,e⟩|⟨t,x,o,r,hat,hx,ho,hsu,htm,hst,_,e,gi2⟩
  ·rw[e];omega
  ·rw[e];dsimp only;rw[gE];have:=ih.2;simp;omega
def Xy{s:Sna}{l:List eZ}{n:Int}{w:Wor}(h:i7 s l n=(w,0)):w.counts=List.replicate n.toNat [0,0,0,0,0,0]:=by
 unfold i7 at h;split at h
 ·have:=rz Prod.snd h;exact absurd (show(1:Int)=0 from this) ar
 ·have hw:_=w:=rz Prod.fst h;rw[<-hw]
def WN{s:fy}(h:(qC s).2=0):SI (iD s):=by
 obtain⟨_,hn⟩:=xb h;have e:(iD s).1.counts=List.replicate (s.threads.length:Int).toNat [0,0,0,0,0,0]:=Xy hn;refine⟨IE _ _,λi k row n h1 h2=>?_,λt x h1 h2=>?_,λτ e1 h1=>by cases h1⟩
 ·rw[e]at h1;rw[pw (gh h1)]at h2;have:=gh h2;have z:n=0:=by simpa using this
  rw[z]
  rfl
 ·obtain⟨L,_,rfl⟩:=gT.1 ((gj ..).symm.trans (show(s.threads.map iP)[t]?=some x from h1));cases h2
structure BI(X:List fp)(b:List Cal):Prop where
 own:∀(i:Nat) (c:Cal),b[i]?=some c->∃(t:Nat) (x:fp),c.zf=(t:Int)/\X[t]?=some x/\((c.op<x.done/\0<=c.ic)\/(c.op=x.done/\x.on=true/\c.ic<0))
 on:∀(t:Nat) (x:fp),X[t]?=some x->x.on=true->∃(i:Nat) (c:Cal),b[i]?=some c/\c.zf=(t:Int)/\c.op=x.done
 nd:∀(i j:Nat) (c d:Cal),b[i]?=some c->b[j]?=some d->c.zf=d.zf->c.op=d.op->i=j
def Zt{X:List fp}{b:List Cal}{t:Nat}{x:fp}{m:eR}{e:eV}{k:Nat}(bi:BI X b)(hx:X[t]?=some x)(he:e.zf=(t:Int))(hop:e.op=x.done)(hbg:e.qX=!x.on)(hdn:e.done=m.done):
  ∃b',Cal.AX b (k:Int) e=some b'/\BI (X.set t (Wor.jj x m)) b':=by
 have hl:=(dY.1 hx).1
 have y:(m.done=true/\(Wor.jj x m).done=x.done+1/\(Wor.jj x m).on=false)\/(m.done=false/\(Wor.jj x m).done=x.done/\(Wor.jj x m).on=true):=by
  unfold Wor.jj;by_cases q:m.done=true
  ·rw[gk q];exact .inl ⟨q,rfl,rfl⟩
  ·rw[gf q];exact .inr ⟨aq q,rfl,rfl⟩
 have main:∀(N:List Cal) (n:Nat) (c0:Cal),N[n]?=some (Cal.qy e (k:Int) c0)->c0.zf=(t:Int)->c0.op=x.done->c0.ic<0->(∀(i:Nat) (c:Cal),N[i]?=some c->i≠n->b[i]?=some c/\¬(c.zf=(t:Int)/\c.op=x.done))->(∀(i:Nat) (c:Cal),b[i]?=some c->i≠n->N[i]?=some c)->(∀(i:Nat) (c:Cal),b[i]?=some c->i=n->c.zf=(t:Int)/\c.op=x.done)->
   BI (X.set t (Wor.jj x m)) N:=λN n c0 h1 h2 h3 h4 h5 h6 h7=>by
  have mt:=Cal.yG e (k:Int) c0;have mo:=Cal.D3 e (k:Int) c0;refine⟨λi c hc=>?_,λt' x' hx' hon=>?_,λi j c d hc hd q1 q2=>?_⟩
  ·by_cases q:i=n
   ·subst q;rw[h1]at hc;cases hc
    refine⟨t,_,mt.1.trans h2,gu hl,?_⟩;rw[mt.2,h3,mo,hdn];rcases y with⟨y0,y1,y2⟩|⟨y0,y1,y2⟩
    ·rw[y0,y1,gk O];exact .inl ⟨aw,aw⟩
    ·rw[y0,y1,y2,gf ar];exact .inr ⟨rfl,rfl,h4⟩
   ·obtain⟨hb,nq⟩:=h5 i c hc q;obtain⟨t',x',p1,p2,p3⟩:=bi.own i c hb;by_cases z:t=t'
    ·subst z;rw[hx]at p2;cases p2
     refine⟨t,_,p1,gu hl,?_⟩;rcases p3 with⟨p3,p4⟩|⟨p3,_⟩
     ·rcases y with⟨_,y1,_⟩|⟨_,y1,_⟩ <;> (rw[y1];exact .inl ⟨aw,p4⟩)
     ·exact(nq ⟨p1,p3⟩).elim
    ·exact⟨t',x',p1,by rw[gV z];exact p2,p3⟩
  ·by_cases z:t=t'
   ·subst z;rw[gu hl]at hx';cases hx'
    rcases y with⟨_,_,y2⟩|⟨_,y1,_⟩
    ·rw[hon]at y2;cases y2
    ·exact⟨n,_,h1,mt.1.trans h2,by rw[mt.2,h3,y1]⟩
   ·rw[gV z]at hx';obtain⟨i,c,p1,p2,p3⟩:=bi.on t' x' hx' hon
    have ni:i≠n:=λq=>by
     have:=(h7 i c p1 q).1;omega
    exact⟨i,c,h6 i c p1 ni,p2,p3⟩
  ·by_cases z1:i=n
   ·by_cases z2:j=n
    ·omega
    ·subst z1;rw[h1]at hc;cases hc
     exact((h5 j d hd z2).2 ⟨by rw[<-q1,mt.1,h2],by rw[<-q2,mt.2,h3]⟩).elim
   ·by_cases z2:j=n
    ·subst z2;rw[h1]at hd;cases hd
     exact((h5 i c hc z1).2 ⟨by rw[q1,mt.1,h2],by rw[q2,mt.2,h3]⟩).elim
    ·exact bi.nd i j c d (h5 i c hc z1).1 (h5 j d hd z2).1 q1 q2
 unfold Cal.AX;cases hon:x.on with
 |false=>
  rw[hbg,hon,gk ar]
  have free:∀(i:Nat) (c:Cal),b[i]?=some c->c.zf=(t:Int)->c.op<x.done/\0<=c.ic:=λi c hc hth=>by
   obtain⟨t',x',p1,p2,p3⟩:=bi.own i c hc;have:t'=t:=aw
   subst this;rw[hx]at p2;cases p2
   rcases p3 with p3|⟨_,p3,_⟩
   ·exact p3
   ·rw[hon]at p3;cases p3
  have n1:(Cal.zx b e.zf e.op).isSome=false:=by
   cases hp:Cal.zx b e.zf e.op with
   |none=>rfl
   |some n=>
    obtain⟨c,hc,p1,p2⟩:=Cal.ki hp;have:=free n c hc (p1.trans he);omega
  have n2:Cal.AP b e.zf=false:=by
   unfold Cal.AP;rw[pd];intro c hc;obtain⟨i,hi⟩:=gQ.1 hc;by_cases q:c.zf=(t:Int)
   ·have:=free i c hi q;simp;omega
   ·simp;omega
  rw[n1,n2,gf ar];refine⟨_,rfl,?_⟩;have ml:(b++[Cal.j6 e (k:Int)])[b.length]?=some (Cal.j6 e (k:Int)):=aj
  rw[Cal.yP ml];refine main _ b.length (Cal.j6 e (k:Int)) ?_ he hop aE (λi c hc hne=>?_) (λi c hc hne=>?_) (λi c hc q=>?_)
  ·rw[gu (dY.1 ml).1]
  ·rw[gV (λz=>hne z.symm)]at hc;rcases vT hc with⟨_,hc⟩|⟨q,_⟩
   ·exact⟨hc,λ⟨z1,z2⟩=>by have:=free i c hc z1;omega⟩
   ·exact(hne q).elim
  ·rw[gV (λz=>hne z.symm)];exact yA (Cal.j6 e (k:Int)) hc
  ·have:=(dY.1 hc).1;omega
 |true=>
  rw[hbg,hon,gf ar];obtain⟨i0,c0,p1,p2,p3⟩:=bi.on t x hx hon;cases hp:Cal.zx b e.zf e.op with
  |none=>
   unfold Cal.zx at hp;rw[gP]at hp;have:=hp c0 (gh p1);simp[p2,p3,he,hop]at this
  |some n=>
   obtain⟨c,hc,r1,r2⟩:=Cal.ki hp;have r1:c.zf=(t:Int):=r1.trans he;have r2:c.op=x.done:=r2.trans hop
   have hto:c.ic<0:=by
    obtain⟨t',x',s1,s2,s3⟩:=bi.own n c hc;have:t'=t:=aw
    subst this;rw[hx]at s2;cases s2
    rcases s3 with⟨s3,_⟩|⟨_,_,s3⟩
    ·omega
    ·exact s3
   dsimp only;rw[hc,gf aA];refine⟨_,rfl,?_⟩;rw[Cal.yP hc];refine main _ n c ?_ r1 r2 hto (λi d hd hne=>?_) (λi d hd hne=>?_) (λi d hd q=>?_)
   ·rw[gu (dY.1 hc).1]
   ·rw[gV (λz=>hne z.symm)]at hd;exact⟨hd,λ⟨z1,z2⟩=>hne (bi.nd i n d c hd hc (z1.trans r1.symm) (z2.trans r2.symm))⟩
   ·rw[gV (λz=>hne z.symm)];exact hd
   ·subst q;rw[hc]at hd;cases hd
    exact⟨r1,r2⟩
def Oq(L:List eV)(e:eV):∀k,k<=L.length->Cal.nR (L++[e]) k=Cal.nR L k
 |0,_=>rfl
 |k+1,h=>by
  simp only[Cal.nR,Oq L e k aw];rw[gz aw]
structure RI(s:Wor.ij):Prop where
 tr:Tr s
 acc:∀e∈s.2.2,e.access≠0
 bk:∃b,Cal.nR s.2.2 s.2.2.length=some b/\BI s.2.1 b
def zwp{N K:Nat}{s:Wor.ij}(gi:GI N K s.1 s.2.1)(ri:RI s)(p:Int)(hN:N<=100000000)(hK:K<=1099511627776):RI (vp s p):=by
 rcases yI gi p hN hK with⟨_,e⟩|⟨t,x,o,r,hat,hx,ho,hsu,htm,hst,hacc,e,gi2⟩
 ·rw[e];exact ri
 ·rw[e];obtain⟨v,g,en,su⟩:=ku hsu;have tl:=HL su.done hst;have eth:r.2.2.zf=(t:Int):=tl.2.2.trans (HC o gi hx);obtain⟨b,h1,h2⟩:=ri.bk;obtain⟨b',h3,h4⟩:=Zt (e:=nT r.2.2 x) (m:=r.2.1) (k:=s.2.2.length) h2 hx eth O O tl.1;refine⟨I3 ri.tr hx eth,λe he=>?_,b',?_,h4⟩
  ·rcases gO.1 he with he|he
   ·exact ri.acc e he
   ·rw[gN.1 he];exact hacc
  ·dsimp only;rw[gE];show Cal.nR _ (s.2.2.length+1)=_;simp only[Cal.nR];rw[Oq _ _ _ (gD _),h1,vv];exact h3
def PK{N K:Nat}{s:Wor.ij}(gi:GI N K s.1 s.2.1)(ri:RI s)(l:List Int):∀k,k<=l.length->N+k<=100000000->K+k<=1099511627776->RI (iv s l k)
 |0,_,_,_=>ri
 |k+1,hk,hN,hK=>by
  have ih:=PK gi ri l k aw aw aw;rw[wK (dZ aw)];exact zwp (CZ gi l k aw aw aw) ih _ aw aw
def Xm{s:fy}(ok:oH s)(h:(qT s).2.2=0):(Cal.fC (qT s).1).2=0/\(qT s).1.length<=s.zW.length/\jQ (qT s).2.1/\my 5000 (qT s).2.1/\
  ∀e∈(qT s).1,e.access≠0/\∃(t:Nat) (l:List fh),e.zf=(t:Int)/\s.threads[t]?=some l/\0<=e.op/\e.op<l.length:=by
 have hb:=Iz h;have e1:qT s=((yv s).2.2,(yv s).1,0):=by unfold qT;rw[gk hb]
 obtain⟨q,_⟩:=xb hb;obtain⟨_,_,_,p4,_,_⟩:=xI q;have f:=Nj ok hb (n:=s.zW.length) (gD _);have gi:=Gm ok hb s.zW.length (gD _);have ao:=Jf ok hb s.zW.length (gD _);have si:=PL (CD ok hb) (WN hb) s.zW O s.zW.length (gD _) aw aw
 have r0:RI (iD s):=by
  refine⟨IE _ _,λe he=>(by cases he),[],rfl,⟨λi c h=>aT,λt x hx hon=>?_,λi j c d h=>aT⟩⟩;obtain⟨L,_,rfl⟩:=gT.1 ((gj ..).symm.trans (show(s.threads.map iP)[t]?=some x from hx));cases hon
 have ri:RI (yv s):=PK (CD ok hb) r0 s.zW s.zW.length (gD _) aw aw;have gd:=f.2.2.2;have e2:mf s s.zW.length=s:=by unfold mf;rw[pQ]
 rw[e2,e1]at gd;rw[e1];dsimp only at gd ⊢;refine⟨?_,si.2,gd.1,gd.2.1,λe he=>⟨ri.acc e he,?_⟩⟩
 ·obtain⟨b,hb2,_⟩:=ri.bk;have:=(Cal.CQ (yv s).2.2 (yv s).2.2.length).1;rw[hb2]at this;unfold Cal.fC;cases z:Cal.yT (yv s).2.2 (yv s).2.2.length with
  |none=>rw[z]at this;cases this
  |some b2=>rfl
 ·obtain⟨t,x,t1,t2,t3,t4⟩:=ri.tr.th e he
  have tx:s.threads[t]?=some x.ops:=by
   rw[<-ao,gj];show((yv s).2.1[t]?).map _=_;rw[t2]
   rfl
  refine⟨t,x.ops,t1,tx,t3,?_⟩;have tk:=Oe gi t2;rcases t4 with t4|⟨t4,t5⟩
  ·omega
  ·obtain⟨os,hl,hti,_⟩:=gi.own;obtain⟨ow,ho⟩:∃o,os[t]?=some o:=⟨_,dZ (by have:=(dY.1 t2).1;show t<os.length;rw[hl];exact this)⟩;obtain⟨L,_,_,hh|⟨_,hh⟩⟩:=(hti t x ow t2 ho).open_
   ·have:=hh.1;rw[t5]at this;cases this
   ·have:=(dY.1 hh.at_).1;omega
def vS(e:eV):Prop:=e.cell=3/\e.access=6
def zy1(n:Int)(e:eV):Int:=if e.cell=3/\e.access=6 then e.value else n
def Kk(l:List eV):Int:=l.foldl zy1 0
def oa(w:Wor)(r:Wor×eR×eV):Prop:=r.1.current=w.current/\¬vS r.2.2
def qt{w w':Wor}{m':eR}{e:eV}(h1:w'.current=w.current)(h2:e.access≠6:=by exact gH au):oa w (w',m',e):=⟨h1,λz=>h2 z.2⟩
def Bg{α:Type}{w:Wor}{o:Option α}{f:α->Wor×eR×eV}{r:Wor×eR×eV}(h:o.map f=some r)(hf:∀x,oa w (f x)):oa w r:=by
 obtain⟨x,_,rfl⟩:=gT.1 h;exact hf x
def FT{w:Wor}{m:eR}{f:fq->Wor×eR×eV}{r:Wor×eR×eV}(h:wi w m f=some r)(hf:∀x,oa w (f x)):oa w r:=by
 unfold wi at h;rcases zu h with h|h
 ·cases h
 ·exact Bg h hf
def Zx{w:Wor}{m:eR}{r:Wor×eR×eV}(h:oU w m=some r):oa w r:=by
 unfold oU at h;rcases zu h with h|h
 ·obtain rfl:=gm h;exact dL
 rcases zu h with h|h
 ·obtain rfl:=gm h;exact dL
 rcases zu h with h|h
 ·obtain rfl:=gm h;exact dL
 ·cases h
def M8{w:Wor}{m:eR}{k p:Int}{r:Wor×eR×eV}(h:yU w m k p=some r):oa w r:=by
 unfold yU at h;split at h
 ·cases h
 ·split at h
  ·cases h
  ·obtain rfl:=gm h;exact dL
def To{w:Wor}{m:eR}{v:fc}{g:Gr}{e:En}{r:Wor×eR×eV}(h:zZ w m v g e=some r):oa w r:=by
 unfold zZ at h;rcases zu h with h|h
 ·exact Zx h
 rcases zu h with h|h
 ·obtain rfl:=gm h;exact dL
 rcases zu h with h|h
 ·exact FT h λx=>qt O
 rcases zu h with h|h
 ·exact FT h λx=>qt O (by split <;> exact gH au)
 rcases zu h with h|h
 ·exact Bg h λx=>qt O
 rcases zu h with h|h
 ·obtain rfl:=gm h;exact dL
 rcases zu h with h|h
 ·exact Bg h λx=>qt O
 rcases zu h with h|h
 ·obtain rfl:=gm h;exact dL
 rcases zu h with h|h
 ·exact Bg h λx=>qt O
 rcases zu h with h|h
 ·rcases zu h with h|h
  ·obtain rfl:=gm h;exact dL
  ·obtain rfl:=gm h;exact dL
 rcases zu h with h|h
 ·obtain rfl:=gm h;exact dL
 rcases zu h with h|h
 ·exact M8 h
 rcases zu h with h|h
 ·exact M8 h
 rcases zu h with h|h
 ·exact FT h λx=>qt O
 rcases zu h with h|h
 ·obtain rfl:=gm h;exact dL
 ·cases h
def Tn{w:Wor}{m:eR}{v:fc}{g:Gr}{e:En}{r:Wor×eR×eV}(h:xa w m v g e=some r):oa w r:=by
 unfold xa at h;rcases zu h with h|h
 ·obtain rfl:=gm h;exact dL
 rcases zu h with h|h
 ·obtain rfl:=gm h;exact dL
 rcases zu h with h|h
 ·rcases zu h with h|h
  ·obtain rfl:=gm h;exact dL
  ·obtain rfl:=gm h;exact dL
 rcases zu h with h|h
 ·obtain rfl:=gm h;exact dL
 rcases zu h with h|h
 ·exact FT h λx=>qt O
 rcases zu h with h|h
 ·obtain rfl:=gm h;exact dL
 ·cases h
def O8(w:Wor)(m:eR):oa w (l8 w m):=by
 unfold l8;split
 ·exact dL
 ·exact dL
def SH{w:Wor}{m:eR}{r:Wor×eR×eV}(h:j8 w m=some r):oa w r:=by
 unfold j8 at h;rcases zu h with h|h
 ·obtain rfl:=gm h;split
  ·exact dL
  ·exact dL
 rcases zu h with h|h
 ·obtain rfl:=gm h;exact dL
 rcases zu h with h|h
 ·exact Bg h λx=>qt O
 rcases zu h with h|h
 ·obtain rfl:=gm h;split
  ·exact dL
  ·exact dL
 rcases zu h with h|h
 ·obtain rfl:=gm h;split
  ·exact O8 w _
  ·exact dL
 rcases zu h with h|h
 ·obtain⟨v,_,h⟩:=gU.1 h;exact Bg h λx=>qt O
 rcases zu h with h|h
 ·obtain⟨v,_,h⟩:=gU.1 h;obtain⟨x,_,h⟩:=gU.1 h;rcases zu h with h|h
  ·obtain rfl:=gm h;exact dL
  ·cases h
 rcases zu h with h|h
 ·obtain rfl:=gm h;exact O8 w m
 rcases zu h with h|h
 ·exact Bg h λx=>qt O
 rcases zu h with h|h
 ·obtain⟨v,_,h⟩:=gU.1 h;rcases zu h with h|h
  ·obtain rfl:=gm h;exact dL
  ·cases h
 ·cases h
def Wo{w:Wor}{m:eR}{r:Wor×eR×eV}(h:yu w m=some r):oa w r:=by
 unfold yu at h;rcases zu h with h|h
 ·obtain⟨v,_,h⟩:=gU.1 h;exact Bg h λx=>qt O (by show(1:Int)≠6;decide)
 ·cases h
def Jb{w:Wor}{m:eR}{v:fc}{g:Gr}{e:En}{r:Wor×eR×eV}(su:qF w m v g e)(h:yl w m=some r):
  (m.op.kind=1/\zZ w m v g e=some r)\/(m.op.kind=2/\xa w m v g e=some r)\/(m.op.kind=3/\yL w m=some r)\/(m.op.kind=4/\vz w m=some r)\/(m.op.kind=5/\j8 w m=some r)\/(m.op.kind=6/\yu w m=some r):=by
 unfold yl at h;rw[su.fH]at h;dsimp only at h;rw[su.fE]at h;dsimp only at h;rw[su.fL]at h;dsimp only at h;rcases zU h with⟨k,h⟩|⟨_,h⟩
 ·exact .inl ⟨k,h⟩
 rcases zU h with⟨k,h⟩|⟨_,h⟩
 ·exact .inr (.inl ⟨k,h⟩)
 rcases zU h with⟨k,h⟩|⟨_,h⟩
 ·exact .inr (.inr (.inl ⟨k,h⟩))
 rcases zU h with⟨k,h⟩|⟨_,h⟩
 ·exact .inr (.inr (.inr (.inl ⟨k,h⟩)))
 rcases zU h with⟨k,h⟩|⟨_,h⟩
 ·exact .inr (.inr (.inr (.inr (.inl ⟨k,h⟩))))
 rcases zU h with⟨k,h⟩|⟨_,h⟩
 ·exact .inr (.inr (.inr (.inr (.inr ⟨k,h⟩))))
 ·cases h
structure VI(s:Wor.ij):Prop where
 tr:Tr s
 cur:s.1.current=Kk s.2.2
 run:∀(t:Nat) (x:fp),s.2.1[t]?=some x->x.on=true->x.m.op.kind=1->4<=x.m.pc->∃(f g:Nat) (e:eV),s.2.2[f]?=some e/\e.qX=true/\e.zf=(t:Int)/\e.op=x.done/\f<=g/\g<s.2.2.length/\Kk (s.2.2.take g)=x.m.version
 fin:∀(τ:Nat) (e:eV),s.2.2[τ]?=some e->e.done=true->e.answer.kind=1->∃(f g:Nat) (e0:eV),f<=g/\g<=τ/\s.2.2[f]?=some e0/\e0.qX=true/\e0.zf=e.zf/\e0.op=e.op/\Kk (s.2.2.take g)=e.answer.version
end Go.Run
