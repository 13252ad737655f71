import Derived.Test.YtllehbdigpdinaaGreatTQ
import Derived.Test.YtllehbdigpdinaaGreatT0
set_option linter.all false
set_option maxRecDepth 100000
set_option maxHeartbeats 4000000
namespace Go.Run
open Go.Ab Go.Proofs Tryz Go.Gat Go.Nam Go.Hos Go.Con Go.Sna Go.Pla Go.Ply Go.Wor
open Go.Hy hiding encI
variable{α:Type}{e:fG}{K:List Int}{w:Wor}{m:fD}{o:Option α}{f:α->Wor×fD×fG}{r:Wor×fD×fG}{v:fI}{g:Gr}{a t:Nat}{x:fM}{X:List fM}{l:List α}{s:Wor.iC}
def M6(k:Nat)(a:fN):Nat:=if 1<=a.kind/\a.kind<=5/\(k=0\/a.kind=k) then 1 else 0
def TO(k:Nat)(m:fD):Nat:=if m.op.kind=1/\m.done=false/\(if k=0 then 22 else 21)<=m.pc then M6 k m.answer else 0
def TP(k:Nat)(x:fM):Nat:=if x.on=true then TO k x.m else 0
def TN(k:Nat)(e:fG):Nat:=if e.done=true then M6 k e.answer else 0
def U8(k:Nat)(l:List (List Int)):Int:=(l.map λr=>(r[k]?).getD 0).sum
def Ay(e:fG):Prop:=e.cell=10/\e.access=3
def o5(K:List Int)(w:Wor)(m:fD)(r:Wor×fD×fG):Prop:=r.1.counts=w.counts/\r.2.1.op=m.op/\(r.2.1.done=true->r.2.1.answer.kind∈K)/\¬Ay r.2.2
def F0(h:e.cell≠10):¬Ay e:=λz=>h z.1
def FK(h:o.map f=some r)(hf:∀x,o5 K w m (f x)):o5 K w m r:=by
 obtain⟨x,_,rfl⟩:=gT.1 h;exact hf x
theorem zuW{f:fT->Wor×fD×fG}(h:w9 w m f=some r)(hf:∀x,o5 K w m (f x)):o5 K w m r:=by
 unfold w9 at h
 grind
def xC{w':Wor}{m':fD}(h1:w'.counts=w.counts)(h2:m'.op=m.op)(h3:m'.done=false)(h4:e.cell≠10:=by exact gL au):o5 K w m (w',m',e):=⟨h1,h2,λq=>absurd (q.symm.trans h3) ar,F0 h4⟩
def wz{w':Wor}{m':fD}(h1:w'.counts=w.counts)(h2:m'.op=m.op)(h3:m'.answer.kind∈K)(h4:e.cell≠10:=by exact gL au):o5 K w m (w',m',e):=⟨h1,h2,λ_=>h3,F0 h4⟩
def WU{e:En}(hd:m.done=false)(h:jW w m v g e=some r):o5 [6,7] w m r:=by
 unfold jW at h;rcases zC h with h|h
 .obtain rfl:=gA h;exact dB
 rcases zC h with h|h
 .obtain rfl:=gA h;exact dB
 rcases zC h with h|h
 .rcases zC h with h|h
  .obtain rfl:=gA h;exact dB
  .obtain rfl:=gA h;exact dB
 rcases zC h with h|h
 .obtain rfl:=gA h;exact dB
 rcases zC h with h|h
 .exact zuW h λx=>wz V V (by exact gL au)
 rcases zC h with h|h
 .obtain rfl:=gA h;exact dC
 .cases h
def zsF(hd:m.done=false)(h:yg w m=some r):o5 [8,9] w m r:=by
 unfold yg at h;rcases zC h with h|h
 .rcases zC h with h|h
  .obtain rfl:=gA h;exact dB
  .obtain rfl:=gA h;exact dC
 rcases zC h with h|h
 .obtain rfl:=gA h;exact dB
 rcases zC h with h|h
 .rcases zC h with h|h
  .cases h
  .obtain rfl:=gA h;exact dC
 .cases h
def YO(hd:m.done=false)(h:yM w m=some r):o5 [7,10] w m r:=by
 unfold yM at h;rcases zC h with h|h
 .rcases zC h with h|h
  .obtain rfl:=gA h;exact dC
  .exact FK h λx=>wz V V (by exact gL au)
 .cases h
def RR(w:Wor)(m m0:fD)(hd:m.done=false)(ho:m.op=m0.op):o5 [11,12] w m0 (i6 w m):=by
 unfold i6;split
 .exact wz V ho (by exact gL au)
 .refine xC V ?_ ?_
  .unfold Ak;repeat' split
   all_goals exact ho
  .unfold Ak;repeat' split
   all_goals exact hd
def WA(hd:m.done=false)(h:qZ w m=some r):o5 [11,12] w m r:=by
 unfold qZ at h;rcases zC h with h|h
 .obtain rfl:=gA h;split
  .exact dB
  .exact dC
 rcases zC h with h|h
 .obtain rfl:=gA h;exact dB
 rcases zC h with h|h
 .refine FK h λx=>xC V ?_ ?_
  .unfold n7;repeat' split
   all_goals rfl
  .unfold n7;repeat' split
   all_goals exact hd
 rcases zC h with h|h
 .obtain rfl:=gA h;split
  .exact dB
  .exact dB
 rcases zC h with h|h
 .obtain rfl:=gA h;split
  .exact RR w (iV m 8 0) m hd V
  .refine xC V ?_ ?_
   .unfold oO;repeat' split
    all_goals rfl
   .unfold oO;repeat' split
    all_goals exact hd
 rcases zC h with h|h
 .obtain⟨v,_,h⟩:=gQ.1 h;refine FK h λx=>xC V ?_ ?_
  .unfold nD;repeat' split
   all_goals rfl
  .unfold nD;repeat' split
   all_goals exact hd
 rcases zC h with h|h
 .obtain⟨v,_,h⟩:=gQ.1 h;obtain⟨x,_,h⟩:=gQ.1 h;rcases zC h with h|h
  .obtain rfl:=gA h;exact dB
  .cases h
 rcases zC h with h|h
 .obtain rfl:=gA h;exact RR w m m hd V
 rcases zC h with h|h
 .refine FK h λx=>xC V ?_ ?_
  .split <;> rfl
  .split <;> exact hd
 rcases zC h with h|h
 .obtain⟨v,_,h⟩:=gQ.1 h;rcases zC h with h|h
  .obtain rfl:=gA h;exact dB
  .cases h
 .cases h
theorem QE(w:Wor)(m:fD)(n:Int):(jo w m n).op=m.op/\((jo w m n).done=m.done\/(jo w m n).answer.kind=13):=by
 grind [jo]
theorem YP(hd:m.done=false)(h:yf w m=some r):o5 [13] w m r:=by
 unfold yf at h;rcases zC h with h|h
 .obtain⟨v,_,h⟩:=gQ.1 h;refine FK h λx=>⟨rfl,(QE w m x).1,λq=>?_,λz=>absurd (show(1:Int)=3 from z.2) ar⟩
  grind [QE]
 .cases h
theorem zu{c:Prop}[Decidable c]{a b x:α}(h:(if c then a else b)=x):(c/\a=x)\/(¬c/\b=x):=by
 grind
def DH(w:Wor)(m:fD)(r:Wor×fD×fG):Prop:=
 (r.1.counts=w.counts/\m.pc<20/\r.2.1.pc<=20/\r.2.1.done=false/\¬Ay r.2.2)\/
 (∃(k:Nat) (r0:List Int) (x:Int),w.counts[m.zf.toNat]?=some r0/\r0[k]?=some x/\r.1.counts=w.counts.set m.zf.toNat (r0.set k (IntKind.u64.wrap (x+1)))/\(Ay r.2.2/\r.2.2.value=k)/\((m.pc=20/\k=(AX m.answer.kind).toNat/\r.2.1={m with pc:=21})\/(m.pc=21/\k=0/\∃p,22<=p/\r.2.1={m with pc:=p})))\/
 (r.1.counts=w.counts/\22<=m.pc/\¬Ay r.2.2/\(r.2.1={m with pc:=23}\/r.2.1={m with done:=true}))
def Lm(h:o.map f=some r)(hf:∀x,DH w m (f x)):DH w m r:=by
 obtain⟨x,_,rfl⟩:=gT.1 h;exact hf x
theorem Ll{f:fT->Wor×fD×fG}(h:w9 w m f=some r)(hf:∀x,DH w m (f x)):DH w m r:=by
 unfold w9 at h
 grind
def kn{w':Wor}{m':fD}(h1:w'.counts=w.counts)(h2:m.pc<20)(h3:m'.pc<=20)(h4:m'.done=false)(h5:e.cell≠10:=by exact gL au):DH w m (w',m',e):=.inl ⟨h1,h2,h3,h4,F0 h5⟩
def Qi{k p:Int}(h:vn w m k p=some r):∃r0 x,w.counts[m.zf.toNat]?=some r0/\r0[k.toNat]?=some x/\r.1.counts=w.counts.set m.zf.toNat (r0.set k.toNat (IntKind.u64.wrap (x+1)))/\(Ay r.2.2/\r.2.2.value=k)/\r.2.1={m with pc:=p}:=by
 unfold vn at h;split at h
 .cases h
 .rename_i r0 h0;split at h
  .cases h
  .rename_i x hx;obtain rfl:=gA h;exact⟨r0,x,h0,hx,rfl,⟨⟨rfl,rfl⟩,rfl⟩,rfl⟩
def YD{e:En}(hd:m.done=false)(h:qe w m v g e=some r):DH w m r:=by
 have rt:m.pc<=20->(j8 m v).pc<=20:=λh=>by
  unfold j8;repeat' split
  all_goals first|exact h|exact gL au
 have rd:(j8 m v).done=false:=by
  unfold j8;repeat' split
  all_goals exact hd
 unfold qe at h;rcases zu h with⟨p,h⟩|⟨p,h⟩
 .unfold BM at h;rcases zC h with h|h
  .obtain rfl:=gA h;exact kn V aw (by show(1:Int)<=20;decide) hd
  rcases zC h with h|h
  .obtain rfl:=gA h;exact kn V aw (by show(2:Int)<=20;decide) hd
  rcases zC h with h|h
  .obtain rfl:=gA h;exact kn V aw (by dsimp only;split <;> decide) hd
  .cases h
 rcases zu h with⟨p,h⟩|⟨_,h⟩
 .obtain rfl:=gA h;refine kn V aw ?_ ?_
  .split
   .show(20:Int)<=20;decide
   .show(4:Int)<=20;decide
  .split <;> exact hd
 rcases zu h with⟨p,h⟩|⟨_,h⟩
 .exact Ll h λx=>kn V aw (by show(5:Int)<=20;decide) hd
 rcases zu h with⟨p,h⟩|⟨_,h⟩
 .refine Ll h λx=>kn V aw ?_ ?_ (by split <;> exact gL au)
  .split
   .show(20:Int)<=20;decide
   .exact rt aw
  .split
   .exact hd
   .exact rd
 rcases zu h with⟨p,h⟩|⟨_,h⟩
 .exact Lm h λx=>kn V aw (by show(9:Int)<=20;decide) hd
 rcases zu h with⟨p,h⟩|⟨_,h⟩
 .obtain rfl:=gA h;exact kn V aw (by show(8:Int)<=20;decide) hd
 rcases zu h with⟨p,h⟩|⟨_,h⟩
 .exact Lm h λx=>kn V aw (by show(9:Int)<=20;decide) hd
 rcases zu h with⟨p,h⟩|⟨_,h⟩
 .obtain rfl:=gA h;refine kn V aw ?_ ?_
  .split
   .show(10:Int)<=20;decide
   .show(20:Int)<=20;decide
  .split <;> exact hd
 rcases zu h with⟨p,h⟩|⟨_,h⟩
 .exact Lm h λx=>kn V aw (by show(11:Int)<=20;decide) hd
 rcases zu h with⟨p,h⟩|⟨_,h⟩
 .rcases zC h with h|h
  .obtain rfl:=gA h;exact kn V aw (by show(12:Int)<=20;decide) hd
  .obtain rfl:=gA h;exact kn V aw (by show(9:Int)<=20;decide) hd
 rcases zu h with⟨p,h⟩|⟨_,h⟩
 .obtain rfl:=gA h;exact kn V aw (by show(20:Int)<=20;decide) hd
 rcases zu h with⟨p,h⟩|⟨_,h⟩
 .obtain⟨r0,x,a1,a2,a3,⟨a5,a6⟩,a4⟩:=Qi h;exact .inr (.inl ⟨_,r0,x,a1,a2,a3,⟨a5,by rw[a6];unfold AX;split <;> omega⟩,.inl ⟨p,rfl,a4⟩⟩)
 rcases zu h with⟨p,h⟩|⟨_,h⟩
 .obtain⟨r0,x,a1,a2,a3,a5,a4⟩:=Qi h;exact .inr (.inl ⟨0,r0,x,a1,a2,a3,a5,.inr ⟨p,rfl,_,by split <;> decide,a4⟩⟩)
 rcases zu h with⟨p,h⟩|⟨_,h⟩
 .refine Ll h λx=>.inr (.inr ⟨rfl,aw,F0 (gL au),.inl V⟩)
 rcases zu h with⟨p,h⟩|⟨_,h⟩
 .obtain rfl:=gA h;exact .inr (.inr ⟨rfl,aw,F0 (gL au),.inr V⟩)
 .cases h
structure CI(N:Nat)(s:Wor.iC):Prop where
 Cp:∀k,k<6->U8 k s.1.counts=(((s.2.2.map (TN k)).sum+(s.2.1.map (TP k)).sum:Nat):Int)
 low:∀r∈s.1.counts,∀x∈r,0<=x/\x<=(N:Int)
 on:s.2.2.countP (·.q9)=s.2.2.countP (·.done)+s.2.1.countP (·.on)
theorem zzM{N K:Nat}{o:fQ}(gi:GI N K w X)(hx:X[t]?=some x):(qk x t o).op.kind=1->20<=(qk x t o).pc->1<=(qk x t o).answer.kind/\(qk x t o).answer.kind<=5:=by
 cases hon:x.on with
 |false=>
  intro hk hp;have e:qk x t o=Beg.ji t o x.given:=cF
  rw[e]at hk hp;by_cases h:o.kind=2
  .have:(Beg.ji t o x.given).op.kind=2:=by
    unfold Beg.ji
    grind
   omega
  grind [kW]
 |true=>
  have e:qk x t o=x.m:=cF
  rw[e];intro hk hp;obtain⟨os,hl,hti,_⟩:=gi.own;obtain⟨ow,ho⟩:∃o,os[t]?=some o:=⟨_,gk (by have:=(gh.1 hx).1;omega)⟩;obtain⟨L,_,_,h|⟨_,h⟩⟩:=(hti t x ow hx ho).open_
  .grind
  .obtain⟨v,g,e,su,lc⟩:=h.lc;rcases lc with⟨_,lc⟩|⟨k,_⟩|⟨k,_⟩|⟨k,_⟩|⟨k,_⟩|⟨k,_⟩
   .exact⟨(lc.nA hp).1,(lc.nA hp).2.1⟩
   all_goals omega
theorem kY{N K:Nat}(o:fQ)(gi:GI N K w X)(hx:X[t]?=some x):(qk x t o).zf=t:=by
 cases hon:x.on with
 |false=>
  unfold qk Beg.ji;rw[hon,gp ar];split
  .unfold Beg.De
   grind
  .rfl
 |true=>
  unfold qk;rw[hon,gz V];obtain⟨os,hl,hti,_⟩:=gi.own;obtain⟨ow,ho⟩:∃o,os[t]?=some o:=⟨_,gk (by have:=(gh.1 hx).1;omega)⟩;obtain⟨L,_,_,h|⟨_,h⟩⟩:=(hti t x ow hx ho).open_
  .grind
  .exact h.th
structure Tr(s:Wor.iC):Prop where
 th:∀e∈s.2.2,∃(t:Nat) (x:fM),e.zf=(t:Int)/\s.2.1[t]?=some x/\0<=e.op/\(e.op<x.done\/(e.op=x.done/\x.on=true))
 uniq:∀(a b:Nat) (ea eb:fG),s.2.2[a]?=some ea->s.2.2[b]?=some eb->ea.q9=true->eb.q9=true->ea.zf=eb.zf->ea.op=eb.op->a=b
 on:∀(t:Nat) (x:fM),s.2.1[t]?=some x->x.on=true->∃(f:Nat) (e:fG),s.2.2[f]?=some e/\e.q9=true/\e.zf=(t:Int)/\e.op=x.done
theorem vD{y x:α}(h:(l++[y])[a]?=some x):(a<l.length/\l[a]?=some x)\/(a=l.length/\x=y):=by
 grind
theorem kf(y:α){x:α}(h:l[a]?=some x):(l++[y])[a]?=some x:=by
 grind
def D7(l:List α)(y:α):(l++[y])[l.length]?=some y:=by simp
theorem Su(tr:Tr s)(hx:s.2.1[t]?=some x)(he:e.zf=(t:Int)):Tr (w,s.2.1.set t (Wor.ql x m),s.2.2++[ou e x]):=by
 have hl:=(gh.1 hx).1
 have y:(Wor.ql x m).done=x.done+1/\(Wor.ql x m).on=false\/(Wor.ql x m).done=x.done/\(Wor.ql x m).on=true:=by
  unfold Wor.ql
  grind
 refine⟨λe' h=>?_,λa b ea eb h1 h2 b1 b2 q1 q2=>?_,λt' x' h1 h2=>?_⟩
 .dsimp only at h|-;rcases pw.1 h with h|h
  .obtain⟨t',x',p1,p2,p3,p4⟩:=tr.th e' h
   grind [List.getElem?_set_self,List.getElem?_set_ne]
  .rw[gZ]at h;subst h;refine⟨t,_,he,gD hl,by show(0:Int)<=(x.done:Int);omega,?_⟩;show(x.done:Int)<_\/(x.done:Int)=_/\_
   grind
 .dsimp only at h1 h2
  have none_:∀ea∈s.2.2,x.on=false->ea.zf=(t:Int)->ea.op=(x.done:Int)->False:=λea hm hoff hth hop=>by
   obtain⟨t',x',p1,p2,p3,p4⟩:=tr.th ea hm;have:t'=t:=aw
   grind
  rcases vD h1 with⟨l1,h1⟩|⟨l1,rfl⟩
  .rcases vD h2 with⟨l2,h2⟩|⟨l2,rfl⟩
   .exact tr.uniq a b ea eb h1 h2 b1 b2 q1 q2
   .exact(none_ ea (gu h1) (by have:(!x.on)=true:=b2;simpa using this) (q1.trans he) q2).elim
  .rcases vD h2 with⟨l2,h2⟩|⟨l2,rfl⟩
   .exact(none_ eb (gu h2) (by have:(!x.on)=true:=b1;simpa using this) (q1.symm.trans he) q2.symm).elim
   .omega
 .dsimp only at h1|-;by_cases q:t=t'
  .subst q;rw[gD hl]at h1;cases h1
   rcases y with⟨y1,y2⟩|⟨y1,y2⟩
   .grind
   .rw[y1];cases hon:x.on with
    |true=>
     obtain⟨f,e1,p1,p2,p3,p4⟩:=tr.on t x hx hon;exact⟨f,e1,kf _ p1,p2,p3,p4⟩
    |false=>exact⟨s.2.2.length,_,D7 _ _,by show(!x.on)=true;rw[hon];rfl,he,rfl⟩
  .rw[pj q]at h1;obtain⟨f,e1,p1,p2,p3,p4⟩:=tr.on t' x' h1 h2;exact⟨f,e1,kf _ p1,p2,p3,p4⟩
def K8(w:Wor)(T:List (List fQ)):Tr (w,T.map kI,[]):=by
 refine⟨λe h=>aR,λa b ea eb h1=>(by cases h1),λt x h1 h2=>?_⟩;obtain⟨L,_,rfl⟩:=gT.1 ((gy ..).symm.trans h1);cases h2
def isAdd(k:Nat)(e:fG):Bool:=e.cell == 10 && e.access == 3 && e.value == (k:Int)
def BH(i k:Nat)(e:fG):Bool:=isAdd k e && e.zf == (i:Int)
def oa(n k:Nat)(e:fG):Bool:=isAdd k e && decide (e.zf<(n:Int))
def wV(x:Ah)(k:Nat):Int:=if k=0 then x.c0 else if k=1 then x.c1 else if k=2 then x.c2 else if k=3 then x.c3 else if k=4 then x.c4 else x.c5
def zvQ{k:Nat}(h:¬Ay e):isAdd k e=false:=by
 unfold isAdd;cases q:(e.cell == 10 && e.access == 3) with
 |false=>rfl
 |true=>
  simp only[gH,pT]at q;exact absurd q h
theorem ztk{k kk:Nat}(h:Ay e)(hv:e.value=(kk:Int)):isAdd k e=decide (k=kk):=by
 unfold isAdd;rw[h.1,h.2,hv]
 grind
theorem lt_succ(n k:Nat):∀l:List fG,l.countP (oa (n+1) k)=l.countP (oa n k)+l.countP (BH n k)
 |[]=>rfl
 |e::l=>by
  have ih:=lt_succ n k l;rw[ed,ed,ed,ih]
  have:(if oa (n+1) k e=true then 1 else 0)=(if oa n k e=true then 1 else 0)+(if BH n k e=true then 1 else 0):=by
   unfold oa BH
   grind
  omega
theorem zye(k:Nat){l:List fG}(h:∀e∈l,0<=e.zf):l.countP (oa 0 k)=0:=by
 grind [List.countP_eq_zero,oa]
theorem SH(n k:Nat){l:List fG}(h:∀e∈l,e.zf<(n:Int)):l.countP (oa n k)=l.countP (isAdd k):=by
 grind [List.countP_congr,oa]
def mY(m:fD)(k:Nat):Nat:=m.i.toNat+if (k:Int)<m.k then 1 else 0
def Bd(F L:List fG)(m:fD):Prop:=∀k,k<6->(F.countP (oa (mY m k) k):Int)<=wV m.counts k/\wV m.counts k<=L.countP (oa (mY m k) k)
theorem Bd.grow{F L:List fG}(e:fG)(h:Bd F L m):Bd F (L++[e]) m:=λk hk=>by
 have:=h k hk
 grind
def zwT(x:Ah)(a k:Nat)(n:Int)(ha:a<6)(hk:k<6)(h:0<=wV x a+n)(h2:wV x a+n<18446744073709551616):wV (m7 x a n) k=wV x k+if k=a then n else 0:=by
 have w:∀z:Int,0<=z->z<18446744073709551616->IntKind.u64.wrap z=z:=λz h1 h2=>by
  show z%18446744073709551616=z;omega
 obtain⟨c0,c1,c2,c3,c4,c5⟩:=x;obtain rfl|rfl|rfl|rfl|rfl|rfl:a=0\/a=1\/a=2\/a=3\/a=4\/a=5:=aw
 all_goals
  obtain rfl|rfl|rfl|rfl|rfl|rfl:k=0\/k=1\/k=2\/k=3\/k=4\/k=5:=aw
 all_goals
  simp[wV,m7]at h h2|-
 all_goals exact w _ h h2
theorem zxE{F L:List fG}(b:Bd F L m)(hF:∀p:fG->Bool,F.countP p<=L.countP p)(h0:0<=m.i)(h1:0<=m.k)(hL:L.length<=1000000000000)
 (AJ:∀(i k:Nat) (row:List Int) (n:Int),w.counts[i]?=some row->row[k]?=some n->n=L.countP (BH i k))(h:yf w m=some r)(hd:m.done=false)(hth:∀e∈L,e.zf<(w.counts.length:Int))(hthF:∀e∈F,e.zf<(w.counts.length:Int)):
  (r.2.1.done=false->Bd F L r.2.1)/\(r.2.1.done=true->∀k,k<6->(F.countP (isAdd k):Int)<=wV r.2.1.answer.counts k/\wV r.2.1.answer.counts k<=L.countP (isAdd k)):=by
 unfold yf at h;rcases zu h with⟨⟨p1,p2⟩,h⟩|⟨_,h⟩
 .obtain⟨row,hrow,h⟩:=gQ.1 h;obtain⟨n,hn,rfl⟩:=gT.1 h;have en:=AJ _ _ row n hrow hn;obtain⟨kk,ek⟩:∃kk:Nat,m.k=kk:=⟨m.k.toNat,aw⟩;have kk6:kk<6:=by omega
  rw[ek,toNat_cast]at hn en;have le:∀p:fG->Bool,L.countP p<=L.length:=λp=>List.countP_le_length
  have rd0:mY m kk=m.i.toNat:=by unfold mY;rw[ek,gp aw];rfl
  have bk:=b kk kk6;have sp:=lt_succ m.i.toNat kk L;have spF:=lt_succ m.i.toNat kk F;have hFb:=hF (BH m.i.toNat kk);have l1:=le (oa (m.i.toNat+1) kk);rw[rd0]at bk
  have key:∀k,k<6->(F.countP (oa (mY m k+if k=kk then 1 else 0) k):Int)<=wV (m7 m.counts m.k n) k/\wV (m7 m.counts m.k n) k<=L.countP (oa (mY m k+if k=kk then 1 else 0) k):=λk hk=>by
   rw[ek,zwT m.counts kk k n kk6 hk aw aw];by_cases q:k=kk
   .grind
   .rw[gp q,gp q,sy];have:=b k hk;omega
  have hi:=(gh.1 hrow).1;dsimp only;by_cases q5:m.k+1=6
  .have rdn:∀k,k<6->mY m k+(if k=kk then 1 else 0)=m.i.toNat+1:=λk hk=>by
    grind [mY]
   by_cases q6:m.i+1=w.counts.length
   .have es:jo w m n={m with counts:=m7 m.counts m.k n,k:=0,i:=m.i+1,done:=true,answer:=⟨13,0,0,0,0,0,0,m7 m.counts m.k n⟩}:=by
     grind [jo]
    rw[es];refine⟨λq=>absurd (show true=false from q) ar,λ_ k hk=>?_⟩;have a:=key k hk;rw[rdn k hk,show m.i.toNat+1=w.counts.length from aw]at a;rw[SH _ _ hth]at a;rw[SH _ _ hthF]at a;exact a
   .have es:jo w m n={m with counts:=m7 m.counts m.k n,k:=0,i:=m.i+1}:=by
     grind [jo]
    rw[es];refine⟨λ_ k hk=>?_,λq=>absurd (hd.symm.trans q) ar⟩;have a:=key k hk
    have e:mY {m with counts:=m7 m.counts m.k n,k:=0,i:=m.i+1} k=mY m k+if k=kk then 1 else 0:=by
     grind [mY]
    rw[e];exact a
  .have q7:¬(m.i=w.counts.length):=by omega
   have es:jo w m n={m with counts:=m7 m.counts m.k n,k:=m.k+1}:=by
    grind [jo]
   rw[es];refine⟨λ_ k hk=>?_,λq=>absurd (hd.symm.trans q) ar⟩;have a:=key k hk
   have e:mY {m with counts:=m7 m.counts m.k n,k:=m.k+1} k=mY m k+if k=kk then 1 else 0:=by
    grind [mY]
   rw[e];exact a
 .cases h
def XB{e:En}(su:qt w m v g e)(h:vj w m=some r):
  ((r.1.counts=w.counts/\¬Ay r.2.2)\/∃(kk:Nat) (r0:List Int) (x:Int),w.counts[m.zf.toNat]?=some r0/\r0[kk]?=some x/\r.1.counts=w.counts.set m.zf.toNat (r0.set kk (IntKind.u64.wrap (x+1)))/\Ay r.2.2/\r.2.2.value=kk)/\
  (r.2.1.done=true->r.2.1.answer.kind=13->(m.op.kind=1->20<=m.pc->m.answer.kind<=5)->m.op.kind=6):=by
 have calm:∀{K:List Int},o5 K w m r->(∀z∈K,z≠13)->((r.1.counts=w.counts/\¬Ay r.2.2)\/∃(kk:Nat) (r0:List Int) (x:Int),w.counts[m.zf.toNat]?=some r0/\r0[kk]?=some x/\r.1.counts=w.counts.set m.zf.toNat (r0.set kk (IntKind.u64.wrap (x+1)))/\Ay r.2.2/\r.2.2.value=kk)/\
   (r.2.1.done=true->r.2.1.answer.kind=13->(m.op.kind=1->20<=m.pc->m.answer.kind<=5)->m.op.kind=6):=@λK ⟨c1,c2,c3,c4⟩ hh=>⟨.inl ⟨c1,c4⟩,λa b _=>absurd b (hh _ (c3 a))⟩
 unfold vj at h;rw[su.fZ]at h;dsimp only at h;rw[su.fY]at h;dsimp only at h;rw[su.ib]at h;dsimp only at h;rcases zu h with⟨k1,h⟩|⟨k1,h⟩
 .rcases YD su.done h with⟨c1,c2,c3,c4,c5⟩|⟨kk,r0,x,a1,a2,a3,a5,a4⟩|⟨c1,c2,c4,c3⟩
  .exact⟨.inl ⟨c1,c5⟩,λa=>by rw[c4]at a;cases a⟩
  .refine⟨.inr ⟨kk,r0,x,a1,a2,a3,a5.1,a5.2⟩,λa=>?_⟩;rcases a4 with⟨_,_,e⟩|⟨_,_,p,_,e⟩ <;> (rw[e]at a;exact absurd (su.done.symm.trans a) ar)
  .refine⟨.inl ⟨c1,c4⟩,λa b c=>?_⟩;have:=c k1 aw;rcases c3 with e|e <;> (rw[e]at b;dsimp only at b;omega)
 rcases zu h with⟨k2,h⟩|⟨_,h⟩
 .exact calm (WU su.done h) ar
 rcases zu h with⟨k2,h⟩|⟨_,h⟩
 .exact calm (zsF su.done h) ar
 rcases zu h with⟨k2,h⟩|⟨_,h⟩
 .exact calm (YO su.done h) ar
 rcases zu h with⟨k2,h⟩|⟨_,h⟩
 .exact calm (WA su.done h) ar
 rcases zu h with⟨k2,h⟩|⟨_,h⟩
 .have c:=YP su.done h;exact⟨.inl ⟨c.1,c.2.2.2⟩,λ_ _ _=>k2⟩
 .cases h
theorem Bt{N K:Nat}{o:fQ}(gi:GI N K w X)(hx:X[t]?=some x)(ho:x.ops[x.done]?=some o):(qk x t o).op=o:=by
 cases hon:x.on with
 |false=>
  unfold qk Beg.ji
  grind
 |true=>
  unfold qk;rw[hon,gz V];obtain⟨os,hl,hti,_⟩:=gi.own;obtain⟨ow,ho2⟩:∃o,os[t]?=some o:=⟨_,gk (by have:=(gh.1 hx).1;omega)⟩;obtain⟨L,_,_,h|⟨_,h⟩⟩:=(hti t x ow hx ho2).open_
  .grind
  .have:=h.at_
   grind
structure SI(s:Wor.iC):Prop where
 tr:Tr s
 AJ:∀(i k:Nat) (row:List Int) (n:Int),s.1.counts[i]?=some row->row[k]?=some n->n=(s.2.2.countP (BH i k):Nat)
 rd:∀(t:Nat) (x:fM),s.2.1[t]?=some x->x.on=true->x.m.op.kind=6->∃(f:Nat) (e:fG),s.2.2[f]?=some e/\e.q9=true/\e.zf=(t:Int)/\e.op=x.done/\Bd (s.2.2.take f) s.2.2 x.m
 fin:∀(τ:Nat) (e:fG),s.2.2[τ]?=some e->e.done=true->e.answer.kind=13->∃(f:Nat) (e0:fG),f<=τ/\s.2.2[f]?=some e0/\e0.q9=true/\e0.zf=e.zf/\e0.op=e.op/\
  ∀k,k<6->((s.2.2.take f).countP (isAdd k):Int)<=wV e.answer.counts k/\wV e.answer.counts k<=(s.2.2.take (τ+1)).countP (isAdd k)
def FR(y:α){n:Nat}(h:n<=l.length):(l++[y]).take n=l.take n:=by rw[sZ h]
theorem zy5{N K:Nat}(gi:GI N K s.1 s.2.1)(si:SI s)(p:Int)(hN:N<=100000000)(hK:K<=1099511627776)(hL:s.2.2.length<=1000000000000):SI (xk s p):=by
 rcases jO gi p hN hK with⟨_,e⟩|⟨t,x,o,r,hat,hx,ho,hsu,htm,hst,_,e,gi2⟩
 .rw[e];exact si
 .rw[e];obtain⟨v,g,en,su⟩:=xN hsu;have tl:=Fw su.done hst;have nt:=kY o gi hx;have no:=Bt gi hx ho;have eth:r.2.2.zf=(t:Int):=tl.2.2.trans nt;have hl:=(gh.1 hx).1;have gr:=zU.1 gi.st.qI.ground;have wl:s.1.counts.length=s.2.1.length:=gr.counts.1.trans gi.len;obtain⟨cc,c13⟩:=XB su hst
  have thr:∀e∈s.2.2,0<=e.zf/\e.zf<(s.1.counts.length:Int):=λe he=>by
   obtain⟨t',x',p1,p2,_⟩:=si.tr.th e he
   grind
  have rdm:(qk x t o).op.kind=6->∃f,f<=s.2.2.length/\(∃e:fG,(s.2.2++[ou r.2.2 x])[f]?=some e/\e.q9=true/\e.zf=(t:Int)/\e.op=x.done)/\Bd (s.2.2.take f) s.2.2 (qk x t o):=λhk=>by
   cases hon:x.on with
   |true=>
    have en:qk x t o=x.m:=cF
    rw[en]at hk|-;obtain⟨f,e1,p1,p2,p3,p4,p5⟩:=si.rd t x hx hon hk
    grind [Nat.le_of_lt,kf]
   |false=>
    refine⟨s.2.2.length,gG _,⟨_,D7 _ _,by show(!x.on)=true;rw[hon];rfl,eth,rfl⟩,?_⟩;have en:qk x t o=Beg.ji t o x.given:=cF
    rw[no]at hk;rw[en,kW aw,pI];intro k hk6
    have rd0:mY ⟨o,t,0,0,0, -1,0,0,0,0,0,0,0,0,0,false,Beg.yL,vd⟩ k=0:=by
     grind [mY]
    have s0:wV vd k=0:=by
     unfold wV vd
     grind
    dsimp only at rd0|-;rw[rd0,zye k λe he=>(thr e he).1,s0]
    grind
  have stp:∀f,(qk x t o).op.kind=6->Bd (s.2.2.take f) s.2.2 (qk x t o)->(r.2.1.done=false->Bd (s.2.2.take f) s.2.2 r.2.1)/\(r.2.1.done=true->∀k,k<6->((s.2.2.take f).countP (isAdd k):Int)<=wV r.2.1.answer.counts k/\wV r.2.1.answer.counts k<=s.2.2.countP (isAdd k)):=λf hk b=>by
   have h:=hst;unfold vj at h;rw[su.fZ]at h;dsimp only at h;rw[su.fY]at h;dsimp only at h;rw[su.ib]at h;dsimp only at h;rw[gp aw,gp aw,gp aw,gp aw,gp aw,gz hk]at h;exact zxE b (λp=>(List.take_sublist f s.2.2).countP_le) su.i su.k hL si.AJ h su.done (λe he=>(thr e he).2) λe he=>(thr e (rH he)).2
  refine⟨Su si.tr hx eth,λi k row n h1 h2=>?_,λt' x' h1 h2 h3=>?_,λτ e1 h1 h2 h3=>?_⟩
  .dsimp only at h1 h2|-
   have ad:BH i k (ou r.2.2 x)=(isAdd k r.2.2 && decide ((t:Int)=i)):=by
    show(isAdd k r.2.2 && (r.2.2.zf == (i:Int)))=_;rw[eth]
    rfl
   rw[um,eh,ad];rcases cc with⟨c1,c2⟩|⟨kk,r0,x0,a1,a2,a3,a4,a5⟩
   .rw[c1]at h1;rw[si.AJ i k row n h1 h2,zvQ c2];simp
   .rw[a3,nt,toNat_cast]at h1;rw[nt,toNat_cast]at a1;have ex:=si.AJ t kk r0 x0 a1 a2;have le:s.2.2.countP (BH t kk)<=s.2.2.length:=List.countP_le_length
    have wr:IntKind.u64.wrap (x0+1)=x0+1:=by
     show(x0+1)%18446744073709551616=x0+1;omega
    rw[ztk a4 a5];rcases xc h1 with⟨rfl,rfl,_⟩|⟨hne,h1⟩
    .rcases xc h2 with⟨rfl,rfl,_⟩|⟨hne,h2⟩
     .rw[wr,ex];simp
     .rw[si.AJ t k r0 n a1 h2];have:¬(k=kk):=λz=>hne z.symm
      simp[this]
    .rw[si.AJ i k row n h1 h2];have:¬((t:Int)=i):=by omega
     simp[this]
  .dsimp only at h1|-;by_cases q:t=t'
   .subst q;have gx:(s.2.1.set t (Wor.ql x r.2.1))[t]?=some (Wor.ql x r.2.1):=gD hl;rw[gx]at h1;cases h1
    have nd:r.2.1.done=false:=by
     cases z:r.2.1.done with
     |false=>rfl
     |true=>rw[Wor.vU z]at h2;cases h2
    rw[xu nd]at h3|-;dsimp only at h3|-;have ho2:(Wor.ql x r.2.1).ops[(Wor.ql x r.2.1).done]?=some o:=by rw[xu nd];exact ho
    have n2:=Bt gi2 gx ho2;have e2:qk (Wor.ql x r.2.1) t o=r.2.1:=by rw[xu nd];rfl
    rw[e2]at n2;have hk:(qk x t o).op.kind=6:=by rw[no,<-n2];exact h3
    obtain⟨f,f1,⟨e3,q1,q2,q3,q4⟩,q5⟩:=rdm hk;refine⟨f,e3,q1,q2,q3,q4,?_⟩;rw[FR _ f1];exact((stp f hk q5).1 nd).grow _
   .rw[pj q]at h1;obtain⟨f,e3,q1,q2,q3,q4,q5⟩:=si.rd t' x' h1 h2 h3;refine⟨f,e3,kf _ q1,q2,q3,q4,?_⟩;rw[FR _ (Nat.le_of_lt (gh.1 q1).1)];exact q5.grow _
  .dsimp only at h1|-;rcases vD h1 with⟨l1,h1⟩|⟨rfl,rfl⟩
   .obtain⟨f,e0,q1,q2,q3,q4,q5,q6⟩:=si.fin τ e1 h1 h2 h3;refine⟨f,e0,q1,kf _ q2,q3,q4,q5,?_⟩;rw[FR _ aw,FR _ aw];exact q6
   .have dn:r.2.1.done=true:=by rw[<-tl.1];exact h2
    have ea:(ou r.2.2 x).answer=r.2.1.answer:=tl.2.1 dn;rw[ea]at h3|-;have hk:=c13 dn h3 λa b=>(zzM gi hx a b).2
    obtain⟨f,f1,⟨e3,q1,q2,q3,q4⟩,q5⟩:=rdm hk;refine⟨f,e3,f1,q1,q2,q3.trans eth.symm,q4,λk hk6=>?_⟩;have z:=(stp f hk q5).2 dn k hk6;rw[FR _ f1,sr (l:=s.2.2++[ou r.2.2 x]) aj,um];omega
def Td{N K:Nat}{s:Wor.iC}(gi:GI N K s.1 s.2.1)(si:SI s)(l:List Int)(h0:s.2.2.length=0):∀k,k<=l.length->N+k<=100000000->K+k<=1099511627776->SI (ir s l k)/\(ir s l k).2.2.length<=k
 |0,_,_,_=>⟨si,by show s.2.2.length<=0;omega⟩
 |k+1,hk,hN,hK=>by
  have ih:=Td gi si l h0 k aw aw aw;have g:=kh gi l k aw aw aw;rw[xZ (gk aw)];refine⟨zy5 g ih.1 _ aw aw aw,?_⟩;rcases jO g l[k] aw aw with⟨_,e⟩|⟨t,x,o,r,hat,hx,ho,hsu,htm,hst,_,e,gi2⟩
  .rw[e];omega
  .rw[e];dsimp only;rw[pz];have:=ih.2;simp;omega
theorem zv9{s:Sna}{l:List fK}{n:Int}(h:lx s l n=(w,0)):w.counts=List.replicate n.toNat [0,0,0,0,0,0]:=by
 unfold lx at h
 grind
def zuT{s:fU}(h:(qm s).2=0):SI (iE s):=by
 obtain⟨_,hn⟩:=jI h;have e:(iE s).1.counts=List.replicate (s.threads.length:Int).toNat [0,0,0,0,0,0]:=zv9 hn;refine⟨K8 _ _,λi k row n h1 h2=>?_,λt x h1 h2=>?_,λτ e1 h1=>by cases h1⟩
 .rw[e]at h1;rw[pS (gu h1)]at h2;have:=gu h2;have z:n=0:=by simp_all
  rw[z]
  rfl
 .obtain⟨L,_,rfl⟩:=gT.1 ((gy ..).symm.trans (show(s.threads.map kI)[t]?=some x from h1));cases h2
structure BI(X:List fM)(b:List Cal):Prop where
 own:∀(i:Nat) (c:Cal),b[i]?=some c->∃(t:Nat) (x:fM),c.zf=(t:Int)/\X[t]?=some x/\((c.op<x.done/\0<=c.iv)\/(c.op=x.done/\x.on=true/\c.iv<0))
 on:∀(t:Nat) (x:fM),X[t]?=some x->x.on=true->∃(i:Nat) (c:Cal),b[i]?=some c/\c.zf=(t:Int)/\c.op=x.done
 nd:∀(i j:Nat) (c d:Cal),b[i]?=some c->b[j]?=some d->c.zf=d.zf->c.op=d.op->i=j
theorem Si{b:List Cal}{k:Nat}(bi:BI X b)(hx:X[t]?=some x)(he:e.zf=(t:Int))(hop:e.op=x.done)(hbg:e.q9=!x.on)(hdn:e.done=m.done):
  ∃b',Cal.Cj b (k:Int) e=some b'/\BI (X.set t (Wor.ql x m)) b':=by
 have hl:=(gh.1 hx).1
 have y:(m.done=true/\(Wor.ql x m).done=x.done+1/\(Wor.ql x m).on=false)\/(m.done=false/\(Wor.ql x m).done=x.done/\(Wor.ql x m).on=true):=by
  unfold Wor.ql
  grind
 have main:∀(N:List Cal) (n:Nat) (c0:Cal),N[n]?=some (Cal.qF e (k:Int) c0)->c0.zf=(t:Int)->c0.op=x.done->c0.iv<0->(∀(i:Nat) (c:Cal),N[i]?=some c->i≠n->b[i]?=some c/\¬(c.zf=(t:Int)/\c.op=x.done))->(∀(i:Nat) (c:Cal),b[i]?=some c->i≠n->N[i]?=some c)->(∀(i:Nat) (c:Cal),b[i]?=some c->i=n->c.zf=(t:Int)/\c.op=x.done)->
   BI (X.set t (Wor.ql x m)) N:=λN n c0 h1 h2 h3 h4 h5 h6 h7=>by
  have mt:=Cal.y7 e (k:Int) c0;have mo:=Cal.FY e (k:Int) c0;refine⟨λi c hc=>?_,λt' x' hx' hon=>?_,λi j c d hc hd q1 q2=>?_⟩
  .by_cases q:i=n
   .subst q;rw[h1]at hc;cases hc
    refine⟨t,_,mt.1.trans h2,gD hl,?_⟩;rw[mt.2,h3,mo,hdn];rcases y with⟨y0,y1,y2⟩|⟨y0,y1,y2⟩
    .rw[y0,y1,gz V];exact .inl ⟨aw,aw⟩
    .rw[y0,y1,y2,gp ar];exact .inr ⟨rfl,rfl,h4⟩
   .obtain⟨hb,nq⟩:=h5 i c hc q;obtain⟨t',x',p1,p2,p3⟩:=bi.own i c hb;by_cases z:t=t'
    .subst z;rw[hx]at p2;cases p2
     refine⟨t,_,p1,gD hl,?_⟩;rcases p3 with⟨p3,p4⟩|⟨p3,_⟩
     .rcases y with⟨_,y1,_⟩|⟨_,y1,_⟩ <;> (rw[y1];exact .inl ⟨aw,p4⟩)
     .exact(nq ⟨p1,p3⟩).elim
    .exact⟨t',x',p1,by rw[pj z];exact p2,p3⟩
  .by_cases z:t=t'
   .subst z;rw[gD hl]at hx';cases hx'
    rcases y with⟨_,_,y2⟩|⟨_,y1,_⟩
    .rw[hon]at y2;cases y2
    .exact⟨n,_,h1,mt.1.trans h2,by rw[mt.2,h3,y1]⟩
   .rw[pj z]at hx';obtain⟨i,c,p1,p2,p3⟩:=bi.on t' x' hx' hon
    have ni:i≠n:=λq=>by
     grind
    exact⟨i,c,h6 i c p1 ni,p2,p3⟩
  .by_cases z1:i=n
   .by_cases z2:j=n
    .omega
    .subst z1;rw[h1]at hc;cases hc
     exact((h5 j d hd z2).2 ⟨by rw[<-q1,mt.1,h2],by rw[<-q2,mt.2,h3]⟩).elim
   .by_cases z2:j=n
    .subst z2;rw[h1]at hd;cases hd
     exact((h5 i c hc z1).2 ⟨by rw[q1,mt.1,h2],by rw[q2,mt.2,h3]⟩).elim
    .exact bi.nd i j c d (h5 i c hc z1).1 (h5 j d hd z2).1 q1 q2
 unfold Cal.Cj;cases hon:x.on with
 |false=>
  rw[hbg,hon,gz ar]
  have free:∀(i:Nat) (c:Cal),b[i]?=some c->c.zf=(t:Int)->c.op<x.done/\0<=c.iv:=λi c hc hth=>by
   obtain⟨t',x',p1,p2,p3⟩:=bi.own i c hc;have:t'=t:=aw
   grind
  have n1:(Cal.zT b e.zf e.op).isSome=false:=by
   cases hp:Cal.zT b e.zf e.op with
   |none=>rfl
   |some n=>
    obtain⟨c,hc,p1,p2⟩:=Cal.Ft hp
    grind
  have n2:Cal.kK b e.zf=false:=by
   unfold Cal.kK;rw[pq];intro c hc;obtain⟨i,hi⟩:=gI.1 hc
   grind
  rw[n1,n2,gp ar];refine⟨_,rfl,?_⟩;have ml:(b++[Cal.xn e (k:Int)])[b.length]?=some (Cal.xn e (k:Int)):=aj
  rw[Cal.kX ml];refine main _ b.length (Cal.xn e (k:Int)) ?_ he hop (by show(-1:Int)<0;decide) (λi c hc hne=>?_) (λi c hc hne=>?_) (λi c hc q=>?_)
  .rw[gD (gh.1 ml).1]
  .rw[pj (λz=>hne z.symm)]at hc;rcases vD hc with⟨_,hc⟩|⟨q,_⟩
   .exact⟨hc,λ⟨z1,z2⟩=>by have:=free i c hc z1;omega⟩
   .exact(hne q).elim
  .rw[pj (λz=>hne z.symm)];exact kf (Cal.xn e (k:Int)) hc
  .have:=(gh.1 hc).1;omega
 |true=>
  rw[hbg,hon,gp ar];obtain⟨i0,c0,p1,p2,p3⟩:=bi.on t x hx hon;cases hp:Cal.zT b e.zf e.op with
  |none=>
   unfold Cal.zT at hp;rw[gV]at hp;have:=hp c0 (gu p1);simp[p2,p3,he,hop]at this
  |some n=>
   obtain⟨c,hc,r1,r2⟩:=Cal.Ft hp;have r1:c.zf=(t:Int):=r1.trans he;have r2:c.op=x.done:=r2.trans hop
   have hto:c.iv<0:=by
    obtain⟨t',x',s1,s2,s3⟩:=bi.own n c hc;have:t'=t:=aw
    grind
   dsimp only;rw[hc,gp aA];refine⟨_,rfl,?_⟩;rw[Cal.kX hc];refine main _ n c ?_ r1 r2 hto (λi d hd hne=>?_) (λi d hd hne=>?_) (λi d hd q=>?_)
   .rw[gD (gh.1 hc).1]
   .rw[pj (λz=>hne z.symm)]at hd;exact⟨hd,λ⟨z1,z2⟩=>hne (bi.nd i n d c hd hc (z1.trans r1.symm) (z2.trans r2.symm))⟩
   .rw[pj (λz=>hne z.symm)];exact hd
   .subst q;rw[hc]at hd;cases hd
    exact⟨r1,r2⟩
def LA(L:List fG)(e:fG):∀k,k<=L.length->Cal.oR (L++[e]) k=Cal.oR L k
 |0,_=>rfl
 |k+1,h=>by
  simp only[Cal.oR,LA L e k aw];rw[gF aw]
structure RI(s:Wor.iC):Prop where
 tr:Tr s
 acc:∀e∈s.2.2,e.access≠0
 bk:∃b,Cal.oR s.2.2 s.2.2.length=some b/\BI s.2.1 b
theorem zy2{N K:Nat}(gi:GI N K s.1 s.2.1)(ri:RI s)(p:Int)(hN:N<=100000000)(hK:K<=1099511627776):RI (xk s p):=by
 rcases jO gi p hN hK with⟨_,e⟩|⟨t,x,o,r,hat,hx,ho,hsu,htm,hst,hacc,e,gi2⟩
 .grind
 .rw[e];obtain⟨v,g,en,su⟩:=xN hsu;have tl:=Fw su.done hst;have eth:r.2.2.zf=(t:Int):=tl.2.2.trans (kY o gi hx);obtain⟨b,h1,h2⟩:=ri.bk;obtain⟨b',h3,h4⟩:=Si (e:=ou r.2.2 x) (m:=r.2.1) (k:=s.2.2.length) h2 hx eth V V tl.1;refine⟨Su ri.tr hx eth,λe he=>?_,b',?_,h4⟩
  .rcases pw.1 he with he|he
   .exact ri.acc e he
   .rw[gZ.1 he];exact hacc
  .dsimp only;rw[pz];show Cal.oR _ (s.2.2.length+1)=_;simp only[Cal.oR];rw[LA _ _ _ (gG _),h1,D7];exact h3
def MI{N K:Nat}{s:Wor.iC}(gi:GI N K s.1 s.2.1)(ri:RI s)(l:List Int):∀k,k<=l.length->N+k<=100000000->K+k<=1099511627776->RI (ir s l k)
 |0,_,_,_=>ri
 |k+1,hk,hN,hK=>by
  have ih:=MI gi ri l k aw aw aw;rw[xZ (gk aw)];exact zy2 (kh gi l k aw aw aw) ih _ aw aw
def zt7{s:fU}(ok:v7 s)(h:(zZ s).2.2=0):(Cal.iH (zZ s).1).2=0/\(zZ s).1.length<=s.zJ.length/\qQ (zZ s).2.1/\mB 5000 (zZ s).2.1/\
  ∀e∈(zZ s).1,e.access≠0/\∃(t:Nat) (l:List fQ),e.zf=(t:Int)/\s.threads[t]?=some l/\0<=e.op/\e.op<l.length:=by
 have hb:=D5 h;have e1:zZ s=((q8 s).2.2,(q8 s).1,0):=cw
 obtain⟨q,_⟩:=jI hb;obtain⟨_,_,_,p4,_,_⟩:=jF q;have f:=zsY ok hb (n:=s.zJ.length) (gG _);have gi:=EL ok hb s.zJ.length (gG _);have ao:=Is ok hb s.zJ.length (gG _);have si:=Td (xf ok hb) (zuT hb) s.zJ V s.zJ.length (gG _) aw aw
 have r0:RI (iE s):=by
  refine⟨K8 _ _,λe he=>(by cases he),[],rfl,⟨λi c h=>aR,λt x hx hon=>?_,λi j c d h=>aR⟩⟩;obtain⟨L,_,rfl⟩:=gT.1 ((gy ..).symm.trans (show(s.threads.map kI)[t]?=some x from hx));cases hon
 have ri:RI (q8 s):=MI (xf ok hb) r0 s.zJ s.zJ.length (gG _) aw aw;have gd:=f.2.2.2;have e2:na s s.zJ.length=s:=by unfold na;rw[pI]
 rw[e2,e1]at gd;rw[e1];dsimp only at gd|-;refine⟨?_,si.2,gd.1,gd.2.1,λe he=>⟨ri.acc e he,?_⟩⟩
 .obtain⟨b,hb2,_⟩:=ri.bk;have:=(Cal.F4 (q8 s).2.2 (q8 s).2.2.length).1;rw[hb2]at this;unfold Cal.iH;cases z:Cal.vZ (q8 s).2.2 (q8 s).2.2.length with
  |none=>rw[z]at this;cases this
  |some b2=>rfl
 .obtain⟨t,x,t1,t2,t3,t4⟩:=ri.tr.th e he
  have tx:s.threads[t]?=some x.ops:=by
   rw[<-ao,gy];show((q8 s).2.1[t]?).map _=_;rw[t2]
   rfl
  refine⟨t,x.ops,t1,tx,t3,?_⟩;have tk:=K7 gi t2;rcases t4 with t4|⟨t4,t5⟩
  .omega
  .obtain⟨os,hl,hti,_⟩:=gi.own;obtain⟨ow,ho⟩:∃o,os[t]?=some o:=⟨_,gk (by have:=(gh.1 t2).1;show t<os.length;rw[hl];exact this)⟩;obtain⟨L,_,_,hh|⟨_,hh⟩⟩:=(hti t x ow t2 ho).open_
   .have:=hh.1;rw[t5]at this;cases this
   .have:=(gh.1 hh.at_).1;omega
def UG(n:Int)(e:fG):Int:=if e.cell=3/\e.access=6 then e.value else n
def MT(l:List fG):Int:=l.foldl UG 0
theorem CD{e:En}(su:qt w m v g e)(h:vj w m=some r):
  (m.op.kind=1/\qe w m v g e=some r)\/(m.op.kind=2/\jW w m v g e=some r)\/(m.op.kind=3/\yg w m=some r)\/(m.op.kind=4/\yM w m=some r)\/(m.op.kind=5/\qZ w m=some r)\/(m.op.kind=6/\yf w m=some r):=by
 unfold vj at h;rw[su.fZ]at h;dsimp only at h;rw[su.fY]at h;dsimp only at h;rw[su.ib]at h;dsimp only at h;rcases zu h with⟨k,h⟩|⟨_,h⟩
 .exact .inl ⟨k,h⟩
 rcases zu h with⟨k,h⟩|⟨_,h⟩
 .exact .inr (.inl ⟨k,h⟩)
 rcases zu h with⟨k,h⟩|⟨_,h⟩
 .exact .inr (.inr (.inl ⟨k,h⟩))
 rcases zu h with⟨k,h⟩|⟨_,h⟩
 .exact .inr (.inr (.inr (.inl ⟨k,h⟩)))
 rcases zu h with⟨k,h⟩|⟨_,h⟩
 .exact .inr (.inr (.inr (.inr (.inl ⟨k,h⟩))))
 rcases zu h with⟨k,h⟩|⟨_,h⟩
 .exact .inr (.inr (.inr (.inr (.inr ⟨k,h⟩))))
 .cases h
structure VI(s:Wor.iC):Prop where
 tr:Tr s
 cur:s.1.current=MT s.2.2
 run:∀(t:Nat) (x:fM),s.2.1[t]?=some x->x.on=true->x.m.op.kind=1->4<=x.m.pc->∃(f g:Nat) (e:fG),s.2.2[f]?=some e/\e.q9=true/\e.zf=(t:Int)/\e.op=x.done/\f<=g/\g<s.2.2.length/\MT (s.2.2.take g)=x.m.version
 fin:∀(τ:Nat) (e:fG),s.2.2[τ]?=some e->e.done=true->e.answer.kind=1->∃(f g:Nat) (e0:fG),f<=g/\g<=τ/\s.2.2[f]?=some e0/\e0.q9=true/\e0.zf=e.zf/\e0.op=e.op/\MT (s.2.2.take g)=e.answer.version
end Go.Run
