import Derived.RangeFuncLeaves
import Derived.Test.YtamgiodaflkbhaaGreatVW
import Derived.Test.YtamgiodaflkbhaaGreatVJ
import Derived.Test.YtamgiodaflkbhaaGreatVV
set_option linter.all false
set_option maxRecDepth 100000
set_option maxHeartbeats 4000000
namespace Go.Wor
open Go.Ab Go.Proofs Tryz Go.Hy Go.Gat Go.Nam Go.Hos Go.Con Go.Sna
def yN(w:Wor)(m:fx):Bool:=w.zn.any (λr=>r.version == m.version) || (m.version == w.current) || decide (m.zr<0) || decide (w.zr<m.zr)
def CT(m:fx)(a b c:Int):th 179 [oM m] [.ref 0 [] 44 0 0,I a,I b,I c] (Ce (fI m a b c)) [oM m]:=by
 refine aa func179 ?_;refine tc ?_;exact dF
def QL(w:Wor)(m:fx)(r:fK):th 232 [oW w,oM m] [.agg (qk r),.ref 1 [] 44 0 0] (Bo (r.version == m.version)) [oW w,oM m]:=by
 refine aa func232 ?_;refine⟨λh=>?_,λh=>?_⟩ <;> rw[h]
 .refine dd ?_;exact dM
 .refine dd ?_;exact dM
def F9(w:Wor)(m:fx)(ok:fG w):th 176 [] [Cw w,Cm m] (Bo (yN w m)) []:=by
 have hl:=ok.zn;refine ab func176 ?_;refine⟨_,_,Go.Lim.KW (λr=>r.version == m.version) V (λr=>QL w m r) an,dd ?_⟩;refine⟨λq1=>?_,λq1=>?_⟩
 .refine zac ?_
  (exact⟨.inl V,_,.refl _,uN (by simp only[yN,q1,fi])⟩)
 refine zac ?_
 refine⟨λq2=>?_,λq2=>?_⟩
 .refine zac ?_
  (exact⟨.inl V,_,.refl _,uN (by simp only[yN,q1,q2,fi,uh])⟩)
 refine zac ?_
 refine⟨λq3=>?_,λq3=>?_⟩
 .refine zac ?_
  (exact⟨.inl V,_,.refl _,uN (by simp only[yN,q1,q2,q3,fi,uh])⟩)
 refine zac ?_
 refine⟨λq4=>?_,λq4=>?_⟩
 .refine zac ?_
  (exact⟨.inl V,_,.refl _,uN (by have q5:decide (w.zr<m.zr)=true:=q4;simp only[yN,q5,uh])⟩)
 .refine zac ?_
  (exact⟨.inl V,_,.refl _,uN (by have q5:decide (w.zr<m.zr)=false:=q4;simp only[yN,q1,q2,q3,q5,Bool.or_false])⟩)
def QW(w:Wor)(m:fx)(sw:z6 w)(ok:fG w)(hl:i64 m.listen)(hpc:m.pc=1)(hs:zG w m=true):
  th 139 [] [Cw w,Cm m] (.fy [Cw w,Cm {m with zr:=w.zr,pc:=2},Ce (fI m 1 1 w.zr)]) []:=by
 refine ab func139 ?_;refine zah ?_
 refine zcs ?_
 refine td ?_
 refine af (qz w sw) ?_;refine zah ?_
 refine .inl ⟨⟨true,[0,1,3],[0,1,5],[4]⟩,ak,uH ?_⟩;refine tc ?_
 refine ae [1] (CT {m with zr:=w.zr,pc:=2} 1 1 w.zr) ?_;refine tc ?_
 exact uI
def PM(w:Wor)(h:z6 w)(x:fK)(l:List fK)(hx:w.zn=x::l):th 173 [] [Cw w] (.agg [I w.zr,I w.current,I w.lock,lI w.pins,lV w.zd,lL w.zc,fJ w.counts,.sl 0 [] 3 0 w.zn.length false]) [⟨2,157,3,(w.zn).map qk,0⟩]:=by
 have hl:l.length<1000000000:=by have:=h.zn;rw[hx]at this;exact dL
 have hc:=LD x l hl;rw[<-hx]at hc;refine zbv ?_;refine zaL ?_;refine ae [] (hc) ?_;refine zbg ?_;exact zl.fD [5] [0] _ _ V V V (ze V (ze V (ze V (ze (zf λr hr c hc=>((shut_map (enc:=zt) (λ_=>V) w.zd) r hr c hc).2) (ze (zf λr hr c hc=>((shut_map (enc:=zA) (λ_=>V) w.counts) r hr c hc).2) V)))))
def Yo:th 229 [] [lR []] (.fq 1 3 []) []:=by
 refine ab func229 ?_;refine⟨?_,?_⟩
 .refine dd ?_;exact⟨.inl V,_,zl.cell 2 V (WC.none 1 0 3),rfl⟩
 .refine dd ?_;refine .inr ⟨rfl,dd ?_⟩;exact uI
def PL(w:Wor)(h:z6 w)(hx:w.zn=[]):th 173 [] [Cw w] (.agg [I w.zr,I w.current,I w.lock,lI w.pins,lV w.zd,lL w.zc,fJ w.counts,.fq 1 3 []]) []:=by
 have hc:=Yo;rw[<-hx]at hc;refine ab func173 ?_;refine af (vy w.pins h.pins) ?_;refine zaL ?_;refine af hc ?_;exact⟨.inl V,_,(zl.zN 1 0 4 V V V V (.inr V) V ah (shut_map (enc:=zt) (λ_=>V) w.zd) (zB V)).trans (zl.zN 1 0 6 V V V V (.inr V) V ah (shut_map (enc:=zA) (λ_=>V) w.counts) (zB V)),rfl⟩
def Nb(l:List fK):((l.map qk).all λx=>x.all zF)=true:=by
 rw[pG];intro r hr;obtain⟨x,_,rfl⟩:=rp.1 hr
 rfl
abbrev om(m:fx):fM:=⟨8,m.i,0,0,0,0,0,⟨0,0,0,0,0,0⟩⟩
def QX(w:Wor)(m:fx)(x:fK)(l:List fK)(sw:z6 w)(ok:fG w)(hl:i64 m.listen)(hpc:m.pc=2)(hs:zG w m=true)(hla:yN w m=false)(hx:w.zn=x::l):
  th 139 [] [Cw w,Cm m] (.fy [Cw {w with zn:=w.zn++[⟨m.version,m.zr,false⟩]},Cm {m with done:=true,answer:=om m},Ce {fI m 2 11 m.version with done:=true,answer:=om m}]) []:=by
 have hn:=sw.zn;have hap:(Ob.mk 2 157 3 (w.zn.map qk) 0).rows++[[I m.version,I m.zr,Bo false]]=(w.zn++[(⟨m.version,m.zr,false⟩:fK)]).map qk:=aN
 refine ab func139 ?_;refine zah ?_
 refine zcs ?_
 refine td ?_
 refine af (F9 w m ok) ?_;refine⟨λh=>absurd ((hla).symm.trans h:false=true) aj,λ_=>dd ?_⟩;refine td ?_
 refine ae [] (PM w sw x l hx) ?_;refine zah ?_
 refine⟨ah,Nb _,aq,bQ,dd ?_⟩;refine ae [1] (CT m 2 11 m.version) ?_;refine zb2 ?_
 rw[hap];refine .inl ⟨⟨false,[0,1,2],[1,6,8],[]⟩,ak,uH ?_⟩;refine tc ?_
 exact⟨.inl V,_,zl.zN 2 0 7 V V V V (.inr V) ah ah (shut_map (enc:=qk) (λ_=>V) _) (zB V),rfl⟩
def P0(w:Wor)(m:fx)(sw:z6 w)(ok:fG w)(hl:i64 m.listen)(hpc:m.pc=2)(hs:zG w m=true)(hla:yN w m=false)(hx:w.zn=[]):
  th 139 [] [Cw w,Cm m] (.fy [Cw {w with zn:=w.zn++[⟨m.version,m.zr,false⟩]},Cm {m with done:=true,answer:=om m},Ce {fI m 2 11 m.version with done:=true,answer:=om m}]) []:=by
 refine ab func139 ?_;refine zah ?_
 refine zcs ?_
 refine td ?_
 refine af (F9 w m ok) ?_;refine⟨λh=>absurd ((hla).symm.trans h:false=true) aj,λ_=>dd ?_⟩;refine td ?_
 refine af (PL w sw hx) ?_;refine zah ?_
 refine .inr ⟨.inl V,aj,aj,dd ?_⟩;refine ae [1] (CT m 2 11 m.version) ?_;refine zb2 ?_
 refine .inl ⟨⟨false,[0,1,2],[1,5,7],[]⟩,ak,uH ?_⟩;refine tc ?_
 rw[hx];exact⟨.inl V,_,zl.zN 2 0 7 V V V V (.inr V) ah ah (shut_map (enc:=qk) (λ_=>V) [(⟨m.version,m.zr,false⟩:fK)]) (zB V),rfl⟩
end Go.Wor
namespace Go.Ab
variable{t args:List C}{H:zq}{R:C->zq->Prop}{w:World}{E:Env}{a:Act}{f:FuncId}{fn:Func}{c:Code}
section
variable {P:Program}
def NO{o:Oper}(h:jC P o (ev t) H R)(q:Option Nat){K:Act->World->Prop}{Q:Exit->Act->World->Prop}
 (hh:qx w E H)(hl:LL E t a.tmps.toList)
 (hk:∀c H' w' E' a',R c H'->qx w' E' H'->LL E' (put t o.dst c) a'.tmps.toList->a'.defers=a.defers->Grow w E H w' E' H'->K a' w'):o.wpIn (fw q) 0 P a w K Q:=by
 have:=h w E a.eval hh (λx _=>DM hl x) (λ_=>V) (λv w'=>K (a.put o.dst v) w') λc H' v w' E' hR h1 h2 g=>
  hk c H' w' E' _ hR h1 (ER (hl.mono g.le) h2 o.dst) (by cases o.dst <;> rfl) g
 have iv:∀d,o.op≠.defer d:=λd hd=>by
  have h2:=this;unfold execOp at h2;simp only[hd,Sem.run_bind]at h2;cases hr:(resolve a.eval d o.type).run P w with
  |ok x w1=>simp[hr,Result.andThen,nr]at h2
  |halt x w1=>simp[hr,Result.andThen,nr]at h2
 unfold Oper.wpIn;refine⟨λ_ _=>trivial,?_⟩;rw[Oper.semAt_eq _ _ _ iv];generalize (execOp a.eval o).run P w=r at this|-;unfold nr at this;split at this
 .exact gI
 .exact gI
 .rw[Oper.uponIn_enter];refine⟨λh=>(by cases h),callsIn_wide.2 (Calls.mono this ?_)⟩;rintro e w' ⟨v,rfl,hv⟩;exact hv
 .rw[Oper.uponIn_round];refine⟨λh=>(by cases h),RoundIn.mono (F:=fw q) this ?_⟩;rintro e w' ⟨v,rfl,hv⟩;exact hv
 .exact this.elim
def Fq{ops:Array Oper}{rest:List Oper}:∀{l:List Oper} {t:List C} {H:zq} {K:List C->zq->Prop},nD P ops l t H K->∀(q:Option Nat) {w:World} {E:Env} {a:Act} {Q:Exit->Act->World->Prop},qx w E H->LL E t a.tmps.toList->
  (∀t' H' w' E' a',K t' H'->qx w' E' H'->LL E' t' a'.tmps.toList->a'.defers=a.defers->Grow w E H w' E' H'->wpListIn (fw q) 0 P ops Q rest a' w')->wpListIn (fw q) 0 P ops Q (l++rest) a w
 |[],t,H,K,h,q,w,E,a,Q,hh,hl,hk=>hk t H w E a h hh hl V (Grow.refl w E H)
 |o::l,t,H,K,h,q,w,E,a,Q,hh,hl,hk=>by
  rw[K4]at h;unfold DR at h;show wpListIn (fw q) 0 P ops Q (o::(l++rest)) a w;unfold wpListIn;split at h
  .rename_i hw;rw[pD (jN hl hw)];refine NO (GC h) q hh hl λc H' w' E' a' hR h1 h2 h3 g=>?_
   exact Fq (jH (k:=λt=>nD P ops l t H' K) hR) q h1 h2 λt2 H2 w2 E2 a2 hK h4 h5 h6 g2=>hk t2 H2 w2 E2 a2 hK h4 h5 (h6.trans h3) (g.trans g2)
  .rename_i hw;rw[pA (by rw[jN hl hw];decide)];refine⟨λ_ _=>trivial,?_⟩;exact Fq (jH (k:=λt=>nD P ops l t H K) h) q (a:=a.put o.dst undef) hh (ER hl (.un) o.dst) λt2 H2 w2 E2 a2 hK h4 h5 h6 g2=>hk t2 H2 w2 E2 a2 hK h4 h5 (h6.trans (by cases o.dst <;> rfl)) g2
  .exact dA
def Fk:List (Nat×Array Oper)->Code
 |[]=>.ret
 |r::l=>.seq (.region r.1 r.2 false) (Fk l)
def MK:Code->List (Nat×Array Oper)
 |.seq (.region i ops false) y=>(i,ops)::MK y
 |_=>[]
def HF(P:Program)(l:List (Nat×Array Oper)):List C->zq->(List C->zq->Prop)->Prop:=
 List.rec (motive:=λ_=>List C->zq->(List C->zq->Prop)->Prop) (λt H K=>K t H) (λr _ next t H K=>nD P r.2 r.2.toList t H λt H=>next t H K) l
def ME:∀{l:List (Nat×Array Oper)} {t:List C} {H:zq} {K:List C->zq->Prop},HF P l t H K->∀{w:World} {E:Env} {a:Act} {Q:Exit->Act->World->Prop},qx w E H->LL E t a.tmps.toList->
  (∀t' H' w' E' a',K t' H'->qx w' E' H'->LL E' t' a'.tmps.toList->a'.defers=a.defers->Grow w E H w' E' H'->Q .ret a' w')->(Fk l).wpIn (fw none) 0 P Q a w
 |[],t,H,K,h,w,E,a,Q,hh,hl,hk=>wpIn_ret (hk t H w E a h hh hl V (Grow.refl w E H))
 |r::l,t,H,K,h,w,E,a,Q,hh,hl,hk=>by
  have h:nD P r.2 r.2.toList t H λt H=>HF P l t H K:=h
  refine wpIn_seq (wpIn_region_list ?_);have:=Fq (rest:=[]) h none (Q:=Exit.then ((Fk l).wpIn (fw none) 0 P Q) Q) hh hl λt2 H2 w2 E2 a2 hK h1 h2 h3 g=>wpListIn_nil (ME hK h1 h2 λt3 H3 w3 E3 a3 hK3 h4 h5 h6 g2=>hk t3 H3 w3 E3 a3 hK3 h4 h5 (h6.trans h3) (g.trans g2))
  rwa [sY]at this
def JZ{m:Nat}:∀{ds:List Deferred} {w:World} {fr:Frame} {cs:List Frame},Marks m w ds->fr.mode≠.run->fr.defers=ds->(fw none).room (cs.length+1+0)->
  ∃w',StepsIn (Machine.fenced P (fw none)) P (lone fr cs w) (lone {fr with defers:=[]} cs w')/\w'.os=w.os/\w'.tape=w.tape/\w'.output=w.output/\w'.heap.size=w.heap.size/\(∀k:Nat,k<m->w'.heap[k]?=w.heap[k]?)/\
   ∀(k:Nat) (o:Obj),w.heap[k]?=some o->(∀ds,o≠.deferred ds)->w'.heap[k]?=w.heap[k]?
 |[],w,fr,cs,_,hm,hd,hroom=>⟨w,by
   have:({fr with defers:=[]}:Frame)=fr:=by cases fr;cases hd;rfl
   rw[this];exact StepsIn.refl _,rfl,rfl,rfl,rfl,λ_ _=>V,λ_ _ _ _=>V⟩
 |d::ds,w,fr,cs,⟨⟨D,h1,h2,h3,h4⟩,ht⟩,hm,hd,hroom=>by
  have htar:d.target=.collected D:=by rw[h1]
  have hs:=step_collected (P:=P) (cs:=cs) hm hd htar (run_takeDeferred h3);have i1:(lone fr cs w).fenced P (fw none):=fenced_out (n:=0) trivial hroom hm hd (λg hg=>by rw[htar]at hg;simp[Target.leads]at hg);obtain⟨w',s1,a1,a2,a3,a4,a5,a6⟩:=JZ (fr:={fr with defers:=[]++ds}) (cs:=cs) (Marks.mono (w':=w.putObj D (.deferred none)) ah ht λD' hm hd=>World.putObj_heap_other (by rintro rfl;exact h4 hm)) hm V hroom;refine⟨w',.head i1 hs s1,a1,a2,a3,a4.trans World.putObj_size,λk hk=>(a5 k hk).trans (World.putObj_heap_other an),λk o hc hd=>?_⟩;have hne:k≠D:=by rintro rfl;rw[h3]at hc;cases hc;exact hd _ V
  have e:=World.putObj_heap_other (w:=w) (o:=.deferred none) hne;exact(a6 k o (e.trans hc) hd).trans e
def Bt(P:Program)(f:FuncId)(H:zq)(args:List C)(H':zq):Prop:=
 ∀(u:FrameMode) (w:World) (E:Env) (vs:Array Value),qx w E H->LL E args vs.toList->
  CallsDIn (fw none) 0 P f vs u w λe u' w'=>u'=u/\∃v E',e=.returned v/\qx w' E' H'/\Grow w E H w' E' H'
def Bt.kQ{H':zq}(hf:P.funcs[f]?=some fn)(hb:fn.body=some c)
 (hr:qX P H.length c ⟨entry fn args,H⟩ λex s1=>(ex=.ret\/ex=.normal)/\∃s2 r,zl H.length s1 s2/\kg P fn s2=some r/\s2.H=H'):Bt P f H args H':=λu w E vs hh hl=>by
 have hrun:=hr none w.heap.size w E {tmps:=vs++Array.replicate (fn.ntmps-vs.size) undef,defers:=[]} (λex a1 w1=>(ex=.ret\/ex=.normal)/\∃E' s2 r,kg P fn s2=some r/\s2.H=H'/\xM H.length w.heap.size w1 E' s2 a1/\jA H.length w E H w1 E' s2.H) (λ_=>V) ⟨hh,Gt hl,pN _,pN _⟩ λex s1 w' E1 a' hR hs1 g1=>by
  obtain⟨hex,s',r,hw,hres,e⟩:=hR;obtain⟨E',hs,g2⟩:=hw _ w' E1 a' hs1;exact⟨hex,E',s',r,hres,e,hs,g1.trans g2⟩
 refine⟨trivial,λc₀ cs hu hroom=>?_⟩
 let b:Frame:={(default:Frame) with fn:=f,kind:=.deferred,roundOf:=none}
 have henter:Frame.enter P f vs .deferred=b.atR {tmps:=vs++Array.replicate (fn.ntmps-vs.size) undef,defers:=[]} [.code c]:=by
  simp[Frame.enter,Frame.atR,hf,hb,b]
 have hc:({c₀ with mode:=u}:Frame)=c₀:=by subst hu;rfl
 obtain⟨e,a',w',⟨hex,E',s2,r,hres,rfl,hs,g⟩,harr⟩:=hrun b [] (c₀::cs) V trivial hroom;rw[<-henter]at harr
 have out:∀(fr:Frame),fr.mode=.returning->fr.defers=a'.defers->fr.tmps=a'.tmps->fr.kind=.deferred->fr.fn=f->StepsIn (Machine.fenced P (fw none)) P (lone (Frame.enter P f vs .deferred) (c₀::cs) w) (lone fr (c₀::cs) w')->
   ∃e u' w' fr,(u'=u/\∃v E',e=.returned v/\qx w' E' s2.H/\Grow w E H w' E' s2.H)/\ComesIn (Machine.fenced P (fw none)) P (lone (Frame.enter P f vs .deferred) (c₀::cs) w) (lone fr ({c₀ with mode:=u'}::cs) w') e/\fr.kind=.deferred/\fr.fn=f/\fr.going P w' e:=λfr h1 h2 h3 h4 h5 hst=>by
  obtain⟨w2,st,a1,a2,a3,a4,a5,a6⟩:=JZ (P:=P) (cs:=c₀::cs) hs.defers (by rw[h1];simp) h2 hroom;have hs2:xM H.length w.heap.size w2 E' s2 {a' with defers:=[]}:=⟨hs.heap.cells a6,hs.tmps,bf,hs.base⟩;obtain⟨v,hv,_⟩:=Gz hs2 hres
  have hg:Grow w E H w2 E' s2.H:=⟨⟨bh,λid hops hi=>g.le.β id hops tE,λid hops hi=>g.le.κ id hops tE,g.le.St,λid k u hi=>g.le.G id k u tE⟩,
   a1.trans g.os,a2.trans g.tape,a3.trans g.output,by rw[a4];exact g.size,λk hk ho=>(a5 k hk).trans (g.frame k hk ho),g.jB,g.own⟩
  exact⟨.returned v,u,w2,{fr with defers:=[]},⟨rfl,v,E',rfl,hs2.heap,hg⟩,by rw[hc];exact StepsIn.trans hst st,h4,h5,h1,rfl,fn,by show P.funcs[fr.fn]?=_;rw[h5];exact hf,by show(results fn fr.tmps).run P w2=_;rw[h3];exact hv⟩
 rcases hex with rfl|rfl
 .obtain⟨todo,h0⟩:=harr.1 V;exact out _ V V V V V h0
 .exact out _ V V V V V (StepsIn.trans harr (.one (fenced_calm (n:=0) (fr:=b.atR a' []) trivial hroom V) (stepR_end V)))
def Fin(P:Program)(fn:Func)(w0:World)(E0:Env)(H:zq)(R:C->zq->Prop):Exit->Act->World->Prop:=
 bodyPostM (fw none) 0 P fn λe w'=>∃r H' v E',R r H'/\e=.returned v/\qx w' E' H'/\L E' r v/\Grow w0 E0 H w' E' H'
def nY(P:Program)(fn:Func)(H:zq)(c:Code)(s:S)(R:C->zq->Prop):Prop:=
 ∀(w0:World) (E0:Env) (w:World) (E:Env) (a:Act),qx w0 E0 H->xM H.length w0.heap.size w E s a->jA H.length w0 E0 H w E s.H->c.wpIn (fw none) 0 P (Fin P fn w0 E0 H R) a w
def Dz(P:Program)(fn:Func)(H:zq)(R:C->zq->Prop)(s1:S):Prop:=∃s2 r,zl H.length s1 s2/\kg P fn s2=some r/\R r s2.H
def G5{w0:World}{E0:Env}{s1:S}(hh:qx w0 E0 H)(hs:xM H.length w0.heap.size w E s1 a)(hg:jA H.length w0 E0 H w E s1.H)(h:Dz P fn H R s1):
  LeavesInM (fw none) 0 P fn a.tmps (λe w'=>∃r H' v E',R r H'/\e=.returned v/\qx w' E' H'/\L E' r v/\Grow w0 E0 H w' E' H') a.defers .returning w:=by
 obtain⟨s',r,hw,hres,hRr⟩:=h;obtain⟨E',hs,g2⟩:=hw _ w E a hs;have g:=hg.trans g2;refine leaves hs.defers λw2 a1 a2 a3 a4 a5 a6=>?_
 have hs2:xM H.length w0.heap.size w2 E' s' {a with defers:=[]}:=⟨hs.heap.cells a6,hs.tmps,bf,hs.base⟩;obtain⟨v,h1,h2⟩:=Gz hs2 hres
 have hg:Grow w0 E0 H w2 E' s'.H:=⟨⟨bh,λid hops hi=>g.le.β id hops tE,λid hops hi=>g.le.κ id hops tE,g.le.St,λid k u hi=>g.le.G id k u tE⟩,
  a1.trans g.os,a2.trans g.tape,a3.trans g.output,by rw[a4];exact g.size,λk hk ho=>(a5 k hk).trans (g.frame k hk ho),g.jB,g.own⟩
 exact⟨v,h1,r,s'.H,v,E',hRr,rfl,hs2.heap,h2,hg⟩
def nY.kQ{s:S}(h:qX P H.length c s λex s1=>(ex=.ret\/ex=.normal)/\Dz P fn H R s1):nY P fn H c s R:=λw0 E0 w E a hh hs hg=>
 h none w0.heap.size w E a _ (λ_=>V) hs λex s1 w' E1 a' ⟨hex,hl⟩ hs1 g1=>by
  have:=G5 hh hs1 (hg.trans g1) hl;rcases hex with rfl|rfl <;> exact gI
def nY.seq{fn:Func}{H:zq}{x y:Code}{s:S}{R:C->zq->Prop}(h:qX P H.length x s λex s1=>(ex=.normal/\∃s2,zl H.length s1 s2/\nY P fn H y s2 R)\/(ex=.ret/\Dz P fn H R s1)):nY P fn H (.seq x y) s R:=λw0 E0 w E a hh hs hg=>
 wpIn_seq (h none w0.heap.size w E a _ (λ_=>V) hs λex s1 w' E1 a' hR hs1 g1=>by
  rcases hR with⟨rfl,s2,hw,hy⟩|⟨rfl,hl⟩
  .obtain⟨E2,hs2,g2⟩:=hw _ w' E1 a' hs1;exact hy w0 E0 w' E2 a' hh hs2 ((hg.trans g1).trans g2)
  .exact G5 hh hs1 (hg.trans g1) hl)
def nY.deferred{i:Nat}{oM oD:Oper}{cl:Call}{k:Tmp}{g:FuncId}{Hs:zq}{regs:List (Nat×Array Oper)}
 (hop:oD.op=.defer cl)(hcl:cl.callee=.value (.tmp k))(hca:cl.args= #[])(hgu:oD.guard=none)(hdst:oD.dst=none)(hcb:qv P g=true)
 (h:nD P #[oM,oD] [oM] t Hs λt1 H1=>∃caps,t1[k]?=some (.fn g [] caps)/\HF P regs t1 H1 λt2 H2=>∃H3,Bt P g H2 caps H3/\Dz P fn H R ⟨t2,H3⟩):
  nY P fn H (.seq (.region i #[oM,oD] false) (Fk regs)) ⟨t,Hs⟩ R:=λw0 E0 w E a hh hs hg=>by
 refine wpIn_seq (wpIn_region_list ?_);refine Fq (rest:=[oD]) h none hs.heap hs.tmps λt1 H1 w1 E1 a1 ⟨caps,hk,ht⟩ h1 h2 h3 g1=>?_
 unfold wpListIn;rw[pD (by unfold Region.wanted;rw[hgu])];obtain⟨u,hu,hL⟩:=h2.get hk;rw[rm]at hu
 obtain⟨zs,hv,h5,h6⟩:∃zs,u=.func (.func g) #[] zs/\caps.length=zs.size/\(∀(i:Nat) c y,caps[i]?=some c->zs[i]?=some y->L E1 c y):=by
  cases hL with
  |fn f first caps ys zs h1 h2 h3 h4=>exact⟨zs,by rw[show ys= #[] from r6 h1.symm],h2,h4⟩
 have hev:a1.eval (.tmp k)=.func (.func g) #[] zs:=by
  show a1.tmps.getD k undef=_;rw[rI,hu,hv]
  rfl
 have hr:(execOp a1.eval oD).run P w1=.ok (.defer {target:=.fn (.func g) zs,args:= #[]}) w1:=by
  unfold execOp;simp[hop,resolve,hcl,hca,hev,Deferred.ofValue]
 unfold Oper.wpIn;refine⟨λ_ _=>trivial,?_⟩;rw[show(fw none).round=none from V,Oper.semAt_none,hr,Oper.uponIn_defer,hdst];refine wpListIn_nil (ME ht h1 h2 λt2 H2 w2 E2 a2 ⟨H3,hD,hlv⟩ h7 h8 h9 g2=>?_);have h9:a2.defers={target:=.fn (.func g) zs,args:= #[]}::a.defers:=h9.trans (by show _::a1.defers=_;rw[h3]);have gB:jA H.length w0 E0 H w2 E2 H2:=hg.trans ((g1.trans g2).iW tA);have hM:Marks w0.heap.size w2 a.defers:=hs.defers.grow hs.heap (g1.trans g2);show LeavesInM (fw none) 0 P fn a2.tmps _ a2.defers .returning w2;rw[h9];refine⟨ah,.inr ⟨λh=>(by cases h),.func g,zs,g,zs,rfl,?_,λ_ _=>trivial,?_⟩⟩
 .unfold qv at hcb;split at hcb
  rotate_left
  .cases hcb
  rename_i fng hfn;simp only[pJ,rE]at hcb;have hname : fng.name ≠ "runtime.NumGoroutine" := by simpa using hcb.1
  have hbody:fng.body≠none:=bo
  simp[invoke,callFunc,hfn,hname,hbody]
 have e2:LL E2 caps zs.toList:=⟨ai h5,λi c y e1 e2=>(h6 i c y e1 uX).mono g2.le⟩;refine(hD .returning w2 E2 zs h7 e2).mono ?_;rintro e u' w3 ⟨rfl,v,E3,rfl,h10,g3⟩;have hb:H.length<=H2.length:=by have:=hs.base;have:=(g1.trans g2).le.n;rw[hs.heap.n,h7.n]at this;omega
 have hs3:xM H.length w0.heap.size w3 E3 ⟨t2,H3⟩ {a2 with defers:=a.defers}:=⟨h10,h8.mono g3.le,hM.grow h7 g3,by have:=g3.le.n;rw[h7.n,h10.n]at this;exact rR hb this⟩;exact G5 hh hs3 (gB.trans (g3.iW (by rw[h7.n];exact hb))) hlv
def qC.W8(hf:P.funcs[f]?=some fn)(hb:fn.body=some c)(h:nY P fn H c ⟨entry fn args,H⟩ R):qC P f H args R:=λw E vs hh hl=>
 (callsIn_wide (n:=0)).1 (callsIn_of_wp_marks hf hb trivial (h w E w E _ hh ⟨hh,Gt hl,pN _,pN _⟩ (jA.refl H.length w E H)))
def Bt.zX{H':zq}(hf:P.funcs[f]?=some fn)(hb:fn.body=some c)
 (h:wpA P H.length c (entry fn args) H λex t1 H1=>(ex=.ret\/ex=.normal)/\∃s2 r,zl H.length ⟨t1,H1⟩ s2/\kg P fn s2=some r/\s2.H=H'):Bt P f H args H':=
 .kQ hf hb ((jh h).mono λex s1 h1=>h1)
def nY.Ie{Hs:zq}{x y:Code}(h:wpA P H.length x t Hs λex t1 H1=>(ex=.normal/\∃t2 H2,zl H.length ⟨t1,H1⟩ ⟨t2,H2⟩/\nY P fn H y ⟨t2,H2⟩ R)\/(ex=.ret/\Dz P fn H R ⟨t1,H1⟩)):nY P fn H (.seq x y) ⟨t,Hs⟩ R:=
 .seq ((jh h).mono λex s1 h1=>h1.imp (λ⟨e,t2,H2,hw,hr⟩=>⟨e,_,hw,hr⟩) id)
end
def oz(H:zq)(id:Nat):zq:=H.modify id λ_=>⟨0,0,0,[],0⟩
def wv(H:zq)(id j:Nat):(oz H id)[j]?=(H[j]?).map λob=>if id=j then ⟨0,0,0,[],0⟩ else ob:=by
 unfold oz;rw[r5]
 rfl
def wK{id:Nat}{id':Nat}{p:List fY}{x:Nat×List (List C)}(h:qe (oz H id) id' p=some x):id'≠id/\qe H id' p=some x:=by
 obtain⟨ob,ho,hk,hg⟩:=qU h;rw[wv]at ho;cases hx:H[id']? with
 |none=>rw[hx]at ho;cases ho
 |some ob0=>
  rw[hx]at ho;simp only[pL,rh]at ho;by_cases hid:id=id'
  .subst hid;simp at ho;subst ho;simp at hk
  .rw[pA hid]at ho;subst ho;refine⟨Ne.symm hid,?_⟩;unfold qe;rw[hx];simp only[hk,if_true];exact hg
def qa.gone(h:qa w E H)(id:Nat):qa w E (oz H id) where
 n:=by rw[h.n];simp[oz]
 fH id' ob p sz rows hob hx:=by
  obtain⟨h1,h2⟩:=wK hx;rw[wv]at hob;cases hx':H[id']? with
  |none=>rw[hx']at hob;cases hob
  |some ob0=>
   rw[hx']at hob;simp only[pL,rh,pA (Ne.symm h1)]at hob;subst hob;exact h.fH id' _ p sz rows hx' h2
 inj id1 p1 id2 p2 x y hx hy he:=h.inj id1 p1 id2 p2 x y (wK hx).2 (wK hy).2 he
 qp:=h.qp
 sep id' p x o u hx hu:=by
  obtain⟨h1,h2⟩:=wK hx;obtain⟨e1,ob,e2,e3⟩:=h.sep id' p x o u h2 hu;refine⟨e1,ob,?_,e3⟩;rw[wv,e2];simp[Ne.symm h1]
 ty id' ob hob hk:=by
  rw[wv]at hob;cases hx':H[id']? with
  |none=>rw[hx']at hob;cases hob
  |some ob0=>
   rw[hx']at hob;simp only[pL,rh]at hob;by_cases hid:id=id'
   .rw[pD hid]at hob;subst hob;simp at hk
   .rw[pA hid]at hob;subst hob;exact h.ty id' _ hx' hk
 fz id' ob hob:=by
  rw[wv]at hob;cases hx':H[id']? with
  |none=>rw[hx']at hob;cases hob
  |some ob0=>
   rw[hx']at hob;simp only[pL,rh]at hob;have h0:=h.fz id' ob0 hx';subst hob;split
   .simp
   .exact h0
def ka{id i:Nat}{ob:Ob}(h:(oz H id)[i]?=some ob)(hk:ob.kind=4):H[i]?=some ob:=by
 rw[wv]at h;cases hx:H[i]? with
 |none=>rw[hx]at h;cases h
 |some o=>
  rw[hx]at h;simp only[pL,rh]at h;split at h
  .subst h;cases hk
  .rw[h]
def zl.gone{B:Nat}{s:S}(id:Nat):zl B s ⟨s.tmps,oz s.H id⟩:=λm w E a hs=>by
 have hg:∀{i b},qG E (oz s.H id) i b->qG E s.H i b:=λ⟨ob,cap,h1,h2,h3,h4⟩=>⟨ob,cap,ka h1 h2,h2,h3,h4⟩
 have hr:∀{i b},jz (oz s.H id) i b->jz s.H i b:=λ⟨ob,o,t,h1,h2,h3,h4⟩=>⟨ob,o,t,ka h1 h2,h2,h3,h4⟩
 have h0:∀{b},q6 E (oz s.H id) b->q6 E s.H b:=λ⟨i,p,x,h1,h2⟩=>⟨i,p,x,(wK h1).2,h2⟩
 refine⟨E,⟨⟨hs.heap.base.gone id,?_⟩,hs.tmps,hs.defers,by have:=hs.base;simp[oz];omega⟩,⟨Env.ou.refl B E,rfl,rfl,rfl,pN _,λ_ _ _=>V,λ_ _ _ h=>.inl h,?_⟩⟩
 .exact {
   val:=λi ob h1 h2=>hs.heap.fA.val i ob (ka h1 h2) h2
   fH:=λi b ob h1 h2=>hs.heap.fA.fH i b ob (hg h1) (by obtain⟨ob2,_,h3,h4,_⟩:=h1;rw[h2]at h3;cases h3;exact ka h2 h4)
   sep:=λi b h1 h2=>hs.heap.fA.sep i b (hg h1) (h0 h2)
   inj:=λi j b h1 h2=>hs.heap.fA.inj i j b (hg h1) (hg h2)
   st:=λi b ob o u h1 h2 h3=>hs.heap.fA.st i b ob o u (hg h1) (by obtain⟨ob2,_,h4,h5,_⟩:=h1;rw[h2]at h4;cases h4;exact ka h2 h5) h3
   top:=λi ob k u h1 h2 h3=>hs.heap.fA.top i ob k u (ka h1 h2) h2 h3
   iK:=λi ob o t h1 h2 h3=>hs.heap.fA.iK i ob o t (ka h1 h2) h2 h3
   wZ:=λi j b h1 h2=>hs.heap.fA.wZ i j b (hr h1) (hr h2)}
 .rintro b (hb|⟨i,hb|hb⟩)
  .exact .inr (.inl (h0 hb))
  .exact .inr (.inr ⟨i,.inl (hg hb)⟩)
  .exact .inr (.inr ⟨i,.inr (hr hb)⟩)
def qC.Yd{P:Program}{H2:zq}{r:C}(hle:H.length<=H2.length)(h1:qC P f H args λr1 H1=>zl H.length ⟨[r1],H1⟩ ⟨[r],H2⟩):zb P f H args r H2:=λw E vs hh hl0=>by
 refine(h1 w E vs hh hl0).mono ?_;rintro e w' ⟨r1,H1,v,E',hw,h0,h2,h3,g⟩;have hHH:H.length<=H1.length:=bR
 obtain⟨E2,hs,g2⟩:=hw 0 w' E' ⟨#[v],[]⟩ ⟨h2,LL.one h3,pW _,hHH⟩;have hn2:=hs.heap.n;refine⟨v,E2,h0,hs.heap,hs.tmps.cons_inv.1,⟨⟨by rw[hh.n,hn2];exact hle,λid hops hi=>?_,λid hops hi=>?_,λb o u hu=>g2.le.St _ _ _ (g.le.St _ _ _ hu),λid k u hi hu=>?_⟩,g2.os.trans g.os,g2.tape.trans g.tape,g2.output.trans g.output,rR g.size g2.size,?_,?_,?_⟩⟩
 .rw[hh.n]at hi;exact(g2.le.β id hops hi).trans (g.le.β id hops mC)
 .rw[hh.n]at hi;exact(g2.le.κ id hops hi).trans (g.le.κ id hops mC)
 .rw[hh.n]at hi;exact g2.le.G id k u hi (g.le.G id k u mC hu)
 .intro k hk ho;exact dE
 .intro b o u hu;rcases g2.jB b o u hu with h1|h1|h1
  .exact g.jB b o u h1
  .exact gV
  .rcases g.own b h1 with h4|h4
   .exact .inr (.inl h4)
   .exact .inr (.inr h4)
 .intro b hb;rcases g2.own b hb with h1|h1
  .exact pj
  .exact g.own b h1
end Go.Ab
namespace Go.Wor
open Go.Ab Go.Proofs Tryz Go.Hy Go.Gat Go.Nam Go.Hos Go.Con Go.Sna
def vu{c:fZ}(h:qQ c):y6 (qB c).1:=by
 unfold qB;split
 .exact⟨ah,ah,ah⟩
 .refine⟨h.zc,⟨ai h.zK.1,λr hr=>?_⟩,h.zj⟩;simp only[rp]at hr;obtain⟨q,hq,rfl⟩:=hr;exact⟨(h.zK.2 q hq).2.1,(h.zK.2 q hq).2.2.1⟩
def nt(c:fZ):Int:=if (qB c).2.1≠0 then (qB c).2.1 else (qf (qB c).1).2
def nu(c:fZ):fC:=(qf (qB c).1).1
def XX(l:List fC):((l.map zt).all λx=>x.all zF)=true:=by
 rw[pG];intro r hr;obtain⟨x,_,rfl⟩:=rp.1 hr
 rfl
abbrev BR(m:fx)(was now:Int):fx:={m with version:=was,zp:=0,end_:=0,other:=0,slot:=0,i:=now,pc:=1}
def Pk(w:Wor)(v:fC)(hn:w.zd.length<1000000000):th 178 [⟨1,38,8,[[I w.zr,I w.current,I w.lock,lI w.pins,.sl 1 [] 5 0 (w.zd.length) false,lL w.zc,fJ w.counts,lR w.zn]],0⟩,⟨2,106,5,(w.zd).map zt,0⟩] [Cv v,.ref 0 [] 8 0 0] (.fy [I w.current,I w.zd.length]) [⟨1,38,8,[[I w.zr,I w.zd.length,I w.lock,lI w.pins,.sl 2 [] 5 0 ((w.zd.length+1)) false,lL w.zc,fJ w.counts,lR w.zn]],0⟩,⟨0,0,0,[],0⟩,⟨2,106,5,(w.zd++[v]).map zt,0⟩]:=by
 have hap:(Ob.mk 2 106 5 (w.zd.map zt) 0).rows++[zt v]=(w.zd++[v]).map zt:=aN
 refine z8 (fn:=f178) func178 V ah (uH ?_);refine uE ?_;refine⟨ah,XX _,aq,by show _*104<=_;simp;omega,dd ?_⟩;refine⟨.inl V,_,_,zl.gone 1,rfl,?_⟩;rw[<-hap];exact zl.fD [0,1,3] [0] _ _ V V V V
def QG(w:Wor)(m:fx)(c:Int)(hc:qQ m.op.config)(he:nt m.op.config=0)(hn:w.zd.length<1000000000):
  th 177 [oM m,⟨1,38,8,[[I w.zr,I w.current,I w.lock,lI w.pins,.sl 2 [] 5 0 (w.zd.length) false,lL w.zc,fJ w.counts,lR w.zn]],0⟩,⟨2,106,5,(w.zd).map zt,0⟩] [.ref 0 [] 44 0 0,.fn 178 [] [.ref 1 [] 8 0 0],I c] (Ce {fI m 6 3 w.zd.length with jo:=true}) [oM (BR m w.current w.zd.length),⟨1,38,8,[[I w.zr,I w.zd.length,I w.lock,lI w.pins,.sl 3 [] 5 0 ((w.zd.length+1)) false,lL w.zc,fJ w.counts,lR w.zn]],0⟩,⟨0,0,0,[],0⟩,⟨2,106,5,(w.zd++[nu m.op.config]).map zt,0⟩]:=by
 have hb:=FK m.op.config hc.k;have hl:=JK _ (vu hc)
 have h1:(qB m.op.config).2.1=0:=by
  unfold nt at he;split at he
  .contradiction
  .rename_i hx;omega
 have h2:(qf (qB m.op.config).1).2=0:=by
  unfold nt at he
  rwa [pA an]at he
 unfold nu;generalize qB m.op.config=bv at hb hl h1 h2|-;obtain⟨sn,e1,e2⟩:=bv;cases h1
 have hl:th 62 [] [Cs sn] (tV (qf sn)) []:=hl;have h2:(qf sn).2=0:=h2;show th 177 _ _ _ [_,_,_,⟨2,106,5,(w.zd++[(qf sn).1]).map zt,0⟩];generalize qf sn=cv at hl h2|-;obtain⟨v,e3⟩:=cv;cases h2
 have hb:th 25 [] [Cf m.op.config] (.fy [Cs sn,I 0,I e2]) []:=hb;have hl:th 62 [] [Cs sn] (.fy [Cv v,I 0]) []:=hl;refine z8 (fn:=f177) func177 V ah (uH ?_);refine af hb ?_;(refine ya (dd ?_))
 refine af hl ?_;(refine ya (dd ?_))
 refine ae [1,2] (Pk w v hn) ?_;refine .inl ⟨⟨false,[0,1,2,3,4,5,6],[3],[]⟩,ak,uH ?_⟩;refine tc ?_
 refine ae [0] (CT (BR m w.current w.zd.length) 6 3 w.zd.length) ?_;exact⟨.inl V,_,_,.refl _,rfl,zl.fD [0,1,2,8] [0] _ _ V V V V⟩
abbrev oy(f:Int):fM:=⟨9,0,0,0,0,0,f,⟨0,0,0,0,0,0⟩⟩
def RZ(m:fx)(e:fF)(f:Int):Bt prog 233 [oM m,⟨1,227,1,[[.ref 0 [] 44 0 0]],0⟩,oE e,⟨1,86,3,[qV ⟨[],[],[]⟩],0⟩,⟨1,39,1,[[I f]],0⟩] [.ref 1 [] 1 0 0,.ref 2 [] 23 0 0,.ref 4 [] 1 0 0] [oM ({m with done:=true,answer:=oy f}),⟨1,227,1,[[.ref 0 [] 44 0 0]],0⟩,oE ({e with done:=true,answer:=oy f}),⟨1,86,3,[qV ⟨[],[],[]⟩],0⟩,⟨1,39,1,[[I f]],0⟩]:=by
 refine Bt.zX (fn:=f233) func233 V (uH ?_);exact⟨.inr V,_,_,.refl _,rfl,rfl⟩
def OG(m:fx)(c f:Int)(hc:yp m.op.config)(hf:(qB m.op.config).2.1=f)(h0:f≠0):
  th 177 [oM m] [.ref 0 [] 44 0 0,.fn 178 [] [.za],I c] (Ce {fI m 1 3 c with jo:=true,done:=true,answer:=oy f}) [oM ({m with done:=true,answer:=oy f})]:=by
 have hb:=FK m.op.config hc
 have h2:(qB m.op.config).1=⟨[],[],[]⟩:=by
  unfold qB at hf|-;split
  .rfl
  .rename_i h;rw[pA h]at hf;exact absurd hf.symm h0
 generalize qB m.op.config=bv at hb hf h2;obtain⟨sn,e1,e2⟩:=bv;cases hf
 cases h2
 have hb:th 25 [] [Cf m.op.config] (.fy [Cs ⟨[],[],[]⟩,I e1,I e2]) []:=hb;refine qC.Yd (pN _) (qC.W8 (fn:=f177) func177 V (.Ie ?_));conv=>whnf
 refine .inl ⟨rfl,_,_,.refl _,.Ie (uH ?_)⟩;refine af hb ?_;refine .inl ⟨rfl,_,_,.refl _,.Ie (uH ?_)⟩;refine⟨λh=>absurd h (ai h0),λ_=>dd ?_⟩;refine .inl ⟨rfl,_,_,.refl _,?_⟩;refine nY.deferred (g:=233) (regs:=MK (behind 4 ((f177.body).getD .skip))) V V V V V V (uH ?_);refine⟨_,rfl,uH ?_⟩;refine ae [0] (CT m 1 3 c) ?_;refine⟨_,RZ m {fI m 1 3 c with jo:=true} e1,?_⟩;exact⟨_,_,.refl _,rfl,cE 1⟩
def PN(w:Wor)(h:z6 w):th 173 [] [Cw w] (.agg (ir w 0)) [⟨2,106,5,(w.zd).map zt,0⟩]:=by
 refine zbv ?_;refine zaL ?_;refine af (BY w.zn h.zn) ?_;refine zb3 ?_;exact zl.fD [3] [0] _ _ V V V (ze V (ze V (ze V (ze V (ze (zf λr hr c hc=>((shut_map (enc:=zA) (λ_=>V) w.counts) r hr c hc).2) V)))))
def QV(w:Wor)(m:fx)(sw:z6 w)(ok:fG w)(hl:i64 m.listen)(hpc:m.pc=0)(hs:zG w m=true)(hc:qQ m.op.config)(he:nt m.op.config=0):
  th 139 [] [Cw w,Cm m] (.fy [Cw {w with current:=w.zd.length,zd:=w.zd++[nu m.op.config]},Cm (BR m w.current w.zd.length),Ce {fI m 6 3 w.zd.length with jo:=true}]) []:=by
 refine ab func139 ?_;refine zah ?_
 refine zcs ?_
 refine td ?_
 refine ae [] (PN w sw) ?_;refine zah ?_
 refine ae [1,6,5] (QG w m w.current hc he sw.zd.1) ?_;refine .inl ⟨⟨false,[0,1,2],[6,1,8],[]⟩,ak,uH ?_⟩;refine tc ?_
 exact⟨.inl V,_,zl.zN 2 0 4 V V V V (.inr V) ah ah (shut_map (enc:=zt) (λ_=>V) _) (zB V),rfl⟩
def O9(w:Wor)(m:fx)(f:Int)(sw:z6 w)(ok:fG w)(hl:i64 m.listen)(hpc:m.pc=0)(hs:zG w m=true)(hc:yp m.op.config)(hf:(qB m.op.config).2.1=f)(h0:f≠0):
  th 139 [] [Cw w,Cm m] (.fy [Cw w,Cm {m with done:=true,answer:=oy f},Ce {fI m 1 3 w.current with jo:=true,done:=true,answer:=oy f}]) []:=by
 refine ab func139 ?_;refine zah ?_
 refine zcs ?_
 refine td ?_
 refine af (qz w sw) ?_;refine zah ?_
 refine ae [1] (OG m w.current f hc hf h0) ?_;refine zbw ?_
 exact uI
end Go.Wor
