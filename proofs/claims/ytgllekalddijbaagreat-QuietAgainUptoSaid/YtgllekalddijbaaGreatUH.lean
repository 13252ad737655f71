import Derived.RangeFuncLeaves
import Derived.Test.YtgllekalddijbaaGreatUW
import Derived.Test.YtgllekalddijbaaGreatUJ
import Derived.Test.YtgllekalddijbaaGreatUV
set_option linter.unusedVariables false
set_option linter.unusedSimpArgs false
set_option linter.unusedSectionVars false
set_option maxRecDepth 100000
set_option maxHeartbeats 4000000
namespace Go.Wor
open Go.Ab Go.Proofs Go.Hy Go.Gat Go.Nam Go.Hos Go.Con Go.Sna
end Go.Wor
namespace Go.Wor
open Go.Ab Go.Proofs Go.Hy Go.Gat Go.Nam Go.Hos Go.Con Go.Sna
end Go.Wor
namespace Go.Ab
section
variable {P:Program}
theorem opD {o:Oper} {t:List C} {H:ze} {R:C->ze->Prop} (h:qp P o (ev t) H R) (q:Option Nat) {w:World} {E:Env} {a:Act} {K:Act->World->Prop} {Q:Exit->Act->World->Prop}
  (hh:zH w E H) (hl:LL E t a.tmps.toList)
  (hk:∀ c H' w' E' a',R c H'->zH w' E' H'->LL E' (put t o.dst c) a'.tmps.toList->a'.defers=a.defers->Grow w E H w' E' H'->K a' w'):o.wpIn (fw q) 0 P a w K Q:=by
 have:=h w E a.eval hh (fun x _=>zjb hl x) (fun _=>rfl) (fun v w'=>K (a.put o.dst v) w') fun c H' v w' E' hR h1 h2 g=>
  hk c H' w' E' _ hR h1 (zee (hl.mono g.le) h2 o.dst) (by cases o.dst <;> rfl) g
 have hnd:∀ d,o.op≠.defer d:=fun d hd=>by
  have h2:=this
  unfold execOp at h2
  simp only [hd,Sem.run_bind] at h2
  cases hr:(resolve a.eval d o.type).run P w with
  | ok x w1=>simp [hr,Result.andThen,upV] at h2
  | halt x w1=>simp [hr,Result.andThen,upV] at h2
 unfold Oper.wpIn
 refine ⟨fun _ _=>trivial,?_⟩
 rw [Oper.semAt_eq _ _ _ hnd]
 generalize (execOp a.eval o).run P w=r at this ⊢
 unfold upV at this
 split at this
 ·exact this
 ·exact this
 ·rw [Oper.uponIn_enter]
  refine ⟨fun h=>(by cases h),callsIn_wide.2 (Calls.mono this ?_)⟩
  rintro e w' ⟨v,rfl,hv⟩
  exact hv
 ·rw [Oper.uponIn_round]
  refine ⟨fun h=>(by cases h),RoundIn.mono (F:=fw q) this ?_⟩
  rintro e w' ⟨v,rfl,hv⟩
  exact hv
 ·exact this.elim
theorem zkD {ops:Array Oper} {rest:List Oper}:∀ {l:List Oper} {t:List C} {H:ze} {K:List C->ze->Prop},zal P ops l t H K->∀ (q:Option Nat) {w:World} {E:Env} {a:Act} {Q:Exit->Act->World->Prop},zH w E H->LL E t a.tmps.toList->
  (∀ t' H' w' E' a',K t' H'->zH w' E' H'->LL E' t' a'.tmps.toList->a'.defers=a.defers->Grow w E H w' E' H'->wpListIn (fw q) 0 P ops Q rest a' w')->wpListIn (fw q) 0 P ops Q (l++rest) a w
 | [],t,H,K,h,q,w,E,a,Q,hh,hl,hk=>hk t H w E a h hh hl rfl (Grow.refl w E H)
 | o::l,t,H,K,h,q,w,E,a,Q,hh,hl,hk=>by
  rw [zdd] at h
  unfold opK at h
  show wpListIn (fw q) 0 P ops Q (o::(l++rest)) a w
  unfold wpListIn
  split at h
  ·rename_i hw
   rw [if_pos (qq hl hw)]
   refine opD (zb5 h) q hh hl fun c H' w' E' a' hR h1 h2 h3 g=>?_
   exact zkD (qn (k:=fun t=>zal P ops l t H' K) hR) q h1 h2 fun t2 H2 w2 E2 a2 hK h4 h5 h6 g2=>hk t2 H2 w2 E2 a2 hK h4 h5 (h6.trans h3) (g.trans g2)
  ·rename_i hw
   rw [if_neg (by rw [qq hl hw];decide)]
   refine ⟨fun _ _=>trivial,?_⟩
   exact zkD (qn (k:=fun t=>zal P ops l t H K) h) q (a:=a.put o.dst undef) hh (zee hl (.un) o.dst) fun t2 H2 w2 E2 a2 hK h4 h5 h6 g2=>hk t2 H2 w2 E2 a2 hK h4 h5 (h6.trans (by cases o.dst <;> rfl)) g2
  ·exact h.elim
def zkM:List (Nat × Array Oper)->Code
 | []=>.ret
 | r::l=>.seq (.region r.1 r.2 false) (zkM l)
def zg0 (P:Program) (l:List (Nat × Array Oper)):List C->ze->(List C->ze->Prop)->Prop:=
 List.rec (motive:=fun _=>List C->ze->(List C->ze->Prop)->Prop) (fun t H K=>K t H) (fun r _ next t H K=>zal P r.2 r.2.toList t H fun t H=>next t H K) l
theorem zjY:∀ {l:List (Nat × Array Oper)} {t:List C} {H:ze} {K:List C->ze->Prop},zg0 P l t H K->∀ {w:World} {E:Env} {a:Act} {Q:Exit->Act->World->Prop},zH w E H->LL E t a.tmps.toList->
  (∀ t' H' w' E' a',K t' H'->zH w' E' H'->LL E' t' a'.tmps.toList->a'.defers=a.defers->Grow w E H w' E' H'->Q .ret a' w')->(zkM l).wpIn (fw none) 0 P Q a w
 | [],t,H,K,h,w,E,a,Q,hh,hl,hk=>wpIn_ret (hk t H w E a h hh hl rfl (Grow.refl w E H))
 | r::l,t,H,K,h,w,E,a,Q,hh,hl,hk=>by
  have h:zal P r.2 r.2.toList t H fun t H=>zg0 P l t H K:=h
  refine wpIn_seq (wpIn_region_list ?_)
  have:=zkD (rest:=[]) h none (Q:=Exit.then ((zkM l).wpIn (fw none) 0 P Q) Q) hh hl fun t2 H2 w2 E2 a2 hK h1 h2 h3 g=>wpListIn_nil (zjY hK h1 h2 fun t3 H3 w3 E3 a3 hK3 h4 h5 h6 g2=>hk t3 H3 w3 E3 a3 hK3 h4 h5 (h6.trans h3) (g.trans g2))
  rwa [List.append_nil] at this
theorem zaR {m:Nat}:∀ {ds:List Deferred} {w:World} {fr:Frame} {cs:List Frame},Marks m w ds->fr.mode≠.run->fr.defers=ds->(fw none).room (cs.length+1+0)->
  ∃ w',StepsIn (Machine.fenced P (fw none)) P (lone fr cs w) (lone { fr with defers:=[] } cs w')∧w'.os=w.os∧w'.tape=w.tape∧w'.output=w.output∧w'.heap.size=w.heap.size∧(∀ k:Nat,k < m->w'.heap[k]?= w.heap[k]?)∧
   ∀ (k:Nat) (o:Obj),w.heap[k]?= some o->(∀ ds,o≠.deferred ds)->w'.heap[k]?= w.heap[k]?
 | [],w,fr,cs,_,hm,hd,hroom=>⟨w,by have:({ fr with defers:=[] }:Frame)=fr:=by cases fr;cases hd;rfl
                                   rw [this];exact StepsIn.refl _,rfl,rfl,rfl,rfl,fun _ _=>rfl,fun _ _ _ _=>rfl⟩
 | d::ds,w,fr,cs,⟨⟨D,h1,h2,h3,h4⟩,ht⟩,hm,hd,hroom=>by
  have htar:d.target=.collected D:=by rw [h1]
  have hs:=step_collected (P:=P) (cs:=cs) hm hd htar (run_takeDeferred h3)
  have i1:(lone fr cs w).fenced P (fw none):=fenced_out (n:=0) trivial hroom hm hd (fun g hg=>by rw [htar] at hg;simp [Target.leads] at hg)
  obtain ⟨w',s1,a1,a2,a3,a4,a5,a6⟩:=zaR (fr:={ fr with defers:=[]++ds }) (cs:=cs) (Marks.mono (w':=w.putObj D (.deferred none)) (by simp) ht fun D' hm hd=>World.putObj_heap_other (by rintro rfl;exact h4 hm)) hm rfl hroom
  refine ⟨w',.head i1 hs s1,a1,a2,a3,a4.trans World.putObj_size,fun k hk=>(a5 k hk).trans (World.putObj_heap_other (by omega)),fun k o hc hd=>?_⟩
  have hne:k≠D:=by rintro rfl;rw [h3] at hc;cases hc;exact hd _ rfl
  have e:=World.putObj_heap_other (w:=w) (o:=.deferred none) hne
  exact (a6 k o (e.trans hc) hd).trans e
def zbx (P:Program) (f:FuncId) (H:ze) (args:List C) (H':ze):Prop:=
 ∀ (u:FrameMode) (w:World) (E:Env) (vs:Array Value),zH w E H->LL E args vs.toList->
  CallsDIn (fw none) 0 P f vs u w fun e u' w'=>u'=u∧∃ v E',e=.returned v∧zH w' E' H'∧Grow w E H w' E' H'
theorem zbx.x4 {f:FuncId} {fn:Func} {c:Code} {H H':ze} {args:List C} (hf:P.funcs[f]?= some fn) (hb:fn.body=some c)
  (hr:z1 P H.length c ⟨entry fn args,H⟩ fun ex s1=>(ex=.ret∨ex=.normal)∧∃ s2 r,zl H.length s1 s2∧yx P fn s2=some r∧s2.H=H'):zbx P f H args H':=fun u w E vs hh hl=>by
 have hrun:=hr none w.heap.size w E { tmps:=vs++Array.replicate (fn.ntmps - vs.size) undef,defers:=[] } (fun ex a1 w1=>(ex=.ret∨ex=.normal)∧∃ E' s2 r,yx P fn s2=some r∧s2.H=H'∧qY H.length w.heap.size w1 E' s2 a1∧qi H.length w E H w1 E' s2.H) (fun _=>rfl) ⟨hh,zeT hl,Nat.le_refl _,Nat.le_refl _⟩ fun ex s1 w' E1 a' hR hs1 g1=>by
  obtain ⟨hex,s',r,hw,hres,e⟩:=hR
  obtain ⟨E',hs,g2⟩:=hw _ w' E1 a' hs1
  exact ⟨hex,E',s',r,hres,e,hs,g1.trans g2⟩
 refine ⟨trivial,fun c₀ cs hu hroom=>?_⟩
 let b:Frame:={ (default:Frame) with fn:=f,kind:=.deferred,roundOf:=none }
 have henter:Frame.enter P f vs .deferred=b.atR { tmps:=vs++Array.replicate (fn.ntmps - vs.size) undef,defers:=[] } [.code c]:=by
  simp [Frame.enter,Frame.atR,hf,hb,b]
 have hc:({ c₀ with mode:=u }:Frame)=c₀:=by subst hu;rfl
 obtain ⟨e,a',w',⟨hex,E',s2,r,hres,rfl,hs,g⟩,harr⟩:=hrun b [] (c₀::cs) rfl trivial hroom
 rw [<- henter] at harr
 have out:∀ (fr:Frame),fr.mode=.returning->fr.defers=a'.defers->fr.tmps=a'.tmps->fr.kind=.deferred->fr.fn=f->StepsIn (Machine.fenced P (fw none)) P (lone (Frame.enter P f vs .deferred) (c₀::cs) w) (lone fr (c₀::cs) w')->
   ∃ e u' w' fr,(u'=u∧∃ v E',e=.returned v∧zH w' E' s2.H∧Grow w E H w' E' s2.H)∧ComesIn (Machine.fenced P (fw none)) P (lone (Frame.enter P f vs .deferred) (c₀::cs) w) (lone fr ({ c₀ with mode:=u' }::cs) w') e∧fr.kind=.deferred∧fr.fn=f∧fr.going P w' e:=fun fr h1 h2 h3 h4 h5 hst=>by
  obtain ⟨w2,st,a1,a2,a3,a4,a5,a6⟩:=zaR (P:=P) (cs:=c₀::cs) hs.defers (by rw [h1];simp) h2 hroom
  have hs2:qY H.length w.heap.size w2 E' s2 { a' with defers:=[] }:=⟨hs.heap.cells a6,hs.tmps,by show _<=w2.heap.size;rw [a4];exact g.size,hs.base⟩
  obtain ⟨v,hv,_⟩:=zcj hs2 hres
  have hg:Grow w E H w2 E' s2.H:=⟨⟨by rw [hh.n,hs.heap.n];exact hs.base,fun id hops hi=>g.le.β id hops (by rw [<- hh.n];exact hi),fun id hops hi=>g.le.κ id hops (by rw [<- hh.n];exact hi),g.le.St,fun id k u hi=>g.le.G id k u (by rw [<- hh.n];exact hi)⟩,
   a1.trans g.os,a2.trans g.tape,a3.trans g.output,by rw [a4];exact g.size,fun k hk ho=>(a5 k hk).trans (g.frame k hk ho),g.qs,g.own⟩
  exact ⟨.returned v,u,w2,{ fr with defers:=[] },⟨rfl,v,E',rfl,hs2.heap,hg⟩,by rw [hc];exact StepsIn.trans hst st,h4,h5,h1,rfl,fn,by show P.funcs[fr.fn]?= _;rw [h5];exact hf,by show (results fn fr.tmps).run P w2=_;rw [h3];exact hv⟩
 rcases hex with rfl | rfl
 ·obtain ⟨todo,h0⟩:=harr.1 rfl
  exact out _ rfl rfl rfl rfl rfl h0
 ·exact out _ rfl rfl rfl rfl rfl (StepsIn.trans harr (.one (fenced_calm (n:=0) (fr:=b.atR a' []) trivial hroom rfl) (stepR_end rfl)))
def Fin (P:Program) (fn:Func) (w0:World) (E0:Env) (H:ze) (R:C->ze->Prop):Exit->Act->World->Prop:=
 bodyPostM (fw none) 0 P fn fun e w'=>∃ r H' v E',R r H'∧e=.returned v∧zH w' E' H'∧L E' r v∧Grow w0 E0 H w' E' H'
def zfF (P:Program) (fn:Func) (H:ze) (c:Code) (s:S) (R:C->ze->Prop):Prop:=
 ∀ (w0:World) (E0:Env) (w:World) (E:Env) (a:Act),zH w0 E0 H->qY H.length w0.heap.size w E s a->qi H.length w0 E0 H w E s.H->c.wpIn (fw none) 0 P (Fin P fn w0 E0 H R) a w
def zg6 (P:Program) (fn:Func) (H:ze) (R:C->ze->Prop) (s1:S):Prop:=∃ s2 r,zl H.length s1 s2∧yx P fn s2=some r∧R r s2.H
theorem zdV {fn:Func} {H:ze} {R:C->ze->Prop} {w0 w:World} {E0 E:Env} {s1:S} {a:Act} (hh:zH w0 E0 H) (hs:qY H.length w0.heap.size w E s1 a) (hg:qi H.length w0 E0 H w E s1.H) (h:zg6 P fn H R s1):
  LeavesInM (fw none) 0 P fn a.tmps (fun e w'=>∃ r H' v E',R r H'∧e=.returned v∧zH w' E' H'∧L E' r v∧Grow w0 E0 H w' E' H') a.defers .returning w:=by
 obtain ⟨s',r,hw,hres,hRr⟩:=h
 obtain ⟨E',hs,g2⟩:=hw _ w E a hs
 have g:=hg.trans g2
 refine leaves hs.defers fun w2 a1 a2 a3 a4 a5 a6=>?_
 have hs2:qY H.length w0.heap.size w2 E' s' { a with defers:=[] }:=⟨hs.heap.cells a6,hs.tmps,by show _<=w2.heap.size;rw [a4];exact g.size,hs.base⟩
 obtain ⟨v,h1,h2⟩:=zcj hs2 hres
 have hg:Grow w0 E0 H w2 E' s'.H:=⟨⟨by rw [hh.n,hs.heap.n];exact hs.base,fun id hops hi=>g.le.β id hops (by rw [<- hh.n];exact hi),fun id hops hi=>g.le.κ id hops (by rw [<- hh.n];exact hi),g.le.St,fun id k u hi=>g.le.G id k u (by rw [<- hh.n];exact hi)⟩,
  a1.trans g.os,a2.trans g.tape,a3.trans g.output,by rw [a4];exact g.size,fun k hk ho=>(a5 k hk).trans (g.frame k hk ho),g.qs,g.own⟩
 exact ⟨v,h1,r,s'.H,v,E',hRr,rfl,hs2.heap,h2,hg⟩
theorem zfF.x4 {fn:Func} {H:ze} {c:Code} {s:S} {R:C->ze->Prop} (h:z1 P H.length c s fun ex s1=>(ex=.ret∨ex=.normal)∧zg6 P fn H R s1):zfF P fn H c s R:=fun w0 E0 w E a hh hs hg=>
 h none w0.heap.size w E a _ (fun _=>rfl) hs fun ex s1 w' E1 a' ⟨hex,hl⟩ hs1 g1=>by
  have:=zdV hh hs1 (hg.trans g1) hl
  rcases hex with rfl | rfl <;> exact this
theorem zfF.seq {fn:Func} {H:ze} {x y:Code} {s:S} {R:C->ze->Prop} (h:z1 P H.length x s fun ex s1=>(ex=.normal∧∃ s2,zl H.length s1 s2∧zfF P fn H y s2 R)∨(ex=.ret∧zg6 P fn H R s1)):zfF P fn H (.seq x y) s R:=fun w0 E0 w E a hh hs hg=>
 wpIn_seq (h none w0.heap.size w E a _ (fun _=>rfl) hs fun ex s1 w' E1 a' hR hs1 g1=>by
  rcases hR with ⟨rfl,s2,hw,hy⟩ | ⟨rfl,hl⟩
  ·obtain ⟨E2,hs2,g2⟩:=hw _ w' E1 a' hs1
   exact hy w0 E0 w' E2 a' hh hs2 ((hg.trans g1).trans g2)
  ·exact zdV hh hs1 (hg.trans g1) hl)
theorem zfF.deferred {fn:Func} {H:ze} {i:Nat} {oM oD:Oper} {cl:Call} {k:Tmp} {g:FuncId} {t:List C} {Hs:ze} {regs:List (Nat × Array Oper)} {R:C->ze->Prop}
  (hop:oD.op=.defer cl) (hcl:cl.callee=.value (.tmp k)) (hca:cl.args= #[]) (hgu:oD.guard=none) (hdst:oD.dst=none) (hcb:zA P g=true)
  (h:zal P #[oM,oD] [oM] t Hs fun t1 H1=>∃ caps,t1[k]?= some (.fn g [] caps)∧zg0 P regs t1 H1 fun t2 H2=>∃ H3,zbx P g H2 caps H3∧zg6 P fn H R ⟨t2,H3⟩):
  zfF P fn H (.seq (.region i #[oM,oD] false) (zkM regs)) ⟨t,Hs⟩ R:=fun w0 E0 w E a hh hs hg=>by
 refine wpIn_seq (wpIn_region_list ?_)
 refine zkD (rest:=[oD]) h none hs.heap hs.tmps fun t1 H1 w1 E1 a1 ⟨caps,hk,ht⟩ h1 h2 h3 g1=>?_
 unfold wpListIn
 rw [if_pos (by unfold Region.wanted;rw [hgu])]
 obtain ⟨u,hu,hL⟩:=h2.get hk
 rw [Array.getElem?_toList] at hu
 obtain ⟨zs,hv,h5,h6⟩:∃ zs,u=.func (.func g) #[] zs∧caps.length=zs.size∧(∀ (i:Nat) c y,caps[i]?= some c->zs[i]?= some y->L E1 c y):=by
  cases hL with
  | fn f first caps ys zs h1 h2 h3 h4=>exact ⟨zs,by rw [show ys= #[] from Array.eq_empty_of_size_eq_zero h1.symm],h2,h4⟩
 have hev:a1.eval (.tmp k)=.func (.func g) #[] zs:=by
  show a1.tmps.getD k undef=_
  rw [Array.getD_eq_getD_getElem?,hu,hv]
  rfl
 have hr:(execOp a1.eval oD).run P w1=.ok (.defer { target:=.fn (.func g) zs,args:= #[] }) w1:=by
  unfold execOp
  simp [hop,resolve,hcl,hca,hev,Deferred.ofValue]
 unfold Oper.wpIn
 refine ⟨fun _ _=>trivial,?_⟩
 rw [show (fw none).round=none from rfl,Oper.semAt_none,hr,Oper.uponIn_defer,hdst]
 refine wpListIn_nil (zjY ht h1 h2 fun t2 H2 w2 E2 a2 ⟨H3,hD,hlv⟩ h7 h8 h9 g2=>?_)
 have h9:a2.defers={ target:=.fn (.func g) zs,args:= #[] }::a.defers:=h9.trans (by show _::a1.defers=_;rw [h3])
 have gB:qi H.length w0 E0 H w2 E2 H2:=hg.trans ((g1.trans g2).toB (by rw [hs.heap.n];exact hs.base))
 have hM:Marks w0.heap.size w2 a.defers:=hs.defers.grow hs.heap (g1.trans g2)
 show LeavesInM (fw none) 0 P fn a2.tmps _ a2.defers .returning w2
 rw [h9]
 refine ⟨by simp,.inr ⟨fun h=>(by cases h),.func g,zs,g,zs,rfl,?_,fun _ _=>trivial,?_⟩⟩
 ·unfold zA at hcb
  split at hcb
  rotate_left
  ·cases hcb
  rename_i fng hfn
  simp only [Bool.and_eq_true,Bool.not_eq_true'] at hcb
  have hname : fng.name ≠ "runtime.NumGoroutine" := by simpa using hcb.1
  have hbody:fng.body≠none:=by intro hb;simp [hb] at hcb
  simp [invoke,callFunc,hfn,hname,hbody]
 have e2:LL E2 caps zs.toList:=⟨by simpa using h5,fun i c y e1 e2=>(h6 i c y e1 (by simpa using e2)).mono g2.le⟩
 refine (hD .returning w2 E2 zs h7 e2).mono ?_
 rintro e u' w3 ⟨rfl,v,E3,rfl,h10,g3⟩
 have hb:H.length<=H2.length:=by have:=hs.base;have:=(g1.trans g2).le.n;rw [hs.heap.n,h7.n] at this;omega
 have hs3:qY H.length w0.heap.size w3 E3 ⟨t2,H3⟩ { a2 with defers:=a.defers }:=⟨h10,h8.mono g3.le,hM.grow h7 g3,by have:=g3.le.n;rw [h7.n,h10.n] at this;exact Nat.le_trans hb this⟩
 exact zdV hh hs3 (gB.trans (g3.toB (by rw [h7.n];exact hb))) hlv
theorem zbx.zF {f:FuncId} {fn:Func} {c:Code} {H H':ze} {args:List C} (hf:P.funcs[f]?= some fn) (hb:fn.body=some c)
  (h:wpA P H.length c (entry fn args) H fun ex t1 H1=>(ex=.ret∨ex=.normal)∧∃ s2 r,zl H.length ⟨t1,H1⟩ s2∧yx P fn s2=some r∧s2.H=H'):zbx P f H args H':=
 .x4 hf hb ((qx h).mono fun ex s1 h1=>h1)
end
end Go.Ab
namespace Go.Ab
def vt (H:ze) (id:Nat):ze:=H.modify id fun _=>⟨0,0,0,[],0⟩
theorem xO (H:ze) (id j:Nat):(vt H id)[j]?= (H[j]?).map fun ob=>if id=j then ⟨0,0,0,[],0⟩ else ob:=by
 unfold vt
 rw [List.getElem?_modify]
 rfl
theorem xX {H:ze} {id:Nat} {id':Nat} {p:List Hop} {x:Nat × List (List C)} (h:zy (vt H id) id' p=some x):id'≠id∧zy H id' p=some x:=by
 obtain ⟨ob,ho,hk,hg⟩:=z6 h
 rw [xO] at ho
 cases hx:H[id']? with
 | none=>rw [hx] at ho;cases ho
 | some ob0=>
  rw [hx] at ho
  simp only [Option.map_some,Option.some.injEq] at ho
  by_cases hid:id=id'
  ·subst hid
   simp at ho
   subst ho
   simp at hk
  ·rw [if_neg hid] at ho
   subst ho
   refine ⟨Ne.symm hid,?_⟩
   unfold zy
   rw [hx]
   simp only [hk,if_true]
   exact hg
theorem zB.gone {w:World} {E:Env} {H:ze} (h:zB w E H) (id:Nat):zB w E (vt H id) where
 n:=by rw [h.n];simp [vt]
 blk id' ob p sz rows hob hx:=by
  obtain ⟨h1,h2⟩:=xX hx
  rw [xO] at hob
  cases hx':H[id']? with
  | none=>rw [hx'] at hob;cases hob
  | some ob0=>
   rw [hx'] at hob
   simp only [Option.map_some,Option.some.injEq,if_neg (Ne.symm h1)] at hob
   subst hob
   exact h.blk id' _ p sz rows hx' h2
 inj id1 p1 id2 p2 x y hx hy he:=h.inj id1 p1 id2 p2 x y (xX hx).2 (xX hy).2 he
 zG:=h.zG
 sep id' p x o u hx hu:=by
  obtain ⟨h1,h2⟩:=xX hx
  obtain ⟨e1,ob,e2,e3⟩:=h.sep id' p x o u h2 hu
  refine ⟨e1,ob,?_,e3⟩
  rw [xO,e2]
  simp [Ne.symm h1]
 ty id' ob hob hk:=by
  rw [xO] at hob
  cases hx':H[id']? with
  | none=>rw [hx'] at hob;cases hob
  | some ob0=>
   rw [hx'] at hob
   simp only [Option.map_some,Option.some.injEq] at hob
   by_cases hid:id=id'
   ·rw [if_pos hid] at hob;subst hob;simp at hk
   ·rw [if_neg hid] at hob;subst hob;exact h.ty id' _ hx' hk
 fz id' ob hob:=by
  rw [xO] at hob
  cases hx':H[id']? with
  | none=>rw [hx'] at hob;cases hob
  | some ob0=>
   rw [hx'] at hob
   simp only [Option.map_some,Option.some.injEq] at hob
   have h0:=h.fz id' ob0 hx'
   subst hob
   split
   ·simp
   ·exact h0
theorem xc {H:ze} {id i:Nat} {ob:Ob} (h:(vt H id)[i]?= some ob) (hk:ob.kind=4):H[i]?= some ob:=by
 rw [xO] at h
 cases hx:H[i]? with
 | none=>rw [hx] at h;cases h
 | some o=>
  rw [hx] at h
  simp only [Option.map_some,Option.some.injEq] at h
  split at h
  ·subst h;cases hk
  ·rw [h]
theorem zl.gone {B:Nat} {s:S} (id:Nat):zl B s ⟨s.tmps,vt s.H id⟩:=fun m w E a hs=>by
 have hg:∀ {i b},zO E (vt s.H id) i b->zO E s.H i b:=fun ⟨ob,cap,h1,h2,h3,h4⟩=>⟨ob,cap,xc h1 h2,h2,h3,h4⟩
 have hr:∀ {i b},qh (vt s.H id) i b->qh s.H i b:=fun ⟨ob,o,t,h1,h2,h3,h4⟩=>⟨ob,o,t,xc h1 h2,h2,h3,h4⟩
 have h0:∀ {b},z5 E (vt s.H id) b->z5 E s.H b:=fun ⟨i,p,x,h1,h2⟩=>⟨i,p,x,(xX h1).2,h2⟩
 refine ⟨E,⟨⟨hs.heap.base.gone id,?_⟩,hs.tmps,hs.defers,by have:=hs.base;simp [vt];omega⟩,⟨Env.leB.refl B E,rfl,rfl,rfl,Nat.le_refl _,fun _ _ _=>rfl,fun _ _ _ h=>.inl h,?_⟩⟩
 ·exact {
   val:=fun i ob h1 h2=>hs.heap.gro.val i ob (xc h1 h2) h2
   blk:=fun i b ob h1 h2=>hs.heap.gro.blk i b ob (hg h1) (by obtain ⟨ob2,_,h3,h4,_⟩:=h1;rw [h2] at h3;cases h3;exact xc h2 h4)
   sep:=fun i b h1 h2=>hs.heap.gro.sep i b (hg h1) (h0 h2)
   inj:=fun i j b h1 h2=>hs.heap.gro.inj i j b (hg h1) (hg h2)
   st:=fun i b ob o u h1 h2 h3=>hs.heap.gro.st i b ob o u (hg h1) (by obtain ⟨ob2,_,h4,h5,_⟩:=h1;rw [h2] at h4;cases h4;exact xc h2 h5) h3
   top:=fun i ob k u h1 h2 h3=>hs.heap.gro.top i ob k u (xc h1 h2) h2 h3
   lop:=fun i ob o t h1 h2 h3=>hs.heap.gro.lop i ob o t (xc h1 h2) h2 h3
   yg:=fun i j b h1 h2=>hs.heap.gro.yg i j b (hr h1) (hr h2) }
 ·rintro b (hb | ⟨i,hb | hb⟩)
  ·exact .inr (.inl (h0 hb))
  ·exact .inr (.inr ⟨i,.inl (hg hb)⟩)
  ·exact .inr (.inr ⟨i,.inr (hr hb)⟩)
end Go.Ab
namespace Go.Wor
open Go.Ab Go.Proofs Go.Hy Go.Gat Go.Nam Go.Hos Go.Con Go.Sna
end Go.Wor
namespace Go.Wor
open Go.Ab Go.Proofs Go.Hy Go.Gat Go.Nam Go.Hos Go.Con Go.Sna
end Go.Wor
