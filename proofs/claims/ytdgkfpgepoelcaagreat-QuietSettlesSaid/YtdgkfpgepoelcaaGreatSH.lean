import Derived.RangeFuncLeaves
import Derived.Test.YtdgkfpgepoelcaaGreatSW
import Derived.Test.YtdgkfpgepoelcaaGreatSJ
import Derived.Test.YtdgkfpgepoelcaaGreatSV
set_option linter.all false
set_option maxRecDepth 100000
set_option maxHeartbeats 4000000
namespace Go.Wor
open Go.Ab Go.Proofs Tryz Go.Hy Go.Gat Go.Nam Go.Hos Go.Con Go.Sna
end Go.Wor
namespace Go.Ab
variable{t args:List C}{H:zf}{R:C->zf->Prop}{w:World}{E:Env}{a:Act}{f:FuncId}{fn:Func}{c:Code}
section
variable {P:Program}
def CN{o:Oper}(h:qz P o (ev t) H R)(q:Option Nat){K:Act->World->Prop}{Q:Exit->Act->World->Prop}
 (hh:zL w E H)(hl:LL E t a.tmps.toList)
 (hk:∀c H' w' E' a',R c H'->zL w' E' H'->LL E' (put t o.dst c) a'.tmps.toList->a'.defers=a.defers->Grow w E H w' E' H'->K a' w'):o.wpIn (fw q) 0 P a w K Q:=by
 have:=h w E a.eval hh (λx _=>fP hl x) (λ_=>V) (λv w'=>K (a.put o.dst v) w') λc H' v w' E' hR h1 h2 g=>
  hk c H' w' E' _ hR h1 (iA (hl.mono g.le) h2 o.dst) (by cases o.dst <;> rfl) g
 have r9:∀d,o.op≠.defer d:=λd hd=>by
  have h2:=this;unfold execOp at h2;simp only[hd,Sem.run_bind]at h2;cases hr:(resolve a.eval d o.type).run P w with
  |ok x w1=>simp[hr,Result.andThen,sY]at h2
  |halt x w1=>simp[hr,Result.andThen,sY]at h2
 unfold Oper.wpIn;refine⟨λ_ _=>trivial,?_⟩;rw[Oper.semAt_eq _ _ _ r9];generalize (execOp a.eval o).run P w=r at this|-;unfold sY at this;split at this
 .exact cQ
 .exact cQ
 .rw[Oper.uponIn_enter];refine⟨λh=>(by cases h),callsIn_wide.2 (Calls.mono this ?_)⟩;rintro e w' ⟨v,rfl,hv⟩;exact hv
 .rw[Oper.uponIn_round];refine⟨λh=>(by cases h),RoundIn.mono (F:=fw q) this ?_⟩;rintro e w' ⟨v,rfl,hv⟩;exact hv
 .exact this.elim
def iV{ops:Array Oper}{rest:List Oper}:∀{l:List Oper} {t:List C} {H:zf} {K:List C->zf->Prop},sZ P ops l t H K->∀(q:Option Nat) {w:World} {E:Env} {a:Act} {Q:Exit->Act->World->Prop},zL w E H->LL E t a.tmps.toList->
  (∀t' H' w' E' a',K t' H'->zL w' E' H'->LL E' t' a'.tmps.toList->a'.defers=a.defers->Grow w E H w' E' H'->wpListIn (fw q) 0 P ops Q rest a' w')->wpListIn (fw q) 0 P ops Q (l++rest) a w
 |[],t,H,K,h,q,w,E,a,Q,hh,hl,hk=>hk t H w E a h hh hl V (Grow.refl w E H)
 |o::l,t,H,K,h,q,w,E,a,Q,hh,hl,hk=>by
  rw[Au]at h;unfold fW at h;show wpListIn (fw q) 0 P ops Q (o::(l++rest)) a w;unfold wpListIn;split at h
  .rename_i hw;rw[c7 (qA hl hw)];refine CN (mi h) q hh hl λc H' w' E' a' hR h1 h2 h3 g=>?_
   exact iV (qx (k:=λt=>sZ P ops l t H' K) hR) q h1 h2 λt2 H2 w2 E2 a2 hK h4 h5 h6 g2=>hk t2 H2 w2 E2 a2 hK h4 h5 (h6.trans h3) (g.trans g2)
  .rename_i hw;rw[c6 (by rw[qA hl hw];decide)];refine⟨λ_ _=>trivial,?_⟩;exact iV (qx (k:=λt=>sZ P ops l t H K) h) q (a:=a.put o.dst undef) hh (iA hl (.un) o.dst) λt2 H2 w2 E2 a2 hK h4 h5 h6 g2=>hk t2 H2 w2 E2 a2 hK h4 h5 (h6.trans (by cases o.dst <;> rfl)) g2
  .exact bX
def iR:List (Nat×Array Oper)->Code
 |[]=>.ret
 |r::l=>.seq (.region r.1 r.2 false) (iR l)
def nn(P:Program)(l:List (Nat×Array Oper)):List C->zf->(List C->zf->Prop)->Prop:=
 List.rec (motive:=λ_=>List C->zf->(List C->zf->Prop)->Prop) (λt H K=>K t H) (λr _ next t H K=>sZ P r.2 r.2.toList t H λt H=>next t H K) l
def BS:∀{l:List (Nat×Array Oper)} {t:List C} {H:zf} {K:List C->zf->Prop},nn P l t H K->∀{w:World} {E:Env} {a:Act} {Q:Exit->Act->World->Prop},zL w E H->LL E t a.tmps.toList->
  (∀t' H' w' E' a',K t' H'->zL w' E' H'->LL E' t' a'.tmps.toList->a'.defers=a.defers->Grow w E H w' E' H'->Q .ret a' w')->(iR l).wpIn (fw none) 0 P Q a w
 |[],t,H,K,h,w,E,a,Q,hh,hl,hk=>wpIn_ret (hk t H w E a h hh hl V (Grow.refl w E H))
 |r::l,t,H,K,h,w,E,a,Q,hh,hl,hk=>by
  have h:sZ P r.2 r.2.toList t H λt H=>nn P l t H K:=h
  refine wpIn_seq (wpIn_region_list ?_);have:=iV (rest:=[]) h none (Q:=Exit.then ((iR l).wpIn (fw none) 0 P Q) Q) hh hl λt2 H2 w2 E2 a2 hK h1 h2 h3 g=>wpListIn_nil (BS hK h1 h2 λt3 H3 w3 E3 a3 hK3 h4 h5 h6 g2=>hk t3 H3 w3 E3 a3 hK3 h4 h5 (h6.trans h3) (g.trans g2))
  rwa [gR]at this
def oq{m:Nat}:∀{ds:List Deferred} {w:World} {fr:Frame} {cs:List Frame},Marks m w ds->fr.mode≠.run->fr.defers=ds->(fw none).room (cs.length+1+0)->
  ∃w',StepsIn (Machine.fenced P (fw none)) P (lone fr cs w) (lone {fr with defers:=[]} cs w')/\w'.os=w.os/\w'.tape=w.tape/\w'.output=w.output/\w'.heap.size=w.heap.size/\(∀k:Nat,k<m->w'.heap[k]?=w.heap[k]?)/\
   ∀(k:Nat) (o:Obj),w.heap[k]?=some o->(∀ds,o≠.deferred ds)->w'.heap[k]?=w.heap[k]?
 |[],w,fr,cs,_,hm,hd,hroom=>⟨w,by
   have:({fr with defers:=[]}:Frame)=fr:=by cases fr;cases hd;rfl
   rw[this];exact StepsIn.refl _,rfl,rfl,rfl,rfl,λ_ _=>V,λ_ _ _ _=>V⟩
 |d::ds,w,fr,cs,⟨⟨D,h1,h2,h3,h4⟩,ht⟩,hm,hd,hroom=>by
  have htar:d.target=.collected D:=by rw[h1]
  have hs:=step_collected (P:=P) (cs:=cs) hm hd htar (run_takeDeferred h3);have i1:(lone fr cs w).fenced P (fw none):=fenced_out (n:=0) trivial hroom hm hd (λg hg=>by rw[htar]at hg;simp[Target.leads]at hg);obtain⟨w',s1,a1,a2,a3,a4,a5,a6⟩:=oq (fr:={fr with defers:=[]++ds}) (cs:=cs) (Marks.mono (w':=w.putObj D (.deferred none)) aj ht λD' hm hd=>World.putObj_heap_other (by rintro rfl;exact h4 hm)) hm V hroom;refine⟨w',.head i1 hs s1,a1,a2,a3,a4.trans World.putObj_size,λk hk=>(a5 k hk).trans (World.putObj_heap_other ah),λk o hc hd=>?_⟩;have hne:k≠D:=by rintro rfl;rw[h3]at hc;cases hc;exact hd _ V
  have e:=World.putObj_heap_other (w:=w) (o:=.deferred none) hne;exact(a6 k o (e.trans hc) hd).trans e
def fh(P:Program)(f:FuncId)(H:zf)(args:List C)(H':zf):Prop:=
 ∀(u:FrameMode) (w:World) (E:Env) (vs:Array Value),zL w E H->LL E args vs.toList->
  CallsDIn (fw none) 0 P f vs u w λe u' w'=>u'=u/\∃v E',e=.returned v/\zL w' E' H'/\Grow w E H w' E' H'
def fh.ye{H':zf}(hf:P.funcs[f]?=some fn)(hb:fn.body=some c)
 (hr:qb P H.length c ⟨entry fn args,H⟩ λex s1=>(ex=.ret\/ex=.normal)/\∃s2 r,zm H.length s1 s2/\yJ P fn s2=some r/\s2.H=H'):fh P f H args H':=λu w E vs hh hl=>by
 have hrun:=hr none w.heap.size w E {tmps:=vs++Array.replicate (fn.ntmps-vs.size) undef,defers:=[]} (λex a1 w1=>(ex=.ret\/ex=.normal)/\∃E' s2 r,yJ P fn s2=some r/\s2.H=H'/\je H.length w.heap.size w1 E' s2 a1/\qq H.length w E H w1 E' s2.H) (λ_=>V) ⟨hh,Bd hl,de _,de _⟩ λex s1 w' E1 a' hR hs1 g1=>by
  obtain⟨hex,s',r,hw,hres,e⟩:=hR;obtain⟨E',hs,g2⟩:=hw _ w' E1 a' hs1;exact⟨hex,E',s',r,hres,e,hs,g1.trans g2⟩
 refine⟨trivial,λc₀ cs hu hroom=>?_⟩
 let b:Frame:={(default:Frame) with fn:=f,kind:=.deferred,roundOf:=none}
 have henter:Frame.enter P f vs .deferred=b.atR {tmps:=vs++Array.replicate (fn.ntmps-vs.size) undef,defers:=[]} [.code c]:=by
  simp[Frame.enter,Frame.atR,hf,hb,b]
 have hc:({c₀ with mode:=u}:Frame)=c₀:=by subst hu;rfl
 obtain⟨e,a',w',⟨hex,E',s2,r,hres,rfl,hs,g⟩,harr⟩:=hrun b [] (c₀::cs) V trivial hroom;rw[<-henter]at harr
 have out:∀(fr:Frame),fr.mode=.returning->fr.defers=a'.defers->fr.tmps=a'.tmps->fr.kind=.deferred->fr.fn=f->StepsIn (Machine.fenced P (fw none)) P (lone (Frame.enter P f vs .deferred) (c₀::cs) w) (lone fr (c₀::cs) w')->
   ∃e u' w' fr,(u'=u/\∃v E',e=.returned v/\zL w' E' s2.H/\Grow w E H w' E' s2.H)/\ComesIn (Machine.fenced P (fw none)) P (lone (Frame.enter P f vs .deferred) (c₀::cs) w) (lone fr ({c₀ with mode:=u'}::cs) w') e/\fr.kind=.deferred/\fr.fn=f/\fr.going P w' e:=λfr h1 h2 h3 h4 h5 hst=>by
  obtain⟨w2,st,a1,a2,a3,a4,a5,a6⟩:=oq (P:=P) (cs:=c₀::cs) hs.defers (by rw[h1];simp) h2 hroom;have hs2:je H.length w.heap.size w2 E' s2 {a' with defers:=[]}:=⟨hs.heap.cells a6,hs.tmps,bo,hs.base⟩;obtain⟨v,hv,_⟩:=mu hs2 hres
  have hg:Grow w E H w2 E' s2.H:=⟨⟨bp,λid hops hi=>g.le.β id hops uU,λid hops hi=>g.le.κ id hops uU,g.le.St,λid k u hi=>g.le.G id k u uU⟩,
   a1.trans g.os,a2.trans g.tape,a3.trans g.output,by rw[a4];exact g.size,λk hk ho=>(a5 k hk).trans (g.frame k hk ho),g.qB,g.own⟩
  exact⟨.returned v,u,w2,{fr with defers:=[]},⟨rfl,v,E',rfl,hs2.heap,hg⟩,by rw[hc];exact StepsIn.trans hst st,h4,h5,h1,rfl,fn,by show P.funcs[fr.fn]?=_;rw[h5];exact hf,by show(results fn fr.tmps).run P w2=_;rw[h3];exact hv⟩
 rcases hex with rfl|rfl
 .obtain⟨todo,h0⟩:=harr.1 V;exact out _ V V V V V h0
 .exact out _ V V V V V (StepsIn.trans harr (.one (fenced_calm (n:=0) (fr:=b.atR a' []) trivial hroom V) (stepR_end V)))
def Fin(P:Program)(fn:Func)(w0:World)(E0:Env)(H:zf)(R:C->zf->Prop):Exit->Act->World->Prop:=
 bodyPostM (fw none) 0 P fn λe w'=>∃r H' v E',R r H'/\e=.returned v/\zL w' E' H'/\L E' r v/\Grow w0 E0 H w' E' H'
def u4(P:Program)(fn:Func)(H:zf)(c:Code)(s:S)(R:C->zf->Prop):Prop:=
 ∀(w0:World) (E0:Env) (w:World) (E:Env) (a:Act),zL w0 E0 H->je H.length w0.heap.size w E s a->qq H.length w0 E0 H w E s.H->c.wpIn (fw none) 0 P (Fin P fn w0 E0 H R) a w
def iL(P:Program)(fn:Func)(H:zf)(R:C->zf->Prop)(s1:S):Prop:=∃s2 r,zm H.length s1 s2/\yJ P fn s2=some r/\R r s2.H
def mM{w0:World}{E0:Env}{s1:S}(hh:zL w0 E0 H)(hs:je H.length w0.heap.size w E s1 a)(hg:qq H.length w0 E0 H w E s1.H)(h:iL P fn H R s1):
  LeavesInM (fw none) 0 P fn a.tmps (λe w'=>∃r H' v E',R r H'/\e=.returned v/\zL w' E' H'/\L E' r v/\Grow w0 E0 H w' E' H') a.defers .returning w:=by
 obtain⟨s',r,hw,hres,hRr⟩:=h;obtain⟨E',hs,g2⟩:=hw _ w E a hs;have g:=hg.trans g2;refine leaves hs.defers λw2 a1 a2 a3 a4 a5 a6=>?_
 have hs2:je H.length w0.heap.size w2 E' s' {a with defers:=[]}:=⟨hs.heap.cells a6,hs.tmps,bo,hs.base⟩;obtain⟨v,h1,h2⟩:=mu hs2 hres
 have hg:Grow w0 E0 H w2 E' s'.H:=⟨⟨bp,λid hops hi=>g.le.β id hops uU,λid hops hi=>g.le.κ id hops uU,g.le.St,λid k u hi=>g.le.G id k u uU⟩,
  a1.trans g.os,a2.trans g.tape,a3.trans g.output,by rw[a4];exact g.size,λk hk ho=>(a5 k hk).trans (g.frame k hk ho),g.qB,g.own⟩
 exact⟨v,h1,r,s'.H,v,E',hRr,rfl,hs2.heap,h2,hg⟩
def u4.ye{s:S}(h:qb P H.length c s λex s1=>(ex=.ret\/ex=.normal)/\iL P fn H R s1):u4 P fn H c s R:=λw0 E0 w E a hh hs hg=>
 h none w0.heap.size w E a _ (λ_=>V) hs λex s1 w' E1 a' ⟨hex,hl⟩ hs1 g1=>by
  have:=mM hh hs1 (hg.trans g1) hl;rcases hex with rfl|rfl <;> exact cQ
def u4.seq{fn:Func}{H:zf}{x y:Code}{s:S}{R:C->zf->Prop}(h:qb P H.length x s λex s1=>(ex=.normal/\∃s2,zm H.length s1 s2/\u4 P fn H y s2 R)\/(ex=.ret/\iL P fn H R s1)):u4 P fn H (.seq x y) s R:=λw0 E0 w E a hh hs hg=>
 wpIn_seq (h none w0.heap.size w E a _ (λ_=>V) hs λex s1 w' E1 a' hR hs1 g1=>by
  rcases hR with⟨rfl,s2,hw,hy⟩|⟨rfl,hl⟩
  .obtain⟨E2,hs2,g2⟩:=hw _ w' E1 a' hs1;exact hy w0 E0 w' E2 a' hh hs2 ((hg.trans g1).trans g2)
  .exact mM hh hs1 (hg.trans g1) hl)
def u4.deferred{i:Nat}{oM oD:Oper}{cl:Call}{k:Tmp}{g:FuncId}{Hs:zf}{regs:List (Nat×Array Oper)}
 (hop:oD.op=.defer cl)(hcl:cl.callee=.value (.tmp k))(hca:cl.args= #[])(hgu:oD.guard=none)(hdst:oD.dst=none)(hcb:zC P g=true)
 (h:sZ P #[oM,oD] [oM] t Hs λt1 H1=>∃caps,t1[k]?=some (.fn g [] caps)/\nn P regs t1 H1 λt2 H2=>∃H3,fh P g H2 caps H3/\iL P fn H R ⟨t2,H3⟩):
  u4 P fn H (.seq (.region i #[oM,oD] false) (iR regs)) ⟨t,Hs⟩ R:=λw0 E0 w E a hh hs hg=>by
 refine wpIn_seq (wpIn_region_list ?_);refine iV (rest:=[oD]) h none hs.heap hs.tmps λt1 H1 w1 E1 a1 ⟨caps,hk,ht⟩ h1 h2 h3 g1=>?_
 unfold wpListIn;rw[c7 (by unfold Region.wanted;rw[hgu])];obtain⟨u,hu,hL⟩:=h2.get hk;rw[dw]at hu
 obtain⟨zs,hv,h5,h6⟩:∃zs,u=.func (.func g) #[] zs/\caps.length=zs.size/\(∀(i:Nat) c y,caps[i]?=some c->zs[i]?=some y->L E1 c y):=by
  cases hL with
  |fn f first caps ys zs h1 h2 h3 h4=>exact⟨zs,by rw[show ys= #[] from gd h1.symm],h2,h4⟩
 have hev:a1.eval (.tmp k)=.func (.func g) #[] zs:=by
  show a1.tmps.getD k undef=_;rw[dE,hu,hv]
  rfl
 have hr:(execOp a1.eval oD).run P w1=.ok (.defer {target:=.fn (.func g) zs,args:= #[]}) w1:=by
  unfold execOp;simp[hop,resolve,hcl,hca,hev,Deferred.ofValue]
 unfold Oper.wpIn;refine⟨λ_ _=>trivial,?_⟩;rw[show(fw none).round=none from V,Oper.semAt_none,hr,Oper.uponIn_defer,hdst];refine wpListIn_nil (BS ht h1 h2 λt2 H2 w2 E2 a2 ⟨H3,hD,hlv⟩ h7 h8 h9 g2=>?_);have h9:a2.defers={target:=.fn (.func g) zs,args:= #[]}::a.defers:=h9.trans (by show _::a1.defers=_;rw[h3]);have gB:qq H.length w0 E0 H w2 E2 H2:=hg.trans ((g1.trans g2).sB uW);have hM:Marks w0.heap.size w2 a.defers:=hs.defers.grow hs.heap (g1.trans g2);show LeavesInM (fw none) 0 P fn a2.tmps _ a2.defers .returning w2;rw[h9];refine⟨aj,.inr ⟨λh=>(by cases h),.func g,zs,g,zs,rfl,?_,λ_ _=>trivial,?_⟩⟩
 .unfold zC at hcb;split at hcb
  rotate_left
  .cases hcb
  rename_i fng hfn;simp only[c9,dG]at hcb;have hname : fng.name ≠ "runtime.NumGoroutine" := by simpa using hcb.1
  have hbody:fng.body≠none:=bu
  simp[invoke,callFunc,hfn,hname,hbody]
 have e2:LL E2 caps zs.toList:=⟨ak h5,λi c y e1 e2=>(h6 i c y e1 uS).mono g2.le⟩;refine(hD .returning w2 E2 zs h7 e2).mono ?_;rintro e u' w3 ⟨rfl,v,E3,rfl,h10,g3⟩;have hb:H.length<=H2.length:=by have:=hs.base;have:=(g1.trans g2).le.n;rw[hs.heap.n,h7.n]at this;omega
 have hs3:je H.length w0.heap.size w3 E3 ⟨t2,H3⟩ {a2 with defers:=a.defers}:=⟨h10,h8.mono g3.le,hM.grow h7 g3,by have:=g3.le.n;rw[h7.n,h10.n]at this;exact dK hb this⟩;exact mM hh hs3 (gB.trans (g3.sB (by rw[h7.n];exact hb))) hlv
def fh.zJ{H':zf}(hf:P.funcs[f]?=some fn)(hb:fn.body=some c)
 (h:wpA P H.length c (entry fn args) H λex t1 H1=>(ex=.ret\/ex=.normal)/\∃s2 r,zm H.length ⟨t1,H1⟩ s2/\yJ P fn s2=some r/\s2.H=H'):fh P f H args H':=
 .ye hf hb ((qD h).mono λex s1 h1=>h1)
end
def vF(H:zf)(id:Nat):zf:=H.modify id λ_=>⟨0,0,0,[],0⟩
def xW(H:zf)(id j:Nat):(vF H id)[j]?=(H[j]?).map λob=>if id=j then ⟨0,0,0,[],0⟩ else ob:=by
 unfold vF;rw[dR]
 rfl
def x8{id:Nat}{id':Nat}{p:List rT}{x:Nat×List (List C)}(h:zB (vF H id) id' p=some x):id'≠id/\zB H id' p=some x:=by
 obtain⟨ob,ho,hk,hg⟩:=qd h;rw[xW]at ho;cases hx:H[id']? with
 |none=>rw[hx]at ho;cases ho
 |some ob0=>
  rw[hx]at ho;simp only[dc,dj]at ho;by_cases hid:id=id'
  .subst hid;simp at ho;subst ho;simp at hk
  .rw[c6 hid]at ho;subst ho;refine⟨Ne.symm hid,?_⟩;unfold zB;rw[hx];simp only[hk,if_true];exact hg
def zD.gone(h:zD w E H)(id:Nat):zD w E (vF H id) where
 n:=by rw[h.n];simp[vF]
 rM id' ob p sz rows hob hx:=by
  obtain⟨h1,h2⟩:=x8 hx;rw[xW]at hob;cases hx':H[id']? with
  |none=>rw[hx']at hob;cases hob
  |some ob0=>
   rw[hx']at hob;simp only[dc,dj,c6 (Ne.symm h1)]at hob;subst hob;exact h.rM id' _ p sz rows hx' h2
 inj id1 p1 id2 p2 x y hx hy he:=h.inj id1 p1 id2 p2 x y (x8 hx).2 (x8 hy).2 he
 zK:=h.zK
 sep id' p x o u hx hu:=by
  obtain⟨h1,h2⟩:=x8 hx;obtain⟨e1,ob,e2,e3⟩:=h.sep id' p x o u h2 hu;refine⟨e1,ob,?_,e3⟩;rw[xW,e2];simp[Ne.symm h1]
 ty id' ob hob hk:=by
  rw[xW]at hob;cases hx':H[id']? with
  |none=>rw[hx']at hob;cases hob
  |some ob0=>
   rw[hx']at hob;simp only[dc,dj]at hob;by_cases hid:id=id'
   .rw[c7 hid]at hob;subst hob;simp at hk
   .rw[c6 hid]at hob;subst hob;exact h.ty id' _ hx' hk
 fz id' ob hob:=by
  rw[xW]at hob;cases hx':H[id']? with
  |none=>rw[hx']at hob;cases hob
  |some ob0=>
   rw[hx']at hob;simp only[dc,dj]at hob;have h0:=h.fz id' ob0 hx';subst hob;split
   .simp
   .exact h0
def xi{id i:Nat}{ob:Ob}(h:(vF H id)[i]?=some ob)(hk:ob.kind=4):H[i]?=some ob:=by
 rw[xW]at h;cases hx:H[i]? with
 |none=>rw[hx]at h;cases h
 |some o=>
  rw[hx]at h;simp only[dc,dj]at h;split at h
  .subst h;cases hk
  .rw[h]
def zm.gone{B:Nat}{s:S}(id:Nat):zm B s ⟨s.tmps,vF s.H id⟩:=λm w E a hs=>by
 have hg:∀{i b},zT E (vF s.H id) i b->zT E s.H i b:=λ⟨ob,cap,h1,h2,h3,h4⟩=>⟨ob,cap,xi h1 h2,h2,h3,h4⟩
 have hr:∀{i b},qo (vF s.H id) i b->qo s.H i b:=λ⟨ob,o,t,h1,h2,h3,h4⟩=>⟨ob,o,t,xi h1 h2,h2,h3,h4⟩
 have h0:∀{b},qc E (vF s.H id) b->qc E s.H b:=λ⟨i,p,x,h1,h2⟩=>⟨i,p,x,(x8 h1).2,h2⟩
 refine⟨E,⟨⟨hs.heap.base.gone id,?_⟩,hs.tmps,hs.defers,by have:=hs.base;simp[vF];omega⟩,⟨Env.tt.refl B E,rfl,rfl,rfl,de _,λ_ _ _=>V,λ_ _ _ h=>.inl h,?_⟩⟩
 .exact {
   val:=λi ob h1 h2=>hs.heap.rI.val i ob (xi h1 h2) h2
   rM:=λi b ob h1 h2=>hs.heap.rI.rM i b ob (hg h1) (by obtain⟨ob2,_,h3,h4,_⟩:=h1;rw[h2]at h3;cases h3;exact xi h2 h4)
   sep:=λi b h1 h2=>hs.heap.rI.sep i b (hg h1) (h0 h2)
   inj:=λi j b h1 h2=>hs.heap.rI.inj i j b (hg h1) (hg h2)
   st:=λi b ob o u h1 h2 h3=>hs.heap.rI.st i b ob o u (hg h1) (by obtain⟨ob2,_,h4,h5,_⟩:=h1;rw[h2]at h4;cases h4;exact xi h2 h5) h3
   top:=λi ob k u h1 h2 h3=>hs.heap.rI.top i ob k u (xi h1 h2) h2 h3
   sa:=λi ob o t h1 h2 h3=>hs.heap.rI.sa i ob o t (xi h1 h2) h2 h3
   yq:=λi j b h1 h2=>hs.heap.rI.yq i j b (hr h1) (hr h2)}
 .rintro b (hb|⟨i,hb|hb⟩)
  .exact .inr (.inl (h0 hb))
  .exact .inr (.inr ⟨i,.inl (hg hb)⟩)
  .exact .inr (.inr ⟨i,.inr (hr hb)⟩)
end Go.Ab
namespace Go.Wor
open Go.Ab Go.Proofs Tryz Go.Hy Go.Gat Go.Nam Go.Hos Go.Con Go.Sna
end Go.Wor
