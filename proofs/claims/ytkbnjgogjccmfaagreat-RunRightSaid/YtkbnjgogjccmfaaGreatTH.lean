import Derived.RangeFuncLeaves
import Derived.Test.YtkbnjgogjccmfaaGreatTW
import Derived.Test.YtkbnjgogjccmfaaGreatTJ
import Derived.Test.YtkbnjgogjccmfaaGreatTV
set_option linter.all false
set_option maxRecDepth 100000
set_option maxHeartbeats 4000000
namespace Go.Wor
open Go.Ab Go.Proofs Tryz Go.Hy Go.Gat Go.Nam Go.Hos Go.Con Go.Sna
def wo (w:Wor) (m:uw):Bool:=w.zr.any (fun r=>r.version == m.version) || (m.version == w.current) || decide (m.zn < 0) || decide (w.zn < m.zn)
def BH (m:uw) (a b c:Int):tn 120 [⟨1,69,44,[zD (m)],0⟩] [.ref 0 [] 44 0 0,I a,I b,I c] (Ce (ez m a b c)) [⟨1,69,44,[zD (m)],0⟩]:=by
 refine aa func120 ?_;refine hZ ?_;exact dz
def Ow (w:Wor) (m:uw) (r:eC):tn 163 [⟨1,37,8,[zJ (w)],0⟩,⟨1,69,44,[zD (m)],0⟩] [.agg (xq r),.ref 1 [] 44 0 0] (Bo (r.version == m.version)) [⟨1,37,8,[zJ (w)],0⟩,⟨1,69,44,[zD (m)],0⟩]:=by
 refine aa func163 ?_;refine ⟨fun h=>?_,fun h=>?_⟩ <;> rw [h]
 ·refine dd ?_;exact cQ
 ·refine dd ?_;exact cQ
def Jn (w:Wor) (m:uw) (ok:fe w):tn 117 [] [Cw w,Cm m] (Bo (wo w m)) []:=by
 have hl:=ok.zr;refine ab func117 ?_;refine ⟨_,_,Go.Lim.Kf (fun r=>r.version == m.version) rfl (fun r=>Ow w m r) aw,dd ?_⟩;refine ⟨fun q1=>?_,fun q1=>?_⟩
 ·refine dd ?_;refine tc ?_
  (exact ⟨.inl rfl,_,.refl _,uN (by simp only [wo,q1,uj])⟩)
 refine dd ?_;refine tc ?_
 refine ⟨fun q2=>?_,fun q2=>?_⟩
 ·refine dd ?_;refine tc ?_
  (exact ⟨.inl rfl,_,.refl _,uN (by simp only [wo,q1,q2,uj,sI])⟩)
 refine dd ?_;refine tc ?_
 refine ⟨fun q3=>?_,fun q3=>?_⟩
 ·refine dd ?_;refine tc ?_
  (exact ⟨.inl rfl,_,.refl _,uN (by simp only [wo,q1,q2,q3,uj,sI])⟩)
 refine dd ?_;refine tc ?_
 refine ⟨fun q4=>?_,fun q4=>?_⟩
 ·refine dd ?_;refine tc ?_
  (exact ⟨.inl rfl,_,.refl _,uN (by have q5:decide (w.zn < m.zn)=true:=q4;simp only [wo,q5,sI])⟩)
 ·refine dd ?_;refine tc ?_
  (exact ⟨.inl rfl,_,.refl _,uN (by have q5:decide (w.zn < m.zn)=false:=q4;simp only [wo,q1,q2,q3,q5,Bool.or_false])⟩)
def O9 (w:Wor) (m:uw) (sw:qX w) (ok:fe w) (hl:i64 m.listen) (hpc:m.pc=1) (hs:zY w m=true):
  tn 98 [] [Cw w,Cm m] (.u1 [Cw w,Cm { m with zn:=w.zn,pc:=2 },Ce (ez m 1 1 w.zn)]) []:=by
 refine ab func98 ?_;(repeat (first | refine uA ?_ | refine uB ?_))
 refine ah (zO w m ok hl) ?_;refine ⟨fun _=>dd ?_,fun h=>absurd ((hs).symm.trans h:true=false) ar⟩;(repeat (first | refine uA ?_ | refine uB ?_))
 refine tc ?_
 refine ah (qw w sw) ?_;(repeat (first | refine uA ?_ | refine uB ?_))
 refine .inl ⟨⟨true,[0,1,3],[0,1,5],[4]⟩,au,uH ?_⟩;refine hZ ?_
 refine af [1] (BH { m with zn:=w.zn,pc:=2 } 1 1 w.zn) ?_;refine hZ ?_
 exact uI
def Ok (w:Wor) (h:qX w) (x:eC) (l:List eC) (hx:w.zr=x::l):tn 114 [] [Cw w] (.agg [I w.zn,I w.current,I w.lock,lI w.pins,lV w.ze,lL w.zd,eG w.counts,.sl 0 [] 3 0 w.zr.length false]) [⟨2,101,3,(w.zr).map xq,0⟩]:=by
 have hl:l.length < 1000000000:=by have:=h.zr;rw [hx] at this;exact cP
 have hc:=Kz x l hl;rw [<- hx] at hc;refine Af (fn:=f114) func114 rfl (uH ?_);refine ah (y9 w.pins h.pins) ?_;refine af [] (wK w.ze h.ze.1 fun v hv=>jI v (h.ze.2 v hv)) ?_;refine ah (vT w.zd h.zd) ?_;refine af [] (wJ w.counts h.counts.1 fun r hr=>yc r (h.counts.2 r hr)) ?_;refine af [] (hc) ?_;refine ⟨.inl rfl,_,_,(zo.zV 1 0 4 rfl rfl rfl rfl (.inr rfl) rfl aj (shut_map (enc:=zF) (fun _=>rfl) w.ze) (z5 rfl)).trans (zo.zV 1 0 6 rfl rfl rfl rfl (.inr rfl) rfl aj (shut_map (enc:=zN) (fun _=>rfl) w.counts) (z5 rfl)),rfl,?_⟩;exact zo.u5 [5] [0] _ _ rfl rfl rfl (zc rfl (zc rfl (zc rfl (zc (zj fun r hr c hc=>((shut_map (enc:=zF) (fun _=>rfl) w.ze) r hr c hc).2) (zc (zj fun r hr c hc=>((shut_map (enc:=zN) (fun _=>rfl) w.counts) r hr c hc).2) rfl)))))
def WI:tn 161 [] [lR []] (.uv 1 3 []) []:=by
 refine ab func161 ?_;refine ⟨?_,?_⟩
 ·refine dd ?_;exact ⟨.inl rfl,_,zo.cell 2 rfl (WC.none 1 0 3),rfl⟩
 ·refine dd ?_;refine .inr ⟨rfl,dd ?_⟩;exact uI
def Oj (w:Wor) (h:qX w) (hx:w.zr=[]):tn 114 [] [Cw w] (.agg [I w.zn,I w.current,I w.lock,lI w.pins,lV w.ze,lL w.zd,eG w.counts,.uv 1 3 []]) []:=by
 have hc:=WI;rw [<- hx] at hc;refine ab func114 ?_;refine ah (y9 w.pins h.pins) ?_;refine af [] (wK w.ze h.ze.1 fun v hv=>jI v (h.ze.2 v hv)) ?_;refine ah (vT w.zd h.zd) ?_;refine af [] (wJ w.counts h.counts.1 fun r hr=>yc r (h.counts.2 r hr)) ?_;refine ah hc ?_;exact ⟨.inl rfl,_,(zo.zV 1 0 4 rfl rfl rfl rfl (.inr rfl) rfl aj (shut_map (enc:=zF) (fun _=>rfl) w.ze) (z5 rfl)).trans (zo.zV 1 0 6 rfl rfl rfl rfl (.inr rfl) rfl aj (shut_map (enc:=zN) (fun _=>rfl) w.counts) (z5 rfl)),rfl⟩
def We (l:List eC):((l.map xq).all fun x=>x.all zy)=true:=by
 rw [dV];intro r hr;obtain ⟨x,_,rfl⟩:=gG.1 hr
 rfl
abbrev oZ (m:uw):ef:=⟨8,m.i,0,0,0,0,0,⟨0,0,0,0,0,0⟩⟩
def Pa (w:Wor) (m:uw) (x:eC) (l:List eC) (sw:qX w) (ok:fe w) (hl:i64 m.listen) (hpc:m.pc=2) (hs:zY w m=true) (hla:wo w m=false) (hx:w.zr=x::l):
  tn 98 [] [Cw w,Cm m] (.u1 [Cw { w with zr:=w.zr++[⟨m.version,m.zn,false⟩] },Cm { m with done:=true,answer:=oZ m },Ce { ez m 2 11 m.version with done:=true,answer:=oZ m }]) []:=by
 have hn:=sw.zr;have hap:(Ob.mk 2 101 3 (w.zr.map xq) 0).rows++[[I m.version,I m.zn,Bo false]]=(w.zr++[(⟨m.version,m.zn,false⟩:eC)]).map xq:=bd
 refine ab func98 ?_;(repeat (first | refine uA ?_ | refine uB ?_))
 refine ah (zO w m ok hl) ?_;refine ⟨fun _=>dd ?_,fun h=>absurd ((hs).symm.trans h:true=false) ar⟩;(repeat (first | refine uA ?_ | refine uB ?_))
 refine tc ?_
 refine ah (Jn w m ok) ?_;refine ⟨fun h=>absurd ((hla).symm.trans h:false=true) ar,fun _=>dd ?_⟩;refine tc ?_
 refine af [] (Ok w sw x l hx) ?_;(repeat (first | refine uA ?_ | refine uB ?_))
 refine ⟨aj,We _,ay,by show _ * 24<=_;simp;omega,dd ?_⟩;refine af [1] (BH m 2 11 m.version) ?_;refine .inl ⟨⟨false,[1],[1],[]⟩,au,uH ?_⟩;refine hZ ?_
 rw [hap];refine .inl ⟨⟨false,[0,1,2],[1,6,8],[]⟩,au,uH ?_⟩;refine hZ ?_
 exact ⟨.inl rfl,_,zo.zV 2 0 7 rfl rfl rfl rfl (.inr rfl) aj aj (shut_map (enc:=xq) (fun _=>rfl) _) (z5 rfl),rfl⟩
def OJ (w:Wor) (m:uw) (sw:qX w) (ok:fe w) (hl:i64 m.listen) (hpc:m.pc=2) (hs:zY w m=true) (hla:wo w m=false) (hx:w.zr=[]):
  tn 98 [] [Cw w,Cm m] (.u1 [Cw { w with zr:=w.zr++[⟨m.version,m.zn,false⟩] },Cm { m with done:=true,answer:=oZ m },Ce { ez m 2 11 m.version with done:=true,answer:=oZ m }]) []:=by
 refine ab func98 ?_;(repeat (first | refine uA ?_ | refine uB ?_))
 refine ah (zO w m ok hl) ?_;refine ⟨fun _=>dd ?_,fun h=>absurd ((hs).symm.trans h:true=false) ar⟩;(repeat (first | refine uA ?_ | refine uB ?_))
 refine tc ?_
 refine ah (Jn w m ok) ?_;refine ⟨fun h=>absurd ((hla).symm.trans h:false=true) ar,fun _=>dd ?_⟩;refine tc ?_
 refine ah (Oj w sw hx) ?_;(repeat (first | refine uA ?_ | refine uB ?_))
 refine .inr ⟨.inl rfl,ar,ar,dd ?_⟩;refine af [1] (BH m 2 11 m.version) ?_;refine .inl ⟨⟨false,[1],[1],[]⟩,au,uH ?_⟩;refine hZ ?_
 refine .inl ⟨⟨false,[0,1,2],[1,5,7],[]⟩,au,uH ?_⟩;refine hZ ?_
 rw [hx];exact ⟨.inl rfl,_,zo.zV 2 0 7 rfl rfl rfl rfl (.inr rfl) aj aj (shut_map (enc:=xq) (fun _=>rfl) [(⟨m.version,m.zn,false⟩:eC)]) (z5 rfl),rfl⟩
end Go.Wor
namespace Go.Ab
section
variable {P:Program}
def MU {o:Oper} {t:List C} {H:zl} {R:C->zl->Prop} (h:jE P o (ev t) H R) (q:Option Nat) {w:World} {E:Env} {a:Act} {K:Act->World->Prop} {Q:Exit->Act->World->Prop}
  (hh:qu w E H) (hl:LL E t a.tmps.toList)
  (hk:∀ c H' w' E' a',R c H'->qu w' E' H'->LL E' (put t o.dst c) a'.tmps.toList->a'.defers=a.defers->Grow w E H w' E' H'->K a' w'):o.wpIn (fw q) 0 P a w K Q:=by
 have:=h w E a.eval hh (fun x _=>CG hl x) (fun _=>rfl) (fun v w'=>K (a.put o.dst v) w') fun c H' v w' E' hR h1 h2 g=>
  hk c H' w' E' _ hR h1 (DT (hl.mono g.le) h2 o.dst) (by cases o.dst <;> rfl) g
 have ff:∀ d,o.op≠.defer d:=fun d hd=>by
  have h2:=this;unfold execOp at h2;simp only [hd,Sem.run_bind] at h2;cases hr:(resolve a.eval d o.type).run P w with
  | ok x w1=>simp [hr,Result.andThen,lM] at h2
  | halt x w1=>simp [hr,Result.andThen,lM] at h2
 unfold Oper.wpIn;refine ⟨fun _ _=>trivial,?_⟩;rw [Oper.semAt_eq _ _ _ ff];generalize (execOp a.eval o).run P w=r at this ⊢;unfold lM at this;split at this
 ·exact dy
 ·exact dy
 ·rw [Oper.uponIn_enter];refine ⟨fun h=>aS,callsIn_wide.2 (Calls.mono this ?_)⟩;rintro e w' ⟨v,rfl,hv⟩;exact hv
 ·rw [Oper.uponIn_round];refine ⟨fun h=>aS,RoundIn.mono (F:=fw q) this ?_⟩;rintro e w' ⟨v,rfl,hv⟩;exact hv
 ·exact this.elim
def Es {ops:Array Oper} {rest:List Oper}:∀ {l:List Oper} {t:List C} {H:zl} {K:List C->zl->Prop},l8 P ops l t H K->∀ (q:Option Nat) {w:World} {E:Env} {a:Act} {Q:Exit->Act->World->Prop},qu w E H->LL E t a.tmps.toList->
  (∀ t' H' w' E' a',K t' H'->qu w' E' H'->LL E' t' a'.tmps.toList->a'.defers=a.defers->Grow w E H w' E' H'->wpListIn (fw q) 0 P ops Q rest a' w')->wpListIn (fw q) 0 P ops Q (l++rest) a w
 | [],t,H,K,h,q,w,E,a,Q,hh,hl,hk=>hk t H w E a h hh hl rfl (Grow.refl w E H)
 | o::l,t,H,K,h,q,w,E,a,Q,hh,hl,hk=>by
  rw [JT] at h;unfold CY at h;show wpListIn (fw q) 0 P ops Q (o::(l++rest)) a w;unfold wpListIn;split at h
  ·rename_i hw;rw [dQ (jQ hl hw)];refine MU (FU h) q hh hl fun c H' w' E' a' hR h1 h2 h3 g=>?_
   exact Es (jJ (k:=fun t=>l8 P ops l t H' K) hR) q h1 h2 fun t2 H2 w2 E2 a2 hK h4 h5 h6 g2=>hk t2 H2 w2 E2 a2 hK h4 h5 (h6.trans h3) (g.trans g2)
  ·rename_i hw;rw [dN (by rw [jQ hl hw];decide)];refine ⟨fun _ _=>trivial,?_⟩;exact Es (jJ (k:=fun t=>l8 P ops l t H K) h) q (a:=a.put o.dst undef) hh (DT hl (.un) o.dst) fun t2 H2 w2 E2 a2 hK h4 h5 h6 g2=>hk t2 H2 w2 E2 a2 hK h4 h5 (h6.trans (by cases o.dst <;> rfl)) g2
  ·exact cM
def Ep:List (Nat × Array Oper)->Code
 | []=>.ret
 | r::l=>.seq (.region r.1 r.2 false) (Ep l)
def LP:Code->List (Nat × Array Oper)
 | .seq (.region i ops false) y=>(i,ops)::LP y
 | _=>[]
def GP (P:Program) (l:List (Nat × Array Oper)):List C->zl->(List C->zl->Prop)->Prop:=
 List.rec (motive:=fun _=>List C->zl->(List C->zl->Prop)->Prop) (fun t H K=>K t H) (fun r _ next t H K=>l8 P r.2 r.2.toList t H fun t H=>next t H K) l
def L5:∀ {l:List (Nat × Array Oper)} {t:List C} {H:zl} {K:List C->zl->Prop},GP P l t H K->∀ {w:World} {E:Env} {a:Act} {Q:Exit->Act->World->Prop},qu w E H->LL E t a.tmps.toList->
  (∀ t' H' w' E' a',K t' H'->qu w' E' H'->LL E' t' a'.tmps.toList->a'.defers=a.defers->Grow w E H w' E' H'->Q .ret a' w')->(Ep l).wpIn (fw none) 0 P Q a w
 | [],t,H,K,h,w,E,a,Q,hh,hl,hk=>wpIn_ret (hk t H w E a h hh hl rfl (Grow.refl w E H))
 | r::l,t,H,K,h,w,E,a,Q,hh,hl,hk=>by
  have h:l8 P r.2 r.2.toList t H fun t H=>GP P l t H K:=h
  refine wpIn_seq (wpIn_region_list ?_);have:=Es (rest:=[]) h none (Q:=Exit.then ((Ep l).wpIn (fw none) 0 P Q) Q) hh hl fun t2 H2 w2 E2 a2 hK h1 h2 h3 g=>wpListIn_nil (L5 hK h1 h2 fun t3 H3 w3 E3 a3 hK3 h4 h5 h6 g2=>hk t3 H3 w3 E3 a3 hK3 h4 h5 (h6.trans h3) (g.trans g2))
  rwa [rJ] at this
def IZ {m:Nat}:∀ {ds:List Deferred} {w:World} {fr:Frame} {cs:List Frame},Marks m w ds->fr.mode≠.run->fr.defers=ds->(fw none).room (cs.length+1+0)->
  ∃ w',StepsIn (Machine.fenced P (fw none)) P (lone fr cs w) (lone { fr with defers:=[] } cs w')∧w'.os=w.os∧w'.tape=w.tape∧w'.output=w.output∧w'.heap.size=w.heap.size∧(∀ k:Nat,k < m->w'.heap[k]?= w.heap[k]?)∧
   ∀ (k:Nat) (o:Obj),w.heap[k]?= some o->(∀ ds,o≠.deferred ds)->w'.heap[k]?= w.heap[k]?
 | [],w,fr,cs,_,hm,hd,hroom=>⟨w,by
   have:({ fr with defers:=[] }:Frame)=fr:=by cases fr;cases hd;rfl
   rw [this];exact StepsIn.refl _,rfl,rfl,rfl,rfl,fun _ _=>rfl,fun _ _ _ _=>rfl⟩
 | d::ds,w,fr,cs,⟨⟨D,h1,h2,h3,h4⟩,ht⟩,hm,hd,hroom=>by
  have htar:d.target=.collected D:=by rw [h1]
  have hs:=step_collected (P:=P) (cs:=cs) hm hd htar (run_takeDeferred h3);have i1:(lone fr cs w).fenced P (fw none):=fenced_out (n:=0) trivial hroom hm hd (fun g hg=>by rw [htar] at hg;simp [Target.leads] at hg);obtain ⟨w',s1,a1,a2,a3,a4,a5,a6⟩:=IZ (fr:={ fr with defers:=[]++ds }) (cs:=cs) (Marks.mono (w':=w.putObj D (.deferred none)) aj ht fun D' hm hd=>World.putObj_heap_other (by rintro rfl;exact h4 hm)) hm rfl hroom;refine ⟨w',.head i1 hs s1,a1,a2,a3,a4.trans World.putObj_size,fun k hk=>(a5 k hk).trans (World.putObj_heap_other aw),fun k o hc hd=>?_⟩;have hne:k≠D:=by rintro rfl;rw [h3] at hc;cases hc;exact hd _ rfl
  have e:=World.putObj_heap_other (w:=w) (o:=.deferred none) hne;exact (a6 k o (e.trans hc) hd).trans e
def Ag (P:Program) (f:FuncId) (H:zl) (args:List C) (H':zl):Prop:=
 ∀ (u:FrameMode) (w:World) (E:Env) (vs:Array Value),qu w E H->LL E args vs.toList->
  CallsDIn (fw none) 0 P f vs u w fun e u' w'=>u'=u∧∃ v E',e=.returned v∧qu w' E' H'∧Grow w E H w' E' H'
def Ag.wt {f:FuncId} {fn:Func} {c:Code} {H H':zl} {args:List C} (hf:P.funcs[f]?= some fn) (hb:fn.body=some c)
  (hr:qW P H.length c ⟨entry fn args,H⟩ fun ex s1=>(ex=.ret∨ex=.normal)∧∃ s2 r,zo H.length s1 s2∧kH P fn s2=some r∧s2.H=H'):Ag P f H args H':=fun u w E vs hh hl=>by
 have hrun:=hr none w.heap.size w E { tmps:=vs++Array.replicate (fn.ntmps - vs.size) undef,defers:=[] } (fun ex a1 w1=>(ex=.ret∨ex=.normal)∧∃ E' s2 r,kH P fn s2=some r∧s2.H=H'∧xN H.length w.heap.size w1 E' s2 a1∧jA H.length w E H w1 E' s2.H) (fun _=>rfl) ⟨hh,FC hl,dW _,dW _⟩ fun ex s1 w' E1 a' hR hs1 g1=>by
  obtain ⟨hex,s',r,hw,hres,e⟩:=hR;obtain ⟨E',hs,g2⟩:=hw _ w' E1 a' hs1;exact ⟨hex,E',s',r,hres,e,hs,g1.trans g2⟩
 refine ⟨trivial,fun c₀ cs hu hroom=>?_⟩
 let b:Frame:={ (default:Frame) with fn:=f,kind:=.deferred,roundOf:=none }
 have henter:Frame.enter P f vs .deferred=b.atR { tmps:=vs++Array.replicate (fn.ntmps - vs.size) undef,defers:=[] } [.code c]:=by
  simp [Frame.enter,Frame.atR,hf,hb,b]
 have hc:({ c₀ with mode:=u }:Frame)=c₀:=by subst hu;rfl
 obtain ⟨e,a',w',⟨hex,E',s2,r,hres,rfl,hs,g⟩,harr⟩:=hrun b [] (c₀::cs) rfl trivial hroom;rw [<- henter] at harr
 have out:∀ (fr:Frame),fr.mode=.returning->fr.defers=a'.defers->fr.tmps=a'.tmps->fr.kind=.deferred->fr.fn=f->StepsIn (Machine.fenced P (fw none)) P (lone (Frame.enter P f vs .deferred) (c₀::cs) w) (lone fr (c₀::cs) w')->
   ∃ e u' w' fr,(u'=u∧∃ v E',e=.returned v∧qu w' E' s2.H∧Grow w E H w' E' s2.H)∧ComesIn (Machine.fenced P (fw none)) P (lone (Frame.enter P f vs .deferred) (c₀::cs) w) (lone fr ({ c₀ with mode:=u' }::cs) w') e∧fr.kind=.deferred∧fr.fn=f∧fr.going P w' e:=fun fr h1 h2 h3 h4 h5 hst=>by
  obtain ⟨w2,st,a1,a2,a3,a4,a5,a6⟩:=IZ (P:=P) (cs:=c₀::cs) hs.defers (by rw [h1];simp) h2 hroom;have hs2:xN H.length w.heap.size w2 E' s2 { a' with defers:=[] }:=⟨hs.heap.cells a6,hs.tmps,bz,hs.base⟩;obtain ⟨v,hv,_⟩:=FY hs2 hres
  have hg:Grow w E H w2 E' s2.H:=⟨⟨bA,fun id hops hi=>g.le.β id hops tE,fun id hops hi=>g.le.κ id hops tE,g.le.St,fun id k u hi=>g.le.G id k u tE⟩,
   a1.trans g.os,a2.trans g.tape,a3.trans g.output,by rw [a4];exact g.size,fun k hk ho=>(a5 k hk).trans (g.frame k hk ho),g.jK,g.own⟩
  exact ⟨.returned v,u,w2,{ fr with defers:=[] },⟨rfl,v,E',rfl,hs2.heap,hg⟩,by rw [hc];exact StepsIn.trans hst st,h4,h5,h1,rfl,fn,by show P.funcs[fr.fn]?= _;rw [h5];exact hf,by show (results fn fr.tmps).run P w2=_;rw [h3];exact hv⟩
 rcases hex with rfl | rfl
 ·obtain ⟨todo,h0⟩:=harr.1 rfl;exact out _ rfl rfl rfl rfl rfl h0
 ·exact out _ rfl rfl rfl rfl rfl (StepsIn.trans harr (.one (fenced_calm (n:=0) (fr:=b.atR a' []) trivial hroom rfl) (stepR_end rfl)))
def Fin (P:Program) (fn:Func) (w0:World) (E0:Env) (H:zl) (R:C->zl->Prop):Exit->Act->World->Prop:=
 bodyPostM (fw none) 0 P fn fun e w'=>∃ r H' v E',R r H'∧e=.returned v∧qu w' E' H'∧L E' r v∧Grow w0 E0 H w' E' H'
def mG (P:Program) (fn:Func) (H:zl) (c:Code) (s:S) (R:C->zl->Prop):Prop:=
 ∀ (w0:World) (E0:Env) (w:World) (E:Env) (a:Act),qu w0 E0 H->xN H.length w0.heap.size w E s a->jA H.length w0 E0 H w E s.H->c.wpIn (fw none) 0 P (Fin P fn w0 E0 H R) a w
def Cz (P:Program) (fn:Func) (H:zl) (R:C->zl->Prop) (s1:S):Prop:=∃ s2 r,zo H.length s1 s2∧kH P fn s2=some r∧R r s2.H
def Gd {fn:Func} {H:zl} {R:C->zl->Prop} {w0 w:World} {E0 E:Env} {s1:S} {a:Act} (hh:qu w0 E0 H) (hs:xN H.length w0.heap.size w E s1 a) (hg:jA H.length w0 E0 H w E s1.H) (h:Cz P fn H R s1):
  LeavesInM (fw none) 0 P fn a.tmps (fun e w'=>∃ r H' v E',R r H'∧e=.returned v∧qu w' E' H'∧L E' r v∧Grow w0 E0 H w' E' H') a.defers .returning w:=by
 obtain ⟨s',r,hw,hres,hRr⟩:=h;obtain ⟨E',hs,g2⟩:=hw _ w E a hs;have g:=hg.trans g2;refine leaves hs.defers fun w2 a1 a2 a3 a4 a5 a6=>?_
 have hs2:xN H.length w0.heap.size w2 E' s' { a with defers:=[] }:=⟨hs.heap.cells a6,hs.tmps,bz,hs.base⟩;obtain ⟨v,h1,h2⟩:=FY hs2 hres
 have hg:Grow w0 E0 H w2 E' s'.H:=⟨⟨bA,fun id hops hi=>g.le.β id hops tE,fun id hops hi=>g.le.κ id hops tE,g.le.St,fun id k u hi=>g.le.G id k u tE⟩,
  a1.trans g.os,a2.trans g.tape,a3.trans g.output,by rw [a4];exact g.size,fun k hk ho=>(a5 k hk).trans (g.frame k hk ho),g.jK,g.own⟩
 exact ⟨v,h1,r,s'.H,v,E',hRr,rfl,hs2.heap,h2,hg⟩
def mG.wt {fn:Func} {H:zl} {c:Code} {s:S} {R:C->zl->Prop} (h:qW P H.length c s fun ex s1=>(ex=.ret∨ex=.normal)∧Cz P fn H R s1):mG P fn H c s R:=fun w0 E0 w E a hh hs hg=>
 h none w0.heap.size w E a _ (fun _=>rfl) hs fun ex s1 w' E1 a' ⟨hex,hl⟩ hs1 g1=>by
  have:=Gd hh hs1 (hg.trans g1) hl;rcases hex with rfl | rfl <;> exact dy
def mG.seq {fn:Func} {H:zl} {x y:Code} {s:S} {R:C->zl->Prop} (h:qW P H.length x s fun ex s1=>(ex=.normal∧∃ s2,zo H.length s1 s2∧mG P fn H y s2 R)∨(ex=.ret∧Cz P fn H R s1)):mG P fn H (.seq x y) s R:=fun w0 E0 w E a hh hs hg=>
 wpIn_seq (h none w0.heap.size w E a _ (fun _=>rfl) hs fun ex s1 w' E1 a' hR hs1 g1=>by
  rcases hR with ⟨rfl,s2,hw,hy⟩ | ⟨rfl,hl⟩
  ·obtain ⟨E2,hs2,g2⟩:=hw _ w' E1 a' hs1;exact hy w0 E0 w' E2 a' hh hs2 ((hg.trans g1).trans g2)
  ·exact Gd hh hs1 (hg.trans g1) hl)
def mG.deferred {fn:Func} {H:zl} {i:Nat} {oM oD:Oper} {cl:Call} {k:Tmp} {g:FuncId} {t:List C} {Hs:zl} {regs:List (Nat × Array Oper)} {R:C->zl->Prop}
  (hop:oD.op=.defer cl) (hcl:cl.callee=.value (.tmp k)) (hca:cl.args= #[]) (hgu:oD.guard=none) (hdst:oD.dst=none) (hcb:qp P g=true)
  (h:l8 P #[oM,oD] [oM] t Hs fun t1 H1=>∃ caps,t1[k]?= some (.fn g [] caps)∧GP P regs t1 H1 fun t2 H2=>∃ H3,Ag P g H2 caps H3∧Cz P fn H R ⟨t2,H3⟩):
  mG P fn H (.seq (.region i #[oM,oD] false) (Ep regs)) ⟨t,Hs⟩ R:=fun w0 E0 w E a hh hs hg=>by
 refine wpIn_seq (wpIn_region_list ?_);refine Es (rest:=[oD]) h none hs.heap hs.tmps fun t1 H1 w1 E1 a1 ⟨caps,hk,ht⟩ h1 h2 h3 g1=>?_
 unfold wpListIn;rw [dQ (by unfold Region.wanted;rw [hgu])];obtain ⟨u,hu,hL⟩:=h2.get hk;rw [gL] at hu
 obtain ⟨zs,hv,h5,h6⟩:∃ zs,u=.func (.func g) #[] zs∧caps.length=zs.size∧(∀ (i:Nat) c y,caps[i]?= some c->zs[i]?= some y->L E1 c y):=by
  cases hL with
  | fn f first caps ys zs h1 h2 h3 h4=>exact ⟨zs,by rw [show ys= #[] from pO h1.symm],h2,h4⟩
 have hev:a1.eval (.tmp k)=.func (.func g) #[] zs:=by
  show a1.tmps.getD k undef=_;rw [gV,hu,hv]
  rfl
 have hr:(execOp a1.eval oD).run P w1=.ok (.defer { target:=.fn (.func g) zs,args:= #[] }) w1:=by
  unfold execOp;simp [hop,resolve,hcl,hca,hev,Deferred.ofValue]
 unfold Oper.wpIn;refine ⟨fun _ _=>trivial,?_⟩;rw [show (fw none).round=none from rfl,Oper.semAt_none,hr,Oper.uponIn_defer,hdst];refine wpListIn_nil (L5 ht h1 h2 fun t2 H2 w2 E2 a2 ⟨H3,hD,hlv⟩ h7 h8 h9 g2=>?_);have h9:a2.defers={ target:=.fn (.func g) zs,args:= #[] }::a.defers:=h9.trans (by show _::a1.defers=_;rw [h3]);have gB:jA H.length w0 E0 H w2 E2 H2:=hg.trans ((g1.trans g2).fA tB);have hM:Marks w0.heap.size w2 a.defers:=hs.defers.grow hs.heap (g1.trans g2);show LeavesInM (fw none) 0 P fn a2.tmps _ a2.defers .returning w2;rw [h9];refine ⟨aj,.inr ⟨fun h=>aS,.func g,zs,g,zs,rfl,?_,fun _ _=>trivial,?_⟩⟩
 ·unfold qp at hcb;split at hcb
  rotate_left
  ·cases hcb
  rename_i fng hfn;simp only [dU,gX] at hcb;have hname : fng.name ≠ "runtime.NumGoroutine" := by simpa using hcb.1
  have hbody:fng.body≠none:=bE
  simp [invoke,callFunc,hfn,hname,hbody]
 have e2:LL E2 caps zs.toList:=⟨aq h5,fun i c y e1 e2=>(h6 i c y e1 uY).mono g2.le⟩;refine (hD .returning w2 E2 zs h7 e2).mono ?_;rintro e u' w3 ⟨rfl,v,E3,rfl,h10,g3⟩;have hb:H.length<=H2.length:=by have:=hs.base;have:=(g1.trans g2).le.n;rw [hs.heap.n,h7.n] at this;omega
 have hs3:xN H.length w0.heap.size w3 E3 ⟨t2,H3⟩ { a2 with defers:=a.defers }:=⟨h10,h8.mono g3.le,hM.grow h7 g3,by have:=g3.le.n;rw [h7.n,h10.n] at this;exact gW hb this⟩;exact Gd hh hs3 (gB.trans (g3.fA (by rw [h7.n];exact hb))) hlv
def qC.Vc {f:FuncId} {fn:Func} {c:Code} {H:zl} {args:List C} {R:C->zl->Prop} (hf:P.funcs[f]?= some fn) (hb:fn.body=some c) (h:mG P fn H c ⟨entry fn args,H⟩ R):qC P f H args R:=fun w E vs hh hl=>
 (callsIn_wide (n:=0)).1 (callsIn_of_wp_marks hf hb trivial (h w E w E _ hh ⟨hh,FC hl,dW _,dW _⟩ (jA.refl H.length w E H)))
def Ag.zU {f:FuncId} {fn:Func} {c:Code} {H H':zl} {args:List C} (hf:P.funcs[f]?= some fn) (hb:fn.body=some c)
  (h:wpA P H.length c (entry fn args) H fun ex t1 H1=>(ex=.ret∨ex=.normal)∧∃ s2 r,zo H.length ⟨t1,H1⟩ s2∧kH P fn s2=some r∧s2.H=H'):Ag P f H args H':=
 .wt hf hb ((jy h).mono fun ex s1 h1=>h1)
def mG.HB {fn:Func} {H Hs:zl} {x y:Code} {t:List C} {R:C->zl->Prop} (h:wpA P H.length x t Hs fun ex t1 H1=>(ex=.normal∧∃ t2 H2,zo H.length ⟨t1,H1⟩ ⟨t2,H2⟩∧mG P fn H y ⟨t2,H2⟩ R)∨(ex=.ret∧Cz P fn H R ⟨t1,H1⟩)):mG P fn H (.seq x y) ⟨t,Hs⟩ R:=
 .seq ((jy h).mono fun ex s1 h1=>h1.imp (fun ⟨e,t2,H2,hw,hr⟩=>⟨e,_,hw,hr⟩) id)
end
def mU (H:zl) (id:Nat):zl:=H.modify id fun _=>⟨0,0,0,[],0⟩
def kR (H:zl) (id j:Nat):(mU H id)[j]?= (H[j]?).map fun ob=>if id=j then ⟨0,0,0,[],0⟩ else ob:=by
 unfold mU;rw [pq]
 rfl
def wh {H:zl} {id:Nat} {id':Nat} {p:List eK} {x:Nat × List (List C)} (h:z6 (mU H id) id' p=some x):id'≠id∧z6 H id' p=some x:=by
 obtain ⟨ob,ho,hk,hg⟩:=jc h;rw [kR] at ho;cases hx:H[id']? with
 | none=>rw [hx] at ho;cases ho
 | some ob0=>
  rw [hx] at ho;simp only [dX,gu] at ho;by_cases hid:id=id'
  ·subst hid;simp at ho;subst ho;simp at hk
  ·rw [dN hid] at ho;subst ho;refine ⟨Ne.symm hid,?_⟩;unfold z6;rw [hx];simp only [hk,if_true];exact hg
def qd.gone {w:World} {E:Env} {H:zl} (h:qd w E H) (id:Nat):qd w E (mU H id) where
 n:=by rw [h.n];simp [mU]
 u9 id' ob p sz rows hob hx:=by
  obtain ⟨h1,h2⟩:=wh hx;rw [kR] at hob;cases hx':H[id']? with
  | none=>rw [hx'] at hob;cases hob
  | some ob0=>
   rw [hx'] at hob;simp only [dX,gu,dN (Ne.symm h1)] at hob;subst hob;exact h.u9 id' _ p sz rows hx' h2
 inj id1 p1 id2 p2 x y hx hy he:=h.inj id1 p1 id2 p2 x y (wh hx).2 (wh hy).2 he
 qs:=h.qs
 sep id' p x o u hx hu:=by
  obtain ⟨h1,h2⟩:=wh hx;obtain ⟨e1,ob,e2,e3⟩:=h.sep id' p x o u h2 hu;refine ⟨e1,ob,?_,e3⟩;rw [kR,e2];simp [Ne.symm h1]
 ty id' ob hob hk:=by
  rw [kR] at hob;cases hx':H[id']? with
  | none=>rw [hx'] at hob;cases hob
  | some ob0=>
   rw [hx'] at hob;simp only [dX,gu] at hob;by_cases hid:id=id'
   ·rw [dQ hid] at hob;subst hob;simp at hk
   ·rw [dN hid] at hob;subst hob;exact h.ty id' _ hx' hk
 fz id' ob hob:=by
  rw [kR] at hob;cases hx':H[id']? with
  | none=>rw [hx'] at hob;cases hob
  | some ob0=>
   rw [hx'] at hob;simp only [dX,gu] at hob;have h0:=h.fz id' ob0 hx';subst hob;split
   ·simp
   ·exact h0
def vB {H:zl} {id i:Nat} {ob:Ob} (h:(mU H id)[i]?= some ob) (hk:ob.kind=4):H[i]?= some ob:=by
 rw [kR] at h;cases hx:H[i]? with
 | none=>rw [hx] at h;cases h
 | some o=>
  rw [hx] at h;simp only [dX,gu] at h;split at h
  ·subst h;cases hk
  ·rw [h]
def zo.gone {B:Nat} {s:S} (id:Nat):zo B s ⟨s.tmps,mU s.H id⟩:=fun m w E a hs=>by
 have hg:∀ {i b},qE E (mU s.H id) i b->qE E s.H i b:=fun ⟨ob,cap,h1,h2,h3,h4⟩=>⟨ob,cap,vB h1 h2,h2,h3,h4⟩
 have hr:∀ {i b},jz (mU s.H id) i b->jz s.H i b:=fun ⟨ob,o,t,h1,h2,h3,h4⟩=>⟨ob,o,t,vB h1 h2,h2,h3,h4⟩
 have h0:∀ {b},jb E (mU s.H id) b->jb E s.H b:=fun ⟨i,p,x,h1,h2⟩=>⟨i,p,x,(wh h1).2,h2⟩
 refine ⟨E,⟨⟨hs.heap.base.gone id,?_⟩,hs.tmps,hs.defers,by have:=hs.base;simp [mU];omega⟩,⟨Env.mR.refl B E,rfl,rfl,rfl,dW _,fun _ _ _=>rfl,fun _ _ _ h=>.inl h,?_⟩⟩
 ·exact {
   val:=fun i ob h1 h2=>hs.heap.uy.val i ob (vB h1 h2) h2
   u9:=fun i b ob h1 h2=>hs.heap.uy.u9 i b ob (hg h1) (by obtain ⟨ob2,_,h3,h4,_⟩:=h1;rw [h2] at h3;cases h3;exact vB h2 h4)
   sep:=fun i b h1 h2=>hs.heap.uy.sep i b (hg h1) (h0 h2)
   inj:=fun i j b h1 h2=>hs.heap.uy.inj i j b (hg h1) (hg h2)
   st:=fun i b ob o u h1 h2 h3=>hs.heap.uy.st i b ob o u (hg h1) (by obtain ⟨ob2,_,h4,h5,_⟩:=h1;rw [h2] at h4;cases h4;exact vB h2 h5) h3
   top:=fun i ob k u h1 h2 h3=>hs.heap.uy.top i ob k u (vB h1 h2) h2 h3
   fy:=fun i ob o t h1 h2 h3=>hs.heap.uy.fy i ob o t (vB h1 h2) h2 h3
   wF:=fun i j b h1 h2=>hs.heap.uy.wF i j b (hr h1) (hr h2) }
 ·rintro b (hb | ⟨i,hb | hb⟩)
  ·exact .inr (.inl (h0 hb))
  ·exact .inr (.inr ⟨i,.inl (hg hb)⟩)
  ·exact .inr (.inr ⟨i,.inr (hr hb)⟩)
def qC.V3 {P:Program} {f:FuncId} {H H2:zl} {args:List C} {r:C} (hle:H.length<=H2.length) (h1:qC P f H args fun r1 H1=>zo H.length ⟨[r1],H1⟩ ⟨[r],H2⟩):zb P f H args r H2:=fun w E vs hh hl0=>by
 refine (h1 w E vs hh hl0).mono ?_;rintro e w' ⟨r1,H1,v,E',hw,h0,h2,h3,g⟩;have hHH:H.length<=H1.length:=bT
 obtain ⟨E2,hs,g2⟩:=hw 0 w' E' ⟨#[v],[]⟩ ⟨h2,LL.one h3,gA _,hHH⟩;have hn2:=hs.heap.n;refine ⟨v,E2,h0,hs.heap,hs.tmps.cons_inv.1,⟨⟨by rw [hh.n,hn2];exact hle,fun id hops hi=>?_,fun id hops hi=>?_,fun b o u hu=>g2.le.St _ _ _ (g.le.St _ _ _ hu),fun id k u hi hu=>?_⟩,g2.os.trans g.os,g2.tape.trans g.tape,g2.output.trans g.output,gW g.size g2.size,?_,?_,?_⟩⟩
 ·rw [hh.n] at hi;exact (g2.le.β id hops hi).trans (g.le.β id hops tO)
 ·rw [hh.n] at hi;exact (g2.le.κ id hops hi).trans (g.le.κ id hops tO)
 ·rw [hh.n] at hi;exact g2.le.G id k u hi (g.le.G id k u tO hu)
 ·intro k hk ho;exact cW
 ·intro b o u hu;rcases g2.jK b o u hu with h1 | h1 | h1
  ·exact g.jK b o u h1
  ·exact .inr (.inl (gW g.size h1))
  ·rcases g.own b h1 with h4 | h4
   ·exact .inr (.inl h4)
   ·exact .inr (.inr h4)
 ·intro b hb;rcases g2.own b hb with h1 | h1
  ·exact .inl (gW g.size h1)
  ·exact g.own b h1
end Go.Ab
namespace Go.Wor
open Go.Ab Go.Proofs Tryz Go.Hy Go.Gat Go.Nam Go.Hos Go.Con Go.Sna
def wT {c:eP} (h:y8 c):wV (jv c).1:=by
 unfold jv;split
 ·exact ⟨aj,aj,aj⟩
 ·refine ⟨h.zd,⟨aq h.zP.1,fun r hr=>?_⟩,h.zk⟩;simp only [gG] at hr;obtain ⟨q,hq,rfl⟩:=hr;exact ⟨(h.zP.2 q hq).2.1,(h.zP.2 q hq).2.2.1⟩
def lQ (c:eP):Int:=if (jv c).2.1≠0 then (jv c).2.1 else (qO (jv c).1).2
def y4 (c:eP):u3:=(qO (jv c).1).1
def Wf (l:List u3):((l.map zF).all fun x=>x.all zy)=true:=by
 rw [dV];intro r hr;obtain ⟨x,_,rfl⟩:=gG.1 hr
 rfl
abbrev iQ (m:uw) (was now:Int):uw:={ m with version:=was,zi:=0,end_:=0,other:=0,slot:=0,i:=now,pc:=1 }
def NC (w:Wor) (v:u3) (hn:w.ze.length < 1000000000):tn 119 [⟨1,37,8,[[I w.zn,I w.current,I w.lock,lI w.pins,.sl 1 [] 5 0 (w.ze.length) false,lL w.zd,eG w.counts,lR w.zr]],0⟩,⟨2,107,5,(w.ze).map zF,0⟩] [Cv v,.ref 0 [] 8 0 0] (.u1 [I w.current,I w.ze.length]) [⟨1,37,8,[[I w.zn,I w.ze.length,I w.lock,lI w.pins,.sl 2 [] 5 0 ((w.ze.length+1)) false,lL w.zd,eG w.counts,lR w.zr]],0⟩,⟨0,0,0,[],0⟩,⟨2,107,5,(w.ze++[v]).map zF,0⟩]:=by
 have hap:(Ob.mk 2 107 5 (w.ze.map zF) 0).rows++[zF v]=(w.ze++[v]).map zF:=bd
 refine qc (fn:=f119) func119 rfl aj (uH ?_);refine uE ?_;refine ⟨aj,Wf _,ay,by show _ * 104<=_;simp;omega,dd ?_⟩;refine ⟨.inl rfl,_,_,zo.gone 1,rfl,?_⟩;rw [<- hap];exact zo.u5 [0,1,3] [0] _ _ rfl rfl rfl rfl
def OD (w:Wor) (m:uw) (c:Int) (hc:y8 m.op.config) (he:lQ m.op.config=0) (hn:w.ze.length < 1000000000):
  tn 118 [⟨1,69,44,[zD (m)],0⟩,⟨1,37,8,[[I w.zn,I w.current,I w.lock,lI w.pins,.sl 2 [] 5 0 (w.ze.length) false,lL w.zd,eG w.counts,lR w.zr]],0⟩,⟨2,107,5,(w.ze).map zF,0⟩] [.ref 0 [] 44 0 0,.fn 119 [] [.ref 1 [] 8 0 0],I c] (Ce { ez m 6 3 w.ze.length with qR:=true }) [⟨1,69,44,[zD (iQ m w.current w.ze.length)],0⟩,⟨1,37,8,[[I w.zn,I w.ze.length,I w.lock,lI w.pins,.sl 3 [] 5 0 ((w.ze.length+1)) false,lL w.zd,eG w.counts,lR w.zr]],0⟩,⟨0,0,0,[],0⟩,⟨2,107,5,(w.ze++[y4 m.op.config]).map zF,0⟩]:=by
 have hb:=EU m.op.config hc.k;have hl:=Ix _ (wT hc)
 have h1:(jv m.op.config).2.1=0:=by
  unfold lQ at he;split at he
  ·contradiction
  ·rename_i hx;omega
 have h2:(qO (jv m.op.config).1).2=0:=by
  unfold lQ at he
  rwa [dN aw] at he
 unfold y4;generalize jv m.op.config=bv at hb hl h1 h2 ⊢;obtain ⟨sn,e1,e2⟩:=bv;cases h1
 have hl:tn 65 [] [Cs sn] (tV (qO sn)) []:=hl;have h2:(qO sn).2=0:=h2;show tn 118 _ _ _ [_,_,_,⟨2,107,5,(w.ze++[(qO sn).1]).map zF,0⟩];generalize qO sn=cv at hl h2 ⊢;obtain ⟨v,e3⟩:=cv;cases h2
 have hb:tn 40 [] [Cf m.op.config] (.u1 [Cs sn,I 0,I e2]) []:=hb;have hl:tn 65 [] [Cs sn] (.u1 [Cv v,I 0]) []:=hl;refine qc (fn:=f118) func118 rfl aj (uH ?_);refine ah hb ?_;(refine ya (dd ?_))
 refine ah hl ?_;(refine ya (dd ?_))
 refine af [1,2] (NC w v hn) ?_;refine .inl ⟨⟨false,[0,1,2,3,4,5,6],[3],[]⟩,au,uH ?_⟩;refine hZ ?_
 refine af [0] (BH (iQ m w.current w.ze.length) 6 3 w.ze.length) ?_;exact ⟨.inl rfl,_,_,.refl _,rfl,zo.u5 [0,1,2,8] [0] _ _ rfl rfl rfl rfl⟩
abbrev oG (f:Int):ef:=⟨9,0,0,0,0,0,f,⟨0,0,0,0,0,0⟩⟩
def PE (m:uw) (e:uz) (f:Int):Ag prog 164 [⟨1,69,44,[zD (m)],0⟩,⟨1,211,1,[[.ref 0 [] 44 0 0]],0⟩,⟨1,48,23,[zR (e)],0⟩,⟨1,104,3,[qK ⟨[],[],[]⟩],0⟩,⟨1,38,1,[[I f]],0⟩] [.ref 1 [] 1 0 0,.ref 2 [] 23 0 0,.ref 4 [] 1 0 0] [⟨1,69,44,[zD ({ m with done:=true,answer:=oG f })],0⟩,⟨1,211,1,[[.ref 0 [] 44 0 0]],0⟩,⟨1,48,23,[zR ({ e with done:=true,answer:=oG f })],0⟩,⟨1,104,3,[qK ⟨[],[],[]⟩],0⟩,⟨1,38,1,[[I f]],0⟩]:=by
 refine Ag.zU (fn:=f164) func164 rfl (uH ?_);exact ⟨.inr rfl,_,_,.refl _,rfl,rfl⟩
def NQ (m:uw) (c f:Int) (hc:xB m.op.config) (hf:(jv m.op.config).2.1=f) (h0:f≠0):
  tn 118 [⟨1,69,44,[zD (m)],0⟩] [.ref 0 [] 44 0 0,.fn 119 [] [.za],I c] (Ce { ez m 1 3 c with qR:=true,done:=true,answer:=oG f }) [⟨1,69,44,[zD ({ m with done:=true,answer:=oG f })],0⟩]:=by
 have hb:=EU m.op.config hc
 have h2:(jv m.op.config).1=⟨[],[],[]⟩:=by
  unfold jv at hf ⊢;split
  ·rfl
  ·rename_i h;rw [dN h] at hf;exact absurd hf.symm h0
 generalize jv m.op.config=bv at hb hf h2;obtain ⟨sn,e1,e2⟩:=bv;cases hf
 cases h2
 have hb:tn 40 [] [Cf m.op.config] (.u1 [Cs ⟨[],[],[]⟩,I e1,I e2]) []:=hb;refine qC.V3 (dW _) (qC.Vc (fn:=f118) func118 rfl (.HB ?_));conv=>whnf
 refine .inl ⟨rfl,_,_,.refl _,.HB (uH ?_)⟩;refine ah hb ?_;refine .inl ⟨rfl,_,_,.refl _,.HB (uH ?_)⟩;refine ⟨fun h=>absurd h (aq h0),fun _=>dd ?_⟩;refine .inl ⟨rfl,_,_,.refl _,?_⟩;refine mG.deferred (g:=164) (regs:=LP (behind 4 ((f118.body).getD .skip))) rfl rfl rfl rfl rfl rfl (uH ?_);refine ⟨_,rfl,uH ?_⟩;refine af [0] (BH m 1 3 c) ?_;refine ⟨_,PE m { ez m 1 3 c with qR:=true } e1,?_⟩;exact ⟨_,_,.refl _,rfl,cE 1⟩
def Ol (w:Wor) (h:qX w):tn 114 [] [Cw w] (.agg (eR w 0)) [⟨2,107,5,(w.ze).map zF,0⟩]:=by
 refine Af (fn:=f114) func114 rfl (uH ?_);refine ah (y9 w.pins h.pins) ?_;refine af [] (wK w.ze h.ze.1 fun v hv=>jI v (h.ze.2 v hv)) ?_;refine ah (vT w.zd h.zd) ?_;refine af [] (wJ w.counts h.counts.1 fun r hr=>yc r (h.counts.2 r hr)) ?_;refine ah (AJ w.zr h.zr) ?_;refine ⟨.inl rfl,_,_,zo.zV 1 0 6 rfl rfl rfl rfl (.inr rfl) rfl aj (shut_map (enc:=zN) (fun _=>rfl) w.counts) (z5 rfl),rfl,?_⟩;exact zo.u5 [3] [0] _ _ rfl rfl rfl (zc rfl (zc rfl (zc rfl (zc rfl (zc (zj fun r hr c hc=>((shut_map (enc:=zN) (fun _=>rfl) w.counts) r hr c hc).2) rfl)))))
def O8 (w:Wor) (m:uw) (sw:qX w) (ok:fe w) (hl:i64 m.listen) (hpc:m.pc=0) (hs:zY w m=true) (hc:y8 m.op.config) (he:lQ m.op.config=0):
  tn 98 [] [Cw w,Cm m] (.u1 [Cw { w with current:=w.ze.length,ze:=w.ze++[y4 m.op.config] },Cm (iQ m w.current w.ze.length),Ce { ez m 6 3 w.ze.length with qR:=true }]) []:=by
 refine ab func98 ?_;(repeat (first | refine uA ?_ | refine uB ?_))
 refine ah (zO w m ok hl) ?_;refine ⟨fun _=>dd ?_,fun h=>absurd ((hs).symm.trans h:true=false) ar⟩;(repeat (first | refine uA ?_ | refine uB ?_))
 refine tc ?_
 refine af [] (Ol w sw) ?_;(repeat (first | refine uA ?_ | refine uB ?_))
 refine af [1,6,5] (OD w m w.current hc he sw.ze.1) ?_;refine .inl ⟨⟨false,[0,1,2],[6,1,8],[]⟩,au,uH ?_⟩;refine hZ ?_
 exact ⟨.inl rfl,_,zo.zV 2 0 4 rfl rfl rfl rfl (.inr rfl) aj aj (shut_map (enc:=zF) (fun _=>rfl) _) (z5 rfl),rfl⟩
def NF (w:Wor) (m:uw) (f:Int) (sw:qX w) (ok:fe w) (hl:i64 m.listen) (hpc:m.pc=0) (hs:zY w m=true) (hc:xB m.op.config) (hf:(jv m.op.config).2.1=f) (h0:f≠0):
  tn 98 [] [Cw w,Cm m] (.u1 [Cw w,Cm { m with done:=true,answer:=oG f },Ce { ez m 1 3 w.current with qR:=true,done:=true,answer:=oG f }]) []:=by
 refine ab func98 ?_;(repeat (first | refine uA ?_ | refine uB ?_))
 refine ah (zO w m ok hl) ?_;refine ⟨fun _=>dd ?_,fun h=>absurd ((hs).symm.trans h:true=false) ar⟩;(repeat (first | refine uA ?_ | refine uB ?_))
 refine tc ?_
 refine ah (qw w sw) ?_;(repeat (first | refine uA ?_ | refine uB ?_))
 refine af [1] (NQ m w.current f hc hf h0) ?_;refine .inl ⟨⟨false,[0,1,2],[5,1,6],[]⟩,au,uH ?_⟩;refine hZ ?_
 exact uI
end Go.Wor
