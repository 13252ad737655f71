import Derived.RangeFuncLeaves
import Derived.Test.YtkbnjgogjccmfaaGreatRW
import Derived.Test.YtkbnjgogjccmfaaGreatRJ
import Derived.Test.YtkbnjgogjccmfaaGreatRV
set_option linter.all false
set_option maxRecDepth 100000
set_option maxHeartbeats 4000000
namespace Go.Wor
open Go.Ab Go.Proofs Tryz Go.Hy Go.Gat Go.Nam Go.Hos Go.Con Go.Sna
def kR (w:Wor) (m:uk):Bool:=w.zr.any (fun r=>r.version == m.version) || (m.version == w.current) || decide (m.zn < 0) || decide (w.zn < m.zn)
def Bb (m:uk) (a b c:Int):tn 120 [⟨1,69,44,[zD (m)],0⟩] [.ref 0 [] 44 0 0,I a,I b,I c] (Ce (u6 m a b c)) [⟨1,69,44,[zD (m)],0⟩]:=by
 refine aa func120 ?_;refine hZ ?_;exact dx
def N4 (w:Wor) (m:uk) (r:u7):tn 163 [⟨1,37,8,[zJ (w)],0⟩,⟨1,69,44,[zD (m)],0⟩] [.agg (xd r),.ref 1 [] 44 0 0] (Bo (r.version == m.version)) [⟨1,37,8,[zJ (w)],0⟩,⟨1,69,44,[zD (m)],0⟩]:=by
 refine aa func163 ?_;refine ⟨fun h=>?_,fun h=>?_⟩ <;> rw [h]
 ·refine dd ?_;exact cP
 ·refine dd ?_;exact cP
def II (w:Wor) (m:uk) (ok:eR w):tn 117 [] [Cw w,Cm m] (Bo (kR w m)) []:=by
 have hl:=ok.zr;refine ab func117 ?_;refine ⟨_,_,Go.Lim.I6 (fun r=>r.version == m.version) rfl (fun r=>N4 w m r) aw,dd ?_⟩;refine ⟨fun q1=>?_,fun q1=>?_⟩
 ·refine dd ?_;refine tc ?_
  (exact ⟨.inl rfl,_,.refl _,uN (by simp only [kR,q1,uc])⟩)
 refine dd ?_;refine tc ?_
 refine ⟨fun q2=>?_,fun q2=>?_⟩
 ·refine dd ?_;refine tc ?_
  (exact ⟨.inl rfl,_,.refl _,uN (by simp only [kR,q1,q2,uc,sA])⟩)
 refine dd ?_;refine tc ?_
 refine ⟨fun q3=>?_,fun q3=>?_⟩
 ·refine dd ?_;refine tc ?_
  (exact ⟨.inl rfl,_,.refl _,uN (by simp only [kR,q1,q2,q3,uc,sA])⟩)
 refine dd ?_;refine tc ?_
 refine ⟨fun q4=>?_,fun q4=>?_⟩
 ·refine dd ?_;refine tc ?_
  (exact ⟨.inl rfl,_,.refl _,uN (by have q5:decide (w.zn < m.zn)=true:=q4;simp only [kR,q5,sA])⟩)
 ·refine dd ?_;refine tc ?_
  (exact ⟨.inl rfl,_,.refl _,uN (by have q5:decide (w.zn < m.zn)=false:=q4;simp only [kR,q1,q2,q3,q5,Bool.or_false])⟩)
def NM (w:Wor) (m:uk) (sw:qV w) (ok:eR w) (hl:i64 m.listen) (hpc:m.pc=1) (hs:zY w m=true):
  tn 98 [] [Cw w,Cm m] (.uo [Cw w,Cm { m with zn:=w.zn,pc:=2 },Ce (u6 m 1 1 w.zn)]) []:=by
 refine ab func98 ?_;(repeat (first | refine uA ?_ | refine uB ?_))
 refine ah (zO w m ok hl) ?_;refine ⟨fun _=>dd ?_,fun h=>absurd ((hs).symm.trans h:true=false) ar⟩;(repeat (first | refine uA ?_ | refine uB ?_))
 refine tc ?_
 refine ah (qt w sw) ?_;(repeat (first | refine uA ?_ | refine uB ?_))
 refine .inl ⟨⟨true,[0,1,3],[0,1,5],[4]⟩,au,uH ?_⟩;refine hZ ?_
 refine af [1] (Bb { m with zn:=w.zn,pc:=2 } 1 1 w.zn) ?_;refine hZ ?_
 exact uI
def MZ (w:Wor) (h:qV w) (x:u7) (l:List u7) (hx:w.zr=x::l):tn 114 [] [Cw w] (.agg [I w.zn,I w.current,I w.lock,lI w.pins,lV w.ze,lL w.zd,eh w.counts,.sl 0 [] 3 0 w.zr.length false]) [⟨2,101,3,(w.zr).map xd,0⟩]:=by
 have hl:l.length < 1000000000:=by have:=h.zr;rw [hx] at this;exact cN
 have hc:=JJ x l hl;rw [<- hx] at hc;refine oP (fn:=f114) func114 rfl (uH ?_);refine ah (yP w.pins h.pins) ?_;refine af [] (wh w.ze h.ze.1 fun v hv=>jB v (h.ze.2 v hv)) ?_;refine ah (vE w.zd h.zd) ?_;refine af [] (wg w.counts h.counts.1 fun r hr=>xP r (h.counts.2 r hr)) ?_;refine af [] (hc) ?_;refine ⟨.inl rfl,_,_,(zo.zU 1 0 4 rfl rfl rfl rfl (.inr rfl) rfl aj (shut_map (enc:=zF) (fun _=>rfl) w.ze) (zZ rfl)).trans (zo.zU 1 0 6 rfl rfl rfl rfl (.inr rfl) rfl aj (shut_map (enc:=zN) (fun _=>rfl) w.counts) (zZ rfl)),rfl,?_⟩;exact zo.ur [5] [0] _ _ rfl rfl rfl (zc rfl (zc rfl (zc rfl (zc (zi fun r hr c hc=>((shut_map (enc:=zF) (fun _=>rfl) w.ze) r hr c hc).2) (zc (zi fun r hr c hc=>((shut_map (enc:=zN) (fun _=>rfl) w.counts) r hr c hc).2) rfl)))))
def UH:tn 161 [] [lR []] (.ui 1 3 []) []:=by
 refine ab func161 ?_;refine ⟨?_,?_⟩
 ·refine dd ?_;exact ⟨.inl rfl,_,zo.cell 2 rfl (WC.none 1 0 3),rfl⟩
 ·refine dd ?_;refine .inr ⟨rfl,dd ?_⟩;exact uI
def MY (w:Wor) (h:qV w) (hx:w.zr=[]):tn 114 [] [Cw w] (.agg [I w.zn,I w.current,I w.lock,lI w.pins,lV w.ze,lL w.zd,eh w.counts,.ui 1 3 []]) []:=by
 have hc:=UH;rw [<- hx] at hc;refine ab func114 ?_;refine ah (yP w.pins h.pins) ?_;refine af [] (wh w.ze h.ze.1 fun v hv=>jB v (h.ze.2 v hv)) ?_;refine ah (vE w.zd h.zd) ?_;refine af [] (wg w.counts h.counts.1 fun r hr=>xP r (h.counts.2 r hr)) ?_;refine ah hc ?_;exact ⟨.inl rfl,_,(zo.zU 1 0 4 rfl rfl rfl rfl (.inr rfl) rfl aj (shut_map (enc:=zF) (fun _=>rfl) w.ze) (zZ rfl)).trans (zo.zU 1 0 6 rfl rfl rfl rfl (.inr rfl) rfl aj (shut_map (enc:=zN) (fun _=>rfl) w.counts) (zZ rfl)),rfl⟩
def US (l:List u7):((l.map xd).all fun x=>x.all zy)=true:=by
 rw [dT];intro r hr;obtain ⟨x,_,rfl⟩:=gC.1 hr
 rfl
abbrev oC (m:uk):u3:=⟨8,m.i,0,0,0,0,0,⟨0,0,0,0,0,0⟩⟩
def OD (w:Wor) (m:uk) (x:u7) (l:List u7) (sw:qV w) (ok:eR w) (hl:i64 m.listen) (hpc:m.pc=2) (hs:zY w m=true) (hla:kR w m=false) (hx:w.zr=x::l):
  tn 98 [] [Cw w,Cm m] (.uo [Cw { w with zr:=w.zr++[⟨m.version,m.zn,false⟩] },Cm { m with done:=true,answer:=oC m },Ce { u6 m 2 11 m.version with done:=true,answer:=oC m }]) []:=by
 have hn:=sw.zr;have hap:(Ob.mk 2 101 3 (w.zr.map xd) 0).rows++[[I m.version,I m.zn,Bo false]]=(w.zr++[(⟨m.version,m.zn,false⟩:u7)]).map xd:=bb
 refine ab func98 ?_;(repeat (first | refine uA ?_ | refine uB ?_))
 refine ah (zO w m ok hl) ?_;refine ⟨fun _=>dd ?_,fun h=>absurd ((hs).symm.trans h:true=false) ar⟩;(repeat (first | refine uA ?_ | refine uB ?_))
 refine tc ?_
 refine ah (II w m ok) ?_;refine ⟨fun h=>absurd ((hla).symm.trans h:false=true) ar,fun _=>dd ?_⟩;refine tc ?_
 refine af [] (MZ w sw x l hx) ?_;(repeat (first | refine uA ?_ | refine uB ?_))
 refine ⟨aj,US _,ay,by show _ * 24<=_;simp;omega,dd ?_⟩;refine af [1] (Bb m 2 11 m.version) ?_;refine .inl ⟨⟨false,[1],[1],[]⟩,au,uH ?_⟩;refine hZ ?_
 rw [hap];refine .inl ⟨⟨false,[0,1,2],[1,6,8],[]⟩,au,uH ?_⟩;refine hZ ?_
 exact ⟨.inl rfl,_,zo.zU 2 0 7 rfl rfl rfl rfl (.inr rfl) aj aj (shut_map (enc:=xd) (fun _=>rfl) _) (zZ rfl),rfl⟩
def Nj (w:Wor) (m:uk) (sw:qV w) (ok:eR w) (hl:i64 m.listen) (hpc:m.pc=2) (hs:zY w m=true) (hla:kR w m=false) (hx:w.zr=[]):
  tn 98 [] [Cw w,Cm m] (.uo [Cw { w with zr:=w.zr++[⟨m.version,m.zn,false⟩] },Cm { m with done:=true,answer:=oC m },Ce { u6 m 2 11 m.version with done:=true,answer:=oC m }]) []:=by
 refine ab func98 ?_;(repeat (first | refine uA ?_ | refine uB ?_))
 refine ah (zO w m ok hl) ?_;refine ⟨fun _=>dd ?_,fun h=>absurd ((hs).symm.trans h:true=false) ar⟩;(repeat (first | refine uA ?_ | refine uB ?_))
 refine tc ?_
 refine ah (II w m ok) ?_;refine ⟨fun h=>absurd ((hla).symm.trans h:false=true) ar,fun _=>dd ?_⟩;refine tc ?_
 refine ah (MY w sw hx) ?_;(repeat (first | refine uA ?_ | refine uB ?_))
 refine .inr ⟨.inl rfl,ar,ar,dd ?_⟩;refine af [1] (Bb m 2 11 m.version) ?_;refine .inl ⟨⟨false,[1],[1],[]⟩,au,uH ?_⟩;refine hZ ?_
 refine .inl ⟨⟨false,[0,1,2],[1,5,7],[]⟩,au,uH ?_⟩;refine hZ ?_
 rw [hx];exact ⟨.inl rfl,_,zo.zU 2 0 7 rfl rfl rfl rfl (.inr rfl) aj aj (shut_map (enc:=xd) (fun _=>rfl) [(⟨m.version,m.zn,false⟩:u7)]) (zZ rfl),rfl⟩
end Go.Wor
namespace Go.Ab
section
variable {P:Program}
def LN {o:Oper} {t:List C} {H:zl} {R:C->zl->Prop} (h:jx P o (ev t) H R) (q:Option Nat) {w:World} {E:Env} {a:Act} {K:Act->World->Prop} {Q:Exit->Act->World->Prop}
  (hh:qs w E H) (hl:LL E t a.tmps.toList)
  (hk:∀ c H' w' E' a',R c H'->qs w' E' H'->LL E' (put t o.dst c) a'.tmps.toList->a'.defers=a.defers->Grow w E H w' E' H'->K a' w'):o.wpIn (fw q) 0 P a w K Q:=by
 have:=h w E a.eval hh (fun x _=>B3 hl x) (fun _=>rfl) (fun v w'=>K (a.put o.dst v) w') fun c H' v w' E' hR h1 h2 g=>
  hk c H' w' E' _ hR h1 (Dg (hl.mono g.le) h2 o.dst) (by cases o.dst <;> rfl) g
 have eS:∀ d,o.op≠.defer d:=fun d hd=>by
  have h2:=this;unfold execOp at h2;simp only [hd,Sem.run_bind] at h2;cases hr:(resolve a.eval d o.type).run P w with
  | ok x w1=>simp [hr,Result.andThen,lh] at h2
  | halt x w1=>simp [hr,Result.andThen,lh] at h2
 unfold Oper.wpIn;refine ⟨fun _ _=>trivial,?_⟩;rw [Oper.semAt_eq _ _ _ eS];generalize (execOp a.eval o).run P w=r at this ⊢;unfold lh at this;split at this
 ·exact dw
 ·exact dw
 ·rw [Oper.uponIn_enter];refine ⟨fun h=>(by cases h),callsIn_wide.2 (Calls.mono this ?_)⟩;rintro e w' ⟨v,rfl,hv⟩;exact hv
 ·rw [Oper.uponIn_round];refine ⟨fun h=>(by cases h),RoundIn.mono (F:=fw q) this ?_⟩;rintro e w' ⟨v,rfl,hv⟩;exact hv
 ·exact this.elim
def Dz {ops:Array Oper} {rest:List Oper}:∀ {l:List Oper} {t:List C} {H:zl} {K:List C->zl->Prop},lJ P ops l t H K->∀ (q:Option Nat) {w:World} {E:Env} {a:Act} {Q:Exit->Act->World->Prop},qs w E H->LL E t a.tmps.toList->
  (∀ t' H' w' E' a',K t' H'->qs w' E' H'->LL E' t' a'.tmps.toList->a'.defers=a.defers->Grow w E H w' E' H'->wpListIn (fw q) 0 P ops Q rest a' w')->wpListIn (fw q) 0 P ops Q (l++rest) a w
 | [],t,H,K,h,q,w,E,a,Q,hh,hl,hk=>hk t H w E a h hh hl rfl (Grow.refl w E H)
 | o::l,t,H,K,h,q,w,E,a,Q,hh,hl,hk=>by
  rw [IV] at h;unfold B9 at h;show wpListIn (fw q) 0 P ops Q (o::(l++rest)) a w;unfold wpListIn;split at h
  ·rename_i hw;rw [dO (jJ hl hw)];refine LN (E8 h) q hh hl fun c H' w' E' a' hR h1 h2 h3 g=>?_
   exact Dz (jC (k:=fun t=>lJ P ops l t H' K) hR) q h1 h2 fun t2 H2 w2 E2 a2 hK h4 h5 h6 g2=>hk t2 H2 w2 E2 a2 hK h4 h5 (h6.trans h3) (g.trans g2)
  ·rename_i hw;rw [dL (by rw [jJ hl hw];decide)];refine ⟨fun _ _=>trivial,?_⟩;exact Dz (jC (k:=fun t=>lJ P ops l t H K) h) q (a:=a.put o.dst undef) hh (Dg hl (.un) o.dst) fun t2 H2 w2 E2 a2 hK h4 h5 h6 g2=>hk t2 H2 w2 E2 a2 hK h4 h5 (h6.trans (by cases o.dst <;> rfl)) g2
  ·exact cK
def Dy:List (Nat × Array Oper)->Code
 | []=>.ret
 | r::l=>.seq (.region r.1 r.2 false) (Dy l)
def KW:Code->List (Nat × Array Oper)
 | .seq (.region i ops false) y=>(i,ops)::KW y
 | _=>[]
def FZ (P:Program) (l:List (Nat × Array Oper)):List C->zl->(List C->zl->Prop)->Prop:=
 List.rec (motive:=fun _=>List C->zl->(List C->zl->Prop)->Prop) (fun t H K=>K t H) (fun r _ next t H K=>lJ P r.2 r.2.toList t H fun t H=>next t H K) l
def K2:∀ {l:List (Nat × Array Oper)} {t:List C} {H:zl} {K:List C->zl->Prop},FZ P l t H K->∀ {w:World} {E:Env} {a:Act} {Q:Exit->Act->World->Prop},qs w E H->LL E t a.tmps.toList->
  (∀ t' H' w' E' a',K t' H'->qs w' E' H'->LL E' t' a'.tmps.toList->a'.defers=a.defers->Grow w E H w' E' H'->Q .ret a' w')->(Dy l).wpIn (fw none) 0 P Q a w
 | [],t,H,K,h,w,E,a,Q,hh,hl,hk=>wpIn_ret (hk t H w E a h hh hl rfl (Grow.refl w E H))
 | r::l,t,H,K,h,w,E,a,Q,hh,hl,hk=>by
  have h:lJ P r.2 r.2.toList t H fun t H=>FZ P l t H K:=h
  refine wpIn_seq (wpIn_region_list ?_);have:=Dz (rest:=[]) h none (Q:=Exit.then ((Dy l).wpIn (fw none) 0 P Q) Q) hh hl fun t2 H2 w2 E2 a2 hK h1 h2 h3 g=>wpListIn_nil (K2 hK h1 h2 fun t3 H3 w3 E3 a3 hK3 h4 h5 h6 g2=>hk t3 H3 w3 E3 a3 hK3 h4 h5 (h6.trans h3) (g.trans g2))
  rwa [rD] at this
def HU {m:Nat}:∀ {ds:List Deferred} {w:World} {fr:Frame} {cs:List Frame},Marks m w ds->fr.mode≠.run->fr.defers=ds->(fw none).room (cs.length+1+0)->
  ∃ w',StepsIn (Machine.fenced P (fw none)) P (lone fr cs w) (lone { fr with defers:=[] } cs w')∧w'.os=w.os∧w'.tape=w.tape∧w'.output=w.output∧w'.heap.size=w.heap.size∧(∀ k:Nat,k < m->w'.heap[k]?= w.heap[k]?)∧
   ∀ (k:Nat) (o:Obj),w.heap[k]?= some o->(∀ ds,o≠.deferred ds)->w'.heap[k]?= w.heap[k]?
 | [],w,fr,cs,_,hm,hd,hroom=>⟨w,by
   have:({ fr with defers:=[] }:Frame)=fr:=by cases fr;cases hd;rfl
   rw [this];exact StepsIn.refl _,rfl,rfl,rfl,rfl,fun _ _=>rfl,fun _ _ _ _=>rfl⟩
 | d::ds,w,fr,cs,⟨⟨D,h1,h2,h3,h4⟩,ht⟩,hm,hd,hroom=>by
  have htar:d.target=.collected D:=by rw [h1]
  have hs:=step_collected (P:=P) (cs:=cs) hm hd htar (run_takeDeferred h3);have i1:(lone fr cs w).fenced P (fw none):=fenced_out (n:=0) trivial hroom hm hd (fun g hg=>by rw [htar] at hg;simp [Target.leads] at hg);obtain ⟨w',s1,a1,a2,a3,a4,a5,a6⟩:=HU (fr:={ fr with defers:=[]++ds }) (cs:=cs) (Marks.mono (w':=w.putObj D (.deferred none)) aj ht fun D' hm hd=>World.putObj_heap_other (by rintro rfl;exact h4 hm)) hm rfl hroom;refine ⟨w',.head i1 hs s1,a1,a2,a3,a4.trans World.putObj_size,fun k hk=>(a5 k hk).trans (World.putObj_heap_other aw),fun k o hc hd=>?_⟩;have hne:k≠D:=by rintro rfl;rw [h3] at hc;cases hc;exact hd _ rfl
  have e:=World.putObj_heap_other (w:=w) (o:=.deferred none) hne;exact (a6 k o (e.trans hc) hd).trans e
def oS (P:Program) (f:FuncId) (H:zl) (args:List C) (H':zl):Prop:=
 ∀ (u:FrameMode) (w:World) (E:Env) (vs:Array Value),qs w E H->LL E args vs.toList->
  CallsDIn (fw none) 0 P f vs u w fun e u' w'=>u'=u∧∃ v E',e=.returned v∧qs w' E' H'∧Grow w E H w' E' H'
def oS.kT {f:FuncId} {fn:Func} {c:Code} {H H':zl} {args:List C} (hf:P.funcs[f]?= some fn) (hb:fn.body=some c)
  (hr:qU P H.length c ⟨entry fn args,H⟩ fun ex s1=>(ex=.ret∨ex=.normal)∧∃ s2 r,zo H.length s1 s2∧kc P fn s2=some r∧s2.H=H'):oS P f H args H':=fun u w E vs hh hl=>by
 have hrun:=hr none w.heap.size w E { tmps:=vs++Array.replicate (fn.ntmps - vs.size) undef,defers:=[] } (fun ex a1 w1=>(ex=.ret∨ex=.normal)∧∃ E' s2 r,kc P fn s2=some r∧s2.H=H'∧xD H.length w.heap.size w1 E' s2 a1∧ju H.length w E H w1 E' s2.H) (fun _=>rfl) ⟨hh,EJ hl,dU _,dU _⟩ fun ex s1 w' E1 a' hR hs1 g1=>by
  obtain ⟨hex,s',r,hw,hres,e⟩:=hR;obtain ⟨E',hs,g2⟩:=hw _ w' E1 a' hs1;exact ⟨hex,E',s',r,hres,e,hs,g1.trans g2⟩
 refine ⟨trivial,fun c₀ cs hu hroom=>?_⟩
 let b:Frame:={ (default:Frame) with fn:=f,kind:=.deferred,roundOf:=none }
 have henter:Frame.enter P f vs .deferred=b.atR { tmps:=vs++Array.replicate (fn.ntmps - vs.size) undef,defers:=[] } [.code c]:=by
  simp [Frame.enter,Frame.atR,hf,hb,b]
 have hc:({ c₀ with mode:=u }:Frame)=c₀:=by subst hu;rfl
 obtain ⟨e,a',w',⟨hex,E',s2,r,hres,rfl,hs,g⟩,harr⟩:=hrun b [] (c₀::cs) rfl trivial hroom;rw [<- henter] at harr
 have out:∀ (fr:Frame),fr.mode=.returning->fr.defers=a'.defers->fr.tmps=a'.tmps->fr.kind=.deferred->fr.fn=f->StepsIn (Machine.fenced P (fw none)) P (lone (Frame.enter P f vs .deferred) (c₀::cs) w) (lone fr (c₀::cs) w')->
   ∃ e u' w' fr,(u'=u∧∃ v E',e=.returned v∧qs w' E' s2.H∧Grow w E H w' E' s2.H)∧ComesIn (Machine.fenced P (fw none)) P (lone (Frame.enter P f vs .deferred) (c₀::cs) w) (lone fr ({ c₀ with mode:=u' }::cs) w') e∧fr.kind=.deferred∧fr.fn=f∧fr.going P w' e:=fun fr h1 h2 h3 h4 h5 hst=>by
  obtain ⟨w2,st,a1,a2,a3,a4,a5,a6⟩:=HU (P:=P) (cs:=c₀::cs) hs.defers (by rw [h1];simp) h2 hroom;have hs2:xD H.length w.heap.size w2 E' s2 { a' with defers:=[] }:=⟨hs.heap.cells a6,hs.tmps,bu,hs.base⟩;obtain ⟨v,hv,_⟩:=ET hs2 hres
  have hg:Grow w E H w2 E' s2.H:=⟨⟨bw,fun id hops hi=>g.le.β id hops tD,fun id hops hi=>g.le.κ id hops tD,g.le.St,fun id k u hi=>g.le.G id k u tD⟩,
   a1.trans g.os,a2.trans g.tape,a3.trans g.output,by rw [a4];exact g.size,fun k hk ho=>(a5 k hk).trans (g.frame k hk ho),g.jE,g.own⟩
  exact ⟨.returned v,u,w2,{ fr with defers:=[] },⟨rfl,v,E',rfl,hs2.heap,hg⟩,by rw [hc];exact StepsIn.trans hst st,h4,h5,h1,rfl,fn,by show P.funcs[fr.fn]?= _;rw [h5];exact hf,by show (results fn fr.tmps).run P w2=_;rw [h3];exact hv⟩
 rcases hex with rfl | rfl
 ·obtain ⟨todo,h0⟩:=harr.1 rfl;exact out _ rfl rfl rfl rfl rfl h0
 ·exact out _ rfl rfl rfl rfl rfl (StepsIn.trans harr (.one (fenced_calm (n:=0) (fr:=b.atR a' []) trivial hroom rfl) (stepR_end rfl)))
def Fin (P:Program) (fn:Func) (w0:World) (E0:Env) (H:zl) (R:C->zl->Prop):Exit->Act->World->Prop:=
 bodyPostM (fw none) 0 P fn fun e w'=>∃ r H' v E',R r H'∧e=.returned v∧qs w' E' H'∧L E' r v∧Grow w0 E0 H w' E' H'
def ma (P:Program) (fn:Func) (H:zl) (c:Code) (s:S) (R:C->zl->Prop):Prop:=
 ∀ (w0:World) (E0:Env) (w:World) (E:Env) (a:Act),qs w0 E0 H->xD H.length w0.heap.size w E s a->ju H.length w0 E0 H w E s.H->c.wpIn (fw none) 0 P (Fin P fn w0 E0 H R) a w
def BH (P:Program) (fn:Func) (H:zl) (R:C->zl->Prop) (s1:S):Prop:=∃ s2 r,zo H.length s1 s2∧kc P fn s2=some r∧R r s2.H
def Ff {fn:Func} {H:zl} {R:C->zl->Prop} {w0 w:World} {E0 E:Env} {s1:S} {a:Act} (hh:qs w0 E0 H) (hs:xD H.length w0.heap.size w E s1 a) (hg:ju H.length w0 E0 H w E s1.H) (h:BH P fn H R s1):
  LeavesInM (fw none) 0 P fn a.tmps (fun e w'=>∃ r H' v E',R r H'∧e=.returned v∧qs w' E' H'∧L E' r v∧Grow w0 E0 H w' E' H') a.defers .returning w:=by
 obtain ⟨s',r,hw,hres,hRr⟩:=h;obtain ⟨E',hs,g2⟩:=hw _ w E a hs;have g:=hg.trans g2;refine leaves hs.defers fun w2 a1 a2 a3 a4 a5 a6=>?_
 have hs2:xD H.length w0.heap.size w2 E' s' { a with defers:=[] }:=⟨hs.heap.cells a6,hs.tmps,bu,hs.base⟩;obtain ⟨v,h1,h2⟩:=ET hs2 hres
 have hg:Grow w0 E0 H w2 E' s'.H:=⟨⟨bw,fun id hops hi=>g.le.β id hops tD,fun id hops hi=>g.le.κ id hops tD,g.le.St,fun id k u hi=>g.le.G id k u tD⟩,
  a1.trans g.os,a2.trans g.tape,a3.trans g.output,by rw [a4];exact g.size,fun k hk ho=>(a5 k hk).trans (g.frame k hk ho),g.jE,g.own⟩
 exact ⟨v,h1,r,s'.H,v,E',hRr,rfl,hs2.heap,h2,hg⟩
def ma.kT {fn:Func} {H:zl} {c:Code} {s:S} {R:C->zl->Prop} (h:qU P H.length c s fun ex s1=>(ex=.ret∨ex=.normal)∧BH P fn H R s1):ma P fn H c s R:=fun w0 E0 w E a hh hs hg=>
 h none w0.heap.size w E a _ (fun _=>rfl) hs fun ex s1 w' E1 a' ⟨hex,hl⟩ hs1 g1=>by
  have:=Ff hh hs1 (hg.trans g1) hl;rcases hex with rfl | rfl <;> exact dw
def ma.seq {fn:Func} {H:zl} {x y:Code} {s:S} {R:C->zl->Prop} (h:qU P H.length x s fun ex s1=>(ex=.normal∧∃ s2,zo H.length s1 s2∧ma P fn H y s2 R)∨(ex=.ret∧BH P fn H R s1)):ma P fn H (.seq x y) s R:=fun w0 E0 w E a hh hs hg=>
 wpIn_seq (h none w0.heap.size w E a _ (fun _=>rfl) hs fun ex s1 w' E1 a' hR hs1 g1=>by
  rcases hR with ⟨rfl,s2,hw,hy⟩ | ⟨rfl,hl⟩
  ·obtain ⟨E2,hs2,g2⟩:=hw _ w' E1 a' hs1;exact hy w0 E0 w' E2 a' hh hs2 ((hg.trans g1).trans g2)
  ·exact Ff hh hs1 (hg.trans g1) hl)
def ma.deferred {fn:Func} {H:zl} {i:Nat} {oM oD:Oper} {cl:Call} {k:Tmp} {g:FuncId} {t:List C} {Hs:zl} {regs:List (Nat × Array Oper)} {R:C->zl->Prop}
  (hop:oD.op=.defer cl) (hcl:cl.callee=.value (.tmp k)) (hca:cl.args= #[]) (hgu:oD.guard=none) (hdst:oD.dst=none) (hcb:qm P g=true)
  (h:lJ P #[oM,oD] [oM] t Hs fun t1 H1=>∃ caps,t1[k]?= some (.fn g [] caps)∧FZ P regs t1 H1 fun t2 H2=>∃ H3,oS P g H2 caps H3∧BH P fn H R ⟨t2,H3⟩):
  ma P fn H (.seq (.region i #[oM,oD] false) (Dy regs)) ⟨t,Hs⟩ R:=fun w0 E0 w E a hh hs hg=>by
 refine wpIn_seq (wpIn_region_list ?_);refine Dz (rest:=[oD]) h none hs.heap hs.tmps fun t1 H1 w1 E1 a1 ⟨caps,hk,ht⟩ h1 h2 h3 g1=>?_
 unfold wpListIn;rw [dO (by unfold Region.wanted;rw [hgu])];obtain ⟨u,hu,hL⟩:=h2.get hk;rw [gE] at hu
 obtain ⟨zs,hv,h5,h6⟩:∃ zs,u=.func (.func g) #[] zs∧caps.length=zs.size∧(∀ (i:Nat) c y,caps[i]?= some c->zs[i]?= some y->L E1 c y):=by
  cases hL with
  | fn f first caps ys zs h1 h2 h3 h4=>exact ⟨zs,by rw [show ys= #[] from pK h1.symm],h2,h4⟩
 have hev:a1.eval (.tmp k)=.func (.func g) #[] zs:=by
  show a1.tmps.getD k undef=_;rw [gP,hu,hv]
  rfl
 have hr:(execOp a1.eval oD).run P w1=.ok (.defer { target:=.fn (.func g) zs,args:= #[] }) w1:=by
  unfold execOp;simp [hop,resolve,hcl,hca,hev,Deferred.ofValue]
 unfold Oper.wpIn;refine ⟨fun _ _=>trivial,?_⟩;rw [show (fw none).round=none from rfl,Oper.semAt_none,hr,Oper.uponIn_defer,hdst];refine wpListIn_nil (K2 ht h1 h2 fun t2 H2 w2 E2 a2 ⟨H3,hD,hlv⟩ h7 h8 h9 g2=>?_);have h9:a2.defers={ target:=.fn (.func g) zs,args:= #[] }::a.defers:=h9.trans (by show _::a1.defers=_;rw [h3]);have gB:ju H.length w0 E0 H w2 E2 H2:=hg.trans ((g1.trans g2).fh tB);have hM:Marks w0.heap.size w2 a.defers:=hs.defers.grow hs.heap (g1.trans g2);show LeavesInM (fw none) 0 P fn a2.tmps _ a2.defers .returning w2;rw [h9];refine ⟨aj,.inr ⟨fun h=>(by cases h),.func g,zs,g,zs,rfl,?_,fun _ _=>trivial,?_⟩⟩
 ·unfold qm at hcb;split at hcb
  rotate_left
  ·cases hcb
  rename_i fng hfn;simp only [dS,gR] at hcb;have hname : fng.name ≠ "runtime.NumGoroutine" := by simpa using hcb.1
  have hbody:fng.body≠none:=bC
  simp [invoke,callFunc,hfn,hname,hbody]
 have e2:LL E2 caps zs.toList:=⟨aq h5,fun i c y e1 e2=>(h6 i c y e1 uY).mono g2.le⟩;refine (hD .returning w2 E2 zs h7 e2).mono ?_;rintro e u' w3 ⟨rfl,v,E3,rfl,h10,g3⟩;have hb:H.length<=H2.length:=by have:=hs.base;have:=(g1.trans g2).le.n;rw [hs.heap.n,h7.n] at this;omega
 have hs3:xD H.length w0.heap.size w3 E3 ⟨t2,H3⟩ { a2 with defers:=a.defers }:=⟨h10,h8.mono g3.le,hM.grow h7 g3,by have:=g3.le.n;rw [h7.n,h10.n] at this;exact gQ hb this⟩;exact Ff hh hs3 (gB.trans (g3.fh (by rw [h7.n];exact hb))) hlv
def qB.T1 {f:FuncId} {fn:Func} {c:Code} {H:zl} {args:List C} {R:C->zl->Prop} (hf:P.funcs[f]?= some fn) (hb:fn.body=some c) (h:ma P fn H c ⟨entry fn args,H⟩ R):qB P f H args R:=fun w E vs hh hl=>
 (callsIn_wide (n:=0)).1 (callsIn_of_wp_marks hf hb trivial (h w E w E _ hh ⟨hh,EJ hl,dU _,dU _⟩ (ju.refl H.length w E H)))
def oS.zS {f:FuncId} {fn:Func} {c:Code} {H H':zl} {args:List C} (hf:P.funcs[f]?= some fn) (hb:fn.body=some c)
  (h:wpA P H.length c (entry fn args) H fun ex t1 H1=>(ex=.ret∨ex=.normal)∧∃ s2 r,zo H.length ⟨t1,H1⟩ s2∧kc P fn s2=some r∧s2.H=H'):oS P f H args H':=
 .kT hf hb ((jr h).mono fun ex s1 h1=>h1)
def ma.GA {fn:Func} {H Hs:zl} {x y:Code} {t:List C} {R:C->zl->Prop} (h:wpA P H.length x t Hs fun ex t1 H1=>(ex=.normal∧∃ t2 H2,zo H.length ⟨t1,H1⟩ ⟨t2,H2⟩∧ma P fn H y ⟨t2,H2⟩ R)∨(ex=.ret∧BH P fn H R ⟨t1,H1⟩)):ma P fn H (.seq x y) ⟨t,Hs⟩ R:=
 .seq ((jr h).mono fun ex s1 h1=>h1.imp (fun ⟨e,t2,H2,hw,hr⟩=>⟨e,_,hw,hr⟩) id)
end
def mE (H:zl) (id:Nat):zl:=H.modify id fun _=>⟨0,0,0,[],0⟩
def ku (H:zl) (id j:Nat):(mE H id)[j]?= (H[j]?).map fun ob=>if id=j then ⟨0,0,0,[],0⟩ else ob:=by
 unfold mE;rw [gZ]
 rfl
def kN {H:zl} {id:Nat} {id':Nat} {p:List ey} {x:Nat × List (List C)} (h:z6 (mE H id) id' p=some x):id'≠id∧z6 H id' p=some x:=by
 obtain ⟨ob,ho,hk,hg⟩:=q9 h;rw [ku] at ho;cases hx:H[id']? with
 | none=>rw [hx] at ho;cases ho
 | some ob0=>
  rw [hx] at ho;simp only [dV,gj] at ho;by_cases hid:id=id'
  ·subst hid;simp at ho;subst ho;simp at hk
  ·rw [dL hid] at ho;subst ho;refine ⟨Ne.symm hid,?_⟩;unfold z6;rw [hx];simp only [hk,if_true];exact hg
def qb.gone {w:World} {E:Env} {H:zl} (h:qb w E H) (id:Nat):qb w E (mE H id) where
 n:=by rw [h.n];simp [mE]
 uy id' ob p sz rows hob hx:=by
  obtain ⟨h1,h2⟩:=kN hx;rw [ku] at hob;cases hx':H[id']? with
  | none=>rw [hx'] at hob;cases hob
  | some ob0=>
   rw [hx'] at hob;simp only [dV,gj,dL (Ne.symm h1)] at hob;subst hob;exact h.uy id' _ p sz rows hx' h2
 inj id1 p1 id2 p2 x y hx hy he:=h.inj id1 p1 id2 p2 x y (kN hx).2 (kN hy).2 he
 qo:=h.qo
 sep id' p x o u hx hu:=by
  obtain ⟨h1,h2⟩:=kN hx;obtain ⟨e1,ob,e2,e3⟩:=h.sep id' p x o u h2 hu;refine ⟨e1,ob,?_,e3⟩;rw [ku,e2];simp [Ne.symm h1]
 ty id' ob hob hk:=by
  rw [ku] at hob;cases hx':H[id']? with
  | none=>rw [hx'] at hob;cases hob
  | some ob0=>
   rw [hx'] at hob;simp only [dV,gj] at hob;by_cases hid:id=id'
   ·rw [dO hid] at hob;subst hob;simp at hk
   ·rw [dL hid] at hob;subst hob;exact h.ty id' _ hx' hk
 fz id' ob hob:=by
  rw [ku] at hob;cases hx':H[id']? with
  | none=>rw [hx'] at hob;cases hob
  | some ob0=>
   rw [hx'] at hob;simp only [dV,gj] at hob;have h0:=h.fz id' ob0 hx';subst hob;split
   ·simp
   ·exact h0
def vo {H:zl} {id i:Nat} {ob:Ob} (h:(mE H id)[i]?= some ob) (hk:ob.kind=4):H[i]?= some ob:=by
 rw [ku] at h;cases hx:H[i]? with
 | none=>rw [hx] at h;cases h
 | some o=>
  rw [hx] at h;simp only [dV,gj] at h;split at h
  ·subst h;cases hk
  ·rw [h]
def zo.gone {B:Nat} {s:S} (id:Nat):zo B s ⟨s.tmps,mE s.H id⟩:=fun m w E a hs=>by
 have hg:∀ {i b},qD E (mE s.H id) i b->qD E s.H i b:=fun ⟨ob,cap,h1,h2,h3,h4⟩=>⟨ob,cap,vo h1 h2,h2,h3,h4⟩
 have hr:∀ {i b},jt (mE s.H id) i b->jt s.H i b:=fun ⟨ob,o,t,h1,h2,h3,h4⟩=>⟨ob,o,t,vo h1 h2,h2,h3,h4⟩
 have h0:∀ {b},q7 E (mE s.H id) b->q7 E s.H b:=fun ⟨i,p,x,h1,h2⟩=>⟨i,p,x,(kN h1).2,h2⟩
 refine ⟨E,⟨⟨hs.heap.base.gone id,?_⟩,hs.tmps,hs.defers,by have:=hs.base;simp [mE];omega⟩,⟨Env.mw.refl B E,rfl,rfl,rfl,dU _,fun _ _ _=>rfl,fun _ _ _ h=>.inl h,?_⟩⟩
 ·exact {
   val:=fun i ob h1 h2=>hs.heap.um.val i ob (vo h1 h2) h2
   uy:=fun i b ob h1 h2=>hs.heap.um.uy i b ob (hg h1) (by obtain ⟨ob2,_,h3,h4,_⟩:=h1;rw [h2] at h3;cases h3;exact vo h2 h4)
   sep:=fun i b h1 h2=>hs.heap.um.sep i b (hg h1) (h0 h2)
   inj:=fun i j b h1 h2=>hs.heap.um.inj i j b (hg h1) (hg h2)
   st:=fun i b ob o u h1 h2 h3=>hs.heap.um.st i b ob o u (hg h1) (by obtain ⟨ob2,_,h4,h5,_⟩:=h1;rw [h2] at h4;cases h4;exact vo h2 h5) h3
   top:=fun i ob k u h1 h2 h3=>hs.heap.um.top i ob k u (vo h1 h2) h2 h3
   fg:=fun i ob o t h1 h2 h3=>hs.heap.um.fg i ob o t (vo h1 h2) h2 h3
   wb:=fun i j b h1 h2=>hs.heap.um.wb i j b (hr h1) (hr h2) }
 ·rintro b (hb | ⟨i,hb | hb⟩)
  ·exact .inr (.inl (h0 hb))
  ·exact .inr (.inr ⟨i,.inl (hg hb)⟩)
  ·exact .inr (.inr ⟨i,.inr (hr hb)⟩)
def qB.Vk {P:Program} {f:FuncId} {H H2:zl} {args:List C} {r:C} (hle:H.length<=H2.length) (h1:qB P f H args fun r1 H1=>zo H.length ⟨[r1],H1⟩ ⟨[r],H2⟩):zb P f H args r H2:=fun w E vs hh hl0=>by
 refine (h1 w E vs hh hl0).mono ?_;rintro e w' ⟨r1,H1,v,E',hw,h0,h2,h3,g⟩;have hHH:H.length<=H1.length:=bR
 obtain ⟨E2,hs,g2⟩:=hw 0 w' E' ⟨#[v],[]⟩ ⟨h2,LL.one h3,gu _,hHH⟩;have hn2:=hs.heap.n;refine ⟨v,E2,h0,hs.heap,hs.tmps.cons_inv.1,⟨⟨by rw [hh.n,hn2];exact hle,fun id hops hi=>?_,fun id hops hi=>?_,fun b o u hu=>g2.le.St _ _ _ (g.le.St _ _ _ hu),fun id k u hi hu=>?_⟩,g2.os.trans g.os,g2.tape.trans g.tape,g2.output.trans g.output,gQ g.size g2.size,?_,?_,?_⟩⟩
 ·rw [hh.n] at hi;exact (g2.le.β id hops hi).trans (g.le.β id hops tO)
 ·rw [hh.n] at hi;exact (g2.le.κ id hops hi).trans (g.le.κ id hops tO)
 ·rw [hh.n] at hi;exact g2.le.G id k u hi (g.le.G id k u tO hu)
 ·intro k hk ho;exact cV
 ·intro b o u hu;rcases g2.jE b o u hu with h1 | h1 | h1
  ·exact g.jE b o u h1
  ·exact .inr (.inl (gQ g.size h1))
  ·rcases g.own b h1 with h4 | h4
   ·exact .inr (.inl h4)
   ·exact .inr (.inr h4)
 ·intro b hb;rcases g2.own b hb with h1 | h1
  ·exact .inl (gQ g.size h1)
  ·exact g.own b h1
end Go.Ab
namespace Go.Wor
open Go.Ab Go.Proofs Tryz Go.Hy Go.Gat Go.Nam Go.Hos Go.Con Go.Sna
def wx {c:eG} (h:xp c):wA (jo c).1:=by
 unfold jo;split
 ·exact ⟨aj,aj,aj⟩
 ·refine ⟨h.zd,⟨aq h.zQ.1,fun r hr=>?_⟩,h.zk⟩;simp only [gC] at hr;obtain ⟨q,hq,rfl⟩:=hr;exact ⟨(h.zQ.2 q hq).2.1,(h.zQ.2 q hq).2.2.1⟩
def lu (c:eG):Int:=if (jo c).2.1≠0 then (jo c).2.1 else (qM (jo c).1).2
def yN (c:eG):uq:=(qM (jo c).1).1
def UT (l:List uq):((l.map zF).all fun x=>x.all zy)=true:=by
 rw [dT];intro r hr;obtain ⟨x,_,rfl⟩:=gC.1 hr
 rfl
abbrev iE (m:uk) (was now:Int):uk:={ m with version:=was,zg:=0,end_:=0,other:=0,slot:=0,i:=now,pc:=1 }
def MM (w:Wor) (v:uq) (hn:w.ze.length < 1000000000):tn 119 [⟨1,37,8,[[I w.zn,I w.current,I w.lock,lI w.pins,.sl 1 [] 5 0 (w.ze.length) false,lL w.zd,eh w.counts,lR w.zr]],0⟩,⟨2,107,5,(w.ze).map zF,0⟩] [Cv v,.ref 0 [] 8 0 0] (.uo [I w.current,I w.ze.length]) [⟨1,37,8,[[I w.zn,I w.ze.length,I w.lock,lI w.pins,.sl 2 [] 5 0 ((w.ze.length+1)) false,lL w.zd,eh w.counts,lR w.zr]],0⟩,⟨0,0,0,[],0⟩,⟨2,107,5,(w.ze++[v]).map zF,0⟩]:=by
 have hap:(Ob.mk 2 107 5 (w.ze.map zF) 0).rows++[zF v]=(w.ze++[v]).map zF:=bb
 refine z8 (fn:=f119) func119 rfl aj (uH ?_);refine uE ?_;refine ⟨aj,UT _,ay,by show _ * 104<=_;simp;omega,dd ?_⟩;refine ⟨.inl rfl,_,_,zo.gone 1,rfl,?_⟩;rw [<- hap];exact zo.ur [0,1,3] [0] _ _ rfl rfl rfl rfl
def Ni (w:Wor) (m:uk) (c:Int) (hc:xp m.op.config) (he:lu m.op.config=0) (hn:w.ze.length < 1000000000):
  tn 118 [⟨1,69,44,[zD (m)],0⟩,⟨1,37,8,[[I w.zn,I w.current,I w.lock,lI w.pins,.sl 2 [] 5 0 (w.ze.length) false,lL w.zd,eh w.counts,lR w.zr]],0⟩,⟨2,107,5,(w.ze).map zF,0⟩] [.ref 0 [] 44 0 0,.fn 119 [] [.ref 1 [] 8 0 0],I c] (Ce { u6 m 6 3 w.ze.length with qP:=true }) [⟨1,69,44,[zD (iE m w.current w.ze.length)],0⟩,⟨1,37,8,[[I w.zn,I w.ze.length,I w.lock,lI w.pins,.sl 3 [] 5 0 ((w.ze.length+1)) false,lL w.zd,eh w.counts,lR w.zr]],0⟩,⟨0,0,0,[],0⟩,⟨2,107,5,(w.ze++[yN m.op.config]).map zF,0⟩]:=by
 have hb:=DX m.op.config hc;have hl:=H6 _ (wx hc)
 have h1:(jo m.op.config).2.1=0:=by
  unfold lu at he;split at he
  ·contradiction
  ·rename_i hx;omega
 have h2:(qM (jo m.op.config).1).2=0:=by
  unfold lu at he
  rwa [dL aw] at he
 unfold yN;generalize jo m.op.config=bv at hb hl h1 h2 ⊢;obtain ⟨sn,e1,e2⟩:=bv;cases h1
 have hl:tn 65 [] [Cs sn] (tV (qM sn)) []:=hl;have h2:(qM sn).2=0:=h2;show tn 118 _ _ _ [_,_,_,⟨2,107,5,(w.ze++[(qM sn).1]).map zF,0⟩];generalize qM sn=cv at hl h2 ⊢;obtain ⟨v,e3⟩:=cv;cases h2
 have hb:tn 40 [] [Cf m.op.config] (.uo [Cs sn,I 0,I e2]) []:=hb;have hl:tn 65 [] [Cs sn] (.uo [Cv v,I 0]) []:=hl;refine z8 (fn:=f118) func118 rfl aj (uH ?_);refine ah hb ?_;(refine ya (dd ?_))
 refine ah hl ?_;(refine ya (dd ?_))
 refine af [1,2] (MM w v hn) ?_;refine .inl ⟨⟨false,[0,1,2,3,4,5,6],[3],[]⟩,au,uH ?_⟩;refine hZ ?_
 refine af [0] (Bb (iE m w.current w.ze.length) 6 3 w.ze.length) ?_;exact ⟨.inl rfl,_,_,.refl _,rfl,zo.ur [0,1,2,8] [0] _ _ rfl rfl rfl rfl⟩
abbrev nZ (f:Int):u3:=⟨9,0,0,0,0,0,f,⟨0,0,0,0,0,0⟩⟩
def OB (m:uk) (e:uv) (f:Int):oS prog 164 [⟨1,69,44,[zD (m)],0⟩,⟨1,211,1,[[.ref 0 [] 44 0 0]],0⟩,⟨1,48,23,[zR (e)],0⟩,⟨1,104,3,[qJ ⟨[],[],[]⟩],0⟩,⟨1,38,1,[[I f]],0⟩] [.ref 1 [] 1 0 0,.ref 2 [] 23 0 0,.ref 4 [] 1 0 0] [⟨1,69,44,[zD ({ m with done:=true,answer:=nZ f })],0⟩,⟨1,211,1,[[.ref 0 [] 44 0 0]],0⟩,⟨1,48,23,[zR ({ e with done:=true,answer:=nZ f })],0⟩,⟨1,104,3,[qJ ⟨[],[],[]⟩],0⟩,⟨1,38,1,[[I f]],0⟩]:=by
 refine oS.zS (fn:=f164) func164 rfl (uH ?_);exact ⟨.inr rfl,_,_,.refl _,rfl,rfl⟩
def ME (m:uk) (c f:Int) (hc:xp m.op.config) (hf:(jo m.op.config).2.1=f) (h0:f≠0):
  tn 118 [⟨1,69,44,[zD (m)],0⟩] [.ref 0 [] 44 0 0,.fn 119 [] [.za],I c] (Ce { u6 m 1 3 c with qP:=true,done:=true,answer:=nZ f }) [⟨1,69,44,[zD ({ m with done:=true,answer:=nZ f })],0⟩]:=by
 have hb:=DX m.op.config hc
 have h2:(jo m.op.config).1=⟨[],[],[]⟩:=by
  unfold jo at hf ⊢;split
  ·rfl
  ·rename_i h;rw [dL h] at hf;exact absurd hf.symm h0
 generalize jo m.op.config=bv at hb hf h2;obtain ⟨sn,e1,e2⟩:=bv;cases hf
 cases h2
 have hb:tn 40 [] [Cf m.op.config] (.uo [Cs ⟨[],[],[]⟩,I e1,I e2]) []:=hb;refine qB.Vk (dU _) (qB.T1 (fn:=f118) func118 rfl (.GA ?_));conv=>whnf
 refine .inl ⟨rfl,_,_,.refl _,.GA (uH ?_)⟩;refine ah hb ?_;refine .inl ⟨rfl,_,_,.refl _,.GA (uH ?_)⟩;refine ⟨fun h=>absurd h (aq h0),fun _=>dd ?_⟩;refine .inl ⟨rfl,_,_,.refl _,?_⟩;refine ma.deferred (g:=164) (regs:=KW (behind 4 ((f118.body).getD .skip))) rfl rfl rfl rfl rfl rfl (uH ?_);refine ⟨_,rfl,uH ?_⟩;refine af [0] (Bb m 1 3 c) ?_;refine ⟨_,OB m { u6 m 1 3 c with qP:=true } e1,?_⟩;exact ⟨_,_,.refl _,rfl,cE 1⟩
def M0 (w:Wor) (h:qV w):tn 114 [] [Cw w] (.agg (eD w 0)) [⟨2,107,5,(w.ze).map zF,0⟩]:=by
 refine oP (fn:=f114) func114 rfl (uH ?_);refine ah (yP w.pins h.pins) ?_;refine af [] (wh w.ze h.ze.1 fun v hv=>jB v (h.ze.2 v hv)) ?_;refine ah (vE w.zd h.zd) ?_;refine af [] (wg w.counts h.counts.1 fun r hr=>xP r (h.counts.2 r hr)) ?_;refine ah (wL w.zr h.zr) ?_;refine ⟨.inl rfl,_,_,zo.zU 1 0 6 rfl rfl rfl rfl (.inr rfl) rfl aj (shut_map (enc:=zN) (fun _=>rfl) w.counts) (zZ rfl),rfl,?_⟩;exact zo.ur [3] [0] _ _ rfl rfl rfl (zc rfl (zc rfl (zc rfl (zc rfl (zc (zi fun r hr c hc=>((shut_map (enc:=zN) (fun _=>rfl) w.counts) r hr c hc).2) rfl)))))
def NL (w:Wor) (m:uk) (sw:qV w) (ok:eR w) (hl:i64 m.listen) (hpc:m.pc=0) (hs:zY w m=true) (hc:xp m.op.config) (he:lu m.op.config=0):
  tn 98 [] [Cw w,Cm m] (.uo [Cw { w with current:=w.ze.length,ze:=w.ze++[yN m.op.config] },Cm (iE m w.current w.ze.length),Ce { u6 m 6 3 w.ze.length with qP:=true }]) []:=by
 refine ab func98 ?_;(repeat (first | refine uA ?_ | refine uB ?_))
 refine ah (zO w m ok hl) ?_;refine ⟨fun _=>dd ?_,fun h=>absurd ((hs).symm.trans h:true=false) ar⟩;(repeat (first | refine uA ?_ | refine uB ?_))
 refine tc ?_
 refine af [] (M0 w sw) ?_;(repeat (first | refine uA ?_ | refine uB ?_))
 refine af [1,6,5] (Ni w m w.current hc he sw.ze.1) ?_;refine .inl ⟨⟨false,[0,1,2],[6,1,8],[]⟩,au,uH ?_⟩;refine hZ ?_
 exact ⟨.inl rfl,_,zo.zU 2 0 4 rfl rfl rfl rfl (.inr rfl) aj aj (shut_map (enc:=zF) (fun _=>rfl) _) (zZ rfl),rfl⟩
def MO (w:Wor) (m:uk) (f:Int) (sw:qV w) (ok:eR w) (hl:i64 m.listen) (hpc:m.pc=0) (hs:zY w m=true) (hc:xp m.op.config) (hf:(jo m.op.config).2.1=f) (h0:f≠0):
  tn 98 [] [Cw w,Cm m] (.uo [Cw w,Cm { m with done:=true,answer:=nZ f },Ce { u6 m 1 3 w.current with qP:=true,done:=true,answer:=nZ f }]) []:=by
 refine ab func98 ?_;(repeat (first | refine uA ?_ | refine uB ?_))
 refine ah (zO w m ok hl) ?_;refine ⟨fun _=>dd ?_,fun h=>absurd ((hs).symm.trans h:true=false) ar⟩;(repeat (first | refine uA ?_ | refine uB ?_))
 refine tc ?_
 refine ah (qt w sw) ?_;(repeat (first | refine uA ?_ | refine uB ?_))
 refine af [1] (ME m w.current f hc hf h0) ?_;refine .inl ⟨⟨false,[0,1,2],[5,1,6],[]⟩,au,uH ?_⟩;refine hZ ?_
 exact uI
end Go.Wor
