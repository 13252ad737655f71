import Derived.RangeFuncLeaves
import Derived.Test.YtkbnjgogjccmfaaGreatSW
import Derived.Test.YtkbnjgogjccmfaaGreatSJ
import Derived.Test.YtkbnjgogjccmfaaGreatSV
set_option linter.all false
set_option maxRecDepth 100000
set_option maxHeartbeats 4000000
namespace Go.Wor
open Go.Ab Go.Proofs Tryz Go.Hy Go.Gat Go.Nam Go.Hos Go.Con Go.Sna
def wx (w:Wor) (m:u3):Bool:=w.zr.any (fun r=>r.version == m.version) || (m.version == w.current) || decide (m.zn < 0) || decide (w.zn < m.zn)
def BR (m:u3) (a b c:Int):to 120 [⟨1,69,44,[zD (m)],0⟩] [.ref 0 [] 44 0 0,I a,I b,I c] (Ce (eI m a b c)) [⟨1,69,44,[zD (m)],0⟩]:=by
 refine aa func120 ?_;refine tc ?_;exact dC
def PC (w:Wor) (m:u3) (r:eJ):to 163 [⟨1,37,8,[zJ (w)],0⟩,⟨1,69,44,[zD (m)],0⟩] [.agg (xt r),.ref 1 [] 44 0 0] (Bo (r.version == m.version)) [⟨1,37,8,[zJ (w)],0⟩,⟨1,69,44,[zD (m)],0⟩]:=by
 refine aa func163 ?_;refine ⟨fun h=>?_,fun h=>?_⟩ <;> rw [h]
 ·refine dd ?_;exact cR
 ·refine dd ?_;exact cR
def JD (w:Wor) (m:u3) (ok:fm w):to 117 [] [Cw w,Cm m] (Bo (wx w m)) []:=by
 have hl:=ok.zr;refine ab func117 ?_;refine ⟨_,_,Go.Lim.KF (fun r=>r.version == m.version) rfl (fun r=>PC w m r) aw,dd ?_⟩;refine ⟨fun q1=>?_,fun q1=>?_⟩
 ·refine dd ?_;refine td ?_
  (exact ⟨.inl rfl,_,.refl _,uN (by simp only [wx,q1,uu])⟩)
 refine dd ?_;refine td ?_
 refine ⟨fun q2=>?_,fun q2=>?_⟩
 ·refine dd ?_;refine td ?_
  (exact ⟨.inl rfl,_,.refl _,uN (by simp only [wx,q1,q2,uu,sN])⟩)
 refine dd ?_;refine td ?_
 refine ⟨fun q3=>?_,fun q3=>?_⟩
 ·refine dd ?_;refine td ?_
  (exact ⟨.inl rfl,_,.refl _,uN (by simp only [wx,q1,q2,q3,uu,sN])⟩)
 refine dd ?_;refine td ?_
 refine ⟨fun q4=>?_,fun q4=>?_⟩
 ·refine dd ?_;refine td ?_
  (exact ⟨.inl rfl,_,.refl _,uN (by have q5:decide (w.zn < m.zn)=true:=q4;simp only [wx,q5,sN])⟩)
 ·refine dd ?_;refine td ?_
  (exact ⟨.inl rfl,_,.refl _,uN (by have q5:decide (w.zn < m.zn)=false:=q4;simp only [wx,q1,q2,q3,q5,Bool.or_false])⟩)
def Pk (w:Wor) (m:u3) (sw:qZ w) (ok:fm w) (hl:i64 m.listen) (hpc:m.pc=1) (hs:z6 w m=true):
  to 98 [] [Cw w,Cm m] (.u7 [Cw w,Cm { m with zn:=w.zn,pc:=2 },Ce (eI m 1 1 w.zn)]) []:=by
 refine ab func98 ?_;(repeat (first | refine uA ?_ | refine uB ?_))
 refine ah (zO w m ok hl) ?_;refine ⟨fun _=>dd ?_,fun h=>absurd ((hs).symm.trans h:true=false) ar⟩;(repeat (first | refine uA ?_ | refine uB ?_))
 refine td ?_
 refine ah (qy w sw) ?_;(repeat (first | refine uA ?_ | refine uB ?_))
 refine .inl ⟨⟨true,[0,1,3],[0,1,5],[4]⟩,au,uH ?_⟩;refine tc ?_
 refine af [1] (BR { m with zn:=w.zn,pc:=2 } 1 1 w.zn) ?_;refine tc ?_
 exact uI
def OP (w:Wor) (h:qZ w) (x:eJ) (l:List eJ) (hx:w.zr=x::l):to 114 [] [Cw w] (.agg [I w.zn,I w.current,I w.lock,lI w.pins,lV w.ze,lL w.zd,eM w.counts,.sl 0 [] 3 0 w.zr.length false]) [⟨2,101,3,(w.zr).map xt,0⟩]:=by
 have hl:l.length < 1000000000:=by have:=h.zr;rw [hx] at this;exact cQ
 have hc:=K1 x l hl;rw [<- hx] at hc;refine Ar (fn:=f114) func114 rfl (uH ?_);refine ah (vc w.pins h.pins) ?_;refine af [] (wQ w.ze h.ze.1 fun v hv=>jM v (h.ze.2 v hv)) ?_;refine ah (vX w.zd h.zd) ?_;refine af [] (wP w.counts h.counts.1 fun r hr=>yg r (h.counts.2 r hr)) ?_;refine af [] (hc) ?_;refine ⟨.inl rfl,_,_,(zp.zV 1 0 4 rfl rfl rfl rfl (.inr rfl) rfl aj (shut_map (enc:=zF) (fun _=>rfl) w.ze) (qa rfl)).trans (zp.zV 1 0 6 rfl rfl rfl rfl (.inr rfl) rfl aj (shut_map (enc:=zN) (fun _=>rfl) w.counts) (qa rfl)),rfl,?_⟩;exact zp.ed [5] [0] _ _ rfl rfl rfl (zc rfl (zc rfl (zc rfl (zc (zj fun r hr c hc=>((shut_map (enc:=zF) (fun _=>rfl) w.ze) r hr c hc).2) (zc (zj fun r hr c hc=>((shut_map (enc:=zN) (fun _=>rfl) w.counts) r hr c hc).2) rfl)))))
def Wx:to 161 [] [lR []] (.u1 1 3 []) []:=by
 refine ab func161 ?_;refine ⟨?_,?_⟩
 ·refine dd ?_;exact ⟨.inl rfl,_,zp.cell 2 rfl (WC.none 1 0 3),rfl⟩
 ·refine dd ?_;refine .inr ⟨rfl,dd ?_⟩;exact uI
def OO (w:Wor) (h:qZ w) (hx:w.zr=[]):to 114 [] [Cw w] (.agg [I w.zn,I w.current,I w.lock,lI w.pins,lV w.ze,lL w.zd,eM w.counts,.u1 1 3 []]) []:=by
 have hc:=Wx;rw [<- hx] at hc;refine ab func114 ?_;refine ah (vc w.pins h.pins) ?_;refine af [] (wQ w.ze h.ze.1 fun v hv=>jM v (h.ze.2 v hv)) ?_;refine ah (vX w.zd h.zd) ?_;refine af [] (wP w.counts h.counts.1 fun r hr=>yg r (h.counts.2 r hr)) ?_;refine ah hc ?_;exact ⟨.inl rfl,_,(zp.zV 1 0 4 rfl rfl rfl rfl (.inr rfl) rfl aj (shut_map (enc:=zF) (fun _=>rfl) w.ze) (qa rfl)).trans (zp.zV 1 0 6 rfl rfl rfl rfl (.inr rfl) rfl aj (shut_map (enc:=zN) (fun _=>rfl) w.counts) (qa rfl)),rfl⟩
def Wg (l:List eJ):((l.map xt).all fun x=>x.all zy)=true:=by
 rw [dZ];intro r hr;obtain ⟨x,_,rfl⟩:=gL.1 hr
 rfl
abbrev Ad (m:u3):eC:=⟨8,m.i,0,0,0,0,0,⟨0,0,0,0,0,0⟩⟩
def Pl (w:Wor) (m:u3) (x:eJ) (l:List eJ) (sw:qZ w) (ok:fm w) (hl:i64 m.listen) (hpc:m.pc=2) (hs:z6 w m=true) (hla:wx w m=false) (hx:w.zr=x::l):
  to 98 [] [Cw w,Cm m] (.u7 [Cw { w with zr:=w.zr++[⟨m.version,m.zn,false⟩] },Cm { m with done:=true,answer:=Ad m },Ce { eI m 2 11 m.version with done:=true,answer:=Ad m }]) []:=by
 have hn:=sw.zr;have hap:(Ob.mk 2 101 3 (w.zr.map xt) 0).rows++[[I m.version,I m.zn,Bo false]]=(w.zr++[(⟨m.version,m.zn,false⟩:eJ)]).map xt:=bc
 refine ab func98 ?_;(repeat (first | refine uA ?_ | refine uB ?_))
 refine ah (zO w m ok hl) ?_;refine ⟨fun _=>dd ?_,fun h=>absurd ((hs).symm.trans h:true=false) ar⟩;(repeat (first | refine uA ?_ | refine uB ?_))
 refine td ?_
 refine ah (JD w m ok) ?_;refine ⟨fun h=>absurd ((hla).symm.trans h:false=true) ar,fun _=>dd ?_⟩;refine td ?_
 refine af [] (OP w sw x l hx) ?_;(repeat (first | refine uA ?_ | refine uB ?_))
 refine ⟨aj,Wg _,ay,by show _ * 24<=_;simp;omega,dd ?_⟩;refine af [1] (BR m 2 11 m.version) ?_;refine .inl ⟨⟨false,[1],[1],[]⟩,au,uH ?_⟩;refine tc ?_
 rw [hap];refine .inl ⟨⟨false,[0,1,2],[1,6,8],[]⟩,au,uH ?_⟩;refine tc ?_
 exact ⟨.inl rfl,_,zp.zV 2 0 7 rfl rfl rfl rfl (.inr rfl) aj aj (shut_map (enc:=xt) (fun _=>rfl) _) (qa rfl),rfl⟩
def Pc (w:Wor) (m:u3) (sw:qZ w) (ok:fm w) (hl:i64 m.listen) (hpc:m.pc=2) (hs:z6 w m=true) (hla:wx w m=false) (hx:w.zr=[]):
  to 98 [] [Cw w,Cm m] (.u7 [Cw { w with zr:=w.zr++[⟨m.version,m.zn,false⟩] },Cm { m with done:=true,answer:=Ad m },Ce { eI m 2 11 m.version with done:=true,answer:=Ad m }]) []:=by
 refine ab func98 ?_;(repeat (first | refine uA ?_ | refine uB ?_))
 refine ah (zO w m ok hl) ?_;refine ⟨fun _=>dd ?_,fun h=>absurd ((hs).symm.trans h:true=false) ar⟩;(repeat (first | refine uA ?_ | refine uB ?_))
 refine td ?_
 refine ah (JD w m ok) ?_;refine ⟨fun h=>absurd ((hla).symm.trans h:false=true) ar,fun _=>dd ?_⟩;refine td ?_
 refine ah (OO w sw hx) ?_;(repeat (first | refine uA ?_ | refine uB ?_))
 refine .inr ⟨.inl rfl,ar,ar,dd ?_⟩;refine af [1] (BR m 2 11 m.version) ?_;refine .inl ⟨⟨false,[1],[1],[]⟩,au,uH ?_⟩;refine tc ?_
 refine .inl ⟨⟨false,[0,1,2],[1,5,7],[]⟩,au,uH ?_⟩;refine tc ?_
 rw [hx];exact ⟨.inl rfl,_,zp.zV 2 0 7 rfl rfl rfl rfl (.inr rfl) aj aj (shut_map (enc:=xt) (fun _=>rfl) [(⟨m.version,m.zn,false⟩:eJ)]) (qa rfl),rfl⟩
end Go.Wor
namespace Go.Ab
section
variable {P:Program}
def Nl {o:Oper} {t:List C} {H:zl} {R:C->zl->Prop} (h:jI P o (ev t) H R) (q:Option Nat) {w:World} {E:Env} {a:Act} {K:Act->World->Prop} {Q:Exit->Act->World->Prop}
  (hh:qx w E H) (hl:LL E t a.tmps.toList)
  (hk:∀ c H' w' E' a',R c H'->qx w' E' H'->LL E' (put t o.dst c) a'.tmps.toList->a'.defers=a.defers->Grow w E H w' E' H'->K a' w'):o.wpIn (fw q) 0 P a w K Q:=by
 have:=h w E a.eval hh (fun x _=>C1 hl x) (fun _=>rfl) (fun v w'=>K (a.put o.dst v) w') fun c H' v w' E' hR h1 h2 g=>
  hk c H' w' E' _ hR h1 (D9 (hl.mono g.le) h2 o.dst) (by cases o.dst <;> rfl) g
 have fp:∀ d,o.op≠.defer d:=fun d hd=>by
  have h2:=this;unfold execOp at h2;simp only [hd,Sem.run_bind] at h2;cases hr:(resolve a.eval d o.type).run P w with
  | ok x w1=>simp [hr,Result.andThen,mf] at h2
  | halt x w1=>simp [hr,Result.andThen,mf] at h2
 unfold Oper.wpIn;refine ⟨fun _ _=>trivial,?_⟩;rw [Oper.semAt_eq _ _ _ fp];generalize (execOp a.eval o).run P w=r at this ⊢;unfold mf at this;split at this
 ·exact dB
 ·exact dB
 ·rw [Oper.uponIn_enter];refine ⟨fun h=>(by cases h),callsIn_wide.2 (Calls.mono this ?_)⟩;rintro e w' ⟨v,rfl,hv⟩;exact hv
 ·rw [Oper.uponIn_round];refine ⟨fun h=>(by cases h),RoundIn.mono (F:=fw q) this ?_⟩;rintro e w' ⟨v,rfl,hv⟩;exact hv
 ·exact this.elim
def EB {ops:Array Oper} {rest:List Oper}:∀ {l:List Oper} {t:List C} {H:zl} {K:List C->zl->Prop},mz P ops l t H K->∀ (q:Option Nat) {w:World} {E:Env} {a:Act} {Q:Exit->Act->World->Prop},qx w E H->LL E t a.tmps.toList->
  (∀ t' H' w' E' a',K t' H'->qx w' E' H'->LL E' t' a'.tmps.toList->a'.defers=a.defers->Grow w E H w' E' H'->wpListIn (fw q) 0 P ops Q rest a' w')->wpListIn (fw q) 0 P ops Q (l++rest) a w
 | [],t,H,K,h,q,w,E,a,Q,hh,hl,hk=>hk t H w E a h hh hl rfl (Grow.refl w E H)
 | o::l,t,H,K,h,q,w,E,a,Q,hh,hl,hk=>by
  rw [Kk] at h;unfold C9 at h;show wpListIn (fw q) 0 P ops Q (o::(l++rest)) a w;unfold wpListIn;split at h
  ·rename_i hw;rw [dU (jV hl hw)];refine Nl (F8 h) q hh hl fun c H' w' E' a' hR h1 h2 h3 g=>?_
   exact EB (jN (k:=fun t=>mz P ops l t H' K) hR) q h1 h2 fun t2 H2 w2 E2 a2 hK h4 h5 h6 g2=>hk t2 H2 w2 E2 a2 hK h4 h5 (h6.trans h3) (g.trans g2)
  ·rename_i hw;rw [dR (by rw [jV hl hw];decide)];refine ⟨fun _ _=>trivial,?_⟩;exact EB (jN (k:=fun t=>mz P ops l t H K) h) q (a:=a.put o.dst undef) hh (D9 hl (.un) o.dst) fun t2 H2 w2 E2 a2 hK h4 h5 h6 g2=>hk t2 H2 w2 E2 a2 hK h4 h5 (h6.trans (by cases o.dst <;> rfl)) g2
  ·exact cN
def EF:List (Nat × Array Oper)->Code
 | []=>.ret
 | r::l=>.seq (.region r.1 r.2 false) (EF l)
def Mt:Code->List (Nat × Array Oper)
 | .seq (.region i ops false) y=>(i,ops)::Mt y
 | _=>[]
def Hg (P:Program) (l:List (Nat × Array Oper)):List C->zl->(List C->zl->Prop)->Prop:=
 List.rec (motive:=fun _=>List C->zl->(List C->zl->Prop)->Prop) (fun t H K=>K t H) (fun r _ next t H K=>mz P r.2 r.2.toList t H fun t H=>next t H K) l
def Mn:∀ {l:List (Nat × Array Oper)} {t:List C} {H:zl} {K:List C->zl->Prop},Hg P l t H K->∀ {w:World} {E:Env} {a:Act} {Q:Exit->Act->World->Prop},qx w E H->LL E t a.tmps.toList->
  (∀ t' H' w' E' a',K t' H'->qx w' E' H'->LL E' t' a'.tmps.toList->a'.defers=a.defers->Grow w E H w' E' H'->Q .ret a' w')->(EF l).wpIn (fw none) 0 P Q a w
 | [],t,H,K,h,w,E,a,Q,hh,hl,hk=>wpIn_ret (hk t H w E a h hh hl rfl (Grow.refl w E H))
 | r::l,t,H,K,h,w,E,a,Q,hh,hl,hk=>by
  have h:mz P r.2 r.2.toList t H fun t H=>Hg P l t H K:=h
  refine wpIn_seq (wpIn_region_list ?_);have:=EB (rest:=[]) h none (Q:=Exit.then ((EF l).wpIn (fw none) 0 P Q) Q) hh hl fun t2 H2 w2 E2 a2 hK h1 h2 h3 g=>wpListIn_nil (Mn hK h1 h2 fun t3 H3 w3 E3 a3 hK3 h4 h5 h6 g2=>hk t3 H3 w3 E3 a3 hK3 h4 h5 (h6.trans h3) (g.trans g2))
  rwa [rQ] at this
def Jn {m:Nat}:∀ {ds:List Deferred} {w:World} {fr:Frame} {cs:List Frame},Marks m w ds->fr.mode≠.run->fr.defers=ds->(fw none).room (cs.length+1+0)->
  ∃ w',StepsIn (Machine.fenced P (fw none)) P (lone fr cs w) (lone { fr with defers:=[] } cs w')∧w'.os=w.os∧w'.tape=w.tape∧w'.output=w.output∧w'.heap.size=w.heap.size∧(∀ k:Nat,k < m->w'.heap[k]?= w.heap[k]?)∧
   ∀ (k:Nat) (o:Obj),w.heap[k]?= some o->(∀ ds,o≠.deferred ds)->w'.heap[k]?= w.heap[k]?
 | [],w,fr,cs,_,hm,hd,hroom=>⟨w,by
   have:({ fr with defers:=[] }:Frame)=fr:=by cases fr;cases hd;rfl
   rw [this];exact StepsIn.refl _,rfl,rfl,rfl,rfl,fun _ _=>rfl,fun _ _ _ _=>rfl⟩
 | d::ds,w,fr,cs,⟨⟨D,h1,h2,h3,h4⟩,ht⟩,hm,hd,hroom=>by
  have htar:d.target=.collected D:=by rw [h1]
  have hs:=step_collected (P:=P) (cs:=cs) hm hd htar (run_takeDeferred h3);have i1:(lone fr cs w).fenced P (fw none):=fenced_out (n:=0) trivial hroom hm hd (fun g hg=>by rw [htar] at hg;simp [Target.leads] at hg);obtain ⟨w',s1,a1,a2,a3,a4,a5,a6⟩:=Jn (fr:={ fr with defers:=[]++ds }) (cs:=cs) (Marks.mono (w':=w.putObj D (.deferred none)) aj ht fun D' hm hd=>World.putObj_heap_other (by rintro rfl;exact h4 hm)) hm rfl hroom;refine ⟨w',.head i1 hs s1,a1,a2,a3,a4.trans World.putObj_size,fun k hk=>(a5 k hk).trans (World.putObj_heap_other aw),fun k o hc hd=>?_⟩;have hne:k≠D:=by rintro rfl;rw [h3] at hc;cases hc;exact hd _ rfl
  have e:=World.putObj_heap_other (w:=w) (o:=.deferred none) hne;exact (a6 k o (e.trans hc) hd).trans e
def Ap (P:Program) (f:FuncId) (H:zl) (args:List C) (H':zl):Prop:=
 ∀ (u:FrameMode) (w:World) (E:Env) (vs:Array Value),qx w E H->LL E args vs.toList->
  CallsDIn (fw none) 0 P f vs u w fun e u' w'=>u'=u∧∃ v E',e=.returned v∧qx w' E' H'∧Grow w E H w' E' H'
def Ap.wz {f:FuncId} {fn:Func} {c:Code} {H H':zl} {args:List C} (hf:P.funcs[f]?= some fn) (hb:fn.body=some c)
  (hr:qX P H.length c ⟨entry fn args,H⟩ fun ex s1=>(ex=.ret∨ex=.normal)∧∃ s2 r,zp H.length s1 s2∧kL P fn s2=some r∧s2.H=H'):Ap P f H args H':=fun u w E vs hh hl=>by
 have hrun:=hr none w.heap.size w E { tmps:=vs++Array.replicate (fn.ntmps - vs.size) undef,defers:=[] } (fun ex a1 w1=>(ex=.ret∨ex=.normal)∧∃ E' s2 r,kL P fn s2=some r∧s2.H=H'∧xR H.length w.heap.size w1 E' s2 a1∧jF H.length w E H w1 E' s2.H) (fun _=>rfl) ⟨hh,FV hl,gf _,gf _⟩ fun ex s1 w' E1 a' hR hs1 g1=>by
  obtain ⟨hex,s',r,hw,hres,e⟩:=hR;obtain ⟨E',hs,g2⟩:=hw _ w' E1 a' hs1;exact ⟨hex,E',s',r,hres,e,hs,g1.trans g2⟩
 refine ⟨trivial,fun c₀ cs hu hroom=>?_⟩
 let b:Frame:={ (default:Frame) with fn:=f,kind:=.deferred,roundOf:=none }
 have henter:Frame.enter P f vs .deferred=b.atR { tmps:=vs++Array.replicate (fn.ntmps - vs.size) undef,defers:=[] } [.code c]:=by
  simp [Frame.enter,Frame.atR,hf,hb,b]
 have hc:({ c₀ with mode:=u }:Frame)=c₀:=by subst hu;rfl
 obtain ⟨e,a',w',⟨hex,E',s2,r,hres,rfl,hs,g⟩,harr⟩:=hrun b [] (c₀::cs) rfl trivial hroom;rw [<- henter] at harr
 have out:∀ (fr:Frame),fr.mode=.returning->fr.defers=a'.defers->fr.tmps=a'.tmps->fr.kind=.deferred->fr.fn=f->StepsIn (Machine.fenced P (fw none)) P (lone (Frame.enter P f vs .deferred) (c₀::cs) w) (lone fr (c₀::cs) w')->
   ∃ e u' w' fr,(u'=u∧∃ v E',e=.returned v∧qx w' E' s2.H∧Grow w E H w' E' s2.H)∧ComesIn (Machine.fenced P (fw none)) P (lone (Frame.enter P f vs .deferred) (c₀::cs) w) (lone fr ({ c₀ with mode:=u' }::cs) w') e∧fr.kind=.deferred∧fr.fn=f∧fr.going P w' e:=fun fr h1 h2 h3 h4 h5 hst=>by
  obtain ⟨w2,st,a1,a2,a3,a4,a5,a6⟩:=Jn (P:=P) (cs:=c₀::cs) hs.defers (by rw [h1];simp) h2 hroom;have hs2:xR H.length w.heap.size w2 E' s2 { a' with defers:=[] }:=⟨hs.heap.cells a6,hs.tmps,bz,hs.base⟩;obtain ⟨v,hv,_⟩:=Gd hs2 hres
  have hg:Grow w E H w2 E' s2.H:=⟨⟨bA,fun id hops hi=>g.le.β id hops tG,fun id hops hi=>g.le.κ id hops tG,g.le.St,fun id k u hi=>g.le.G id k u tG⟩,
   a1.trans g.os,a2.trans g.tape,a3.trans g.output,by rw [a4];exact g.size,fun k hk ho=>(a5 k hk).trans (g.frame k hk ho),g.jP,g.own⟩
  exact ⟨.returned v,u,w2,{ fr with defers:=[] },⟨rfl,v,E',rfl,hs2.heap,hg⟩,by rw [hc];exact StepsIn.trans hst st,h4,h5,h1,rfl,fn,by show P.funcs[fr.fn]?= _;rw [h5];exact hf,by show (results fn fr.tmps).run P w2=_;rw [h3];exact hv⟩
 rcases hex with rfl | rfl
 ·obtain ⟨todo,h0⟩:=harr.1 rfl;exact out _ rfl rfl rfl rfl rfl h0
 ·exact out _ rfl rfl rfl rfl rfl (StepsIn.trans harr (.one (fenced_calm (n:=0) (fr:=b.atR a' []) trivial hroom rfl) (stepR_end rfl)))
def Fin (P:Program) (fn:Func) (w0:World) (E0:Env) (H:zl) (R:C->zl->Prop):Exit->Act->World->Prop:=
 bodyPostM (fw none) 0 P fn fun e w'=>∃ r H' v E',R r H'∧e=.returned v∧qx w' E' H'∧L E' r v∧Grow w0 E0 H w' E' H'
def mR (P:Program) (fn:Func) (H:zl) (c:Code) (s:S) (R:C->zl->Prop):Prop:=
 ∀ (w0:World) (E0:Env) (w:World) (E:Env) (a:Act),qx w0 E0 H->xR H.length w0.heap.size w E s a->jF H.length w0 E0 H w E s.H->c.wpIn (fw none) 0 P (Fin P fn w0 E0 H R) a w
def CG (P:Program) (fn:Func) (H:zl) (R:C->zl->Prop) (s1:S):Prop:=∃ s2 r,zp H.length s1 s2∧kL P fn s2=some r∧R r s2.H
def Gv {fn:Func} {H:zl} {R:C->zl->Prop} {w0 w:World} {E0 E:Env} {s1:S} {a:Act} (hh:qx w0 E0 H) (hs:xR H.length w0.heap.size w E s1 a) (hg:jF H.length w0 E0 H w E s1.H) (h:CG P fn H R s1):
  LeavesInM (fw none) 0 P fn a.tmps (fun e w'=>∃ r H' v E',R r H'∧e=.returned v∧qx w' E' H'∧L E' r v∧Grow w0 E0 H w' E' H') a.defers .returning w:=by
 obtain ⟨s',r,hw,hres,hRr⟩:=h;obtain ⟨E',hs,g2⟩:=hw _ w E a hs;have g:=hg.trans g2;refine leaves hs.defers fun w2 a1 a2 a3 a4 a5 a6=>?_
 have hs2:xR H.length w0.heap.size w2 E' s' { a with defers:=[] }:=⟨hs.heap.cells a6,hs.tmps,bz,hs.base⟩;obtain ⟨v,h1,h2⟩:=Gd hs2 hres
 have hg:Grow w0 E0 H w2 E' s'.H:=⟨⟨bA,fun id hops hi=>g.le.β id hops tG,fun id hops hi=>g.le.κ id hops tG,g.le.St,fun id k u hi=>g.le.G id k u tG⟩,
  a1.trans g.os,a2.trans g.tape,a3.trans g.output,by rw [a4];exact g.size,fun k hk ho=>(a5 k hk).trans (g.frame k hk ho),g.jP,g.own⟩
 exact ⟨v,h1,r,s'.H,v,E',hRr,rfl,hs2.heap,h2,hg⟩
def mR.wz {fn:Func} {H:zl} {c:Code} {s:S} {R:C->zl->Prop} (h:qX P H.length c s fun ex s1=>(ex=.ret∨ex=.normal)∧CG P fn H R s1):mR P fn H c s R:=fun w0 E0 w E a hh hs hg=>
 h none w0.heap.size w E a _ (fun _=>rfl) hs fun ex s1 w' E1 a' ⟨hex,hl⟩ hs1 g1=>by
  have:=Gv hh hs1 (hg.trans g1) hl;rcases hex with rfl | rfl <;> exact dB
def mR.seq {fn:Func} {H:zl} {x y:Code} {s:S} {R:C->zl->Prop} (h:qX P H.length x s fun ex s1=>(ex=.normal∧∃ s2,zp H.length s1 s2∧mR P fn H y s2 R)∨(ex=.ret∧CG P fn H R s1)):mR P fn H (.seq x y) s R:=fun w0 E0 w E a hh hs hg=>
 wpIn_seq (h none w0.heap.size w E a _ (fun _=>rfl) hs fun ex s1 w' E1 a' hR hs1 g1=>by
  rcases hR with ⟨rfl,s2,hw,hy⟩ | ⟨rfl,hl⟩
  ·obtain ⟨E2,hs2,g2⟩:=hw _ w' E1 a' hs1;exact hy w0 E0 w' E2 a' hh hs2 ((hg.trans g1).trans g2)
  ·exact Gv hh hs1 (hg.trans g1) hl)
def mR.deferred {fn:Func} {H:zl} {i:Nat} {oM oD:Oper} {cl:Call} {k:Tmp} {g:FuncId} {t:List C} {Hs:zl} {regs:List (Nat × Array Oper)} {R:C->zl->Prop}
  (hop:oD.op=.defer cl) (hcl:cl.callee=.value (.tmp k)) (hca:cl.args= #[]) (hgu:oD.guard=none) (hdst:oD.dst=none) (hcb:qt P g=true)
  (h:mz P #[oM,oD] [oM] t Hs fun t1 H1=>∃ caps,t1[k]?= some (.fn g [] caps)∧Hg P regs t1 H1 fun t2 H2=>∃ H3,Ap P g H2 caps H3∧CG P fn H R ⟨t2,H3⟩):
  mR P fn H (.seq (.region i #[oM,oD] false) (EF regs)) ⟨t,Hs⟩ R:=fun w0 E0 w E a hh hs hg=>by
 refine wpIn_seq (wpIn_region_list ?_);refine EB (rest:=[oD]) h none hs.heap hs.tmps fun t1 H1 w1 E1 a1 ⟨caps,hk,ht⟩ h1 h2 h3 g1=>?_
 unfold wpListIn;rw [dU (by unfold Region.wanted;rw [hgu])];obtain ⟨u,hu,hL⟩:=h2.get hk;rw [gN] at hu
 obtain ⟨zs,hv,h5,h6⟩:∃ zs,u=.func (.func g) #[] zs∧caps.length=zs.size∧(∀ (i:Nat) c y,caps[i]?= some c->zs[i]?= some y->L E1 c y):=by
  cases hL with
  | fn f first caps ys zs h1 h2 h3 h4=>exact ⟨zs,by rw [show ys= #[] from pU h1.symm],h2,h4⟩
 have hev:a1.eval (.tmp k)=.func (.func g) #[] zs:=by
  show a1.tmps.getD k undef=_;rw [pa,hu,hv]
  rfl
 have hr:(execOp a1.eval oD).run P w1=.ok (.defer { target:=.fn (.func g) zs,args:= #[] }) w1:=by
  unfold execOp;simp [hop,resolve,hcl,hca,hev,Deferred.ofValue]
 unfold Oper.wpIn;refine ⟨fun _ _=>trivial,?_⟩;rw [show (fw none).round=none from rfl,Oper.semAt_none,hr,Oper.uponIn_defer,hdst];refine wpListIn_nil (Mn ht h1 h2 fun t2 H2 w2 E2 a2 ⟨H3,hD,hlv⟩ h7 h8 h9 g2=>?_);have h9:a2.defers={ target:=.fn (.func g) zs,args:= #[] }::a.defers:=h9.trans (by show _::a1.defers=_;rw [h3]);have gB:jF H.length w0 E0 H w2 E2 H2:=hg.trans ((g1.trans g2).fI tD);have hM:Marks w0.heap.size w2 a.defers:=hs.defers.grow hs.heap (g1.trans g2);show LeavesInM (fw none) 0 P fn a2.tmps _ a2.defers .returning w2;rw [h9];refine ⟨aj,.inr ⟨fun h=>(by cases h),.func g,zs,g,zs,rfl,?_,fun _ _=>trivial,?_⟩⟩
 ·unfold qt at hcb;split at hcb
  rotate_left
  ·cases hcb
  rename_i fng hfn;simp only [dY,pd] at hcb;have hname : fng.name ≠ "runtime.NumGoroutine" := by simpa using hcb.1
  have hbody:fng.body≠none:=bE
  simp [invoke,callFunc,hfn,hname,hbody]
 have e2:LL E2 caps zs.toList:=⟨aq h5,fun i c y e1 e2=>(h6 i c y e1 uZ).mono g2.le⟩;refine (hD .returning w2 E2 zs h7 e2).mono ?_;rintro e u' w3 ⟨rfl,v,E3,rfl,h10,g3⟩;have hb:H.length<=H2.length:=by have:=hs.base;have:=(g1.trans g2).le.n;rw [hs.heap.n,h7.n] at this;omega
 have hs3:xR H.length w0.heap.size w3 E3 ⟨t2,H3⟩ { a2 with defers:=a.defers }:=⟨h10,h8.mono g3.le,hM.grow h7 g3,by have:=g3.le.n;rw [h7.n,h10.n] at this;exact gY hb this⟩;exact Gv hh hs3 (gB.trans (g3.fI (by rw [h7.n];exact hb))) hlv
def qE.U3 {f:FuncId} {fn:Func} {c:Code} {H:zl} {args:List C} {R:C->zl->Prop} (hf:P.funcs[f]?= some fn) (hb:fn.body=some c) (h:mR P fn H c ⟨entry fn args,H⟩ R):qE P f H args R:=fun w E vs hh hl=>
 (callsIn_wide (n:=0)).1 (callsIn_of_wp_marks hf hb trivial (h w E w E _ hh ⟨hh,FV hl,gf _,gf _⟩ (jF.refl H.length w E H)))
def Ap.zT {f:FuncId} {fn:Func} {c:Code} {H H':zl} {args:List C} (hf:P.funcs[f]?= some fn) (hb:fn.body=some c)
  (h:wpA P H.length c (entry fn args) H fun ex t1 H1=>(ex=.ret∨ex=.normal)∧∃ s2 r,zp H.length ⟨t1,H1⟩ s2∧kL P fn s2=some r∧s2.H=H'):Ap P f H args H':=
 .wz hf hb ((jC h).mono fun ex s1 h1=>h1)
def mR.HX {fn:Func} {H Hs:zl} {x y:Code} {t:List C} {R:C->zl->Prop} (h:wpA P H.length x t Hs fun ex t1 H1=>(ex=.normal∧∃ t2 H2,zp H.length ⟨t1,H1⟩ ⟨t2,H2⟩∧mR P fn H y ⟨t2,H2⟩ R)∨(ex=.ret∧CG P fn H R ⟨t1,H1⟩)):mR P fn H (.seq x y) ⟨t,Hs⟩ R:=
 .seq ((jC h).mono fun ex s1 h1=>h1.imp (fun ⟨e,t2,H2,hw,hr⟩=>⟨e,_,hw,hr⟩) id)
end
def na (H:zl) (id:Nat):zl:=H.modify id fun _=>⟨0,0,0,[],0⟩
def kV (H:zl) (id j:Nat):(na H id)[j]?= (H[j]?).map fun ob=>if id=j then ⟨0,0,0,[],0⟩ else ob:=by
 unfold na;rw [pA]
 rfl
def wq {H:zl} {id:Nat} {id':Nat} {p:List eU} {x:Nat × List (List C)} (h:qb (na H id) id' p=some x):id'≠id∧qb H id' p=some x:=by
 obtain ⟨ob,ho,hk,hg⟩:=jh h;rw [kV] at ho;cases hx:H[id']? with
 | none=>rw [hx] at ho;cases ho
 | some ob0=>
  rw [hx] at ho;simp only [gh,gC] at ho;by_cases hid:id=id'
  ·subst hid;simp at ho;subst ho;simp at hk
  ·rw [dR hid] at ho;subst ho;refine ⟨Ne.symm hid,?_⟩;unfold qb;rw [hx];simp only [hk,if_true];exact hg
def qe.gone {w:World} {E:Env} {H:zl} (h:qe w E H) (id:Nat):qe w E (na H id) where
 n:=by rw [h.n];simp [na]
 eu id' ob p sz rows hob hx:=by
  obtain ⟨h1,h2⟩:=wq hx;rw [kV] at hob;cases hx':H[id']? with
  | none=>rw [hx'] at hob;cases hob
  | some ob0=>
   rw [hx'] at hob;simp only [gh,gC,dR (Ne.symm h1)] at hob;subst hob;exact h.eu id' _ p sz rows hx' h2
 inj id1 p1 id2 p2 x y hx hy he:=h.inj id1 p1 id2 p2 x y (wq hx).2 (wq hy).2 he
 qv:=h.qv
 sep id' p x o u hx hu:=by
  obtain ⟨h1,h2⟩:=wq hx;obtain ⟨e1,ob,e2,e3⟩:=h.sep id' p x o u h2 hu;refine ⟨e1,ob,?_,e3⟩;rw [kV,e2];simp [Ne.symm h1]
 ty id' ob hob hk:=by
  rw [kV] at hob;cases hx':H[id']? with
  | none=>rw [hx'] at hob;cases hob
  | some ob0=>
   rw [hx'] at hob;simp only [gh,gC] at hob;by_cases hid:id=id'
   ·rw [dU hid] at hob;subst hob;simp at hk
   ·rw [dR hid] at hob;subst hob;exact h.ty id' _ hx' hk
 fz id' ob hob:=by
  rw [kV] at hob;cases hx':H[id']? with
  | none=>rw [hx'] at hob;cases hob
  | some ob0=>
   rw [hx'] at hob;simp only [gh,gC] at hob;have h0:=h.fz id' ob0 hx';subst hob;split
   ·simp
   ·exact h0
def vE {H:zl} {id i:Nat} {ob:Ob} (h:(na H id)[i]?= some ob) (hk:ob.kind=4):H[i]?= some ob:=by
 rw [kV] at h;cases hx:H[i]? with
 | none=>rw [hx] at h;cases h
 | some o=>
  rw [hx] at h;simp only [gh,gC] at h;split at h
  ·subst h;cases hk
  ·rw [h]
def zp.gone {B:Nat} {s:S} (id:Nat):zp B s ⟨s.tmps,na s.H id⟩:=fun m w E a hs=>by
 have hg:∀ {i b},qI E (na s.H id) i b->qI E s.H i b:=fun ⟨ob,cap,h1,h2,h3,h4⟩=>⟨ob,cap,vE h1 h2,h2,h3,h4⟩
 have hr:∀ {i b},jD (na s.H id) i b->jD s.H i b:=fun ⟨ob,o,t,h1,h2,h3,h4⟩=>⟨ob,o,t,vE h1 h2,h2,h3,h4⟩
 have h0:∀ {b},je E (na s.H id) b->je E s.H b:=fun ⟨i,p,x,h1,h2⟩=>⟨i,p,x,(wq h1).2,h2⟩
 refine ⟨E,⟨⟨hs.heap.base.gone id,?_⟩,hs.tmps,hs.defers,by have:=hs.base;simp [na];omega⟩,⟨Env.mZ.refl B E,rfl,rfl,rfl,gf _,fun _ _ _=>rfl,fun _ _ _ h=>.inl h,?_⟩⟩
 ·exact {
   val:=fun i ob h1 h2=>hs.heap.u5.val i ob (vE h1 h2) h2
   eu:=fun i b ob h1 h2=>hs.heap.u5.eu i b ob (hg h1) (by obtain ⟨ob2,_,h3,h4,_⟩:=h1;rw [h2] at h3;cases h3;exact vE h2 h4)
   sep:=fun i b h1 h2=>hs.heap.u5.sep i b (hg h1) (h0 h2)
   inj:=fun i j b h1 h2=>hs.heap.u5.inj i j b (hg h1) (hg h2)
   st:=fun i b ob o u h1 h2 h3=>hs.heap.u5.st i b ob o u (hg h1) (by obtain ⟨ob2,_,h4,h5,_⟩:=h1;rw [h2] at h4;cases h4;exact vE h2 h5) h3
   top:=fun i ob k u h1 h2 h3=>hs.heap.u5.top i ob k u (vE h1 h2) h2 h3
   fG:=fun i ob o t h1 h2 h3=>hs.heap.u5.fG i ob o t (vE h1 h2) h2 h3
   wK:=fun i j b h1 h2=>hs.heap.u5.wK i j b (hr h1) (hr h2) }
 ·rintro b (hb | ⟨i,hb | hb⟩)
  ·exact .inr (.inl (h0 hb))
  ·exact .inr (.inr ⟨i,.inl (hg hb)⟩)
  ·exact .inr (.inr ⟨i,.inr (hr hb)⟩)
def qE.Xp {P:Program} {f:FuncId} {H H2:zl} {args:List C} {r:C} (hle:H.length<=H2.length) (h1:qE P f H args fun r1 H1=>zp H.length ⟨[r1],H1⟩ ⟨[r],H2⟩):zb P f H args r H2:=fun w E vs hh hl0=>by
 refine (h1 w E vs hh hl0).mono ?_;rintro e w' ⟨r1,H1,v,E',hw,h0,h2,h3,g⟩;have hHH:H.length<=H1.length:=bT
 obtain ⟨E2,hs,g2⟩:=hw 0 w' E' ⟨#[v],[]⟩ ⟨h2,LL.one h3,gF _,hHH⟩;have hn2:=hs.heap.n;refine ⟨v,E2,h0,hs.heap,hs.tmps.cons_inv.1,⟨⟨by rw [hh.n,hn2];exact hle,fun id hops hi=>?_,fun id hops hi=>?_,fun b o u hu=>g2.le.St _ _ _ (g.le.St _ _ _ hu),fun id k u hi hu=>?_⟩,g2.os.trans g.os,g2.tape.trans g.tape,g2.output.trans g.output,gY g.size g2.size,?_,?_,?_⟩⟩
 ·rw [hh.n] at hi;exact (g2.le.β id hops hi).trans (g.le.β id hops tP)
 ·rw [hh.n] at hi;exact (g2.le.κ id hops hi).trans (g.le.κ id hops tP)
 ·rw [hh.n] at hi;exact g2.le.G id k u hi (g.le.G id k u tP hu)
 ·intro k hk ho;exact cX
 ·intro b o u hu;rcases g2.jP b o u hu with h1 | h1 | h1
  ·exact g.jP b o u h1
  ·exact .inr (.inl (gY g.size h1))
  ·rcases g.own b h1 with h4 | h4
   ·exact .inr (.inl h4)
   ·exact .inr (.inr h4)
 ·intro b hb;rcases g2.own b hb with h1 | h1
  ·exact .inl (gY g.size h1)
  ·exact g.own b h1
end Go.Ab
namespace Go.Wor
open Go.Ab Go.Proofs Tryz Go.Hy Go.Gat Go.Nam Go.Hos Go.Con Go.Sna
def wY {c:fb} (h:xD c):nB (jz c).1:=by
 unfold jz;split
 ·exact ⟨aj,aj,aj⟩
 ·refine ⟨h.zd,⟨aq h.zR.1,fun r hr=>?_⟩,h.zk⟩;simp only [gL] at hr;obtain ⟨q,hq,rfl⟩:=hr;exact ⟨(h.zR.2 q hq).2.1,(h.zR.2 q hq).2.2.1⟩
def mn (c:fb):Int:=if (jz c).2.1≠0 then (jz c).2.1 else (qR (jz c).1).2
def y9 (c:fb):u9:=(qR (jz c).1).1
def Wh (l:List u9):((l.map zF).all fun x=>x.all zy)=true:=by
 rw [dZ];intro r hr;obtain ⟨x,_,rfl⟩:=gL.1 hr
 rfl
abbrev iZ (m:u3) (was now:Int):u3:={ m with version:=was,zi:=0,end_:=0,other:=0,slot:=0,i:=now,pc:=1 }
def N6 (w:Wor) (v:u9) (hn:w.ze.length < 1000000000):to 119 [⟨1,37,8,[[I w.zn,I w.current,I w.lock,lI w.pins,.sl 1 [] 5 0 (w.ze.length) false,lL w.zd,eM w.counts,lR w.zr]],0⟩,⟨2,107,5,(w.ze).map zF,0⟩] [Cv v,.ref 0 [] 8 0 0] (.u7 [I w.current,I w.ze.length]) [⟨1,37,8,[[I w.zn,I w.ze.length,I w.lock,lI w.pins,.sl 2 [] 5 0 ((w.ze.length+1)) false,lL w.zd,eM w.counts,lR w.zr]],0⟩,⟨0,0,0,[],0⟩,⟨2,107,5,(w.ze++[v]).map zF,0⟩]:=by
 have hap:(Ob.mk 2 107 5 (w.ze.map zF) 0).rows++[zF v]=(w.ze++[v]).map zF:=bc
 refine qd (fn:=f119) func119 rfl aj (uH ?_);refine uE ?_;refine ⟨aj,Wh _,ay,by show _ * 104<=_;simp;omega,dd ?_⟩;refine ⟨.inl rfl,_,_,zp.gone 1,rfl,?_⟩;rw [<- hap];exact zp.ed [0,1,3] [0] _ _ rfl rfl rfl rfl
def OT (w:Wor) (m:u3) (c:Int) (hc:xD m.op.config) (he:mn m.op.config=0) (hn:w.ze.length < 1000000000):
  to 118 [⟨1,69,44,[zD (m)],0⟩,⟨1,37,8,[[I w.zn,I w.current,I w.lock,lI w.pins,.sl 2 [] 5 0 (w.ze.length) false,lL w.zd,eM w.counts,lR w.zr]],0⟩,⟨2,107,5,(w.ze).map zF,0⟩] [.ref 0 [] 44 0 0,.fn 119 [] [.ref 1 [] 8 0 0],I c] (Ce { eI m 6 3 w.ze.length with qQ:=true }) [⟨1,69,44,[zD (iZ m w.current w.ze.length)],0⟩,⟨1,37,8,[[I w.zn,I w.ze.length,I w.lock,lI w.pins,.sl 3 [] 5 0 ((w.ze.length+1)) false,lL w.zd,eM w.counts,lR w.zr]],0⟩,⟨0,0,0,[],0⟩,⟨2,107,5,(w.ze++[y9 m.op.config]).map zF,0⟩]:=by
 have hb:=E6 m.op.config hc;have hl:=I9 _ (wY hc)
 have h1:(jz m.op.config).2.1=0:=by
  unfold mn at he;split at he
  ·contradiction
  ·rename_i hx;omega
 have h2:(qR (jz m.op.config).1).2=0:=by
  unfold mn at he
  rwa [dR aw] at he
 unfold y9;generalize jz m.op.config=bv at hb hl h1 h2 ⊢;obtain ⟨sn,e1,e2⟩:=bv;cases h1
 have hl:to 65 [] [Cs sn] (tV (qR sn)) []:=hl;have h2:(qR sn).2=0:=h2;show to 118 _ _ _ [_,_,_,⟨2,107,5,(w.ze++[(qR sn).1]).map zF,0⟩];generalize qR sn=cv at hl h2 ⊢;obtain ⟨v,e3⟩:=cv;cases h2
 have hb:to 40 [] [Cf m.op.config] (.u7 [Cs sn,I 0,I e2]) []:=hb;have hl:to 65 [] [Cs sn] (.u7 [Cv v,I 0]) []:=hl;refine qd (fn:=f118) func118 rfl aj (uH ?_);refine ah hb ?_;(refine ya (dd ?_))
 refine ah hl ?_;(refine ya (dd ?_))
 refine af [1,2] (N6 w v hn) ?_;refine .inl ⟨⟨false,[0,1,2,3,4,5,6],[3],[]⟩,au,uH ?_⟩;refine tc ?_
 refine af [0] (BR (iZ m w.current w.ze.length) 6 3 w.ze.length) ?_;exact ⟨.inl rfl,_,_,.refl _,rfl,zp.ed [0,1,2,8] [0] _ _ rfl rfl rfl rfl⟩
abbrev oQ (f:Int):eC:=⟨9,0,0,0,0,0,f,⟨0,0,0,0,0,0⟩⟩
def P6 (m:u3) (e:u6) (f:Int):Ap prog 164 [⟨1,69,44,[zD (m)],0⟩,⟨1,211,1,[[.ref 0 [] 44 0 0]],0⟩,⟨1,48,23,[zP (e)],0⟩,⟨1,104,3,[qN ⟨[],[],[]⟩],0⟩,⟨1,38,1,[[I f]],0⟩] [.ref 1 [] 1 0 0,.ref 2 [] 23 0 0,.ref 4 [] 1 0 0] [⟨1,69,44,[zD ({ m with done:=true,answer:=oQ f })],0⟩,⟨1,211,1,[[.ref 0 [] 44 0 0]],0⟩,⟨1,48,23,[zP ({ e with done:=true,answer:=oQ f })],0⟩,⟨1,104,3,[qN ⟨[],[],[]⟩],0⟩,⟨1,38,1,[[I f]],0⟩]:=by
 refine Ap.zT (fn:=f164) func164 rfl (uH ?_);exact ⟨.inr rfl,_,_,.refl _,rfl,rfl⟩
def Oi (m:u3) (c f:Int) (hc:xD m.op.config) (hf:(jz m.op.config).2.1=f) (h0:f≠0):
  to 118 [⟨1,69,44,[zD (m)],0⟩] [.ref 0 [] 44 0 0,.fn 119 [] [.za],I c] (Ce { eI m 1 3 c with qQ:=true,done:=true,answer:=oQ f }) [⟨1,69,44,[zD ({ m with done:=true,answer:=oQ f })],0⟩]:=by
 have hb:=E6 m.op.config hc
 have h2:(jz m.op.config).1=⟨[],[],[]⟩:=by
  unfold jz at hf ⊢;split
  ·rfl
  ·rename_i h;rw [dR h] at hf;exact absurd hf.symm h0
 generalize jz m.op.config=bv at hb hf h2;obtain ⟨sn,e1,e2⟩:=bv;cases hf
 cases h2
 have hb:to 40 [] [Cf m.op.config] (.u7 [Cs ⟨[],[],[]⟩,I e1,I e2]) []:=hb;refine qE.Xp (gf _) (qE.U3 (fn:=f118) func118 rfl (.HX ?_));conv=>whnf
 refine .inl ⟨rfl,_,_,.refl _,.HX (uH ?_)⟩;refine ah hb ?_;refine .inl ⟨rfl,_,_,.refl _,.HX (uH ?_)⟩;refine ⟨fun h=>absurd h (aq h0),fun _=>dd ?_⟩;refine .inl ⟨rfl,_,_,.refl _,?_⟩;refine mR.deferred (g:=164) (regs:=Mt (behind 4 ((f118.body).getD .skip))) rfl rfl rfl rfl rfl rfl (uH ?_);refine ⟨_,rfl,uH ?_⟩;refine af [0] (BR m 1 3 c) ?_;refine ⟨_,P6 m { eI m 1 3 c with qQ:=true } e1,?_⟩;exact ⟨_,_,.refl _,rfl,cE 1⟩
def OQ (w:Wor) (h:qZ w):to 114 [] [Cw w] (.agg (eZ w 0)) [⟨2,107,5,(w.ze).map zF,0⟩]:=by
 refine Ar (fn:=f114) func114 rfl (uH ?_);refine ah (vc w.pins h.pins) ?_;refine af [] (wQ w.ze h.ze.1 fun v hv=>jM v (h.ze.2 v hv)) ?_;refine ah (vX w.zd h.zd) ?_;refine af [] (wP w.counts h.counts.1 fun r hr=>yg r (h.counts.2 r hr)) ?_;refine ah (AW w.zr h.zr) ?_;refine ⟨.inl rfl,_,_,zp.zV 1 0 6 rfl rfl rfl rfl (.inr rfl) rfl aj (shut_map (enc:=zN) (fun _=>rfl) w.counts) (qa rfl),rfl,?_⟩;exact zp.ed [3] [0] _ _ rfl rfl rfl (zc rfl (zc rfl (zc rfl (zc rfl (zc (zj fun r hr c hc=>((shut_map (enc:=zN) (fun _=>rfl) w.counts) r hr c hc).2) rfl)))))
def Pj (w:Wor) (m:u3) (sw:qZ w) (ok:fm w) (hl:i64 m.listen) (hpc:m.pc=0) (hs:z6 w m=true) (hc:xD m.op.config) (he:mn m.op.config=0):
  to 98 [] [Cw w,Cm m] (.u7 [Cw { w with current:=w.ze.length,ze:=w.ze++[y9 m.op.config] },Cm (iZ m w.current w.ze.length),Ce { eI m 6 3 w.ze.length with qQ:=true }]) []:=by
 refine ab func98 ?_;(repeat (first | refine uA ?_ | refine uB ?_))
 refine ah (zO w m ok hl) ?_;refine ⟨fun _=>dd ?_,fun h=>absurd ((hs).symm.trans h:true=false) ar⟩;(repeat (first | refine uA ?_ | refine uB ?_))
 refine td ?_
 refine af [] (OQ w sw) ?_;(repeat (first | refine uA ?_ | refine uB ?_))
 refine af [1,6,5] (OT w m w.current hc he sw.ze.1) ?_;refine .inl ⟨⟨false,[0,1,2],[6,1,8],[]⟩,au,uH ?_⟩;refine tc ?_
 exact ⟨.inl rfl,_,zp.zV 2 0 4 rfl rfl rfl rfl (.inr rfl) aj aj (shut_map (enc:=zF) (fun _=>rfl) _) (qa rfl),rfl⟩
def N7 (w:Wor) (m:u3) (f:Int) (sw:qZ w) (ok:fm w) (hl:i64 m.listen) (hpc:m.pc=0) (hs:z6 w m=true) (hc:xD m.op.config) (hf:(jz m.op.config).2.1=f) (h0:f≠0):
  to 98 [] [Cw w,Cm m] (.u7 [Cw w,Cm { m with done:=true,answer:=oQ f },Ce { eI m 1 3 w.current with qQ:=true,done:=true,answer:=oQ f }]) []:=by
 refine ab func98 ?_;(repeat (first | refine uA ?_ | refine uB ?_))
 refine ah (zO w m ok hl) ?_;refine ⟨fun _=>dd ?_,fun h=>absurd ((hs).symm.trans h:true=false) ar⟩;(repeat (first | refine uA ?_ | refine uB ?_))
 refine td ?_
 refine ah (qy w sw) ?_;(repeat (first | refine uA ?_ | refine uB ?_))
 refine af [1] (Oi m w.current f hc hf h0) ?_;refine .inl ⟨⟨false,[0,1,2],[5,1,6],[]⟩,au,uH ?_⟩;refine tc ?_
 exact uI
end Go.Wor
