import Derived.RangeFuncLeaves
import Derived.Test.YtgmkpdmnlhoffaaGreatRW
import Derived.Test.YtgmkpdmnlhoffaaGreatRJ
import Derived.Test.YtgmkpdmnlhoffaaGreatRV
set_option linter.all false
set_option maxRecDepth 100000
set_option maxHeartbeats 4000000
namespace Go.Wor
open Go.Ab Go.Proofs Go.Hy Go.Gat Go.Nam Go.Hos Go.Con Go.Sna
def kF (w:Wor) (m:Mac):Bool:=w.zt.any (fun r=>r.version == m.version) || (m.version == w.current) || decide (m.zn < 0) || decide (w.zn < m.zn)
theorem wR (m:Mac) (a b c:Int):zb Tryz.prog 230 [⟨1,97,44,[zD (m)],0⟩] [.ref 0 [] 44 0 0,I a,I b,I c] (Ce (evO m a b c)) [⟨1,97,44,[zD (m)],0⟩]:=by
 refine z6 (fn:=Tryz.f230) Tryz.func230 rfl (Nat.le_refl _) (uH ?_);(repeat (refine ⟨rfl,uH ?_⟩));exact ⟨.inl rfl,_,_,.refl _,rfl,cE 1⟩
theorem zjK (w:Wor) (m:Mac) (r:Ret):zb Tryz.prog 280 [⟨1,28,8,[zJ (w)],0⟩,⟨1,97,44,[zD (m)],0⟩] [.agg (xi r),.ref 1 [] 44 0 0] (Bo (r.version == m.version)) [⟨1,28,8,[zJ (w)],0⟩,⟨1,97,44,[zD (m)],0⟩]:=by
 refine z6 (fn:=Tryz.f280) Tryz.func280 rfl (Nat.le_refl _) (uH ?_);refine ⟨fun h=>?_,fun h=>?_⟩ <;> rw [h]
 ·refine dd ?_;(repeat (refine ⟨rfl,uH ?_⟩));exact ⟨.inl rfl,_,_,.refl _,rfl,cE 2⟩
 ·refine dd ?_;(repeat (refine ⟨rfl,uH ?_⟩));exact ⟨.inl rfl,_,_,.refl _,rfl,cE 2⟩
theorem zfV (w:Wor) (m:Mac) (ok:OkW w):zb Tryz.prog 227 [] [Cw w,Cm m] (Bo (kF w m)) []:=by
 have hl:=ok.zt;refine zb.zp (fn:=Tryz.f227) Tryz.func227 rfl (uH ?_);refine ⟨_,_,Go.Lim.zhi (fun r=>r.version == m.version) rfl (fun r=>zjK w m r) (by omega),dd ?_⟩;refine ⟨fun q1=>?_,fun q1=>?_⟩
 ·refine dd ?_;(repeat refine uC ?_)
  (exact ⟨.inl rfl,_,.refl _,uN (by simp only [kF,q1,Bool.true_or])⟩)
 refine dd ?_;(repeat refine uC ?_)
 refine ⟨fun q2=>?_,fun q2=>?_⟩
 ·refine dd ?_;(repeat refine uC ?_)
  (exact ⟨.inl rfl,_,.refl _,uN (by simp only [kF,q1,q2,Bool.true_or,Bool.or_true])⟩)
 refine dd ?_;(repeat refine uC ?_)
 refine ⟨fun q3=>?_,fun q3=>?_⟩
 ·refine dd ?_;(repeat refine uC ?_)
  (exact ⟨.inl rfl,_,.refl _,uN (by simp only [kF,q1,q2,q3,Bool.true_or,Bool.or_true])⟩)
 refine dd ?_;(repeat refine uC ?_)
 refine ⟨fun q4=>?_,fun q4=>?_⟩
 ·refine dd ?_;(repeat refine uC ?_)
  (exact ⟨.inl rfl,_,.refl _,uN (by have q5:decide (w.zn < m.zn)=true:=q4;simp only [kF,q5,Bool.or_true])⟩)
 ·refine dd ?_;(repeat refine uC ?_)
  (exact ⟨.inl rfl,_,.refl _,uN (by have q5:decide (w.zn < m.zn)=false:=q4;simp only [kF,q1,q2,q3,q5,Bool.or_false])⟩)
theorem zkt (w:Wor) (m:Mac) (sw:qR w) (ok:OkW w) (hl:i64 m.listen) (hpc:m.pc=1) (hs:zW w m=true):
  zb Tryz.prog 185 [] [Cw w,Cm m] (.tup [Cw w,Cm { m with zn:=w.zn,pc:=2 },Ce (evO m 1 1 w.zn)]) []:=by
 refine zb.zp (fn:=Tryz.f185) Tryz.func185 rfl (uH ?_);(repeat (first | refine uA ?_ | refine uB ?_))
 refine ⟨_,_,(zM w m ok hl).frame rfl _,dd ?_⟩;refine ⟨fun _=>dd ?_,fun h=>absurd ((hs).symm.trans h:true=false) (by decide)⟩;(repeat (first | refine uA ?_ | refine uB ?_))
 (repeat refine uC ?_)
 refine ⟨_,_,(qs w sw).frame rfl _,dd ?_⟩;(repeat (first | refine uA ?_ | refine uB ?_))
 refine .inl ⟨⟨true,[0,1,3],[0,1,5],[4]⟩,by kernel_rfl,uH ?_⟩;repeat (refine ⟨rfl,uH ?_⟩)
 refine zq [1] (wR { m with zn:=w.zn,pc:=2 } 1 1 w.zn) rfl rfl rfl rfl rfl rfl (dd ?_);(repeat (refine ⟨rfl,uH ?_⟩))
 exact uI
theorem zid (w:Wor) (h:qR w) (x:Ret) (l:List Ret) (hx:w.zt=x::l):zb Tryz.prog 224 [] [Cw w] (.agg [I w.zn,I w.current,I w.lock,lI w.pins,lV w.ze,lL w.zd,lCo w.counts,.sl 0 [] 3 0 w.zt.length false]) [⟨2,139,3,(w.zt).map xi,0⟩]:=by
 have hl:l.length < 1000000000:=by have:=h.zt;rw [hx] at this;simp at this;omega
 have hc:=zjk x l hl;rw [<- hx] at hc;refine zcn (fn:=Tryz.f224) Tryz.func224 rfl (uH ?_);refine ⟨_,_,(yL w.pins h.pins).frame rfl _,dd ?_⟩;refine zq [] (kU w.ze h.ze.1 fun v hv=>jw v (h.ze.2 v hv)) rfl rfl rfl rfl rfl rfl (dd ?_);refine ⟨_,_,(vq w.zd h.zd).frame rfl _,dd ?_⟩;refine zq [] (kT w.counts h.counts.1 fun r hr=>xI r (h.counts.2 r hr)) rfl rfl rfl rfl rfl rfl (dd ?_);refine zq [] (hc) rfl rfl rfl rfl rfl rfl (dd ?_);refine ⟨.inl rfl,_,_,(zo.zT 1 0 4 rfl rfl rfl rfl (.inr rfl) rfl (by simp) (shut_map (enc:=zI) (fun _=>rfl) w.ze) (zX rfl)).trans (zo.zT 1 0 6 rfl rfl rfl rfl (.inr rfl) rfl (by simp) (shut_map (enc:=zN) (fun _=>rfl) w.counts) (zX rfl)),rfl,?_⟩;exact zo.ren [5] [0] _ _ rfl rfl rfl (zc rfl (zc rfl (zc rfl (zc (zi fun r hr c hc=>((shut_map (enc:=zI) (fun _=>rfl) w.ze) r hr c hc).2) (zc (zi fun r hr c hc=>((shut_map (enc:=zN) (fun _=>rfl) w.counts) r hr c hc).2) rfl)))))
theorem ztK:zb Tryz.prog 278 [] [lR []] (.lst 1 3 []) []:=by
 refine zb.zp (fn:=Tryz.f278) Tryz.func278 rfl (uH ?_);refine ⟨?_,?_⟩
 ·refine dd ?_;exact ⟨.inl rfl,_,zo.cell 2 rfl (WC.none 1 0 3),rfl⟩
 ·refine dd ?_;refine .inr ⟨rfl,dd ?_⟩;exact uI
theorem zic (w:Wor) (h:qR w) (hx:w.zt=[]):zb Tryz.prog 224 [] [Cw w] (.agg [I w.zn,I w.current,I w.lock,lI w.pins,lV w.ze,lL w.zd,lCo w.counts,.lst 1 3 []]) []:=by
 have hc:=ztK;rw [<- hx] at hc;refine zb.zp (fn:=Tryz.f224) Tryz.func224 rfl (uH ?_);refine ⟨_,_,(yL w.pins h.pins).frame rfl _,dd ?_⟩;refine zq [] (kU w.ze h.ze.1 fun v hv=>jw v (h.ze.2 v hv)) rfl rfl rfl rfl rfl rfl (dd ?_);refine ⟨_,_,(vq w.zd h.zd).frame rfl _,dd ?_⟩;refine zq [] (kT w.counts h.counts.1 fun r hr=>xI r (h.counts.2 r hr)) rfl rfl rfl rfl rfl rfl (dd ?_);refine ⟨_,_,(hc).frame rfl _,dd ?_⟩;exact ⟨.inl rfl,_,(zo.zT 1 0 4 rfl rfl rfl rfl (.inr rfl) rfl (by simp) (shut_map (enc:=zI) (fun _=>rfl) w.ze) (zX rfl)).trans (zo.zT 1 0 6 rfl rfl rfl rfl (.inr rfl) rfl (by simp) (shut_map (enc:=zN) (fun _=>rfl) w.counts) (zX rfl)),rfl⟩
theorem ztX (l:List Ret):((l.map xi).all fun x=>x.all zx)=true:=by
 rw [List.all_eq_true];intro r hr;obtain ⟨x,_,rfl⟩:=List.mem_map.1 hr
 rfl
abbrev zkv (m:Mac):Ans:=⟨8,m.i,0,0,0,0,0,⟨0,0,0,0,0,0⟩⟩
theorem zku (w:Wor) (m:Mac) (x:Ret) (l:List Ret) (sw:qR w) (ok:OkW w) (hl:i64 m.listen) (hpc:m.pc=2) (hs:zW w m=true) (hla:kF w m=false) (hx:w.zt=x::l):
  zb Tryz.prog 185 [] [Cw w,Cm m] (.tup [Cw { w with zt:=w.zt++[⟨m.version,m.zn,false⟩] },Cm { m with done:=true,answer:=zkv m },Ce { evO m 2 11 m.version with done:=true,answer:=zkv m }]) []:=by
 have hn:=sw.zt;have hap:(Ob.mk 2 139 3 (w.zt.map xi) 0).rows++[[I m.version,I m.zn,Bo false]]=(w.zt++[(⟨m.version,m.zn,false⟩:Ret)]).map xi:=by rw [List.map_append];rfl
 refine zb.zp (fn:=Tryz.f185) Tryz.func185 rfl (uH ?_);(repeat (first | refine uA ?_ | refine uB ?_))
 refine ⟨_,_,(zM w m ok hl).frame rfl _,dd ?_⟩;refine ⟨fun _=>dd ?_,fun h=>absurd ((hs).symm.trans h:true=false) (by decide)⟩;(repeat (first | refine uA ?_ | refine uB ?_))
 (repeat refine uC ?_)
 refine ⟨_,_,(zfV w m ok).frame rfl _,dd ?_⟩;refine ⟨fun h=>absurd ((hla).symm.trans h:false=true) (by decide),fun _=>dd ?_⟩;(repeat refine uC ?_)
 refine zq [] (zid w sw x l hx) rfl rfl rfl rfl rfl rfl (dd ?_);(repeat (first | refine uA ?_ | refine uB ?_))
 refine ⟨by simp,ztX _,by simp [maxLen];omega,by show _ * 24<=_;simp;omega,dd ?_⟩;refine zq [1] (wR m 2 11 m.version) rfl rfl rfl rfl rfl rfl (dd ?_);refine .inl ⟨⟨false,[1],[1],[]⟩,by kernel_rfl,uH ?_⟩;repeat (refine ⟨rfl,uH ?_⟩)
 rw [hap];refine .inl ⟨⟨false,[0,1,2],[1,6,8],[]⟩,by kernel_rfl,uH ?_⟩;repeat (refine ⟨rfl,uH ?_⟩)
 exact ⟨.inl rfl,_,zo.zT 2 0 7 rfl rfl rfl rfl (.inr rfl) (by simp) (by simp) (shut_map (enc:=xi) (fun _=>rfl) _) (zX rfl),rfl⟩
theorem zi4 (w:Wor) (m:Mac) (sw:qR w) (ok:OkW w) (hl:i64 m.listen) (hpc:m.pc=2) (hs:zW w m=true) (hla:kF w m=false) (hx:w.zt=[]):
  zb Tryz.prog 185 [] [Cw w,Cm m] (.tup [Cw { w with zt:=w.zt++[⟨m.version,m.zn,false⟩] },Cm { m with done:=true,answer:=zkv m },Ce { evO m 2 11 m.version with done:=true,answer:=zkv m }]) []:=by
 refine zb.zp (fn:=Tryz.f185) Tryz.func185 rfl (uH ?_);(repeat (first | refine uA ?_ | refine uB ?_))
 refine ⟨_,_,(zM w m ok hl).frame rfl _,dd ?_⟩;refine ⟨fun _=>dd ?_,fun h=>absurd ((hs).symm.trans h:true=false) (by decide)⟩;(repeat (first | refine uA ?_ | refine uB ?_))
 (repeat refine uC ?_)
 refine ⟨_,_,(zfV w m ok).frame rfl _,dd ?_⟩;refine ⟨fun h=>absurd ((hla).symm.trans h:false=true) (by decide),fun _=>dd ?_⟩;(repeat refine uC ?_)
 refine ⟨_,_,(zic w sw hx).frame rfl _,dd ?_⟩;(repeat (first | refine uA ?_ | refine uB ?_))
 refine .inr ⟨.inl rfl,by decide,by decide,dd ?_⟩;refine zq [1] (wR m 2 11 m.version) rfl rfl rfl rfl rfl rfl (dd ?_);refine .inl ⟨⟨false,[1],[1],[]⟩,by kernel_rfl,uH ?_⟩;repeat (refine ⟨rfl,uH ?_⟩)
 refine .inl ⟨⟨false,[0,1,2],[1,5,7],[]⟩,by kernel_rfl,uH ?_⟩;repeat (refine ⟨rfl,uH ?_⟩)
 rw [hx];exact ⟨.inl rfl,_,zo.zT 2 0 7 rfl rfl rfl rfl (.inr rfl) (by simp) (by simp) (shut_map (enc:=xi) (fun _=>rfl) [(⟨m.version,m.zn,false⟩:Ret)]) (zX rfl),rfl⟩
end Go.Wor
namespace Go.Ab
section
variable {P:Program}
theorem opD {o:Oper} {t:List C} {H:zk} {R:C->zk->Prop} (h:jt P o (ev t) H R) (q:Option Nat) {w:World} {E:Env} {a:Act} {K:Act->World->Prop} {Q:Exit->Act->World->Prop}
  (hh:qq w E H) (hl:LL E t a.tmps.toList)
  (hk:∀ c H' w' E' a',R c H'->qq w' E' H'->LL E' (put t o.dst c) a'.tmps.toList->a'.defers=a.defers->Grow w E H w' E' H'->K a' w'):o.wpIn (fw q) 0 P a w K Q:=by
 have:=h w E a.eval hh (fun x _=>zpE hl x) (fun _=>rfl) (fun v w'=>K (a.put o.dst v) w') fun c H' v w' E' hR h1 h2 g=>
  hk c H' w' E' _ hR h1 (ziR (hl.mono g.le) h2 o.dst) (by cases o.dst <;> rfl) g
 have hnd:∀ d,o.op≠.defer d:=fun d hd=>by
  have h2:=this;unfold execOp at h2;simp only [hd,Sem.run_bind] at h2;cases hr:(resolve a.eval d o.type).run P w with
  | ok x w1=>simp [hr,Result.andThen,upV] at h2
  | halt x w1=>simp [hr,Result.andThen,upV] at h2
 unfold Oper.wpIn;refine ⟨fun _ _=>trivial,?_⟩;rw [Oper.semAt_eq _ _ _ hnd];generalize (execOp a.eval o).run P w=r at this ⊢;unfold upV at this;split at this
 ·exact this
 ·exact this
 ·rw [Oper.uponIn_enter];refine ⟨fun h=>(by cases h),callsIn_wide.2 (Calls.mono this ?_)⟩;rintro e w' ⟨v,rfl,hv⟩;exact hv
 ·rw [Oper.uponIn_round];refine ⟨fun h=>(by cases h),RoundIn.mono (F:=fw q) this ?_⟩;rintro e w' ⟨v,rfl,hv⟩;exact hv
 ·exact this.elim
theorem zrS {ops:Array Oper} {rest:List Oper}:∀ {l:List Oper} {t:List C} {H:zk} {K:List C->zk->Prop},zdZ P ops l t H K->∀ (q:Option Nat) {w:World} {E:Env} {a:Act} {Q:Exit->Act->World->Prop},qq w E H->LL E t a.tmps.toList->
  (∀ t' H' w' E' a',K t' H'->qq w' E' H'->LL E' t' a'.tmps.toList->a'.defers=a.defers->Grow w E H w' E' H'->wpListIn (fw q) 0 P ops Q rest a' w')->wpListIn (fw q) 0 P ops Q (l++rest) a w
 | [],t,H,K,h,q,w,E,a,Q,hh,hl,hk=>hk t H w E a h hh hl rfl (Grow.refl w E H)
 | o::l,t,H,K,h,q,w,E,a,Q,hh,hl,hk=>by
  rw [zhF] at h;unfold opK at h;show wpListIn (fw q) 0 P ops Q (o::(l++rest)) a w;unfold wpListIn;split at h
  ·rename_i hw;rw [if_pos (jD hl hw)];refine opD (zgc h) q hh hl fun c H' w' E' a' hR h1 h2 h3 g=>?_
   exact zrS (jx (k:=fun t=>zdZ P ops l t H' K) hR) q h1 h2 fun t2 H2 w2 E2 a2 hK h4 h5 h6 g2=>hk t2 H2 w2 E2 a2 hK h4 h5 (h6.trans h3) (g.trans g2)
  ·rename_i hw;rw [if_neg (by rw [jD hl hw];decide)];refine ⟨fun _ _=>trivial,?_⟩;exact zrS (jx (k:=fun t=>zdZ P ops l t H K) h) q (a:=a.put o.dst undef) hh (ziR hl (.un) o.dst) fun t2 H2 w2 E2 a2 hK h4 h5 h6 g2=>hk t2 H2 w2 E2 a2 hK h4 h5 (h6.trans (by cases o.dst <;> rfl)) g2
  ·exact h.elim
def zsf:List (Nat × Array Oper)->Code
 | []=>.ret
 | r::l=>.seq (.region r.1 r.2 false) (zsf l)
def zqx:Code->List (Nat × Array Oper)
 | .seq (.region i ops false) y=>(i,ops)::zqx y
 | _=>[]
def zmw (P:Program) (l:List (Nat × Array Oper)):List C->zk->(List C->zk->Prop)->Prop:=
 List.rec (motive:=fun _=>List C->zk->(List C->zk->Prop)->Prop) (fun t H K=>K t H) (fun r _ next t H K=>zdZ P r.2 r.2.toList t H fun t H=>next t H K) l
theorem zqN:∀ {l:List (Nat × Array Oper)} {t:List C} {H:zk} {K:List C->zk->Prop},zmw P l t H K->∀ {w:World} {E:Env} {a:Act} {Q:Exit->Act->World->Prop},qq w E H->LL E t a.tmps.toList->
  (∀ t' H' w' E' a',K t' H'->qq w' E' H'->LL E' t' a'.tmps.toList->a'.defers=a.defers->Grow w E H w' E' H'->Q .ret a' w')->(zsf l).wpIn (fw none) 0 P Q a w
 | [],t,H,K,h,w,E,a,Q,hh,hl,hk=>wpIn_ret (hk t H w E a h hh hl rfl (Grow.refl w E H))
 | r::l,t,H,K,h,w,E,a,Q,hh,hl,hk=>by
  have h:zdZ P r.2 r.2.toList t H fun t H=>zmw P l t H K:=h
  refine wpIn_seq (wpIn_region_list ?_);have:=zrS (rest:=[]) h none (Q:=Exit.then ((zsf l).wpIn (fw none) 0 P Q) Q) hh hl fun t2 H2 w2 E2 a2 hK h1 h2 h3 g=>wpListIn_nil (zqN hK h1 h2 fun t3 H3 w3 E3 a3 hK3 h4 h5 h6 g2=>hk t3 H3 w3 E3 a3 hK3 h4 h5 (h6.trans h3) (g.trans g2))
  rwa [List.append_nil] at this
theorem zew {m:Nat}:∀ {ds:List Deferred} {w:World} {fr:Frame} {cs:List Frame},Marks m w ds->fr.mode≠.run->fr.defers=ds->(fw none).room (cs.length+1+0)->
  ∃ w',StepsIn (Machine.fenced P (fw none)) P (lone fr cs w) (lone { fr with defers:=[] } cs w')∧w'.os=w.os∧w'.tape=w.tape∧w'.output=w.output∧w'.heap.size=w.heap.size∧(∀ k:Nat,k < m->w'.heap[k]?= w.heap[k]?)∧
   ∀ (k:Nat) (o:Obj),w.heap[k]?= some o->(∀ ds,o≠.deferred ds)->w'.heap[k]?= w.heap[k]?
 | [],w,fr,cs,_,hm,hd,hroom=>⟨w,by have:({ fr with defers:=[] }:Frame)=fr:=by cases fr;cases hd;rfl
                                   rw [this];exact StepsIn.refl _,rfl,rfl,rfl,rfl,fun _ _=>rfl,fun _ _ _ _=>rfl⟩
 | d::ds,w,fr,cs,⟨⟨D,h1,h2,h3,h4⟩,ht⟩,hm,hd,hroom=>by
  have htar:d.target=.collected D:=by rw [h1]
  have hs:=step_collected (P:=P) (cs:=cs) hm hd htar (run_takeDeferred h3);have i1:(lone fr cs w).fenced P (fw none):=fenced_out (n:=0) trivial hroom hm hd (fun g hg=>by rw [htar] at hg;simp [Target.leads] at hg);obtain ⟨w',s1,a1,a2,a3,a4,a5,a6⟩:=zew (fr:={ fr with defers:=[]++ds }) (cs:=cs) (Marks.mono (w':=w.putObj D (.deferred none)) (by simp) ht fun D' hm hd=>World.putObj_heap_other (by rintro rfl;exact h4 hm)) hm rfl hroom;refine ⟨w',.head i1 hs s1,a1,a2,a3,a4.trans World.putObj_size,fun k hk=>(a5 k hk).trans (World.putObj_heap_other (by omega)),fun k o hc hd=>?_⟩;have hne:k≠D:=by rintro rfl;rw [h3] at hc;cases hc;exact hd _ rfl
  have e:=World.putObj_heap_other (w:=w) (o:=.deferred none) hne;exact (a6 k o (e.trans hc) hd).trans e
def zb3 (P:Program) (f:FuncId) (H:zk) (args:List C) (H':zk):Prop:=
 ∀ (u:FrameMode) (w:World) (E:Env) (vs:Array Value),qq w E H->LL E args vs.toList->
  CallsDIn (fw none) 0 P f vs u w fun e u' w'=>u'=u∧∃ v E',e=.returned v∧qq w' E' H'∧Grow w E H w' E' H'
theorem zb3.kH {f:FuncId} {fn:Func} {c:Code} {H H':zk} {args:List C} (hf:P.funcs[f]?= some fn) (hb:fn.body=some c)
  (hr:qQ P H.length c ⟨entry fn args,H⟩ fun ex s1=>(ex=.ret∨ex=.normal)∧∃ s2 r,zo H.length s1 s2∧vT P fn s2=some r∧s2.H=H'):zb3 P f H args H':=fun u w E vs hh hl=>by
 have hrun:=hr none w.heap.size w E { tmps:=vs++Array.replicate (fn.ntmps - vs.size) undef,defers:=[] } (fun ex a1 w1=>(ex=.ret∨ex=.normal)∧∃ E' s2 r,vT P fn s2=some r∧s2.H=H'∧xx H.length w.heap.size w1 E' s2 a1∧jn H.length w E H w1 E' s2.H) (fun _=>rfl) ⟨hh,zfJ hl,Nat.le_refl _,Nat.le_refl _⟩ fun ex s1 w' E1 a' hR hs1 g1=>by
  obtain ⟨hex,s',r,hw,hres,e⟩:=hR;obtain ⟨E',hs,g2⟩:=hw _ w' E1 a' hs1;exact ⟨hex,E',s',r,hres,e,hs,g1.trans g2⟩
 refine ⟨trivial,fun c₀ cs hu hroom=>?_⟩
 let b:Frame:={ (default:Frame) with fn:=f,kind:=.deferred,roundOf:=none }
 have henter:Frame.enter P f vs .deferred=b.atR { tmps:=vs++Array.replicate (fn.ntmps - vs.size) undef,defers:=[] } [.code c]:=by
  simp [Frame.enter,Frame.atR,hf,hb,b]
 have hc:({ c₀ with mode:=u }:Frame)=c₀:=by subst hu;rfl
 obtain ⟨e,a',w',⟨hex,E',s2,r,hres,rfl,hs,g⟩,harr⟩:=hrun b [] (c₀::cs) rfl trivial hroom;rw [<- henter] at harr
 have out:∀ (fr:Frame),fr.mode=.returning->fr.defers=a'.defers->fr.tmps=a'.tmps->fr.kind=.deferred->fr.fn=f->StepsIn (Machine.fenced P (fw none)) P (lone (Frame.enter P f vs .deferred) (c₀::cs) w) (lone fr (c₀::cs) w')->
   ∃ e u' w' fr,(u'=u∧∃ v E',e=.returned v∧qq w' E' s2.H∧Grow w E H w' E' s2.H)∧ComesIn (Machine.fenced P (fw none)) P (lone (Frame.enter P f vs .deferred) (c₀::cs) w) (lone fr ({ c₀ with mode:=u' }::cs) w') e∧fr.kind=.deferred∧fr.fn=f∧fr.going P w' e:=fun fr h1 h2 h3 h4 h5 hst=>by
  obtain ⟨w2,st,a1,a2,a3,a4,a5,a6⟩:=zew (P:=P) (cs:=c₀::cs) hs.defers (by rw [h1];simp) h2 hroom;have hs2:xx H.length w.heap.size w2 E' s2 { a' with defers:=[] }:=⟨hs.heap.cells a6,hs.tmps,by show _<=w2.heap.size;rw [a4];exact g.size,hs.base⟩;obtain ⟨v,hv,_⟩:=zgs hs2 hres
  have hg:Grow w E H w2 E' s2.H:=⟨⟨by rw [hh.n,hs.heap.n];exact hs.base,fun id hops hi=>g.le.β id hops tD,fun id hops hi=>g.le.κ id hops tD,g.le.St,fun id k u hi=>g.le.G id k u tD⟩,
   a1.trans g.os,a2.trans g.tape,a3.trans g.output,by rw [a4];exact g.size,fun k hk ho=>(a5 k hk).trans (g.frame k hk ho),g.jy,g.own⟩
  exact ⟨.returned v,u,w2,{ fr with defers:=[] },⟨rfl,v,E',rfl,hs2.heap,hg⟩,by rw [hc];exact StepsIn.trans hst st,h4,h5,h1,rfl,fn,by show P.funcs[fr.fn]?= _;rw [h5];exact hf,by show (results fn fr.tmps).run P w2=_;rw [h3];exact hv⟩
 rcases hex with rfl | rfl
 ·obtain ⟨todo,h0⟩:=harr.1 rfl;exact out _ rfl rfl rfl rfl rfl h0
 ·exact out _ rfl rfl rfl rfl rfl (StepsIn.trans harr (.one (fenced_calm (n:=0) (fr:=b.atR a' []) trivial hroom rfl) (stepR_end rfl)))
def Fin (P:Program) (fn:Func) (w0:World) (E0:Env) (H:zk) (R:C->zk->Prop):Exit->Act->World->Prop:=
 bodyPostM (fw none) 0 P fn fun e w'=>∃ r H' v E',R r H'∧e=.returned v∧qq w' E' H'∧L E' r v∧Grow w0 E0 H w' E' H'
def zeS (P:Program) (fn:Func) (H:zk) (c:Code) (s:S) (R:C->zk->Prop):Prop:=
 ∀ (w0:World) (E0:Env) (w:World) (E:Env) (a:Act),qq w0 E0 H->xx H.length w0.heap.size w E s a->jn H.length w0 E0 H w E s.H->c.wpIn (fw none) 0 P (Fin P fn w0 E0 H R) a w
def zja (P:Program) (fn:Func) (H:zk) (R:C->zk->Prop) (s1:S):Prop:=∃ s2 r,zo H.length s1 s2∧vT P fn s2=some r∧R r s2.H
theorem ziz {fn:Func} {H:zk} {R:C->zk->Prop} {w0 w:World} {E0 E:Env} {s1:S} {a:Act} (hh:qq w0 E0 H) (hs:xx H.length w0.heap.size w E s1 a) (hg:jn H.length w0 E0 H w E s1.H) (h:zja P fn H R s1):
  LeavesInM (fw none) 0 P fn a.tmps (fun e w'=>∃ r H' v E',R r H'∧e=.returned v∧qq w' E' H'∧L E' r v∧Grow w0 E0 H w' E' H') a.defers .returning w:=by
 obtain ⟨s',r,hw,hres,hRr⟩:=h;obtain ⟨E',hs,g2⟩:=hw _ w E a hs;have g:=hg.trans g2;refine leaves hs.defers fun w2 a1 a2 a3 a4 a5 a6=>?_
 have hs2:xx H.length w0.heap.size w2 E' s' { a with defers:=[] }:=⟨hs.heap.cells a6,hs.tmps,by show _<=w2.heap.size;rw [a4];exact g.size,hs.base⟩;obtain ⟨v,h1,h2⟩:=zgs hs2 hres
 have hg:Grow w0 E0 H w2 E' s'.H:=⟨⟨by rw [hh.n,hs.heap.n];exact hs.base,fun id hops hi=>g.le.β id hops tD,fun id hops hi=>g.le.κ id hops tD,g.le.St,fun id k u hi=>g.le.G id k u tD⟩,
  a1.trans g.os,a2.trans g.tape,a3.trans g.output,by rw [a4];exact g.size,fun k hk ho=>(a5 k hk).trans (g.frame k hk ho),g.jy,g.own⟩
 exact ⟨v,h1,r,s'.H,v,E',hRr,rfl,hs2.heap,h2,hg⟩
theorem zeS.kH {fn:Func} {H:zk} {c:Code} {s:S} {R:C->zk->Prop} (h:qQ P H.length c s fun ex s1=>(ex=.ret∨ex=.normal)∧zja P fn H R s1):zeS P fn H c s R:=fun w0 E0 w E a hh hs hg=>
 h none w0.heap.size w E a _ (fun _=>rfl) hs fun ex s1 w' E1 a' ⟨hex,hl⟩ hs1 g1=>by
  have:=ziz hh hs1 (hg.trans g1) hl;rcases hex with rfl | rfl <;> exact this
theorem zeS.seq {fn:Func} {H:zk} {x y:Code} {s:S} {R:C->zk->Prop} (h:qQ P H.length x s fun ex s1=>(ex=.normal∧∃ s2,zo H.length s1 s2∧zeS P fn H y s2 R)∨(ex=.ret∧zja P fn H R s1)):zeS P fn H (.seq x y) s R:=fun w0 E0 w E a hh hs hg=>
 wpIn_seq (h none w0.heap.size w E a _ (fun _=>rfl) hs fun ex s1 w' E1 a' hR hs1 g1=>by
  rcases hR with ⟨rfl,s2,hw,hy⟩ | ⟨rfl,hl⟩
  ·obtain ⟨E2,hs2,g2⟩:=hw _ w' E1 a' hs1;exact hy w0 E0 w' E2 a' hh hs2 ((hg.trans g1).trans g2)
  ·exact ziz hh hs1 (hg.trans g1) hl)
theorem zeS.deferred {fn:Func} {H:zk} {i:Nat} {oM oD:Oper} {cl:Call} {k:Tmp} {g:FuncId} {t:List C} {Hs:zk} {regs:List (Nat × Array Oper)} {R:C->zk->Prop}
  (hop:oD.op=.defer cl) (hcl:cl.callee=.value (.tmp k)) (hca:cl.args= #[]) (hgu:oD.guard=none) (hdst:oD.dst=none) (hcb:qm P g=true)
  (h:zdZ P #[oM,oD] [oM] t Hs fun t1 H1=>∃ caps,t1[k]?= some (.fn g [] caps)∧zmw P regs t1 H1 fun t2 H2=>∃ H3,zb3 P g H2 caps H3∧zja P fn H R ⟨t2,H3⟩):
  zeS P fn H (.seq (.region i #[oM,oD] false) (zsf regs)) ⟨t,Hs⟩ R:=fun w0 E0 w E a hh hs hg=>by
 refine wpIn_seq (wpIn_region_list ?_);refine zrS (rest:=[oD]) h none hs.heap hs.tmps fun t1 H1 w1 E1 a1 ⟨caps,hk,ht⟩ h1 h2 h3 g1=>?_
 unfold wpListIn;rw [if_pos (by unfold Region.wanted;rw [hgu])];obtain ⟨u,hu,hL⟩:=h2.get hk;rw [Array.getElem?_toList] at hu
 obtain ⟨zs,hv,h5,h6⟩:∃ zs,u=.func (.func g) #[] zs∧caps.length=zs.size∧(∀ (i:Nat) c y,caps[i]?= some c->zs[i]?= some y->L E1 c y):=by
  cases hL with
  | fn f first caps ys zs h1 h2 h3 h4=>exact ⟨zs,by rw [show ys= #[] from Array.eq_empty_of_size_eq_zero h1.symm],h2,h4⟩
 have hev:a1.eval (.tmp k)=.func (.func g) #[] zs:=by
  show a1.tmps.getD k undef=_;rw [Array.getD_eq_getD_getElem?,hu,hv]
  rfl
 have hr:(execOp a1.eval oD).run P w1=.ok (.defer { target:=.fn (.func g) zs,args:= #[] }) w1:=by
  unfold execOp;simp [hop,resolve,hcl,hca,hev,Deferred.ofValue]
 unfold Oper.wpIn;refine ⟨fun _ _=>trivial,?_⟩;rw [show (fw none).round=none from rfl,Oper.semAt_none,hr,Oper.uponIn_defer,hdst];refine wpListIn_nil (zqN ht h1 h2 fun t2 H2 w2 E2 a2 ⟨H3,hD,hlv⟩ h7 h8 h9 g2=>?_);have h9:a2.defers={ target:=.fn (.func g) zs,args:= #[] }::a.defers:=h9.trans (by show _::a1.defers=_;rw [h3]);have gB:jn H.length w0 E0 H w2 E2 H2:=hg.trans ((g1.trans g2).toB tB);have hM:Marks w0.heap.size w2 a.defers:=hs.defers.grow hs.heap (g1.trans g2);show LeavesInM (fw none) 0 P fn a2.tmps _ a2.defers .returning w2;rw [h9];refine ⟨by simp,.inr ⟨fun h=>(by cases h),.func g,zs,g,zs,rfl,?_,fun _ _=>trivial,?_⟩⟩
 ·unfold qm at hcb;split at hcb
  rotate_left
  ·cases hcb
  rename_i fng hfn;simp only [Bool.and_eq_true,Bool.not_eq_true'] at hcb;have hname : fng.name ≠ "runtime.NumGoroutine" := by simpa using hcb.1
  have hbody:fng.body≠none:=by intro hb;simp [hb] at hcb
  simp [invoke,callFunc,hfn,hname,hbody]
 have e2:LL E2 caps zs.toList:=⟨by simpa using h5,fun i c y e1 e2=>(h6 i c y e1 uY).mono g2.le⟩;refine (hD .returning w2 E2 zs h7 e2).mono ?_;rintro e u' w3 ⟨rfl,v,E3,rfl,h10,g3⟩;have hb:H.length<=H2.length:=by have:=hs.base;have:=(g1.trans g2).le.n;rw [hs.heap.n,h7.n] at this;omega
 have hs3:xx H.length w0.heap.size w3 E3 ⟨t2,H3⟩ { a2 with defers:=a.defers }:=⟨h10,h8.mono g3.le,hM.grow h7 g3,by have:=g3.le.n;rw [h7.n,h10.n] at this;exact Nat.le_trans hb this⟩;exact ziz hh hs3 (gB.trans (g3.toB (by rw [h7.n];exact hb))) hlv
theorem qw.zrJ {f:FuncId} {fn:Func} {c:Code} {H:zk} {args:List C} {R:C->zk->Prop} (hf:P.funcs[f]?= some fn) (hb:fn.body=some c) (h:zeS P fn H c ⟨entry fn args,H⟩ R):qw P f H args R:=fun w E vs hh hl=>
 (callsIn_wide (n:=0)).1 (callsIn_of_wp_marks hf hb trivial (h w E w E _ hh ⟨hh,zfJ hl,Nat.le_refl _,Nat.le_refl _⟩ (jn.refl H.length w E H)))
theorem zb3.zS {f:FuncId} {fn:Func} {c:Code} {H H':zk} {args:List C} (hf:P.funcs[f]?= some fn) (hb:fn.body=some c)
  (h:wpA P H.length c (entry fn args) H fun ex t1 H1=>(ex=.ret∨ex=.normal)∧∃ s2 r,zo H.length ⟨t1,H1⟩ s2∧vT P fn s2=some r∧s2.H=H'):zb3 P f H args H':=
 .kH hf hb ((jl h).mono fun ex s1 h1=>h1)
theorem zeS.zts {fn:Func} {H Hs:zk} {x y:Code} {t:List C} {R:C->zk->Prop} (h:wpA P H.length x t Hs fun ex t1 H1=>(ex=.normal∧∃ t2 H2,zo H.length ⟨t1,H1⟩ ⟨t2,H2⟩∧zeS P fn H y ⟨t2,H2⟩ R)∨(ex=.ret∧zja P fn H R ⟨t1,H1⟩)):zeS P fn H (.seq x y) ⟨t,Hs⟩ R:=
 .seq ((jl h).mono fun ex s1 h1=>h1.imp (fun ⟨e,t2,H2,hw,hr⟩=>⟨e,_,hw,hr⟩) id)
end
def zaU (H:zk) (id:Nat):zk:=H.modify id fun _=>⟨0,0,0,[],0⟩
theorem kc (H:zk) (id j:Nat):(zaU H id)[j]?= (H[j]?).map fun ob=>if id=j then ⟨0,0,0,[],0⟩ else ob:=by
 unfold zaU;rw [List.getElem?_modify]
 rfl
theorem kB {H:zk} {id:Nat} {id':Nat} {p:List Hop} {x:Nat × List (List C)} (h:zZ (zaU H id) id' p=some x):id'≠id∧zZ H id' p=some x:=by
 obtain ⟨ob,ho,hk,hg⟩:=qZ h;rw [kc] at ho;cases hx:H[id']? with
 | none=>rw [hx] at ho;cases ho
 | some ob0=>
  rw [hx] at ho;simp only [Option.map_some,Option.some.injEq] at ho;by_cases hid:id=id'
  ·subst hid;simp at ho;subst ho;simp at hk
  ·rw [if_neg hid] at ho;subst ho;refine ⟨Ne.symm hid,?_⟩;unfold zZ;rw [hx];simp only [hk,if_true];exact hg
theorem z8.gone {w:World} {E:Env} {H:zk} (h:z8 w E H) (id:Nat):z8 w E (zaU H id) where
 n:=by rw [h.n];simp [zaU]
 blk id' ob p sz rows hob hx:=by
  obtain ⟨h1,h2⟩:=kB hx;rw [kc] at hob;cases hx':H[id']? with
  | none=>rw [hx'] at hob;cases hob
  | some ob0=>
   rw [hx'] at hob;simp only [Option.map_some,Option.some.injEq,if_neg (Ne.symm h1)] at hob;subst hob;exact h.blk id' _ p sz rows hx' h2
 inj id1 p1 id2 p2 x y hx hy he:=h.inj id1 p1 id2 p2 x y (kB hx).2 (kB hy).2 he
 qo:=h.qo
 sep id' p x o u hx hu:=by
  obtain ⟨h1,h2⟩:=kB hx;obtain ⟨e1,ob,e2,e3⟩:=h.sep id' p x o u h2 hu;refine ⟨e1,ob,?_,e3⟩;rw [kc,e2];simp [Ne.symm h1]
 ty id' ob hob hk:=by
  rw [kc] at hob;cases hx':H[id']? with
  | none=>rw [hx'] at hob;cases hob
  | some ob0=>
   rw [hx'] at hob;simp only [Option.map_some,Option.some.injEq] at hob;by_cases hid:id=id'
   ·rw [if_pos hid] at hob;subst hob;simp at hk
   ·rw [if_neg hid] at hob;subst hob;exact h.ty id' _ hx' hk
 fz id' ob hob:=by
  rw [kc] at hob;cases hx':H[id']? with
  | none=>rw [hx'] at hob;cases hob
  | some ob0=>
   rw [hx'] at hob;simp only [Option.map_some,Option.some.injEq] at hob;have h0:=h.fz id' ob0 hx';subst hob;split
   ·simp
   ·exact h0
theorem y9 {H:zk} {id i:Nat} {ob:Ob} (h:(zaU H id)[i]?= some ob) (hk:ob.kind=4):H[i]?= some ob:=by
 rw [kc] at h;cases hx:H[i]? with
 | none=>rw [hx] at h;cases h
 | some o=>
  rw [hx] at h;simp only [Option.map_some,Option.some.injEq] at h;split at h
  ·subst h;cases hk
  ·rw [h]
theorem zo.gone {B:Nat} {s:S} (id:Nat):zo B s ⟨s.tmps,zaU s.H id⟩:=fun m w E a hs=>by
 have hg:∀ {i b},qz E (zaU s.H id) i b->qz E s.H i b:=fun ⟨ob,cap,h1,h2,h3,h4⟩=>⟨ob,cap,y9 h1 h2,h2,h3,h4⟩
 have hr:∀ {i b},jm (zaU s.H id) i b->jm s.H i b:=fun ⟨ob,o,t,h1,h2,h3,h4⟩=>⟨ob,o,t,y9 h1 h2,h2,h3,h4⟩
 have h0:∀ {b},qX E (zaU s.H id) b->qX E s.H b:=fun ⟨i,p,x,h1,h2⟩=>⟨i,p,x,(kB h1).2,h2⟩
 refine ⟨E,⟨⟨hs.heap.base.gone id,?_⟩,hs.tmps,hs.defers,by have:=hs.base;simp [zaU];omega⟩,⟨Env.leB.refl B E,rfl,rfl,rfl,Nat.le_refl _,fun _ _ _=>rfl,fun _ _ _ h=>.inl h,?_⟩⟩
 ·exact {
   val:=fun i ob h1 h2=>hs.heap.gro.val i ob (y9 h1 h2) h2
   blk:=fun i b ob h1 h2=>hs.heap.gro.blk i b ob (hg h1) (by obtain ⟨ob2,_,h3,h4,_⟩:=h1;rw [h2] at h3;cases h3;exact y9 h2 h4)
   sep:=fun i b h1 h2=>hs.heap.gro.sep i b (hg h1) (h0 h2)
   inj:=fun i j b h1 h2=>hs.heap.gro.inj i j b (hg h1) (hg h2)
   st:=fun i b ob o u h1 h2 h3=>hs.heap.gro.st i b ob o u (hg h1) (by obtain ⟨ob2,_,h4,h5,_⟩:=h1;rw [h2] at h4;cases h4;exact y9 h2 h5) h3
   top:=fun i ob k u h1 h2 h3=>hs.heap.gro.top i ob k u (y9 h1 h2) h2 h3
   lop:=fun i ob o t h1 h2 h3=>hs.heap.gro.lop i ob o t (y9 h1 h2) h2 h3
   kQ:=fun i j b h1 h2=>hs.heap.gro.kQ i j b (hr h1) (hr h2) }
 ·rintro b (hb | ⟨i,hb | hb⟩)
  ·exact .inr (.inl (h0 hb))
  ·exact .inr (.inr ⟨i,.inl (hg hb)⟩)
  ·exact .inr (.inr ⟨i,.inr (hr hb)⟩)
theorem qw.zuc {P:Program} {f:FuncId} {H H2:zk} {args:List C} {r:C} (hle:H.length<=H2.length) (h1:qw P f H args fun r1 H1=>zo H.length ⟨[r1],H1⟩ ⟨[r],H2⟩):zb P f H args r H2:=fun w E vs hh hl0=>by
 refine (h1 w E vs hh hl0).mono ?_;rintro e w' ⟨r1,H1,v,E',hw,h0,h2,h3,g⟩;have hHH:H.length<=H1.length:=by rw [<- hh.n,<- h2.n];exact g.le.n
 obtain ⟨E2,hs,g2⟩:=hw 0 w' E' ⟨#[v],[]⟩ ⟨h2,LL.one h3,Nat.zero_le _,hHH⟩;have hn2:=hs.heap.n;refine ⟨v,E2,h0,hs.heap,hs.tmps.cons_inv.1,⟨⟨by rw [hh.n,hn2];exact hle,fun id hops hi=>?_,fun id hops hi=>?_,fun b o u hu=>g2.le.St _ _ _ (g.le.St _ _ _ hu),fun id k u hi hu=>?_⟩,g2.os.trans g.os,g2.tape.trans g.tape,g2.output.trans g.output,Nat.le_trans g.size g2.size,?_,?_,?_⟩⟩
 ·rw [hh.n] at hi;exact (g2.le.β id hops hi).trans (g.le.β id hops tO)
 ·rw [hh.n] at hi;exact (g2.le.κ id hops hi).trans (g.le.κ id hops tO)
 ·rw [hh.n] at hi;exact g2.le.G id k u hi (g.le.G id k u tO hu)
 ·intro k hk ho;exact (g2.frame k (Nat.lt_of_lt_of_le hk g.size) fun hc=>(g.own k hc).elim (fun h=>by omega) ho).trans (g.frame k hk ho)
 ·intro b o u hu;rcases g2.jy b o u hu with h1 | h1 | h1
  ·exact g.jy b o u h1
  ·exact .inr (.inl (Nat.le_trans g.size h1))
  ·rcases g.own b h1 with h4 | h4
   ·exact .inr (.inl h4)
   ·exact .inr (.inr h4)
 ·intro b hb;rcases g2.own b hb with h1 | h1
  ·exact .inl (Nat.le_trans g.size h1)
  ·exact g.own b h1
end Go.Ab
namespace Go.Wor
open Go.Ab Go.Proofs Go.Hy Go.Gat Go.Nam Go.Hos Go.Con Go.Sna
theorem k9 {c:Cfg} (h:xf c):wc (ji c).1:=by
 unfold ji;split
 ·exact ⟨by simp,by simp,by simp⟩
 ·refine ⟨h.zd,⟨by simpa using h.zP.1,fun r hr=>?_⟩,h.zl⟩;simp only [List.mem_map] at hr;obtain ⟨q,hq,rfl⟩:=hr;exact ⟨(h.zP.2 q hq).2.1,(h.zP.2 q hq).2.2.1⟩
def wQ (c:Cfg):Int:=if (ji c).2.1≠0 then (ji c).2.1 else (qI (ji c).1).2
def yJ (c:Cfg):Ver:=(qI (ji c).1).1
theorem ztY (l:List Ver):((l.map zI).all fun x=>x.all zx)=true:=by
 rw [List.all_eq_true];intro r hr;obtain ⟨x,_,rfl⟩:=List.mem_map.1 hr
 rfl
abbrev swM (m:Mac) (was now:Int):Mac:={ m with version:=was,zf:=0,end_:=0,other:=0,slot:=0,i:=now,pc:=1 }
theorem zg1 (w:Wor) (v:Ver) (hn:w.ze.length < 1000000000):zb Tryz.prog 229 [⟨1,28,8,[[I w.zn,I w.current,I w.lock,lI w.pins,.sl 1 [] 5 0 (w.ze.length) false,lL w.zd,lCo w.counts,lR w.zt]],0⟩,⟨2,79,5,(w.ze).map zI,0⟩] [Cv v,.ref 0 [] 8 0 0] (.tup [I w.current,I w.ze.length]) [⟨1,28,8,[[I w.zn,I w.ze.length,I w.lock,lI w.pins,.sl 2 [] 5 0 ((w.ze.length+1)) false,lL w.zd,lCo w.counts,lR w.zt]],0⟩,⟨0,0,0,[],0⟩,⟨2,79,5,(w.ze++[v]).map zI,0⟩]:=by
 have hap:(Ob.mk 2 79 5 (w.ze.map zI) 0).rows++[zI v]=(w.ze++[v]).map zI:=by rw [List.map_append];rfl
 refine z6 (fn:=Tryz.f229) Tryz.func229 rfl (by simp) (uH ?_);refine uE ?_;refine ⟨by simp,ztY _,by simp [maxLen];omega,by show _ * 104<=_;simp;omega,dd ?_⟩;refine ⟨.inl rfl,_,_,zo.gone 1,rfl,?_⟩;rw [<- hap];exact zo.ren [0,1,3] [0] _ _ rfl rfl rfl rfl
theorem zjw (w:Wor) (m:Mac) (c:Int) (hc:xf m.op.config) (he:wQ m.op.config=0) (hn:w.ze.length < 1000000000):
  zb Tryz.prog 228 [⟨1,97,44,[zD (m)],0⟩,⟨1,28,8,[[I w.zn,I w.current,I w.lock,lI w.pins,.sl 2 [] 5 0 (w.ze.length) false,lL w.zd,lCo w.counts,lR w.zt]],0⟩,⟨2,79,5,(w.ze).map zI,0⟩] [.ref 0 [] 44 0 0,.fn 229 [] [.ref 1 [] 8 0 0],I c] (Ce { evO m 6 3 w.ze.length with jq:=true }) [⟨1,97,44,[zD (swM m w.current w.ze.length)],0⟩,⟨1,28,8,[[I w.zn,I w.ze.length,I w.lock,lI w.pins,.sl 3 [] 5 0 ((w.ze.length+1)) false,lL w.zd,lCo w.counts,lR w.zt]],0⟩,⟨0,0,0,[],0⟩,⟨2,79,5,(w.ze++[yJ m.op.config]).map zI,0⟩]:=by
 have hb:=zaJ m.op.config hc;have hl:=zee _ (k9 hc)
 have h1:(ji m.op.config).2.1=0:=by
  unfold wQ at he;split at he
  ·contradiction
  ·rename_i hx;omega
 have h2:(qI (ji m.op.config).1).2=0:=by
  unfold wQ at he
  rwa [if_neg (by omega)] at he
 unfold yJ;generalize ji m.op.config=bv at hb hl h1 h2 ⊢;obtain ⟨sn,e1,e2⟩:=bv;cases h1
 have hl:zb Tryz.prog 74 [] [Cs sn] (tV (qI sn)) []:=hl;have h2:(qI sn).2=0:=h2;show zb Tryz.prog 228 _ _ _ [_,_,_,⟨2,79,5,(w.ze++[(qI sn).1]).map zI,0⟩];generalize qI sn=cv at hl h2 ⊢;obtain ⟨v,e3⟩:=cv;cases h2
 have hb:zb Tryz.prog 48 [] [Cf m.op.config] (.tup [Cs sn,I 0,I e2]) []:=hb;have hl:zb Tryz.prog 74 [] [Cs sn] (.tup [Cv v,I 0]) []:=hl;refine z6 (fn:=Tryz.f228) Tryz.func228 rfl (by simp) (uH ?_);refine ⟨_,_,(hb).frame rfl _,dd ?_⟩;(refine ⟨fun _=>dd ?_,fun h=>absurd (h.symm.trans rfl:false=true) (by decide)⟩)
 refine ⟨_,_,(hl).frame rfl _,dd ?_⟩;(refine ⟨fun _=>dd ?_,fun h=>absurd (h.symm.trans rfl:false=true) (by decide)⟩)
 refine zq [1,2] (zg1 w v hn) rfl rfl rfl rfl rfl rfl (dd ?_);refine .inl ⟨⟨false,[0,1,2,3,4,5,6],[3],[]⟩,by kernel_rfl,uH ?_⟩;repeat (refine ⟨rfl,uH ?_⟩)
 refine zq [0] (wR (swM m w.current w.ze.length) 6 3 w.ze.length) rfl rfl rfl rfl rfl rfl (dd ?_);exact ⟨.inl rfl,_,_,.refl _,rfl,zo.ren [0,1,2,8] [0] _ _ rfl rfl rfl rfl⟩
abbrev swN (f:Int):Ans:=⟨9,0,0,0,0,0,f,⟨0,0,0,0,0,0⟩⟩
theorem zlc (m:Mac) (e:Eve) (f:Int):zb3 Tryz.prog 281 [⟨1,97,44,[zD (m)],0⟩,⟨1,254,1,[[.ref 0 [] 44 0 0]],0⟩,⟨1,62,23,[zQ (e)],0⟩,⟨1,76,3,[qJ ⟨[],[],[]⟩],0⟩,⟨1,30,1,[[I f]],0⟩] [.ref 1 [] 1 0 0,.ref 2 [] 23 0 0,.ref 4 [] 1 0 0] [⟨1,97,44,[zD ({ m with done:=true,answer:=swN f })],0⟩,⟨1,254,1,[[.ref 0 [] 44 0 0]],0⟩,⟨1,62,23,[zQ ({ e with done:=true,answer:=swN f })],0⟩,⟨1,76,3,[qJ ⟨[],[],[]⟩],0⟩,⟨1,30,1,[[I f]],0⟩]:=by
 refine zb3.zS (fn:=Tryz.f281) Tryz.func281 rfl (uH ?_);exact ⟨.inr rfl,_,_,.refl _,rfl,rfl⟩
theorem zgS (m:Mac) (c f:Int) (hc:xf m.op.config) (hf:(ji m.op.config).2.1=f) (h0:f≠0):
  zb Tryz.prog 228 [⟨1,97,44,[zD (m)],0⟩] [.ref 0 [] 44 0 0,.fn 229 [] [.za],I c] (Ce { evO m 1 3 c with jq:=true,done:=true,answer:=swN f }) [⟨1,97,44,[zD ({ m with done:=true,answer:=swN f })],0⟩]:=by
 have hb:=zaJ m.op.config hc
 have h2:(ji m.op.config).1=⟨[],[],[]⟩:=by
  unfold ji at hf ⊢;split
  ·rfl
  ·rename_i h;rw [if_neg h] at hf;exact absurd hf.symm h0
 generalize ji m.op.config=bv at hb hf h2;obtain ⟨sn,e1,e2⟩:=bv;cases hf
 cases h2
 have hb:zb Tryz.prog 48 [] [Cf m.op.config] (.tup [Cs ⟨[],[],[]⟩,I e1,I e2]) []:=hb;refine qw.zuc (Nat.le_refl _) (qw.zrJ (fn:=Tryz.f228) Tryz.func228 rfl (.zts ?_));conv=>whnf
 refine .inl ⟨rfl,_,_,.refl _,.zts (uH ?_)⟩;refine ⟨_,_,(hb).frame rfl _,dd ?_⟩;refine .inl ⟨rfl,_,_,.refl _,.zts (uH ?_)⟩;refine ⟨fun h=>absurd h (by simpa using h0),fun _=>dd ?_⟩;refine .inl ⟨rfl,_,_,.refl _,?_⟩;refine zeS.deferred (g:=281) (regs:=zqx (behind 4 ((Tryz.f228.body).getD .skip))) rfl rfl rfl rfl rfl rfl (uH ?_);refine ⟨_,rfl,uH ?_⟩;refine zq [0] (wR m 1 3 c) rfl rfl rfl rfl rfl rfl (dd ?_);refine ⟨_,zlc m { evO m 1 3 c with jq:=true } e1,?_⟩;exact ⟨_,_,.refl _,rfl,cE 1⟩
theorem zie (w:Wor) (h:qR w):zb Tryz.prog 224 [] [Cw w] (.agg (rwW w 0)) [⟨2,79,5,(w.ze).map zI,0⟩]:=by
 refine zcn (fn:=Tryz.f224) Tryz.func224 rfl (uH ?_);refine ⟨_,_,(yL w.pins h.pins).frame rfl _,dd ?_⟩;refine zq [] (kU w.ze h.ze.1 fun v hv=>jw v (h.ze.2 v hv)) rfl rfl rfl rfl rfl rfl (dd ?_);refine ⟨_,_,(vq w.zd h.zd).frame rfl _,dd ?_⟩;refine zq [] (kT w.counts h.counts.1 fun r hr=>xI r (h.counts.2 r hr)) rfl rfl rfl rfl rfl rfl (dd ?_);refine ⟨_,_,(wq w.zt h.zt).frame rfl _,dd ?_⟩;refine ⟨.inl rfl,_,_,zo.zT 1 0 6 rfl rfl rfl rfl (.inr rfl) rfl (by simp) (shut_map (enc:=zN) (fun _=>rfl) w.counts) (zX rfl),rfl,?_⟩;exact zo.ren [3] [0] _ _ rfl rfl rfl (zc rfl (zc rfl (zc rfl (zc rfl (zc (zi fun r hr c hc=>((shut_map (enc:=zN) (fun _=>rfl) w.counts) r hr c hc).2) rfl)))))
theorem zks (w:Wor) (m:Mac) (sw:qR w) (ok:OkW w) (hl:i64 m.listen) (hpc:m.pc=0) (hs:zW w m=true) (hc:xf m.op.config) (he:wQ m.op.config=0):
  zb Tryz.prog 185 [] [Cw w,Cm m] (.tup [Cw { w with current:=w.ze.length,ze:=w.ze++[yJ m.op.config] },Cm (swM m w.current w.ze.length),Ce { evO m 6 3 w.ze.length with jq:=true }]) []:=by
 refine zb.zp (fn:=Tryz.f185) Tryz.func185 rfl (uH ?_);(repeat (first | refine uA ?_ | refine uB ?_))
 refine ⟨_,_,(zM w m ok hl).frame rfl _,dd ?_⟩;refine ⟨fun _=>dd ?_,fun h=>absurd ((hs).symm.trans h:true=false) (by decide)⟩;(repeat (first | refine uA ?_ | refine uB ?_))
 (repeat refine uC ?_)
 refine zq [] (zie w sw) rfl rfl rfl rfl rfl rfl (dd ?_);(repeat (first | refine uA ?_ | refine uB ?_))
 refine zq [1,6,5] (zjw w m w.current hc he sw.ze.1) rfl rfl rfl rfl rfl rfl (dd ?_);refine .inl ⟨⟨false,[0,1,2],[6,1,8],[]⟩,by kernel_rfl,uH ?_⟩;repeat (refine ⟨rfl,uH ?_⟩)
 exact ⟨.inl rfl,_,zo.zT 2 0 4 rfl rfl rfl rfl (.inr rfl) (by simp) (by simp) (shut_map (enc:=zI) (fun _=>rfl) _) (zX rfl),rfl⟩
theorem zg6 (w:Wor) (m:Mac) (f:Int) (sw:qR w) (ok:OkW w) (hl:i64 m.listen) (hpc:m.pc=0) (hs:zW w m=true) (hc:xf m.op.config) (hf:(ji m.op.config).2.1=f) (h0:f≠0):
  zb Tryz.prog 185 [] [Cw w,Cm m] (.tup [Cw w,Cm { m with done:=true,answer:=swN f },Ce { evO m 1 3 w.current with jq:=true,done:=true,answer:=swN f }]) []:=by
 refine zb.zp (fn:=Tryz.f185) Tryz.func185 rfl (uH ?_);(repeat (first | refine uA ?_ | refine uB ?_))
 refine ⟨_,_,(zM w m ok hl).frame rfl _,dd ?_⟩;refine ⟨fun _=>dd ?_,fun h=>absurd ((hs).symm.trans h:true=false) (by decide)⟩;(repeat (first | refine uA ?_ | refine uB ?_))
 (repeat refine uC ?_)
 refine ⟨_,_,(qs w sw).frame rfl _,dd ?_⟩;(repeat (first | refine uA ?_ | refine uB ?_))
 refine zq [1] (zgS m w.current f hc hf h0) rfl rfl rfl rfl rfl rfl (dd ?_);refine .inl ⟨⟨false,[0,1,2],[5,1,6],[]⟩,by kernel_rfl,uH ?_⟩;repeat (refine ⟨rfl,uH ?_⟩)
 exact uI
end Go.Wor
