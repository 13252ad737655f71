import Derived.RangeFuncLeaves
import Derived.Test.YtoeaoedlpmohoaaGreatSW
import Derived.Test.YtoeaoedlpmohoaaGreatSJ
import Derived.Test.YtoeaoedlpmohoaaGreatSV
set_option linter.all false
set_option maxRecDepth 100000
set_option maxHeartbeats 4000000
namespace Go.Wor
open Go.Ab Go.Proofs Tryz Go.Hy Go.Gat Go.Nam Go.Hos Go.Con Go.Sna
def Cy(w:Wor)(m:lh):Bool:=w.zr.any (λr=>r.version == m.version) || (m.version == w.current) || decide (m.zn<0) || decide (w.zn<m.zn)
def H6(m:lh)(a b c:Int):tp 158 [oM m] [.ref 0 [] 44 0 0,I a,I b,I c] (Ce (mD m a b c)) [oM m]:=by
 refine aa func158 ?_;refine td ?_;exact gK
def zpu(w:Wor)(m:lh)(r:mw):tp 207 [oW w,oM m] [.agg (yB r),.ref 1 [] 44 0 0] (Bo (r.version == m.version)) [oW w,oM m]:=by
 refine aa func207 ?_;refine⟨λh=>?_,λh=>?_⟩ <;> rw[h]
 ·refine dd ?_;exact dE
 ·refine dd ?_;exact dE
def Tt(w:Wor)(m:lh)(ok:nk w):tp 155 [] [Cw w,Cm m] (Bo (Cy w m)) []:=by
 have hl:=ok.zr;refine ab func155 ?_;refine⟨_,_,Go.Lim.TU (λr=>r.version == m.version) O (λr=>zpu w m r) aw,dd ?_⟩;refine⟨λq1=>?_,λq1=>?_⟩
 ·refine dd ?_;refine tf ?_
  (exact⟨.inl O,_,.refl _,uN (by simp only[Cy,q1,iK])⟩)
 refine dd ?_;refine tf ?_
 refine⟨λq2=>?_,λq2=>?_⟩
 ·refine dd ?_;refine tf ?_
  (exact⟨.inl O,_,.refl _,uN (by simp only[Cy,q1,q2,iK,fZ])⟩)
 refine dd ?_;refine tf ?_
 refine⟨λq3=>?_,λq3=>?_⟩
 ·refine dd ?_;refine tf ?_
  (exact⟨.inl O,_,.refl _,uN (by simp only[Cy,q1,q2,q3,iK,fZ])⟩)
 refine dd ?_;refine tf ?_
 refine⟨λq4=>?_,λq4=>?_⟩
 ·refine dd ?_;refine tf ?_
  (exact⟨.inl O,_,.refl _,uN (by have q5:decide (w.zn<m.zn)=true:=q4;simp only[Cy,q5,fZ])⟩)
 ·refine dd ?_;refine tf ?_
  (exact⟨.inl O,_,.refl _,uN (by have q5:decide (w.zn<m.zn)=false:=q4;simp only[Cy,q1,q2,q3,q5,Bool.or_false])⟩)
def zqt(w:Wor)(m:lh)(sw:jF w)(ok:nk w)(hl:i64 m.listen)(hpc:m.pc=1)(hs:ql w m=true):
  tp 128 [] [Cw w,Cm m] (.lK [Cw w,Cm {m with zn:=w.zn,pc:=2},Ce (mD m 1 1 w.zn)]) []:=by
 refine ab func128 ?_;(repeat (first|refine uA ?_|refine uB ?_))
 refine ah (zV w m ok hl) ?_;refine⟨λ_=>dd ?_,λh=>absurd ((hs).symm.trans h:true=false) ar⟩;(repeat (first|refine uA ?_|refine uB ?_))
 refine tf ?_
 refine ah (qP w sw) ?_;(repeat (first|refine uA ?_|refine uB ?_))
 refine .inl ⟨⟨true,[0,1,3],[0,1,5],[4]⟩,au,uH ?_⟩;refine td ?_
 refine af [1] (H6 {m with zn:=w.zn,pc:=2} 1 1 w.zn) ?_;refine td ?_
 exact uI
def zmV(w:Wor)(h:jF w)(x:mw)(l:List mw)(hx:w.zr=x::l):tp 152 [] [Cw w] (.agg [I w.zn,I w.current,I w.lock,lI w.pins,lV w.zd,lL w.zf,mQ w.counts,.sl 0 [] 3 0 w.zr.length false]) [⟨2,254,3,(w.zr).map yB,0⟩]:=by
 have hl:l.length<1000000000:=by have:=h.zr;rw[hx]at this;exact dB
 have hc:=UH x l hl;rw[<-hx]at hc;refine Fx (fn:=f152) func152 O (uH ?_);refine ah (k8 w.pins h.pins) ?_;refine af [] (EI w.zd h.zd.1 λv hv=>xr v (h.zd.2 v hv)) ?_;refine ah (Ex w.zf h.zf) ?_;refine af [] (EH w.counts h.counts.1 λr hr=>vg r (h.counts.2 r hr)) ?_;refine af [] (hc) ?_;refine⟨.inl O,_,_,(zt.qa 1 0 4 O O O O (.inr O) O aj (shut_map (enc:=zJ) (λ_=>O) w.zd) (qk O)).trans (zt.qa 1 0 6 O O O O (.inr O) O aj (shut_map (enc:=zT) (λ_=>O) w.counts) (qk O)),rfl,?_⟩;exact zt.lQ [5] [0] _ _ O O O (ze O (ze O (ze O (ze (zl λr hr c hc=>((shut_map (enc:=zJ) (λ_=>O) w.zd) r hr c hc).2) (ze (zl λr hr c hc=>((shut_map (enc:=zT) (λ_=>O) w.counts) r hr c hc).2) O)))))
def zDz:tp 204 [] [lR []] (.lq 1 3 []) []:=by
 refine ab func204 ?_;refine⟨?_,?_⟩
 ·refine dd ?_;exact⟨.inl O,_,zt.cell 2 O (WC.none 1 0 3),rfl⟩
 ·refine dd ?_;refine .inr ⟨rfl,dd ?_⟩;exact uI
def zmU(w:Wor)(h:jF w)(hx:w.zr=[]):tp 152 [] [Cw w] (.agg [I w.zn,I w.current,I w.lock,lI w.pins,lV w.zd,lL w.zf,mQ w.counts,.lq 1 3 []]) []:=by
 have hc:=zDz;rw[<-hx]at hc;refine ab func152 ?_;refine ah (k8 w.pins h.pins) ?_;refine af [] (EI w.zd h.zd.1 λv hv=>xr v (h.zd.2 v hv)) ?_;refine ah (Ex w.zf h.zf) ?_;refine af [] (EH w.counts h.counts.1 λr hr=>vg r (h.counts.2 r hr)) ?_;refine ah hc ?_;exact⟨.inl O,_,(zt.qa 1 0 4 O O O O (.inr O) O aj (shut_map (enc:=zJ) (λ_=>O) w.zd) (qk O)).trans (zt.qa 1 0 6 O O O O (.inr O) O aj (shut_map (enc:=zT) (λ_=>O) w.counts) (qk O)),rfl⟩
def zDU(l:List mw):((l.map yB).all λx=>x.all zB)=true:=by
 rw[pH];intro r hr;obtain⟨x,_,rfl⟩:=pZ.1 hr
 rfl
abbrev Fb(m:lh):lM:=⟨8,m.i,0,0,0,0,0,⟨0,0,0,0,0,0⟩⟩
def zqu(w:Wor)(m:lh)(x:mw)(l:List mw)(sw:jF w)(ok:nk w)(hl:i64 m.listen)(hpc:m.pc=2)(hs:ql w m=true)(hla:Cy w m=false)(hx:w.zr=x::l):
  tp 128 [] [Cw w,Cm m] (.lK [Cw {w with zr:=w.zr++[⟨m.version,m.zn,false⟩]},Cm {m with done:=true,answer:=Fb m},Ce {mD m 2 11 m.version with done:=true,answer:=Fb m}]) []:=by
 have hn:=sw.zr;have hap:(Ob.mk 2 254 3 (w.zr.map yB) 0).rows++[[I m.version,I m.zn,Bo false]]=(w.zr++[(⟨m.version,m.zn,false⟩:mw)]).map yB:=bh
 refine ab func128 ?_;(repeat (first|refine uA ?_|refine uB ?_))
 refine ah (zV w m ok hl) ?_;refine⟨λ_=>dd ?_,λh=>absurd ((hs).symm.trans h:true=false) ar⟩;(repeat (first|refine uA ?_|refine uB ?_))
 refine tf ?_
 refine ah (Tt w m ok) ?_;refine⟨λh=>absurd ((hla).symm.trans h:false=true) ar,λ_=>dd ?_⟩;refine tf ?_
 refine af [] (zmV w sw x l hx) ?_;(repeat (first|refine uA ?_|refine uB ?_))
 refine⟨aj,zDU _,ay,by show _*24<=_;simp;omega,dd ?_⟩;refine af [1] (H6 m 2 11 m.version) ?_;refine .inl ⟨⟨false,[1],[1],[]⟩,au,uH ?_⟩;refine td ?_
 rw[hap];refine .inl ⟨⟨false,[0,1,2],[1,6,8],[]⟩,au,uH ?_⟩;refine td ?_
 exact⟨.inl O,_,zt.qa 2 0 7 O O O O (.inr O) aj aj (shut_map (enc:=yB) (λ_=>O) _) (qk O),rfl⟩
def zol(w:Wor)(m:lh)(sw:jF w)(ok:nk w)(hl:i64 m.listen)(hpc:m.pc=2)(hs:ql w m=true)(hla:Cy w m=false)(hx:w.zr=[]):
  tp 128 [] [Cw w,Cm m] (.lK [Cw {w with zr:=w.zr++[⟨m.version,m.zn,false⟩]},Cm {m with done:=true,answer:=Fb m},Ce {mD m 2 11 m.version with done:=true,answer:=Fb m}]) []:=by
 refine ab func128 ?_;(repeat (first|refine uA ?_|refine uB ?_))
 refine ah (zV w m ok hl) ?_;refine⟨λ_=>dd ?_,λh=>absurd ((hs).symm.trans h:true=false) ar⟩;(repeat (first|refine uA ?_|refine uB ?_))
 refine tf ?_
 refine ah (Tt w m ok) ?_;refine⟨λh=>absurd ((hla).symm.trans h:false=true) ar,λ_=>dd ?_⟩;refine tf ?_
 refine ah (zmU w sw hx) ?_;(repeat (first|refine uA ?_|refine uB ?_))
 refine .inr ⟨.inl O,ar,ar,dd ?_⟩;refine af [1] (H6 m 2 11 m.version) ?_;refine .inl ⟨⟨false,[1],[1],[]⟩,au,uH ?_⟩;refine td ?_
 refine .inl ⟨⟨false,[0,1,2],[1,5,7],[]⟩,au,uH ?_⟩;refine td ?_
 rw[hx];exact⟨.inl O,_,zt.qa 2 0 7 O O O O (.inr O) aj aj (shut_map (enc:=yB) (λ_=>O) [(⟨m.version,m.zn,false⟩:mw)]) (qk O),rfl⟩
end Go.Wor
namespace Go.Ab
section
variable {P:Program}
def HD{o:Oper}{t:List C}{H:zo}{R:C->zo->Prop}(h:jq P o (ev t) H R)(q:Option Nat){w:World}{E:Env}{a:Act}{K:Act->World->Prop}{Q:Exit->Act->World->Prop}
 (hh:qL w E H)(hl:LL E t a.tmps.toList)
 (hk:∀c H' w' E' a',R c H'->qL w' E' H'->LL E' (put t o.dst c) a'.tmps.toList->a'.defers=a.defers->Grow w E H w' E' H'->K a' w'):o.wpIn (fw q) 0 P a w K Q:=by
 have:=h w E a.eval hh (λx _=>Jj hl x) (λ_=>O) (λv w'=>K (a.put o.dst v) w') λc H' v w' E' hR h1 h2 g=>
  hk c H' w' E' _ hR h1 (Lk (hl.mono g.le) h2 o.dst) (by cases o.dst <;> rfl) g
 have m8:∀d,o.op≠.defer d:=λd hd=>by
  have h2:=this;unfold execOp at h2;simp only[hd,Sem.run_bind]at h2;cases hr:(resolve a.eval d o.type).run P w with
  |ok x w1=>simp[hr,Result.andThen,BV]at h2
  |halt x w1=>simp[hr,Result.andThen,BV]at h2
 unfold Oper.wpIn;refine⟨λ_ _=>trivial,?_⟩;rw[Oper.semAt_eq _ _ _ m8];generalize (execOp a.eval o).run P w=r at this ⊢;unfold BV at this;split at this
 ·exact gh
 ·exact gh
 ·rw[Oper.uponIn_enter];refine⟨λh=>aS,callsIn_wide.2 (Calls.mono this ?_)⟩;rintro e w' ⟨v,rfl,hv⟩;exact hv
 ·rw[Oper.uponIn_round];refine⟨λh=>aS,RoundIn.mono (F:=fw q) this ?_⟩;rintro e w' ⟨v,rfl,hv⟩;exact hv
 ·exact this.elim
def JB{ops:Array Oper}{rest:List Oper}:∀{l:List Oper} {t:List C} {H:zo} {K:List C->zo->Prop},Ak P ops l t H K->∀(q:Option Nat) {w:World} {E:Env} {a:Act} {Q:Exit->Act->World->Prop},qL w E H->LL E t a.tmps.toList->
  (∀t' H' w' E' a',K t' H'->qL w' E' H'->LL E' t' a'.tmps.toList->a'.defers=a.defers->Grow w E H w' E' H'->wpListIn (fw q) 0 P ops Q rest a' w')->wpListIn (fw q) 0 P ops Q (l++rest) a w
 |[],t,H,K,h,q,w,E,a,Q,hh,hl,hk=>hk t H w E a h hh hl O (Grow.refl w E H)
 |o::l,t,H,K,h,q,w,E,a,Q,hh,hl,hk=>by
  rw[Nz]at h;unfold HF at h;show wpListIn (fw q) 0 P ops Q (o::(l++rest)) a w;unfold wpListIn;split at h
  ·rename_i hw;rw[pA (xA hl hw)];refine HD (Kz h) q hh hl λc H' w' E' a' hR h1 h2 h3 g=>?_
   exact JB (j5 (k:=λt=>Ak P ops l t H' K) hR) q h1 h2 λt2 H2 w2 E2 a2 hK h4 h5 h6 g2=>hk t2 H2 w2 E2 a2 hK h4 h5 (h6.trans h3) (g.trans g2)
  ·rename_i hw;rw[pw (by rw[xA hl hw];decide)];refine⟨λ_ _=>trivial,?_⟩;exact JB (j5 (k:=λt=>Ak P ops l t H K) h) q (a:=a.put o.dst undef) hh (Lk hl (.un) o.dst) λt2 H2 w2 E2 a2 hK h4 h5 h6 g2=>hk t2 H2 w2 E2 a2 hK h4 h5 (h6.trans (by cases o.dst <;> rfl)) g2
  ·exact du
def JH:List (Nat×Array Oper)->Code
 |[]=>.ret
 |r::l=>.seq (.region r.1 r.2 false) (JH l)
def WB:Code->List (Nat×Array Oper)
 |.seq (.region i ops false) y=>(i,ops)::WB y
 |_=>[]
def PC(P:Program)(l:List (Nat×Array Oper)):List C->zo->(List C->zo->Prop)->Prop:=
 List.rec (motive:=λ_=>List C->zo->(List C->zo->Prop)->Prop) (λt H K=>K t H) (λr _ next t H K=>Ak P r.2 r.2.toList t H λt H=>next t H K) l
def WS:∀{l:List (Nat×Array Oper)} {t:List C} {H:zo} {K:List C->zo->Prop},PC P l t H K->∀{w:World} {E:Env} {a:Act} {Q:Exit->Act->World->Prop},qL w E H->LL E t a.tmps.toList->
  (∀t' H' w' E' a',K t' H'->qL w' E' H'->LL E' t' a'.tmps.toList->a'.defers=a.defers->Grow w E H w' E' H'->Q .ret a' w')->(JH l).wpIn (fw none) 0 P Q a w
 |[],t,H,K,h,w,E,a,Q,hh,hl,hk=>wpIn_ret (hk t H w E a h hh hl O (Grow.refl w E H))
 |r::l,t,H,K,h,w,E,a,Q,hh,hl,hk=>by
  have h:Ak P r.2 r.2.toList t H λt H=>PC P l t H K:=h
  refine wpIn_seq (wpIn_region_list ?_);have:=JB (rest:=[]) h none (Q:=Exit.then ((JH l).wpIn (fw none) 0 P Q) Q) hh hl λt2 H2 w2 E2 a2 hK h1 h2 h3 g=>wpListIn_nil (WS hK h1 h2 λt3 H3 w3 E3 a3 hK3 h4 h5 h6 g2=>hk t3 H3 w3 E3 a3 hK3 h4 h5 (h6.trans h3) (g.trans g2))
  rwa [rK]at this
def SH{m:Nat}:∀{ds:List Deferred} {w:World} {fr:Frame} {cs:List Frame},Marks m w ds->fr.mode≠.run->fr.defers=ds->(fw none).room (cs.length+1+0)->
  ∃w',StepsIn (Machine.fenced P (fw none)) P (lone fr cs w) (lone {fr with defers:=[]} cs w')/\w'.os=w.os/\w'.tape=w.tape/\w'.output=w.output/\w'.heap.size=w.heap.size/\(∀k:Nat,k<m->w'.heap[k]?=w.heap[k]?)/\
   ∀(k:Nat) (o:Obj),w.heap[k]?=some o->(∀ds,o≠.deferred ds)->w'.heap[k]?=w.heap[k]?
 |[],w,fr,cs,_,hm,hd,hroom=>⟨w,by
   have:({fr with defers:=[]}:Frame)=fr:=by cases fr;cases hd;rfl
   rw[this];exact StepsIn.refl _,rfl,rfl,rfl,rfl,λ_ _=>O,λ_ _ _ _=>O⟩
 |d::ds,w,fr,cs,⟨⟨D,h1,h2,h3,h4⟩,ht⟩,hm,hd,hroom=>by
  have htar:d.target=.collected D:=by rw[h1]
  have hs:=step_collected (P:=P) (cs:=cs) hm hd htar (run_takeDeferred h3);have i1:(lone fr cs w).fenced P (fw none):=fenced_out (n:=0) trivial hroom hm hd (λg hg=>by rw[htar]at hg;simp[Target.leads]at hg);obtain⟨w',s1,a1,a2,a3,a4,a5,a6⟩:=SH (fr:={fr with defers:=[]++ds}) (cs:=cs) (Marks.mono (w':=w.putObj D (.deferred none)) aj ht λD' hm hd=>World.putObj_heap_other (by rintro rfl;exact h4 hm)) hm O hroom;refine⟨w',.head i1 hs s1,a1,a2,a3,a4.trans World.putObj_size,λk hk=>(a5 k hk).trans (World.putObj_heap_other aw),λk o hc hd=>?_⟩;have hne:k≠D:=by rintro rfl;rw[h3]at hc;cases hc;exact hd _ O
  have e:=World.putObj_heap_other (w:=w) (o:=.deferred none) hne;exact(a6 k o (e.trans hc) hd).trans e
def FB(P:Program)(f:FuncId)(H:zo)(args:List C)(H':zo):Prop:=
 ∀(u:FrameMode) (w:World) (E:Env) (vs:Array Value),qL w E H->LL E args vs.toList->
  CallsDIn (fw none) 0 P f vs u w λe u' w'=>u'=u/\∃v E',e=.returned v/\qL w' E' H'/\Grow w E H w' E' H'
def FB.Ci{f:FuncId}{fn:Func}{c:Code}{H H':zo}{args:List C}(hf:P.funcs[f]?=some fn)(hb:fn.body=some c)
 (hr:jh P H.length c ⟨entry fn args,H⟩ λex s1=>(ex=.ret\/ex=.normal)/\∃s2 r,zt H.length s1 s2/\kJ P fn s2=some r/\s2.H=H'):FB P f H args H':=λu w E vs hh hl=>by
 have hrun:=hr none w.heap.size w E {tmps:=vs++Array.replicate (fn.ntmps-vs.size) undef,defers:=[]} (λex a1 w1=>(ex=.ret\/ex=.normal)/\∃E' s2 r,kJ P fn s2=some r/\s2.H=H'/\yS H.length w.heap.size w1 E' s2 a1/\xk H.length w E H w1 E' s2.H) (λ_=>O) ⟨hh,N1 hl,pI _,pI _⟩ λex s1 w' E1 a' hR hs1 g1=>by
  obtain⟨hex,s',r,hw,hres,e⟩:=hR;obtain⟨E',hs,g2⟩:=hw _ w' E1 a' hs1;exact⟨hex,E',s',r,hres,e,hs,g1.trans g2⟩
 refine⟨trivial,λc₀ cs hu hroom=>?_⟩
 let b:Frame:={(default:Frame) with fn:=f,kind:=.deferred,roundOf:=none}
 have henter:Frame.enter P f vs .deferred=b.atR {tmps:=vs++Array.replicate (fn.ntmps-vs.size) undef,defers:=[]} [.code c]:=by
  simp[Frame.enter,Frame.atR,hf,hb,b]
 have hc:({c₀ with mode:=u}:Frame)=c₀:=by subst hu;rfl
 obtain⟨e,a',w',⟨hex,E',s2,r,hres,rfl,hs,g⟩,harr⟩:=hrun b [] (c₀::cs) O trivial hroom;rw[<-henter]at harr
 have out:∀(fr:Frame),fr.mode=.returning->fr.defers=a'.defers->fr.tmps=a'.tmps->fr.kind=.deferred->fr.fn=f->StepsIn (Machine.fenced P (fw none)) P (lone (Frame.enter P f vs .deferred) (c₀::cs) w) (lone fr (c₀::cs) w')->
   ∃e u' w' fr,(u'=u/\∃v E',e=.returned v/\qL w' E' s2.H/\Grow w E H w' E' s2.H)/\ComesIn (Machine.fenced P (fw none)) P (lone (Frame.enter P f vs .deferred) (c₀::cs) w) (lone fr ({c₀ with mode:=u'}::cs) w') e/\fr.kind=.deferred/\fr.fn=f/\fr.going P w' e:=λfr h1 h2 h3 h4 h5 hst=>by
  obtain⟨w2,st,a1,a2,a3,a4,a5,a6⟩:=SH (P:=P) (cs:=c₀::cs) hs.defers (by rw[h1];simp) h2 hroom;have hs2:yS H.length w.heap.size w2 E' s2 {a' with defers:=[]}:=⟨hs.heap.cells a6,hs.tmps,bB,hs.base⟩;obtain⟨v,hv,_⟩:=N9 hs2 hres
  have hg:Grow w E H w2 E' s2.H:=⟨⟨bC,λid hops hi=>g.le.β id hops tH,λid hops hi=>g.le.κ id hops tH,g.le.St,λid k u hi=>g.le.G id k u tH⟩,
   a1.trans g.os,a2.trans g.tape,a3.trans g.output,by rw[a4];exact g.size,λk hk ho=>(a5 k hk).trans (g.frame k hk ho),g.xv,g.own⟩
  exact⟨.returned v,u,w2,{fr with defers:=[]},⟨rfl,v,E',rfl,hs2.heap,hg⟩,by rw[hc];exact StepsIn.trans hst st,h4,h5,h1,rfl,fn,by show P.funcs[fr.fn]?=_;rw[h5];exact hf,by show(results fn fr.tmps).run P w2=_;rw[h3];exact hv⟩
 rcases hex with rfl|rfl
 ·obtain⟨todo,h0⟩:=harr.1 O;exact out _ O O O O O h0
 ·exact out _ O O O O O (StepsIn.trans harr (.one (fenced_calm (n:=0) (fr:=b.atR a' []) trivial hroom O) (stepR_end O)))
def Fin(P:Program)(fn:Func)(w0:World)(E0:Env)(H:zo)(R:C->zo->Prop):Exit->Act->World->Prop:=
 bodyPostM (fw none) 0 P fn λe w'=>∃r H' v E',R r H'/\e=.returned v/\qL w' E' H'/\L E' r v/\Grow w0 E0 H w' E' H'
def CK(P:Program)(fn:Func)(H:zo)(c:Code)(s:S)(R:C->zo->Prop):Prop:=
 ∀(w0:World) (E0:Env) (w:World) (E:Env) (a:Act),qL w0 E0 H->yS H.length w0.heap.size w E s a->xk H.length w0 E0 H w E s.H->c.wpIn (fw none) 0 P (Fin P fn w0 E0 H R) a w
def IZ(P:Program)(fn:Func)(H:zo)(R:C->zo->Prop)(s1:S):Prop:=∃s2 r,zt H.length s1 s2/\kJ P fn s2=some r/\R r s2.H
def O4{fn:Func}{H:zo}{R:C->zo->Prop}{w0 w:World}{E0 E:Env}{s1:S}{a:Act}(hh:qL w0 E0 H)(hs:yS H.length w0.heap.size w E s1 a)(hg:xk H.length w0 E0 H w E s1.H)(h:IZ P fn H R s1):
  LeavesInM (fw none) 0 P fn a.tmps (λe w'=>∃r H' v E',R r H'/\e=.returned v/\qL w' E' H'/\L E' r v/\Grow w0 E0 H w' E' H') a.defers .returning w:=by
 obtain⟨s',r,hw,hres,hRr⟩:=h;obtain⟨E',hs,g2⟩:=hw _ w E a hs;have g:=hg.trans g2;refine leaves hs.defers λw2 a1 a2 a3 a4 a5 a6=>?_
 have hs2:yS H.length w0.heap.size w2 E' s' {a with defers:=[]}:=⟨hs.heap.cells a6,hs.tmps,bB,hs.base⟩;obtain⟨v,h1,h2⟩:=N9 hs2 hres
 have hg:Grow w0 E0 H w2 E' s'.H:=⟨⟨bC,λid hops hi=>g.le.β id hops tH,λid hops hi=>g.le.κ id hops tH,g.le.St,λid k u hi=>g.le.G id k u tH⟩,
  a1.trans g.os,a2.trans g.tape,a3.trans g.output,by rw[a4];exact g.size,λk hk ho=>(a5 k hk).trans (g.frame k hk ho),g.xv,g.own⟩
 exact⟨v,h1,r,s'.H,v,E',hRr,rfl,hs2.heap,h2,hg⟩
def CK.Ci{fn:Func}{H:zo}{c:Code}{s:S}{R:C->zo->Prop}(h:jh P H.length c s λex s1=>(ex=.ret\/ex=.normal)/\IZ P fn H R s1):CK P fn H c s R:=λw0 E0 w E a hh hs hg=>
 h none w0.heap.size w E a _ (λ_=>O) hs λex s1 w' E1 a' ⟨hex,hl⟩ hs1 g1=>by
  have:=O4 hh hs1 (hg.trans g1) hl;rcases hex with rfl|rfl <;> exact gh
def CK.seq{fn:Func}{H:zo}{x y:Code}{s:S}{R:C->zo->Prop}(h:jh P H.length x s λex s1=>(ex=.normal/\∃s2,zt H.length s1 s2/\CK P fn H y s2 R)\/(ex=.ret/\IZ P fn H R s1)):CK P fn H (.seq x y) s R:=λw0 E0 w E a hh hs hg=>
 wpIn_seq (h none w0.heap.size w E a _ (λ_=>O) hs λex s1 w' E1 a' hR hs1 g1=>by
  rcases hR with⟨rfl,s2,hw,hy⟩|⟨rfl,hl⟩
  ·obtain⟨E2,hs2,g2⟩:=hw _ w' E1 a' hs1;exact hy w0 E0 w' E2 a' hh hs2 ((hg.trans g1).trans g2)
  ·exact O4 hh hs1 (hg.trans g1) hl)
def CK.deferred{fn:Func}{H:zo}{i:Nat}{oM oD:Oper}{cl:Call}{k:Tmp}{g:FuncId}{t:List C}{Hs:zo}{regs:List (Nat×Array Oper)}{R:C->zo->Prop}
 (hop:oD.op=.defer cl)(hcl:cl.callee=.value (.tmp k))(hca:cl.args= #[])(hgu:oD.guard=none)(hdst:oD.dst=none)(hcb:qw P g=true)
 (h:Ak P #[oM,oD] [oM] t Hs λt1 H1=>∃caps,t1[k]?=some (.fn g [] caps)/\PC P regs t1 H1 λt2 H2=>∃H3,FB P g H2 caps H3/\IZ P fn H R ⟨t2,H3⟩):
  CK P fn H (.seq (.region i #[oM,oD] false) (JH regs)) ⟨t,Hs⟩ R:=λw0 E0 w E a hh hs hg=>by
 refine wpIn_seq (wpIn_region_list ?_);refine JB (rest:=[oD]) h none hs.heap hs.tmps λt1 H1 w1 E1 a1 ⟨caps,hk,ht⟩ h1 h2 h3 g1=>?_
 unfold wpListIn;rw[pA (by unfold Region.wanted;rw[hgu])];obtain⟨u,hu,hL⟩:=h2.get hk;rw[rG]at hu
 obtain⟨zs,hv,h5,h6⟩:∃zs,u=.func (.func g) #[] zs/\caps.length=zs.size/\(∀(i:Nat) c y,caps[i]?=some c->zs[i]?=some y->L E1 c y):=by
  cases hL with
  |fn f first caps ys zs h1 h2 h3 h4=>exact⟨zs,by rw[show ys= #[] from sZ h1.symm],h2,h4⟩
 have hev:a1.eval (.tmp k)=.func (.func g) #[] zs:=by
  show a1.tmps.getD k undef=_;rw[rV,hu,hv]
  rfl
 have hr:(execOp a1.eval oD).run P w1=.ok (.defer {target:=.fn (.func g) zs,args:= #[]}) w1:=by
  unfold execOp;simp[hop,resolve,hcl,hca,hev,Deferred.ofValue]
 unfold Oper.wpIn;refine⟨λ_ _=>trivial,?_⟩;rw[show(fw none).round=none from O,Oper.semAt_none,hr,Oper.uponIn_defer,hdst];refine wpListIn_nil (WS ht h1 h2 λt2 H2 w2 E2 a2 ⟨H3,hD,hlv⟩ h7 h8 h9 g2=>?_);have h9:a2.defers={target:=.fn (.func g) zs,args:= #[]}::a.defers:=h9.trans (by show _::a1.defers=_;rw[h3]);have gB:xk H.length w0 E0 H w2 E2 H2:=hg.trans ((g1.trans g2).nD tD);have hM:Marks w0.heap.size w2 a.defers:=hs.defers.grow hs.heap (g1.trans g2);show LeavesInM (fw none) 0 P fn a2.tmps _ a2.defers .returning w2;rw[h9];refine⟨aj,.inr ⟨λh=>aS,.func g,zs,g,zs,rfl,?_,λ_ _=>trivial,?_⟩⟩
 ·unfold qw at hcb;split at hcb
  rotate_left
  ·cases hcb
  rename_i fng hfn;simp only[pG,rZ]at hcb;have hname : fng.name ≠ "runtime.NumGoroutine" := by simpa using hcb.1
  have hbody:fng.body≠none:=bG
  simp[invoke,callFunc,hfn,hname,hbody]
 have e2:LL E2 caps zs.toList:=⟨aq h5,λi c y e1 e2=>(h6 i c y e1 uZ).mono g2.le⟩;refine(hD .returning w2 E2 zs h7 e2).mono ?_;rintro e u' w3 ⟨rfl,v,E3,rfl,h10,g3⟩;have hb:H.length<=H2.length:=by have:=hs.base;have:=(g1.trans g2).le.n;rw[hs.heap.n,h7.n]at this;omega
 have hs3:yS H.length w0.heap.size w3 E3 ⟨t2,H3⟩ {a2 with defers:=a.defers}:=⟨h10,h8.mono g3.le,hM.grow h7 g3,by have:=g3.le.n;rw[h7.n,h10.n]at this;exact rB hb this⟩;exact O4 hh hs3 (gB.trans (g3.nD (by rw[h7.n];exact hb))) hlv
def qF.XT{f:FuncId}{fn:Func}{c:Code}{H:zo}{args:List C}{R:C->zo->Prop}(hf:P.funcs[f]?=some fn)(hb:fn.body=some c)(h:CK P fn H c ⟨entry fn args,H⟩ R):qF P f H args R:=λw E vs hh hl=>
 (callsIn_wide (n:=0)).1 (callsIn_of_wp_marks hf hb trivial (h w E w E _ hh ⟨hh,N1 hl,pI _,pI _⟩ (xk.refl H.length w E H)))
def FB.zM{f:FuncId}{fn:Func}{c:Code}{H H':zo}{args:List C}(hf:P.funcs[f]?=some fn)(hb:fn.body=some c)
 (h:wpA P H.length c (entry fn args) H λex t1 H1=>(ex=.ret\/ex=.normal)/\∃s2 r,zt H.length ⟨t1,H1⟩ s2/\kJ P fn s2=some r/\s2.H=H'):FB P f H args H':=
 .Ci hf hb ((jU h).mono λex s1 h1=>h1)
def CK.MG{fn:Func}{H Hs:zo}{x y:Code}{t:List C}{R:C->zo->Prop}(h:wpA P H.length x t Hs λex t1 H1=>(ex=.normal/\∃t2 H2,zt H.length ⟨t1,H1⟩ ⟨t2,H2⟩/\CK P fn H y ⟨t2,H2⟩ R)\/(ex=.ret/\IZ P fn H R ⟨t1,H1⟩)):CK P fn H (.seq x y) ⟨t,Hs⟩ R:=
 .seq ((jU h).mono λex s1 h1=>h1.imp (λ⟨e,t2,H2,hw,hr⟩=>⟨e,_,hw,hr⟩) id)
end
def Dc(H:zo)(id:Nat):zo:=H.modify id λ_=>⟨0,0,0,[],0⟩
def F9(H:zo)(id j:Nat):(Dc H id)[j]?=(H[j]?).map λob=>if id=j then ⟨0,0,0,[],0⟩ else ob:=by
 unfold Dc;rw[sa]
 rfl
def HW{H:zo}{id:Nat}{id':Nat}{p:List mP}{x:Nat×List (List C)}(h:qm (Dc H id) id' p=some x):id'≠id/\qm H id' p=some x:=by
 obtain⟨ob,ho,hk,hg⟩:=jP h;rw[F9]at ho;cases hx:H[id']? with
 |none=>rw[hx]at ho;cases ho
 |some ob0=>
  rw[hx]at ho;simp only[pM,p9]at ho;by_cases hid:id=id'
  ·subst hid;simp at ho;subst ho;simp at hk
  ·rw[pw hid]at ho;subst ho;refine⟨Ne.symm hid,?_⟩;unfold qm;rw[hx];simp only[hk,if_true];exact hg
def qv.gone{w:World}{E:Env}{H:zo}(h:qv w E H)(id:Nat):qv w E (Dc H id) where
 n:=by rw[h.n];simp[Dc]
 lZ id' ob p sz rows hob hx:=by
  obtain⟨h1,h2⟩:=HW hx;rw[F9]at hob;cases hx':H[id']? with
  |none=>rw[hx']at hob;cases hob
  |some ob0=>
   rw[hx']at hob;simp only[pM,p9,pw (Ne.symm h1)]at hob;subst hob;exact h.lZ id' _ p sz rows hx' h2
 inj id1 p1 id2 p2 x y hx hy he:=h.inj id1 p1 id2 p2 x y (HW hx).2 (HW hy).2 he
 qJ:=h.qJ
 sep id' p x o u hx hu:=by
  obtain⟨h1,h2⟩:=HW hx;obtain⟨e1,ob,e2,e3⟩:=h.sep id' p x o u h2 hu;refine⟨e1,ob,?_,e3⟩;rw[F9,e2];simp[Ne.symm h1]
 ty id' ob hob hk:=by
  rw[F9]at hob;cases hx':H[id']? with
  |none=>rw[hx']at hob;cases hob
  |some ob0=>
   rw[hx']at hob;simp only[pM,p9]at hob;by_cases hid:id=id'
   ·rw[pA hid]at hob;subst hob;simp at hk
   ·rw[pw hid]at hob;subst hob;exact h.ty id' _ hx' hk
 fz id' ob hob:=by
  rw[F9]at hob;cases hx':H[id']? with
  |none=>rw[hx']at hob;cases hob
  |some ob0=>
   rw[hx']at hob;simp only[pM,p9]at hob;have h0:=h.fz id' ob0 hx';subst hob;split
   ·simp
   ·exact h0
def wP{H:zo}{id i:Nat}{ob:Ob}(h:(Dc H id)[i]?=some ob)(hk:ob.kind=4):H[i]?=some ob:=by
 rw[F9]at h;cases hx:H[i]? with
 |none=>rw[hx]at h;cases h
 |some o=>
  rw[hx]at h;simp only[pM,p9]at h;split at h
  ·subst h;cases hk
  ·rw[h]
def zt.gone{B:Nat}{s:S}(id:Nat):zt B s ⟨s.tmps,Dc s.H id⟩:=λm w E a hs=>by
 have hg:∀{i b},jc E (Dc s.H id) i b->jc E s.H i b:=λ⟨ob,cap,h1,h2,h3,h4⟩=>⟨ob,cap,wP h1 h2,h2,h3,h4⟩
 have hr:∀{i b},xj (Dc s.H id) i b->xj s.H i b:=λ⟨ob,o,t,h1,h2,h3,h4⟩=>⟨ob,o,t,wP h1 h2,h2,h3,h4⟩
 have h0:∀{b},jM E (Dc s.H id) b->jM E s.H b:=λ⟨i,p,x,h1,h2⟩=>⟨i,p,x,(HW h1).2,h2⟩
 refine⟨E,⟨⟨hs.heap.base.gone id,?_⟩,hs.tmps,hs.defers,by have:=hs.base;simp[Dc];omega⟩,⟨Env.CV.refl B E,rfl,rfl,rfl,pI _,λ_ _ _=>O,λ_ _ _ h=>.inl h,?_⟩⟩
 ·exact {
   val:=λi ob h1 h2=>hs.heap.lF.val i ob (wP h1 h2) h2
   lZ:=λi b ob h1 h2=>hs.heap.lF.lZ i b ob (hg h1) (by obtain⟨ob2,_,h3,h4,_⟩:=h1;rw[h2]at h3;cases h3;exact wP h2 h4)
   sep:=λi b h1 h2=>hs.heap.lF.sep i b (hg h1) (h0 h2)
   inj:=λi j b h1 h2=>hs.heap.lF.inj i j b (hg h1) (hg h2)
   st:=λi b ob o u h1 h2 h3=>hs.heap.lF.st i b ob o u (hg h1) (by obtain⟨ob2,_,h4,h5,_⟩:=h1;rw[h2]at h4;cases h4;exact wP h2 h5) h3
   top:=λi ob k u h1 h2 h3=>hs.heap.lF.top i ob k u (wP h1 h2) h2 h3
   nA:=λi ob o t h1 h2 h3=>hs.heap.lF.nA i ob o t (wP h1 h2) h2 h3
   oJ:=λi j b h1 h2=>hs.heap.lF.oJ i j b (hr h1) (hr h2)}
 ·rintro b (hb|⟨i,hb|hb⟩)
  ·exact .inr (.inl (h0 hb))
  ·exact .inr (.inr ⟨i,.inl (hg hb)⟩)
  ·exact .inr (.inr ⟨i,.inr (hr hb)⟩)
def qF.zEd{P:Program}{f:FuncId}{H H2:zo}{args:List C}{r:C}(hle:H.length<=H2.length)(h1:qF P f H args λr1 H1=>zt H.length ⟨[r1],H1⟩ ⟨[r],H2⟩):zc P f H args r H2:=λw E vs hh hl0=>by
 refine(h1 w E vs hh hl0).mono ?_;rintro e w' ⟨r1,H1,v,E',hw,h0,h2,h3,g⟩;have hHH:H.length<=H1.length:=bW
 obtain⟨E2,hs,g2⟩:=hw 0 w' E' ⟨#[v],[]⟩ ⟨h2,LL.one h3,rk _,hHH⟩;have hn2:=hs.heap.n;refine⟨v,E2,h0,hs.heap,hs.tmps.cons_inv.1,⟨⟨by rw[hh.n,hn2];exact hle,λid hops hi=>?_,λid hops hi=>?_,λb o u hu=>g2.le.St _ _ _ (g.le.St _ _ _ hu),λid k u hi hu=>?_⟩,g2.os.trans g.os,g2.tape.trans g.tape,g2.output.trans g.output,rB g.size g2.size,?_,?_,?_⟩⟩
 ·rw[hh.n]at hi;exact(g2.le.β id hops hi).trans (g.le.β id hops tY)
 ·rw[hh.n]at hi;exact(g2.le.κ id hops hi).trans (g.le.κ id hops tY)
 ·rw[hh.n]at hi;exact g2.le.G id k u hi (g.le.G id k u tY hu)
 ·intro k hk ho;exact dI
 ·intro b o u hu;rcases g2.xv b o u hu with h1|h1|h1
  ·exact g.xv b o u h1
  ·exact .inr (.inl (rB g.size h1))
  ·rcases g.own b h1 with h4|h4
   ·exact .inr (.inl h4)
   ·exact .inr (.inr h4)
 ·intro b hb;rcases g2.own b hb with h1|h1
  ·exact .inl (rB g.size h1)
  ·exact g.own b h1
end Go.Ab
namespace Go.Wor
open Go.Ab Go.Proofs Tryz Go.Hy Go.Gat Go.Nam Go.Hos Go.Con Go.Sna
def JQ{c:mL}(h:yX c):Dx (z7 c).1:=by
 unfold z7;split
 ·exact⟨aj,aj,aj⟩
 ·refine⟨h.zf,⟨aq h.zS.1,λr hr=>?_⟩,h.zm⟩;simp only[pZ]at hr;obtain⟨q,hq,rfl⟩:=hr;exact⟨(h.zS.2 q hq).2.1,(h.zS.2 q hq).2.2.1⟩
def De(c:mL):Int:=if (z7 c).2.1≠0 then (z7 c).2.1 else (qM (z7 c).1).2
def wJ(c:mL):lJ:=(qM (z7 c).1).1
def zDV(l:List lJ):((l.map zJ).all λx=>x.all zB)=true:=by
 rw[pH];intro r hr;obtain⟨x,_,rfl⟩:=pZ.1 hr
 rfl
abbrev HG(m:lh)(was now:Int):lh:={m with version:=was,zi:=0,end_:=0,other:=0,slot:=0,i:=now,pc:=1}
def zlq(w:Wor)(v:lJ)(hn:w.zd.length<1000000000):tp 157 [⟨1,38,8,[[I w.zn,I w.current,I w.lock,lI w.pins,.sl 1 [] 5 0 (w.zd.length) false,lL w.zf,mQ w.counts,lR w.zr]],0⟩,⟨2,69,5,(w.zd).map zJ,0⟩] [Cv v,.ref 0 [] 8 0 0] (.lK [I w.current,I w.zd.length]) [⟨1,38,8,[[I w.zn,I w.zd.length,I w.lock,lI w.pins,.sl 2 [] 5 0 ((w.zd.length+1)) false,lL w.zf,mQ w.counts,lR w.zr]],0⟩,⟨0,0,0,[],0⟩,⟨2,69,5,(w.zd++[v]).map zJ,0⟩]:=by
 have hap:(Ob.mk 2 69 5 (w.zd.map zJ) 0).rows++[zJ v]=(w.zd++[v]).map zJ:=bh
 refine qt (fn:=f157) func157 O aj (uH ?_);refine uE ?_;refine⟨aj,zDV _,ay,by show _*104<=_;simp;omega,dd ?_⟩;refine⟨.inl O,_,_,zt.gone 1,rfl,?_⟩;rw[<-hap];exact zt.lQ [0,1,3] [0] _ _ O O O O
def zpd(w:Wor)(m:lh)(c:Int)(hc:yX m.op.config)(he:De m.op.config=0)(hn:w.zd.length<1000000000):
  tp 156 [oM m,⟨1,38,8,[[I w.zn,I w.current,I w.lock,lI w.pins,.sl 2 [] 5 0 (w.zd.length) false,lL w.zf,mQ w.counts,lR w.zr]],0⟩,⟨2,69,5,(w.zd).map zJ,0⟩] [.ref 0 [] 44 0 0,.fn 157 [] [.ref 1 [] 8 0 0],I c] (Ce {mD m 6 3 w.zd.length with zQ:=true}) [oM (HG m w.current w.zd.length),⟨1,38,8,[[I w.zn,I w.zd.length,I w.lock,lI w.pins,.sl 3 [] 5 0 ((w.zd.length+1)) false,lL w.zf,mQ w.counts,lR w.zr]],0⟩,⟨0,0,0,[],0⟩,⟨2,69,5,(w.zd++[wJ m.op.config]).map zJ,0⟩]:=by
 have hb:=vH m.op.config hc.k;have hl:=R6 _ (JQ hc)
 have h1:(z7 m.op.config).2.1=0:=by
  unfold De at he;split at he
  ·contradiction
  ·rename_i hx;omega
 have h2:(qM (z7 m.op.config).1).2=0:=by
  unfold De at he
  rwa [pw aw]at he
 unfold wJ;generalize z7 m.op.config=bv at hb hl h1 h2 ⊢;obtain⟨sn,e1,e2⟩:=bv;cases h1
 have hl:tp 85 [] [Cs sn] (tV (qM sn)) []:=hl;have h2:(qM sn).2=0:=h2;show tp 156 _ _ _ [_,_,_,⟨2,69,5,(w.zd++[(qM sn).1]).map zJ,0⟩];generalize qM sn=cv at hl h2 ⊢;obtain⟨v,e3⟩:=cv;cases h2
 have hb:tp 56 [] [Cf m.op.config] (.lK [Cs sn,I 0,I e2]) []:=hb;have hl:tp 85 [] [Cs sn] (.lK [Cv v,I 0]) []:=hl;refine qt (fn:=f156) func156 O aj (uH ?_);refine ah hb ?_;(refine ya (dd ?_))
 refine ah hl ?_;(refine ya (dd ?_))
 refine af [1,2] (zlq w v hn) ?_;refine .inl ⟨⟨false,[0,1,2,3,4,5,6],[3],[]⟩,au,uH ?_⟩;refine td ?_
 refine af [0] (H6 (HG m w.current w.zd.length) 6 3 w.zd.length) ?_;exact⟨.inl O,_,_,.refl _,rfl,zt.lQ [0,1,2,8] [0] _ _ O O O O⟩
abbrev CZ(f:Int):lM:=⟨9,0,0,0,0,0,f,⟨0,0,0,0,0,0⟩⟩
def zro(m:lh)(e:lD)(f:Int):FB prog 208 [oM m,⟨1,243,1,[[.ref 0 [] 44 0 0]],0⟩,oE e,⟨1,66,3,[encS ⟨[],[],[]⟩],0⟩,⟨1,39,1,[[I f]],0⟩] [.ref 1 [] 1 0 0,.ref 2 [] 23 0 0,.ref 4 [] 1 0 0] [oM ({m with done:=true,answer:=CZ f}),⟨1,243,1,[[.ref 0 [] 44 0 0]],0⟩,oE ({e with done:=true,answer:=CZ f}),⟨1,66,3,[encS ⟨[],[],[]⟩],0⟩,⟨1,39,1,[[I f]],0⟩]:=by
 refine FB.zM (fn:=f208) func208 O (uH ?_);exact⟨.inr O,_,_,.refl _,rfl,rfl⟩
def zlf(m:lh)(c f:Int)(hc:yY m.op.config)(hf:(z7 m.op.config).2.1=f)(h0:f≠0):
  tp 156 [oM m] [.ref 0 [] 44 0 0,.fn 157 [] [.za],I c] (Ce {mD m 1 3 c with zQ:=true,done:=true,answer:=CZ f}) [oM ({m with done:=true,answer:=CZ f})]:=by
 have hb:=vH m.op.config hc
 have h2:(z7 m.op.config).1=⟨[],[],[]⟩:=by
  unfold z7 at hf ⊢;split
  ·rfl
  ·rename_i h;rw[pw h]at hf;exact absurd hf.symm h0
 generalize z7 m.op.config=bv at hb hf h2;obtain⟨sn,e1,e2⟩:=bv;cases hf
 cases h2
 have hb:tp 56 [] [Cf m.op.config] (.lK [Cs ⟨[],[],[]⟩,I e1,I e2]) []:=hb;refine qF.zEd (pI _) (qF.XT (fn:=f156) func156 O (.MG ?_));conv=>whnf
 refine .inl ⟨rfl,_,_,.refl _,.MG (uH ?_)⟩;refine ah hb ?_;refine .inl ⟨rfl,_,_,.refl _,.MG (uH ?_)⟩;refine⟨λh=>absurd h (aq h0),λ_=>dd ?_⟩;refine .inl ⟨rfl,_,_,.refl _,?_⟩;refine CK.deferred (g:=208) (regs:=WB (behind 4 ((f156.body).getD .skip))) O O O O O O (uH ?_);refine⟨_,rfl,uH ?_⟩;refine af [0] (H6 m 1 3 c) ?_;refine⟨_,zro m {mD m 1 3 c with zQ:=true} e1,?_⟩;exact⟨_,_,.refl _,rfl,cE 1⟩
def zmW(w:Wor)(h:jF w):tp 152 [] [Cw w] (.agg (oF w 0)) [⟨2,69,5,(w.zd).map zJ,0⟩]:=by
 refine Fx (fn:=f152) func152 O (uH ?_);refine ah (k8 w.pins h.pins) ?_;refine af [] (EI w.zd h.zd.1 λv hv=>xr v (h.zd.2 v hv)) ?_;refine ah (Ex w.zf h.zf) ?_;refine af [] (EH w.counts h.counts.1 λr hr=>vg r (h.counts.2 r hr)) ?_;refine ah (Gu w.zr h.zr) ?_;refine⟨.inl O,_,_,zt.qa 1 0 6 O O O O (.inr O) O aj (shut_map (enc:=zT) (λ_=>O) w.counts) (qk O),rfl,?_⟩;exact zt.lQ [3] [0] _ _ O O O (ze O (ze O (ze O (ze O (ze (zl λr hr c hc=>((shut_map (enc:=zT) (λ_=>O) w.counts) r hr c hc).2) O)))))
def zqs(w:Wor)(m:lh)(sw:jF w)(ok:nk w)(hl:i64 m.listen)(hpc:m.pc=0)(hs:ql w m=true)(hc:yX m.op.config)(he:De m.op.config=0):
  tp 128 [] [Cw w,Cm m] (.lK [Cw {w with current:=w.zd.length,zd:=w.zd++[wJ m.op.config]},Cm (HG m w.current w.zd.length),Ce {mD m 6 3 w.zd.length with zQ:=true}]) []:=by
 refine ab func128 ?_;(repeat (first|refine uA ?_|refine uB ?_))
 refine ah (zV w m ok hl) ?_;refine⟨λ_=>dd ?_,λh=>absurd ((hs).symm.trans h:true=false) ar⟩;(repeat (first|refine uA ?_|refine uB ?_))
 refine tf ?_
 refine af [] (zmW w sw) ?_;(repeat (first|refine uA ?_|refine uB ?_))
 refine af [1,6,5] (zpd w m w.current hc he sw.zd.1) ?_;refine .inl ⟨⟨false,[0,1,2],[6,1,8],[]⟩,au,uH ?_⟩;refine td ?_
 exact⟨.inl O,_,zt.qa 2 0 4 O O O O (.inr O) aj aj (shut_map (enc:=zJ) (λ_=>O) _) (qk O),rfl⟩
def zlw(w:Wor)(m:lh)(f:Int)(sw:jF w)(ok:nk w)(hl:i64 m.listen)(hpc:m.pc=0)(hs:ql w m=true)(hc:yY m.op.config)(hf:(z7 m.op.config).2.1=f)(h0:f≠0):
  tp 128 [] [Cw w,Cm m] (.lK [Cw w,Cm {m with done:=true,answer:=CZ f},Ce {mD m 1 3 w.current with zQ:=true,done:=true,answer:=CZ f}]) []:=by
 refine ab func128 ?_;(repeat (first|refine uA ?_|refine uB ?_))
 refine ah (zV w m ok hl) ?_;refine⟨λ_=>dd ?_,λh=>absurd ((hs).symm.trans h:true=false) ar⟩;(repeat (first|refine uA ?_|refine uB ?_))
 refine tf ?_
 refine ah (qP w sw) ?_;(repeat (first|refine uA ?_|refine uB ?_))
 refine af [1] (zlf m w.current f hc hf h0) ?_;refine .inl ⟨⟨false,[0,1,2],[5,1,6],[]⟩,au,uH ?_⟩;refine td ?_
 exact uI
end Go.Wor
