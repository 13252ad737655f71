import Derived.RangeFuncLeaves
import Derived.Test.YtllehbdigpdinaaGreatSW
import Derived.Test.YtllehbdigpdinaaGreatSJ
import Derived.Test.YtllehbdigpdinaaGreatSV
set_option linter.all false
set_option maxRecDepth 100000
set_option maxHeartbeats 4000000
namespace Go.Wor
open Go.Ab Go.Proofs Tryz Go.Hy Go.Gat Go.Nam Go.Hos Go.Con Go.Sna
def wW(w:Wor)(m:eR):Bool:=w.zr.any (λr=>r.version == m.version) || (m.version == w.current) || decide (m.zo<0) || decide (w.zo<m.zo)
def DN(m:eR)(a b c:Int):tn 169 [oM m] [.ref 0 [] 44 0 0,I a,I b,I c] (Ce (fx m a b c)) [oM m]:=by
 refine aa func169 ?_;refine hZ ?_;exact dM
def Tf(w:Wor)(m:eR)(r:fA):tn 218 [oW w,oM m] [.agg (xF r),.ref 1 [] 44 0 0] (Bo (r.version == m.version)) [oW w,oM m]:=by
 refine aa func218 ?_;refine⟨λh=>?_,λh=>?_⟩ <;> rw[h]
 ·refine dd ?_;exact df
 ·refine dd ?_;exact df
def LZ(w:Wor)(m:eR)(ok:fY w):tn 166 [] [Cw w,Cm m] (Bo (wW w m)) []:=by
 have hl:=ok.zr;refine ab func166 ?_;refine⟨_,_,Go.Lim.M7 (λr=>r.version == m.version) O (λr=>Tf w m r) aw,dd ?_⟩;refine⟨λq1=>?_,λq1=>?_⟩
 ·refine dd ?_;refine tc ?_
  (exact⟨.inl O,_,.refl _,uN (by simp only[wW,q1,eL])⟩)
 refine dd ?_;refine tc ?_
 refine⟨λq2=>?_,λq2=>?_⟩
 ·refine dd ?_;refine tc ?_
  (exact⟨.inl O,_,.refl _,uN (by simp only[wW,q1,q2,eL,uf])⟩)
 refine dd ?_;refine tc ?_
 refine⟨λq3=>?_,λq3=>?_⟩
 ·refine dd ?_;refine tc ?_
  (exact⟨.inl O,_,.refl _,uN (by simp only[wW,q1,q2,q3,eL,uf])⟩)
 refine dd ?_;refine tc ?_
 refine⟨λq4=>?_,λq4=>?_⟩
 ·refine dd ?_;refine tc ?_
  (exact⟨.inl O,_,.refl _,uN (by have q5:decide (w.zo<m.zo)=true:=q4;simp only[wW,q5,uf])⟩)
 ·refine dd ?_;refine tc ?_
  (exact⟨.inl O,_,.refl _,uN (by have q5:decide (w.zo<m.zo)=false:=q4;simp only[wW,q1,q2,q3,q5,Bool.or_false])⟩)
def TV(w:Wor)(m:eR)(sw:q8 w)(ok:fY w)(hl:i64 m.listen)(hpc:m.pc=1)(hs:zY w m=true):
  tn 135 [] [Cw w,Cm m] (.fb [Cw w,Cm {m with zo:=w.zo,pc:=2},Ce (fx m 1 1 w.zo)]) []:=by
 refine ab func135 ?_;(repeat (first|refine uA ?_|refine uB ?_))
 refine ah (zO w m ok hl) ?_;refine⟨λ_=>dd ?_,λh=>absurd ((hs).symm.trans h:true=false) ar⟩;(repeat (first|refine uA ?_|refine uB ?_))
 refine tc ?_
 refine ah (qw w sw) ?_;(repeat (first|refine uA ?_|refine uB ?_))
 refine .inl ⟨⟨true,[0,1,3],[0,1,5],[4]⟩,au,uH ?_⟩;refine hZ ?_
 refine af [1] (DN {m with zo:=w.zo,pc:=2} 1 1 w.zo) ?_;refine hZ ?_
 exact uI
def Sk(w:Wor)(h:q8 w)(x:fA)(l:List fA)(hx:w.zr=x::l):tn 162 [] [Cw w] (.agg [I w.zo,I w.current,I w.lock,lI w.pins,lV w.ze,lL w.zd,fK w.counts,.sl 0 [] 3 0 w.zr.length false]) [⟨2,142,3,(w.zr).map xF,0⟩]:=by
 have hl:l.length<1000000000:=by have:=h.zr;rw[hx]at this;exact de
 have hc:=NC x l hl;rw[<-hx]at hc;refine BY (fn:=f162) func162 O (uH ?_);refine ah (vw w.pins h.pins) ?_;refine af [] (Bj w.ze h.ze.1 λv hv=>jM v (h.ze.2 v hv)) ?_;refine ah (kF w.zd h.zd) ?_;refine af [] (Bi w.counts h.counts.1 λr hr=>yf r (h.counts.2 r hr)) ?_;refine af [] (hc) ?_;refine⟨.inl O,_,_,(zn.zS 1 0 4 O O O O (.inr O) O aj (shut_map (enc:=zN) (λ_=>O) w.ze) (z5 O)).trans (zn.zS 1 0 6 O O O O (.inr O) O aj (shut_map (enc:=zP) (λ_=>O) w.counts) (z5 O)),rfl,?_⟩;exact zn.fe [5] [0] _ _ O O O (zc O (zc O (zc O (zc (zg λr hr c hc=>((shut_map (enc:=zN) (λ_=>O) w.ze) r hr c hc).2) (zc (zg λr hr c hc=>((shut_map (enc:=zP) (λ_=>O) w.counts) r hr c hc).2) O)))))
def zyg:tn 216 [] [lR []] (.eS 1 3 []) []:=by
 refine ab func216 ?_;refine⟨?_,?_⟩
 ·refine dd ?_;exact⟨.inl O,_,zn.cell 2 O (WC.none 1 0 3),rfl⟩
 ·refine dd ?_;refine .inr ⟨rfl,dd ?_⟩;exact uI
def Sj(w:Wor)(h:q8 w)(hx:w.zr=[]):tn 162 [] [Cw w] (.agg [I w.zo,I w.current,I w.lock,lI w.pins,lV w.ze,lL w.zd,fK w.counts,.eS 1 3 []]) []:=by
 have hc:=zyg;rw[<-hx]at hc;refine ab func162 ?_;refine ah (vw w.pins h.pins) ?_;refine af [] (Bj w.ze h.ze.1 λv hv=>jM v (h.ze.2 v hv)) ?_;refine ah (kF w.zd h.zd) ?_;refine af [] (Bi w.counts h.counts.1 λr hr=>yf r (h.counts.2 r hr)) ?_;refine ah hc ?_;exact⟨.inl O,_,(zn.zS 1 0 4 O O O O (.inr O) O aj (shut_map (enc:=zN) (λ_=>O) w.ze) (z5 O)).trans (zn.zS 1 0 6 O O O O (.inr O) O aj (shut_map (enc:=zP) (λ_=>O) w.counts) (z5 O)),rfl⟩
def zyy(l:List fA):((l.map xF).all λx=>x.all zB)=true:=by
 rw[gA];intro r hr;obtain⟨x,_,rfl⟩:=gZ.1 hr
 rfl
abbrev Ao(m:eR):ff:=⟨8,m.i,0,0,0,0,0,⟨0,0,0,0,0,0⟩⟩
def TW(w:Wor)(m:eR)(x:fA)(l:List fA)(sw:q8 w)(ok:fY w)(hl:i64 m.listen)(hpc:m.pc=2)(hs:zY w m=true)(hla:wW w m=false)(hx:w.zr=x::l):
  tn 135 [] [Cw w,Cm m] (.fb [Cw {w with zr:=w.zr++[⟨m.version,m.zo,false⟩]},Cm {m with done:=true,answer:=Ao m},Ce {fx m 2 11 m.version with done:=true,answer:=Ao m}]) []:=by
 have hn:=sw.zr;have hap:(Ob.mk 2 142 3 (w.zr.map xF) 0).rows++[[I m.version,I m.zo,Bo false]]=(w.zr++[(⟨m.version,m.zo,false⟩:fA)]).map xF:=bf
 refine ab func135 ?_;(repeat (first|refine uA ?_|refine uB ?_))
 refine ah (zO w m ok hl) ?_;refine⟨λ_=>dd ?_,λh=>absurd ((hs).symm.trans h:true=false) ar⟩;(repeat (first|refine uA ?_|refine uB ?_))
 refine tc ?_
 refine ah (LZ w m ok) ?_;refine⟨λh=>absurd ((hla).symm.trans h:false=true) ar,λ_=>dd ?_⟩;refine tc ?_
 refine af [] (Sk w sw x l hx) ?_;(repeat (first|refine uA ?_|refine uB ?_))
 refine⟨aj,zyy _,ay,by show _*24<=_;simp;omega,dd ?_⟩;refine af [1] (DN m 2 11 m.version) ?_;refine .inl ⟨⟨false,[1],[1],[]⟩,au,uH ?_⟩;refine hZ ?_
 rw[hap];refine .inl ⟨⟨false,[0,1,2],[1,6,8],[]⟩,au,uH ?_⟩;refine hZ ?_
 exact⟨.inl O,_,zn.zS 2 0 7 O O O O (.inr O) aj aj (shut_map (enc:=xF) (λ_=>O) _) (z5 O),rfl⟩
def SQ(w:Wor)(m:eR)(sw:q8 w)(ok:fY w)(hl:i64 m.listen)(hpc:m.pc=2)(hs:zY w m=true)(hla:wW w m=false)(hx:w.zr=[]):
  tn 135 [] [Cw w,Cm m] (.fb [Cw {w with zr:=w.zr++[⟨m.version,m.zo,false⟩]},Cm {m with done:=true,answer:=Ao m},Ce {fx m 2 11 m.version with done:=true,answer:=Ao m}]) []:=by
 refine ab func135 ?_;(repeat (first|refine uA ?_|refine uB ?_))
 refine ah (zO w m ok hl) ?_;refine⟨λ_=>dd ?_,λh=>absurd ((hs).symm.trans h:true=false) ar⟩;(repeat (first|refine uA ?_|refine uB ?_))
 refine tc ?_
 refine ah (LZ w m ok) ?_;refine⟨λh=>absurd ((hla).symm.trans h:false=true) ar,λ_=>dd ?_⟩;refine tc ?_
 refine ah (Sj w sw hx) ?_;(repeat (first|refine uA ?_|refine uB ?_))
 refine .inr ⟨.inl O,ar,ar,dd ?_⟩;refine af [1] (DN m 2 11 m.version) ?_;refine .inl ⟨⟨false,[1],[1],[]⟩,au,uH ?_⟩;refine hZ ?_
 refine .inl ⟨⟨false,[0,1,2],[1,5,7],[]⟩,au,uH ?_⟩;refine hZ ?_
 rw[hx];exact⟨.inl O,_,zn.zS 2 0 7 O O O O (.inr O) aj aj (shut_map (enc:=xF) (λ_=>O) [(⟨m.version,m.zo,false⟩:fA)]) (z5 O),rfl⟩
end Go.Wor
namespace Go.Ab
section
variable {P:Program}
def Dv{o:Oper}{t:List C}{H:zl}{R:C->zl->Prop}(h:jJ P o (ev t) H R)(q:Option Nat){w:World}{E:Env}{a:Act}{K:Act->World->Prop}{Q:Exit->Act->World->Prop}
 (hh:qu w E H)(hl:LL E t a.tmps.toList)
 (hk:∀c H' w' E' a',R c H'->qu w' E' H'->LL E' (put t o.dst c) a'.tmps.toList->a'.defers=a.defers->Grow w E H w' E' H'->K a' w'):o.wpIn (fw q) 0 P a w K Q:=by
 have:=h w E a.eval hh (λx _=>EL hl x) (λ_=>O) (λv w'=>K (a.put o.dst v) w') λc H' v w' E' hR h1 h2 g=>
  hk c H' w' E' _ hR h1 (Ga (hl.mono g.le) h2 o.dst) (by cases o.dst <;> rfl) g
 have fV:∀d,o.op≠.defer d:=λd hd=>by
  have h2:=this;unfold execOp at h2;simp only[hd,Sem.run_bind]at h2;cases hr:(resolve a.eval d o.type).run P w with
  |ok x w1=>simp[hr,Result.andThen,nn]at h2
  |halt x w1=>simp[hr,Result.andThen,nn]at h2
 unfold Oper.wpIn;refine⟨λ_ _=>trivial,?_⟩;rw[Oper.semAt_eq _ _ _ fV];generalize (execOp a.eval o).run P w=r at this ⊢;unfold nn at this;split at this
 ·exact dF
 ·exact dF
 ·rw[Oper.uponIn_enter];refine⟨λh=>aT,callsIn_wide.2 (Calls.mono this ?_)⟩;rintro e w' ⟨v,rfl,hv⟩;exact hv
 ·rw[Oper.uponIn_round];refine⟨λh=>aT,RoundIn.mono (F:=fw q) this ?_⟩;rintro e w' ⟨v,rfl,hv⟩;exact hv
 ·exact this.elim
def GB{ops:Array Oper}{rest:List Oper}:∀{l:List Oper} {t:List C} {H:zl} {K:List C->zl->Prop},lY P ops l t H K->∀(q:Option Nat) {w:World} {E:Env} {a:Act} {Q:Exit->Act->World->Prop},qu w E H->LL E t a.tmps.toList->
  (∀t' H' w' E' a',K t' H'->qu w' E' H'->LL E' t' a'.tmps.toList->a'.defers=a.defers->Grow w E H w' E' H'->wpListIn (fw q) 0 P ops Q rest a' w')->wpListIn (fw q) 0 P ops Q (l++rest) a w
 |[],t,H,K,h,q,w,E,a,Q,hh,hl,hk=>hk t H w E a h hh hl O (Grow.refl w E H)
 |o::l,t,H,K,h,q,w,E,a,Q,hh,hl,hk=>by
  rw[HQ]at h;unfold Dw at h;show wpListIn (fw q) 0 P ops Q (o::(l++rest)) a w;unfold wpListIn;split at h
  ·rename_i hw;rw[gk (jU hl hw)];refine Dv (FB h) q hh hl λc H' w' E' a' hR h1 h2 h3 g=>?_
   exact GB (jx (k:=λt=>lY P ops l t H' K) hR) q h1 h2 λt2 H2 w2 E2 a2 hK h4 h5 h6 g2=>hk t2 H2 w2 E2 a2 hK h4 h5 (h6.trans h3) (g.trans g2)
  ·rename_i hw;rw[gf (by rw[jU hl hw];decide)];refine⟨λ_ _=>trivial,?_⟩;exact GB (jx (k:=λt=>lY P ops l t H K) h) q (a:=a.put o.dst undef) hh (Ga hl (.un) o.dst) λt2 H2 w2 E2 a2 hK h4 h5 h6 g2=>hk t2 H2 w2 E2 a2 hK h4 h5 (h6.trans (by cases o.dst <;> rfl)) g2
  ·exact c6
def GL:List (Nat×Array Oper)->Code
 |[]=>.ret
 |r::l=>.seq (.region r.1 r.2 false) (GL l)
def Po:Code->List (Nat×Array Oper)
 |.seq (.region i ops false) y=>(i,ops)::Po y
 |_=>[]
def JD(P:Program)(l:List (Nat×Array Oper)):List C->zl->(List C->zl->Prop)->Prop:=
 List.rec (motive:=λ_=>List C->zl->(List C->zl->Prop)->Prop) (λt H K=>K t H) (λr _ next t H K=>lY P r.2 r.2.toList t H λt H=>next t H K) l
def Pg:∀{l:List (Nat×Array Oper)} {t:List C} {H:zl} {K:List C->zl->Prop},JD P l t H K->∀{w:World} {E:Env} {a:Act} {Q:Exit->Act->World->Prop},qu w E H->LL E t a.tmps.toList->
  (∀t' H' w' E' a',K t' H'->qu w' E' H'->LL E' t' a'.tmps.toList->a'.defers=a.defers->Grow w E H w' E' H'->Q .ret a' w')->(GL l).wpIn (fw none) 0 P Q a w
 |[],t,H,K,h,w,E,a,Q,hh,hl,hk=>wpIn_ret (hk t H w E a h hh hl O (Grow.refl w E H))
 |r::l,t,H,K,h,w,E,a,Q,hh,hl,hk=>by
  have h:lY P r.2 r.2.toList t H λt H=>JD P l t H K:=h
  refine wpIn_seq (wpIn_region_list ?_);have:=GB (rest:=[]) h none (Q:=Exit.then ((GL l).wpIn (fw none) 0 P Q) Q) hh hl λt2 H2 w2 E2 a2 hK h1 h2 h3 g=>wpListIn_nil (Pg hK h1 h2 λt3 H3 w3 E3 a3 hK3 h4 h5 h6 g2=>hk t3 H3 w3 E3 a3 hK3 h4 h5 (h6.trans h3) (g.trans g2))
  rwa [ru]at this
def Lk{m:Nat}:∀{ds:List Deferred} {w:World} {fr:Frame} {cs:List Frame},Marks m w ds->fr.mode≠.run->fr.defers=ds->(fw none).room (cs.length+1+0)->
  ∃w',StepsIn (Machine.fenced P (fw none)) P (lone fr cs w) (lone {fr with defers:=[]} cs w')/\w'.os=w.os/\w'.tape=w.tape/\w'.output=w.output/\w'.heap.size=w.heap.size/\(∀k:Nat,k<m->w'.heap[k]?=w.heap[k]?)/\
   ∀(k:Nat) (o:Obj),w.heap[k]?=some o->(∀ds,o≠.deferred ds)->w'.heap[k]?=w.heap[k]?
 |[],w,fr,cs,_,hm,hd,hroom=>⟨w,by
   have:({fr with defers:=[]}:Frame)=fr:=by cases fr;cases hd;rfl
   rw[this];exact StepsIn.refl _,rfl,rfl,rfl,rfl,λ_ _=>O,λ_ _ _ _=>O⟩
 |d::ds,w,fr,cs,⟨⟨D,h1,h2,h3,h4⟩,ht⟩,hm,hd,hroom=>by
  have htar:d.target=.collected D:=by rw[h1]
  have hs:=step_collected (P:=P) (cs:=cs) hm hd htar (run_takeDeferred h3);have i1:(lone fr cs w).fenced P (fw none):=fenced_out (n:=0) trivial hroom hm hd (λg hg=>by rw[htar]at hg;simp[Target.leads]at hg);obtain⟨w',s1,a1,a2,a3,a4,a5,a6⟩:=Lk (fr:={fr with defers:=[]++ds}) (cs:=cs) (Marks.mono (w':=w.putObj D (.deferred none)) aj ht λD' hm hd=>World.putObj_heap_other (by rintro rfl;exact h4 hm)) hm O hroom;refine⟨w',.head i1 hs s1,a1,a2,a3,a4.trans World.putObj_size,λk hk=>(a5 k hk).trans (World.putObj_heap_other aw),λk o hc hd=>?_⟩;have hne:k≠D:=by rintro rfl;rw[h3]at hc;cases hc;exact hd _ O
  have e:=World.putObj_heap_other (w:=w) (o:=.deferred none) hne;exact(a6 k o (e.trans hc) hd).trans e
def B1(P:Program)(f:FuncId)(H:zl)(args:List C)(H':zl):Prop:=
 ∀(u:FrameMode) (w:World) (E:Env) (vs:Array Value),qu w E H->LL E args vs.toList->
  CallsDIn (fw none) 0 P f vs u w λe u' w'=>u'=u/\∃v E',e=.returned v/\qu w' E' H'/\Grow w E H w' E' H'
def B1.kY{f:FuncId}{fn:Func}{c:Code}{H H':zl}{args:List C}(hf:P.funcs[f]?=some fn)(hb:fn.body=some c)
 (hr:qO P H.length c ⟨entry fn args,H⟩ λex s1=>(ex=.ret\/ex=.normal)/\∃s2 r,zn H.length s1 s2/\vL P fn s2=some r/\s2.H=H'):B1 P f H args H':=λu w E vs hh hl=>by
 have hrun:=hr none w.heap.size w E {tmps:=vs++Array.replicate (fn.ntmps-vs.size) undef,defers:=[]} (λex a1 w1=>(ex=.ret\/ex=.normal)/\∃E' s2 r,vL P fn s2=some r/\s2.H=H'/\xR H.length w.heap.size w1 E' s2 a1/\jG H.length w E H w1 E' s2.H) (λ_=>O) ⟨hh,Iv hl,gD _,gD _⟩ λex s1 w' E1 a' hR hs1 g1=>by
  obtain⟨hex,s',r,hw,hres,e⟩:=hR;obtain⟨E',hs,g2⟩:=hw _ w' E1 a' hs1;exact⟨hex,E',s',r,hres,e,hs,g1.trans g2⟩
 refine⟨trivial,λc₀ cs hu hroom=>?_⟩
 let b:Frame:={(default:Frame) with fn:=f,kind:=.deferred,roundOf:=none}
 have henter:Frame.enter P f vs .deferred=b.atR {tmps:=vs++Array.replicate (fn.ntmps-vs.size) undef,defers:=[]} [.code c]:=by
  simp[Frame.enter,Frame.atR,hf,hb,b]
 have hc:({c₀ with mode:=u}:Frame)=c₀:=by subst hu;rfl
 obtain⟨e,a',w',⟨hex,E',s2,r,hres,rfl,hs,g⟩,harr⟩:=hrun b [] (c₀::cs) O trivial hroom;rw[<-henter]at harr
 have out:∀(fr:Frame),fr.mode=.returning->fr.defers=a'.defers->fr.tmps=a'.tmps->fr.kind=.deferred->fr.fn=f->StepsIn (Machine.fenced P (fw none)) P (lone (Frame.enter P f vs .deferred) (c₀::cs) w) (lone fr (c₀::cs) w')->
   ∃e u' w' fr,(u'=u/\∃v E',e=.returned v/\qu w' E' s2.H/\Grow w E H w' E' s2.H)/\ComesIn (Machine.fenced P (fw none)) P (lone (Frame.enter P f vs .deferred) (c₀::cs) w) (lone fr ({c₀ with mode:=u'}::cs) w') e/\fr.kind=.deferred/\fr.fn=f/\fr.going P w' e:=λfr h1 h2 h3 h4 h5 hst=>by
  obtain⟨w2,st,a1,a2,a3,a4,a5,a6⟩:=Lk (P:=P) (cs:=c₀::cs) hs.defers (by rw[h1];simp) h2 hroom;have hs2:xR H.length w.heap.size w2 E' s2 {a' with defers:=[]}:=⟨hs.heap.cells a6,hs.tmps,bA,hs.base⟩;obtain⟨v,hv,_⟩:=IB hs2 hres
  have hg:Grow w E H w2 E' s2.H:=⟨⟨bB,λid hops hi=>g.le.β id hops tH,λid hops hi=>g.le.κ id hops tH,g.le.St,λid k u hi=>g.le.G id k u tH⟩,
   a1.trans g.os,a2.trans g.tape,a3.trans g.output,by rw[a4];exact g.size,λk hk ho=>(a5 k hk).trans (g.frame k hk ho),g.jO,g.own⟩
  exact⟨.returned v,u,w2,{fr with defers:=[]},⟨rfl,v,E',rfl,hs2.heap,hg⟩,by rw[hc];exact StepsIn.trans hst st,h4,h5,h1,rfl,fn,by show P.funcs[fr.fn]?=_;rw[h5];exact hf,by show(results fn fr.tmps).run P w2=_;rw[h3];exact hv⟩
 rcases hex with rfl|rfl
 ·obtain⟨todo,h0⟩:=harr.1 O;exact out _ O O O O O h0
 ·exact out _ O O O O O (StepsIn.trans harr (.one (fenced_calm (n:=0) (fr:=b.atR a' []) trivial hroom O) (stepR_end O)))
def Fin(P:Program)(fn:Func)(w0:World)(E0:Env)(H:zl)(R:C->zl->Prop):Exit->Act->World->Prop:=
 bodyPostM (fw none) 0 P fn λe w'=>∃r H' v E',R r H'/\e=.returned v/\qu w' E' H'/\L E' r v/\Grow w0 E0 H w' E' H'
def od(P:Program)(fn:Func)(H:zl)(c:Code)(s:S)(R:C->zl->Prop):Prop:=
 ∀(w0:World) (E0:Env) (w:World) (E:Env) (a:Act),qu w0 E0 H->xR H.length w0.heap.size w E s a->jG H.length w0 E0 H w E s.H->c.wpIn (fw none) 0 P (Fin P fn w0 E0 H R) a w
def Eo(P:Program)(fn:Func)(H:zl)(R:C->zl->Prop)(s1:S):Prop:=∃s2 r,zn H.length s1 s2/\vL P fn s2=some r/\R r s2.H
def IT{fn:Func}{H:zl}{R:C->zl->Prop}{w0 w:World}{E0 E:Env}{s1:S}{a:Act}(hh:qu w0 E0 H)(hs:xR H.length w0.heap.size w E s1 a)(hg:jG H.length w0 E0 H w E s1.H)(h:Eo P fn H R s1):
  LeavesInM (fw none) 0 P fn a.tmps (λe w'=>∃r H' v E',R r H'/\e=.returned v/\qu w' E' H'/\L E' r v/\Grow w0 E0 H w' E' H') a.defers .returning w:=by
 obtain⟨s',r,hw,hres,hRr⟩:=h;obtain⟨E',hs,g2⟩:=hw _ w E a hs;have g:=hg.trans g2;refine leaves hs.defers λw2 a1 a2 a3 a4 a5 a6=>?_
 have hs2:xR H.length w0.heap.size w2 E' s' {a with defers:=[]}:=⟨hs.heap.cells a6,hs.tmps,bA,hs.base⟩;obtain⟨v,h1,h2⟩:=IB hs2 hres
 have hg:Grow w0 E0 H w2 E' s'.H:=⟨⟨bB,λid hops hi=>g.le.β id hops tH,λid hops hi=>g.le.κ id hops tH,g.le.St,λid k u hi=>g.le.G id k u tH⟩,
  a1.trans g.os,a2.trans g.tape,a3.trans g.output,by rw[a4];exact g.size,λk hk ho=>(a5 k hk).trans (g.frame k hk ho),g.jO,g.own⟩
 exact⟨v,h1,r,s'.H,v,E',hRr,rfl,hs2.heap,h2,hg⟩
def od.kY{fn:Func}{H:zl}{c:Code}{s:S}{R:C->zl->Prop}(h:qO P H.length c s λex s1=>(ex=.ret\/ex=.normal)/\Eo P fn H R s1):od P fn H c s R:=λw0 E0 w E a hh hs hg=>
 h none w0.heap.size w E a _ (λ_=>O) hs λex s1 w' E1 a' ⟨hex,hl⟩ hs1 g1=>by
  have:=IT hh hs1 (hg.trans g1) hl;rcases hex with rfl|rfl <;> exact dF
def od.seq{fn:Func}{H:zl}{x y:Code}{s:S}{R:C->zl->Prop}(h:qO P H.length x s λex s1=>(ex=.normal/\∃s2,zn H.length s1 s2/\od P fn H y s2 R)\/(ex=.ret/\Eo P fn H R s1)):od P fn H (.seq x y) s R:=λw0 E0 w E a hh hs hg=>
 wpIn_seq (h none w0.heap.size w E a _ (λ_=>O) hs λex s1 w' E1 a' hR hs1 g1=>by
  rcases hR with⟨rfl,s2,hw,hy⟩|⟨rfl,hl⟩
  ·obtain⟨E2,hs2,g2⟩:=hw _ w' E1 a' hs1;exact hy w0 E0 w' E2 a' hh hs2 ((hg.trans g1).trans g2)
  ·exact IT hh hs1 (hg.trans g1) hl)
def od.deferred{fn:Func}{H:zl}{i:Nat}{oM oD:Oper}{cl:Call}{k:Tmp}{g:FuncId}{t:List C}{Hs:zl}{regs:List (Nat×Array Oper)}{R:C->zl->Prop}
 (hop:oD.op=.defer cl)(hcl:cl.callee=.value (.tmp k))(hca:cl.args= #[])(hgu:oD.guard=none)(hdst:oD.dst=none)(hcb:qi P g=true)
 (h:lY P #[oM,oD] [oM] t Hs λt1 H1=>∃caps,t1[k]?=some (.fn g [] caps)/\JD P regs t1 H1 λt2 H2=>∃H3,B1 P g H2 caps H3/\Eo P fn H R ⟨t2,H3⟩):
  od P fn H (.seq (.region i #[oM,oD] false) (GL regs)) ⟨t,Hs⟩ R:=λw0 E0 w E a hh hs hg=>by
 refine wpIn_seq (wpIn_region_list ?_);refine GB (rest:=[oD]) h none hs.heap hs.tmps λt1 H1 w1 E1 a1 ⟨caps,hk,ht⟩ h1 h2 h3 g1=>?_
 unfold wpListIn;rw[gk (by unfold Region.wanted;rw[hgu])];obtain⟨u,hu,hL⟩:=h2.get hk;rw[pa]at hu
 obtain⟨zs,hv,h5,h6⟩:∃zs,u=.func (.func g) #[] zs/\caps.length=zs.size/\(∀(i:Nat) c y,caps[i]?=some c->zs[i]?=some y->L E1 c y):=by
  cases hL with
  |fn f first caps ys zs h1 h2 h3 h4=>exact⟨zs,by rw[show ys= #[] from rF h1.symm],h2,h4⟩
 have hev:a1.eval (.tmp k)=.func (.func g) #[] zs:=by
  show a1.tmps.getD k undef=_;rw[pG,hu,hv]
  rfl
 have hr:(execOp a1.eval oD).run P w1=.ok (.defer {target:=.fn (.func g) zs,args:= #[]}) w1:=by
  unfold execOp;simp[hop,resolve,hcl,hca,hev,Deferred.ofValue]
 unfold Oper.wpIn;refine⟨λ_ _=>trivial,?_⟩;rw[show(fw none).round=none from O,Oper.semAt_none,hr,Oper.uponIn_defer,hdst];refine wpListIn_nil (Pg ht h1 h2 λt2 H2 w2 E2 a2 ⟨H3,hD,hlv⟩ h7 h8 h9 g2=>?_);have h9:a2.defers={target:=.fn (.func g) zs,args:= #[]}::a.defers:=h9.trans (by show _::a1.defers=_;rw[h3]);have gB:jG H.length w0 E0 H w2 E2 H2:=hg.trans ((g1.trans g2).ix tG);have hM:Marks w0.heap.size w2 a.defers:=hs.defers.grow hs.heap (g1.trans g2);show LeavesInM (fw none) 0 P fn a2.tmps _ a2.defers .returning w2;rw[h9];refine⟨aj,.inr ⟨λh=>aT,.func g,zs,g,zs,rfl,?_,λ_ _=>trivial,?_⟩⟩
 ·unfold qi at hcb;split at hcb
  rotate_left
  ·cases hcb
  rename_i fng hfn;simp only[gC,pJ]at hcb;have hname : fng.name ≠ "runtime.NumGoroutine" := by simpa using hcb.1
  have hbody:fng.body≠none:=bF
  simp[invoke,callFunc,hfn,hname,hbody]
 have e2:LL E2 caps zs.toList:=⟨aq h5,λi c y e1 e2=>(h6 i c y e1 uZ).mono g2.le⟩;refine(hD .returning w2 E2 zs h7 e2).mono ?_;rintro e u' w3 ⟨rfl,v,E3,rfl,h10,g3⟩;have hb:H.length<=H2.length:=by have:=hs.base;have:=(g1.trans g2).le.n;rw[hs.heap.n,h7.n]at this;omega
 have hs3:xR H.length w0.heap.size w3 E3 ⟨t2,H3⟩ {a2 with defers:=a.defers}:=⟨h10,h8.mono g3.le,hM.grow h7 g3,by have:=g3.le.n;rw[h7.n,h10.n]at this;exact pB hb this⟩;exact IT hh hs3 (gB.trans (g3.ix (by rw[h7.n];exact hb))) hlv
def ql.Zl{f:FuncId}{fn:Func}{c:Code}{H:zl}{args:List C}{R:C->zl->Prop}(hf:P.funcs[f]?=some fn)(hb:fn.body=some c)(h:od P fn H c ⟨entry fn args,H⟩ R):ql P f H args R:=λw E vs hh hl=>
 (callsIn_wide (n:=0)).1 (callsIn_of_wp_marks hf hb trivial (h w E w E _ hh ⟨hh,Iv hl,gD _,gD _⟩ (jG.refl H.length w E H)))
def B1.zG{f:FuncId}{fn:Func}{c:Code}{H H':zl}{args:List C}(hf:P.funcs[f]?=some fn)(hb:fn.body=some c)
 (h:wpA P H.length c (entry fn args) H λex t1 H1=>(ex=.ret\/ex=.normal)/\∃s2 r,zn H.length ⟨t1,H1⟩ s2/\vL P fn s2=some r/\s2.H=H'):B1 P f H args H':=
 .kY hf hb ((jy h).mono λex s1 h1=>h1)
def od.Kb{fn:Func}{H Hs:zl}{x y:Code}{t:List C}{R:C->zl->Prop}(h:wpA P H.length x t Hs λex t1 H1=>(ex=.normal/\∃t2 H2,zn H.length ⟨t1,H1⟩ ⟨t2,H2⟩/\od P fn H y ⟨t2,H2⟩ R)\/(ex=.ret/\Eo P fn H R ⟨t1,H1⟩)):od P fn H (.seq x y) ⟨t,Hs⟩ R:=
 .seq ((jy h).mono λex s1 h1=>h1.imp (λ⟨e,t2,H2,hw,hr⟩=>⟨e,_,hw,hr⟩) id)
end
def oK(H:zl)(id:Nat):zl:=H.modify id λ_=>⟨0,0,0,[],0⟩
def wD(H:zl)(id j:Nat):(oK H id)[j]?=(H[j]?).map λob=>if id=j then ⟨0,0,0,[],0⟩ else ob:=by
 unfold oK;rw[pS]
 rfl
def wS{H:zl}{id:Nat}{id':Nat}{p:List fJ}{x:Nat×List (List C)}(h:z7 (oK H id) id' p=some x):id'≠id/\z7 H id' p=some x:=by
 obtain⟨ob,ho,hk,hg⟩:=ji h;rw[wD]at ho;cases hx:H[id']? with
 |none=>rw[hx]at ho;cases ho
 |some ob0=>
  rw[hx]at ho;simp only[gF,gS]at ho;by_cases hid:id=id'
  ·subst hid;simp at ho;subst ho;simp at hk
  ·rw[gf hid]at ho;subst ho;refine⟨Ne.symm hid,?_⟩;unfold z7;rw[hx];simp only[hk,if_true];exact hg
def qd.gone{w:World}{E:Env}{H:zl}(h:qd w E H)(id:Nat):qd w E (oK H id) where
 n:=by rw[h.n];simp[oK]
 fj id' ob p sz rows hob hx:=by
  obtain⟨h1,h2⟩:=wS hx;rw[wD]at hob;cases hx':H[id']? with
  |none=>rw[hx']at hob;cases hob
  |some ob0=>
   rw[hx']at hob;simp only[gF,gS,gf (Ne.symm h1)]at hob;subst hob;exact h.fj id' _ p sz rows hx' h2
 inj id1 p1 id2 p2 x y hx hy he:=h.inj id1 p1 id2 p2 x y (wS hx).2 (wS hy).2 he
 qs:=h.qs
 sep id' p x o u hx hu:=by
  obtain⟨h1,h2⟩:=wS hx;obtain⟨e1,ob,e2,e3⟩:=h.sep id' p x o u h2 hu;refine⟨e1,ob,?_,e3⟩;rw[wD,e2];simp[Ne.symm h1]
 ty id' ob hob hk:=by
  rw[wD]at hob;cases hx':H[id']? with
  |none=>rw[hx']at hob;cases hob
  |some ob0=>
   rw[hx']at hob;simp only[gF,gS]at hob;by_cases hid:id=id'
   ·rw[gk hid]at hob;subst hob;simp at hk
   ·rw[gf hid]at hob;subst hob;exact h.ty id' _ hx' hk
 fz id' ob hob:=by
  rw[wD]at hob;cases hx':H[id']? with
  |none=>rw[hx']at hob;cases hob
  |some ob0=>
   rw[hx']at hob;simp only[gF,gS]at hob;have h0:=h.fz id' ob0 hx';subst hob;split
   ·simp
   ·exact h0
def vZ{H:zl}{id i:Nat}{ob:Ob}(h:(oK H id)[i]?=some ob)(hk:ob.kind=4):H[i]?=some ob:=by
 rw[wD]at h;cases hx:H[i]? with
 |none=>rw[hx]at h;cases h
 |some o=>
  rw[hx]at h;simp only[gF,gS]at h;split at h
  ·subst h;cases hk
  ·rw[h]
def zn.gone{B:Nat}{s:S}(id:Nat):zn B s ⟨s.tmps,oK s.H id⟩:=λm w E a hs=>by
 have hg:∀{i b},qH E (oK s.H id) i b->qH E s.H i b:=λ⟨ob,cap,h1,h2,h3,h4⟩=>⟨ob,cap,vZ h1 h2,h2,h3,h4⟩
 have hr:∀{i b},jE (oK s.H id) i b->jE s.H i b:=λ⟨ob,o,t,h1,h2,h3,h4⟩=>⟨ob,o,t,vZ h1 h2,h2,h3,h4⟩
 have h0:∀{b},jh E (oK s.H id) b->jh E s.H b:=λ⟨i,p,x,h1,h2⟩=>⟨i,p,x,(wS h1).2,h2⟩
 refine⟨E,⟨⟨hs.heap.base.gone id,?_⟩,hs.tmps,hs.defers,by have:=hs.base;simp[oK];omega⟩,⟨Env.oz.refl B E,rfl,rfl,rfl,gD _,λ_ _ _=>O,λ_ _ _ h=>.inl h,?_⟩⟩
 ·exact {
   val:=λi ob h1 h2=>hs.heap.eX.val i ob (vZ h1 h2) h2
   fj:=λi b ob h1 h2=>hs.heap.eX.fj i b ob (hg h1) (by obtain⟨ob2,_,h3,h4,_⟩:=h1;rw[h2]at h3;cases h3;exact vZ h2 h4)
   sep:=λi b h1 h2=>hs.heap.eX.sep i b (hg h1) (h0 h2)
   inj:=λi j b h1 h2=>hs.heap.eX.inj i j b (hg h1) (hg h2)
   st:=λi b ob o u h1 h2 h3=>hs.heap.eX.st i b ob o u (hg h1) (by obtain⟨ob2,_,h4,h5,_⟩:=h1;rw[h2]at h4;cases h4;exact vZ h2 h5) h3
   top:=λi ob k u h1 h2 h3=>hs.heap.eX.top i ob k u (vZ h1 h2) h2 h3
   iw:=λi ob o t h1 h2 h3=>hs.heap.eX.iw i ob o t (vZ h1 h2) h2 h3
   iO:=λi j b h1 h2=>hs.heap.eX.iO i j b (hr h1) (hr h2)}
 ·rintro b (hb|⟨i,hb|hb⟩)
  ·exact .inr (.inl (h0 hb))
  ·exact .inr (.inr ⟨i,.inl (hg hb)⟩)
  ·exact .inr (.inr ⟨i,.inr (hr hb)⟩)
def ql.zyS{P:Program}{f:FuncId}{H H2:zl}{args:List C}{r:C}(hle:H.length<=H2.length)(h1:ql P f H args λr1 H1=>zn H.length ⟨[r1],H1⟩ ⟨[r],H2⟩):zb P f H args r H2:=λw E vs hh hl0=>by
 refine(h1 w E vs hh hl0).mono ?_;rintro e w' ⟨r1,H1,v,E',hw,h0,h2,h3,g⟩;have hHH:H.length<=H1.length:=bV
 obtain⟨E2,hs,g2⟩:=hw 0 w' E' ⟨#[v],[]⟩ ⟨h2,LL.one h3,gY _,hHH⟩;have hn2:=hs.heap.n;refine⟨v,E2,h0,hs.heap,hs.tmps.cons_inv.1,⟨⟨by rw[hh.n,hn2];exact hle,λid hops hi=>?_,λid hops hi=>?_,λb o u hu=>g2.le.St _ _ _ (g.le.St _ _ _ hu),λid k u hi hu=>?_⟩,g2.os.trans g.os,g2.tape.trans g.tape,g2.output.trans g.output,pB g.size g2.size,?_,?_,?_⟩⟩
 ·rw[hh.n]at hi;exact(g2.le.β id hops hi).trans (g.le.β id hops tS)
 ·rw[hh.n]at hi;exact(g2.le.κ id hops hi).trans (g.le.κ id hops tS)
 ·rw[hh.n]at hi;exact g2.le.G id k u hi (g.le.G id k u tS hu)
 ·intro k hk ho;exact di
 ·intro b o u hu;rcases g2.jO b o u hu with h1|h1|h1
  ·exact g.jO b o u h1
  ·exact .inr (.inl (pB g.size h1))
  ·rcases g.own b h1 with h4|h4
   ·exact .inr (.inl h4)
   ·exact .inr (.inr h4)
 ·intro b hb;rcases g2.own b hb with h1|h1
  ·exact .inl (pB g.size h1)
  ·exact g.own b h1
end Go.Ab
namespace Go.Wor
open Go.Ab Go.Proofs Tryz Go.Hy Go.Gat Go.Nam Go.Hos Go.Con Go.Sna
def E5{c:fD}(h:xn c):Aa (zT c).1:=by
 unfold zT;split
 ·exact⟨aj,aj,aj⟩
 ·refine⟨h.zd,⟨aq h.zM.1,λr hr=>?_⟩,h.zk⟩;simp only[gZ]at hr;obtain⟨q,hq,rfl⟩:=hr;exact⟨(h.zM.2 q hq).2.1,(h.zM.2 q hq).2.2.1⟩
def nz(c:fD):Int:=if (zT c).2.1≠0 then (zT c).2.1 else (qD (zT c).1).2
def yK(c:fD):fc:=(qD (zT c).1).1
def zyz(l:List fc):((l.map zN).all λx=>x.all zB)=true:=by
 rw[gA];intro r hr;obtain⟨x,_,rfl⟩:=gZ.1 hr
 rfl
abbrev mD(m:eR)(was now:Int):eR:={m with version:=was,zj:=0,end_:=0,other:=0,slot:=0,i:=now,pc:=1}
def RN(w:Wor)(v:fc)(hn:w.ze.length<1000000000):tn 168 [⟨1,38,8,[[I w.zo,I w.current,I w.lock,lI w.pins,.sl 1 [] 5 0 (w.ze.length) false,lL w.zd,fK w.counts,lR w.zr]],0⟩,⟨2,138,5,(w.ze).map zN,0⟩] [Cv v,.ref 0 [] 8 0 0] (.fb [I w.current,I w.ze.length]) [⟨1,38,8,[[I w.zo,I w.ze.length,I w.lock,lI w.pins,.sl 2 [] 5 0 ((w.ze.length+1)) false,lL w.zd,fK w.counts,lR w.zr]],0⟩,⟨0,0,0,[],0⟩,⟨2,138,5,(w.ze++[v]).map zN,0⟩]:=by
 have hap:(Ob.mk 2 138 5 (w.ze.map zN) 0).rows++[zN v]=(w.ze++[v]).map zN:=bf
 refine qc (fn:=f168) func168 O aj (uH ?_);refine uE ?_;refine⟨aj,zyz _,ay,by show _*104<=_;simp;omega,dd ?_⟩;refine⟨.inl O,_,_,zn.gone 1,rfl,?_⟩;rw[<-hap];exact zn.fe [0,1,3] [0] _ _ O O O O
def Ta(w:Wor)(m:eR)(c:Int)(hc:xn m.op.config)(he:nz m.op.config=0)(hn:w.ze.length<1000000000):
  tn 167 [oM m,⟨1,38,8,[[I w.zo,I w.current,I w.lock,lI w.pins,.sl 2 [] 5 0 (w.ze.length) false,lL w.zd,fK w.counts,lR w.zr]],0⟩,⟨2,138,5,(w.ze).map zN,0⟩] [.ref 0 [] 44 0 0,.fn 168 [] [.ref 1 [] 8 0 0],I c] (Ce {fx m 6 3 w.ze.length with zI:=true}) [oM (mD m w.current w.ze.length),⟨1,38,8,[[I w.zo,I w.ze.length,I w.lock,lI w.pins,.sl 3 [] 5 0 ((w.ze.length+1)) false,lL w.zd,fK w.counts,lR w.zr]],0⟩,⟨0,0,0,[],0⟩,⟨2,138,5,(w.ze++[yK m.op.config]).map zN,0⟩]:=by
 have hb:=yB m.op.config hc.k;have hl:=Lo _ (E5 hc)
 have h1:(zT m.op.config).2.1=0:=by
  unfold nz at he;split at he
  ·contradiction
  ·rename_i hx;omega
 have h2:(qD (zT m.op.config).1).2=0:=by
  unfold nz at he
  rwa [gf aw]at he
 unfold yK;generalize zT m.op.config=bv at hb hl h1 h2 ⊢;obtain⟨sn,e1,e2⟩:=bv;cases h1
 have hl:tn 55 [] [Cs sn] (tV (qD sn)) []:=hl;have h2:(qD sn).2=0:=h2;show tn 167 _ _ _ [_,_,_,⟨2,138,5,(w.ze++[(qD sn).1]).map zN,0⟩];generalize qD sn=cv at hl h2 ⊢;obtain⟨v,e3⟩:=cv;cases h2
 have hb:tn 42 [] [Cf m.op.config] (.fb [Cs sn,I 0,I e2]) []:=hb;have hl:tn 55 [] [Cs sn] (.fb [Cv v,I 0]) []:=hl;refine qc (fn:=f167) func167 O aj (uH ?_);refine ah hb ?_;(refine ya (dd ?_))
 refine ah hl ?_;(refine ya (dd ?_))
 refine af [1,2] (RN w v hn) ?_;refine .inl ⟨⟨false,[0,1,2,3,4,5,6],[3],[]⟩,au,uH ?_⟩;refine hZ ?_
 refine af [0] (DN (mD m w.current w.ze.length) 6 3 w.ze.length) ?_;exact⟨.inl O,_,_,.refl _,rfl,zn.fe [0,1,2,8] [0] _ _ O O O O⟩
abbrev oG(f:Int):ff:=⟨9,0,0,0,0,0,f,⟨0,0,0,0,0,0⟩⟩
def Uv(m:eR)(e:eV)(f:Int):B1 prog 219 [oM m,⟨1,258,1,[[.ref 0 [] 44 0 0]],0⟩,oE e,⟨1,116,3,[qv ⟨[],[],[]⟩],0⟩,⟨1,39,1,[[I f]],0⟩] [.ref 1 [] 1 0 0,.ref 2 [] 23 0 0,.ref 4 [] 1 0 0] [oM ({m with done:=true,answer:=oG f}),⟨1,258,1,[[.ref 0 [] 44 0 0]],0⟩,oE ({e with done:=true,answer:=oG f}),⟨1,116,3,[qv ⟨[],[],[]⟩],0⟩,⟨1,39,1,[[I f]],0⟩]:=by
 refine B1.zG (fn:=f219) func219 O (uH ?_);exact⟨.inr O,_,_,.refl _,rfl,rfl⟩
def RC(m:eR)(c f:Int)(hc:xZ m.op.config)(hf:(zT m.op.config).2.1=f)(h0:f≠0):
  tn 167 [oM m] [.ref 0 [] 44 0 0,.fn 168 [] [.za],I c] (Ce {fx m 1 3 c with zI:=true,done:=true,answer:=oG f}) [oM ({m with done:=true,answer:=oG f})]:=by
 have hb:=yB m.op.config hc
 have h2:(zT m.op.config).1=⟨[],[],[]⟩:=by
  unfold zT at hf ⊢;split
  ·rfl
  ·rename_i h;rw[gf h]at hf;exact absurd hf.symm h0
 generalize zT m.op.config=bv at hb hf h2;obtain⟨sn,e1,e2⟩:=bv;cases hf
 cases h2
 have hb:tn 42 [] [Cf m.op.config] (.fb [Cs ⟨[],[],[]⟩,I e1,I e2]) []:=hb;refine ql.zyS (gD _) (ql.Zl (fn:=f167) func167 O (.Kb ?_));conv=>whnf
 refine .inl ⟨rfl,_,_,.refl _,.Kb (uH ?_)⟩;refine ah hb ?_;refine .inl ⟨rfl,_,_,.refl _,.Kb (uH ?_)⟩;refine⟨λh=>absurd h (aq h0),λ_=>dd ?_⟩;refine .inl ⟨rfl,_,_,.refl _,?_⟩;refine od.deferred (g:=219) (regs:=Po (behind 4 ((f167.body).getD .skip))) O O O O O O (uH ?_);refine⟨_,rfl,uH ?_⟩;refine af [0] (DN m 1 3 c) ?_;refine⟨_,Uv m {fx m 1 3 c with zI:=true} e1,?_⟩;exact⟨_,_,.refl _,rfl,cE 1⟩
def Sl(w:Wor)(h:q8 w):tn 162 [] [Cw w] (.agg (iL w 0)) [⟨2,138,5,(w.ze).map zN,0⟩]:=by
 refine BY (fn:=f162) func162 O (uH ?_);refine ah (vw w.pins h.pins) ?_;refine af [] (Bj w.ze h.ze.1 λv hv=>jM v (h.ze.2 v hv)) ?_;refine ah (kF w.zd h.zd) ?_;refine af [] (Bi w.counts h.counts.1 λr hr=>yf r (h.counts.2 r hr)) ?_;refine ah (CF w.zr h.zr) ?_;refine⟨.inl O,_,_,zn.zS 1 0 6 O O O O (.inr O) O aj (shut_map (enc:=zP) (λ_=>O) w.counts) (z5 O),rfl,?_⟩;exact zn.fe [3] [0] _ _ O O O (zc O (zc O (zc O (zc O (zc (zg λr hr c hc=>((shut_map (enc:=zP) (λ_=>O) w.counts) r hr c hc).2) O)))))
def TU(w:Wor)(m:eR)(sw:q8 w)(ok:fY w)(hl:i64 m.listen)(hpc:m.pc=0)(hs:zY w m=true)(hc:xn m.op.config)(he:nz m.op.config=0):
  tn 135 [] [Cw w,Cm m] (.fb [Cw {w with current:=w.ze.length,ze:=w.ze++[yK m.op.config]},Cm (mD m w.current w.ze.length),Ce {fx m 6 3 w.ze.length with zI:=true}]) []:=by
 refine ab func135 ?_;(repeat (first|refine uA ?_|refine uB ?_))
 refine ah (zO w m ok hl) ?_;refine⟨λ_=>dd ?_,λh=>absurd ((hs).symm.trans h:true=false) ar⟩;(repeat (first|refine uA ?_|refine uB ?_))
 refine tc ?_
 refine af [] (Sl w sw) ?_;(repeat (first|refine uA ?_|refine uB ?_))
 refine af [1,6,5] (Ta w m w.current hc he sw.ze.1) ?_;refine .inl ⟨⟨false,[0,1,2],[6,1,8],[]⟩,au,uH ?_⟩;refine hZ ?_
 exact⟨.inl O,_,zn.zS 2 0 4 O O O O (.inr O) aj aj (shut_map (enc:=zN) (λ_=>O) _) (z5 O),rfl⟩
def Rs(w:Wor)(m:eR)(f:Int)(sw:q8 w)(ok:fY w)(hl:i64 m.listen)(hpc:m.pc=0)(hs:zY w m=true)(hc:xZ m.op.config)(hf:(zT m.op.config).2.1=f)(h0:f≠0):
  tn 135 [] [Cw w,Cm m] (.fb [Cw w,Cm {m with done:=true,answer:=oG f},Ce {fx m 1 3 w.current with zI:=true,done:=true,answer:=oG f}]) []:=by
 refine ab func135 ?_;(repeat (first|refine uA ?_|refine uB ?_))
 refine ah (zO w m ok hl) ?_;refine⟨λ_=>dd ?_,λh=>absurd ((hs).symm.trans h:true=false) ar⟩;(repeat (first|refine uA ?_|refine uB ?_))
 refine tc ?_
 refine ah (qw w sw) ?_;(repeat (first|refine uA ?_|refine uB ?_))
 refine af [1] (RC m w.current f hc hf h0) ?_;refine .inl ⟨⟨false,[0,1,2],[5,1,6],[]⟩,au,uH ?_⟩;refine hZ ?_
 exact uI
end Go.Wor
