import Derived.RangeFuncLeaves
import Derived.Test.YtoeaoedlpmohoaaGreatTW
import Derived.Test.YtoeaoedlpmohoaaGreatTJ
import Derived.Test.YtoeaoedlpmohoaaGreatTV
set_option linter.all false
set_option maxRecDepth 100000
set_option maxHeartbeats 4000000
namespace Go.Wor
open Go.Ab Go.Proofs Tryz Go.Hy Go.Gat Go.Nam Go.Hos Go.Con Go.Sna
def oA(w:Wor)(m:fi):Bool:=w.zp.any (λr=>r.version == m.version) || (m.version == w.current) || decide (m.zl<0) || decide (w.zl<m.zl)
def DR(m:fi)(a b c:Int):tj 158 [oM m] [.ref 0 [] 44 0 0,I a,I b,I c] (Ce (fK m a b c)) [oM m]:=by
 refine aa func158 ?_;refine hU ?_;exact dL
def SB(w:Wor)(m:fi)(r:fH):tj 207 [oW w,oM m] [.agg (xR r),.ref 1 [] 44 0 0] (Bo (r.version == m.version)) [oW w,oM m]:=by
 refine aa func207 ?_;refine⟨λh=>?_,λh=>?_⟩ <;> rw[h]
 ·refine dd ?_;exact cY
 ·refine dd ?_;exact cY
def Mr(w:Wor)(m:fi)(ok:ir w):tj 155 [] [Cw w,Cm m] (Bo (oA w m)) []:=by
 have hl:=ok.zp;refine ab func155 ?_;refine⟨_,_,Go.Lim.MO (λr=>r.version == m.version) J (λr=>SB w m r) aw,dd ?_⟩;refine⟨λq1=>?_,λq1=>?_⟩
 ·refine dd ?_;refine hZ ?_
  (exact⟨.inl J,_,.refl _,uN (by simp only[oA,q1,ef])⟩)
 refine dd ?_;refine hZ ?_
 refine⟨λq2=>?_,λq2=>?_⟩
 ·refine dd ?_;refine hZ ?_
  (exact⟨.inl J,_,.refl _,uN (by simp only[oA,q1,q2,ef,ui])⟩)
 refine dd ?_;refine hZ ?_
 refine⟨λq3=>?_,λq3=>?_⟩
 ·refine dd ?_;refine hZ ?_
  (exact⟨.inl J,_,.refl _,uN (by simp only[oA,q1,q2,q3,ef,ui])⟩)
 refine dd ?_;refine hZ ?_
 refine⟨λq4=>?_,λq4=>?_⟩
 ·refine dd ?_;refine hZ ?_
  (exact⟨.inl J,_,.refl _,uN (by have q5:decide (w.zl<m.zl)=true:=q4;simp only[oA,q5,ui])⟩)
 ·refine dd ?_;refine hZ ?_
  (exact⟨.inl J,_,.refl _,uN (by have q5:decide (w.zl<m.zl)=false:=q4;simp only[oA,q1,q2,q3,q5,Bool.or_false])⟩)
def S2(w:Wor)(m:fi)(sw:jd w)(ok:ir w)(hl:i64 m.listen)(hpc:m.pc=1)(hs:qd w m=true):
  tj 128 [] [Cw w,Cm m] (.fq [Cw w,Cm {m with zl:=w.zl,pc:=2},Ce (fK m 1 1 w.zl)]) []:=by
 refine ab func128 ?_;(repeat (first|refine uA ?_|refine uB ?_))
 refine ah (zP w m ok hl) ?_;refine⟨λ_=>dd ?_,λh=>absurd ((hs).symm.trans h:true=false) ar⟩;(repeat (first|refine uA ?_|refine uB ?_))
 refine hZ ?_
 refine ah (qC w sw) ?_;(repeat (first|refine uA ?_|refine uB ?_))
 refine .inl ⟨⟨true,[0,1,3],[0,1,5],[4]⟩,au,uH ?_⟩;refine hU ?_
 refine af [1] (DR {m with zl:=w.zl,pc:=2} 1 1 w.zl) ?_;refine hU ?_
 exact uI
def RT(w:Wor)(h:jd w)(x:fH)(l:List fH)(hx:w.zp=x::l):tj 152 [] [Cw w] (.agg [I w.zl,I w.current,I w.lock,lI w.pins,lV w.zd,lL w.ze,fU w.counts,.sl 0 [] 3 0 w.zp.length false]) [⟨2,254,3,(w.zp).map xR,0⟩]:=by
 have hl:l.length<1000000000:=by have:=h.zp;rw[hx]at this;exact cW
 have hc:=NX x l hl;rw[<-hx]at hc;refine Cg (fn:=f152) func152 J (uH ?_);refine ah (vF w.pins h.pins) ?_;refine af [] (BE w.zd h.zd.1 λv hv=>jT v (h.zd.2 v hv)) ?_;refine ah (kO w.ze h.ze) ?_;refine af [] (BD w.counts h.counts.1 λr hr=>yp r (h.counts.2 r hr)) ?_;refine af [] (hc) ?_;refine⟨.inl J,_,_,(zq.zV 1 0 4 J J J J (.inr J) J aj (shut_map (enc:=zH) (λ_=>J) w.zd) (qa J)).trans (zq.zV 1 0 6 J J J J (.inr J) J aj (shut_map (enc:=zN) (λ_=>J) w.counts) (qa J)),rfl,?_⟩;exact zq.fx [5] [0] _ _ J J J (zc J (zc J (zc J (zc (zj λr hr c hc=>((shut_map (enc:=zH) (λ_=>J) w.zd) r hr c hc).2) (zc (zj λr hr c hc=>((shut_map (enc:=zN) (λ_=>J) w.counts) r hr c hc).2) J)))))
def zyD:tj 204 [] [lR []] (.fh 1 3 []) []:=by
 refine ab func204 ?_;refine⟨?_,?_⟩
 ·refine dd ?_;exact⟨.inl J,_,zq.cell 2 J (WC.none 1 0 3),rfl⟩
 ·refine dd ?_;refine .inr ⟨rfl,dd ?_⟩;exact uI
def RS(w:Wor)(h:jd w)(hx:w.zp=[]):tj 152 [] [Cw w] (.agg [I w.zl,I w.current,I w.lock,lI w.pins,lV w.zd,lL w.ze,fU w.counts,.fh 1 3 []]) []:=by
 have hc:=zyD;rw[<-hx]at hc;refine ab func152 ?_;refine ah (vF w.pins h.pins) ?_;refine af [] (BE w.zd h.zd.1 λv hv=>jT v (h.zd.2 v hv)) ?_;refine ah (kO w.ze h.ze) ?_;refine af [] (BD w.counts h.counts.1 λr hr=>yp r (h.counts.2 r hr)) ?_;refine ah hc ?_;exact⟨.inl J,_,(zq.zV 1 0 4 J J J J (.inr J) J aj (shut_map (enc:=zH) (λ_=>J) w.zd) (qa J)).trans (zq.zV 1 0 6 J J J J (.inr J) J aj (shut_map (enc:=zN) (λ_=>J) w.counts) (qa J)),rfl⟩
def zyT(l:List fH):((l.map xR).all λx=>x.all zx)=true:=by
 rw[gz];intro r hr;obtain⟨x,_,rfl⟩:=gR.1 hr
 rfl
abbrev Dw(m:fi):fA:=⟨8,m.i,0,0,0,0,0,⟨0,0,0,0,0,0⟩⟩
def S3(w:Wor)(m:fi)(x:fH)(l:List fH)(sw:jd w)(ok:ir w)(hl:i64 m.listen)(hpc:m.pc=2)(hs:qd w m=true)(hla:oA w m=false)(hx:w.zp=x::l):
  tj 128 [] [Cw w,Cm m] (.fq [Cw {w with zp:=w.zp++[⟨m.version,m.zl,false⟩]},Cm {m with done:=true,answer:=Dw m},Ce {fK m 2 11 m.version with done:=true,answer:=Dw m}]) []:=by
 have hn:=sw.zp;have hap:(Ob.mk 2 254 3 (w.zp.map xR) 0).rows++[[I m.version,I m.zl,Bo false]]=(w.zp++[(⟨m.version,m.zl,false⟩:fH)]).map xR:=bd
 refine ab func128 ?_;(repeat (first|refine uA ?_|refine uB ?_))
 refine ah (zP w m ok hl) ?_;refine⟨λ_=>dd ?_,λh=>absurd ((hs).symm.trans h:true=false) ar⟩;(repeat (first|refine uA ?_|refine uB ?_))
 refine hZ ?_
 refine ah (Mr w m ok) ?_;refine⟨λh=>absurd ((hla).symm.trans h:false=true) ar,λ_=>dd ?_⟩;refine hZ ?_
 refine af [] (RT w sw x l hx) ?_;(repeat (first|refine uA ?_|refine uB ?_))
 refine⟨aj,zyT _,ay,by show _*24<=_;simp;omega,dd ?_⟩;refine af [1] (DR m 2 11 m.version) ?_;refine .inl ⟨⟨false,[1],[1],[]⟩,au,uH ?_⟩;refine hU ?_
 rw[hap];refine .inl ⟨⟨false,[0,1,2],[1,6,8],[]⟩,au,uH ?_⟩;refine hU ?_
 exact⟨.inl J,_,zq.zV 2 0 7 J J J J (.inr J) aj aj (shut_map (enc:=xR) (λ_=>J) _) (qa J),rfl⟩
def Sb(w:Wor)(m:fi)(sw:jd w)(ok:ir w)(hl:i64 m.listen)(hpc:m.pc=2)(hs:qd w m=true)(hla:oA w m=false)(hx:w.zp=[]):
  tj 128 [] [Cw w,Cm m] (.fq [Cw {w with zp:=w.zp++[⟨m.version,m.zl,false⟩]},Cm {m with done:=true,answer:=Dw m},Ce {fK m 2 11 m.version with done:=true,answer:=Dw m}]) []:=by
 refine ab func128 ?_;(repeat (first|refine uA ?_|refine uB ?_))
 refine ah (zP w m ok hl) ?_;refine⟨λ_=>dd ?_,λh=>absurd ((hs).symm.trans h:true=false) ar⟩;(repeat (first|refine uA ?_|refine uB ?_))
 refine hZ ?_
 refine ah (Mr w m ok) ?_;refine⟨λh=>absurd ((hla).symm.trans h:false=true) ar,λ_=>dd ?_⟩;refine hZ ?_
 refine ah (RS w sw hx) ?_;(repeat (first|refine uA ?_|refine uB ?_))
 refine .inr ⟨.inl J,ar,ar,dd ?_⟩;refine af [1] (DR m 2 11 m.version) ?_;refine .inl ⟨⟨false,[1],[1],[]⟩,au,uH ?_⟩;refine hU ?_
 refine .inl ⟨⟨false,[0,1,2],[1,5,7],[]⟩,au,uH ?_⟩;refine hU ?_
 rw[hx];exact⟨.inl J,_,zq.zV 2 0 7 J J J J (.inr J) aj aj (shut_map (enc:=xR) (λ_=>J) [(⟨m.version,m.zl,false⟩:fH)]) (qa J),rfl⟩
end Go.Wor
namespace Go.Ab
section
variable {P:Program}
def QC{o:Oper}{t:List C}{H:zm}{R:C->zm->Prop}(h:qT P o (ev t) H R)(q:Option Nat){w:World}{E:Env}{a:Act}{K:Act->World->Prop}{Q:Exit->Act->World->Prop}
 (hh:qA w E H)(hl:LL E t a.tmps.toList)
 (hk:∀c H' w' E' a',R c H'->qA w' E' H'->LL E' (put t o.dst c) a'.tmps.toList->a'.defers=a.defers->Grow w E H w' E' H'->K a' w'):o.wpIn (fw q) 0 P a w K Q:=by
 have:=h w E a.eval hh (λx _=>EN hl x) (λ_=>J) (λv w'=>K (a.put o.dst v) w') λc H' v w' E' hR h1 h2 g=>
  hk c H' w' E' _ hR h1 (Gl (hl.mono g.le) h2 o.dst) (by cases o.dst <;> rfl) g
 have iw:∀d,o.op≠.defer d:=λd hd=>by
  have h2:=this;unfold execOp at h2;simp only[hd,Sem.run_bind]at h2;cases hr:(resolve a.eval d o.type).run P w with
  |ok x w1=>simp[hr,Result.andThen,nN]at h2
  |halt x w1=>simp[hr,Result.andThen,nN]at h2
 unfold Oper.wpIn;refine⟨λ_ _=>trivial,?_⟩;rw[Oper.semAt_eq _ _ _ iw];generalize (execOp a.eval o).run P w=r at this ⊢;unfold nN at this;split at this
 ·exact dG
 ·exact dG
 ·rw[Oper.uponIn_enter];refine⟨λh=>aR,callsIn_wide.2 (Calls.mono this ?_)⟩;rintro e w' ⟨v,rfl,hv⟩;exact hv
 ·rw[Oper.uponIn_round];refine⟨λh=>aR,RoundIn.mono (F:=fw q) this ?_⟩;rintro e w' ⟨v,rfl,hv⟩;exact hv
 ·exact this.elim
def GZ{ops:Array Oper}{rest:List Oper}:∀{l:List Oper} {t:List C} {H:zm} {K:List C->zm->Prop},l7 P ops l t H K->∀(q:Option Nat) {w:World} {E:Env} {a:Act} {Q:Exit->Act->World->Prop},qA w E H->LL E t a.tmps.toList->
  (∀t' H' w' E' a',K t' H'->qA w' E' H'->LL E' t' a'.tmps.toList->a'.defers=a.defers->Grow w E H w' E' H'->wpListIn (fw q) 0 P ops Q rest a' w')->wpListIn (fw q) 0 P ops Q (l++rest) a w
 |[],t,H,K,h,q,w,E,a,Q,hh,hl,hk=>hk t H w E a h hh hl J (Grow.refl w E H)
 |o::l,t,H,K,h,q,w,E,a,Q,hh,hl,hk=>by
  rw[Ig]at h;unfold DD at h;show wpListIn (fw q) 0 P ops Q (o::(l++rest)) a w;unfold wpListIn;split at h
  ·rename_i hw;rw[gh (j4 hl hw)];refine QC (FF h) q hh hl λc H' w' E' a' hR h1 h2 h3 g=>?_
   exact GZ (jD (k:=λt=>l7 P ops l t H' K) hR) q h1 h2 λt2 H2 w2 E2 a2 hK h4 h5 h6 g2=>hk t2 H2 w2 E2 a2 hK h4 h5 (h6.trans h3) (g.trans g2)
  ·rename_i hw;rw[dZ (by rw[j4 hl hw];decide)];refine⟨λ_ _=>trivial,?_⟩;exact GZ (jD (k:=λt=>l7 P ops l t H K) h) q (a:=a.put o.dst undef) hh (Gl hl (.un) o.dst) λt2 H2 w2 E2 a2 hK h4 h5 h6 g2=>hk t2 H2 w2 E2 a2 hK h4 h5 (h6.trans (by cases o.dst <;> rfl)) g2
  ·exact cT
def GX:List (Nat×Array Oper)->Code
 |[]=>.ret
 |r::l=>.seq (.region r.1 r.2 false) (GX l)
def Pl:Code->List (Nat×Array Oper)
 |.seq (.region i ops false) y=>(i,ops)::Pl y
 |_=>[]
def JP(P:Program)(l:List (Nat×Array Oper)):List C->zm->(List C->zm->Prop)->Prop:=
 List.rec (motive:=λ_=>List C->zm->(List C->zm->Prop)->Prop) (λt H K=>K t H) (λr _ next t H K=>l7 P r.2 r.2.toList t H λt H=>next t H K) l
def Pu:∀{l:List (Nat×Array Oper)} {t:List C} {H:zm} {K:List C->zm->Prop},JP P l t H K->∀{w:World} {E:Env} {a:Act} {Q:Exit->Act->World->Prop},qA w E H->LL E t a.tmps.toList->
  (∀t' H' w' E' a',K t' H'->qA w' E' H'->LL E' t' a'.tmps.toList->a'.defers=a.defers->Grow w E H w' E' H'->Q .ret a' w')->(GX l).wpIn (fw none) 0 P Q a w
 |[],t,H,K,h,w,E,a,Q,hh,hl,hk=>wpIn_ret (hk t H w E a h hh hl J (Grow.refl w E H))
 |r::l,t,H,K,h,w,E,a,Q,hh,hl,hk=>by
  have h:l7 P r.2 r.2.toList t H λt H=>JP P l t H K:=h
  refine wpIn_seq (wpIn_region_list ?_);have:=GZ (rest:=[]) h none (Q:=Exit.then ((GX l).wpIn (fw none) 0 P Q) Q) hh hl λt2 H2 w2 E2 a2 hK h1 h2 h3 g=>wpListIn_nil (Pu hK h1 h2 λt3 H3 w3 E3 a3 hK3 h4 h5 h6 g2=>hk t3 H3 w3 E3 a3 hK3 h4 h5 (h6.trans h3) (g.trans g2))
  rwa [pY]at this
def LZ{m:Nat}:∀{ds:List Deferred} {w:World} {fr:Frame} {cs:List Frame},Marks m w ds->fr.mode≠.run->fr.defers=ds->(fw none).room (cs.length+1+0)->
  ∃w',StepsIn (Machine.fenced P (fw none)) P (lone fr cs w) (lone {fr with defers:=[]} cs w')/\w'.os=w.os/\w'.tape=w.tape/\w'.output=w.output/\w'.heap.size=w.heap.size/\(∀k:Nat,k<m->w'.heap[k]?=w.heap[k]?)/\
   ∀(k:Nat) (o:Obj),w.heap[k]?=some o->(∀ds,o≠.deferred ds)->w'.heap[k]?=w.heap[k]?
 |[],w,fr,cs,_,hm,hd,hroom=>⟨w,by
   have:({fr with defers:=[]}:Frame)=fr:=by cases fr;cases hd;rfl
   rw[this];exact StepsIn.refl _,rfl,rfl,rfl,rfl,λ_ _=>J,λ_ _ _ _=>J⟩
 |d::ds,w,fr,cs,⟨⟨D,h1,h2,h3,h4⟩,ht⟩,hm,hd,hroom=>by
  have htar:d.target=.collected D:=by rw[h1]
  have hs:=step_collected (P:=P) (cs:=cs) hm hd htar (run_takeDeferred h3);have i1:(lone fr cs w).fenced P (fw none):=fenced_out (n:=0) trivial hroom hm hd (λg hg=>by rw[htar]at hg;simp[Target.leads]at hg);obtain⟨w',s1,a1,a2,a3,a4,a5,a6⟩:=LZ (fr:={fr with defers:=[]++ds}) (cs:=cs) (Marks.mono (w':=w.putObj D (.deferred none)) aj ht λD' hm hd=>World.putObj_heap_other (by rintro rfl;exact h4 hm)) hm J hroom;refine⟨w',.head i1 hs s1,a1,a2,a3,a4.trans World.putObj_size,λk hk=>(a5 k hk).trans (World.putObj_heap_other aw),λk o hc hd=>?_⟩;have hne:k≠D:=by rintro rfl;rw[h3]at hc;cases hc;exact hd _ J
  have e:=World.putObj_heap_other (w:=w) (o:=.deferred none) hne;exact(a6 k o (e.trans hc) hd).trans e
def B9(P:Program)(f:FuncId)(H:zm)(args:List C)(H':zm):Prop:=
 ∀(u:FrameMode) (w:World) (E:Env) (vs:Array Value),qA w E H->LL E args vs.toList->
  CallsDIn (fw none) 0 P f vs u w λe u' w'=>u'=u/\∃v E',e=.returned v/\qA w' E' H'/\Grow w E H w' E' H'
def B9.o7{f:FuncId}{fn:Func}{c:Code}{H H':zm}{args:List C}(hf:P.funcs[f]?=some fn)(hb:fn.body=some c)
 (hr:qU P H.length c ⟨entry fn args,H⟩ λex s1=>(ex=.ret\/ex=.normal)/\∃s2 r,zq H.length s1 s2/\kB P fn s2=some r/\s2.H=H'):B9 P f H args H':=λu w E vs hh hl=>by
 have hrun:=hr none w.heap.size w E {tmps:=vs++Array.replicate (fn.ntmps-vs.size) undef,defers:=[]} (λex a1 w1=>(ex=.ret\/ex=.normal)/\∃E' s2 r,kB P fn s2=some r/\s2.H=H'/\x8 H.length w.heap.size w1 E' s2 a1/\jN H.length w E H w1 E' s2.H) (λ_=>J) ⟨hh,IB hl,gC _,gC _⟩ λex s1 w' E1 a' hR hs1 g1=>by
  obtain⟨hex,s',r,hw,hres,e⟩:=hR;obtain⟨E',hs,g2⟩:=hw _ w' E1 a' hs1;exact⟨hex,E',s',r,hres,e,hs,g1.trans g2⟩
 refine⟨trivial,λc₀ cs hu hroom=>?_⟩
 let b:Frame:={(default:Frame) with fn:=f,kind:=.deferred,roundOf:=none}
 have henter:Frame.enter P f vs .deferred=b.atR {tmps:=vs++Array.replicate (fn.ntmps-vs.size) undef,defers:=[]} [.code c]:=by
  simp[Frame.enter,Frame.atR,hf,hb,b]
 have hc:({c₀ with mode:=u}:Frame)=c₀:=by subst hu;rfl
 obtain⟨e,a',w',⟨hex,E',s2,r,hres,rfl,hs,g⟩,harr⟩:=hrun b [] (c₀::cs) J trivial hroom;rw[<-henter]at harr
 have out:∀(fr:Frame),fr.mode=.returning->fr.defers=a'.defers->fr.tmps=a'.tmps->fr.kind=.deferred->fr.fn=f->StepsIn (Machine.fenced P (fw none)) P (lone (Frame.enter P f vs .deferred) (c₀::cs) w) (lone fr (c₀::cs) w')->
   ∃e u' w' fr,(u'=u/\∃v E',e=.returned v/\qA w' E' s2.H/\Grow w E H w' E' s2.H)/\ComesIn (Machine.fenced P (fw none)) P (lone (Frame.enter P f vs .deferred) (c₀::cs) w) (lone fr ({c₀ with mode:=u'}::cs) w') e/\fr.kind=.deferred/\fr.fn=f/\fr.going P w' e:=λfr h1 h2 h3 h4 h5 hst=>by
  obtain⟨w2,st,a1,a2,a3,a4,a5,a6⟩:=LZ (P:=P) (cs:=c₀::cs) hs.defers (by rw[h1];simp) h2 hroom;have hs2:x8 H.length w.heap.size w2 E' s2 {a' with defers:=[]}:=⟨hs.heap.cells a6,hs.tmps,bz,hs.base⟩;obtain⟨v,hv,_⟩:=IG hs2 hres
  have hg:Grow w E H w2 E' s2.H:=⟨⟨bA,λid hops hi=>g.le.β id hops tD,λid hops hi=>g.le.κ id hops tD,g.le.St,λid k u hi=>g.le.G id k u tD⟩,
   a1.trans g.os,a2.trans g.tape,a3.trans g.output,by rw[a4];exact g.size,λk hk ho=>(a5 k hk).trans (g.frame k hk ho),g.jX,g.own⟩
  exact⟨.returned v,u,w2,{fr with defers:=[]},⟨rfl,v,E',rfl,hs2.heap,hg⟩,by rw[hc];exact StepsIn.trans hst st,h4,h5,h1,rfl,fn,by show P.funcs[fr.fn]?=_;rw[h5];exact hf,by show(results fn fr.tmps).run P w2=_;rw[h3];exact hv⟩
 rcases hex with rfl|rfl
 ·obtain⟨todo,h0⟩:=harr.1 J;exact out _ J J J J J h0
 ·exact out _ J J J J J (StepsIn.trans harr (.one (fenced_calm (n:=0) (fr:=b.atR a' []) trivial hroom J) (stepR_end J)))
def Fin(P:Program)(fn:Func)(w0:World)(E0:Env)(H:zm)(R:C->zm->Prop):Exit->Act->World->Prop:=
 bodyPostM (fw none) 0 P fn λe w'=>∃r H' v E',R r H'/\e=.returned v/\qA w' E' H'/\L E' r v/\Grow w0 E0 H w' E' H'
def oP(P:Program)(fn:Func)(H:zm)(c:Code)(s:S)(R:C->zm->Prop):Prop:=
 ∀(w0:World) (E0:Env) (w:World) (E:Env) (a:Act),qA w0 E0 H->x8 H.length w0.heap.size w E s a->jN H.length w0 E0 H w E s.H->c.wpIn (fw none) 0 P (Fin P fn w0 E0 H R) a w
def Er(P:Program)(fn:Func)(H:zm)(R:C->zm->Prop)(s1:S):Prop:=∃s2 r,zq H.length s1 s2/\kB P fn s2=some r/\R r s2.H
def Jk{fn:Func}{H:zm}{R:C->zm->Prop}{w0 w:World}{E0 E:Env}{s1:S}{a:Act}(hh:qA w0 E0 H)(hs:x8 H.length w0.heap.size w E s1 a)(hg:jN H.length w0 E0 H w E s1.H)(h:Er P fn H R s1):
  LeavesInM (fw none) 0 P fn a.tmps (λe w'=>∃r H' v E',R r H'/\e=.returned v/\qA w' E' H'/\L E' r v/\Grow w0 E0 H w' E' H') a.defers .returning w:=by
 obtain⟨s',r,hw,hres,hRr⟩:=h;obtain⟨E',hs,g2⟩:=hw _ w E a hs;have g:=hg.trans g2;refine leaves hs.defers λw2 a1 a2 a3 a4 a5 a6=>?_
 have hs2:x8 H.length w0.heap.size w2 E' s' {a with defers:=[]}:=⟨hs.heap.cells a6,hs.tmps,bz,hs.base⟩;obtain⟨v,h1,h2⟩:=IG hs2 hres
 have hg:Grow w0 E0 H w2 E' s'.H:=⟨⟨bA,λid hops hi=>g.le.β id hops tD,λid hops hi=>g.le.κ id hops tD,g.le.St,λid k u hi=>g.le.G id k u tD⟩,
  a1.trans g.os,a2.trans g.tape,a3.trans g.output,by rw[a4];exact g.size,λk hk ho=>(a5 k hk).trans (g.frame k hk ho),g.jX,g.own⟩
 exact⟨v,h1,r,s'.H,v,E',hRr,rfl,hs2.heap,h2,hg⟩
def oP.o7{fn:Func}{H:zm}{c:Code}{s:S}{R:C->zm->Prop}(h:qU P H.length c s λex s1=>(ex=.ret\/ex=.normal)/\Er P fn H R s1):oP P fn H c s R:=λw0 E0 w E a hh hs hg=>
 h none w0.heap.size w E a _ (λ_=>J) hs λex s1 w' E1 a' ⟨hex,hl⟩ hs1 g1=>by
  have:=Jk hh hs1 (hg.trans g1) hl;rcases hex with rfl|rfl <;> exact dG
def oP.seq{fn:Func}{H:zm}{x y:Code}{s:S}{R:C->zm->Prop}(h:qU P H.length x s λex s1=>(ex=.normal/\∃s2,zq H.length s1 s2/\oP P fn H y s2 R)\/(ex=.ret/\Er P fn H R s1)):oP P fn H (.seq x y) s R:=λw0 E0 w E a hh hs hg=>
 wpIn_seq (h none w0.heap.size w E a _ (λ_=>J) hs λex s1 w' E1 a' hR hs1 g1=>by
  rcases hR with⟨rfl,s2,hw,hy⟩|⟨rfl,hl⟩
  ·obtain⟨E2,hs2,g2⟩:=hw _ w' E1 a' hs1;exact hy w0 E0 w' E2 a' hh hs2 ((hg.trans g1).trans g2)
  ·exact Jk hh hs1 (hg.trans g1) hl)
def oP.deferred{fn:Func}{H:zm}{i:Nat}{oM oD:Oper}{cl:Call}{k:Tmp}{g:FuncId}{t:List C}{Hs:zm}{regs:List (Nat×Array Oper)}{R:C->zm->Prop}
 (hop:oD.op=.defer cl)(hcl:cl.callee=.value (.tmp k))(hca:cl.args= #[])(hgu:oD.guard=none)(hdst:oD.dst=none)(hcb:qp P g=true)
 (h:l7 P #[oM,oD] [oM] t Hs λt1 H1=>∃caps,t1[k]?=some (.fn g [] caps)/\JP P regs t1 H1 λt2 H2=>∃H3,B9 P g H2 caps H3/\Er P fn H R ⟨t2,H3⟩):
  oP P fn H (.seq (.region i #[oM,oD] false) (GX regs)) ⟨t,Hs⟩ R:=λw0 E0 w E a hh hs hg=>by
 refine wpIn_seq (wpIn_region_list ?_);refine GZ (rest:=[oD]) h none hs.heap hs.tmps λt1 H1 w1 E1 a1 ⟨caps,hk,ht⟩ h1 h2 h3 g1=>?_
 unfold wpListIn;rw[gh (by unfold Region.wanted;rw[hgu])];obtain⟨u,hu,hL⟩:=h2.get hk;rw[pt]at hu
 obtain⟨zs,hv,h5,h6⟩:∃zs,u=.func (.func g) #[] zs/\caps.length=zs.size/\(∀(i:Nat) c y,caps[i]?=some c->zs[i]?=some y->L E1 c y):=by
  cases hL with
  |fn f first caps ys zs h1 h2 h3 h4=>exact⟨zs,by rw[show ys= #[] from rE h1.symm],h2,h4⟩
 have hev:a1.eval (.tmp k)=.func (.func g) #[] zs:=by
  show a1.tmps.getD k undef=_;rw[pI,hu,hv]
  rfl
 have hr:(execOp a1.eval oD).run P w1=.ok (.defer {target:=.fn (.func g) zs,args:= #[]}) w1:=by
  unfold execOp;simp[hop,resolve,hcl,hca,hev,Deferred.ofValue]
 unfold Oper.wpIn;refine⟨λ_ _=>trivial,?_⟩;rw[show(fw none).round=none from J,Oper.semAt_none,hr,Oper.uponIn_defer,hdst];refine wpListIn_nil (Pu ht h1 h2 λt2 H2 w2 E2 a2 ⟨H3,hD,hlv⟩ h7 h8 h9 g2=>?_);have h9:a2.defers={target:=.fn (.func g) zs,args:= #[]}::a.defers:=h9.trans (by show _::a1.defers=_;rw[h3]);have gB:jN H.length w0 E0 H w2 E2 H2:=hg.trans ((g1.trans g2).iG tA);have hM:Marks w0.heap.size w2 a.defers:=hs.defers.grow hs.heap (g1.trans g2);show LeavesInM (fw none) 0 P fn a2.tmps _ a2.defers .returning w2;rw[h9];refine⟨aj,.inr ⟨λh=>aR,.func g,zs,g,zs,rfl,?_,λ_ _=>trivial,?_⟩⟩
 ·unfold qp at hcb;split at hcb
  rotate_left
  ·cases hcb
  rename_i fng hfn;simp only[gA,pJ]at hcb;have hname : fng.name ≠ "runtime.NumGoroutine" := by simpa using hcb.1
  have hbody:fng.body≠none:=bE
  simp[invoke,callFunc,hfn,hname,hbody]
 have e2:LL E2 caps zs.toList:=⟨aq h5,λi c y e1 e2=>(h6 i c y e1 uY).mono g2.le⟩;refine(hD .returning w2 E2 zs h7 e2).mono ?_;rintro e u' w3 ⟨rfl,v,E3,rfl,h10,g3⟩;have hb:H.length<=H2.length:=by have:=hs.base;have:=(g1.trans g2).le.n;rw[hs.heap.n,h7.n]at this;omega
 have hs3:x8 H.length w0.heap.size w3 E3 ⟨t2,H3⟩ {a2 with defers:=a.defers}:=⟨h10,h8.mono g3.le,hM.grow h7 g3,by have:=g3.le.n;rw[h7.n,h10.n]at this;exact pA hb this⟩;exact Jk hh hs3 (gB.trans (g3.iG (by rw[h7.n];exact hb))) hlv
def qI.ZW{f:FuncId}{fn:Func}{c:Code}{H:zm}{args:List C}{R:C->zm->Prop}(hf:P.funcs[f]?=some fn)(hb:fn.body=some c)(h:oP P fn H c ⟨entry fn args,H⟩ R):qI P f H args R:=λw E vs hh hl=>
 (callsIn_wide (n:=0)).1 (callsIn_of_wp_marks hf hb trivial (h w E w E _ hh ⟨hh,IB hl,gC _,gC _⟩ (jN.refl H.length w E H)))
def B9.zL{f:FuncId}{fn:Func}{c:Code}{H H':zm}{args:List C}(hf:P.funcs[f]?=some fn)(hb:fn.body=some c)
 (h:wpA P H.length c (entry fn args) H λex t1 H1=>(ex=.ret\/ex=.normal)/\∃s2 r,zq H.length ⟨t1,H1⟩ s2/\kB P fn s2=some r/\s2.H=H'):B9 P f H args H':=
 .o7 hf hb ((jG h).mono λex s1 h1=>h1)
def oP.Ku{fn:Func}{H Hs:zm}{x y:Code}{t:List C}{R:C->zm->Prop}(h:wpA P H.length x t Hs λex t1 H1=>(ex=.normal/\∃t2 H2,zq H.length ⟨t1,H1⟩ ⟨t2,H2⟩/\oP P fn H y ⟨t2,H2⟩ R)\/(ex=.ret/\Er P fn H R ⟨t1,H1⟩)):oP P fn H (.seq x y) ⟨t,Hs⟩ R:=
 .seq ((jG h).mono λex s1 h1=>h1.imp (λ⟨e,t2,H2,hw,hr⟩=>⟨e,_,hw,hr⟩) id)
end
def Ak(H:zm)(id:Nat):zm:=H.modify id λ_=>⟨0,0,0,[],0⟩
def wN(H:zm)(id j:Nat):(Ak H id)[j]?=(H[j]?).map λob=>if id=j then ⟨0,0,0,[],0⟩ else ob:=by
 unfold Ak;rw[pL]
 rfl
def w8{H:zm}{id:Nat}{id':Nat}{p:List fT}{x:Nat×List (List C)}(h:qf (Ak H id) id' p=some x):id'≠id/\qf H id' p=some x:=by
 obtain⟨ob,ho,hk,hg⟩:=jo h;rw[wN]at ho;cases hx:H[id']? with
 |none=>rw[hx]at ho;cases ho
 |some ob0=>
  rw[hx]at ho;simp only[gF,gQ]at ho;by_cases hid:id=id'
  ·subst hid;simp at ho;subst ho;simp at hk
  ·rw[dZ hid]at ho;subst ho;refine⟨Ne.symm hid,?_⟩;unfold qf;rw[hx];simp only[hk,if_true];exact hg
def ql.gone{w:World}{E:Env}{H:zm}(h:ql w E H)(id:Nat):ql w E (Ak H id) where
 n:=by rw[h.n];simp[Ak]
 fD id' ob p sz rows hob hx:=by
  obtain⟨h1,h2⟩:=w8 hx;rw[wN]at hob;cases hx':H[id']? with
  |none=>rw[hx']at hob;cases hob
  |some ob0=>
   rw[hx']at hob;simp only[gF,gQ,dZ (Ne.symm h1)]at hob;subst hob;exact h.fD id' _ p sz rows hx' h2
 inj id1 p1 id2 p2 x y hx hy he:=h.inj id1 p1 id2 p2 x y (w8 hx).2 (w8 hy).2 he
 qz:=h.qz
 sep id' p x o u hx hu:=by
  obtain⟨h1,h2⟩:=w8 hx;obtain⟨e1,ob,e2,e3⟩:=h.sep id' p x o u h2 hu;refine⟨e1,ob,?_,e3⟩;rw[wN,e2];simp[Ne.symm h1]
 ty id' ob hob hk:=by
  rw[wN]at hob;cases hx':H[id']? with
  |none=>rw[hx']at hob;cases hob
  |some ob0=>
   rw[hx']at hob;simp only[gF,gQ]at hob;by_cases hid:id=id'
   ·rw[gh hid]at hob;subst hob;simp at hk
   ·rw[dZ hid]at hob;subst hob;exact h.ty id' _ hx' hk
 fz id' ob hob:=by
  rw[wN]at hob;cases hx':H[id']? with
  |none=>rw[hx']at hob;cases hob
  |some ob0=>
   rw[hx']at hob;simp only[gF,gQ]at hob;have h0:=h.fz id' ob0 hx';subst hob;split
   ·simp
   ·exact h0
def kn{H:zm}{id i:Nat}{ob:Ob}(h:(Ak H id)[i]?=some ob)(hk:ob.kind=4):H[i]?=some ob:=by
 rw[wN]at h;cases hx:H[i]? with
 |none=>rw[hx]at h;cases h
 |some o=>
  rw[hx]at h;simp only[gF,gQ]at h;split at h
  ·subst h;cases hk
  ·rw[h]
def zq.gone{B:Nat}{s:S}(id:Nat):zq B s ⟨s.tmps,Ak s.H id⟩:=λm w E a hs=>by
 have hg:∀{i b},qL E (Ak s.H id) i b->qL E s.H i b:=λ⟨ob,cap,h1,h2,h3,h4⟩=>⟨ob,cap,kn h1 h2,h2,h3,h4⟩
 have hr:∀{i b},jM (Ak s.H id) i b->jM s.H i b:=λ⟨ob,o,t,h1,h2,h3,h4⟩=>⟨ob,o,t,kn h1 h2,h2,h3,h4⟩
 have h0:∀{b},jk E (Ak s.H id) b->jk E s.H b:=λ⟨i,p,x,h1,h2⟩=>⟨i,p,x,(w8 h1).2,h2⟩
 refine⟨E,⟨⟨hs.heap.base.gone id,?_⟩,hs.tmps,hs.defers,by have:=hs.base;simp[Ak];omega⟩,⟨Env.oX.refl B E,rfl,rfl,rfl,gC _,λ_ _ _=>J,λ_ _ _ h=>.inl h,?_⟩⟩
 ·exact {
   val:=λi ob h1 h2=>hs.heap.fm.val i ob (kn h1 h2) h2
   fD:=λi b ob h1 h2=>hs.heap.fm.fD i b ob (hg h1) (by obtain⟨ob2,_,h3,h4,_⟩:=h1;rw[h2]at h3;cases h3;exact kn h2 h4)
   sep:=λi b h1 h2=>hs.heap.fm.sep i b (hg h1) (h0 h2)
   inj:=λi j b h1 h2=>hs.heap.fm.inj i j b (hg h1) (hg h2)
   st:=λi b ob o u h1 h2 h3=>hs.heap.fm.st i b ob o u (hg h1) (by obtain⟨ob2,_,h4,h5,_⟩:=h1;rw[h2]at h4;cases h4;exact kn h2 h5) h3
   top:=λi ob k u h1 h2 h3=>hs.heap.fm.top i ob k u (kn h1 h2) h2 h3
   iD:=λi ob o t h1 h2 h3=>hs.heap.fm.iD i ob o t (kn h1 h2) h2 h3
   lb:=λi j b h1 h2=>hs.heap.fm.lb i j b (hr h1) (hr h2)}
 ·rintro b (hb|⟨i,hb|hb⟩)
  ·exact .inr (.inl (h0 hb))
  ·exact .inr (.inr ⟨i,.inl (hg hb)⟩)
  ·exact .inr (.inr ⟨i,.inr (hr hb)⟩)
def qI.zzb{P:Program}{f:FuncId}{H H2:zm}{args:List C}{r:C}(hle:H.length<=H2.length)(h1:qI P f H args λr1 H1=>zq H.length ⟨[r1],H1⟩ ⟨[r],H2⟩):zb P f H args r H2:=λw E vs hh hl0=>by
 refine(h1 w E vs hh hl0).mono ?_;rintro e w' ⟨r1,H1,v,E',hw,h0,h2,h3,g⟩;have hHH:H.length<=H1.length:=bT
 obtain⟨E2,hs,g2⟩:=hw 0 w' E' ⟨#[v],[]⟩ ⟨h2,LL.one h3,gV _,hHH⟩;have hn2:=hs.heap.n;refine⟨v,E2,h0,hs.heap,hs.tmps.cons_inv.1,⟨⟨by rw[hh.n,hn2];exact hle,λid hops hi=>?_,λid hops hi=>?_,λb o u hu=>g2.le.St _ _ _ (g.le.St _ _ _ hu),λid k u hi hu=>?_⟩,g2.os.trans g.os,g2.tape.trans g.tape,g2.output.trans g.output,pA g.size g2.size,?_,?_,?_⟩⟩
 ·rw[hh.n]at hi;exact(g2.le.β id hops hi).trans (g.le.β id hops tO)
 ·rw[hh.n]at hi;exact(g2.le.κ id hops hi).trans (g.le.κ id hops tO)
 ·rw[hh.n]at hi;exact g2.le.G id k u hi (g.le.G id k u tO hu)
 ·intro k hk ho;exact da
 ·intro b o u hu;rcases g2.jX b o u hu with h1|h1|h1
  ·exact g.jX b o u h1
  ·exact .inr (.inl (pA g.size h1))
  ·rcases g.own b h1 with h4|h4
   ·exact .inr (.inl h4)
   ·exact .inr (.inr h4)
 ·intro b hb;rcases g2.own b hb with h1|h1
  ·exact .inl (pA g.size h1)
  ·exact g.own b h1
end Go.Ab
namespace Go.Wor
open Go.Ab Go.Proofs Tryz Go.Hy Go.Gat Go.Nam Go.Hos Go.Con Go.Sna
def E7{c:ia}(h:wV c):AA (jJ c).1:=by
 unfold jJ;split
 ·exact⟨aj,aj,aj⟩
 ·refine⟨h.ze,⟨aq h.zM.1,λr hr=>?_⟩,h.zn⟩;simp only[gR]at hr;obtain⟨q,hq,rfl⟩:=hr;exact⟨(h.zM.2 q hq).2.1,(h.zM.2 q hq).2.2.1⟩
def Ag(c:ia):Int:=if (jJ c).2.1≠0 then (jJ c).2.1 else (qV (jJ c).1).2
def nU(c:ia):fp:=(qV (jJ c).1).1
def zyU(l:List fp):((l.map zH).all λx=>x.all zx)=true:=by
 rw[gz];intro r hr;obtain⟨x,_,rfl⟩:=gR.1 hr
 rfl
abbrev DE(m:fi)(was now:Int):fi:={m with version:=was,zg:=0,end_:=0,other:=0,slot:=0,i:=now,pc:=1}
def RA(w:Wor)(v:fp)(hn:w.zd.length<1000000000):tj 157 [⟨1,38,8,[[I w.zl,I w.current,I w.lock,lI w.pins,.sl 1 [] 5 0 (w.zd.length) false,lL w.ze,fU w.counts,lR w.zp]],0⟩,⟨2,69,5,(w.zd).map zH,0⟩] [Cv v,.ref 0 [] 8 0 0] (.fq [I w.current,I w.zd.length]) [⟨1,38,8,[[I w.zl,I w.zd.length,I w.lock,lI w.pins,.sl 2 [] 5 0 ((w.zd.length+1)) false,lL w.ze,fU w.counts,lR w.zp]],0⟩,⟨0,0,0,[],0⟩,⟨2,69,5,(w.zd++[v]).map zH,0⟩]:=by
 have hap:(Ob.mk 2 69 5 (w.zd.map zH) 0).rows++[zH v]=(w.zd++[v]).map zH:=bd
 refine qk (fn:=f157) func157 J aj (uH ?_);refine uE ?_;refine⟨aj,zyU _,ay,by show _*104<=_;simp;omega,dd ?_⟩;refine⟨.inl J,_,_,zq.gone 1,rfl,?_⟩;rw[<-hap];exact zq.fx [0,1,3] [0] _ _ J J J J
def SU(w:Wor)(m:fi)(c:Int)(hc:wV m.op.config)(he:Ag m.op.config=0)(hn:w.zd.length<1000000000):
  tj 156 [oM m,⟨1,38,8,[[I w.zl,I w.current,I w.lock,lI w.pins,.sl 2 [] 5 0 (w.zd.length) false,lL w.ze,fU w.counts,lR w.zp]],0⟩,⟨2,69,5,(w.zd).map zH,0⟩] [.ref 0 [] 44 0 0,.fn 157 [] [.ref 1 [] 8 0 0],I c] (Ce {fK m 6 3 w.zd.length with qY:=true}) [oM (DE m w.current w.zd.length),⟨1,38,8,[[I w.zl,I w.zd.length,I w.lock,lI w.pins,.sl 3 [] 5 0 ((w.zd.length+1)) false,lL w.ze,fU w.counts,lR w.zp]],0⟩,⟨0,0,0,[],0⟩,⟨2,69,5,(w.zd++[nU m.op.config]).map zH,0⟩]:=by
 have hb:=HG m.op.config hc.k;have hl:=LF _ (E7 hc)
 have h1:(jJ m.op.config).2.1=0:=by
  unfold Ag at he;split at he
  ·contradiction
  ·rename_i hx;omega
 have h2:(qV (jJ m.op.config).1).2=0:=by
  unfold Ag at he
  rwa [dZ aw]at he
 unfold nU;generalize jJ m.op.config=bv at hb hl h1 h2 ⊢;obtain⟨sn,e1,e2⟩:=bv;cases h1
 have hl:tj 85 [] [Cs sn] (tV (qV sn)) []:=hl;have h2:(qV sn).2=0:=h2;show tj 156 _ _ _ [_,_,_,⟨2,69,5,(w.zd++[(qV sn).1]).map zH,0⟩];generalize qV sn=cv at hl h2 ⊢;obtain⟨v,e3⟩:=cv;cases h2
 have hb:tj 56 [] [Cf m.op.config] (.fq [Cs sn,I 0,I e2]) []:=hb;have hl:tj 85 [] [Cs sn] (.fq [Cv v,I 0]) []:=hl;refine qk (fn:=f156) func156 J aj (uH ?_);refine ah hb ?_;(refine ya (dd ?_))
 refine ah hl ?_;(refine ya (dd ?_))
 refine af [1,2] (RA w v hn) ?_;refine .inl ⟨⟨false,[0,1,2,3,4,5,6],[3],[]⟩,au,uH ?_⟩;refine hU ?_
 refine af [0] (DR (DE m w.current w.zd.length) 6 3 w.zd.length) ?_;exact⟨.inl J,_,_,.refl _,rfl,zq.fx [0,1,2,8] [0] _ _ J J J J⟩
abbrev BC(f:Int):fA:=⟨9,0,0,0,0,0,f,⟨0,0,0,0,0,0⟩⟩
def Ue(m:fi)(e:fk)(f:Int):B9 prog 208 [oM m,⟨1,243,1,[[.ref 0 [] 44 0 0]],0⟩,oE e,⟨1,66,3,[encS ⟨[],[],[]⟩],0⟩,⟨1,39,1,[[I f]],0⟩] [.ref 1 [] 1 0 0,.ref 2 [] 23 0 0,.ref 4 [] 1 0 0] [oM ({m with done:=true,answer:=BC f}),⟨1,243,1,[[.ref 0 [] 44 0 0]],0⟩,oE ({e with done:=true,answer:=BC f}),⟨1,66,3,[encS ⟨[],[],[]⟩],0⟩,⟨1,39,1,[[I f]],0⟩]:=by
 refine B9.zL (fn:=f208) func208 J (uH ?_);exact⟨.inr J,_,_,.refl _,rfl,rfl⟩
def Rk(m:fi)(c f:Int)(hc:ye m.op.config)(hf:(jJ m.op.config).2.1=f)(h0:f≠0):
  tj 156 [oM m] [.ref 0 [] 44 0 0,.fn 157 [] [.za],I c] (Ce {fK m 1 3 c with qY:=true,done:=true,answer:=BC f}) [oM ({m with done:=true,answer:=BC f})]:=by
 have hb:=HG m.op.config hc
 have h2:(jJ m.op.config).1=⟨[],[],[]⟩:=by
  unfold jJ at hf ⊢;split
  ·rfl
  ·rename_i h;rw[dZ h]at hf;exact absurd hf.symm h0
 generalize jJ m.op.config=bv at hb hf h2;obtain⟨sn,e1,e2⟩:=bv;cases hf
 cases h2
 have hb:tj 56 [] [Cf m.op.config] (.fq [Cs ⟨[],[],[]⟩,I e1,I e2]) []:=hb;refine qI.zzb (gC _) (qI.ZW (fn:=f156) func156 J (.Ku ?_));conv=>whnf
 refine .inl ⟨rfl,_,_,.refl _,.Ku (uH ?_)⟩;refine ah hb ?_;refine .inl ⟨rfl,_,_,.refl _,.Ku (uH ?_)⟩;refine⟨λh=>absurd h (aq h0),λ_=>dd ?_⟩;refine .inl ⟨rfl,_,_,.refl _,?_⟩;refine oP.deferred (g:=208) (regs:=Pl (behind 4 ((f156.body).getD .skip))) J J J J J J (uH ?_);refine⟨_,rfl,uH ?_⟩;refine af [0] (DR m 1 3 c) ?_;refine⟨_,Ue m {fK m 1 3 c with qY:=true} e1,?_⟩;exact⟨_,_,.refl _,rfl,cE 1⟩
def RU(w:Wor)(h:jd w):tj 152 [] [Cw w] (.agg (iZ w 0)) [⟨2,69,5,(w.zd).map zH,0⟩]:=by
 refine Cg (fn:=f152) func152 J (uH ?_);refine ah (vF w.pins h.pins) ?_;refine af [] (BE w.zd h.zd.1 λv hv=>jT v (h.zd.2 v hv)) ?_;refine ah (kO w.ze h.ze) ?_;refine af [] (BD w.counts h.counts.1 λr hr=>yp r (h.counts.2 r hr)) ?_;refine ah (CN w.zp h.zp) ?_;refine⟨.inl J,_,_,zq.zV 1 0 6 J J J J (.inr J) J aj (shut_map (enc:=zN) (λ_=>J) w.counts) (qa J),rfl,?_⟩;exact zq.fx [3] [0] _ _ J J J (zc J (zc J (zc J (zc J (zc (zj λr hr c hc=>((shut_map (enc:=zN) (λ_=>J) w.counts) r hr c hc).2) J)))))
def S1(w:Wor)(m:fi)(sw:jd w)(ok:ir w)(hl:i64 m.listen)(hpc:m.pc=0)(hs:qd w m=true)(hc:wV m.op.config)(he:Ag m.op.config=0):
  tj 128 [] [Cw w,Cm m] (.fq [Cw {w with current:=w.zd.length,zd:=w.zd++[nU m.op.config]},Cm (DE m w.current w.zd.length),Ce {fK m 6 3 w.zd.length with qY:=true}]) []:=by
 refine ab func128 ?_;(repeat (first|refine uA ?_|refine uB ?_))
 refine ah (zP w m ok hl) ?_;refine⟨λ_=>dd ?_,λh=>absurd ((hs).symm.trans h:true=false) ar⟩;(repeat (first|refine uA ?_|refine uB ?_))
 refine hZ ?_
 refine af [] (RU w sw) ?_;(repeat (first|refine uA ?_|refine uB ?_))
 refine af [1,6,5] (SU w m w.current hc he sw.zd.1) ?_;refine .inl ⟨⟨false,[0,1,2],[6,1,8],[]⟩,au,uH ?_⟩;refine hU ?_
 exact⟨.inl J,_,zq.zV 2 0 4 J J J J (.inr J) aj aj (shut_map (enc:=zH) (λ_=>J) _) (qa J),rfl⟩
def RD(w:Wor)(m:fi)(f:Int)(sw:jd w)(ok:ir w)(hl:i64 m.listen)(hpc:m.pc=0)(hs:qd w m=true)(hc:ye m.op.config)(hf:(jJ m.op.config).2.1=f)(h0:f≠0):
  tj 128 [] [Cw w,Cm m] (.fq [Cw w,Cm {m with done:=true,answer:=BC f},Ce {fK m 1 3 w.current with qY:=true,done:=true,answer:=BC f}]) []:=by
 refine ab func128 ?_;(repeat (first|refine uA ?_|refine uB ?_))
 refine ah (zP w m ok hl) ?_;refine⟨λ_=>dd ?_,λh=>absurd ((hs).symm.trans h:true=false) ar⟩;(repeat (first|refine uA ?_|refine uB ?_))
 refine hZ ?_
 refine ah (qC w sw) ?_;(repeat (first|refine uA ?_|refine uB ?_))
 refine af [1] (Rk m w.current f hc hf h0) ?_;refine .inl ⟨⟨false,[0,1,2],[5,1,6],[]⟩,au,uH ?_⟩;refine hU ?_
 exact uI
end Go.Wor
