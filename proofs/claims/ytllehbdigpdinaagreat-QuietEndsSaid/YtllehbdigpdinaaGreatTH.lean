import Derived.RangeFuncLeaves
import Derived.Test.YtllehbdigpdinaaGreatTW
import Derived.Test.YtllehbdigpdinaaGreatTJ
import Derived.Test.YtllehbdigpdinaaGreatTV
set_option linter.all false
set_option maxRecDepth 100000
set_option maxHeartbeats 4000000
namespace Go.Wor
open Go.Ab Go.Proofs Tryz Go.Hy Go.Gat Go.Nam Go.Hos Go.Con Go.Sna
def nJ(w:Wor)(m:fD):Bool:=w.zm.any (λr=>r.version == m.version) || (m.version == w.current) || decide (m.zl<0) || decide (w.zl<m.zl)
def Fz(m:fD)(a b c:Int):tj 169 [oM m] [.ref 0 [] 44 0 0,I a,I b,I c] (Ce (fX m a b c)) [oM m]:=by
 refine aa func169 ?_;refine hU ?_;exact dO
def Xv(w:Wor)(m:fD)(r:fS):tj 218 [oW w,oM m] [.agg (xz r),.ref 1 [] 44 0 0] (Bo (r.version == m.version)) [oW w,oM m]:=by
 refine aa func218 ?_;refine⟨λh=>?_,λh=>?_⟩ <;> rw[h]
 .refine dd ?_;exact df
 .refine dd ?_;exact df
def Pg(w:Wor)(m:fD)(ok:iw w):tj 166 [] [Cw w,Cm m] (Bo (nJ w m)) []:=by
 have hl:=ok.zm;refine ab func166 ?_;refine⟨_,_,Go.Lim.QB (λr=>r.version == m.version) V (λr=>Xv w m r) aw,dd ?_⟩;refine⟨λq1=>?_,λq1=>?_⟩
 .refine zad ?_
  (exact⟨.inl V,_,.refl _,uN (by simp only[nJ,q1,fk])⟩)
 refine zad ?_
 refine⟨λq2=>?_,λq2=>?_⟩
 .refine zad ?_
  (exact⟨.inl V,_,.refl _,uN (by simp only[nJ,q1,q2,fk,ur])⟩)
 refine zad ?_
 refine⟨λq3=>?_,λq3=>?_⟩
 .refine zad ?_
  (exact⟨.inl V,_,.refl _,uN (by simp only[nJ,q1,q2,q3,fk,ur])⟩)
 refine zad ?_
 refine⟨λq4=>?_,λq4=>?_⟩
 .refine zad ?_
  (exact⟨.inl V,_,.refl _,uN (by have q5:decide (w.zl<m.zl)=true:=q4;simp only[nJ,q5,ur])⟩)
 .refine zad ?_
  (exact⟨.inl V,_,.refl _,uN (by have q5:decide (w.zl<m.zl)=false:=q4;simp only[nJ,q1,q2,q3,q5,Bool.or_false])⟩)
def XW(w:Wor)(m:fD)(sw:jg w)(ok:iw w)(hl:i64 m.listen)(hpc:m.pc=1)(hs:z8 w m=true):
  tj 135 [] [Cw w,Cm m] (.fJ [Cw w,Cm {m with zl:=w.zl,pc:=2},Ce (fX m 1 1 w.zl)]) []:=by
 refine ab func135 ?_;refine zac ?_
 refine zbh ?_
 refine hZ ?_
 refine ah (qE w sw) ?_;refine zac ?_
 refine .inl ⟨⟨true,[0,1,3],[0,1,5],[4]⟩,au,uH ?_⟩;refine hU ?_
 refine af [1] (Fz {m with zl:=w.zl,pc:=2} 1 1 w.zl) ?_;refine hU ?_
 exact uI
def WG(w:Wor)(h:jg w)(x:fS)(l:List fS)(hx:w.zm=x::l):tj 162 [] [Cw w] (.agg [I w.zl,I w.current,I w.lock,lI w.pins,lV w.ze,lL w.zc,iG w.counts,.sl 0 [] 3 0 w.zm.length false]) [⟨2,142,3,(w.zm).map xz,0⟩]:=by
 have hl:l.length<1000000000:=by have:=h.zm;rw[hx]at this;exact dc
 have hc:=Ra x l hl;rw[<-hx]at hc;refine zaQ ?_;refine zao ?_;refine af [] (hc) ?_;refine zaH ?_;exact zp.fL [5] [0] _ _ V V V (zd V (zd V (zd V (zd (zi λr hr c hc=>((shut_map (enc:=zM) (λ_=>V) w.ze) r hr c hc).2) (zd (zi λr hr c hc=>((shut_map (enc:=zQ) (λ_=>V) w.counts) r hr c hc).2) V)))))
def T4:tj 216 [] [lR []] (.fF 1 3 []) []:=by
 refine ab func216 ?_;refine⟨?_,?_⟩
 .refine dd ?_;exact⟨.inl V,_,zp.cell 2 V (WC.none 1 0 3),rfl⟩
 .refine dd ?_;refine .inr ⟨rfl,dd ?_⟩;exact uI
def WE(w:Wor)(h:jg w)(hx:w.zm=[]):tj 162 [] [Cw w] (.agg [I w.zl,I w.current,I w.lock,lI w.pins,lV w.ze,lL w.zc,iG w.counts,.fF 1 3 []]) []:=by
 have hc:=T4;rw[<-hx]at hc;refine ab func162 ?_;refine ah (ki w.pins h.pins) ?_;refine zao ?_;refine ah hc ?_;exact⟨.inl V,_,(zp.zV 1 0 4 V V V V (.inr V) V aj (shut_map (enc:=zM) (λ_=>V) w.ze) (qa V)).trans (zp.zV 1 0 6 V V V V (.inr V) V aj (shut_map (enc:=zQ) (λ_=>V) w.counts) (qa V)),rfl⟩
def Vn(l:List fS):((l.map xz).all λx=>x.all zB)=true:=by
 rw[gE];intro r hr;obtain⟨x,_,rfl⟩:=gY.1 hr
 rfl
abbrev C1(m:fD):fN:=⟨8,m.i,0,0,0,0,0,⟨0,0,0,0,0,0⟩⟩
def XX(w:Wor)(m:fD)(x:fS)(l:List fS)(sw:jg w)(ok:iw w)(hl:i64 m.listen)(hpc:m.pc=2)(hs:z8 w m=true)(hla:nJ w m=false)(hx:w.zm=x::l):
  tj 135 [] [Cw w,Cm m] (.fJ [Cw {w with zm:=w.zm++[⟨m.version,m.zl,false⟩]},Cm {m with done:=true,answer:=C1 m},Ce {fX m 2 11 m.version with done:=true,answer:=C1 m}]) []:=by
 have hn:=sw.zm;have hap:(Ob.mk 2 142 3 (w.zm.map xz) 0).rows++[[I m.version,I m.zl,Bo false]]=(w.zm++[(⟨m.version,m.zl,false⟩:fS)]).map xz:=bm
 refine ab func135 ?_;refine zac ?_
 refine zbh ?_
 refine hZ ?_
 refine ah (Pg w m ok) ?_;refine⟨λh=>absurd ((hla).symm.trans h:false=true) ar,λ_=>dd ?_⟩;refine hZ ?_
 refine af [] (WG w sw x l hx) ?_;refine zac ?_
 refine⟨aj,Vn _,ay,by show _*24<=_;simp;omega,dd ?_⟩;refine af [1] (Fz m 2 11 m.version) ?_;refine za1 ?_
 rw[hap];refine .inl ⟨⟨false,[0,1,2],[1,6,8],[]⟩,au,uH ?_⟩;refine hU ?_
 exact⟨.inl V,_,zp.zV 2 0 7 V V V V (.inr V) aj aj (shut_map (enc:=xz) (λ_=>V) _) (qa V),rfl⟩
def W2(w:Wor)(m:fD)(sw:jg w)(ok:iw w)(hl:i64 m.listen)(hpc:m.pc=2)(hs:z8 w m=true)(hla:nJ w m=false)(hx:w.zm=[]):
  tj 135 [] [Cw w,Cm m] (.fJ [Cw {w with zm:=w.zm++[⟨m.version,m.zl,false⟩]},Cm {m with done:=true,answer:=C1 m},Ce {fX m 2 11 m.version with done:=true,answer:=C1 m}]) []:=by
 refine ab func135 ?_;refine zac ?_
 refine zbh ?_
 refine hZ ?_
 refine ah (Pg w m ok) ?_;refine⟨λh=>absurd ((hla).symm.trans h:false=true) ar,λ_=>dd ?_⟩;refine hZ ?_
 refine ah (WE w sw hx) ?_;refine zac ?_
 refine .inr ⟨.inl V,ar,ar,dd ?_⟩;refine af [1] (Fz m 2 11 m.version) ?_;refine za1 ?_
 refine .inl ⟨⟨false,[0,1,2],[1,5,7],[]⟩,au,uH ?_⟩;refine hU ?_
 rw[hx];exact⟨.inl V,_,zp.zV 2 0 7 V V V V (.inr V) aj aj (shut_map (enc:=xz) (λ_=>V) [(⟨m.version,m.zl,false⟩:fS)]) (qa V),rfl⟩
end Go.Wor
namespace Go.Ab
variable{t args:List C}{H:zn}{R:C->zn->Prop}{w:World}{E:Env}{a:Act}{f:FuncId}{fn:Func}{c:Code}
section
variable {P:Program}
def TW{o:Oper}(h:jK P o (ev t) H R)(q:Option Nat){K:Act->World->Prop}{Q:Exit->Act->World->Prop}
 (hh:qC w E H)(hl:LL E t a.tmps.toList)
 (hk:∀c H' w' E' a',R c H'->qC w' E' H'->LL E' (put t o.dst c) a'.tmps.toList->a'.defers=a.defers->Grow w E H w' E' H'->K a' w'):o.wpIn (fw q) 0 P a w K Q:=by
 have:=h w E a.eval hh (λx _=>Gz hl x) (λ_=>V) (λv w'=>K (a.put o.dst v) w') λc H' v w' E' hR h1 h2 g=>
  hk c H' w' E' _ hR h1 (IA (hl.mono g.le) h2 o.dst) (by cases o.dst <;> rfl) g
 have iL:∀d,o.op≠.defer d:=λd hd=>by
  have h2:=this;unfold execOp at h2;simp only[hd,Sem.run_bind]at h2;cases hr:(resolve a.eval d o.type).run P w with
  |ok x w1=>simp[hr,Result.andThen,oQ]at h2
  |halt x w1=>simp[hr,Result.andThen,oQ]at h2
 unfold Oper.wpIn;refine⟨λ_ _=>trivial,?_⟩;rw[Oper.semAt_eq _ _ _ iL];generalize (execOp a.eval o).run P w=r at this|-;unfold oQ at this;split at this
 .exact dG
 .exact dG
 .rw[Oper.uponIn_enter];refine⟨λh=>aR,callsIn_wide.2 (Calls.mono this ?_)⟩;rintro e w' ⟨v,rfl,hv⟩;exact hv
 .rw[Oper.uponIn_round];refine⟨λh=>aR,RoundIn.mono (F:=fw q) this ?_⟩;rintro e w' ⟨v,rfl,hv⟩;exact hv
 .exact this.elim
def I3{ops:Array Oper}{rest:List Oper}:∀{l:List Oper} {t:List C} {H:zn} {K:List C->zn->Prop},mM P ops l t H K->∀(q:Option Nat) {w:World} {E:Env} {a:Act} {Q:Exit->Act->World->Prop},qC w E H->LL E t a.tmps.toList->
  (∀t' H' w' E' a',K t' H'->qC w' E' H'->LL E' t' a'.tmps.toList->a'.defers=a.defers->Grow w E H w' E' H'->wpListIn (fw q) 0 P ops Q rest a' w')->wpListIn (fw q) 0 P ops Q (l++rest) a w
 |[],t,H,K,h,q,w,E,a,Q,hh,hl,hk=>hk t H w E a h hh hl V (Grow.refl w E H)
 |o::l,t,H,K,h,q,w,E,a,Q,hh,hl,hk=>by
  rw[Ku]at h;unfold Fi at h;show wpListIn (fw q) 0 P ops Q (o::(l++rest)) a w;unfold wpListIn;split at h
  .rename_i hw;rw[gz (j6 hl hw)];refine TW (HN h) q hh hl λc H' w' E' a' hR h1 h2 h3 g=>?_
   exact I3 (jG (k:=λt=>mM P ops l t H' K) hR) q h1 h2 λt2 H2 w2 E2 a2 hK h4 h5 h6 g2=>hk t2 H2 w2 E2 a2 hK h4 h5 (h6.trans h3) (g.trans g2)
  .rename_i hw;rw[gp (by rw[j6 hl hw];decide)];refine⟨λ_ _=>trivial,?_⟩;exact I3 (jG (k:=λt=>mM P ops l t H K) h) q (a:=a.put o.dst undef) hh (IA hl (.un) o.dst) λt2 H2 w2 E2 a2 hK h4 h5 h6 g2=>hk t2 H2 w2 E2 a2 hK h4 h5 (h6.trans (by cases o.dst <;> rfl)) g2
  .exact c7
def I2:List (Nat×Array Oper)->Code
 |[]=>.ret
 |r::l=>.seq (.region r.1 r.2 false) (I2 l)
def SP:Code->List (Nat×Array Oper)
 |.seq (.region i ops false) y=>(i,ops)::SP y
 |_=>[]
def Mf(P:Program)(l:List (Nat×Array Oper)):List C->zn->(List C->zn->Prop)->Prop:=
 List.rec (motive:=λ_=>List C->zn->(List C->zn->Prop)->Prop) (λt H K=>K t H) (λr _ next t H K=>mM P r.2 r.2.toList t H λt H=>next t H K) l
def SN:∀{l:List (Nat×Array Oper)} {t:List C} {H:zn} {K:List C->zn->Prop},Mf P l t H K->∀{w:World} {E:Env} {a:Act} {Q:Exit->Act->World->Prop},qC w E H->LL E t a.tmps.toList->
  (∀t' H' w' E' a',K t' H'->qC w' E' H'->LL E' t' a'.tmps.toList->a'.defers=a.defers->Grow w E H w' E' H'->Q .ret a' w')->(I2 l).wpIn (fw none) 0 P Q a w
 |[],t,H,K,h,w,E,a,Q,hh,hl,hk=>wpIn_ret (hk t H w E a h hh hl V (Grow.refl w E H))
 |r::l,t,H,K,h,w,E,a,Q,hh,hl,hk=>by
  have h:mM P r.2 r.2.toList t H λt H=>Mf P l t H K:=h
  refine wpIn_seq (wpIn_region_list ?_);have:=I3 (rest:=[]) h none (Q:=Exit.then ((I2 l).wpIn (fw none) 0 P Q) Q) hh hl λt2 H2 w2 E2 a2 hK h1 h2 h3 g=>wpListIn_nil (SN hK h1 h2 λt3 H3 w3 E3 a3 hK3 h4 h5 h6 g2=>hk t3 H3 w3 E3 a3 hK3 h4 h5 (h6.trans h3) (g.trans g2))
  rwa [rA]at this
def O5{m:Nat}:∀{ds:List Deferred} {w:World} {fr:Frame} {cs:List Frame},Marks m w ds->fr.mode≠.run->fr.defers=ds->(fw none).room (cs.length+1+0)->
  ∃w',StepsIn (Machine.fenced P (fw none)) P (lone fr cs w) (lone {fr with defers:=[]} cs w')/\w'.os=w.os/\w'.tape=w.tape/\w'.output=w.output/\w'.heap.size=w.heap.size/\(∀k:Nat,k<m->w'.heap[k]?=w.heap[k]?)/\
   ∀(k:Nat) (o:Obj),w.heap[k]?=some o->(∀ds,o≠.deferred ds)->w'.heap[k]?=w.heap[k]?
 |[],w,fr,cs,_,hm,hd,hroom=>⟨w,by
   have:({fr with defers:=[]}:Frame)=fr:=by cases fr;cases hd;rfl
   rw[this];exact StepsIn.refl _,rfl,rfl,rfl,rfl,λ_ _=>V,λ_ _ _ _=>V⟩
 |d::ds,w,fr,cs,⟨⟨D,h1,h2,h3,h4⟩,ht⟩,hm,hd,hroom=>by
  have htar:d.target=.collected D:=by rw[h1]
  have hs:=step_collected (P:=P) (cs:=cs) hm hd htar (run_takeDeferred h3);have i1:(lone fr cs w).fenced P (fw none):=fenced_out (n:=0) trivial hroom hm hd (λg hg=>by rw[htar]at hg;simp[Target.leads]at hg);obtain⟨w',s1,a1,a2,a3,a4,a5,a6⟩:=O5 (fr:={fr with defers:=[]++ds}) (cs:=cs) (Marks.mono (w':=w.putObj D (.deferred none)) aj ht λD' hm hd=>World.putObj_heap_other (by rintro rfl;exact h4 hm)) hm V hroom;refine⟨w',.head i1 hs s1,a1,a2,a3,a4.trans World.putObj_size,λk hk=>(a5 k hk).trans (World.putObj_heap_other aw),λk o hc hd=>?_⟩;have hne:k≠D:=by rintro rfl;rw[h3]at hc;cases hc;exact hd _ V
  have e:=World.putObj_heap_other (w:=w) (o:=.deferred none) hne;exact(a6 k o (e.trans hc) hd).trans e
def Dn(P:Program)(f:FuncId)(H:zn)(args:List C)(H':zn):Prop:=
 ∀(u:FrameMode) (w:World) (E:Env) (vs:Array Value),qC w E H->LL E args vs.toList->
  CallsDIn (fw none) 0 P f vs u w λe u' w'=>u'=u/\∃v E',e=.returned v/\qC w' E' H'/\Grow w E H w' E' H'
def Dn.AP{H':zn}(hf:P.funcs[f]?=some fn)(hb:fn.body=some c)
 (hr:jb P H.length c ⟨entry fn args,H⟩ λex s1=>(ex=.ret\/ex=.normal)/\∃s2 r,zp H.length s1 s2/\wa P fn s2=some r/\s2.H=H'):Dn P f H args H':=λu w E vs hh hl=>by
 have hrun:=hr none w.heap.size w E {tmps:=vs++Array.replicate (fn.ntmps-vs.size) undef,defers:=[]} (λex a1 w1=>(ex=.ret\/ex=.normal)/\∃E' s2 r,wa P fn s2=some r/\s2.H=H'/\yi H.length w.heap.size w1 E' s2 a1/\jS H.length w E H w1 E' s2.H) (λ_=>V) ⟨hh,KS hl,gG _,gG _⟩ λex s1 w' E1 a' hR hs1 g1=>by
  obtain⟨hex,s',r,hw,hres,e⟩:=hR;obtain⟨E',hs,g2⟩:=hw _ w' E1 a' hs1;exact⟨hex,E',s',r,hres,e,hs,g1.trans g2⟩
 refine⟨trivial,λc₀ cs hu hroom=>?_⟩
 let b:Frame:={(default:Frame) with fn:=f,kind:=.deferred,roundOf:=none}
 have henter:Frame.enter P f vs .deferred=b.atR {tmps:=vs++Array.replicate (fn.ntmps-vs.size) undef,defers:=[]} [.code c]:=by
  simp[Frame.enter,Frame.atR,hf,hb,b]
 have hc:({c₀ with mode:=u}:Frame)=c₀:=by subst hu;rfl
 obtain⟨e,a',w',⟨hex,E',s2,r,hres,rfl,hs,g⟩,harr⟩:=hrun b [] (c₀::cs) V trivial hroom;rw[<-henter]at harr
 have out:∀(fr:Frame),fr.mode=.returning->fr.defers=a'.defers->fr.tmps=a'.tmps->fr.kind=.deferred->fr.fn=f->StepsIn (Machine.fenced P (fw none)) P (lone (Frame.enter P f vs .deferred) (c₀::cs) w) (lone fr (c₀::cs) w')->
   ∃e u' w' fr,(u'=u/\∃v E',e=.returned v/\qC w' E' s2.H/\Grow w E H w' E' s2.H)/\ComesIn (Machine.fenced P (fw none)) P (lone (Frame.enter P f vs .deferred) (c₀::cs) w) (lone fr ({c₀ with mode:=u'}::cs) w') e/\fr.kind=.deferred/\fr.fn=f/\fr.going P w' e:=λfr h1 h2 h3 h4 h5 hst=>by
  obtain⟨w2,st,a1,a2,a3,a4,a5,a6⟩:=O5 (P:=P) (cs:=c₀::cs) hs.defers (by rw[h1];simp) h2 hroom;have hs2:yi H.length w.heap.size w2 E' s2 {a' with defers:=[]}:=⟨hs.heap.cells a6,hs.tmps,bH,hs.base⟩;obtain⟨v,hv,_⟩:=Lg hs2 hres
  have hg:Grow w E H w2 E' s2.H:=⟨⟨bJ,λid hops hi=>g.le.β id hops tE,λid hops hi=>g.le.κ id hops tE,g.le.St,λid k u hi=>g.le.G id k u tE⟩,
   a1.trans g.os,a2.trans g.tape,a3.trans g.output,by rw[a4];exact g.size,λk hk ho=>(a5 k hk).trans (g.frame k hk ho),g.jZ,g.own⟩
  exact⟨.returned v,u,w2,{fr with defers:=[]},⟨rfl,v,E',rfl,hs2.heap,hg⟩,by rw[hc];exact StepsIn.trans hst st,h4,h5,h1,rfl,fn,by show P.funcs[fr.fn]?=_;rw[h5];exact hf,by show(results fn fr.tmps).run P w2=_;rw[h3];exact hv⟩
 rcases hex with rfl|rfl
 .obtain⟨todo,h0⟩:=harr.1 V;exact out _ V V V V V h0
 .exact out _ V V V V V (StepsIn.trans harr (.one (fenced_calm (n:=0) (fr:=b.atR a' []) trivial hroom V) (stepR_end V)))
def Fin(P:Program)(fn:Func)(w0:World)(E0:Env)(H:zn)(R:C->zn->Prop):Exit->Act->World->Prop:=
 bodyPostM (fw none) 0 P fn λe w'=>∃r H' v E',R r H'/\e=.returned v/\qC w' E' H'/\L E' r v/\Grow w0 E0 H w' E' H'
def AA(P:Program)(fn:Func)(H:zn)(c:Code)(s:S)(R:C->zn->Prop):Prop:=
 ∀(w0:World) (E0:Env) (w:World) (E:Env) (a:Act),qC w0 E0 H->yi H.length w0.heap.size w E s a->jS H.length w0 E0 H w E s.H->c.wpIn (fw none) 0 P (Fin P fn w0 E0 H R) a w
def Gf(P:Program)(fn:Func)(H:zn)(R:C->zn->Prop)(s1:S):Prop:=∃s2 r,zp H.length s1 s2/\wa P fn s2=some r/\R r s2.H
def Lo{w0:World}{E0:Env}{s1:S}(hh:qC w0 E0 H)(hs:yi H.length w0.heap.size w E s1 a)(hg:jS H.length w0 E0 H w E s1.H)(h:Gf P fn H R s1):
  LeavesInM (fw none) 0 P fn a.tmps (λe w'=>∃r H' v E',R r H'/\e=.returned v/\qC w' E' H'/\L E' r v/\Grow w0 E0 H w' E' H') a.defers .returning w:=by
 obtain⟨s',r,hw,hres,hRr⟩:=h;obtain⟨E',hs,g2⟩:=hw _ w E a hs;have g:=hg.trans g2;refine leaves hs.defers λw2 a1 a2 a3 a4 a5 a6=>?_
 have hs2:yi H.length w0.heap.size w2 E' s' {a with defers:=[]}:=⟨hs.heap.cells a6,hs.tmps,bH,hs.base⟩;obtain⟨v,h1,h2⟩:=Lg hs2 hres
 have hg:Grow w0 E0 H w2 E' s'.H:=⟨⟨bJ,λid hops hi=>g.le.β id hops tE,λid hops hi=>g.le.κ id hops tE,g.le.St,λid k u hi=>g.le.G id k u tE⟩,
  a1.trans g.os,a2.trans g.tape,a3.trans g.output,by rw[a4];exact g.size,λk hk ho=>(a5 k hk).trans (g.frame k hk ho),g.jZ,g.own⟩
 exact⟨v,h1,r,s'.H,v,E',hRr,rfl,hs2.heap,h2,hg⟩
def AA.AP{s:S}(h:jb P H.length c s λex s1=>(ex=.ret\/ex=.normal)/\Gf P fn H R s1):AA P fn H c s R:=λw0 E0 w E a hh hs hg=>
 h none w0.heap.size w E a _ (λ_=>V) hs λex s1 w' E1 a' ⟨hex,hl⟩ hs1 g1=>by
  have:=Lo hh hs1 (hg.trans g1) hl;rcases hex with rfl|rfl <;> exact dG
def AA.seq{fn:Func}{H:zn}{x y:Code}{s:S}{R:C->zn->Prop}(h:jb P H.length x s λex s1=>(ex=.normal/\∃s2,zp H.length s1 s2/\AA P fn H y s2 R)\/(ex=.ret/\Gf P fn H R s1)):AA P fn H (.seq x y) s R:=λw0 E0 w E a hh hs hg=>
 wpIn_seq (h none w0.heap.size w E a _ (λ_=>V) hs λex s1 w' E1 a' hR hs1 g1=>by
  rcases hR with⟨rfl,s2,hw,hy⟩|⟨rfl,hl⟩
  .obtain⟨E2,hs2,g2⟩:=hw _ w' E1 a' hs1;exact hy w0 E0 w' E2 a' hh hs2 ((hg.trans g1).trans g2)
  .exact Lo hh hs1 (hg.trans g1) hl)
def AA.deferred{i:Nat}{oM oD:Oper}{cl:Call}{k:Tmp}{g:FuncId}{Hs:zn}{regs:List (Nat×Array Oper)}
 (hop:oD.op=.defer cl)(hcl:cl.callee=.value (.tmp k))(hca:cl.args= #[])(hgu:oD.guard=none)(hdst:oD.dst=none)(hcb:qh P g=true)
 (h:mM P #[oM,oD] [oM] t Hs λt1 H1=>∃caps,t1[k]?=some (.fn g [] caps)/\Mf P regs t1 H1 λt2 H2=>∃H3,Dn P g H2 caps H3/\Gf P fn H R ⟨t2,H3⟩):
  AA P fn H (.seq (.region i #[oM,oD] false) (I2 regs)) ⟨t,Hs⟩ R:=λw0 E0 w E a hh hs hg=>by
 refine wpIn_seq (wpIn_region_list ?_);refine I3 (rest:=[oD]) h none hs.heap hs.tmps λt1 H1 w1 E1 a1 ⟨caps,hk,ht⟩ h1 h2 h3 g1=>?_
 unfold wpListIn;rw[gz (by unfold Region.wanted;rw[hgu])];obtain⟨u,hu,hL⟩:=h2.get hk;rw[pD]at hu
 obtain⟨zs,hv,h5,h6⟩:∃zs,u=.func (.func g) #[] zs/\caps.length=zs.size/\(∀(i:Nat) c y,caps[i]?=some c->zs[i]?=some y->L E1 c y):=by
  cases hL with
  |fn f first caps ys zs h1 h2 h3 h4=>exact⟨zs,by rw[show ys= #[] from rL h1.symm],h2,h4⟩
 have hev:a1.eval (.tmp k)=.func (.func g) #[] zs:=by
  show a1.tmps.getD k undef=_;rw[pO,hu,hv]
  rfl
 have hr:(execOp a1.eval oD).run P w1=.ok (.defer {target:=.fn (.func g) zs,args:= #[]}) w1:=by
  unfold execOp;simp[hop,resolve,hcl,hca,hev,Deferred.ofValue]
 unfold Oper.wpIn;refine⟨λ_ _=>trivial,?_⟩;rw[show(fw none).round=none from V,Oper.semAt_none,hr,Oper.uponIn_defer,hdst];refine wpListIn_nil (SN ht h1 h2 λt2 H2 w2 E2 a2 ⟨H3,hD,hlv⟩ h7 h8 h9 g2=>?_);have h9:a2.defers={target:=.fn (.func g) zs,args:= #[]}::a.defers:=h9.trans (by show _::a1.defers=_;rw[h3]);have gB:jS H.length w0 E0 H w2 E2 H2:=hg.trans ((g1.trans g2).iX tB);have hM:Marks w0.heap.size w2 a.defers:=hs.defers.grow hs.heap (g1.trans g2);show LeavesInM (fw none) 0 P fn a2.tmps _ a2.defers .returning w2;rw[h9];refine⟨aj,.inr ⟨λh=>aR,.func g,zs,g,zs,rfl,?_,λ_ _=>trivial,?_⟩⟩
 .unfold qh at hcb;split at hcb
  rotate_left
  .cases hcb
  rename_i fng hfn;simp only[gH,pK]at hcb;have hname : fng.name ≠ "runtime.NumGoroutine" := by simpa using hcb.1
  have hbody:fng.body≠none:=bO
  simp[invoke,callFunc,hfn,hname,hbody]
 have e2:LL E2 caps zs.toList:=⟨aq h5,λi c y e1 e2=>(h6 i c y e1 uZ).mono g2.le⟩;refine(hD .returning w2 E2 zs h7 e2).mono ?_;rintro e u' w3 ⟨rfl,v,E3,rfl,h10,g3⟩;have hb:H.length<=H2.length:=by have:=hs.base;have:=(g1.trans g2).le.n;rw[hs.heap.n,h7.n]at this;omega
 have hs3:yi H.length w0.heap.size w3 E3 ⟨t2,H3⟩ {a2 with defers:=a.defers}:=⟨h10,h8.mono g3.le,hM.grow h7 g3,by have:=g3.le.n;rw[h7.n,h10.n]at this;exact pH hb this⟩;exact Lo hh hs3 (gB.trans (g3.iX (by rw[h7.n];exact hb))) hlv
def qM.zyr(hf:P.funcs[f]?=some fn)(hb:fn.body=some c)(h:AA P fn H c ⟨entry fn args,H⟩ R):qM P f H args R:=λw E vs hh hl=>
 (callsIn_wide (n:=0)).1 (callsIn_of_wp_marks hf hb trivial (h w E w E _ hh ⟨hh,KS hl,gG _,gG _⟩ (jS.refl H.length w E H)))
def Dn.zN{H':zn}(hf:P.funcs[f]?=some fn)(hb:fn.body=some c)
 (h:wpA P H.length c (entry fn args) H λex t1 H1=>(ex=.ret\/ex=.normal)/\∃s2 r,zp H.length ⟨t1,H1⟩ s2/\wa P fn s2=some r/\s2.H=H'):Dn P f H args H':=
 .AP hf hb ((jJ h).mono λex s1 h1=>h1)
def AA.JB{Hs:zn}{x y:Code}(h:wpA P H.length x t Hs λex t1 H1=>(ex=.normal/\∃t2 H2,zp H.length ⟨t1,H1⟩ ⟨t2,H2⟩/\AA P fn H y ⟨t2,H2⟩ R)\/(ex=.ret/\Gf P fn H R ⟨t1,H1⟩)):AA P fn H (.seq x y) ⟨t,Hs⟩ R:=
 .seq ((jJ h).mono λex s1 h1=>h1.imp (λ⟨e,t2,H2,hw,hr⟩=>⟨e,_,hw,hr⟩) id)
end
def AU(H:zn)(id:Nat):zn:=H.modify id λ_=>⟨0,0,0,[],0⟩
def DX(H:zn)(id j:Nat):(AU H id)[j]?=(H[j]?).map λob=>if id=j then ⟨0,0,0,[],0⟩ else ob:=by
 unfold AU;rw[pZ]
 rfl
def Fq{id:Nat}{id':Nat}{p:List ig}{x:Nat×List (List C)}(h:qd (AU H id) id' p=some x):id'≠id/\qd H id' p=some x:=by
 obtain⟨ob,ho,hk,hg⟩:=ju h;rw[DX]at ho;cases hx:H[id']? with
 |none=>rw[hx]at ho;cases ho
 |some ob0=>
  rw[hx]at ho;simp only[gK,gX]at ho;by_cases hid:id=id'
  .subst hid;simp at ho;subst ho;simp at hk
  .rw[gp hid]at ho;subst ho;refine⟨Ne.symm hid,?_⟩;unfold qd;rw[hx];simp only[hk,if_true];exact hg
def qn.gone(h:qn w E H)(id:Nat):qn w E (AU H id) where
 n:=by rw[h.n];simp[AU]
 fR id' ob p sz rows hob hx:=by
  obtain⟨h1,h2⟩:=Fq hx;rw[DX]at hob;cases hx':H[id']? with
  |none=>rw[hx']at hob;cases hob
  |some ob0=>
   rw[hx']at hob;simp only[gK,gX,gp (Ne.symm h1)]at hob;subst hob;exact h.fR id' _ p sz rows hx' h2
 inj id1 p1 id2 p2 x y hx hy he:=h.inj id1 p1 id2 p2 x y (Fq hx).2 (Fq hy).2 he
 qA:=h.qA
 sep id' p x o u hx hu:=by
  obtain⟨h1,h2⟩:=Fq hx;obtain⟨e1,ob,e2,e3⟩:=h.sep id' p x o u h2 hu;refine⟨e1,ob,?_,e3⟩;rw[DX,e2];simp[Ne.symm h1]
 ty id' ob hob hk:=by
  rw[DX]at hob;cases hx':H[id']? with
  |none=>rw[hx']at hob;cases hob
  |some ob0=>
   rw[hx']at hob;simp only[gK,gX]at hob;by_cases hid:id=id'
   .rw[gz hid]at hob;subst hob;simp at hk
   .rw[gp hid]at hob;subst hob;exact h.ty id' _ hx' hk
 fz id' ob hob:=by
  rw[DX]at hob;cases hx':H[id']? with
  |none=>rw[hx']at hob;cases hob
  |some ob0=>
   rw[hx']at hob;simp only[gK,gX]at hob;have h0:=h.fz id' ob0 hx';subst hob;split
   .simp
   .exact h0
def kT{id i:Nat}{ob:Ob}(h:(AU H id)[i]?=some ob)(hk:ob.kind=4):H[i]?=some ob:=by
 rw[DX]at h;cases hx:H[i]? with
 |none=>rw[hx]at h;cases h
 |some o=>
  rw[hx]at h;simp only[gK,gX]at h;split at h
  .subst h;cases hk
  .rw[h]
def zp.gone{B:Nat}{s:S}(id:Nat):zp B s ⟨s.tmps,AU s.H id⟩:=λm w E a hs=>by
 have hg:∀{i b},qP E (AU s.H id) i b->qP E s.H i b:=λ⟨ob,cap,h1,h2,h3,h4⟩=>⟨ob,cap,kT h1 h2,h2,h3,h4⟩
 have hr:∀{i b},jQ (AU s.H id) i b->jQ s.H i b:=λ⟨ob,o,t,h1,h2,h3,h4⟩=>⟨ob,o,t,kT h1 h2,h2,h3,h4⟩
 have h0:∀{b},jr E (AU s.H id) b->jr E s.H b:=λ⟨i,p,x,h1,h2⟩=>⟨i,p,x,(Fq h1).2,h2⟩
 refine⟨E,⟨⟨hs.heap.base.gone id,?_⟩,hs.tmps,hs.defers,by have:=hs.base;simp[AU];omega⟩,⟨Env.AK.refl B E,rfl,rfl,rfl,gG _,λ_ _ _=>V,λ_ _ _ h=>.inl h,?_⟩⟩
 .exact {
   val:=λi ob h1 h2=>hs.heap.fH.val i ob (kT h1 h2) h2
   fR:=λi b ob h1 h2=>hs.heap.fH.fR i b ob (hg h1) (by obtain⟨ob2,_,h3,h4,_⟩:=h1;rw[h2]at h3;cases h3;exact kT h2 h4)
   sep:=λi b h1 h2=>hs.heap.fH.sep i b (hg h1) (h0 h2)
   inj:=λi j b h1 h2=>hs.heap.fH.inj i j b (hg h1) (hg h2)
   st:=λi b ob o u h1 h2 h3=>hs.heap.fH.st i b ob o u (hg h1) (by obtain⟨ob2,_,h4,h5,_⟩:=h1;rw[h2]at h4;cases h4;exact kT h2 h5) h3
   top:=λi ob k u h1 h2 h3=>hs.heap.fH.top i ob k u (kT h1 h2) h2 h3
   iW:=λi ob o t h1 h2 h3=>hs.heap.fH.iW i ob o t (kT h1 h2) h2 h3
   mb:=λi j b h1 h2=>hs.heap.fH.mb i j b (hr h1) (hr h2)}
 .rintro b (hb|⟨i,hb|hb⟩)
  .exact .inr (.inl (h0 hb))
  .exact .inr (.inr ⟨i,.inl (hg hb)⟩)
  .exact .inr (.inr ⟨i,.inr (hr hb)⟩)
def qM.U0{P:Program}{H2:zn}{r:C}(hle:H.length<=H2.length)(h1:qM P f H args λr1 H1=>zp H.length ⟨[r1],H1⟩ ⟨[r],H2⟩):zb P f H args r H2:=λw E vs hh hl0=>by
 refine(h1 w E vs hh hl0).mono ?_;rintro e w' ⟨r1,H1,v,E',hw,h0,h2,h3,g⟩;have hHH:H.length<=H1.length:=cb
 obtain⟨E2,hs,g2⟩:=hw 0 w' E' ⟨#[v],[]⟩ ⟨h2,LL.one h3,pa _,hHH⟩;have hn2:=hs.heap.n;refine⟨v,E2,h0,hs.heap,hs.tmps.cons_inv.1,⟨⟨by rw[hh.n,hn2];exact hle,λid hops hi=>?_,λid hops hi=>?_,λb o u hu=>g2.le.St _ _ _ (g.le.St _ _ _ hu),λid k u hi hu=>?_⟩,g2.os.trans g.os,g2.tape.trans g.tape,g2.output.trans g.output,pH g.size g2.size,?_,?_,?_⟩⟩
 .rw[hh.n]at hi;exact(g2.le.β id hops hi).trans (g.le.β id hops tN)
 .rw[hh.n]at hi;exact(g2.le.κ id hops hi).trans (g.le.κ id hops tN)
 .rw[hh.n]at hi;exact g2.le.G id k u hi (g.le.G id k u tN hu)
 .intro k hk ho;exact dj
 .intro b o u hu;rcases g2.jZ b o u hu with h1|h1|h1
  .exact g.jZ b o u h1
  .exact .inr (.inl (pH g.size h1))
  .rcases g.own b h1 with h4|h4
   .exact .inr (.inl h4)
   .exact .inr (.inr h4)
 .intro b hb;rcases g2.own b hb with h1|h1
  .exact .inl (pH g.size h1)
  .exact g.own b h1
end Go.Ab
namespace Go.Wor
open Go.Ab Go.Proofs Tryz Go.Hy Go.Gat Go.Nam Go.Hos Go.Con Go.Sna
def G7{c:iq}(h:ka c):AT (jN c).1:=by
 unfold jN;split
 .exact⟨aj,aj,aj⟩
 .refine⟨h.zc,⟨aq h.zO.1,λr hr=>?_⟩,h.zo⟩;simp only[gY]at hr;obtain⟨q,hq,rfl⟩:=hr;exact⟨(h.zO.2 q hq).2.1,(h.zO.2 q hq).2.2.1⟩
def oT(c:iq):Int:=if (jN c).2.1≠0 then (jN c).2.1 else (ja (jN c).1).2
def vm(c:iq):fI:=(ja (jN c).1).1
def Vo(l:List fI):((l.map zM).all λx=>x.all zB)=true:=by
 rw[gE];intro r hr;obtain⟨x,_,rfl⟩:=gY.1 hr
 rfl
abbrev nI(m:fD)(was now:Int):fD:={m with version:=was,zg:=0,end_:=0,other:=0,slot:=0,i:=now,pc:=1}
def Wr(w:Wor)(v:fI)(hn:w.ze.length<1000000000):tj 168 [⟨1,38,8,[[I w.zl,I w.current,I w.lock,lI w.pins,.sl 1 [] 5 0 (w.ze.length) false,lL w.zc,iG w.counts,lR w.zm]],0⟩,⟨2,138,5,(w.ze).map zM,0⟩] [Cv v,.ref 0 [] 8 0 0] (.fJ [I w.current,I w.ze.length]) [⟨1,38,8,[[I w.zl,I w.ze.length,I w.lock,lI w.pins,.sl 2 [] 5 0 ((w.ze.length+1)) false,lL w.zc,iG w.counts,lR w.zm]],0⟩,⟨0,0,0,[],0⟩,⟨2,138,5,(w.ze++[v]).map zM,0⟩]:=by
 have hap:(Ob.mk 2 138 5 (w.ze.map zM) 0).rows++[zM v]=(w.ze++[v]).map zM:=bm
 refine qi (fn:=f168) func168 V aj (uH ?_);refine uE ?_;refine⟨aj,Vo _,ay,by show _*104<=_;simp;omega,dd ?_⟩;refine⟨.inl V,_,_,zp.gone 1,rfl,?_⟩;rw[<-hap];exact zp.fL [0,1,3] [0] _ _ V V V V
def XI(w:Wor)(m:fD)(c:Int)(hc:ka m.op.config)(he:oT m.op.config=0)(hn:w.ze.length<1000000000):
  tj 167 [oM m,⟨1,38,8,[[I w.zl,I w.current,I w.lock,lI w.pins,.sl 2 [] 5 0 (w.ze.length) false,lL w.zc,iG w.counts,lR w.zm]],0⟩,⟨2,138,5,(w.ze).map zM,0⟩] [.ref 0 [] 44 0 0,.fn 168 [] [.ref 1 [] 8 0 0],I c] (Ce {fX m 6 3 w.ze.length with jd:=true}) [oM (nI m w.current w.ze.length),⟨1,38,8,[[I w.zl,I w.ze.length,I w.lock,lI w.pins,.sl 3 [] 5 0 ((w.ze.length+1)) false,lL w.zc,iG w.counts,lR w.zm]],0⟩,⟨0,0,0,[],0⟩,⟨2,138,5,(w.ze++[vm m.op.config]).map zM,0⟩]:=by
 have hb:=JT m.op.config hc.k;have hl:=GW _ (G7 hc)
 have h1:(jN m.op.config).2.1=0:=by
  unfold oT at he;split at he
  .contradiction
  .rename_i hx;omega
 have h2:(ja (jN m.op.config).1).2=0:=by
  unfold oT at he
  rwa [gp aw]at he
 unfold vm;generalize jN m.op.config=bv at hb hl h1 h2|-;obtain⟨sn,e1,e2⟩:=bv;cases h1
 have hl:tj 55 [] [Cs sn] (tV (ja sn)) []:=hl;have h2:(ja sn).2=0:=h2;show tj 167 _ _ _ [_,_,_,⟨2,138,5,(w.ze++[(ja sn).1]).map zM,0⟩];generalize ja sn=cv at hl h2|-;obtain⟨v,e3⟩:=cv;cases h2
 have hb:tj 42 [] [Cf m.op.config] (.fJ [Cs sn,I 0,I e2]) []:=hb;have hl:tj 55 [] [Cs sn] (.fJ [Cv v,I 0]) []:=hl;refine qi (fn:=f167) func167 V aj (uH ?_);refine ah hb ?_;(refine ya (dd ?_))
 refine ah hl ?_;(refine ya (dd ?_))
 refine af [1,2] (Wr w v hn) ?_;refine .inl ⟨⟨false,[0,1,2,3,4,5,6],[3],[]⟩,au,uH ?_⟩;refine hU ?_
 refine af [0] (Fz (nI m w.current w.ze.length) 6 3 w.ze.length) ?_;exact⟨.inl V,_,_,.refl _,rfl,zp.fL [0,1,2,8] [0] _ _ V V V V⟩
abbrev i4(f:Int):fN:=⟨9,0,0,0,0,0,f,⟨0,0,0,0,0,0⟩⟩
def YZ(m:fD)(e:fG)(f:Int):Dn prog 219 [oM m,⟨1,258,1,[[.ref 0 [] 44 0 0]],0⟩,oE e,⟨1,116,3,[encS ⟨[],[],[]⟩],0⟩,⟨1,39,1,[[I f]],0⟩] [.ref 1 [] 1 0 0,.ref 2 [] 23 0 0,.ref 4 [] 1 0 0] [oM ({m with done:=true,answer:=i4 f}),⟨1,258,1,[[.ref 0 [] 44 0 0]],0⟩,oE ({e with done:=true,answer:=i4 f}),⟨1,116,3,[encS ⟨[],[],[]⟩],0⟩,⟨1,39,1,[[I f]],0⟩]:=by
 refine Dn.zN (fn:=f219) func219 V (uH ?_);exact⟨.inr V,_,_,.refl _,rfl,rfl⟩
def V9(m:fD)(c f:Int)(hc:yn m.op.config)(hf:(jN m.op.config).2.1=f)(h0:f≠0):
  tj 167 [oM m] [.ref 0 [] 44 0 0,.fn 168 [] [.za],I c] (Ce {fX m 1 3 c with jd:=true,done:=true,answer:=i4 f}) [oM ({m with done:=true,answer:=i4 f})]:=by
 have hb:=JT m.op.config hc
 have h2:(jN m.op.config).1=⟨[],[],[]⟩:=by
  unfold jN at hf|-;split
  .rfl
  .rename_i h;rw[gp h]at hf;exact absurd hf.symm h0
 generalize jN m.op.config=bv at hb hf h2;obtain⟨sn,e1,e2⟩:=bv;cases hf
 cases h2
 have hb:tj 42 [] [Cf m.op.config] (.fJ [Cs ⟨[],[],[]⟩,I e1,I e2]) []:=hb;refine qM.U0 (gG _) (qM.zyr (fn:=f167) func167 V (.JB ?_));conv=>whnf
 refine .inl ⟨rfl,_,_,.refl _,.JB (uH ?_)⟩;refine ah hb ?_;refine .inl ⟨rfl,_,_,.refl _,.JB (uH ?_)⟩;refine⟨λh=>absurd h (aq h0),λ_=>dd ?_⟩;refine .inl ⟨rfl,_,_,.refl _,?_⟩;refine AA.deferred (g:=219) (regs:=SP (behind 4 ((f167.body).getD .skip))) V V V V V V (uH ?_);refine⟨_,rfl,uH ?_⟩;refine af [0] (Fz m 1 3 c) ?_;refine⟨_,YZ m {fX m 1 3 c with jd:=true} e1,?_⟩;exact⟨_,_,.refl _,rfl,cE 1⟩
def WH(w:Wor)(h:jg w):tj 162 [] [Cw w] (.agg (l7 w 0)) [⟨2,138,5,(w.ze).map zM,0⟩]:=by
 refine zaQ ?_;refine zao ?_;refine ah (D9 w.zm h.zm) ?_;refine za2 ?_;exact zp.fL [3] [0] _ _ V V V (zd V (zd V (zd V (zd V (zd (zi λr hr c hc=>((shut_map (enc:=zQ) (λ_=>V) w.counts) r hr c hc).2) V)))))
def XV(w:Wor)(m:fD)(sw:jg w)(ok:iw w)(hl:i64 m.listen)(hpc:m.pc=0)(hs:z8 w m=true)(hc:ka m.op.config)(he:oT m.op.config=0):
  tj 135 [] [Cw w,Cm m] (.fJ [Cw {w with current:=w.ze.length,ze:=w.ze++[vm m.op.config]},Cm (nI m w.current w.ze.length),Ce {fX m 6 3 w.ze.length with jd:=true}]) []:=by
 refine ab func135 ?_;refine zac ?_
 refine zbh ?_
 refine hZ ?_
 refine af [] (WH w sw) ?_;refine zac ?_
 refine af [1,6,5] (XI w m w.current hc he sw.ze.1) ?_;refine .inl ⟨⟨false,[0,1,2],[6,1,8],[]⟩,au,uH ?_⟩;refine hU ?_
 exact⟨.inl V,_,zp.zV 2 0 4 V V V V (.inr V) aj aj (shut_map (enc:=zM) (λ_=>V) _) (qa V),rfl⟩
def Wu(w:Wor)(m:fD)(f:Int)(sw:jg w)(ok:iw w)(hl:i64 m.listen)(hpc:m.pc=0)(hs:z8 w m=true)(hc:yn m.op.config)(hf:(jN m.op.config).2.1=f)(h0:f≠0):
  tj 135 [] [Cw w,Cm m] (.fJ [Cw w,Cm {m with done:=true,answer:=i4 f},Ce {fX m 1 3 w.current with jd:=true,done:=true,answer:=i4 f}]) []:=by
 refine ab func135 ?_;refine zac ?_
 refine zbh ?_
 refine hZ ?_
 refine ah (qE w sw) ?_;refine zac ?_
 refine af [1] (V9 m w.current f hc hf h0) ?_;refine zba ?_
 exact uI
end Go.Wor
