import Derived.RangeFuncLeaves
import Derived.Test.YtoeaoedlpmohoaaGreatRW
import Derived.Test.YtoeaoedlpmohoaaGreatRJ
import Derived.Test.YtoeaoedlpmohoaaGreatRV
set_option linter.all false
set_option maxRecDepth 100000
set_option maxHeartbeats 4000000
namespace Go.Wor
open Go.Ab Go.Proofs Tryz Go.Hy Go.Gat Go.Nam Go.Hos Go.Con Go.Sna
def nV(w:Wor)(m:fq):Bool:=w.zu.any (λr=>r.version == m.version) || (m.version == w.current) || decide (m.zr<0) || decide (w.zr<m.zr)
def Dn(m:fq)(a b c:Int):tn 158 [⟨1,95,44,[zE (m)],0⟩] [.ref 0 [] 44 0 0,I a,I b,I c] (Ce (fV m a b c)) [⟨1,95,44,[zE (m)],0⟩]:=by
 refine aa func158 ?_;refine hZ ?_;exact dS
def RZ(w:Wor)(m:fq)(r:fT):tn 207 [⟨1,38,8,[zU (w)],0⟩,⟨1,95,44,[zE (m)],0⟩] [.agg (xH r),.ref 1 [] 44 0 0] (Bo (r.version == m.version)) [⟨1,38,8,[zU (w)],0⟩,⟨1,95,44,[zE (m)],0⟩]:=by
 refine aa func207 ?_;refine⟨λh=>?_,λh=>?_⟩ <;> rw[h]
 ·refine dd ?_;exact df
 ·refine dd ?_;exact df
def LM(w:Wor)(m:fq)(ok:iC w):tn 155 [] [Cw w,Cm m] (Bo (nV w m)) []:=by
 have hl:=ok.zu;refine ab func155 ?_;refine⟨_,_,Go.Lim.Mf (λr=>r.version == m.version) rfl (λr=>RZ w m r) aw,dd ?_⟩;refine⟨λq1=>?_,λq1=>?_⟩
 ·refine dd ?_;refine tc ?_
  (exact⟨.inl rfl,_,.refl _,uN (by simp only[nV,q1,fg])⟩)
 refine dd ?_;refine tc ?_
 refine⟨λq2=>?_,λq2=>?_⟩
 ·refine dd ?_;refine tc ?_
  (exact⟨.inl rfl,_,.refl _,uN (by simp only[nV,q1,q2,fg,uo])⟩)
 refine dd ?_;refine tc ?_
 refine⟨λq3=>?_,λq3=>?_⟩
 ·refine dd ?_;refine tc ?_
  (exact⟨.inl rfl,_,.refl _,uN (by simp only[nV,q1,q2,q3,fg,uo])⟩)
 refine dd ?_;refine tc ?_
 refine⟨λq4=>?_,λq4=>?_⟩
 ·refine dd ?_;refine tc ?_
  (exact⟨.inl rfl,_,.refl _,uN (by have q5:decide (w.zr<m.zr)=true:=q4;simp only[nV,q5,uo])⟩)
 ·refine dd ?_;refine tc ?_
  (exact⟨.inl rfl,_,.refl _,uN (by have q5:decide (w.zr<m.zr)=false:=q4;simp only[nV,q1,q2,q3,q5,eX])⟩)
def SO(w:Wor)(m:fq)(sw:jf w)(ok:iC w)(hl:i64 m.listen)(hpc:m.pc=1)(hs:z7 w m=true):
  tn 128 [] [Cw w,Cm m] (.fC [Cw w,Cm { m with zr:=w.zr,pc:=2 },Ce (fV m 1 1 w.zr)]) []:=by
 refine ab func128 ?_;(repeat (first|refine uA ?_|refine uB ?_))
 refine ah (zR w m ok hl) ?_;refine⟨λ_=>dd ?_,λh=>absurd ((hs).symm.trans h:true=false) ar⟩;(repeat (first|refine uA ?_|refine uB ?_))
 refine tc ?_
 refine ah (qE w sw) ?_;(repeat (first|refine uA ?_|refine uB ?_))
 refine .inl ⟨⟨true,[0,1,3],[0,1,5],[4]⟩,au,uH ?_⟩;refine hZ ?_
 refine af [1] (Dn { m with zr:=w.zr,pc:=2 } 1 1 w.zr) ?_;refine hZ ?_
 exact uI
def RH(w:Wor)(h:jf w)(x:fT)(l:List fT)(hx:w.zu=x::l):tn 152 [] [Cw w] (.agg [I w.zr,I w.current,I w.lock,lI w.pins,lV w.ze,lL w.zd,ig w.counts,.sl 0 [] 3 0 w.zu.length false]) [⟨2,254,3,(w.zu).map xH,0⟩]:=by
 have hl:l.length<1000000000:=by have:=h.zu;rw[hx]at this;exact de
 have hc:=M4 x l hl;rw[<-hx]at hc;refine BO (fn:=f152) func152 rfl (uH ?_);refine ah (vt w.pins h.pins) ?_;refine af [] (Bc w.ze h.ze.1 λv hv=>jR v (h.ze.2 v hv)) ?_;refine ah (ky w.zd h.zd) ?_;refine af [] (Bb w.counts h.counts.1 λr hr=>yh r (h.counts.2 r hr)) ?_;refine af [] (hc) ?_;refine⟨.inl rfl,_,_,(zp.zV 1 0 4 rfl rfl rfl rfl (.inr rfl) rfl aj (shut_map (enc:=zK) (λ_=>rfl) w.ze) (z6 rfl)).trans (zp.zV 1 0 6 rfl rfl rfl rfl (.inr rfl) rfl aj (shut_map (enc:=zP) (λ_=>rfl) w.counts) (z6 rfl)),rfl,?_⟩;exact zp.fD [5] [0] _ _ rfl rfl rfl (zc rfl (zc rfl (zc rfl (zc (zj λr hr c hc=>((shut_map (enc:=zK) (λ_=>rfl) w.ze) r hr c hc).2) (zc (zj λr hr c hc=>((shut_map (enc:=zP) (λ_=>rfl) w.counts) r hr c hc).2) rfl)))))
def zxw:tn 204 [] [lR []] (.fp 1 3 []) []:=by
 refine ab func204 ?_;refine⟨?_,?_⟩
 ·refine dd ?_;exact⟨.inl rfl,_,zp.cell 2 rfl (WC.none 1 0 3),rfl⟩
 ·refine dd ?_;refine .inr ⟨rfl,dd ?_⟩;exact uI
def Rp(w:Wor)(h:jf w)(hx:w.zu=[]):tn 152 [] [Cw w] (.agg [I w.zr,I w.current,I w.lock,lI w.pins,lV w.ze,lL w.zd,ig w.counts,.fp 1 3 []]) []:=by
 have hc:=zxw;rw[<-hx]at hc;refine ab func152 ?_;refine ah (vt w.pins h.pins) ?_;refine af [] (Bc w.ze h.ze.1 λv hv=>jR v (h.ze.2 v hv)) ?_;refine ah (ky w.zd h.zd) ?_;refine af [] (Bb w.counts h.counts.1 λr hr=>yh r (h.counts.2 r hr)) ?_;refine ah hc ?_;exact⟨.inl rfl,_,(zp.zV 1 0 4 rfl rfl rfl rfl (.inr rfl) rfl aj (shut_map (enc:=zK) (λ_=>rfl) w.ze) (z6 rfl)).trans (zp.zV 1 0 6 rfl rfl rfl rfl (.inr rfl) rfl aj (shut_map (enc:=zP) (λ_=>rfl) w.counts) (z6 rfl)),rfl⟩
def zxL(l:List fT):((l.map xH).all λx=>x.all zy)=true:=by
 rw[gI];intro r hr;obtain⟨x,_,rfl⟩:=pd.1 hr
 rfl
abbrev B8(m:fq):fF:=⟨8,m.i,0,0,0,0,0,⟨0,0,0,0,0,0⟩⟩
def SP(w:Wor)(m:fq)(x:fT)(l:List fT)(sw:jf w)(ok:iC w)(hl:i64 m.listen)(hpc:m.pc=2)(hs:z7 w m=true)(hla:nV w m=false)(hx:w.zu=x::l):
  tn 128 [] [Cw w,Cm m] (.fC [Cw { w with zu:=w.zu++[⟨m.version,m.zr,false⟩] },Cm { m with done:=true,answer:=B8 m },Ce { fV m 2 11 m.version with done:=true,answer:=B8 m }]) []:=by
 have hn:=sw.zu;have hap:(Ob.mk 2 254 3 (w.zu.map xH) 0).rows++[[I m.version,I m.zr,Bo false]]=(w.zu++[(⟨m.version,m.zr,false⟩:fT)]).map xH:=bc
 refine ab func128 ?_;(repeat (first|refine uA ?_|refine uB ?_))
 refine ah (zR w m ok hl) ?_;refine⟨λ_=>dd ?_,λh=>absurd ((hs).symm.trans h:true=false) ar⟩;(repeat (first|refine uA ?_|refine uB ?_))
 refine tc ?_
 refine ah (LM w m ok) ?_;refine⟨λh=>absurd ((hla).symm.trans h:false=true) ar,λ_=>dd ?_⟩;refine tc ?_
 refine af [] (RH w sw x l hx) ?_;(repeat (first|refine uA ?_|refine uB ?_))
 refine⟨aj,zxL _,ay,by show _*24<=_;simp;omega,dd ?_⟩;refine af [1] (Dn m 2 11 m.version) ?_;refine .inl ⟨⟨false,[1],[1],[]⟩,au,uH ?_⟩;refine hZ ?_
 rw[hap];refine .inl ⟨⟨false,[0,1,2],[1,6,8],[]⟩,au,uH ?_⟩;refine hZ ?_
 exact⟨.inl rfl,_,zp.zV 2 0 7 rfl rfl rfl rfl (.inr rfl) aj aj (shut_map (enc:=xH) (λ_=>rfl) _) (z6 rfl),rfl⟩
def Sh(w:Wor)(m:fq)(sw:jf w)(ok:iC w)(hl:i64 m.listen)(hpc:m.pc=2)(hs:z7 w m=true)(hla:nV w m=false)(hx:w.zu=[]):
  tn 128 [] [Cw w,Cm m] (.fC [Cw { w with zu:=w.zu++[⟨m.version,m.zr,false⟩] },Cm { m with done:=true,answer:=B8 m },Ce { fV m 2 11 m.version with done:=true,answer:=B8 m }]) []:=by
 refine ab func128 ?_;(repeat (first|refine uA ?_|refine uB ?_))
 refine ah (zR w m ok hl) ?_;refine⟨λ_=>dd ?_,λh=>absurd ((hs).symm.trans h:true=false) ar⟩;(repeat (first|refine uA ?_|refine uB ?_))
 refine tc ?_
 refine ah (LM w m ok) ?_;refine⟨λh=>absurd ((hla).symm.trans h:false=true) ar,λ_=>dd ?_⟩;refine tc ?_
 refine ah (Rp w sw hx) ?_;(repeat (first|refine uA ?_|refine uB ?_))
 refine .inr ⟨.inl rfl,ar,ar,dd ?_⟩;refine af [1] (Dn m 2 11 m.version) ?_;refine .inl ⟨⟨false,[1],[1],[]⟩,au,uH ?_⟩;refine hZ ?_
 refine .inl ⟨⟨false,[0,1,2],[1,5,7],[]⟩,au,uH ?_⟩;refine hZ ?_
 rw[hx];exact⟨.inl rfl,_,zp.zV 2 0 7 rfl rfl rfl rfl (.inr rfl) aj aj (shut_map (enc:=xH) (λ_=>rfl) [(⟨m.version,m.zr,false⟩:fT)]) (z6 rfl),rfl⟩
end Go.Wor
namespace Go.Ab
section
variable {P:Program}
def Dj{o:Oper}{t:List C}{H:zl}{R:C->zl->Prop}(h:jN P o (ev t) H R)(q:Option Nat){w:World}{E:Env}{a:Act}{K:Act->World->Prop}{Q:Exit->Act->World->Prop}
 (hh:qB w E H)(hl:LL E t a.tmps.toList)
 (hk:∀c H' w' E' a',R c H'->qB w' E' H'->LL E' (put t o.dst c) a'.tmps.toList->a'.defers=a.defers->Grow w E H w' E' H'->K a' w'):o.wpIn (fw q) 0 P a w K Q:=by
 have:=h w E a.eval hh (λx _=>Eu hl x) (λ_=>rfl) (λv w'=>K (a.put o.dst v) w') λc H' v w' E' hR h1 h2 g=>
  hk c H' w' E' _ hR h1 (Gg (hl.mono g.le) h2 o.dst) (by cases o.dst <;> rfl) g
 have iv:∀d,o.op≠.defer d:=λd hd=>by
  have h2:=this;unfold execOp at h2;simp only[hd,Sem.run_bind]at h2;cases hr:(resolve a.eval d o.type).run P w with
  |ok x w1=>simp[hr,Result.andThen,nz]at h2
  |halt x w1=>simp[hr,Result.andThen,nz]at h2
 unfold Oper.wpIn;refine⟨λ_ _=>trivial,?_⟩;rw[Oper.semAt_eq _ _ _ iv];generalize (execOp a.eval o).run P w=r at this ⊢;unfold nz at this;split at this
 ·exact dM
 ·exact dM
 ·rw[Oper.uponIn_enter];refine⟨λh=>aR,callsIn_wide.2 (Calls.mono this ?_)⟩;rintro e w' ⟨v,rfl,hv⟩;exact hv
 ·rw[Oper.uponIn_round];refine⟨λh=>aR,RoundIn.mono (F:=fw q) this ?_⟩;rintro e w' ⟨v,rfl,hv⟩;exact hv
 ·exact this.elim
def GL{ops:Array Oper}{rest:List Oper}:∀{l:List Oper} {t:List C} {H:zl} {K:List C->zl->Prop},mw P ops l t H K->∀(q:Option Nat) {w:World} {E:Env} {a:Act} {Q:Exit->Act->World->Prop},qB w E H->LL E t a.tmps.toList->
  (∀t' H' w' E' a',K t' H'->qB w' E' H'->LL E' t' a'.tmps.toList->a'.defers=a.defers->Grow w E H w' E' H'->wpListIn (fw q) 0 P ops Q rest a' w')->wpListIn (fw q) 0 P ops Q (l++rest) a w
 |[],t,H,K,h,q,w,E,a,Q,hh,hl,hk=>hk t H w E a h hh hl rfl (Grow.refl w E H)
 |o::l,t,H,K,h,q,w,E,a,Q,hh,hl,hk=>by
  rw[H7]at h;unfold Dk at h;show wpListIn (fw q) 0 P ops Q (o::(l++rest)) a w;unfold wpListIn;split at h
  ·rename_i hw;rw[gC (jY hl hw)];refine Dj (FA h) q hh hl λc H' w' E' a' hR h1 h2 h3 g=>?_
   exact GL (jB (k:=λt=>mw P ops l t H' K) hR) q h1 h2 λt2 H2 w2 E2 a2 hK h4 h5 h6 g2=>hk t2 H2 w2 E2 a2 hK h4 h5 (h6.trans h3) (g.trans g2)
  ·rename_i hw;rw[gu (by rw[jY hl hw];decide)];refine⟨λ_ _=>trivial,?_⟩;exact GL (jB (k:=λt=>mw P ops l t H K) h) q (a:=a.put o.dst undef) hh (Gg hl (.un) o.dst) λt2 H2 w2 E2 a2 hK h4 h5 h6 g2=>hk t2 H2 w2 E2 a2 hK h4 h5 (h6.trans (by cases o.dst <;> rfl)) g2
  ·exact c6
def GJ:List (Nat×Array Oper)->Code
 |[]=>.ret
 |r::l=>.seq (.region r.1 r.2 false) (GJ l)
def OF:Code->List (Nat×Array Oper)
 |.seq (.region i ops false) y=>(i,ops)::OF y
 |_=>[]
def Jv(P:Program)(l:List (Nat×Array Oper)):List C->zl->(List C->zl->Prop)->Prop:=
 List.rec (motive:=λ_=>List C->zl->(List C->zl->Prop)->Prop) (λt H K=>K t H) (λr _ next t H K=>mw P r.2 r.2.toList t H λt H=>next t H K) l
def OA:∀{l:List (Nat×Array Oper)} {t:List C} {H:zl} {K:List C->zl->Prop},Jv P l t H K->∀{w:World} {E:Env} {a:Act} {Q:Exit->Act->World->Prop},qB w E H->LL E t a.tmps.toList->
  (∀t' H' w' E' a',K t' H'->qB w' E' H'->LL E' t' a'.tmps.toList->a'.defers=a.defers->Grow w E H w' E' H'->Q .ret a' w')->(GJ l).wpIn (fw none) 0 P Q a w
 |[],t,H,K,h,w,E,a,Q,hh,hl,hk=>wpIn_ret (hk t H w E a h hh hl rfl (Grow.refl w E H))
 |r::l,t,H,K,h,w,E,a,Q,hh,hl,hk=>by
  have h:mw P r.2 r.2.toList t H λt H=>Jv P l t H K:=h
  refine wpIn_seq (wpIn_region_list ?_);have:=GL (rest:=[]) h none (Q:=Exit.then ((GJ l).wpIn (fw none) 0 P Q) Q) hh hl λt2 H2 w2 E2 a2 hK h1 h2 h3 g=>wpListIn_nil (OA hK h1 h2 λt3 H3 w3 E3 a3 hK3 h4 h5 h6 g2=>hk t3 H3 w3 E3 a3 hK3 h4 h5 (h6.trans h3) (g.trans g2))
  rwa [rE]at this
def KZ{m:Nat}:∀{ds:List Deferred} {w:World} {fr:Frame} {cs:List Frame},Marks m w ds->fr.mode≠.run->fr.defers=ds->(fw none).room (cs.length+1+0)->
  ∃w',StepsIn (Machine.fenced P (fw none)) P (lone fr cs w) (lone { fr with defers:=[] } cs w')/\w'.os=w.os/\w'.tape=w.tape/\w'.output=w.output/\w'.heap.size=w.heap.size/\(∀k:Nat,k<m->w'.heap[k]?=w.heap[k]?)/\
   ∀(k:Nat) (o:Obj),w.heap[k]?=some o->(∀ds,o≠.deferred ds)->w'.heap[k]?=w.heap[k]?
 |[],w,fr,cs,_,hm,hd,hroom=>⟨w,by
   have:({ fr with defers:=[] }:Frame)=fr:=by cases fr;cases hd;rfl
   rw[this];exact StepsIn.refl _,rfl,rfl,rfl,rfl,λ_ _=>rfl,λ_ _ _ _=>rfl⟩
 |d::ds,w,fr,cs,⟨⟨D,h1,h2,h3,h4⟩,ht⟩,hm,hd,hroom=>by
  have htar:d.target=.collected D:=by rw[h1]
  have hs:=step_collected (P:=P) (cs:=cs) hm hd htar (run_takeDeferred h3);have i1:(lone fr cs w).fenced P (fw none):=fenced_out (n:=0) trivial hroom hm hd (λg hg=>by rw[htar]at hg;simp[Target.leads]at hg);obtain⟨w',s1,a1,a2,a3,a4,a5,a6⟩:=KZ (fr:={ fr with defers:=[]++ds }) (cs:=cs) (Marks.mono (w':=w.putObj D (.deferred none)) aj ht λD' hm hd=>World.putObj_heap_other (by rintro rfl;exact h4 hm)) hm rfl hroom;refine⟨w',.head i1 hs s1,a1,a2,a3,a4.trans World.putObj_size,λk hk=>(a5 k hk).trans (World.putObj_heap_other aw),λk o hc hd=>?_⟩;have hne:k≠D:=by rintro rfl;rw[h3]at hc;cases hc;exact hd _ rfl
  have e:=World.putObj_heap_other (w:=w) (o:=.deferred none) hne;exact(a6 k o (e.trans hc) hd).trans e
def BR(P:Program)(f:FuncId)(H:zl)(args:List C)(H':zl):Prop:=
 ∀(u:FrameMode) (w:World) (E:Env) (vs:Array Value),qB w E H->LL E args vs.toList->
  CallsDIn (fw none) 0 P f vs u w λe u' w'=>u'=u/\∃v E',e=.returned v/\qB w' E' H'/\Grow w E H w' E' H'
def BR.kQ{f:FuncId}{fn:Func}{c:Code}{H H':zl}{args:List C}(hf:P.funcs[f]?=some fn)(hb:fn.body=some c)
 (hr:qX P H.length c ⟨entry fn args,H⟩ λex s1=>(ex=.ret\/ex=.normal)/\∃s2 r,zp H.length s1 s2/\vJ P fn s2=some r/\s2.H=H'):BR P f H args H':=λu w E vs hh hl=>by
 have hrun:=hr none w.heap.size w E { tmps:=vs++Array.replicate (fn.ntmps-vs.size) undef,defers:=[] } (λex a1 w1=>(ex=.ret\/ex=.normal)/\∃E' s2 r,vJ P fn s2=some r/\s2.H=H'/\xU H.length w.heap.size w1 E' s2 a1/\jK H.length w E H w1 E' s2.H) (λ_=>rfl) ⟨hh,Ir hl,gJ _,gJ _⟩ λex s1 w' E1 a' hR hs1 g1=>by
  obtain⟨hex,s',r,hw,hres,e⟩:=hR;obtain⟨E',hs,g2⟩:=hw _ w' E1 a' hs1;exact⟨hex,E',s',r,hres,e,hs,g1.trans g2⟩
 refine⟨trivial,λc₀ cs hu hroom=>?_⟩
 let b:Frame:={ (default:Frame) with fn:=f,kind:=.deferred,roundOf:=none }
 have henter:Frame.enter P f vs .deferred=b.atR { tmps:=vs++Array.replicate (fn.ntmps-vs.size) undef,defers:=[] } [.code c]:=by
  simp[Frame.enter,Frame.atR,hf,hb,b]
 have hc:({ c₀ with mode:=u }:Frame)=c₀:=by subst hu;rfl
 obtain⟨e,a',w',⟨hex,E',s2,r,hres,rfl,hs,g⟩,harr⟩:=hrun b [] (c₀::cs) rfl trivial hroom;rw[<-henter]at harr
 have out:∀(fr:Frame),fr.mode=.returning->fr.defers=a'.defers->fr.tmps=a'.tmps->fr.kind=.deferred->fr.fn=f->StepsIn (Machine.fenced P (fw none)) P (lone (Frame.enter P f vs .deferred) (c₀::cs) w) (lone fr (c₀::cs) w')->
   ∃e u' w' fr,(u'=u/\∃v E',e=.returned v/\qB w' E' s2.H/\Grow w E H w' E' s2.H)/\ComesIn (Machine.fenced P (fw none)) P (lone (Frame.enter P f vs .deferred) (c₀::cs) w) (lone fr ({ c₀ with mode:=u' }::cs) w') e/\fr.kind=.deferred/\fr.fn=f/\fr.going P w' e:=λfr h1 h2 h3 h4 h5 hst=>by
  obtain⟨w2,st,a1,a2,a3,a4,a5,a6⟩:=KZ (P:=P) (cs:=c₀::cs) hs.defers (by rw[h1];simp) h2 hroom;have hs2:xU H.length w.heap.size w2 E' s2 { a' with defers:=[] }:=⟨hs.heap.cells a6,hs.tmps,bw,hs.base⟩;obtain⟨v,hv,_⟩:=Ic hs2 hres
  have hg:Grow w E H w2 E' s2.H:=⟨⟨bz,λid hops hi=>g.le.β id hops tH,λid hops hi=>g.le.κ id hops tH,g.le.St,λid k u hi=>g.le.G id k u tH⟩,
   a1.trans g.os,a2.trans g.tape,a3.trans g.output,by rw[a4];exact g.size,λk hk ho=>(a5 k hk).trans (g.frame k hk ho),g.jS,g.own⟩
  exact⟨.returned v,u,w2,{ fr with defers:=[] },⟨rfl,v,E',rfl,hs2.heap,hg⟩,by rw[hc];exact StepsIn.trans hst st,h4,h5,h1,rfl,fn,by show P.funcs[fr.fn]?=_;rw[h5];exact hf,by show(results fn fr.tmps).run P w2=_;rw[h3];exact hv⟩
 rcases hex with rfl|rfl
 ·obtain⟨todo,h0⟩:=harr.1 rfl;exact out _ rfl rfl rfl rfl rfl h0
 ·exact out _ rfl rfl rfl rfl rfl (StepsIn.trans harr (.one (fenced_calm (n:=0) (fr:=b.atR a' []) trivial hroom rfl) (stepR_end rfl)))
def Fin(P:Program)(fn:Func)(w0:World)(E0:Env)(H:zl)(R:C->zl->Prop):Exit->Act->World->Prop:=
 bodyPostM (fw none) 0 P fn λe w'=>∃r H' v E',R r H'/\e=.returned v/\qB w' E' H'/\L E' r v/\Grow w0 E0 H w' E' H'
def oq(P:Program)(fn:Func)(H:zl)(c:Code)(s:S)(R:C->zl->Prop):Prop:=
 ∀(w0:World) (E0:Env) (w:World) (E:Env) (a:Act),qB w0 E0 H->xU H.length w0.heap.size w E s a->jK H.length w0 E0 H w E s.H->c.wpIn (fw none) 0 P (Fin P fn w0 E0 H R) a w
def Ef(P:Program)(fn:Func)(H:zl)(R:C->zl->Prop)(s1:S):Prop:=∃s2 r,zp H.length s1 s2/\vJ P fn s2=some r/\R r s2.H
def I3{fn:Func}{H:zl}{R:C->zl->Prop}{w0 w:World}{E0 E:Env}{s1:S}{a:Act}(hh:qB w0 E0 H)(hs:xU H.length w0.heap.size w E s1 a)(hg:jK H.length w0 E0 H w E s1.H)(h:Ef P fn H R s1):
  LeavesInM (fw none) 0 P fn a.tmps (λe w'=>∃r H' v E',R r H'/\e=.returned v/\qB w' E' H'/\L E' r v/\Grow w0 E0 H w' E' H') a.defers .returning w:=by
 obtain⟨s',r,hw,hres,hRr⟩:=h;obtain⟨E',hs,g2⟩:=hw _ w E a hs;have g:=hg.trans g2;refine leaves hs.defers λw2 a1 a2 a3 a4 a5 a6=>?_
 have hs2:xU H.length w0.heap.size w2 E' s' { a with defers:=[] }:=⟨hs.heap.cells a6,hs.tmps,bw,hs.base⟩;obtain⟨v,h1,h2⟩:=Ic hs2 hres
 have hg:Grow w0 E0 H w2 E' s'.H:=⟨⟨bz,λid hops hi=>g.le.β id hops tH,λid hops hi=>g.le.κ id hops tH,g.le.St,λid k u hi=>g.le.G id k u tH⟩,
  a1.trans g.os,a2.trans g.tape,a3.trans g.output,by rw[a4];exact g.size,λk hk ho=>(a5 k hk).trans (g.frame k hk ho),g.jS,g.own⟩
 exact⟨v,h1,r,s'.H,v,E',hRr,rfl,hs2.heap,h2,hg⟩
def oq.kQ{fn:Func}{H:zl}{c:Code}{s:S}{R:C->zl->Prop}(h:qX P H.length c s λex s1=>(ex=.ret\/ex=.normal)/\Ef P fn H R s1):oq P fn H c s R:=λw0 E0 w E a hh hs hg=>
 h none w0.heap.size w E a _ (λ_=>rfl) hs λex s1 w' E1 a' ⟨hex,hl⟩ hs1 g1=>by
  have:=I3 hh hs1 (hg.trans g1) hl;rcases hex with rfl|rfl <;> exact dM
def oq.seq{fn:Func}{H:zl}{x y:Code}{s:S}{R:C->zl->Prop}(h:qX P H.length x s λex s1=>(ex=.normal/\∃s2,zp H.length s1 s2/\oq P fn H y s2 R)\/(ex=.ret/\Ef P fn H R s1)):oq P fn H (.seq x y) s R:=λw0 E0 w E a hh hs hg=>
 wpIn_seq (h none w0.heap.size w E a _ (λ_=>rfl) hs λex s1 w' E1 a' hR hs1 g1=>by
  rcases hR with⟨rfl,s2,hw,hy⟩|⟨rfl,hl⟩
  ·obtain⟨E2,hs2,g2⟩:=hw _ w' E1 a' hs1;exact hy w0 E0 w' E2 a' hh hs2 ((hg.trans g1).trans g2)
  ·exact I3 hh hs1 (hg.trans g1) hl)
def oq.deferred{fn:Func}{H:zl}{i:Nat}{oM oD:Oper}{cl:Call}{k:Tmp}{g:FuncId}{t:List C}{Hs:zl}{regs:List (Nat×Array Oper)}{R:C->zl->Prop}
 (hop:oD.op=.defer cl)(hcl:cl.callee=.value (.tmp k))(hca:cl.args= #[])(hgu:oD.guard=none)(hdst:oD.dst=none)(hcb:qm P g=true)
 (h:mw P #[oM,oD] [oM] t Hs λt1 H1=>∃caps,t1[k]?=some (.fn g [] caps)/\Jv P regs t1 H1 λt2 H2=>∃H3,BR P g H2 caps H3/\Ef P fn H R ⟨t2,H3⟩):
  oq P fn H (.seq (.region i #[oM,oD] false) (GJ regs)) ⟨t,Hs⟩ R:=λw0 E0 w E a hh hs hg=>by
 refine wpIn_seq (wpIn_region_list ?_);refine GL (rest:=[oD]) h none hs.heap hs.tmps λt1 H1 w1 E1 a1 ⟨caps,hk,ht⟩ h1 h2 h3 g1=>?_
 unfold wpListIn;rw[gC (by unfold Region.wanted;rw[hgu])];obtain⟨u,hu,hL⟩:=h2.get hk;rw[pB]at hu
 obtain⟨zs,hv,h5,h6⟩:∃zs,u=.func (.func g) #[] zs/\caps.length=zs.size/\(∀(i:Nat) c y,caps[i]?=some c->zs[i]?=some y->L E1 c y):=by
  cases hL with
  |fn f first caps ys zs h1 h2 h3 h4=>exact⟨zs,by rw[show ys= #[] from rO h1.symm],h2,h4⟩
 have hev:a1.eval (.tmp k)=.func (.func g) #[] zs:=by
  show a1.tmps.getD k undef=_;rw[pJ,hu,hv]
  rfl
 have hr:(execOp a1.eval oD).run P w1=.ok (.defer { target:=.fn (.func g) zs,args:= #[] }) w1:=by
  unfold execOp;simp[hop,resolve,hcl,hca,hev,Deferred.ofValue]
 unfold Oper.wpIn;refine⟨λ_ _=>trivial,?_⟩;rw[show(fw none).round=none from rfl,Oper.semAt_none,hr,Oper.uponIn_defer,hdst];refine wpListIn_nil (OA ht h1 h2 λt2 H2 w2 E2 a2 ⟨H3,hD,hlv⟩ h7 h8 h9 g2=>?_);have h9:a2.defers={ target:=.fn (.func g) zs,args:= #[] }::a.defers:=h9.trans (by show _::a1.defers=_;rw[h3]);have gB:jK H.length w0 E0 H w2 E2 H2:=hg.trans ((g1.trans g2).iM tG);have hM:Marks w0.heap.size w2 a.defers:=hs.defers.grow hs.heap (g1.trans g2);show LeavesInM (fw none) 0 P fn a2.tmps _ a2.defers .returning w2;rw[h9];refine⟨aj,.inr ⟨λh=>aR,.func g,zs,g,zs,rfl,?_,λ_ _=>trivial,?_⟩⟩
 ·unfold qm at hcb;split at hcb
  rotate_left
  ·cases hcb
  rename_i fng hfn;simp only[gH,pO]at hcb;have hname : fng.name ≠ "runtime.NumGoroutine" := by simpa using hcb.1
  have hbody:fng.body≠none:=bD
  simp[invoke,callFunc,hfn,hname,hbody]
 have e2:LL E2 caps zs.toList:=⟨aq h5,λi c y e1 e2=>(h6 i c y e1 uZ).mono g2.le⟩;refine(hD .returning w2 E2 zs h7 e2).mono ?_;rintro e u' w3 ⟨rfl,v,E3,rfl,h10,g3⟩;have hb:H.length<=H2.length:=by have:=hs.base;have:=(g1.trans g2).le.n;rw[hs.heap.n,h7.n]at this;omega
 have hs3:xU H.length w0.heap.size w3 E3 ⟨t2,H3⟩ { a2 with defers:=a.defers }:=⟨h10,h8.mono g3.le,hM.grow h7 g3,by have:=g3.le.n;rw[h7.n,h10.n]at this;exact pM hb this⟩;exact I3 hh hs3 (gB.trans (g3.iM (by rw[h7.n];exact hb))) hlv
def qs.Y7{f:FuncId}{fn:Func}{c:Code}{H:zl}{args:List C}{R:C->zl->Prop}(hf:P.funcs[f]?=some fn)(hb:fn.body=some c)(h:oq P fn H c ⟨entry fn args,H⟩ R):qs P f H args R:=λw E vs hh hl=>
 (callsIn_wide (n:=0)).1 (callsIn_of_wp_marks hf hb trivial (h w E w E _ hh ⟨hh,Ir hl,gJ _,gJ _⟩ (jK.refl H.length w E H)))
def BR.zI{f:FuncId}{fn:Func}{c:Code}{H H':zl}{args:List C}(hf:P.funcs[f]?=some fn)(hb:fn.body=some c)
 (h:wpA P H.length c (entry fn args) H λex t1 H1=>(ex=.ret\/ex=.normal)/\∃s2 r,zp H.length ⟨t1,H1⟩ s2/\vJ P fn s2=some r/\s2.H=H'):BR P f H args H':=
 .kQ hf hb ((jD h).mono λex s1 h1=>h1)
def oq.JT{fn:Func}{H Hs:zl}{x y:Code}{t:List C}{R:C->zl->Prop}(h:wpA P H.length x t Hs λex t1 H1=>(ex=.normal/\∃t2 H2,zp H.length ⟨t1,H1⟩ ⟨t2,H2⟩/\oq P fn H y ⟨t2,H2⟩ R)\/(ex=.ret/\Ef P fn H R ⟨t1,H1⟩)):oq P fn H (.seq x y) ⟨t,Hs⟩ R:=
 .seq ((jD h).mono λex s1 h1=>h1.imp (λ⟨e,t2,H2,hw,hr⟩=>⟨e,_,hw,hr⟩) id)
end
def oG(H:zl)(id:Nat):zl:=H.modify id λ_=>⟨0,0,0,[],0⟩
def wu(H:zl)(id j:Nat):(oG H id)[j]?=(H[j]?).map λob=>if id=j then ⟨0,0,0,[],0⟩ else ob:=by
 unfold oG;rw[pZ]
 rfl
def wL{H:zl}{id:Nat}{id':Nat}{p:List fZ}{x:Nat×List (List C)}(h:qb (oG H id) id' p=some x):id'≠id/\qb H id' p=some x:=by
 obtain⟨ob,ho,hk,hg⟩:=jn h;rw[wu]at ho;cases hx:H[id']? with
 |none=>rw[hx]at ho;cases ho
 |some ob0=>
  rw[hx]at ho;simp only[gL,gV]at ho;by_cases hid:id=id'
  ·subst hid;simp at ho;subst ho;simp at hk
  ·rw[gu hid]at ho;subst ho;refine⟨Ne.symm hid,?_⟩;unfold qb;rw[hx];simp only[hk,if_true];exact hg
def qg.gone{w:World}{E:Env}{H:zl}(h:qg w E H)(id:Nat):qg w E (oG H id) where
 n:=by rw[h.n];simp[oG]
 fJ id' ob p sz rows hob hx:=by
  obtain⟨h1,h2⟩:=wL hx;rw[wu]at hob;cases hx':H[id']? with
  |none=>rw[hx']at hob;cases hob
  |some ob0=>
   rw[hx']at hob;simp only[gL,gV,gu (Ne.symm h1)]at hob;subst hob;exact h.fJ id' _ p sz rows hx' h2
 inj id1 p1 id2 p2 x y hx hy he:=h.inj id1 p1 id2 p2 x y (wL hx).2 (wL hy).2 he
 qy:=h.qy
 sep id' p x o u hx hu:=by
  obtain⟨h1,h2⟩:=wL hx;obtain⟨e1,ob,e2,e3⟩:=h.sep id' p x o u h2 hu;refine⟨e1,ob,?_,e3⟩;rw[wu,e2];simp[Ne.symm h1]
 ty id' ob hob hk:=by
  rw[wu]at hob;cases hx':H[id']? with
  |none=>rw[hx']at hob;cases hob
  |some ob0=>
   rw[hx']at hob;simp only[gL,gV]at hob;by_cases hid:id=id'
   ·rw[gC hid]at hob;subst hob;simp at hk
   ·rw[gu hid]at hob;subst hob;exact h.ty id' _ hx' hk
 fz id' ob hob:=by
  rw[wu]at hob;cases hx':H[id']? with
  |none=>rw[hx']at hob;cases hob
  |some ob0=>
   rw[hx']at hob;simp only[gL,gV]at hob;have h0:=h.fz id' ob0 hx';subst hob;split
   ·simp
   ·exact h0
def vT{H:zl}{id i:Nat}{ob:Ob}(h:(oG H id)[i]?=some ob)(hk:ob.kind=4):H[i]?=some ob:=by
 rw[wu]at h;cases hx:H[i]? with
 |none=>rw[hx]at h;cases h
 |some o=>
  rw[hx]at h;simp only[gL,gV]at h;split at h
  ·subst h;cases hk
  ·rw[h]
def zp.gone{B:Nat}{s:S}(id:Nat):zp B s ⟨s.tmps,oG s.H id⟩:=λm w E a hs=>by
 have hg:∀{i b},qL E (oG s.H id) i b->qL E s.H i b:=λ⟨ob,cap,h1,h2,h3,h4⟩=>⟨ob,cap,vT h1 h2,h2,h3,h4⟩
 have hr:∀{i b},jJ (oG s.H id) i b->jJ s.H i b:=λ⟨ob,o,t,h1,h2,h3,h4⟩=>⟨ob,o,t,vT h1 h2,h2,h3,h4⟩
 have h0:∀{b},jm E (oG s.H id) b->jm E s.H b:=λ⟨i,p,x,h1,h2⟩=>⟨i,p,x,(wL h1).2,h2⟩
 refine⟨E,⟨⟨hs.heap.base.gone id,?_⟩,hs.tmps,hs.defers,by have:=hs.base;simp[oG];omega⟩,⟨Env.oE.refl B E,rfl,rfl,rfl,gJ _,λ_ _ _=>rfl,λ_ _ _ h=>.inl h,?_⟩⟩
 ·exact {
   val:=λi ob h1 h2=>hs.heap.fy.val i ob (vT h1 h2) h2
   fJ:=λi b ob h1 h2=>hs.heap.fy.fJ i b ob (hg h1) (by obtain⟨ob2,_,h3,h4,_⟩:=h1;rw[h2]at h3;cases h3;exact vT h2 h4)
   sep:=λi b h1 h2=>hs.heap.fy.sep i b (hg h1) (h0 h2)
   inj:=λi j b h1 h2=>hs.heap.fy.inj i j b (hg h1) (hg h2)
   st:=λi b ob o u h1 h2 h3=>hs.heap.fy.st i b ob o u (hg h1) (by obtain⟨ob2,_,h4,h5,_⟩:=h1;rw[h2]at h4;cases h4;exact vT h2 h5) h3
   top:=λi ob k u h1 h2 h3=>hs.heap.fy.top i ob k u (vT h1 h2) h2 h3
   iL:=λi ob o t h1 h2 h3=>hs.heap.fy.iL i ob o t (vT h1 h2) h2 h3
   w6:=λi j b h1 h2=>hs.heap.fy.w6 i j b (hr h1) (hr h2) }
 ·rintro b (hb|⟨i,hb|hb⟩)
  ·exact .inr (.inl (h0 hb))
  ·exact .inr (.inr ⟨i,.inl (hg hb)⟩)
  ·exact .inr (.inr ⟨i,.inr (hr hb)⟩)
def qs.zx4{P:Program}{f:FuncId}{H H2:zl}{args:List C}{r:C}(hle:H.length<=H2.length)(h1:qs P f H args λr1 H1=>zp H.length ⟨[r1],H1⟩ ⟨[r],H2⟩):zb P f H args r H2:=λw E vs hh hl0=>by
 refine(h1 w E vs hh hl0).mono ?_;rintro e w' ⟨r1,H1,v,E',hw,h0,h2,h3,g⟩;have hHH:H.length<=H1.length:=bT
 obtain⟨E2,hs,g2⟩:=hw 0 w' E' ⟨#[v],[]⟩ ⟨h2,LL.one h3,pb _,hHH⟩;have hn2:=hs.heap.n;refine⟨v,E2,h0,hs.heap,hs.tmps.cons_inv.1,⟨⟨by rw[hh.n,hn2];exact hle,λid hops hi=>?_,λid hops hi=>?_,λb o u hu=>g2.le.St _ _ _ (g.le.St _ _ _ hu),λid k u hi hu=>?_⟩,g2.os.trans g.os,g2.tape.trans g.tape,g2.output.trans g.output,pM g.size g2.size,?_,?_,?_⟩⟩
 ·rw[hh.n]at hi;exact(g2.le.β id hops hi).trans (g.le.β id hops tU)
 ·rw[hh.n]at hi;exact(g2.le.κ id hops hi).trans (g.le.κ id hops tU)
 ·rw[hh.n]at hi;exact g2.le.G id k u hi (g.le.G id k u tU hu)
 ·intro k hk ho;exact dj
 ·intro b o u hu;rcases g2.jS b o u hu with h1|h1|h1
  ·exact g.jS b o u h1
  ·exact .inr (.inl (pM g.size h1))
  ·rcases g.own b h1 with h4|h4
   ·exact .inr (.inl h4)
   ·exact .inr (.inr h4)
 ·intro b hb;rcases g2.own b hb with h1|h1
  ·exact .inl (pM g.size h1)
  ·exact g.own b h1
end Go.Ab
namespace Go.Wor
open Go.Ab Go.Proofs Tryz Go.Hy Go.Gat Go.Nam Go.Hos Go.Con Go.Sna
def EV{c:ib}(h:x3 c):oZ (qa c).1:=by
 unfold qa;split
 ·exact⟨aj,aj,aj⟩
 ·refine⟨h.zd,⟨aq h.zO.1,λr hr=>?_⟩,h.zk⟩;simp only[pd]at hr;obtain⟨q,hq,rfl⟩:=hr;exact⟨(h.zO.2 q hq).2.1,(h.zO.2 q hq).2.2.1⟩
def oO(c:ib):Int:=if (qa c).2.1≠0 then (qa c).2.1 else (q8 (qa c).1).2
def nZ(c:ib):fB:=(q8 (qa c).1).1
def zxM(l:List fB):((l.map zK).all λx=>x.all zy)=true:=by
 rw[gI];intro r hr;obtain⟨x,_,rfl⟩:=pd.1 hr
 rfl
abbrev Dl(m:fq)(was now:Int):fq:={ m with version:=was,zg:=0,end_:=0,other:=0,slot:=0,i:=now,pc:=1 }
def Q4(w:Wor)(v:fB)(hn:w.ze.length<1000000000):tn 157 [⟨1,38,8,[[I w.zr,I w.current,I w.lock,lI w.pins,.sl 1 [] 5 0 (w.ze.length) false,lL w.zd,ig w.counts,lR w.zu]],0⟩,⟨2,69,5,(w.ze).map zK,0⟩] [Cv v,.ref 0 [] 8 0 0] (.fC [I w.current,I w.ze.length]) [⟨1,38,8,[[I w.zr,I w.ze.length,I w.lock,lI w.pins,.sl 2 [] 5 0 ((w.ze.length+1)) false,lL w.zd,ig w.counts,lR w.zu]],0⟩,⟨0,0,0,[],0⟩,⟨2,69,5,(w.ze++[v]).map zK,0⟩]:=by
 have hap:(Ob.mk 2 69 5 (w.ze.map zK) 0).rows++[zK v]=(w.ze++[v]).map zK:=bc
 refine qe (fn:=f157) func157 rfl aj (uH ?_);refine uE ?_;refine⟨aj,zxM _,ay,by show _*104<=_;simp;omega,dd ?_⟩;refine⟨.inl rfl,_,_,zp.gone 1,rfl,?_⟩;rw[<-hap];exact zp.fD [0,1,3] [0] _ _ rfl rfl rfl rfl
def Sf(w:Wor)(m:fq)(c:Int)(hc:x3 m.op.config)(he:oO m.op.config=0)(hn:w.ze.length<1000000000):
  tn 156 [⟨1,95,44,[zE (m)],0⟩,⟨1,38,8,[[I w.zr,I w.current,I w.lock,lI w.pins,.sl 2 [] 5 0 (w.ze.length) false,lL w.zd,ig w.counts,lR w.zu]],0⟩,⟨2,69,5,(w.ze).map zK,0⟩] [.ref 0 [] 44 0 0,.fn 157 [] [.ref 1 [] 8 0 0],I c] (Ce { fV m 6 3 w.ze.length with z5:=true }) [⟨1,95,44,[zE (Dl m w.current w.ze.length)],0⟩,⟨1,38,8,[[I w.zr,I w.ze.length,I w.lock,lI w.pins,.sl 3 [] 5 0 ((w.ze.length+1)) false,lL w.zd,ig w.counts,lR w.zu]],0⟩,⟨0,0,0,[],0⟩,⟨2,69,5,(w.ze++[nZ m.op.config]).map zK,0⟩]:=by
 have hb:=yy m.op.config hc.k;have hl:=K5 _ (EV hc)
 have h1:(qa m.op.config).2.1=0:=by
  unfold oO at he;split at he
  ·contradiction
  ·rename_i hx;omega
 have h2:(q8 (qa m.op.config).1).2=0:=by
  unfold oO at he
  rwa [gu aw]at he
 unfold nZ;generalize qa m.op.config=bv at hb hl h1 h2 ⊢;obtain⟨sn,e1,e2⟩:=bv;cases h1
 have hl:tn 85 [] [Cs sn] (tV (q8 sn)) []:=hl;have h2:(q8 sn).2=0:=h2;show tn 156 _ _ _ [_,_,_,⟨2,69,5,(w.ze++[(q8 sn).1]).map zK,0⟩];generalize q8 sn=cv at hl h2 ⊢;obtain⟨v,e3⟩:=cv;cases h2
 have hb:tn 56 [] [Cf m.op.config] (.fC [Cs sn,I 0,I e2]) []:=hb;have hl:tn 85 [] [Cs sn] (.fC [Cv v,I 0]) []:=hl;refine qe (fn:=f156) func156 rfl aj (uH ?_);refine ah hb ?_;(refine ya (dd ?_))
 refine ah hl ?_;(refine ya (dd ?_))
 refine af [1,2] (Q4 w v hn) ?_;refine .inl ⟨⟨false,[0,1,2,3,4,5,6],[3],[]⟩,au,uH ?_⟩;refine hZ ?_
 refine af [0] (Dn (Dl m w.current w.ze.length) 6 3 w.ze.length) ?_;exact⟨.inl rfl,_,_,.refl _,rfl,zp.fD [0,1,2,8] [0] _ _ rfl rfl rfl rfl⟩
abbrev Ax(f:Int):fF:=⟨9,0,0,0,0,0,f,⟨0,0,0,0,0,0⟩⟩
def Tm(m:fq)(e:fx)(f:Int):BR prog 208 [⟨1,95,44,[zE (m)],0⟩,⟨1,243,1,[[.ref 0 [] 44 0 0]],0⟩,⟨1,55,23,[zS (e)],0⟩,⟨1,66,3,[ql ⟨[],[],[]⟩],0⟩,⟨1,39,1,[[I f]],0⟩] [.ref 1 [] 1 0 0,.ref 2 [] 23 0 0,.ref 4 [] 1 0 0] [⟨1,95,44,[zE ({ m with done:=true,answer:=Ax f })],0⟩,⟨1,243,1,[[.ref 0 [] 44 0 0]],0⟩,⟨1,55,23,[zS ({ e with done:=true,answer:=Ax f })],0⟩,⟨1,66,3,[ql ⟨[],[],[]⟩],0⟩,⟨1,39,1,[[I f]],0⟩]:=by
 refine BR.zI (fn:=f208) func208 rfl (uH ?_);exact⟨.inr rfl,_,_,.refl _,rfl,rfl⟩
def QS(m:fq)(c f:Int)(hc:x4 m.op.config)(hf:(qa m.op.config).2.1=f)(h0:f≠0):
  tn 156 [⟨1,95,44,[zE (m)],0⟩] [.ref 0 [] 44 0 0,.fn 157 [] [.za],I c] (Ce { fV m 1 3 c with z5:=true,done:=true,answer:=Ax f }) [⟨1,95,44,[zE ({ m with done:=true,answer:=Ax f })],0⟩]:=by
 have hb:=yy m.op.config hc
 have h2:(qa m.op.config).1=⟨[],[],[]⟩:=by
  unfold qa at hf ⊢;split
  ·rfl
  ·rename_i h;rw[gu h]at hf;exact absurd hf.symm h0
 generalize qa m.op.config=bv at hb hf h2;obtain⟨sn,e1,e2⟩:=bv;cases hf
 cases h2
 have hb:tn 56 [] [Cf m.op.config] (.fC [Cs ⟨[],[],[]⟩,I e1,I e2]) []:=hb;refine qs.zx4 (gJ _) (qs.Y7 (fn:=f156) func156 rfl (.JT ?_));conv=>whnf
 refine .inl ⟨rfl,_,_,.refl _,.JT (uH ?_)⟩;refine ah hb ?_;refine .inl ⟨rfl,_,_,.refl _,.JT (uH ?_)⟩;refine⟨λh=>absurd h (aq h0),λ_=>dd ?_⟩;refine .inl ⟨rfl,_,_,.refl _,?_⟩;refine oq.deferred (g:=208) (regs:=OF (behind 4 ((f156.body).getD .skip))) rfl rfl rfl rfl rfl rfl (uH ?_);refine⟨_,rfl,uH ?_⟩;refine af [0] (Dn m 1 3 c) ?_;refine⟨_,Tm m { fV m 1 3 c with z5:=true } e1,?_⟩;exact⟨_,_,.refl _,rfl,cE 1⟩
def RJ(w:Wor)(h:jf w):tn 152 [] [Cw w] (.agg (il w 0)) [⟨2,69,5,(w.ze).map zK,0⟩]:=by
 refine BO (fn:=f152) func152 rfl (uH ?_);refine ah (vt w.pins h.pins) ?_;refine af [] (Bc w.ze h.ze.1 λv hv=>jR v (h.ze.2 v hv)) ?_;refine ah (ky w.zd h.zd) ?_;refine af [] (Bb w.counts h.counts.1 λr hr=>yh r (h.counts.2 r hr)) ?_;refine ah (Cn w.zu h.zu) ?_;refine⟨.inl rfl,_,_,zp.zV 1 0 6 rfl rfl rfl rfl (.inr rfl) rfl aj (shut_map (enc:=zP) (λ_=>rfl) w.counts) (z6 rfl),rfl,?_⟩;exact zp.fD [3] [0] _ _ rfl rfl rfl (zc rfl (zc rfl (zc rfl (zc rfl (zc (zj λr hr c hc=>((shut_map (enc:=zP) (λ_=>rfl) w.counts) r hr c hc).2) rfl)))))
def SN(w:Wor)(m:fq)(sw:jf w)(ok:iC w)(hl:i64 m.listen)(hpc:m.pc=0)(hs:z7 w m=true)(hc:x3 m.op.config)(he:oO m.op.config=0):
  tn 128 [] [Cw w,Cm m] (.fC [Cw { w with current:=w.ze.length,ze:=w.ze++[nZ m.op.config] },Cm (Dl m w.current w.ze.length),Ce { fV m 6 3 w.ze.length with z5:=true }]) []:=by
 refine ab func128 ?_;(repeat (first|refine uA ?_|refine uB ?_))
 refine ah (zR w m ok hl) ?_;refine⟨λ_=>dd ?_,λh=>absurd ((hs).symm.trans h:true=false) ar⟩;(repeat (first|refine uA ?_|refine uB ?_))
 refine tc ?_
 refine af [] (RJ w sw) ?_;(repeat (first|refine uA ?_|refine uB ?_))
 refine af [1,6,5] (Sf w m w.current hc he sw.ze.1) ?_;refine .inl ⟨⟨false,[0,1,2],[6,1,8],[]⟩,au,uH ?_⟩;refine hZ ?_
 exact⟨.inl rfl,_,zp.zV 2 0 4 rfl rfl rfl rfl (.inr rfl) aj aj (shut_map (enc:=zK) (λ_=>rfl) _) (z6 rfl),rfl⟩
def Q7(w:Wor)(m:fq)(f:Int)(sw:jf w)(ok:iC w)(hl:i64 m.listen)(hpc:m.pc=0)(hs:z7 w m=true)(hc:x4 m.op.config)(hf:(qa m.op.config).2.1=f)(h0:f≠0):
  tn 128 [] [Cw w,Cm m] (.fC [Cw w,Cm { m with done:=true,answer:=Ax f },Ce { fV m 1 3 w.current with z5:=true,done:=true,answer:=Ax f }]) []:=by
 refine ab func128 ?_;(repeat (first|refine uA ?_|refine uB ?_))
 refine ah (zR w m ok hl) ?_;refine⟨λ_=>dd ?_,λh=>absurd ((hs).symm.trans h:true=false) ar⟩;(repeat (first|refine uA ?_|refine uB ?_))
 refine tc ?_
 refine ah (qE w sw) ?_;(repeat (first|refine uA ?_|refine uB ?_))
 refine af [1] (QS m w.current f hc hf h0) ?_;refine .inl ⟨⟨false,[0,1,2],[5,1,6],[]⟩,au,uH ?_⟩;refine hZ ?_
 exact uI
end Go.Wor
