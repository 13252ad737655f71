import Derived.Test.YtamgiodaflkbhaaGreatTU
set_option linter.all false
set_option maxRecDepth 100000
set_option maxHeartbeats 40000000
namespace Go.Ab
variable{i:TypeInfo}{e:TypeId}{E:Env}{sz:Nat}{rows:List (List C)}{vals:List Value}{c:C}{w:World}{ob:Ob}
section
variable {P:Program} {o:Oper} {ρ:Operand->C} {H:zq}
structure mL(E:Env)(sz:Nat)(rows:List (List C))(vals:List Value):Prop where
 len:vals.length=rows.length*sz
 row:∀r∈rows,r.length=sz
 cell:∀i k c,cellAt rows i k=some c->∃u,vals[i*sz+k]?=some u/\L E c u
 one:∀u∈vals,u.oneCell'=true
def yX.kept(h:yX E sz rows vals):mL E sz rows vals:=
 ⟨h.len,h.row,λi k c hc=>let ⟨u,h1,h2⟩:=h.cell i k c hc;⟨u,h1,h2.mono E.Bz⟩,h.one⟩
def mL.mono{E E':Env}(hle:E.le E'){sz:Nat}{rows:List (List C)}{vals:List Value}(h:mL E sz rows vals):mL E' sz rows vals:=
 ⟨h.len,h.row,λi k c hc=>let ⟨u,h1,h2⟩:=h.cell i k c hc;⟨u,h1,h2.mono hle⟩,h.one⟩
def mL.append{rows':List (List C)}{vals':List Value}(h:mL E sz rows vals)(h':mL E sz rows' vals'):mL E sz (rows++rows') (vals++vals') where
 len:=by rw[pW,pW,h.len,h'.len,rp]
 row r hr:=by rcases pw.1 hr with hr|hr;exact h.row r hr;exact h'.row r hr
 cell i k c hc:=by
  by_cases hi:i<rows.length
  .have hc2:cellAt rows i k=some c:=by unfold cellAt at hc|-;rw[gW hi]at hc;exact hc
   obtain⟨u,h1,h2⟩:=h.cell i k c hc2;exact⟨u,by rw[gW (gN.1 h1).1];exact h1,h2⟩
  .have hc2:cellAt rows' (i-rows.length) k=some c:=by unfold cellAt at hc|-;rw[pq an]at hc;exact hc
   obtain⟨u,h1,h2⟩:=h'.cell _ k c hc2;refine⟨u,?_,h2⟩
   have e:i*sz+k=vals.length+((i-rows.length)*sz+k):=by
    have:i*sz=rows.length*sz+(i-rows.length)*sz:=by rw[<-rp];congr 1;omega
    rw[h.len];omega
   rw[e,pq an,Nat.add_sub_cancel_left];exact h1
 one u hu:=by rcases pw.1 hu with hu|hu;exact h.one u hu;exact h'.one u hu
def kK(sz n:Nat)(vals:List Value):List (List C):=chunk sz n (vals.map .v)
def DG{n:Nat}{i k:Nat}(h:cellAt (kK sz n vals) i k=some c):i<n/\k<sz/\∃u,vals[i*sz+k]?=some u/\c=.v u:=by
 unfold cellAt kK at h;by_cases hi:i<n
 .rw[vD _ _ _ _ hi]at h;simp only[pJ]at h;rw[pF]at h;split at h
  .rename_i hk;rw[rj,gM]at h;obtain⟨u,h1,h2⟩:=pN.1 h;exact⟨hi,hk,u,h1,h2.symm⟩
  .cases h
 .rw[rq (by rw[jT];omega)]at h;cases h
def Lg{n:Nat}(hl:vals.length=n*sz):∀r∈kK sz n vals,r.length=sz:=λr hr=>by
 obtain⟨i,hi⟩:=pA.1 hr;unfold kK at hi;have eP:i<n:=by have:=(gN.1 hi).1;rw[jT]at this;exact dW
 rw[vD _ _ _ _ eP]at hi;cases hi
 have:(i+1)*sz<=n*sz:=pQ _ eP;rw[rp]at this;simp;omega
def F1{n:Nat}:∀r∈kK sz n vals,∀c∈r,zG c=true:=λr hr c hc=>by
 obtain⟨i,hi⟩:=pA.1 hr;obtain⟨k,hk⟩:=pA.1 hc;obtain⟨_,_,u,_,rfl⟩:=DG (i:=i) (k:=k) (by unfold cellAt;rw[hi];exact hk)
 rfl
def Vk{n:Nat}(hl:vals.length=n*sz)(h1:∀u∈vals,u.oneCell'=true):yX E sz (kK sz n vals) vals where
 len:=by rw[kK,jT];exact hl
 row:=Lg hl
 cell i k c hc:=by
  obtain⟨_,_,u,h2,rfl⟩:=DG hc;exact⟨u,h2,.v u (h1 u (gT h2))⟩
 one:=h1
def qj.same{H H':zq}(h:∀b,qY E H' b->qY E H b):qj w E H w E H':=
 ⟨Env.le.refl E,λ_ _ _=>V,rfl,rfl,rfl,pj _,λ_ _ _=>V,λ_ _ _ h=>.inl h,λb hb=>.inr (h b hb)⟩
def z8.L6(hh:z8 w E H){id:Nat}(hob:H[id]?=some ob)(hk:ob.kind=1\/ob.kind=2)(hno:∀r∈ob.rows,∀c∈r,zG c=true):
  ∃cur e,w.heap[E.β id []]?=some (.cells cur e (0,0))/\cur.size=E.κ id []*ob.sz/\ob.rows.length<=E.κ id []/\mL E ob.sz ob.rows (cur.toList.take (ob.rows.length*ob.sz)):=by
 have hB:=hh.fb id ob [] _ _ hob (vG hob hk);obtain⟨cur,e,hg,hcs,hcell⟩:=hB.fb;have hle:ob.rows.length*ob.sz<=cur.size:=by rw[hcs];exact pQ _ hB.len
 refine⟨cur,e,hg,hcs,hB.len,⟨ar,hB.row,λi k c hc=>?_,λu hu=>?_⟩⟩
 .obtain⟨u,h1,h2⟩:=hcell i k c hc;rw[qN.loose (B9 hno hc)]at h2;obtain⟨h3,h4⟩:=Cg hB.row hc;have:(i+1)*ob.sz<=ob.rows.length*ob.sz:=pQ _ h3;rw[rp]at this;exact⟨u,by rw[pF,gS an,pK];exact h1,h2.1.mono (E.GU _)⟩
 .obtain⟨j,hj⟩:=pA.1 hu;rw[pF]at hj;split at hj
  rotate_left
  .cases hj
  rename_i eP;obtain⟨h1,h2,h3⟩:=wT eP;obtain⟨c,hc⟩:=kc hB.row h1 h2;obtain⟨u',hu',hok⟩:=hcell _ _ c hc;rw[qN.loose (B9 hno hc)]at hok;rw[h3]at hu';rw[pK,hu']at hj;cases hj
  exact hok.2
def z8.Xu(hh:z8 w E H){id:Nat}(hob:H[id]?=some ob)(hk:ob.kind=1\/ob.kind=2)(hno:∀r∈ob.rows,∀c∈r,zG c=true){cur:Array Value}
 (hg:w.heap[E.β id []]?=some (.cells cur e (0,0)))(hr:mL E ob.sz ob.rows (cur.toList.take (ob.rows.length*ob.sz))):
  z8 w E (H.set id ⟨2,e,ob.sz,kK ob.sz ob.rows.length (cur.toList.take (ob.rows.length*ob.sz)),ob.fz⟩)/\qj w E H w E (H.set id ⟨2,e,ob.sz,kK ob.sz ob.rows.length (cur.toList.take (ob.rows.length*ob.sz)),ob.fz⟩):=by
 refine⟨hh.nX hob hk (.inr V) (λ_=>⟨cur,hg⟩) V V (jT _ _ _) (Lg hr.len) hno F1 λi k c c' u e1 e2 hl hu=>?_,qj.same λb hb=>?_⟩
 .obtain⟨h1,h2,v,h3,rfl⟩:=DG e2;have hv:=hr.one v (gT h3);rw[pF]at h3;split at h3
  .unfold World.cell? at hu;rw[hg]at hu;simp at hu h3;rw[h3]at hu;cases hu
   exact .v _ hv
  .cases h3
 .obtain⟨i,p,x,hx,he⟩:=hb;rcases y6 hob hk (ob':=⟨2,e,ob.sz,kK ob.sz ob.rows.length (cur.toList.take (ob.rows.length*ob.sz)),ob.fz⟩) F1 hx with⟨_,h2⟩|⟨rfl,rfl,_,h2⟩
  .exact⟨i,p,x,h2,he⟩
  .exact⟨_,[],_,h2,he⟩
def z8.XU(hh:z8 w E H)(ty:TypeId){id:Nat}{fz:Nat}(hob:H[id]?=some ⟨2,e,sz,kK sz rows.length vals,fz⟩)(hr:mL E sz rows vals)
 (hno:∀r∈rows,∀c∈r,zG c=true):z8 w E (H.set id ⟨1,ty,sz,rows,fz⟩)/\qj w E H w E (H.set id ⟨1,ty,sz,rows,fz⟩):=by
 refine⟨hh.nX hob (.inr V) (.inl V) (λh=>by cases h) rfl rfl (jT _ _ _).symm hr.row F1 hno λi k c c' u e1 e2 hl hu=>?_,qj.same λb hb=>?_⟩
 .obtain⟨h1,h2,v,h3,rfl⟩:=DG e1;obtain⟨v',h4,h5⟩:=hr.cell i k c' e2;rw[h3]at h4;cases h4
  have hl:L (E.at 2) (.v v) u:=hl;cases hl
  simpa [Env.at] using h5
 .obtain⟨i,p,x,hx,he⟩:=hb;rcases y6 hob (.inr rfl) (ob':=⟨1,ty,sz,rows,fz⟩) hno hx with⟨_,h2⟩|⟨rfl,rfl,_,h2⟩
  .exact⟨i,p,x,h2,he⟩
  .exact⟨_,[],_,h2,he⟩
def Cj{H H':zq}(h:∀(i:Nat) (ob':Ob),H'[i]?=some ob'->ob'.kind≠0->H[i]?=some ob'){id:Nat}{p:List fA}{x:Nat×List (List C)}(hx:qd H' id p=some x):qd H id p=some x:=by
 obtain⟨ob,h1,h2,h3⟩:=qU hx;unfold qd;rw[h _ _ h1 an];simp only[h2,if_true];exact h3
def z8.live{H H':zq}(hh:z8 w E H)(hlen:H'.length=H.length)(h:∀(i:Nat) (ob':Ob),H'[i]?=some ob'->ob'.kind≠0->H[i]?=some ob')(hf:∀(i:Nat) (ob':Ob),H'[i]?=some ob'->ob'.fz<=ob'.rows.length):
  z8 w E H'/\qj w E H w E H':=by
 refine⟨⟨by rw[hlen];exact hh.n,λid ob p sz rows hob hx=>?_,λid p id' p' x y hx hy=>hh.inj id p id' p' x y (Cj h hx) (Cj h hy),hh.qn,λid p x o' u hx hu=>?_,λid ob hob hk=>hh.ty id ob (h id ob hob an) hk,hf⟩,qj.same λb ⟨i,p,x,hx,he⟩=>⟨i,p,x,Cj h hx,he⟩⟩
 .obtain⟨ob1,h1,h2,_⟩:=qU hx;rw[hob]at h1;cases h1
  exact hh.fb id ob p sz rows (h id ob hob an) (Cj h hx)
 .obtain⟨h1,ob,h2,h3⟩:=hh.sep id p x o' u (Cj h hx) hu;obtain⟨ob1,h4,h5,_⟩:=qU hx;have:=h id ob1 h4 an;rw[h2]at this;cases this
  exact⟨h1,ob,h4,h3⟩
def z8.XX(ty:TypeId){H T:zq}{id:Nat}{fz:Nat}{R:List (List C)}(hA:z8 w E (T++[⟨2,e,sz,kK sz R.length vals,fz⟩]))(hT:T.length=H.length)(hTH:∀j,j≠id->T[j]?=H[j]?)
 (hfz:∀(j:Nat) (ob':Ob),H[j]?=some ob'->ob'.fz<=ob'.rows.length)(eP:id<H.length)(hR:mL E sz R vals)(hno:∀r∈R,∀c∈r,zG c=true)(hf:fz<=R.length):
  z8 w E (H.set id ⟨0,0,0,[],0⟩++[⟨1,ty,sz,R,fz⟩])/\qj w E (T++[⟨2,e,sz,kK sz R.length vals,fz⟩]) w E (H.set id ⟨0,0,0,[],0⟩++[⟨1,ty,sz,R,fz⟩]):=by
 have hat:(T++[⟨2,e,sz,kK sz R.length vals,fz⟩])[H.length]?=some ⟨2,e,sz,kK sz R.length vals,fz⟩:=by rw[<-hT];simp
 obtain⟨hB,gB⟩:=hA.XU ty hat hR hno
 have hset:(T++[(⟨2,e,sz,kK sz R.length vals,fz⟩:Ob)]).set H.length (⟨1,ty,sz,R,fz⟩:Ob)=T++[⟨1,ty,sz,R,fz⟩]:=by
  rw[List.set_append,gP an,hT,r7];rfl
 rw[hset]at hB gB
 have hlast:∀(U:zq) (j:Nat) (ob':Ob),U.length=H.length->(U++[(⟨1,ty,sz,R,fz⟩:Ob)])[j]?=some ob'->¬j<H.length->j=H.length/\ob'=⟨1,ty,sz,R,fz⟩:=λU j ob' hU hj eP=>by
  have h5:=(gN.1 hj).1;simp at h5;have:j=H.length:=an
  subst this;rw[<-hU]at hj;simp at hj;exact⟨rfl,hj.symm⟩
 obtain⟨hC,gC⟩:=hB.live (H':=H.set id ⟨0,0,0,[],0⟩++[⟨1,ty,sz,R,fz⟩]) (by simp[hT]) (λj ob' hj h4=>by
  by_cases hjl:j<H.length
  .rw[gW an];rw[gW (ai hjl),pd]at hj;by_cases hij:id=j
   .rw[gS hij,gS eP]at hj;cases hj
    exact absurd V h4
   .rw[gP hij]at hj;rw[hTH j (Ne.symm hij)];exact hj
  .obtain⟨rfl,rfl⟩:=hlast _ j ob' ah hj hjl;rw[<-hT];simp) (λj ob' hj=>by
  by_cases hjl:j<H.length
  .rw[gW (ai hjl),pd]at hj;by_cases hij:id=j
   .rw[gS hij,gS eP]at hj;cases hj
    exact pj _
   .rw[gP hij]at hj;exact hfz j ob' hj
  .obtain⟨rfl,rfl⟩:=hlast _ j ob' ah hj hjl;exact hf)
 exact⟨hC,gB.trans gC⟩
def Ei(H:zq)(c:C)(sz:Nat)(rows:List (List C)):Prop:=
 xt H c=some (sz,rows)\/∃id ob full,c=.sl id [] sz 0 rows.length full/\H[id]?=some ob/\(ob.kind=1\/ob.kind=2)/\ob.sz=sz/\ob.rows=rows
def Ei.mem(hh:z8 w E H){v:Value}(hl:L E c v)(h:Ei H c sz rows)(hno:∀r∈rows,∀c∈r,zG c=true)(hne:rows≠[]):
  ∃a cap vals,v=.slice (some a) rows.length cap/\mL E sz rows vals/\∀(j:Nat) u,vals[j]?=some u->w.cell? (a.add j)=some u:=by
 rcases h with h|⟨id,ob,full,rfl,hob,hk,rfl,rfl⟩
 .rcases xD hh hl h with⟨e,_⟩|⟨a,cap,vals,h1,_,h2,h3⟩
  .exact absurd e hne
  .exact⟨a,cap,vals,h1,h2.kept,h3⟩
 .obtain⟨cur,e,hg,hcs,hlen,hr⟩:=hh.L6 hob hk hno;cases hl with
  |sl id hops sz lo len full cap hn hlen' hf hf'=>
   rw[s5];refine⟨_,cap,_,rfl,hr,λj u hu=>?_⟩;rw[j0];unfold World.cell?;rw[hg];rw[pF]at hu;split at hu
   .simpa using hu
   .cases hu
def VU(P:Program)(w:World)(t ty e e2:TypeId)(i:TypeInfo)(ht:P.underlying t=some (.slice e))(hi:P.info? e=some i)
 (g sLen sCap:Nat)(cur:Array Value)(hg:w.heap[g]?=some (.cells cur e2 (0,0)))
 (a:Addr)(m c:Nat)(news:List Value)(hl:news.length=m*i.size)(hnews:∀(j:Nat) u,news[j]?=some u->w.cell? (a.add j)=some u)(h1:∀u∈news,u.oneCell'=true)
 (hroom:sLen+m<=sCap)(hfit:sLen*i.size+news.length<=cur.size):
  (Builtin.append_ #[t,t] ty #[.slice (some ⟨g,0,none⟩) sLen sCap,.slice (some a) m c]).run P w=
   .ok (.slice (some ⟨g,0,none⟩) (sLen+m) sCap) (w.setRow g (cur.toList.take (sLen*i.size)++news++cur.toList.drop (sLen*i.size+news.length)).toArray):=by
 have hf:=run_firstCells_some (P:=P) w i.size m a m c news hl hnews;have hst:=run_storeCells_at P g (sLen*i.size) e2 news 0 cur w hg (ai hfit) h1;simp only[sQ]at hst;simp[Builtin.append_,run_underlying ht,sizeOf,typeInfo,hi,Builtin.lenOf,hroom,hf,Addr.add_lit,hst]
def qy.je(cl:Call)(ho:o.op=.call cl)(x y:Operand){z:Value}(ht:nP P cl x y e i z){id n:Nat}(hx:ρ x=.sl id [] i.size 0 n false)(hob:H[id]?=some ob)
 (hkd:ob.kind=1\/ob.kind=2)(hsz:ob.sz=i.size)(hn:ob.rows.length=n)(hno:∀r∈ob.rows,∀c∈r,zG c=true)
 {rows':List (List C)}(hy:Ei H (ρ y) i.size rows')(hno':∀r∈rows',∀c∈r,zG c=true)(hne:rows'≠[])(hm:n+rows'.length<=maxLen)(hb:(n+rows'.length)*i.bytes<=140737488355328):
  qy P o ρ H (.sl H.length [] i.size 0 (n+rows'.length) false) (H.set id ⟨0,0,0,[],0⟩++[⟨1,ob.ty,i.size,ob.rows++rows',ob.fz⟩]):=λw E σ hh hl K hk=>by
 subst hn;have h0:=hl x uV;have h1:=hl y uV;obtain⟨t,hu,hexec⟩:=y3 ho ht σ w;have hpos:0<rows'.length:=sT.2 hne;have hsmall:ob.rows.length+rows'.length<=9223372036854775807:=aQ
 obtain⟨a,cap,vals,e1,hrows,hmem⟩:=hy.mem hh h1 hno' hne;obtain⟨cur,e2,hg,hcs,hlκ,hro⟩:=hh.L6 hob hkd hno;obtain⟨hh2,g2⟩:=hh.Xu hob hkd hno hg hro;have hgb:=vG hob hkd
 have hxv:σ x=.slice (some ⟨E.β id [],0,none⟩) ob.rows.length (E.κ id []):=by
  rw[hx]at h0;generalize σ x=u at *;cases h0 with
  |sl id hops sz lo len full cap hn hlen hf hf'=>
   have:=hf' V;simp at this;subst this;simp
 obtain⟨olds,holds⟩:∃olds,olds=cur.toList.take (ob.rows.length*ob.sz):=⟨_,rfl⟩;rw[<-holds]at hro hh2 g2;obtain⟨H2,hH2⟩:∃H2,H2=H.set id ⟨2,e2,ob.sz,kK ob.sz ob.rows.length olds,ob.fz⟩:=⟨_,rfl⟩;rw[<-hH2]at hh2 g2;have eP:id<H.length:=(gN.1 hob).1;have hl2:H2.length=H.length:=by rw[hH2];simp
 have hob2:H2[id]?=some ⟨2,e2,ob.sz,kK ob.sz ob.rows.length olds,ob.fz⟩:=by rw[hH2,pd,gS V,gS eP]
 rw[<-hsz]at hrows;have hallK:=hro.append hrows;have hlv:(olds++vals).length=(ob.rows++rows').length*ob.sz:=hallK.len;have qc:yX E ob.sz (kK ob.sz (ob.rows++rows').length (olds++vals)) (olds++vals):=Vk hlv hallK.one;have hz:=ht.Eh
 have hmo:∀(j:Nat) u,olds[j]?=some u->w.cell? ((⟨E.β id [],0,none⟩:Addr).add j)=some u:=λj u hu'=>by
  rw[j0];unfold World.cell?;rw[hg];rw[holds,pF]at hu';split at hu'
  .simpa using hu'
  .cases hu'
 have hol:olds.length=ob.rows.length*i.size:=by rw[hro.len,hsz]
 have hvl:vals.length=rows'.length*i.size:=by rw[hrows.len,hsz]
 have hlr:(kK ob.sz (ob.rows++rows').length (olds++vals)).length=ob.rows.length+rows'.length:=by rw[kK,jT];simp
 have hfz:ob.fz<=ob.rows.length:=hh.fz id ob hob;have hnoA:∀r∈ob.rows++rows',∀c∈r,zG c=true:=λr hr=>by rcases pw.1 hr with hr|hr;exact hno r hr;exact hno' r hr
 have fin:∀{w':World} {E':Env} {e3:TypeId} {v:Value},E.le E'->z8 w' E' (jS H2 id++[⟨2,e3,ob.sz,kK ob.sz (ob.rows++rows').length (olds++vals),ob.fz⟩])->qj w E H2 w' E' (jS H2 id++[⟨2,e3,ob.sz,kK ob.sz (ob.rows++rows').length (olds++vals),ob.fz⟩])->
   L E' (.sl H.length [] i.size 0 (ob.rows.length+rows'.length) false) v->K v w':=λ{w' E' e3 v} hle hA gA hv=>by
  have hkl:(jS H2 id).length=H.length:=by simp[jS,hl2]
  obtain⟨hC,gC⟩:=hA.XX ob.ty (H:=H) (id:=id) hkl (λj hj=>by
   rw[yC,hH2,pd,gP (Ne.symm hj)];cases H[j]? with
   |none=>rfl
   |some ob0=>simp[Ne.symm hj]) hh.fz eP (hallK.mono hle) hnoA (by rw[pW];omega)
  rw[<-hsz]at hk;exact hk _ _ _ hC (by rw[hsz];exact hv) ((g2.trans gA).trans gC)
 by_cases hroom:ob.rows.length+rows'.length<=E.κ id []
 ·
  have hfit:ob.rows.length*i.size+vals.length<=cur.size:=by rw[hvl,hcs,hsz,<-rp];exact pQ _ hroom
  have hr:=VU P w t o.type e e2 i hu ht.info (E.β id []) ob.rows.length (E.κ id []) cur hg a rows'.length cap vals hvl hmem hrows.one hroom hfit;rw[<-hxv,<-e1]at hr;rw[hexec _ _ hr];obtain⟨cur',hcur'⟩:∃cur',cur'=(cur.toList.take (ob.rows.length*i.size)++vals++cur.toList.drop (ob.rows.length*i.size+vals.length)).toArray:=⟨_,rfl⟩;rw[<-hcur']
  have htake:cur'.toList.take (olds++vals).length=olds++vals:=by
   rw[hcur',<-hsz,<-holds];exact uh
  have hsize:cur'.size=E.κ id []*ob.sz:=by rw[<-hcs,hcur'];simp;omega
  have hA:=hh2.again hob2 V (rows:=kK ob.sz (ob.rows++rows').length (olds++vals)) (vals:=olds++vals) qc (cur:=cur) (cur':=cur') hg hsize (by rw[hlr];exact hroom) htake (by rw[hlr];show ob.fz<=_;omega) ?_
  .refine fin (E.KE id) hA.1 hA.2 ?_;have:=L.sl (E:=E.again id) H.length [] i.size 0 (ob.rows.length+rows'.length) false (E.κ id []) (by simp[Env.again,hh.n]) hroom ah (λ_=>by simp[Env.again,hh.n]);have hb':(E.again id).β H.length []=E.β id []:=by simp[Env.again,hh.n]
   rw[hb',s5]at this;exact dW
  .intro o' u hu';obtain⟨_,ob',e3,e4⟩:=hh.sep id [] _ o' u hgb hu';rw[hob]at e3;cases e3
   have hst:=(hh.qn _ _ _ hu').1;unfold World.cell? at hst;rw[hg]at hst;simp at hst
   have h7:o'<ob.rows.length*i.size:=by
    rw[hsz]at e4;exact pV e4 (pQ _ hfz)
   rw[hcur'];simp only[sK];rw[rL,gW ar,pF,gS h7,pK];exact hst
 ·
  have hr:=run_append_grow (P:=P) w t o.type e i z hu ht.info ht.zero ⟨E.β id [],0,none⟩ ob.rows.length (E.κ id []) olds hol hmo a rows'.length cap vals hvl hmem an an (growslice_fits an hb);rw[<-hxv,<-e1]at hr;rw[hexec _ _ hr];obtain⟨cap',hcap2⟩:∃cap',cap'=grownCap w (ob.rows.length+rows'.length) (E.κ id []) e:=⟨_,rfl⟩;have hge:ob.rows.length+rows'.length<=cap':=aT
  rw[<-hcap2]
  have hsize:((olds++vals).toArray++Builtin.zeroCells z.cells (cap'-(ob.rows.length+rows'.length))).size=cap'*ob.sz:=by
   have h2:(olds++vals).length=(ob.rows.length+rows'.length)*i.size:=by rw[hlv,hsz];simp
   simp only[uk,sY,size_zeroCells,hz];rw[h2,<-rp,hsz]
   congr 1
   omega
  have hk1:=hh2.drew.kill id;have hB2:=hk1.KL e (κ:=cap') qc (cur:=(olds++vals).toArray++Builtin.zeroCells z.cells (cap'-(ob.rows.length+rows'.length))) (by rw[hlr];exact hge) hsize aR ob.fz (by rw[hlr];omega);have hkl:(jS H2 id).length=H.length:=by simp[jS,hl2]
  have hval:(olds.toArray++vals.toArray++Builtin.zeroCells z.cells (cap'-(ob.rows.length+rows'.length)))=((olds++vals).toArray++Builtin.zeroCells z.cells (cap'-(ob.rows.length+rows'.length))):=ah
  rw[hval];refine fin (E.DW _ _) hB2.1 ((qj.drew w E H2).trans ((qj.kill w.drew E H2 id).trans hB2.2)) ?_;have:=CS (E:=E) (H:=jS H2 id) hk1.n w.heap.size cap' i.size (ob.rows.length+rows'.length) false cap' hge ah (λ_=>V);rw[hkl]at this;exact dW
def e6.je(cl:Call)(ho:o.op=.call cl)(x y:Operand){e:TypeId}{i:TypeInfo}{z:Value}(ht:nP P cl x y e i z){id n:Nat}(hx:ρ x=.sl id [] i.size 0 n false){ob:Ob}(hob:H[id]?=some ob)
 (hkd:ob.kind=1\/ob.kind=2)(hsz:ob.sz=i.size)(hn:ob.rows.length=n)(hno:∀r∈ob.rows,∀c∈r,zG c=true)
 {rows':List (List C)}(hy:Ei H (Ab.fH (ρ y)) i.size rows')(hno':∀r∈rows',∀c∈r,zG c=true)(hne:rows'≠[])(hm:n+rows'.length<=maxLen)(hb:(n+rows'.length)*i.bytes<=140737488355328):
  e6 P o ρ H (.sl H.length [] i.size 0 (n+rows'.length) false) (H.set id ⟨0,0,0,[],0⟩++[⟨1,ob.ty,i.size,ob.rows++rows',ob.fz⟩]):=
 .fH (ρ:=ρ) (.AB (.je cl ho x y ht (by rw[hx];rfl) hob hkd hsz hn hno hy hno' hne hm hb) ((jm.Hn hob an (by show(0:Nat)≠4;decide)).trans (jm.push _ _ (by show(1:Nat)≠4;decide))))
def qy.xx(t:TypeId)(len:Nat)(parts:Array (Nat×Operand))(ho:o.op=.buildSlice t len parts){z cs:List C}(hu:P.underlying t=some (.slice e))(hi:P.info? e=some i)(hz:wZ P e=some z)
 (hc1:len*i.size<=16777216)(hc2:0<i.size)(hf:nF (λj=>some (j*i.size,i.size)) (List.replicate len z).flatten (parts.toList.map λp=>(p.1,ρ p.2))=some cs)(hlen:cs.length=len*i.size):
  qy P o ρ H (.sl H.length [] i.size 0 len false) (H++[⟨1,e,i.size,chunk i.size len cs,0⟩]):=λw E σ hh hl K hk=>by
 have hp:∀p∈parts.toList,L E (ρ p.2) (σ p.2):=λp hpm=>hl p.2 (by
  simp only[ho,Op.operands];exact(ej).2 (pO.2 ⟨p,hpm,rfl⟩))
 obtain⟨i',zv,h1,h2,h3,h4,h5,h6,h7⟩:=vX hz E;rw[hi]at h1;cases h1
 obtain⟨arr0,harr0⟩:∃arr0,arr0=(Array.range (len*i.size)).map (λj=>zv.cells[j%zv.cells.size]!):=⟨_,rfl⟩
 have hget0:∀j,j<len*i.size->arr0[j]?=zv.cells[j%i.size]?:=by
  intro j hj;rw[harr0];have hm:j%zv.cells.size<zv.cells.size:=eL _ an;simp only[ud,Array.getElem?_range,hj,if_true,g9];rw[getElem!_pos zv.cells _ hm,<-h5,rT hm]
 have hsize0:arr0.size=len*i.size:=by rw[harr0];simp
 have hl0:LL E (List.replicate len z).flatten arr0.toList:=by
  refine⟨by simp[hsize0,h7],?_⟩;intro j c y hc hy;rw[pK]at hy;have hj:j<len*i.size:=by rw[<-hsize0];exact(pn.1 hy).1
  rw[hget0 j hj]at hy;rw[vB z len j (by rw[h7];exact hj),h7]at hc;exact h3.2 _ c y hc (ai hy)
 have hone0:∀u∈arr0,u.oneCell'=true:=by
  intro u hum;obtain⟨j,hj⟩:=sX.1 hum;have hjl:j<len*i.size:=by rw[<-hsize0];exact(pn.1 hj).1
  rw[hget0 j hjl]at hj;exact h4 u (rX hj)
 have hno0:(List.replicate len z).flatten.all zG=true:=by
  rw[gV];intro c hc;obtain⟨l,hlm,hcl⟩:=List.mem_flatten.1 hc;rw[(sV.1 hlm).2]at hcl;exact gV.1 h6 c hcl
 obtain⟨arr,a1,a2,a3,a4⟩:=CC parts.toList _ arr0 hl0 hone0 hno0 hp cs hf
 have hr:(execOp σ o).run P w=.ok (.value (.slice (some ⟨w.heap.size,0,none⟩) len len)) (w.alloc (.cells arr e)):=by
  unfold execOp;have hn:¬(2 ^ 24<len*i.size):=an
  by_cases hlz:len*i.size=0
  .have e0:arr0= #[]:=by apply rG;rw[hsize0];exact hlz
   rw[e0]at a1;have e9:∀f:Nat->Value,(Array.range 0).map f= #[]:=λf=>rG ah
   simp only[ho,Instr.buildSlice,Sem.run_bind,run_underlying hu,Result.andThen_ok,qV hi];rw[gP hn];simp[hlz,newRow,e9,a1]
  .simp only[ho,Instr.buildSlice,Sem.run_bind,run_underlying hu,Result.andThen_ok,qV hi];rw[gP hn];simp[hlz,xa hi h2,newRow,<-harr0,a1]
 rw[hr];have hlc:(chunk i.size len cs).length=len:=jT _ _ _;have has:arr.size=len*i.size:=by rw[<-hlen,a2.1];simp
 have cell:∀r k c,cellAt (chunk i.size len cs) r k=some c->cs[r*i.size+k]?=some c:=λr k c h=>by
  unfold cellAt at h;by_cases hrl:r<len
  .rw[vD _ _ _ _ hrl]at h;simp only[pJ]at h;rw[pF]at h;split at h
   .rw[rj]at h;exact h
   .cases h
  .rw[rq an]at h;cases h
 have hB:=hh.push 1 e i.size len (chunk i.size len cs) arr (.inl V) (λr hrm=>by
   obtain⟨j,hj⟩:=pA.1 hrm;have hjl:j<len:=by rw[<-hlc];exact(gN.1 hj).1
   rw[vD _ _ _ _ hjl]at hj;cases hj
   have:(j+1)*i.size<=len*i.size:=pQ _ hjl;rw[rp]at this;simp;omega) an has (λr k c h=>gV.1 a4 c (gT (cell r k c h))) λr k c h=>by
  obtain⟨u,hu',hlu⟩:=a2.get (cell r k c h);rw[pK]at hu';exact⟨u,hu',by simpa [Env.at] using hlu,a3 u (rX hu')⟩
 exact hk _ _ _ hB.1 (CS hh.n _ _ _ _ false len (pj _) ah (λ_=>V)) hB.2
def e6.xx(t:TypeId)(len:Nat)(parts:Array (Nat×Operand))(ho:o.op=.buildSlice t len parts){e:TypeId}{i:TypeInfo}{z cs:List C}(hu:P.underlying t=some (.slice e))(hi:P.info? e=some i)(hz:wZ P e=some z)
 (hc1:len*i.size<=16777216)(hc2:0<i.size)(hf:nF (λj=>some (j*i.size,i.size)) (List.replicate len z).flatten (parts.toList.map λp=>(p.1,ρ p.2))=some cs)(hlen:cs.length=len*i.size):
  e6 P o ρ H (.sl H.length [] i.size 0 len false) (H++[⟨1,e,i.size,chunk i.size len cs,0⟩]):=
 .AB (.xx t len parts ho hu hi hz hc1 hc2 hf hlen) (jm.push _ _ (by show(1:Nat)≠4;decide))
def zk.marks{B:Nat}:∀(l:List Nat) {t:List C} {H:zq},zk B ⟨t,H⟩ ⟨t,H++l.map λk=>⟨0,77,k,[],0⟩⟩
 |[],t,H=>by rw[List.map_nil,sC];exact .refl _
 |k::l,t,H=>(zk.dead (s:=⟨t,H⟩) 77 k).trans (by
   have:=zk.marks (B:=B) l (t:=t) (H:=H++[⟨0,77,k,[],0⟩]);rw[rL]at this;exact this)
def GN{f:FuncId}{fn:Func}{c:Code}{H2:zq}{args:List C}{r:C}(l:List Nat)(hf:P.funcs[f]?=some fn)(hb:fn.body=some c)
 (h:wpA P 0 c (entry fn args) (l.map λk=>⟨0,77,k,[],0⟩) λex t1 H1=>(ex=.ret\/ex=.normal)/\∃s2 r1,zk 0 ⟨t1,H1⟩ s2/\vP P fn s2=some r1/\zk 0 ⟨[r1],s2.H⟩ ⟨[r],H2⟩):zb P f [] args r H2:=λw E vs hh hl=>by
 have h1:qz P f [] args λr1 H1=>zk 0 ⟨[r1],H1⟩ ⟨[r],H2⟩:=qz.kz (H:=[]) hf hb ((qW.pre (zk.marks l) (jd h)).mono λex s1 ⟨hex,s2,r1,hw,h2,h3⟩=>⟨hex,s2,r1,hw,h2,h3⟩)
 refine(h1 w E vs hh hl).mono ?_;rintro e w' ⟨r1,H1,v,E',hw,h0,h2,h3,g⟩;obtain⟨E2,hs,g2⟩:=hw 0 w' E' ⟨#[v],[]⟩ ⟨h2,LL.one h3,pC _,pC _⟩;have hn2:=hs.heap.n;have hn0:E.n=0:=hh.n;refine⟨v,E2,h0,hs.heap,hs.tmps.cons_inv.1,⟨⟨by rw[hn0];exact pC _,λid hops hi=>by rw[hn0]at hi;omega,λid hops hi=>by rw[hn0]at hi;omega,λb o u hu=>g2.le.St _ _ _ (g.le.St _ _ _ hu),λid k u hi hu=>by rw[hn0]at hi;omega⟩,g2.os.trans g.os,g2.tape.trans g.tape,g2.output.trans g.output,ru g.size g2.size,?_,?_,?_⟩⟩
 .intro k hk ho;exact di
 .intro b o u hu;rcases g2.jx b o u hu with h1|h1|h1
  .exact g.jx b o u h1
  .exact gD
  .rcases g.own b h1 with h4|h4
   .exact .inr (.inl h4)
   .exact .inr (.inr h4)
 .intro b hb;rcases g2.own b hb with h1|h1
  .exact gJ
  .exact g.own b h1
end
end Go.Ab
namespace Go.Wor
open Go.Ab Go.Proofs Tryz Go.Gat Go.Nam Go.Hos Go.Con Go.Sna
open Go.Hy hiding encI
variable{α:Type}{enc:α->List C}{sel:List Nat}{l:List (List C)}
def vp(hf:∀x,(enc x).map (jK sel 9)=enc x)(l:List α)(v n:Nat)(row:List C)(ty sz fz:Nat):zJ sel ⟨1,ty,sz,((l.map enc).set v row).take n,fz⟩=⟨1,ty,sz,((l.map enc).set v (row.map (jK sel 9))).take n,fz⟩:=by
 show(⟨1,ty,sz,(((l.map enc).set v row).take n).map (λr=>r.map (jK sel 9)),fz⟩:Ob)=_;rw[sG,DH hf]
def yP(hf:∀x,(enc x).map (jK sel 9)=enc x)(l:List α)(v n:Nat)(row r:List C)(ty sz fz:Nat):zJ sel ⟨1,ty,sz,((l.map enc).set v row).take n++[r],fz⟩=⟨1,ty,sz,((l.map enc).set v (row.map (jK sel 9))).take n++[r.map (jK sel 9)],fz⟩:=by
 show(⟨1,ty,sz,(((l.map enc).set v row).take n++[r]).map (λr=>r.map (jK sel 9)),fz⟩:Ob)=_;rw[pZ,sG,DH hf]
 rfl
def yQ{k:Nat}{r:List C}(h:l[k]?=some r):l.take (k+1)=l.take k++[r]:=by rw[sN,h];rfl
def DN{i m:Nat}(h:m<=i)(a b:List C):(l.set i a).take m=(l.set i b).take m:=by
 apply rh
 intro n;rw[pF,pF];split
 .rw[pT an,pT an]
 .rfl
def N0(w:Wor)(h:z6 w){v:Nat}{v0:eX}{g:Nat}{g0:Gr}{e:Nat}{e0:En}(hp:CU w.zd v v0 g g0 e e0):th 89 [] [Cw w] (.agg (fL w 0))
  [⟨1,106,5,((w.zd.map zt).set v (fl 1 v0)),0⟩,⟨1,111,2,((v0.zg.map zy).set g (fi 2 g0)),0⟩,⟨1,151,3,((g0.ends.map zu).set e (fh 3 e0)),0⟩,⟨2,3,1,(e0.next.map Go.Hy.encI),0⟩]:=by
 have m1:(w.pins.map Go.Hy.encI).length=w.pins.length:=gO ..;have m2:(w.zd.map zt).length=w.zd.length:=gO ..;have m3:(w.zc.map zU).length=w.zc.length:=gO ..;have m4:(w.zn.map qh).length=w.zn.length:=gO ..;have b1:=h.pins;have b2:=h.zd.1;have b3:=h.zc;have b4:=h.zn;have ownV:∀i,∀r∈((w.zd.map zt).set v (fl i v0)),∀c∈r,zG c=true:=λi=>zF (enc:=zt) (λ_=>V) V _ _
 have ownG:∀i,∀r∈((v0.zg.map zy).set g (fi i g0)),∀c∈r,zG c=true:=λi=>zF (enc:=zy) (λ_=>V) V _ _
 have ownE:∀i,∀r∈((g0.ends.map zu).set e (fh i e0)),∀c∈r,zG c=true:=λi=>zF (enc:=zu) (λ_=>V) V _ _
 have vlt:=(gN.1 hp.fR).1;have lowG:∀n,10<=n->ql n [⟨1,111,2,((v0.zg.map zy).set g (fi 9 g0)),0⟩]=true:=λn hn=>qm (zF (enc:=zy) (λ_=>V) (by simp[qE];omega) _ _)
 have lowE:∀n,11<=n->ql n [⟨1,151,3,((g0.ends.map zu).set e (fh 10 e0)),0⟩]=true:=λn hn=>qm (zF (enc:=zu) (λ_=>V) (by simp[qE];omega) _ _)
 have lowV:∀n,9<=n->ql n [⟨1,106,5,((w.zd.map zt).set v (fl 8 v0)),0⟩]=true:=λn hn=>qm (zF (enc:=zt) (λ_=>V) (by simp[qE,qP];omega) _ _)
 have lowA:=lowV;have lowX:=lowV;have lowW:∀n,15<=n->ql n [⟨1,151,3,((g0.ends.map zu).set e (fh 14 e0)),0⟩]=true:=λn hn=>qm (zF (enc:=zu) (λ_=>V) (by simp[qE];omega) _ _)
 refine GN [33,104,109] (fn:=f89) func89 V (uH ?_);refine zaq ?_;(refine(e6.xx _ _ _ V underlying33 V V aj aj V V).fM (uH ?_))
 refine zH.seq w.zd.length (λk=>(.za::.ref 3 [] 8 0 0:: .ref 4 [] 8 0 0:: .ref 5 [] 8 0 0::I k:: .za::.za::mK (jp (jp (jp (jp (mK ([])))))))) (λk=>[⟨0,77,33,[],0⟩,⟨0,77,104,[],0⟩,⟨0,77,109,[],0⟩,oW w,⟨1,38,8,[fB],0⟩,⟨1,38,8,[[I w.zr,I w.current,I w.lock,.gl 6 1 (w.pins.map Go.Hy.encI),.sl 7 [] 5 0 k false,lL w.zc,ff w.counts,lR w.zn]],0⟩,⟨4,3,1,(w.pins.map Go.Hy.encI),0⟩,⟨1,106,5,(((w.zd.map zt).set v (fl 8 v0))).take k,0⟩,⟨if k<=v then 0 else 1,111,2,if k<=v then [] else ((v0.zg.map zy).set g (fi 9 g0)),0⟩,⟨if k<=v then 0 else 1,151,3,if k<=v then [] else ((g0.ends.map zu).set e (fh 10 e0)),0⟩,⟨if k<=v then 0 else 2,3,1,if k<=v then [] else (e0.next.map Go.Hy.encI),0⟩]) (λk=>True) ?_ trivial (λk hk _=>?_) (λ_=>?_)
 .simp only[gS (pC v)];refine zk.trans (zk.dead 111 2) (zk.trans (zk.dead 151 3) (zk.trans (zk.dead 3 1) ?_));exact cC
 .obtain⟨x,hx⟩:∃x,x=w.zd[k]:=⟨_,rfl⟩;have hx2:w.zd[k]?=some x:=by rw[hx];exact gL hk
  have hgv:(w.zd.map zt)[k]?=some (zt x):=by rw[gM,hx2];rfl
  have sv:=h.zd.2 x uY;have m5:(x.zg.map zy).length=x.zg.length:=gO ..;have b5:=sv.1;have lV:((((w.zd.map zt).set v (fl 8 v0))).take k).length=k:=ar
  have lowA:∀n,9<=n->ql n [⟨1,106,5,(((w.zd.map zt).set v (fl 8 v0))).take k,0⟩]=true:=λn hn=>qm λr hr=>zF (enc:=zt) (λ_=>V) (by simp[qE,qP];omega) _ _ r (gU hr)
  have lowX:=lowA;rcases rU k v with hkv|hkv|hkv
  .simp only[gS (show k<=v by omega),gS (show k+1<=v by omega)];have hF:(((w.zd.map zt).set v (fl 8 v0)))[k]?=some (zt x):=by rw[pT an];exact hgv
   conv=>whnf
   rw[m2];refine zaA ?_
   (refine(e6.same (qy.buildSlice _ _ _ V (c:=.eM 1 2 []) V)).fM (uH ?_))
   refine zH.seq x.zg.length (λj=>(.za::.ref 3 [] 8 0 0:: .ref 4 [] 8 0 0:: .ref 5 [] 8 0 0::I k:: .ref 11 [] 5 0 0::I j:: mK (jp (jp (jp (jp (mK ([])))))))) (λj=>[⟨0,77,33,[],0⟩,⟨0,77,104,[],0⟩,⟨0,77,109,[],0⟩,oW w,⟨1,38,8,[fB],0⟩,⟨1,38,8,[[I w.zr,I w.current,I w.lock,.gl 6 1 (w.pins.map Go.Hy.encI),.sl 7 [] 5 0 k false,lL w.zc,ff w.counts,lR w.zn]],0⟩,⟨4,3,1,(w.pins.map Go.Hy.encI),0⟩,⟨1,106,5,(((w.zd.map zt).set v (fl 8 v0))).take k,0⟩,⟨0,111,2,[],0⟩,⟨0,151,3,[],0⟩,⟨0,3,1,[],0⟩,⟨1,106,5,[qP x.snap++[.gl 12 2 ((x.zg.take j).map zy),Bo x.qF]],0⟩,⟨4,111,2,((x.zg.take j).map zy),0⟩]) (λk=>True) ?_ trivial (λj hj _=>?_) (λ_=>?_)
   .refine zk.trans (zk.qM 11 3 111 2 V V (.inl V) V V) ?_;exact cC
   .obtain⟨y,hy⟩:∃y,y=x.zg[j]:=⟨_,rfl⟩;have hgg:(x.zg.map zy)[j]?=some (zy y):=by rw[gM,gL hj,hy];rfl
    have sg:=sv.2 y cH;have m6:(y.ends.map zu).length=y.ends.length:=gO ..;have b6:=sg.1;have lG:(((x.zg.take j).map zy)).length=j:=ar
    have eG:((x.zg.take (j+1)).map zy)=((x.zg.take j).map zy)++[zy y]:=by rw[pP hj,<-hy];simp
    conv=>whnf
    refine zbo ?_
    rw[m5];refine zaA ?_
    refine za7 ?_
    refine zb3 ?_
    refine zH.seq y.ends.length (λn=>(.za::.ref 3 [] 8 0 0:: .ref 4 [] 8 0 0:: .ref 5 [] 8 0 0::I k:: .ref 11 [] 5 0 0::I j:: .ref 13 [] 2 0 0::I n:: .za::.za::.za::.za::.za::.za::mK (jp (jp (jp (jp ([]))))))) (λn=>[⟨0,77,33,[],0⟩,⟨0,77,104,[],0⟩,⟨0,77,109,[],0⟩,oW w,⟨1,38,8,[fB],0⟩,⟨1,38,8,[[I w.zr,I w.current,I w.lock,.gl 6 1 (w.pins.map Go.Hy.encI),.sl 7 [] 5 0 k false,lL w.zc,ff w.counts,lR w.zn]],0⟩,⟨4,3,1,(w.pins.map Go.Hy.encI),0⟩,⟨1,106,5,(((w.zd.map zt).set v (fl 8 v0))).take k,0⟩,⟨0,111,2,[],0⟩,⟨0,151,3,[],0⟩,⟨0,3,1,[],0⟩,⟨1,106,5,[qP x.snap++[.gl 12 2 ((x.zg.take j).map zy),Bo x.qF]],0⟩,⟨4,111,2,((x.zg.take j).map zy),0⟩,⟨1,111,2,[[U y.zC,.gl 14 3 ((y.ends.take n).map zu)]],0⟩,⟨4,151,3,((y.ends.take n).map zu),0⟩]) (λk=>True) ?_ trivial (λn hn _=>?_) (λ_=>?_)
    .refine zk.trans (zk.qM 13 1 151 3 V V (.inl V) V V) ?_;exact cC
    .obtain⟨z,hz⟩:∃z,z=y.ends[n]:=⟨_,rfl⟩;have hge:(y.ends.map zu)[n]?=some (zu z):=by rw[gM,gL hn,hz];rfl
     have se:=sg.2 z mE;have m7:(z.next.map Go.Hy.encI).length=z.next.length:=gO ..;have lE:(((y.ends.take n).map zu)).length=n:=ar
     have eE:((y.ends.take (n+1)).map zu)=((y.ends.take n).map zu)++[zu z]:=cI
     conv=>whnf
     refine zbo ?_
     refine za7 ?_
     rw[m6];refine zaA ?_
     refine za7 ?_
     (refine te hge ?_)
     refine zbe ?_;exact zk.jq 15 ta V V V (by (repeat' (first|(exact V)|(exact lowA _ (ph V))|(exact lowG _ (ph V))|(exact lowE _ (ph V))|(exact lowW _ (ph V))|(exact lowX _ (ph V))|(refine qg ?_ ?_)))) V
    .conv=>whnf
     refine zbo ?_
     refine za7 ?_
     refine zby ?_;exact zk.jq 13 ta V V V (by (repeat' (first|(exact V)|(exact lowA _ (ph V))|(exact lowG _ (ph V))|(exact lowE _ (ph V))|(exact lowW _ (ph V))|(exact lowX _ (ph V))|(refine qg ?_ ?_)))) V
   .conv=>whnf
    refine zbo ?_
    refine zbR ?_
    refine zai ?_;rw[zm an,yQ hF];refine zk.trans (q8 [0,1,2,3,4,5,6,13,8,9,10] [1,2,3,4] V V V (by (repeat' (first|(exact V)|(exact zf λr hr=>ownV _ r (gU hr))|(exact zf λr hr=>ownG _ r (gU hr))|(exact zf λr hr=>ownE _ r (gU hr))|(exact zf (ownV _))|(exact zf (ownG _))|(exact zf (ownE _))|(exact zf λr hr=>(pw.1 hr).elim (λhr=>ownV _ r (gU hr)) (zB V r))|(exact zf λr hr=>(pw.1 hr).elim (λhr=>ownG _ r (gU hr)) (zB V r))|(exact zf λr hr=>(pw.1 hr).elim (λhr=>ownE _ r (gU hr)) (zB V r))|(refine ze ?_ ?_)))) V ?_) (cC);show _::_::_::_::_::_::_::zJ [0,1,2,3,4,5,6,13,8,9,10] ⟨1,106,5,List.take k (((w.zd.map zt).set v (fl 8 v0)))++[_],0⟩::_=_;rw[yP (enc:=zt) (λ_=>V)];rfl
  .simp only[gS (show k<=v by omega),gP (show ¬k+1<=v by omega)];obtain rfl:v0=x:=by rw[hkv,hp.fR]at hx2;exact rC hx2
   have glt:=(gN.1 hp.fV).1;have B4:=(gN.1 hp.at_).1;have hF:(((w.zd.map zt).set v (fl 8 v0)))[k]?=some (fl 8 v0):=by rw[hkv];exact gX (ai vlt)
   conv=>whnf
   rw[m2];refine zaA ?_
   (refine(e6.xx _ _ _ V underlying104 V V aj aj V V).fM (uH ?_))
   refine zH.seq v0.zg.length (λj=>(.za::.ref 3 [] 8 0 0:: .ref 4 [] 8 0 0:: .ref 5 [] 8 0 0::I k:: .ref 11 [] 5 0 0::I j:: mK (jp (jp (jp (jp (mK ([])))))))) (λj=>[⟨0,77,33,[],0⟩,⟨0,77,104,[],0⟩,⟨0,77,109,[],0⟩,oW w,⟨1,38,8,[fB],0⟩,⟨1,38,8,[[I w.zr,I w.current,I w.lock,.gl 6 1 (w.pins.map Go.Hy.encI),.sl 7 [] 5 0 k false,lL w.zc,ff w.counts,lR w.zn]],0⟩,⟨4,3,1,(w.pins.map Go.Hy.encI),0⟩,⟨1,106,5,(((w.zd.map zt).set v (fl 8 v0))).take k,0⟩,⟨0,111,2,[],0⟩,⟨0,151,3,[],0⟩,⟨0,3,1,[],0⟩,⟨1,106,5,[qP v0.snap++[.sl 12 [] 2 0 j false,Bo v0.qF]],0⟩,⟨1,111,2,(((v0.zg.map zy).set g (fi 13 g0))).take j,0⟩,⟨if j<=g then 0 else 1,151,3,if j<=g then [] else ((g0.ends.map zu).set e (fh 14 e0)),0⟩,⟨if j<=g then 0 else 2,3,1,if j<=g then [] else (e0.next.map Go.Hy.encI),0⟩]) (λk=>True) ?_ trivial (λj hj _=>?_) (λ_=>?_)
   .simp only[gS (pC g)];refine zk.trans (zk.dead 151 3) (zk.trans (zk.dead 3 1) ?_);exact cC
   .obtain⟨y,hy⟩:∃y,y=v0.zg[j]:=⟨_,rfl⟩;have hy2:v0.zg[j]?=some y:=by rw[hy];exact gL hj
    have hgg:(v0.zg.map zy)[j]?=some (zy y):=by rw[gM,hy2];rfl
    have sg:=sv.2 y cH;have m6:(y.ends.map zu).length=y.ends.length:=gO ..;have b6:=sg.1;have lG:((((v0.zg.map zy).set g (fi 13 g0))).take j).length=j:=ar
    have lowX:∀n,14<=n->ql n [⟨1,111,2,(((v0.zg.map zy).set g (fi 13 g0))).take j,0⟩]=true:=λn hn=>qm λr hr=>zF (enc:=zy) (λ_=>V) (by simp[qE];omega) _ _ r (gU hr)
    rcases rU j g with hjg|hjg|hjg
    .simp only[gS (show j<=g by omega),gS (show j+1<=g by omega)];have hG:(((v0.zg.map zy).set g (fi 13 g0)))[j]?=some (zy y):=by rw[pT an];exact hgg
     conv=>whnf
     refine zbo ?_
     rw[m5];refine zaA ?_
     refine za7 ?_
     refine zb3 ?_
     refine zH.seq y.ends.length (λn=>(.za::.ref 3 [] 8 0 0:: .ref 4 [] 8 0 0:: .ref 5 [] 8 0 0::I k:: .ref 11 [] 5 0 0::I j:: .ref 15 [] 2 0 0::I n:: .za::.za::.za::.za::.za::.za::mK (jp (jp (jp (jp ([]))))))) (λn=>[⟨0,77,33,[],0⟩,⟨0,77,104,[],0⟩,⟨0,77,109,[],0⟩,oW w,⟨1,38,8,[fB],0⟩,⟨1,38,8,[[I w.zr,I w.current,I w.lock,.gl 6 1 (w.pins.map Go.Hy.encI),.sl 7 [] 5 0 k false,lL w.zc,ff w.counts,lR w.zn]],0⟩,⟨4,3,1,(w.pins.map Go.Hy.encI),0⟩,⟨1,106,5,(((w.zd.map zt).set v (fl 8 v0))).take k,0⟩,⟨0,111,2,[],0⟩,⟨0,151,3,[],0⟩,⟨0,3,1,[],0⟩,⟨1,106,5,[qP v0.snap++[.sl 12 [] 2 0 j false,Bo v0.qF]],0⟩,⟨1,111,2,(((v0.zg.map zy).set g (fi 13 g0))).take j,0⟩,⟨0,151,3,[],0⟩,⟨0,3,1,[],0⟩,⟨1,111,2,[[U y.zC,.gl 16 3 ((y.ends.take n).map zu)]],0⟩,⟨4,151,3,((y.ends.take n).map zu),0⟩]) (λk=>True) ?_ trivial (λn hn _=>?_) (λ_=>?_)
     .refine zk.trans (zk.qM 15 1 151 3 V V (.inl V) V V) ?_;exact cC
     .obtain⟨z,hz⟩:∃z,z=y.ends[n]:=⟨_,rfl⟩;have hge:(y.ends.map zu)[n]?=some (zu z):=by rw[gM,gL hn,hz];rfl
      have se:=sg.2 z mE;have m7:(z.next.map Go.Hy.encI).length=z.next.length:=gO ..;have lE:(((y.ends.take n).map zu)).length=n:=ar
      have eE:((y.ends.take (n+1)).map zu)=((y.ends.take n).map zu)++[zu z]:=cI
      conv=>whnf
      refine zbo ?_
      refine za7 ?_
      rw[m6];refine zaA ?_
      refine za7 ?_
      (refine te hge ?_)
      refine zbe ?_;exact zk.jq 17 ta V V V (by (repeat' (first|(exact V)|(exact lowA _ (ph V))|(exact lowG _ (ph V))|(exact lowE _ (ph V))|(exact lowW _ (ph V))|(exact lowX _ (ph V))|(refine qg ?_ ?_)))) V
     .conv=>whnf
      refine zbo ?_
      refine za7 ?_
      refine zbB ?_
      refine zai ?_;rw[zm an,yQ hG];refine zk.trans (q8 [0,1,2,3,4,5,6,7,8,9,10,11,17,13,14] [1,2,3,4,5,6] V V V (by (repeat' (first|(exact V)|(exact zf λr hr=>ownV _ r (gU hr))|(exact zf λr hr=>ownG _ r (gU hr))|(exact zf λr hr=>ownE _ r (gU hr))|(exact zf (ownV _))|(exact zf (ownG _))|(exact zf (ownE _))|(exact zf λr hr=>(pw.1 hr).elim (λhr=>ownV _ r (gU hr)) (zB V r))|(exact zf λr hr=>(pw.1 hr).elim (λhr=>ownG _ r (gU hr)) (zB V r))|(exact zf λr hr=>(pw.1 hr).elim (λhr=>ownE _ r (gU hr)) (zB V r))|(refine ze ?_ ?_)))) V ?_) (cC);show _::_::_::_::_::_::_::zJ [0,1,2,3,4,5,6,7,8,9,10,11,17,13,14] ⟨1,106,5,List.take k (((w.zd.map zt).set v (fl 8 v0))),0⟩::_::_::_::_::zJ [0,1,2,3,4,5,6,7,8,9,10,11,17,13,14] ⟨1,111,2,List.take j (((v0.zg.map zy).set g (fi 13 g0)))++[_],0⟩::_=_;rw[vp (enc:=zt) (λ_=>V),yP (enc:=zy) (λ_=>V)];rfl
    .simp only[gS (show j<=g by omega),gP (show ¬j+1<=g by omega)];obtain rfl:g0=y:=by rw[hjg,hp.fV]at hy2;exact rC hy2
     have hG:(((v0.zg.map zy).set g (fi 13 g0)))[j]?=some (fi 13 g0):=by rw[hjg];exact gX (ai glt)
     conv=>whnf
     refine zbo ?_
     rw[m5];refine zaA ?_
     refine za7 ?_
     (refine(e6.xx _ _ _ V underlying109 V V aj aj V V).fM (uH ?_))
     refine zH.seq g0.ends.length (λn=>(.za::.ref 3 [] 8 0 0:: .ref 4 [] 8 0 0:: .ref 5 [] 8 0 0::I k:: .ref 11 [] 5 0 0::I j:: .ref 15 [] 2 0 0::I n:: .za::.za::.za::.za::.za::.za::mK (jp (jp (jp (jp ([]))))))) (λn=>[⟨0,77,33,[],0⟩,⟨0,77,104,[],0⟩,⟨0,77,109,[],0⟩,oW w,⟨1,38,8,[fB],0⟩,⟨1,38,8,[[I w.zr,I w.current,I w.lock,.gl 6 1 (w.pins.map Go.Hy.encI),.sl 7 [] 5 0 k false,lL w.zc,ff w.counts,lR w.zn]],0⟩,⟨4,3,1,(w.pins.map Go.Hy.encI),0⟩,⟨1,106,5,(((w.zd.map zt).set v (fl 8 v0))).take k,0⟩,⟨0,111,2,[],0⟩,⟨0,151,3,[],0⟩,⟨0,3,1,[],0⟩,⟨1,106,5,[qP v0.snap++[.sl 12 [] 2 0 j false,Bo v0.qF]],0⟩,⟨1,111,2,(((v0.zg.map zy).set g (fi 13 g0))).take j,0⟩,⟨0,151,3,[],0⟩,⟨0,3,1,[],0⟩,⟨1,111,2,[[U g0.zC,.sl 16 [] 3 0 n false]],0⟩,⟨1,151,3,(((g0.ends.map zu).set e (fh 17 e0))).take n,0⟩,⟨if n<=e then 0 else 2,3,1,if n<=e then [] else (e0.next.map Go.Hy.encI),0⟩]) (λk=>True) ?_ trivial (λn hn _=>?_) (λ_=>?_)
     .simp only[gS (pC e)];refine zk.trans (zk.dead 3 1) ?_;exact cC
     .obtain⟨z,hz⟩:∃z,z=g0.ends[n]:=⟨_,rfl⟩;have hz2:g0.ends[n]?=some z:=by rw[hz];exact gL hn
      have hge:(g0.ends.map zu)[n]?=some (zu z):=by rw[gM,hz2];rfl
      have se:=sg.2 z mE;have m7:(z.next.map Go.Hy.encI).length=z.next.length:=gO ..;have lE:((((g0.ends.map zu).set e (fh 17 e0))).take n).length=n:=ar
      rcases rU n e with hne|hne|hne
      .simp only[gS (show n<=e by omega),gS (show n+1<=e by omega)];have hE:(((g0.ends.map zu).set e (fh 17 e0)))[n]?=some (zu z):=by rw[pT an];exact hge
       conv=>whnf
       refine zbo ?_
       refine za7 ?_
       rw[m6];refine zaA ?_
       refine za7 ?_
       (refine te hge ?_)
       refine zbK ?_
       refine zai ?_;rw[zm an,yQ hE];refine zk.trans (q8 [0,1,2,3,4,5,6,7,8,9,10,11,12,13,14,15,20,17] [1,2,3,4,5,6,7,8] V V V (by (repeat' (first|(exact V)|(exact zf λr hr=>ownV _ r (gU hr))|(exact zf λr hr=>ownG _ r (gU hr))|(exact zf λr hr=>ownE _ r (gU hr))|(exact zf (ownV _))|(exact zf (ownG _))|(exact zf (ownE _))|(exact zf λr hr=>(pw.1 hr).elim (λhr=>ownV _ r (gU hr)) (zB V r))|(exact zf λr hr=>(pw.1 hr).elim (λhr=>ownG _ r (gU hr)) (zB V r))|(exact zf λr hr=>(pw.1 hr).elim (λhr=>ownE _ r (gU hr)) (zB V r))|(refine ze ?_ ?_)))) V ?_) (cC);refine za1 ?_;rw[vp (enc:=zt) (λ_=>V),vp (enc:=zy) (λ_=>V),yP (enc:=zu) (λ_=>V)];rfl
      .simp only[gS (show n<=e by omega),gP (show ¬n+1<=e by omega)];obtain rfl:e0=z:=by rw[hne,hp.at_]at hz2;exact rC hz2
       have hE:(((g0.ends.map zu).set e (fh 17 e0)))[n]?=some (fh 17 e0):=by rw[hne];exact gX (ai B4)
       obtain⟨q0,qs,hq⟩:∃q0 qs,e0.next=q0::qs:=by cases hh:e0.next with|nil=>exact absurd hh hp.ne|cons a l=>exact⟨a,l,rfl⟩
       have hq2:(e0.next.map Go.Hy.encI)=Go.Hy.encI q0::qs.map Go.Hy.encI:=cB
       have hq4:qs.length<1000000000:=by rw[hq]at se;simp at se;omega
       have hq3:(qs.map Go.Hy.encI).length+1=e0.next.length:=cD
       conv=>whnf
       refine zbo ?_
       refine za7 ?_
       rw[m6];refine zaA ?_
       refine za7 ?_
       (refine te hge ?_)
       refine .inr ?_;rw[hq2];refine⟨.inl V,aq,aH,uH ?_⟩;rw[hq3,<-hq2,show([]:List (List C)).length+e0.next.length=e0.next.length from gZ _];(refine(e6.xx _ _ _ V underlying109 V V aj aj V V).fM (uH ?_))
       (refine(e6.je _ V _ _ ⟨rfl,rfl,⟨_,rfl,underlying109⟩,rfl,rfl,rfl⟩ (id:=16) (n:=n) V V (.inl V) V lE (λr hr=>ownE 17 r (gU hr)) (.inr ⟨20,_,_,rfl,rfl,.inl V,rfl,rfl⟩) (zB V) (rJ _ _) cK (by show(n+1)*40<=_;omega)).fM (uH ?_))
       refine zai ?_;rw[zm an,yQ hE];refine zk.trans (q8 [0,1,2,3,4,5,6,7,8,9,10,11,12,13,14,15,21,19] [1,2,3,4,5,6,7,8] V V V (by (repeat' (first|(exact V)|(exact zf λr hr=>ownV _ r (gU hr))|(exact zf λr hr=>ownG _ r (gU hr))|(exact zf λr hr=>ownE _ r (gU hr))|(exact zf (ownV _))|(exact zf (ownG _))|(exact zf (ownE _))|(exact zf λr hr=>(pw.1 hr).elim (λhr=>ownV _ r (gU hr)) (zB V r))|(exact zf λr hr=>(pw.1 hr).elim (λhr=>ownG _ r (gU hr)) (zB V r))|(exact zf λr hr=>(pw.1 hr).elim (λhr=>ownE _ r (gU hr)) (zB V r))|(refine ze ?_ ?_)))) V ?_) (cC);show _::_::_::_::_::_::_::zJ [0,1,2,3,4,5,6,7,8,9,10,11,12,13,14,15,21,19] ⟨1,106,5,List.take k (((w.zd.map zt).set v (fl 8 v0))),0⟩::_::_::_::_::zJ [0,1,2,3,4,5,6,7,8,9,10,11,12,13,14,15,21,19] ⟨1,111,2,List.take j (((v0.zg.map zy).set g (fi 13 g0))),0⟩::_::_::_::zJ [0,1,2,3,4,5,6,7,8,9,10,11,12,13,14,15,21,19] ⟨1,151,3,List.take n (((g0.ends.map zu).set e (fh 17 e0)))++[_],0⟩::_=_;rw[vp (enc:=zt) (λ_=>V),vp (enc:=zy) (λ_=>V),yP (enc:=zu) (λ_=>V)];rw[show List.take n ((g0.ends.map zu).set e (List.map (jK [0,1,2,3,4,5,6,7,8,9,10,11,12,13,14,15,21,19] 9) (fh 17 e0)))=List.take n (((g0.ends.map zu).set e (fh 17 e0))) from DN an _ _];rfl
      .simp only[gP (show ¬n<=e by omega),gP (show ¬n+1<=e by omega)];have hE:(((g0.ends.map zu).set e (fh 17 e0)))[n]?=some (zu z):=by rw[pT an];exact hge
       conv=>whnf
       refine zbo ?_
       refine za7 ?_
       rw[m6];refine zaA ?_
       refine za7 ?_
       (refine te hge ?_)
       refine zbK ?_
       refine zai ?_;rw[zm an,yQ hE];refine zk.trans (q8 [0,1,2,3,4,5,6,7,8,9,10,11,12,13,14,15,20,17] [1,2,3,4,5,6,7,8] V V V (by (repeat' (first|(exact V)|(exact zf λr hr=>ownV _ r (gU hr))|(exact zf λr hr=>ownG _ r (gU hr))|(exact zf λr hr=>ownE _ r (gU hr))|(exact zf (ownV _))|(exact zf (ownG _))|(exact zf (ownE _))|(exact zf λr hr=>(pw.1 hr).elim (λhr=>ownV _ r (gU hr)) (zB V r))|(exact zf λr hr=>(pw.1 hr).elim (λhr=>ownG _ r (gU hr)) (zB V r))|(exact zf λr hr=>(pw.1 hr).elim (λhr=>ownE _ r (gU hr)) (zB V r))|(refine ze ?_ ?_)))) V ?_) (cC);refine za1 ?_;rw[vp (enc:=zt) (λ_=>V),vp (enc:=zy) (λ_=>V),yP (enc:=zu) (λ_=>V)];rfl
     .simp only[gP (show ¬g0.ends.length<=e by omega)];rw[show(((g0.ends.map zu).set e (fh 17 e0))).take g0.ends.length=((g0.ends.map zu).set e (fh 17 e0)) from rO ah];conv=>whnf
      refine zbo ?_
      refine za7 ?_
      rw[m6];refine zaf ?_;(refine(e6.xx _ _ _ V underlying104 V V aj aj V V).fM (uH ?_))
      (refine(e6.je _ V _ _ ⟨rfl,rfl,⟨_,rfl,underlying104⟩,rfl,rfl,rfl⟩ (id:=12) (n:=j) V V (.inl V) V lG (λr hr=>ownG 13 r (gU hr)) (.inr ⟨18,_,_,rfl,rfl,.inl V,rfl,rfl⟩) (zB V) (rJ _ _) cJ (by show(j+1)*32<=_;omega)).fM (uH ?_))
      refine zai ?_;rw[zm an,yQ hG];refine zk.trans (q8 [0,1,2,3,4,5,6,7,8,9,10,11,19,16,17] [1,2,3,4,5,6] V V V (by (repeat' (first|(exact V)|(exact zf λr hr=>ownV _ r (gU hr))|(exact zf λr hr=>ownG _ r (gU hr))|(exact zf λr hr=>ownE _ r (gU hr))|(exact zf (ownV _))|(exact zf (ownG _))|(exact zf (ownE _))|(exact zf λr hr=>(pw.1 hr).elim (λhr=>ownV _ r (gU hr)) (zB V r))|(exact zf λr hr=>(pw.1 hr).elim (λhr=>ownG _ r (gU hr)) (zB V r))|(exact zf λr hr=>(pw.1 hr).elim (λhr=>ownE _ r (gU hr)) (zB V r))|(refine ze ?_ ?_)))) V ?_) (cC);show _::_::_::_::_::_::_::zJ [0,1,2,3,4,5,6,7,8,9,10,11,19,16,17] ⟨1,106,5,List.take k (((w.zd.map zt).set v (fl 8 v0))),0⟩::_::_::_::_::zJ [0,1,2,3,4,5,6,7,8,9,10,11,19,16,17] ⟨1,111,2,List.take j (((v0.zg.map zy).set g (fi 13 g0)))++[_],0⟩::zJ [0,1,2,3,4,5,6,7,8,9,10,11,19,16,17] ⟨1,151,3,((g0.ends.map zu).set e (fh 17 e0)),0⟩::_=_;rw[vp (enc:=zt) (λ_=>V),yP (enc:=zy) (λ_=>V),zI (enc:=zu) (λ_=>V)];rw[show List.take j ((v0.zg.map zy).set g (List.map (jK [0,1,2,3,4,5,6,7,8,9,10,11,19,16,17] 9) (fi 13 g0)))=List.take j (((v0.zg.map zy).set g (fi 13 g0))) from DN an _ _];rfl
    .simp only[gP (show ¬j<=g by omega),gP (show ¬j+1<=g by omega)];have hG:(((v0.zg.map zy).set g (fi 13 g0)))[j]?=some (zy y):=by rw[pT an];exact hgg
     conv=>whnf
     refine zbo ?_
     rw[m5];refine zaA ?_
     refine za7 ?_
     refine zb3 ?_
     refine zH.seq y.ends.length (λn=>(.za::.ref 3 [] 8 0 0:: .ref 4 [] 8 0 0:: .ref 5 [] 8 0 0::I k:: .ref 11 [] 5 0 0::I j:: .ref 15 [] 2 0 0::I n:: .za::.za::.za::.za::.za::.za::mK (jp (jp (jp (jp ([]))))))) (λn=>[⟨0,77,33,[],0⟩,⟨0,77,104,[],0⟩,⟨0,77,109,[],0⟩,oW w,⟨1,38,8,[fB],0⟩,⟨1,38,8,[[I w.zr,I w.current,I w.lock,.gl 6 1 (w.pins.map Go.Hy.encI),.sl 7 [] 5 0 k false,lL w.zc,ff w.counts,lR w.zn]],0⟩,⟨4,3,1,(w.pins.map Go.Hy.encI),0⟩,⟨1,106,5,(((w.zd.map zt).set v (fl 8 v0))).take k,0⟩,⟨0,111,2,[],0⟩,⟨0,151,3,[],0⟩,⟨0,3,1,[],0⟩,⟨1,106,5,[qP v0.snap++[.sl 12 [] 2 0 j false,Bo v0.qF]],0⟩,⟨1,111,2,(((v0.zg.map zy).set g (fi 13 g0))).take j,0⟩,⟨1,151,3,((g0.ends.map zu).set e (fh 14 e0)),0⟩,⟨2,3,1,(e0.next.map Go.Hy.encI),0⟩,⟨1,111,2,[[U y.zC,.gl 16 3 ((y.ends.take n).map zu)]],0⟩,⟨4,151,3,((y.ends.take n).map zu),0⟩]) (λk=>True) ?_ trivial (λn hn _=>?_) (λ_=>?_)
     .refine zk.trans (zk.qM 15 1 151 3 V V (.inl V) V V) ?_;exact cC
     .obtain⟨z,hz⟩:∃z,z=y.ends[n]:=⟨_,rfl⟩;have hge:(y.ends.map zu)[n]?=some (zu z):=by rw[gM,gL hn,hz];rfl
      have se:=sg.2 z mE;have m7:(z.next.map Go.Hy.encI).length=z.next.length:=gO ..;have lE:(((y.ends.take n).map zu)).length=n:=ar
      have eE:((y.ends.take (n+1)).map zu)=((y.ends.take n).map zu)++[zu z]:=cI
      conv=>whnf
      refine zbo ?_
      refine za7 ?_
      rw[m6];refine zaA ?_
      refine za7 ?_
      (refine te hge ?_)
      refine zbe ?_;exact zk.jq 17 ta V V V (by (repeat' (first|(exact V)|(exact lowA _ (ph V))|(exact lowG _ (ph V))|(exact lowE _ (ph V))|(exact lowW _ (ph V))|(exact lowX _ (ph V))|(refine qg ?_ ?_)))) V
     .conv=>whnf
      refine zbo ?_
      refine za7 ?_
      refine zbB ?_
      refine zai ?_;rw[zm an,yQ hG];refine zk.trans (q8 [0,1,2,3,4,5,6,7,8,9,10,11,17,13,14] [1,2,3,4,5,6] V V V (by (repeat' (first|(exact V)|(exact zf λr hr=>ownV _ r (gU hr))|(exact zf λr hr=>ownG _ r (gU hr))|(exact zf λr hr=>ownE _ r (gU hr))|(exact zf (ownV _))|(exact zf (ownG _))|(exact zf (ownE _))|(exact zf λr hr=>(pw.1 hr).elim (λhr=>ownV _ r (gU hr)) (zB V r))|(exact zf λr hr=>(pw.1 hr).elim (λhr=>ownG _ r (gU hr)) (zB V r))|(exact zf λr hr=>(pw.1 hr).elim (λhr=>ownE _ r (gU hr)) (zB V r))|(refine ze ?_ ?_)))) V ?_) (cC);show _::_::_::_::_::_::_::zJ [0,1,2,3,4,5,6,7,8,9,10,11,17,13,14] ⟨1,106,5,List.take k (((w.zd.map zt).set v (fl 8 v0))),0⟩::_::_::_::_::zJ [0,1,2,3,4,5,6,7,8,9,10,11,17,13,14] ⟨1,111,2,List.take j (((v0.zg.map zy).set g (fi 13 g0)))++[_],0⟩::zJ [0,1,2,3,4,5,6,7,8,9,10,11,17,13,14] ⟨1,151,3,((g0.ends.map zu).set e (fh 14 e0)),0⟩::_=_;rw[vp (enc:=zt) (λ_=>V),yP (enc:=zy) (λ_=>V),zI (enc:=zu) (λ_=>V)];rfl
   .simp only[gP (show ¬v0.zg.length<=g by omega)];rw[show(((v0.zg.map zy).set g (fi 13 g0))).take v0.zg.length=((v0.zg.map zy).set g (fi 13 g0)) from rO ah];conv=>whnf
    refine zbo ?_
    rw[m5];refine zaf ?_;(refine(e6.xx _ _ _ V underlying33 V V aj aj V V).fM (uH ?_))
    (refine(e6.je _ V _ _ ⟨rfl,rfl,⟨_,rfl,underlying33⟩,rfl,rfl,rfl⟩ (id:=7) (n:=k) V V (.inl V) V lV (λr hr=>ownV 8 r (gU hr)) (.inr ⟨15,_,_,rfl,rfl,.inl V,rfl,rfl⟩) (zB V) (rJ _ _) tK cF).fM (uH ?_))
    refine zai ?_;rw[zm an,yQ hF];refine zk.trans (q8 [0,1,2,3,4,5,6,16,12,13,14] [1,2,3,4] V V V (by (repeat' (first|(exact V)|(exact zf λr hr=>ownV _ r (gU hr))|(exact zf λr hr=>ownG _ r (gU hr))|(exact zf λr hr=>ownE _ r (gU hr))|(exact zf (ownV _))|(exact zf (ownG _))|(exact zf (ownE _))|(exact zf λr hr=>(pw.1 hr).elim (λhr=>ownV _ r (gU hr)) (zB V r))|(exact zf λr hr=>(pw.1 hr).elim (λhr=>ownG _ r (gU hr)) (zB V r))|(exact zf λr hr=>(pw.1 hr).elim (λhr=>ownE _ r (gU hr)) (zB V r))|(refine ze ?_ ?_)))) V ?_) (cC);show _::_::_::_::_::_::_::zJ [0,1,2,3,4,5,6,16,12,13,14] ⟨1,106,5,List.take k (((w.zd.map zt).set v (fl 8 v0)))++[_],0⟩::zJ [0,1,2,3,4,5,6,16,12,13,14] ⟨1,111,2,((v0.zg.map zy).set g (fi 13 g0)),0⟩::zJ [0,1,2,3,4,5,6,16,12,13,14] ⟨1,151,3,((g0.ends.map zu).set e (fh 14 e0)),0⟩::_=_;rw[yP (enc:=zt) (λ_=>V),zI (enc:=zy) (λ_=>V),zI (enc:=zu) (λ_=>V)];rw[show List.take k ((w.zd.map zt).set v (List.map (jK [0,1,2,3,4,5,6,16,12,13,14] 9) (fl 8 v0)))=List.take k (((w.zd.map zt).set v (fl 8 v0))) from DN an _ _];rfl
  .simp only[gP (show ¬k<=v by omega),gP (show ¬k+1<=v by omega)];have hF:(((w.zd.map zt).set v (fl 8 v0)))[k]?=some (zt x):=by rw[pT an];exact hgv
   conv=>whnf
   rw[m2];refine zaA ?_
   (refine(e6.same (qy.buildSlice _ _ _ V (c:=.eM 1 2 []) V)).fM (uH ?_))
   refine zH.seq x.zg.length (λj=>(.za::.ref 3 [] 8 0 0:: .ref 4 [] 8 0 0:: .ref 5 [] 8 0 0::I k:: .ref 11 [] 5 0 0::I j:: mK (jp (jp (jp (jp (mK ([])))))))) (λj=>[⟨0,77,33,[],0⟩,⟨0,77,104,[],0⟩,⟨0,77,109,[],0⟩,oW w,⟨1,38,8,[fB],0⟩,⟨1,38,8,[[I w.zr,I w.current,I w.lock,.gl 6 1 (w.pins.map Go.Hy.encI),.sl 7 [] 5 0 k false,lL w.zc,ff w.counts,lR w.zn]],0⟩,⟨4,3,1,(w.pins.map Go.Hy.encI),0⟩,⟨1,106,5,(((w.zd.map zt).set v (fl 8 v0))).take k,0⟩,⟨1,111,2,((v0.zg.map zy).set g (fi 9 g0)),0⟩,⟨1,151,3,((g0.ends.map zu).set e (fh 10 e0)),0⟩,⟨2,3,1,(e0.next.map Go.Hy.encI),0⟩,⟨1,106,5,[qP x.snap++[.gl 12 2 ((x.zg.take j).map zy),Bo x.qF]],0⟩,⟨4,111,2,((x.zg.take j).map zy),0⟩]) (λk=>True) ?_ trivial (λj hj _=>?_) (λ_=>?_)
   .refine zk.trans (zk.qM 11 3 111 2 V V (.inl V) V V) ?_;exact cC
   .obtain⟨y,hy⟩:∃y,y=x.zg[j]:=⟨_,rfl⟩;have hgg:(x.zg.map zy)[j]?=some (zy y):=by rw[gM,gL hj,hy];rfl
    have sg:=sv.2 y cH;have m6:(y.ends.map zu).length=y.ends.length:=gO ..;have b6:=sg.1;have lG:(((x.zg.take j).map zy)).length=j:=ar
    have eG:((x.zg.take (j+1)).map zy)=((x.zg.take j).map zy)++[zy y]:=by rw[pP hj,<-hy];simp
    conv=>whnf
    refine zbo ?_
    rw[m5];refine zaA ?_
    refine za7 ?_
    refine zb3 ?_
    refine zH.seq y.ends.length (λn=>(.za::.ref 3 [] 8 0 0:: .ref 4 [] 8 0 0:: .ref 5 [] 8 0 0::I k:: .ref 11 [] 5 0 0::I j:: .ref 13 [] 2 0 0::I n:: .za::.za::.za::.za::.za::.za::mK (jp (jp (jp (jp ([]))))))) (λn=>[⟨0,77,33,[],0⟩,⟨0,77,104,[],0⟩,⟨0,77,109,[],0⟩,oW w,⟨1,38,8,[fB],0⟩,⟨1,38,8,[[I w.zr,I w.current,I w.lock,.gl 6 1 (w.pins.map Go.Hy.encI),.sl 7 [] 5 0 k false,lL w.zc,ff w.counts,lR w.zn]],0⟩,⟨4,3,1,(w.pins.map Go.Hy.encI),0⟩,⟨1,106,5,(((w.zd.map zt).set v (fl 8 v0))).take k,0⟩,⟨1,111,2,((v0.zg.map zy).set g (fi 9 g0)),0⟩,⟨1,151,3,((g0.ends.map zu).set e (fh 10 e0)),0⟩,⟨2,3,1,(e0.next.map Go.Hy.encI),0⟩,⟨1,106,5,[qP x.snap++[.gl 12 2 ((x.zg.take j).map zy),Bo x.qF]],0⟩,⟨4,111,2,((x.zg.take j).map zy),0⟩,⟨1,111,2,[[U y.zC,.gl 14 3 ((y.ends.take n).map zu)]],0⟩,⟨4,151,3,((y.ends.take n).map zu),0⟩]) (λk=>True) ?_ trivial (λn hn _=>?_) (λ_=>?_)
    .refine zk.trans (zk.qM 13 1 151 3 V V (.inl V) V V) ?_;exact cC
    .obtain⟨z,hz⟩:∃z,z=y.ends[n]:=⟨_,rfl⟩;have hge:(y.ends.map zu)[n]?=some (zu z):=by rw[gM,gL hn,hz];rfl
     have se:=sg.2 z mE;have m7:(z.next.map Go.Hy.encI).length=z.next.length:=gO ..;have lE:(((y.ends.take n).map zu)).length=n:=ar
     have eE:((y.ends.take (n+1)).map zu)=((y.ends.take n).map zu)++[zu z]:=cI
     conv=>whnf
     refine zbo ?_
     refine za7 ?_
     rw[m6];refine zaA ?_
     refine za7 ?_
     (refine te hge ?_)
     refine zbe ?_;exact zk.jq 15 ta V V V (by (repeat' (first|(exact V)|(exact lowA _ (ph V))|(exact lowG _ (ph V))|(exact lowE _ (ph V))|(exact lowW _ (ph V))|(exact lowX _ (ph V))|(refine qg ?_ ?_)))) V
    .conv=>whnf
     refine zbo ?_
     refine za7 ?_
     refine zby ?_;exact zk.jq 13 ta V V V (by (repeat' (first|(exact V)|(exact lowA _ (ph V))|(exact lowG _ (ph V))|(exact lowE _ (ph V))|(exact lowW _ (ph V))|(exact lowX _ (ph V))|(refine qg ?_ ?_)))) V
   .conv=>whnf
    refine zbo ?_
    refine zbR ?_
    refine zai ?_;rw[zm an,yQ hF];refine zk.trans (q8 [0,1,2,3,4,5,6,13,8,9,10] [1,2,3,4] V V V (by (repeat' (first|(exact V)|(exact zf λr hr=>ownV _ r (gU hr))|(exact zf λr hr=>ownG _ r (gU hr))|(exact zf λr hr=>ownE _ r (gU hr))|(exact zf (ownV _))|(exact zf (ownG _))|(exact zf (ownE _))|(exact zf λr hr=>(pw.1 hr).elim (λhr=>ownV _ r (gU hr)) (zB V r))|(exact zf λr hr=>(pw.1 hr).elim (λhr=>ownG _ r (gU hr)) (zB V r))|(exact zf λr hr=>(pw.1 hr).elim (λhr=>ownE _ r (gU hr)) (zB V r))|(refine ze ?_ ?_)))) V ?_) (cC);show _::_::_::_::_::_::_::zJ [0,1,2,3,4,5,6,13,8,9,10] ⟨1,106,5,List.take k (((w.zd.map zt).set v (fl 8 v0)))++[_],0⟩::zJ [0,1,2,3,4,5,6,13,8,9,10] ⟨1,111,2,((v0.zg.map zy).set g (fi 9 g0)),0⟩::zJ [0,1,2,3,4,5,6,13,8,9,10] ⟨1,151,3,((g0.ends.map zu).set e (fh 10 e0)),0⟩::_=_;rw[yP (enc:=zt) (λ_=>V),zI (enc:=zy) (λ_=>V),zI (enc:=zu) (λ_=>V)];rfl
 .simp only[gP (show ¬w.zd.length<=v by omega)];rw[show(((w.zd.map zt).set v (fl 8 v0))).take w.zd.length=((w.zd.map zt).set v (fl 8 v0)) from rO ah];conv=>whnf
  rw[m2];refine zaf ?_;have m8:(w.counts.map zA).length=w.counts.length:=gO ..;have b8:=h.counts.1;refine zbF ?_;refine zH.seq w.counts.length (λk=>(.za::.ref 3 [] 8 0 0:: .ref 4 [] 8 0 0:: .ref 5 [] 8 0 0:: .za::.za::.za::.za::.za::.za::.za::I k:: .za::.za::.za::mK (jp (jp (jp (jp ([]))))))) (λk=>[⟨0,77,33,[],0⟩,⟨0,77,104,[],0⟩,⟨0,77,109,[],0⟩,oW w,⟨1,38,8,[fB],0⟩,⟨1,38,8,[[I w.zr,I w.current,I w.lock,.gl 6 1 (w.pins.map Go.Hy.encI),.sl 7 [] 5 0 w.zd.length false,.gl 11 4 (w.zc.map zU),.gl 12 1 ((w.counts.take k).map zA),lR w.zn]],0⟩,⟨4,3,1,(w.pins.map Go.Hy.encI),0⟩,⟨1,106,5,((w.zd.map zt).set v (fl 8 v0)),0⟩,⟨1,111,2,((v0.zg.map zy).set g (fi 9 g0)),0⟩,⟨1,151,3,((g0.ends.map zu).set e (fh 10 e0)),0⟩,⟨2,3,1,(e0.next.map Go.Hy.encI),0⟩,⟨4,98,4,w.zc.map zU,0⟩,⟨4,155,1,((w.counts.take k).map zA),0⟩]) (λk=>True) ?_ trivial (λk hk _=>?_) (λ_=>?_)
  .refine zk.trans (zk.qM 5 6 155 1 V V (.inl V) V V) ?_;exact cC
  .obtain⟨r,hr⟩:∃r,r=w.counts[k]:=⟨_,rfl⟩;have hgr:(w.counts.map zA)[k]?=some (zA r):=by rw[gM,gL hk,hr];rfl
   have sr:=h.counts.2 r tJ;have lC:(((w.counts.take k).map zA)).length=k:=ar
   have eC:((w.counts.take (k+1)).map zA)=((w.counts.take k).map zA)++[zA r]:=cx
   conv=>whnf
   refine za6 ?_;(refine te hgr ?_)
   refine⟨?_,?_⟩
   .conv=>whnf
    refine zae ?_
    refine zaq ?_;refine zae ?_
    refine zaT ?_
    refine zaC ?_
    refine zai ?_;rw[zm an,eC];exact zk.jq 13 ta V V V (by (repeat' (first|(exact V)|(exact lowA _ (ph V))|(exact lowG _ (ph V))|(exact lowE _ (ph V))|(exact lowW _ (ph V))|(exact lowX _ (ph V))|(refine qg ?_ ?_)))) V
   .refine⟨?_,trivial⟩;conv=>whnf
    refine zaq ?_;refine tc ?_
    refine⟨?_,?_⟩
    .conv=>whnf
     refine zae ?_
     refine zaT ?_
     refine zaC ?_
     refine zai ?_;rw[zm an,eC];exact zk.jq 13 ta V V V (by (repeat' (first|(exact V)|(exact lowA _ (ph V))|(exact lowG _ (ph V))|(exact lowE _ (ph V))|(exact lowW _ (ph V))|(exact lowX _ (ph V))|(refine qg ?_ ?_)))) V
    .trivial
  .conv=>whnf
   refine zbh ?_;refine q8 [7,8,9,10] [0] V V V (by (repeat' (first|(exact V)|(exact zf λr hr=>ownV _ r (gU hr))|(exact zf λr hr=>ownG _ r (gU hr))|(exact zf λr hr=>ownE _ r (gU hr))|(exact zf (ownV _))|(exact zf (ownG _))|(exact zf (ownE _))|(exact zf λr hr=>(pw.1 hr).elim (λhr=>ownV _ r (gU hr)) (zB V r))|(exact zf λr hr=>(pw.1 hr).elim (λhr=>ownG _ r (gU hr)) (zB V r))|(exact zf λr hr=>(pw.1 hr).elim (λhr=>ownE _ r (gU hr)) (zB V r))|(refine ze ?_ ?_)))) V ?_;show zJ [7,8,9,10] ⟨1,106,5,((w.zd.map zt).set v (fl 8 v0)),0⟩::zJ [7,8,9,10] ⟨1,111,2,((v0.zg.map zy).set g (fi 9 g0)),0⟩::zJ [7,8,9,10] ⟨1,151,3,((g0.ends.map zu).set e (fh 10 e0)),0⟩::_=_;rw[zI (enc:=zt) (λ_=>V),zI (enc:=zy) (λ_=>V),zI (enc:=zu) (λ_=>V)]
   rfl
def Ii(w:Wor)(h:z6 w)(p0:Int)(ps:List Int)(hq:w.pins=p0::ps):th 89 [] [Cw w] (.agg [I w.zr,I w.current,I w.lock,.sl 0 [] 1 0 w.pins.length false,lV w.zd,lL w.zc,ff w.counts,lR w.zn]) [⟨2,3,1,(w.pins.map Go.Hy.encI),0⟩]:=by
 have hq2:(w.pins.map Go.Hy.encI)=Go.Hy.encI p0::ps.map Go.Hy.encI:=cB
 have hq4:ps.length<1000000000:=by have:=h.pins;rw[hq]at this;exact dt
 have hq3:(ps.map Go.Hy.encI).length+1=w.pins.length:=cD
 have m1:(w.pins.map Go.Hy.encI).length=w.pins.length:=gO ..;have m2:(w.zd.map zt).length=w.zd.length:=gO ..;have m3:(w.zc.map zU).length=w.zc.length:=gO ..;have m4:(w.zn.map qh).length=w.zn.length:=gO ..;have b1:=h.pins;have b2:=h.zd.1;have b3:=h.zc;have b4:=h.zn;refine kA (fn:=f89) func89 V (uH ?_);refine .inr ?_;rw[hq2];refine⟨.inl V,aq,aH,uH ?_⟩;rw[hq3,<-hq2,show([]:List (List C)).length+w.pins.length=w.pins.length from gZ _];refine zH.seq w.zd.length (λk=>(.za::.ref 0 [] 8 0 0:: .ref 1 [] 8 0 0:: .ref 2 [] 8 0 0::I k:: .za::.za::mK (jp (jp (jp (jp (mK ([])))))))) (λk=>[oW w,⟨1,38,8,[fB],0⟩,⟨1,38,8,[[I w.zr,I w.current,I w.lock,.sl 3 [] 1 0 w.pins.length false,.gl 4 5 ((w.zd.take k).map zt),lL w.zc,ff w.counts,lR w.zn]],0⟩,⟨2,3,1,(w.pins.map Go.Hy.encI),0⟩,⟨4,106,5,((w.zd.take k).map zt),0⟩]) (λk=>True) ?_ trivial (λk hk _=>?_) (λ_=>?_)
 .exact dI
 .obtain⟨v,hv⟩:∃v,v=w.zd[k]:=⟨_,rfl⟩;have hgv:(w.zd.map zt)[k]?=some (zt v):=by rw[gM,gL hk,hv];rfl
  have sv:=h.zd.2 v tN;have m5:(v.zg.map zy).length=v.zg.length:=gO ..;have b5:=sv.1;conv=>whnf
  rw[m2];refine zaA ?_
  refine zH.seq v.zg.length (λj=>(.za::.ref 0 [] 8 0 0:: .ref 1 [] 8 0 0:: .ref 2 [] 8 0 0::I k:: .ref 5 [] 5 0 0::I j:: mK (jp (jp (jp (jp (mK ([])))))))) (λj=>[oW w,⟨1,38,8,[fB],0⟩,⟨1,38,8,[[I w.zr,I w.current,I w.lock,.sl 3 [] 1 0 w.pins.length false,.gl 4 5 ((w.zd.take k).map zt),lL w.zc,ff w.counts,lR w.zn]],0⟩,⟨2,3,1,(w.pins.map Go.Hy.encI),0⟩,⟨4,106,5,((w.zd.take k).map zt),0⟩,⟨1,106,5,[qP v.snap++[.gl 6 2 ((v.zg.take j).map zy),Bo v.qF]],0⟩,⟨4,111,2,((v.zg.take j).map zy),0⟩]) (λk=>True) ?_ trivial (λj hj _=>?_) (λ_=>?_)
  .exact dk
  .obtain⟨g,hg⟩:∃g,g=v.zg[j]:=⟨_,rfl⟩;have hgg:(v.zg.map zy)[j]?=some (zy g):=by rw[gM,gL hj,hg];rfl
   have sg:=sv.2 g tH;have m6:(g.ends.map zu).length=g.ends.length:=gO ..;have b6:=sg.1;have lG:(((v.zg.take j).map zy)).length=j:=ar
   have eG:((v.zg.take (j+1)).map zy)=((v.zg.take j).map zy)++[zy g]:=bZ
   conv=>whnf
   refine zbo ?_
   rw[m5];refine zaA ?_
   refine za7 ?_
   refine zH.seq g.ends.length (λn=>(.za::.ref 0 [] 8 0 0:: .ref 1 [] 8 0 0:: .ref 2 [] 8 0 0::I k:: .ref 5 [] 5 0 0::I j:: .ref 7 [] 2 0 0::I n:: .za::.za::.za::.za::.za::.za::mK (jp (jp (jp (jp ([]))))))) (λn=>[oW w,⟨1,38,8,[fB],0⟩,⟨1,38,8,[[I w.zr,I w.current,I w.lock,.sl 3 [] 1 0 w.pins.length false,.gl 4 5 ((w.zd.take k).map zt),lL w.zc,ff w.counts,lR w.zn]],0⟩,⟨2,3,1,(w.pins.map Go.Hy.encI),0⟩,⟨4,106,5,((w.zd.take k).map zt),0⟩,⟨1,106,5,[qP v.snap++[.gl 6 2 ((v.zg.take j).map zy),Bo v.qF]],0⟩,⟨4,111,2,((v.zg.take j).map zy),0⟩,⟨1,111,2,[[U g.zC,.gl 8 3 ((g.ends.take n).map zu)]],0⟩,⟨4,151,3,((g.ends.take n).map zu),0⟩]) (λk=>True) ?_ trivial (λn hn _=>?_) (λ_=>?_)
   .exact dj
   .obtain⟨e,he⟩:∃e,e=g.ends[n]:=⟨_,rfl⟩;have hge:(g.ends.map zu)[n]?=some (zu e):=by rw[gM,gL hn,he];rfl
    have se:=sg.2 e tI;have m7:(e.next.map Go.Hy.encI).length=e.next.length:=gO ..;have lE:(((g.ends.take n).map zu)).length=n:=ar
    have eE:((g.ends.take (n+1)).map zu)=((g.ends.take n).map zu)++[zu e]:=b9
    conv=>whnf
    refine zbo ?_
    refine za7 ?_
    rw[m6];refine zaA ?_
    refine za7 ?_
    (refine te hge ?_)
    exact c7
   .conv=>whnf
    refine zbo ?_
    refine za7 ?_
    exact cZ
  .have lV:(((w.zd.take k).map zt)).length=k:=by simp;omega
   have eV:((w.zd.take (k+1)).map zt)=((w.zd.take k).map zt)++[zt v]:=cp
   conv=>whnf
   refine zbo ?_
   exact db
 .conv=>whnf
  rw[m2];refine zaf ?_;rw[px];have m8:(w.counts.map zA).length=w.counts.length:=gO ..;have b8:=h.counts.1;refine zbF ?_;refine zH.seq w.counts.length (λk=>(.za::.ref 0 [] 8 0 0:: .ref 1 [] 8 0 0:: .ref 2 [] 8 0 0:: .za::.za::.za::.za::.za::.za::.za::I k:: .za::.za::.za::mK (jp (jp (jp (jp ([]))))))) (λk=>[oW w,⟨1,38,8,[fB],0⟩,⟨1,38,8,[[I w.zr,I w.current,I w.lock,.sl 3 [] 1 0 w.pins.length false,.gl 4 5 (w.zd.map zt),.gl 5 4 (w.zc.map zU),.gl 6 1 ((w.counts.take k).map zA),lR w.zn]],0⟩,⟨2,3,1,(w.pins.map Go.Hy.encI),0⟩,⟨4,106,5,w.zd.map zt,0⟩,⟨4,98,4,w.zc.map zU,0⟩,⟨4,155,1,((w.counts.take k).map zA),0⟩]) (λk=>True) ?_ trivial (λk hk _=>?_) (λ_=>?_)
  .exact dv
  .obtain⟨r,hr⟩:∃r,r=w.counts[k]:=⟨_,rfl⟩;have hgr:(w.counts.map zA)[k]?=some (zA r):=by rw[gM,gL hk,hr];rfl
   have sr:=h.counts.2 r tJ;have lC:(((w.counts.take k).map zA)).length=k:=ar
   have eC:((w.counts.take (k+1)).map zA)=((w.counts.take k).map zA)++[zA r]:=cx
   conv=>whnf
   refine zaQ ?_
   refine⟨?_,?_⟩
   .conv=>whnf
    refine zae ?_
    refine zaq ?_;refine zae ?_
    refine zaT ?_
    refine zaC ?_
    exact de
   .refine⟨?_,trivial⟩;conv=>whnf
    refine zaq ?_;refine tc ?_
    refine⟨?_,?_⟩
    .conv=>whnf
     refine zae ?_
     refine zaT ?_
     refine zaC ?_
     exact de
    .trivial
  .conv=>whnf
   refine zbh ?_;exact q8 [3] [0] V V V V V V
def NZ(w:Wor)(h:z6 w){t:Nat}{r0:List Int}(hp:AN w.counts t r0):th 89 [] [Cw w] (.agg (ik 0 w)) [⟨1,155,1,((w.counts.map zA).set t [C.sl 1 [] 1 0 r0.length false]),0⟩,⟨2,52,1,(r0.map qB),0⟩]:=by
 have ownC:∀r∈((w.counts.map zA).set t [C.sl 10 [] 1 0 r0.length false]),∀c∈r,zG c=true:=zF (enc:=zA) (λ_=>V) V _ _;have tlt:=(gN.1 hp.at_).1;have m1:(w.pins.map Go.Hy.encI).length=w.pins.length:=gO ..;have m2:(w.zd.map zt).length=w.zd.length:=gO ..;have m3:(w.zc.map zU).length=w.zc.length:=gO ..;have m4:(w.zn.map qh).length=w.zn.length:=gO ..;have b1:=h.pins;have b2:=h.zd.1;have b3:=h.zc;have b4:=h.zn;refine GN [35,35,35] (fn:=f89) func89 V (uH ?_);refine zaq ?_;refine zH.seq w.zd.length (λk=>(.za::.ref 3 [] 8 0 0:: .ref 4 [] 8 0 0:: .ref 5 [] 8 0 0::I k:: .za::.za::mK (jp (jp (jp (jp (mK ([])))))))) (λk=>[⟨0,77,35,[],0⟩,⟨0,77,35,[],0⟩,⟨0,77,35,[],0⟩,oW w,⟨1,38,8,[fB],0⟩,⟨1,38,8,[[I w.zr,I w.current,I w.lock,.gl 6 1 (w.pins.map Go.Hy.encI),.gl 7 5 ((w.zd.take k).map zt),lL w.zc,ff w.counts,lR w.zn]],0⟩,⟨4,3,1,(w.pins.map Go.Hy.encI),0⟩,⟨4,106,5,((w.zd.take k).map zt),0⟩]) (λk=>True) ?_ trivial (λk hk _=>?_) (λ_=>?_)
 .refine zk.trans (zk.qM 5 4 106 5 V V (.inl V) V V) ?_;exact cC
 .obtain⟨v,hv⟩:∃v,v=w.zd[k]:=⟨_,rfl⟩;have hgv:(w.zd.map zt)[k]?=some (zt v):=by rw[gM,gL hk,hv];rfl
  have sv:=h.zd.2 v tN;have m5:(v.zg.map zy).length=v.zg.length:=gO ..;have b5:=sv.1;conv=>whnf
  rw[m2];refine zaA ?_
  refine zH.seq v.zg.length (λj=>(.za::.ref 3 [] 8 0 0:: .ref 4 [] 8 0 0:: .ref 5 [] 8 0 0::I k:: .ref 8 [] 5 0 0::I j:: mK (jp (jp (jp (jp (mK ([])))))))) (λj=>[⟨0,77,35,[],0⟩,⟨0,77,35,[],0⟩,⟨0,77,35,[],0⟩,oW w,⟨1,38,8,[fB],0⟩,⟨1,38,8,[[I w.zr,I w.current,I w.lock,.gl 6 1 (w.pins.map Go.Hy.encI),.gl 7 5 ((w.zd.take k).map zt),lL w.zc,ff w.counts,lR w.zn]],0⟩,⟨4,3,1,(w.pins.map Go.Hy.encI),0⟩,⟨4,106,5,((w.zd.take k).map zt),0⟩,⟨1,106,5,[qP v.snap++[.gl 9 2 ((v.zg.take j).map zy),Bo v.qF]],0⟩,⟨4,111,2,((v.zg.take j).map zy),0⟩]) (λk=>True) ?_ trivial (λj hj _=>?_) (λ_=>?_)
  .refine zk.trans (zk.qM 8 3 111 2 V V (.inl V) V V) ?_;exact cC
  .obtain⟨g,hg⟩:∃g,g=v.zg[j]:=⟨_,rfl⟩;have hgg:(v.zg.map zy)[j]?=some (zy g):=by rw[gM,gL hj,hg];rfl
   have sg:=sv.2 g tH;have m6:(g.ends.map zu).length=g.ends.length:=gO ..;have b6:=sg.1;have lG:(((v.zg.take j).map zy)).length=j:=ar
   have eG:((v.zg.take (j+1)).map zy)=((v.zg.take j).map zy)++[zy g]:=bZ
   conv=>whnf
   refine zbo ?_
   rw[m5];refine zaA ?_
   refine za7 ?_
   refine zH.seq g.ends.length (λn=>(.za::.ref 3 [] 8 0 0:: .ref 4 [] 8 0 0:: .ref 5 [] 8 0 0::I k:: .ref 8 [] 5 0 0::I j:: .ref 10 [] 2 0 0::I n:: .za::.za::.za::.za::.za::.za::mK (jp (jp (jp (jp ([]))))))) (λn=>[⟨0,77,35,[],0⟩,⟨0,77,35,[],0⟩,⟨0,77,35,[],0⟩,oW w,⟨1,38,8,[fB],0⟩,⟨1,38,8,[[I w.zr,I w.current,I w.lock,.gl 6 1 (w.pins.map Go.Hy.encI),.gl 7 5 ((w.zd.take k).map zt),lL w.zc,ff w.counts,lR w.zn]],0⟩,⟨4,3,1,(w.pins.map Go.Hy.encI),0⟩,⟨4,106,5,((w.zd.take k).map zt),0⟩,⟨1,106,5,[qP v.snap++[.gl 9 2 ((v.zg.take j).map zy),Bo v.qF]],0⟩,⟨4,111,2,((v.zg.take j).map zy),0⟩,⟨1,111,2,[[U g.zC,.gl 11 3 ((g.ends.take n).map zu)]],0⟩,⟨4,151,3,((g.ends.take n).map zu),0⟩]) (λk=>True) ?_ trivial (λn hn _=>?_) (λ_=>?_)
   .refine zk.trans (zk.qM 10 1 151 3 V V (.inl V) V V) ?_;exact cC
   .obtain⟨e,he⟩:∃e,e=g.ends[n]:=⟨_,rfl⟩;have hge:(g.ends.map zu)[n]?=some (zu e):=by rw[gM,gL hn,he];rfl
    have se:=sg.2 e tI;have m7:(e.next.map Go.Hy.encI).length=e.next.length:=gO ..;have lE:(((g.ends.take n).map zu)).length=n:=ar
    have eE:((g.ends.take (n+1)).map zu)=((g.ends.take n).map zu)++[zu e]:=b9
    conv=>whnf
    refine zbo ?_
    refine za7 ?_
    rw[m6];refine zaA ?_
    refine za7 ?_
    (refine te hge ?_)
    refine zbe ?_;exact cE 12
   .conv=>whnf
    refine zbo ?_
    refine za7 ?_
    refine zby ?_;exact cE 10
  .have lV:(((w.zd.take k).map zt)).length=k:=by simp;omega
   have eV:((w.zd.take (k+1)).map zt)=((w.zd.take k).map zt)++[zt v]:=cp
   conv=>whnf
   refine zbo ?_
   rw[m5];refine zaf ?_;rw[px];refine⟨rfl,.inr V,cq,ct,dd ?_⟩;refine zai ?_;rw[zm an,eV];exact cE 8
 .conv=>whnf
  rw[m2];refine zaf ?_;rw[px];have m8:(w.counts.map zA).length=w.counts.length:=gO ..;have b8:=h.counts.1;refine zbF ?_;(refine(e6.xx _ _ _ V underlying35 V V aj aj V V).fM (uH ?_))
  refine zH.seq w.counts.length (λk=>(.za::.ref 3 [] 8 0 0:: .ref 4 [] 8 0 0:: .ref 5 [] 8 0 0:: .za::.za::.za::.za::.za::.za::.za::I k:: .za::.za::.za::mK (jp (jp (jp (jp ([]))))))) (λk=>[⟨0,77,35,[],0⟩,⟨0,77,35,[],0⟩,⟨0,77,35,[],0⟩,oW w,⟨1,38,8,[fB],0⟩,⟨1,38,8,[[I w.zr,I w.current,I w.lock,.gl 6 1 (w.pins.map Go.Hy.encI),.gl 7 5 (w.zd.map zt),.gl 8 4 (w.zc.map zU),.sl 9 [] 1 0 k false,lR w.zn]],0⟩,⟨4,3,1,(w.pins.map Go.Hy.encI),0⟩,⟨4,106,5,w.zd.map zt,0⟩,⟨4,98,4,w.zc.map zU,0⟩,⟨1,155,1,(((w.counts.map zA).set t [C.sl 10 [] 1 0 r0.length false])).take k,0⟩,⟨if k<=t then 0 else 2,52,1,if k<=t then [] else (r0.map qB),0⟩]) (λk=>True) ?_ trivial (λk hk _=>?_) (λ_=>?_)
  .simp only[gS (pC t)];refine zk.trans (zk.dead 52 1) ?_;exact cC
  .obtain⟨r,hr⟩:∃r,r=w.counts[k]:=⟨_,rfl⟩;have hr2:w.counts[k]?=some r:=by rw[hr];exact gL hk
   have hgr:(w.counts.map zA)[k]?=some (zA r):=by rw[gM,hr2];rfl
   have sr:=h.counts.2 r tJ;have lC:((((w.counts.map zA).set t [C.sl 10 [] 1 0 r0.length false])).take k).length=k:=ar
   rcases rU k t with hkt|hkt|hkt
   .simp only[gS (show k<=t by omega),gS (show k+1<=t by omega)];have hF:(((w.counts.map zA).set t [C.sl 10 [] 1 0 r0.length false]))[k]?=some (zA r):=by rw[pT an];exact hgr
    conv=>whnf
    refine za6 ?_;((refine te hgr ?_));(conv=>whnf);(repeat' (first|(refine And.intro V (uH ?_))|(refine And.intro (uH ?_) trivial)|(refine And.intro ?_ ?_ <;> (conv=>whnf))))
    all_goals (refine .inl ⟨.inl V,.inr V,aq,aH,uH ?_⟩);(repeat' (first|(refine And.intro V (uH ?_))|(refine And.intro (uH ?_) trivial)|(refine And.intro ?_ ?_ <;> (conv=>whnf))))
    all_goals ((refine(e6.je _ V _ _ ⟨rfl,rfl,⟨_,rfl,underlying35⟩,rfl,rfl,rfl⟩ (id:=9) (n:=k) V V (.inl V) V lC (λr hr=>ownC r (gU hr)) (.inl V) (zB V) (rJ _ _) tK (by show(k+1)*24<=_;omega)).fM (uH ?_)));(repeat' (first|(refine And.intro V (uH ?_))|(refine And.intro (uH ?_) trivial)|(refine And.intro ?_ ?_ <;> (conv=>whnf))))
    all_goals ((refine⟨_,_,.refl _,uH ?_⟩));(refine .inl ⟨rfl,?_,trivial⟩);(rw[zm an,yQ hF]);(refine zk.trans (q8 [0,1,2,3,4,5,6,7,8,12,10] [1,2,3,11] V V V (by (repeat' (first|(exact V)|(exact zf ownC)|(exact zf λr hr=>ownC r (gU hr))|(exact zf λr hr=>(pw.1 hr).elim (λhr=>ownC r (gU hr)) (zB V r))|(refine ze ?_ ?_)))) V ?_) (cC));(show _::_::_::_::_::_::_::_::_::zJ [0,1,2,3,4,5,6,7,8,12,10] ⟨1,155,1,List.take k (((w.counts.map zA).set t [C.sl 10 [] 1 0 r0.length false]))++[_],0⟩::_=_;rw[yP (enc:=zA) (λ_=>V)];rfl)
   .simp only[gS (show k<=t by omega),gP (show ¬k+1<=t by omega)];obtain rfl:r0=r:=by rw[hkt,hp.at_]at hr2;exact rC hr2
    have hF:(((w.counts.map zA).set t [C.sl 10 [] 1 0 r0.length false]))[k]?=some [C.sl 10 [] 1 0 r0.length false]:=by rw[hkt];exact gX (ai tlt)
    obtain⟨q0,qs,hq⟩:∃q0 qs,r0=q0::qs:=by cases hh:r0 with|nil=>exact absurd hh hp.ne|cons a l=>exact⟨a,l,rfl⟩
    have hq2:(r0.map qB)=qB q0::qs.map qB:=cB
    have hq4:qs.length<1000000000:=by rw[hq]at sr;simp at sr;omega
    have hq3:(qs.map qB).length+1=r0.length:=cD
    conv=>whnf
    refine za6 ?_;((refine te hgr ?_));(conv=>whnf);(repeat' (first|(refine And.intro V (uH ?_))|(refine And.intro (uH ?_) trivial)|(refine And.intro ?_ ?_ <;> (conv=>whnf))))
    all_goals
     refine .inr ?_;rw[hq2];refine⟨.inl V,aq,aH,uH ?_⟩;rw[hq3,<-hq2,show([]:List (List C)).length+r0.length=r0.length from gZ _];(repeat' (first|(refine And.intro V (uH ?_))|(refine And.intro (uH ?_) trivial)|(refine And.intro ?_ ?_ <;> (conv=>whnf))))
    all_goals (((refine(e6.xx _ _ _ V underlying35 V V aj aj V V).fM (uH ?_)));(repeat' (first|(refine And.intro V (uH ?_))|(refine And.intro (uH ?_) trivial)|(refine And.intro ?_ ?_ <;> (conv=>whnf)))))
    all_goals ((refine(e6.je _ V _ _ ⟨rfl,rfl,⟨_,rfl,underlying35⟩,rfl,rfl,rfl⟩ (id:=9) (n:=k) V V (.inl V) V lC (λr hr=>ownC r (gU hr)) (.inr ⟨12,_,_,rfl,rfl,.inl V,rfl,rfl⟩) (zB V) (rJ _ _) tK (by show(k+1)*24<=_;omega)).fM (uH ?_)));(repeat' (first|(refine And.intro V (uH ?_))|(refine And.intro (uH ?_) trivial)|(refine And.intro ?_ ?_ <;> (conv=>whnf))))
    all_goals
     refine zaC ?_
     refine zai ?_;rw[zm an,yQ hF];refine zk.trans (q8 [0,1,2,3,4,5,6,7,8,13,11] [1,2,3,11] V V V (by (repeat' (first|(exact V)|(exact zf ownC)|(exact zf λr hr=>ownC r (gU hr))|(exact zf λr hr=>(pw.1 hr).elim (λhr=>ownC r (gU hr)) (zB V r))|(refine ze ?_ ?_)))) V ?_) (cC);show _::_::_::_::_::_::_::_::_::zJ [0,1,2,3,4,5,6,7,8,13,11] ⟨1,155,1,List.take k (((w.counts.map zA).set t [C.sl 10 [] 1 0 r0.length false]))++[_],0⟩::_=_;rw[yP (enc:=zA) (λ_=>V),show List.take k ((w.counts.map zA).set t (List.map (jK [0,1,2,3,4,5,6,7,8,13,11] 9) [C.sl 10 [] 1 0 r0.length false]))=List.take k (((w.counts.map zA).set t [C.sl 10 [] 1 0 r0.length false])) from DN an _ _]
     rfl
   .simp only[gP (show ¬k<=t by omega),gP (show ¬k+1<=t by omega)];have hF:(((w.counts.map zA).set t [C.sl 10 [] 1 0 r0.length false]))[k]?=some (zA r):=by rw[pT an];exact hgr
    conv=>whnf
    refine za6 ?_;((refine te hgr ?_));(conv=>whnf);(repeat' (first|(refine And.intro V (uH ?_))|(refine And.intro (uH ?_) trivial)|(refine And.intro ?_ ?_ <;> (conv=>whnf))))
    all_goals (refine .inl ⟨.inl V,.inr V,aq,aH,uH ?_⟩);(repeat' (first|(refine And.intro V (uH ?_))|(refine And.intro (uH ?_) trivial)|(refine And.intro ?_ ?_ <;> (conv=>whnf))))
    all_goals ((refine(e6.je _ V _ _ ⟨rfl,rfl,⟨_,rfl,underlying35⟩,rfl,rfl,rfl⟩ (id:=9) (n:=k) V V (.inl V) V lC (λr hr=>ownC r (gU hr)) (.inl V) (zB V) (rJ _ _) tK (by show(k+1)*24<=_;omega)).fM (uH ?_)));(repeat' (first|(refine And.intro V (uH ?_))|(refine And.intro (uH ?_) trivial)|(refine And.intro ?_ ?_ <;> (conv=>whnf))))
    all_goals ((refine⟨_,_,.refl _,uH ?_⟩));(refine .inl ⟨rfl,?_,trivial⟩);(rw[zm an,yQ hF]);(refine zk.trans (q8 [0,1,2,3,4,5,6,7,8,12,10] [1,2,3,11] V V V (by (repeat' (first|(exact V)|(exact zf ownC)|(exact zf λr hr=>ownC r (gU hr))|(exact zf λr hr=>(pw.1 hr).elim (λhr=>ownC r (gU hr)) (zB V r))|(refine ze ?_ ?_)))) V ?_) (cC));(show _::_::_::_::_::_::_::_::_::zJ [0,1,2,3,4,5,6,7,8,12,10] ⟨1,155,1,List.take k (((w.counts.map zA).set t [C.sl 10 [] 1 0 r0.length false]))++[_],0⟩::_=_;rw[yP (enc:=zA) (λ_=>V)];rfl)
  .simp only[gP (show ¬w.counts.length<=t by omega)];rw[show(((w.counts.map zA).set t [C.sl 10 [] 1 0 r0.length false])).take w.counts.length=((w.counts.map zA).set t [C.sl 10 [] 1 0 r0.length false]) from rO ah];conv=>whnf
   rw[m8];refine zaf ?_;refine .inl ⟨.inl V,.inr V,aq,bG,uH ?_⟩;refine⟨.inl V,_,_,.refl _,rfl,?_⟩;refine q8 [9,10] [0] V V V (by (repeat' (first|(exact V)|(exact zf ownC)|(exact zf λr hr=>ownC r (gU hr))|(exact zf λr hr=>(pw.1 hr).elim (λhr=>ownC r (gU hr)) (zB V r))|(refine ze ?_ ?_)))) V ?_;show zJ [9,10] ⟨1,155,1,((w.counts.map zA).set t [C.sl 10 [] 1 0 r0.length false]),0⟩::_=_;rw[zI (enc:=zA) (λ_=>V)]
   rfl
end Go.Wor
namespace Go.Ab
def zk.Ee{B:Nat}{s:S}(id:Nat){ty sz:Nat}{rows:List (List C)}(hob:s.H[id]?=some ⟨1,ty,sz,rows,0⟩)(hno:∀r∈rows,∀c∈r,zG c=true):zk B s ⟨s.tmps,s.H.set id ⟨1,0,sz,rows,0⟩⟩:=λm w E a hs=>by
 have hrow:=hs.heap.rowsOf hob (.inl V)
 obtain⟨hR,g⟩:=hs.heap.nX hob (.inl V) (ob':=⟨1,0,sz,rows,0⟩) (.inl V) (λh=>by cases h) rfl rfl rfl hrow hno hno λi k c c' u e1 e2 hl _=>by
  rw[e1]at e2;cases e2
  exact hl
 exact gp
end Go.Ab
namespace Go.Wor
open Go.Ab Go.Proofs Tryz Go.Gat Go.Nam Go.Hos Go.Con Go.Sna
open Go.Hy hiding encI
variable{α:Type}{enc:α->List C}{sel:List Nat}
def yz(w:Wor)(h:z6 w){v:Nat}{v0:eX}{g:Nat}{g0:Gr}{e:Nat}{e0:En}(hp:CU w.zd v v0 g g0 e e0):th 89 [] [Cw w] (.agg (fL w 0))
  [⟨1,0,5,((w.zd.map zt).set v (fl 1 v0)),0⟩,⟨1,0,2,((v0.zg.map zy).set g (fi 2 g0)),0⟩,⟨1,0,3,((g0.ends.map zu).set e (fh 3 e0)),0⟩,⟨2,3,1,e0.next.map Go.Hy.encI,0⟩]:=
 (N0 w h hp).mj (λB _ _=>((zk.Ee 0 V (zF (enc:=zt) (λ_=>V) V _ _)).trans (zk.Ee 1 V (zF (enc:=zy) (λ_=>V) V _ _))).trans (zk.Ee 2 V (zF (enc:=zu) (λ_=>V) V _ _))) (pC _)
def NF(w:Wor)(h:z6 w){t:Nat}{r0:List Int}(hp:AN w.counts t r0):th 89 [] [Cw w] (.agg (ik 0 w)) [⟨1,0,1,(w.counts.map zA).set t [C.sl 1 [] 1 0 r0.length false],0⟩,⟨2,52,1,r0.map qB,0⟩]:=
 (NZ w h hp).mj (λB _ _=>zk.Ee 0 V (zF (enc:=zA) (λ_=>V) V _ _)) (pC _)
def V4(hf:∀x,(enc x).map (jK sel 9)=enc x)(l:List α)(ty sz fz:Nat):zJ sel ⟨1,ty,sz,l.map enc,fz⟩=⟨1,ty,sz,l.map enc,fz⟩:=by
 show(⟨1,ty,sz,(l.map enc).map (λr=>r.map (jK sel 9)),fz⟩:Ob)=_;rw[sd]
 congr 1
 exact r9 λx _=>hf x
def UQ(hf:∀x,(enc x).map (jK sel 9)=enc x)(l:List α)(r:List C)(ty sz fz:Nat):zJ sel ⟨1,ty,sz,l.map enc++[r],fz⟩=⟨1,ty,sz,l.map enc++[r.map (jK sel 9)],fz⟩:=by
 show(⟨1,ty,sz,(l.map enc++[r]).map (λr=>r.map (jK sel 9)),fz⟩:Ob)=_;rw[pZ,sd]
 congr 2
 exact r9 λx _=>hf x
def NY(w:Wor)(h:z6 w):th 89 [] [Cw w] (.agg (fL w 0)) [⟨1,106,5,w.zd.map zt,0⟩]:=by
 have m1:(w.pins.map Go.Hy.encI).length=w.pins.length:=gO ..;have m2:(w.zd.map zt).length=w.zd.length:=gO ..;have m3:(w.zc.map zU).length=w.zc.length:=gO ..;have m4:(w.zn.map qh).length=w.zn.length:=gO ..;have b1:=h.pins;have b2:=h.zd.1;have b3:=h.zc;have b4:=h.zn;refine GN [33,33,33] (fn:=f89) func89 V (uH ?_);refine zaq ?_;(refine(e6.xx _ _ _ V underlying33 V V aj aj V V).fM (uH ?_))
 refine zH.seq w.zd.length (λk=>(.za::.ref 3 [] 8 0 0:: .ref 4 [] 8 0 0:: .ref 5 [] 8 0 0::I k:: .za::.za::mK (jp (jp (jp (jp (mK ([])))))))) (λk=>[⟨0,77,33,[],0⟩,⟨0,77,33,[],0⟩,⟨0,77,33,[],0⟩,oW w,⟨1,38,8,[fB],0⟩,⟨1,38,8,[[I w.zr,I w.current,I w.lock,.gl 6 1 (w.pins.map Go.Hy.encI),.sl 7 [] 5 0 k false,lL w.zc,ff w.counts,lR w.zn]],0⟩,⟨4,3,1,(w.pins.map Go.Hy.encI),0⟩,⟨1,106,5,((w.zd.take k).map zt),0⟩]) (λk=>True) ?_ trivial (λk hk _=>?_) (λ_=>?_)
 .exact cC
 .obtain⟨v,hv⟩:∃v,v=w.zd[k]:=⟨_,rfl⟩;have hgv:(w.zd.map zt)[k]?=some (zt v):=by rw[gM,gL hk,hv];rfl
  have ownA:∀r∈((w.zd.take k).map zt),∀c∈r,zG c=true:=λr hr c hc=>(shut_map (enc:=zt) (λ_=>V) _ r hr c hc).2
  have lowA:∀n,0<=n->ql n [⟨1,106,5,((w.zd.take k).map zt),0⟩]=true:=λn _=>qm λr hr c hc=>by obtain⟨x,_,rfl⟩:=pO.1 hr;exact gV.1 (show(zt x).all (qE n 9)=true from V) c hc
  have lowX:=lowA;have sv:=h.zd.2 v tN;have m5:(v.zg.map zy).length=v.zg.length:=gO ..;have b5:=sv.1;conv=>whnf
  rw[m2];refine zaA ?_
  refine zH.seq v.zg.length (λj=>(.za::.ref 3 [] 8 0 0:: .ref 4 [] 8 0 0:: .ref 5 [] 8 0 0::I k:: .ref 8 [] 5 0 0::I j:: mK (jp (jp (jp (jp (mK ([])))))))) (λj=>[⟨0,77,33,[],0⟩,⟨0,77,33,[],0⟩,⟨0,77,33,[],0⟩,oW w,⟨1,38,8,[fB],0⟩,⟨1,38,8,[[I w.zr,I w.current,I w.lock,.gl 6 1 (w.pins.map Go.Hy.encI),.sl 7 [] 5 0 k false,lL w.zc,ff w.counts,lR w.zn]],0⟩,⟨4,3,1,(w.pins.map Go.Hy.encI),0⟩,⟨1,106,5,((w.zd.take k).map zt),0⟩,⟨1,106,5,[qP v.snap++[.gl 9 2 ((v.zg.take j).map zy),Bo v.qF]],0⟩,⟨4,111,2,((v.zg.take j).map zy),0⟩]) (λk=>True) ?_ trivial (λj hj _=>?_) (λ_=>?_)
  .refine zk.trans (zk.qM 8 3 111 2 V V (.inl V) V V) ?_;exact cC
  .obtain⟨g,hg⟩:∃g,g=v.zg[j]:=⟨_,rfl⟩;have hgg:(v.zg.map zy)[j]?=some (zy g):=by rw[gM,gL hj,hg];rfl
   have sg:=sv.2 g tH;have m6:(g.ends.map zu).length=g.ends.length:=gO ..;have b6:=sg.1;have lG:(((v.zg.take j).map zy)).length=j:=ar
   have eG:((v.zg.take (j+1)).map zy)=((v.zg.take j).map zy)++[zy g]:=bZ
   conv=>whnf
   refine zbo ?_
   rw[m5];refine zaA ?_
   refine za7 ?_
   refine zH.seq g.ends.length (λn=>(.za::.ref 3 [] 8 0 0:: .ref 4 [] 8 0 0:: .ref 5 [] 8 0 0::I k:: .ref 8 [] 5 0 0::I j:: .ref 10 [] 2 0 0::I n:: .za::.za::.za::.za::.za::.za::mK (jp (jp (jp (jp ([]))))))) (λn=>[⟨0,77,33,[],0⟩,⟨0,77,33,[],0⟩,⟨0,77,33,[],0⟩,oW w,⟨1,38,8,[fB],0⟩,⟨1,38,8,[[I w.zr,I w.current,I w.lock,.gl 6 1 (w.pins.map Go.Hy.encI),.sl 7 [] 5 0 k false,lL w.zc,ff w.counts,lR w.zn]],0⟩,⟨4,3,1,(w.pins.map Go.Hy.encI),0⟩,⟨1,106,5,((w.zd.take k).map zt),0⟩,⟨1,106,5,[qP v.snap++[.gl 9 2 ((v.zg.take j).map zy),Bo v.qF]],0⟩,⟨4,111,2,((v.zg.take j).map zy),0⟩,⟨1,111,2,[[U g.zC,.gl 11 3 ((g.ends.take n).map zu)]],0⟩,⟨4,151,3,((g.ends.take n).map zu),0⟩]) (λk=>True) ?_ trivial (λn hn _=>?_) (λ_=>?_)
   .refine zk.trans (zk.qM 10 1 151 3 V V (.inl V) V V) ?_;exact cC
   .obtain⟨e,he⟩:∃e,e=g.ends[n]:=⟨_,rfl⟩;have hge:(g.ends.map zu)[n]?=some (zu e):=by rw[gM,gL hn,he];rfl
    have se:=sg.2 e tI;have m7:(e.next.map Go.Hy.encI).length=e.next.length:=gO ..;have lE:(((g.ends.take n).map zu)).length=n:=ar
    have eE:((g.ends.take (n+1)).map zu)=((g.ends.take n).map zu)++[zu e]:=b9
    conv=>whnf
    refine zbo ?_
    refine za7 ?_
    rw[m6];refine zaA ?_
    refine za7 ?_
    (refine te hge ?_)
    refine zbe ?_;exact zk.jq 12 ta V V V (by (repeat' (first|(exact V)|(exact lowX _ (pC _))|(refine qg ?_ ?_)))) V
   .conv=>whnf
    refine zbo ?_
    refine za7 ?_
    refine zby ?_;exact zk.jq 10 ta V V V (by (repeat' (first|(exact V)|(exact lowX _ (pC _))|(refine qg ?_ ?_)))) V
  .have lV:(((w.zd.take k).map zt)).length=k:=by simp;omega
   have eV:((w.zd.take (k+1)).map zt)=((w.zd.take k).map zt)++[zt v]:=cp
   conv=>whnf
   refine zbo ?_
   rw[m5];refine zaf ?_;rw[px];(refine(e6.je _ V _ _ ⟨rfl,rfl,⟨_,rfl,underlying33⟩,rfl,rfl,rfl⟩ (id:=7) (n:=k) V V (.inl V) V lV ownA (.inl V) (zB V) (rJ _ _) tK cF).fM (uH ?_))
   refine zai ?_;rw[zm an,eV];refine zk.trans (q8 [0,1,2,3,4,5,6,10] [1,2,3,4] V V V (by (repeat' (first|(exact V)|(exact zf ownA)|(exact zf λr hr=>(pw.1 hr).elim (ownA r) (zB V r))|(refine ze ?_ ?_)))) V ?_) (cC);show _::_::_::_::_::_::_::zJ [0,1,2,3,4,5,6,10] ⟨1,106,5,((w.zd.take k).map zt)++[_],0⟩::_=_;rw[UQ (enc:=zt) (λ_=>V)]
   rfl
 .conv=>whnf
  rw[m2];refine zaf ?_;rw[px];have ownA:∀r∈w.zd.map zt,∀c∈r,zG c=true:=λr hr c hc=>(shut_map (enc:=zt) (λ_=>V) _ r hr c hc).2
  have lowX:∀n,0<=n->ql n [⟨1,106,5,w.zd.map zt,0⟩]=true:=λn _=>qm λr hr c hc=>by obtain⟨x,_,rfl⟩:=pO.1 hr;exact gV.1 (show(zt x).all (qE n 9)=true from V) c hc
  have m8:(w.counts.map zA).length=w.counts.length:=gO ..;have b8:=h.counts.1;refine zbF ?_;refine zH.seq w.counts.length (λk=>(.za::.ref 3 [] 8 0 0:: .ref 4 [] 8 0 0:: .ref 5 [] 8 0 0:: .za::.za::.za::.za::.za::.za::.za::I k:: .za::.za::.za::mK (jp (jp (jp (jp ([]))))))) (λk=>[⟨0,77,33,[],0⟩,⟨0,77,33,[],0⟩,⟨0,77,33,[],0⟩,oW w,⟨1,38,8,[fB],0⟩,⟨1,38,8,[[I w.zr,I w.current,I w.lock,.gl 6 1 (w.pins.map Go.Hy.encI),.sl 7 [] 5 0 w.zd.length false,.gl 8 4 (w.zc.map zU),.gl 9 1 ((w.counts.take k).map zA),lR w.zn]],0⟩,⟨4,3,1,(w.pins.map Go.Hy.encI),0⟩,⟨1,106,5,w.zd.map zt,0⟩,⟨4,98,4,w.zc.map zU,0⟩,⟨4,155,1,((w.counts.take k).map zA),0⟩]) (λk=>True) ?_ trivial (λk hk _=>?_) (λ_=>?_)
  .refine zk.trans (zk.qM 5 6 155 1 V V (.inl V) V V) ?_;exact cC
  .obtain⟨r,hr⟩:∃r,r=w.counts[k]:=⟨_,rfl⟩;have hgr:(w.counts.map zA)[k]?=some (zA r):=by rw[gM,gL hk,hr];rfl
   have sr:=h.counts.2 r tJ;have lC:(((w.counts.take k).map zA)).length=k:=ar
   have eC:((w.counts.take (k+1)).map zA)=((w.counts.take k).map zA)++[zA r]:=cx
   conv=>whnf
   refine za6 ?_;(refine te hgr ?_)
   refine⟨?_,?_⟩
   .conv=>whnf
    refine zae ?_
    refine zaq ?_;refine zae ?_
    refine zaT ?_
    refine zaC ?_
    refine zai ?_;rw[zm an,eC];exact zk.jq 10 ta V V V (by (repeat' (first|(exact V)|(exact lowX _ (pC _))|(refine qg ?_ ?_)))) V
   .refine⟨?_,trivial⟩;conv=>whnf
    refine zaq ?_;refine tc ?_
    refine⟨?_,?_⟩
    .conv=>whnf
     refine zae ?_
     refine zaT ?_
     refine zaC ?_
     refine zai ?_;rw[zm an,eC];exact zk.jq 10 ta V V V (by (repeat' (first|(exact V)|(exact lowX _ (pC _))|(refine qg ?_ ?_)))) V
    .trivial
  .conv=>whnf
   refine zbh ?_;refine q8 [7] [0] V V V (by (repeat' (first|(exact V)|(exact zf ownA)|(exact zf λr hr=>(pw.1 hr).elim (ownA r) (zB V r))|(refine ze ?_ ?_)))) V ?_;show zJ [7] ⟨1,106,5,w.zd.map zt,0⟩::_=_;rw[V4 (enc:=zt) (λ_=>V)]
   rfl
def N1(w:Wor)(h:z6 w)(r0:fg)(rs:List fg)(hq:w.zn=r0::rs):th 89 [] [Cw w] (.agg [I w.zr,I w.current,I w.lock,lI w.pins,lV w.zd,lL w.zc,ff w.counts,.sl 0 [] 3 0 w.zn.length false]) [⟨2,157,3,w.zn.map qh,0⟩]:=by
 have hq2:w.zn.map qh=qh r0::rs.map qh:=cB
 have hq4:rs.length<1000000000:=by have:=h.zn;rw[hq]at this;exact dt
 have hq3:(rs.map qh).length+1=w.zn.length:=cD
 have m1:(w.pins.map Go.Hy.encI).length=w.pins.length:=gO ..;have m2:(w.zd.map zt).length=w.zd.length:=gO ..;have m3:(w.zc.map zU).length=w.zc.length:=gO ..;have m4:(w.zn.map qh).length=w.zn.length:=gO ..;have b1:=h.pins;have b2:=h.zd.1;have b3:=h.zc;have b4:=h.zn;refine kA (fn:=f89) func89 V (uH ?_);refine zaq ?_;refine zH.seq w.zd.length (λk=>(.za::.ref 0 [] 8 0 0:: .ref 1 [] 8 0 0:: .ref 2 [] 8 0 0::I k:: .za::.za::mK (jp (jp (jp (jp (mK ([])))))))) (λk=>[oW w,⟨1,38,8,[fB],0⟩,⟨1,38,8,[[I w.zr,I w.current,I w.lock,.gl 3 1 (w.pins.map Go.Hy.encI),.gl 4 5 ((w.zd.take k).map zt),lL w.zc,ff w.counts,lR w.zn]],0⟩,⟨4,3,1,(w.pins.map Go.Hy.encI),0⟩,⟨4,106,5,((w.zd.take k).map zt),0⟩]) (λk=>True) ?_ trivial (λk hk _=>?_) (λ_=>?_)
 .exact dI
 .obtain⟨v,hv⟩:∃v,v=w.zd[k]:=⟨_,rfl⟩;have hgv:(w.zd.map zt)[k]?=some (zt v):=by rw[gM,gL hk,hv];rfl
  have sv:=h.zd.2 v tN;have m5:(v.zg.map zy).length=v.zg.length:=gO ..;have b5:=sv.1;conv=>whnf
  rw[m2];refine zaA ?_
  refine zH.seq v.zg.length (λj=>(.za::.ref 0 [] 8 0 0:: .ref 1 [] 8 0 0:: .ref 2 [] 8 0 0::I k:: .ref 5 [] 5 0 0::I j:: mK (jp (jp (jp (jp (mK ([])))))))) (λj=>[oW w,⟨1,38,8,[fB],0⟩,⟨1,38,8,[[I w.zr,I w.current,I w.lock,.gl 3 1 (w.pins.map Go.Hy.encI),.gl 4 5 ((w.zd.take k).map zt),lL w.zc,ff w.counts,lR w.zn]],0⟩,⟨4,3,1,(w.pins.map Go.Hy.encI),0⟩,⟨4,106,5,((w.zd.take k).map zt),0⟩,⟨1,106,5,[qP v.snap++[.gl 6 2 ((v.zg.take j).map zy),Bo v.qF]],0⟩,⟨4,111,2,((v.zg.take j).map zy),0⟩]) (λk=>True) ?_ trivial (λj hj _=>?_) (λ_=>?_)
  .exact dk
  .obtain⟨g,hg⟩:∃g,g=v.zg[j]:=⟨_,rfl⟩;have hgg:(v.zg.map zy)[j]?=some (zy g):=by rw[gM,gL hj,hg];rfl
   have sg:=sv.2 g tH;have m6:(g.ends.map zu).length=g.ends.length:=gO ..;have b6:=sg.1;have lG:(((v.zg.take j).map zy)).length=j:=ar
   have eG:((v.zg.take (j+1)).map zy)=((v.zg.take j).map zy)++[zy g]:=bZ
   conv=>whnf
   refine zbo ?_
   rw[m5];refine zaA ?_
   refine za7 ?_
   refine zH.seq g.ends.length (λn=>(.za::.ref 0 [] 8 0 0:: .ref 1 [] 8 0 0:: .ref 2 [] 8 0 0::I k:: .ref 5 [] 5 0 0::I j:: .ref 7 [] 2 0 0::I n:: .za::.za::.za::.za::.za::.za::mK (jp (jp (jp (jp ([]))))))) (λn=>[oW w,⟨1,38,8,[fB],0⟩,⟨1,38,8,[[I w.zr,I w.current,I w.lock,.gl 3 1 (w.pins.map Go.Hy.encI),.gl 4 5 ((w.zd.take k).map zt),lL w.zc,ff w.counts,lR w.zn]],0⟩,⟨4,3,1,(w.pins.map Go.Hy.encI),0⟩,⟨4,106,5,((w.zd.take k).map zt),0⟩,⟨1,106,5,[qP v.snap++[.gl 6 2 ((v.zg.take j).map zy),Bo v.qF]],0⟩,⟨4,111,2,((v.zg.take j).map zy),0⟩,⟨1,111,2,[[U g.zC,.gl 8 3 ((g.ends.take n).map zu)]],0⟩,⟨4,151,3,((g.ends.take n).map zu),0⟩]) (λk=>True) ?_ trivial (λn hn _=>?_) (λ_=>?_)
   .exact dj
   .obtain⟨e,he⟩:∃e,e=g.ends[n]:=⟨_,rfl⟩;have hge:(g.ends.map zu)[n]?=some (zu e):=by rw[gM,gL hn,he];rfl
    have se:=sg.2 e tI;have m7:(e.next.map Go.Hy.encI).length=e.next.length:=gO ..;have lE:(((g.ends.take n).map zu)).length=n:=ar
    have eE:((g.ends.take (n+1)).map zu)=((g.ends.take n).map zu)++[zu e]:=b9
    conv=>whnf
    refine zbo ?_
    refine za7 ?_
    rw[m6];refine zaA ?_
    refine za7 ?_
    (refine te hge ?_)
    exact c7
   .conv=>whnf
    refine zbo ?_
    refine za7 ?_
    exact cZ
  .have lV:(((w.zd.take k).map zt)).length=k:=by simp;omega
   have eV:((w.zd.take (k+1)).map zt)=((w.zd.take k).map zt)++[zt v]:=cp
   conv=>whnf
   refine zbo ?_
   exact db
 .conv=>whnf
  rw[m2];refine zaf ?_;rw[px];have m8:(w.counts.map zA).length=w.counts.length:=gO ..;have b8:=h.counts.1;refine zbF ?_;refine zH.seq w.counts.length (λk=>(.za::.ref 0 [] 8 0 0:: .ref 1 [] 8 0 0:: .ref 2 [] 8 0 0:: .za::.za::.za::.za::.za::.za::.za::I k:: .za::.za::.za::mK (jp (jp (jp (jp ([]))))))) (λk=>[oW w,⟨1,38,8,[fB],0⟩,⟨1,38,8,[[I w.zr,I w.current,I w.lock,.gl 3 1 (w.pins.map Go.Hy.encI),.gl 4 5 (w.zd.map zt),.gl 5 4 (w.zc.map zU),.gl 6 1 ((w.counts.take k).map zA),lR w.zn]],0⟩,⟨4,3,1,(w.pins.map Go.Hy.encI),0⟩,⟨4,106,5,w.zd.map zt,0⟩,⟨4,98,4,w.zc.map zU,0⟩,⟨4,155,1,((w.counts.take k).map zA),0⟩]) (λk=>True) ?_ trivial (λk hk _=>?_) (λ_=>?_)
  .exact dv
  .obtain⟨r,hr⟩:∃r,r=w.counts[k]:=⟨_,rfl⟩;have hgr:(w.counts.map zA)[k]?=some (zA r):=by rw[gM,gL hk,hr];rfl
   have sr:=h.counts.2 r tJ;have lC:(((w.counts.take k).map zA)).length=k:=ar
   have eC:((w.counts.take (k+1)).map zA)=((w.counts.take k).map zA)++[zA r]:=cx
   conv=>whnf
   refine zaQ ?_
   refine⟨?_,?_⟩
   .conv=>whnf
    refine zae ?_
    refine zaq ?_;refine zae ?_
    refine zaT ?_
    refine zaC ?_
    exact de
   .refine⟨?_,trivial⟩;conv=>whnf
    refine zaq ?_;refine tc ?_
    refine⟨?_,?_⟩
    .conv=>whnf
     refine zae ?_
     refine zaT ?_
     refine zaC ?_
     exact de
    .trivial
  .conv=>whnf
   refine zbV ?_;exact q8 [7] [0] V V V V V V
def NG(w:Wor)(h:z6 w)(hq:w.zn=[]):th 89 [] [Cw w] (.agg [I w.zr,I w.current,I w.lock,lI w.pins,lV w.zd,lL w.zc,ff w.counts,.eM 1 3 []]) []:=by
 have hq2:w.zn.map qh=[]:=cB
 have m1:(w.pins.map Go.Hy.encI).length=w.pins.length:=gO ..;have m2:(w.zd.map zt).length=w.zd.length:=gO ..;have m3:(w.zc.map zU).length=w.zc.length:=gO ..;have m4:(w.zn.map qh).length=w.zn.length:=gO ..;have b1:=h.pins;have b2:=h.zd.1;have b3:=h.zc;have b4:=h.zn;refine kA (fn:=f89) func89 V (uH ?_);refine zaq ?_;refine zH.seq w.zd.length (λk=>(.za::.ref 0 [] 8 0 0:: .ref 1 [] 8 0 0:: .ref 2 [] 8 0 0::I k:: .za::.za::mK (jp (jp (jp (jp (mK ([])))))))) (λk=>[oW w,⟨1,38,8,[fB],0⟩,⟨1,38,8,[[I w.zr,I w.current,I w.lock,.gl 3 1 (w.pins.map Go.Hy.encI),.gl 4 5 ((w.zd.take k).map zt),lL w.zc,ff w.counts,lR w.zn]],0⟩,⟨4,3,1,(w.pins.map Go.Hy.encI),0⟩,⟨4,106,5,((w.zd.take k).map zt),0⟩]) (λk=>True) ?_ trivial (λk hk _=>?_) (λ_=>?_)
 .exact dI
 .obtain⟨v,hv⟩:∃v,v=w.zd[k]:=⟨_,rfl⟩;have hgv:(w.zd.map zt)[k]?=some (zt v):=by rw[gM,gL hk,hv];rfl
  have sv:=h.zd.2 v tN;have m5:(v.zg.map zy).length=v.zg.length:=gO ..;have b5:=sv.1;conv=>whnf
  rw[m2];refine zaA ?_
  refine zH.seq v.zg.length (λj=>(.za::.ref 0 [] 8 0 0:: .ref 1 [] 8 0 0:: .ref 2 [] 8 0 0::I k:: .ref 5 [] 5 0 0::I j:: mK (jp (jp (jp (jp (mK ([])))))))) (λj=>[oW w,⟨1,38,8,[fB],0⟩,⟨1,38,8,[[I w.zr,I w.current,I w.lock,.gl 3 1 (w.pins.map Go.Hy.encI),.gl 4 5 ((w.zd.take k).map zt),lL w.zc,ff w.counts,lR w.zn]],0⟩,⟨4,3,1,(w.pins.map Go.Hy.encI),0⟩,⟨4,106,5,((w.zd.take k).map zt),0⟩,⟨1,106,5,[qP v.snap++[.gl 6 2 ((v.zg.take j).map zy),Bo v.qF]],0⟩,⟨4,111,2,((v.zg.take j).map zy),0⟩]) (λk=>True) ?_ trivial (λj hj _=>?_) (λ_=>?_)
  .exact dk
  .obtain⟨g,hg⟩:∃g,g=v.zg[j]:=⟨_,rfl⟩;have hgg:(v.zg.map zy)[j]?=some (zy g):=by rw[gM,gL hj,hg];rfl
   have sg:=sv.2 g tH;have m6:(g.ends.map zu).length=g.ends.length:=gO ..;have b6:=sg.1;have lG:(((v.zg.take j).map zy)).length=j:=ar
   have eG:((v.zg.take (j+1)).map zy)=((v.zg.take j).map zy)++[zy g]:=bZ
   conv=>whnf
   refine zbo ?_
   rw[m5];refine zaA ?_
   refine za7 ?_
   refine zH.seq g.ends.length (λn=>(.za::.ref 0 [] 8 0 0:: .ref 1 [] 8 0 0:: .ref 2 [] 8 0 0::I k:: .ref 5 [] 5 0 0::I j:: .ref 7 [] 2 0 0::I n:: .za::.za::.za::.za::.za::.za::mK (jp (jp (jp (jp ([]))))))) (λn=>[oW w,⟨1,38,8,[fB],0⟩,⟨1,38,8,[[I w.zr,I w.current,I w.lock,.gl 3 1 (w.pins.map Go.Hy.encI),.gl 4 5 ((w.zd.take k).map zt),lL w.zc,ff w.counts,lR w.zn]],0⟩,⟨4,3,1,(w.pins.map Go.Hy.encI),0⟩,⟨4,106,5,((w.zd.take k).map zt),0⟩,⟨1,106,5,[qP v.snap++[.gl 6 2 ((v.zg.take j).map zy),Bo v.qF]],0⟩,⟨4,111,2,((v.zg.take j).map zy),0⟩,⟨1,111,2,[[U g.zC,.gl 8 3 ((g.ends.take n).map zu)]],0⟩,⟨4,151,3,((g.ends.take n).map zu),0⟩]) (λk=>True) ?_ trivial (λn hn _=>?_) (λ_=>?_)
   .exact dj
   .obtain⟨e,he⟩:∃e,e=g.ends[n]:=⟨_,rfl⟩;have hge:(g.ends.map zu)[n]?=some (zu e):=by rw[gM,gL hn,he];rfl
    have se:=sg.2 e tI;have m7:(e.next.map Go.Hy.encI).length=e.next.length:=gO ..;have lE:(((g.ends.take n).map zu)).length=n:=ar
    have eE:((g.ends.take (n+1)).map zu)=((g.ends.take n).map zu)++[zu e]:=b9
    conv=>whnf
    refine zbo ?_
    refine za7 ?_
    rw[m6];refine zaA ?_
    refine za7 ?_
    (refine te hge ?_)
    exact c7
   .conv=>whnf
    refine zbo ?_
    refine za7 ?_
    exact cZ
  .have lV:(((w.zd.take k).map zt)).length=k:=by simp;omega
   have eV:((w.zd.take (k+1)).map zt)=((w.zd.take k).map zt)++[zt v]:=cp
   conv=>whnf
   refine zbo ?_
   exact db
 .conv=>whnf
  rw[m2];refine zaf ?_;rw[px];have m8:(w.counts.map zA).length=w.counts.length:=gO ..;have b8:=h.counts.1;refine zbF ?_;refine zH.seq w.counts.length (λk=>(.za::.ref 0 [] 8 0 0:: .ref 1 [] 8 0 0:: .ref 2 [] 8 0 0:: .za::.za::.za::.za::.za::.za::.za::I k:: .za::.za::.za::mK (jp (jp (jp (jp ([]))))))) (λk=>[oW w,⟨1,38,8,[fB],0⟩,⟨1,38,8,[[I w.zr,I w.current,I w.lock,.gl 3 1 (w.pins.map Go.Hy.encI),.gl 4 5 (w.zd.map zt),.gl 5 4 (w.zc.map zU),.gl 6 1 ((w.counts.take k).map zA),lR w.zn]],0⟩,⟨4,3,1,(w.pins.map Go.Hy.encI),0⟩,⟨4,106,5,w.zd.map zt,0⟩,⟨4,98,4,w.zc.map zU,0⟩,⟨4,155,1,((w.counts.take k).map zA),0⟩]) (λk=>True) ?_ trivial (λk hk _=>?_) (λ_=>?_)
  .exact dv
  .obtain⟨r,hr⟩:∃r,r=w.counts[k]:=⟨_,rfl⟩;have hgr:(w.counts.map zA)[k]?=some (zA r):=by rw[gM,gL hk,hr];rfl
   have sr:=h.counts.2 r tJ;have lC:(((w.counts.take k).map zA)).length=k:=ar
   have eC:((w.counts.take (k+1)).map zA)=((w.counts.take k).map zA)++[zA r]:=cx
   conv=>whnf
   refine zaQ ?_
   refine⟨?_,?_⟩
   .conv=>whnf
    refine zae ?_
    refine zaq ?_;refine zae ?_
    refine zaT ?_
    refine zaC ?_
    exact de
   .refine⟨?_,trivial⟩;conv=>whnf
    refine zaq ?_;refine tc ?_
    refine⟨?_,?_⟩
    .conv=>whnf
     refine zae ?_
     refine zaT ?_
     refine zaC ?_
     exact de
    .trivial
  .conv=>whnf
   rw[m8];refine zaf ?_;rw[px];refine .inr ?_;rw[hq2];refine⟨rfl,uH ?_⟩;refine⟨.inl V,_,_,.refl _,rfl,?_⟩;exact q8 [] [0] V V V V V V
end Go.Wor
