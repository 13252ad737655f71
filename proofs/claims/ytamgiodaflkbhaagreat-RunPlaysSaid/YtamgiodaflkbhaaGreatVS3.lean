import Derived.Test.YtamgiodaflkbhaaGreatVU
set_option linter.all false
set_option maxRecDepth 100000
set_option maxHeartbeats 40000000
namespace Go.Ab
variable{i:TypeInfo}{e:TypeId}{E:Env}{sz:Nat}{rows:List (List C)}{vals:List Value}{c:C}{w:World}{ob:Ob}
section
variable {P:Program} {o:Oper} {ρ:Operand->C} {H:zq}
structure nC(E:Env)(sz:Nat)(rows:List (List C))(vals:List Value):Prop where
 len:vals.length=rows.length*sz
 row:∀r∈rows,r.length=sz
 cell:∀i k c,cellAt rows i k=some c->∃u,vals[i*sz+k]?=some u/\L E c u
 one:∀u∈vals,u.oneCell'=true
def vd.kept(h:vd E sz rows vals):nC E sz rows vals:=
 ⟨h.len,h.row,λi k c hc=>let ⟨u,h1,h2⟩:=h.cell i k c hc;⟨u,h1,h2.mono E.Cb⟩,h.one⟩
def nC.mono{E E':Env}(hle:E.le E'){sz:Nat}{rows:List (List C)}{vals:List Value}(h:nC E sz rows vals):nC E' sz rows vals:=
 ⟨h.len,h.row,λi k c hc=>let ⟨u,h1,h2⟩:=h.cell i k c hc;⟨u,h1,h2.mono hle⟩,h.one⟩
def nC.append{rows':List (List C)}{vals':List Value}(h:nC E sz rows vals)(h':nC E sz rows' vals'):nC E sz (rows++rows') (vals++vals') where
 len:=by rw[rB,rB,h.len,h'.len,rP]
 row r hr:=by rcases pS.1 hr with hr|hr;exact h.row r hr;exact h'.row r hr
 cell i k c hc:=by
  by_cases hi:i<rows.length
  .have hc2:cellAt rows i k=some c:=by unfold cellAt at hc|-;rw[pI hi]at hc;exact hc
   obtain⟨u,h1,h2⟩:=h.cell i k c hc2;exact⟨u,by rw[pI (px.1 h1).1];exact h1,h2⟩
  .have hc2:cellAt rows' (i-rows.length) k=some c:=by unfold cellAt at hc|-;rw[pR an]at hc;exact hc
   obtain⟨u,h1,h2⟩:=h'.cell _ k c hc2;refine⟨u,?_,h2⟩
   have e:i*sz+k=vals.length+((i-rows.length)*sz+k):=by
    have:i*sz=rows.length*sz+(i-rows.length)*sz:=by rw[<-rP];congr 1;omega
    rw[h.len];omega
   rw[e,pR an,Nat.add_sub_cancel_left];exact h1
 one u hu:=by rcases pS.1 hu with hu|hu;exact h.one u hu;exact h'.one u hu
def kZ(sz n:Nat)(vals:List Value):List (List C):=chunk sz n (vals.map .v)
def Eb{n:Nat}{i k:Nat}(h:cellAt (kZ sz n vals) i k=some c):i<n/\k<sz/\∃u,vals[i*sz+k]?=some u/\c=.v u:=by
 unfold cellAt kZ at h;by_cases hi:i<n
 .rw[vV _ _ _ _ hi]at h;simp only[ri]at h;rw[pZ]at h;split at h
  .rename_i hk;rw[rM,pw]at h;obtain⟨u,h1,h2⟩:=rq.1 h;exact⟨hi,hk,u,h1,h2.symm⟩
  .cases h
 .rw[rQ (by rw[jZ];omega)]at h;cases h
def LY{n:Nat}(hl:vals.length=n*sz):∀r∈kZ sz n vals,r.length=sz:=λr hr=>by
 obtain⟨i,hi⟩:=pV.1 hr;unfold kZ at hi;have ft:i<n:=by have:=(px.1 hi).1;rw[jZ]at this;exact gI
 rw[vV _ _ _ _ ft]at hi;cases hi
 have:(i+1)*sz<=n*sz:=rz _ ft;rw[rP]at this;simp;omega
def G6{n:Nat}:∀r∈kZ sz n vals,∀c∈r,zF c=true:=λr hr c hc=>by
 obtain⟨i,hi⟩:=pV.1 hr;obtain⟨k,hk⟩:=pV.1 hc;obtain⟨_,_,u,_,rfl⟩:=Eb (i:=i) (k:=k) (by unfold cellAt;rw[hi];exact hk)
 rfl
def Vw{n:Nat}(hl:vals.length=n*sz)(h1:∀u∈vals,u.oneCell'=true):vd E sz (kZ sz n vals) vals where
 len:=by rw[kZ,jZ];exact hl
 row:=LY hl
 cell i k c hc:=by
  obtain⟨_,_,u,h2,rfl⟩:=Eb hc;exact⟨u,h2,.v u (h1 u (pE h2))⟩
 one:=h1
def qn.same{H H':zq}(h:∀b,q6 E H' b->q6 E H b):qn w E H w E H':=
 ⟨Env.le.refl E,λ_ _ _=>V,rfl,rfl,rfl,pN _,λ_ _ _=>V,λ_ _ _ h=>.inl h,λb hb=>.inr (h b hb)⟩
def qa.MH(hh:qa w E H){id:Nat}(hob:H[id]?=some ob)(hk:ob.kind=1\/ob.kind=2)(hno:∀r∈ob.rows,∀c∈r,zF c=true):
  ∃cur e,w.heap[E.β id []]?=some (.cells cur e (0,0))/\cur.size=E.κ id []*ob.sz/\ob.rows.length<=E.κ id []/\nC E ob.sz ob.rows (cur.toList.take (ob.rows.length*ob.sz)):=by
 have hB:=hh.fH id ob [] _ _ hob (vZ hob hk);obtain⟨cur,e,hg,hcs,hcell⟩:=hB.fH;have hle:ob.rows.length*ob.sz<=cur.size:=by rw[hcs];exact rz _ hB.len
 refine⟨cur,e,hg,hcs,hB.len,⟨ar,hB.row,λi k c hc=>?_,λu hu=>?_⟩⟩
 .obtain⟨u,h1,h2⟩:=hcell i k c hc;rw[qO.loose (C3 hno hc)]at h2;obtain⟨h3,h4⟩:=CV hB.row hc;have:(i+1)*ob.sz<=ob.rows.length*ob.sz:=rz _ h3;rw[rP]at this;exact⟨u,by rw[pZ,pD an,rm];exact h1,h2.1.mono (E.HH _)⟩
 .obtain⟨j,hj⟩:=pV.1 hu;rw[pZ]at hj;split at hj
  rotate_left
  .cases hj
  rename_i ft;obtain⟨h1,h2,h3⟩:=DW ft;obtain⟨c,hc⟩:=kz hB.row h1 h2;obtain⟨u',hu',hok⟩:=hcell _ _ c hc;rw[qO.loose (C3 hno hc)]at hok;rw[h3]at hu';rw[rm,hu']at hj;cases hj
  exact hok.2
def qa.Yc(hh:qa w E H){id:Nat}(hob:H[id]?=some ob)(hk:ob.kind=1\/ob.kind=2)(hno:∀r∈ob.rows,∀c∈r,zF c=true){cur:Array Value}
 (hg:w.heap[E.β id []]?=some (.cells cur e (0,0)))(hr:nC E ob.sz ob.rows (cur.toList.take (ob.rows.length*ob.sz))):
  qa w E (H.set id ⟨2,e,ob.sz,kZ ob.sz ob.rows.length (cur.toList.take (ob.rows.length*ob.sz)),ob.fz⟩)/\qn w E H w E (H.set id ⟨2,e,ob.sz,kZ ob.sz ob.rows.length (cur.toList.take (ob.rows.length*ob.sz)),ob.fz⟩):=by
 refine⟨hh.o3 hob hk (.inr V) (λ_=>⟨cur,hg⟩) V V (jZ _ _ _) (LY hr.len) hno G6 λi k c c' u e1 e2 hl hu=>?_,qn.same λb hb=>?_⟩
 .obtain⟨h1,h2,v,h3,rfl⟩:=Eb e2;have hv:=hr.one v (pE h3);rw[pZ]at h3;split at h3
  .unfold World.cell? at hu;rw[hg]at hu;simp at hu h3;rw[h3]at hu;cases hu
   exact .v _ hv
  .cases h3
 .obtain⟨i,p,x,hx,he⟩:=hb;rcases vn hob hk (ob':=⟨2,e,ob.sz,kZ ob.sz ob.rows.length (cur.toList.take (ob.rows.length*ob.sz)),ob.fz⟩) G6 hx with⟨_,h2⟩|⟨rfl,rfl,_,h2⟩
  .exact⟨i,p,x,h2,he⟩
  .exact⟨_,[],_,h2,he⟩
def qa.YB(hh:qa w E H)(ty:TypeId){id:Nat}{fz:Nat}(hob:H[id]?=some ⟨2,e,sz,kZ sz rows.length vals,fz⟩)(hr:nC E sz rows vals)
 (hno:∀r∈rows,∀c∈r,zF c=true):qa w E (H.set id ⟨1,ty,sz,rows,fz⟩)/\qn w E H w E (H.set id ⟨1,ty,sz,rows,fz⟩):=by
 refine⟨hh.o3 hob (.inr V) (.inl V) (λh=>by cases h) rfl rfl (jZ _ _ _).symm hr.row G6 hno λi k c c' u e1 e2 hl hu=>?_,qn.same λb hb=>?_⟩
 .obtain⟨h1,h2,v,h3,rfl⟩:=Eb e1;obtain⟨v',h4,h5⟩:=hr.cell i k c' e2;rw[h3]at h4;cases h4
  have hl:L (E.at 2) (.v v) u:=hl;cases hl
  simpa [Env.at] using h5
 .obtain⟨i,p,x,hx,he⟩:=hb;rcases vn hob (.inr rfl) (ob':=⟨1,ty,sz,rows,fz⟩) hno hx with⟨_,h2⟩|⟨rfl,rfl,_,h2⟩
  .exact⟨i,p,x,h2,he⟩
  .exact⟨_,[],_,h2,he⟩
def CY{H H':zq}(h:∀(i:Nat) (ob':Ob),H'[i]?=some ob'->ob'.kind≠0->H[i]?=some ob'){id:Nat}{p:List fY}{x:Nat×List (List C)}(hx:qe H' id p=some x):qe H id p=some x:=by
 obtain⟨ob,h1,h2,h3⟩:=qU hx;unfold qe;rw[h _ _ h1 an];simp only[h2,if_true];exact h3
def qa.live{H H':zq}(hh:qa w E H)(hlen:H'.length=H.length)(h:∀(i:Nat) (ob':Ob),H'[i]?=some ob'->ob'.kind≠0->H[i]?=some ob')(hf:∀(i:Nat) (ob':Ob),H'[i]?=some ob'->ob'.fz<=ob'.rows.length):
  qa w E H'/\qn w E H w E H':=by
 refine⟨⟨by rw[hlen];exact hh.n,λid ob p sz rows hob hx=>?_,λid p id' p' x y hx hy=>hh.inj id p id' p' x y (CY h hx) (CY h hy),hh.qp,λid p x o' u hx hu=>?_,λid ob hob hk=>hh.ty id ob (h id ob hob an) hk,hf⟩,qn.same λb ⟨i,p,x,hx,he⟩=>⟨i,p,x,CY h hx,he⟩⟩
 .obtain⟨ob1,h1,h2,_⟩:=qU hx;rw[hob]at h1;cases h1
  exact hh.fH id ob p sz rows (h id ob hob an) (CY h hx)
 .obtain⟨h1,ob,h2,h3⟩:=hh.sep id p x o' u (CY h hx) hu;obtain⟨ob1,h4,h5,_⟩:=qU hx;have:=h id ob1 h4 an;rw[h2]at this;cases this
  exact⟨h1,ob,h4,h3⟩
def qa.XZ(ty:TypeId){H T:zq}{id:Nat}{fz:Nat}{R:List (List C)}(hA:qa w E (T++[⟨2,e,sz,kZ sz R.length vals,fz⟩]))(hT:T.length=H.length)(hTH:∀j,j≠id->T[j]?=H[j]?)
 (hfz:∀(j:Nat) (ob':Ob),H[j]?=some ob'->ob'.fz<=ob'.rows.length)(ft:id<H.length)(hR:nC E sz R vals)(hno:∀r∈R,∀c∈r,zF c=true)(hf:fz<=R.length):
  qa w E (H.set id ⟨0,0,0,[],0⟩++[⟨1,ty,sz,R,fz⟩])/\qn w E (T++[⟨2,e,sz,kZ sz R.length vals,fz⟩]) w E (H.set id ⟨0,0,0,[],0⟩++[⟨1,ty,sz,R,fz⟩]):=by
 have hat:(T++[⟨2,e,sz,kZ sz R.length vals,fz⟩])[H.length]?=some ⟨2,e,sz,kZ sz R.length vals,fz⟩:=by rw[<-hT];simp
 obtain⟨hB,gB⟩:=hA.YB ty hat hR hno
 have hset:(T++[(⟨2,e,sz,kZ sz R.length vals,fz⟩:Ob)]).set H.length (⟨1,ty,sz,R,fz⟩:Ob)=T++[⟨1,ty,sz,R,fz⟩]:=by
  rw[List.set_append,pA an,hT,sM];rfl
 rw[hset]at hB gB
 have hlast:∀(U:zq) (j:Nat) (ob':Ob),U.length=H.length->(U++[(⟨1,ty,sz,R,fz⟩:Ob)])[j]?=some ob'->¬j<H.length->j=H.length/\ob'=⟨1,ty,sz,R,fz⟩:=λU j ob' hU hj ft=>by
  have h5:=(px.1 hj).1;simp at h5;have:j=H.length:=an
  subst this;rw[<-hU]at hj;simp at hj;exact⟨rfl,hj.symm⟩
 obtain⟨hC,gC⟩:=hB.live (H':=H.set id ⟨0,0,0,[],0⟩++[⟨1,ty,sz,R,fz⟩]) (by simp[hT]) (λj ob' hj h4=>by
  by_cases hjl:j<H.length
  .rw[pI an];rw[pI (ai hjl),pM]at hj;by_cases hij:id=j
   .rw[pD hij,pD ft]at hj;cases hj
    exact absurd V h4
   .rw[pA hij]at hj;rw[hTH j (Ne.symm hij)];exact hj
  .obtain⟨rfl,rfl⟩:=hlast _ j ob' ah hj hjl;rw[<-hT];simp) (λj ob' hj=>by
  by_cases hjl:j<H.length
  .rw[pI (ai hjl),pM]at hj;by_cases hij:id=j
   .rw[pD hij,pD ft]at hj;cases hj
    exact pN _
   .rw[pA hij]at hj;exact hfz j ob' hj
  .obtain⟨rfl,rfl⟩:=hlast _ j ob' ah hj hjl;exact hf)
 exact⟨hC,gB.trans gC⟩
def EU(H:zq)(c:C)(sz:Nat)(rows:List (List C)):Prop:=
 xz H c=some (sz,rows)\/∃id ob full,c=.sl id [] sz 0 rows.length full/\H[id]?=some ob/\(ob.kind=1\/ob.kind=2)/\ob.sz=sz/\ob.rows=rows
def EU.mem(hh:qa w E H){v:Value}(hl:L E c v)(h:EU H c sz rows)(hno:∀r∈rows,∀c∈r,zF c=true)(hne:rows≠[]):
  ∃a cap vals,v=.slice (some a) rows.length cap/\nC E sz rows vals/\∀(j:Nat) u,vals[j]?=some u->w.cell? (a.add j)=some u:=by
 rcases h with h|⟨id,ob,full,rfl,hob,hk,rfl,rfl⟩
 .rcases xJ hh hl h with⟨e,_⟩|⟨a,cap,vals,h1,_,h2,h3⟩
  .exact absurd e hne
  .exact⟨a,cap,vals,h1,h2.kept,h3⟩
 .obtain⟨cur,e,hg,hcs,hlen,hr⟩:=hh.MH hob hk hno;cases hl with
  |sl id hops sz lo len full cap hn hlen' hf hf'=>
   rw[uj];refine⟨_,cap,_,rfl,hr,λj u hu=>?_⟩;rw[xa];unfold World.cell?;rw[hg];rw[pZ]at hu;split at hu
   .simpa using hu
   .cases hu
def Ws(P:Program)(w:World)(t ty e e2:TypeId)(i:TypeInfo)(ht:P.underlying t=some (.slice e))(hi:P.info? e=some i)
 (g sLen sCap:Nat)(cur:Array Value)(hg:w.heap[g]?=some (.cells cur e2 (0,0)))
 (a:Addr)(m c:Nat)(news:List Value)(hl:news.length=m*i.size)(hnews:∀(j:Nat) u,news[j]?=some u->w.cell? (a.add j)=some u)(h1:∀u∈news,u.oneCell'=true)
 (hroom:sLen+m<=sCap)(hfit:sLen*i.size+news.length<=cur.size):
  (Builtin.append_ #[t,t] ty #[.slice (some ⟨g,0,none⟩) sLen sCap,.slice (some a) m c]).run P w=
   .ok (.slice (some ⟨g,0,none⟩) (sLen+m) sCap) (w.setRow g (cur.toList.take (sLen*i.size)++news++cur.toList.drop (sLen*i.size+news.length)).toArray):=by
 have hf:=run_firstCells_some (P:=P) w i.size m a m c news hl hnews;have hst:=run_storeCells_at P g (sLen*i.size) e2 news 0 cur w hg (ai hfit) h1;simp only[tv]at hst;simp[Builtin.append_,run_underlying ht,sizeOf,typeInfo,hi,Builtin.lenOf,hroom,hf,Addr.add_lit,hst]
def qA.ji(cl:Call)(ho:o.op=.call cl)(x y:Operand){z:Value}(ht:oP P cl x y e i z){id n:Nat}(hx:ρ x=.sl id [] i.size 0 n false)(hob:H[id]?=some ob)
 (hkd:ob.kind=1\/ob.kind=2)(hsz:ob.sz=i.size)(hn:ob.rows.length=n)(hno:∀r∈ob.rows,∀c∈r,zF c=true)
 {rows':List (List C)}(hy:EU H (ρ y) i.size rows')(hno':∀r∈rows',∀c∈r,zF c=true)(hne:rows'≠[])(hm:n+rows'.length<=maxLen)(hb:(n+rows'.length)*i.bytes<=140737488355328):
  qA P o ρ H (.sl H.length [] i.size 0 (n+rows'.length) false) (H.set id ⟨0,0,0,[],0⟩++[⟨1,ob.ty,i.size,ob.rows++rows',ob.fz⟩]):=λw E σ hh hl K hk=>by
 subst hn;have h0:=hl x uV;have h1:=hl y uV;obtain⟨t,hu,hexec⟩:=vi ho ht σ w;have hpos:0<rows'.length:=tz.2 hne;have hsmall:ob.rows.length+rows'.length<=9223372036854775807:=aV
 obtain⟨a,cap,vals,e1,hrows,hmem⟩:=hy.mem hh h1 hno' hne;obtain⟨cur,e2,hg,hcs,hlκ,hro⟩:=hh.MH hob hkd hno;obtain⟨hh2,g2⟩:=hh.Yc hob hkd hno hg hro;have hgb:=vZ hob hkd
 have hxv:σ x=.slice (some ⟨E.β id [],0,none⟩) ob.rows.length (E.κ id []):=by
  rw[hx]at h0;generalize σ x=u at *;cases h0 with
  |sl id hops sz lo len full cap hn hlen hf hf'=>
   have:=hf' V;simp at this;subst this;simp
 obtain⟨olds,holds⟩:∃olds,olds=cur.toList.take (ob.rows.length*ob.sz):=⟨_,rfl⟩;rw[<-holds]at hro hh2 g2;obtain⟨H2,hH2⟩:∃H2,H2=H.set id ⟨2,e2,ob.sz,kZ ob.sz ob.rows.length olds,ob.fz⟩:=⟨_,rfl⟩;rw[<-hH2]at hh2 g2;have ft:id<H.length:=(px.1 hob).1;have hl2:H2.length=H.length:=by rw[hH2];simp
 have hob2:H2[id]?=some ⟨2,e2,ob.sz,kZ ob.sz ob.rows.length olds,ob.fz⟩:=by rw[hH2,pM,pD V,pD ft]
 rw[<-hsz]at hrows;have hallK:=hro.append hrows;have hlv:(olds++vals).length=(ob.rows++rows').length*ob.sz:=hallK.len;have qd:vd E ob.sz (kZ ob.sz (ob.rows++rows').length (olds++vals)) (olds++vals):=Vw hlv hallK.one;have hz:=ht.E9
 have hmo:∀(j:Nat) u,olds[j]?=some u->w.cell? ((⟨E.β id [],0,none⟩:Addr).add j)=some u:=λj u hu'=>by
  rw[xa];unfold World.cell?;rw[hg];rw[holds,pZ]at hu';split at hu'
  .simpa using hu'
  .cases hu'
 have hol:olds.length=ob.rows.length*i.size:=by rw[hro.len,hsz]
 have hvl:vals.length=rows'.length*i.size:=by rw[hrows.len,hsz]
 have hlr:(kZ ob.sz (ob.rows++rows').length (olds++vals)).length=ob.rows.length+rows'.length:=by rw[kZ,jZ];simp
 have hfz:ob.fz<=ob.rows.length:=hh.fz id ob hob;have hnoA:∀r∈ob.rows++rows',∀c∈r,zF c=true:=λr hr=>by rcases pS.1 hr with hr|hr;exact hno r hr;exact hno' r hr
 have fin:∀{w':World} {E':Env} {e3:TypeId} {v:Value},E.le E'->qa w' E' (jY H2 id++[⟨2,e3,ob.sz,kZ ob.sz (ob.rows++rows').length (olds++vals),ob.fz⟩])->qn w E H2 w' E' (jY H2 id++[⟨2,e3,ob.sz,kZ ob.sz (ob.rows++rows').length (olds++vals),ob.fz⟩])->
   L E' (.sl H.length [] i.size 0 (ob.rows.length+rows'.length) false) v->K v w':=λ{w' E' e3 v} hle hA gA hv=>by
  have hkl:(jY H2 id).length=H.length:=by simp[jY,hl2]
  obtain⟨hC,gC⟩:=hA.XZ ob.ty (H:=H) (id:=id) hkl (λj hj=>by
   rw[yL,hH2,pM,pA (Ne.symm hj)];cases H[j]? with
   |none=>rfl
   |some ob0=>simp[Ne.symm hj]) hh.fz ft (hallK.mono hle) hnoA (by rw[rB];omega)
  rw[<-hsz]at hk;exact hk _ _ _ hC (by rw[hsz];exact hv) ((g2.trans gA).trans gC)
 by_cases hroom:ob.rows.length+rows'.length<=E.κ id []
 ·
  have hfit:ob.rows.length*i.size+vals.length<=cur.size:=by rw[hvl,hcs,hsz,<-rP];exact rz _ hroom
  have hr:=Ws P w t o.type e e2 i hu ht.info (E.β id []) ob.rows.length (E.κ id []) cur hg a rows'.length cap vals hvl hmem hrows.one hroom hfit;rw[<-hxv,<-e1]at hr;rw[hexec _ _ hr];obtain⟨cur',hcur'⟩:∃cur',cur'=(cur.toList.take (ob.rows.length*i.size)++vals++cur.toList.drop (ob.rows.length*i.size+vals.length)).toArray:=⟨_,rfl⟩;rw[<-hcur']
  have htake:cur'.toList.take (olds++vals).length=olds++vals:=by
   rw[hcur',<-hsz,<-holds];exact ef
  have hsize:cur'.size=E.κ id []*ob.sz:=by rw[<-hcs,hcur'];simp;omega
  have hA:=hh2.again hob2 V (rows:=kZ ob.sz (ob.rows++rows').length (olds++vals)) (vals:=olds++vals) qd (cur:=cur) (cur':=cur') hg hsize (by rw[hlr];exact hroom) htake (by rw[hlr];show ob.fz<=_;omega) ?_
  .refine fin (E.Lx id) hA.1 hA.2 ?_;have:=L.sl (E:=E.again id) H.length [] i.size 0 (ob.rows.length+rows'.length) false (E.κ id []) (by simp[Env.again,hh.n]) hroom ah (λ_=>by simp[Env.again,hh.n]);have hb':(E.again id).β H.length []=E.β id []:=by simp[Env.again,hh.n]
   rw[hb',uj]at this;exact gI
  .intro o' u hu';obtain⟨_,ob',e3,e4⟩:=hh.sep id [] _ o' u hgb hu';rw[hob]at e3;cases e3
   have hst:=(hh.qp _ _ _ hu').1;unfold World.cell? at hst;rw[hg]at hst;simp at hst
   have h7:o'<ob.rows.length*i.size:=by
    rw[hsz]at e4;exact rG e4 (rz _ hfz)
   rw[hcur'];simp only[s9];rw[sa,pI ar,pZ,pD h7,rm];exact hst
 ·
  have hr:=run_append_grow (P:=P) w t o.type e i z hu ht.info ht.zero ⟨E.β id [],0,none⟩ ob.rows.length (E.κ id []) olds hol hmo a rows'.length cap vals hvl hmem an an (growslice_fits an hb);rw[<-hxv,<-e1]at hr;rw[hexec _ _ hr];obtain⟨cap',hcap2⟩:∃cap',cap'=grownCap w (ob.rows.length+rows'.length) (E.κ id []) e:=⟨_,rfl⟩;have hge:ob.rows.length+rows'.length<=cap':=aY
  rw[<-hcap2]
  have hsize:((olds++vals).toArray++Builtin.zeroCells z.cells (cap'-(ob.rows.length+rows'.length))).size=cap'*ob.sz:=by
   have h2:(olds++vals).length=(ob.rows.length+rows'.length)*i.size:=by rw[hlv,hsz];simp
   simp only[eu,ue,size_zeroCells,hz];rw[h2,<-rP,hsz]
   congr 1
   omega
  have hk1:=hh2.drew.kill id;have hB2:=hk1.LU e (κ:=cap') qd (cur:=(olds++vals).toArray++Builtin.zeroCells z.cells (cap'-(ob.rows.length+rows'.length))) (by rw[hlr];exact hge) hsize aW ob.fz (by rw[hlr];omega);have hkl:(jY H2 id).length=H.length:=by simp[jY,hl2]
  have hval:(olds.toArray++vals.toArray++Builtin.zeroCells z.cells (cap'-(ob.rows.length+rows'.length)))=((olds++vals).toArray++Builtin.zeroCells z.cells (cap'-(ob.rows.length+rows'.length))):=ah
  rw[hval];refine fin (E.Ex _ _) hB2.1 ((qn.drew w E H2).trans ((qn.kill w.drew E H2 id).trans hB2.2)) ?_;have:=Dy (E:=E) (H:=jY H2 id) hk1.n w.heap.size cap' i.size (ob.rows.length+rows'.length) false cap' hge ah (λ_=>V);rw[hkl]at this;exact gI
def fE.ji(cl:Call)(ho:o.op=.call cl)(x y:Operand){e:TypeId}{i:TypeInfo}{z:Value}(ht:oP P cl x y e i z){id n:Nat}(hx:ρ x=.sl id [] i.size 0 n false){ob:Ob}(hob:H[id]?=some ob)
 (hkd:ob.kind=1\/ob.kind=2)(hsz:ob.sz=i.size)(hn:ob.rows.length=n)(hno:∀r∈ob.rows,∀c∈r,zF c=true)
 {rows':List (List C)}(hy:EU H (Ab.ij (ρ y)) i.size rows')(hno':∀r∈rows',∀c∈r,zF c=true)(hne:rows'≠[])(hm:n+rows'.length<=maxLen)(hb:(n+rows'.length)*i.bytes<=140737488355328):
  fE P o ρ H (.sl H.length [] i.size 0 (n+rows'.length) false) (H.set id ⟨0,0,0,[],0⟩++[⟨1,ob.ty,i.size,ob.rows++rows',ob.fz⟩]):=
 .ij (ρ:=ρ) (.Bn (.ji cl ho x y ht (by rw[hx];rfl) hob hkd hsz hn hno hy hno' hne hm hb) ((jt.Ig hob an (by show(0:Nat)≠4;decide)).trans (jt.push _ _ (by show(1:Nat)≠4;decide))))
def qA.xE(t:TypeId)(len:Nat)(parts:Array (Nat×Operand))(ho:o.op=.buildSlice t len parts){z cs:List C}(hu:P.underlying t=some (.slice e))(hi:P.info? e=some i)(hz:mY P e=some z)
 (hc1:len*i.size<=16777216)(hc2:0<i.size)(hf:oG (λj=>some (j*i.size,i.size)) (List.replicate len z).flatten (parts.toList.map λp=>(p.1,ρ p.2))=some cs)(hlen:cs.length=len*i.size):
  qA P o ρ H (.sl H.length [] i.size 0 len false) (H++[⟨1,e,i.size,chunk i.size len cs,0⟩]):=λw E σ hh hl K hk=>by
 have hp:∀p∈parts.toList,L E (ρ p.2) (σ p.2):=λp hpm=>hl p.2 (by
  simp only[ho,Op.operands];exact(fe).2 (rp.2 ⟨p,hpm,rfl⟩))
 obtain⟨i',zv,h1,h2,h3,h4,h5,h6,h7⟩:=ko hz E;rw[hi]at h1;cases h1
 obtain⟨arr0,harr0⟩:∃arr0,arr0=(Array.range (len*i.size)).map (λj=>zv.cells[j%zv.cells.size]!):=⟨_,rfl⟩
 have hget0:∀j,j<len*i.size->arr0[j]?=zv.cells[j%i.size]?:=by
  intro j hj;rw[harr0];have hm:j%zv.cells.size<zv.cells.size:=fp _ an;simp only[u9,Array.getElem?_range,hj,if_true,pL];rw[getElem!_pos zv.cells _ hm,<-h5,sB hm]
 have hsize0:arr0.size=len*i.size:=by rw[harr0];simp
 have hl0:LL E (List.replicate len z).flatten arr0.toList:=by
  refine⟨by simp[hsize0,h7],?_⟩;intro j c y hc hy;rw[rm]at hy;have hj:j<len*i.size:=by rw[<-hsize0];exact(pP.1 hy).1
  rw[hget0 j hj]at hy;rw[vT z len j (by rw[h7];exact hj),h7]at hc;exact h3.2 _ c y hc (ai hy)
 have hone0:∀u∈arr0,u.oneCell'=true:=by
  intro u hum;obtain⟨j,hj⟩:=ud.1 hum;have hjl:j<len*i.size:=by rw[<-hsize0];exact(pP.1 hj).1
  rw[hget0 j hjl]at hj;exact h4 u (sE hj)
 have hno0:(List.replicate len z).flatten.all zF=true:=by
  rw[pG];intro c hc;obtain⟨l,hlm,hcl⟩:=List.mem_flatten.1 hc;rw[(ub.1 hlm).2]at hcl;exact pG.1 h6 c hcl
 obtain⟨arr,a1,a2,a3,a4⟩:=Dd parts.toList _ arr0 hl0 hone0 hno0 hp cs hf
 have hr:(execOp σ o).run P w=.ok (.value (.slice (some ⟨w.heap.size,0,none⟩) len len)) (w.alloc (.cells arr e)):=by
  unfold execOp;have hn:¬(2 ^ 24<len*i.size):=an
  by_cases hlz:len*i.size=0
  .have e0:arr0= #[]:=by apply r6;rw[hsize0];exact hlz
   rw[e0]at a1;have e9:∀f:Nat->Value,(Array.range 0).map f= #[]:=λf=>r6 ah
   simp only[ho,Instr.buildSlice,Sem.run_bind,run_underlying hu,Result.andThen_ok,qW hi];rw[pA hn];simp[hlz,newRow,e9,a1]
  .simp only[ho,Instr.buildSlice,Sem.run_bind,run_underlying hu,Result.andThen_ok,qW hi];rw[pA hn];simp[hlz,xg hi h2,newRow,<-harr0,a1]
 rw[hr];have hlc:(chunk i.size len cs).length=len:=jZ _ _ _;have has:arr.size=len*i.size:=by rw[<-hlen,a2.1];simp
 have cell:∀r k c,cellAt (chunk i.size len cs) r k=some c->cs[r*i.size+k]?=some c:=λr k c h=>by
  unfold cellAt at h;by_cases hrl:r<len
  .rw[vV _ _ _ _ hrl]at h;simp only[ri]at h;rw[pZ]at h;split at h
   .rw[rM]at h;exact h
   .cases h
  .rw[rQ an]at h;cases h
 have hB:=hh.push 1 e i.size len (chunk i.size len cs) arr (.inl V) (λr hrm=>by
   obtain⟨j,hj⟩:=pV.1 hrm;have hjl:j<len:=by rw[<-hlc];exact(px.1 hj).1
   rw[vV _ _ _ _ hjl]at hj;cases hj
   have:(j+1)*i.size<=len*i.size:=rz _ hjl;rw[rP]at this;simp;omega) an has (λr k c h=>pG.1 a4 c (pE (cell r k c h))) λr k c h=>by
  obtain⟨u,hu',hlu⟩:=a2.get (cell r k c h);rw[rm]at hu';exact⟨u,hu',by simpa [Env.at] using hlu,a3 u (sE hu')⟩
 exact hk _ _ _ hB.1 (Dy hh.n _ _ _ _ false len (pN _) ah (λ_=>V)) hB.2
def fE.xE(t:TypeId)(len:Nat)(parts:Array (Nat×Operand))(ho:o.op=.buildSlice t len parts){e:TypeId}{i:TypeInfo}{z cs:List C}(hu:P.underlying t=some (.slice e))(hi:P.info? e=some i)(hz:mY P e=some z)
 (hc1:len*i.size<=16777216)(hc2:0<i.size)(hf:oG (λj=>some (j*i.size,i.size)) (List.replicate len z).flatten (parts.toList.map λp=>(p.1,ρ p.2))=some cs)(hlen:cs.length=len*i.size):
  fE P o ρ H (.sl H.length [] i.size 0 len false) (H++[⟨1,e,i.size,chunk i.size len cs,0⟩]):=
 .Bn (.xE t len parts ho hu hi hz hc1 hc2 hf hlen) (jt.push _ _ (by show(1:Nat)≠4;decide))
def zl.marks{B:Nat}:∀(l:List Nat) {t:List C} {H:zq},zl B ⟨t,H⟩ ⟨t,H++l.map λk=>⟨0,77,k,[],0⟩⟩
 |[],t,H=>by rw[List.map_nil,sY];exact .refl _
 |k::l,t,H=>(zl.dead (s:=⟨t,H⟩) 77 k).trans (by
   have:=zl.marks (B:=B) l (t:=t) (H:=H++[⟨0,77,k,[],0⟩]);rw[sa]at this;exact this)
def HC{f:FuncId}{fn:Func}{c:Code}{H2:zq}{args:List C}{r:C}(l:List Nat)(hf:P.funcs[f]?=some fn)(hb:fn.body=some c)
 (h:wpA P 0 c (entry fn args) (l.map λk=>⟨0,77,k,[],0⟩) λex t1 H1=>(ex=.ret\/ex=.normal)/\∃s2 r1,zl 0 ⟨t1,H1⟩ s2/\kg P fn s2=some r1/\zl 0 ⟨[r1],s2.H⟩ ⟨[r],H2⟩):zb P f [] args r H2:=λw E vs hh hl=>by
 have h1:qC P f [] args λr1 H1=>zl 0 ⟨[r1],H1⟩ ⟨[r],H2⟩:=qC.kQ (H:=[]) hf hb ((qX.pre (zl.marks l) (jh h)).mono λex s1 ⟨hex,s2,r1,hw,h2,h3⟩=>⟨hex,s2,r1,hw,h2,h3⟩)
 refine(h1 w E vs hh hl).mono ?_;rintro e w' ⟨r1,H1,v,E',hw,h0,h2,h3,g⟩;obtain⟨E2,hs,g2⟩:=hw 0 w' E' ⟨#[v],[]⟩ ⟨h2,LL.one h3,pW _,pW _⟩;have hn2:=hs.heap.n;have hn0:E.n=0:=hh.n;refine⟨v,E2,h0,hs.heap,hs.tmps.cons_inv.1,⟨⟨by rw[hn0];exact pW _,λid hops hi=>by rw[hn0]at hi;omega,λid hops hi=>by rw[hn0]at hi;omega,λb o u hu=>g2.le.St _ _ _ (g.le.St _ _ _ hu),λid k u hi hu=>by rw[hn0]at hi;omega⟩,g2.os.trans g.os,g2.tape.trans g.tape,g2.output.trans g.output,rR g.size g2.size,?_,?_,?_⟩⟩
 .intro k hk ho;exact dE
 .intro b o u hu;rcases g2.jB b o u hu with h1|h1|h1
  .exact g.jB b o u h1
  .exact gV
  .rcases g.own b h1 with h4|h4
   .exact .inr (.inl h4)
   .exact .inr (.inr h4)
 .intro b hb;rcases g2.own b hb with h1|h1
  .exact pj
  .exact g.own b h1
end
end Go.Ab
namespace Go.Wor
open Go.Ab Go.Proofs Tryz Go.Gat Go.Nam Go.Hos Go.Con Go.Sna
open Go.Hy hiding encI
variable{α:Type}{enc:α->List C}{sel:List Nat}{l:List (List C)}
def vG(hf:∀x,(enc x).map (jQ sel 9)=enc x)(l:List α)(v n:Nat)(row:List C)(ty sz fz:Nat):zJ sel ⟨1,ty,sz,((l.map enc).set v row).take n,fz⟩=⟨1,ty,sz,((l.map enc).set v (row.map (jQ sel 9))).take n,fz⟩:=by
 show(⟨1,ty,sz,(((l.map enc).set v row).take n).map (λr=>r.map (jQ sel 9)),fz⟩:Ob)=_;rw[s5,Ec hf]
def y4(hf:∀x,(enc x).map (jQ sel 9)=enc x)(l:List α)(v n:Nat)(row r:List C)(ty sz fz:Nat):zJ sel ⟨1,ty,sz,((l.map enc).set v row).take n++[r],fz⟩=⟨1,ty,sz,((l.map enc).set v (row.map (jQ sel 9))).take n++[r.map (jQ sel 9)],fz⟩:=by
 show(⟨1,ty,sz,(((l.map enc).set v row).take n++[r]).map (λr=>r.map (jQ sel 9)),fz⟩:Ob)=_;rw[ry,s5,Ec hf]
 rfl
def y5{k:Nat}{r:List C}(h:l[k]?=some r):l.take (k+1)=l.take k++[r]:=by rw[tr,h];rfl
def El{i m:Nat}(h:m<=i)(a b:List C):(l.set i a).take m=(l.set i b).take m:=by
 apply rL
 intro n;rw[pZ,pZ];split
 .rw[rC an,rC an]
 .rfl
def Po(w:Wor)(h:z6 w){v:Nat}{v0:fC}{g:Nat}{g0:Gr}{e:Nat}{e0:En}(hp:DA w.zd v v0 g g0 e e0):th 89 [] [Cw w] (.agg (ir w 0))
  [⟨1,106,5,((w.zd.map zt).set v (fR 1 v0)),0⟩,⟨1,111,2,((v0.zg.map zy).set g (fN 2 g0)),0⟩,⟨1,151,3,((g0.ends.map zx).set e (fL 3 e0)),0⟩,⟨2,3,1,(e0.next.map Go.Hy.encI),0⟩]:=by
 have m1:(w.pins.map Go.Hy.encI).length=w.pins.length:=pz ..;have m2:(w.zd.map zt).length=w.zd.length:=pz ..;have m3:(w.zc.map zT).length=w.zc.length:=pz ..;have m4:(w.zn.map qk).length=w.zn.length:=pz ..;have b1:=h.pins;have b2:=h.zd.1;have b3:=h.zc;have b4:=h.zn;have ownV:∀i,∀r∈((w.zd.map zt).set v (fR i v0)),∀c∈r,zF c=true:=λi=>zE (enc:=zt) (λ_=>V) V _ _
 have ownG:∀i,∀r∈((v0.zg.map zy).set g (fN i g0)),∀c∈r,zF c=true:=λi=>zE (enc:=zy) (λ_=>V) V _ _
 have ownE:∀i,∀r∈((g0.ends.map zx).set e (fL i e0)),∀c∈r,zF c=true:=λi=>zE (enc:=zx) (λ_=>V) V _ _
 have vlt:=(px.1 hp.iz).1;have lowG:∀n,10<=n->qj n [⟨1,111,2,((v0.zg.map zy).set g (fN 9 g0)),0⟩]=true:=λn hn=>qi (zE (enc:=zy) (λ_=>V) (by simp[qE];omega) _ _)
 have lowE:∀n,11<=n->qj n [⟨1,151,3,((g0.ends.map zx).set e (fL 10 e0)),0⟩]=true:=λn hn=>qi (zE (enc:=zx) (λ_=>V) (by simp[qE];omega) _ _)
 have lowV:∀n,9<=n->qj n [⟨1,106,5,((w.zd.map zt).set v (fR 8 v0)),0⟩]=true:=λn hn=>qi (zE (enc:=zt) (λ_=>V) (by simp[qE,qV];omega) _ _)
 have lowA:=lowV;have lowX:=lowV;have lowW:∀n,15<=n->qj n [⟨1,151,3,((g0.ends.map zx).set e (fL 14 e0)),0⟩]=true:=λn hn=>qi (zE (enc:=zx) (λ_=>V) (by simp[qE];omega) _ _)
 refine HC [33,104,109] (fn:=f89) func89 V (uH ?_);refine zaz ?_;(refine(fE.xE _ _ _ V underlying33 V V aj aj V V).iu (uH ?_))
 refine zH.seq w.zd.length (λk=>(.za::.ref 3 [] 8 0 0:: .ref 4 [] 8 0 0:: .ref 5 [] 8 0 0::I k:: .za::.za::mL (jp (jp (jp (jp (mL ([])))))))) (λk=>[⟨0,77,33,[],0⟩,⟨0,77,104,[],0⟩,⟨0,77,109,[],0⟩,oW w,⟨1,38,8,[fW],0⟩,⟨1,38,8,[[I w.zr,I w.current,I w.lock,.gl 6 1 (w.pins.map Go.Hy.encI),.sl 7 [] 5 0 k false,lL w.zc,fJ w.counts,lR w.zn]],0⟩,⟨4,3,1,(w.pins.map Go.Hy.encI),0⟩,⟨1,106,5,(((w.zd.map zt).set v (fR 8 v0))).take k,0⟩,⟨if k<=v then 0 else 1,111,2,if k<=v then [] else ((v0.zg.map zy).set g (fN 9 g0)),0⟩,⟨if k<=v then 0 else 1,151,3,if k<=v then [] else ((g0.ends.map zx).set e (fL 10 e0)),0⟩,⟨if k<=v then 0 else 2,3,1,if k<=v then [] else (e0.next.map Go.Hy.encI),0⟩]) (λk=>True) ?_ trivial (λk hk _=>?_) (λ_=>?_)
 .simp only[pD (pW v)];refine zl.trans (zl.dead 111 2) (zl.trans (zl.dead 151 3) (zl.trans (zl.dead 3 1) ?_));exact cC
 .obtain⟨x,hx⟩:∃x,x=w.zd[k]:=⟨_,rfl⟩;have hx2:w.zd[k]?=some x:=by rw[hx];exact pq hk
  have hgv:(w.zd.map zt)[k]?=some (zt x):=by rw[pw,hx2];rfl
  have sv:=h.zd.2 x uY;have m5:(x.zg.map zy).length=x.zg.length:=pz ..;have b5:=sv.1;have lV:((((w.zd.map zt).set v (fR 8 v0))).take k).length=k:=ar
  have lowA:∀n,9<=n->qj n [⟨1,106,5,(((w.zd.map zt).set v (fR 8 v0))).take k,0⟩]=true:=λn hn=>qi λr hr=>zE (enc:=zt) (λ_=>V) (by simp[qE,qV];omega) _ _ r (pF hr)
  have lowX:=lowA;rcases sC k v with hkv|hkv|hkv
  .simp only[pD (show k<=v by omega),pD (show k+1<=v by omega)];have hF:(((w.zd.map zt).set v (fR 8 v0)))[k]?=some (zt x):=by rw[rC an];exact hgv
   conv=>whnf
   rw[m2];refine zaK ?_
   (refine(fE.same (qA.buildSlice _ _ _ V (c:=.fq 1 2 []) V)).iu (uH ?_))
   refine zH.seq x.zg.length (λj=>(.za::.ref 3 [] 8 0 0:: .ref 4 [] 8 0 0:: .ref 5 [] 8 0 0::I k:: .ref 11 [] 5 0 0::I j:: mL (jp (jp (jp (jp (mL ([])))))))) (λj=>[⟨0,77,33,[],0⟩,⟨0,77,104,[],0⟩,⟨0,77,109,[],0⟩,oW w,⟨1,38,8,[fW],0⟩,⟨1,38,8,[[I w.zr,I w.current,I w.lock,.gl 6 1 (w.pins.map Go.Hy.encI),.sl 7 [] 5 0 k false,lL w.zc,fJ w.counts,lR w.zn]],0⟩,⟨4,3,1,(w.pins.map Go.Hy.encI),0⟩,⟨1,106,5,(((w.zd.map zt).set v (fR 8 v0))).take k,0⟩,⟨0,111,2,[],0⟩,⟨0,151,3,[],0⟩,⟨0,3,1,[],0⟩,⟨1,106,5,[qV x.snap++[.gl 12 2 ((x.zg.take j).map zy),Bo x.qH]],0⟩,⟨4,111,2,((x.zg.take j).map zy),0⟩]) (λk=>True) ?_ trivial (λj hj _=>?_) (λ_=>?_)
   .refine zl.trans (zl.qN 11 3 111 2 V V (.inl V) V V) ?_;exact cC
   .obtain⟨y,hy⟩:∃y,y=x.zg[j]:=⟨_,rfl⟩;have hgg:(x.zg.map zy)[j]?=some (zy y):=by rw[pw,pq hj,hy];rfl
    have sg:=sv.2 y cP;have m6:(y.ends.map zx).length=y.ends.length:=pz ..;have b6:=sg.1;have lG:(((x.zg.take j).map zy)).length=j:=ar
    have eG:((x.zg.take (j+1)).map zy)=((x.zg.take j).map zy)++[zy y]:=by rw[ru hj,<-hy];simp
    conv=>whnf
    refine zbB ?_
    rw[m5];refine zaK ?_
    refine zbh ?_
    refine zch ?_
    refine zH.seq y.ends.length (λn=>(.za::.ref 3 [] 8 0 0:: .ref 4 [] 8 0 0:: .ref 5 [] 8 0 0::I k:: .ref 11 [] 5 0 0::I j:: .ref 13 [] 2 0 0::I n:: .za::.za::.za::.za::.za::.za::mL (jp (jp (jp (jp ([]))))))) (λn=>[⟨0,77,33,[],0⟩,⟨0,77,104,[],0⟩,⟨0,77,109,[],0⟩,oW w,⟨1,38,8,[fW],0⟩,⟨1,38,8,[[I w.zr,I w.current,I w.lock,.gl 6 1 (w.pins.map Go.Hy.encI),.sl 7 [] 5 0 k false,lL w.zc,fJ w.counts,lR w.zn]],0⟩,⟨4,3,1,(w.pins.map Go.Hy.encI),0⟩,⟨1,106,5,(((w.zd.map zt).set v (fR 8 v0))).take k,0⟩,⟨0,111,2,[],0⟩,⟨0,151,3,[],0⟩,⟨0,3,1,[],0⟩,⟨1,106,5,[qV x.snap++[.gl 12 2 ((x.zg.take j).map zy),Bo x.qH]],0⟩,⟨4,111,2,((x.zg.take j).map zy),0⟩,⟨1,111,2,[[U y.zC,.gl 14 3 ((y.ends.take n).map zx)]],0⟩,⟨4,151,3,((y.ends.take n).map zx),0⟩]) (λk=>True) ?_ trivial (λn hn _=>?_) (λ_=>?_)
    .refine zl.trans (zl.qN 13 1 151 3 V V (.inl V) V V) ?_;exact cC
    .obtain⟨z,hz⟩:∃z,z=y.ends[n]:=⟨_,rfl⟩;have hge:(y.ends.map zx)[n]?=some (zx z):=by rw[pw,pq hn,hz];rfl
     have se:=sg.2 z mG;have m7:(z.next.map Go.Hy.encI).length=z.next.length:=pz ..;have lE:(((y.ends.take n).map zx)).length=n:=ar
     have eE:((y.ends.take (n+1)).map zx)=((y.ends.take n).map zx)++[zx z]:=cQ
     conv=>whnf
     refine zbB ?_
     refine zbh ?_
     rw[m6];refine zaK ?_
     refine zbh ?_
     (refine te hge ?_)
     refine zbr ?_;exact zl.jd 15 ta V V V (by (repeat' (first|(exact V)|(exact lowA _ (pO V))|(exact lowG _ (pO V))|(exact lowE _ (pO V))|(exact lowW _ (pO V))|(exact lowX _ (pO V))|(refine qc ?_ ?_)))) V
    .conv=>whnf
     refine zbB ?_
     refine zbh ?_
     refine zbL ?_;exact zl.jd 13 ta V V V (by (repeat' (first|(exact V)|(exact lowA _ (pO V))|(exact lowG _ (pO V))|(exact lowE _ (pO V))|(exact lowW _ (pO V))|(exact lowX _ (pO V))|(refine qc ?_ ?_)))) V
   .conv=>whnf
    refine zbB ?_
    refine zb5 ?_
    refine zap ?_;rw[zk an,y5 hF];refine zl.trans (ja [0,1,2,3,4,5,6,13,8,9,10] [1,2,3,4] V V V (by (repeat' (first|(exact V)|(exact zf λr hr=>ownV _ r (pF hr))|(exact zf λr hr=>ownG _ r (pF hr))|(exact zf λr hr=>ownE _ r (pF hr))|(exact zf (ownV _))|(exact zf (ownG _))|(exact zf (ownE _))|(exact zf λr hr=>(pS.1 hr).elim (λhr=>ownV _ r (pF hr)) (zB V r))|(exact zf λr hr=>(pS.1 hr).elim (λhr=>ownG _ r (pF hr)) (zB V r))|(exact zf λr hr=>(pS.1 hr).elim (λhr=>ownE _ r (pF hr)) (zB V r))|(refine ze ?_ ?_)))) V ?_) (cC);show _::_::_::_::_::_::_::zJ [0,1,2,3,4,5,6,13,8,9,10] ⟨1,106,5,List.take k (((w.zd.map zt).set v (fR 8 v0)))++[_],0⟩::_=_;rw[y4 (enc:=zt) (λ_=>V)];rfl
  .simp only[pD (show k<=v by omega),pA (show ¬k+1<=v by omega)];obtain rfl:v0=x:=by rw[hkv,hp.iz]at hx2;exact rV hx2
   have glt:=(px.1 hp.iC).1;have CN:=(px.1 hp.at_).1;have hF:(((w.zd.map zt).set v (fR 8 v0)))[k]?=some (fR 8 v0):=by rw[hkv];exact pH (ai vlt)
   conv=>whnf
   rw[m2];refine zaK ?_
   (refine(fE.xE _ _ _ V underlying104 V V aj aj V V).iu (uH ?_))
   refine zH.seq v0.zg.length (λj=>(.za::.ref 3 [] 8 0 0:: .ref 4 [] 8 0 0:: .ref 5 [] 8 0 0::I k:: .ref 11 [] 5 0 0::I j:: mL (jp (jp (jp (jp (mL ([])))))))) (λj=>[⟨0,77,33,[],0⟩,⟨0,77,104,[],0⟩,⟨0,77,109,[],0⟩,oW w,⟨1,38,8,[fW],0⟩,⟨1,38,8,[[I w.zr,I w.current,I w.lock,.gl 6 1 (w.pins.map Go.Hy.encI),.sl 7 [] 5 0 k false,lL w.zc,fJ w.counts,lR w.zn]],0⟩,⟨4,3,1,(w.pins.map Go.Hy.encI),0⟩,⟨1,106,5,(((w.zd.map zt).set v (fR 8 v0))).take k,0⟩,⟨0,111,2,[],0⟩,⟨0,151,3,[],0⟩,⟨0,3,1,[],0⟩,⟨1,106,5,[qV v0.snap++[.sl 12 [] 2 0 j false,Bo v0.qH]],0⟩,⟨1,111,2,(((v0.zg.map zy).set g (fN 13 g0))).take j,0⟩,⟨if j<=g then 0 else 1,151,3,if j<=g then [] else ((g0.ends.map zx).set e (fL 14 e0)),0⟩,⟨if j<=g then 0 else 2,3,1,if j<=g then [] else (e0.next.map Go.Hy.encI),0⟩]) (λk=>True) ?_ trivial (λj hj _=>?_) (λ_=>?_)
   .simp only[pD (pW g)];refine zl.trans (zl.dead 151 3) (zl.trans (zl.dead 3 1) ?_);exact cC
   .obtain⟨y,hy⟩:∃y,y=v0.zg[j]:=⟨_,rfl⟩;have hy2:v0.zg[j]?=some y:=by rw[hy];exact pq hj
    have hgg:(v0.zg.map zy)[j]?=some (zy y):=by rw[pw,hy2];rfl
    have sg:=sv.2 y cP;have m6:(y.ends.map zx).length=y.ends.length:=pz ..;have b6:=sg.1;have lG:((((v0.zg.map zy).set g (fN 13 g0))).take j).length=j:=ar
    have lowX:∀n,14<=n->qj n [⟨1,111,2,(((v0.zg.map zy).set g (fN 13 g0))).take j,0⟩]=true:=λn hn=>qi λr hr=>zE (enc:=zy) (λ_=>V) (by simp[qE];omega) _ _ r (pF hr)
    rcases sC j g with hjg|hjg|hjg
    .simp only[pD (show j<=g by omega),pD (show j+1<=g by omega)];have hG:(((v0.zg.map zy).set g (fN 13 g0)))[j]?=some (zy y):=by rw[rC an];exact hgg
     conv=>whnf
     refine zbB ?_
     rw[m5];refine zaK ?_
     refine zbh ?_
     refine zch ?_
     refine zH.seq y.ends.length (λn=>(.za::.ref 3 [] 8 0 0:: .ref 4 [] 8 0 0:: .ref 5 [] 8 0 0::I k:: .ref 11 [] 5 0 0::I j:: .ref 15 [] 2 0 0::I n:: .za::.za::.za::.za::.za::.za::mL (jp (jp (jp (jp ([]))))))) (λn=>[⟨0,77,33,[],0⟩,⟨0,77,104,[],0⟩,⟨0,77,109,[],0⟩,oW w,⟨1,38,8,[fW],0⟩,⟨1,38,8,[[I w.zr,I w.current,I w.lock,.gl 6 1 (w.pins.map Go.Hy.encI),.sl 7 [] 5 0 k false,lL w.zc,fJ w.counts,lR w.zn]],0⟩,⟨4,3,1,(w.pins.map Go.Hy.encI),0⟩,⟨1,106,5,(((w.zd.map zt).set v (fR 8 v0))).take k,0⟩,⟨0,111,2,[],0⟩,⟨0,151,3,[],0⟩,⟨0,3,1,[],0⟩,⟨1,106,5,[qV v0.snap++[.sl 12 [] 2 0 j false,Bo v0.qH]],0⟩,⟨1,111,2,(((v0.zg.map zy).set g (fN 13 g0))).take j,0⟩,⟨0,151,3,[],0⟩,⟨0,3,1,[],0⟩,⟨1,111,2,[[U y.zC,.gl 16 3 ((y.ends.take n).map zx)]],0⟩,⟨4,151,3,((y.ends.take n).map zx),0⟩]) (λk=>True) ?_ trivial (λn hn _=>?_) (λ_=>?_)
     .refine zl.trans (zl.qN 15 1 151 3 V V (.inl V) V V) ?_;exact cC
     .obtain⟨z,hz⟩:∃z,z=y.ends[n]:=⟨_,rfl⟩;have hge:(y.ends.map zx)[n]?=some (zx z):=by rw[pw,pq hn,hz];rfl
      have se:=sg.2 z mG;have m7:(z.next.map Go.Hy.encI).length=z.next.length:=pz ..;have lE:(((y.ends.take n).map zx)).length=n:=ar
      have eE:((y.ends.take (n+1)).map zx)=((y.ends.take n).map zx)++[zx z]:=cQ
      conv=>whnf
      refine zbB ?_
      refine zbh ?_
      rw[m6];refine zaK ?_
      refine zbh ?_
      (refine te hge ?_)
      refine zbr ?_;exact zl.jd 17 ta V V V (by (repeat' (first|(exact V)|(exact lowA _ (pO V))|(exact lowG _ (pO V))|(exact lowE _ (pO V))|(exact lowW _ (pO V))|(exact lowX _ (pO V))|(refine qc ?_ ?_)))) V
     .conv=>whnf
      refine zbB ?_
      refine zbh ?_
      refine zbO ?_
      refine zap ?_;rw[zk an,y5 hG];refine zl.trans (ja [0,1,2,3,4,5,6,7,8,9,10,11,17,13,14] [1,2,3,4,5,6] V V V (by (repeat' (first|(exact V)|(exact zf λr hr=>ownV _ r (pF hr))|(exact zf λr hr=>ownG _ r (pF hr))|(exact zf λr hr=>ownE _ r (pF hr))|(exact zf (ownV _))|(exact zf (ownG _))|(exact zf (ownE _))|(exact zf λr hr=>(pS.1 hr).elim (λhr=>ownV _ r (pF hr)) (zB V r))|(exact zf λr hr=>(pS.1 hr).elim (λhr=>ownG _ r (pF hr)) (zB V r))|(exact zf λr hr=>(pS.1 hr).elim (λhr=>ownE _ r (pF hr)) (zB V r))|(refine ze ?_ ?_)))) V ?_) (cC);show _::_::_::_::_::_::_::zJ [0,1,2,3,4,5,6,7,8,9,10,11,17,13,14] ⟨1,106,5,List.take k (((w.zd.map zt).set v (fR 8 v0))),0⟩::_::_::_::_::zJ [0,1,2,3,4,5,6,7,8,9,10,11,17,13,14] ⟨1,111,2,List.take j (((v0.zg.map zy).set g (fN 13 g0)))++[_],0⟩::_=_;rw[vG (enc:=zt) (λ_=>V),y4 (enc:=zy) (λ_=>V)];rfl
    .simp only[pD (show j<=g by omega),pA (show ¬j+1<=g by omega)];obtain rfl:g0=y:=by rw[hjg,hp.iC]at hy2;exact rV hy2
     have hG:(((v0.zg.map zy).set g (fN 13 g0)))[j]?=some (fN 13 g0):=by rw[hjg];exact pH (ai glt)
     conv=>whnf
     refine zbB ?_
     rw[m5];refine zaK ?_
     refine zbh ?_
     (refine(fE.xE _ _ _ V underlying109 V V aj aj V V).iu (uH ?_))
     refine zH.seq g0.ends.length (λn=>(.za::.ref 3 [] 8 0 0:: .ref 4 [] 8 0 0:: .ref 5 [] 8 0 0::I k:: .ref 11 [] 5 0 0::I j:: .ref 15 [] 2 0 0::I n:: .za::.za::.za::.za::.za::.za::mL (jp (jp (jp (jp ([]))))))) (λn=>[⟨0,77,33,[],0⟩,⟨0,77,104,[],0⟩,⟨0,77,109,[],0⟩,oW w,⟨1,38,8,[fW],0⟩,⟨1,38,8,[[I w.zr,I w.current,I w.lock,.gl 6 1 (w.pins.map Go.Hy.encI),.sl 7 [] 5 0 k false,lL w.zc,fJ w.counts,lR w.zn]],0⟩,⟨4,3,1,(w.pins.map Go.Hy.encI),0⟩,⟨1,106,5,(((w.zd.map zt).set v (fR 8 v0))).take k,0⟩,⟨0,111,2,[],0⟩,⟨0,151,3,[],0⟩,⟨0,3,1,[],0⟩,⟨1,106,5,[qV v0.snap++[.sl 12 [] 2 0 j false,Bo v0.qH]],0⟩,⟨1,111,2,(((v0.zg.map zy).set g (fN 13 g0))).take j,0⟩,⟨0,151,3,[],0⟩,⟨0,3,1,[],0⟩,⟨1,111,2,[[U g0.zC,.sl 16 [] 3 0 n false]],0⟩,⟨1,151,3,(((g0.ends.map zx).set e (fL 17 e0))).take n,0⟩,⟨if n<=e then 0 else 2,3,1,if n<=e then [] else (e0.next.map Go.Hy.encI),0⟩]) (λk=>True) ?_ trivial (λn hn _=>?_) (λ_=>?_)
     .simp only[pD (pW e)];refine zl.trans (zl.dead 3 1) ?_;exact cC
     .obtain⟨z,hz⟩:∃z,z=g0.ends[n]:=⟨_,rfl⟩;have hz2:g0.ends[n]?=some z:=by rw[hz];exact pq hn
      have hge:(g0.ends.map zx)[n]?=some (zx z):=by rw[pw,hz2];rfl
      have se:=sg.2 z mG;have m7:(z.next.map Go.Hy.encI).length=z.next.length:=pz ..;have lE:((((g0.ends.map zx).set e (fL 17 e0))).take n).length=n:=ar
      rcases sC n e with hne|hne|hne
      .simp only[pD (show n<=e by omega),pD (show n+1<=e by omega)];have hE:(((g0.ends.map zx).set e (fL 17 e0)))[n]?=some (zx z):=by rw[rC an];exact hge
       conv=>whnf
       refine zbB ?_
       refine zbh ?_
       rw[m6];refine zaK ?_
       refine zbh ?_
       (refine te hge ?_)
       refine zbZ ?_
       refine zap ?_;rw[zk an,y5 hE];refine zl.trans (ja [0,1,2,3,4,5,6,7,8,9,10,11,12,13,14,15,20,17] [1,2,3,4,5,6,7,8] V V V (by (repeat' (first|(exact V)|(exact zf λr hr=>ownV _ r (pF hr))|(exact zf λr hr=>ownG _ r (pF hr))|(exact zf λr hr=>ownE _ r (pF hr))|(exact zf (ownV _))|(exact zf (ownG _))|(exact zf (ownE _))|(exact zf λr hr=>(pS.1 hr).elim (λhr=>ownV _ r (pF hr)) (zB V r))|(exact zf λr hr=>(pS.1 hr).elim (λhr=>ownG _ r (pF hr)) (zB V r))|(exact zf λr hr=>(pS.1 hr).elim (λhr=>ownE _ r (pF hr)) (zB V r))|(refine ze ?_ ?_)))) V ?_) (cC);refine zbe ?_;rw[vG (enc:=zt) (λ_=>V),vG (enc:=zy) (λ_=>V),y4 (enc:=zx) (λ_=>V)];rfl
      .simp only[pD (show n<=e by omega),pA (show ¬n+1<=e by omega)];obtain rfl:e0=z:=by rw[hne,hp.at_]at hz2;exact rV hz2
       have hE:(((g0.ends.map zx).set e (fL 17 e0)))[n]?=some (fL 17 e0):=by rw[hne];exact pH (ai CN)
       obtain⟨q0,qs,hq⟩:∃q0 qs,e0.next=q0::qs:=by cases hh:e0.next with|nil=>exact absurd hh hp.ne|cons a l=>exact⟨a,l,rfl⟩
       have hq2:(e0.next.map Go.Hy.encI)=Go.Hy.encI q0::qs.map Go.Hy.encI:=cL
       have hq4:qs.length<1000000000:=by rw[hq]at se;simp at se;omega
       have hq3:(qs.map Go.Hy.encI).length+1=e0.next.length:=cM
       conv=>whnf
       refine zbB ?_
       refine zbh ?_
       rw[m6];refine zaK ?_
       refine zbh ?_
       (refine te hge ?_)
       refine .inr ?_;rw[hq2];refine⟨.inl V,aq,aL,uH ?_⟩;rw[hq3,<-hq2,show([]:List (List C)).length+e0.next.length=e0.next.length from pK _];(refine(fE.xE _ _ _ V underlying109 V V aj aj V V).iu (uH ?_))
       (refine(fE.ji _ V _ _ ⟨rfl,rfl,⟨_,rfl,underlying109⟩,rfl,rfl,rfl⟩ (id:=16) (n:=n) V V (.inl V) V lE (λr hr=>ownE 17 r (pF hr)) (.inr ⟨20,_,_,rfl,rfl,.inl V,rfl,rfl⟩) (zB V) (r9 _ _) cS (by show(n+1)*40<=_;omega)).iu (uH ?_))
       refine zap ?_;rw[zk an,y5 hE];refine zl.trans (ja [0,1,2,3,4,5,6,7,8,9,10,11,12,13,14,15,21,19] [1,2,3,4,5,6,7,8] V V V (by (repeat' (first|(exact V)|(exact zf λr hr=>ownV _ r (pF hr))|(exact zf λr hr=>ownG _ r (pF hr))|(exact zf λr hr=>ownE _ r (pF hr))|(exact zf (ownV _))|(exact zf (ownG _))|(exact zf (ownE _))|(exact zf λr hr=>(pS.1 hr).elim (λhr=>ownV _ r (pF hr)) (zB V r))|(exact zf λr hr=>(pS.1 hr).elim (λhr=>ownG _ r (pF hr)) (zB V r))|(exact zf λr hr=>(pS.1 hr).elim (λhr=>ownE _ r (pF hr)) (zB V r))|(refine ze ?_ ?_)))) V ?_) (cC);show _::_::_::_::_::_::_::zJ [0,1,2,3,4,5,6,7,8,9,10,11,12,13,14,15,21,19] ⟨1,106,5,List.take k (((w.zd.map zt).set v (fR 8 v0))),0⟩::_::_::_::_::zJ [0,1,2,3,4,5,6,7,8,9,10,11,12,13,14,15,21,19] ⟨1,111,2,List.take j (((v0.zg.map zy).set g (fN 13 g0))),0⟩::_::_::_::zJ [0,1,2,3,4,5,6,7,8,9,10,11,12,13,14,15,21,19] ⟨1,151,3,List.take n (((g0.ends.map zx).set e (fL 17 e0)))++[_],0⟩::_=_;rw[vG (enc:=zt) (λ_=>V),vG (enc:=zy) (λ_=>V),y4 (enc:=zx) (λ_=>V)];rw[show List.take n ((g0.ends.map zx).set e (List.map (jQ [0,1,2,3,4,5,6,7,8,9,10,11,12,13,14,15,21,19] 9) (fL 17 e0)))=List.take n (((g0.ends.map zx).set e (fL 17 e0))) from El an _ _];rfl
      .simp only[pA (show ¬n<=e by omega),pA (show ¬n+1<=e by omega)];have hE:(((g0.ends.map zx).set e (fL 17 e0)))[n]?=some (zx z):=by rw[rC an];exact hge
       conv=>whnf
       refine zbB ?_
       refine zbh ?_
       rw[m6];refine zaK ?_
       refine zbh ?_
       (refine te hge ?_)
       refine zbZ ?_
       refine zap ?_;rw[zk an,y5 hE];refine zl.trans (ja [0,1,2,3,4,5,6,7,8,9,10,11,12,13,14,15,20,17] [1,2,3,4,5,6,7,8] V V V (by (repeat' (first|(exact V)|(exact zf λr hr=>ownV _ r (pF hr))|(exact zf λr hr=>ownG _ r (pF hr))|(exact zf λr hr=>ownE _ r (pF hr))|(exact zf (ownV _))|(exact zf (ownG _))|(exact zf (ownE _))|(exact zf λr hr=>(pS.1 hr).elim (λhr=>ownV _ r (pF hr)) (zB V r))|(exact zf λr hr=>(pS.1 hr).elim (λhr=>ownG _ r (pF hr)) (zB V r))|(exact zf λr hr=>(pS.1 hr).elim (λhr=>ownE _ r (pF hr)) (zB V r))|(refine ze ?_ ?_)))) V ?_) (cC);refine zbe ?_;rw[vG (enc:=zt) (λ_=>V),vG (enc:=zy) (λ_=>V),y4 (enc:=zx) (λ_=>V)];rfl
     .simp only[pA (show ¬g0.ends.length<=e by omega)];rw[show(((g0.ends.map zx).set e (fL 17 e0))).take g0.ends.length=((g0.ends.map zx).set e (fL 17 e0)) from sq ah];conv=>whnf
      refine zbB ?_
      refine zbh ?_
      rw[m6];refine zaf ?_;(refine(fE.xE _ _ _ V underlying104 V V aj aj V V).iu (uH ?_))
      (refine(fE.ji _ V _ _ ⟨rfl,rfl,⟨_,rfl,underlying104⟩,rfl,rfl,rfl⟩ (id:=12) (n:=j) V V (.inl V) V lG (λr hr=>ownG 13 r (pF hr)) (.inr ⟨18,_,_,rfl,rfl,.inl V,rfl,rfl⟩) (zB V) (r9 _ _) cR (by show(j+1)*32<=_;omega)).iu (uH ?_))
      refine zap ?_;rw[zk an,y5 hG];refine zl.trans (ja [0,1,2,3,4,5,6,7,8,9,10,11,19,16,17] [1,2,3,4,5,6] V V V (by (repeat' (first|(exact V)|(exact zf λr hr=>ownV _ r (pF hr))|(exact zf λr hr=>ownG _ r (pF hr))|(exact zf λr hr=>ownE _ r (pF hr))|(exact zf (ownV _))|(exact zf (ownG _))|(exact zf (ownE _))|(exact zf λr hr=>(pS.1 hr).elim (λhr=>ownV _ r (pF hr)) (zB V r))|(exact zf λr hr=>(pS.1 hr).elim (λhr=>ownG _ r (pF hr)) (zB V r))|(exact zf λr hr=>(pS.1 hr).elim (λhr=>ownE _ r (pF hr)) (zB V r))|(refine ze ?_ ?_)))) V ?_) (cC);show _::_::_::_::_::_::_::zJ [0,1,2,3,4,5,6,7,8,9,10,11,19,16,17] ⟨1,106,5,List.take k (((w.zd.map zt).set v (fR 8 v0))),0⟩::_::_::_::_::zJ [0,1,2,3,4,5,6,7,8,9,10,11,19,16,17] ⟨1,111,2,List.take j (((v0.zg.map zy).set g (fN 13 g0)))++[_],0⟩::zJ [0,1,2,3,4,5,6,7,8,9,10,11,19,16,17] ⟨1,151,3,((g0.ends.map zx).set e (fL 17 e0)),0⟩::_=_;rw[vG (enc:=zt) (λ_=>V),y4 (enc:=zy) (λ_=>V),zI (enc:=zx) (λ_=>V)];rw[show List.take j ((v0.zg.map zy).set g (List.map (jQ [0,1,2,3,4,5,6,7,8,9,10,11,19,16,17] 9) (fN 13 g0)))=List.take j (((v0.zg.map zy).set g (fN 13 g0))) from El an _ _];rfl
    .simp only[pA (show ¬j<=g by omega),pA (show ¬j+1<=g by omega)];have hG:(((v0.zg.map zy).set g (fN 13 g0)))[j]?=some (zy y):=by rw[rC an];exact hgg
     conv=>whnf
     refine zbB ?_
     rw[m5];refine zaK ?_
     refine zbh ?_
     refine zch ?_
     refine zH.seq y.ends.length (λn=>(.za::.ref 3 [] 8 0 0:: .ref 4 [] 8 0 0:: .ref 5 [] 8 0 0::I k:: .ref 11 [] 5 0 0::I j:: .ref 15 [] 2 0 0::I n:: .za::.za::.za::.za::.za::.za::mL (jp (jp (jp (jp ([]))))))) (λn=>[⟨0,77,33,[],0⟩,⟨0,77,104,[],0⟩,⟨0,77,109,[],0⟩,oW w,⟨1,38,8,[fW],0⟩,⟨1,38,8,[[I w.zr,I w.current,I w.lock,.gl 6 1 (w.pins.map Go.Hy.encI),.sl 7 [] 5 0 k false,lL w.zc,fJ w.counts,lR w.zn]],0⟩,⟨4,3,1,(w.pins.map Go.Hy.encI),0⟩,⟨1,106,5,(((w.zd.map zt).set v (fR 8 v0))).take k,0⟩,⟨0,111,2,[],0⟩,⟨0,151,3,[],0⟩,⟨0,3,1,[],0⟩,⟨1,106,5,[qV v0.snap++[.sl 12 [] 2 0 j false,Bo v0.qH]],0⟩,⟨1,111,2,(((v0.zg.map zy).set g (fN 13 g0))).take j,0⟩,⟨1,151,3,((g0.ends.map zx).set e (fL 14 e0)),0⟩,⟨2,3,1,(e0.next.map Go.Hy.encI),0⟩,⟨1,111,2,[[U y.zC,.gl 16 3 ((y.ends.take n).map zx)]],0⟩,⟨4,151,3,((y.ends.take n).map zx),0⟩]) (λk=>True) ?_ trivial (λn hn _=>?_) (λ_=>?_)
     .refine zl.trans (zl.qN 15 1 151 3 V V (.inl V) V V) ?_;exact cC
     .obtain⟨z,hz⟩:∃z,z=y.ends[n]:=⟨_,rfl⟩;have hge:(y.ends.map zx)[n]?=some (zx z):=by rw[pw,pq hn,hz];rfl
      have se:=sg.2 z mG;have m7:(z.next.map Go.Hy.encI).length=z.next.length:=pz ..;have lE:(((y.ends.take n).map zx)).length=n:=ar
      have eE:((y.ends.take (n+1)).map zx)=((y.ends.take n).map zx)++[zx z]:=cQ
      conv=>whnf
      refine zbB ?_
      refine zbh ?_
      rw[m6];refine zaK ?_
      refine zbh ?_
      (refine te hge ?_)
      refine zbr ?_;exact zl.jd 17 ta V V V (by (repeat' (first|(exact V)|(exact lowA _ (pO V))|(exact lowG _ (pO V))|(exact lowE _ (pO V))|(exact lowW _ (pO V))|(exact lowX _ (pO V))|(refine qc ?_ ?_)))) V
     .conv=>whnf
      refine zbB ?_
      refine zbh ?_
      refine zbO ?_
      refine zap ?_;rw[zk an,y5 hG];refine zl.trans (ja [0,1,2,3,4,5,6,7,8,9,10,11,17,13,14] [1,2,3,4,5,6] V V V (by (repeat' (first|(exact V)|(exact zf λr hr=>ownV _ r (pF hr))|(exact zf λr hr=>ownG _ r (pF hr))|(exact zf λr hr=>ownE _ r (pF hr))|(exact zf (ownV _))|(exact zf (ownG _))|(exact zf (ownE _))|(exact zf λr hr=>(pS.1 hr).elim (λhr=>ownV _ r (pF hr)) (zB V r))|(exact zf λr hr=>(pS.1 hr).elim (λhr=>ownG _ r (pF hr)) (zB V r))|(exact zf λr hr=>(pS.1 hr).elim (λhr=>ownE _ r (pF hr)) (zB V r))|(refine ze ?_ ?_)))) V ?_) (cC);show _::_::_::_::_::_::_::zJ [0,1,2,3,4,5,6,7,8,9,10,11,17,13,14] ⟨1,106,5,List.take k (((w.zd.map zt).set v (fR 8 v0))),0⟩::_::_::_::_::zJ [0,1,2,3,4,5,6,7,8,9,10,11,17,13,14] ⟨1,111,2,List.take j (((v0.zg.map zy).set g (fN 13 g0)))++[_],0⟩::zJ [0,1,2,3,4,5,6,7,8,9,10,11,17,13,14] ⟨1,151,3,((g0.ends.map zx).set e (fL 14 e0)),0⟩::_=_;rw[vG (enc:=zt) (λ_=>V),y4 (enc:=zy) (λ_=>V),zI (enc:=zx) (λ_=>V)];rfl
   .simp only[pA (show ¬v0.zg.length<=g by omega)];rw[show(((v0.zg.map zy).set g (fN 13 g0))).take v0.zg.length=((v0.zg.map zy).set g (fN 13 g0)) from sq ah];conv=>whnf
    refine zbB ?_
    rw[m5];refine zaf ?_;(refine(fE.xE _ _ _ V underlying33 V V aj aj V V).iu (uH ?_))
    (refine(fE.ji _ V _ _ ⟨rfl,rfl,⟨_,rfl,underlying33⟩,rfl,rfl,rfl⟩ (id:=7) (n:=k) V V (.inl V) V lV (λr hr=>ownV 8 r (pF hr)) (.inr ⟨15,_,_,rfl,rfl,.inl V,rfl,rfl⟩) (zB V) (r9 _ _) tL cN).iu (uH ?_))
    refine zap ?_;rw[zk an,y5 hF];refine zl.trans (ja [0,1,2,3,4,5,6,16,12,13,14] [1,2,3,4] V V V (by (repeat' (first|(exact V)|(exact zf λr hr=>ownV _ r (pF hr))|(exact zf λr hr=>ownG _ r (pF hr))|(exact zf λr hr=>ownE _ r (pF hr))|(exact zf (ownV _))|(exact zf (ownG _))|(exact zf (ownE _))|(exact zf λr hr=>(pS.1 hr).elim (λhr=>ownV _ r (pF hr)) (zB V r))|(exact zf λr hr=>(pS.1 hr).elim (λhr=>ownG _ r (pF hr)) (zB V r))|(exact zf λr hr=>(pS.1 hr).elim (λhr=>ownE _ r (pF hr)) (zB V r))|(refine ze ?_ ?_)))) V ?_) (cC);show _::_::_::_::_::_::_::zJ [0,1,2,3,4,5,6,16,12,13,14] ⟨1,106,5,List.take k (((w.zd.map zt).set v (fR 8 v0)))++[_],0⟩::zJ [0,1,2,3,4,5,6,16,12,13,14] ⟨1,111,2,((v0.zg.map zy).set g (fN 13 g0)),0⟩::zJ [0,1,2,3,4,5,6,16,12,13,14] ⟨1,151,3,((g0.ends.map zx).set e (fL 14 e0)),0⟩::_=_;rw[y4 (enc:=zt) (λ_=>V),zI (enc:=zy) (λ_=>V),zI (enc:=zx) (λ_=>V)];rw[show List.take k ((w.zd.map zt).set v (List.map (jQ [0,1,2,3,4,5,6,16,12,13,14] 9) (fR 8 v0)))=List.take k (((w.zd.map zt).set v (fR 8 v0))) from El an _ _];rfl
  .simp only[pA (show ¬k<=v by omega),pA (show ¬k+1<=v by omega)];have hF:(((w.zd.map zt).set v (fR 8 v0)))[k]?=some (zt x):=by rw[rC an];exact hgv
   conv=>whnf
   rw[m2];refine zaK ?_
   (refine(fE.same (qA.buildSlice _ _ _ V (c:=.fq 1 2 []) V)).iu (uH ?_))
   refine zH.seq x.zg.length (λj=>(.za::.ref 3 [] 8 0 0:: .ref 4 [] 8 0 0:: .ref 5 [] 8 0 0::I k:: .ref 11 [] 5 0 0::I j:: mL (jp (jp (jp (jp (mL ([])))))))) (λj=>[⟨0,77,33,[],0⟩,⟨0,77,104,[],0⟩,⟨0,77,109,[],0⟩,oW w,⟨1,38,8,[fW],0⟩,⟨1,38,8,[[I w.zr,I w.current,I w.lock,.gl 6 1 (w.pins.map Go.Hy.encI),.sl 7 [] 5 0 k false,lL w.zc,fJ w.counts,lR w.zn]],0⟩,⟨4,3,1,(w.pins.map Go.Hy.encI),0⟩,⟨1,106,5,(((w.zd.map zt).set v (fR 8 v0))).take k,0⟩,⟨1,111,2,((v0.zg.map zy).set g (fN 9 g0)),0⟩,⟨1,151,3,((g0.ends.map zx).set e (fL 10 e0)),0⟩,⟨2,3,1,(e0.next.map Go.Hy.encI),0⟩,⟨1,106,5,[qV x.snap++[.gl 12 2 ((x.zg.take j).map zy),Bo x.qH]],0⟩,⟨4,111,2,((x.zg.take j).map zy),0⟩]) (λk=>True) ?_ trivial (λj hj _=>?_) (λ_=>?_)
   .refine zl.trans (zl.qN 11 3 111 2 V V (.inl V) V V) ?_;exact cC
   .obtain⟨y,hy⟩:∃y,y=x.zg[j]:=⟨_,rfl⟩;have hgg:(x.zg.map zy)[j]?=some (zy y):=by rw[pw,pq hj,hy];rfl
    have sg:=sv.2 y cP;have m6:(y.ends.map zx).length=y.ends.length:=pz ..;have b6:=sg.1;have lG:(((x.zg.take j).map zy)).length=j:=ar
    have eG:((x.zg.take (j+1)).map zy)=((x.zg.take j).map zy)++[zy y]:=by rw[ru hj,<-hy];simp
    conv=>whnf
    refine zbB ?_
    rw[m5];refine zaK ?_
    refine zbh ?_
    refine zch ?_
    refine zH.seq y.ends.length (λn=>(.za::.ref 3 [] 8 0 0:: .ref 4 [] 8 0 0:: .ref 5 [] 8 0 0::I k:: .ref 11 [] 5 0 0::I j:: .ref 13 [] 2 0 0::I n:: .za::.za::.za::.za::.za::.za::mL (jp (jp (jp (jp ([]))))))) (λn=>[⟨0,77,33,[],0⟩,⟨0,77,104,[],0⟩,⟨0,77,109,[],0⟩,oW w,⟨1,38,8,[fW],0⟩,⟨1,38,8,[[I w.zr,I w.current,I w.lock,.gl 6 1 (w.pins.map Go.Hy.encI),.sl 7 [] 5 0 k false,lL w.zc,fJ w.counts,lR w.zn]],0⟩,⟨4,3,1,(w.pins.map Go.Hy.encI),0⟩,⟨1,106,5,(((w.zd.map zt).set v (fR 8 v0))).take k,0⟩,⟨1,111,2,((v0.zg.map zy).set g (fN 9 g0)),0⟩,⟨1,151,3,((g0.ends.map zx).set e (fL 10 e0)),0⟩,⟨2,3,1,(e0.next.map Go.Hy.encI),0⟩,⟨1,106,5,[qV x.snap++[.gl 12 2 ((x.zg.take j).map zy),Bo x.qH]],0⟩,⟨4,111,2,((x.zg.take j).map zy),0⟩,⟨1,111,2,[[U y.zC,.gl 14 3 ((y.ends.take n).map zx)]],0⟩,⟨4,151,3,((y.ends.take n).map zx),0⟩]) (λk=>True) ?_ trivial (λn hn _=>?_) (λ_=>?_)
    .refine zl.trans (zl.qN 13 1 151 3 V V (.inl V) V V) ?_;exact cC
    .obtain⟨z,hz⟩:∃z,z=y.ends[n]:=⟨_,rfl⟩;have hge:(y.ends.map zx)[n]?=some (zx z):=by rw[pw,pq hn,hz];rfl
     have se:=sg.2 z mG;have m7:(z.next.map Go.Hy.encI).length=z.next.length:=pz ..;have lE:(((y.ends.take n).map zx)).length=n:=ar
     have eE:((y.ends.take (n+1)).map zx)=((y.ends.take n).map zx)++[zx z]:=cQ
     conv=>whnf
     refine zbB ?_
     refine zbh ?_
     rw[m6];refine zaK ?_
     refine zbh ?_
     (refine te hge ?_)
     refine zbr ?_;exact zl.jd 15 ta V V V (by (repeat' (first|(exact V)|(exact lowA _ (pO V))|(exact lowG _ (pO V))|(exact lowE _ (pO V))|(exact lowW _ (pO V))|(exact lowX _ (pO V))|(refine qc ?_ ?_)))) V
    .conv=>whnf
     refine zbB ?_
     refine zbh ?_
     refine zbL ?_;exact zl.jd 13 ta V V V (by (repeat' (first|(exact V)|(exact lowA _ (pO V))|(exact lowG _ (pO V))|(exact lowE _ (pO V))|(exact lowW _ (pO V))|(exact lowX _ (pO V))|(refine qc ?_ ?_)))) V
   .conv=>whnf
    refine zbB ?_
    refine zb5 ?_
    refine zap ?_;rw[zk an,y5 hF];refine zl.trans (ja [0,1,2,3,4,5,6,13,8,9,10] [1,2,3,4] V V V (by (repeat' (first|(exact V)|(exact zf λr hr=>ownV _ r (pF hr))|(exact zf λr hr=>ownG _ r (pF hr))|(exact zf λr hr=>ownE _ r (pF hr))|(exact zf (ownV _))|(exact zf (ownG _))|(exact zf (ownE _))|(exact zf λr hr=>(pS.1 hr).elim (λhr=>ownV _ r (pF hr)) (zB V r))|(exact zf λr hr=>(pS.1 hr).elim (λhr=>ownG _ r (pF hr)) (zB V r))|(exact zf λr hr=>(pS.1 hr).elim (λhr=>ownE _ r (pF hr)) (zB V r))|(refine ze ?_ ?_)))) V ?_) (cC);show _::_::_::_::_::_::_::zJ [0,1,2,3,4,5,6,13,8,9,10] ⟨1,106,5,List.take k (((w.zd.map zt).set v (fR 8 v0)))++[_],0⟩::zJ [0,1,2,3,4,5,6,13,8,9,10] ⟨1,111,2,((v0.zg.map zy).set g (fN 9 g0)),0⟩::zJ [0,1,2,3,4,5,6,13,8,9,10] ⟨1,151,3,((g0.ends.map zx).set e (fL 10 e0)),0⟩::_=_;rw[y4 (enc:=zt) (λ_=>V),zI (enc:=zy) (λ_=>V),zI (enc:=zx) (λ_=>V)];rfl
 .simp only[pA (show ¬w.zd.length<=v by omega)];rw[show(((w.zd.map zt).set v (fR 8 v0))).take w.zd.length=((w.zd.map zt).set v (fR 8 v0)) from sq ah];conv=>whnf
  rw[m2];refine zaf ?_;have m8:(w.counts.map zA).length=w.counts.length:=pz ..;have b8:=h.counts.1;refine zbT ?_;refine zH.seq w.counts.length (λk=>(.za::.ref 3 [] 8 0 0:: .ref 4 [] 8 0 0:: .ref 5 [] 8 0 0:: .za::.za::.za::.za::.za::.za::.za::I k:: .za::.za::.za::mL (jp (jp (jp (jp ([]))))))) (λk=>[⟨0,77,33,[],0⟩,⟨0,77,104,[],0⟩,⟨0,77,109,[],0⟩,oW w,⟨1,38,8,[fW],0⟩,⟨1,38,8,[[I w.zr,I w.current,I w.lock,.gl 6 1 (w.pins.map Go.Hy.encI),.sl 7 [] 5 0 w.zd.length false,.gl 11 4 (w.zc.map zT),.gl 12 1 ((w.counts.take k).map zA),lR w.zn]],0⟩,⟨4,3,1,(w.pins.map Go.Hy.encI),0⟩,⟨1,106,5,((w.zd.map zt).set v (fR 8 v0)),0⟩,⟨1,111,2,((v0.zg.map zy).set g (fN 9 g0)),0⟩,⟨1,151,3,((g0.ends.map zx).set e (fL 10 e0)),0⟩,⟨2,3,1,(e0.next.map Go.Hy.encI),0⟩,⟨4,98,4,w.zc.map zT,0⟩,⟨4,155,1,((w.counts.take k).map zA),0⟩]) (λk=>True) ?_ trivial (λk hk _=>?_) (λ_=>?_)
  .refine zl.trans (zl.qN 5 6 155 1 V V (.inl V) V V) ?_;exact cC
  .obtain⟨r,hr⟩:∃r,r=w.counts[k]:=⟨_,rfl⟩;have hgr:(w.counts.map zA)[k]?=some (zA r):=by rw[pw,pq hk,hr];rfl
   have sr:=h.counts.2 r tK;have lC:(((w.counts.take k).map zA)).length=k:=ar
   have eC:((w.counts.take (k+1)).map zA)=((w.counts.take k).map zA)++[zA r]:=cH
   conv=>whnf
   refine zbk ?_;(refine te hgr ?_)
   refine⟨?_,?_⟩
   .conv=>whnf
    refine zai ?_
    refine zaz ?_;refine zai ?_
    refine za5 ?_
    refine zaM ?_
    refine zap ?_;rw[zk an,eC];exact zl.jd 13 ta V V V (by (repeat' (first|(exact V)|(exact lowA _ (pO V))|(exact lowG _ (pO V))|(exact lowE _ (pO V))|(exact lowW _ (pO V))|(exact lowX _ (pO V))|(refine qc ?_ ?_)))) V
   .refine⟨?_,trivial⟩;conv=>whnf
    refine zaz ?_;refine tc ?_
    refine⟨?_,?_⟩
    .conv=>whnf
     refine zai ?_
     refine za5 ?_
     refine zaM ?_
     refine zap ?_;rw[zk an,eC];exact zl.jd 13 ta V V V (by (repeat' (first|(exact V)|(exact lowA _ (pO V))|(exact lowG _ (pO V))|(exact lowE _ (pO V))|(exact lowW _ (pO V))|(exact lowX _ (pO V))|(refine qc ?_ ?_)))) V
    .trivial
  .conv=>whnf
   refine zbu ?_;refine ja [7,8,9,10] [0] V V V (by (repeat' (first|(exact V)|(exact zf λr hr=>ownV _ r (pF hr))|(exact zf λr hr=>ownG _ r (pF hr))|(exact zf λr hr=>ownE _ r (pF hr))|(exact zf (ownV _))|(exact zf (ownG _))|(exact zf (ownE _))|(exact zf λr hr=>(pS.1 hr).elim (λhr=>ownV _ r (pF hr)) (zB V r))|(exact zf λr hr=>(pS.1 hr).elim (λhr=>ownG _ r (pF hr)) (zB V r))|(exact zf λr hr=>(pS.1 hr).elim (λhr=>ownE _ r (pF hr)) (zB V r))|(refine ze ?_ ?_)))) V ?_;show zJ [7,8,9,10] ⟨1,106,5,((w.zd.map zt).set v (fR 8 v0)),0⟩::zJ [7,8,9,10] ⟨1,111,2,((v0.zg.map zy).set g (fN 9 g0)),0⟩::zJ [7,8,9,10] ⟨1,151,3,((g0.ends.map zx).set e (fL 10 e0)),0⟩::_=_;rw[zI (enc:=zt) (λ_=>V),zI (enc:=zy) (λ_=>V),zI (enc:=zx) (λ_=>V)]
   rfl
def IU(w:Wor)(h:z6 w)(p0:Int)(ps:List Int)(hq:w.pins=p0::ps):th 89 [] [Cw w] (.agg [I w.zr,I w.current,I w.lock,.sl 0 [] 1 0 w.pins.length false,lV w.zd,lL w.zc,fJ w.counts,lR w.zn]) [⟨2,3,1,(w.pins.map Go.Hy.encI),0⟩]:=by
 have hq2:(w.pins.map Go.Hy.encI)=Go.Hy.encI p0::ps.map Go.Hy.encI:=cL
 have hq4:ps.length<1000000000:=by have:=h.pins;rw[hq]at this;exact dL
 have hq3:(ps.map Go.Hy.encI).length+1=w.pins.length:=cM
 have m1:(w.pins.map Go.Hy.encI).length=w.pins.length:=pz ..;have m2:(w.zd.map zt).length=w.zd.length:=pz ..;have m3:(w.zc.map zT).length=w.zc.length:=pz ..;have m4:(w.zn.map qk).length=w.zn.length:=pz ..;have b1:=h.pins;have b2:=h.zd.1;have b3:=h.zc;have b4:=h.zn;refine kR (fn:=f89) func89 V (uH ?_);refine .inr ?_;rw[hq2];refine⟨.inl V,aq,aL,uH ?_⟩;rw[hq3,<-hq2,show([]:List (List C)).length+w.pins.length=w.pins.length from pK _];refine zH.seq w.zd.length (λk=>(.za::.ref 0 [] 8 0 0:: .ref 1 [] 8 0 0:: .ref 2 [] 8 0 0::I k:: .za::.za::mL (jp (jp (jp (jp (mL ([])))))))) (λk=>[oW w,⟨1,38,8,[fW],0⟩,⟨1,38,8,[[I w.zr,I w.current,I w.lock,.sl 3 [] 1 0 w.pins.length false,.gl 4 5 ((w.zd.take k).map zt),lL w.zc,fJ w.counts,lR w.zn]],0⟩,⟨2,3,1,(w.pins.map Go.Hy.encI),0⟩,⟨4,106,5,((w.zd.take k).map zt),0⟩]) (λk=>True) ?_ trivial (λk hk _=>?_) (λ_=>?_)
 .exact dX
 .obtain⟨v,hv⟩:∃v,v=w.zd[k]:=⟨_,rfl⟩;have hgv:(w.zd.map zt)[k]?=some (zt v):=by rw[pw,pq hk,hv];rfl
  have sv:=h.zd.2 v tN;have m5:(v.zg.map zy).length=v.zg.length:=pz ..;have b5:=sv.1;conv=>whnf
  rw[m2];refine zaK ?_
  refine zH.seq v.zg.length (λj=>(.za::.ref 0 [] 8 0 0:: .ref 1 [] 8 0 0:: .ref 2 [] 8 0 0::I k:: .ref 5 [] 5 0 0::I j:: mL (jp (jp (jp (jp (mL ([])))))))) (λj=>[oW w,⟨1,38,8,[fW],0⟩,⟨1,38,8,[[I w.zr,I w.current,I w.lock,.sl 3 [] 1 0 w.pins.length false,.gl 4 5 ((w.zd.take k).map zt),lL w.zc,fJ w.counts,lR w.zn]],0⟩,⟨2,3,1,(w.pins.map Go.Hy.encI),0⟩,⟨4,106,5,((w.zd.take k).map zt),0⟩,⟨1,106,5,[qV v.snap++[.gl 6 2 ((v.zg.take j).map zy),Bo v.qH]],0⟩,⟨4,111,2,((v.zg.take j).map zy),0⟩]) (λk=>True) ?_ trivial (λj hj _=>?_) (λ_=>?_)
  .exact dJ
  .obtain⟨g,hg⟩:∃g,g=v.zg[j]:=⟨_,rfl⟩;have hgg:(v.zg.map zy)[j]?=some (zy g):=by rw[pw,pq hj,hg];rfl
   have sg:=sv.2 g tI;have m6:(g.ends.map zx).length=g.ends.length:=pz ..;have b6:=sg.1;have lG:(((v.zg.take j).map zy)).length=j:=ar
   have eG:((v.zg.take (j+1)).map zy)=((v.zg.take j).map zy)++[zy g]:=ct
   conv=>whnf
   refine zbB ?_
   rw[m5];refine zaK ?_
   refine zbh ?_
   refine zH.seq g.ends.length (λn=>(.za::.ref 0 [] 8 0 0:: .ref 1 [] 8 0 0:: .ref 2 [] 8 0 0::I k:: .ref 5 [] 5 0 0::I j:: .ref 7 [] 2 0 0::I n:: .za::.za::.za::.za::.za::.za::mL (jp (jp (jp (jp ([]))))))) (λn=>[oW w,⟨1,38,8,[fW],0⟩,⟨1,38,8,[[I w.zr,I w.current,I w.lock,.sl 3 [] 1 0 w.pins.length false,.gl 4 5 ((w.zd.take k).map zt),lL w.zc,fJ w.counts,lR w.zn]],0⟩,⟨2,3,1,(w.pins.map Go.Hy.encI),0⟩,⟨4,106,5,((w.zd.take k).map zt),0⟩,⟨1,106,5,[qV v.snap++[.gl 6 2 ((v.zg.take j).map zy),Bo v.qH]],0⟩,⟨4,111,2,((v.zg.take j).map zy),0⟩,⟨1,111,2,[[U g.zC,.gl 8 3 ((g.ends.take n).map zx)]],0⟩,⟨4,151,3,((g.ends.take n).map zx),0⟩]) (λk=>True) ?_ trivial (λn hn _=>?_) (λ_=>?_)
   .exact dI
   .obtain⟨e,he⟩:∃e,e=g.ends[n]:=⟨_,rfl⟩;have hge:(g.ends.map zx)[n]?=some (zx e):=by rw[pw,pq hn,he];rfl
    have se:=sg.2 e tJ;have m7:(e.next.map Go.Hy.encI).length=e.next.length:=pz ..;have lE:(((g.ends.take n).map zx)).length=n:=ar
    have eE:((g.ends.take (n+1)).map zx)=((g.ends.take n).map zx)++[zx e]:=cw
    conv=>whnf
    refine zbB ?_
    refine zbh ?_
    rw[m6];refine zaK ?_
    refine zbh ?_
    (refine te hge ?_)
    exact du
   .conv=>whnf
    refine zbB ?_
    refine zbh ?_
    exact dq
  .have lV:(((w.zd.take k).map zt)).length=k:=by simp;omega
   have eV:((w.zd.take (k+1)).map zt)=((w.zd.take k).map zt)++[zt v]:=cB
   conv=>whnf
   refine zbB ?_
   exact dy
 .conv=>whnf
  rw[m2];refine zaf ?_;rw[pQ];have m8:(w.counts.map zA).length=w.counts.length:=pz ..;have b8:=h.counts.1;refine zbT ?_;refine zH.seq w.counts.length (λk=>(.za::.ref 0 [] 8 0 0:: .ref 1 [] 8 0 0:: .ref 2 [] 8 0 0:: .za::.za::.za::.za::.za::.za::.za::I k:: .za::.za::.za::mL (jp (jp (jp (jp ([]))))))) (λk=>[oW w,⟨1,38,8,[fW],0⟩,⟨1,38,8,[[I w.zr,I w.current,I w.lock,.sl 3 [] 1 0 w.pins.length false,.gl 4 5 (w.zd.map zt),.gl 5 4 (w.zc.map zT),.gl 6 1 ((w.counts.take k).map zA),lR w.zn]],0⟩,⟨2,3,1,(w.pins.map Go.Hy.encI),0⟩,⟨4,106,5,w.zd.map zt,0⟩,⟨4,98,4,w.zc.map zT,0⟩,⟨4,155,1,((w.counts.take k).map zA),0⟩]) (λk=>True) ?_ trivial (λk hk _=>?_) (λ_=>?_)
  .exact dP
  .obtain⟨r,hr⟩:∃r,r=w.counts[k]:=⟨_,rfl⟩;have hgr:(w.counts.map zA)[k]?=some (zA r):=by rw[pw,pq hk,hr];rfl
   have sr:=h.counts.2 r tK;have lC:(((w.counts.take k).map zA)).length=k:=ar
   have eC:((w.counts.take (k+1)).map zA)=((w.counts.take k).map zA)++[zA r]:=cH
   conv=>whnf
   refine za2 ?_
   refine⟨?_,?_⟩
   .conv=>whnf
    refine zai ?_
    refine zaz ?_;refine zai ?_
    refine za5 ?_
    refine zaM ?_
    exact dz
   .refine⟨?_,trivial⟩;conv=>whnf
    refine zaz ?_;refine tc ?_
    refine⟨?_,?_⟩
    .conv=>whnf
     refine zai ?_
     refine za5 ?_
     refine zaM ?_
     exact dz
    .trivial
  .conv=>whnf
   refine zbu ?_;exact ja [3] [0] V V V V V V
def Pn(w:Wor)(h:z6 w){t:Nat}{r0:List Int}(hp:Bz w.counts t r0):th 89 [] [Cw w] (.agg (iO 0 w)) [⟨1,155,1,((w.counts.map zA).set t [C.sl 1 [] 1 0 r0.length false]),0⟩,⟨2,52,1,(r0.map qD),0⟩]:=by
 have ownC:∀r∈((w.counts.map zA).set t [C.sl 10 [] 1 0 r0.length false]),∀c∈r,zF c=true:=zE (enc:=zA) (λ_=>V) V _ _;have tlt:=(px.1 hp.at_).1;have m1:(w.pins.map Go.Hy.encI).length=w.pins.length:=pz ..;have m2:(w.zd.map zt).length=w.zd.length:=pz ..;have m3:(w.zc.map zT).length=w.zc.length:=pz ..;have m4:(w.zn.map qk).length=w.zn.length:=pz ..;have b1:=h.pins;have b2:=h.zd.1;have b3:=h.zc;have b4:=h.zn;refine HC [35,35,35] (fn:=f89) func89 V (uH ?_);refine zaz ?_;refine zH.seq w.zd.length (λk=>(.za::.ref 3 [] 8 0 0:: .ref 4 [] 8 0 0:: .ref 5 [] 8 0 0::I k:: .za::.za::mL (jp (jp (jp (jp (mL ([])))))))) (λk=>[⟨0,77,35,[],0⟩,⟨0,77,35,[],0⟩,⟨0,77,35,[],0⟩,oW w,⟨1,38,8,[fW],0⟩,⟨1,38,8,[[I w.zr,I w.current,I w.lock,.gl 6 1 (w.pins.map Go.Hy.encI),.gl 7 5 ((w.zd.take k).map zt),lL w.zc,fJ w.counts,lR w.zn]],0⟩,⟨4,3,1,(w.pins.map Go.Hy.encI),0⟩,⟨4,106,5,((w.zd.take k).map zt),0⟩]) (λk=>True) ?_ trivial (λk hk _=>?_) (λ_=>?_)
 .refine zl.trans (zl.qN 5 4 106 5 V V (.inl V) V V) ?_;exact cC
 .obtain⟨v,hv⟩:∃v,v=w.zd[k]:=⟨_,rfl⟩;have hgv:(w.zd.map zt)[k]?=some (zt v):=by rw[pw,pq hk,hv];rfl
  have sv:=h.zd.2 v tN;have m5:(v.zg.map zy).length=v.zg.length:=pz ..;have b5:=sv.1;conv=>whnf
  rw[m2];refine zaK ?_
  refine zH.seq v.zg.length (λj=>(.za::.ref 3 [] 8 0 0:: .ref 4 [] 8 0 0:: .ref 5 [] 8 0 0::I k:: .ref 8 [] 5 0 0::I j:: mL (jp (jp (jp (jp (mL ([])))))))) (λj=>[⟨0,77,35,[],0⟩,⟨0,77,35,[],0⟩,⟨0,77,35,[],0⟩,oW w,⟨1,38,8,[fW],0⟩,⟨1,38,8,[[I w.zr,I w.current,I w.lock,.gl 6 1 (w.pins.map Go.Hy.encI),.gl 7 5 ((w.zd.take k).map zt),lL w.zc,fJ w.counts,lR w.zn]],0⟩,⟨4,3,1,(w.pins.map Go.Hy.encI),0⟩,⟨4,106,5,((w.zd.take k).map zt),0⟩,⟨1,106,5,[qV v.snap++[.gl 9 2 ((v.zg.take j).map zy),Bo v.qH]],0⟩,⟨4,111,2,((v.zg.take j).map zy),0⟩]) (λk=>True) ?_ trivial (λj hj _=>?_) (λ_=>?_)
  .refine zl.trans (zl.qN 8 3 111 2 V V (.inl V) V V) ?_;exact cC
  .obtain⟨g,hg⟩:∃g,g=v.zg[j]:=⟨_,rfl⟩;have hgg:(v.zg.map zy)[j]?=some (zy g):=by rw[pw,pq hj,hg];rfl
   have sg:=sv.2 g tI;have m6:(g.ends.map zx).length=g.ends.length:=pz ..;have b6:=sg.1;have lG:(((v.zg.take j).map zy)).length=j:=ar
   have eG:((v.zg.take (j+1)).map zy)=((v.zg.take j).map zy)++[zy g]:=ct
   conv=>whnf
   refine zbB ?_
   rw[m5];refine zaK ?_
   refine zbh ?_
   refine zH.seq g.ends.length (λn=>(.za::.ref 3 [] 8 0 0:: .ref 4 [] 8 0 0:: .ref 5 [] 8 0 0::I k:: .ref 8 [] 5 0 0::I j:: .ref 10 [] 2 0 0::I n:: .za::.za::.za::.za::.za::.za::mL (jp (jp (jp (jp ([]))))))) (λn=>[⟨0,77,35,[],0⟩,⟨0,77,35,[],0⟩,⟨0,77,35,[],0⟩,oW w,⟨1,38,8,[fW],0⟩,⟨1,38,8,[[I w.zr,I w.current,I w.lock,.gl 6 1 (w.pins.map Go.Hy.encI),.gl 7 5 ((w.zd.take k).map zt),lL w.zc,fJ w.counts,lR w.zn]],0⟩,⟨4,3,1,(w.pins.map Go.Hy.encI),0⟩,⟨4,106,5,((w.zd.take k).map zt),0⟩,⟨1,106,5,[qV v.snap++[.gl 9 2 ((v.zg.take j).map zy),Bo v.qH]],0⟩,⟨4,111,2,((v.zg.take j).map zy),0⟩,⟨1,111,2,[[U g.zC,.gl 11 3 ((g.ends.take n).map zx)]],0⟩,⟨4,151,3,((g.ends.take n).map zx),0⟩]) (λk=>True) ?_ trivial (λn hn _=>?_) (λ_=>?_)
   .refine zl.trans (zl.qN 10 1 151 3 V V (.inl V) V V) ?_;exact cC
   .obtain⟨e,he⟩:∃e,e=g.ends[n]:=⟨_,rfl⟩;have hge:(g.ends.map zx)[n]?=some (zx e):=by rw[pw,pq hn,he];rfl
    have se:=sg.2 e tJ;have m7:(e.next.map Go.Hy.encI).length=e.next.length:=pz ..;have lE:(((g.ends.take n).map zx)).length=n:=ar
    have eE:((g.ends.take (n+1)).map zx)=((g.ends.take n).map zx)++[zx e]:=cw
    conv=>whnf
    refine zbB ?_
    refine zbh ?_
    rw[m6];refine zaK ?_
    refine zbh ?_
    (refine te hge ?_)
    refine zbr ?_;exact cE 12
   .conv=>whnf
    refine zbB ?_
    refine zbh ?_
    refine zbL ?_;exact cE 10
  .have lV:(((w.zd.take k).map zt)).length=k:=by simp;omega
   have eV:((w.zd.take (k+1)).map zt)=((w.zd.take k).map zt)++[zt v]:=cB
   conv=>whnf
   refine zbB ?_
   rw[m5];refine zaf ?_;rw[pQ];refine⟨rfl,.inr V,cD,cF,dd ?_⟩;refine zap ?_;rw[zk an,eV];exact cE 8
 .conv=>whnf
  rw[m2];refine zaf ?_;rw[pQ];have m8:(w.counts.map zA).length=w.counts.length:=pz ..;have b8:=h.counts.1;refine zbT ?_;(refine(fE.xE _ _ _ V underlying35 V V aj aj V V).iu (uH ?_))
  refine zH.seq w.counts.length (λk=>(.za::.ref 3 [] 8 0 0:: .ref 4 [] 8 0 0:: .ref 5 [] 8 0 0:: .za::.za::.za::.za::.za::.za::.za::I k:: .za::.za::.za::mL (jp (jp (jp (jp ([]))))))) (λk=>[⟨0,77,35,[],0⟩,⟨0,77,35,[],0⟩,⟨0,77,35,[],0⟩,oW w,⟨1,38,8,[fW],0⟩,⟨1,38,8,[[I w.zr,I w.current,I w.lock,.gl 6 1 (w.pins.map Go.Hy.encI),.gl 7 5 (w.zd.map zt),.gl 8 4 (w.zc.map zT),.sl 9 [] 1 0 k false,lR w.zn]],0⟩,⟨4,3,1,(w.pins.map Go.Hy.encI),0⟩,⟨4,106,5,w.zd.map zt,0⟩,⟨4,98,4,w.zc.map zT,0⟩,⟨1,155,1,(((w.counts.map zA).set t [C.sl 10 [] 1 0 r0.length false])).take k,0⟩,⟨if k<=t then 0 else 2,52,1,if k<=t then [] else (r0.map qD),0⟩]) (λk=>True) ?_ trivial (λk hk _=>?_) (λ_=>?_)
  .simp only[pD (pW t)];refine zl.trans (zl.dead 52 1) ?_;exact cC
  .obtain⟨r,hr⟩:∃r,r=w.counts[k]:=⟨_,rfl⟩;have hr2:w.counts[k]?=some r:=by rw[hr];exact pq hk
   have hgr:(w.counts.map zA)[k]?=some (zA r):=by rw[pw,hr2];rfl
   have sr:=h.counts.2 r tK;have lC:((((w.counts.map zA).set t [C.sl 10 [] 1 0 r0.length false])).take k).length=k:=ar
   rcases sC k t with hkt|hkt|hkt
   .simp only[pD (show k<=t by omega),pD (show k+1<=t by omega)];have hF:(((w.counts.map zA).set t [C.sl 10 [] 1 0 r0.length false]))[k]?=some (zA r):=by rw[rC an];exact hgr
    conv=>whnf
    refine zbk ?_;((refine te hgr ?_));(conv=>whnf);(repeat' (first|(refine And.intro V (uH ?_))|(refine And.intro (uH ?_) trivial)|(refine And.intro ?_ ?_ <;> (conv=>whnf))))
    all_goals (refine .inl ⟨.inl V,.inr V,aq,aL,uH ?_⟩);(repeat' (first|(refine And.intro V (uH ?_))|(refine And.intro (uH ?_) trivial)|(refine And.intro ?_ ?_ <;> (conv=>whnf))))
    all_goals ((refine(fE.ji _ V _ _ ⟨rfl,rfl,⟨_,rfl,underlying35⟩,rfl,rfl,rfl⟩ (id:=9) (n:=k) V V (.inl V) V lC (λr hr=>ownC r (pF hr)) (.inl V) (zB V) (r9 _ _) tL (by show(k+1)*24<=_;omega)).iu (uH ?_)));(repeat' (first|(refine And.intro V (uH ?_))|(refine And.intro (uH ?_) trivial)|(refine And.intro ?_ ?_ <;> (conv=>whnf))))
    all_goals ((refine⟨_,_,.refl _,uH ?_⟩));(refine .inl ⟨rfl,?_,trivial⟩);(rw[zk an,y5 hF]);(refine zl.trans (ja [0,1,2,3,4,5,6,7,8,12,10] [1,2,3,11] V V V (by (repeat' (first|(exact V)|(exact zf ownC)|(exact zf λr hr=>ownC r (pF hr))|(exact zf λr hr=>(pS.1 hr).elim (λhr=>ownC r (pF hr)) (zB V r))|(refine ze ?_ ?_)))) V ?_) (cC));(show _::_::_::_::_::_::_::_::_::zJ [0,1,2,3,4,5,6,7,8,12,10] ⟨1,155,1,List.take k (((w.counts.map zA).set t [C.sl 10 [] 1 0 r0.length false]))++[_],0⟩::_=_;rw[y4 (enc:=zA) (λ_=>V)];rfl)
   .simp only[pD (show k<=t by omega),pA (show ¬k+1<=t by omega)];obtain rfl:r0=r:=by rw[hkt,hp.at_]at hr2;exact rV hr2
    have hF:(((w.counts.map zA).set t [C.sl 10 [] 1 0 r0.length false]))[k]?=some [C.sl 10 [] 1 0 r0.length false]:=by rw[hkt];exact pH (ai tlt)
    obtain⟨q0,qs,hq⟩:∃q0 qs,r0=q0::qs:=by cases hh:r0 with|nil=>exact absurd hh hp.ne|cons a l=>exact⟨a,l,rfl⟩
    have hq2:(r0.map qD)=qD q0::qs.map qD:=cL
    have hq4:qs.length<1000000000:=by rw[hq]at sr;simp at sr;omega
    have hq3:(qs.map qD).length+1=r0.length:=cM
    conv=>whnf
    refine zbk ?_;((refine te hgr ?_));(conv=>whnf);(repeat' (first|(refine And.intro V (uH ?_))|(refine And.intro (uH ?_) trivial)|(refine And.intro ?_ ?_ <;> (conv=>whnf))))
    all_goals
     refine .inr ?_;rw[hq2];refine⟨.inl V,aq,aL,uH ?_⟩;rw[hq3,<-hq2,show([]:List (List C)).length+r0.length=r0.length from pK _];(repeat' (first|(refine And.intro V (uH ?_))|(refine And.intro (uH ?_) trivial)|(refine And.intro ?_ ?_ <;> (conv=>whnf))))
    all_goals (((refine(fE.xE _ _ _ V underlying35 V V aj aj V V).iu (uH ?_)));(repeat' (first|(refine And.intro V (uH ?_))|(refine And.intro (uH ?_) trivial)|(refine And.intro ?_ ?_ <;> (conv=>whnf)))))
    all_goals ((refine(fE.ji _ V _ _ ⟨rfl,rfl,⟨_,rfl,underlying35⟩,rfl,rfl,rfl⟩ (id:=9) (n:=k) V V (.inl V) V lC (λr hr=>ownC r (pF hr)) (.inr ⟨12,_,_,rfl,rfl,.inl V,rfl,rfl⟩) (zB V) (r9 _ _) tL (by show(k+1)*24<=_;omega)).iu (uH ?_)));(repeat' (first|(refine And.intro V (uH ?_))|(refine And.intro (uH ?_) trivial)|(refine And.intro ?_ ?_ <;> (conv=>whnf))))
    all_goals
     refine zaM ?_
     refine zap ?_;rw[zk an,y5 hF];refine zl.trans (ja [0,1,2,3,4,5,6,7,8,13,11] [1,2,3,11] V V V (by (repeat' (first|(exact V)|(exact zf ownC)|(exact zf λr hr=>ownC r (pF hr))|(exact zf λr hr=>(pS.1 hr).elim (λhr=>ownC r (pF hr)) (zB V r))|(refine ze ?_ ?_)))) V ?_) (cC);show _::_::_::_::_::_::_::_::_::zJ [0,1,2,3,4,5,6,7,8,13,11] ⟨1,155,1,List.take k (((w.counts.map zA).set t [C.sl 10 [] 1 0 r0.length false]))++[_],0⟩::_=_;rw[y4 (enc:=zA) (λ_=>V),show List.take k ((w.counts.map zA).set t (List.map (jQ [0,1,2,3,4,5,6,7,8,13,11] 9) [C.sl 10 [] 1 0 r0.length false]))=List.take k (((w.counts.map zA).set t [C.sl 10 [] 1 0 r0.length false])) from El an _ _]
     rfl
   .simp only[pA (show ¬k<=t by omega),pA (show ¬k+1<=t by omega)];have hF:(((w.counts.map zA).set t [C.sl 10 [] 1 0 r0.length false]))[k]?=some (zA r):=by rw[rC an];exact hgr
    conv=>whnf
    refine zbk ?_;((refine te hgr ?_));(conv=>whnf);(repeat' (first|(refine And.intro V (uH ?_))|(refine And.intro (uH ?_) trivial)|(refine And.intro ?_ ?_ <;> (conv=>whnf))))
    all_goals (refine .inl ⟨.inl V,.inr V,aq,aL,uH ?_⟩);(repeat' (first|(refine And.intro V (uH ?_))|(refine And.intro (uH ?_) trivial)|(refine And.intro ?_ ?_ <;> (conv=>whnf))))
    all_goals ((refine(fE.ji _ V _ _ ⟨rfl,rfl,⟨_,rfl,underlying35⟩,rfl,rfl,rfl⟩ (id:=9) (n:=k) V V (.inl V) V lC (λr hr=>ownC r (pF hr)) (.inl V) (zB V) (r9 _ _) tL (by show(k+1)*24<=_;omega)).iu (uH ?_)));(repeat' (first|(refine And.intro V (uH ?_))|(refine And.intro (uH ?_) trivial)|(refine And.intro ?_ ?_ <;> (conv=>whnf))))
    all_goals ((refine⟨_,_,.refl _,uH ?_⟩));(refine .inl ⟨rfl,?_,trivial⟩);(rw[zk an,y5 hF]);(refine zl.trans (ja [0,1,2,3,4,5,6,7,8,12,10] [1,2,3,11] V V V (by (repeat' (first|(exact V)|(exact zf ownC)|(exact zf λr hr=>ownC r (pF hr))|(exact zf λr hr=>(pS.1 hr).elim (λhr=>ownC r (pF hr)) (zB V r))|(refine ze ?_ ?_)))) V ?_) (cC));(show _::_::_::_::_::_::_::_::_::zJ [0,1,2,3,4,5,6,7,8,12,10] ⟨1,155,1,List.take k (((w.counts.map zA).set t [C.sl 10 [] 1 0 r0.length false]))++[_],0⟩::_=_;rw[y4 (enc:=zA) (λ_=>V)];rfl)
  .simp only[pA (show ¬w.counts.length<=t by omega)];rw[show(((w.counts.map zA).set t [C.sl 10 [] 1 0 r0.length false])).take w.counts.length=((w.counts.map zA).set t [C.sl 10 [] 1 0 r0.length false]) from sq ah];conv=>whnf
   rw[m8];refine zaf ?_;refine .inl ⟨.inl V,.inr V,aq,bQ,uH ?_⟩;refine⟨.inl V,_,_,.refl _,rfl,?_⟩;refine ja [9,10] [0] V V V (by (repeat' (first|(exact V)|(exact zf ownC)|(exact zf λr hr=>ownC r (pF hr))|(exact zf λr hr=>(pS.1 hr).elim (λhr=>ownC r (pF hr)) (zB V r))|(refine ze ?_ ?_)))) V ?_;show zJ [9,10] ⟨1,155,1,((w.counts.map zA).set t [C.sl 10 [] 1 0 r0.length false]),0⟩::_=_;rw[zI (enc:=zA) (λ_=>V)]
   rfl
end Go.Wor
namespace Go.Ab
def zl.E6{B:Nat}{s:S}(id:Nat){ty sz:Nat}{rows:List (List C)}(hob:s.H[id]?=some ⟨1,ty,sz,rows,0⟩)(hno:∀r∈rows,∀c∈r,zF c=true):zl B s ⟨s.tmps,s.H.set id ⟨1,0,sz,rows,0⟩⟩:=λm w E a hs=>by
 have hrow:=hs.heap.rowsOf hob (.inl V)
 obtain⟨hR,g⟩:=hs.heap.o3 hob (.inl V) (ob':=⟨1,0,sz,rows,0⟩) (.inl V) (λh=>by cases h) rfl rfl rfl hrow hno hno λi k c c' u e1 e2 hl _=>by
  rw[e1]at e2;cases e2
  exact hl
 exact gT
end Go.Ab
namespace Go.Wor
open Go.Ab Go.Proofs Tryz Go.Gat Go.Nam Go.Hos Go.Con Go.Sna
open Go.Hy hiding encI
variable{α:Type}{enc:α->List C}{sel:List Nat}
def yG(w:Wor)(h:z6 w){v:Nat}{v0:fC}{g:Nat}{g0:Gr}{e:Nat}{e0:En}(hp:DA w.zd v v0 g g0 e e0):th 89 [] [Cw w] (.agg (ir w 0))
  [⟨1,0,5,((w.zd.map zt).set v (fR 1 v0)),0⟩,⟨1,0,2,((v0.zg.map zy).set g (fN 2 g0)),0⟩,⟨1,0,3,((g0.ends.map zx).set e (fL 3 e0)),0⟩,⟨2,3,1,e0.next.map Go.Hy.encI,0⟩]:=
 (Po w h hp).ng (λB _ _=>((zl.E6 0 V (zE (enc:=zt) (λ_=>V) V _ _)).trans (zl.E6 1 V (zE (enc:=zy) (λ_=>V) V _ _))).trans (zl.E6 2 V (zE (enc:=zx) (λ_=>V) V _ _))) (pW _)
def OR(w:Wor)(h:z6 w){t:Nat}{r0:List Int}(hp:Bz w.counts t r0):th 89 [] [Cw w] (.agg (iO 0 w)) [⟨1,0,1,(w.counts.map zA).set t [C.sl 1 [] 1 0 r0.length false],0⟩,⟨2,52,1,r0.map qD,0⟩]:=
 (Pn w h hp).ng (λB _ _=>zl.E6 0 V (zE (enc:=zA) (λ_=>V) V _ _)) (pW _)
def Mn(hf:∀x,(enc x).map (jQ sel 9)=enc x)(l:List α)(ty sz fz:Nat):zJ sel ⟨1,ty,sz,l.map enc,fz⟩=⟨1,ty,sz,l.map enc,fz⟩:=by
 show(⟨1,ty,sz,(l.map enc).map (λr=>r.map (jQ sel 9)),fz⟩:Ob)=_;rw[sJ]
 congr 1
 exact sQ λx _=>hf x
def Wm(hf:∀x,(enc x).map (jQ sel 9)=enc x)(l:List α)(r:List C)(ty sz fz:Nat):zJ sel ⟨1,ty,sz,l.map enc++[r],fz⟩=⟨1,ty,sz,l.map enc++[r.map (jQ sel 9)],fz⟩:=by
 show(⟨1,ty,sz,(l.map enc++[r]).map (λr=>r.map (jQ sel 9)),fz⟩:Ob)=_;rw[ry,sJ]
 congr 2
 exact sQ λx _=>hf x
def Pm(w:Wor)(h:z6 w):th 89 [] [Cw w] (.agg (ir w 0)) [⟨1,106,5,w.zd.map zt,0⟩]:=by
 have m1:(w.pins.map Go.Hy.encI).length=w.pins.length:=pz ..;have m2:(w.zd.map zt).length=w.zd.length:=pz ..;have m3:(w.zc.map zT).length=w.zc.length:=pz ..;have m4:(w.zn.map qk).length=w.zn.length:=pz ..;have b1:=h.pins;have b2:=h.zd.1;have b3:=h.zc;have b4:=h.zn;refine HC [33,33,33] (fn:=f89) func89 V (uH ?_);refine zaz ?_;(refine(fE.xE _ _ _ V underlying33 V V aj aj V V).iu (uH ?_))
 refine zH.seq w.zd.length (λk=>(.za::.ref 3 [] 8 0 0:: .ref 4 [] 8 0 0:: .ref 5 [] 8 0 0::I k:: .za::.za::mL (jp (jp (jp (jp (mL ([])))))))) (λk=>[⟨0,77,33,[],0⟩,⟨0,77,33,[],0⟩,⟨0,77,33,[],0⟩,oW w,⟨1,38,8,[fW],0⟩,⟨1,38,8,[[I w.zr,I w.current,I w.lock,.gl 6 1 (w.pins.map Go.Hy.encI),.sl 7 [] 5 0 k false,lL w.zc,fJ w.counts,lR w.zn]],0⟩,⟨4,3,1,(w.pins.map Go.Hy.encI),0⟩,⟨1,106,5,((w.zd.take k).map zt),0⟩]) (λk=>True) ?_ trivial (λk hk _=>?_) (λ_=>?_)
 .exact cC
 .obtain⟨v,hv⟩:∃v,v=w.zd[k]:=⟨_,rfl⟩;have hgv:(w.zd.map zt)[k]?=some (zt v):=by rw[pw,pq hk,hv];rfl
  have ownA:∀r∈((w.zd.take k).map zt),∀c∈r,zF c=true:=λr hr c hc=>(shut_map (enc:=zt) (λ_=>V) _ r hr c hc).2
  have lowA:∀n,0<=n->qj n [⟨1,106,5,((w.zd.take k).map zt),0⟩]=true:=λn _=>qi λr hr c hc=>by obtain⟨x,_,rfl⟩:=rp.1 hr;exact pG.1 (show(zt x).all (qE n 9)=true from V) c hc
  have lowX:=lowA;have sv:=h.zd.2 v tN;have m5:(v.zg.map zy).length=v.zg.length:=pz ..;have b5:=sv.1;conv=>whnf
  rw[m2];refine zaK ?_
  refine zH.seq v.zg.length (λj=>(.za::.ref 3 [] 8 0 0:: .ref 4 [] 8 0 0:: .ref 5 [] 8 0 0::I k:: .ref 8 [] 5 0 0::I j:: mL (jp (jp (jp (jp (mL ([])))))))) (λj=>[⟨0,77,33,[],0⟩,⟨0,77,33,[],0⟩,⟨0,77,33,[],0⟩,oW w,⟨1,38,8,[fW],0⟩,⟨1,38,8,[[I w.zr,I w.current,I w.lock,.gl 6 1 (w.pins.map Go.Hy.encI),.sl 7 [] 5 0 k false,lL w.zc,fJ w.counts,lR w.zn]],0⟩,⟨4,3,1,(w.pins.map Go.Hy.encI),0⟩,⟨1,106,5,((w.zd.take k).map zt),0⟩,⟨1,106,5,[qV v.snap++[.gl 9 2 ((v.zg.take j).map zy),Bo v.qH]],0⟩,⟨4,111,2,((v.zg.take j).map zy),0⟩]) (λk=>True) ?_ trivial (λj hj _=>?_) (λ_=>?_)
  .refine zl.trans (zl.qN 8 3 111 2 V V (.inl V) V V) ?_;exact cC
  .obtain⟨g,hg⟩:∃g,g=v.zg[j]:=⟨_,rfl⟩;have hgg:(v.zg.map zy)[j]?=some (zy g):=by rw[pw,pq hj,hg];rfl
   have sg:=sv.2 g tI;have m6:(g.ends.map zx).length=g.ends.length:=pz ..;have b6:=sg.1;have lG:(((v.zg.take j).map zy)).length=j:=ar
   have eG:((v.zg.take (j+1)).map zy)=((v.zg.take j).map zy)++[zy g]:=ct
   conv=>whnf
   refine zbB ?_
   rw[m5];refine zaK ?_
   refine zbh ?_
   refine zH.seq g.ends.length (λn=>(.za::.ref 3 [] 8 0 0:: .ref 4 [] 8 0 0:: .ref 5 [] 8 0 0::I k:: .ref 8 [] 5 0 0::I j:: .ref 10 [] 2 0 0::I n:: .za::.za::.za::.za::.za::.za::mL (jp (jp (jp (jp ([]))))))) (λn=>[⟨0,77,33,[],0⟩,⟨0,77,33,[],0⟩,⟨0,77,33,[],0⟩,oW w,⟨1,38,8,[fW],0⟩,⟨1,38,8,[[I w.zr,I w.current,I w.lock,.gl 6 1 (w.pins.map Go.Hy.encI),.sl 7 [] 5 0 k false,lL w.zc,fJ w.counts,lR w.zn]],0⟩,⟨4,3,1,(w.pins.map Go.Hy.encI),0⟩,⟨1,106,5,((w.zd.take k).map zt),0⟩,⟨1,106,5,[qV v.snap++[.gl 9 2 ((v.zg.take j).map zy),Bo v.qH]],0⟩,⟨4,111,2,((v.zg.take j).map zy),0⟩,⟨1,111,2,[[U g.zC,.gl 11 3 ((g.ends.take n).map zx)]],0⟩,⟨4,151,3,((g.ends.take n).map zx),0⟩]) (λk=>True) ?_ trivial (λn hn _=>?_) (λ_=>?_)
   .refine zl.trans (zl.qN 10 1 151 3 V V (.inl V) V V) ?_;exact cC
   .obtain⟨e,he⟩:∃e,e=g.ends[n]:=⟨_,rfl⟩;have hge:(g.ends.map zx)[n]?=some (zx e):=by rw[pw,pq hn,he];rfl
    have se:=sg.2 e tJ;have m7:(e.next.map Go.Hy.encI).length=e.next.length:=pz ..;have lE:(((g.ends.take n).map zx)).length=n:=ar
    have eE:((g.ends.take (n+1)).map zx)=((g.ends.take n).map zx)++[zx e]:=cw
    conv=>whnf
    refine zbB ?_
    refine zbh ?_
    rw[m6];refine zaK ?_
    refine zbh ?_
    (refine te hge ?_)
    refine zbr ?_;exact zl.jd 12 ta V V V (by (repeat' (first|(exact V)|(exact lowX _ (pW _))|(refine qc ?_ ?_)))) V
   .conv=>whnf
    refine zbB ?_
    refine zbh ?_
    refine zbL ?_;exact zl.jd 10 ta V V V (by (repeat' (first|(exact V)|(exact lowX _ (pW _))|(refine qc ?_ ?_)))) V
  .have lV:(((w.zd.take k).map zt)).length=k:=by simp;omega
   have eV:((w.zd.take (k+1)).map zt)=((w.zd.take k).map zt)++[zt v]:=cB
   conv=>whnf
   refine zbB ?_
   rw[m5];refine zaf ?_;rw[pQ];(refine(fE.ji _ V _ _ ⟨rfl,rfl,⟨_,rfl,underlying33⟩,rfl,rfl,rfl⟩ (id:=7) (n:=k) V V (.inl V) V lV ownA (.inl V) (zB V) (r9 _ _) tL cN).iu (uH ?_))
   refine zap ?_;rw[zk an,eV];refine zl.trans (ja [0,1,2,3,4,5,6,10] [1,2,3,4] V V V (by (repeat' (first|(exact V)|(exact zf ownA)|(exact zf λr hr=>(pS.1 hr).elim (ownA r) (zB V r))|(refine ze ?_ ?_)))) V ?_) (cC);show _::_::_::_::_::_::_::zJ [0,1,2,3,4,5,6,10] ⟨1,106,5,((w.zd.take k).map zt)++[_],0⟩::_=_;rw[Wm (enc:=zt) (λ_=>V)]
   rfl
 .conv=>whnf
  rw[m2];refine zaf ?_;rw[pQ];have ownA:∀r∈w.zd.map zt,∀c∈r,zF c=true:=λr hr c hc=>(shut_map (enc:=zt) (λ_=>V) _ r hr c hc).2
  have lowX:∀n,0<=n->qj n [⟨1,106,5,w.zd.map zt,0⟩]=true:=λn _=>qi λr hr c hc=>by obtain⟨x,_,rfl⟩:=rp.1 hr;exact pG.1 (show(zt x).all (qE n 9)=true from V) c hc
  have m8:(w.counts.map zA).length=w.counts.length:=pz ..;have b8:=h.counts.1;refine zbT ?_;refine zH.seq w.counts.length (λk=>(.za::.ref 3 [] 8 0 0:: .ref 4 [] 8 0 0:: .ref 5 [] 8 0 0:: .za::.za::.za::.za::.za::.za::.za::I k:: .za::.za::.za::mL (jp (jp (jp (jp ([]))))))) (λk=>[⟨0,77,33,[],0⟩,⟨0,77,33,[],0⟩,⟨0,77,33,[],0⟩,oW w,⟨1,38,8,[fW],0⟩,⟨1,38,8,[[I w.zr,I w.current,I w.lock,.gl 6 1 (w.pins.map Go.Hy.encI),.sl 7 [] 5 0 w.zd.length false,.gl 8 4 (w.zc.map zT),.gl 9 1 ((w.counts.take k).map zA),lR w.zn]],0⟩,⟨4,3,1,(w.pins.map Go.Hy.encI),0⟩,⟨1,106,5,w.zd.map zt,0⟩,⟨4,98,4,w.zc.map zT,0⟩,⟨4,155,1,((w.counts.take k).map zA),0⟩]) (λk=>True) ?_ trivial (λk hk _=>?_) (λ_=>?_)
  .refine zl.trans (zl.qN 5 6 155 1 V V (.inl V) V V) ?_;exact cC
  .obtain⟨r,hr⟩:∃r,r=w.counts[k]:=⟨_,rfl⟩;have hgr:(w.counts.map zA)[k]?=some (zA r):=by rw[pw,pq hk,hr];rfl
   have sr:=h.counts.2 r tK;have lC:(((w.counts.take k).map zA)).length=k:=ar
   have eC:((w.counts.take (k+1)).map zA)=((w.counts.take k).map zA)++[zA r]:=cH
   conv=>whnf
   refine zbk ?_;(refine te hgr ?_)
   refine⟨?_,?_⟩
   .conv=>whnf
    refine zai ?_
    refine zaz ?_;refine zai ?_
    refine za5 ?_
    refine zaM ?_
    refine zap ?_;rw[zk an,eC];exact zl.jd 10 ta V V V (by (repeat' (first|(exact V)|(exact lowX _ (pW _))|(refine qc ?_ ?_)))) V
   .refine⟨?_,trivial⟩;conv=>whnf
    refine zaz ?_;refine tc ?_
    refine⟨?_,?_⟩
    .conv=>whnf
     refine zai ?_
     refine za5 ?_
     refine zaM ?_
     refine zap ?_;rw[zk an,eC];exact zl.jd 10 ta V V V (by (repeat' (first|(exact V)|(exact lowX _ (pW _))|(refine qc ?_ ?_)))) V
    .trivial
  .conv=>whnf
   refine zbu ?_;refine ja [7] [0] V V V (by (repeat' (first|(exact V)|(exact zf ownA)|(exact zf λr hr=>(pS.1 hr).elim (ownA r) (zB V r))|(refine ze ?_ ?_)))) V ?_;show zJ [7] ⟨1,106,5,w.zd.map zt,0⟩::_=_;rw[Mn (enc:=zt) (λ_=>V)]
   rfl
def Pp(w:Wor)(h:z6 w)(r0:fK)(rs:List fK)(hq:w.zn=r0::rs):th 89 [] [Cw w] (.agg [I w.zr,I w.current,I w.lock,lI w.pins,lV w.zd,lL w.zc,fJ w.counts,.sl 0 [] 3 0 w.zn.length false]) [⟨2,157,3,w.zn.map qk,0⟩]:=by
 have hq2:w.zn.map qk=qk r0::rs.map qk:=cL
 have hq4:rs.length<1000000000:=by have:=h.zn;rw[hq]at this;exact dL
 have hq3:(rs.map qk).length+1=w.zn.length:=cM
 have m1:(w.pins.map Go.Hy.encI).length=w.pins.length:=pz ..;have m2:(w.zd.map zt).length=w.zd.length:=pz ..;have m3:(w.zc.map zT).length=w.zc.length:=pz ..;have m4:(w.zn.map qk).length=w.zn.length:=pz ..;have b1:=h.pins;have b2:=h.zd.1;have b3:=h.zc;have b4:=h.zn;refine kR (fn:=f89) func89 V (uH ?_);refine zaz ?_;refine zH.seq w.zd.length (λk=>(.za::.ref 0 [] 8 0 0:: .ref 1 [] 8 0 0:: .ref 2 [] 8 0 0::I k:: .za::.za::mL (jp (jp (jp (jp (mL ([])))))))) (λk=>[oW w,⟨1,38,8,[fW],0⟩,⟨1,38,8,[[I w.zr,I w.current,I w.lock,.gl 3 1 (w.pins.map Go.Hy.encI),.gl 4 5 ((w.zd.take k).map zt),lL w.zc,fJ w.counts,lR w.zn]],0⟩,⟨4,3,1,(w.pins.map Go.Hy.encI),0⟩,⟨4,106,5,((w.zd.take k).map zt),0⟩]) (λk=>True) ?_ trivial (λk hk _=>?_) (λ_=>?_)
 .exact dX
 .obtain⟨v,hv⟩:∃v,v=w.zd[k]:=⟨_,rfl⟩;have hgv:(w.zd.map zt)[k]?=some (zt v):=by rw[pw,pq hk,hv];rfl
  have sv:=h.zd.2 v tN;have m5:(v.zg.map zy).length=v.zg.length:=pz ..;have b5:=sv.1;conv=>whnf
  rw[m2];refine zaK ?_
  refine zH.seq v.zg.length (λj=>(.za::.ref 0 [] 8 0 0:: .ref 1 [] 8 0 0:: .ref 2 [] 8 0 0::I k:: .ref 5 [] 5 0 0::I j:: mL (jp (jp (jp (jp (mL ([])))))))) (λj=>[oW w,⟨1,38,8,[fW],0⟩,⟨1,38,8,[[I w.zr,I w.current,I w.lock,.gl 3 1 (w.pins.map Go.Hy.encI),.gl 4 5 ((w.zd.take k).map zt),lL w.zc,fJ w.counts,lR w.zn]],0⟩,⟨4,3,1,(w.pins.map Go.Hy.encI),0⟩,⟨4,106,5,((w.zd.take k).map zt),0⟩,⟨1,106,5,[qV v.snap++[.gl 6 2 ((v.zg.take j).map zy),Bo v.qH]],0⟩,⟨4,111,2,((v.zg.take j).map zy),0⟩]) (λk=>True) ?_ trivial (λj hj _=>?_) (λ_=>?_)
  .exact dJ
  .obtain⟨g,hg⟩:∃g,g=v.zg[j]:=⟨_,rfl⟩;have hgg:(v.zg.map zy)[j]?=some (zy g):=by rw[pw,pq hj,hg];rfl
   have sg:=sv.2 g tI;have m6:(g.ends.map zx).length=g.ends.length:=pz ..;have b6:=sg.1;have lG:(((v.zg.take j).map zy)).length=j:=ar
   have eG:((v.zg.take (j+1)).map zy)=((v.zg.take j).map zy)++[zy g]:=ct
   conv=>whnf
   refine zbB ?_
   rw[m5];refine zaK ?_
   refine zbh ?_
   refine zH.seq g.ends.length (λn=>(.za::.ref 0 [] 8 0 0:: .ref 1 [] 8 0 0:: .ref 2 [] 8 0 0::I k:: .ref 5 [] 5 0 0::I j:: .ref 7 [] 2 0 0::I n:: .za::.za::.za::.za::.za::.za::mL (jp (jp (jp (jp ([]))))))) (λn=>[oW w,⟨1,38,8,[fW],0⟩,⟨1,38,8,[[I w.zr,I w.current,I w.lock,.gl 3 1 (w.pins.map Go.Hy.encI),.gl 4 5 ((w.zd.take k).map zt),lL w.zc,fJ w.counts,lR w.zn]],0⟩,⟨4,3,1,(w.pins.map Go.Hy.encI),0⟩,⟨4,106,5,((w.zd.take k).map zt),0⟩,⟨1,106,5,[qV v.snap++[.gl 6 2 ((v.zg.take j).map zy),Bo v.qH]],0⟩,⟨4,111,2,((v.zg.take j).map zy),0⟩,⟨1,111,2,[[U g.zC,.gl 8 3 ((g.ends.take n).map zx)]],0⟩,⟨4,151,3,((g.ends.take n).map zx),0⟩]) (λk=>True) ?_ trivial (λn hn _=>?_) (λ_=>?_)
   .exact dI
   .obtain⟨e,he⟩:∃e,e=g.ends[n]:=⟨_,rfl⟩;have hge:(g.ends.map zx)[n]?=some (zx e):=by rw[pw,pq hn,he];rfl
    have se:=sg.2 e tJ;have m7:(e.next.map Go.Hy.encI).length=e.next.length:=pz ..;have lE:(((g.ends.take n).map zx)).length=n:=ar
    have eE:((g.ends.take (n+1)).map zx)=((g.ends.take n).map zx)++[zx e]:=cw
    conv=>whnf
    refine zbB ?_
    refine zbh ?_
    rw[m6];refine zaK ?_
    refine zbh ?_
    (refine te hge ?_)
    exact du
   .conv=>whnf
    refine zbB ?_
    refine zbh ?_
    exact dq
  .have lV:(((w.zd.take k).map zt)).length=k:=by simp;omega
   have eV:((w.zd.take (k+1)).map zt)=((w.zd.take k).map zt)++[zt v]:=cB
   conv=>whnf
   refine zbB ?_
   exact dy
 .conv=>whnf
  rw[m2];refine zaf ?_;rw[pQ];have m8:(w.counts.map zA).length=w.counts.length:=pz ..;have b8:=h.counts.1;refine zbT ?_;refine zH.seq w.counts.length (λk=>(.za::.ref 0 [] 8 0 0:: .ref 1 [] 8 0 0:: .ref 2 [] 8 0 0:: .za::.za::.za::.za::.za::.za::.za::I k:: .za::.za::.za::mL (jp (jp (jp (jp ([]))))))) (λk=>[oW w,⟨1,38,8,[fW],0⟩,⟨1,38,8,[[I w.zr,I w.current,I w.lock,.gl 3 1 (w.pins.map Go.Hy.encI),.gl 4 5 (w.zd.map zt),.gl 5 4 (w.zc.map zT),.gl 6 1 ((w.counts.take k).map zA),lR w.zn]],0⟩,⟨4,3,1,(w.pins.map Go.Hy.encI),0⟩,⟨4,106,5,w.zd.map zt,0⟩,⟨4,98,4,w.zc.map zT,0⟩,⟨4,155,1,((w.counts.take k).map zA),0⟩]) (λk=>True) ?_ trivial (λk hk _=>?_) (λ_=>?_)
  .exact dP
  .obtain⟨r,hr⟩:∃r,r=w.counts[k]:=⟨_,rfl⟩;have hgr:(w.counts.map zA)[k]?=some (zA r):=by rw[pw,pq hk,hr];rfl
   have sr:=h.counts.2 r tK;have lC:(((w.counts.take k).map zA)).length=k:=ar
   have eC:((w.counts.take (k+1)).map zA)=((w.counts.take k).map zA)++[zA r]:=cH
   conv=>whnf
   refine za2 ?_
   refine⟨?_,?_⟩
   .conv=>whnf
    refine zai ?_
    refine zaz ?_;refine zai ?_
    refine za5 ?_
    refine zaM ?_
    exact dz
   .refine⟨?_,trivial⟩;conv=>whnf
    refine zaz ?_;refine tc ?_
    refine⟨?_,?_⟩
    .conv=>whnf
     refine zai ?_
     refine za5 ?_
     refine zaM ?_
     exact dz
    .trivial
  .conv=>whnf
   refine zb9 ?_;exact ja [7] [0] V V V V V V
def OS(w:Wor)(h:z6 w)(hq:w.zn=[]):th 89 [] [Cw w] (.agg [I w.zr,I w.current,I w.lock,lI w.pins,lV w.zd,lL w.zc,fJ w.counts,.fq 1 3 []]) []:=by
 have hq2:w.zn.map qk=[]:=cL
 have m1:(w.pins.map Go.Hy.encI).length=w.pins.length:=pz ..;have m2:(w.zd.map zt).length=w.zd.length:=pz ..;have m3:(w.zc.map zT).length=w.zc.length:=pz ..;have m4:(w.zn.map qk).length=w.zn.length:=pz ..;have b1:=h.pins;have b2:=h.zd.1;have b3:=h.zc;have b4:=h.zn;refine kR (fn:=f89) func89 V (uH ?_);refine zaz ?_;refine zH.seq w.zd.length (λk=>(.za::.ref 0 [] 8 0 0:: .ref 1 [] 8 0 0:: .ref 2 [] 8 0 0::I k:: .za::.za::mL (jp (jp (jp (jp (mL ([])))))))) (λk=>[oW w,⟨1,38,8,[fW],0⟩,⟨1,38,8,[[I w.zr,I w.current,I w.lock,.gl 3 1 (w.pins.map Go.Hy.encI),.gl 4 5 ((w.zd.take k).map zt),lL w.zc,fJ w.counts,lR w.zn]],0⟩,⟨4,3,1,(w.pins.map Go.Hy.encI),0⟩,⟨4,106,5,((w.zd.take k).map zt),0⟩]) (λk=>True) ?_ trivial (λk hk _=>?_) (λ_=>?_)
 .exact dX
 .obtain⟨v,hv⟩:∃v,v=w.zd[k]:=⟨_,rfl⟩;have hgv:(w.zd.map zt)[k]?=some (zt v):=by rw[pw,pq hk,hv];rfl
  have sv:=h.zd.2 v tN;have m5:(v.zg.map zy).length=v.zg.length:=pz ..;have b5:=sv.1;conv=>whnf
  rw[m2];refine zaK ?_
  refine zH.seq v.zg.length (λj=>(.za::.ref 0 [] 8 0 0:: .ref 1 [] 8 0 0:: .ref 2 [] 8 0 0::I k:: .ref 5 [] 5 0 0::I j:: mL (jp (jp (jp (jp (mL ([])))))))) (λj=>[oW w,⟨1,38,8,[fW],0⟩,⟨1,38,8,[[I w.zr,I w.current,I w.lock,.gl 3 1 (w.pins.map Go.Hy.encI),.gl 4 5 ((w.zd.take k).map zt),lL w.zc,fJ w.counts,lR w.zn]],0⟩,⟨4,3,1,(w.pins.map Go.Hy.encI),0⟩,⟨4,106,5,((w.zd.take k).map zt),0⟩,⟨1,106,5,[qV v.snap++[.gl 6 2 ((v.zg.take j).map zy),Bo v.qH]],0⟩,⟨4,111,2,((v.zg.take j).map zy),0⟩]) (λk=>True) ?_ trivial (λj hj _=>?_) (λ_=>?_)
  .exact dJ
  .obtain⟨g,hg⟩:∃g,g=v.zg[j]:=⟨_,rfl⟩;have hgg:(v.zg.map zy)[j]?=some (zy g):=by rw[pw,pq hj,hg];rfl
   have sg:=sv.2 g tI;have m6:(g.ends.map zx).length=g.ends.length:=pz ..;have b6:=sg.1;have lG:(((v.zg.take j).map zy)).length=j:=ar
   have eG:((v.zg.take (j+1)).map zy)=((v.zg.take j).map zy)++[zy g]:=ct
   conv=>whnf
   refine zbB ?_
   rw[m5];refine zaK ?_
   refine zbh ?_
   refine zH.seq g.ends.length (λn=>(.za::.ref 0 [] 8 0 0:: .ref 1 [] 8 0 0:: .ref 2 [] 8 0 0::I k:: .ref 5 [] 5 0 0::I j:: .ref 7 [] 2 0 0::I n:: .za::.za::.za::.za::.za::.za::mL (jp (jp (jp (jp ([]))))))) (λn=>[oW w,⟨1,38,8,[fW],0⟩,⟨1,38,8,[[I w.zr,I w.current,I w.lock,.gl 3 1 (w.pins.map Go.Hy.encI),.gl 4 5 ((w.zd.take k).map zt),lL w.zc,fJ w.counts,lR w.zn]],0⟩,⟨4,3,1,(w.pins.map Go.Hy.encI),0⟩,⟨4,106,5,((w.zd.take k).map zt),0⟩,⟨1,106,5,[qV v.snap++[.gl 6 2 ((v.zg.take j).map zy),Bo v.qH]],0⟩,⟨4,111,2,((v.zg.take j).map zy),0⟩,⟨1,111,2,[[U g.zC,.gl 8 3 ((g.ends.take n).map zx)]],0⟩,⟨4,151,3,((g.ends.take n).map zx),0⟩]) (λk=>True) ?_ trivial (λn hn _=>?_) (λ_=>?_)
   .exact dI
   .obtain⟨e,he⟩:∃e,e=g.ends[n]:=⟨_,rfl⟩;have hge:(g.ends.map zx)[n]?=some (zx e):=by rw[pw,pq hn,he];rfl
    have se:=sg.2 e tJ;have m7:(e.next.map Go.Hy.encI).length=e.next.length:=pz ..;have lE:(((g.ends.take n).map zx)).length=n:=ar
    have eE:((g.ends.take (n+1)).map zx)=((g.ends.take n).map zx)++[zx e]:=cw
    conv=>whnf
    refine zbB ?_
    refine zbh ?_
    rw[m6];refine zaK ?_
    refine zbh ?_
    (refine te hge ?_)
    exact du
   .conv=>whnf
    refine zbB ?_
    refine zbh ?_
    exact dq
  .have lV:(((w.zd.take k).map zt)).length=k:=by simp;omega
   have eV:((w.zd.take (k+1)).map zt)=((w.zd.take k).map zt)++[zt v]:=cB
   conv=>whnf
   refine zbB ?_
   exact dy
 .conv=>whnf
  rw[m2];refine zaf ?_;rw[pQ];have m8:(w.counts.map zA).length=w.counts.length:=pz ..;have b8:=h.counts.1;refine zbT ?_;refine zH.seq w.counts.length (λk=>(.za::.ref 0 [] 8 0 0:: .ref 1 [] 8 0 0:: .ref 2 [] 8 0 0:: .za::.za::.za::.za::.za::.za::.za::I k:: .za::.za::.za::mL (jp (jp (jp (jp ([]))))))) (λk=>[oW w,⟨1,38,8,[fW],0⟩,⟨1,38,8,[[I w.zr,I w.current,I w.lock,.gl 3 1 (w.pins.map Go.Hy.encI),.gl 4 5 (w.zd.map zt),.gl 5 4 (w.zc.map zT),.gl 6 1 ((w.counts.take k).map zA),lR w.zn]],0⟩,⟨4,3,1,(w.pins.map Go.Hy.encI),0⟩,⟨4,106,5,w.zd.map zt,0⟩,⟨4,98,4,w.zc.map zT,0⟩,⟨4,155,1,((w.counts.take k).map zA),0⟩]) (λk=>True) ?_ trivial (λk hk _=>?_) (λ_=>?_)
  .exact dP
  .obtain⟨r,hr⟩:∃r,r=w.counts[k]:=⟨_,rfl⟩;have hgr:(w.counts.map zA)[k]?=some (zA r):=by rw[pw,pq hk,hr];rfl
   have sr:=h.counts.2 r tK;have lC:(((w.counts.take k).map zA)).length=k:=ar
   have eC:((w.counts.take (k+1)).map zA)=((w.counts.take k).map zA)++[zA r]:=cH
   conv=>whnf
   refine za2 ?_
   refine⟨?_,?_⟩
   .conv=>whnf
    refine zai ?_
    refine zaz ?_;refine zai ?_
    refine za5 ?_
    refine zaM ?_
    exact dz
   .refine⟨?_,trivial⟩;conv=>whnf
    refine zaz ?_;refine tc ?_
    refine⟨?_,?_⟩
    .conv=>whnf
     refine zai ?_
     refine za5 ?_
     refine zaM ?_
     exact dz
    .trivial
  .conv=>whnf
   rw[m8];refine zaf ?_;rw[pQ];refine .inr ?_;rw[hq2];refine⟨rfl,uH ?_⟩;refine⟨.inl V,_,_,.refl _,rfl,?_⟩;exact ja [] [0] V V V V V V
end Go.Wor
