import Derived.Test.YtllehbdigpdinaaGreatTR
import Derived.Test.YtllehbdigpdinaaGreatTR1
set_option linter.all false
set_option maxRecDepth 100000
set_option maxHeartbeats 4000000
namespace Go.Run
open Go.Ab Go.Proofs Tryz Go.Gat Go.Nam Go.Hos Go.Con Go.Sna Go.Pla Go.Ply Go.Wor
open Go.Hy hiding encI
variable{α:Type}{w w':Wor}{i t:Nat}{m:fD}{e:fG}{o:Option α}{f:α->Wor×fD×fG}{r:Wor×fD×fG}{v:fI}{g:Gr}{X:List fM}{x:fM}{s:Wor.iC}
structure Qu(w w':Wor)(i:Nat):Prop where
 pins:w'.pins=w.pins
 zl:w'.zl=w.zl
 zm:w'.zm=w.zm
 current:w'.current=w.current
 len:w'.ze.length=w.ze.length
 ME:∀j,j≠i->w'.ze[j]?=w.ze[j]?
theorem yy(h1:w'.pins=w.pins)(h2:w'.zl=w.zl)(h3:w'.zm=w.zm)(h4:w'.current=w.current)(h5:w'.ze=w.ze):Qu w w' i:=⟨h1,h2,h3,h4,by rw[h5],λj _=>by rw[h5]⟩
theorem Ew{v':fI}(h1:w'.pins=w.pins)(h2:w'.zl=w.zl)(h3:w'.zm=w.zm)(h4:w'.current=w.current)(h5:w'.ze=w.ze.set i v'):Qu w w' i:=
 ⟨h1,h2,h3,h4,by rw[h5,pV],λj hj=>by rw[h5,pj (λz=>hj z.symm)]⟩
def HE(w:Wor)(m:fD)(r:Wor×fD×fG):Prop:=
 (m.pc=0/\r.1=w/\r.2.1={m with zl:=w.zl,pc:=1})\/
 (m.pc=1/\r.1=nT w m.zf.toNat (IntKind.i64.wrap (m.zl+1))/\r.2.1={m with pc:=2})\/
 (m.pc=2/\r.1=w/\r.2.1={m with zl:=w.zl,pc:=if w.zl=m.zl then 3 else 1})\/
 (m.pc=3/\r.1=w/\r.2.1.version=w.current/\r.2.1.zl=m.zl/\4<=r.2.1.pc/\r.2.1.done=false)\/
 (4<=m.pc/\m.pc<=22/\r.2.1.version=m.version/\r.2.1.zl=m.zl/\4<=r.2.1.pc/\r.2.1.done=false/\Qu w r.1 m.version.toNat)\/
 (m.pc=23/\r.1=nT w m.zf.toNat 0/\r.2.1.done=true)
def AN{m':fD}(h1:4<=m.pc)(h2:m.pc<=22)(h3:m'.version=m.version)(h4:m'.zl=m.zl)(h5:4<=m'.pc)(h6:m'.done=false)(h7:Qu w w' m.version.toNat):HE w m (w',m',e):=.inr (.inr (.inr (.inr (.inl ⟨h1,h2,h3,h4,h5,h6,h7⟩))))
def L4(h:o.map f=some r)(hf:∀x,HE w m (f x)):HE w m r:=by
 obtain⟨x,_,rfl⟩:=gT.1 h;exact hf x
theorem L3{f:fT->Wor×fD×fG}(h:w9 w m f=some r)(hf:∀x,HE w m (f x)):HE w m r:=by
 unfold w9 at h
 grind
theorem RB{k p:Int}(h:vn w m k p=some r):Qu w r.1 m.version.toNat/\r.2.1={m with pc:=p}:=by
 unfold vn at h
 grind [yy]
def Hv{e:En}(hd:m.done=false)(h0:0<=m.pc)(h:qe w m v g e=some r):HE w m r:=by
 have rt:(j8 m v).version=m.version/\(j8 m v).zl=m.zl/\(4<=m.pc->4<=(j8 m v).pc)/\(j8 m v).done=m.done:=by
  unfold j8;repeat' split
  all_goals exact⟨rfl,rfl,λh=>by first|exact h|exact gL au,rfl⟩
 unfold qe at h;rcases zu h with⟨p,h⟩|⟨p,h⟩
 .unfold BM at h;rcases zu h with⟨q,h⟩|⟨_,h⟩
  .obtain rfl:=gA h;exact .inl ⟨q,rfl,rfl⟩
  rcases zu h with⟨q,h⟩|⟨_,h⟩
  .obtain rfl:=gA h;exact .inr (.inl ⟨q,rfl,rfl⟩)
  rcases zu h with⟨q,h⟩|⟨_,h⟩
  .obtain rfl:=gA h;exact .inr (.inr (.inl ⟨q,rfl,rfl⟩))
  .cases h
 rcases zu h with⟨p3,h⟩|⟨p3,h⟩
 .obtain rfl:=gA h;refine .inr (.inr (.inr (.inl ⟨p3,rfl,?_,?_,?_,?_⟩)))
  .split <;> rfl
  .split <;> rfl
  .split <;> exact(gL au)
  .split <;> exact hd
 rcases zu h with⟨q,h⟩|⟨_,h⟩
 .exact L3 h λx=>AN aw aw V V (gL au) hd (yy V V V V V)
 rcases zu h with⟨q,h⟩|⟨_,h⟩
 .refine L3 h λx=>AN aw aw ?_ ?_ ?_ ?_ (yy V V V V V)
  .split <;> first|rfl|exact rt.1
  .split <;> first|rfl|exact rt.2.1
  .split
   .exact(gL au)
   .exact rt.2.2.1 aw
  .split
   .exact hd
   .exact rt.2.2.2.trans hd
 rcases zu h with⟨q,h⟩|⟨_,h⟩
 .exact L4 h λx=>AN aw aw V V (gL au) hd (Ew V V V V V)
 rcases zu h with⟨q,h⟩|⟨_,h⟩
 .obtain rfl:=gA h;exact AN aw aw V V (gL au) hd (yy V V V V V)
 rcases zu h with⟨q,h⟩|⟨_,h⟩
 .exact L4 h λx=>AN aw aw V V (gL au) hd (yy V V V V V)
 rcases zu h with⟨q,h⟩|⟨_,h⟩
 .obtain rfl:=gA h;refine AN aw aw ?_ ?_ ?_ ?_ (yy V V V V V)
  .split <;> rfl
  .split <;> rfl
  .split <;> exact(gL au)
  .split <;> exact hd
 rcases zu h with⟨q,h⟩|⟨_,h⟩
 .exact L4 h λx=>AN aw aw V V (gL au) hd (yy V V V V V)
 rcases zu h with⟨q,h⟩|⟨_,h⟩
 .rcases zC h with h|h
  .obtain rfl:=gA h;exact AN aw aw V V (gL au) hd (Ew V V V V V)
  .obtain rfl:=gA h;exact AN aw aw V V (gL au) hd (yy V V V V V)
 rcases zu h with⟨q,h⟩|⟨_,h⟩
 .obtain rfl:=gA h;exact AN aw aw V V (gL au) hd (Ew V V V V V)
 rcases zu h with⟨q,h⟩|⟨_,h⟩
 .obtain⟨a,b⟩:=RB h;refine .inr (.inr (.inr (.inr (.inl ⟨aw,aw,?_,?_,?_,?_,a⟩)))) <;> rw[b]
  .exact(gL au)
  .exact hd
 rcases zu h with⟨q,h⟩|⟨_,h⟩
 .obtain⟨a,b⟩:=RB h;refine .inr (.inr (.inr (.inr (.inl ⟨aw,aw,?_,?_,?_,?_,a⟩)))) <;> rw[b]
  .dsimp only;split <;> decide
  .exact hd
 rcases zu h with⟨q,h⟩|⟨_,h⟩
 .exact L3 h λx=>AN aw aw V V (gL au) hd (yy V V V V V)
 rcases zu h with⟨q,h⟩|⟨_,h⟩
 .obtain rfl:=gA h;exact .inr (.inr (.inr (.inr (.inr ⟨q,rfl,rfl⟩))))
 .cases h
def mj(v:fI):List Int:=(qv v).map (·.zj)
theorem Ec:∀(l:List Gr) (i k:Nat) {g:Gr} {e:En} (e':En) (tk:Int),l[i]?=some g->g.ends[k]?=some e->∃p,(l.flatMap (·.ends))[p]?=some e/\((l.set i {g with zx:=tk,ends:=g.ends.set k e'}).flatMap (·.ends))=(l.flatMap (·.ends)).set p e'
 |[],i,k,g,e,e',tk,h,_=>by cases h
 |x::l,0,k,g,e,e',tk,h,h2=>by
  have:x=g:=aq h
  subst this;have lt:=(gh.1 h2).1;refine⟨k,?_,?_⟩
  all_goals grind
 |x::l,i+1,k,g,e,e',tk,h,h2=>by
  obtain⟨p,p1,p2⟩:=Ec l i k e' tk tO h2;refine⟨x.ends.length+p,?_,?_⟩
  all_goals grind
def IQ(w w':Wor)(i:Nat):Prop:=∀(v v':fI) (k:Nat),w.ze[i]?=some v->w'.ze[i]?=some v'->(mj v').length=(mj v).length/\((mj v)[k]?=some 0->(mj v')[k]?=some 0)
theorem wm(h:w'.ze[i]?=w.ze[i]?):IQ w w' i:=λv v' k h1 h2=>by rw[h,h1]at h2;cases h2;exact⟨rfl,λh3=>h3⟩
theorem Ko{e e0:En}{tk hd ac:Int}(hv:w.ze[m.version.toNat]?=some v)(hg:v.zq[m.zg.toNat]?=some g)(he:g.ends[m.end_.toNat]?=some e)(ha:e.zj=0->ac=0):IQ w (va w m v g e0 tk hd ac) m.version.toNat:=λx x' k h1 h2=>by
 rw[hv]at h1;cases h1
 have h2:(w.ze.set m.version.toNat (vN m v g e0 tk hd ac))[m.version.toNat]?=some x':=h2;rw[gD (gh.1 hv).1]at h2;cases h2
 obtain⟨p,p1,p2⟩:=Ec v.zq m.zg.toNat m.end_.toNat (qK e0 hd ac) tk hg he;have e1:qv (vN m v g e0 tk hd ac)=(qv v).set p (qK e0 hd ac):=p2;unfold mj;rw[e1,rp,pV];refine⟨rfl,λh3=>?_⟩;by_cases q:p=k
 .subst q;have z:(qv v)[p]?=some e:=p1
  grind
 all_goals grind
theorem zsT{e:En}(hv:w.ze[m.version.toNat]?=some v)(hg:v.zq[m.zg.toNat]?=some g)(he:g.ends[m.end_.toNat]?=some e)(ha:m.pc<=3->1<=e.zj)(h:jW w m v g e=some r):Qu w r.1 m.version.toNat/\IQ w r.1 m.version.toNat:=by
 unfold jW at h;rcases zu h with⟨q,h⟩|⟨_,h⟩
 .grind [yy,wm]
 rcases zu h with⟨q,h⟩|⟨_,h⟩
 .obtain rfl:=gA h;exact⟨(Ew V V V V V),Ko hv hg he λz=>z⟩
 rcases zu h with⟨q,h⟩|⟨_,h⟩
 .rcases zC h with h|h
  .grind [Ew,Ko]
  grind [yy,wm]
 rcases zu h with⟨q,h⟩|⟨_,h⟩
 .grind [Ew,Ko]
 rcases zC h with h|h
 .unfold w9 at h;rcases zC h with h|h
  .cases h
  grind [yy,wm]
 rcases zC h with h|h
 .grind [yy,wm]
 .cases h
def SE(w:Wor)(m:fD)(r:Wor×fD×fG):Prop:=
 (m.pc=0/\r.1={w with current:=w.ze.length,ze:=w.ze++[vm m.op.config]}/\r.2.1.version=w.current/\r.2.1.pc=1/\r.2.1.done=false)\/
 (m.pc=0/\r.1=w/\r.2.1.done=true)\/
 (m.pc=1/\r.1=w/\r.2.1.version=m.version/\r.2.1.zl=w.zl/\r.2.1.pc=2/\r.2.1.done=false)\/
 (m.pc=2/\r.1={w with zm:=w.zm++[⟨m.version,m.zl,false⟩]}/\r.2.1.done=true)
def Sn(hd:m.done=false)(h:yg w m=some r):SE w m r:=by
 unfold yg at h;rcases zu h with⟨q,h⟩|⟨_,h⟩
 .rcases zC h with h|h
  .obtain rfl:=gA h;exact .inl ⟨q,rfl,rfl,rfl,hd⟩
  .obtain rfl:=gA h;exact .inr (.inl ⟨q,rfl,rfl⟩)
 rcases zu h with⟨q,h⟩|⟨_,h⟩
 .obtain rfl:=gA h;exact .inr (.inr (.inl ⟨q,rfl,rfl,rfl,rfl,hd⟩))
 rcases zu h with⟨q,h⟩|⟨_,h⟩
 .rcases zC h with h|h
  .cases h
  .obtain rfl:=gA h;exact .inr (.inr (.inr ⟨q,rfl,rfl⟩))
 .cases h
theorem Re(h:yM w m=some r):Qu w r.1 0/\IQ w r.1 0:=by
 unfold yM at h;rcases zC h with h|h
 .rcases zC h with h|h
  .grind [yy,wm]
  grind [yy,wm]
 .cases h
theorem Rp(h:yf w m=some r):r.1=w:=by
 unfold yf at h
 grind
structure Qc(w w':Wor):Prop where
 pins:w'.pins=w.pins
 zl:w'.zl=w.zl
 zm:w'.zm=w.zm
 current:w'.current=w.current
 vg:w'.ze=w.ze
def CE(w:Wor)(m:fD)(r:Wor×fD×fG):Prop:=
 (m.pc=0/\Qc w r.1/\(r.2.1.pc=1/\w.lock=0/\r.2.1.done=false\/r.2.1.done=true))\/
 (m.pc=1/\r.1=w/\r.2.1.zl=w.zl/\r.2.1.pc=2/\r.2.1.i=0/\r.2.1.done=false)\/
 (m.pc=2/\r.1=w/\∃p,w.pins[m.i.toNat]?=some p/\r.2.1=n7 w m p)\/
 (m.pc=3/\w.zl=m.zl/\r.1={w with zl:=IntKind.i64.wrap (w.zl+1)}/\w.zl<1000000000000/\r.2.1.zl=IntKind.i64.wrap (w.zl+1)/\r.2.1.pc=4/\r.2.1.done=false)\/
 (3<=m.pc/\m.pc≠5/\m.pc≠6/\Qc w r.1/\(r.2.1.done=true\/r.2.1.done=false/\r.2.1.zl=m.zl/\4<=r.2.1.pc/\(r.2.1.pc=5\/r.2.1.pc=6->r.2.1.pc=5/\r.2.1.k=0/\∃x,w.zm[m.i.toNat]?=some x/\r.2.1.i=m.i/\r.2.1.version=x.version/\x.gone=false/\x.at_+2<=m.zl)))\/
 (m.pc=5/\Qc w r.1/\r.2.1.zl=m.zl/\r.2.1.done=false/\∃v e,w.ze[m.version.toNat]?=some v/\(qv v)[m.k.toNat]?=some e/\r.2.1=nD m v e.zj)\/
 (m.pc=6/\∃v x,w.ze[m.version.toNat]?=some v/\w.zm[m.i.toNat]?=some x/\x.version=m.version/\x.gone=false/\r.1={w with ze:=w.ze.set m.version.toNat (x5 v),zm:=w.zm.set m.i.toNat (xG x)}/\r.2.1.zl=m.zl/\r.2.1.pc=4/\r.2.1.done=false)
def IG(w:Wor)(m:fD):Qc w (i6 w m).1/\((i6 w m).2.1.done=true\/(i6 w m).2.1.done=m.done/\(i6 w m).2.1.zl=m.zl/\(4<=m.pc->m.pc≠5->m.pc≠6->4<=(i6 w m).2.1.pc/\(i6 w m).2.1.pc≠5/\(i6 w m).2.1.pc≠6)):=by
 unfold i6;split
 .exact⟨⟨rfl,rfl,rfl,rfl,rfl⟩,.inl V⟩
 .refine⟨⟨rfl,rfl,rfl,rfl,rfl⟩,.inr ?_⟩;unfold Ak;repeat' split
  all_goals exact⟨rfl,rfl,λa b c=>by first|exact⟨a,b,c⟩|exact⟨gL au,gL au,gL au⟩⟩
def GZ(hd:m.done=false)(h:qZ w m=some r):CE w m r:=by
 have q0:∀w:Wor,Qc w w:=λw=>⟨rfl,rfl,rfl,rfl,rfl⟩
 unfold qZ at h;rcases zu h with⟨q,h⟩|⟨_,h⟩
 .obtain rfl:=gA h;split
  .exact .inl ⟨q,⟨rfl,rfl,rfl,rfl,rfl⟩,.inl ⟨rfl,by assumption,hd⟩⟩
  .exact .inl ⟨q,q0 w,.inr V⟩
 rcases zu h with⟨q,h⟩|⟨_,h⟩
 .obtain rfl:=gA h;exact .inr (.inl ⟨q,rfl,rfl,rfl,rfl,hd⟩)
 rcases zu h with⟨q,h⟩|⟨_,h⟩
 .obtain⟨p,hp,rfl⟩:=gT.1 h;exact .inr (.inr (.inl ⟨q,rfl,p,hp,rfl⟩))
 rcases zu h with⟨q,h⟩|⟨_,h⟩
 .obtain rfl:=gA h;split
  .rename_i z;exact .inr (.inr (.inr (.inl ⟨q,z.1,rfl,z.2,rfl,rfl,hd⟩)))
  .exact .inr (.inr (.inr (.inr (.inl ⟨aw,aw,aw,q0 w,.inr ⟨hd,rfl,by show(4:Int)<=4;decide,λz=>absurd z (by show ¬((4:Int)=5\/(4:Int)=6);decide)⟩⟩))))
 rcases zu h with⟨q,h⟩|⟨_,h⟩
 .obtain rfl:=gA h;refine .inr (.inr (.inr (.inr (.inl ⟨aw,aw,aw,?_,?_⟩))))
  .split
   .exact(IG w (iV m 8 0)).1
   .exact q0 w
  .split
   .rcases(IG w (iV m 8 0)).2 with z|⟨z1,z2,z3⟩
    .exact .inl z
    .have z3:=z3 (by show(4:Int)<=8;decide) (by show(8:Int)≠5;decide) (by show(8:Int)≠6;decide);exact .inr ⟨z1.trans hd,z2,z3.1,λy=>by rcases y with y|y;exact absurd y z3.2.1;exact absurd y z3.2.2⟩
   .rename_i x hx;refine .inr ?_;unfold oO;by_cases c:x.gone=true\/Go.Lim.wS x.at_ m.zl=false
    .rw[gz c];exact⟨hd,rfl,by show 4<=m.pc;omega,λy=>absurd y (by show ¬(m.pc=5\/m.pc=6);omega)⟩
    .rw[gp c];refine⟨hd,rfl,(gL au),λ_=>⟨(gL au),rfl,x,hx,rfl,rfl,?_,?_⟩⟩
     .cases z:x.gone with
      |false=>rfl
      |true=>exact absurd (.inl z) c
     .have:¬Go.Lim.wS x.at_ m.zl=false:=λz=>c (.inr z)
      unfold Go.Lim.wS at this;exact dc
 rcases zu h with⟨q,h⟩|⟨_,h⟩
 .obtain⟨v,hv,h⟩:=gQ.1 h;obtain⟨x,hx,rfl⟩:=gT.1 h;refine .inr (.inr (.inr (.inr (.inr (.inl ⟨q,q0 w,?_,?_,v,x,hv,hx,rfl⟩)))))
  .unfold nD;repeat' split
   all_goals rfl
  .unfold nD;repeat' split
   all_goals exact hd
 rcases zu h with⟨q,h⟩|⟨_,h⟩
 .obtain⟨v,hv,h⟩:=gQ.1 h;obtain⟨x,hx,h⟩:=gQ.1 h;rcases zu h with⟨z,h⟩|⟨_,h⟩
  .obtain rfl:=gA h;exact .inr (.inr (.inr (.inr (.inr (.inr ⟨q,v,x,hv,hx,z.1,z.2,rfl,rfl,rfl,hd⟩)))))
  .cases h
 rcases zu h with⟨q,h⟩|⟨_,h⟩
 .obtain rfl:=gA h;refine .inr (.inr (.inr (.inr (.inl ⟨aw,aw,aw,(IG w m).1,?_⟩))));rcases(IG w m).2 with z|⟨z1,z2,z3⟩
  .exact .inl z
  .have z3:=z3 aw aw aw;exact .inr ⟨z1.trans hd,z2,z3.1,λy=>by rcases y with y|y;exact absurd y z3.2.1;exact absurd y z3.2.2⟩
 rcases zu h with⟨q,h⟩|⟨_,h⟩
 .obtain⟨x,hx,rfl⟩:=gT.1 h;refine .inr (.inr (.inr (.inr (.inl ⟨aw,aw,aw,q0 w,.inr ?_⟩))));split
  .exact⟨hd,rfl,(gL au),λy=>absurd y (by show ¬((10:Int)=5\/(10:Int)=6);decide)⟩
  .exact⟨hd,rfl,(gL au),λy=>absurd y (by show ¬((8:Int)=5\/(8:Int)=6);decide)⟩
 rcases zu h with⟨q,h⟩|⟨_,h⟩
 .obtain⟨x,hx,h⟩:=gQ.1 h;rcases zC h with h|h
  .obtain rfl:=gA h;exact .inr (.inr (.inr (.inr (.inl ⟨aw,aw,aw,⟨rfl,rfl,rfl,rfl,rfl⟩,.inr ⟨hd,rfl,(gL au),λy=>absurd y (by show ¬((8:Int)=5\/(8:Int)=6);decide)⟩⟩))))
  .cases h
 .cases h
def Ha(x:fM):Prop:=x.on=true/\x.m.op.kind=1
def Co(x:fM):Prop:=x.on=true/\x.m.op.kind=5
def Sw(x:fM):Prop:=x.on=true/\x.m.op.kind=3
def Nil(v:fI)(n:Nat->Prop):Prop:=∀k,n k->k<(mj v).length->(mj v)[k]?=some 0
structure EB(w:Wor)(X:List fM):Prop where
 h1:∀(t:Nat) (x:fM),X[t]?=some x->Ha x->1<=x.m.pc->0<=x.m.zl/\x.m.zl<=w.zl
 h2:∀(t:Nat) (x:fM),X[t]?=some x->Ha x->2<=x.m.pc->w.pins[t]?=some (x.m.zl+1)
 h3:∀(t:Nat) (x:fM),X[t]?=some x->Ha x->3<=x.m.pc->w.zl<=x.m.zl+1
 c1:∀(c:Nat) (y:fM),X[c]?=some y->Co y->2<=y.m.pc->y.m.zl<=w.zl
 c2:∀(c:Nat) (y:fM),X[c]?=some y->Co y->y.m.pc=2->y.m.zl=w.zl/\∀(t:Nat) (x:fM),X[t]?=some x->Ha x->3<=x.m.pc->(t:Int)<y.m.i->x.m.zl=w.zl
 c3:∀(c:Nat) (y:fM),X[c]?=some y->Co y->y.m.pc=3->∀(t:Nat) (x:fM),X[t]?=some x->Ha x->3<=x.m.pc->x.m.zl=w.zl
 c5:∀(c:Nat) (y:fM),X[c]?=some y->Co y->y.m.pc=5\/y.m.pc=6->∃r,w.zm[y.m.i.toNat]?=some r/\r.version=y.m.version/\r.gone=false/\r.at_+2<=y.m.zl
 c6:∀(c:Nat) (y:fM) (v:fI),X[c]?=some y->Co y->y.m.pc=5\/y.m.pc=6->w.ze[y.m.version.toNat]?=some v->Nil v λk=>y.m.pc=5->(k:Int)<y.m.k
 l1:∀r∈w.zm,∀(t:Nat) (x:fM),X[t]?=some x->Ha x->4<=x.m.pc->x.m.version=r.version->x.m.zl<=r.at_
 s1:∀(c:Nat) (y:fM),X[c]?=some y->Sw y->y.m.pc=2->∀(t:Nat) (x:fM),X[t]?=some x->Ha x->4<=x.m.pc->x.m.version=y.m.version->x.m.zl<=y.m.zl
 g1:∀r∈w.zm,r.gone=true->r.at_+2<=w.zl/\∀v,w.ze[r.version.toNat]?=some v->Nil v λ_=>True
def ZK(w w':Wor):Prop:=∀r∈w.zm,r.at_+2<=w.zl->∀v',w'.ze[r.version.toNat]?=some v'->∃v,w.ze[r.version.toNat]?=some v/\(mj v').length=(mj v).length/\∀k:Nat,(mj v)[k]?=some 0->(mj v')[k]?=some 0
def ZK.nil(z:ZK w w'){r:fS}(hr:r∈w.zm)(ha:r.at_+2<=w.zl){n:Nat->Prop}(h:∀v,w.ze[r.version.toNat]?=some v->Nil v n):∀v',w'.ze[r.version.toNat]?=some v'->Nil v' n:=λv' hv' k hn hk=>by
 obtain⟨v,h1,h2,h3⟩:=z r hr ha v' hv';exact h3 k (h v h1 k hn aw)
theorem wD{x':fM}(eb:EB w X)(hx:X[t]?=some x)(he:w'.zl=w.zl)(hl:w'.zm=w.zm)(hp:∀t',t'≠t->w'.pins[t']?=w.pins[t']?)(zk:ZK w w')
 (H:Ha x'->(1<=x'.m.pc->0<=x'.m.zl/\x'.m.zl<=w.zl)/\(2<=x'.m.pc->w'.pins[t]?=some (x'.m.zl+1))/\(3<=x'.m.pc->w.zl<=x'.m.zl+1/\∀(c:Nat) (y:fM),c≠t->X[c]?=some y->Co y->(y.m.pc=2->(t:Int)<y.m.i->x'.m.zl=w.zl)/\(y.m.pc=3->x'.m.zl=w.zl))/\
   (4<=x'.m.pc->(∀r∈w.zm,x'.m.version=r.version->x'.m.zl<=r.at_)/\∀(c:Nat) (y:fM),c≠t->X[c]?=some y->Sw y->y.m.pc=2->x'.m.version=y.m.version->x'.m.zl<=y.m.zl))
 (C:Co x'->(2<=x'.m.pc->x'.m.zl<=w.zl)/\(x'.m.pc=2->x'.m.zl=w.zl/\∀(t':Nat) (z:fM),t'≠t->X[t']?=some z->Ha z->3<=z.m.pc->(t':Int)<x'.m.i->z.m.zl=w.zl)/\
   (x'.m.pc=3->∀(t':Nat) (z:fM),t'≠t->X[t']?=some z->Ha z->3<=z.m.pc->z.m.zl=w.zl)/\
   (x'.m.pc=5\/x'.m.pc=6->(∃r,w.zm[x'.m.i.toNat]?=some r/\r.version=x'.m.version/\r.gone=false/\r.at_+2<=x'.m.zl)/\∀v,w'.ze[x'.m.version.toNat]?=some v->Nil v λk=>x'.m.pc=5->(k:Int)<x'.m.k))
 (S:Sw x'->x'.m.pc=2->∀(t':Nat) (z:fM),t'≠t->X[t']?=some z->Ha z->4<=z.m.pc->z.m.version=x'.m.version->z.m.zl<=x'.m.zl):EB w' (X.set t x'):=by
 have lt:=(gh.1 hx).1;have nt:∀{P:Prop},Ha x'->Co x'->P:=λa b=>absurd (a.2.symm.trans b.2) ar
 have ns:∀{P:Prop},Ha x'->Sw x'->P:=λa b=>absurd (a.2.symm.trans b.2) ar
 have get:∀{c:Nat} {y:fM},(X.set t x')[c]?=some y->(c=t/\y=x')\/(c≠t/\X[c]?=some y):=λh=>by
  grind
 refine⟨λa y h q p=>?_,λa y h q p=>?_,λa y h q p=>?_,λa y h q p=>?_,λa y h q p=>?_,λa y h q p b z hz hq hp3=>?_,λa y h q p=>?_,λa y v h q p hv=>?_,λr hr a y h q p hv=>?_,λa y h q p b z hz hq h4 hv=>?_,λr hr hg=>?_⟩
 .rw[he];rcases get h with⟨rfl,rfl⟩|⟨_,ha⟩
  .exact(H q).1 p
  .exact eb.h1 a y ha q p
 .rcases get h with⟨rfl,rfl⟩|⟨n,ha⟩
  .exact(H q).2.1 p
  .rw[hp a n];exact eb.h2 a y ha q p
 .rw[he];rcases get h with⟨rfl,rfl⟩|⟨_,ha⟩
  .exact((H q).2.2.1 p).1
  .exact eb.h3 a y ha q p
 .rw[he];rcases get h with⟨rfl,rfl⟩|⟨_,ha⟩
  .exact(C q).1 p
  .exact eb.c1 a y ha q p
 .rw[he];rcases get h with⟨rfl,rfl⟩|⟨n,ha⟩
  .refine⟨((C q).2.1 p).1,λb z hz hq hp3 hi=>?_⟩;rcases get hz with⟨rfl,rfl⟩|⟨n2,hz⟩
   .exact nt hq q
   .exact((C q).2.1 p).2 b z n2 hz hq hp3 hi
  .refine⟨(eb.c2 a y ha q p).1,λb z hz hq hp3 hi=>?_⟩;rcases get hz with⟨rfl,rfl⟩|⟨n2,hz⟩
   .exact(((H hq).2.2.1 hp3).2 a y n ha q).1 p hi
   .exact(eb.c2 a y ha q p).2 b z hz hq hp3 hi
 .rw[he];rcases get h with⟨rfl,rfl⟩|⟨n,ha⟩
  .rcases get hz with⟨rfl,rfl⟩|⟨n2,hz⟩
   .exact nt hq q
   .exact(C q).2.2.1 p b z n2 hz hq hp3
  .rcases get hz with⟨rfl,rfl⟩|⟨n2,hz⟩
   .exact(((H hq).2.2.1 hp3).2 a y n ha q).2 p
   .exact eb.c3 a y ha q p b z hz hq hp3
 .rw[hl];rcases get h with⟨rfl,rfl⟩|⟨_,ha⟩
  .exact((C q).2.2.2 p).1
  .exact eb.c5 a y ha q p
 .rcases get h with⟨rfl,rfl⟩|⟨_,ha⟩
  .exact((C q).2.2.2 p).2 v hv
  .obtain⟨r,r1,r2,r3,r4⟩:=eb.c5 a y ha q p;have ep:=eb.c1 a y ha q aw;rw[<-r2]at hv;refine zk.nil (gu r1) aw (λv0 h0=>?_) v hv;exact eb.c6 a y v0 ha q p (by rw[<-r2];exact h0)
 .rw[hl]at hr;rcases get h with⟨rfl,rfl⟩|⟨_,ha⟩
  .exact((H q).2.2.2 p).1 r hr hv
  .exact eb.l1 r hr a y ha q p hv
 .rcases get h with⟨rfl,rfl⟩|⟨n,ha⟩
  .rcases get hz with⟨rfl,rfl⟩|⟨n2,hz⟩
   .exact ns hq q
   .exact S q p b z n2 hz hq h4 hv
  .rcases get hz with⟨rfl,rfl⟩|⟨n2,hz⟩
   .exact((H hq).2.2.2 h4).2 a y n ha q p hv
   .exact eb.s1 a y ha q p b z hz hq h4 hv
 .rw[hl]at hr;rw[he];obtain⟨z1,z2⟩:=eb.g1 r hr hg;exact⟨z1,λv hv=>zk.nil hr z1 (λv0 h0=>z2 v0 h0) v hv⟩
def yV(h:∀r∈w.zm,w'.ze[r.version.toNat]?=w.ze[r.version.toNat]?):ZK w w':=λr hr _ v' hv'=>⟨v',by rw[<-h r hr];exact hv',rfl,λ_ h=>h⟩
theorem RH{N K:Nat}(gi:GI N K w X){c d:Nat}{y z:fM}(h1:X[c]?=some y)(h2:X[d]?=some z)(q1:Co y)(q2:Co z)(p1:1<=y.m.pc)(p2:1<=z.m.pc):c=d:=by
 by_cases e:c=d
 .exact e
 .exfalso
  obtain⟨os,hl,hti,hsum⟩:=gi.own
  have own1:∀{c:Nat} {y:fM},X[c]?=some y->Co y->1<=y.m.pc->∃o,os[c]?=some o/\1<=o .lock:=λ{c y} h q p=>by
   obtain⟨o,ho⟩:∃o,os[c]?=some o:=⟨_,gk (by have:=(gh.1 h).1;omega)⟩;refine⟨o,ho,?_⟩;obtain⟨L,_,_,hh|⟨_,hh⟩⟩:=(hti c y o h ho).open_
   .have:=hh.1;rw[q.1]at this;cases this
   .obtain⟨v,g,e,su,_⟩:=hh.lc;rcases hh.own with⟨_,hk⟩|⟨hk,_⟩
    .rw[hk,jl (lZ su.done q.2 (gz p))];simp[qj]
    .have:=q.2;omega
  obtain⟨o1,g1,g2⟩:=own1 h1 q1 p1;obtain⟨o2,g3,g4⟩:=own1 h2 q2 p2;have s:=LG (os.map (· Key.lock)) c d e (by rw[gy,g1];rfl) (by rw[gy,g3];rfl);have lk:=(zU.1 gi.st.qI.ground).lock;have hs:=hsum Key.lock
  grind [Has]
def wrap64{n:Int}(h0: -9223372036854775808<=n)(h1:n<=9223372036854775807):IntKind.i64.wrap n=n:=z7 h0 h1
theorem S1{N K:Nat}{p:fQ}(gi:GI N K w X)(hx:X[t]?=some x)(hp:x.ops[x.done]?=some p)(hN:N<=100000000)(hK:K<=1099511627776):∀k,j3 (qk x t p) k<=Has w k:=by
 obtain⟨st,tg,hlen,hops,os,hol,hti,hsum⟩:=gi;have fE:=(gh.1 hx).1;obtain⟨o,ho⟩:∃o,os[t]?=some o:=⟨_,gk aw⟩;have ti:=hti t x o hx ho;have ow:∀k,o k<=Has w k:=λk=>by rw[hsum k];exact dX
 have po:=hops x (gu hx) p (gu hp)
 obtain⟨x',hx1,hx2,hx3⟩:∃x',x'.m=qk x t p/\x'.on=true/\TI w t x' o:=by
  cases hon:x.on with
  |true=>exact⟨x,bb,hon,ti⟩
  |false=>exact⟨⟨x.ops,x.done,true,Beg.ji t p x.given,x.given⟩,bb,rfl,Hm st tg aw ti hon hp po hN ow⟩
 obtain⟨s1,s2,s3,_⟩:=Ig st tg hx3 hx2 hN hK ow
 grind
theorem EG{t:Int}{o:fQ}(hk:o.kind≠2)(hp:1<=(qk x t o).pc):x.on=true/\qk x t o=x.m:=by
 grind [qk,kW]
theorem zw8{N K:Nat}(gi:GI N K w X){c:Nat}{y:fM}(h:X[c]?=some y)(q:Sw y)(p:1<=y.m.pc):y.m.version≠w.current:=by
 obtain⟨os,hl,hti,hsum⟩:=gi.own;obtain⟨o,ho⟩:∃o,os[c]?=some o:=⟨_,gk (by have:=(gh.1 h).1;omega)⟩;have le:o (.fW y.m.version)<=Has w (.fW y.m.version):=by rw[hsum];exact FQ _ c (by rw[gy,ho];rfl)
 obtain⟨L,_,_,hh|⟨_,hh⟩⟩:=(hti c y o h ho).open_
 .have:=hh.1;rw[q.1]at this;cases this
 .obtain⟨v,g,e,su,_⟩:=hh.lc;rcases hh.own with⟨_,hk⟩|⟨hk,_⟩
  .rw[hk,jl (Bq su.done q.2 (gz p))]at le
   grind [Has,qj]
  .have:=q.2;omega
def zxR{N K:Nat}(gi:GI N K s.1 s.2.1)(eb:EB s.1 s.2.1)(p:Int)(hN:N<=100000000)(hK:K<=1099511627776):EB (xk s p).1 (xk s p).2.1:=by
 rcases jO gi p hN hK with⟨_,e⟩|⟨t,x,o,r,hat,hx,ho,hsu,htm,hst,_,e,gi2⟩
 .rw[e];exact eb
 .rw[e];obtain⟨v,g,en,su⟩:=xN hsu;have nt:=kY o gi hx;have no:=Bt gi hx ho;have hl:=(gh.1 hx).1;have gw:=gi.st.qI;have gr:=zU.1 gw.ground;have gx:(s.2.1.set t (Wor.ql x r.2.1))[t]?=some (Wor.ql x r.2.1):=gD hl;have off:r.2.1.done=true->∀{P:Prop},(Wor.ql x r.2.1).on=true->P:=λd P h=>by rw[Wor.vU d]at h;cases h
  have mm:(Wor.ql x r.2.1).on=true->(Wor.ql x r.2.1).m=r.2.1/\r.2.1.op=o/\r.2.1.done=false:=λh=>by
   have nd:r.2.1.done=false:=by
    cases z:r.2.1.done with
    |false=>rfl
    |true=>exact off z h
   have ho2:(Wor.ql x r.2.1).ops[(Wor.ql x r.2.1).done]?=some o:=by rw[xu nd];exact ho
   have n2:=Bt gi2 gx ho2;have e2:qk (Wor.ql x r.2.1) t o=r.2.1:=by rw[xu nd];rfl
   rw[e2]at n2;exact⟨by rw[xu nd],n2,nd⟩
  have kind:∀{k:Int},(Wor.ql x r.2.1).on=true->(Wor.ql x r.2.1).m.op.kind=k->o.kind=k:=λh h2=>by
   obtain⟨a,b,_⟩:=mm h;rw[a,b]at h2;exact h2
  have sel:s.2.1[t]?=some x:=hx;have pl:s.2.1.length=s.1.pins.length:=gi.len.symm;have mD:∀{k:Int} {P:Prop},o.kind=k->∀{j:Int},j≠k->(Wor.ql x r.2.1).on=true/\(Wor.ql x r.2.1).m.op.kind=j->P:=λhk j hj h=>absurd ((kind h.1 h.2).symm.trans hk) hj
  dsimp only;rcases CD su hst with⟨k1,h⟩|⟨k1,h⟩|⟨k1,h⟩|⟨k1,h⟩|⟨k1,h⟩|⟨k1,h⟩
  ·
   rw[no]at k1
   have h0:0<=(qk x t o).pc:=by
    cases hon:x.on with
    |false=>
     have e1:qk x t o=Beg.ji t o x.given:=bb
     rw[e1,kW aw];exact gO _
    |true=>
     have e1:qk x t o=x.m:=bb
     obtain⟨os,hol,hti,_⟩:=gi.own;obtain⟨ow,how⟩:∃o,os[t]?=some o:=⟨_,gk aw⟩;obtain⟨L,_,_,hh|⟨_,hh⟩⟩:=(hti t x ow hx how).open_
     .have:=hh.1;rw[hon]at this;cases this
     .obtain⟨_,_,_,_,lc⟩:=hh.lc;have kx:x.m.op.kind=1:=by rw[<-e1,no];exact k1
      rw[e1];rcases lc with⟨_,lc⟩|⟨k,_⟩|⟨k,_⟩|⟨k,_⟩|⟨k,_⟩|⟨k,_⟩
      .have:=lc.pc;omega
      all_goals omega
   have ha:1<=(qk x t o).pc->Ha x/\qk x t o=x.m:=λq=>by
    obtain⟨a,b⟩:=EG aw q;exact⟨⟨a,by rw[<-b,no];exact k1⟩,b⟩
   have C0:∀{P:Prop},Co (Wor.ql x r.2.1)->P:=λh=>mD k1 ar h
   have S0:∀{P:Prop},Sw (Wor.ql x r.2.1)->P:=λh=>mD k1 ar h
   rcases Hv su.done h0 h with⟨q,hw,hm⟩|⟨q,hw,hm⟩|⟨q,hw,hm⟩|⟨q,hw,hv,he,hp4,hd⟩|⟨q1,q2,hv,he,hp4,hd,qu⟩|⟨q,hw,hd⟩
   .rw[hw];refine wD eb hx V V (λ_ _=>V) (yV λ_ _=>V) (λhh=>?_) C0 S0;obtain⟨a,_,_⟩:=mm hh.1;rw[a,hm];exact⟨λ_=>⟨gr.zl.1,gO _⟩,λz=>absurd (show(2:Int)<=1 from z) ar,λz=>absurd (show(3:Int)<=1 from z) ar,λz=>absurd (show(4:Int)<=1 from z) ar⟩
   .obtain⟨hax,ex⟩:=ha aw;obtain⟨z1,z2⟩:=eb.h1 t x sel hax (by rw[<-ex];omega);rw[ex]at hw hm;have wr:IntKind.i64.wrap (x.m.zl+1)=x.m.zl+1:=wrap64 aw (by have:=gr.zl.2;omega);have th:x.m.zf.toNat=t:=by rw[<-ex,nt,toNat_cast]
    rw[wr,th]at hw;rw[hw];refine wD eb hx V V (λt' hne=>?_) (yV λ_ _=>V) (λhh=>?_) C0 S0
    .show(s.1.pins.set t _)[t']?=_;rw[pj (λz=>hne z.symm)]
    .obtain⟨a,_,_⟩:=mm hh.1;rw[a,hm];refine⟨λ_=>⟨z1,z2⟩,λ_=>?_,λz=>absurd (show(3:Int)<=2 from z) ar,λz=>absurd (show(4:Int)<=2 from z) ar⟩;show(s.1.pins.set t _)[t]?=_;rw[gD aw]
   .obtain⟨hax,ex⟩:=ha aw;have z1:=eb.h1 t x sel hax (by rw[<-ex];omega);have z2:=eb.h2 t x sel hax (by rw[<-ex];omega);rw[ex]at hm;rw[hw];refine wD eb hx V V (λ_ _=>V) (yV λ_ _=>V) (λhh=>?_) C0 S0;obtain⟨a,_,_⟩:=mm hh.1;rw[a,hm];dsimp only;by_cases z:s.1.zl=x.m.zl
    .rw[gz z];exact⟨λ_=>⟨gr.zl.1,gO _⟩,λ_=>by rw[z2,z],λ_=>⟨aw,λ_ _ _ _ _=>⟨λ_ _=>V,λ_=>V⟩⟩,λz=>absurd z ar⟩
    .rw[gp z];exact⟨λ_=>⟨gr.zl.1,gO _⟩,λz=>absurd z ar,λz=>absurd z ar,λz=>absurd z ar⟩
   .obtain⟨hax,ex⟩:=ha aw;have px:x.m.pc=3:=by rw[<-ex];exact q
    have z1:=eb.h1 t x sel hax aw;have z2:=eb.h2 t x sel hax aw;have z3:=eb.h3 t x sel hax aw;rw[ex]at he;rw[hw];refine wD eb hx V V (λ_ _=>V) (yV λ_ _=>V) (λhh=>?_) C0 S0;obtain⟨a,_,_⟩:=mm hh.1;rw[a,he,hv];refine⟨λ_=>z1,λ_=>z2,λ_=>⟨z3,λc y hne hc hy=>⟨λy2 hi=>(eb.c2 c y hc hy y2).2 t x sel hax aw hi,λy3=>eb.c3 c y hc hy y3 t x sel hax aw⟩⟩,λ_=>⟨λr' hr' hvr=>?_,λc y hne hc hy y2 hvr=>?_⟩⟩
    .obtain⟨i,hi⟩:=gI.1 hr';exact absurd hvr.symm (xR gw hi).2.2.2.2
    .exact absurd hvr.symm (zw8 gi hc hy aw)
   .obtain⟨hax,ex⟩:=ha aw;have px:4<=x.m.pc:=by rw[<-ex];exact q1
    have z1:=eb.h1 t x sel hax aw;have z2:=eb.h2 t x sel hax aw;have z3:=eb.h3 t x sel hax aw;rw[ex]at he hv qu;refine wD eb hx qu.zl qu.zm (λt' _=>by rw[qu.pins]) (λr' hr' hdue v' hv'=>?_) (λhh=>?_) C0 S0
    .obtain⟨i,hi⟩:=gI.1 hr';have la:=xR gw hi;have vs:=su.version;rw[ex]at vs
     have ne:r'.version.toNat≠x.m.version.toNat:=λz=>by
      have:=eb.l1 r' hr' t x sel hax px aw;omega
     rw[qu.ME _ ne]at hv';exact⟨v',hv',rfl,λ_ h=>h⟩
    .obtain⟨a,_,_⟩:=mm hh.1;rw[a,he,hv];exact⟨λ_=>z1,λ_=>by rw[qu.pins];exact z2,λ_=>⟨z3,λc y hne hc hy=>⟨λy2 hi=>(eb.c2 c y hc hy y2).2 t x sel hax aw hi,λy3=>eb.c3 c y hc hy y3 t x sel hax aw⟩⟩,λ_=>⟨λr' hr' hvr=>eb.l1 r' hr' t x sel hax px hvr,λc y hne hc hy y2 hvr=>eb.s1 c y hc hy y2 t x sel hax px hvr⟩⟩
   .rw[nt,toNat_cast]at hw;rw[hw];refine wD eb hx V V (λt' hne=>?_) (yV λ_ _=>V) (λhh=>off hd hh.1) C0 S0;show(s.1.pins.set t _)[t']?=_;rw[pj (λz=>hne z.symm)]
  ·
   rw[no]at k1
   have act:(qk x t o).pc<=3->1<=en.zj:=λq=>by
    have pd:ph (qk x t o)=3\/ph (qk x t o)=4:=by
     by_cases z:(qk x t o).pc<=2
     .exact .inl (lQ su.done (by rw[no];exact k1) (gz z))
     .exact .inr (lQ su.done (by rw[no];exact k1) (by rw[gp z,gz aw]))
    have le:=S1 gi hx ho hN hK (.act (qk x t o).version (qk x t o).zg (qk x t o).end_);have at_:iB s.1 (qk x t o) v g en:=su.at_;rw[HZ at_]at le
    have one:1<=j3 (qk x t o) (.act (qk x t o).version (qk x t o).zg (qk x t o).end_):=by
     rcases pd with pd|pd <;> (rw[jl pd];simp[qj])
    omega
   obtain⟨qu,zs⟩:=zsT su.fZ su.fY su.ib act h;refine wD eb hx qu.zl qu.zm (λt' _=>by rw[qu.pins]) (λr' hr' hdue v' hv'=>?_) (λh=>mD k1 ar h) (λh=>mD k1 ar h) (λh=>mD k1 ar h);by_cases ne:r'.version.toNat=(qk x t o).version.toNat
   .rw[ne]at hv'|-;exact⟨v,su.fZ,(zs v v' 0 su.fZ hv').1,λk=>(zs v v' k su.fZ hv').2⟩
   .rw[qu.ME _ ne]at hv';exact⟨v',hv',rfl,λ_ h=>h⟩
  ·
   rw[no]at k1;rcases Sn su.done h with⟨q,hw,hv,hp,hd⟩|⟨q,hw,hd⟩|⟨q,hw,hv,he,hp,hd⟩|⟨q,hw,hd⟩
   .rw[hw];refine wD eb hx V V (λ_ _=>V) (yV λr' hr'=>?_) (λh=>mD k1 ar h) (λh=>mD k1 ar h) (λhh p2=>?_)
    .obtain⟨i,hi⟩:=gI.1 hr';have la:=xR gw hi;show(s.1.ze++_)[_]?=_;rw[gF aw]
    .obtain⟨a,_,_⟩:=mm hh.1;rw[a,hp]at p2;exact absurd p2 ar
   .rw[hw];exact wD eb hx V V (λ_ _=>V) (yV λ_ _=>V) (λh=>off hd h.1) (λh=>off hd h.1) (λh=>off hd h.1)
   .rw[hw];refine wD eb hx V V (λ_ _=>V) (yV λ_ _=>V) (λh=>mD k1 ar h) (λh=>mD k1 ar h) (λhh p2 t' z hne hz hq h4 hvr=>?_);obtain⟨a,_,_⟩:=mm hh.1;rw[a,he];exact(eb.h1 t' z hz hq aw).2
   .obtain⟨onx,ex⟩:=EG aw (show 1<=(qk x t o).pc by omega);have sx:Sw x:=⟨onx,by rw[<-ex,no];exact k1⟩;have px:x.m.pc=2:=by rw[<-ex];exact q
    rw[ex]at hw;have xo:∀{P:Prop},(Wor.ql x r.2.1).on=true->P:=λh=>off hd h
    have get:∀{c:Nat} {y:fM},(s.2.1.set t (Wor.ql x r.2.1))[c]?=some y->y.on=true->s.2.1[c]?=some y:=λh hon=>by
     rcases xc h with⟨_,rfl,_⟩|⟨_,h2⟩
     .exact xo hon
     .exact h2
    rw[hw];refine⟨λa y h q=>eb.h1 a y (get h q.1) q,λa y h q=>eb.h2 a y (get h q.1) q,λa y h q=>eb.h3 a y (get h q.1) q,λa y h q=>eb.c1 a y (get h q.1) q,λa y h q p=>⟨(eb.c2 a y (get h q.1) q p).1,λb z hz hq=>(eb.c2 a y (get h q.1) q p).2 b z (get hz hq.1) hq⟩,λa y h q p b z hz hq=>eb.c3 a y (get h q.1) q p b z (get hz hq.1) hq,λa y h q p=>?_,λa y v h q p hv=>eb.c6 a y v (get h q.1) q p hv,λr' hr' a y h q p hv=>?_,λa y h q p b z hz hq=>eb.s1 a y (get h q.1) q p b z (get hz hq.1) hq,λr' hr' hg=>?_⟩
    .obtain⟨r0,r1,r2⟩:=eb.c5 a y (get h q.1) q p;exact⟨r0,by show(s.1.zm++_)[_]?=_;rw[gF (gh.1 r1).1];exact r1,r2⟩
    .rcases pw.1 (show r'∈s.1.zm++_ from hr') with hr'|hr'
     .exact eb.l1 r' hr' a y (get h q.1) q p hv
     .rw[gZ]at hr';subst hr';exact eb.s1 t x sel sx px a y (get h q.1) q p hv
    .rcases pw.1 (show r'∈s.1.zm++_ from hr') with hr'|hr'
     .exact eb.g1 r' hr' hg
     .rw[gZ]at hr';subst hr';cases hg
  ·
   rw[no]at k1;obtain⟨qu,zs⟩:=Re h;refine wD eb hx qu.zl qu.zm (λt' _=>by rw[qu.pins]) (λr' hr' hdue v' hv'=>?_) (λh=>mD k1 ar h) (λh=>mD k1 ar h) (λh=>mD k1 ar h);by_cases ne:r'.version.toNat=0
   .rw[ne]at hv'|-;obtain⟨v0,hv0⟩:∃v0,s.1.ze[0]?=some v0:=⟨_,gk (by have:=(gh.1 hv').1;have:=qu.len;omega)⟩;exact⟨v0,hv0,(zs v0 v' 0 hv0 hv').1,λk=>(zs v0 v' k hv0 hv').2⟩
   .rw[qu.ME _ ne]at hv';exact⟨v',hv',rfl,λ_ h=>h⟩
  ·
   rw[no]at k1;have H0:∀{P:Prop},Ha (Wor.ql x r.2.1)->P:=λh=>mD k1 ar h
   have S0:∀{P:Prop},Sw (Wor.ql x r.2.1)->P:=λh=>mD k1 ar h
   have co:1<=(qk x t o).pc->Co x/\qk x t o=x.m:=λq=>by
    obtain⟨a,b⟩:=EG aw q;exact⟨⟨a,by rw[<-b,no];exact k1⟩,b⟩
   rcases GZ su.done h with⟨q,qc,hd⟩|⟨q,hw,he,hp,hi,hd⟩|⟨q,hw,pp,hpp,hm⟩|⟨q,heq,hw,fE,he,hp,hd⟩|⟨q,n5,n6,qc,hd⟩|⟨q,qc,he,hd,v2,e2,hv2,he2,hm⟩|⟨q,v2,x2,hv2,hx2,hxv,hxg,hw,he,hp,hd⟩
   .refine wD eb hx qc.zl qc.zm (λt' _=>by rw[qc.pins]) (yV λ_ _=>by rw[qc.vg]) H0 (λhh=>?_) S0;rcases hd with⟨hp,_,_⟩|hd
    .obtain⟨a,_,_⟩:=mm hh.1;rw[a,hp];exact⟨λz=>absurd z ar,λz=>absurd z ar,λz=>absurd z ar,λz=>absurd z ar⟩
    .exact off hd hh.1
   .rw[hw];refine wD eb hx V V (λ_ _=>V) (yV λ_ _=>V) H0 (λhh=>?_) S0;obtain⟨a,_,_⟩:=mm hh.1;rw[a,hp,he,hi];exact⟨λ_=>gO _,λ_=>⟨rfl,λt' z _ _ _ _ fE=>absurd fE aw⟩,λz=>absurd z ar,λz=>absurd z ar⟩
   .obtain⟨cx,ex⟩:=co aw;have px:x.m.pc=2:=by rw[<-ex];exact q
    obtain⟨z1,z2⟩:=eb.c2 t x sel cx px;have i0:=su.i;rw[ex]at hm hpp i0;have il:=(gh.1 hpp).1;have wr:IntKind.i64.wrap (x.m.i+1)=x.m.i+1:=wrap64 aw aU
    have scan:(pp=0\/pp=x.m.zl+1)->∀(t':Nat) (z:fM),s.2.1[t']?=some z->Ha z->3<=z.m.pc->(t':Int)<x.m.i+1->z.m.zl=s.1.zl:=λhp t' z hz hq h3 fE=>by
     by_cases y:(t':Int)<x.m.i
     .exact z2 t' z hz hq h3 y
     .have et:t'=x.m.i.toNat:=by omega
      have hp2:=eb.h2 t' z hz hq aw;rw[et,hpp]at hp2;have hp2:=gA hp2;have:=eb.h1 t' z hz hq aw;rcases hp with hp|hp
      .omega
      .omega
    rw[hw];refine wD eb hx V V (λ_ _=>V) (yV λ_ _=>V) H0 (λhh=>?_) S0;obtain⟨a,_,_⟩:=mm hh.1;rw[a,hm];unfold n7;have we:IntKind.i64.wrap (x.m.zl+1)=x.m.zl+1:=wrap64 (by have:=gr.zl.1;omega) (by have:=gr.zl.2;omega);rw[we,wr];by_cases c:pp≠0/\pp≠x.m.zl+1
    .rw[gz c];exact⟨λ_=>by show x.m.zl<=_;omega,λz=>absurd (show(4:Int)=2 from z) ar,λz=>absurd (show(4:Int)=3 from z) ar,λz=>absurd (show(4:Int)=5\/(4:Int)=6 from z) ar⟩
    .have hp:pp=0\/pp=x.m.zl+1:=by
      by_cases y:pp=0
      .exact .inl y
      .exact .inr (Decidable.of_not_not λz=>c ⟨y,z⟩)
     rw[gp c];by_cases c2:x.m.i+1<(s.1.pins.length:Int)
     .rw[gz c2];dsimp only;exact⟨λ_=>by omega,λ_=>⟨z1,λt' z _ hz hq h3 fE=>scan hp t' z hz hq h3 fE⟩,λz=>absurd (px.symm.trans z) ar,λz=>by rw[px]at z;exact absurd z ar⟩
     .rw[gp c2];exact⟨λ_=>by show x.m.zl<=_;omega,λz=>absurd (show(3:Int)=2 from z) ar,λ_ t' z _ hz hq h3=>scan hp t' z hz hq h3 (by have:=(gh.1 hz).1;omega),λz=>absurd (show(3:Int)=5\/(3:Int)=6 from z) ar⟩
   .obtain⟨cx,ex⟩:=co aw;have px:x.m.pc=3:=by rw[<-ex];exact q
    have all:=eb.c3 t x sel cx px;have we:IntKind.i64.wrap (s.1.zl+1)=s.1.zl+1:=wrap64 (by have:=gr.zl.1;omega) aw;rw[we]at hw he
    have get:∀{c:Nat} {y:fM},(s.2.1.set t (Wor.ql x r.2.1))[c]?=some y->(c=t/\y=Wor.ql x r.2.1)\/(c≠t/\s.2.1[c]?=some y):=λh=>by
     rcases xc h with⟨h1,h2,_⟩|⟨h1,h2⟩
     .exact .inl ⟨h1.symm,h2⟩
     .exact .inr ⟨λz=>h1 z.symm,h2⟩
    have getH:∀{c:Nat} {y:fM},(s.2.1.set t (Wor.ql x r.2.1))[c]?=some y->Ha y->s.2.1[c]?=some y:=λh q=>by
     rcases get h with⟨_,rfl⟩|⟨_,h⟩
     .exact H0 q
     .exact h
    have getS:∀{c:Nat} {y:fM},(s.2.1.set t (Wor.ql x r.2.1))[c]?=some y->Sw y->s.2.1[c]?=some y:=λh q=>by
     rcases get h with⟨_,rfl⟩|⟨_,h⟩
     .exact S0 q
     .exact h
    have getC:∀{c:Nat} {y:fM},(s.2.1.set t (Wor.ql x r.2.1))[c]?=some y->Co y->2<=y.m.pc->y.m.pc=4/\y.m.zl=s.1.zl+1:=λh q h2=>by
     rcases get h with⟨_,rfl⟩|⟨n,h⟩
     .obtain⟨a,_,_⟩:=mm q.1;rw[a,hp,he];exact dN
     .exact absurd (RH gi h sel q cx aw aw) n
    rw[hw];refine⟨λa y h q p=>?_,λa y h q p=>eb.h2 a y (getH h q) q p,λa y h q p=>?_,λa y h q p=>?_,λa y h q p=>?_,λa y h q p=>?_,λa y h q p=>?_,λa y v h q p=>?_,λr' hr' a y h q p hv=>eb.l1 r' hr' a y (getH h q) q p hv,λa y h q p b z hz hq=>eb.s1 a y (getS h q) q p b z (getH hz hq) hq,λr' hr' hg=>?_⟩
    .have:=eb.h1 a y (getH h q) q p;exact⟨this.1,by show _<=s.1.zl+1;omega⟩
    .have:=all a y (getH h q) q p;show s.1.zl+1<=_;omega
    .show _<=s.1.zl+1;have:=(getC h q p).2;omega
    .exact dF
    .exact dF
    .exact dF
    .exact dF
    .have:=eb.g1 r' hr' hg;exact⟨by show _<=s.1.zl+1;omega,this.2⟩
   .obtain⟨cx,ex⟩:=co aw;have px:3<=x.m.pc:=by rw[<-ex];exact q
    have z1:=eb.c1 t x sel cx aw;rw[ex]at hd;refine wD eb hx qc.zl qc.zm (λt' _=>by rw[qc.pins]) (yV λ_ _=>by rw[qc.vg]) H0 (λhh=>?_) S0;obtain⟨a,_,nd⟩:=mm hh.1;rcases hd with hd|⟨_,he,h4,hl5⟩
    .rw[nd]at hd;cases hd
    .rw[a];refine⟨λ_=>by omega,λz=>by omega,λz=>by omega,λz=>?_⟩;obtain⟨p5,k0,y,y1,y2,y3,y4,y5⟩:=hl5 z;exact⟨⟨y,by rw[y2];exact y1,y3.symm,y4,aw⟩,λv hv k hk _=>by have:=hk p5;omega⟩
   .obtain⟨cx,ex⟩:=co aw;have px:x.m.pc=5:=by rw[<-ex];exact q
    have z1:=eb.c1 t x sel cx aw;obtain⟨rr,r1,r2,r3,r4⟩:=eb.c5 t x sel cx (.inl px);have k0:=su.k;rw[ex]at he hv2 he2 hm k0;have z6:=eb.c6 t x v2 sel cx (.inl px) hv2;have ev:(mj v2)[x.m.k.toNat]?=some e2.zj:=by unfold mj;rw[gy,he2];rfl
    have kl:=(gh.1 he2).1
    have mG:(qv v2).length<=1000000:=by
     have fv:=(gw.fW _ v2 hv2).1.mG;have hg:∀g∈v2.zq,g.ends.length<=1000:=λg hg=>by have:=(fv.2 g hg).1;omega
     have:=HH v2.zq hg;unfold qv;have:=fv.1;omega
    have wr:IntKind.i64.wrap (x.m.k+1)=x.m.k+1:=wrap64 aw aw;refine wD eb hx qc.zl qc.zm (λt' _=>by rw[qc.pins]) (yV λ_ _=>by rw[qc.vg]) H0 (λhh=>?_) S0;obtain⟨a,_,nd⟩:=mm hh.1;rw[a,hm];unfold nD;rw[wr];by_cases c:e2.zj≠0
    .rw[gz c];exact⟨λ_=>z1,λz=>absurd (show(4:Int)=2 from z) ar,λz=>absurd (show(4:Int)=3 from z) ar,λz=>absurd (show(4:Int)=5\/(4:Int)=6 from z) ar⟩
    .have c0:e2.zj=0:=Decidable.of_not_not c
     have upto:∀k:Nat,(k:Int)<=x.m.k->k<(mj v2).length->(mj v2)[k]?=some 0:=λk hk hl=>by
      by_cases y:(k:Int)<x.m.k
      .exact z6 k (λ_=>y) hl
      .have:k=x.m.k.toNat:=by omega
       rw[this,ev,c0]
     have fW:∀v,r.1.ze[x.m.version.toNat]?=some v->v=v2:=λv hv=>by
      rw[qc.vg,hv2]at hv;exact(gA hv).symm
     rw[gp c];by_cases c2:x.m.k+1<((qv v2).length:Int)
     .rw[gz c2];dsimp only;refine⟨λ_=>z1,λz=>by omega,λz=>by omega,λ_=>⟨⟨rr,r1,r2,r3,r4⟩,λv hv k hk hl=>?_⟩⟩;rw[fW v hv]at hl|-;exact upto k (by have:=hk px;omega) hl
     .rw[gp c2];dsimp only;refine⟨λ_=>z1,λz=>absurd z ar,λz=>absurd z ar,λ_=>⟨⟨rr,r1,r2,r3,r4⟩,λv hv k hk hl=>?_⟩⟩;rw[fW v hv]at hl|-;refine upto k ?_ hl;have:(mj v2).length=(qv v2).length:=by unfold mj;rw[gC]
      omega
   .obtain⟨cx,ex⟩:=co aw;have px:x.m.pc=6:=by rw[<-ex];exact q
    have z1:=eb.c1 t x sel cx aw;obtain⟨rr,r1,r2,r3,r4⟩:=eb.c5 t x sel cx (.inr px);rw[ex]at hv2 hx2 hxv hw he;rw[hx2]at r1;obtain rfl:=gA r1;have z6:=eb.c6 t x v2 sel cx (.inr px) hv2
    have get:∀{c:Nat} {y:fM},(s.2.1.set t (Wor.ql x r.2.1))[c]?=some y->(c=t/\y=Wor.ql x r.2.1)\/(c≠t/\s.2.1[c]?=some y):=λh=>by
     rcases xc h with⟨h1,h2,_⟩|⟨h1,h2⟩
     .exact .inl ⟨h1.symm,h2⟩
     .exact .inr ⟨λz=>h1 z.symm,h2⟩
    have getH:∀{c:Nat} {y:fM},(s.2.1.set t (Wor.ql x r.2.1))[c]?=some y->Ha y->s.2.1[c]?=some y:=λh q=>by
     rcases get h with⟨_,rfl⟩|⟨_,h⟩
     .exact H0 q
     .exact h
    have getS:∀{c:Nat} {y:fM},(s.2.1.set t (Wor.ql x r.2.1))[c]?=some y->Sw y->s.2.1[c]?=some y:=λh q=>by
     rcases get h with⟨_,rfl⟩|⟨_,h⟩
     .exact S0 q
     .exact h
    have getC:∀{c:Nat} {y:fM},(s.2.1.set t (Wor.ql x r.2.1))[c]?=some y->Co y->2<=y.m.pc->y.m.pc=4/\y.m.zl=x.m.zl:=λh q h2=>by
     rcases get h with⟨_,rfl⟩|⟨n,h⟩
     .obtain⟨a,_,_⟩:=mm q.1;rw[a,hp,he];exact dN
     .exact absurd (RH gi h sel q cx aw aw) n
    have lim:∀r'∈s.1.zm.set x.m.i.toNat (xG x2),r'∈s.1.zm\/(r'.version=x2.version/\r'.at_=x2.at_):=λr' hr'=>by
     rcases pE hr' with h|rfl
     .exact .inl h
     .exact .inr ⟨rfl,rfl⟩
    have rm:=gu hx2;rw[hw];refine⟨λa y h q p=>eb.h1 a y (getH h q) q p,λa y h q p=>eb.h2 a y (getH h q) q p,λa y h q p=>eb.h3 a y (getH h q) q p,λa y h q p=>?_,λa y h q p=>?_,λa y h q p=>?_,λa y h q p=>?_,λa y v h q p=>?_,λr' hr' a y h q p hv=>?_,λa y h q p b z hz hq=>eb.s1 a y (getS h q) q p b z (getH hz hq) hq,λr' hr' hg=>?_⟩
    .show _<=s.1.zl;have:=(getC h q p).2;omega
    .exact dF
    .exact dF
    .exact dF
    .exact dF
    .rcases lim r' hr' with hr'|⟨e1,e2⟩
     .exact eb.l1 r' hr' a y (getH h q) q p hv
     .rw[e2];exact eb.l1 x2 rm a y (getH h q) q p (hv.trans e1)
    .have due:r'.at_+2<=s.1.zl/\∀v,s.1.ze[r'.version.toNat]?=some v->Nil v λ_=>True:=by
      rcases pE (show r'∈s.1.zm.set x.m.i.toNat (xG x2) from hr') with h|rfl
      .exact eb.g1 r' h hg
      .refine⟨by show x2.at_+2<=_;omega,λv hv k _ hl=>?_⟩;have hv:s.1.ze[x2.version.toNat]?=some v:=hv;rw[r2,hv2]at hv;obtain rfl:=gA hv;exact z6 k (λz=>absurd (px.symm.trans z) ar) hl
     refine⟨due.1,λv hv=>?_⟩;have hv:(s.1.ze.set x.m.version.toNat (x5 v2))[r'.version.toNat]?=some v:=hv;rcases xc hv with⟨e1,rfl,_⟩|⟨_,hv⟩
     .exact due.2 v2 (by rw[<-e1];exact hv2)
     .exact due.2 v hv
  ·
   rw[no]at k1;rw[Rp h];exact wD eb hx V V (λ_ _=>V) (yV λ_ _=>V) (λh=>mD k1 ar h) (λh=>mD k1 ar h) (λh=>mD k1 ar h)
def EJ(e:fG):Prop:=e.access=2/\e.cell=12
def Mr(e:fG):Prop:=e.access=1/\e.cell=3
structure nu(w:Wor)(m:fD)(v:fI)(r:Wor×fD×fG):Prop where
 fr:r.2.2.qX=false\/(r.2.2.qX=v.qX/\((m.op.kind=1/\4<=m.pc/\m.pc<=22)\/(m.op.kind=2/\m.pc<=3)))\/(m.op.kind=5/\m.pc=5/\∃v2,w.ze[m.version.toNat]?=some v2/\r.2.2.qX=v2.qX)
 st:EJ r.2.2->m.op.kind=5/\m.pc=6/\r.2.2.value=m.version
 ld:Mr r.2.2->(m.op.kind=1/\m.pc=3/\r.2.2.value=w.current)\/r.2.1.done=true
theorem yD{m':fD}(h1:e.qX=false:=by exact V)(h2:¬(e.access=2/\e.cell=12):=by exact gL au)(h3:¬(e.access=1/\e.cell=3):=by exact gL au):nu w m v (w',m',e):=⟨.inl h1,λz=>absurd z h2,λz=>absurd z h3⟩
theorem oY{m':fD}(h0:(m.op.kind=1/\4<=m.pc/\m.pc<=22)\/(m.op.kind=2/\m.pc<=3))(h1:e.qX=v.qX:=by exact V)(h2:¬(e.access=2/\e.cell=12):=by exact gL au)(h3:¬(e.access=1/\e.cell=3):=by exact gL au):nu w m v (w',m',e):=⟨.inr (.inl ⟨h1,h0⟩),λz=>absurd z h2,λz=>absurd z h3⟩
theorem CF(h:o.map f=some r)(hf:∀x,nu w m v (f x)):nu w m v r:=by
 obtain⟨x,_,rfl⟩:=gT.1 h;exact hf x
theorem Im{f:fT->Wor×fD×fG}(h:w9 w m f=some r)(hf:∀x,nu w m v (f x)):nu w m v r:=by
 unfold w9 at h
 grind
section
variable {w:Wor} {m:fD} {v:fI} {g:Gr} {e:En} {r:Wor×fD×fG}
theorem Rh{k p:Int}(h:vn w m k p=some r):nu w m v r:=by
 unfold vn at h
 grind [yD]
theorem zsQ(k1:m.op.kind=1)(h:qe w m v g e=some r):nu w m v r:=by
 unfold qe at h;rcases zu h with⟨p,h⟩|⟨_,h⟩
 .unfold BM at h;rcases zC h with h|h
  .grind [yD]
  rcases zC h with h|h
  .grind [yD]
  rcases zC h with h|h
  .grind [yD]
  .cases h
 rcases zu h with⟨p,h⟩|⟨_,h⟩
 .obtain rfl:=gA h;exact⟨.inl V,λz=>absurd (show(1:Int)=2 from z.1) ar,λ_=>.inl ⟨k1,p,rfl⟩⟩
 rcases zu h with⟨p,h⟩|⟨_,h⟩
 .grind [Im,yD]
 rcases zu h with⟨p,h⟩|⟨_,h⟩
 .grind [Im,yD]
 rcases zu h with⟨p,h⟩|⟨_,h⟩
 .grind [CF,oY]
 rcases zu h with⟨p,h⟩|⟨_,h⟩
 .grind [oY]
 rcases zu h with⟨p,h⟩|⟨_,h⟩
 .grind [CF,oY]
 rcases zu h with⟨p,h⟩|⟨_,h⟩
 .grind [oY]
 rcases zu h with⟨p,h⟩|⟨_,h⟩
 .grind [CF,oY]
 rcases zu h with⟨p,h⟩|⟨_,h⟩
 .rcases zC h with h|h
  .grind [oY]
  grind [oY]
 rcases zu h with⟨p,h⟩|⟨_,h⟩
 .grind [oY]
 rcases zC h with h|h
 .exact Rh h
 rcases zC h with h|h
 .exact Rh h
 rcases zC h with h|h
 .grind [Im,yD]
 rcases zC h with h|h
 .grind [yD]
 .cases h
theorem zsP(k1:m.op.kind=2)(h:jW w m v g e=some r):nu w m v r:=by
 unfold jW at h;rcases zu h with⟨p,h⟩|⟨_,h⟩
 .grind [oY]
 rcases zu h with⟨p,h⟩|⟨_,h⟩
 .grind [oY]
 rcases zu h with⟨p,h⟩|⟨_,h⟩
 .rcases zC h with h|h
  .grind [oY]
  grind [oY]
 rcases zu h with⟨p,h⟩|⟨_,h⟩
 .grind [oY]
 rcases zC h with h|h
 .grind [Im,yD]
 rcases zC h with h|h
 .grind [yD]
 .cases h
theorem zxV(h:yg w m=some r):nu w m v r:=by
 unfold yg at h;rcases zC h with h|h
 .rcases zC h with h|h
  .grind [yD]
  .obtain rfl:=gA h;exact⟨.inl V,λz=>absurd (show(1:Int)=2 from z.1) ar,λ_=>.inr V⟩
 rcases zC h with h|h
 .grind [yD]
 rcases zC h with h|h
 .rcases zC h with h|h
  .cases h
  grind [yD]
 .cases h
theorem zvi(h:yM w m=some r):nu w m v r:=by
 unfold yM at h;rcases zC h with h|h
 .rcases zC h with h|h
  .grind [yD]
  grind [CF,yD]
 .cases h
theorem Tn(w:Wor)(m m0:fD):nu w m0 v (i6 w m):=by
 grind [i6,yD]
theorem YY(k1:m.op.kind=5)(h:qZ w m=some r):nu w m v r:=by
 unfold qZ at h;rcases zC h with h|h
 .grind [yD]
 rcases zC h with h|h
 .grind [yD]
 rcases zC h with h|h
 .grind [CF,yD]
 rcases zC h with h|h
 .obtain rfl:=gA h;split
  .exact yD
  .exact yD
 rcases zC h with h|h
 .obtain rfl:=gA h;split
  .grind [Tn]
  .exact yD
 rcases zu h with⟨p,h⟩|⟨_,h⟩
 .obtain⟨v2,hv,h⟩:=gQ.1 h;exact CF h λx=>⟨.inr (.inr ⟨k1,p,v2,hv,rfl⟩),λz=>absurd (show(1:Int)=2 from z.1) ar,λz=>absurd (show(7:Int)=3 from z.2) ar⟩
 rcases zu h with⟨p,h⟩|⟨_,h⟩
 .obtain⟨v2,hv2,h⟩:=gQ.1 h;obtain⟨x,_,h⟩:=gQ.1 h;rcases zC h with h|h
  .obtain rfl:=gA h;exact⟨.inl V,λ_=>⟨k1,p,rfl⟩,λz=>absurd (show(2:Int)=1 from z.1) ar⟩
  .cases h
 rcases zC h with h|h
 .grind [Tn]
 rcases zC h with h|h
 .exact CF h λx=>yD
 rcases zC h with h|h
 .obtain⟨v,_,h⟩:=gQ.1 h;rcases zC h with h|h
  .grind [yD]
  .cases h
 .cases h
def zvj(h:yf w m=some r):nu w m v r:=by
 unfold yf at h;rcases zC h with h|h
 .obtain⟨v,_,h⟩:=gQ.1 h;exact CF h λx=>yD V (λz=>absurd (show(1:Int)=2 from z.1) ar) (λz=>absurd (show(10:Int)=3 from z.2) ar)
 .cases h
def zy8(su:qt w m v g e)(h:vj w m=some r):nu w m v r:=by
 rcases CD su h with⟨k,h⟩|⟨k,h⟩|⟨_,h⟩|⟨_,h⟩|⟨k,h⟩|⟨_,h⟩
 .exact zsQ k h
 .exact zsP k h
 .exact zxV h
 .exact zvi h
 .exact YY k h
 .exact zvj h
end
def Fp(gw:qQ w)(hv:w.ze[i]?=some v)(hf:v.qX=true):∃r∈w.zm,r.version=(i:Int)/\r.gone=true:=by
 have h:=(gw.fW i v hv).2;rw[hf]at h;exact(kU w.zm i (kq gw.zm)).1 h.symm
theorem UC(h:ph m=6):m.op.kind=5:=by
 unfold ph at h
 grind
structure SF(s:Wor.iC):Prop where
 UX:∀e∈s.2.2,e.qX=false
 fr:∀e∈s.2.2,EJ e->0<=e.value/\∃v,s.1.ze[e.value.toNat]?=some v/\v.qX=true
 UH:∀(a b:Nat) (ea eb:fG),a<b->s.2.2[a]?=some ea->s.2.2[b]?=some eb->EJ ea->EJ eb->ea.value≠eb.value
 has:∀(j:Nat) (e:fG),s.2.2[j]?=some e->Mr e->(∃(k:Nat) (f:fG),j<=k/\s.2.2[k]?=some f/\f.zf=e.zf/\f.done=true)\/∃(t:Nat) (x:fM),e.zf=(t:Int)/\s.2.1[t]?=some x/\Ha x/\4<=x.m.pc/\x.m.version=e.value
 early:∀(i j:Nat) (ei ej:fG),s.2.2[i]?=some ei->EJ ei->j<i->s.2.2[j]?=some ej->Mr ej->ej.value=ei.value->∃(k:Nat) (f:fG),j<=k/\k<i/\s.2.2[k]?=some f/\f.zf=ej.zf/\f.done=true
theorem zy4{N K:Nat}(gi:GI N K s.1 s.2.1)(eb:EB s.1 s.2.1)(sf:SF s)(p:Int)(hN:N<=100000000)(hK:K<=1099511627776):SF (xk s p):=by
 rcases jO gi p hN hK with⟨_,e⟩|⟨t,x,o,r,hat,hx,ho,hsu,htm,hst,_,e,gi2⟩
 .rw[e];exact sf
 .rw[e];obtain⟨v,g,en,su⟩:=xN hsu;have tl:=Fw su.done hst;have nt:=kY o gi hx;have no:=Bt gi hx ho;have eth:r.2.2.zf=(t:Int):=tl.2.2.trans nt;have hl:=(gh.1 hx).1;have gw:=gi.st.qI;have ev:=zy8 su hst;have kp:=zx3 gi hx ho hN hK hst
  have held:∀(t':Nat) (z:fM),s.2.1[t']?=some z->Ha z->4<=z.m.pc->∀r'∈s.1.zm,r'.at_+2<=s.1.zl->z.m.version≠r'.version:=λt' z hz hq h4 r' hr' hdue hv=>by
   have:=eb.l1 r' hr' t' z hz hq h4 hv;have:=eb.h3 t' z hz hq aw;omega
  have frk:∀(i:Nat) (v0:fI),s.1.ze[i]?=some v0->v0.qX=true->∃v1,r.1.ze[i]?=some v1/\v1.qX=true:=λi v0 h0 hf=>by
   obtain⟨v1,hv1⟩:∃v1,r.1.ze[i]?=some v1:=⟨_,gk (by have:=(gh.1 h0).1;have:=kp.vg;omega)⟩;refine⟨v1,hv1,?_⟩;obtain⟨r0,hr0,e1,e2⟩:=Fp gw h0 hf;obtain⟨k,hk⟩:=gI.1 hr0;obtain⟨r1,hr1⟩:∃r1,r.1.zm[k]?=some r1:=⟨_,gk (by have:=(gh.1 hk).1;have:=kp.lim;omega)⟩;have gw2:=gi2.st.qI;rw[(gw2.fW i v1 hv1).2];refine(kU r.1.zm i (kq gw2.zm)).2 ⟨r1,gu hr1,(kp.zm k r0 r1 hk hr1).1.trans e1,?_⟩;by_cases lk:j3 (qk x t o) .lock=0
   .rw[((kp.zm k r0 r1 hk hr1).2.2 lk)];exact e2
   ·
    have k5:(qk x t o).op.kind=5:=UC (Decidable.byContradiction λz=>lk (by unfold j3 qj;exact gp z))
    have h:qZ s.1 (qk x t o)=some r:=by
     rcases CD su hst with⟨k,_⟩|⟨k,_⟩|⟨k,_⟩|⟨k,_⟩|⟨_,h⟩|⟨k,_⟩
     all_goals first|exact h|omega
    have lims:r.1.zm=s.1.zm\/∃(i:Nat) (x2:fS),s.1.zm[i]?=some x2/\r.1.zm=s.1.zm.set i (xG x2):=by
     rcases GZ su.done h with⟨_,qc,_⟩|⟨_,hw,_⟩|⟨_,hw,_⟩|⟨_,_,hw,_⟩|⟨_,_,_,qc,_⟩|⟨_,qc,_⟩|⟨_,v2,x2,_,hx2,_,_,hw,_⟩
     .exact .inl qc.zm
     .grind
     .grind
     .grind
     .exact .inl qc.zm
     .exact .inl qc.zm
     all_goals grind
    grind
  have frn:EJ r.2.2->∃(vi:Nat) (v2:fI) (x2:fS),r.2.2.value=(vi:Int)/\s.1.ze[vi]?=some v2/\v2.qX=false/\(∃v3,r.1.ze[vi]?=some v3/\v3.qX=true)/\x2∈s.1.zm/\x2.version=(vi:Int)/\x2.at_+2<=s.1.zl:=λhf=>by
   obtain⟨k5,p6,hval⟩:=ev.st hf;rw[no]at k5;obtain⟨onx,ex⟩:=EG (o:=o) (t:=(t:Int)) (x:=x) aw aw;have cx:Co x:=⟨onx,by rw[<-ex,no];exact k5⟩;have px:x.m.pc=6:=by grind
   obtain⟨rr,r1,r2,r3,r4⟩:=eb.c5 t x hx cx (.inr px);have z1:=eb.c1 t x hx cx aw;have v0:=su.version;rw[ex]at hval v0
   have ce:qZ s.1 (qk x t o)=some r:=by
    rcases CD su hst with⟨k,_⟩|⟨k,_⟩|⟨k,_⟩|⟨k,_⟩|⟨_,h⟩|⟨k,_⟩
    all_goals first|exact h|(rw[no]at k;omega)
   rcases GZ su.done ce with⟨q,_⟩|⟨q,_⟩|⟨q,_⟩|⟨q,_⟩|⟨_,_,q,_⟩|⟨q,_⟩|⟨_,v2,x2,hv2,hx2,hxv,hxg,hw,_⟩
   .omega
   .omega
   .omega
   .omega
   .omega
   .omega
   .rw[ex]at hv2 hx2 hxv hw;rw[hx2]at r1;obtain rfl:=gA r1
    have nf:v2.qX=false:=by
     cases z:v2.qX with
     |false=>rfl
     |true=>
      obtain⟨r0,hr0,e1,e2⟩:=Fp gw hv2 z;obtain⟨k,hk⟩:=gI.1 hr0;have:=kq gw.zm k x.m.i.toNat r0 x2 hk hx2 aw
      grind
    grind
  refine⟨λe1 h1=>?_,λe1 h1 h2=>?_,λa b ea eb' hab h1 h2 f1 f2=>?_,λj e1 h1 h2=>?_,λi j ei ej h1 h2 hji h3 h4 h5=>?_⟩
  ·
   dsimp only at h1;rcases pw.1 h1 with h1|h1
   .exact sf.UX e1 h1
   .rw[gZ]at h1;subst h1;show r.2.2.qX=false;rcases ev.fr with q|⟨q,hh⟩|⟨k5,p5,v2,hv2,q⟩
    .exact q
    .rw[q];cases z:v.qX with
     |false=>rfl
     |true=>
      exfalso
      obtain⟨r0,hr0,e1,e2⟩:=Fp gw su.fZ z;obtain⟨d1,d2⟩:=eb.g1 r0 hr0 e2;have v0:=su.version;rcases hh with⟨k1,p1,p2⟩|⟨k2,p3⟩
      .rw[no]at k1;obtain⟨onx,ex⟩:=EG (o:=o) (t:=(t:Int)) (x:=x) aw aw;rw[ex]at p1 v0 e1;exact held t x hx ⟨onx,by rw[<-ex,no];exact k1⟩ p1 r0 hr0 d1 aw
      .have pd:ph (qk x t o)=3\/ph (qk x t o)=4:=by
        by_cases z:(qk x t o).pc<=2
        .exact .inl (lQ su.done k2 (gz z))
        .exact .inr (lQ su.done k2 (by rw[gp z,gz aw]))
       have le:=S1 gi hx ho hN hK (.act (qk x t o).version (qk x t o).zg (qk x t o).end_);have at_:iB s.1 (qk x t o) v g en:=su.at_;rw[HZ at_]at le
       have one:1<=j3 (qk x t o) (.act (qk x t o).version (qk x t o).zg (qk x t o).end_):=by
        rcases pd with pd|pd <;> (rw[jl pd];simp[qj])
       obtain⟨pp,p1,_⟩:=Ec v.zq (qk x t o).zg.toNat (qk x t o).end_.toNat en 0 su.fY su.ib;have pe:(qv v)[pp]?=some en:=p1;have ea:(mj v)[pp]?=some en.zj:=by unfold mj;rw[gy,pe];rfl
       have z0:=d2 v (by rw[show r0.version.toNat=(qk x t o).version.toNat by omega];exact su.fZ) pp trivial (gh.1 ea).1;rw[ea]at z0;have:=gA z0;omega
    .rw[q];cases z:v2.qX with
     |false=>rfl
     |true=>
      exfalso
      rw[no]at k5;obtain⟨onx,ex⟩:=EG (o:=o) (t:=(t:Int)) (x:=x) aw aw;have cx:Co x:=⟨onx,by rw[<-ex,no];exact k5⟩;rw[ex]at p5 hv2;obtain⟨rr,r1,r2,r3,r4⟩:=eb.c5 t x hx cx (.inl p5);obtain⟨r0,hr0,e1,e2⟩:=Fp gw hv2 z;obtain⟨k,hk⟩:=gI.1 hr0;have la:=xR gw r1;have:=kq gw.zm k x.m.i.toNat r0 rr hk r1 aw;subst this;rw[r1]at hk;cases hk
      rw[r3]at e2;cases e2
  .dsimp only at h1|-;rcases pw.1 h1 with h1|h1
   .obtain⟨z1,v0,z2,z3⟩:=sf.fr e1 h1 h2;obtain⟨v1,z4,z5⟩:=frk _ v0 z2 z3;exact⟨z1,v1,z4,z5⟩
   .rw[gZ]at h1;subst h1;obtain⟨vi,v2,x2,z1,z2,z3,⟨v3,z4,z5⟩,_⟩:=frn h2;have zv:(ou r.2.2 x).value=(vi:Int):=z1;rw[zv,toNat_cast];exact⟨aw,v3,z4,z5⟩
  .dsimp only at h1 h2;rcases vD h2 with⟨l2,h2⟩|⟨rfl,rfl⟩
   .rcases vD h1 with⟨_,h1⟩|⟨q,_⟩
    .exact sf.UH a b ea eb' hab h1 h2 f1 f2
    .omega
   .rcases vD h1 with⟨_,h1⟩|⟨q,_⟩
    .obtain⟨vi,v2,x2,z1,z2,z3,_⟩:=frn f2;obtain⟨y1,v0,y2,y3⟩:=sf.fr ea (gu h1) f1;intro q;have q:ea.value=r.2.2.value:=q;rw[q,z1,toNat_cast,z2]at y2;obtain rfl:=gA y2;rw[z3]at y3;cases y3
    .omega
  .dsimp only at h1|-;rcases vD h1 with⟨l1,h1⟩|⟨rfl,rfl⟩
   .rcases sf.has j e1 h1 h2 with⟨k,f,y1,y2,y3,y4⟩|⟨t',z,y1,y2,y3,y4,y5⟩
    .exact .inl ⟨k,f,y1,kf _ y2,y3,y4⟩
    .by_cases q:t=t'
     .subst q;rw[hx]at y2;obtain rfl:=gA y2;cases dn:r.2.1.done with
      |true=>exact .inl ⟨s.2.2.length,_,aw,D7 _ _,by show r.2.2.zf=_;omega,by show r.2.2.done=true;rw[tl.1];exact dn⟩
      |false=>
       refine .inr ⟨t,_,y1,gD hl,?_⟩;have ex:qk x t o=x.m:=by unfold qk;rw[y3.1];rfl
       have hh:qe s.1 (qk x t o) v g en=some r:=by
        rcases CD su hst with⟨_,h⟩|⟨k,_⟩|⟨k,_⟩|⟨k,_⟩|⟨k,_⟩|⟨k,_⟩
        .exact h
        all_goals (rw[ex]at k;have:=y3.2;omega)
       have ho2:(Wor.ql x r.2.1).ops[(Wor.ql x r.2.1).done]?=some o:=by rw[xu dn];exact ho
       have n2:=Bt gi2 (gD hl) ho2;have e2:qk (Wor.ql x r.2.1) t o=r.2.1:=by rw[xu dn];rfl
       rw[e2]at n2;rw[xu dn];refine⟨⟨rfl,by show r.2.1.op.kind=1;rw[n2,<-no,ex];exact y3.2⟩,?_⟩;show 4<=r.2.1.pc/\r.2.1.version=e1.value;rcases Hv su.done (by rw[ex];omega) hh with⟨q,_⟩|⟨q,_⟩|⟨q,_⟩|⟨q,_⟩|⟨_,_,q3,_,q5,_⟩|⟨_,_,q⟩
       .rw[ex]at q;omega
       .rw[ex]at q;omega
       .rw[ex]at q;omega
       .rw[ex]at q;omega
       .exact⟨q5,by rw[q3,ex];exact y5⟩
       .rw[dn]at q;cases q
     .exact .inr ⟨t',z,y1,by rw[pj q];exact y2,y3,y4,y5⟩
   .cases dn:r.2.1.done with
    |true=>exact .inl ⟨s.2.2.length,_,gG _,D7 _ _,rfl,by show r.2.2.done=true;rw[tl.1];exact dn⟩
    |false=>
     rcases ev.ld h2 with⟨k1,p3,hv⟩|q
     .refine .inr ⟨t,_,eth,gD hl,?_⟩
      have hh:qe s.1 (qk x t o) v g en=some r:=by
       grind [CD]
      have ho2:(Wor.ql x r.2.1).ops[(Wor.ql x r.2.1).done]?=some o:=by rw[xu dn];exact ho
      have n2:=Bt gi2 (gD hl) ho2;have e2:qk (Wor.ql x r.2.1) t o=r.2.1:=by rw[xu dn];rfl
      rw[e2]at n2;rw[xu dn];refine⟨⟨rfl,by show r.2.1.op.kind=1;rw[n2,<-no];exact k1⟩,?_⟩;show 4<=r.2.1.pc/\r.2.1.version=r.2.2.value;rcases Hv su.done aw hh with⟨q,_⟩|⟨q,_⟩|⟨q,_⟩|⟨_,_,q3,_,q5,_⟩|⟨q,_⟩|⟨q,_⟩
      .omega
      .omega
      .omega
      .exact⟨q5,q3.trans hv.symm⟩
      .omega
      .omega
     .rw[dn]at q;cases q
  .dsimp only at h1 h3|-;rcases vD h1 with⟨l1,h1⟩|⟨rfl,rfl⟩
   .rcases vD h3 with⟨_,h3⟩|⟨q,_⟩
    .obtain⟨k,f,y1,y2,y3,y4⟩:=sf.early i j ei ej h1 h2 hji h3 h4 h5;exact⟨k,f,y1,y2,kf _ y3,y4⟩
    .omega
   .rcases vD h3 with⟨_,h3⟩|⟨q,_⟩
    .obtain⟨vi,v2,x2,z1,z2,z3,_,z4,z5,z6⟩:=frn h2;rcases sf.has j ej h3 h4 with⟨k,f,y1,y2,y3,y4⟩|⟨t',z,y1,y2,y3,y4,y5⟩
     .exact⟨k,f,y1,(gh.1 y2).1,kf _ y2,y3,y4⟩
     .have h5:ej.value=r.2.2.value:=h5;exact absurd (y5.trans (h5.trans (z1.trans z5.symm))) (held t' z y2 y3 y4 x2 z4 z6)
    .omega
def zu9(T:List (List fQ))(hl:w.zm=[]):EB w (T.map kI):=by
 have offT:∀{t:Nat} {x:fM} {P:Prop},(T.map kI)[t]?=some x->x.on=true->P:=λh hon=>by
  obtain⟨L,_,rfl⟩:=gT.1 ((gy ..).symm.trans h);cases hon
 exact⟨λ_ _ h q=>offT h q.1,λ_ _ h q=>offT h q.1,λ_ _ h q=>offT h q.1,λ_ _ h q=>offT h q.1,λ_ _ h q=>offT h q.1,λ_ _ h q=>offT h q.1,λ_ _ h q=>offT h q.1,λ_ _ _ h q=>offT h q.1,λr hr=>(by rw[hl]at hr;cases hr),λ_ _ h q=>offT h q.1,λr hr=>(by rw[hl]at hr;cases hr)⟩
def Tc{N K:Nat}{s:Wor.iC}(gi:GI N K s.1 s.2.1)(eb:EB s.1 s.2.1)(sf:SF s)(l:List Int):∀k,k<=l.length->N+k<=100000000->K+k<=1099511627776->EB (ir s l k).1 (ir s l k).2.1/\SF (ir s l k)
 |0,_,_,_=>⟨eb,sf⟩
 |k+1,hk,hN,hK=>by
  have ih:=Tc gi eb sf l k aw aw aw;have g:=kh gi l k aw aw aw;rw[xZ (gk aw)];exact⟨zxR g ih.1 _ aw aw,zy4 g ih.1 ih.2 _ aw aw⟩
theorem ztA{s:Sna}{l:List fK}{n:Int}(h:lx s l n=(w,0)):w.zm=[]:=by
 unfold lx at h
 grind
def zwQ{s:fU}(ok:v7 s)(h:(zZ s).2.2=0):EB (q8 s).1 (q8 s).2.1/\SF (q8 s)/\zZ s=((q8 s).2.2,(q8 s).1,0):=by
 have hb:=D5 h;obtain⟨q,hn⟩:=jI hb;obtain⟨_,_,_,p4,_,_⟩:=jF q;have s0:SF (iE s):=⟨λe h=>aR,λe h=>aR,λa b ea eb _ h=>aR,λj e h=>aR,λi j ei ej h=>aR⟩;have z:=Tc (xf ok hb) (zu9 s.threads (ztA hn)) s0 s.zJ s.zJ.length (gG _) aw aw;exact⟨z.1,z.2,cw⟩
end Go.Run
