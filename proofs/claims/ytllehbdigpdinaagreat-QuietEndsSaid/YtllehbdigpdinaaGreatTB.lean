import Derived.Still
import Derived.Laws.Pointers
import Derived.Laws.StructEq
import Derived.Laws.Cover3
import Derived.ChangeKeysEq
import Derived.Laws.BytesArg
import Derived.RangeFuncRecord
import Derived.Carry
import Derived.MapKept
import Derived.WideKeyRuns
import Derived.Maps.RangeRun
import Derived.Test.YtllehbdigpdinaaGreatTA
set_option linter.all false
set_option maxRecDepth 100000
set_option maxHeartbeats 4000000
namespace Go.Ab
variable{e t:TypeId}{i:TypeInfo}{α υ:Type}{d:TypeDesc}{H H':zn}{x:Nat×List (List C)}{w:World}{E E':Env}{sz b fo clock:Nat}{rows:List (List C)}{vals:List Value}{cur:Array Value}{y z:Value}{ob ob':Ob}{cs args:List C}{dst:Option Tmp}{c r:C}{o:Oper}{s:S}{K:S->Prop}{hops:List ig}{fn:Func}{f:FuncId}{R:C->zn->Prop}{σ:Operand->Value}{lo:Option Operand}{ρ:Operand->C}{P:Program}{es:Array MapEntry}
def jT(H:zn)(id:Nat):zn:=H.modify id λob=>match ob with
 |⟨_,ty,sz,rows,fz⟩=>⟨0,ty,sz,rows,fz⟩
def yH(H:zn)(id j:Nat):(jT H id)[j]?=(H[j]?).map λob=>if id=j then {ob with kind:=0} else ob:=by
 unfold jT;rw[pZ]
 rfl
def vF{id:Nat}{id':Nat}{p:List ig}(h:qd (jT H id) id' p=some x):id'≠id/\qd H id' p=some x:=by
 obtain⟨ob,ho,hk,hg⟩:=ju h;rw[yH]at ho;cases hx:H[id']? with
 |none=>rw[hx]at ho;cases ho
 |some ob0=>
  rw[hx]at ho;simp only[gK,gX]at ho;by_cases hid:id=id'
  .subst hid;simp at ho;subst ho;simp at hk
  .rw[gp hid]at ho;subst ho;refine⟨Ne.symm hid,?_⟩;unfold qd;rw[hx];simp only[hk,if_true];exact hg
def qn.kill(h:qn w E H)(id:Nat):qn w E (jT H id) where
 n:=by rw[h.n];simp[jT]
 fR id' ob p sz rows hob hx:=by
  obtain⟨h1,h2⟩:=vF hx;rw[yH]at hob;cases hx':H[id']? with
  |none=>rw[hx']at hob;cases hob
  |some ob0=>
   rw[hx']at hob;simp only[gK,gX,gp (Ne.symm h1)]at hob;subst hob;exact h.fR id' _ p sz rows hx' h2
 inj id1 p1 id2 p2 x y hx hy he:=h.inj id1 p1 id2 p2 x y (vF hx).2 (vF hy).2 he
 qA:=h.qA
 sep id' p x o u hx hu:=by
  obtain⟨h1,h2⟩:=vF hx;obtain⟨e1,ob,e2,e3⟩:=h.sep id' p x o u h2 hu;refine⟨e1,ob,?_,e3⟩;rw[yH,e2];simp[Ne.symm h1]
 ty id' ob hob hk:=by
  rw[yH]at hob;cases hx':H[id']? with
  |none=>rw[hx']at hob;cases hob
  |some ob0=>
   rw[hx']at hob;simp only[gK,gX]at hob;by_cases hid:id=id'
   .rw[gz hid]at hob;subst hob;simp at hk
   .rw[gp hid]at hob;subst hob;exact h.ty id' _ hx' hk
 fz id' ob hob:=by
  rw[yH]at hob;cases hx':H[id']? with
  |none=>rw[hx']at hob;cases hob
  |some ob0=>
   rw[hx']at hob;simp only[gK,gX]at hob;have h0:=h.fz id' ob0 hx';subst hob;split <;> exact h0
def qL.kill(w:World)(E:Env)(H:zn)(id:Nat):qL w E H w E (jT H id):=
 ⟨Env.le.refl E,λ_ _ _=>V,rfl,rfl,rfl,gG _,λ_ _ _=>V,λ_ _ _ h=>.inl h,λb ⟨id',p,x,hx,he⟩=>.inr ⟨id',p,x,(vF hx).2,he⟩⟩
def Env.again(E:Env)(id:Nat):Env:=
 {n:=E.n+1,β:=λid' hops=>if id'=E.n then E.β id hops else E.β id' hops,κ:=λid' hops=>if id'=E.n then E.κ id hops else E.κ id' hops,St:=E.St,G:=E.G}
def Env.zuF(E:Env)(id:Nat):E.le (E.again id):=
 ⟨ru _,λid' hops h=>by simp[Env.again,tq h],λid' hops h=>by simp[Env.again,tq h],λb o u h=>h,λ_ _ _ _ h=>h⟩
def qn.drew{w:World}{E:Env}{H:zn}(h:qn w E H):qn w.drew E H:=
 ⟨h.n,λid ob p sz rows h1 h2=>let b:=h.fR id ob p sz rows h1 h2;⟨b.len,b.row,b.fR⟩,h.inj,h.qA,h.sep,h.ty,h.fz⟩
def qL.drew(w:World)(E:Env)(H:zn):qL w E H w.drew E H:=
 ⟨Env.le.refl E,λ_ _ _=>V,rfl,rfl,rfl,gG _,λ_ _ _=>V,λ_ _ _ h=>.inl h,λ_ h=>.inr h⟩
def mZ.zB{E:Env}{sz:Nat}{rows:List (List C)}{vals:List Value}(h:mZ E sz rows vals){i k:Nat}{c:C}(hc:cellAt rows i k=some c):zB c=true:=by
 obtain⟨u,_,hl⟩:=h.cell i k c hc;cases hl with
 |fF o sz rows b off cap us ho _ _ _ _=>rcases ho with rfl|⟨rfl,_⟩ <;> rfl
 |xE o sz ho=>rcases ho with rfl|rfl <;> rfl
 |_=>rfl
def qn.LS(h:qn w E H)(ty:TypeId){κ:Nat}(hr:mZ E sz rows vals)(hlen:rows.length<=κ)(hcur:cur.size=κ*sz)
 (htake:cur.toList.take vals.length=vals):
  qn (w.alloc (.cells cur ty)) (E.push w.heap.size κ) (H++[⟨2,ty,sz,rows,0⟩])/\qL w E H (w.alloc (.cells cur ty)) (E.push w.heap.size κ) (H++[⟨2,ty,sz,rows,0⟩]):=by
 refine h.push 2 ty sz κ rows cur (.inr V) hr.row hlen hcur (λi k c hc=>hr.zB hc) ?_;intro i k c hc;obtain⟨u,hu,hl⟩:=hr.cell i k c hc;refine⟨u,?_,by simpa [Env.at] using hl,hr.one u (gu hu)⟩;rw[<-htake,pB]at hu;split at hu
 .simpa using hu
 .cases hu
def qn.zwA(h:qn w E H)(ty:TypeId){κ:Nat}(hr:mZ E sz rows vals)(hlen:rows.length<=κ)(hcur:cur.size=κ*sz)
 (htake:cur.toList.take vals.length=vals)(fz:Nat)(hfz:fz<=rows.length):
  qn (w.alloc (.cells cur ty)) (E.push w.heap.size κ) (H++[⟨2,ty,sz,rows,fz⟩])/\qL w E H (w.alloc (.cells cur ty)) (E.push w.heap.size κ) (H++[⟨2,ty,sz,rows,fz⟩]):=by
 obtain⟨h1,h2⟩:=h.LS ty hr hlen hcur htake
 have hgb:∀id p,qd (H++[⟨2,ty,sz,rows,fz⟩]) id p=qd (H++[⟨2,ty,sz,rows,0⟩]) id p:=by
  intro id p;unfold qd;by_cases fE:id<H.length
  .rw[gF fE,gF fE]
  .rw[gP aw,gP aw];cases id-H.length <;> simp
 have hob:∀id ob,(H++[⟨2,ty,sz,rows,fz⟩])[id]?=some ob->∃ob',(H++[⟨2,ty,sz,rows,0⟩])[id]?=some ob'/\ob.kind=ob'.kind/\ob.ty=ob'.ty/\(id<H.length->ob=ob')/\(¬id<H.length->ob.fz=fz/\ob.rows=rows):=by
  intro id ob hob;by_cases fE:id<H.length
  .rw[gF fE]at hob;exact⟨ob,by rw[gF fE];exact hob,rfl,rfl,λ_=>V,λhn=>absurd fE hn⟩
  .rw[gP aw]at hob;rw[gP aw];cases hd:id-H.length with
   |zero=>rw[hd]at hob;simp at hob;subst hob;exact⟨_,rfl,rfl,rfl,λhl=>absurd hl fE,λ_=>⟨rfl,rfl⟩⟩
   |succ n=>rw[hd]at hob;simp at hob
 refine⟨⟨by rw[h1.n];simp,?_,?_,h1.qA,?_,?_,?_⟩,⟨h2.le,h2.Gh,h2.os,h2.tape,h2.output,h2.size,h2.frame,h2.jZ,?_⟩⟩
 .intro id ob p s2 r2 h3 h4;obtain⟨ob',h5,h6,_⟩:=hob id ob h3;rw[hgb]at h4;rw[h6];exact h1.fR id ob' p s2 r2 h5 h4
 .intro id p id' p' x y hx hy he;rw[hgb]at hx hy;exact h1.inj id p id' p' x y hx hy he
 .intro id p x o u hx hu;rw[hgb]at hx;obtain⟨e1,ob,e2,e3⟩:=h1.sep id p x o u hx hu;refine⟨e1,?_⟩;by_cases fE:id<H.length
  .rw[gF fE]at e2|-;exact⟨ob,e2,e3⟩
  .exfalso
   have h5:=(gh.1 e2).1;simp at h5;have:id=H.length:=aw
   subst this;simp at e2;subst e2;simp at e3
 .intro id ob h3 h4;obtain⟨ob',h5,h6,h7,_⟩:=hob id ob h3;rw[h7];exact h1.ty id ob' h5 (by rw[<-h6];exact h4)
 .intro id ob h3;obtain⟨ob',h5,_,_,h8,h9⟩:=hob id ob h3;by_cases fE:id<H.length
  .rw[h8 fE];exact h1.fz id ob' h5
  .obtain⟨e1,e2⟩:=h9 fE;rw[e1,e2];exact hfz
 .rintro b ⟨id,p,x,hx,hb⟩;rw[hgb]at hx;exact h2.own b ⟨id,p,x,hx,hb⟩
def Mx(hn:E.n=H.length)(g κ sz len:Nat)(full:Bool)(cap:Nat)(hlen:len<=cap)(hf:full=true->cap=len)(hf':full=false->cap=κ):
  L (E.push g κ) (.sl H.length [] sz 0 len full) (.slice (some ⟨g,0,none⟩) len cap):=by
 have:=L.sl (E:=E.push g κ) H.length [] sz 0 len full cap (by simp[Env.push,hn]) hlen hf (λe=>by simp[Env.push,hn,hf' e]);have hb:(E.push g κ).β H.length []=g:=by simp[Env.push,hn]
 rw[hb,sL]at this;exact dG
def qn.again{w:World}{E:Env}{H:zn}(hh:qn w E H){id:Nat}{ob:Ob}(hob:H[id]?=some ob)(hkd:ob.kind=2){rows:List (List C)}{vals:List Value}(qb:mZ E ob.sz rows vals)
 {cur cur':Array Value}(hg:w.heap[E.β id []]?=some (.cells cur ob.ty (0,0)))(hsize:cur'.size=E.κ id []*ob.sz)(hlen:rows.length<=E.κ id [])(htake:cur'.toList.take vals.length=vals)(hfz:ob.fz<=rows.length)
 (hst:∀o u,E.St (E.β id []) o=some u->cur'[o]?=some u):
  qn (w.setRow (E.β id []) cur') (E.again id) (jT H id++[⟨2,ob.ty,ob.sz,rows,ob.fz⟩])/\qL w E H (w.setRow (E.β id []) cur') (E.again id) (jT H id++[⟨2,ob.ty,ob.sz,rows,ob.fz⟩]):=by
 have hgb:qd H id []=some (ob.sz,ob.rows):=by unfold qd;rw[hob];simp[hkd,jc]
 have hnew:∀hops,(E.again id).β H.length hops=E.β id hops:=λhops=>by simp[Env.again,hh.n]
 have hle:=E.zuF id;have hold':∀id' hops,id'<H.length->(E.again id).β id' hops=E.β id' hops:=λid' hops fE=>hle.β id' hops bB
 have hkl:(jT H id).length=H.length:=by simp[jT]
 have get:∀id' p x,qd (jT H id++[⟨2,ob.ty,ob.sz,rows,ob.fz⟩]) id' p=some x->(id'<H.length/\id'≠id/\qd H id' p=some x)\/(id'=H.length/\p=[]/\x=(ob.sz,rows)):=by
  intro id' p x hx';by_cases fE:id'<H.length
  .rw[wL (by rw[hkl];exact fE)]at hx';obtain⟨h5,h6⟩:=vF hx';exact .inl ⟨fE,h5,h6⟩
  .have h5:=Dg hx';simp[hkl]at h5;have:id'=H.length:=by omega
   subst this;simp only[qd,<-hkl,gP (gG _),rR,uw]at hx';rw[gz aj]at hx';obtain⟨h6,h7⟩:=DW (λi k c hc=>qb.zB hc) hx';exact .inr ⟨rfl,h6,h7⟩
 have hdiff:∀id' p x,id'≠id->qd H id' p=some x->E.β id' p≠E.β id []:=λid' p x hne' hx' he=>hne' (hh.inj id' p id [] _ _ hx' hgb he).1
 have hget:∀id' ob',(jT H id++[⟨2,ob.ty,ob.sz,rows,ob.fz⟩])[id']?=some ob'->(id'<H.length/\∃ob0,H[id']?=some ob0/\((id'=id/\ob'={ob0 with kind:=0})\/(id'≠id/\ob'=ob0)))\/(id'=H.length/\ob'=⟨2,ob.ty,ob.sz,rows,ob.fz⟩):=by
  intro id' ob' hob';by_cases fE:id'<H.length
  .left
   rw[gF (by rw[hkl];exact fE),yH]at hob';cases hx3:H[id']? with
   |none=>rw[hx3]at hob';cases hob'
   |some ob0=>
    rw[hx3]at hob';simp only[gK,gX]at hob';refine⟨fE,ob0,rfl,?_⟩;by_cases hid:id=id'
    .subst hid;rw[gz V]at hob';exact .inl ⟨rfl,hob'.symm⟩
    .rw[gp hid]at hob';exact .inr ⟨Ne.symm hid,hob'.symm⟩
  .right
   have h1:=(gh.1 hob').1;simp[hkl]at h1;have:id'=H.length:=aw
   subst this;rw[<-hkl]at hob';simp at hob';exact⟨rfl,hob'.symm⟩
 refine⟨⟨by simp[Env.again,hh.n,hkl],?_,?_,?_,?_,?_,?_⟩,⟨hle,λ_ _ _=>V,rfl,rfl,rfl,by simp[World.setRow],?_,λb o' u hu'=>.inl hu',?_⟩⟩
 .intro id' ob' p sz' r' hob' hx';rcases get id' p _ hx' with⟨fE,hne',hx2⟩|⟨rfl,rfl,hx2⟩
  .rcases hget id' ob' hob' with⟨_,ob0,h1,⟨h2,_⟩|⟨_,h2⟩⟩|⟨h2,_⟩
   .exact absurd h2 hne'
   .subst h2;exact(hh.fR id' _ p sz' r' h1 hx2).step hle bB (setRow_other w _ _ _ (hdiff id' p _ hne' hx2))
   .omega
  .cases hx2
   rcases hget _ ob' hob' with⟨h1,_⟩|⟨_,h2⟩
   .omega
   .subst h2;refine⟨by simp[Env.again,hh.n];exact hlen,qb.row,cur',ob.ty,by rw[hnew];exact setRow_heap w _ cur cur' _ _ hg,by simp[Env.again,hh.n];exact hsize,?_⟩;intro i' k c hc;obtain⟨u,hu',hl'⟩:=qb.cell i' k c hc;refine⟨u,?_,(jf.loose (qb.zB hc)).2 ⟨by simpa [Env.at] using hl'.mono hle.shut,qb.one u (gu hu')⟩⟩;rw[<-htake,pB]at hu';split at hu'
    .simpa using hu'
    .cases hu'
 .intro id1 p1 id2 p2 x y hx' hy' he;rcases get id1 p1 _ hx' with⟨fE,hne',hx2⟩|⟨rfl,rfl,_⟩ <;> rcases get id2 p2 _ hy' with⟨hlt',hne2,hy2⟩|⟨rfl,rfl,_⟩
  .rw[hold' id1 p1 fE,hold' id2 p2 hlt']at he;exact hh.inj id1 p1 id2 p2 x y hx2 hy2 he
  .rw[hold' id1 p1 fE,hnew]at he;exact absurd he (hdiff id1 p1 _ hne' hx2)
  .rw[hold' id2 p2 hlt',hnew]at he;exact absurd he.symm (hdiff id2 p2 _ hne2 hy2)
  .exact dN
 .intro b o' u hu';refine⟨?_,(hh.qA b o' u hu').2⟩;have hst':=(hh.qA b o' u hu').1;by_cases hbb:b=E.β id []
  .subst hbb;unfold World.cell?;rw[setRow_heap w _ cur cur' _ _ hg];simpa using hst o' u hu'
  .unfold World.cell? at hst'|-;simp only[setRow_other w _ _ _ hbb];exact hst'
 .intro id' p x o' u hx' hu';rcases get id' p _ hx' with⟨fE,hne',hx2⟩|⟨rfl,rfl,_⟩
  .rw[hold' id' p fE]at hu';obtain⟨e1,ob0,e2,e3⟩:=hh.sep id' p _ o' u hx2 hu';refine⟨e1,ob0,?_,e3⟩;rw[gF (by rw[hkl];exact fE),yH,e2];simp[Ne.symm hne']
  .rw[hnew]at hu';obtain⟨_,ob0,e2,e3⟩:=hh.sep id [] _ o' u hgb hu';rw[hob]at e2;cases e2
   exact⟨rfl,⟨2,ob.ty,ob.sz,rows,ob.fz⟩,by rw[<-hkl];simp,e3⟩
 .intro id' ob' hob' hk';rcases hget id' ob' hob' with⟨fE,ob0,h1,⟨_,h2⟩|⟨hne',h2⟩⟩|⟨rfl,h2⟩
  .subst h2;simp at hk'
  .subst h2;obtain⟨cur0,hc0⟩:=hh.ty id' _ h1 hk';rw[hold' id' [] fE];by_cases hbb:E.β id' []=E.β id []
   .rw[hbb]at hc0|-;rw[hg]at hc0
    injection hc0 with hc0
    injection hc0 with h7 h8
    exact⟨cur',by rw[<-h8];exact setRow_heap w _ cur cur' _ _ hg⟩
   .exact⟨cur0,by rw[setRow_other w _ _ _ hbb];exact hc0⟩
  .subst h2;exact⟨cur',by rw[hnew];exact setRow_heap w _ cur cur' _ _ hg⟩
 .intro id' ob' hob';rcases hget id' ob' hob' with⟨fE,ob0,h1,⟨_,h2⟩|⟨_,h2⟩⟩|⟨rfl,h2⟩
  .subst h2;exact hh.fz id' ob0 h1
  .subst h2;exact hh.fz id' _ h1
  .subst h2;exact hfz
 .intro k hk ho;exact setRow_other w _ _ _ (λe'=>ho ⟨id,[],_,hgb,e'.symm⟩)
 .rintro b ⟨id',p,x,hx',rfl⟩
  right
  rcases get id' p _ hx' with⟨fE,_,hx2⟩|⟨rfl,rfl,_⟩
  .exact⟨id',p,x,hx2,by rw[hold' id' p fE]⟩
  .exact⟨id,[],_,hgb,by rw[hnew]⟩
section
variable {P:Program} {o:Oper} {ρ:Operand->C} {H:zn}
structure Bf(P:Program)(cl:Call)(x y:Operand)(e:TypeId)(i:TypeInfo)(z:Value):Prop where
 callee:cl.callee=.builtin .append
 args:cl.args= #[x,y]
 ty:∃t,cl.argTypes= #[t,t]/\P.underlying t=some (.slice e)
 info:P.info? e=some i
 zero:i.zero=some z
 MO:z.cells.size=i.size
def wG{cl:Call}(ho:o.op=.call cl){x y:Operand}(ht:Bf P cl x y e i z)(σ:Operand->Value)(w:World):
  ∃t,P.underlying t=some (.slice e)/\∀v w',(Builtin.append_ #[t,t] o.type #[σ x,σ y]).run P w=.ok v w'->(execOp σ o).run P w=.ok (.value v) w':=by
 obtain⟨t,h1,h2⟩:=ht.ty;refine⟨t,h2,λv w' hr=>?_⟩;unfold execOp;simp[ho,resolve,ht.callee,ht.args,h1,invoke,builtin,hr]
def qU.XP(cl:Call)(ho:o.op=.call cl)(x y:Operand)(ht:Bf P cl x y e i z){sz':Nat}(hx:xU H (ρ x)=some (sz,rows))
 (hy:xU H (ρ y)=some (sz',[])):qU P o ρ H (ρ x) H:=λw E σ hh hl K hk=>by
 have h0:=hl x tA;have h1:=hl y tA;obtain⟨t,hu,hexec⟩:=wG ho ht σ w
 have hyv:∃a cap,σ y=.slice a 0 cap:=by
  rcases yJ hh h1 hy with⟨_,e1⟩|⟨a,cap,vals,e1,_⟩
  .exact⟨none,0,e1⟩
  .exact⟨some a,cap,e1⟩
 obtain⟨a,cap,hyv⟩:=hyv
 have hr:(Builtin.append_ #[t,t] o.type #[σ x,σ y]).run P w=.ok (σ x) w:=by
  rcases yJ hh h0 hx with⟨_,e1⟩|⟨a',cap',vals,e1,hcap,_⟩
  .cases a <;> simp[Builtin.append_,run_underlying hu,sizeOf,typeInfo,ht.info,Builtin.lenOf,hyv,e1,Builtin.firstCells,loadCells,loadCellsFrom]
  .cases a <;> simp[Builtin.append_,run_underlying hu,sizeOf,typeInfo,ht.info,Builtin.lenOf,hyv,e1,hcap,Builtin.firstCells,loadCells,loadCellsFrom,storeCells]
 rw[hexec _ _ hr];exact hk _ w E hh h0 (qL.refl w E H)
def qU.Pr(cl:Call)(ho:o.op=.call cl)(x y:Operand)(ht:Bf P cl x y e i z)(hx:ρ x=.fF 1 sz rows)(hsz:rows=[]\/sz=i.size)
 {rows':List (List C)}(hy:xU H (ρ y)=some (i.size,rows'))(hne:rows'≠[])(hm:rows.length+rows'.length<=maxLen)(hb:(rows.length+rows'.length)*i.bytes<=140737488355328):
  qU P o ρ H (.sl H.length [] i.size 0 (rows.length+rows'.length) false) (H++[⟨2,e,i.size,rows++rows',0⟩]):=λw E σ hh hl K hk=>by
 have h0:=hl x tA;have h1:=hl y tA;obtain⟨t,hu,hexec⟩:=wG ho ht σ w;have hpos:0<rows'.length:=sg.2 hne;have hsmall:rows.length+rows'.length<=9223372036854775807:=bC
 rcases yJ hh h1 hy with⟨e1,_⟩|⟨a,cap,vals,e1,_,hrows,hmem⟩
 .exact absurd e1 hne
 have hold:∃olds,mZ E i.size rows olds/\((rows=[]/\σ x=.slice none 0 0)\/∃b,σ x=.slice (some b) rows.length rows.length/\∀(j:Nat) u,olds[j]?=some u->w.cell? (b.add j)=some u):=by
  rw[hx]at h0;have hrx:xU H (.fF 1 sz rows)=some (sz,rows):=by simp[xU]
  rcases yJ hh h0 hrx with⟨e2,e3⟩|⟨b,cap',olds,e3,hcap',hro,hmo⟩
  .subst e2;exact⟨[],⟨aj,aj,by simp[cellAt],aj⟩,.inl ⟨rfl,e3⟩⟩
  .have hfull:cap'=rows.length:=by
    rw[e3]at h0;cases h0 with
    |fF o sz rows b off cap us ho hc hsz' hst hL=>rcases ho with h|⟨_,h⟩;cases h;exact h
    |xE o sz ho a=>rfl
   rw[hfull]at e3;rcases hsz with rfl|rfl
   .exact⟨[],⟨aj,aj,by simp[cellAt],aj⟩,.inr ⟨b,e3,aj⟩⟩
   .exact⟨olds,hro,.inr ⟨b,e3,hmo⟩⟩
 obtain⟨olds,hro,hcase⟩:=hold;have qb:=hro.append hrows;have hz:=ht.MO
 have fin:∀(v:Value) (cap':Nat) (w':World),rows.length+rows'.length<=cap'->w'=w.drew.alloc (.cells ((olds++vals).toArray++Builtin.zeroCells z.cells (cap'-(rows.length+rows'.length))) e)->
   v=.slice (some ⟨w.heap.size,0,none⟩) (rows.length+rows'.length) cap'->(Builtin.append_ #[t,t] o.type #[σ x,σ y]).run P w=.ok v w'->oQ P K ((execOp σ o).run P w):=by
  intro v cap' w' hcap' hw hv hr;rw[hexec _ _ hr]
  have hsize:((olds++vals).toArray++Builtin.zeroCells z.cells (cap'-(rows.length+rows'.length))).size=cap'*i.size:=by
   have h2:(olds++vals).length=(rows.length+rows'.length)*i.size:=by rw[qb.len,pz]
   simp only[eZ,ux,size_zeroCells,hz];rw[h2,<-rk]
   congr 1
   omega
  have:=hh.drew.LS e (κ:=cap') (qb) (cur:=(olds++vals).toArray++Builtin.zeroCells z.cells (cap'-(rows.length+rows'.length))) (aq hcap') hsize (by rw[sO];exact uv);subst hw;subst hv;refine hk _ _ _ this.1 ?_ ((qL.drew w E H).trans this.2);exact Mx hh.n _ _ _ _ false cap' hcap' aj (λ_=>V)
 rcases hcase with⟨rfl,e3⟩|⟨b,e3,hmo⟩
 .have holds0:olds=[]:=eL (aq hro.len);subst holds0;have hr:=run_append_nil (P:=P) w t o.type e i z hu ht.info ht.zero a rows'.length cap vals hrows.len hmem hpos (by simp at hsmall;omega) (by simp at hb;omega);rw[<-e3,<-e1]at hr;refine fin _ (grownCap w rows'.length 0 e) _ ?_ ?_ ?_ hr
  .simpa using grownCap_ge w rows'.length 0 e
  .simp
  .simp
 .have hr:=run_append_grow (P:=P) w t o.type e i z hu ht.info ht.zero b rows.length rows.length olds hro.len hmo a rows'.length cap vals hrows.len hmem aw aw (growslice_fits aw hb);rw[<-e3,<-e1]at hr;refine fin _ (grownCap w (rows.length+rows'.length) rows.length e) _ ?_ ?_ V hr
  .exact grownCap_ge w _ _ e
  .simp
def qU.Qv(cl:Call)(ho:o.op=.call cl)(x y:Operand)(ht:Bf P cl x y e i z){id n:Nat}(hx:ρ x=.sl id [] i.size 0 n false)(hob:H[id]?=some ob)
 (hkd:ob.kind=2)(hty:ob.ty=e)(hsz:ob.sz=i.size)(hn:ob.rows.length=n)(hno:ob.rows.all (·.all zB)=true)
 {rows':List (List C)}(hy:xU H (ρ y)=some (i.size,rows'))(hne:rows'≠[])(hm:n+rows'.length<=maxLen)(hb:(n+rows'.length)*i.bytes<=140737488355328):
  qU P o ρ H (.sl H.length [] i.size 0 (n+rows'.length) false) (jT H id++[⟨2,e,i.size,ob.rows++rows',ob.fz⟩]):=λw E σ hh hl K hk=>by
 subst hn;have h0:=hl x tA;have h1:=hl y tA;obtain⟨t,hu,hexec⟩:=wG ho ht σ w;have hpos:0<rows'.length:=sg.2 hne;have hsmall:ob.rows.length+rows'.length<=9223372036854775807:=bC
 have hgb:qd H id []=some (i.size,ob.rows):=by unfold qd;rw[hob];simp[hkd,jc,hsz]
 rcases yJ hh h1 hy with⟨e1,_⟩|⟨a,cap,vals,e1,_,hrows,hmem⟩
 .exact absurd e1 hne
 have hrx:xU H (ρ x)=some (i.size,ob.rows):=by
  rw[hx];simp only[xU,hob,hgb];rw[gz]
  .simp
  .simp only[gH,pT,gR];refine⟨⟨⟨trivial,hkd⟩,aw⟩,aq hno⟩
 have hB:=hh.fR id ob [] _ _ hob hgb;obtain⟨cur,e',hg,hcs,hcell⟩:=hB.fR;obtain⟨cur2,hg2⟩:=hh.ty id ob hob hkd;rw[hg]at hg2;cases hg2
 rw[hty]at hg
 have hxv:σ x=.slice (some ⟨E.β id [],0,none⟩) ob.rows.length (E.κ id []):=by
  rw[hx]at h0;generalize σ x=u at *;cases h0 with
  |sl id hops sz lo len full cap hn hlen hf hf'=>
   have:=hf' V;simp at this;subst this;simp
 rcases yJ hh h0 hrx with⟨_,e3⟩|⟨b,cap',olds,e3,hcap',hro,hmo⟩
 .rw[hxv]at e3;cases e3
 rw[hxv]at e3;cases e3
 have qb:=hro.append hrows;have hz:=ht.MO
 have holds:cur.toList.take olds.length=olds:=by
  apply pC
  intro j;rw[pB];split
  .rename_i hj;have h3:=hmo j olds[j] (by simp[hj]);rw[xY]at h3;unfold World.cell? at h3;rw[hg]at h3;simp at h3;simp[hj,h3]
  .rename_i hj;rw[pM aw]
 by_cases hroom:ob.rows.length+rows'.length<=E.κ id []
 ·
  have hfit:ob.rows.length*i.size+vals.length<=cur.size:=bD
  have hr:=run_append_room (P:=P) w t o.type e i hu ht.info (E.β id []) ob.rows.length (E.κ id []) cur hg a rows'.length cap vals hrows.len hmem hrows.one hroom hfit;rw[<-hxv,<-e1]at hr;rw[hexec _ _ hr];obtain⟨cur',hcur'⟩:∃cur',cur'=(cur.toList.take (ob.rows.length*i.size)++vals++cur.toList.drop (ob.rows.length*i.size+vals.length)).toArray:=⟨_,rfl⟩;rw[<-hcur'];have hlo:ob.rows.length*i.size=olds.length:=hro.len.symm
  have htake:cur'.toList.take (olds++vals).length=olds++vals:=by
   rw[hcur',hlo,holds];exact uv
  have hsize:cur'.size=E.κ id []*ob.sz:=by rw[hsz,<-hcs,hcur'];simp;omega
  have hA:=hh.again hob hkd (rows:=ob.rows++rows') (vals:=olds++vals) (by rw[hsz];exact qb) (cur:=cur) (cur':=cur') (by rw[hty];exact hg) hsize (aq hroom) htake (by have:=hh.fz id ob hob;simp;omega) ?_
  .rw[hsz,hty]at hA;refine hk _ _ _ hA.1 ?_ hA.2;have:=L.sl (E:=E.again id) H.length [] i.size 0 (ob.rows.length+rows'.length) false (E.κ id []) (by simp[Env.again,hh.n]) hroom aj (λ_=>by simp[Env.again,hh.n]);have hb':(E.again id).β H.length []=E.β id []:=by simp[Env.again,hh.n]
   rw[hb',sL]at this;exact dG
  .intro o' u hu';obtain⟨_,ob',e2,e3'⟩:=hh.sep id [] _ o' u hgb hu';rw[hob]at e2;cases e2
   have hst:=(hh.qA _ _ _ hu').1;unfold World.cell? at hst;rw[hg]at hst;simp at hst
   have h7:o'<ob.rows.length*i.size:=by
    rw[hsz]at e3';exact pN e3' (p7 _ (hh.fz id ob hob))
   rw[hcur'];simp only[tt];rw[rO,gF aA,pB,gz h7,pD];exact hst
 ·
  have hr:=run_append_grow (P:=P) w t o.type e i z hu ht.info ht.zero ⟨E.β id [],0,none⟩ ob.rows.length (E.κ id []) olds hro.len hmo a rows'.length cap vals hrows.len hmem aw aw (growslice_fits aw hb);rw[<-hxv,<-e1]at hr;rw[hexec _ _ hr];obtain⟨cap',hcap2⟩:∃cap',cap'=grownCap w (ob.rows.length+rows'.length) (E.κ id []) e:=⟨_,rfl⟩;have hge:ob.rows.length+rows'.length<=cap':=by rw[hcap2];exact grownCap_ge w _ _ e
  rw[<-hcap2]
  have hsize:((olds++vals).toArray++Builtin.zeroCells z.cells (cap'-(ob.rows.length+rows'.length))).size=cap'*i.size:=by
   have h2:(olds++vals).length=(ob.rows.length+rows'.length)*i.size:=by rw[qb.len,pz]
   simp only[eZ,ux,size_zeroCells,hz];rw[h2,<-rk]
   congr 1
   omega
  have hk1:=hh.drew.kill id;have hB2:=hk1.zwA e (κ:=cap') qb (cur:=(olds++vals).toArray++Builtin.zeroCells z.cells (cap'-(ob.rows.length+rows'.length))) (aq hge) hsize (by rw[sO];exact uv) ob.fz (by have:=hh.fz id ob hob;simp;omega);have hkl:(jT H id).length=H.length:=by simp[jT]
  have hval:(olds.toArray++vals.toArray++Builtin.zeroCells z.cells (cap'-(ob.rows.length+rows'.length)))=((olds++vals).toArray++Builtin.zeroCells z.cells (cap'-(ob.rows.length+rows'.length))):=aj
  rw[hval];refine hk _ _ _ hB2.1 ?_ ((qL.drew w E H).trans ((qL.kill w.drew E H id).trans hB2.2));have:=Mx (E:=E) (H:=jT H id) hk1.n w.heap.size cap' i.size (ob.rows.length+rows'.length) false cap' hge aj (λ_=>V);rw[hkl]at this;exact dG
end
section
variable {P:Program} {o:Oper} {ρ:Operand->C} {H:zn}
def Of(z:Array Value)(n j:Nat)(h:j<n):(madeCells z n)[j]?=some z[j%z.size]!:=by
 simp[madeCells,h]
def N2(hz:ox P t=some cs)(hsh:cs.all xm=true)(n:Nat):∃i z,P.info? t=some i/\i.zero=some z/\z.cells.size=i.size/\cs.length=i.size/\
  mZ E i.size (List.replicate n cs) (madeCells z.cells (n*i.size)).toList:=by
 obtain⟨i,z,hi,hzz,hll,h1,hsz,hno,hlen⟩:=Fy hz E;refine⟨i,z,hi,hzz,hsz,hlen,⟨by simp[madeCells],λr hr=>by rw[(sU.1 hr).2];exact hlen,?_,?_⟩⟩
 .intro r k c hc;unfold cellAt at hc;rw[sP]at hc;split at hc
  .rename_i hr;simp only[gW]at hc;have hk:k<i.size:=by rw[<-hlen];exact(gh.1 hc).1
   obtain⟨u,hu,hl⟩:=hll.get hc
   have fE:r*i.size+k<n*i.size:=by
    have:(r+1)*i.size<=n*i.size:=p7 _ hr;rw[rk]at this;omega
   refine⟨u,?_,hl.wj (gE.1 hsh c (gu hc))⟩;rw[pD,Of _ _ _ fE,hsz,tu,ft,u7 hk];rw[pD]at hu;rw[getElem!_def,hu]
  .simp at hc
 .intro u hu;obtain⟨j,hj⟩:=gI.1 hu;rw[pD]at hj
  have fE:j<n*i.size:=by
   have:=(gM.1 hj).1;simpa [madeCells] using this
  rw[Of _ _ _ fE]at hj;cases hj
  have hpos:0<i.size:=by rcases sV i.size with h|h <;> simp_all
  have hm:j%z.cells.size<z.cells.size:=Nat.mod_lt _ aw;rw[getElem!_pos z.cells _ hm];exact h1 _ (Array.getElem_mem hm)
def qU.makeSlice(t:TypeId)(x y:Operand)(ho:o.op=.makeSlice t x y)(ht:P.underlying t=some (.slice e))(hi:P.info? e=some i)(hz:ox P e=some cs)(hsh:cs.all xm=true)
 {k k':IntKind}{n:Int}(hx:ρ x=.v (.int k n))(hy:ρ y=.v (.int k' n))(h0:0<=n)(hb:(i.bytes:Int)*n<=281474976710656)(hm:n<=9223372036854775807):
  qU P o ρ H (.sl H.length [] i.size 0 n.toNat false) (H++[⟨2,e,i.size,List.replicate n.toNat cs,0⟩]):=λw E σ hh hl K hk=>by
 have h1:=hl x uY;have h2:=hl y uY;rw[hx]at h1;rw[hy]at h2;have hxv:σ x=.int k n:=by generalize σ x=u at *;cases h1;rfl
 have hyv:σ y=.int k' n:=by generalize σ y=u at *;cases h2;rfl
 obtain⟨i',z,hi',hzz,hsz,hlen,hrows⟩:=N2 (E:=E) hz hsh n.toNat;rw[hi]at hi';cases hi'
 have hr0:=run_make (P:=P) w t e i z ht hi hzz k k' n n h0 (gO _) hb hm
 have hr:(execOp σ o).run P w=.ok (.value (.slice (some ⟨w.heap.size,0,none⟩) n.toNat n.toNat)) (w.alloc (.cells (madeCells z.cells (n.toNat*i.size)) e)):=by
  unfold execOp;simp only[ho,hxv,hyv,Sem.run_bind,hr0,Result.andThen_ok]
  rfl
 rw[hr];have hB:=hh.LS e (κ:=n.toNat) hrows (cur:=madeCells z.cells (n.toNat*i.size)) aj (by simp[madeCells]) (by rw[pI]);exact hk _ _ _ hB.1 (Mx hh.n _ _ _ _ false n.toNat (gG _) aj (λ_=>V)) hB.2
def chunk(sz:Nat):Nat->List C->List (List C)
 |0,_=>[]
 |n+1,cs=>cs.take sz::chunk sz n (cs.drop sz)
def Oo(sz:Nat):∀(n:Nat) (cs:List C),(chunk sz n cs).length=n
 |0,_=>rfl
 |n+1,cs=>by simp[chunk,Oo sz n]
def KI(sz:Nat):∀(n:Nat) (cs:List C) (i:Nat),i<n->(chunk sz n cs)[i]?=some ((cs.drop (i*sz)).take sz)
 |0,_,_,h=>absurd h (pG _)
 |n+1,cs,0,_=>by simp[chunk]
 |n+1,cs,i+1,h=>by
  simp only[chunk,rB];rw[KI sz n _ i aw,List.drop_drop]
  congr 3
  rw[rk];omega
def Env.still(E:Env)(g:Nat)(cur:Array Value):Env:={E with St:=λb o=>if b=g then cur[o]? else E.St b o}
def qn.PZ(h:qn w E H)(ty:TypeId)(cur:Array Value)(h1:∀y∈cur,y.oneCell'=true):
  qn (w.alloc (.cells cur ty)) (E.still w.heap.size cur) H/\qL w E H (w.alloc (.cells cur ty)) (E.still w.heap.size cur) H:=by
 have hle:E.le (E.still w.heap.size cur):=⟨gG _,λ_ _ _=>V,λ_ _ _=>V,λb o u hu=>by
  have fE:=Ek (h.qA b o u hu).1;simp only[Env.still];rw[gp aw];exact hu,λ_ _ _ _ hu=>hu⟩
 refine⟨⟨h.n,?_,h.inj,?_,?_,?_,h.fz⟩,⟨hle,λ_ _ _=>V,rfl,rfl,rfl,by show _<=(w.heap.push _).size;simp,λk hk ho=>heap_alloc_old w _ hk,?_,λb hb=>.inr hb⟩⟩
 .intro id ob hops sz rows hob hx;have hb:=h.fR id ob hops sz rows hob hx;exact hb.step hle (by rw[h.n];exact Dg hx) (heap_alloc_old w _ hb.Lk)
 .intro b o u hu;simp only[Env.still]at hu;split at hu
  .rename_i hb;subst hb;refine⟨?_,h1 u (r8 hu)⟩;rw[World.cell?_alloc_new];exact hu
  .have hs:=h.qA b o u hu;exact⟨by rw[Pu (Ek hs.1)];exact hs.1,hs.2⟩
 .intro id hops x o u hx hu;have fE:=h.lt hx;simp only[Env.still]at hu;have hne:¬E.β id hops=w.heap.size:=by omega
  rw[gp hne]at hu;exact h.sep id hops x o u hx hu
 .intro id ob hob hk;obtain⟨cur',hc⟩:=h.ty id ob hob hk;exact⟨cur',by show(w.alloc _).heap[E.β id []]?=_;rw[heap_alloc_old w _ (gM.1 hc).1];exact hc⟩
 .intro b o u hu;simp only[Env.still]at hu;split at hu
  .rename_i hb;exact .inr (.inl aw)
  .exact .inl hu
def qU.Zx(t:TypeId)(x y:Operand)(ho:o.op=.makeSlice t x y)(ht:P.underlying t=some (.slice e))(hi:P.info? e=some i)(hz:ox P e=some cs)(hsh:cs.all xm=true)
 {k k':IntKind}{n:Int}(hx:ρ x=.v (.int k n))(hy:ρ y=.v (.int k' n))(h0:0<=n)(hb:(i.bytes:Int)*n<=281474976710656)(hm:n<=9223372036854775807):
  qU P o ρ H (.fF 0 i.size (List.replicate n.toNat cs)) H:=λw E σ hh hl K hk=>by
 have h1:=hl x uY;have h2:=hl y uY;rw[hx]at h1;rw[hy]at h2;have hxv:σ x=.int k n:=by generalize σ x=u at *;cases h1;rfl
 have hyv:σ y=.int k' n:=by generalize σ y=u at *;cases h2;rfl
 obtain⟨i',z,hi',hzz,hsz,hlen,hrows⟩:=N2 (E:=E) hz hsh n.toNat;rw[hi]at hi';cases hi'
 have hr0:=run_make (P:=P) w t e i z ht hi hzz k k' n n h0 (gO _) hb hm
 have hr:(execOp σ o).run P w=.ok (.value (.slice (some ⟨w.heap.size,0,none⟩) n.toNat n.toNat)) (w.alloc (.cells (madeCells z.cells (n.toNat*i.size)) e)):=by
  unfold execOp;simp only[ho,hxv,hyv,Sem.run_bind,hr0,Result.andThen_ok]
  rfl
 rw[hr];have hB:=hh.PZ e (madeCells z.cells (n.toNat*i.size)) λu hu=>hrows.one u (aq hu)
 refine hk _ _ _ hB.1 ?_ hB.2;have:=L.fF (E:=E.still w.heap.size (madeCells z.cells (n.toNat*i.size))) 0 i.size (List.replicate n.toNat cs) w.heap.size 0 n.toNat (λr k=>(madeCells z.cells (n.toNat*i.size)).getD (r*i.size+k) undef) (.inl V) aj (λr hr=>hrows.row r hr) ?_ ?_
 .simpa using this
 all_goals
  intro r row k c hrow hc;obtain⟨u,hu',hlu⟩:=hrows.cell r k c (by unfold cellAt;rw[hrow];exact hc);rw[pD]at hu';have hgd:(madeCells z.cells (n.toNat*i.size)).getD (r*i.size+k) undef=u:=by rw[pO,hu'];rfl
  rw[hgd]
 .simp only[Env.still,if_true,gU];exact hu'
 .exact hlu.mono hB.2.le.shut
def MQ(P:Program)(t:TypeId)(len:Nat)(parts:List (Nat×C)):Option C:=
 match P.underlying t with
 |some (.slice e)=>match P.info? e,ox P e with
  |some i,some z=>if decide (len*i.size<=16777216) && decide (0<i.size) then
    match Cb (λj=>some (j*i.size,i.size)) (List.replicate len z).flatten parts with
    |some cs=>if cs.all xm && (cs.length == len*i.size) then some (.fF 1 i.size (chunk i.size len cs)) else none
    |none=>none
   else none
  |_,_=>none
 |_=>none
def Vx(z:List α)(n j:Nat)(h:j<n*z.length):(List.replicate n z).flatten[j]?=z[j%z.length]?:=by
 induction n generalizing j with
 |zero=>simp at h
 |succ n ih=>
  rw[sN,List.flatten_cons];by_cases hj:j<z.length
  .rw[gF hj,u7 hj]
  .rw[gP aw,ih (j-z.length) (by rw[rk]at h;omega)]
   congr 1
   rw[<-Nat.mod_eq_sub_mod aw]
def qU.buildSlice(t:TypeId)(len:Nat)(parts:Array (Nat×Operand))(ho:o.op=.buildSlice t len parts){c:C}(hb:MQ P t len (parts.toList.map λp=>(p.1,ρ p.2))=some c):qU P o ρ H c H:=λw E σ hh hl K hk=>by
 have hp:∀p∈parts.toList,L E (ρ p.2) (σ p.2):=λp hpm=>hl p.2 (by
  simp only[ho,Op.operands];exact(List.mem_toArray).2 (gY.2 ⟨p,hpm,rfl⟩))
 unfold MQ at hb;split at hb
 rotate_left
 .cases hb
 rename_i e hu;split at hb
 rotate_left
 .cases hb
 rename_i i z hi hz;split at hb
 rotate_left
 .cases hb
 rename_i hcond;simp only[gH,gR]at hcond;split at hb
 rotate_left
 .cases hb
 rename_i cs hf;split at hb
 rotate_left
 .cases hb
 rename_i hcond2;simp only[gH,pT]at hcond2;cases hb
 obtain⟨i',zv,h1,h2,h3,h4,h5,h6,h7⟩:=Fy hz E;rw[hi]at h1;cases h1
 obtain⟨arr0,harr0⟩:∃arr0,arr0=(Array.range (len*i.size)).map (λj=>zv.cells[j%zv.cells.size]!):=⟨_,rfl⟩
 have hget0:∀j,j<len*i.size->arr0[j]?=zv.cells[j%i.size]?:=by
  intro j hj;rw[harr0];have hm:j%zv.cells.size<zv.cells.size:=Nat.mod_lt _ aw;simp only[eP,Array.getElem?_range,hj,if_true,gK];rw[getElem!_pos zv.cells _ hm,<-h5,rV hm]
 have hsize0:arr0.size=len*i.size:=by rw[harr0];simp
 have hl0:LL E (List.replicate len z).flatten arr0.toList:=by
  refine⟨by simp[hsize0,h7],?_⟩;intro j c y hc hy;rw[pD]at hy;have hj:j<len*i.size:=by rw[<-hsize0];exact(gM.1 hy).1
  rw[hget0 j hj]at hy;rw[Vx z len j (by rw[h7];exact hj),h7]at hc;exact h3.2 _ c y hc (aq hy)
 have hone0:∀u∈arr0,u.oneCell'=true:=by
  intro u hum;obtain⟨j,hj⟩:=uz.1 hum;have hjl:j<len*i.size:=by rw[<-hsize0];exact(gM.1 hj).1
  rw[hget0 j hjl]at hj;exact h4 u (r8 hj)
 have hno0:(List.replicate len z).flatten.all zB=true:=by
  rw[gE];intro c hc;obtain⟨l,hlm,hcl⟩:=List.mem_flatten.1 hc;rw[(sU.1 hlm).2]at hcl;exact gE.1 h6 c hcl
 obtain⟨arr,a1,a2,a3,a4⟩:=HY parts.toList _ arr0 hl0 hone0 hno0 hp cs hf
 have hr:(execOp σ o).run P w=.ok (.value (.slice (some ⟨w.heap.size,0,none⟩) len len)) (w.alloc (.cells arr e)):=by
  unfold execOp;have hn:¬(2 ^ 24<len*i.size):=aw
  by_cases hlz:len*i.size=0
  .have e0:arr0= #[]:=by apply rL;rw[hsize0];exact hlz
   rw[e0]at a1;have e9:∀f:Nat->Value,(Array.range 0).map f= #[]:=λf=>rL aj
   simp only[ho,Instr.buildSlice,Sem.run_bind,run_underlying hu,Result.andThen_ok,jD hi];rw[gp hn];simp[hlz,newRow,e9,a1]
  .simp only[ho,Instr.buildSlice,Sem.run_bind,run_underlying hu,Result.andThen_ok,jD hi];rw[gp hn];simp[hlz,yd hi h2,newRow,<-harr0,a1]
 rw[hr];have hB:=hh.PZ e arr a3;refine hk _ _ _ hB.1 ?_ hB.2;have hlc:(chunk i.size len cs).length=len:=Oo _ _ _;have:=L.fF (E:=E.still w.heap.size arr) 1 i.size (chunk i.size len cs) w.heap.size 0 len (λr k=>arr.getD (r*i.size+k) undef) (.inr ⟨rfl,hlc.symm⟩) (by rw[hlc];exact gG _) ?_ ?_ ?_
 .rw[hlc]at this;exact dG
 .intro r hrm;obtain⟨j,hj⟩:=gI.1 hrm;have hjl:j<len:=by rw[<-hlc];exact(gh.1 hj).1
  rw[KI _ _ _ _ hjl]at hj;cases hj
  have:(j+1)*i.size<=len*i.size:=p7 _ hjl;rw[rk]at this;simp;omega
 all_goals
  intro r row k c hrow hc;have hrl:r<len:=by rw[<-hlc];exact(gh.1 hrow).1
  rw[KI _ _ _ _ hrl]at hrow;cases hrow
  rw[pB]at hc;split at hc
  rotate_left
  .cases hc
  rw[rb]at hc;obtain⟨u,hu',hlu⟩:=a2.get hc;rw[pD]at hu';have hgd:arr.getD (r*i.size+k) undef=u:=by rw[pO,hu'];rfl
  rw[hgd]
 .simp only[Env.still,if_true,gU];exact hu'
 .have:=hlu.wj (gE.1 hcond2.1 c (gu hc));exact this.mono hB.2.le.shut
end
section
variable {P:Program} {B:Nat} {ops:Array Oper} {md:Region.Mode} {X:zn->Prop} {eff:Nat->Bool}
def Io{tmps:List C}{x:Operand}(h:∀d,dst=some d->x≠.tmp d):ev (put tmps dst c) x=ev tmps x:=by
 cases dst with
 |none=>rfl
 |some d=>
  cases x with
  |tmp t=>
   have hne:d≠t:=λe=>h d V (e ▸ rfl)
   simp[ev,put,pj hne]
  |_=>rfl
def KN(h:∀d,dst=some d->d∉o.looksAt ops):∀x∈o.op.operands,∀d,dst=some d->x≠.tmp d:=λx hx d hd e=>h d hd (by
 subst e;exact eG _ (List.mem_filterMap.2 ⟨.tmp d,aq hx,rfl⟩))
def fO.put{o:Oper}{tmps:List C}{H H':zn}{c x:C}{dst:Option Tmp}(h:∀d,dst=some d->d∉o.looksAt ops):fO P o (ev (put tmps dst x)) H c H'↔fO P o (ev tmps) H c H':=
 ⟨λh'=>h'.congr λy hy=>(Io (KN h y hy)).symm,λh'=>h'.congr λy hy=>Io (KN h y hy)⟩
def vO{tmps:List C}{x:C}(h:∀d,dst=some d->d∉o.looksAt ops):jt ops (put tmps dst x) o=jt ops tmps o:=by
 cases dst with
 |none=>rfl
 |some d=>
  have hd:=h d V;unfold jt;cases hg:o.guard with
  |none=>rfl
  |some g=>
   obtain⟨j,want⟩:=g
   have:Ey ops (put tmps (some d) x) j=Ey ops tmps j:=by
    unfold Ey;cases hj:(ops[j]?).bind (·.dst) with
    |none=>rfl
    |some e=>
     have hne:d≠e:=λhe=>hd (by
      subst he;unfold Oper.looksAt;rw[hg];refine List.mem_append_right _ ?_;dsimp only;rw[hj];simp)
     simp[put,pj hne]
   simp only[this]
def put_comm{tmps:List C}{x y:Option Tmp}(v u:C)(h:∀d,x=some d->y≠some d):put (put tmps x v) y u=put (put tmps y u) x v:=by
 cases x with
 |none=>rfl
 |some d=>
  cases y with
  |none=>rfl
  |some e=>
   have hne:d≠e:=λhe=>h d V (he ▸ rfl)
   simp[put,List.set_comm _ _ hne]
def YA(P:Program)(ops:Array Oper)(X:zn->Prop)(o:Oper)(c:C)(tmps:List C):Prop:=
 (jt ops tmps o=some true/\∀H,X H->fO P o (ev tmps) H c H)\/(jt ops tmps o=some false/\c=.un)
def YA.put{o:Oper}{c x:C}{tmps:List C}{dst:Option Tmp}(h:∀d,dst=some d->d∉o.looksAt ops):YA P ops X o c (put tmps dst x)↔YA P ops X o c tmps:=by
 unfold YA;rw[vO h];constructor
 .rintro(⟨h1,h2⟩|h1)
  .exact .inl ⟨h1,λH hH=>(fO.put h).1 (h2 H hH)⟩
  .exact .inr h1
 .rintro(⟨h1,h2⟩|h1)
  .exact .inl ⟨h1,λH hH=>(fO.put h).2 (h2 H hH)⟩
  .exact .inr h1
def TA(P:Program)(ops:Array Oper)(X:zn->Prop)(o:Oper)(c:C)(tmps:List C)(H H':zn):Prop:=
 jt ops tmps o=some true/\X H'/\fO P o (ev tmps) H c H'
def TA.put{o:Oper}{c x:C}{tmps:List C}{dst:Option Tmp}{H H':zn}(h:∀d,dst=some d->d∉o.looksAt ops):TA P ops X o c (put tmps dst x) H H'↔TA P ops X o c tmps H H':=by
 unfold TA;rw[vO h,fO.put h]
def oJ(P:Program)(ops:Array Oper)(X:zn->Prop)(eff:Nat->Bool)(i:Nat)(K:S->Prop)(s:S):Prop:=
 match ops[i]? with
 |none=>K s
 |some o=>(eff i=false/\∃c,YA P ops X o c s.tmps/\K ⟨put s.tmps o.dst c,s.H⟩)\/(eff i=true/\∃c H',TA P ops X o c s.tmps s.H H'/\K ⟨put s.tmps o.dst c,H'⟩)
def zuw{i:Nat}{K':S->Prop}(h:∀s,K s->K' s)(hh:oJ P ops X eff i K s):oJ P ops X eff i K' s:=by
 unfold oJ at *;split
 .exact h _ (by simpa [*] using hh)
 .rename_i o ho;simp only[ho]at hh;rcases hh with⟨h1,c,h2,h3⟩|⟨h1,c,H',h2,h3⟩
  .exact .inl ⟨h1,c,h2,h _ h3⟩
  .exact .inr ⟨h1,c,H',h2,h _ h3⟩
def Gm(P:Program)(ops:Array Oper)(X:zn->Prop)(eff:Nat->Bool)(Q:S->Prop):List Oper->Nat->S->Prop
 |[],_,s=>Q s
 |_::l,k,s=>oJ P ops X eff k (Gm P ops X eff Q l (k+1)) s
def Gw(P:Program)(md:Region.Mode)(ops:Array Oper)(X:zn->Prop)(eff:Nat->Bool)(Q:S->Prop):Nat->Array Bool->S->Prop
 |0,listed,s=>Region.ready md ops listed=[]/\Q s
 |fuel+1,listed,s=>(Region.ready md ops listed=[]->Q s)/\∀i∈Region.ready md ops listed,oJ P ops X eff i (Gw P md ops X eff Q fuel (listed.setIfInBounds i true)) s
def vA{q:Option Nat}{m:Nat}{H0:zn}{Q:S->Prop}{w0:World}{E0:Env}{Q':Exit->Act->World->Prop}(hQ:∀s w E a,Q s->yi B m w E s a->jS B w0 E0 H0 w E s.H->Q' .normal a w):
  ∀(fuel:Nat) (listed:Array Bool) (s:S) (w:World) (E:Env) (a:Act),X s.H->yi B m w E s a->jS B w0 E0 H0 w E s.H->Gw P md ops X eff Q fuel listed s->wpAnyIn (fw q) 0 P md ops Q' fuel listed a w
 |0,_,s,w,E,a,hX,hs,hg,h=>⟨h.1,hQ s w E a h.2 hs hg⟩
 |fuel+1,listed,s,w,E,a,hX,hs,hg,h=>⟨λh0=>hQ s w E a (h.1 h0) hs hg,λi hi=>by
   have h1:=h.2 i hi;unfold oJ at h1;unfold wpOpIn;split
   .rename_i ho;simp only[ho]at h1;exact vA hQ fuel _ s w E a hX hs hg h1
   .rename_i o ho;simp only[ho]at h1;rcases h1 with⟨_,c,⟨hw,hv⟩|⟨hw,rfl⟩,hK⟩|⟨_,c,H',⟨hw,hX',hv⟩,hK⟩
    .rw[gz (j6 hs.tmps hw)];exact Ax.Iy (hv s.H hX) q m w E a _ Q' hs λw' E' a' h2 g2=>vA hQ fuel _ ⟨put s.tmps o.dst c,s.H⟩ w' E' a' hX h2 (hg.trans g2) hK
    .rw[gp bE];exact⟨λ_ _=>trivial,vA hQ fuel _ ⟨put s.tmps o.dst .un,s.H⟩ w E _ hX (hs.put .un o.dst) hg hK⟩
    .rw[gz (j6 hs.tmps hw)];exact Ax.Iy hv q m w E a _ Q' hs λw' E' a' h2 g2=>vA hQ fuel _ _ w' E' a' hX' h2 (hg.trans g2) hK⟩
def DF(P:Program)(ops:Array Oper)(X:zn->Prop)(eff:Nat->Bool)(i:Nat)(o:Oper)(c:C)(H':zn)(s:S):Prop:=
 (eff i=false/\YA P ops X o c s.tmps/\H'=s.H)\/(eff i=true/\TA P ops X o c s.tmps s.H H')
def DF.M5{i:Nat}(hi:ops[i]?=some o)(h:DF P ops X eff i o c H' s)(hK:K ⟨put s.tmps o.dst c,H'⟩):oJ P ops X eff i K s:=by
 unfold oJ;simp only[hi];rcases h with⟨h1,h2,rfl⟩|⟨h1,h2⟩
 .exact .inl ⟨h1,c,h2,hK⟩
 .exact .inr ⟨h1,c,H',h2,hK⟩
def zux{i j:Nat}{oi oj:Oper}{Hi:zn}(hj:ops[j]?=some oj)(hap:oi.apart ops oj=true)(he:eff i=true->eff j=false)(hf:DF P ops X eff i oi c Hi s)
 (h:oJ P ops X eff j K ⟨put s.tmps oi.dst c,Hi⟩):
  oJ P ops X eff j (λs'=>∃H2,DF P ops X eff i oi c H2 s'/\K ⟨put s'.tmps oi.dst c,H2⟩) s:=by
 obtain⟨h1,h2,h3⟩:=Oper.apart_spec hap;unfold oJ at *;simp only[hj] at *;rcases h with⟨hej,cj,hy,hK⟩|⟨hej,cj,Hj,ht,hK⟩
 .refine .inl ⟨hej,cj,(YA.put h1).1 hy,Hi,?_,?_⟩
  .rcases hf with⟨h4,h5,h6⟩|⟨h4,h5⟩
   .exact .inl ⟨h4,(YA.put h3).2 h5,h6⟩
   .exact .inr ⟨h4,(TA.put h3).2 h5⟩
  .rw[put_comm _ _ h2]at hK;exact hK
 .rcases hf with⟨h4,h5,rfl⟩|⟨h4,h5⟩
  .refine .inr ⟨hej,cj,Hj,(TA.put h1).1 ht,Hj,.inl ⟨h4,(YA.put h3).2 h5,rfl⟩,?_⟩;rw[put_comm _ _ h2]at hK;exact hK
  .rw[he h4]at hej;cases hej
def XM{Q:S->Prop}{i:Nat}{oi:Oper}(hi:ops[i]?=some oi):
  ∀(fuel:Nat) (listed:Array Bool) (s:S) (Hi:zn),
   (∀j oj,ops[j]?=some oj->j≠i->listed.getD j true=false->(∀e∈oj.after,Region.binds md e=true->e.on≠i)->oi.apart ops oj=true/\(eff i=true->eff j=false))->
   i∈Region.ready md ops listed->DF P ops X eff i oi c Hi s->
   Gw P md ops X eff Q fuel (listed.setIfInBounds i true) ⟨put s.tmps oi.dst c,Hi⟩->Gw P md ops X eff Q (fuel+1) listed s:=by
 intro fuel
 induction fuel with
 |zero=>
  intro listed s Hi _ hr hy H;refine⟨λh=>bF,λj hj=>?_⟩;by_cases hji:j=i
  .subst hji;exact hy.M5 hi H
  .have:=ready_mono hj hji;rw[H.1]at this;cases this
 |succ fuel ih=>
  intro listed s Hi hfree hr hy H;refine⟨λh=>bF,λj hj=>?_⟩;by_cases hji:j=i
  .subst hji;exact hy.M5 hi H
  .have h1:=H.2 j (ready_mono hj hji);obtain⟨hjun,oj,hoj,qb⟩:=mem_ready.1 hj
   have hnot:∀e∈oj.after,Region.binds md e=true->e.on≠i:=λe he hb heq=>by
    have h1:=qb e he hb;have h0:=(mem_ready.1 hr).1;rw[heq]at h1;rcases r6 i listed.size with h'|h'
    .simp[h']at h0 h1;rw[h0]at h1;cases h1
    .simp[sj h']at h1
   obtain⟨hap,hee⟩:=hfree j oj hoj hji hjun hnot;have h2:=zux hoj hap hee hy h1
   have hfree':∀k ok,ops[k]?=some ok->k≠i->(listed.setIfInBounds j true).getD k true=false->
     (∀e∈ok.after,Region.binds md e=true->e.on≠i)->oi.apart ops ok=true/\(eff i=true->eff k=false):=λk ok hk hki hun hno=>by
    refine hfree k ok hk hki ?_ hno;by_cases hjk:j=k
    .subst hjk;exact hjun
    .rw[getD_set_ne true hjk]at hun;exact hun
   refine zuw (λs' ⟨H2,h3,h4⟩=>ih (listed.setIfInBounds j true) s' H2 hfree' (ready_mono hr (Ne.symm hji)) h3 ?_) h2;rw[uu _ _ hji];exact h4
def CY(md:Region.Mode)(ops:Array Oper)(eff:Nat->Bool):Bool:=
 (List.range ops.size).all λi=>!eff i || (List.range ops.size).all λj=>!eff j || decide (j<=i) || match ops[j]? with
  |some oj=>oj.after.any λe=>Region.binds md e && e.on == i
  |none=>true
def P4(h:CY md ops eff=true){i j:Nat}{oj:Oper}(hi:eff i=true)(fE:i<j)(hj:ops[j]?=some oj)(hno:∀e∈oj.after,Region.binds md e=true->e.on≠i):eff j=false:=by
 have hjl:=(gM.1 hj).1;simp only[CY,gE,rG]at h;have h1:=h i aw;simp only[hi,u3,rY,gE,rG]at h1;have h2:=h1 j hjl;rw[hj]at h2;cases he:eff j with
 |false=>rfl
 |true=>
  exfalso
  simp only[he,u3,rY,rD,gR]at h2;rcases h2 with h2|h2
  .omega
  .obtain⟨e,hem,hb⟩:=Array.any_eq_true'.1 h2;simp only[gH,pT]at hb;exact hno e hem hb.1 hb.2
def QO{Q:S->Prop}(hE:CY md ops eff=true):∀(l:List Oper) (k:Nat) (listed:Array Bool) (s:S),(∀j,l[j]?=ops[k+j]?)->(∀j,j<k->listed.getD j true=true)->
  Region.lexFrom md ops l.length k listed=true->Gm P ops X eff Q l k s->Gw P md ops X eff Q l.length listed s
 |[],_,_,_,_,_,hB,h=>⟨by simpa [Region.lexFrom] using hB,h⟩
 |o::l,k,listed,s,hl,hk,hB,h=>by
  have h0:ops[k]?=some o:=by simpa using (hl 0).symm
  simp only[ry,Region.lexFrom,gH]at hB;obtain⟨⟨hr,hf⟩,hB'⟩:=hB;have h':oJ P ops X eff k (Gm P ops X eff Q l (k+1)) s:=h;unfold oJ at h';simp only[h0]at h'
  obtain⟨c,H',hfst,hK⟩:∃c H',DF P ops X eff k o c H' s/\Gm P ops X eff Q l (k+1) ⟨put s.tmps o.dst c,H'⟩:=by
   rcases h' with⟨h1,c,h2,h3⟩|⟨h1,c,H',h2,h3⟩
   .exact⟨c,s.H,.inl ⟨h1,h2,rfl⟩,h3⟩
   .exact⟨c,H',.inr ⟨h1,h2⟩,h3⟩
  refine XM h0 l.length listed s H' (λj oj hj hne hun hno=>⟨Region.free_spec h0 hf j oj hj hne hun hno,λhe=>?_⟩) (aq hr) hfst
   (QO hE l (k+1) _ _ (λj=>by have:=hl (j+1);simpa [se,fh 1 j] using this) ?_ hB' hK)
  .refine P4 hE he ?_ hj hno;rcases rZ j k with fE|heq|fE
   .rw[hk j fE]at hun;cases hun
   .exact absurd heq hne
   .exact fE
  .intro j hj;by_cases hjk:k=j
   .subst hjk;by_cases fE:k<listed.size
    .simp[fE]
    .simp[fE]
   .rw[getD_set_ne true hjk];exact hk j aw
def qC.drew{w:World}{E:Env}{H:zn}(h:qC w E H):qC w.drew E H:=⟨h.base.drew,nX.step h (qL.drew w E H) (jL.refl H)⟩
def Grow.drew(w:World)(E:Env)(H:zn):Grow w E H w.drew E H:=
 ⟨Env.le.refl E,rfl,rfl,rfl,gG _,λ_ _ _=>V,λ_ _ _ h=>.inl h,λ_ h=>.inr h⟩
def yi.drew{m:Nat}{w:World}{E:Env}{s:S}{a:Act}(h:yi B m w E s a):yi B m {w with drawn:=w.drawn+1} E s a:=⟨h.heap.drew,h.tmps,Marks.mono (w:=w) (w':={w with drawn:=w.drawn+1}) (gG _) h.defers λ_ _ _=>V,h.base⟩
def Run.draw{id:Nat}{s':S}(X:zn->Prop)(eff:Nat->Bool)(hm:P.follows .mixedOrders=true)(hB:Region.lexB .any ops=true)(hE:CY .any ops eff=true)(hX:X s.H)
 (h:Gm P ops X eff (·=s') ops.toList 0 s):Run P B (.region id ops true) s .normal s':=λq m w E a Q _ hs hq=>by
 simp only[Region.lexB,gH]at hB;refine wpIn_region_any hm (vA (X:=X) (eff:=eff) (H0:=s.H) (Q:=(·=s')) (w0:=w) (E0:=E) (λs1 w1 E1 a1 he h1 g1=>by subst he;exact hq _ _ w1 E1 a1 ⟨rfl,rfl⟩ h1 g1) _ _ s _ E a hX hs.drew ((Grow.drew w E s.H).iX tB) ?_);have:=QO (X:=X) (eff:=eff) (Q:=(·=s')) (P:=P) (md:=.any) hE ops.toList 0 (Array.replicate ops.size false) s aj (λj hj=>absurd hj (pG j)) (aq hB.2) h;simpa using this
end
section
variable {P:Program} {B:Nat} {s s':S}
def WC(c c':C):Prop:=∀(E:Env) (y:Value),L E c y->L E c' y
theorem WC.refl(c:C):WC c c:=λ_ _ h=>h
def WC.za(c:C):WC c .za:=λ_ y _=>.za y
def WC.share(o sz:Nat)(rows:List (List C)):WC (.fF o sz rows) (.fF 0 sz rows):=λE y h=>by
 cases h with
 |fF o sz rows b off cap us ho hc hsz hst hL=>exact .fF 0 sz rows b off cap us (.inl V) hc hsz hst hL
 |xE o sz ho a=>exact .xE 0 sz (.inl V) a
def WC.none(o sz sz':Nat):WC (.fF o sz []) (.fF o sz' []):=λE y h=>by
 cases h with
 |fF o sz rows b off cap us ho hc hsz hst hL=>exact .fF o sz' [] b off cap us ho hc aj aj aj
 |xE o sz ho a=>exact .xE o sz' ho a
inductive i7:List C->List C->Prop
 |nil:i7 [] []
 |cons {c c':C} {cs cs':List C} (h:WC c c') (t:i7 cs cs'):i7 (c::cs) (c'::cs')
theorem i7.refl:∀cs:List C,i7 cs cs
 |[]=>.nil
 |c::cs=>.cons (.refl c) (i7.refl cs)
def i7.LL{E:Env}:∀{cs cs':List C} {ys:List Value},i7 cs cs'->LL E cs ys->LL E cs' ys
 |[],_,ys,.nil,h=>h
 |c::cs,_,ys,.cons h t,hl=>by
  match ys,hl with
  |[],hl=>have:=hl.1;simp at this
  |y::ys,hl=>
   obtain⟨h1,h2⟩:=hl.cons_inv;exact LL.cons (h E y h1) (t.LL h2)
def zp.tmps{t t':List C}{H:zn}(h:i7 t t'):zp B ⟨t,H⟩ ⟨t',H⟩:=λm w E a hs=>
 ⟨E,⟨hs.heap,h.LL hs.tmps,hs.defers,hs.base⟩,jS.refl B w E H⟩
def BA(keep:List Nat):Nat->List C->List C
 |_,[]=>[]
 |i,c::cs=>(if keep.contains i then c else .za)::BA keep (i+1) cs
def Ks(keep:List Nat):∀(cs:List C) (i:Nat),i7 cs (BA keep i cs)
 |[],_=>.nil
 |c::cs,i=>.cons (by split;exact .refl c;exact .za c) (Ks keep cs (i+1))
def zp.mask(keep:List Nat)(t:List C)(H:zn):zp B ⟨t,H⟩ ⟨BA keep 0 t,H⟩:=zp.tmps (Ks keep t 0)
def je(n:Nat):Nat->C->Bool
 |0,_=>false
 |k+1,c=>match c with
  |.v _|.jy _|.un|.za=>true
  |.fF o _ rows=>o != 2 || rows.all λr=>r.all (je n k)
  |.ref id .. |.sl id .. |.mp id|.gl id ..=>decide (id<n)
  |.iF _ c=>je n k c
  |.rc _=>true
  |.agg cs|.fJ cs=>cs.all (je n k)
  |.fn _ first caps=>first.all (je n k) && caps.all (je n k)
def Env.cut(E:Env)(n:Nat):Env:={E with n:=n}
def L.cut{E:Env}(n:Nat):∀(k:Nat) {c:C} {y:Value},je n k c=true->L E c y->L (E.cut n) c y:=by
 intro k
 induction k with
 |zero=>intro c y h;simp[je]at h
 |succ k ih=>
  intro c y h hl;cases hl with
  |v x hx=>exact .v _ hx
  |fF o sz rows b off cap us ho hc hsz hst hL=>exact .fF o sz rows b off cap us ho hc hsz hst hL
  |xE o sz ho a=>exact .xE o sz ho a
  |jy cells b off us hst hL=>exact .jy cells b off us hst hL
  |ref id hops sz i k hn=>simp only[je,gR]at h;exact .ref (E:=E.cut n) id hops sz i k h
  |sl id hops sz lo len full cap hn hlen hf hf'=>simp only[je,gR]at h;exact .sl (E:=E.cut n) id hops sz lo len full cap h hlen hf hf'
  |mp id hn=>simp only[je,gR]at h;exact .mp (E:=E.cut n) id h
  |agg cs ys h1 h2 h3=>
   simp only[je,gE]at h;exact .agg cs ys h1 (λi c y e1 e2=>ih (h c (gu e1)) (h2 i c y e1 e2)) h3
  |fJ cs ys h1 h2=>
   simp only[je,gE]at h;exact .fJ cs ys h1 (λi c y e1 e2=>ih (h c (gu e1)) (h2 i c y e1 e2))
  |fn f first caps ys zs h1 h2 h3 h4=>
   simp only[je,gH,gE]at h;exact .fn f first caps ys zs h1 h2 (λi c y e1 e2=>ih (h.1 c (gu e1)) (h3 i c y e1 e2)) (λi c y e1 e2=>ih (h.2 c (gu e1)) (h4 i c y e1 e2))
  |un=>exact .un
  |za y=>exact .za y
  |gl id sz rows y hn hg hl=>simp only[je,gR]at h;exact .gl (E:=E.cut n) id sz rows y h hg hl
  |iF t c y hl=>simp only[je]at h;exact .iF t c y (ih h hl)
def zW(n:Nat)(H:zn):Bool:=H.all λob=>ob.kind == 2 || (ob.kind == 4 && ob.fz == 0) || ob.rows.all λr=>r.all (je n 9)
def QZ{n:Nat}:∀(hops:List ig) (sz:Nat) (rows:List (List C)) (sz':Nat) (rows':List (List C)),(∀i k c,cellAt rows i k=some c->∃f,je n f c=true)->kF sz rows hops=some (sz',rows')->
  ∀i k c,cellAt rows' i k=some c->∃f,je n f c=true
 |[],sz,rows,sz',rows',h,hg=>by rw[jc]at hg;cases hg;exact h
 |(i,k)::hs,sz,rows,sz',rows',h,hg=>by
  rw[x7]at hg;split at hg
  .rename_i sz2 rows2 hc;refine QZ hs sz2 rows2 sz' rows' ?_ hg;obtain⟨f,hf⟩:=h i k _ hc;cases f with
   |zero=>simp[je]at hf
   |succ f=>
    intro i' k' c' hc';simp only[je,bne_self_eq_false,rY,gE]at hf;unfold cellAt at hc';cases hx:rows2[i']? with
    |none=>rw[hx]at hc';cases hc'
    |some r=>rw[hx]at hc';exact⟨f,hf r (gu hx) c' (gu hc')⟩
  .cases hg
def FE{n id:Nat}(h:qd (H.take n) id hops=some x):qd H id hops=some x/\id<n:=by
 obtain⟨ob,ho,hk,hg⟩:=ju h;rw[pB]at ho;split at ho
 .rename_i fE;refine⟨?_,fE⟩;unfold qd;rw[ho];simp only[hk,if_true];exact hg
 .cases ho
def zp.dead(ty sz:Nat):zp B s ⟨s.tmps,s.H++[⟨0,ty,sz,[],0⟩]⟩:=λm w E a hs=>by
 have hh:=hs.heap.base;have hle:=E.LU 0 0
 have get:∀id hops x,qd (s.H++[⟨0,ty,sz,[],0⟩]) id hops=some x->id<s.H.length/\qd s.H id hops=some x:=by
  intro id hops x hx;by_cases fE:id<s.H.length
  .exact⟨fE,by rw[wL fE]at hx;exact hx⟩
  .obtain⟨ob,ho,hk,hg⟩:=ju hx;rw[gP aw]at ho
   have:id-s.H.length=0:=by
    exact dA
   rw[this]at ho;cases ho
   simp at hk
 have hold:∀id hops,id<s.H.length->(E.push 0 0).β id hops=E.β id hops:=λid hops fE=>hle.β id hops bB
 have hk4:jL s.H (s.H++[⟨0,ty,sz,[],0⟩]):=jL.push _ _ (λh=>by cases h)
 suffices h:qn w (E.push 0 0) (s.H++[⟨0,ty,sz,[],0⟩])/\qL w E s.H w (E.push 0 0) (s.H++[⟨0,ty,sz,[],0⟩]) from
  ⟨E.push 0 0,⟨⟨h.1,nX.step hs.heap h.2 hk4⟩,hs.tmps.mono hle,hs.defers,aG⟩,(h.2.up hs.heap hk4).iX (by rw[hh.n];exact hs.base)⟩
 refine⟨⟨by simp[Env.push,hh.n],?_,?_,hh.qA,?_,?_,?_⟩,⟨hle,λ_ _ _=>V,rfl,rfl,rfl,gG _,λ_ _ _=>V,λb o u hu=>.inl hu,?_⟩⟩
 .intro id ob hops sz' rows' hob hx;obtain⟨fE,hx'⟩:=get id hops _ hx;rw[gF fE]at hob;exact(hh.fR id ob hops sz' rows' hob hx').step hle bB V
 .intro id hops id' hops' x y hx hy he;obtain⟨h1,hx'⟩:=get id hops _ hx;obtain⟨h2,hy'⟩:=get id' hops' _ hy;rw[hold id hops h1,hold id' hops' h2]at he;exact hh.inj id hops id' hops' x y hx' hy' he
 .intro id hops x o u hx hu;obtain⟨h1,hx'⟩:=get id hops _ hx;rw[hold id hops h1]at hu;obtain⟨e1,ob,e2,e3⟩:=hh.sep id hops x o u hx' hu;exact⟨e1,ob,by rw[gF h1];exact e2,e3⟩
 .intro id ob hob hk;by_cases fE:id<s.H.length
  .rw[gF fE]at hob;rw[hold id [] fE];exact hh.ty id ob hob hk
  .rw[gP aw]at hob
   have:id-s.H.length=0:=by
    have:=(gh.1 hob).1;exact dc
   rw[this]at hob;cases hob
   cases hk
 .intro id ob hob;by_cases fE:id<s.H.length
  .rw[gF fE]at hob;exact hh.fz id ob hob
  .rw[gP aw]at hob
   have:id-s.H.length=0:=by
    have:=(gh.1 hob).1;exact dc
   rw[this]at hob;cases hob
   exact pa _
 .rintro b ⟨id,hops,x,hx,rfl⟩;obtain⟨h1,hx'⟩:=get id hops _ hx;exact .inr ⟨id,hops,x,hx',by rw[hold id hops h1]⟩
def qn.drop(hh:qn w E H)(n:Nat)(hn:n<=H.length)(hr:zW n (H.take n)=true):qn w (E.cut n) (H.take n) where
 n:=by simp[Env.cut,hn]
 fR id ob hops sz rows hob hx:=by
  obtain⟨hx',fE⟩:=FE hx;rw[pB,gz fE]at hob;have hb:=hh.fR id ob hops sz rows hob hx';obtain⟨cur,e,hg,hcs,hcell⟩:=hb.fR;refine⟨hb.len,hb.row,cur,e,hg,hcs,?_⟩;intro i k c hc;obtain⟨u,hu,ho⟩:=hcell i k c hc;refine⟨u,hu,?_⟩;by_cases hno:zB c=true
  .rw[jf.loose hno]at ho|-;refine⟨?_,ho.2⟩;by_cases hk:ob.kind=2
   .have h1:=ho.1;simp only[Env.at,hk,if_true]at h1|-;exact h1
   .have h1:=ho.1;simp only[Env.at,gp hk]at h1|-;have h2:=gE.1 hr ob (gu (by rw[pB,gz fE];exact hob));have hk':(ob.kind == 2)=false:=by simpa using hk
    obtain⟨ob2,ho2,hk12,hg2⟩:=ju hx';rw[hob]at ho2;cases ho2
    have hk4:(ob.kind == 4)=false:=by rcases hk12 with e|e <;> rw[e] <;> rfl
    rw[hk',hk4,fB,rY,rY]at h2
    obtain⟨f,hf⟩:=QZ hops _ _ _ _ (λi k c hc=>by
     unfold cellAt at hc;cases hx:ob.rows[i]? with
     |none=>rw[hx]at hc;cases hc
     |some r=>
      rw[hx]at hc;exact⟨9,gE.1 (gE.1 h2 r (gu hx)) c (gu hc)⟩) hg2 i k c hc
    exact h1.cut n f hf
  .unfold jf at ho|-;split at ho
   .exact ho
   .rename_i h2;exfalso
    apply hno
    unfold zB;split
    .exact absurd V (h2 _ _)
    .rfl
 inj id hops id' hops' x y hx hy he:=hh.inj id hops id' hops' x y (FE hx).1 (FE hy).1 he
 qA:=hh.qA
 sep id hops x o u hx hu:=by
  obtain⟨hx',fE⟩:=FE hx;obtain⟨e1,ob,e2,e3⟩:=hh.sep id hops x o u hx' hu;exact⟨e1,ob,by rw[pB,gz fE];exact e2,e3⟩
 ty id ob hob hk:=by
  rw[pB]at hob;split at hob
  .exact hh.ty id ob hob hk
  .cases hob
 fz id ob hob:=by
  rw[pB]at hob;split at hob
  .exact hh.fz id ob hob
  .cases hob
def wi{n id:Nat}(h:(H.take n)[id]?=some ob):H[id]?=some ob:=by
 rw[pB]at h;split at h
 .exact h
 .cases h
def qP.take{n id:Nat}(h:qP (E.cut n) (H.take n) id b):qP E H id b:=
 let ⟨ob,cap,h1,h2,h3,h4⟩:=h;⟨ob,cap,wi h1,h2,h3,h4⟩
def jQ.take{n id:Nat}(h:jQ (H.take n) id b):jQ H id b:=
 let ⟨ob,r,t,h1,h2⟩:=h;⟨ob,r,t,wi h1,h2⟩
def jr.take{n:Nat}(h:jr (E.cut n) (H.take n) b):jr E H b:=
 let ⟨id,hops,x,hx,e⟩:=h;⟨id,hops,x,(FE hx).1,e⟩
def xF.take{E:Env}{H:zn}{n b:Nat}(h:xF (E.cut n) (H.take n) b):xF E H b:=
 h.imp jr.take λ⟨id,h⟩=>⟨id,h.imp qP.take jQ.take⟩
def qC.drop{w:World}{E:Env}{H:zn}(hh:qC w E H)(n:Nat)(hn:n<=H.length)(hr:zW n (H.take n)=true):qC w (E.cut n) (H.take n) where
 base:=hh.base.drop n hn hr
 fH:={
  val:=λid ob h1 h2=>hh.fH.val id ob (wi h1) h2
  fR:=λid b ob h1 h2=>hh.fH.fR id b ob h1.take (wi h2)
  sep:=λid b h1 h2=>hh.fH.sep id b h1.take h2.take
  inj:=λid id' b h1 h2=>hh.fH.inj id id' b h1.take h2.take
  st:=λid b ob o u h1 h2 h3=>hh.fH.st id b ob o u h1.take (wi h2) h3
  top:=λid ob k u h1 h2 h3=>hh.fH.top id ob k u (wi h1) h2 h3
  iW:=λid ob r t h1 h2 h3=>by
   obtain⟨p1,p2⟩:=hh.fH.iW id ob r t (wi h1) h2 h3;refine⟨p1,p2.map λys hl=>⟨hl.1,λi c y e1 e2=>(hl.2 i c y e1 e2).cut n 9 ?_⟩⟩;have:=gE.1 hr ob (gu h1);rw[h2,h3.1,h3.2]at this;simp at this;exact this.2 c (gu e1)
  mb:=λid id' b h1 h2=>hh.fH.mb id id' b h1.take h2.take}
def zp.drop(n:Nat)(hB:Nat.ble B n=true)(hn:Nat.ble n s.H.length=true)(ht:s.tmps.all (je n 9)=true)(hr:zW n (s.H.take n)=true):zp B s ⟨s.tmps,s.H.take n⟩:=λm w E a hs=>
 ⟨E.cut n,⟨hs.heap.drop n (rW hn) hr,⟨hs.tmps.1,λi c y e1 e2=>(hs.tmps.2 i c y e1 e2).cut n 9 (gE.1 ht c (gu e1))⟩,hs.defers,bG⟩,
  ⟨⟨λ_ _ _=>V,λ_ _ _=>V,λ_ _ _ h=>h,λ_ _ _ _ h=>h⟩,rfl,rfl,rfl,gG _,λ_ _ _=>V,λb o u hu=>.inl hu,λb h=>.inr h.take⟩⟩
def zp.keep(m:List Nat)(n:Nat)(t:List C)(H:zn)(hB:Nat.ble B n=true)(hn:Nat.ble n H.length=true)(ht:(BA m 0 t).all (je n 9)=true)(hr:zW n (H.take n)=true):zp B ⟨t,H⟩ ⟨BA m 0 t,H.take n⟩:=
 (zp.mask m t H).trans (zp.drop (s:=⟨BA m 0 t,H⟩) n hB hn ht hr)
def entry(fn:Func)(args:List C):List C:=args++List.replicate (fn.ntmps-args.length) .un
def E6(P:Program)(s:S):ResultVar->Option C
 |.tmp t=>some ((s.tmps[t]?).getD .za)
 |.cell a t=>nK P s.H t ((s.tmps[a]?).getD .za)
def wa(P:Program)(fn:Func)(s:S):Option C:=
 match fn.results.toList.mapM (E6 P s) with
 |some [c]=>some c
 |some cs=>some (.fJ cs)
 |none=>none
def I9(tmps:Array Value):ResultVar->Sem Value
 |.tmp t=>pure (tmps.getD t undef)
 |.cell a t=>do loadVar t (<-asAddr (tmps.getD a undef))
theorem Zg(fn:Func)(tmps:Array Value):results fn tmps=(do let vs <-fn.results.mapM (I9 tmps);pure (if h:vs.size=1 then vs[0] else .tuple vs)):=rfl
def Rr{tmps:List C}{a:Array Value}(h:LL E tmps a.toList)(t:Tmp):L E ((tmps[t]?).getD .za) (a.getD t undef):=by
 have:=Gz (a:=⟨a,[]⟩) h (.tmp t);exact dG
def zud(hh:qn w E H){c0:C}(hl:L E c0 y)(hc:nK P H t c0=some c):∃a u,y=.pointer (some a)/\(loadVar t a).run P w=.ok u w/\L E c u:=by
 unfold nK at hc;split at hc
 .rename_i d i hd hi;by_cases hag:El d=true
  .rw[gz hag]at hc;cases hr:A3 H c0 i.size with
   |none=>rw[hr]at hc;cases hc
   |some cs=>
    rw[hr]at hc;cases hc
    obtain⟨a,us,ha,hcell,hll,hlen,hone⟩:=H7 hh hl hr;have h3:=run_loadCells_list (P:=P) (w:=w) a us (λj v hj=>hcell j v hj);rw[hlen]at h3
    exact⟨a,.agg us.toArray,ha,by simp[loadVar,D1 hd,hag,jD hi,h3],
     .agg cs us.toArray (aq hll.1) (λi c y e1 e2=>hll.2 i c y e1 uZ) (λu hu=>hone u (aq hu))⟩
  .rw[gp hag]at hc;split at hc
   .rename_i x0 hr;cases hc
    obtain⟨a,us,ha,hcell,hll,hlen,hone⟩:=H7 hh hl hr
    obtain⟨u,rfl⟩:∃u,us=[u]:=by
     match us,hlen with
     |[u],_=>exact⟨u,rfl⟩
    have hu:=hcell 0 u V;have ha0:a.add 0=a:=by simp[Addr.add]
    rw[ha0]at hu;exact⟨a,u,ha,by simp[loadVar,D1 hd,hag,hu],hll.cons_inv.1⟩
   .cases hc
 .cases hc
def Lg{m:Nat}{a:Act}(hs:yi B m w E s a)(hr:wa P fn s=some r):∃v,(results fn a.tmps).run P w=.ok v w/\L E r v:=by
 have one:∀(x:ResultVar) c,E6 P s x=some c->∃v,(I9 a.tmps x).run P w=.ok v w/\L E c v:=by
  intro x c h;cases x with
  |tmp t=>cases h;exact⟨_,rfl,Rr hs.tmps t⟩
  |cell b t=>
   obtain⟨ad,u,e1,e2,e3⟩:=zud hs.heap.base (Rr hs.tmps b) h;refine⟨u,?_,e3⟩;unfold I9;dsimp only;rw[e1];exact e2
 have key:∀(l:List ResultVar) (cs:List C),l.mapM (E6 P s)=some cs->∃vs:List Value,(l.mapM (I9 a.tmps)).run P w=.ok vs w/\LL E cs vs:=by
  intro l
  induction l with
  |nil=>intro cs h;simp at h;subst h;exact⟨[],aj,LL.nil⟩
  |cons x l ih=>
   intro cs h;rw[tw]at h;cases hx:E6 P s x with
   |none=>rw[hx]at h;cases h
   |some c=>
    rw[hx]at h;cases hm:l.mapM (E6 P s) with
    |none=>rw[hm]at h;cases h
    |some cs'=>
     rw[hm]at h;cases h
     obtain⟨vs,h1,h2⟩:=ih cs' hm;obtain⟨v,e1,e2⟩:=one x c hx;exact⟨v::vs,by rw[tw];simp[h1,e1],LL.cons e2 h2⟩
 unfold wa at hr;cases hm:fn.results.toList.mapM (E6 P s) with
 |none=>rw[hm]at hr;cases hr
 |some cs=>
  obtain⟨vs,h1,h2⟩:=key _ cs hm
  have h3:(results fn a.tmps).run P w=.ok (if h:vs.toArray.size=1 then vs.toArray[0] else .tuple vs.toArray) w:=by
   rw[Zg,Array.mapM_eq_mapM_toList];simp[h1]
  refine⟨_,h3,?_⟩;rw[hm]at hr;split at hr
  .rename_i c e;cases e
   cases hr
   match vs,h2 with
   |[],h2=>have:=h2.1;simp at this
   |[v],h2=>simpa using h2.cons_inv.1
   |_::_::_,h2=>have:=h2.1;simp at this
  .rename_i cs0 hne e;cases e
   cases hr
   have hl:=h2.1
   have hne1:vs.length≠1:=by
    intro h;rw[h]at hl
    match cs,hl with
    |[c],_=>exact hne c V
   rw[dif_neg (aq hne1)];exact .fJ cs vs.toArray (aq hl) (λi c y e1 e2=>h2.2 i c y e1 uZ)
  .rename_i e;cases e
def KS{vs:Array Value}(h:LL E args vs.toList):LL E (entry fn args) (vs++Array.replicate (fn.ntmps-vs.size) undef).toList:=by
 rw[sO,Array.toList_replicate];have hl:=h.1;simp at hl;refine h.append ⟨by simp[hl],?_⟩;intro i c y e1 e2;obtain⟨rfl,_⟩:=sU.1 (gu e1) |>.symm
 obtain⟨rfl,_⟩:=sU.1 (gu e2) |>.symm
 exact .un
def leaves{fn:Func}{tmps:Array Value}{R:Ending->World->Prop}{m:Nat}:∀{ds:List Deferred} {w:World},Marks m w ds->
  (∀w':World,w'.os=w.os->w'.tape=w.tape->w'.output=w.output->w'.heap.size=w.heap.size->(∀k:Nat,k<m->w'.heap[k]?=w.heap[k]?)->(∀(k:Nat) (o:Obj),w.heap[k]?=some o->(∀ds,o≠.deferred ds)->w'.heap[k]?=w.heap[k]?)->
   ∃v,(results fn tmps).run P w'=.ok v w'/\R (.returned v) w')->LeavesInM (fw none) 0 P fn tmps R ds .returning w
 |[],w,_,h=>h w V V V V (λ_ _=>V) (λ_ _ _ _=>V)
 |d::ds,w,⟨⟨D,h1,h2,h3,h4⟩,ht⟩,h=>by
  refine⟨aj,.inl ⟨D,_,by rw[h1],run_takeDeferred h3,leaves (Marks.mono aj ht λD' hm hd=>World.putObj_heap_other (by rintro rfl;exact h4 hm)) λw' a1 a2 a3 a4 a5 a6=>
   h w' a1 a2 a3 (a4.trans World.putObj_size) (λk hk=>(a5 k hk).trans (World.putObj_heap_other aw)) λk o hc hd=>?_⟩⟩
  have hne:k≠D:=by rintro rfl;rw[h3]at hc;cases hc;exact hd _ V
  have e:=World.putObj_heap_other (w:=w) (o:=.deferred none) hne;exact(a6 k o (e.trans hc) hd).trans e
def qM(P:Program)(f:FuncId)(H:zn)(args:List C)(R:C->zn->Prop):Prop:=
 ∀(w:World) (E:Env) (vs:Array Value),qC w E H->LL E args vs.toList->
  Calls P f vs w λe w'=>∃r H' v E',R r H'/\e=.returned v/\qC w' E' H'/\L E' r v/\Grow w E H w' E' H'
def qM.at(h:qM P f H args λc X=>c=r/\X=H'):zb P f H args r H':=λw E vs hh hl=>
 (h w E vs hh hl).mono λe w' ⟨c,X,v,E',⟨h1,h2⟩,h3⟩=>by subst h1 h2;exact⟨v,E',h3⟩
def zb.lh(h:zb P f H args r H')(hR:R r H'):qM P f H args R:=λw E vs hh hl=>
 (h w E vs hh hl).mono λe w' ⟨v,E',h3⟩=>⟨r,H',v,E',hR,h3⟩
def qM.AP{c:Code}(hf:P.funcs[f]?=some fn)(hb:fn.body=some c)
 (hr:jb P H.length c ⟨entry fn args,H⟩ λex s1=>(ex=.ret\/ex=.normal)/\∃s2 r,zp H.length s1 s2/\wa P fn s2=some r/\R r s2.H):qM P f H args R:=λw E vs hh hl=>by
 refine(callsIn_wide (n:=0)).1 (callsIn_of_wp_marks hf hb trivial (hr none w.heap.size w E _ _ (λ_=>V) ⟨hh,KS hl,gG _,gG _⟩ λex s1 w' E1 a' hR hs1 g1=>?_));obtain⟨hex,s',r,hw,hres,hRr⟩:=hR;obtain⟨E',hs,g2⟩:=hw _ w' E1 a' hs1;have g:=g1.trans g2
 have key:LeavesInM (fw none) 0 P fn a'.tmps (λe w'=>∃r H' v E',R r H'/\e=.returned v/\qC w' E' H'/\L E' r v/\Grow w E H w' E' H') a'.defers .returning w':=by
  refine leaves hs.defers λw2 a1 a2 a3 a4 a5 a6=>?_
  have hs2:yi H.length w.heap.size w2 E' s' {a' with defers:=[]}:=⟨hs.heap.cells a6,hs.tmps,bH,hs.base⟩;obtain⟨v,h1,h2⟩:=Lg hs2 hres
  have hg:Grow w E H w2 E' s'.H:=⟨⟨bJ,λid hops hi=>g.le.β id hops tE,λid hops hi=>g.le.κ id hops tE,g.le.St,λid k u hi=>g.le.G id k u tE⟩,
   a1.trans g.os,a2.trans g.tape,a3.trans g.output,by rw[a4];exact g.size,λk hk ho=>(a5 k hk).trans (g.frame k hk ho),g.jZ,g.own⟩
  exact⟨v,h1,r,s'.H,v,E',hRr,rfl,hs2.heap,h2,hg⟩
 rcases hex with rfl|rfl <;> exact key
def xF.none:¬xF E [] b:=λh=>by
 rcases h with⟨id,hops,x,hx,_⟩|⟨id,⟨ob,cap,hx,_⟩|⟨ob,r,t,hx,_⟩⟩
 .simp[qd]at hx
 .simp at hx
 .simp at hx
def qM.close{R:C->Prop}(h:qM P f [] args λc _=>R c)(hc:∀c,R c->c=r/\je 0 9 r=true):zb P f [] args r []:=λw E vs hh hl=>by
 refine(h w E vs hh hl).mono ?_;rintro e w' ⟨c,H',v,E',hR,rfl,h1,h2,g⟩;obtain⟨rfl,hlow⟩:=hc c hR;have h3:=h1.drop 0 (pa _) (by simp[zW]);rw[tz]at h3;have hn:E.n=0:=hh.n
 exact⟨v,E'.cut 0,rfl,h3,h2.cut 0 9 hlow,⟨⟨by rw[hn];exact pa _,λid hops hi=>by rw[hn]at hi;omega,λid hops hi=>by rw[hn]at hi;omega,g.le.St,λid k u hi=>by rw[hn]at hi;omega⟩,g.os,g.tape,g.output,g.size,g.frame,g.jZ,
  λb h=>absurd h xF.none⟩⟩
def zb.frame{f:FuncId}{args:List C}{r:C}(h:zb P f [] args r [])(ha:args.all (je 0 9)=true)(H:zn):zb P f H args r H:=λw E vs hh hl=>by
 have h0:qC w (E.cut 0) []:=by
  have:=hh.drop 0 (pa _) (by simp[zW]);rw[tz]at this;exact dG
 have hl0:LL (E.cut 0) args vs.toList:=⟨hl.1,λi c y e1 e2=>(hl.2 i c y e1 e2).cut 0 9 (gE.1 ha c (gu e1))⟩;refine(h w (E.cut 0) vs h0 hl0).mono ?_;rintro e w' ⟨v,E',rfl,h1,h2,g⟩;have hle:E.le {E with St:=E'.St}:=⟨gG _,λ_ _ _=>V,λ_ _ _=>V,λb o u hu=>g.le.St b o u hu,λ_ _ _ _ hu=>hu⟩;have hn:E'.n=0:=h1.n;have hsame:∀b,b<w.heap.size->w'.heap[b]?=w.heap[b]?:=λb hb=>g.frame b hb xF.none
 have hnew:∀b o u,E'.St b o=some u->E.St b o=some u\/w.heap.size<=b:=λb o u hu=>by
  rcases g.jZ b o u hu with h5|h5|h5
  .exact .inl h5
  .exact .inr h5
  .exact absurd h5 xF.none
 have hb:=hh.base
 have hst:∀id hops x o u,qd H id hops=some x->E'.St (E.β id hops) o=some u->E.St (E.β id hops) o=some u:=λid hops x o u hx hu=>by
  rcases hnew _ o u hu with h5|h5
  .exact h5
  .have:=hb.lt hx;omega
 have hR:qn w' {E with St:=E'.St} H:=by
  refine⟨hb.n,?_,hb.inj,h1.base.qA,?_,?_,hb.fz⟩
  .intro id ob hops sz rows hob hx;have hb':=hb.fR id ob hops sz rows hob hx;exact hb'.step hle (by rw[hb.n];exact Dg hx) (hsame _ hb'.Lk)
  .intro id hops x o u hx hu;exact hb.sep id hops x o u hx (hst id hops x o u hx hu)
  .intro id ob hob hk;obtain⟨cur,hc⟩:=hb.ty id ob hob hk;exact⟨cur,by rw[<-hc];exact hsame _ (gM.1 hc).1⟩
 have hG:qL w E H w' {E with St:=E'.St} H:=⟨hle,λ_ _ _=>V,g.os,g.tape,g.output,g.size,λk hk _=>hsame k hk,λb o u hu=>(hnew b o u hu).imp_right .inl,λb hb=>.inr hb⟩;refine⟨v,{E with St:=E'.St},rfl,⟨hR,nX.step hh hG (jL.refl H)⟩,?_,hG.up hh (jL.refl H)⟩;have hz:∀{p:Prop} (id:Nat),id<E'.n->p:=λid hi=>absurd hi (by rw[hn];exact pG _)
 have hle2:Env.le E' {E with St:=E'.St}:=Env.le.mk (by rw[hn];exact pa _) (λid hops hi=>hz id hi) (λid hops hi=>hz id hi) (λb o u hu=>hu) (λid _ _ hi=>hz id hi);exact L.mono hle2 h2
end
section
variable {P:Program} {o:Oper} {ρ:Operand->C} {H:zn}
def run_sliceBound{k:IntKind}{n y:Nat}{code:BoundsCode}(h:n<=y)(w:World):(Instr.sliceBound (.int k n) y code).run P w=.ok n w:=by
 simp[Instr.sliceBound,asIntOf,h]
def nv(ρ:Operand->C)(x:Option Operand)(dflt n:Nat):Prop:=
 match x with
 |none=>n=dflt
 |some y=>∃k,ρ y=.v (.int k n)
def Pf{len cap:Nat}{hi:Option Operand}{l h:Nat}(hl:∀y,lo=some y->∃k,σ y=.int k l)(hl0:lo=none->l=0)(hh:∀y,hi=some y->∃k,σ y=.int k h)(hh0:hi=none->h=len)
 (h1:l<=h)(h2:h<=cap)(w:World):(Instr.sliceBounds true len cap (lo.map σ) (hi.map σ) none).run P w=.ok (l,h,cap) w:=by
 unfold Instr.sliceBounds;cases lo with
 |none=>
  obtain rfl:=hl0 V;cases hi with
  |none=>obtain rfl:=hh0 V;simp
  |some y=>obtain⟨k,e⟩:=hh y V;simp[e,run_sliceBound h2]
 |some x=>
  obtain⟨k0,e0⟩:=hl x V;cases hi with
  |none=>obtain rfl:=hh0 V;simp[e0,run_sliceBound h1]
  |some y=>obtain⟨k,e⟩:=hh y V;simp[e,e0,run_sliceBound h2,run_sliceBound h1]
def Yc{len cap:Nat}{hi mx:Operand}{l h m:Nat}(hl:∀y,lo=some y->∃k,σ y=.int k l)(hl0:lo=none->l=0)(hh:∃k,σ hi=.int k h)(hm:∃k,σ mx=.int k m)
 (h1:l<=h)(h2:h<=m)(h3:m<=cap)(w:World):(Instr.sliceBounds true len cap (lo.map σ) (some (σ hi)) (some (σ mx))).run P w=.ok (l,h,m) w:=by
 unfold Instr.sliceBounds;obtain⟨k,e⟩:=hh;obtain⟨k',e'⟩:=hm;cases lo with
 |none=>obtain rfl:=hl0 V;simp[e,e',run_sliceBound h2,run_sliceBound h3]
 |some x=>obtain⟨k0,e0⟩:=hl x V;simp[e,e',e0,run_sliceBound h2,run_sliceBound h1,run_sliceBound h3]
def nv.val{x:Option Operand}{d n:Nat}(h:nv ρ x d n)(hl:∀y,x=some y->L E (ρ y) (σ y)):(∀y,x=some y->∃k,σ y=.int k n)/\(x=none->n=d):=by
 unfold nv at h;cases x with
 |none=>exact⟨λy e=>(by cases e),λ_=>h⟩
 |some y=>
  refine⟨λz e=>?_,λe=>(by cases e)⟩;cases e
  obtain⟨k,e⟩:=h;have:=hl y V;rw[e]at this;refine⟨k,?_⟩;generalize σ y=u at *;cases this
  rfl
def Sa{o:Nat}(h:L E (.fF o sz rows) y):∃a cap,y=.slice a rows.length cap/\rows.length<=cap/\(o=1->cap=rows.length)/\
  ∀(l h m o':Nat),l<=h->h<=rows.length->m<=cap->h<=m->(o'=0\/o'=1/\m=h)->L E (.fF o' sz ((rows.drop l).take (h-l))) (.slice (if m=l then a else a.map (·.add (l*sz))) (h-l) (m-l)):=by
 cases h with
 |fF o sz rows b off cap us ho hc hsz hst hL=>
  refine⟨_,cap,rfl,hc,λe=>by subst e;exact(ho.resolve_left ar).2,?_⟩;intro l h m o' h1 h2 h3 h4 ho';have hlen:((rows.drop l).take (h-l)).length=h-l:=aA
  have ho2:o'=0\/o'=1/\m-l=((rows.drop l).take (h-l)).length:=by
   rw[hlen];rcases ho' with e|⟨e,e2⟩
   .exact .inl e
   .exact .inr ⟨e,aw⟩
  by_cases hm:m=l
  .rw[gz hm];have:h=l:=by omega
   subst this;subst hm;simp only[rR,tz]at ho2|-;exact .fF o' sz [] b off 0 (λ_ _=>undef) (aq ho2) (gG _) aj aj aj
  .rw[gp hm,gK,xY];have:=L.fF (E:=E) o' sz ((rows.drop l).take (h-l)) b (off+l*sz) (m-l) (λi k=>us (l+i) k) ho2 (by rw[hlen];omega) (λr hr=>hsz r (sa (rH hr))) ?_ ?_
   .rw[hlen]at this;exact dG
   .intro i r k c hr hk;rw[pB]at hr;split at hr
    .rw[rb]at hr;have:=hst (l+i) r k c hr hk;rw[rk]at this;rw[show off+l*sz+i*sz+k=off+(l*sz+i*sz)+k from aw];exact dG
    .cases hr
   .intro i r k c hr hk;rw[pB]at hr;split at hr
    .rw[rb]at hr;exact hL (l+i) r k c hr hk
    .cases hr
 |xE o sz ho a=>
  refine⟨a,0,rfl,gG _,λ_=>V,?_⟩;intro l h m o' h1 h2 h3 h4 ho';simp at h2 h3;subst h2;subst h3;obtain rfl:l=0:=aw
  simp;exact .xE o' sz (by rcases ho' with e|e;exact .inl e;exact .inr e.1) a
def qU.RE(t:TypeId)(x:Operand)(lo hi:Option Operand)(ho:o.op=.slice t x lo hi none)(ht:P.underlying t=some (.slice e))(hi':P.info? e=some i)
 (hx:ρ x=.fF fo sz rows)(hsz:rows=[]\/sz=i.size){l h:Nat}(hl':nv ρ lo 0 l)(hh':nv ρ hi rows.length h)(h1:l<=h)(h2:h<=rows.length):
  qU P o ρ H (.fF (if fo=1/\h=rows.length then 1 else 0) sz ((rows.drop l).take (h-l))) H:=λw E σ hh hl K hk=>by
 have h0:=hl x uY;rw[hx]at h0;obtain⟨a,cap,e1,e2,e3,e4⟩:=Sa h0;obtain⟨b1,b2⟩:=hl'.val (E:=E) (σ:=σ) (λy e=>hl y tL);obtain⟨b3,b4⟩:=hh'.val (E:=E) (σ:=σ) (λy e=>hl y tL)
 have hr:(execOp σ o).run P w=.ok (.value (.slice (if cap=l then a else a.map (·.add (l*i.size))) (h-l) (cap-l))) w:=by
  unfold execOp;simp[ho,Instr.sliceAt,run_underlying ht,Instr.slice,e1,Pf b1 b2 b3 b4 h1 (by omega:h<=cap),jD hi']
 rw[hr];refine hk _ w E hh ?_ (qL.refl w E H)
 have hsz2:(if cap=l then a else a.map (·.add (l*i.size)))=(if cap=l then a else a.map (·.add (l*sz))):=by
  rcases hsz with e|e
  .subst e;have:l=0:=by simp at h2;omega
   subst this;simp
  .rw[e]
 rw[hsz2];refine e4 l h cap _ h1 h2 (gG _) aw ?_;by_cases hc:fo=1/\h=rows.length
 .rw[gz hc];exact .inr ⟨rfl,by rw[e3 hc.1];exact hc.2.symm⟩
 .rw[gp hc];exact .inl V
def qU.zui(t:TypeId)(x:Operand)(lo:Option Operand)(hi mx:Operand)(ho:o.op=.slice t x lo (some hi) (some mx))(ht:P.underlying t=some (.slice e))(hi':P.info? e=some i)
 {rows:List (List C)}(hx:ρ x=.fF fo sz rows)(hsz:rows=[]\/sz=i.size){l h:Nat}(hl':nv ρ lo 0 l)(hh':nv ρ (some hi) 0 h)(hm':nv ρ (some mx) 0 h)(h1:l<=h)(h2:h<=rows.length):
  qU P o ρ H (.fF 1 sz ((rows.drop l).take (h-l))) H:=λw E σ hh hl K hk=>by
 have h0:=hl x uY;rw[hx]at h0;obtain⟨a,cap,e1,e2,e3,e4⟩:=Sa h0;obtain⟨b1,b2⟩:=hl'.val (E:=E) (σ:=σ) (λy e=>hl y tL);obtain⟨b3,_⟩:=hh'.val (E:=E) (σ:=σ) (λy e=>hl y (by cases e;simp[ho,Op.operands]));obtain⟨b4,_⟩:=hm'.val (E:=E) (σ:=σ) (λy e=>hl y (by cases e;simp[ho,Op.operands]))
 have hr:(execOp σ o).run P w=.ok (.value (.slice (if h=l then a else a.map (·.add (l*i.size))) (h-l) (h-l))) w:=by
  unfold execOp;simp[ho,Instr.sliceAt,run_underlying ht,Instr.slice,e1,Yc b1 b2 (b3 _ V) (b4 _ V) h1 (gG h) (by omega:h<=cap),jD hi']
 rw[hr];refine hk _ w E hh ?_ (qL.refl w E H)
 have hsz2:(if h=l then a else a.map (·.add (l*i.size)))=(if h=l then a else a.map (·.add (l*sz))):=by
  rcases hsz with e|e
  .subst e;have:l=0:=by simp at h2;omega
   subst this;simp
  .rw[e]
 rw[hsz2];exact e4 l h h 1 h1 h2 aw (gG _) (.inr ⟨rfl,rfl⟩)
def qU.zy6(t:TypeId)(x:Operand)(lo hi:Option Operand)(ho:o.op=.slice t x lo hi none)(ht:P.underlying t=some (.slice e))(hi':P.info? e=some i){id:Nat}{lo0 len:Nat}{full:Bool}
 (hx:ρ x=.sl id hops sz lo0 len full)(hsz:sz=i.size){l h:Nat}(hl':nv ρ lo 0 l)(hh':nv ρ hi len h)(h1:l<=h)(h2:h<=len)(hne:l=0\/l<h)(hfu:full=false\/h=len):
  qU P o ρ H (.sl id hops sz (lo0+l) (h-l) full) H:=λw E σ hh hl K hk=>by
 have h0:=hl x uY;rw[hx]at h0
 obtain⟨cap,hy,hn,hlen,hf,hf'⟩:∃cap,σ x=.slice (some ⟨E.β id hops,lo0*sz,none⟩) len cap/\id<E.n/\len<=cap/\(full=true->cap=len)/\(full=false->lo0+cap=E.κ id hops):=by
  generalize σ x=u at *;cases h0 with
  |sl id hops sz lo len full cap hn hlen hf hf'=>exact⟨cap,rfl,hn,hlen,hf,hf'⟩
 obtain⟨b1,b2⟩:=hl'.val (E:=E) (σ:=σ) (λy e=>hl y tL);obtain⟨b3,b4⟩:=hh'.val (E:=E) (σ:=σ) (λy e=>hl y tL)
 have hr:(execOp σ o).run P w=.ok (.value (.slice (some (if cap=l then ⟨E.β id hops,lo0*sz,none⟩ else (Addr.mk (E.β id hops) (lo0*sz) none).add (l*i.size))) (h-l) (cap-l))) w:=by
  unfold execOp;simp only[ho,Instr.sliceAt,Sem.run_bind,run_underlying ht,Result.andThen_ok,Instr.slice,hy,Option.map_none,Pf b1 b2 b3 b4 h1 (by omega:h<=cap),jD hi'];by_cases hc:cap=l
  .simp[hc]
  .simp[hc]
 rw[hr];refine hk _ w E hh ?_ (qL.refl w E H)
 have hadd:(if cap=l then (⟨E.β id hops,lo0*sz,none⟩:Addr) else (Addr.mk (E.β id hops) (lo0*sz) none).add (l*i.size))=⟨E.β id hops,(lo0+l)*sz,none⟩:=by
  rw[xY,<-hsz,<-rk];by_cases hc:cap=l
  .rw[gz hc];have:l=0:=by omega
   rw[this];rfl
  .rw[gp hc]
 rw[hadd];refine .sl id hops sz (lo0+l) (h-l) full (cap-l) hn aw (λe=>?_) (λe=>?_)
 .have:=hf e;rcases hfu with e2|e2
  .rw[e]at e2;cases e2
  .omega
 .have:=hf' e;omega
end
def DS(P:Program)(eq:TypeId->C->C->Option Bool)(xs ys:List C):List Field->Option Bool
 |[]=>some true
 |f :: fs => if f.name ≠ "_" then
   match BC P f.type xs f.offset,BC P f.type ys f.offset with
   |some a,some b=>match eq f.type a b,DS P eq xs ys fs with
    |some r,some r'=>some (r && r')
    |_,_=>none
   |_,_=>none
  else DS P eq xs ys fs
def FG(P:Program)(eq:C->C->Option Bool)(el:TypeId)(n:Nat)(xs ys:List C):List Nat->Option Bool
 |[]=>some true
 |i::is=>match BC P el xs (i*n),BC P el ys (i*n) with
  |some a,some b=>match eq a b,FG P eq el n xs ys is with
   |some r,some r'=>some (r && r')
   |_,_=>none
  |_,_=>none
def Ai(P:Program):Nat->TypeId->C->C->Option Bool
 |0,_,_,_=>none
 |d+1,t,x,y=>match P.underlying t,x,y with
  |some (.int _),.v (.int k a),.v (.int k' b)=>if k=k' then some (a == b) else none
  |some .bool,.v (.bool a),.v (.bool b)=>some (a == b)
  |some .string,.v (.string a),.v (.string b)=>match a,b with
   |⟨⟨a⟩⟩,⟨⟨b⟩⟩=>some (a == b)
  |some (.struct fs),.agg xs,.agg ys=>DS P (Ai P d) xs ys fs.toList
  |some (.array len el),.agg xs,.agg ys=>match P.info? el with
   |some i=>FG P (Ai P d el) el i.size xs ys (List.range' 0 len)
   |none=>none
  |_,_,_=>none
def Ap(P:Program):Nat->TypeId->Bool
 |0,_=>false
 |d+1,t=>match P.underlying t with
  |some (.struct fs)=>!P.stoodInHeld t && fs.toList.all λf=>Ap P d f.type
  |some (.array _ el)=>Ap P d el
  |_=>true
section
variable {P:Program} {E:Env}
def JO{d:Nat}(ih:∀{d'} {t:TypeId} {x y:C} {u v:Value} {b:Bool} (w:World),Ap P d t=true->d<=d'->L E x u->L E y v->Ai P d t x y=some b->(Op.equalIn d' t u v).run P w=.ok b w){d':Nat}(hd:d<=d')
 {xs ys:List C}{us vs:Array Value}(hx:LL E xs us.toList)(hy:LL E ys vs.toList)(h1:∀u∈us,u.oneCell'=true)(h2:∀u∈vs,u.oneCell'=true)(w:World):
  ∀(fs:List Field) (b:Bool),(fs.all λf=>Ap P d f.type)=true->DS P (Ai P d) xs ys fs=some b->(Op.eqFields d' us vs fs).run P w=.ok b w
 |[],b,_,h=>by simp[DS]at h;subst h;simp[Op.eqFields]
 |f::fs,b,qb,h=>by
  simp only[r7,gH]at qb;unfold DS at h;unfold Op.eqFields;by_cases hn : f.name ≠ "_"
  .rw[gz hn]at h|-;split at h
   .rename_i a a' ha ha';split at h
    .rename_i r r' hr hr';cases h
     obtain⟨u,hu,hlu⟩:=D4 (w:=w) hx h1 ha;obtain⟨v,hv,hlv⟩:=D4 (w:=w) hy h2 ha';have h5:=ih w qb.1 hd hlu hlv hr;have h6:=JO ih hd hx hy h1 h2 w fs r' qb.2 hr';simp only[Sem.run_bind,hu,hv,h5,Result.andThen_ok];cases r
     .simp
     .simpa using h6
    .cases h
   .cases h
  .rw[gp hn]at h|-;exact JO ih hd hx hy h1 h2 w fs b qb.2 h
def YX{d:Nat}(ih:∀{d'} {t:TypeId} {x y:C} {u v:Value} {b:Bool} (w:World),Ap P d t=true->d<=d'->L E x u->L E y v->Ai P d t x y=some b->(Op.equalIn d' t u v).run P w=.ok b w){d':Nat}(hd:d<=d')
 {xs ys:List C}{us vs:Array Value}(hx:LL E xs us.toList)(hy:LL E ys vs.toList)(h1:∀u∈us,u.oneCell'=true)(h2:∀u∈vs,u.oneCell'=true)(w:World){t el:TypeId}{len:Nat}{i:TypeInfo}
 (ht:P.underlying t=some (.array len el))(hi:P.info? el=some i)(hh:Ap P d el=true){b:Bool}(h:FG P (Ai P d el) el i.size xs ys (List.range' 0 len)=some b):
  (Op.equalIn (d'+1) t (.agg us) (.agg vs)).run P w=.ok b w:=by
 simp only[Op.equalIn,Sem.run_bind,run_underlying ht,Result.andThen_ok,jD hi,Std.Legacy.Range.forIn_eq_forIn_range',Std.Legacy.Range.size,rS,Nat.add_sub_cancel,Nat.div_one]
 revert h
 generalize List.range' 0 len=is;intro h
 induction is generalizing b with
 |nil=>simp[FG]at h;subst h;simp
 |cons j is ih2=>
  unfold FG at h;split at h
  .rename_i a a' ha ha';split at h
   .rename_i r r' hr hr';cases h
    obtain⟨u,hu,hlu⟩:=D4 (w:=w) hx h1 ha;obtain⟨v,hv,hlv⟩:=D4 (w:=w) hy h2 ha';have h5:=ih w hh hd hlu hlv hr;have h6:=ih2 hr';simp only[List.forIn_cons,Sem.run_bind,Sem.run_ite,hu,hv,h5,Result.andThen_ok];cases r
    .simp
    .simpa using h6
   .cases h
  .cases h
def HU:∀(d:Nat) {d':Nat} {t:TypeId} {x y:C} {u v:Value} {b:Bool} (w:World),Ap P d t=true->d<=d'->L E x u->L E y v->Ai P d t x y=some b->(Op.equalIn d' t u v).run P w=.ok b w
 |0,d',t,x,y,u,v,b,w,_,hd,hx,hy,h=>by simp[Ai]at h
 |d+1,d',t,x,y,u,v,b,w,hheld,hd,hx,hy,h=>by
  obtain⟨d'',rfl⟩:∃d'',d'=d''+1:=⟨d'-1,aw⟩;unfold Ai at h;split at h
  .rename_i k0 k a k' b' hu;cases hx;cases hy
   split at h
   .rename_i e;subst e;cases h;exact run_equalIn_int w d'' t _ _ _ _ hu
   .cases h
  .rename_i a b' hu;cases hx;cases hy;cases h
   exact run_equalIn_bool' w d'' t _ _ hu
  .rename_i a b' hu;obtain⟨⟨a⟩⟩:=a;obtain⟨⟨b'⟩⟩:=b';cases hx;cases hy;cases h
   have e:((⟨⟨a⟩⟩:ByteArray) == ⟨⟨b'⟩⟩)=(a == b'):=by
    show((⟨a⟩:Array UInt8) == ⟨b'⟩)=(a == b');simp
   simp[Op.equalIn,run_underlying hu,e]
  .rename_i fs xs ys hu;have hf:P.fieldsOf t=fs:=by unfold Program.fieldsOf;rw[hu]
   unfold Ap at hheld;rw[hu]at hheld;simp only[gH,pK]at hheld;cases hx with
   |agg _ us a1 a2 a3=>
    cases hy with
    |agg _ vs b1 b2 b3=>
     rw[run_equalIn_struct w d'' t us vs (by rw[hf];exact hu) hheld.1,hf]
     exact JO (d:=d) (λ{d'} {t} {x} {y} {u} {v} {b} w h0 h1 h2 h3 h4=>HU d w h0 h1 h2 h3 h4) aw ⟨aq a1,λi c y e1 e2=>a2 i c y e1 uZ⟩
      ⟨aq b1,λi c y e1 e2=>b2 i c y e1 uZ⟩ a3 b3 w fs.toList b hheld.2 h
  .rename_i len el xs ys hu;unfold Ap at hheld;rw[hu]at hheld;dsimp only at hheld;split at h
   .rename_i i hi;cases hx with
    |agg _ us a1 a2 a3=>
     cases hy with
     |agg _ vs b1 b2 b3=>
      exact YX (d:=d) (λ{d'} {t} {x} {y} {u} {v} {b} w h0 h1 h2 h3 h4=>HU d w h0 h1 h2 h3 h4) aw ⟨aq a1,λi c y e1 e2=>a2 i c y e1 uZ⟩
       ⟨aq b1,λi c y e1 e2=>b2 i c y e1 uZ⟩ a3 b3 w hu hi hheld h
   .cases h
  .cases h
def qU.HV(op:BinOp)(t t':TypeId)(x y:Operand)(ho:o.op=.binOp op t x y t')(hop:op=.eql\/op=.neq)(hm:P.eqGuardType P.depth t=false)(hheld:Ap P 9 t=true){xs ys:List C}(hx:ρ x=.agg xs)(hy:ρ y=.agg ys)
 {b:Bool}(hb:Ai P 9 t (.agg xs) (.agg ys)=some b):qU P o ρ H (.v (.bool (if op=.eql then b else !b))) H:=λw E σ hh hl K hk=>by
 have h0:=hl x uY;have h1:=hl y uY;rw[hx]at h0;rw[hy]at h1;have h2:=HU (E:=E) (d':=10000) 9 w hheld ar h0 h1 hb;obtain⟨us,hu⟩:∃us,σ x=.agg us:=by generalize σ x=u at *;cases h0;exact⟨_,rfl⟩
 obtain⟨vs,hv⟩:∃vs,σ y=.agg vs:=by generalize σ y=u at *;cases h1;exact⟨_,rfl⟩
 rw[hu,hv]at h2
 have hr:(execOp σ o).run P w=.ok (.value (.bool (if op=.eql then b else !b))) w:=by
  unfold execOp;simp only[ho,hu,hv,Sem.run_bind,run_eqGuard_agg w op t x y us vs hm,Result.andThen_ok];rcases hop with rfl|rfl
  .rw[run_eql_struct,h2];rfl
  .rw[run_neq_struct,h2];rfl
 exact dk
def oH.Ix(op:BinOp)(t t':TypeId)(x:Operand)(ho:o.op=.binOp op t x (.const (.slice none 0 0)) t')(hop:op=.eql\/op=.neq)(ht:P.underlying t=some (.slice e))
 (hx:(∃fo sz rows,ρ x=.fF fo sz rows/\rows≠[])\/∃id hops sz lo len full,ρ x=.sl id hops sz lo len full):oH P o ρ H (.v (.bool (if op=.eql then false else true))) H:=λw E σ hh hl hc K hk=>by
 have h0:=hl x uY
 obtain⟨b,off,len,cap,hv⟩:∃b off len cap,σ x=.slice (some ⟨b,off,none⟩) len cap:=by
  generalize σ x=u at *;rcases hx with⟨fo,sz,rows,h1,h2⟩|⟨id,hops,sz,lo,len,full,h1⟩
  .rw[h1]at h0;cases h0 with
   |fF o sz rows b off cap us ho hc hsz hst hL=>exact⟨_,_,_,_,rfl⟩
   |xE o sz ho a=>exact absurd V h2
  .rw[h1]at h0;cases h0
   exact⟨_,_,_,_,rfl⟩
 have hr:(execOp σ o).run P w=.ok (.value (.bool (if op=.eql then false else true))) w:=by
  unfold execOp;rcases hop with rfl|rfl
  .simp[ho,hv,hc,eqGuard,binOp,run_equal_slice_nil w t e _ len cap ht]
  .simp[ho,hv,hc,eqGuard,binOp,run_equal_slice_nil w t e _ len cap ht]
 rw[hr];exact hk _ w E hh (.v _ V) (Grow.refl w E H)
def jK.SW(op:BinOp)(t t':TypeId)(x:Operand)(ho:o.op=.binOp op t x (.const (.slice none 0 0)) t')(hop:op=.eql\/op=.neq)(ht:P.underlying t=some (.slice e))
 {fo sz:Nat}(hx:ρ x=.fF fo sz []){R:C->zn->Prop}(h1:R (.v (.bool true)) H)(h2:R (.v (.bool false)) H):jK P o ρ H R:=λw E σ hh hl hc K hk=>by
 have h0:=hl x uY
 obtain⟨a,len,cap,hv⟩:∃a len cap,σ x=.slice a len cap:=by
  generalize σ x=u at *;rw[hx]at h0;cases h0 with
  |fF o sz rows b off cap us ho hc hsz hst hL=>exact⟨_,_,_,rfl⟩
  |xE o sz ho a=>exact⟨_,_,_,rfl⟩
 have hr:∃b,(execOp σ o).run P w=.ok (.value (.bool b)) w:=by
  unfold execOp;rcases hop with rfl|rfl
  .exact⟨a.isNone,bL⟩
  .exact⟨a.isSome,bL⟩
 obtain⟨b,hr⟩:=hr;rw[hr];refine hk _ _ _ w E (?_:R (.v (.bool b)) H) hh (.v _ V) (Grow.refl w E H);cases b
 .exact h2
 .exact h1
def oH.S4(op:BinOp)(t t':TypeId)(x:Operand)(ho:o.op=.binOp op t x (.const (.pointer none)) t')(hop:op=.eql\/op=.neq)(ht:P.underlying t=some (.pointer (P.pointee t)))(b:Bool)
 (hx:∀E u,L E (ρ x) u->∃a,u=.pointer a/\a.isNone=b):oH P o ρ H (.v (.bool (if op=.eql then b else !b))) H:=λw E σ hh hl hc K hk=>by
 obtain⟨a,hv,hb⟩:=hx E _ (hl x uY)
 have hr:(execOp σ o).run P w=.ok (.value (.bool (if op=.eql then b else !b))) w:=by
  unfold execOp;rcases hop with rfl|rfl
  .simp[ho,hv,hc,eqGuard,binOp,run_equal_pointer_nil w t a ht,hb]
  .simp[ho,hv,hc,eqGuard,binOp,run_equal_pointer_nil w t a ht,hb]
 rw[hr];exact hk _ w E hh (.v _ V) (Grow.refl w E H)
end
def iA:C->C
 |.gl _ sz rows=>.fF 0 sz rows
 |c=>c
def L.S7(h:L E.shut c y):L E c y:=h.mono E.FW
def Ca(h:L E c y):L E (iA c) y:=by
 cases h with
 |gl id sz rows y hn hg h=>exact h.S7
 |v x hx=>exact .v _ hx
 |fF o sz rows b off cap us ho hc hsz hst hL=>exact .fF o sz rows b off cap us ho hc hsz hst hL
 |xE o sz ho a=>exact .xE o sz ho a
 |jy cells b off us hst hL=>exact .jy cells b off us hst hL
 |ref id hops sz i k hn=>exact .ref id hops sz i k hn
 |sl id hops sz lo len full cap hn hlen hf hf'=>exact .sl id hops sz lo len full cap hn hlen hf hf'
 |fn f first caps ys zs h1 h2 h3 h4=>exact .fn f first caps ys zs h1 h2 h3 h4
 |mp id hn=>exact .mp id hn
 |agg cs ys h1 h2 h3=>exact .agg cs ys h1 h2 h3
 |fJ cs ys h1 h2=>exact .fJ cs ys h1 h2
 |un=>exact .un
 |za y=>exact .za y
 |iF t c y h=>exact .iF t c y h
section
variable {P:Program} {o:Oper} {ρ:Operand->C} {H:zn}
def qU.weaken{ρ':Operand->C}(hw:∀x (E:Env) y,L E (ρ x) y->L E (ρ' x) y)(h:qU P o ρ' H c H'):qU P o ρ H c H':=
 λw E σ hh hl K hk=>h w E σ hh (λx hx=>hw x E (σ x) (hl x hx)) K hk
def qU.iA(h:qU P o (λx=>Ab.iA (ρ x)) H c H'):qU P o ρ H c H':=h.weaken λx E y hl=>Ca hl
def fO.iA(h:fO P o (λx=>Ab.iA (ρ x)) H c H'):fO P o ρ H c H':=
 λw E σ hh hl K hk=>h w E σ hh (λx hx=>Ca (hl x hx)) K hk
def fO.EN(h:qU P o ρ H c H')(ob:Ob)(hk:ob.kind≠4)(e:H'=H++[ob]):fO P o ρ H c H':=.Bp h (e ▸ jL.push H ob hk)
def jL.nP(H:zn)(id:Nat)(hops:List ig)(f:List (List C)->List (List C))(h:∀ob,H[id]?=some ob->ob.kind≠4):jL H (nP H id hops f):=
 jL.modify H id _ λob hob=>by
  have:=h ob hob;obtain⟨kind,ty,sz,rows,fz⟩:=ob;exact⟨this,this⟩
def jL.jT(H:zn)(id:Nat)(h:∀ob,H[id]?=some ob->ob.kind≠4):jL H (jT H id):=
 jL.modify H id _ λob hob=>by
  have:=h ob hob;obtain⟨kind,ty,sz,rows,fz⟩:=ob;exact⟨this,λe=>by cases e⟩
def J0{a x:C}(h:vq P H t a x=some H'):jL H H':=by
 unfold vq at h;split at h
 .rename_i id hops sz i k inf _;split at h
  .rename_i sz' rows ob hg hob;split at h
   .split at h
    .cases h
     refine jL.nP H id hops _ λob' h'=>?_
     obtain⟨ob2,h2,h3,_⟩:=ju hg;rw[h2]at h';cases h'
     rcases h3 with e|e <;> rw[e] <;> decide
    .cases h
   .cases h
  .cases h
 .cases h
def AS:C->C
 |.gl _ sz rows=>.fF 0 sz rows
 |.agg cs=>.agg (cs.map iA)
 |c=>c
def K5(h:L E c y):L E (AS c) y:=by
 cases c with
 |gl id sz rows=>exact Ca h
 |agg cs=>
  cases h with
  |agg _ ys h1 h2 h3=>
   refine .agg _ ys tG ?_ h3;intro i c y e1 e2;rw[gy]at e1;cases hx:cs[i]? with
   |none=>rw[hx]at e1;cases e1
   |some c0=>rw[hx]at e1;cases e1;exact Ca (h2 i c0 y hx e2)
 |_=>exact h
def qn.other{w':World}(h:qn w E H)(hle:E.le E')(hβ:E'.β=E.β)(hn:E'.n=E.n)(hsame:∀b,jr E H b->w'.heap[b]?=w.heap[b]?)
 (hst:∀b o u,E'.St b o=some u->w'.cell? ⟨b,o,none⟩=some u/\u.oneCell'=true)(hsep:∀b o u,jr E H b->E'.St b o=some u->E.St b o=some u):qn w' E' H where
 n:=by rw[hn,h.n]
 fR id ob hops sz rows hob hx:=(h.fR id ob hops sz rows hob hx).step hle (by rw[h.n];exact Dg hx) (hsame _ ⟨id,hops,_,hx,rfl⟩)
 inj id hops id' hops' x y hx hy he:=h.inj id hops id' hops' x y hx hy (by rw[hβ]at he;exact he)
 qA:=hst
 sep id hops x o u hx hu:=by
  rw[hβ]at hu;exact h.sep id hops x o u hx (hsep _ o u ⟨id,hops,x,hx,rfl⟩ hu)
 ty id ob hob hk:=by
  obtain⟨cur,hc⟩:=h.ty id ob hob hk;exact⟨cur,by rw[hβ,hsame _ ⟨id,[],_,by unfold qd;rw[hob];simp[hk,jc];rfl,rfl⟩];exact hc⟩
 fz:=h.fz
def DV{id:Nat}(hob:H[id]?=some ob)(hk:ob.kind=4)(hk':ob'.kind=4)(id':Nat)(hops:List ig):qd (H.set id ob') id' hops=qd H id' hops:=by
 unfold qd;rw[gJ];by_cases he:id=id'
 .subst he;have fE:=(gh.1 hob).1;rw[gz V,gz fE,hob];simp[hk,hk']
 .rw[gp he]
def qn.Fb(h:qn w E H){id:Nat}(hob:H[id]?=some ob)(hk:ob.kind=4)(hk':ob'.kind=4)(hf:ob'.fz<=ob'.rows.length):qn w E (H.set id ob') where
 n:=by rw[h.n];simp
 fR id' ob2 hops sz rows hob2 hx:=by
  rw[DV hob hk hk']at hx;obtain⟨ob3,e1,e2,_⟩:=ju hx;have hne:id≠id':=by rintro rfl;rw[hob]at e1;cases e1;rw[hk]at e2;rcases e2 with e|e <;> cases e
  rw[gJ,gp hne]at hob2;exact h.fR id' ob2 hops sz rows hob2 hx
 inj id1 p1 id2 p2 x y hx hy he:=h.inj id1 p1 id2 p2 x y (by rw[<-DV hob hk hk'];exact hx) (by rw[<-DV hob hk hk'];exact hy) he
 qA:=h.qA
 sep id' hops x o u hx hu:=by
  rw[DV hob hk hk']at hx;obtain⟨e1,ob2,e2,e3⟩:=h.sep id' hops x o u hx hu;obtain⟨ob3,e4,e5,_⟩:=ju hx;have hne:id≠id':=by rintro rfl;rw[hob]at e4;cases e4;rw[hk]at e5;rcases e5 with e|e <;> cases e
  exact⟨e1,ob2,by rw[gJ,gp hne];exact e2,e3⟩
 ty id' ob2 hob2 hk2:=by
  rw[gJ]at hob2;split at hob2
  .split at hob2
   .cases hob2;rw[hk']at hk2;cases hk2
   .cases hob2
  .exact h.ty id' ob2 hob2 hk2
 fz id' ob2 hob2:=by
  rw[gJ]at hob2;split at hob2
  .split at hob2
   .cases hob2;exact hf
   .cases hob2
  .exact h.fz id' ob2 hob2
def jr.Fb{id:Nat}(hob:H[id]?=some ob)(hk:ob.kind=4)(hk':ob'.kind=4)(hβ:E'.β=E.β):jr E' (H.set id ob') b↔jr E H b:=by
 unfold jr;constructor
 .rintro⟨i,hops,x,hx,rfl⟩;exact⟨i,hops,x,by rw[<-DV hob hk hk'];exact hx,by rw[hβ]⟩
 .rintro⟨i,hops,x,hx,rfl⟩;exact⟨i,hops,x,by rw[DV hob hk hk'];exact hx,by rw[hβ]⟩
def Env.grown(E:Env)(id nb k n:Nat)(cur:Array Value)(v:Value):Env:=
 {E with St:=λb o=>if b=nb/\o<n then cur[o]? else E.St b o,G:=λi j=>if i=id/\j=k then some v else E.G i j}
def qC.grown{w w':World}{E:Env}{H:zn}(hh:qC w E H){id:Nat}{ob:Ob}(hob:H[id]?=some ob)(hk:ob.kind=4){rows:List (List C)}(fE:ob.rows.length<rows.length)
 {nb cap:Nat}{cur:Array Value}(hos:w'.os=w.os)(htape:w'.tape=w.tape)(hout:w'.output=w.output)(hsize:w.heap.size<=w'.heap.size)
 (hother:∀k,k<w.heap.size->k≠nb->w'.heap[k]?=w.heap[k]?)(hnb:w'.heap[nb]?=some (.cells cur ob.ty (0,0)))(hcs:cur.size=cap*ob.sz)(hcap:rows.length<=cap)
 (hown:qP E H id nb\/w.heap.size<=nb)(hkeep:∀o u,E.St nb o=some u->cur[o]?=some u)(hin:∀o u,E.St nb o=some u->o<rows.length*ob.sz)
 (hone:∀(o:Nat) u,o<rows.length*ob.sz->cur[o]?=some u->u.oneCell'=true):
  qC w' (E.grown id nb rows.length (rows.length*ob.sz) cur (.slice (some ⟨nb,0,none⟩) rows.length cap)) (H.set id ⟨4,ob.ty,ob.sz,rows,0⟩)/\
   Grow w E H w' (E.grown id nb rows.length (rows.length*ob.sz) cur (.slice (some ⟨nb,0,none⟩) rows.length cap)) (H.set id ⟨4,ob.ty,ob.sz,rows,0⟩):=by
 obtain⟨E',hE'⟩:∃E',E'=E.grown id nb rows.length (rows.length*ob.sz) cur (.slice (some ⟨nb,0,none⟩) rows.length cap):=⟨_,rfl⟩;obtain⟨ob',hob'⟩:∃ob':Ob,ob'=⟨4,ob.ty,ob.sz,rows,0⟩:=⟨_,rfl⟩;rw[<-hE',<-hob'];have hid:id<E.n:=by rw[hh.n];exact(gh.1 hob).1
 have hk':ob'.kind=4:=by rw[hob']
 have hβ:E'.β=E.β:=by rw[hE'];rfl
 have hn:E'.n=E.n:=by rw[hE'];rfl
 have hSt:∀b o,E'.St b o=if b=nb/\o<rows.length*ob.sz then cur[o]? else E.St b o:=λb o=>by rw[hE'];rfl
 have hG:∀i j,E'.G i j=if i=id/\j=rows.length then some (.slice (some ⟨nb,0,none⟩) rows.length cap) else E.G i j:=λi j=>by rw[hE'];rfl
 have hno0:¬jr E H nb:=λhc=>by
  rcases hown with h1|h1
  .exact hh.fH.sep id nb h1 hc
  .obtain⟨i,hops,x,hx,e⟩:=hc;have:=hh.base.lt hx;omega
 have hle:E.le E':=by
  refine⟨by rw[hn];exact gG _,λi hops _=>by rw[hβ],λi hops _=>by rw[hE'];rfl,?_,?_⟩
  .intro b o u hu;rw[hSt];split
   .rename_i h;obtain⟨rfl,h⟩:=h;exact hkeep o u hu
   .exact hu
  .intro i k u _ hu;rw[hG];split
   .rename_i h;obtain⟨rfl,rfl⟩:=h;have:=hh.fH.top _ ob _ u hob hk hu;omega
   .exact hu
 have hStN:∀b o u,E'.St b o=some u->E.St b o=some u\/(b=nb/\o<rows.length*ob.sz/\cur[o]?=some u):=by
  intro b o u hu;rw[hSt]at hu;split at hu
  .rename_i h;exact .inr ⟨h.1,h.2,hu⟩
  .exact .inl hu
 have hgetS:∀i,i≠id->(H.set id ob')[i]?=H[i]?:=λi hi=>by rw[gJ,gp (Ne.symm hi)]
 have hgetI:(H.set id ob')[id]?=some ob':=by rw[gJ,gz V,gz (gh.1 hob).1]
 have hGo:∀i b,i≠id->(qP E' (H.set id ob') i b↔qP E H i b):=by
  intro i b hi;unfold qP;rw[hgetS i hi];constructor
  .rintro⟨ob2,c2,h1,h2,h3,h4⟩;rw[hG,gp (λh=>hi h.1)]at h3;exact⟨ob2,c2,h1,h2,h3,h4⟩
  .rintro⟨ob2,c2,h1,h2,h3,h4⟩;exact⟨ob2,c2,h1,h2,by rw[hG,gp (λh=>hi h.1)];exact h3,h4⟩
 have hGi:∀b,qP E' (H.set id ob') id b->b=nb:=by
  rintro b ⟨ob2,c2,h1,h2,h3,h4⟩;rw[hgetI]at h1;simp only[gX]at h1;subst h1;rw[hG,gz ⟨rfl,by rw[hob']⟩]at h3;simp only[gX,Value.slice.injEq,Addr.mk.injEq]at h3;exact h3.1.1.symm
 have hne:∀i b,i≠id->qP E H i b->b≠nb:=by
  intro i b hi hg he;subst he;rcases hown with h1|h1
  .exact hi (hh.fH.inj i id b hg h1)
  .obtain⟨ob2,c1,e1,e2⟩:=hg;obtain⟨cur2,c2,_,e3,_⟩:=hh.fH.fR i b ob2 ⟨ob2,c1,e1,e2⟩ e1;have:=(gM.1 e3).1;omega
 have hlt2:∀i b,qP E H i b->b<w.heap.size:=by
  intro i b hg;obtain⟨ob2,c2,e1,e2⟩:=(hg:qP E H i b);have hg:qP E H i b:=⟨ob2,c2,e1,e2⟩;obtain⟨cur2,c2,_,e3,_⟩:=hh.fH.fR i b ob2 hg e1;exact(gM.1 e3).1
 have hR:qn w' E' (H.set id ob'):=by
  refine qn.Fb (hh.base.other hle hβ hn ?_ ?_ ?_) hob hk hk' (by rw[hob'];exact pa _)
  .rintro b ⟨i,hops,x,hx,rfl⟩;refine hother _ (hh.base.lt hx) λhe=>hno0 ?_
   rw[<-he];exact⟨i,hops,x,hx,rfl⟩
  .intro b o u hu;rcases hStN b o u hu with h1|⟨rfl,h2,h3⟩
   .obtain⟨h4,h5⟩:=hh.base.qA b o u h1;refine⟨?_,h5⟩;by_cases hb:b=nb
    .subst hb;unfold World.cell?;rw[hnb];simpa using hkeep o u h1
    .unfold World.cell? at h4|-;rw[hother b (Ek (hh.base.qA b o u h1).1) hb];exact h4
   .exact⟨by unfold World.cell?;rw[hnb];simpa using h3,hone o u h2 h3⟩
  .intro b o u hb hu;rcases hStN b o u hu with h1|⟨rfl,h2,h3⟩
   .exact h1
   .exact absurd hb hno0
 have hrne:∀b o,w.heap[b]?=some o->Em o=true->b≠nb:=by
  rintro b o hb hf rfl;rcases hown with h1|h1
  .obtain⟨ob2,c1,e1,e2⟩:=h1;obtain⟨cur2,c2,_,e3,_⟩:=hh.fH.fR id b ob2 ⟨ob2,c1,e1,e2⟩ e1;rw[hb]at e3;cases e3
   cases hf
  .have:=(gM.1 hb).1;omega
 have hrb:∀i b,jQ (H.set id ob') i b->jQ H i b:=by
  rintro i b ⟨ob2,r,t,h1,h2,h3,h4⟩;by_cases hi:i=id
  .subst hi;rw[hgetI]at h1;cases h1
   exact absurd h3.2 (by rw[hob'];simp)
  .rw[hgetS i hi]at h1;exact⟨ob2,r,t,h1,h2,h3,h4⟩
 refine⟨⟨hR,?_,?_,?_,?_,?_,?_,?_,λi j b h1 h2=>hh.fH.mb i j b (hrb i b h1) (hrb j b h2)⟩,⟨hle,hos,htape,hout,hsize,?_,?_,?_⟩⟩
 .intro i ob2 h1 h2;by_cases hi:i=id
  .subst hi;rw[hgetI]at h1;cases h1
   refine⟨some ⟨nb,0,none⟩,cap,?_,.inr ⟨nb,rfl,?_⟩⟩
   .rw[hG,gz ⟨rfl,by rw[hob']⟩,hob']
   .rw[hob'];exact hcap
  .rw[hgetS i hi]at h1;rw[hG,gp (λh=>hi h.1)];exact hh.fH.val i ob2 h1 h2
 .intro i b ob2 h1 h2;by_cases hi:i=id
  .subst hi;obtain rfl:=hGi b h1;rw[hgetI]at h2;cases h2
   refine⟨cur,cap,?_,?_,?_⟩
   .rw[hG,gz ⟨rfl,by rw[hob']⟩,hob']
   .rw[hob'];exact hnb
   .rw[hob'];exact hcs
  .have h1':=(hGo i b hi).1 h1;rw[hgetS i hi]at h2;obtain⟨cur2,c2,e1,e2,e3⟩:=hh.fH.fR i b ob2 h1' h2;refine⟨cur2,c2,?_,?_,e3⟩
   .rw[hG,gp (λh=>hi h.1)];exact e1
   .rw[hother b (hlt2 i b h1') (hne i b hi h1')];exact e2
 .intro i b h1 h2;rw[jr.Fb hob hk hk' hβ]at h2;by_cases hi:i=id
  .subst hi;obtain rfl:=hGi b h1;exact hno0 h2
  .exact hh.fH.sep i b ((hGo i b hi).1 h1) h2
 .intro i j b h1 h2;by_cases hi:i=id
  .by_cases hj:j=id
   .rw[hi,hj]
   .subst hi;have:=hGi b h1;exact absurd this (hne j b hj ((hGo j b hj).1 h2))
  .by_cases hj:j=id
   .subst hj;have:=hGi b h2;exact absurd this (hne i b hi ((hGo i b hi).1 h1))
   .exact hh.fH.inj i j b ((hGo i b hi).1 h1) ((hGo j b hj).1 h2)
 .intro i b ob2 o u h1 h2 h3;by_cases hi:i=id
  .subst hi;obtain rfl:=hGi b h1;rw[hgetI]at h2;cases h2
   rw[hob'];rcases hStN b o u h3 with h4|⟨_,h4,_⟩
   .exact hin o u h4
   .exact h4
  .have h1':=(hGo i b hi).1 h1;rw[hgetS i hi]at h2;rcases hStN b o u h3 with h4|⟨h4,_⟩
   .exact hh.fH.st i b ob2 o u h1' h2 h4
   .exact absurd h4 (hne i b hi h1')
 .intro i ob2 k u h1 h2 h3;by_cases hi:i=id
  .subst hi;rw[hgetI]at h1;cases h1
   rw[hob'];rw[hG]at h3;split at h3
   .rename_i h;rw[h.2];exact gG _
   .have:=hh.fH.top i ob k u hob hk h3;show k<=rows.length;omega
  .rw[hgetS i hi]at h1;rw[hG,gp (λh=>hi h.1)]at h3;exact hh.fH.top i ob2 k u h1 h2 h3
 .intro i ob2 r t h1 h2 h3;by_cases hi:i=id
  .subst hi;rw[hgetI]at h1;cases h1
   exact absurd h3.2 (by rw[hob'];simp)
  .rw[hgetS i hi]at h1;obtain⟨⟨e,hf⟩,hl⟩:=hh.fH.iW i ob2 r t h1 h2 h3;refine⟨⟨?_,hf⟩,hl.mono hle⟩;rw[hother _ (gM.1 e).1 (hrne _ r e hf)];exact e
 .intro k h1 h2;refine hother k h1 ?_;rintro rfl;rcases hown with h3|h3
  .exact h2 (.inr ⟨id,.inl h3⟩)
  .omega
 .intro b o u hu;rcases hStN b o u hu with h4|⟨rfl,h4,_⟩
  .exact .inl h4
  .exact hown.elim (λh=>.inr (.inr (.inr ⟨id,.inl h⟩))) (λh=>.inr (.inl h))
 .rintro b (hb|⟨i,hb|hb⟩)
  .rw[jr.Fb hob hk hk' hβ]at hb;exact .inr (.inl hb)
  .by_cases hi:i=id
   .subst hi;obtain rfl:=hGi b hb;exact hown.elim (λh=>.inr (.inr ⟨i,.inl h⟩)) .inl
   .exact .inr (.inr ⟨i,.inl ((hGo i b hi).1 hb)⟩)
  .exact .inr (.inr ⟨i,.inr (hrb i b hb)⟩)
def zxt{id nb k cap:Nat}(hid:id<E.n)(hr:mZ E sz rows vals)(htake:cur.toList.take vals.length=vals)(hcap:rows.length<=cap)
 (hle:E.le (E.grown id nb rows.length (rows.length*sz) cur (.slice (some ⟨nb,0,none⟩) rows.length cap))):
  L (E.grown id nb rows.length (rows.length*sz) cur (.slice (some ⟨nb,0,none⟩) rows.length cap)) (.gl id sz rows) (.slice (some ⟨nb,0,none⟩) rows.length cap):=by
 obtain⟨E',hE'⟩:∃E',E'=E.grown id nb rows.length (rows.length*sz) cur (.slice (some ⟨nb,0,none⟩) rows.length cap):=⟨_,rfl⟩;rw[<-hE']at hle|-
 have hSt:∀o u,o<rows.length*sz->cur[o]?=some u->E'.St nb o=some u:=λo u h1 h2=>by
  rw[hE'];show(if nb=nb/\o<rows.length*sz then cur[o]? else _)=some u;rw[gz ⟨rfl,h1⟩];exact h2
 have cell:∀i r k c,rows[i]?=some r->r[k]?=some c->∃u,cur[i*sz+k]?=some u/\i*sz+k<rows.length*sz/\L E.shut c u:=by
  intro i r k c h1 h2;have hc:cellAt rows i k=some c:=by unfold cellAt;rw[h1];exact h2
  obtain⟨u,hu,hl⟩:=hr.cell i k c hc;have fE:=(gh.1 hu).1;refine⟨u,?_,by rw[<-hr.len];exact fE,hl⟩;rw[<-htake,pB,gz fE]at hu;simpa using hu
 refine .gl id sz rows _ ?_ ?_ ?_
 .rw[hE'];exact hid
 .rw[hE'];show(if id=id/\rows.length=rows.length then _ else _)=_;rw[gz ⟨rfl,rfl⟩]
 .refine .fF (E:=E'.shut) 0 sz rows nb 0 cap (λi k=>(cur[i*sz+k]?).getD undef) (.inl V) hcap hr.row ?_ ?_
  .intro i r k c h1 h2;obtain⟨u,hu,fE,_⟩:=cell i r k c h1 h2;rw[gU,hu];exact hSt _ u fE hu
  .intro i r k c h1 h2;obtain⟨u,hu,_,hl⟩:=cell i r k c h1 h2;rw[hu];exact hl.mono hle.shut
def fO.zsx(cl:Call)(ho:o.op=.call cl)(x y:Operand)(ht:Bf P cl x y e i z){id:Nat}(hx:ρ x=.gl id i.size rows)(hob:H[id]?=some ob)
 (hkd:ob.kind=4)(hty:ob.ty=e)(hsz:ob.sz=i.size)(hn:ob.rows.length=rows.length)
 {rows':List (List C)}(hy:xU H (Ab.iA (ρ y))=some (i.size,rows'))(hne:rows'≠[])(hm:rows.length+rows'.length<=maxLen)(hb:(rows.length+rows'.length)*i.bytes<=140737488355328):
  fO P o ρ H (.gl id i.size (rows++rows')) (H.set id ⟨4,e,i.size,rows++rows',0⟩):=λw E σ hh hl K hk=>by
 have h0:=hl x tA;have h1:=Ca (hl y tA);obtain⟨t,hu,hexec⟩:=wG ho ht σ w;have hpos:0<rows'.length:=sg.2 hne;have hsmall:rows.length+rows'.length<=9223372036854775807:=bC
 rcases yJ hh.base h1 hy with⟨e1,_⟩|⟨a,cap,vals,e1,_,hrows,hmem⟩
 .exact absurd e1 hne
 rw[hx]at h0
 obtain⟨hid,hg,hlst⟩:id<E.n/\E.G id rows.length=some (σ x)/\L E.shut (.fF 0 i.size rows) (σ x):=by
  generalize σ x=u at h0|-;cases h0 with
  |gl id sz rows y hn hg h=>exact⟨hn,hg,h⟩
 obtain⟨a0,cap0,g1,g2⟩:=hh.fH.val id ob hob hkd;rw[hn]at g1 g2;rw[hg]at g1;have hxv:σ x=.slice a0 rows.length cap0:=aq g1
 rw[hxv]at hg;have hrx:xU H (.fF 0 i.size rows)=some (i.size,rows):=by simp[xU]
 have hz:=ht.MO;have hlen:(rows++rows').length=rows.length+rows'.length:=pz
 have fin:∀(w':World) (olds:List Value) (nb cap':Nat) (cur':Array Value),mZ E i.size rows olds->w'.os=w.os->w'.tape=w.tape->w'.output=w.output->w.heap.size<=w'.heap.size->
   (∀k,k<w.heap.size->k≠nb->w'.heap[k]?=w.heap[k]?)->w'.heap[nb]?=some (.cells cur' e (0,0))->cur'.size=cap'*i.size->rows.length+rows'.length<=cap'->
   (qP E H id nb\/w.heap.size<=nb)->(∀o u,E.St nb o=some u->cur'[o]?=some u)->(∀o u,E.St nb o=some u->o<rows.length*i.size)->cur'.toList.take (olds++vals).length=olds++vals->
   (Builtin.append_ #[t,t] o.type #[σ x,σ y]).run P w=.ok (.slice (some ⟨nb,0,none⟩) (rows.length+rows'.length) cap') w'->oQ P K ((execOp σ o).run P w):=by
  intro w' olds nb cap' cur' hro hos htape hout hsize hother hnb hcs hcap hown hkeep hin htake hr;rw[hexec _ _ hr];have qb:=hro.append hrows
  have hG:=hh.grown hob hkd (rows:=rows++rows') (w':=w') (nb:=nb) (cap:=cap') (cur:=cur') (by rw[hn,hlen];omega) hos htape hout hsize hother (by rw[hty];exact hnb) (by rw[hsz];exact hcs) (by rw[hlen];exact hcap) hown hkeep
   (λo u hu=>by rw[hsz,hlen];exact pN (hin o u hu) (p7 _ aw))
   (λo u h2 h3=>by
    have fE:o<(olds++vals).length:=by rw[qb.len,<-hsz];exact h2
    refine qb.one u ?_;rw[<-htake];refine gu (i:=o) ?_;rw[pB,gz fE];simpa using h3)
  have hL:=zxt (E:=E) (id:=id) (nb:=nb) (k:=0) (cap:=cap') (cur:=cur') hid qb htake (by rw[hlen];exact hcap) (by rw[<-hsz];exact hG.2.le);rw[hsz,hty]at hG;rw[hlen]at hG hL;exact hk _ _ _ hG.1 hL hG.2
 have anew:∀olds,mZ E i.size rows olds->(Builtin.append_ #[t,t] o.type #[σ x,σ y]).run P w=.ok (.slice (some ⟨w.heap.size,0,none⟩) (rows.length+rows'.length) (grownCap w (rows.length+rows'.length) cap0 e))
   (w.drew.alloc (.cells ((olds++vals).toArray++Builtin.zeroCells z.cells (grownCap w (rows.length+rows'.length) cap0 e-(rows.length+rows'.length))) e))->oQ P K ((execOp σ o).run P w):=by
  intro olds hro hr;have qb:=hro.append hrows;obtain⟨cap',hcap2⟩:∃cap',cap'=grownCap w (rows.length+rows'.length) cap0 e:=⟨_,rfl⟩;have hge:rows.length+rows'.length<=cap':=by rw[hcap2];exact grownCap_ge w _ _ e
  rw[<-hcap2]at hr
  have hnone:∀o u,E.St w.heap.size o=some u->False:=λo u hu=>by
   have:=Ek (hh.base.qA _ o u hu).1;omega
  refine fin (w.drew.alloc (.cells ((olds++vals).toArray++Builtin.zeroCells z.cells (cap'-(rows.length+rows'.length))) e)) olds w.heap.size cap' ((olds++vals).toArray++Builtin.zeroCells z.cells (cap'-(rows.length+rows'.length))) hro V V V ?_ ?_ ?_ ?_ hge (.inr (gG _)) (λo u hu=>(hnone o u hu).elim) (λo u hu=>(hnone o u hu).elim) ?_ hr
  .show _<=(w.heap.push _).size;simp
  .exactλk hk _=>heap_alloc_old w.drew _ hk
  .exact heap_alloc_new w.drew _
  .have h2:(olds++vals).length=(rows.length+rows'.length)*i.size:=by rw[qb.len,pz]
   simp only[eZ,ux,size_zeroCells,hz];rw[h2,<-rk]
   congr 1
   omega
  .rw[sO];exact uv
 rcases yJ hh.base hlst.S7 hrx with⟨e2,e3⟩|⟨b,cap',olds,e3,hcap',hro,hmo⟩
 .subst e2;have hro:mZ E i.size [] []:=⟨aj,aj,by simp[cellAt],aj⟩;have hc0:cap0=0:=by rw[hxv]at e3;cases e3;rfl
  have hr:=run_append_nil (P:=P) w t o.type e i z hu ht.info ht.zero a rows'.length cap vals hrows.len hmem hpos (by simp at hsmall;omega) (by simp at hb;omega);rw[<-e3,<-e1]at hr;refine anew [] hro ?_;subst hc0;simpa using hr
 .rw[hxv]at e3;cases e3
  by_cases hroom:rows.length+rows'.length<=cap0
  ·
   have hcn:cap0≠rows.length:=aw
   obtain⟨nb,hb2,_⟩:∃nb,(some b:Option Addr)=some ⟨nb,0,none⟩/\rows.length<=cap0:=by
    rcases g2 with h2|h2
    .exact absurd h2 hcn
    .exact h2
   cases hb2
   have hown:qP E H id nb:=⟨ob,cap0,hob,hkd,by rw[hn];exact hg,by rw[hn];exact hcn⟩;obtain⟨cur,cap2,f1,hgb,hcs⟩:=hh.fH.fR id nb ob hown hob;rw[hn,hg]at f1;cases f1
   rw[hty]at hgb;rw[hsz]at hcs;have hfit:rows.length*i.size+vals.length<=cur.size:=bD
   have hr:=run_append_room (P:=P) w t o.type e i hu ht.info nb rows.length cap0 cur hgb a rows'.length cap vals hrows.len hmem hrows.one hroom hfit;rw[<-hxv,<-e1]at hr;obtain⟨cur',hcur'⟩:∃cur',cur'=(cur.toList.take (rows.length*i.size)++vals++cur.toList.drop (rows.length*i.size+vals.length)).toArray:=⟨_,rfl⟩;rw[<-hcur']at hr;have hlo:rows.length*i.size=olds.length:=hro.len.symm;have hbl:nb<w.heap.size:=(gM.1 hgb).1
   have holds:cur.toList.take olds.length=olds:=by
    apply pC
    intro j;rw[pB];split
    .rename_i hj;have h3:=hmo j olds[j] (by simp[hj]);rw[xY]at h3;unfold World.cell? at h3;rw[hgb]at h3;simp at h3;simp[hj,h3]
    .rename_i hj;rw[pM aw]
   refine fin (w.setRow nb cur') olds nb cap0 cur' hro V V V (by simp[World.setRow]) ?_ ?_ ?_ hroom (.inl hown) ?_ ?_ ?_ hr
   .intro k hk' hne';simp[World.setRow,r9,Ne.symm hne']
   .simp[World.setRow,r9,hgb]
   .rw[<-hcs,hcur'];simp;omega
   .intro o' u hu';have h7:=hh.fH.st id nb ob o' u hown hob hu';rw[hn,hsz]at h7;have hst:=(hh.base.qA _ _ _ hu').1;unfold World.cell? at hst;rw[hgb]at hst;simp at hst;rw[hcur'];simp only[tt];rw[rO,gF aA,pB,gz h7,pD];exact hst
   .intro o' u hu';have h7:=hh.fH.st id nb ob o' u hown hob hu';rw[hn,hsz]at h7;exact h7
   .rw[hcur',hlo,holds];exact uv
  ·
   have hr:=run_append_grow (P:=P) w t o.type e i z hu ht.info ht.zero b rows.length cap0 olds hro.len hmo a rows'.length cap vals hrows.len hmem aw aw (growslice_fits aw hb);rw[<-hxv,<-e1]at hr;refine anew olds hro ?_;simpa using hr
end
section
variable {B:Nat} {s:S}
def qn.RA(hh:qn w E H)(ob:Ob)(h1:ob.kind≠1)(h2:ob.kind≠2)(hf:ob.fz<=ob.rows.length)(G:Nat->Nat->Option Value)(hG:∀id k,id<E.n->G id k=E.G id k):
  qn w {E.push 0 0 with G:=G} (H++[ob])/\qL w E H w {E.push 0 0 with G:=G} (H++[ob]):=by
 obtain⟨E',hE'⟩:∃E':Env,E'={E.push 0 0 with G:=G}:=⟨_,rfl⟩;rw[<-hE']
 have hle:E.le E':=by
  have:=E.LU 0 0;subst hE';exact⟨this.n,this.β,this.κ,this.St,λid k u hi hu=>by show G id k=some u;rw[hG id k hi];exact hu⟩
 have hold:∀id hops,id<H.length->E'.β id hops=E.β id hops:=λid hops fE=>hle.β id hops bB
 have hn':E'.n=E.n+1:=by rw[hE'];rfl
 have hSt:E'.St=E.St:=by rw[hE'];rfl
 have get:∀id hops x,qd (H++[ob]) id hops=some x->id<H.length/\qd H id hops=some x:=by
  intro id hops x hx;by_cases fE:id<H.length
  .exact⟨fE,by rw[wL fE]at hx;exact hx⟩
  .obtain⟨ob1,ho,hk,hg⟩:=ju hx;rw[gP aw]at ho
   have:id-H.length=0:=by
    exact dA
   rw[this]at ho;cases ho
   exact absurd hk (by rintro(h|h) <;> contradiction)
 have last:∀id ob1,(H++[ob])[id]?=some ob1->(id<H.length/\H[id]?=some ob1)\/(id=H.length/\ob1=ob):=by
  intro id ob1 ho;by_cases fE:id<H.length
  .rw[gF fE]at ho;exact .inl ⟨fE,ho⟩
  .rw[gP aw]at ho
   have:id-H.length=0:=by
    exact dA
   rw[this]at ho;cases ho
   exact .inr ⟨aw,rfl⟩
 refine⟨⟨by rw[hn',hh.n];simp,?_,?_,?_,?_,?_,?_⟩,⟨hle,λid k hi=>by subst hE';exact hG id k hi,rfl,rfl,rfl,gG _,λ_ _ _=>V,λb o u hu=>.inl (by rw[hSt]at hu;exact hu),?_⟩⟩
 .intro id ob1 hops sz' rows' hob hx;obtain⟨fE,hx'⟩:=get id hops _ hx;rw[gF fE]at hob;exact(hh.fR id ob1 hops sz' rows' hob hx').step hle bB V
 .intro id hops id' hops' x y hx hy he;obtain⟨h1,hx'⟩:=get id hops _ hx;obtain⟨h2,hy'⟩:=get id' hops' _ hy;rw[hold id hops h1,hold id' hops' h2]at he;exact hh.inj id hops id' hops' x y hx' hy' he
 .rw[hSt];exact hh.qA
 .intro id hops x o u hx hu;obtain⟨h1,hx'⟩:=get id hops _ hx;rw[hold id hops h1,hSt]at hu;obtain⟨e1,ob1,e2,e3⟩:=hh.sep id hops x o u hx' hu;exact⟨e1,ob1,by rw[gF h1];exact e2,e3⟩
 .intro id ob1 hob hk;rcases last id ob1 hob with⟨fE,ho⟩|⟨_,rfl⟩
  .rw[hold id [] fE];exact hh.ty id ob1 ho hk
  .exact absurd hk h2
 .intro id ob1 hob;rcases last id ob1 hob with⟨fE,ho⟩|⟨_,rfl⟩
  .exact hh.fz id ob1 ho
  .exact hf
 .rintro b ⟨id,hops,x,hx,rfl⟩;obtain⟨h1,hx'⟩:=get id hops _ hx;exact .inr ⟨id,hops,x,hx',by rw[hold id hops h1]⟩
def zp.grow(t:Nat)(ty:TypeId)(sz':Nat)(ht:s.tmps[t]?=some (.fF 1 sz rows))(hz:rows=[]\/sz'=sz):
  zp B s ⟨s.tmps.set t (.gl s.H.length sz' rows),s.H++[⟨4,ty,sz',rows,0⟩]⟩:=λm w E a hs=>by
 obtain⟨y,hy,hl⟩:=hs.tmps.get ht
 have hl0:L E.shut (.fF 1 sz' rows) y:=by
  have h1:=hl.wj V;rcases hz with rfl|rfl
  .exact WC.none 1 sz sz' E.shut y h1
  .exact h1
 have hfull:∃a,y=.slice a rows.length rows.length:=by
  cases hl0 with
  |fF o sz rows b off cap us ho hc hsz hst hL=>rcases ho with h|⟨_,h⟩;cases h;subst h;exact⟨_,rfl⟩
  |xE o sz ho a=>exact⟨a,rfl⟩
 have hl1:L E.shut (.fF 0 sz' rows) y:=WC.share 1 sz' rows E.shut y hl0;obtain⟨av,rfl⟩:=hfull;obtain⟨G,hGd⟩:∃G:Nat->Nat->Option Value,G=λi k=>if i=E.n then (if k=rows.length then some (.slice av rows.length rows.length) else none) else E.G i k:=⟨_,rfl⟩
 have hG:∀id k,id<E.n->G id k=E.G id k:=λid k hi=>by rw[hGd];simp[tq hi]
 obtain⟨hR,hg⟩:=hs.heap.base.RA ⟨4,ty,sz',rows,0⟩ (λh=>by cases h) (λh=>by cases h) (pa _) G hG;obtain⟨E',hE'⟩:∃E':Env,E'={E.push 0 0 with G:=G}:=⟨_,rfl⟩;rw[<-hE']at hR hg;have hn:=hs.heap.n;have hG':∀i k,E'.G i k=if i=E.n then (if k=rows.length then some (.slice av rows.length rows.length) else none) else E.G i k:=λi k=>by rw[hE',hGd]
 have last:∀id ob1,(s.H++[⟨4,ty,sz',rows,0⟩])[id]?=some ob1->(id<s.H.length/\s.H[id]?=some ob1)\/(id=s.H.length/\ob1=⟨4,ty,sz',rows,0⟩):=by
  intro id ob1 ho;by_cases fE:id<s.H.length
  .rw[gF fE]at ho;exact .inl ⟨fE,ho⟩
  .rw[gP aw]at ho
   have:id-s.H.length=0:=by
    exact dA
   rw[this]at ho;cases ho
   exact .inr ⟨aw,rfl⟩
 have back:∀i b,qP E' (s.H++[⟨4,ty,sz',rows,0⟩]) i b->qP E s.H i b:=by
  rintro i b ⟨ob,cap,h1,h2,h3,h4⟩;rcases last i ob h1 with⟨fE,ho⟩|⟨rfl,rfl⟩
  .refine⟨ob,cap,ho,h2,?_,h4⟩;rw[hG',gp aw]at h3;exact h3
  .rw[hG',gz hn.symm,gz V]at h3;simp only[gX,Value.slice.injEq]at h3;exact absurd h3.2.2.symm h4
 have rback:∀i b,jQ (s.H++[⟨4,ty,sz',rows,0⟩]) i b->jQ s.H i b:=by
  rintro i b ⟨ob,r,t,h1,h2,h3,h4⟩;rcases last i ob h1 with⟨fE,ho⟩|⟨rfl,rfl⟩
  .exact⟨ob,r,t,ho,h2,h3,h4⟩
  .exact absurd h3.2 aj
 have hGro:nX w E' (s.H++[⟨4,ty,sz',rows,0⟩]):=by
  refine⟨?_,?_,?_,λi j b h1 h2=>hs.heap.fH.inj i j b (back i b h1) (back j b h2),?_,?_,?_,λi j b h1 h2=>hs.heap.fH.mb i j b (rback i b h1) (rback j b h2)⟩
  .intro i ob h1 h2;rcases last i ob h1 with⟨fE,ho⟩|⟨rfl,rfl⟩
   .rw[hG',gp aw];exact hs.heap.fH.val i ob ho h2
   .exact⟨av,rows.length,by rw[hG',gz hn.symm,gz V],.inl V⟩
  .intro i b ob h1 h2;have h1':=back i b h1;have fE:i<s.H.length:=by obtain⟨ob2,_,e,_⟩:=h1';exact(gh.1 e).1
   rw[gF fE]at h2;rw[hG',gp aw];exact hs.heap.fH.fR i b ob h1' h2
  .intro i b h1 h2;rcases hg.own b h2 with h3|h3
   .have h1':=back i b h1;obtain⟨ob2,c2,e1,e2⟩:=h1';obtain⟨_,_,_,e3,_⟩:=hs.heap.fH.fR i b ob2 ⟨ob2,c2,e1,e2⟩ e1;have:=(gM.1 e3).1;omega
   .exact hs.heap.fH.sep i b (back i b h1) h3
  .intro i b ob o u h1 h2 h3;have h1':=back i b h1;have fE:i<s.H.length:=by obtain⟨ob2,_,e,_⟩:=h1';exact(gh.1 e).1
   rw[gF fE]at h2;exact hs.heap.fH.st i b ob o u h1' h2 (by rw[hE']at h3;exact h3)
  .intro i ob k u h1 h2 h3;rcases last i ob h1 with⟨fE,ho⟩|⟨rfl,rfl⟩
   .rw[hG',gp aw]at h3;exact hs.heap.fH.top i ob k u ho h2 h3
   .rw[hG',gz hn.symm]at h3;split at h3
    .rename_i e;rw[e];exact gG _
    .cases h3
  .intro i ob r t h1 h2 h3;rcases last i ob h1 with⟨fE,ho⟩|⟨rfl,rfl⟩
   .obtain⟨p1,p2⟩:=hs.heap.fH.iW i ob r t ho h2 h3;exact⟨p1,p2.mono hg.le⟩
   .exact absurd h3.2 aj
 have hGrow:Grow w E s.H w E' (s.H++[⟨4,ty,sz',rows,0⟩]):=
  ⟨hg.le,rfl,rfl,rfl,gG _,λ_ _ _=>V,λb o u hu=>(hg.jZ b o u hu).imp_right λh=>h.imp_right .inl,λb hb=>by
   rcases hb with hb|⟨i,hb|hb⟩
   .exact(hg.own b hb).imp_right .inl
   .exact .inr (.inr ⟨i,.inl (back i b hb)⟩)
   .exact .inr (.inr ⟨i,.inr (rback i b hb)⟩)⟩
 refine⟨E',⟨⟨hR,hGro⟩,?_,hs.defers,aG⟩,hGrow.iX (by rw[hn];exact hs.base)⟩
 have hnl:L E' (.gl s.H.length sz' rows) (.slice av rows.length rows.length):=by
  refine .gl _ _ _ _ (by rw[hE'];show _<E.n+1;omega) (by rw[hG',gz hn.symm,gz V]) (hl1.mono hg.le.shut)
 have:=(hs.tmps.mono hg.le).set hnl t
 rw[show a.tmps.toList.set t (.slice av rows.length rows.length)=a.tmps.toList from by
  apply pC
  intro j;rw[gJ];split
  .rename_i e;subst e;rw[hy,gz (gh.1 hy).1]
  .rfl]at this
 exact dG
def xH(n:Nat):Nat->C->C
 |0,_=>.za
 |k+1,c=>match c with
  |.gl _ sz rows=>.fF 0 sz rows
  |.agg cs=>.agg (cs.map (xH n k))
  |.fJ cs=>.fJ (cs.map (xH n k))
  |.fn f first caps=>.fn f (first.map (xH n k)) (caps.map (xH n k))
  |.iF t c=>.iF t (xH n k c)
  |.rc r=>.rc r
  |.ref id hops sz i j=>if Nat.blt id n then .ref id hops sz i j else .za
  |.sl id hops sz lo len full=>if Nat.blt id n then .sl id hops sz lo len full else .za
  |.mp id=>if Nat.blt id n then .mp id else .za
  |.v x=>.v x
  |.fF o sz rows=>.fF o sz rows
  |.jy cells=>.jy cells
  |.un=>.un
  |.za=>.za
def LL.of_map{f:C->C}{ys:List Value}(h:LL E cs ys)(hf:∀c y,L E c y->L E' (f c) y):LL E' (cs.map f) ys:=
 ⟨aq h.1,λi c y e1 e2=>by
  rw[gy]at e1;cases hx:cs[i]? with
  |none=>rw[hx]at e1;cases e1
  |some c0=>rw[hx]at e1;cases e1;exact hf c0 y (h.2 i c0 y hx e2)⟩
def L.low(n:Nat):∀(k:Nat) {c:C} {y:Value},L E c y->L (E.cut n) (xH n k c) y:=by
 intro k
 induction k with
 |zero=>intro c y h;exact .za y
 |succ k ih=>
  intro c y h;have hs:E.shut.le (E.cut n):=⟨pa _,λid hops hi=>absurd hi (pG _),λid hops hi=>absurd hi (pG _),λb o u hu=>hu,λid _ _ hi=>absurd hi (pG _)⟩;cases h with
  |gl id sz rows y hn hg h=>exact h.mono hs
  |v x hx=>exact .v _ hx
  |fF o sz rows b off cap us ho hc hsz hst hL=>exact(L.fF (E:=E) o sz rows b off cap us ho hc hsz hst hL).wj V |>.mono hs
  |xE o sz ho a=>exact .xE o sz ho a
  |jy cells b off us hst hL=>exact(L.jy (E:=E) cells b off us hst hL).wj V |>.mono hs
  |ref id hops sz i j hn=>
   unfold xH;dsimp only;split
   .rename_i h;exact .ref (E:=E.cut n) id hops sz i j bM
   .exact .za _
  |sl id hops sz lo len full cap hn hlen hf hf'=>
   unfold xH;dsimp only;split
   .rename_i h;exact .sl (E:=E.cut n) id hops sz lo len full cap bM hlen hf hf'
   .exact .za _
  |mp id hn=>
   unfold xH;dsimp only;split
   .rename_i h;exact .mp (E:=E.cut n) id bM
   .exact .za _
  |agg cs ys h1 h2 h3=>
   have:=LL.of_map (f:=xH n k) (E':=E.cut n) (cs:=cs) (ys:=ys.toList) ⟨aq h1,λi c y e1 e2=>h2 i c y e1 uZ⟩ (λc y hl=>ih hl);exact dD
  |fJ cs ys h1 h2=>
   have:=LL.of_map (f:=xH n k) (E':=E.cut n) (cs:=cs) (ys:=ys.toList) ⟨aq h1,λi c y e1 e2=>h2 i c y e1 uZ⟩ (λc y hl=>ih hl);exact .fJ _ ys (aq this.1) (λi c y e1 e2=>this.2 i c y e1 uZ)
  |fn f first caps ys zs h1 h2 h3 h4=>
   have t1:=LL.of_map (f:=xH n k) (E':=E.cut n) (cs:=first) (ys:=ys.toList) ⟨aq h1,λi c y e1 e2=>h3 i c y e1 uZ⟩ (λc y hl=>ih hl);have t2:=LL.of_map (f:=xH n k) (E':=E.cut n) (cs:=caps) (ys:=zs.toList) ⟨aq h2,λi c y e1 e2=>h4 i c y e1 uZ⟩ (λc y hl=>ih hl);exact dM
  |un=>exact .un
  |za y=>exact .za y
  |iF t c y h=>exact .iF t _ y (ih h)
def zp.low(n:Nat)(t:List C)(H:zn)(hB:Nat.ble B n=true)(hn:Nat.ble n H.length=true)(hr:zW n (H.take n)=true):zp B ⟨t,H⟩ ⟨t.map (xH n 9),H.take n⟩:=λm w E a hs=>
 ⟨E.cut n,⟨hs.heap.drop n (rW hn) hr,hs.tmps.of_map (λc y hl=>hl.low n 9),hs.defers,bG⟩,
  ⟨⟨λ_ _ _=>V,λ_ _ _=>V,λ_ _ _ h=>h,λ_ _ _ _ h=>h⟩,rfl,rfl,rfl,gG _,λ_ _ _=>V,λb o u hu=>.inl hu,λb h=>.inr h.take⟩⟩
def WC.gl(id sz:Nat)(rows:List (List C)):WC (.gl id sz rows) (.fF 0 sz rows):=λE y h=>Ca h
end
section
variable {P:Program} {o:Oper} {ρ:Operand->C} {H:zn}
def qC.Hu(hh:qC w E H){sz':Nat}(hl:L E (.fF 1 sz rows) y)(ty:TypeId)(hz:rows=[]\/sz'=sz):
  ∃E1,qC w E1 (H++[⟨4,ty,sz',rows,0⟩])/\L E1 (.gl H.length sz' rows) y/\Grow w E H w E1 (H++[⟨4,ty,sz',rows,0⟩]):=by
 obtain⟨E1,hs,g⟩:=zp.grow (B:=H.length) (s:=⟨[.fF 1 sz rows],H⟩) 0 ty sz' V hz 0 w E ⟨#[y],[]⟩ ⟨hh,LL.one hl,pa _,gG _⟩;have hn:=hs.heap.n
 refine⟨E1,hs.heap,hs.tmps.cons_inv.1,⟨⟨by rw[hn,hh.n];simp,λid hops hi=>g.le.β id hops tE,λid hops hi=>g.le.κ id hops tE,g.le.St,λid k u hi=>g.le.G id k u tE⟩,
  g.os,g.tape,g.output,g.size,g.frame,g.jZ,g.own⟩⟩
theorem wU{l:List α}{i:Nat}{x:α}(h:l[i]?=some x):l.set i x=l:=by
 apply pC
 intro j;rw[gJ];split
 .rename_i e;subst e;rw[gz (gh.1 h).1,h]
 .rfl
def fO.HR(cl:Call)(ho:o.op=.call cl)(x y:Operand)(ht:Bf P cl x y e i z){id:Nat}(hx:ρ x=.gl id i.size rows)(hob:H[id]?=some ob)
 (hkd:ob=⟨4,e,i.size,rows,0⟩){sz':Nat}{rows':List (List C)}(hy:xU H (Ab.iA (ρ y))=some (sz',rows'))(hsz:rows'=[]\/sz'=i.size)(hm:rows.length+rows'.length<=maxLen)(hb:(rows.length+rows'.length)*i.bytes<=140737488355328):
  fO P o ρ H (.gl id i.size (rows++rows')) (H.set id ⟨4,e,i.size,rows++rows',0⟩):=by
 subst hkd;by_cases hne:rows'=[]
 .subst hne;rw[rA,wU hob];refine .same λw E σ hh hl K hk=>?_
  have h0:=Ca (hl x tA);have h1:=Ca (hl y tA);have hx':xU H (Ab.iA (ρ x))=some (i.size,rows):=by rw[hx];simp[Ab.iA,xU]
  obtain⟨t,hu,hexec⟩:=wG ho ht σ w
  have hyv:∃a cap,σ y=.slice a 0 cap:=by
   rcases yJ hh h1 hy with⟨_,e1⟩|⟨a,cap,vals,e1,_⟩
   .exact⟨none,0,e1⟩
   .exact⟨some a,cap,e1⟩
  obtain⟨a,cap,hyv⟩:=hyv
  have hr:(Builtin.append_ #[t,t] o.type #[σ x,σ y]).run P w=.ok (σ x) w:=by
   rcases yJ hh h0 hx' with⟨_,e1⟩|⟨a',cap',vals,e1,hcap,_⟩
   .cases a <;> simp[Builtin.append_,run_underlying hu,sizeOf,typeInfo,ht.info,Builtin.lenOf,hyv,e1,Builtin.firstCells,loadCells,loadCellsFrom]
   .cases a <;> simp[Builtin.append_,run_underlying hu,sizeOf,typeInfo,ht.info,Builtin.lenOf,hyv,e1,hcap,Builtin.firstCells,loadCells,loadCellsFrom,storeCells]
  rw[hexec _ _ hr];refine hk _ w E hh ?_ (qL.refl w E H);have:=hl x tA;rw[hx]at this;exact dG
 .obtain rfl:=hsz.resolve_left hne;exact .zsx cl ho x y ht hx hob V V V V hy hne hm hb
def fO.JP(cl:Call)(ho:o.op=.call cl)(x y:Operand)(ht:Bf P cl x y e i z)(hx:ρ x=.fF 1 sz rows)(hsx:rows=[]\/sz=i.size)
 {sz':Nat}{rows':List (List C)}(hy:xU H (Ab.iA (ρ y))=some (sz',rows'))(hsz:rows'=[]\/sz'=i.size)(hm:rows.length+rows'.length<=maxLen)(hb:(rows.length+rows'.length)*i.bytes<=140737488355328):
  fO P o ρ H (.gl H.length i.size (rows++rows')) (H++[⟨4,e,i.size,rows++rows',0⟩]):=by
 classical
 intro w E σ hh hl K hk;have h0:=hl x tA;rw[hx]at h0;obtain⟨E1,hh1,hl1,g1⟩:=hh.Hu h0 e (sz':=i.size) (hsx.imp id Eq.symm);obtain⟨ρ',hρx,hρ⟩:∃ρ':Operand->C,ρ' x=.gl H.length i.size rows/\∀z,z≠x->ρ' z=ρ z:=⟨λz=>if z=x then .gl H.length i.size rows else ρ z,aj,λz hz=>by simp[hz]⟩;have hob:(H++[⟨4,e,i.size,rows,0⟩]:zn)[H.length]?=some ⟨4,e,i.size,rows,0⟩:=aj
 have hy':∃sz2,xU (H++[⟨4,e,i.size,rows,0⟩]) (Ab.iA (ρ' y))=some (sz2,rows')/\(rows'=[]\/sz2=i.size):=by
  by_cases hyx:y=x
  .subst hyx;rw[hx]at hy;simp[Ab.iA,xU]at hy;obtain⟨_,rfl⟩:=hy;exact⟨i.size,by rw[hρx];simp[Ab.iA,xU],.inr V⟩
  .rw[hρ y hyx];refine⟨sz',?_,hsz⟩;cases hc:Ab.iA (ρ y) with
   |sl id hops sz2 lo len full=>
    rw[hc]at hy;simp only[xU]at hy|-;cases hid:H[id]? with
    |none=>rw[hid]at hy;simp at hy
    |some ob=>
     have fE:=(gh.1 hid).1;rw[hid]at hy;rw[gF fE,hid,wL fE];exact hy
   |fF o2 s2 r2=>rw[hc]at hy;exact hy
   |_=>rw[hc]at hy;cases hy
 obtain⟨sz2,hy1,hy2⟩:=hy'
 have:=fO.HR (ρ:=ρ') cl ho x y ht hρx hob V hy1 hy2 hm hb w E1 σ hh1 (λz hz=>by
  by_cases hzx:z=x
  .subst hzx;rw[hρx];exact hl1
  .rw[hρ z hzx];exact(hl z hz).mono g1.le) K
 have e1:(H++[⟨4,e,i.size,rows,0⟩]:zn).set H.length ⟨4,e,i.size,rows++rows',0⟩=H++[⟨4,e,i.size,rows++rows',0⟩]:=aj
 rw[e1]at this;exact this λv w' E' a b c=>hk v w' E' a b (g1.trans c)
end
abbrev bs(l:List UInt8):ByteArray:=⟨⟨l⟩⟩
theorem Ie(l:List UInt8):(bs l).size=l.length:=rfl
def zzQ(l:List UInt8)(n:Nat):(bs l)[n]?=l[n]?:=by
 have h:(bs l)[n]?=(bs l).data[n]?:=by
  by_cases hn:n<l.length
  .rw[getElem?_pos (bs l) n hn,getElem?_pos (bs l).data n hn];rfl
  .rw[getElem?_neg (bs l) n hn,getElem?_neg (bs l).data n hn]
 rw[h];simp
def YM(l:List UInt8)(a b:Nat):(bs l).extract a b=bs ((l.take b).drop a):=by
 apply ByteArray.ext
 rw[ByteArray.data_extract];apply tZ.1
 simp[List.drop_take]
def zsD(l m:List UInt8):bs l++bs m=bs (l++m):=by
 apply ByteArray.ext
 simp
section
variable {P:Program} {o:Oper} {ρ:Operand->C} {H:zn}
def jU{x:Value}(h:L E (.v x) y):y=x:=by cases h;rfl
def qU.zw4(t:TypeId)(x y:Operand)(ho:o.op=.index t x y)(ht:P.underlying t=some .string){l:List UInt8}(hx:ρ x=.v (.string (bs l))){k:IntKind}{n:Int}(hy:ρ y=.v (.int k n))(h0:0<=n)
 {c:UInt8}(hc:l[n.toNat]?=some c):qU P o ρ H (.v (.int .u8 c.toNat)) H:=λw E σ hh hl K hk=>by
 have h1:=jU (hx ▸ hl x uY);have h2:=jU (hy ▸ hl y uY)
 have hr:(execOp σ o).run P w=.ok (.value (.int .u8 c.toNat)) w:=by
  unfold execOp;simp[ho,Instr.index,asIntOf,h1,h2,run_underlying ht,h0,zzQ,hc]
 exact dk
def qU.SM(cl:Call)(ho:o.op=.call cl)(hcl:cl.callee=.builtin .len)(x:Operand)(hx:cl.args= #[x])(ht:cl.argTypes= #[t])(hu:P.underlying t=some .string)
 {l:List UInt8}(hl0:ρ x=.v (.string (bs l))):qU P o ρ H (.v (.int .i64 l.length)) H:=λw E σ hh hl K hk=>by
 have h1:=jU (hl0 ▸ hl x (by simp[ho,Op.operands,Call.operands,hcl,hx]))
 have hr:(execOp σ o).run P w=.ok (.value (.int .i64 l.length)) w:=by
  unfold execOp;simp[ho,resolve,hcl,hx,ht,invoke,builtin,Builtin.len_,h1,run_underlying hu,goInt,Ie]
 exact dk
def WY{len:Nat}{hi:Option Operand}{l h:Nat}(hl:∀y,lo=some y->∃k,σ y=.int k l)(hl0:lo=none->l=0)(hh:∀y,hi=some y->∃k,σ y=.int k h)(hh0:hi=none->h=len)
 (h1:l<=h)(h2:h<=len)(w:World):(Instr.sliceBounds false len len (lo.map σ) (hi.map σ) none).run P w=.ok (l,h,len) w:=by
 unfold Instr.sliceBounds;cases lo with
 |none=>
  obtain rfl:=hl0 V;cases hi with
  |none=>obtain rfl:=hh0 V;simp
  |some y=>obtain⟨k,e⟩:=hh y V;simp[e,run_sliceBound h2]
 |some x=>
  obtain⟨k0,e0⟩:=hl x V;cases hi with
  |none=>obtain rfl:=hh0 V;simp[e0,run_sliceBound h1]
  |some y=>obtain⟨k,e⟩:=hh y V;simp[e,e0,run_sliceBound h2,run_sliceBound h1]
def qU.zw6(t:TypeId)(x:Operand)(lo hi:Option Operand)(ho:o.op=.slice t x lo hi none)(ht:P.underlying t=some .string){b:List UInt8}(hx:ρ x=.v (.string (bs b)))
 {l h:Nat}(hl':nv ρ lo 0 l)(hh':nv ρ hi b.length h)(h1:l<=h)(h2:h<=b.length):qU P o ρ H (.v (.string (bs ((b.take h).drop l)))) H:=λw E σ hh hl K hk=>by
 have h0:=jU (hx ▸ hl x uY);obtain⟨b1,b2⟩:=hl'.val (E:=E) (σ:=σ) (λy e=>hl y tL);obtain⟨b3,b4⟩:=hh'.val (E:=E) (σ:=σ) (λy e=>hl y tL)
 have hr:(execOp σ o).run P w=.ok (.value (.string (bs ((b.take h).drop l)))) w:=by
  unfold execOp;have:=WY (P:=P) b1 b2 b3 b4 h1 h2 w;rw[<-Ie]at this;simp[ho,Instr.sliceAt,run_underlying ht,Instr.slice,h0,this,YM]
 exact dk
def qU.Te(op:BinOp)(t t':TypeId)(x y:Operand)(ho:o.op=.binOp op t x y t')(hop:op=.eql\/op=.neq){a b:List UInt8}(hx:ρ x=.v (.string (bs a)))(hy:ρ y=.v (.string (bs b))):
  qU P o ρ H (.v (.bool (if op=.eql then a == b else !(a == b)))) H:=λw E σ hh hl K hk=>by
 have h1:=jU (hx ▸ hl x uY);have h2:=jU (hy ▸ hl y uY)
 have hr:(execOp σ o).run P w=.ok (.value (.bool (if op=.eql then a == b else !(a == b)))) w:=by
  unfold execOp;rcases hop with rfl|rfl <;> simp[ho,h1,h2,eqGuard,binOp,Op.stringOp]
 exact dk
def qU.Ug(t t':TypeId)(x y:Operand)(ho:o.op=.binOp .add t x y t'){a b:List UInt8}(hx:ρ x=.v (.string (bs a)))(hy:ρ y=.v (.string (bs b)))(hm:a.length+b.length<=9223372036854775807):
  qU P o ρ H (.v (.string (bs (a++b)))) H:=λw E σ hh hl K hk=>by
 have h1:=jU (hx ▸ hl x uY);have h2:=jU (hy ▸ hl y uY)
 have hr:(execOp σ o).run P w=.ok (.value (.string (bs (a++b)))) w:=by
  unfold execOp;simp only[ho,h1,h2,Sem.run_bind];simp[eqGuard,binOp,Op.stringOp,zsD];rw[Ie,Ie];omega
 exact dk
abbrev Dt(b:UInt8):List C:=[.v (.int .u8 (b.toNat:Int))]
def qU.zsL(src dst:TypeId)(x:Operand)(ho:o.op=.convert src dst x)(hs:P.underlying src=some (.slice e))(he:P.underlying e=some (.int .u8))(hd:P.underlying dst=some .string){bts:List UInt8}
 (hx:ρ x=.fF fo 1 (bts.map Dt)):qU P o ρ H (.v (.string (bs bts))) H:=λw E σ hh hl K hk=>by
 have h0:=hl x uY
 have key:(convert src dst (σ x)).run P w=.ok (.string (bs bts)) w:=by
  rw[hx]at h0;generalize σ x=y at h0;generalize hc:C.fF fo 1 (bts.map Dt)=c at h0;cases h0 with
  |fF o' sz rows b off cap us ho' hcap hsz hst hL=>
   cases hc
   have hlen:(bts.map Dt).length=bts.length:=gC ..;rw[hlen]
   have:=run_convert_bytes_arg (P:=P) w src e hs he b off bts.length cap (bts.map λb=>(b.toNat:Int)) aj (λi hi=>by
    have hr:(bts.map Dt)[i]?=some (Dt bts[i]):=by simp[hi]
    have h1:=hst i _ 0 _ hr V;have h2:=jU (hL i _ 0 _ hr V);rw[h2]at h1;have h3:=(hh.qA _ _ _ h1).1;have e1:off+i*1+0=off+i:=aw
    rw[e1]at h3;rw[h3];simp[List.getD,hi]) dst hd
   rw[this]
   congr 2
   apply ByteArray.ext
   apply tZ.1
   rw[strOfNums_data,rC];have e2:((λn:Int=>UInt8.ofNat n.toNat) ∘ λb:UInt8=>(b.toNat:Int))=id:=by funext b;simp
   rw[e2,List.map_id]
  |xE o' sz ho' a=>
   have hb:bts=[]:=by
    have:(bts.map Dt)=[]:=by injection hc
    simpa using this
   subst hb;cases a with
   |none=>exact run_convert_bytes_nil w src e hs he 0 0 dst hd
   |some a=>
    rw[run_convert_bytes_string w src dst e _ 0 0 hs he hd,run_bytesToString w _ 0 0 [] (by simp[loadCells];rfl)]
    rfl
  |_=>cases hc
 have hr:(execOp σ o).run P w=.ok (.value (.string (bs bts))) w:=by
  unfold execOp;simp[ho,key]
 exact dk
end
abbrev kH(z l:Nat)(o:Obj)(t:List C):Ob:=⟨4,l,z,[.rc o::t],1⟩
abbrev M9(l:Nat)(o:Obj)(t:List C):Ob:=kH 1 l o t
abbrev iN(l:Nat)(r:Loop)(t:List C):Ob:=M9 l (.loop r) t
abbrev iM(b:Nat)(es:Array MapEntry)(k:Nat):Ob:=M9 b (.map es k) []
def qC.setObj(hh:qC w E H){z id l:Nat}{r r':Obj}{t t':List C}(hob:H[id]?=some (kH z l r t))(hf':Em r'=true)(hr:m9 E t r->m9 E t' r'):
  qC (w.putObj l r') E (H.set id (kH z l r' t'))/\Grow w E H (w.putObj l r') E (H.set id (kH z l r' t')):=by
 obtain⟨⟨hL,hf⟩,ht⟩:=hh.fH.iW id _ r t hob V ⟨rfl,rfl⟩;have fE:=(gM.1 hL).1
 have hcells:∀(k:Nat) c ty z,w.heap[k]?=some (Obj.cells c ty z)->(w.putObj l r').heap[k]?=w.heap[k]?:=λk c ty z h=>
  World.putObj_heap_other (by rintro rfl;rw[hL]at h;cases h;cases hf)
 have hgetS:∀i,i≠id->(H.set id (kH z l r' t'))[i]?=H[i]?:=λi hi=>by rw[gJ,gp (Ne.symm hi)]
 have hgetI:(H.set id (kH z l r' t'))[id]?=some (kH z l r' t'):=by rw[gJ,gz V,gz (gh.1 hob).1]
 have hGo:∀i b,qP E (H.set id (kH z l r' t')) i b->qP E H i b:=by
  rintro i b ⟨ob2,cap,h1,h2,h3,h4⟩;by_cases hi:i=id
  .subst hi;rw[hgetI]at h1;cases h1
   exact⟨_,cap,hob,rfl,h3,h4⟩
  .rw[hgetS i hi]at h1;exact⟨ob2,cap,h1,h2,h3,h4⟩
 have hRo:∀i b,jQ (H.set id (kH z l r' t')) i b->jQ H i b:=by
  rintro i b ⟨ob2,r2,t2,h1,h2,h3,h4⟩;by_cases hi:i=id
  .subst hi;rw[hgetI]at h1;cases h1
   exact⟨_,r,t,hob,rfl,⟨rfl,rfl⟩,h4⟩
  .rw[hgetS i hi]at h1;exact⟨ob2,r2,t2,h1,h2,h3,h4⟩
 have ho0:∀b,jr E (H.set id (kH z l r' t')) b↔jr E H b:=λb=>jr.Fb hob V V V
 have hR:qn (w.putObj l r') E (H.set id (kH z l r' t')):=by
  refine qn.Fb (hh.base.other (Env.le.refl E) V V ?_ ?_ λb o u _ hu=>hu) hob V V aj
  .intro b hb;obtain⟨cur,e,h1⟩:=hh.base.F6 hb;exact hcells b _ _ _ h1
  .intro b o u hu;obtain⟨h1,h2⟩:=hh.base.qA b o u hu;refine⟨?_,h2⟩;unfold World.cell? at h1|-;split at h1
   .rename_i c ty z hc;rw[hcells _ _ _ _ hc,hc];exact h1
   .cases h1
 refine⟨⟨hR,?_,?_,?_,?_,?_,?_,?_,λi j b h1 h2=>hh.fH.mb i j b (hRo i b h1) (hRo j b h2)⟩,⟨Env.le.refl E,rfl,rfl,rfl,aj,?_,λb o u hu=>.inl hu,?_⟩⟩
 .intro i ob2 h1 h2;by_cases hi:i=id
  .subst hi;rw[hgetI]at h1;cases h1
   have:=hh.fH.val i _ hob V;exact dG
  .rw[hgetS i hi]at h1;exact hh.fH.val i ob2 h1 h2
 .intro i b ob2 h1 h2;have h1':=hGo i b h1;by_cases hi:i=id
  .subst hi;rw[hgetI]at h2;cases h2
   obtain⟨cur,cap,e1,e2,e3⟩:=hh.fH.fR i b _ h1' hob;exact⟨cur,cap,e1,(hcells _ _ _ _ e2).trans e2,e3⟩
  .rw[hgetS i hi]at h2;obtain⟨cur,cap,e1,e2,e3⟩:=hh.fH.fR i b ob2 h1' h2;exact⟨cur,cap,e1,(hcells _ _ _ _ e2).trans e2,e3⟩
 .intro i b h1 h2;exact hh.fH.sep i b (hGo i b h1) ((ho0 b).1 h2)
 .intro i j b h1 h2;exact hh.fH.inj i j b (hGo i b h1) (hGo j b h2)
 .intro i b ob2 o u h1 h2 h3;have h1':=hGo i b h1;by_cases hi:i=id
  .subst hi;rw[hgetI]at h2;cases h2
   have:=hh.fH.st i b _ o u h1' hob h3;exact dG
  .rw[hgetS i hi]at h2;exact hh.fH.st i b ob2 o u h1' h2 h3
 .intro i ob2 k u h1 h2 h3;by_cases hi:i=id
  .subst hi;rw[hgetI]at h1;cases h1
   have:=hh.fH.top i _ k u hob V h3;exact dG
  .rw[hgetS i hi]at h1;exact hh.fH.top i ob2 k u h1 h2 h3
 .intro i ob2 r2 t2 h1 h2 h3;by_cases hi:i=id
  .subst hi;rw[hgetI]at h1;cases h1
   obtain⟨h3,_⟩:=h3;simp only[List.cons.injEq,C.rc.injEq,and_true]at h3;obtain⟨rfl,rfl⟩:=h3;exact⟨⟨World.putObj_heap_same fE,hf'⟩,hr ht⟩
  .rw[hgetS i hi]at h1;obtain⟨p1,p2⟩:=hh.fH.iW i ob2 r2 t2 h1 h2 h3;refine⟨⟨(World.putObj_heap_other ?_).trans p1.1,p1.2⟩,p2⟩;intro e;exact hi (hh.fH.mb i id l ⟨ob2,r2,t2,h1,h2,h3,e⟩ ⟨_,r,t,hob,rfl,⟨rfl,rfl⟩,rfl⟩)
 .intro k _ hk;refine World.putObj_heap_other ?_;rintro rfl;exact hk (.inr ⟨id,.inr ⟨_,r,t,hob,rfl,⟨rfl,rfl⟩,rfl⟩⟩)
 .rintro b (hb|⟨i,hb|hb⟩)
  .exact .inr (.inl ((ho0 b).1 hb))
  .exact .inr (.inr ⟨i,.inl (hGo i b hb)⟩)
  .exact .inr (.inr ⟨i,.inr (hRo i b hb)⟩)
def qC.H9(hh:qC w E H){id l:Nat}{r r':Loop}{t:List C}(hob:H[id]?=some (iN l r t))(hr:r'.tmps=r.tmps):
  qC (w.putObj l (.loop r')) E (H.set id (iN l r' t))/\Grow w E H (w.putObj l (.loop r')) E (H.set id (iN l r' t)):=hh.setObj (z:=1) hob V λh=>.inl (by simp only[JN,hr];exact h.loop)
def qC.newObj{w0:World}(h0:qC w0 E H){z l:Nat}{r:Obj}{t:List C}(hf:Em r=true)(hk:∀k,k<w0.heap.size->w.heap[k]?=w0.heap[k]?)(hos:w.os=w0.os)(htp:w.tape=w0.tape)(hout:w.output=w0.output)(hsz:w0.heap.size<=w.heap.size)
 (hL:w.heap[l]?=some r)(hl:w0.heap.size<=l)(ht:m9 E t r):∃E1,qC w E1 (H++[kH z l r t])/\Grow w0 E H w E1 (H++[kH z l r t]):=by
 have hh:qC w E H:=h0.cells λk o h _=>hk k (gM.1 h).1
 have hn:=hh.n;obtain⟨G,hGd⟩:∃G:Nat->Nat->Option Value,G=λi k=>if i=E.n then (if k=1 then some (.slice none 1 1) else none) else E.G i k:=⟨_,rfl⟩
 have hG:∀id k,id<E.n->G id k=E.G id k:=λid k hi=>by rw[hGd];simp[tq hi]
 obtain⟨hR,hg⟩:=hh.base.RA (kH z l r t) (λh=>by cases h) (λh=>by cases h) (gG _) G hG;obtain⟨E',hE'⟩:∃E':Env,E'={E.push 0 0 with G:=G}:=⟨_,rfl⟩;rw[<-hE']at hR hg;have hG':∀i k,E'.G i k=if i=E.n then (if k=1 then some (.slice none 1 1) else none) else E.G i k:=λi k=>by rw[hE',hGd]
 have hSt:E'.St=E.St:=by rw[hE'];rfl
 have last:∀id ob1,(H++[kH z l r t])[id]?=some ob1->(id<H.length/\H[id]?=some ob1)\/(id=H.length/\ob1=kH z l r t):=by
  intro id ob1 ho;by_cases fE:id<H.length
  .rw[gF fE]at ho;exact .inl ⟨fE,ho⟩
  .rw[gP aw]at ho
   have:id-H.length=0:=by
    exact dA
   rw[this]at ho;cases ho
   exact .inr ⟨aw,rfl⟩
 have back:∀i b,qP E' (H++[kH z l r t]) i b->qP E H i b:=by
  rintro i b ⟨ob,cap,h1,h2,h3,h4⟩;rcases last i ob h1 with⟨fE,ho⟩|⟨rfl,rfl⟩
  .refine⟨ob,cap,ho,h2,?_,h4⟩;rw[hG',gp aw]at h3;exact h3
  .rw[hG',gz hn.symm,gz (show(kH z l r t).rows.length=1 from V)]at h3;simp at h3
 have rback:∀i b,jQ (H++[kH z l r t]) i b->(jQ H i b/\b<w0.heap.size)\/(i=H.length/\b=l):=by
  rintro i b ⟨ob,r2,t2,h1,h2,h3,h4⟩;rcases last i ob h1 with⟨fE,ho⟩|⟨rfl,rfl⟩
  .have:=(h0.fH.iW i ob r2 t2 ho h2 h3).1.1;rw[h4]at this;exact .inl ⟨⟨ob,r2,t2,ho,h2,h3,h4⟩,(gM.1 this).1⟩
  .exact .inr ⟨rfl,h4.symm⟩
 have hGro:nX w E' (H++[kH z l r t]):=by
  refine⟨?_,?_,?_,λi j b h1 h2=>hh.fH.inj i j b (back i b h1) (back j b h2),?_,?_,?_,?_⟩
  .intro i ob h1 h2;rcases last i ob h1 with⟨fE,ho⟩|⟨rfl,rfl⟩
   .rw[hG',gp aw];exact hh.fH.val i ob ho h2
   .exact⟨none,1,by show E'.G _ 1=_;rw[hG',gz hn.symm,gz V];rfl,.inl V⟩
  .intro i b ob h1 h2;have h1':=back i b h1;have fE:i<H.length:=by obtain⟨ob2,_,e,_⟩:=h1';exact(gh.1 e).1
   rw[gF fE]at h2;rw[hG',gp aw];exact hh.fH.fR i b ob h1' h2
  .intro i b h1 h2;rcases hg.own b h2 with h3|h3
   .have h1':=back i b h1;obtain⟨ob2,c2,e1,e2⟩:=h1';obtain⟨_,_,_,e3,_⟩:=hh.fH.fR i b ob2 ⟨ob2,c2,e1,e2⟩ e1;have:=(gM.1 e3).1;omega
   .exact hh.fH.sep i b (back i b h1) h3
  .intro i b ob o u h1 h2 h3;have h1':=back i b h1;have fE:i<H.length:=by obtain⟨ob2,_,e,_⟩:=h1';exact(gh.1 e).1
   rw[gF fE]at h2;exact hh.fH.st i b ob o u h1' h2 (by rw[hSt]at h3;exact h3)
  .intro i ob k u h1 h2 h3;rcases last i ob h1 with⟨fE,ho⟩|⟨rfl,rfl⟩
   .rw[hG',gp aw]at h3;exact hh.fH.top i ob k u ho h2 h3
   .rw[hG',gz hn.symm]at h3;split at h3
    .rename_i e;rw[e];exact gG _
    .cases h3
  .intro i ob r2 t2 h1 h2 h3;rcases last i ob h1 with⟨fE,ho⟩|⟨rfl,rfl⟩
   .obtain⟨p1,p2⟩:=hh.fH.iW i ob r2 t2 ho h2 h3;exact⟨p1,p2.mono hg.le⟩
   .obtain⟨h3,_⟩:=h3;simp only[List.cons.injEq,C.rc.injEq,and_true]at h3;obtain⟨rfl,rfl⟩:=h3;exact⟨⟨hL,hf⟩,ht.mono hg.le⟩
  .intro i j b h1 h2;rcases rback i b h1 with⟨a1,a2⟩|⟨rfl,rfl⟩
   .rcases rback j b h2 with⟨b1,b2⟩|⟨rfl,rfl⟩
    .exact hh.fH.mb i j b a1 b1
    .omega
   .rcases rback j b h2 with⟨b1,b2⟩|⟨rfl,_⟩
    .omega
    .rfl
 refine⟨E',⟨hR,hGro⟩,⟨hg.le,hos,htp,hout,hsz,λk h1 _=>hk k h1,λb o u hu=>.inl (by rw[hSt]at hu;exact hu),?_⟩⟩;rintro b (hb|⟨i,hb|hb⟩)
 .rcases hg.own b hb with h3|h3
  .exact .inl (pH hsz h3)
  .exact .inr (.inl h3)
 .exact .inr (.inr ⟨i,.inl (back i b hb)⟩)
 .rcases rback i b hb with⟨a1,_⟩|⟨_,rfl⟩
  .exact .inr (.inr ⟨i,.inr a1⟩)
  .exact .inl hl
def qC.zyo{w0:World}(h0:qC w0 E H){l:Nat}{r:Loop}{t:List C}(hk:∀k,k<w0.heap.size->w.heap[k]?=w0.heap[k]?)(hos:w.os=w0.os)(htp:w.tape=w0.tape)(hout:w.output=w0.output)(hsz:w0.heap.size<=w.heap.size)
 (hL:w.heap[l]?=some (.loop r))(hl:w0.heap.size<=l)(ht:LL E t r.tmps.toList):∃E1,qC w E1 (H++[iN l r t])/\Grow w0 E H w E1 (H++[iN l r t]):=h0.newObj (z:=1) V hk hos htp hout hsz hL hl (.inl ht)
def jM(P:Program)(l:Nat)(H:zn)(args:List C)(r:C)(H':zn):Prop:=
 ∀(w:World) (E:Env) (vs:Array Value),qC w E H->LL E args vs.toList->
  ∃fn tmps assign body,(Instr.yield l vs).run P w=.ok (.round l fn tmps assign body) w/\
   RoundIn (fw none) 0 P l fn tmps assign body w λe w'=>∃v E',e=.returned v/\qC w' E' H'/\L E' r v/\Grow w E H w' E' H'
def DE(t:List C)(ps:List Tmp)(args:List C):List C:=(ps.zip args).foldl (λt x=>t.set x.1 x.2) t
def RN{E:Env}:∀(ps:List Tmp) (args:List C) (vs:List Value) (t:List C) (ys:Array Value),LL E t ys.toList->LL E args vs->
  LL E (DE t ps args) ((ps.zip vs).foldl (λ(tmps:Array Value) x=>tmps.setIfInBounds x.1 x.2) ys).toList
 |[],args,vs,t,ys,h,_=>by simpa [DE] using h
 |p::ps,[],[],t,ys,h,_=>by simpa [DE] using h
 |p::ps,[],v::vs,t,ys,h,hl=>by have:=hl.1;simp at this
 |p::ps,c::cs,[],t,ys,h,hl=>by have:=hl.1;simp at this
 |p::ps,c::cs,v::vs,t,ys,h,hl=>by
  obtain⟨h1,h2⟩:=hl.cons_inv;have h3:LL E (t.set p c) (ys.setIfInBounds p v).toList:=by simpa using h.set h1 p
  simpa [DE] using RN ps cs vs (t.set p c) (ys.setIfInBounds p v) h3 h2
def jS.up{w':World}(hh:qC w E H)(hs:qC w' E' H')(hb:H.length<=H'.length)(g:jS H.length w E H w' E' H'):Grow w E H w' E' H':=
 ⟨⟨by rw[hh.n,hs.n];exact hb,λid hops hi=>g.le.β id hops tE,λid hops hi=>g.le.κ id hops tE,g.le.St,λid k u hi=>g.le.G id k u tE⟩,
  g.os,g.tape,g.output,g.size,g.frame,g.jZ,g.own⟩
abbrev busy(r:Loop):Loop:={r with state:=.busy}
abbrev left(r:Loop)(c:Code):Loop:={r with state:=.done,pending:=some c}
abbrev SR(id l:Nat)(r:Loop)(t:List C)(rv:Bool)(H':zn)(e:Exit)(H3:zn):Prop:=
 H3[id]?=some (iN l (busy r) t)/\((e=.normal/\rv=true/\H'=H3.set id (iN l r t))\/(rv=false/\((e=.ret/\H'=H3.set id (iN l (left r .ret) t))\/∃i,e=.exit i/\H'=H3.set id (iN l (left r (.exit i)) t))))
def jM.AP{H1:zn}{id l:Nat}{r:Loop}{t:List C}{rv:Bool}(hob:H1[id]?=some (iN l r t))(hst:r.state=.ready)(hpe:r.pending=none)
 (hn:args.length=r.params.size)(hna:xW r.assign=false)(hnb:xW r.body=false)
 (h:jb P H1.length r.assign ⟨DE t r.params.toList args,H1⟩ λe s1=>e=.normal/\s1.H[id]?=some (iN l r t)/\jb P H1.length r.body ⟨s1.tmps,s1.H.set id (iN l (busy r) t)⟩ λe s2=>
   ∃s3,zp H1.length s2 s3/\SR id l r t rv H' e s3.H):jM P l H1 args (.v (.bool rv)) H':=by
 intro w E vs hh hl;obtain⟨⟨hL,_⟩,ht⟩:=hh.fH.iW id _ (.loop r) t hob V ⟨rfl,rfl⟩;have ht:=ht.loop;have hsz:vs.size=r.params.size:=by have:=hl.1;exact dc
 refine⟨r.fn,_,r.assign,r.body,run_yield hL hsz,roundIn_of_wpIn trivial ?_⟩
 have h0:yi H1.length 0 w E ⟨DE t r.params.toList args,H1⟩ {tmps:=(r.params.zip vs).foldl (λtmps (x:Tmp×Value)=>tmps.setIfInBounds x.1 x.2) r.tmps,defers:=[]}:=by
  refine⟨hh,?_,pa _,gG _⟩;have:=RN r.params.toList args vs.toList t r.tmps ht hl;rw[<-Array.toList_zip,Array.foldl_toList]at this;exact dG
 refine h (some l) 0 w E _ _ (λe=>by rw[hna]at e;cases e) h0 λe s1 w1 E1 a1 hR1 hs1 g1=>?_
 obtain⟨rfl,hob1,hb⟩:=hR1;obtain⟨⟨hL1,_⟩,_⟩:=hs1.heap.fH.iW id _ (.loop r) t hob1 V ⟨rfl,rfl⟩;refine⟨_,run_beginRound hL1 hst,?_⟩;obtain⟨hR2,G2⟩:=hs1.heap.H9 (r':=busy r) hob1 V;refine hb (some l) 0 _ E1 a1 _ (λe=>by rw[hnb]at e;cases e) ⟨hR2,hs1.tmps,?_,aq hs1.base⟩ λe s2 w3 E2 a3 hR3 hs2 g2=>?_
 .exact hs1.defers.grow hs1.heap G2
 obtain⟨s3,hw3,hob2,hend3⟩:=hR3;obtain⟨E3,hs3,g23⟩:=hw3 _ w3 E2 a3 hs2;have g3:=g2.trans g23;obtain⟨⟨hL3,_⟩,_⟩:=hs3.heap.fH.iW id _ (.loop (busy r)) t hob2 V ⟨rfl,rfl⟩;have hn1:H1.length<=E1.n:=by rw[hs1.heap.n];exact hs1.base
 have hn3:H1.length<=E3.n:=by rw[hs3.heap.n];exact hs3.base
 rcases hend3 with⟨rfl,rfl,rfl⟩|⟨rfl,hleave⟩
 .obtain⟨hR4,G4⟩:=hs3.heap.H9 (r':=r) hob2 V
  have e:({busy r with state:=.ready,pending:=none}:Loop)=r:=by
   obtain⟨st,pe,_,_,_,_,_,_⟩:=r;simp only at hst hpe;subst hst hpe
   rfl
  have hend:=run_endRound (P:=P) none hL3;refine⟨.bool true,_,hend,?_⟩
  have e2:(w3.putObj l (.loop {busy r with state:=if (none:Option Code).isNone then .ready else .done,pending:=none}))=w3.putObj l (.loop r):=by
   rw[show({busy r with state:=if (none:Option Code).isNone then .ready else .done,pending:=none}:Loop)=r from e]
  rw[e2];exact⟨.bool true,E3,rfl,hR4,.v _ V,jS.up hh hR4 (aq hs3.base) (((g1.trans (G2.iX hn1)).trans g3).trans (G4.iX hn3))⟩
 .have key:∀c,H'=s3.H.set id (iN l (left r c) t)->∃v w4,(Instr.endRound l (some c)).run P w3=.ok v w4/\∃v' E',Ending.returned v=.returned v'/\qC w4 E' H'/\L E' (.v (.bool false)) v'/\Grow w E H1 w4 E' H':=λc hc=>by
   subst hc;obtain⟨hR4,G4⟩:=hs3.heap.H9 (r':=left r c) hob2 V;have hend:=run_endRound (P:=P) (some c) hL3;refine⟨.bool false,_,hend,.bool false,E3,rfl,hR4,.v _ V,?_⟩;exact jS.up hh hR4 (aq hs3.base) (((g1.trans (G2.iX hn1)).trans g3).trans (G4.iX hn3))
  rcases hleave with⟨rfl,hc⟩|⟨i,rfl,hc⟩
  .exact key _ hc
  .exact key _ hc
section
variable {P:Program} {o:Oper} {ρ:Operand->C} {H:zn}
def fO.yield(cl:Call)(ho:o.op=.call cl)(x:Operand)(hcl:cl.callee=.value x){l:Nat}(hf:ρ x=.v (.func (.yield l) #[] #[])){r:C}{H':zn}
 (hs:jM P l H (cl.args.toList.map ρ) r H'):fO P o ρ H r H':=λw E σ hh hl K hk=>by
 have h0:=hl x bN;rw[hf]at h0
 have hv:σ x=.func (.yield l) #[] #[]:=by
  generalize σ x=u at *;cases h0
  rfl
 have e3:LL E (cl.args.toList.map ρ) (cl.args.map σ).toList:=by
  refine⟨aj,?_⟩;intro i c y hc hy;rw[gy]at hc;rw[u9,gy]at hy;cases ha:cl.args.toList[i]? with
  |none=>rw[ha]at hc;cases hc
  |some a=>
   rw[ha]at hc hy;cases hc
   cases hy
   exact dP
 obtain⟨fn,tmps,assign,body,hy,hR⟩:=hs w E (cl.args.map σ) hh e3
 have hr:(execOp σ o).run P w=.ok (.round l fn tmps assign body) w:=by
  unfold execOp;simp[ho,resolve,hcl,hv,Deferred.ofValue,invoke,hy]
 rw[hr];exact hR.mono λe w' ⟨v,E',h1,h2,h3,h4⟩=>⟨v,h1,hk v w' E' h2 h3 h4⟩
end
def vL{r:Nat}(hb:w.heap[r]?=some (.map es clock)):(getObj r).run P w=.ok (.map es clock) w:=by
 simp[getObj,Sem.run,hb]
def vM{r:Nat}(o:Obj)(hb:w.heap[r]?=some (.map es clock)):(setObj r o).run P w=.ok () {w with heap:=w.heap.setIfInBounds r o}:=by
 simp[setObj,Sem.run,hb]
theorem PT(t:TypeId)(w:World):(Instr.makeMap t none).run P w=.ok (.map (some w.heap.size)) (w.alloc (.map #[] 0)):=rfl
def Qt(w:World)(o:Obj):(w.alloc o).heap[w.heap.size]?=some o/\∀r',r'<w.heap.size->(w.alloc o).heap[r']?=w.heap[r']?:=by
 have e:(w.alloc o).heap=w.heap.push o:=rfl;rw[e];exact⟨aj,λr' h=>by simp[Array.getElem?_push,tq h]⟩
structure mS(P:Program)(kt:TypeId){κ:Type}[DecidableEq κ](enc:κ->Value):Prop where
 check:∀(w:World) (em:Bool) (k:κ),(Instr.checkKey em 10000 kt (enc k)).run P w=.ok () w
 find:∀(w:World) (k:κ) (l:List (κ×Value)) (n:Nat),(Instr.findKey kt (enc k) (l.mapIdx λi kv=>⟨enc kv.1,kv.2,i+n⟩)).run P w=.ok ((l.findIdx? λkv=>decide (kv.1=k)).bind λi=>(l[i]?).map λkv=>(i,kv.2)) w
 bits:∀k:κ,Instr.sameBits 10000 (enc k) (enc k)=true
section
variable {κ:Type} [DecidableEq κ]
def j1(enc:κ->Value)(l:List (κ×Value)):Array MapEntry:=(l.mapIdx λi kv=>⟨enc kv.1,kv.2,i⟩).toArray
def jB(l:List (κ×υ))(k:κ):Option Nat:=l.findIdx? λkv=>decide (kv.1=k)
def yR(l:List (κ×υ))(k:κ)(v:υ):List (κ×υ):=match jB l k with
 |some i=>l.set i (k,v)
 |none=>l++[(k,v)]
def KK(enc:κ->Value)(l:List (κ×Value)):(j1 enc l).size=l.length:=by simp[j1]
def Eb(enc:κ->Value)(l:List (κ×Value))(i:Nat):(j1 enc l)[i]?=(l[i]?).map λkv=>⟨enc kv.1,kv.2,i⟩:=by
 simp only[j1,tt,pF]
def P6(enc:κ->Value)(l:List (κ×Value))(k:κ)(v:Value):(j1 enc l).push ⟨enc k,v,l.length⟩=j1 enc (l++[(k,v)]):=by
 apply tZ.1
 simp[j1,List.mapIdx_append]
def KR(enc:κ->Value)(l:List (κ×Value))(i:Nat)(k:κ)(v:Value)(f:MapEntry->MapEntry)(hf:∀kv,l[i]?=some kv->f ⟨enc kv.1,kv.2,i⟩=⟨enc k,v,i⟩):(j1 enc l).modify i f=j1 enc (l.set i (k,v)):=by
 apply eQ
 intro j;rw[r9,Eb,Eb,gJ];by_cases e:i=j
 .subst e;rw[gz V,gz V];cases h:l[i]? with
  |none=>rw[gp (by rw[pW]at h;omega)];rfl
  |some kv=>rw[gz (gh.1 h).1];simp[hf kv h]
 .rw[gp e,gp e]
def yq{l:List (κ×υ)}{k:κ}{i:Nat}(h:jB l k=some i):∃v,l[i]?=some (k,v):=by
 unfold jB at h;rw[gS]at h;obtain⟨h1,h2,_⟩:=h;simp only[gR]at h2;exact⟨l[i].2,by rw[gk h1,<-h2]⟩
section
variable {P:Program} {o:Oper} {ρ:Operand->C} {H:zn}
def Iw{id k:Nat}(hh:qC w E H)(hob:H[id]?=some (iM b es k)):w.heap[b]?=some (.map es k):=(hh.fH.iW id _ _ [] hob V ⟨rfl,rfl⟩).1.1
def wM(h:L E (.v (.map (some b))) y):y=.map (some b):=by cases h;rfl
def KP{id k k':Nat}{es':Array MapEntry}(hh:qC w E H)(hob:H[id]?=some (iM b es k)):
  qC {w with heap:=w.heap.setIfInBounds b (.map es' k')} E (H.set id (iM b es' k'))/\Grow w E H {w with heap:=w.heap.setIfInBounds b (.map es' k')} E (H.set id (iM b es' k')):=by
 have:=hh.setObj (z:=1) (r':=.map es' k') (t':=[]) hob V λ_=>.inl LL.nil
 exact dG
def jK.makeMap(t:TypeId)(ho:o.op=.makeMap t none)(hR:∀b,R (.v (.map (some b))) (H++[iM b #[] 0])):jK P o ρ H R:=λw E σ hh hl hc K hk=>by
 have hr:(execOp σ o).run P w=.ok (.value (.map (some w.heap.size))) (w.alloc (.map #[] 0)):=by
  unfold execOp;simp[ho,PT]
 rw[hr];obtain⟨h1,h2⟩:=Qt w (.map #[] 0);obtain⟨E1,h3,g⟩:=hh.newObj (z:=1) (w:=w.alloc (.map #[] 0)) (l:=w.heap.size) (r:=.map #[] 0) (t:=[]) V h2 V V V aj h1 (gG _) (.inl LL.nil);exact hk _ _ _ _ E1 (hR _) h3 (.v _ V) g
variable {kt et:TypeId} {enc:κ->Value}
def fO.lookup(t:TypeId)(x y:Operand)(ho:o.op=.lookup t x y false)(ht:P.underlying t=some (.map kt et))(hk:mS P kt enc){id b:Nat}{l:List (κ×Value)}(hob:H[id]?=some (iM b (j1 enc l) l.length))(hx:ρ x=.v (.map (some b)))
 (k:κ)(hy:∀E u,L E (ρ y) u->u=enc k){i:TypeInfo}{z:Value}(hi:P.info? et=some i)(hz:i.zero=some z){c:C}(hc:∀E,L E c (((jB l k).bind λi=>(l[i]?).map (·.2)).getD z)):fO P o ρ H c H:=λw E σ hh hl K hq=>by
 have h1:=wM (hx ▸ hl x uY);have h2:=hy E _ (hl y uY);have hb:=Iw hh hob;have hf:=hk.find w k l 0
 have hr:(execOp σ o).run P w=.ok (.value (((jB l k).bind λi=>(l[i]?).map (·.2)).getD z)) w:=by
  unfold execOp;simp only[ho,h1,h2,Instr.lookup,Sem.run_bind,run_underlying ht,Result.andThen_ok,vL hb,Sem.run_pure,hk.check]
  have e:(Instr.findKey kt (enc k) (j1 enc l).toList).run P w=.ok ((jB l k).bind λi=>(l[i]?).map λkv=>(i,kv.2)) w:=by
   simpa [j1,jB] using hf
  rw[e];simp only[Result.andThen_ok];cases hfv:jB l k with
  |none=>simp[yd hi hz]
  |some i=>
   obtain⟨v,hv⟩:=yq hfv;simp[hv]
 rw[hr];exact hq _ w E hh (hc E) (Grow.refl w E H)
def JX{k:κ}(hk:mS P kt enc)(old:Value)(h:old=enc k):(Instr.keyThatStays old (enc k)).run P w=.ok (enc k) w:=by
 subst h;unfold Instr.keyThatStays;rw[gz (hk.bits k)]
 rfl
def fO.mapUpdate(t:TypeId)(m x y:Operand)(ho:o.op=.mapUpdate t m x y\/o.op=.insert t m x y)(ht:P.underlying t=some (.map kt et))(hk:mS P kt enc){id b:Nat}{l:List (κ×Value)}(hob:H[id]?=some (iM b (j1 enc l) l.length))(hm:ρ m=.v (.map (some b)))
 (k:κ)(hx:∀E u,L E (ρ x) u->u=enc k)(v:Value)(hy:∀E u,L E (ρ y) u->u=v):fO P o ρ H .un (H.set id (iM b (j1 enc (yR l k v)) (yR l k v).length)):=λw E σ hh hl K hq=>by
 have hmem:m∈o.op.operands/\x∈o.op.operands/\y∈o.op.operands:=by rcases ho with ho|ho <;> simp[ho,Op.operands]
 have h1:=wM (hm ▸ hl m hmem.1);have h2:=hx E _ (hl x hmem.2.1);have h3:=hy E _ (hl y hmem.2.2);have hb:=Iw hh hob
 have e:(Instr.findKey kt (enc k) (j1 enc l).toList).run P w=.ok ((jB l k).bind λi=>(l[i]?).map λkv=>(i,kv.2)) w:=by
  simpa [j1,jB] using hk.find w k l 0
 have hr:(execOp σ o).run P w=.ok .skip {w with heap:=w.heap.setIfInBounds b (.map (j1 enc (yR l k v)) (yR l k v).length)}:=by
  have key:(Instr.mapUpdate t (.map (some b)) (enc k) v).run P w=.ok () {w with heap:=w.heap.setIfInBounds b (.map (j1 enc (yR l k v)) (yR l k v).length)}:=by
   simp only[Instr.mapUpdate,Sem.run_bind,run_underlying ht,Result.andThen_ok,vL hb,hk.check,e];cases hfv:jB l k with
   |none=>
    simp only[u6,vM _ hb];rw[P6];simp[yR,hfv]
   |some i=>
    obtain⟨v0,hv⟩:=yq hfv;simp only[gW,hv,gK,Sem.run_bind,Eb];rw[JX hk _ aj];simp only[Result.andThen_ok,vM _ hb];rw[KR enc l i k v (λe=>{key:=enc k,val:=v,born:=e.born}) (λkv hkv=>V)];simp[yR,hfv]
  unfold execOp;rcases ho with ho|ho <;> simp[ho,h1,h2,h3,key]
 rw[hr];obtain⟨hR,g⟩:=KP (es':=j1 enc (yR l k v)) (k':=(yR l k v).length) hh hob;exact hq _ _ E hR .un g
def iS(l:List (κ×υ))(k:κ):Nat:=(jB l k).getD l.length
def AF(l:List (κ×υ))(k:κ)(z:υ):List (κ×υ):=match jB l k with
 |some _=>l
 |none=>l++[(k,z)]
def fO.mapEntry(t:TypeId)(m x:Operand)(ho:o.op=.mapEntry t m x)(ht:P.underlying t=some (.map kt et))(hk:mS P kt enc){id b:Nat}{l:List (κ×Value)}(hob:H[id]?=some (iM b (j1 enc l) l.length))(hm:ρ m=.v (.map (some b)))
 (k:κ)(hx:∀E u,L E (ρ x) u->u=enc k){i:TypeInfo}{z:Value}(hi:P.info? et=some i)(hz:i.zero=some z):
  fO P o ρ H (.fJ [.za,.v (.int .i64 (iS l k:Int))]) (H.set id (iM b (j1 enc (AF l k z)) (AF l k z).length)):=λw E σ hh hl K hq=>by
 have h1:=wM (hm ▸ hl m uY);have h2:=hx E _ (hl x uY);have hb:=Iw hh hob
 have e:(Instr.findKey kt (enc k) (j1 enc l).toList).run P w=.ok ((jB l k).bind λi=>(l[i]?).map λkv=>(i,kv.2)) w:=by
  simpa [j1,jB] using hk.find w k l 0
 have hr:∃v,(execOp σ o).run P w=.ok (.value (.tuple #[v,.int .i64 (iS l k:Int)])) {w with heap:=w.heap.setIfInBounds b (.map (j1 enc (AF l k z)) (AF l k z).length)}:=by
  unfold execOp;simp only[ho,h1,h2,Instr.mapEntry,Sem.run_bind,run_underlying ht,Result.andThen_ok,vL hb,hk.check,e];cases hfv:jB l k with
  |none=>
   simp only[u6,Sem.run_bind,yd hi hz,Result.andThen_ok,vM _ hb];rw[P6];exact⟨z,by simp[AF,iS,hfv,goInt]⟩
  |some i=>
   obtain⟨v0,hv⟩:=yq hfv;simp only[gW,hv,gK,Sem.run_bind,Eb];rw[JX hk _ aj];simp only[Result.andThen_ok,vM _ hb];rw[KR enc l i k v0 (λe=>{key:=enc k,val:=e.val,born:=e.born}) (λkv hkv=>by rw[hv]at hkv;cases hkv;rfl)]
   have:l.set i (k,v0)=l:=by
    apply pC
    intro j;rw[gJ];split
    .rename_i e2;subst e2;rw[gz (gh.1 hv).1,hv]
    .rfl
   rw[this];exact⟨v0,by simp[AF,iS,hfv,goInt]⟩
 obtain⟨v,hr⟩:=hr;rw[hr];obtain⟨hR,g⟩:=KP (es':=j1 enc (AF l k z)) (k':=(AF l k z).length) hh hob;refine hq _ _ E hR (.fJ _ _ V λj c y e1 e2=>?_) g
 match j,e1,e2 with
 |0,e1,e2=>cases e1;exact .za _
 |1,e1,e2=>cases e1;cases e2;exact .v _ V
def find_born(enc:κ->Value)(l:List (κ×Value))(i:Nat)(hi:i<l.length):(j1 enc l).findIdx? (λe=>(e.born:Int) == (i:Int))=some i:=by
 rw[Array.findIdx?_eq_some_iff_getElem];refine⟨by rw[KK];exact hi,?_,?_⟩
 .have:=Eb enc l i;rw[gk hi,rV (by rw[KK];exact hi)]at this;simp only[gK,gX]at this;rw[this];simp
 .intro j hj;have hjl:j<l.length:=by omega
  have:=Eb enc l j;rw[gk hjl,rV (by rw[KK];exact hjl)]at this;simp only[gK,gX]at this;rw[this];simp;omega
def fO.entryStore(t:TypeId)(m x y:Operand)(ho:o.op=.entryStore t m x y){id b:Nat}{l:List (κ×Value)}(hob:H[id]?=some (iM b (j1 enc l) l.length))(hm:ρ m=.v (.map (some b))){i:Nat}(hx:ρ x=.v (.int .i64 (i:Int)))(hi:i<l.length)
 (v:Value)(hy:∀E u,L E (ρ y) u->u=v):fO P o ρ H .un (H.set id (iM b (j1 enc (l.set i (l[i].1,v))) (l.set i (l[i].1,v)).length)):=λw E σ hh hl K hq=>by
 have h1:=wM (hm ▸ hl m uY);have h2:=jU (hx ▸ hl x uY);have h3:=hy E _ (hl y uY);have hb:=Iw hh hob
 have hr:(execOp σ o).run P w=.ok .skip {w with heap:=w.heap.setIfInBounds b (.map (j1 enc (l.set i (l[i].1,v))) (l.set i (l[i].1,v)).length)}:=by
  unfold execOp;have hi0:(asInt (.int .i64 (i:Int))).run P w=.ok (i:Int) w:=rfl;simp only[ho,h1,h2,h3,Instr.entryStore,Sem.run_bind,Result.andThen_ok,vL hb,hi0,find_born enc l i hi,Sem.run_pure,vM _ hb];rw[KR enc l i l[i].1 v (λe=>{key:=e.key,val:=v,born:=e.born}) (λkv hkv=>by rw[gk hi]at hkv;cases hkv;rfl)];simp
 rw[hr];obtain⟨hR,g⟩:=KP (es':=j1 enc (l.set i (l[i].1,v))) (k':=(l.set i (l[i].1,v)).length) hh hob;exact hq _ _ E hR .un g
end
end
section
variable {P:Program} {kt:TypeId}
def N0{κ:Type}[DecidableEq κ]{enc:κ->Value}(heq:∀(w:World) (a b:κ),(Op.equal kt (enc a) (enc b)).run P w=.ok (decide (a=b)) w)(w:World)(k:κ):∀(l:List (κ×Value)) (n j:Nat),
  (Instr.findAsking kt (enc k) (l.mapIdx λi kv=>⟨enc kv.1,kv.2,i+n⟩) j).run P w=.ok ((l.findIdx? λkv=>decide (kv.1=k)).bind λi=>(l[i]?).map λkv=>(i+j,kv.2)) w
 |[],n,j=>by simp[Instr.findAsking]
 |kv::l,n,j=>by
  have ih:=N0 heq w k l (n+1) (j+1);rw[fi];unfold Instr.findAsking;simp only[Sem.run_bind,heq,Result.andThen_ok];by_cases e:k=kv.1
  .rw[gz (aq e)];simp[rQ,e]
  .rw[gp (aq e)]
   have e2:(l.mapIdx λi kv=>(⟨enc kv.1,kv.2,i+1+n⟩:MapEntry))=l.mapIdx λi kv=>⟨enc kv.1,kv.2,i+(n+1)⟩:=by
    congr 1
    funext i kv
    congr 1
    omega
   rw[e2,ih,rQ,gp (by simpa using λh=>e h.symm)]
   congr 1
   cases hf:l.findIdx? λkv=>decide (kv.1=k) with
   |none=>rfl
   |some i=>
    simp only[gK,gW,rB];cases l[i]? with
    |none=>rfl
    |some v=>simp;omega
def OV{d:TypeDesc}{κ:Type}[DecidableEq κ]{enc:κ->Value}(heq:∀(a b:κ),Instr.sameNow d (enc a) (enc b)=some (decide (a=b)))(k:κ):∀(l:List (κ×Value)) (n j:Nat),
  Instr.findNow d (enc k) (l.mapIdx λi kv=>⟨enc kv.1,kv.2,i+n⟩) j=some ((l.findIdx? λkv=>decide (kv.1=k)).bind λi=>(l[i]?).map λkv=>(i+j,kv.2))
 |[],n,j=>by simp[Instr.findNow]
 |kv::l,n,j=>by
  have ih:=OV heq k l (n+1) (j+1);rw[fi];unfold Instr.findNow;simp only[heq];by_cases e:k=kv.1
  .simp[rQ,e]
  .have e2:(l.mapIdx λi kv=>(⟨enc kv.1,kv.2,i+1+n⟩:MapEntry))=l.mapIdx λi kv=>⟨enc kv.1,kv.2,i+(n+1)⟩:=by
    congr 1
    funext i kv
    congr 1
    omega
   rw[rz e];dsimp only;rw[e2,ih,rQ,gp (by simpa using λh=>e h.symm)]
   congr 1
   cases hf:l.findIdx? λkv=>decide (kv.1=k) with
   |none=>rfl
   |some i=>
    simp only[gK,gW,rB];cases l[i]? with
    |none=>rfl
    |some v=>simp;omega
abbrev qo(n:Int):Value:=.int .i64 n
abbrev kL(k:Int×Int):Value:=.agg #[.int .i64 k.1,.int .i64 k.2]
def mS.int(hu:P.underlying kt=some (.int .i64)):mS P kt qo where
 check w em k:=by
  show(Instr.checkKey em (9999+1) kt _).run P w=_;unfold Instr.checkKey;simp[run_underlying hu]
 find w k l n:=by
  have:=OV (d:=.int .i64) (enc:=qo) (λa b=>by simp[Instr.sameNow];rfl) k l n 0;simp only[sy]at this;simp[Instr.findKey,run_underlying hu,this]
 bits k:=by simp[Instr.sameBits]
def mS.two{f g : Field}(hu : P.underlying kt = some (.struct #[f, g]))(f1 : f.offset = 0)(f2 : f.name ≠ "_")(f3 : P.underlying f.type = some (.int .i64))(g1 : g.offset = 1)(g2 : g.name ≠ "_")(g3 : P.underlying g.type = some (.int .i64))(hheld : Ap P 9 kt = true)
 (he:∀a b:Int×Int,Ai P 9 kt (.agg [.v (.int .i64 a.1),.v (.int .i64 a.2)]) (.agg [.v (.int .i64 b.1),.v (.int .i64 b.2)])=some (a.1 == b.1 && (a.2 == b.2 && true))):mS P kt kL:=by
 have hL:∀k:Int×Int,L ⟨0,λ_ _=>0,λ_ _=>0,λ_ _=>none,λ_ _=>none⟩ (.agg [.v (.int .i64 k.1),.v (.int .i64 k.2)]) (kL k):=λk=>.agg _ _ V (λi c y e1 e2=>by
   match i,e1,e2 with
   |0,e1,e2=>cases e1;cases e2;exact .v _ V
   |1,e1,e2=>cases e1;cases e2;exact .v _ V) (by simp[Value.oneCell'])
 have heq:∀(w:World) (a b:Int×Int),(Op.equal kt (kL a) (kL b)).run P w=.ok (decide (a=b)) w:=λw a b=>by
  have:=HU (d':=10000) 9 w hheld ar (hL a) (hL b) (he a b);show(Op.equalIn 10000 kt _ _).run P w=_;rw[this]
  congr 1
  obtain⟨a1,a2⟩:=a;obtain⟨b1,b2⟩:=b;rw[ui];simp
 refine⟨λw em k=>?_,λw k l n=>?_,λk=>?_⟩
 .show(Instr.checkKey em (9998+1+1) kt _).run P w=_;rw[Instr.checkKey]
  have c1:∀(fd:Field) (n:Int),P.underlying fd.type=some (.int .i64)->(Instr.checkKey em (9998+1) fd.type (.int .i64 n)).run P w=.ok () w:=λfd n h=>by
   rw[Instr.checkKey];simp[run_underlying h]
  have p1:(part f.type #[.int .i64 k.1,.int .i64 k.2] f.offset).run P w=.ok (.int .i64 k.1) w:=by
   simp[part,isAgg,run_underlying f3,f1]
  have p2:(part g.type #[.int .i64 k.1,.int .i64 k.2] g.offset).run P w=.ok (.int .i64 k.2) w:=by
   simp[part,isAgg,run_underlying g3,g1]
  simp[run_underlying hu,f2,g2,p1,p2,c1 f _ f3,c1 g _ g3]
 .rw[run_findKey_eq w (by rw[hu])];have:=N0 heq w k l n 0;simp only[sy]at this;exact dG
 .show Instr.sameBits (9999+1) _ _=true;simp[Instr.sameBits]
end
abbrev iZ:=Int×Value×Nat
variable{l:List iZ}
def wF(l:List iZ):Array MapEntry:=(l.map λe=>(⟨qo e.1,e.2.1,e.2.2⟩:MapEntry)).toArray
def y6(l:List iZ)(x:Int):Option Nat:=l.findIdx? λe=>decide (e.1=x)
abbrev iU(b:Nat)(l:List iZ)(k:Nat)(t:List C):Ob:=kH 2 b (.map (wF l) k) t
def KQ(l:List iZ)(i:Nat):(wF l)[i]?=(l[i]?).map λe=>(⟨qo e.1,e.2.1,e.2.2⟩:MapEntry):=by simp[wF]
def zsO(l:List iZ)(x:Int)(v:Value)(k:Nat):(wF l).push ⟨qo x,v,k⟩=wF (l++[(x,v,k)]):=by
 apply tZ.1
 simp[wF]
def zve(l:List iZ)(i:Nat)(e:iZ)(h:l[i]?=some e)(v:Value):(wF l).modify i (λm=>{key:=qo e.1,val:=v,born:=m.born})=wF (l.set i (e.1,v,e.2.2)):=by
 apply eQ
 intro j;rw[r9,KQ,KQ,gJ];by_cases hj:i=j
 .subst hj;rw[gz V,gz V,gz (gh.1 h).1,h]
  rfl
 .rw[gp hj,gp hj]
def Kb{x:Int}{i:Nat}(h:y6 l x=some i):∃v n,l[i]?=some (x,v,n):=by
 unfold y6 at h;rw[gS]at h;obtain⟨h1,h2,_⟩:=h;simp only[gR]at h2;exact⟨l[i].2.1,l[i].2.2,by rw[gk h1,<-h2]⟩
section
variable {P:Program} {kt:TypeId}
def Rj(k:Int):∀(l:List iZ) (j:Nat),
  Instr.findNow (.int .i64) (qo k) (l.map λe=>(⟨qo e.1,e.2.1,e.2.2⟩:MapEntry)) j=some ((l.findIdx? λe=>decide (e.1=k)).bind λi=>(l[i]?).map λe=>(i+j,e.2.1))
 |[],j=>by simp[Instr.findNow]
 |e::l,j=>by
  have ih:=Rj k l (j+1);rw[pP];unfold Instr.findNow;have hs:Instr.sameNow (.int .i64) (qo k) (qo e.1)=some (decide (k=e.1)):=by simp[Instr.sameNow];rfl
  simp only[hs];by_cases h:k=e.1
  .simp[rQ,h]
  .rw[rz h];dsimp only;rw[ih,rQ,gp (by simpa using λh2=>h h2.symm)]
   congr 1
   cases hf:l.findIdx? λe=>decide (e.1=k) with
   |none=>rfl
   |some i=>
    simp only[gK,gW,rB];cases l[i]? with
    |none=>rfl
    |some v=>simp;omega
def KC(hu:P.underlying kt=some (.int .i64))(l:List iZ)(x:Int)(w:World):(Instr.findKey kt (qo x) (wF l).toList).run P w=.ok ((y6 l x).bind λi=>(l[i]?).map λe=>(i,e.2.1)) w:=by
 have:=Rj x l 0;simp only[sy]at this;simp[Instr.findKey,run_underlying hu,wF,this,y6]
def J4(hu:P.underlying kt=some (.int .i64))(x:Int)(em:Bool)(w:World):(Instr.checkKey em 10000 kt (qo x)).run P w=.ok () w:=(mS.int hu).check w em x
end
section
variable {P:Program} {o:Oper} {ρ:Operand->C} {H:zn} {kt et:TypeId}
def H4{z id k:Nat}{t:List C}(hh:qC w E H)(hob:H[id]?=some (kH z b (.map es k) t)):w.heap[b]?=some (.map es k):=(hh.fH.iW id _ _ t hob V ⟨rfl,rfl⟩).1.1
def J3{t:List C}{k:Nat}(h:m9 E t (.map (wF l) k))(hlen:t.length=l.length):LL E t (l.map (·.2.1)):=by
 rcases h with h|⟨es,k',e,h⟩
 .have h1:t.length=0:=h.1;have:l=[]:=eL aw;subst this;simpa [JN] using h
 .cases e
  simpa [wF,rC,Function.comp_def] using h
def Px{t:List C}{k:Nat}(h:LL E t (l.map (·.2.1))):m9 E t (.map (wF l) k):=
 .inr ⟨_,_,rfl,by simpa [wF,rC,Function.comp_def] using h⟩
def jK.zvZ(t:TypeId)(ho:o.op=.makeMap t none)(hR:∀b,R (.v (.map (some b))) (H++[iU b [] 0 []])):jK P o ρ H R:=λw E σ hh hl hc K hk=>by
 have hr:(execOp σ o).run P w=.ok (.value (.map (some w.heap.size))) (w.alloc (.map #[] 0)):=by
  unfold execOp;simp[ho,PT]
 rw[hr];obtain⟨h1,h2⟩:=Qt w (.map #[] 0);obtain⟨E1,h3,g⟩:=hh.newObj (z:=2) (w:=w.alloc (.map #[] 0)) (l:=w.heap.size) (r:=.map #[] 0) (t:=[]) V h2 V V V aj h1 (gG _) (.inl LL.nil);exact hk _ _ _ _ E1 (hR _) h3 (.v _ V) g
def Qm{z id k k':Nat}{l':List iZ}{t t':List C}(hh:qC w E H)(hob:H[id]?=some (kH z b (.map es k) t))(ht:m9 E t (.map es k)->m9 E t' (.map (wF l') k')):
  qC {w with heap:=w.heap.setIfInBounds b (.map (wF l') k')} E (H.set id (kH z b (.map (wF l') k') t'))/\Grow w E H {w with heap:=w.heap.setIfInBounds b (.map (wF l') k')} E (H.set id (kH z b (.map (wF l') k') t')):=
 hh.setObj (r':=.map (wF l') k') hob V ht
def Zl{k:Nat}(ht:P.underlying t=some (.map kt et))(hu:P.underlying kt=some (.int .i64))(hb:w.heap[b]?=some (.map (wF l) k)){x:Int}{i:Nat}{e:iZ}(hf:y6 l x=some i)(he:l[i]?=some e)(v:Value):
  (Instr.mapUpdate t (.map (some b)) (qo x) v).run P w=.ok () {w with heap:=w.heap.setIfInBounds b (.map (wF (l.set i (e.1,v,e.2.2))) k)}:=by
 obtain⟨v0,n0,h0⟩:=Kb hf;rw[he]at h0;cases h0
 simp only[Instr.mapUpdate,Sem.run_bind,run_underlying ht,Result.andThen_ok,vL hb,J4 hu,KC hu,hf,gW,he,gK];rw[JX (mS.int hu) _ (by rw[KQ,he];rfl)];simp only[Result.andThen_ok,vM _ hb];rw[zve l i _ he v]
def Yd{k:Nat}(ht:P.underlying t=some (.map kt et))(hu:P.underlying kt=some (.int .i64))(hb:w.heap[b]?=some (.map (wF l) k)){x:Int}(hf:y6 l x=none)(v:Value):
  (Instr.mapUpdate t (.map (some b)) (qo x) v).run P w=.ok () {w with heap:=w.heap.setIfInBounds b (.map (wF (l++[(x,v,k)])) (k+1))}:=by
 simp only[Instr.mapUpdate,Sem.run_bind,run_underlying ht,Result.andThen_ok,vL hb,J4 hu,KC hu,hf,u6,vM _ hb];rw[zsO]
def Ri{m x y:Operand}(ho:o.op=.mapUpdate t m x y\/o.op=.insert t m x y){a b c:Value}(h1:σ m=a)(h2:σ x=b)(h3:σ y=c){w':World}(h:(Instr.mapUpdate t a b c).run P w=.ok () w'):(execOp σ o).run P w=.ok .skip w':=by
 unfold execOp;rcases ho with ho|ho <;> simp[ho,h1,h2,h3,h]
def Sv{m x y:Operand}(ho:o.op=.mapUpdate t m x y\/o.op=.insert t m x y):m∈o.op.operands/\x∈o.op.operands/\y∈o.op.operands:=by rcases ho with ho|ho <;> simp[ho,Op.operands]
def jK.zzg(t:TypeId)(m x y:Operand)(ho:o.op=.mapUpdate t m x y\/o.op=.insert t m x y)(ht:P.underlying t=some (.map kt et))(hu:P.underlying kt=some (.int .i64)){id k:Nat}(hob:H[id]?=some (iU b l k cs))(hlen:cs.length=l.length)
 (hm:ρ m=.v (.map (some b))){kx:Int}(hx:ρ x=.v (.int .i64 kx)){i:Nat}{e:iZ}(hf:y6 l kx=some i)(he:l[i]?=some e){R:C->zn->Prop}
 (hR:∀v,R .un (H.set id (iU b (l.set i (e.1,v,e.2.2)) k (cs.set i (ρ y))))):jK P o ρ H R:=λw E σ hh hl _ K hk=>by
 obtain⟨m1,m2,m3⟩:=Sv ho;have hr:=Ri (P:=P) ho (wM (hm ▸ hl m m1)) (jU (hx ▸ hl x m2)) V (Zl ht hu (H4 hh hob) hf he (σ y));rw[hr]
 obtain⟨h1,g⟩:=Qm (l':=l.set i (e.1,σ y,e.2.2)) (k':=k) (t':=cs.set i (ρ y)) hh hob λh=>Px (by
  have:=(J3 h hlen).set (hl y m3) i;simpa [rp] using this)
 exact hk _ _ _ _ E (hR (σ y)) h1 .un g
def jK.qq(t:TypeId)(m x y:Operand)(ho:o.op=.mapUpdate t m x y\/o.op=.insert t m x y)(ht:P.underlying t=some (.map kt et))(hu:P.underlying kt=some (.int .i64)){id k:Nat}(hob:H[id]?=some (iU b l k cs))(hlen:cs.length=l.length)
 (hm:ρ m=.v (.map (some b))){kx:Int}(hx:ρ x=.v (.int .i64 kx))(hf:y6 l kx=none){R:C->zn->Prop}
 (hR:∀v,R .un (H.set id (iU b (l++[(kx,v,k)]) (k+1) (cs++[ρ y])))):jK P o ρ H R:=λw E σ hh hl _ K hk=>by
 obtain⟨m1,m2,m3⟩:=Sv ho;have hr:=Ri (P:=P) ho (wM (hm ▸ hl m m1)) (jU (hx ▸ hl x m2)) V (Yd ht hu (H4 hh hob) hf (σ y));rw[hr]
 obtain⟨h1,g⟩:=Qm (l':=l++[(kx,σ y,k)]) (k':=k+1) (t':=cs++[ρ y]) hh hob λh=>Px (by
  have:=(J3 h hlen).append (LL.one (hl y m3));simpa using this)
 exact hk _ _ _ _ E (hR (σ y)) h1 .un g
def QC{k:Nat}(ht:P.underlying t=some (.map kt et))(hu:P.underlying kt=some (.int .i64))(hb:w.heap[b]?=some (.map (wF l) k))(x:Int)(hi:P.info? et=some i)(hz:i.zero=some z)(ok:Bool):
  (Instr.lookup t (.map (some b)) (qo x) ok).run P w=.ok (if ok then .tuple #[((y6 l x).bind λi=>(l[i]?).map (·.2.1)).getD z,.bool (y6 l x).isSome] else ((y6 l x).bind λi=>(l[i]?).map (·.2.1)).getD z) w:=by
 simp only[Instr.lookup,Sem.run_bind,run_underlying ht,Result.andThen_ok,vL hb,Sem.run_pure,J4 hu,KC hu];cases hf:y6 l x with
 |none=>cases ok <;> simp[yd hi hz]
 |some i=>
  obtain⟨v,n,hv⟩:=Kb hf;cases ok <;> simp[hv]
def S5{v:Value}{b:Bool}(h:L E c v):L E (.fJ [c,.v (.bool b)]) (.tuple #[v,.bool b]):=.fJ _ _ V λj c y e1 e2=>by
 match j,e1,e2 with
 |0,e1,e2=>cases e1;cases e2;exact h
 |1,e1,e2=>cases e1;cases e2;exact .v _ V
def fO.ks(t:TypeId)(x y:Operand)(ok:Bool)(ho:o.op=.lookup t x y ok)(ht:P.underlying t=some (.map kt et))(hu:P.underlying kt=some (.int .i64)){id k:Nat}(hob:H[id]?=some (iU b l k cs))(hlen:cs.length=l.length)
 (hx:ρ x=.v (.map (some b))){kx:Int}(hy:ρ y=.v (.int .i64 kx)){i:TypeInfo}{z:Value}(hi:P.info? et=some i)(hz:i.zero=some z){j:Nat}(hf:y6 l kx=some j){c:C}(hc:cs[j]?=some c):
  fO P o ρ H (if ok then .fJ [c,.v (.bool true)] else c) H:=λw E σ hh hl K hk=>by
 have h1:=wM (hx ▸ hl x uY);have h2:=jU (hy ▸ hl y uY);obtain⟨v,n,hv⟩:=Kb hf;have hr:=QC (P:=P) ht hu (H4 hh hob) kx hi hz ok
 have hr2:(execOp σ o).run P w=.ok (.value (if ok then .tuple #[v,.bool true] else v)) w:=by
  unfold execOp;rw[ho];simp only[h1,h2,Sem.run_bind];rw[show(Value.int IntKind.i64 kx)=qo kx from V,hr,hf];simp[hv]
 rw[hr2];have hll:=J3 ((hh.fH.iW id _ _ cs hob V ⟨rfl,rfl⟩).2) hlen;have hL:L E c v:=hll.2 j c v hc (by rw[gy,hv];rfl);refine hk _ _ E hh ?_ (Grow.refl w E H);cases ok
 .exact hL
 .exact S5 hL
def fO.Kr(t:TypeId)(x y:Operand)(ok:Bool)(ho:o.op=.lookup t x y ok)(ht:P.underlying t=some (.map kt et))(hu:P.underlying kt=some (.int .i64)){z0 id k:Nat}(hob:H[id]?=some (kH z0 b (.map (wF l) k) cs))
 (hx:ρ x=.v (.map (some b))){kx:Int}(hy:ρ y=.v (.int .i64 kx)){i:TypeInfo}{z:Value}(hi:P.info? et=some i)(hz:i.zero=some z)(hf:y6 l kx=none){c:C}(hc:∀E,L E c z):
  fO P o ρ H (if ok then .fJ [c,.v (.bool false)] else c) H:=λw E σ hh hl K hk=>by
 have h1:=wM (hx ▸ hl x uY);have h2:=jU (hy ▸ hl y uY);have hr:=QC (P:=P) ht hu (H4 hh hob) kx hi hz ok
 have hr2:(execOp σ o).run P w=.ok (.value (if ok then .tuple #[z,.bool false] else z)) w:=by
  unfold execOp;rw[ho];simp only[h1,h2,Sem.run_bind];rw[show(Value.int IntKind.i64 kx)=qo kx from V,hr,hf];simp
 rw[hr2];refine hk _ _ E hh ?_ (Grow.refl w E H);cases ok
 .exact hc E
 .exact S5 (hc E)
end
def ku:TypeDesc->Bool
 |.interface _=>false
 |_=>true
def My(P:Program)(t:TypeId)(name:String)(f:FuncId):Bool:=
 match P.info? t,P.underlying t with
 |some i,some d=>(match i.methods.find? (·.name == name) with
  |some m=>m.path.isEmpty && (match m.func with
   |some (g,p)=>g == f && !p
   |none=>false)
  |none=>false) && (match d with
  |.pointer _=>false
  |_=>true)
 |_,_=>false
section
variable {P:Program} {o:Oper} {ρ:Operand->C} {H:zn}
def fO.zts(t:TypeId)(x:Operand)(ho:o.op=.makeInterface t x)(hu:P.underlying t=some d)(hd:ku d=true):fO P o ρ H (.iF t (ρ x)) H:=λw E σ hh hl K hk=>by
 have hx:=hl x uY
 have hr:(execOp σ o).run P w=.ok (.value (.iface t (σ x))) w:=by
  unfold execOp;simp only[ho,Instr.makeInterface,Sem.run_bind,run_underlying hu,Result.andThen_ok];cases d <;> first|rfl|(simp[ku]at hd)
 rw[hr];exact hk _ w E hh (.iF t _ _ hx) (Grow.refl w E H)
def Ln(h:L E (.iF t c) y):∃v,y=.iface t v/\L E c v:=by
 cases h with
 |iF t c y h=>exact⟨y,rfl,h⟩
def fO.zsz(x:Operand)(xT asT:TypeId)(ho:o.op=.typeAssert x xT asT true)(hx:ρ x=.iF asT c)(hu:P.underlying asT=some d)(hd:ku d=true):fO P o ρ H (.fJ [c,.v (.bool true)]) H:=λw E σ hh hl K hk=>by
 obtain⟨v,hv,hL⟩:=Ln (hx ▸ hl x uY)
 have hr:(execOp σ o).run P w=.ok (.value (.tuple #[v,.bool true])) w:=by
  unfold execOp;simp only[ho,hv,Instr.typeAssert,Sem.run_bind,run_underlying hu,Result.andThen_ok];cases d <;> first|(simp[ku]at hd;done)|(simp;done)
 rw[hr];refine hk _ w E hh (.fJ _ _ V λj c y e1 e2=>?_) (Grow.refl w E H)
 match j,e1,e2 with
 |0,e1,e2=>cases e1;cases e2;exact hL
 |1,e1,e2=>cases e1;cases e2;exact .v _ V
def fO.zuN(x:Operand)(xT asT:TypeId)(ho:o.op=.typeAssert x xT asT true)(hx:ρ x=.iF t c)(hne:(t == asT)=false)(hu:P.underlying asT=some d)(hd:ku d=true)(hi:P.info? asT=some i)(hz:i.zero.isSome=true):
  fO P o ρ H (.fJ [.za,.v (.bool false)]) H:=λw E σ hh hl K hk=>by
 obtain⟨v,hv,hL⟩:=Ln (hx ▸ hl x uY);obtain⟨z,hz⟩:=Option.isSome_iff_exists.1 hz;have hne:t≠asT:=aq hne
 have hr:(execOp σ o).run P w=.ok (.value (.tuple #[z,.bool false])) w:=by
  unfold execOp;simp only[ho,hv,Instr.typeAssert,Sem.run_bind,run_underlying hu,Result.andThen_ok];cases d <;> first|(simp[ku]at hd;done)|(simp[hne,yd hi hz];done)
 rw[hr];refine hk _ w E hh (.fJ _ _ V λj c y e1 e2=>?_) (Grow.refl w E H)
 match j,e1,e2 with
 |0,e1,e2=>cases e1;exact .za _
 |1,e1,e2=>cases e1;cases e2;exact .v _ V
def fO.invoke(cl:Call)(ho:o.op=.call cl)(x:Operand)(name:String)(hcl:cl.callee=.invoke x name){t:TypeId}{c:C}(hx:ρ x=.iF t c){f:FuncId}(hm:My P t name f=true)(hcb:qh P f=true){r:C}{H':zn}
 (hs:zb P f H (c::(cl.args.toList.map ρ)) r H'):fO P o ρ H r H':=λw E σ hh hl K hk=>by
 obtain⟨v,hv,hL⟩:=Ln (hx ▸ hl x bN);unfold qh at hcb;split at hcb
 rotate_left
 .cases hcb
 rename_i fn hfn;simp only[gH,pK]at hcb;have hname : fn.name ≠ "runtime.NumGoroutine" := by simpa using hcb.1
 have hbody:fn.body≠none:=bO
 have hmeth:∀k,(method (k+1) t v name).run P w=.ok (f,v) w:=λk=>by
  unfold My at hm;split at hm
  rotate_left
  .cases hm
  rename_i i d hi hu;simp only[gH]at hm;obtain⟨hm,hd⟩:=hm;split at hm
  rotate_left
  .cases hm
  rename_i m hfind;simp only[gH]at hm;obtain⟨hp,hf⟩:=hm;split at hf
  rotate_left
  .cases hf
  rename_i g p hg;simp only[gH,pT,pK]at hf;obtain⟨rfl,rfl⟩:=hf;have hp0:m.path= #[]:=aq hp
  unfold method;simp only[Sem.run_bind,run_typeInfo w hi,Result.andThen_ok,hfind,hp0,follow,Sem.run_pure,hg,receiverAt,run_underlying hu];cases d <;> first|(simp at hd;done)|rfl
 obtain⟨k,hk0⟩:∃k,P.types.size+Made.depth=k+1:=⟨P.types.size+Made.depth-1,by unfold Made.depth;omega⟩
 have hr:(execOp σ o).run P w=.ok (.enter f (#[v]++cl.args.map σ)) w:=by
  have e0:(#[Value.iface t v]++cl.args.map σ)[0]?=some (.iface t v):=by rw[ue aj];rfl
  have e1:(#[Value.iface t v]++cl.args.map σ).extract 1 (#[Value.iface t v]++cl.args.map σ).size=cl.args.map σ:=by
   apply tZ.1
   simp;exact sr aj
  have e2:(callMethod (.iface t v) name (cl.args.map σ)).run P w=.ok (.enter f (#[v]++cl.args.map σ)) w:=by
   unfold callMethod;simp[hk0,hmeth,callFunc,hfn,hname,hbody]
  unfold execOp;simp only[ho,resolve,hcl,hv,Sem.run_bind,Sem.run_pure,Result.andThen_ok,Go.invoke,e0,e1,e2]
 rw[hr];refine(hs w E (#[v]++cl.args.map σ) hh ?_).mono ?_
 .have e3:LL E (cl.args.toList.map ρ) (cl.args.map σ).toList:=by
   refine⟨aj,?_⟩;intro i c y hc hy;rw[gy]at hc;rw[u9,gy]at hy;cases ha:cl.args.toList[i]? with
   |none=>rw[ha]at hc;cases hc
   |some a=>
    rw[ha]at hc hy;cases hc
    cases hy
    exact dP
  have:=(LL.one hL).append e3;simpa using this
 .rintro e w' ⟨v',E',rfl,h5,h6,h7⟩;exact⟨v',rfl,hk v' w' E' h5 h6 h7⟩
end
end Go.Ab
