import Derived.Still
import Derived.Laws.Pointers
import Derived.Laws.StructEq
import Derived.Laws.Cover3
import Derived.ChangeKeysEq
import Derived.Laws.BytesArg
import Derived.RangeFuncRecord
import Derived.Carry
import Derived.MapKept
import Derived.WideKeyRuns
import Derived.Maps.RangeRun
import Derived.Test.YtamgiodaflkbhaaGreatVA
set_option linter.all false
set_option maxRecDepth 100000
set_option maxHeartbeats 4000000
namespace Go.Ab
variable{e t:TypeId}{i:TypeInfo}{α υ:Type}{d:TypeDesc}{H H':zq}{x:Nat×List (List C)}{w:World}{E E':Env}{sz b fo clock:Nat}{rows:List (List C)}{vals:List Value}{cur:Array Value}{y z:Value}{ob ob':Ob}{cs args:List C}{dst:Option Tmp}{c r:C}{o:Oper}{s:S}{K:S->Prop}{hops:List fY}{fn:Func}{f:FuncId}{R:C->zq->Prop}{σ:Operand->Value}{lo:Option Operand}{ρ:Operand->C}{P:Program}{es:Array MapEntry}
def jY(H:zq)(id:Nat):zq:=H.modify id λob=>match ob with
 |⟨_,ty,sz,rows,fz⟩=>⟨0,ty,sz,rows,fz⟩
def yL(H:zq)(id j:Nat):(jY H id)[j]?=(H[j]?).map λob=>if id=j then {ob with kind:=0} else ob:=by
 unfold jY;rw[r5]
 rfl
def y9{id:Nat}{id':Nat}{p:List fY}(h:qe (jY H id) id' p=some x):id'≠id/\qe H id' p=some x:=by
 obtain⟨ob,ho,hk,hg⟩:=qU h;rw[yL]at ho;cases hx:H[id']? with
 |none=>rw[hx]at ho;cases ho
 |some ob0=>
  rw[hx]at ho;simp only[pL,rh]at ho;by_cases hid:id=id'
  .subst hid;simp at ho;subst ho;simp at hk
  .rw[pA hid]at ho;subst ho;refine⟨Ne.symm hid,?_⟩;unfold qe;rw[hx];simp only[hk,if_true];exact hg
def qa.kill(h:qa w E H)(id:Nat):qa w E (jY H id) where
 n:=by rw[h.n];simp[jY]
 fH id' ob p sz rows hob hx:=by
  obtain⟨h1,h2⟩:=y9 hx;rw[yL]at hob;cases hx':H[id']? with
  |none=>rw[hx']at hob;cases hob
  |some ob0=>
   rw[hx']at hob;simp only[pL,rh,pA (Ne.symm h1)]at hob;subst hob;exact h.fH id' _ p sz rows hx' h2
 inj id1 p1 id2 p2 x y hx hy he:=h.inj id1 p1 id2 p2 x y (y9 hx).2 (y9 hy).2 he
 qp:=h.qp
 sep id' p x o u hx hu:=by
  obtain⟨h1,h2⟩:=y9 hx;obtain⟨e1,ob,e2,e3⟩:=h.sep id' p x o u h2 hu;refine⟨e1,ob,?_,e3⟩;rw[yL,e2];simp[Ne.symm h1]
 ty id' ob hob hk:=by
  rw[yL]at hob;cases hx':H[id']? with
  |none=>rw[hx']at hob;cases hob
  |some ob0=>
   rw[hx']at hob;simp only[pL,rh]at hob;by_cases hid:id=id'
   .rw[pD hid]at hob;subst hob;simp at hk
   .rw[pA hid]at hob;subst hob;exact h.ty id' _ hx' hk
 fz id' ob hob:=by
  rw[yL]at hob;cases hx':H[id']? with
  |none=>rw[hx']at hob;cases hob
  |some ob0=>
   rw[hx']at hob;simp only[pL,rh]at hob;have h0:=h.fz id' ob0 hx';subst hob;split <;> exact h0
def qn.kill(w:World)(E:Env)(H:zq)(id:Nat):qn w E H w E (jY H id):=
 ⟨Env.le.refl E,λ_ _ _=>V,rfl,rfl,rfl,pN _,λ_ _ _=>V,λ_ _ _ h=>.inl h,λb ⟨id',p,x,hx,he⟩=>.inr ⟨id',p,x,(y9 hx).2,he⟩⟩
def Env.again(E:Env)(id:Nat):Env:=
 {n:=E.n+1,β:=λid' hops=>if id'=E.n then E.β id hops else E.β id' hops,κ:=λid' hops=>if id'=E.n then E.κ id hops else E.κ id' hops,St:=E.St,G:=E.G}
def Env.Lx(E:Env)(id:Nat):E.le (E.again id):=
 ⟨sV _,λid' hops h=>by simp[Env.again,ui h],λid' hops h=>by simp[Env.again,ui h],λb o u h=>h,λ_ _ _ _ h=>h⟩
def qa.drew{w:World}{E:Env}{H:zq}(h:qa w E H):qa w.drew E H:=
 ⟨h.n,λid ob p sz rows h1 h2=>let b:=h.fH id ob p sz rows h1 h2;⟨b.len,b.row,b.fH⟩,h.inj,h.qp,h.sep,h.ty,h.fz⟩
def qn.drew(w:World)(E:Env)(H:zq):qn w E H w.drew E H:=
 ⟨Env.le.refl E,λ_ _ _=>V,rfl,rfl,rfl,pN _,λ_ _ _=>V,λ_ _ _ h=>.inl h,λ_ h=>.inr h⟩
def vd.zF{E:Env}{sz:Nat}{rows:List (List C)}{vals:List Value}(h:vd E sz rows vals){i k:Nat}{c:C}(hc:cellAt rows i k=some c):zF c=true:=by
 obtain⟨u,_,hl⟩:=h.cell i k c hc;cases hl with
 |fq o sz rows b off cap us ho _ _ _ _=>rcases ho with rfl|⟨rfl,_⟩ <;> rfl
 |xA o sz ho=>rcases ho with rfl|rfl <;> rfl
 |_=>rfl
def qa.Hb(h:qa w E H)(ty:TypeId){κ:Nat}(hr:vd E sz rows vals)(hlen:rows.length<=κ)(hcur:cur.size=κ*sz)
 (htake:cur.toList.take vals.length=vals):
  qa (w.alloc (.cells cur ty)) (E.push w.heap.size κ) (H++[⟨2,ty,sz,rows,0⟩])/\qn w E H (w.alloc (.cells cur ty)) (E.push w.heap.size κ) (H++[⟨2,ty,sz,rows,0⟩]):=by
 refine h.push 2 ty sz κ rows cur (.inr V) hr.row hlen hcur (λi k c hc=>hr.zF hc) ?_;intro i k c hc;obtain⟨u,hu,hl⟩:=hr.cell i k c hc;refine⟨u,?_,by simpa [Env.at] using hl,hr.one u (pE hu)⟩;rw[<-htake,pZ]at hu;split at hu
 .simpa using hu
 .cases hu
def qa.LU(h:qa w E H)(ty:TypeId){κ:Nat}(hr:vd E sz rows vals)(hlen:rows.length<=κ)(hcur:cur.size=κ*sz)
 (htake:cur.toList.take vals.length=vals)(fz:Nat)(hfz:fz<=rows.length):
  qa (w.alloc (.cells cur ty)) (E.push w.heap.size κ) (H++[⟨2,ty,sz,rows,fz⟩])/\qn w E H (w.alloc (.cells cur ty)) (E.push w.heap.size κ) (H++[⟨2,ty,sz,rows,fz⟩]):=by
 obtain⟨h1,h2⟩:=h.Hb ty hr hlen hcur htake
 have hgb:∀id p,qe (H++[⟨2,ty,sz,rows,fz⟩]) id p=qe (H++[⟨2,ty,sz,rows,0⟩]) id p:=by
  intro id p;unfold qe;by_cases ft:id<H.length
  .rw[pI ft,pI ft]
  .rw[pR an,pR an];cases id-H.length <;> simp
 have hob:∀id ob,(H++[⟨2,ty,sz,rows,fz⟩])[id]?=some ob->∃ob',(H++[⟨2,ty,sz,rows,0⟩])[id]?=some ob'/\ob.kind=ob'.kind/\ob.ty=ob'.ty/\(id<H.length->ob=ob')/\(¬id<H.length->ob.fz=fz/\ob.rows=rows):=by
  intro id ob hob;by_cases ft:id<H.length
  .rw[pI ft]at hob;exact⟨ob,by rw[pI ft];exact hob,rfl,rfl,λ_=>V,λhn=>absurd ft hn⟩
  .rw[pR an]at hob;rw[pR an];cases hd:id-H.length with
   |zero=>rw[hd]at hob;simp at hob;subst hob;exact⟨_,rfl,rfl,rfl,λhl=>absurd hl ft,λ_=>⟨rfl,rfl⟩⟩
   |succ n=>rw[hd]at hob;simp at hob
 refine⟨⟨by rw[h1.n];simp,?_,?_,h1.qp,?_,?_,?_⟩,⟨h2.le,h2.Dv,h2.os,h2.tape,h2.output,h2.size,h2.frame,h2.jB,?_⟩⟩
 .intro id ob p s2 r2 h3 h4;obtain⟨ob',h5,h6,_⟩:=hob id ob h3;rw[hgb]at h4;rw[h6];exact h1.fH id ob' p s2 r2 h5 h4
 .intro id p id' p' x y hx hy he;rw[hgb]at hx hy;exact h1.inj id p id' p' x y hx hy he
 .intro id p x o u hx hu;rw[hgb]at hx;obtain⟨e1,ob,e2,e3⟩:=h1.sep id p x o u hx hu;refine⟨e1,?_⟩;by_cases ft:id<H.length
  .rw[pI ft]at e2|-;exact⟨ob,e2,e3⟩
  .exfalso
   have h5:=(px.1 e2).1;simp at h5;have:id=H.length:=an
   subst this;simp at e2;subst e2;simp at e3
 .intro id ob h3 h4;obtain⟨ob',h5,h6,h7,_⟩:=hob id ob h3;rw[h7];exact h1.ty id ob' h5 (by rw[<-h6];exact h4)
 .intro id ob h3;obtain⟨ob',h5,_,_,h8,h9⟩:=hob id ob h3;by_cases ft:id<H.length
  .rw[h8 ft];exact h1.fz id ob' h5
  .obtain⟨e1,e2⟩:=h9 ft;rw[e1,e2];exact hfz
 .rintro b ⟨id,p,x,hx,hb⟩;rw[hgb]at hx;exact h2.own b ⟨id,p,x,hx,hb⟩
def Dy(hn:E.n=H.length)(g κ sz len:Nat)(full:Bool)(cap:Nat)(hlen:len<=cap)(hf:full=true->cap=len)(hf':full=false->cap=κ):
  L (E.push g κ) (.sl H.length [] sz 0 len full) (.slice (some ⟨g,0,none⟩) len cap):=by
 have:=L.sl (E:=E.push g κ) H.length [] sz 0 len full cap (by simp[Env.push,hn]) hlen hf (λe=>by simp[Env.push,hn,hf' e]);have hb:(E.push g κ).β H.length []=g:=by simp[Env.push,hn]
 rw[hb,uj]at this;exact gI
def qa.again{w:World}{E:Env}{H:zq}(hh:qa w E H){id:Nat}{ob:Ob}(hob:H[id]?=some ob)(hkd:ob.kind=2){rows:List (List C)}{vals:List Value}(qd:vd E ob.sz rows vals)
 {cur cur':Array Value}(hg:w.heap[E.β id []]?=some (.cells cur ob.ty (0,0)))(hsize:cur'.size=E.κ id []*ob.sz)(hlen:rows.length<=E.κ id [])(htake:cur'.toList.take vals.length=vals)(hfz:ob.fz<=rows.length)
 (hst:∀o u,E.St (E.β id []) o=some u->cur'[o]?=some u):
  qa (w.setRow (E.β id []) cur') (E.again id) (jY H id++[⟨2,ob.ty,ob.sz,rows,ob.fz⟩])/\qn w E H (w.setRow (E.β id []) cur') (E.again id) (jY H id++[⟨2,ob.ty,ob.sz,rows,ob.fz⟩]):=by
 have hgb:qe H id []=some (ob.sz,ob.rows):=by unfold qe;rw[hob];simp[hkd,qT]
 have hnew:∀hops,(E.again id).β H.length hops=E.β id hops:=λhops=>by simp[Env.again,hh.n]
 have hle:=E.Lx id;have hold':∀id' hops,id'<H.length->(E.again id).β id' hops=E.β id' hops:=λid' hops ft=>hle.β id' hops aU
 have hkl:(jY H id).length=H.length:=by simp[jY]
 have get:∀id' p x,qe (jY H id++[⟨2,ob.ty,ob.sz,rows,ob.fz⟩]) id' p=some x->(id'<H.length/\id'≠id/\qe H id' p=some x)\/(id'=H.length/\p=[]/\x=(ob.sz,rows)):=by
  intro id' p x hx';by_cases ft:id'<H.length
  .rw[kE (by rw[hkl];exact ft)]at hx';obtain⟨h5,h6⟩:=y9 hx';exact .inl ⟨ft,h5,h6⟩
  .have h5:=Bp hx';simp[hkl]at h5;have:id'=H.length:=by omega
   subst this;simp only[qe,<-hkl,pR (pN _),sM,eh]at hx';rw[pD ah]at hx';obtain⟨h6,h7⟩:=wu (λi k c hc=>qd.zF hc) hx';exact .inr ⟨rfl,h6,h7⟩
 have hdiff:∀id' p x,id'≠id->qe H id' p=some x->E.β id' p≠E.β id []:=λid' p x hne' hx' he=>hne' (hh.inj id' p id [] _ _ hx' hgb he).1
 have hget:∀id' ob',(jY H id++[⟨2,ob.ty,ob.sz,rows,ob.fz⟩])[id']?=some ob'->(id'<H.length/\∃ob0,H[id']?=some ob0/\((id'=id/\ob'={ob0 with kind:=0})\/(id'≠id/\ob'=ob0)))\/(id'=H.length/\ob'=⟨2,ob.ty,ob.sz,rows,ob.fz⟩):=by
  intro id' ob' hob';by_cases ft:id'<H.length
  .left
   rw[pI (by rw[hkl];exact ft),yL]at hob';cases hx3:H[id']? with
   |none=>rw[hx3]at hob';cases hob'
   |some ob0=>
    rw[hx3]at hob';simp only[pL,rh]at hob';refine⟨ft,ob0,rfl,?_⟩;by_cases hid:id=id'
    .subst hid;rw[pD V]at hob';exact .inl ⟨rfl,hob'.symm⟩
    .rw[pA hid]at hob';exact .inr ⟨Ne.symm hid,hob'.symm⟩
  .right
   have h1:=(px.1 hob').1;simp[hkl]at h1;have:id'=H.length:=an
   subst this;rw[<-hkl]at hob';simp at hob';exact⟨rfl,hob'.symm⟩
 refine⟨⟨by simp[Env.again,hh.n,hkl],?_,?_,?_,?_,?_,?_⟩,⟨hle,λ_ _ _=>V,rfl,rfl,rfl,by simp[World.setRow],?_,λb o' u hu'=>.inl hu',?_⟩⟩
 .intro id' ob' p sz' r' hob' hx';rcases get id' p _ hx' with⟨ft,hne',hx2⟩|⟨rfl,rfl,hx2⟩
  .rcases hget id' ob' hob' with⟨_,ob0,h1,⟨h2,_⟩|⟨_,h2⟩⟩|⟨h2,_⟩
   .exact absurd h2 hne'
   .subst h2;exact(hh.fH id' _ p sz' r' h1 hx2).step hle aU (setRow_other w _ _ _ (hdiff id' p _ hne' hx2))
   .omega
  .cases hx2
   rcases hget _ ob' hob' with⟨h1,_⟩|⟨_,h2⟩
   .omega
   .subst h2;refine⟨by simp[Env.again,hh.n];exact hlen,qd.row,cur',ob.ty,by rw[hnew];exact setRow_heap w _ cur cur' _ _ hg,by simp[Env.again,hh.n];exact hsize,?_⟩;intro i' k c hc;obtain⟨u,hu',hl'⟩:=qd.cell i' k c hc;refine⟨u,?_,(qO.loose (qd.zF hc)).2 ⟨by simpa [Env.at] using hl'.mono hle.shut,qd.one u (pE hu')⟩⟩;rw[<-htake,pZ]at hu';split at hu'
    .simpa using hu'
    .cases hu'
 .intro id1 p1 id2 p2 x y hx' hy' he;rcases get id1 p1 _ hx' with⟨ft,hne',hx2⟩|⟨rfl,rfl,_⟩ <;> rcases get id2 p2 _ hy' with⟨hlt',hne2,hy2⟩|⟨rfl,rfl,_⟩
  .rw[hold' id1 p1 ft,hold' id2 p2 hlt']at he;exact hh.inj id1 p1 id2 p2 x y hx2 hy2 he
  .rw[hold' id1 p1 ft,hnew]at he;exact absurd he (hdiff id1 p1 _ hne' hx2)
  .rw[hold' id2 p2 hlt',hnew]at he;exact absurd he.symm (hdiff id2 p2 _ hne2 hy2)
  .exact gO
 .intro b o' u hu';refine⟨?_,(hh.qp b o' u hu').2⟩;have hst':=(hh.qp b o' u hu').1;by_cases hbb:b=E.β id []
  .subst hbb;unfold World.cell?;rw[setRow_heap w _ cur cur' _ _ hg];simpa using hst o' u hu'
  .unfold World.cell? at hst'|-;simp only[setRow_other w _ _ _ hbb];exact hst'
 .intro id' p x o' u hx' hu';rcases get id' p _ hx' with⟨ft,hne',hx2⟩|⟨rfl,rfl,_⟩
  .rw[hold' id' p ft]at hu';obtain⟨e1,ob0,e2,e3⟩:=hh.sep id' p _ o' u hx2 hu';refine⟨e1,ob0,?_,e3⟩;rw[pI (by rw[hkl];exact ft),yL,e2];simp[Ne.symm hne']
  .rw[hnew]at hu';obtain⟨_,ob0,e2,e3⟩:=hh.sep id [] _ o' u hgb hu';rw[hob]at e2;cases e2
   exact⟨rfl,⟨2,ob.ty,ob.sz,rows,ob.fz⟩,by rw[<-hkl];simp,e3⟩
 .intro id' ob' hob' hk';rcases hget id' ob' hob' with⟨ft,ob0,h1,⟨_,h2⟩|⟨hne',h2⟩⟩|⟨rfl,h2⟩
  .subst h2;simp at hk'
  .subst h2;obtain⟨cur0,hc0⟩:=hh.ty id' _ h1 hk';rw[hold' id' [] ft];by_cases hbb:E.β id' []=E.β id []
   .rw[hbb]at hc0|-;rw[hg]at hc0
    injection hc0 with hc0
    injection hc0 with h7 h8
    exact⟨cur',by rw[<-h8];exact setRow_heap w _ cur cur' _ _ hg⟩
   .exact⟨cur0,by rw[setRow_other w _ _ _ hbb];exact hc0⟩
  .subst h2;exact⟨cur',by rw[hnew];exact setRow_heap w _ cur cur' _ _ hg⟩
 .intro id' ob' hob';rcases hget id' ob' hob' with⟨ft,ob0,h1,⟨_,h2⟩|⟨_,h2⟩⟩|⟨rfl,h2⟩
  .subst h2;exact hh.fz id' ob0 h1
  .subst h2;exact hh.fz id' _ h1
  .subst h2;exact hfz
 .intro k hk ho;exact setRow_other w _ _ _ (λe'=>ho ⟨id,[],_,hgb,e'.symm⟩)
 .rintro b ⟨id',p,x,hx',rfl⟩
  right
  rcases get id' p _ hx' with⟨ft,_,hx2⟩|⟨rfl,rfl,_⟩
  .exact⟨id',p,x,hx2,by rw[hold' id' p ft]⟩
  .exact⟨id,[],_,hgb,by rw[hnew]⟩
section
variable {P:Program} {o:Oper} {ρ:Operand->C} {H:zq}
structure oP(P:Program)(cl:Call)(x y:Operand)(e:TypeId)(i:TypeInfo)(z:Value):Prop where
 callee:cl.callee=.builtin .append
 args:cl.args= #[x,y]
 ty:∃t,cl.argTypes= #[t,t]/\P.underlying t=some (.slice e)
 info:P.info? e=some i
 zero:i.zero=some z
 E9:z.cells.size=i.size
def vi{cl:Call}(ho:o.op=.call cl){x y:Operand}(ht:oP P cl x y e i z)(σ:Operand->Value)(w:World):
  ∃t,P.underlying t=some (.slice e)/\∀v w',(Builtin.append_ #[t,t] o.type #[σ x,σ y]).run P w=.ok v w'->(execOp σ o).run P w=.ok (.value v) w':=by
 obtain⟨t,h1,h2⟩:=ht.ty;refine⟨t,h2,λv w' hr=>?_⟩;unfold execOp;simp[ho,resolve,ht.callee,ht.args,h1,invoke,builtin,hr]
def qA.Sn(cl:Call)(ho:o.op=.call cl)(x y:Operand)(ht:oP P cl x y e i z){sz':Nat}(hx:xz H (ρ x)=some (sz,rows))
 (hy:xz H (ρ y)=some (sz',[])):qA P o ρ H (ρ x) H:=λw E σ hh hl K hk=>by
 have h0:=hl x uV;have h1:=hl y uV;obtain⟨t,hu,hexec⟩:=vi ho ht σ w
 have hyv:∃a cap,σ y=.slice a 0 cap:=by
  rcases xJ hh h1 hy with⟨_,e1⟩|⟨a,cap,vals,e1,_⟩
  .exact⟨none,0,e1⟩
  .exact⟨some a,cap,e1⟩
 obtain⟨a,cap,hyv⟩:=hyv
 have hr:(Builtin.append_ #[t,t] o.type #[σ x,σ y]).run P w=.ok (σ x) w:=by
  rcases xJ hh h0 hx with⟨_,e1⟩|⟨a',cap',vals,e1,hcap,_⟩
  .cases a <;> simp[Builtin.append_,run_underlying hu,sizeOf,typeInfo,ht.info,Builtin.lenOf,hyv,e1,Builtin.firstCells,loadCells,loadCellsFrom]
  .cases a <;> simp[Builtin.append_,run_underlying hu,sizeOf,typeInfo,ht.info,Builtin.lenOf,hyv,e1,hcap,Builtin.firstCells,loadCells,loadCellsFrom,storeCells]
 rw[hexec _ _ hr];exact hk _ w E hh h0 (qn.refl w E H)
def qA.Sl(cl:Call)(ho:o.op=.call cl)(x y:Operand)(ht:oP P cl x y e i z)(hx:ρ x=.fq 1 sz rows)(hsz:rows=[]\/sz=i.size)
 {rows':List (List C)}(hy:xz H (ρ y)=some (i.size,rows'))(hne:rows'≠[])(hm:rows.length+rows'.length<=maxLen)(hb:(rows.length+rows'.length)*i.bytes<=140737488355328):
  qA P o ρ H (.sl H.length [] i.size 0 (rows.length+rows'.length) false) (H++[⟨2,e,i.size,rows++rows',0⟩]):=λw E σ hh hl K hk=>by
 have h0:=hl x uV;have h1:=hl y uV;obtain⟨t,hu,hexec⟩:=vi ho ht σ w;have hpos:0<rows'.length:=tz.2 hne;have hsmall:rows.length+rows'.length<=9223372036854775807:=aV
 rcases xJ hh h1 hy with⟨e1,_⟩|⟨a,cap,vals,e1,_,hrows,hmem⟩
 .exact absurd e1 hne
 have hold:∃olds,vd E i.size rows olds/\((rows=[]/\σ x=.slice none 0 0)\/∃b,σ x=.slice (some b) rows.length rows.length/\∀(j:Nat) u,olds[j]?=some u->w.cell? (b.add j)=some u):=by
  rw[hx]at h0;have hrx:xz H (.fq 1 sz rows)=some (sz,rows):=by simp[xz]
  rcases xJ hh h0 hrx with⟨e2,e3⟩|⟨b,cap',olds,e3,hcap',hro,hmo⟩
  .subst e2;exact⟨[],⟨ah,ah,by simp[cellAt],ah⟩,.inl ⟨rfl,e3⟩⟩
  .have hfull:cap'=rows.length:=by
    rw[e3]at h0;cases h0 with
    |fq o sz rows b off cap us ho hc hsz' hst hL=>rcases ho with h|⟨_,h⟩;cases h;exact h
    |xA o sz ho a=>rfl
   rw[hfull]at e3;rcases hsz with rfl|rfl
   .exact⟨[],⟨ah,ah,by simp[cellAt],ah⟩,.inr ⟨b,e3,ah⟩⟩
   .exact⟨olds,hro,.inr ⟨b,e3,hmo⟩⟩
 obtain⟨olds,hro,hcase⟩:=hold;have qd:=hro.append hrows;have hz:=ht.E9
 have fin:∀(v:Value) (cap':Nat) (w':World),rows.length+rows'.length<=cap'->w'=w.drew.alloc (.cells ((olds++vals).toArray++Builtin.zeroCells z.cells (cap'-(rows.length+rows'.length))) e)->
   v=.slice (some ⟨w.heap.size,0,none⟩) (rows.length+rows'.length) cap'->(Builtin.append_ #[t,t] o.type #[σ x,σ y]).run P w=.ok v w'->nr P K ((execOp σ o).run P w):=by
  intro v cap' w' hcap' hw hv hr;rw[hexec _ _ hr]
  have hsize:((olds++vals).toArray++Builtin.zeroCells z.cells (cap'-(rows.length+rows'.length))).size=cap'*i.size:=by
   have h2:(olds++vals).length=(rows.length+rows'.length)*i.size:=by rw[qd.len,rB]
   simp only[eu,ue,size_zeroCells,hz];rw[h2,<-rP]
   congr 1
   omega
  have:=hh.drew.Hb e (κ:=cap') (qd) (cur:=(olds++vals).toArray++Builtin.zeroCells z.cells (cap'-(rows.length+rows'.length))) (ai hcap') hsize aW;subst hw;subst hv;refine hk _ _ _ this.1 ?_ ((qn.drew w E H).trans this.2);exact Dy hh.n _ _ _ _ false cap' hcap' ah (λ_=>V)
 rcases hcase with⟨rfl,e3⟩|⟨b,e3,hmo⟩
 .have holds0:olds=[]:=eQ (ai hro.len);subst holds0;have hr:=run_append_nil (P:=P) w t o.type e i z hu ht.info ht.zero a rows'.length cap vals hrows.len hmem hpos (by simp at hsmall;omega) (by simp at hb;omega);rw[<-e3,<-e1]at hr;refine fin _ (grownCap w rows'.length 0 e) _ ?_ ?_ ?_ hr
  .simpa using grownCap_ge w rows'.length 0 e
  .simp
  .simp
 .have hr:=run_append_grow (P:=P) w t o.type e i z hu ht.info ht.zero b rows.length rows.length olds hro.len hmo a rows'.length cap vals hrows.len hmem an an (growslice_fits an hb);rw[<-e3,<-e1]at hr;refine fin _ (grownCap w (rows.length+rows'.length) rows.length e) _ ?_ ?_ V hr
  .exact grownCap_ge w _ _ e
  .simp
def qA.Uo(cl:Call)(ho:o.op=.call cl)(x y:Operand)(ht:oP P cl x y e i z){id n:Nat}(hx:ρ x=.sl id [] i.size 0 n false)(hob:H[id]?=some ob)
 (hkd:ob.kind=2)(hty:ob.ty=e)(hsz:ob.sz=i.size)(hn:ob.rows.length=n)(hno:ob.rows.all (·.all zF)=true)
 {rows':List (List C)}(hy:xz H (ρ y)=some (i.size,rows'))(hne:rows'≠[])(hm:n+rows'.length<=maxLen)(hb:(n+rows'.length)*i.bytes<=140737488355328):
  qA P o ρ H (.sl H.length [] i.size 0 (n+rows'.length) false) (jY H id++[⟨2,e,i.size,ob.rows++rows',ob.fz⟩]):=λw E σ hh hl K hk=>by
 subst hn;have h0:=hl x uV;have h1:=hl y uV;obtain⟨t,hu,hexec⟩:=vi ho ht σ w;have hpos:0<rows'.length:=tz.2 hne;have hsmall:ob.rows.length+rows'.length<=9223372036854775807:=aV
 have hgb:qe H id []=some (i.size,ob.rows):=by unfold qe;rw[hob];simp[hkd,qT,hsz]
 rcases xJ hh h1 hy with⟨e1,_⟩|⟨a,cap,vals,e1,_,hrows,hmem⟩
 .exact absurd e1 hne
 have hrx:xz H (ρ x)=some (i.size,ob.rows):=by
  rw[hx];simp only[xz,hob,hgb];rw[pD]
  .simp
  .simp only[pJ,rF,pY];refine⟨⟨⟨trivial,hkd⟩,an⟩,ai hno⟩
 have hB:=hh.fH id ob [] _ _ hob hgb;obtain⟨cur,e',hg,hcs,hcell⟩:=hB.fH;obtain⟨cur2,hg2⟩:=hh.ty id ob hob hkd;rw[hg]at hg2;cases hg2
 rw[hty]at hg
 have hxv:σ x=.slice (some ⟨E.β id [],0,none⟩) ob.rows.length (E.κ id []):=by
  rw[hx]at h0;generalize σ x=u at *;cases h0 with
  |sl id hops sz lo len full cap hn hlen hf hf'=>
   have:=hf' V;simp at this;subst this;simp
 rcases xJ hh h0 hrx with⟨_,e3⟩|⟨b,cap',olds,e3,hcap',hro,hmo⟩
 .rw[hxv]at e3;cases e3
 rw[hxv]at e3;cases e3
 have qd:=hro.append hrows;have hz:=ht.E9
 have holds:cur.toList.take olds.length=olds:=by
  apply rL
  intro j;rw[pZ];split
  .rename_i hj;have h3:=hmo j olds[j] (by simp[hj]);rw[xa]at h3;unfold World.cell? at h3;rw[hg]at h3;simp at h3;simp[hj,h3]
  .rename_i hj;rw[rQ an]
 by_cases hroom:ob.rows.length+rows'.length<=E.κ id []
 ·
  have hfit:ob.rows.length*i.size+vals.length<=cur.size:=aX
  have hr:=run_append_room (P:=P) w t o.type e i hu ht.info (E.β id []) ob.rows.length (E.κ id []) cur hg a rows'.length cap vals hrows.len hmem hrows.one hroom hfit;rw[<-hxv,<-e1]at hr;rw[hexec _ _ hr];obtain⟨cur',hcur'⟩:∃cur',cur'=(cur.toList.take (ob.rows.length*i.size)++vals++cur.toList.drop (ob.rows.length*i.size+vals.length)).toArray:=⟨_,rfl⟩;rw[<-hcur'];have hlo:ob.rows.length*i.size=olds.length:=hro.len.symm
  have htake:cur'.toList.take (olds++vals).length=olds++vals:=by
   rw[hcur',hlo,holds];exact ef
  have hsize:cur'.size=E.κ id []*ob.sz:=by rw[hsz,<-hcs,hcur'];simp;omega
  have hA:=hh.again hob hkd (rows:=ob.rows++rows') (vals:=olds++vals) (by rw[hsz];exact qd) (cur:=cur) (cur':=cur') (by rw[hty];exact hg) hsize (ai hroom) htake (by have:=hh.fz id ob hob;simp;omega) ?_
  .rw[hsz,hty]at hA;refine hk _ _ _ hA.1 ?_ hA.2;have:=L.sl (E:=E.again id) H.length [] i.size 0 (ob.rows.length+rows'.length) false (E.κ id []) (by simp[Env.again,hh.n]) hroom ah (λ_=>by simp[Env.again,hh.n]);have hb':(E.again id).β H.length []=E.β id []:=by simp[Env.again,hh.n]
   rw[hb',uj]at this;exact gI
  .intro o' u hu';obtain⟨_,ob',e2,e3'⟩:=hh.sep id [] _ o' u hgb hu';rw[hob]at e2;cases e2
   have hst:=(hh.qp _ _ _ hu').1;unfold World.cell? at hst;rw[hg]at hst;simp at hst
   have h7:o'<ob.rows.length*i.size:=by
    rw[hsz]at e3';exact rG e3' (rz _ (hh.fz id ob hob))
   rw[hcur'];simp only[s9];rw[sa,pI ar,pZ,pD h7,rm];exact hst
 ·
  have hr:=run_append_grow (P:=P) w t o.type e i z hu ht.info ht.zero ⟨E.β id [],0,none⟩ ob.rows.length (E.κ id []) olds hro.len hmo a rows'.length cap vals hrows.len hmem an an (growslice_fits an hb);rw[<-hxv,<-e1]at hr;rw[hexec _ _ hr];obtain⟨cap',hcap2⟩:∃cap',cap'=grownCap w (ob.rows.length+rows'.length) (E.κ id []) e:=⟨_,rfl⟩;have hge:ob.rows.length+rows'.length<=cap':=aY
  rw[<-hcap2]
  have hsize:((olds++vals).toArray++Builtin.zeroCells z.cells (cap'-(ob.rows.length+rows'.length))).size=cap'*i.size:=by
   have h2:(olds++vals).length=(ob.rows.length+rows'.length)*i.size:=by rw[qd.len,rB]
   simp only[eu,ue,size_zeroCells,hz];rw[h2,<-rP]
   congr 1
   omega
  have hk1:=hh.drew.kill id;have hB2:=hk1.LU e (κ:=cap') qd (cur:=(olds++vals).toArray++Builtin.zeroCells z.cells (cap'-(ob.rows.length+rows'.length))) (ai hge) hsize aW ob.fz (by have:=hh.fz id ob hob;simp;omega);have hkl:(jY H id).length=H.length:=by simp[jY]
  have hval:(olds.toArray++vals.toArray++Builtin.zeroCells z.cells (cap'-(ob.rows.length+rows'.length)))=((olds++vals).toArray++Builtin.zeroCells z.cells (cap'-(ob.rows.length+rows'.length))):=ah
  rw[hval];refine hk _ _ _ hB2.1 ?_ ((qn.drew w E H).trans ((qn.kill w.drew E H id).trans hB2.2));have:=Dy (E:=E) (H:=jY H id) hk1.n w.heap.size cap' i.size (ob.rows.length+rows'.length) false cap' hge ah (λ_=>V);rw[hkl]at this;exact gI
end
section
variable {P:Program} {o:Oper} {ρ:Operand->C} {H:zq}
def IT(z:Array Value)(n j:Nat)(h:j<n):(madeCells z n)[j]?=some z[j%z.size]!:=by
 simp[madeCells,h]
def IL(hz:mY P t=some cs)(hsh:cs.all jV=true)(n:Nat):∃i z,P.info? t=some i/\i.zero=some z/\z.cells.size=i.size/\cs.length=i.size/\
  vd E i.size (List.replicate n cs) (madeCells z.cells (n*i.size)).toList:=by
 obtain⟨i,z,hi,hzz,hll,h1,hsz,hno,hlen⟩:=ko hz E;refine⟨i,z,hi,hzz,hsz,hlen,⟨by simp[madeCells],λr hr=>by rw[(ub.1 hr).2];exact hlen,?_,?_⟩⟩
 .intro r k c hc;unfold cellAt at hc;rw[ua]at hc;split at hc
  .rename_i hr;simp only[ri]at hc;have hk:k<i.size:=by rw[<-hlen];exact(px.1 hc).1
   obtain⟨u,hu,hl⟩:=hll.get hc
   have ft:r*i.size+k<n*i.size:=by
    have:(r+1)*i.size<=n*i.size:=rz _ hr;rw[rP]at this;omega
   refine⟨u,?_,hl.kn (pG.1 hsh c (pE hc))⟩;rw[rm,IT _ _ _ ft,hsz,uk,fk,ez hk];rw[rm]at hu;rw[getElem!_def,hu]
  .simp at hc
 .intro u hu;obtain⟨j,hj⟩:=pV.1 hu;rw[rm]at hj
  have ft:j<n*i.size:=by
   have:=(pP.1 hj).1;simpa [madeCells] using this
  rw[IT _ _ _ ft]at hj;cases hj
  have hpos:0<i.size:=by rcases uc i.size with h|h <;> simp_all
  have hm:j%z.cells.size<z.cells.size:=fp _ an;rw[getElem!_pos z.cells _ hm];exact h1 _ (Array.getElem_mem hm)
def qA.makeSlice(t:TypeId)(x y:Operand)(ho:o.op=.makeSlice t x y)(ht:P.underlying t=some (.slice e))(hi:P.info? e=some i)(hz:mY P e=some cs)(hsh:cs.all jV=true)
 {k k':IntKind}{n:Int}(hx:ρ x=.v (.int k n))(hy:ρ y=.v (.int k' n))(h0:0<=n)(hb:(i.bytes:Int)*n<=281474976710656)(hm:n<=9223372036854775807):
  qA P o ρ H (.sl H.length [] i.size 0 n.toNat false) (H++[⟨2,e,i.size,List.replicate n.toNat cs,0⟩]):=λw E σ hh hl K hk=>by
 have h1:=hl x uU;have h2:=hl y uU;rw[hx]at h1;rw[hy]at h2;have hxv:σ x=.int k n:=by generalize σ x=u at *;cases h1;rfl
 have hyv:σ y=.int k' n:=by generalize σ y=u at *;cases h2;rfl
 obtain⟨i',z,hi',hzz,hsz,hlen,hrows⟩:=IL (E:=E) hz hsh n.toNat;rw[hi]at hi';cases hi'
 have hr0:=run_make (P:=P) w t e i z ht hi hzz k k' n n h0 (sW _) hb hm
 have hr:(execOp σ o).run P w=.ok (.value (.slice (some ⟨w.heap.size,0,none⟩) n.toNat n.toNat)) (w.alloc (.cells (madeCells z.cells (n.toNat*i.size)) e)):=by
  unfold execOp;simp only[ho,hxv,hyv,Sem.run_bind,hr0,Result.andThen_ok]
  rfl
 rw[hr];have hB:=hh.Hb e (κ:=n.toNat) hrows (cur:=madeCells z.cells (n.toNat*i.size)) ah (by simp[madeCells]) (by rw[pQ]);exact hk _ _ _ hB.1 (Dy hh.n _ _ _ _ false n.toNat (pN _) ah (λ_=>V)) hB.2
def chunk(sz:Nat):Nat->List C->List (List C)
 |0,_=>[]
 |n+1,cs=>cs.take sz::chunk sz n (cs.drop sz)
def jZ(sz:Nat):∀(n:Nat) (cs:List C),(chunk sz n cs).length=n
 |0,_=>rfl
 |n+1,cs=>by simp[chunk,jZ sz n]
def vV(sz:Nat):∀(n:Nat) (cs:List C) (i:Nat),i<n->(chunk sz n cs)[i]?=some ((cs.drop (i*sz)).take sz)
 |0,_,_,h=>absurd h (rA _)
 |n+1,cs,0,_=>by simp[chunk]
 |n+1,cs,i+1,h=>by
  simp only[chunk,sx];rw[vV sz n _ i an,List.drop_drop]
  congr 3
  rw[rP];omega
def Env.still(E:Env)(g:Nat)(cur:Array Value):Env:={E with St:=λb o=>if b=g then cur[o]? else E.St b o}
def qa.K7(h:qa w E H)(ty:TypeId)(cur:Array Value)(h1:∀y∈cur,y.oneCell'=true):
  qa (w.alloc (.cells cur ty)) (E.still w.heap.size cur) H/\qn w E H (w.alloc (.cells cur ty)) (E.still w.heap.size cur) H:=by
 have hle:E.le (E.still w.heap.size cur):=⟨pN _,λ_ _ _=>V,λ_ _ _=>V,λb o u hu=>by
  have ft:=Cj (h.qp b o u hu).1;simp only[Env.still];rw[pA an];exact hu,λ_ _ _ _ hu=>hu⟩
 refine⟨⟨h.n,?_,h.inj,?_,?_,?_,h.fz⟩,⟨hle,λ_ _ _=>V,rfl,rfl,rfl,by show _<=(w.heap.push _).size;simp,λk hk ho=>heap_alloc_old w _ hk,?_,λb hb=>.inr hb⟩⟩
 .intro id ob hops sz rows hob hx;have hb:=h.fH id ob hops sz rows hob hx;exact hb.step hle (by rw[h.n];exact Bp hx) (heap_alloc_old w _ hb.GL)
 .intro b o u hu;simp only[Env.still]at hu;split at hu
  .rename_i hb;subst hb;refine⟨?_,h1 u (sE hu)⟩;rw[World.cell?_alloc_new];exact hu
  .have hs:=h.qp b o u hu;exact⟨by rw[J5 (Cj hs.1)];exact hs.1,hs.2⟩
 .intro id hops x o u hx hu;have ft:=h.lt hx;simp only[Env.still]at hu;have hne:¬E.β id hops=w.heap.size:=by omega
  rw[pA hne]at hu;exact h.sep id hops x o u hx hu
 .intro id ob hob hk;obtain⟨cur',hc⟩:=h.ty id ob hob hk;exact⟨cur',by show(w.alloc _).heap[E.β id []]?=_;rw[heap_alloc_old w _ (pP.1 hc).1];exact hc⟩
 .intro b o u hu;simp only[Env.still]at hu;split at hu
  .rename_i hb;exact .inr (.inl an)
  .exact .inl hu
def qA.Te(t:TypeId)(x y:Operand)(ho:o.op=.makeSlice t x y)(ht:P.underlying t=some (.slice e))(hi:P.info? e=some i)(hz:mY P e=some cs)(hsh:cs.all jV=true)
 {k k':IntKind}{n:Int}(hx:ρ x=.v (.int k n))(hy:ρ y=.v (.int k' n))(h0:0<=n)(hb:(i.bytes:Int)*n<=281474976710656)(hm:n<=9223372036854775807):
  qA P o ρ H (.fq 0 i.size (List.replicate n.toNat cs)) H:=λw E σ hh hl K hk=>by
 have h1:=hl x uU;have h2:=hl y uU;rw[hx]at h1;rw[hy]at h2;have hxv:σ x=.int k n:=by generalize σ x=u at *;cases h1;rfl
 have hyv:σ y=.int k' n:=by generalize σ y=u at *;cases h2;rfl
 obtain⟨i',z,hi',hzz,hsz,hlen,hrows⟩:=IL (E:=E) hz hsh n.toNat;rw[hi]at hi';cases hi'
 have hr0:=run_make (P:=P) w t e i z ht hi hzz k k' n n h0 (sW _) hb hm
 have hr:(execOp σ o).run P w=.ok (.value (.slice (some ⟨w.heap.size,0,none⟩) n.toNat n.toNat)) (w.alloc (.cells (madeCells z.cells (n.toNat*i.size)) e)):=by
  unfold execOp;simp only[ho,hxv,hyv,Sem.run_bind,hr0,Result.andThen_ok]
  rfl
 rw[hr];have hB:=hh.K7 e (madeCells z.cells (n.toNat*i.size)) λu hu=>hrows.one u (ai hu)
 refine hk _ _ _ hB.1 ?_ hB.2;have:=L.fq (E:=E.still w.heap.size (madeCells z.cells (n.toNat*i.size))) 0 i.size (List.replicate n.toNat cs) w.heap.size 0 n.toNat (λr k=>(madeCells z.cells (n.toNat*i.size)).getD (r*i.size+k) undef) (.inl V) ah (λr hr=>hrows.row r hr) ?_ ?_
 .simpa using this
 all_goals
  intro r row k c hrow hc;obtain⟨u,hu',hlu⟩:=hrows.cell r k c (by unfold cellAt;rw[hrow];exact hc);rw[rm]at hu';have hgd:(madeCells z.cells (n.toNat*i.size)).getD (r*i.size+k) undef=u:=by rw[rI,hu'];rfl
  rw[hgd]
 .simp only[Env.still,if_true,pK];exact hu'
 .exact hlu.mono hB.2.le.shut
def H7(P:Program)(t:TypeId)(len:Nat)(parts:List (Nat×C)):Option C:=
 match P.underlying t with
 |some (.slice e)=>match P.info? e,mY P e with
  |some i,some z=>if decide (len*i.size<=16777216) && decide (0<i.size) then
    match oG (λj=>some (j*i.size,i.size)) (List.replicate len z).flatten parts with
    |some cs=>if cs.all jV && (cs.length == len*i.size) then some (.fq 1 i.size (chunk i.size len cs)) else none
    |none=>none
   else none
  |_,_=>none
 |_=>none
def vT(z:List α)(n j:Nat)(h:j<n*z.length):(List.replicate n z).flatten[j]?=z[j%z.length]?:=by
 induction n generalizing j with
 |zero=>simp at h
 |succ n ih=>
  rw[tx,List.flatten_cons];by_cases hj:j<z.length
  .rw[pI hj,ez hj]
  .rw[pR an,ih (j-z.length) (by rw[rP]at h;omega)]
   congr 1
   rw[<-Nat.mod_eq_sub_mod an]
def qA.buildSlice(t:TypeId)(len:Nat)(parts:Array (Nat×Operand))(ho:o.op=.buildSlice t len parts){c:C}(hb:H7 P t len (parts.toList.map λp=>(p.1,ρ p.2))=some c):qA P o ρ H c H:=λw E σ hh hl K hk=>by
 have hp:∀p∈parts.toList,L E (ρ p.2) (σ p.2):=λp hpm=>hl p.2 (by
  simp only[ho,Op.operands];exact(fe).2 (rp.2 ⟨p,hpm,rfl⟩))
 unfold H7 at hb;split at hb
 rotate_left
 .cases hb
 rename_i e hu;split at hb
 rotate_left
 .cases hb
 rename_i i z hi hz;split at hb
 rotate_left
 .cases hb
 rename_i hcond;simp only[pJ,pY]at hcond;split at hb
 rotate_left
 .cases hb
 rename_i cs hf;split at hb
 rotate_left
 .cases hb
 rename_i hcond2;simp only[pJ,rF]at hcond2;cases hb
 obtain⟨i',zv,h1,h2,h3,h4,h5,h6,h7⟩:=ko hz E;rw[hi]at h1;cases h1
 obtain⟨arr0,harr0⟩:∃arr0,arr0=(Array.range (len*i.size)).map (λj=>zv.cells[j%zv.cells.size]!):=⟨_,rfl⟩
 have hget0:∀j,j<len*i.size->arr0[j]?=zv.cells[j%i.size]?:=by
  intro j hj;rw[harr0];have hm:j%zv.cells.size<zv.cells.size:=fp _ an;simp only[u9,Array.getElem?_range,hj,if_true,pL];rw[getElem!_pos zv.cells _ hm,<-h5,sB hm]
 have hsize0:arr0.size=len*i.size:=by rw[harr0];simp
 have hl0:LL E (List.replicate len z).flatten arr0.toList:=by
  refine⟨by simp[hsize0,h7],?_⟩;intro j c y hc hy;rw[rm]at hy;have hj:j<len*i.size:=by rw[<-hsize0];exact(pP.1 hy).1
  rw[hget0 j hj]at hy;rw[vT z len j (by rw[h7];exact hj),h7]at hc;exact h3.2 _ c y hc (ai hy)
 have hone0:∀u∈arr0,u.oneCell'=true:=by
  intro u hum;obtain⟨j,hj⟩:=ud.1 hum;have hjl:j<len*i.size:=by rw[<-hsize0];exact(pP.1 hj).1
  rw[hget0 j hjl]at hj;exact h4 u (sE hj)
 have hno0:(List.replicate len z).flatten.all zF=true:=by
  rw[pG];intro c hc;obtain⟨l,hlm,hcl⟩:=List.mem_flatten.1 hc;rw[(ub.1 hlm).2]at hcl;exact pG.1 h6 c hcl
 obtain⟨arr,a1,a2,a3,a4⟩:=Dd parts.toList _ arr0 hl0 hone0 hno0 hp cs hf
 have hr:(execOp σ o).run P w=.ok (.value (.slice (some ⟨w.heap.size,0,none⟩) len len)) (w.alloc (.cells arr e)):=by
  unfold execOp;have hn:¬(2 ^ 24<len*i.size):=an
  by_cases hlz:len*i.size=0
  .have e0:arr0= #[]:=by apply r6;rw[hsize0];exact hlz
   rw[e0]at a1;have e9:∀f:Nat->Value,(Array.range 0).map f= #[]:=λf=>r6 ah
   simp only[ho,Instr.buildSlice,Sem.run_bind,run_underlying hu,Result.andThen_ok,qW hi];rw[pA hn];simp[hlz,newRow,e9,a1]
  .simp only[ho,Instr.buildSlice,Sem.run_bind,run_underlying hu,Result.andThen_ok,qW hi];rw[pA hn];simp[hlz,xg hi h2,newRow,<-harr0,a1]
 rw[hr];have hB:=hh.K7 e arr a3;refine hk _ _ _ hB.1 ?_ hB.2;have hlc:(chunk i.size len cs).length=len:=jZ _ _ _;have:=L.fq (E:=E.still w.heap.size arr) 1 i.size (chunk i.size len cs) w.heap.size 0 len (λr k=>arr.getD (r*i.size+k) undef) (.inr ⟨rfl,hlc.symm⟩) (by rw[hlc];exact pN _) ?_ ?_ ?_
 .rw[hlc]at this;exact gI
 .intro r hrm;obtain⟨j,hj⟩:=pV.1 hrm;have hjl:j<len:=by rw[<-hlc];exact(px.1 hj).1
  rw[vV _ _ _ _ hjl]at hj;cases hj
  have:(j+1)*i.size<=len*i.size:=rz _ hjl;rw[rP]at this;simp;omega
 all_goals
  intro r row k c hrow hc;have hrl:r<len:=by rw[<-hlc];exact(px.1 hrow).1
  rw[vV _ _ _ _ hrl]at hrow;cases hrow
  rw[pZ]at hc;split at hc
  rotate_left
  .cases hc
  rw[rM]at hc;obtain⟨u,hu',hlu⟩:=a2.get hc;rw[rm]at hu';have hgd:arr.getD (r*i.size+k) undef=u:=by rw[rI,hu'];rfl
  rw[hgd]
 .simp only[Env.still,if_true,pK];exact hu'
 .have:=hlu.kn (pG.1 hcond2.1 c (pE hc));exact this.mono hB.2.le.shut
end
section
variable {P:Program} {B:Nat} {ops:Array Oper} {md:Region.Mode} {X:zq->Prop} {eff:Nat->Bool}
def He{tmps:List C}{x:Operand}(h:∀d,dst=some d->x≠.tmp d):ev (put tmps dst c) x=ev tmps x:=by
 cases dst with
 |none=>rfl
 |some d=>
  cases x with
  |tmp t=>
   have hne:d≠t:=λe=>h d V (e ▸ rfl)
   simp[ev,put,rC hne]
  |_=>rfl
def Gp(h:∀d,dst=some d->d∉o.looksAt ops):∀x∈o.op.operands,∀d,dst=some d->x≠.tmp d:=λx hx d hd e=>h d hd (by
 subst e;exact eL _ (List.mem_filterMap.2 ⟨.tmp d,ai hx,rfl⟩))
def fE.put{o:Oper}{tmps:List C}{H H':zq}{c x:C}{dst:Option Tmp}(h:∀d,dst=some d->d∉o.looksAt ops):fE P o (ev (put tmps dst x)) H c H'↔fE P o (ev tmps) H c H':=
 ⟨λh'=>h'.congr λy hy=>(He (Gp h y hy)).symm,λh'=>h'.congr λy hy=>He (Gp h y hy)⟩
def vf{tmps:List C}{x:C}(h:∀d,dst=some d->d∉o.looksAt ops):jD ops (put tmps dst x) o=jD ops tmps o:=by
 cases dst with
 |none=>rfl
 |some d=>
  have hd:=h d V;unfold jD;cases hg:o.guard with
  |none=>rfl
  |some g=>
   obtain⟨j,want⟩:=g
   have:Cn ops (put tmps (some d) x) j=Cn ops tmps j:=by
    unfold Cn;cases hj:(ops[j]?).bind (·.dst) with
    |none=>rfl
    |some e=>
     have hne:d≠e:=λhe=>hd (by
      subst he;unfold Oper.looksAt;rw[hg];refine List.mem_append_right _ ?_;dsimp only;rw[hj];simp)
     simp[put,rC hne]
   simp only[this]
def put_comm{tmps:List C}{x y:Option Tmp}(v u:C)(h:∀d,x=some d->y≠some d):put (put tmps x v) y u=put (put tmps y u) x v:=by
 cases x with
 |none=>rfl
 |some d=>
  cases y with
  |none=>rfl
  |some e=>
   have hne:d≠e:=λhe=>h d V (he ▸ rfl)
   simp[put,List.set_comm _ _ hne]
def YA(P:Program)(ops:Array Oper)(X:zq->Prop)(o:Oper)(c:C)(tmps:List C):Prop:=
 (jD ops tmps o=some true/\∀H,X H->fE P o (ev tmps) H c H)\/(jD ops tmps o=some false/\c=.un)
def YA.put{o:Oper}{c x:C}{tmps:List C}{dst:Option Tmp}(h:∀d,dst=some d->d∉o.looksAt ops):YA P ops X o c (put tmps dst x)↔YA P ops X o c tmps:=by
 unfold YA;rw[vf h];constructor
 .rintro(⟨h1,h2⟩|h1)
  .exact .inl ⟨h1,λH hH=>(fE.put h).1 (h2 H hH)⟩
  .exact .inr h1
 .rintro(⟨h1,h2⟩|h1)
  .exact .inl ⟨h1,λH hH=>(fE.put h).2 (h2 H hH)⟩
  .exact .inr h1
def TA(P:Program)(ops:Array Oper)(X:zq->Prop)(o:Oper)(c:C)(tmps:List C)(H H':zq):Prop:=
 jD ops tmps o=some true/\X H'/\fE P o (ev tmps) H c H'
def TA.put{o:Oper}{c x:C}{tmps:List C}{dst:Option Tmp}{H H':zq}(h:∀d,dst=some d->d∉o.looksAt ops):TA P ops X o c (put tmps dst x) H H'↔TA P ops X o c tmps H H':=by
 unfold TA;rw[vf h,fE.put h]
def nh(P:Program)(ops:Array Oper)(X:zq->Prop)(eff:Nat->Bool)(i:Nat)(K:S->Prop)(s:S):Prop:=
 match ops[i]? with
 |none=>K s
 |some o=>(eff i=false/\∃c,YA P ops X o c s.tmps/\K ⟨put s.tmps o.dst c,s.H⟩)\/(eff i=true/\∃c H',TA P ops X o c s.tmps s.H H'/\K ⟨put s.tmps o.dst c,H'⟩)
def UW{i:Nat}{K':S->Prop}(h:∀s,K s->K' s)(hh:nh P ops X eff i K s):nh P ops X eff i K' s:=by
 unfold nh at *;split
 .exact h _ (by simpa [*] using hh)
 .rename_i o ho;simp only[ho]at hh;rcases hh with⟨h1,c,h2,h3⟩|⟨h1,c,H',h2,h3⟩
  .exact .inl ⟨h1,c,h2,h _ h3⟩
  .exact .inr ⟨h1,c,H',h2,h _ h3⟩
def DF(P:Program)(ops:Array Oper)(X:zq->Prop)(eff:Nat->Bool)(Q:S->Prop):List Oper->Nat->S->Prop
 |[],_,s=>Q s
 |_::l,k,s=>nh P ops X eff k (DF P ops X eff Q l (k+1)) s
def DH(P:Program)(md:Region.Mode)(ops:Array Oper)(X:zq->Prop)(eff:Nat->Bool)(Q:S->Prop):Nat->Array Bool->S->Prop
 |0,listed,s=>Region.ready md ops listed=[]/\Q s
 |fuel+1,listed,s=>(Region.ready md ops listed=[]->Q s)/\∀i∈Region.ready md ops listed,nh P ops X eff i (DH P md ops X eff Q fuel (listed.setIfInBounds i true)) s
def y3{q:Option Nat}{m:Nat}{H0:zq}{Q:S->Prop}{w0:World}{E0:Env}{Q':Exit->Act->World->Prop}(hQ:∀s w E a,Q s->xM B m w E s a->jA B w0 E0 H0 w E s.H->Q' .normal a w):
  ∀(fuel:Nat) (listed:Array Bool) (s:S) (w:World) (E:Env) (a:Act),X s.H->xM B m w E s a->jA B w0 E0 H0 w E s.H->DH P md ops X eff Q fuel listed s->wpAnyIn (fw q) 0 P md ops Q' fuel listed a w
 |0,_,s,w,E,a,hX,hs,hg,h=>⟨h.1,hQ s w E a h.2 hs hg⟩
 |fuel+1,listed,s,w,E,a,hX,hs,hg,h=>⟨λh0=>hQ s w E a (h.1 h0) hs hg,λi hi=>by
   have h1:=h.2 i hi;unfold nh at h1;unfold wpOpIn;split
   .rename_i ho;simp only[ho]at h1;exact y3 hQ fuel _ s w E a hX hs hg h1
   .rename_i o ho;simp only[ho]at h1;rcases h1 with⟨_,c,⟨hw,hv⟩|⟨hw,rfl⟩,hK⟩|⟨_,c,H',⟨hw,hX',hv⟩,hK⟩
    .rw[pD (jN hs.tmps hw)];exact Ac.EP (hv s.H hX) q m w E a _ Q' hs λw' E' a' h2 g2=>y3 hQ fuel _ ⟨put s.tmps o.dst c,s.H⟩ w' E' a' hX h2 (hg.trans g2) hK
    .rw[pA aZ];exact⟨λ_ _=>trivial,y3 hQ fuel _ ⟨put s.tmps o.dst .un,s.H⟩ w E _ hX (hs.put .un o.dst) hg hK⟩
    .rw[pD (jN hs.tmps hw)];exact Ac.EP hv q m w E a _ Q' hs λw' E' a' h2 g2=>y3 hQ fuel _ _ w' E' a' hX' h2 (hg.trans g2) hK⟩
def BN(P:Program)(ops:Array Oper)(X:zq->Prop)(eff:Nat->Bool)(i:Nat)(o:Oper)(c:C)(H':zq)(s:S):Prop:=
 (eff i=false/\YA P ops X o c s.tmps/\H'=s.H)\/(eff i=true/\TA P ops X o c s.tmps s.H H')
def BN.Ix{i:Nat}(hi:ops[i]?=some o)(h:BN P ops X eff i o c H' s)(hK:K ⟨put s.tmps o.dst c,H'⟩):nh P ops X eff i K s:=by
 unfold nh;simp only[hi];rcases h with⟨h1,h2,rfl⟩|⟨h1,h2⟩
 .exact .inl ⟨h1,c,h2,hK⟩
 .exact .inr ⟨h1,c,H',h2,hK⟩
def UX{i j:Nat}{oi oj:Oper}{Hi:zq}(hj:ops[j]?=some oj)(hap:oi.apart ops oj=true)(he:eff i=true->eff j=false)(hf:BN P ops X eff i oi c Hi s)
 (h:nh P ops X eff j K ⟨put s.tmps oi.dst c,Hi⟩):
  nh P ops X eff j (λs'=>∃H2,BN P ops X eff i oi c H2 s'/\K ⟨put s'.tmps oi.dst c,H2⟩) s:=by
 obtain⟨h1,h2,h3⟩:=Oper.apart_spec hap;unfold nh at *;simp only[hj] at *;rcases h with⟨hej,cj,hy,hK⟩|⟨hej,cj,Hj,ht,hK⟩
 .refine .inl ⟨hej,cj,(YA.put h1).1 hy,Hi,?_,?_⟩
  .rcases hf with⟨h4,h5,h6⟩|⟨h4,h5⟩
   .exact .inl ⟨h4,(YA.put h3).2 h5,h6⟩
   .exact .inr ⟨h4,(TA.put h3).2 h5⟩
  .rw[put_comm _ _ h2]at hK;exact hK
 .rcases hf with⟨h4,h5,rfl⟩|⟨h4,h5⟩
  .refine .inr ⟨hej,cj,Hj,(TA.put h1).1 ht,Hj,.inl ⟨h4,(YA.put h3).2 h5,rfl⟩,?_⟩;rw[put_comm _ _ h2]at hK;exact hK
  .rw[he h4]at hej;cases hej
def Sj{Q:S->Prop}{i:Nat}{oi:Oper}(hi:ops[i]?=some oi):
  ∀(fuel:Nat) (listed:Array Bool) (s:S) (Hi:zq),
   (∀j oj,ops[j]?=some oj->j≠i->listed.getD j true=false->(∀e∈oj.after,Region.binds md e=true->e.on≠i)->oi.apart ops oj=true/\(eff i=true->eff j=false))->
   i∈Region.ready md ops listed->BN P ops X eff i oi c Hi s->
   DH P md ops X eff Q fuel (listed.setIfInBounds i true) ⟨put s.tmps oi.dst c,Hi⟩->DH P md ops X eff Q (fuel+1) listed s:=by
 intro fuel
 induction fuel with
 |zero=>
  intro listed s Hi _ hr hy H;refine⟨λh=>bc,λj hj=>?_⟩;by_cases hji:j=i
  .subst hji;exact hy.Ix hi H
  .have:=ready_mono hj hji;rw[H.1]at this;cases this
 |succ fuel ih=>
  intro listed s Hi hfree hr hy H;refine⟨λh=>bc,λj hj=>?_⟩;by_cases hji:j=i
  .subst hji;exact hy.Ix hi H
  .have h1:=H.2 j (ready_mono hj hji);obtain⟨hjun,oj,hoj,qd⟩:=mem_ready.1 hj
   have hnot:∀e∈oj.after,Region.binds md e=true->e.on≠i:=λe he hb heq=>by
    have h1:=qd e he hb;have h0:=(mem_ready.1 hr).1;rw[heq]at h1;rcases tu i listed.size with h'|h'
    .simp[h']at h0 h1;rw[h0]at h1;cases h1
    .simp[s7 h']at h1
   obtain⟨hap,hee⟩:=hfree j oj hoj hji hjun hnot;have h2:=UX hoj hap hee hy h1
   have hfree':∀k ok,ops[k]?=some ok->k≠i->(listed.setIfInBounds j true).getD k true=false->
     (∀e∈ok.after,Region.binds md e=true->e.on≠i)->oi.apart ops ok=true/\(eff i=true->eff k=false):=λk ok hk hki hun hno=>by
    refine hfree k ok hk hki ?_ hno;by_cases hjk:j=k
    .subst hjk;exact hjun
    .rw[getD_set_ne true hjk]at hun;exact hun
   refine UW (λs' ⟨H2,h3,h4⟩=>ih (listed.setIfInBounds j true) s' H2 hfree' (ready_mono hr (Ne.symm hji)) h3 ?_) h2;rw[ec _ _ hji];exact h4
def Bi(md:Region.Mode)(ops:Array Oper)(eff:Nat->Bool):Bool:=
 (List.range ops.size).all λi=>!eff i || (List.range ops.size).all λj=>!eff j || decide (j<=i) || match ops[j]? with
  |some oj=>oj.after.any λe=>Region.binds md e && e.on == i
  |none=>true
def KD(h:Bi md ops eff=true){i j:Nat}{oj:Oper}(hi:eff i=true)(ft:i<j)(hj:ops[j]?=some oj)(hno:∀e∈oj.after,Region.binds md e=true->e.on≠i):eff j=false:=by
 have hjl:=(pP.1 hj).1;simp only[Bi,pG,sy]at h;have h1:=h i an;simp only[hi,ey,sD,pG,sy]at h1;have h2:=h1 j hjl;rw[hj]at h2;cases he:eff j with
 |false=>rfl
 |true=>
  exfalso
  simp only[he,ey,sD,rZ,pY]at h2;rcases h2 with h2|h2
  .omega
  .obtain⟨e,hem,hb⟩:=Array.any_eq_true'.1 h2;simp only[pJ,rF]at hb;exact hno e hem hb.1 hb.2
def Lz{Q:S->Prop}(hE:Bi md ops eff=true):∀(l:List Oper) (k:Nat) (listed:Array Bool) (s:S),(∀j,l[j]?=ops[k+j]?)->(∀j,j<k->listed.getD j true=true)->
  Region.lexFrom md ops l.length k listed=true->DF P ops X eff Q l k s->DH P md ops X eff Q l.length listed s
 |[],_,_,_,_,_,hB,h=>⟨by simpa [Region.lexFrom] using hB,h⟩
 |o::l,k,listed,s,hl,hk,hB,h=>by
  have h0:ops[k]?=some o:=by simpa using (hl 0).symm
  simp only[r8,Region.lexFrom,pJ]at hB;obtain⟨⟨hr,hf⟩,hB'⟩:=hB;have h':nh P ops X eff k (DF P ops X eff Q l (k+1)) s:=h;unfold nh at h';simp only[h0]at h'
  obtain⟨c,H',hfst,hK⟩:∃c H',BN P ops X eff k o c H' s/\DF P ops X eff Q l (k+1) ⟨put s.tmps o.dst c,H'⟩:=by
   rcases h' with⟨h1,c,h2,h3⟩|⟨h1,c,H',h2,h3⟩
   .exact⟨c,s.H,.inl ⟨h1,h2,rfl⟩,h3⟩
   .exact⟨c,H',.inr ⟨h1,h2⟩,h3⟩
  refine Sj h0 l.length listed s H' (λj oj hj hne hun hno=>⟨Region.free_spec h0 hf j oj hj hne hun hno,λhe=>?_⟩) (ai hr) hfst
   (Lz hE l (k+1) _ _ (λj=>by have:=hl (j+1);simpa [sS,ff 1 j] using this) ?_ hB' hK)
  .refine KD hE he ?_ hj hno;rcases sC j k with ft|heq|ft
   .rw[hk j ft]at hun;cases hun
   .exact absurd heq hne
   .exact ft
  .intro j hj;by_cases hjk:k=j
   .subst hjk;by_cases ft:k<listed.size
    .simp[ft]
    .simp[ft]
   .rw[getD_set_ne true hjk];exact hk j an
def qx.drew{w:World}{E:Env}{H:zq}(h:qx w E H):qx w.drew E H:=⟨h.base.drew,mN.step h (qn.drew w E H) (jt.refl H)⟩
def Grow.drew(w:World)(E:Env)(H:zq):Grow w E H w.drew E H:=
 ⟨Env.le.refl E,rfl,rfl,rfl,pN _,λ_ _ _=>V,λ_ _ _ h=>.inl h,λ_ h=>.inr h⟩
def xM.drew{m:Nat}{w:World}{E:Env}{s:S}{a:Act}(h:xM B m w E s a):xM B m {w with drawn:=w.drawn+1} E s a:=⟨h.heap.drew,h.tmps,Marks.mono (w:=w) (w':={w with drawn:=w.drawn+1}) (pN _) h.defers λ_ _ _=>V,h.base⟩
def Run.draw{id:Nat}{s':S}(X:zq->Prop)(eff:Nat->Bool)(hm:P.follows .mixedOrders=true)(hB:Region.lexB .any ops=true)(hE:Bi .any ops eff=true)(hX:X s.H)
 (h:DF P ops X eff (·=s') ops.toList 0 s):Run P B (.region id ops true) s .normal s':=λq m w E a Q _ hs hq=>by
 simp only[Region.lexB,pJ]at hB;refine wpIn_region_any hm (y3 (X:=X) (eff:=eff) (H0:=s.H) (Q:=(·=s')) (w0:=w) (E0:=E) (λs1 w1 E1 a1 he h1 g1=>by subst he;exact hq _ _ w1 E1 a1 ⟨rfl,rfl⟩ h1 g1) _ _ s _ E a hX hs.drew ((Grow.drew w E s.H).iW tA) ?_);have:=Lz (X:=X) (eff:=eff) (Q:=(·=s')) (P:=P) (md:=.any) hE ops.toList 0 (Array.replicate ops.size false) s ah (λj hj=>absurd hj (rA j)) (ai hB.2) h;simpa using this
end
section
variable {P:Program} {B:Nat} {s s':S}
def WC(c c':C):Prop:=∀(E:Env) (y:Value),L E c y->L E c' y
def WC.refl(c:C):WC c c:=λ_ _ h=>h
def WC.za(c:C):WC c .za:=λ_ y _=>.za y
def WC.share(o sz:Nat)(rows:List (List C)):WC (.fq o sz rows) (.fq 0 sz rows):=λE y h=>by
 cases h with
 |fq o sz rows b off cap us ho hc hsz hst hL=>exact .fq 0 sz rows b off cap us (.inl V) hc hsz hst hL
 |xA o sz ho a=>exact .xA 0 sz (.inl V) a
def WC.none(o sz sz':Nat):WC (.fq o sz []) (.fq o sz' []):=λE y h=>by
 cases h with
 |fq o sz rows b off cap us ho hc hsz hst hL=>exact .fq o sz' [] b off cap us ho hc ah ah ah
 |xA o sz ho a=>exact .xA o sz' ho a
inductive iI:List C->List C->Prop
 |nil:iI [] []
 |cons {c c':C} {cs cs':List C} (h:WC c c') (t:iI cs cs'):iI (c::cs) (c'::cs')
def iI.refl:∀cs:List C,iI cs cs
 |[]=>.nil
 |c::cs=>.cons (.refl c) (iI.refl cs)
def iI.LL{E:Env}:∀{cs cs':List C} {ys:List Value},iI cs cs'->LL E cs ys->LL E cs' ys
 |[],_,ys,.nil,h=>h
 |c::cs,_,ys,.cons h t,hl=>by
  match ys,hl with
  |[],hl=>have:=hl.1;simp at this
  |y::ys,hl=>
   obtain⟨h1,h2⟩:=hl.cons_inv;exact LL.cons (h E y h1) (t.LL h2)
def zl.tmps{t t':List C}{H:zq}(h:iI t t'):zl B ⟨t,H⟩ ⟨t',H⟩:=λm w E a hs=>
 ⟨E,⟨hs.heap,h.LL hs.tmps,hs.defers,hs.base⟩,jA.refl B w E H⟩
def Ba(keep:List Nat):Nat->List C->List C
 |_,[]=>[]
 |i,c::cs=>(if keep.contains i then c else .za)::Ba keep (i+1) cs
def Ge(keep:List Nat):∀(cs:List C) (i:Nat),iI cs (Ba keep i cs)
 |[],_=>.nil
 |c::cs,i=>.cons (by split;exact .refl c;exact .za c) (Ge keep cs (i+1))
def zl.mask(keep:List Nat)(t:List C)(H:zq):zl B ⟨t,H⟩ ⟨Ba keep 0 t,H⟩:=zl.tmps (Ge keep t 0)
def qE(n:Nat):Nat->C->Bool
 |0,_=>false
 |k+1,c=>match c with
  |.v _|.jR _|.un|.za=>true
  |.fq o _ rows=>o != 2 || rows.all λr=>r.all (qE n k)
  |.ref id .. |.sl id .. |.mp id|.gl id ..=>decide (id<n)
  |.iq _ c=>qE n k c
  |.rc _=>true
  |.agg cs|.fy cs=>cs.all (qE n k)
  |.fn _ first caps=>first.all (qE n k) && caps.all (qE n k)
def Env.cut(E:Env)(n:Nat):Env:={E with n:=n}
def L.cut{E:Env}(n:Nat):∀(k:Nat) {c:C} {y:Value},qE n k c=true->L E c y->L (E.cut n) c y:=by
 intro k
 induction k with
 |zero=>intro c y h;simp[qE]at h
 |succ k ih=>
  intro c y h hl;cases hl with
  |v x hx=>exact .v _ hx
  |fq o sz rows b off cap us ho hc hsz hst hL=>exact .fq o sz rows b off cap us ho hc hsz hst hL
  |xA o sz ho a=>exact .xA o sz ho a
  |jR cells b off us hst hL=>exact .jR cells b off us hst hL
  |ref id hops sz i k hn=>simp only[qE,pY]at h;exact .ref (E:=E.cut n) id hops sz i k h
  |sl id hops sz lo len full cap hn hlen hf hf'=>simp only[qE,pY]at h;exact .sl (E:=E.cut n) id hops sz lo len full cap h hlen hf hf'
  |mp id hn=>simp only[qE,pY]at h;exact .mp (E:=E.cut n) id h
  |agg cs ys h1 h2 h3=>
   simp only[qE,pG]at h;exact .agg cs ys h1 (λi c y e1 e2=>ih (h c (pE e1)) (h2 i c y e1 e2)) h3
  |fy cs ys h1 h2=>
   simp only[qE,pG]at h;exact .fy cs ys h1 (λi c y e1 e2=>ih (h c (pE e1)) (h2 i c y e1 e2))
  |fn f first caps ys zs h1 h2 h3 h4=>
   simp only[qE,pJ,pG]at h;exact .fn f first caps ys zs h1 h2 (λi c y e1 e2=>ih (h.1 c (pE e1)) (h3 i c y e1 e2)) (λi c y e1 e2=>ih (h.2 c (pE e1)) (h4 i c y e1 e2))
  |un=>exact .un
  |za y=>exact .za y
  |gl id sz rows y hn hg hl=>simp only[qE,pY]at h;exact .gl (E:=E.cut n) id sz rows y h hg hl
  |iq t c y hl=>simp only[qE]at h;exact .iq t c y (ih h hl)
def qj(n:Nat)(H:zq):Bool:=H.all λob=>ob.kind == 2 || (ob.kind == 4 && ob.fz == 0) || ob.rows.all λr=>r.all (qE n 9)
def Lp{n:Nat}:∀(hops:List fY) (sz:Nat) (rows:List (List C)) (sz':Nat) (rows':List (List C)),(∀i k c,cellAt rows i k=some c->∃f,qE n f c=true)->v7 sz rows hops=some (sz',rows')->
  ∀i k c,cellAt rows' i k=some c->∃f,qE n f c=true
 |[],sz,rows,sz',rows',h,hg=>by rw[qT]at hg;cases hg;exact h
 |(i,k)::hs,sz,rows,sz',rows',h,hg=>by
  rw[xG]at hg;split at hg
  .rename_i sz2 rows2 hc;refine Lp hs sz2 rows2 sz' rows' ?_ hg;obtain⟨f,hf⟩:=h i k _ hc;cases f with
   |zero=>simp[qE]at hf
   |succ f=>
    intro i' k' c' hc';simp only[qE,bne_self_eq_false,sD,pG]at hf;unfold cellAt at hc';cases hx:rows2[i']? with
    |none=>rw[hx]at hc';cases hc'
    |some r=>rw[hx]at hc';exact⟨f,hf r (pE hx) c' (pE hc')⟩
  .cases hg
def C1{n id:Nat}(h:qe (H.take n) id hops=some x):qe H id hops=some x/\id<n:=by
 obtain⟨ob,ho,hk,hg⟩:=qU h;rw[pZ]at ho;split at ho
 .rename_i ft;refine⟨?_,ft⟩;unfold qe;rw[ho];simp only[hk,if_true];exact hg
 .cases ho
def zl.dead(ty sz:Nat):zl B s ⟨s.tmps,s.H++[⟨0,ty,sz,[],0⟩]⟩:=λm w E a hs=>by
 have hh:=hs.heap.base;have hle:=E.Ex 0 0
 have get:∀id hops x,qe (s.H++[⟨0,ty,sz,[],0⟩]) id hops=some x->id<s.H.length/\qe s.H id hops=some x:=by
  intro id hops x hx;by_cases ft:id<s.H.length
  .exact⟨ft,by rw[kE ft]at hx;exact hx⟩
  .obtain⟨ob,ho,hk,hg⟩:=qU hx;rw[pR an]at ho
   have:id-s.H.length=0:=by
    exact gH
   rw[this]at ho;cases ho
   simp at hk
 have hold:∀id hops,id<s.H.length->(E.push 0 0).β id hops=E.β id hops:=λid hops ft=>hle.β id hops aU
 have hk4:jt s.H (s.H++[⟨0,ty,sz,[],0⟩]):=jt.push _ _ (λh=>by cases h)
 suffices h:qa w (E.push 0 0) (s.H++[⟨0,ty,sz,[],0⟩])/\qn w E s.H w (E.push 0 0) (s.H++[⟨0,ty,sz,[],0⟩]) from
  ⟨E.push 0 0,⟨⟨h.1,mN.step hs.heap h.2 hk4⟩,hs.tmps.mono hle,hs.defers,ay⟩,(h.2.up hs.heap hk4).iW (by rw[hh.n];exact hs.base)⟩
 refine⟨⟨by simp[Env.push,hh.n],?_,?_,hh.qp,?_,?_,?_⟩,⟨hle,λ_ _ _=>V,rfl,rfl,rfl,pN _,λ_ _ _=>V,λb o u hu=>.inl hu,?_⟩⟩
 .intro id ob hops sz' rows' hob hx;obtain⟨ft,hx'⟩:=get id hops _ hx;rw[pI ft]at hob;exact(hh.fH id ob hops sz' rows' hob hx').step hle aU V
 .intro id hops id' hops' x y hx hy he;obtain⟨h1,hx'⟩:=get id hops _ hx;obtain⟨h2,hy'⟩:=get id' hops' _ hy;rw[hold id hops h1,hold id' hops' h2]at he;exact hh.inj id hops id' hops' x y hx' hy' he
 .intro id hops x o u hx hu;obtain⟨h1,hx'⟩:=get id hops _ hx;rw[hold id hops h1]at hu;obtain⟨e1,ob,e2,e3⟩:=hh.sep id hops x o u hx' hu;exact⟨e1,ob,by rw[pI h1];exact e2,e3⟩
 .intro id ob hob hk;by_cases ft:id<s.H.length
  .rw[pI ft]at hob;rw[hold id [] ft];exact hh.ty id ob hob hk
  .rw[pR an]at hob
   have:id-s.H.length=0:=by
    have:=(px.1 hob).1;exact dL
   rw[this]at hob;cases hob
   cases hk
 .intro id ob hob;by_cases ft:id<s.H.length
  .rw[pI ft]at hob;exact hh.fz id ob hob
  .rw[pR an]at hob
   have:id-s.H.length=0:=by
    have:=(px.1 hob).1;exact dL
   rw[this]at hob;cases hob
   exact pW _
 .rintro b ⟨id,hops,x,hx,rfl⟩;obtain⟨h1,hx'⟩:=get id hops _ hx;exact .inr ⟨id,hops,x,hx',by rw[hold id hops h1]⟩
def qa.drop(hh:qa w E H)(n:Nat)(hn:n<=H.length)(hr:qj n (H.take n)=true):qa w (E.cut n) (H.take n) where
 n:=by simp[Env.cut,hn]
 fH id ob hops sz rows hob hx:=by
  obtain⟨hx',ft⟩:=C1 hx;rw[pZ,pD ft]at hob;have hb:=hh.fH id ob hops sz rows hob hx';obtain⟨cur,e,hg,hcs,hcell⟩:=hb.fH;refine⟨hb.len,hb.row,cur,e,hg,hcs,?_⟩;intro i k c hc;obtain⟨u,hu,ho⟩:=hcell i k c hc;refine⟨u,hu,?_⟩;by_cases hno:zF c=true
  .rw[qO.loose hno]at ho|-;refine⟨?_,ho.2⟩;by_cases hk:ob.kind=2
   .have h1:=ho.1;simp only[Env.at,hk,if_true]at h1|-;exact h1
   .have h1:=ho.1;simp only[Env.at,pA hk]at h1|-;have h2:=pG.1 hr ob (pE (by rw[pZ,pD ft];exact hob));have hk':(ob.kind == 2)=false:=by simpa using hk
    obtain⟨ob2,ho2,hk12,hg2⟩:=qU hx';rw[hob]at ho2;cases ho2
    have hk4:(ob.kind == 4)=false:=by rcases hk12 with e|e <;> rw[e] <;> rfl
    rw[hk',hk4,Bool.false_and,sD,sD]at h2
    obtain⟨f,hf⟩:=Lp hops _ _ _ _ (λi k c hc=>by
     unfold cellAt at hc;cases hx:ob.rows[i]? with
     |none=>rw[hx]at hc;cases hc
     |some r=>
      rw[hx]at hc;exact⟨9,pG.1 (pG.1 h2 r (pE hx)) c (pE hc)⟩) hg2 i k c hc
    exact h1.cut n f hf
  .unfold qO at ho|-;split at ho
   .exact ho
   .rename_i h2;exfalso
    apply hno
    unfold zF;split
    .exact absurd V (h2 _ _)
    .rfl
 inj id hops id' hops' x y hx hy he:=hh.inj id hops id' hops' x y (C1 hx).1 (C1 hy).1 he
 qp:=hh.qp
 sep id hops x o u hx hu:=by
  obtain⟨hx',ft⟩:=C1 hx;obtain⟨e1,ob,e2,e3⟩:=hh.sep id hops x o u hx' hu;exact⟨e1,ob,by rw[pZ,pD ft];exact e2,e3⟩
 ty id ob hob hk:=by
  rw[pZ]at hob;split at hob
  .exact hh.ty id ob hob hk
  .cases hob
 fz id ob hob:=by
  rw[pZ]at hob;split at hob
  .exact hh.fz id ob hob
  .cases hob
def km{n id:Nat}(h:(H.take n)[id]?=some ob):H[id]?=some ob:=by
 rw[pZ]at h;split at h
 .exact h
 .cases h
def qG.take{n id:Nat}(h:qG (E.cut n) (H.take n) id b):qG E H id b:=
 let ⟨ob,cap,h1,h2,h3,h4⟩:=h;⟨ob,cap,km h1,h2,h3,h4⟩
def jz.take{n id:Nat}(h:jz (H.take n) id b):jz H id b:=
 let ⟨ob,r,t,h1,h2⟩:=h;⟨ob,r,t,km h1,h2⟩
def q6.take{n:Nat}(h:q6 (E.cut n) (H.take n) b):q6 E H b:=
 let ⟨id,hops,x,hx,e⟩:=h;⟨id,hops,x,(C1 hx).1,e⟩
def xj.take{E:Env}{H:zq}{n b:Nat}(h:xj (E.cut n) (H.take n) b):xj E H b:=
 h.imp q6.take λ⟨id,h⟩=>⟨id,h.imp qG.take jz.take⟩
def qx.drop{w:World}{E:Env}{H:zq}(hh:qx w E H)(n:Nat)(hn:n<=H.length)(hr:qj n (H.take n)=true):qx w (E.cut n) (H.take n) where
 base:=hh.base.drop n hn hr
 fA:={
  val:=λid ob h1 h2=>hh.fA.val id ob (km h1) h2
  fH:=λid b ob h1 h2=>hh.fA.fH id b ob h1.take (km h2)
  sep:=λid b h1 h2=>hh.fA.sep id b h1.take h2.take
  inj:=λid id' b h1 h2=>hh.fA.inj id id' b h1.take h2.take
  st:=λid b ob o u h1 h2 h3=>hh.fA.st id b ob o u h1.take (km h2) h3
  top:=λid ob k u h1 h2 h3=>hh.fA.top id ob k u (km h1) h2 h3
  iK:=λid ob r t h1 h2 h3=>by
   obtain⟨p1,p2⟩:=hh.fA.iK id ob r t (km h1) h2 h3;refine⟨p1,p2.map λys hl=>⟨hl.1,λi c y e1 e2=>(hl.2 i c y e1 e2).cut n 9 ?_⟩⟩;have:=pG.1 hr ob (pE h1);rw[h2,h3.1,h3.2]at this;simp at this;exact this.2 c (pE e1)
  wZ:=λid id' b h1 h2=>hh.fA.wZ id id' b h1.take h2.take}
def zl.drop(n:Nat)(hB:Nat.ble B n=true)(hn:Nat.ble n s.H.length=true)(ht:s.tmps.all (qE n 9)=true)(hr:qj n (s.H.take n)=true):zl B s ⟨s.tmps,s.H.take n⟩:=λm w E a hs=>
 ⟨E.cut n,⟨hs.heap.drop n (pO hn) hr,⟨hs.tmps.1,λi c y e1 e2=>(hs.tmps.2 i c y e1 e2).cut n 9 (pG.1 ht c (pE e1))⟩,hs.defers,bd⟩,
  ⟨⟨λ_ _ _=>V,λ_ _ _=>V,λ_ _ _ h=>h,λ_ _ _ _ h=>h⟩,rfl,rfl,rfl,pN _,λ_ _ _=>V,λb o u hu=>.inl hu,λb h=>.inr h.take⟩⟩
def zl.keep(m:List Nat)(n:Nat)(t:List C)(H:zq)(hB:Nat.ble B n=true)(hn:Nat.ble n H.length=true)(ht:(Ba m 0 t).all (qE n 9)=true)(hr:qj n (H.take n)=true):zl B ⟨t,H⟩ ⟨Ba m 0 t,H.take n⟩:=
 (zl.mask m t H).trans (zl.drop (s:=⟨Ba m 0 t,H⟩) n hB hn ht hr)
def entry(fn:Func)(args:List C):List C:=args++List.replicate (fn.ntmps-args.length) .un
def CE(P:Program)(s:S):ResultVar->Option C
 |.tmp t=>some ((s.tmps[t]?).getD .za)
 |.cell a t=>wN P s.H t ((s.tmps[a]?).getD .za)
def kg(P:Program)(fn:Func)(s:S):Option C:=
 match fn.results.toList.mapM (CE P s) with
 |some [c]=>some c
 |some cs=>some (.fy cs)
 |none=>none
def Fp(tmps:Array Value):ResultVar->Sem Value
 |.tmp t=>pure (tmps.getD t undef)
 |.cell a t=>do loadVar t (<-asAddr (tmps.getD a undef))
theorem SX(fn:Func)(tmps:Array Value):results fn tmps=(do let vs <-fn.results.mapM (Fp tmps);pure (if h:vs.size=1 then vs[0] else .tuple vs)):=rfl
def LM{tmps:List C}{a:Array Value}(h:LL E tmps a.toList)(t:Tmp):L E ((tmps[t]?).getD .za) (a.getD t undef):=by
 have:=DM (a:=⟨a,[]⟩) h (.tmp t);exact gI
def UG(hh:qa w E H){c0:C}(hl:L E c0 y)(hc:wN P H t c0=some c):∃a u,y=.pointer (some a)/\(loadVar t a).run P w=.ok u w/\L E c u:=by
 unfold wN at hc;split at hc
 .rename_i d i hd hi;by_cases hag:B9 d=true
  .rw[pD hag]at hc;cases hr:oA H c0 i.size with
   |none=>rw[hr]at hc;cases hc
   |some cs=>
    rw[hr]at hc;cases hc
    obtain⟨a,us,ha,hcell,hll,hlen,hone⟩:=Ey hh hl hr;have h3:=run_loadCells_list (P:=P) (w:=w) a us (λj v hj=>hcell j v hj);rw[hlen]at h3
    exact⟨a,.agg us.toArray,ha,by simp[loadVar,wC hd,hag,qW hi,h3],
     .agg cs us.toArray (ai hll.1) (λi c y e1 e2=>hll.2 i c y e1 uX) (λu hu=>hone u (ai hu))⟩
  .rw[pA hag]at hc;split at hc
   .rename_i x0 hr;cases hc
    obtain⟨a,us,ha,hcell,hll,hlen,hone⟩:=Ey hh hl hr
    obtain⟨u,rfl⟩:∃u,us=[u]:=by
     match us,hlen with
     |[u],_=>exact⟨u,rfl⟩
    have hu:=hcell 0 u V;have ha0:a.add 0=a:=by simp[Addr.add]
    rw[ha0]at hu;exact⟨a,u,ha,by simp[loadVar,wC hd,hag,hu],hll.cons_inv.1⟩
   .cases hc
 .cases hc
def Gz{m:Nat}{a:Act}(hs:xM B m w E s a)(hr:kg P fn s=some r):∃v,(results fn a.tmps).run P w=.ok v w/\L E r v:=by
 have one:∀(x:ResultVar) c,CE P s x=some c->∃v,(Fp a.tmps x).run P w=.ok v w/\L E c v:=by
  intro x c h;cases x with
  |tmp t=>cases h;exact⟨_,rfl,LM hs.tmps t⟩
  |cell b t=>
   obtain⟨ad,u,e1,e2,e3⟩:=UG hs.heap.base (LM hs.tmps b) h;refine⟨u,?_,e3⟩;unfold Fp;dsimp only;rw[e1];exact e2
 have key:∀(l:List ResultVar) (cs:List C),l.mapM (CE P s)=some cs->∃vs:List Value,(l.mapM (Fp a.tmps)).run P w=.ok vs w/\LL E cs vs:=by
  intro l
  induction l with
  |nil=>intro cs h;simp at h;subst h;exact⟨[],ah,LL.nil⟩
  |cons x l ih=>
   intro cs h;rw[um]at h;cases hx:CE P s x with
   |none=>rw[hx]at h;cases h
   |some c=>
    rw[hx]at h;cases hm:l.mapM (CE P s) with
    |none=>rw[hm]at h;cases h
    |some cs'=>
     rw[hm]at h;cases h
     obtain⟨vs,h1,h2⟩:=ih cs' hm;obtain⟨v,e1,e2⟩:=one x c hx;exact⟨v::vs,by rw[um];simp[h1,e1],LL.cons e2 h2⟩
 unfold kg at hr;cases hm:fn.results.toList.mapM (CE P s) with
 |none=>rw[hm]at hr;cases hr
 |some cs=>
  obtain⟨vs,h1,h2⟩:=key _ cs hm
  have h3:(results fn a.tmps).run P w=.ok (if h:vs.toArray.size=1 then vs.toArray[0] else .tuple vs.toArray) w:=by
   rw[SX,Array.mapM_eq_mapM_toList];simp[h1]
  refine⟨_,h3,?_⟩;rw[hm]at hr;split at hr
  .rename_i c e;cases e
   cases hr
   match vs,h2 with
   |[],h2=>have:=h2.1;simp at this
   |[v],h2=>simpa using h2.cons_inv.1
   |_::_::_,h2=>have:=h2.1;simp at this
  .rename_i cs0 hne e;cases e
   cases hr
   have hl:=h2.1
   have hne1:vs.length≠1:=by
    intro h;rw[h]at hl
    match cs,hl with
    |[c],_=>exact hne c V
   rw[dif_neg (ai hne1)];exact .fy cs vs.toArray (ai hl) (λi c y e1 e2=>h2.2 i c y e1 uX)
  .rename_i e;cases e
def Gt{vs:Array Value}(h:LL E args vs.toList):LL E (entry fn args) (vs++Array.replicate (fn.ntmps-vs.size) undef).toList:=by
 rw[uz,Array.toList_replicate];have hl:=h.1;simp at hl;refine h.append ⟨by simp[hl],?_⟩;intro i c y e1 e2;obtain⟨rfl,_⟩:=ub.1 (pE e1) |>.symm
 obtain⟨rfl,_⟩:=ub.1 (pE e2) |>.symm
 exact .un
def leaves{fn:Func}{tmps:Array Value}{R:Ending->World->Prop}{m:Nat}:∀{ds:List Deferred} {w:World},Marks m w ds->
  (∀w':World,w'.os=w.os->w'.tape=w.tape->w'.output=w.output->w'.heap.size=w.heap.size->(∀k:Nat,k<m->w'.heap[k]?=w.heap[k]?)->(∀(k:Nat) (o:Obj),w.heap[k]?=some o->(∀ds,o≠.deferred ds)->w'.heap[k]?=w.heap[k]?)->
   ∃v,(results fn tmps).run P w'=.ok v w'/\R (.returned v) w')->LeavesInM (fw none) 0 P fn tmps R ds .returning w
 |[],w,_,h=>h w V V V V (λ_ _=>V) (λ_ _ _ _=>V)
 |d::ds,w,⟨⟨D,h1,h2,h3,h4⟩,ht⟩,h=>by
  refine⟨ah,.inl ⟨D,_,by rw[h1],run_takeDeferred h3,leaves (Marks.mono ah ht λD' hm hd=>World.putObj_heap_other (by rintro rfl;exact h4 hm)) λw' a1 a2 a3 a4 a5 a6=>
   h w' a1 a2 a3 (a4.trans World.putObj_size) (λk hk=>(a5 k hk).trans (World.putObj_heap_other an)) λk o hc hd=>?_⟩⟩
  have hne:k≠D:=by rintro rfl;rw[h3]at hc;cases hc;exact hd _ V
  have e:=World.putObj_heap_other (w:=w) (o:=.deferred none) hne;exact(a6 k o (e.trans hc) hd).trans e
def qC(P:Program)(f:FuncId)(H:zq)(args:List C)(R:C->zq->Prop):Prop:=
 ∀(w:World) (E:Env) (vs:Array Value),qx w E H->LL E args vs.toList->
  Calls P f vs w λe w'=>∃r H' v E',R r H'/\e=.returned v/\qx w' E' H'/\L E' r v/\Grow w E H w' E' H'
def qC.at(h:qC P f H args λc X=>c=r/\X=H'):zb P f H args r H':=λw E vs hh hl=>
 (h w E vs hh hl).mono λe w' ⟨c,X,v,E',⟨h1,h2⟩,h3⟩=>by subst h1 h2;exact⟨v,E',h3⟩
def zb.iu(h:zb P f H args r H')(hR:R r H'):qC P f H args R:=λw E vs hh hl=>
 (h w E vs hh hl).mono λe w' ⟨v,E',h3⟩=>⟨r,H',v,E',hR,h3⟩
def qC.kQ{c:Code}(hf:P.funcs[f]?=some fn)(hb:fn.body=some c)
 (hr:qX P H.length c ⟨entry fn args,H⟩ λex s1=>(ex=.ret\/ex=.normal)/\∃s2 r,zl H.length s1 s2/\kg P fn s2=some r/\R r s2.H):qC P f H args R:=λw E vs hh hl=>by
 refine(callsIn_wide (n:=0)).1 (callsIn_of_wp_marks hf hb trivial (hr none w.heap.size w E _ _ (λ_=>V) ⟨hh,Gt hl,pN _,pN _⟩ λex s1 w' E1 a' hR hs1 g1=>?_));obtain⟨hex,s',r,hw,hres,hRr⟩:=hR;obtain⟨E',hs,g2⟩:=hw _ w' E1 a' hs1;have g:=g1.trans g2
 have key:LeavesInM (fw none) 0 P fn a'.tmps (λe w'=>∃r H' v E',R r H'/\e=.returned v/\qx w' E' H'/\L E' r v/\Grow w E H w' E' H') a'.defers .returning w':=by
  refine leaves hs.defers λw2 a1 a2 a3 a4 a5 a6=>?_
  have hs2:xM H.length w.heap.size w2 E' s' {a' with defers:=[]}:=⟨hs.heap.cells a6,hs.tmps,bf,hs.base⟩;obtain⟨v,h1,h2⟩:=Gz hs2 hres
  have hg:Grow w E H w2 E' s'.H:=⟨⟨bh,λid hops hi=>g.le.β id hops tE,λid hops hi=>g.le.κ id hops tE,g.le.St,λid k u hi=>g.le.G id k u tE⟩,
   a1.trans g.os,a2.trans g.tape,a3.trans g.output,by rw[a4];exact g.size,λk hk ho=>(a5 k hk).trans (g.frame k hk ho),g.jB,g.own⟩
  exact⟨v,h1,r,s'.H,v,E',hRr,rfl,hs2.heap,h2,hg⟩
 rcases hex with rfl|rfl <;> exact key
def xj.none:¬xj E [] b:=λh=>by
 rcases h with⟨id,hops,x,hx,_⟩|⟨id,⟨ob,cap,hx,_⟩|⟨ob,r,t,hx,_⟩⟩
 .simp[qe]at hx
 .simp at hx
 .simp at hx
def qC.close{R:C->Prop}(h:qC P f [] args λc _=>R c)(hc:∀c,R c->c=r/\qE 0 9 r=true):zb P f [] args r []:=λw E vs hh hl=>by
 refine(h w E vs hh hl).mono ?_;rintro e w' ⟨c,H',v,E',hR,rfl,h1,h2,g⟩;obtain⟨rfl,hlow⟩:=hc c hR;have h3:=h1.drop 0 (pW _) (by simp[qj]);rw[eU]at h3;have hn:E.n=0:=hh.n
 exact⟨v,E'.cut 0,rfl,h3,h2.cut 0 9 hlow,⟨⟨by rw[hn];exact pW _,λid hops hi=>by rw[hn]at hi;omega,λid hops hi=>by rw[hn]at hi;omega,g.le.St,λid k u hi=>by rw[hn]at hi;omega⟩,g.os,g.tape,g.output,g.size,g.frame,g.jB,
  λb h=>absurd h xj.none⟩⟩
def zb.frame{f:FuncId}{args:List C}{r:C}(h:zb P f [] args r [])(ha:args.all (qE 0 9)=true)(H:zq):zb P f H args r H:=λw E vs hh hl=>by
 have h0:qx w (E.cut 0) []:=by
  have:=hh.drop 0 (pW _) (by simp[qj]);rw[eU]at this;exact gI
 have hl0:LL (E.cut 0) args vs.toList:=⟨hl.1,λi c y e1 e2=>(hl.2 i c y e1 e2).cut 0 9 (pG.1 ha c (pE e1))⟩;refine(h w (E.cut 0) vs h0 hl0).mono ?_;rintro e w' ⟨v,E',rfl,h1,h2,g⟩;have hle:E.le {E with St:=E'.St}:=⟨pN _,λ_ _ _=>V,λ_ _ _=>V,λb o u hu=>g.le.St b o u hu,λ_ _ _ _ hu=>hu⟩;have hn:E'.n=0:=h1.n;have hsame:∀b,b<w.heap.size->w'.heap[b]?=w.heap[b]?:=λb hb=>g.frame b hb xj.none
 have hnew:∀b o u,E'.St b o=some u->E.St b o=some u\/w.heap.size<=b:=λb o u hu=>by
  rcases g.jB b o u hu with h5|h5|h5
  .exact .inl h5
  .exact .inr h5
  .exact absurd h5 xj.none
 have hb:=hh.base
 have hst:∀id hops x o u,qe H id hops=some x->E'.St (E.β id hops) o=some u->E.St (E.β id hops) o=some u:=λid hops x o u hx hu=>by
  rcases hnew _ o u hu with h5|h5
  .exact h5
  .have:=hb.lt hx;omega
 have hR:qa w' {E with St:=E'.St} H:=by
  refine⟨hb.n,?_,hb.inj,h1.base.qp,?_,?_,hb.fz⟩
  .intro id ob hops sz rows hob hx;have hb':=hb.fH id ob hops sz rows hob hx;exact hb'.step hle (by rw[hb.n];exact Bp hx) (hsame _ hb'.GL)
  .intro id hops x o u hx hu;exact hb.sep id hops x o u hx (hst id hops x o u hx hu)
  .intro id ob hob hk;obtain⟨cur,hc⟩:=hb.ty id ob hob hk;exact⟨cur,by rw[<-hc];exact hsame _ (pP.1 hc).1⟩
 have hG:qn w E H w' {E with St:=E'.St} H:=⟨hle,λ_ _ _=>V,g.os,g.tape,g.output,g.size,λk hk _=>hsame k hk,λb o u hu=>(hnew b o u hu).imp_right .inl,λb hb=>.inr hb⟩;refine⟨v,{E with St:=E'.St},rfl,⟨hR,mN.step hh hG (jt.refl H)⟩,?_,hG.up hh (jt.refl H)⟩;have hz:∀{p:Prop} (id:Nat),id<E'.n->p:=λid hi=>absurd hi (by rw[hn];exact rA _)
 have hle2:Env.le E' {E with St:=E'.St}:=Env.le.mk (by rw[hn];exact pW _) (λid hops hi=>hz id hi) (λid hops hi=>hz id hi) (λb o u hu=>hu) (λid _ _ hi=>hz id hi);exact L.mono hle2 h2
end
section
variable {P:Program} {o:Oper} {ρ:Operand->C} {H:zq}
def run_sliceBound{k:IntKind}{n y:Nat}{code:BoundsCode}(h:n<=y)(w:World):(Instr.sliceBound (.int k n) y code).run P w=.ok n w:=by
 simp[Instr.sliceBound,asIntOf,h]
def ma(ρ:Operand->C)(x:Option Operand)(dflt n:Nat):Prop:=
 match x with
 |none=>n=dflt
 |some y=>∃k,ρ y=.v (.int k n)
def Jv{len cap:Nat}{hi:Option Operand}{l h:Nat}(hl:∀y,lo=some y->∃k,σ y=.int k l)(hl0:lo=none->l=0)(hh:∀y,hi=some y->∃k,σ y=.int k h)(hh0:hi=none->h=len)
 (h1:l<=h)(h2:h<=cap)(w:World):(Instr.sliceBounds true len cap (lo.map σ) (hi.map σ) none).run P w=.ok (l,h,cap) w:=by
 unfold Instr.sliceBounds;cases lo with
 |none=>
  obtain rfl:=hl0 V;cases hi with
  |none=>obtain rfl:=hh0 V;simp
  |some y=>obtain⟨k,e⟩:=hh y V;simp[e,run_sliceBound h2]
 |some x=>
  obtain⟨k0,e0⟩:=hl x V;cases hi with
  |none=>obtain rfl:=hh0 V;simp[e0,run_sliceBound h1]
  |some y=>obtain⟨k,e⟩:=hh y V;simp[e,e0,run_sliceBound h2,run_sliceBound h1]
def Ri{len cap:Nat}{hi mx:Operand}{l h m:Nat}(hl:∀y,lo=some y->∃k,σ y=.int k l)(hl0:lo=none->l=0)(hh:∃k,σ hi=.int k h)(hm:∃k,σ mx=.int k m)
 (h1:l<=h)(h2:h<=m)(h3:m<=cap)(w:World):(Instr.sliceBounds true len cap (lo.map σ) (some (σ hi)) (some (σ mx))).run P w=.ok (l,h,m) w:=by
 unfold Instr.sliceBounds;obtain⟨k,e⟩:=hh;obtain⟨k',e'⟩:=hm;cases lo with
 |none=>obtain rfl:=hl0 V;simp[e,e',run_sliceBound h2,run_sliceBound h3]
 |some x=>obtain⟨k0,e0⟩:=hl x V;simp[e,e',e0,run_sliceBound h2,run_sliceBound h1,run_sliceBound h3]
def ma.val{x:Option Operand}{d n:Nat}(h:ma ρ x d n)(hl:∀y,x=some y->L E (ρ y) (σ y)):(∀y,x=some y->∃k,σ y=.int k n)/\(x=none->n=d):=by
 unfold ma at h;cases x with
 |none=>exact⟨λy e=>(by cases e),λ_=>h⟩
 |some y=>
  refine⟨λz e=>?_,λe=>(by cases e)⟩;cases e
  obtain⟨k,e⟩:=h;have:=hl y V;rw[e]at this;refine⟨k,?_⟩;generalize σ y=u at *;cases this
  rfl
def LZ{o:Nat}(h:L E (.fq o sz rows) y):∃a cap,y=.slice a rows.length cap/\rows.length<=cap/\(o=1->cap=rows.length)/\
  ∀(l h m o':Nat),l<=h->h<=rows.length->m<=cap->h<=m->(o'=0\/o'=1/\m=h)->L E (.fq o' sz ((rows.drop l).take (h-l))) (.slice (if m=l then a else a.map (·.add (l*sz))) (h-l) (m-l)):=by
 cases h with
 |fq o sz rows b off cap us ho hc hsz hst hL=>
  refine⟨_,cap,rfl,hc,λe=>by subst e;exact(ho.resolve_left aj).2,?_⟩;intro l h m o' h1 h2 h3 h4 ho';have hlen:((rows.drop l).take (h-l)).length=h-l:=ar
  have ho2:o'=0\/o'=1/\m-l=((rows.drop l).take (h-l)).length:=by
   rw[hlen];rcases ho' with e|⟨e,e2⟩
   .exact .inl e
   .exact .inr ⟨e,an⟩
  by_cases hm:m=l
  .rw[pD hm];have:h=l:=by omega
   subst this;subst hm;simp only[sM,eU]at ho2|-;exact .fq o' sz [] b off 0 (λ_ _=>undef) (ai ho2) (pN _) ah ah ah
  .rw[pA hm,pL,xa];have:=L.fq (E:=E) o' sz ((rows.drop l).take (h-l)) b (off+l*sz) (m-l) (λi k=>us (l+i) k) ho2 (by rw[hlen];omega) (λr hr=>hsz r (tt (pF hr))) ?_ ?_
   .rw[hlen]at this;exact gI
   .intro i r k c hr hk;rw[pZ]at hr;split at hr
    .rw[rM]at hr;have:=hst (l+i) r k c hr hk;rw[rP]at this;rw[show off+l*sz+i*sz+k=off+(l*sz+i*sz)+k from an];exact gI
    .cases hr
   .intro i r k c hr hk;rw[pZ]at hr;split at hr
    .rw[rM]at hr;exact hL (l+i) r k c hr hk
    .cases hr
 |xA o sz ho a=>
  refine⟨a,0,rfl,pN _,λ_=>V,?_⟩;intro l h m o' h1 h2 h3 h4 ho';simp at h2 h3;subst h2;subst h3;obtain rfl:l=0:=an
  simp;exact .xA o' sz (by rcases ho' with e|e;exact .inl e;exact .inr e.1) a
def qA.LJ(t:TypeId)(x:Operand)(lo hi:Option Operand)(ho:o.op=.slice t x lo hi none)(ht:P.underlying t=some (.slice e))(hi':P.info? e=some i)
 (hx:ρ x=.fq fo sz rows)(hsz:rows=[]\/sz=i.size){l h:Nat}(hl':ma ρ lo 0 l)(hh':ma ρ hi rows.length h)(h1:l<=h)(h2:h<=rows.length):
  qA P o ρ H (.fq (if fo=1/\h=rows.length then 1 else 0) sz ((rows.drop l).take (h-l))) H:=λw E σ hh hl K hk=>by
 have h0:=hl x uU;rw[hx]at h0;obtain⟨a,cap,e1,e2,e3,e4⟩:=LZ h0;obtain⟨b1,b2⟩:=hl'.val (E:=E) (σ:=σ) (λy e=>hl y hZ);obtain⟨b3,b4⟩:=hh'.val (E:=E) (σ:=σ) (λy e=>hl y hZ)
 have hr:(execOp σ o).run P w=.ok (.value (.slice (if cap=l then a else a.map (·.add (l*i.size))) (h-l) (cap-l))) w:=by
  unfold execOp;simp[ho,Instr.sliceAt,run_underlying ht,Instr.slice,e1,Jv b1 b2 b3 b4 h1 (by omega:h<=cap),qW hi']
 rw[hr];refine hk _ w E hh ?_ (qn.refl w E H)
 have hsz2:(if cap=l then a else a.map (·.add (l*i.size)))=(if cap=l then a else a.map (·.add (l*sz))):=by
  rcases hsz with e|e
  .subst e;have:l=0:=by simp at h2;omega
   subst this;simp
  .rw[e]
 rw[hsz2];refine e4 l h cap _ h1 h2 (pN _) an ?_;by_cases hc:fo=1/\h=rows.length
 .rw[pD hc];exact .inr ⟨rfl,by rw[e3 hc.1];exact hc.2.symm⟩
 .rw[pA hc];exact .inl V
def qA.UJ(t:TypeId)(x:Operand)(lo:Option Operand)(hi mx:Operand)(ho:o.op=.slice t x lo (some hi) (some mx))(ht:P.underlying t=some (.slice e))(hi':P.info? e=some i)
 {rows:List (List C)}(hx:ρ x=.fq fo sz rows)(hsz:rows=[]\/sz=i.size){l h:Nat}(hl':ma ρ lo 0 l)(hh':ma ρ (some hi) 0 h)(hm':ma ρ (some mx) 0 h)(h1:l<=h)(h2:h<=rows.length):
  qA P o ρ H (.fq 1 sz ((rows.drop l).take (h-l))) H:=λw E σ hh hl K hk=>by
 have h0:=hl x uU;rw[hx]at h0;obtain⟨a,cap,e1,e2,e3,e4⟩:=LZ h0;obtain⟨b1,b2⟩:=hl'.val (E:=E) (σ:=σ) (λy e=>hl y hZ);obtain⟨b3,_⟩:=hh'.val (E:=E) (σ:=σ) (λy e=>hl y (by cases e;simp[ho,Op.operands]));obtain⟨b4,_⟩:=hm'.val (E:=E) (σ:=σ) (λy e=>hl y (by cases e;simp[ho,Op.operands]))
 have hr:(execOp σ o).run P w=.ok (.value (.slice (if h=l then a else a.map (·.add (l*i.size))) (h-l) (h-l))) w:=by
  unfold execOp;simp[ho,Instr.sliceAt,run_underlying ht,Instr.slice,e1,Ri b1 b2 (b3 _ V) (b4 _ V) h1 (pN h) (by omega:h<=cap),qW hi']
 rw[hr];refine hk _ w E hh ?_ (qn.refl w E H)
 have hsz2:(if h=l then a else a.map (·.add (l*i.size)))=(if h=l then a else a.map (·.add (l*sz))):=by
  rcases hsz with e|e
  .subst e;have:l=0:=by simp at h2;omega
   subst this;simp
  .rw[e]
 rw[hsz2];exact e4 l h h 1 h1 h2 an (pN _) (.inr ⟨rfl,rfl⟩)
def qA.WO(t:TypeId)(x:Operand)(lo hi:Option Operand)(ho:o.op=.slice t x lo hi none)(ht:P.underlying t=some (.slice e))(hi':P.info? e=some i){id:Nat}{lo0 len:Nat}{full:Bool}
 (hx:ρ x=.sl id hops sz lo0 len full)(hsz:sz=i.size){l h:Nat}(hl':ma ρ lo 0 l)(hh':ma ρ hi len h)(h1:l<=h)(h2:h<=len)(hne:l=0\/l<h)(hfu:full=false\/h=len):
  qA P o ρ H (.sl id hops sz (lo0+l) (h-l) full) H:=λw E σ hh hl K hk=>by
 have h0:=hl x uU;rw[hx]at h0
 obtain⟨cap,hy,hn,hlen,hf,hf'⟩:∃cap,σ x=.slice (some ⟨E.β id hops,lo0*sz,none⟩) len cap/\id<E.n/\len<=cap/\(full=true->cap=len)/\(full=false->lo0+cap=E.κ id hops):=by
  generalize σ x=u at *;cases h0 with
  |sl id hops sz lo len full cap hn hlen hf hf'=>exact⟨cap,rfl,hn,hlen,hf,hf'⟩
 obtain⟨b1,b2⟩:=hl'.val (E:=E) (σ:=σ) (λy e=>hl y hZ);obtain⟨b3,b4⟩:=hh'.val (E:=E) (σ:=σ) (λy e=>hl y hZ)
 have hr:(execOp σ o).run P w=.ok (.value (.slice (some (if cap=l then ⟨E.β id hops,lo0*sz,none⟩ else (Addr.mk (E.β id hops) (lo0*sz) none).add (l*i.size))) (h-l) (cap-l))) w:=by
  unfold execOp;simp only[ho,Instr.sliceAt,Sem.run_bind,run_underlying ht,Result.andThen_ok,Instr.slice,hy,Option.map_none,Jv b1 b2 b3 b4 h1 (by omega:h<=cap),qW hi'];by_cases hc:cap=l
  .simp[hc]
  .simp[hc]
 rw[hr];refine hk _ w E hh ?_ (qn.refl w E H)
 have hadd:(if cap=l then (⟨E.β id hops,lo0*sz,none⟩:Addr) else (Addr.mk (E.β id hops) (lo0*sz) none).add (l*i.size))=⟨E.β id hops,(lo0+l)*sz,none⟩:=by
  rw[xa,<-hsz,<-rP];by_cases hc:cap=l
  .rw[pD hc];have:l=0:=by omega
   rw[this];rfl
  .rw[pA hc]
 rw[hadd];refine .sl id hops sz (lo0+l) (h-l) full (cap-l) hn an (λe=>?_) (λe=>?_)
 .have:=hf e;rcases hfu with e2|e2
  .rw[e]at e2;cases e2
  .omega
 .have:=hf' e;omega
end
def wm(P:Program)(eq:TypeId->C->C->Option Bool)(xs ys:List C):List Field->Option Bool
 |[]=>some true
 |f :: fs => if f.name ≠ "_" then
   match o7 P f.type xs f.offset,o7 P f.type ys f.offset with
   |some a,some b=>match eq f.type a b,wm P eq xs ys fs with
    |some r,some r'=>some (r && r')
    |_,_=>none
   |_,_=>none
  else wm P eq xs ys fs
def Da(P:Program)(eq:C->C->Option Bool)(el:TypeId)(n:Nat)(xs ys:List C):List Nat->Option Bool
 |[]=>some true
 |i::is=>match o7 P el xs (i*n),o7 P el ys (i*n) with
  |some a,some b=>match eq a b,Da P eq el n xs ys is with
   |some r,some r'=>some (r && r')
   |_,_=>none
  |_,_=>none
def nJ(P:Program):Nat->TypeId->C->C->Option Bool
 |0,_,_,_=>none
 |d+1,t,x,y=>match P.underlying t,x,y with
  |some (.int _),.v (.int k a),.v (.int k' b)=>if k=k' then some (a == b) else none
  |some .bool,.v (.bool a),.v (.bool b)=>some (a == b)
  |some .string,.v (.string a),.v (.string b)=>match a,b with
   |⟨⟨a⟩⟩,⟨⟨b⟩⟩=>some (a == b)
  |some (.struct fs),.agg xs,.agg ys=>wm P (nJ P d) xs ys fs.toList
  |some (.array len el),.agg xs,.agg ys=>match P.info? el with
   |some i=>Da P (nJ P d el) el i.size xs ys (List.range' 0 len)
   |none=>none
  |_,_,_=>none
def nT(P:Program):Nat->TypeId->Bool
 |0,_=>false
 |d+1,t=>match P.underlying t with
  |some (.struct fs)=>!P.stoodInHeld t && fs.toList.all λf=>nT P d f.type
  |some (.array _ el)=>nT P d el
  |_=>true
section
variable {P:Program} {E:Env}
def wJ{d:Nat}(ih:∀{d'} {t:TypeId} {x y:C} {u v:Value} {b:Bool} (w:World),nT P d t=true->d<=d'->L E x u->L E y v->nJ P d t x y=some b->(Op.equalIn d' t u v).run P w=.ok b w){d':Nat}(hd:d<=d')
 {xs ys:List C}{us vs:Array Value}(hx:LL E xs us.toList)(hy:LL E ys vs.toList)(h1:∀u∈us,u.oneCell'=true)(h2:∀u∈vs,u.oneCell'=true)(w:World):
  ∀(fs:List Field) (b:Bool),(fs.all λf=>nT P d f.type)=true->wm P (nJ P d) xs ys fs=some b->(Op.eqFields d' us vs fs).run P w=.ok b w
 |[],b,_,h=>by simp[wm]at h;subst h;simp[Op.eqFields]
 |f::fs,b,qd,h=>by
  simp only[sZ,pJ]at qd;unfold wm at h;unfold Op.eqFields;by_cases hn : f.name ≠ "_"
  .rw[pD hn]at h|-;split at h
   .rename_i a a' ha ha';split at h
    .rename_i r r' hr hr';cases h
     obtain⟨u,hu,hlu⟩:=BT (w:=w) hx h1 ha;obtain⟨v,hv,hlv⟩:=BT (w:=w) hy h2 ha';have h5:=ih w qd.1 hd hlu hlv hr;have h6:=wJ ih hd hx hy h1 h2 w fs r' qd.2 hr';simp only[Sem.run_bind,hu,hv,h5,Result.andThen_ok];cases r
     .simp
     .simpa using h6
    .cases h
   .cases h
  .rw[pA hn]at h|-;exact wJ ih hd hx hy h1 h2 w fs b qd.2 h
def RY{d:Nat}(ih:∀{d'} {t:TypeId} {x y:C} {u v:Value} {b:Bool} (w:World),nT P d t=true->d<=d'->L E x u->L E y v->nJ P d t x y=some b->(Op.equalIn d' t u v).run P w=.ok b w){d':Nat}(hd:d<=d')
 {xs ys:List C}{us vs:Array Value}(hx:LL E xs us.toList)(hy:LL E ys vs.toList)(h1:∀u∈us,u.oneCell'=true)(h2:∀u∈vs,u.oneCell'=true)(w:World){t el:TypeId}{len:Nat}{i:TypeInfo}
 (ht:P.underlying t=some (.array len el))(hi:P.info? el=some i)(hh:nT P d el=true){b:Bool}(h:Da P (nJ P d el) el i.size xs ys (List.range' 0 len)=some b):
  (Op.equalIn (d'+1) t (.agg us) (.agg vs)).run P w=.ok b w:=by
 simp only[Op.equalIn,Sem.run_bind,run_underlying ht,Result.andThen_ok,qW hi,Std.Legacy.Range.forIn_eq_forIn_range',Std.Legacy.Range.size,sK,Nat.add_sub_cancel,Nat.div_one]
 revert h
 generalize List.range' 0 len=is;intro h
 induction is generalizing b with
 |nil=>simp[Da]at h;subst h;simp
 |cons j is ih2=>
  unfold Da at h;split at h
  .rename_i a a' ha ha';split at h
   .rename_i r r' hr hr';cases h
    obtain⟨u,hu,hlu⟩:=BT (w:=w) hx h1 ha;obtain⟨v,hv,hlv⟩:=BT (w:=w) hy h2 ha';have h5:=ih w hh hd hlu hlv hr;have h6:=ih2 hr';simp only[List.forIn_cons,Sem.run_bind,Sem.run_ite,hu,hv,h5,Result.andThen_ok];cases r
    .simp
    .simpa using h6
   .cases h
  .cases h
def Ef:∀(d:Nat) {d':Nat} {t:TypeId} {x y:C} {u v:Value} {b:Bool} (w:World),nT P d t=true->d<=d'->L E x u->L E y v->nJ P d t x y=some b->(Op.equalIn d' t u v).run P w=.ok b w
 |0,d',t,x,y,u,v,b,w,_,hd,hx,hy,h=>by simp[nJ]at h
 |d+1,d',t,x,y,u,v,b,w,hheld,hd,hx,hy,h=>by
  obtain⟨d'',rfl⟩:∃d'',d'=d''+1:=⟨d'-1,an⟩;unfold nJ at h;split at h
  .rename_i k0 k a k' b' hu;cases hx;cases hy
   split at h
   .rename_i e;subst e;cases h;exact run_equalIn_int w d'' t _ _ _ _ hu
   .cases h
  .rename_i a b' hu;cases hx;cases hy;cases h
   exact run_equalIn_bool' w d'' t _ _ hu
  .rename_i a b' hu;obtain⟨⟨a⟩⟩:=a;obtain⟨⟨b'⟩⟩:=b';cases hx;cases hy;cases h
   have e:((⟨⟨a⟩⟩:ByteArray) == ⟨⟨b'⟩⟩)=(a == b'):=by
    show((⟨a⟩:Array UInt8) == ⟨b'⟩)=(a == b');simp
   simp[Op.equalIn,run_underlying hu,e]
  .rename_i fs xs ys hu;have hf:P.fieldsOf t=fs:=by unfold Program.fieldsOf;rw[hu]
   unfold nT at hheld;rw[hu]at hheld;simp only[pJ,rE]at hheld;cases hx with
   |agg _ us a1 a2 a3=>
    cases hy with
    |agg _ vs b1 b2 b3=>
     rw[run_equalIn_struct w d'' t us vs (by rw[hf];exact hu) hheld.1,hf]
     exact wJ (d:=d) (λ{d'} {t} {x} {y} {u} {v} {b} w h0 h1 h2 h3 h4=>Ef d w h0 h1 h2 h3 h4) an ⟨ai a1,λi c y e1 e2=>a2 i c y e1 uX⟩
      ⟨ai b1,λi c y e1 e2=>b2 i c y e1 uX⟩ a3 b3 w fs.toList b hheld.2 h
  .rename_i len el xs ys hu;unfold nT at hheld;rw[hu]at hheld;dsimp only at hheld;split at h
   .rename_i i hi;cases hx with
    |agg _ us a1 a2 a3=>
     cases hy with
     |agg _ vs b1 b2 b3=>
      exact RY (d:=d) (λ{d'} {t} {x} {y} {u} {v} {b} w h0 h1 h2 h3 h4=>Ef d w h0 h1 h2 h3 h4) an ⟨ai a1,λi c y e1 e2=>a2 i c y e1 uX⟩
       ⟨ai b1,λi c y e1 e2=>b2 i c y e1 uX⟩ a3 b3 w hu hi hheld h
   .cases h
  .cases h
def qA.Eg(op:BinOp)(t t':TypeId)(x y:Operand)(ho:o.op=.binOp op t x y t')(hop:op=.eql\/op=.neq)(hm:P.eqGuardType P.depth t=false)(hheld:nT P 9 t=true){xs ys:List C}(hx:ρ x=.agg xs)(hy:ρ y=.agg ys)
 {b:Bool}(hb:nJ P 9 t (.agg xs) (.agg ys)=some b):qA P o ρ H (.v (.bool (if op=.eql then b else !b))) H:=λw E σ hh hl K hk=>by
 have h0:=hl x uU;have h1:=hl y uU;rw[hx]at h0;rw[hy]at h1;have h2:=Ef (E:=E) (d':=10000) 9 w hheld aj h0 h1 hb;obtain⟨us,hu⟩:∃us,σ x=.agg us:=by generalize σ x=u at *;cases h0;exact⟨_,rfl⟩
 obtain⟨vs,hv⟩:∃vs,σ y=.agg vs:=by generalize σ y=u at *;cases h1;exact⟨_,rfl⟩
 rw[hu,hv]at h2
 have hr:(execOp σ o).run P w=.ok (.value (.bool (if op=.eql then b else !b))) w:=by
  unfold execOp;simp only[ho,hu,hv,Sem.run_bind,run_eqGuard_agg w op t x y us vs hm,Result.andThen_ok];rcases hop with rfl|rfl
  .rw[run_eql_struct,h2];rfl
  .rw[run_neq_struct,h2];rfl
 exact dV
def m9.EO(op:BinOp)(t t':TypeId)(x:Operand)(ho:o.op=.binOp op t x (.const (.slice none 0 0)) t')(hop:op=.eql\/op=.neq)(ht:P.underlying t=some (.slice e))
 (hx:(∃fo sz rows,ρ x=.fq fo sz rows/\rows≠[])\/∃id hops sz lo len full,ρ x=.sl id hops sz lo len full):m9 P o ρ H (.v (.bool (if op=.eql then false else true))) H:=λw E σ hh hl hc K hk=>by
 have h0:=hl x uU
 obtain⟨b,off,len,cap,hv⟩:∃b off len cap,σ x=.slice (some ⟨b,off,none⟩) len cap:=by
  generalize σ x=u at *;rcases hx with⟨fo,sz,rows,h1,h2⟩|⟨id,hops,sz,lo,len,full,h1⟩
  .rw[h1]at h0;cases h0 with
   |fq o sz rows b off cap us ho hc hsz hst hL=>exact⟨_,_,_,_,rfl⟩
   |xA o sz ho a=>exact absurd V h2
  .rw[h1]at h0;cases h0
   exact⟨_,_,_,_,rfl⟩
 have hr:(execOp σ o).run P w=.ok (.value (.bool (if op=.eql then false else true))) w:=by
  unfold execOp;rcases hop with rfl|rfl
  .simp[ho,hv,hc,eqGuard,binOp,run_equal_slice_nil w t e _ len cap ht]
  .simp[ho,hv,hc,eqGuard,binOp,run_equal_slice_nil w t e _ len cap ht]
 rw[hr];exact hk _ w E hh (.v _ V) (Grow.refl w E H)
def jC.Mz(op:BinOp)(t t':TypeId)(x:Operand)(ho:o.op=.binOp op t x (.const (.slice none 0 0)) t')(hop:op=.eql\/op=.neq)(ht:P.underlying t=some (.slice e))
 {fo sz:Nat}(hx:ρ x=.fq fo sz []){R:C->zq->Prop}(h1:R (.v (.bool true)) H)(h2:R (.v (.bool false)) H):jC P o ρ H R:=λw E σ hh hl hc K hk=>by
 have h0:=hl x uU
 obtain⟨a,len,cap,hv⟩:∃a len cap,σ x=.slice a len cap:=by
  generalize σ x=u at *;rw[hx]at h0;cases h0 with
  |fq o sz rows b off cap us ho hc hsz hst hL=>exact⟨_,_,_,rfl⟩
  |xA o sz ho a=>exact⟨_,_,_,rfl⟩
 have hr:∃b,(execOp σ o).run P w=.ok (.value (.bool b)) w:=by
  unfold execOp;rcases hop with rfl|rfl
  .exact⟨a.isNone,bj⟩
  .exact⟨a.isSome,bj⟩
 obtain⟨b,hr⟩:=hr;rw[hr];refine hk _ _ _ w E (?_:R (.v (.bool b)) H) hh (.v _ V) (Grow.refl w E H);cases b
 .exact h2
 .exact h1
def m9.Mv(op:BinOp)(t t':TypeId)(x:Operand)(ho:o.op=.binOp op t x (.const (.pointer none)) t')(hop:op=.eql\/op=.neq)(ht:P.underlying t=some (.pointer (P.pointee t)))(b:Bool)
 (hx:∀E u,L E (ρ x) u->∃a,u=.pointer a/\a.isNone=b):m9 P o ρ H (.v (.bool (if op=.eql then b else !b))) H:=λw E σ hh hl hc K hk=>by
 obtain⟨a,hv,hb⟩:=hx E _ (hl x uU)
 have hr:(execOp σ o).run P w=.ok (.value (.bool (if op=.eql then b else !b))) w:=by
  unfold execOp;rcases hop with rfl|rfl
  .simp[ho,hv,hc,eqGuard,binOp,run_equal_pointer_nil w t a ht,hb]
  .simp[ho,hv,hc,eqGuard,binOp,run_equal_pointer_nil w t a ht,hb]
 rw[hr];exact hk _ w E hh (.v _ V) (Grow.refl w E H)
end
def ij:C->C
 |.gl _ sz rows=>.fq 0 sz rows
 |c=>c
def L.MG(h:L E.shut c y):L E c y:=h.mono E.Cb
def Ar(h:L E c y):L E (ij c) y:=by
 cases h with
 |gl id sz rows y hn hg h=>exact h.MG
 |v x hx=>exact .v _ hx
 |fq o sz rows b off cap us ho hc hsz hst hL=>exact .fq o sz rows b off cap us ho hc hsz hst hL
 |xA o sz ho a=>exact .xA o sz ho a
 |jR cells b off us hst hL=>exact .jR cells b off us hst hL
 |ref id hops sz i k hn=>exact .ref id hops sz i k hn
 |sl id hops sz lo len full cap hn hlen hf hf'=>exact .sl id hops sz lo len full cap hn hlen hf hf'
 |fn f first caps ys zs h1 h2 h3 h4=>exact .fn f first caps ys zs h1 h2 h3 h4
 |mp id hn=>exact .mp id hn
 |agg cs ys h1 h2 h3=>exact .agg cs ys h1 h2 h3
 |fy cs ys h1 h2=>exact .fy cs ys h1 h2
 |un=>exact .un
 |za y=>exact .za y
 |iq t c y h=>exact .iq t c y h
section
variable {P:Program} {o:Oper} {ρ:Operand->C} {H:zq}
def qA.weaken{ρ':Operand->C}(hw:∀x (E:Env) y,L E (ρ x) y->L E (ρ' x) y)(h:qA P o ρ' H c H'):qA P o ρ H c H':=
 λw E σ hh hl K hk=>h w E σ hh (λx hx=>hw x E (σ x) (hl x hx)) K hk
def qA.ij(h:qA P o (λx=>Ab.ij (ρ x)) H c H'):qA P o ρ H c H':=h.weaken λx E y hl=>Ar hl
def fE.ij(h:fE P o (λx=>Ab.ij (ρ x)) H c H'):fE P o ρ H c H':=
 λw E σ hh hl K hk=>h w E σ hh (λx hx=>Ar (hl x hx)) K hk
def fE.E7(h:qA P o ρ H c H')(ob:Ob)(hk:ob.kind≠4)(e:H'=H++[ob]):fE P o ρ H c H':=.Bn h (e ▸ jt.push H ob hk)
def jt.nd(H:zq)(id:Nat)(hops:List fY)(f:List (List C)->List (List C))(h:∀ob,H[id]?=some ob->ob.kind≠4):jt H (nd H id hops f):=
 jt.modify H id _ λob hob=>by
  have:=h ob hob;obtain⟨kind,ty,sz,rows,fz⟩:=ob;exact⟨this,this⟩
def jt.jY(H:zq)(id:Nat)(h:∀ob,H[id]?=some ob->ob.kind≠4):jt H (jY H id):=
 jt.modify H id _ λob hob=>by
  have:=h ob hob;obtain⟨kind,ty,sz,rows,fz⟩:=ob;exact⟨this,λe=>by cases e⟩
def JD{a x:C}(h:vM P H t a x=some H'):jt H H':=by
 unfold vM at h;split at h
 .rename_i id hops sz i k inf _;split at h
  .rename_i sz' rows ob hg hob;split at h
   .split at h
    .cases h
     refine jt.nd H id hops _ λob' h'=>?_
     obtain⟨ob2,h2,h3,_⟩:=qU hg;rw[h2]at h';cases h'
     rcases h3 with e|e <;> rw[e] <;> decide
    .cases h
   .cases h
  .cases h
 .cases h
def wU:C->C
 |.gl _ sz rows=>.fq 0 sz rows
 |.agg cs=>.agg (cs.map ij)
 |c=>c
def GA(h:L E c y):L E (wU c) y:=by
 cases c with
 |gl id sz rows=>exact Ar h
 |agg cs=>
  cases h with
  |agg _ ys h1 h2 h3=>
   refine .agg _ ys uZ ?_ h3;intro i c y e1 e2;rw[pw]at e1;cases hx:cs[i]? with
   |none=>rw[hx]at e1;cases e1
   |some c0=>rw[hx]at e1;cases e1;exact Ar (h2 i c0 y hx e2)
 |_=>exact h
def qa.other{w':World}(h:qa w E H)(hle:E.le E')(hβ:E'.β=E.β)(hn:E'.n=E.n)(hsame:∀b,q6 E H b->w'.heap[b]?=w.heap[b]?)
 (hst:∀b o u,E'.St b o=some u->w'.cell? ⟨b,o,none⟩=some u/\u.oneCell'=true)(hsep:∀b o u,q6 E H b->E'.St b o=some u->E.St b o=some u):qa w' E' H where
 n:=by rw[hn,h.n]
 fH id ob hops sz rows hob hx:=(h.fH id ob hops sz rows hob hx).step hle (by rw[h.n];exact Bp hx) (hsame _ ⟨id,hops,_,hx,rfl⟩)
 inj id hops id' hops' x y hx hy he:=h.inj id hops id' hops' x y hx hy (by rw[hβ]at he;exact he)
 qp:=hst
 sep id hops x o u hx hu:=by
  rw[hβ]at hu;exact h.sep id hops x o u hx (hsep _ o u ⟨id,hops,x,hx,rfl⟩ hu)
 ty id ob hob hk:=by
  obtain⟨cur,hc⟩:=h.ty id ob hob hk;exact⟨cur,by rw[hβ,hsame _ ⟨id,[],_,by unfold qe;rw[hob];simp[hk,qT];rfl,rfl⟩];exact hc⟩
 fz:=h.fz
def wt{id:Nat}(hob:H[id]?=some ob)(hk:ob.kind=4)(hk':ob'.kind=4)(id':Nat)(hops:List fY):qe (H.set id ob') id' hops=qe H id' hops:=by
 unfold qe;rw[pM];by_cases he:id=id'
 .subst he;have ft:=(px.1 hob).1;rw[pD V,pD ft,hob];simp[hk,hk']
 .rw[pA he]
def qa.CD(h:qa w E H){id:Nat}(hob:H[id]?=some ob)(hk:ob.kind=4)(hk':ob'.kind=4)(hf:ob'.fz<=ob'.rows.length):qa w E (H.set id ob') where
 n:=by rw[h.n];simp
 fH id' ob2 hops sz rows hob2 hx:=by
  rw[wt hob hk hk']at hx;obtain⟨ob3,e1,e2,_⟩:=qU hx;have hne:id≠id':=by rintro rfl;rw[hob]at e1;cases e1;rw[hk]at e2;rcases e2 with e|e <;> cases e
  rw[pM,pA hne]at hob2;exact h.fH id' ob2 hops sz rows hob2 hx
 inj id1 p1 id2 p2 x y hx hy he:=h.inj id1 p1 id2 p2 x y (by rw[<-wt hob hk hk'];exact hx) (by rw[<-wt hob hk hk'];exact hy) he
 qp:=h.qp
 sep id' hops x o u hx hu:=by
  rw[wt hob hk hk']at hx;obtain⟨e1,ob2,e2,e3⟩:=h.sep id' hops x o u hx hu;obtain⟨ob3,e4,e5,_⟩:=qU hx;have hne:id≠id':=by rintro rfl;rw[hob]at e4;cases e4;rw[hk]at e5;rcases e5 with e|e <;> cases e
  exact⟨e1,ob2,by rw[pM,pA hne];exact e2,e3⟩
 ty id' ob2 hob2 hk2:=by
  rw[pM]at hob2;split at hob2
  .split at hob2
   .cases hob2;rw[hk']at hk2;cases hk2
   .cases hob2
  .exact h.ty id' ob2 hob2 hk2
 fz id' ob2 hob2:=by
  rw[pM]at hob2;split at hob2
  .split at hob2
   .cases hob2;exact hf
   .cases hob2
  .exact h.fz id' ob2 hob2
def q6.CD{id:Nat}(hob:H[id]?=some ob)(hk:ob.kind=4)(hk':ob'.kind=4)(hβ:E'.β=E.β):q6 E' (H.set id ob') b↔q6 E H b:=by
 unfold q6;constructor
 .rintro⟨i,hops,x,hx,rfl⟩;exact⟨i,hops,x,by rw[<-wt hob hk hk'];exact hx,by rw[hβ]⟩
 .rintro⟨i,hops,x,hx,rfl⟩;exact⟨i,hops,x,by rw[wt hob hk hk'];exact hx,by rw[hβ]⟩
def Env.grown(E:Env)(id nb k n:Nat)(cur:Array Value)(v:Value):Env:=
 {E with St:=λb o=>if b=nb/\o<n then cur[o]? else E.St b o,G:=λi j=>if i=id/\j=k then some v else E.G i j}
def qx.grown{w w':World}{E:Env}{H:zq}(hh:qx w E H){id:Nat}{ob:Ob}(hob:H[id]?=some ob)(hk:ob.kind=4){rows:List (List C)}(ft:ob.rows.length<rows.length)
 {nb cap:Nat}{cur:Array Value}(hos:w'.os=w.os)(htape:w'.tape=w.tape)(hout:w'.output=w.output)(hsize:w.heap.size<=w'.heap.size)
 (hother:∀k,k<w.heap.size->k≠nb->w'.heap[k]?=w.heap[k]?)(hnb:w'.heap[nb]?=some (.cells cur ob.ty (0,0)))(hcs:cur.size=cap*ob.sz)(hcap:rows.length<=cap)
 (hown:qG E H id nb\/w.heap.size<=nb)(hkeep:∀o u,E.St nb o=some u->cur[o]?=some u)(hin:∀o u,E.St nb o=some u->o<rows.length*ob.sz)
 (hone:∀(o:Nat) u,o<rows.length*ob.sz->cur[o]?=some u->u.oneCell'=true):
  qx w' (E.grown id nb rows.length (rows.length*ob.sz) cur (.slice (some ⟨nb,0,none⟩) rows.length cap)) (H.set id ⟨4,ob.ty,ob.sz,rows,0⟩)/\
   Grow w E H w' (E.grown id nb rows.length (rows.length*ob.sz) cur (.slice (some ⟨nb,0,none⟩) rows.length cap)) (H.set id ⟨4,ob.ty,ob.sz,rows,0⟩):=by
 obtain⟨E',hE'⟩:∃E',E'=E.grown id nb rows.length (rows.length*ob.sz) cur (.slice (some ⟨nb,0,none⟩) rows.length cap):=⟨_,rfl⟩;obtain⟨ob',hob'⟩:∃ob':Ob,ob'=⟨4,ob.ty,ob.sz,rows,0⟩:=⟨_,rfl⟩;rw[<-hE',<-hob'];have hid:id<E.n:=by rw[hh.n];exact(px.1 hob).1
 have hk':ob'.kind=4:=by rw[hob']
 have hβ:E'.β=E.β:=by rw[hE'];rfl
 have hn:E'.n=E.n:=by rw[hE'];rfl
 have hSt:∀b o,E'.St b o=if b=nb/\o<rows.length*ob.sz then cur[o]? else E.St b o:=λb o=>by rw[hE'];rfl
 have hG:∀i j,E'.G i j=if i=id/\j=rows.length then some (.slice (some ⟨nb,0,none⟩) rows.length cap) else E.G i j:=λi j=>by rw[hE'];rfl
 have hno0:¬q6 E H nb:=λhc=>by
  rcases hown with h1|h1
  .exact hh.fA.sep id nb h1 hc
  .obtain⟨i,hops,x,hx,e⟩:=hc;have:=hh.base.lt hx;omega
 have hle:E.le E':=by
  refine⟨by rw[hn];exact pN _,λi hops _=>by rw[hβ],λi hops _=>by rw[hE'];rfl,?_,?_⟩
  .intro b o u hu;rw[hSt];split
   .rename_i h;obtain⟨rfl,h⟩:=h;exact hkeep o u hu
   .exact hu
  .intro i k u _ hu;rw[hG];split
   .rename_i h;obtain⟨rfl,rfl⟩:=h;have:=hh.fA.top _ ob _ u hob hk hu;omega
   .exact hu
 have hStN:∀b o u,E'.St b o=some u->E.St b o=some u\/(b=nb/\o<rows.length*ob.sz/\cur[o]?=some u):=by
  intro b o u hu;rw[hSt]at hu;split at hu
  .rename_i h;exact .inr ⟨h.1,h.2,hu⟩
  .exact .inl hu
 have hgetS:∀i,i≠id->(H.set id ob')[i]?=H[i]?:=λi hi=>by rw[pM,pA (Ne.symm hi)]
 have hgetI:(H.set id ob')[id]?=some ob':=by rw[pM,pD V,pD (px.1 hob).1]
 have hGo:∀i b,i≠id->(qG E' (H.set id ob') i b↔qG E H i b):=by
  intro i b hi;unfold qG;rw[hgetS i hi];constructor
  .rintro⟨ob2,c2,h1,h2,h3,h4⟩;rw[hG,pA (λh=>hi h.1)]at h3;exact⟨ob2,c2,h1,h2,h3,h4⟩
  .rintro⟨ob2,c2,h1,h2,h3,h4⟩;exact⟨ob2,c2,h1,h2,by rw[hG,pA (λh=>hi h.1)];exact h3,h4⟩
 have hGi:∀b,qG E' (H.set id ob') id b->b=nb:=by
  rintro b ⟨ob2,c2,h1,h2,h3,h4⟩;rw[hgetI]at h1;simp only[rh]at h1;subst h1;rw[hG,pD ⟨rfl,by rw[hob']⟩]at h3;simp only[rh,Value.slice.injEq,Addr.mk.injEq]at h3;exact h3.1.1.symm
 have hne:∀i b,i≠id->qG E H i b->b≠nb:=by
  intro i b hi hg he;subst he;rcases hown with h1|h1
  .exact hi (hh.fA.inj i id b hg h1)
  .obtain⟨ob2,c1,e1,e2⟩:=hg;obtain⟨cur2,c2,_,e3,_⟩:=hh.fA.fH i b ob2 ⟨ob2,c1,e1,e2⟩ e1;have:=(pP.1 e3).1;omega
 have hlt2:∀i b,qG E H i b->b<w.heap.size:=by
  intro i b hg;obtain⟨ob2,c2,e1,e2⟩:=(hg:qG E H i b);have hg:qG E H i b:=⟨ob2,c2,e1,e2⟩;obtain⟨cur2,c2,_,e3,_⟩:=hh.fA.fH i b ob2 hg e1;exact(pP.1 e3).1
 have hR:qa w' E' (H.set id ob'):=by
  refine qa.CD (hh.base.other hle hβ hn ?_ ?_ ?_) hob hk hk' (by rw[hob'];exact pW _)
  .rintro b ⟨i,hops,x,hx,rfl⟩;refine hother _ (hh.base.lt hx) λhe=>hno0 ?_
   rw[<-he];exact⟨i,hops,x,hx,rfl⟩
  .intro b o u hu;rcases hStN b o u hu with h1|⟨rfl,h2,h3⟩
   .obtain⟨h4,h5⟩:=hh.base.qp b o u h1;refine⟨?_,h5⟩;by_cases hb:b=nb
    .subst hb;unfold World.cell?;rw[hnb];simpa using hkeep o u h1
    .unfold World.cell? at h4|-;rw[hother b (Cj (hh.base.qp b o u h1).1) hb];exact h4
   .exact⟨by unfold World.cell?;rw[hnb];simpa using h3,hone o u h2 h3⟩
  .intro b o u hb hu;rcases hStN b o u hu with h1|⟨rfl,h2,h3⟩
   .exact h1
   .exact absurd hb hno0
 have hrne:∀b o,w.heap[b]?=some o->De o=true->b≠nb:=by
  rintro b o hb hf rfl;rcases hown with h1|h1
  .obtain⟨ob2,c1,e1,e2⟩:=h1;obtain⟨cur2,c2,_,e3,_⟩:=hh.fA.fH id b ob2 ⟨ob2,c1,e1,e2⟩ e1;rw[hb]at e3;cases e3
   cases hf
  .have:=(pP.1 hb).1;omega
 have hrb:∀i b,jz (H.set id ob') i b->jz H i b:=by
  rintro i b ⟨ob2,r,t,h1,h2,h3,h4⟩;by_cases hi:i=id
  .subst hi;rw[hgetI]at h1;cases h1
   exact absurd h3.2 (by rw[hob'];simp)
  .rw[hgetS i hi]at h1;exact⟨ob2,r,t,h1,h2,h3,h4⟩
 refine⟨⟨hR,?_,?_,?_,?_,?_,?_,?_,λi j b h1 h2=>hh.fA.wZ i j b (hrb i b h1) (hrb j b h2)⟩,⟨hle,hos,htape,hout,hsize,?_,?_,?_⟩⟩
 .intro i ob2 h1 h2;by_cases hi:i=id
  .subst hi;rw[hgetI]at h1;cases h1
   refine⟨some ⟨nb,0,none⟩,cap,?_,.inr ⟨nb,rfl,?_⟩⟩
   .rw[hG,pD ⟨rfl,by rw[hob']⟩,hob']
   .rw[hob'];exact hcap
  .rw[hgetS i hi]at h1;rw[hG,pA (λh=>hi h.1)];exact hh.fA.val i ob2 h1 h2
 .intro i b ob2 h1 h2;by_cases hi:i=id
  .subst hi;obtain rfl:=hGi b h1;rw[hgetI]at h2;cases h2
   refine⟨cur,cap,?_,?_,?_⟩
   .rw[hG,pD ⟨rfl,by rw[hob']⟩,hob']
   .rw[hob'];exact hnb
   .rw[hob'];exact hcs
  .have h1':=(hGo i b hi).1 h1;rw[hgetS i hi]at h2;obtain⟨cur2,c2,e1,e2,e3⟩:=hh.fA.fH i b ob2 h1' h2;refine⟨cur2,c2,?_,?_,e3⟩
   .rw[hG,pA (λh=>hi h.1)];exact e1
   .rw[hother b (hlt2 i b h1') (hne i b hi h1')];exact e2
 .intro i b h1 h2;rw[q6.CD hob hk hk' hβ]at h2;by_cases hi:i=id
  .subst hi;obtain rfl:=hGi b h1;exact hno0 h2
  .exact hh.fA.sep i b ((hGo i b hi).1 h1) h2
 .intro i j b h1 h2;by_cases hi:i=id
  .by_cases hj:j=id
   .rw[hi,hj]
   .subst hi;have:=hGi b h1;exact absurd this (hne j b hj ((hGo j b hj).1 h2))
  .by_cases hj:j=id
   .subst hj;have:=hGi b h2;exact absurd this (hne i b hi ((hGo i b hi).1 h1))
   .exact hh.fA.inj i j b ((hGo i b hi).1 h1) ((hGo j b hj).1 h2)
 .intro i b ob2 o u h1 h2 h3;by_cases hi:i=id
  .subst hi;obtain rfl:=hGi b h1;rw[hgetI]at h2;cases h2
   rw[hob'];rcases hStN b o u h3 with h4|⟨_,h4,_⟩
   .exact hin o u h4
   .exact h4
  .have h1':=(hGo i b hi).1 h1;rw[hgetS i hi]at h2;rcases hStN b o u h3 with h4|⟨h4,_⟩
   .exact hh.fA.st i b ob2 o u h1' h2 h4
   .exact absurd h4 (hne i b hi h1')
 .intro i ob2 k u h1 h2 h3;by_cases hi:i=id
  .subst hi;rw[hgetI]at h1;cases h1
   rw[hob'];rw[hG]at h3;split at h3
   .rename_i h;rw[h.2];exact pN _
   .have:=hh.fA.top i ob k u hob hk h3;show k<=rows.length;omega
  .rw[hgetS i hi]at h1;rw[hG,pA (λh=>hi h.1)]at h3;exact hh.fA.top i ob2 k u h1 h2 h3
 .intro i ob2 r t h1 h2 h3;by_cases hi:i=id
  .subst hi;rw[hgetI]at h1;cases h1
   exact absurd h3.2 (by rw[hob'];simp)
  .rw[hgetS i hi]at h1;obtain⟨⟨e,hf⟩,hl⟩:=hh.fA.iK i ob2 r t h1 h2 h3;refine⟨⟨?_,hf⟩,hl.mono hle⟩;rw[hother _ (pP.1 e).1 (hrne _ r e hf)];exact e
 .intro k h1 h2;refine hother k h1 ?_;rintro rfl;rcases hown with h3|h3
  .exact h2 (.inr ⟨id,.inl h3⟩)
  .omega
 .intro b o u hu;rcases hStN b o u hu with h4|⟨rfl,h4,_⟩
  .exact .inl h4
  .exact hown.elim (λh=>.inr (.inr (.inr ⟨id,.inl h⟩))) (λh=>.inr (.inl h))
 .rintro b (hb|⟨i,hb|hb⟩)
  .rw[q6.CD hob hk hk' hβ]at hb;exact .inr (.inl hb)
  .by_cases hi:i=id
   .subst hi;obtain rfl:=hGi b hb;exact hown.elim (λh=>.inr (.inr ⟨i,.inl h⟩)) .inl
   .exact .inr (.inr ⟨i,.inl ((hGo i b hi).1 hb)⟩)
  .exact .inr (.inr ⟨i,.inr (hrb i b hb)⟩)
def Wb{id nb k cap:Nat}(hid:id<E.n)(hr:vd E sz rows vals)(htake:cur.toList.take vals.length=vals)(hcap:rows.length<=cap)
 (hle:E.le (E.grown id nb rows.length (rows.length*sz) cur (.slice (some ⟨nb,0,none⟩) rows.length cap))):
  L (E.grown id nb rows.length (rows.length*sz) cur (.slice (some ⟨nb,0,none⟩) rows.length cap)) (.gl id sz rows) (.slice (some ⟨nb,0,none⟩) rows.length cap):=by
 obtain⟨E',hE'⟩:∃E',E'=E.grown id nb rows.length (rows.length*sz) cur (.slice (some ⟨nb,0,none⟩) rows.length cap):=⟨_,rfl⟩;rw[<-hE']at hle|-
 have hSt:∀o u,o<rows.length*sz->cur[o]?=some u->E'.St nb o=some u:=λo u h1 h2=>by
  rw[hE'];show(if nb=nb/\o<rows.length*sz then cur[o]? else _)=some u;rw[pD ⟨rfl,h1⟩];exact h2
 have cell:∀i r k c,rows[i]?=some r->r[k]?=some c->∃u,cur[i*sz+k]?=some u/\i*sz+k<rows.length*sz/\L E.shut c u:=by
  intro i r k c h1 h2;have hc:cellAt rows i k=some c:=by unfold cellAt;rw[h1];exact h2
  obtain⟨u,hu,hl⟩:=hr.cell i k c hc;have ft:=(px.1 hu).1;refine⟨u,?_,by rw[<-hr.len];exact ft,hl⟩;rw[<-htake,pZ,pD ft]at hu;simpa using hu
 refine .gl id sz rows _ ?_ ?_ ?_
 .rw[hE'];exact hid
 .rw[hE'];show(if id=id/\rows.length=rows.length then _ else _)=_;rw[pD ⟨rfl,rfl⟩]
 .refine .fq (E:=E'.shut) 0 sz rows nb 0 cap (λi k=>(cur[i*sz+k]?).getD undef) (.inl V) hcap hr.row ?_ ?_
  .intro i r k c h1 h2;obtain⟨u,hu,ft,_⟩:=cell i r k c h1 h2;rw[pK,hu];exact hSt _ u ft hu
  .intro i r k c h1 h2;obtain⟨u,hu,_,hl⟩:=cell i r k c h1 h2;rw[hu];exact hl.mono hle.shut
def fE.Up(cl:Call)(ho:o.op=.call cl)(x y:Operand)(ht:oP P cl x y e i z){id:Nat}(hx:ρ x=.gl id i.size rows)(hob:H[id]?=some ob)
 (hkd:ob.kind=4)(hty:ob.ty=e)(hsz:ob.sz=i.size)(hn:ob.rows.length=rows.length)
 {rows':List (List C)}(hy:xz H (Ab.ij (ρ y))=some (i.size,rows'))(hne:rows'≠[])(hm:rows.length+rows'.length<=maxLen)(hb:(rows.length+rows'.length)*i.bytes<=140737488355328):
  fE P o ρ H (.gl id i.size (rows++rows')) (H.set id ⟨4,e,i.size,rows++rows',0⟩):=λw E σ hh hl K hk=>by
 have h0:=hl x uV;have h1:=Ar (hl y uV);obtain⟨t,hu,hexec⟩:=vi ho ht σ w;have hpos:0<rows'.length:=tz.2 hne;have hsmall:rows.length+rows'.length<=9223372036854775807:=aV
 rcases xJ hh.base h1 hy with⟨e1,_⟩|⟨a,cap,vals,e1,_,hrows,hmem⟩
 .exact absurd e1 hne
 rw[hx]at h0
 obtain⟨hid,hg,hlst⟩:id<E.n/\E.G id rows.length=some (σ x)/\L E.shut (.fq 0 i.size rows) (σ x):=by
  generalize σ x=u at h0|-;cases h0 with
  |gl id sz rows y hn hg h=>exact⟨hn,hg,h⟩
 obtain⟨a0,cap0,g1,g2⟩:=hh.fA.val id ob hob hkd;rw[hn]at g1 g2;rw[hg]at g1;have hxv:σ x=.slice a0 rows.length cap0:=ai g1
 rw[hxv]at hg;have hrx:xz H (.fq 0 i.size rows)=some (i.size,rows):=by simp[xz]
 have hz:=ht.E9;have hlen:(rows++rows').length=rows.length+rows'.length:=rB
 have fin:∀(w':World) (olds:List Value) (nb cap':Nat) (cur':Array Value),vd E i.size rows olds->w'.os=w.os->w'.tape=w.tape->w'.output=w.output->w.heap.size<=w'.heap.size->
   (∀k,k<w.heap.size->k≠nb->w'.heap[k]?=w.heap[k]?)->w'.heap[nb]?=some (.cells cur' e (0,0))->cur'.size=cap'*i.size->rows.length+rows'.length<=cap'->
   (qG E H id nb\/w.heap.size<=nb)->(∀o u,E.St nb o=some u->cur'[o]?=some u)->(∀o u,E.St nb o=some u->o<rows.length*i.size)->cur'.toList.take (olds++vals).length=olds++vals->
   (Builtin.append_ #[t,t] o.type #[σ x,σ y]).run P w=.ok (.slice (some ⟨nb,0,none⟩) (rows.length+rows'.length) cap') w'->nr P K ((execOp σ o).run P w):=by
  intro w' olds nb cap' cur' hro hos htape hout hsize hother hnb hcs hcap hown hkeep hin htake hr;rw[hexec _ _ hr];have qd:=hro.append hrows
  have hG:=hh.grown hob hkd (rows:=rows++rows') (w':=w') (nb:=nb) (cap:=cap') (cur:=cur') (by rw[hn,hlen];omega) hos htape hout hsize hother (by rw[hty];exact hnb) (by rw[hsz];exact hcs) (by rw[hlen];exact hcap) hown hkeep
   (λo u hu=>by rw[hsz,hlen];exact rG (hin o u hu) (rz _ an))
   (λo u h2 h3=>by
    have ft:o<(olds++vals).length:=by rw[qd.len,<-hsz];exact h2
    refine qd.one u ?_;rw[<-htake];refine pE (i:=o) ?_;rw[pZ,pD ft];simpa using h3)
  have hL:=Wb (E:=E) (id:=id) (nb:=nb) (k:=0) (cap:=cap') (cur:=cur') hid qd htake (by rw[hlen];exact hcap) (by rw[<-hsz];exact hG.2.le);rw[hsz,hty]at hG;rw[hlen]at hG hL;exact hk _ _ _ hG.1 hL hG.2
 have anew:∀olds,vd E i.size rows olds->(Builtin.append_ #[t,t] o.type #[σ x,σ y]).run P w=.ok (.slice (some ⟨w.heap.size,0,none⟩) (rows.length+rows'.length) (grownCap w (rows.length+rows'.length) cap0 e))
   (w.drew.alloc (.cells ((olds++vals).toArray++Builtin.zeroCells z.cells (grownCap w (rows.length+rows'.length) cap0 e-(rows.length+rows'.length))) e))->nr P K ((execOp σ o).run P w):=by
  intro olds hro hr;have qd:=hro.append hrows;obtain⟨cap',hcap2⟩:∃cap',cap'=grownCap w (rows.length+rows'.length) cap0 e:=⟨_,rfl⟩;have hge:rows.length+rows'.length<=cap':=aY
  rw[<-hcap2]at hr
  have hnone:∀o u,E.St w.heap.size o=some u->False:=λo u hu=>by
   have:=Cj (hh.base.qp _ o u hu).1;omega
  refine fin (w.drew.alloc (.cells ((olds++vals).toArray++Builtin.zeroCells z.cells (cap'-(rows.length+rows'.length))) e)) olds w.heap.size cap' ((olds++vals).toArray++Builtin.zeroCells z.cells (cap'-(rows.length+rows'.length))) hro V V V ?_ ?_ ?_ ?_ hge (.inr (pN _)) (λo u hu=>(hnone o u hu).elim) (λo u hu=>(hnone o u hu).elim) ?_ hr
  .show _<=(w.heap.push _).size;simp
  .exactλk hk _=>heap_alloc_old w.drew _ hk
  .exact heap_alloc_new w.drew _
  .have h2:(olds++vals).length=(rows.length+rows'.length)*i.size:=by rw[qd.len,rB]
   simp only[eu,ue,size_zeroCells,hz];rw[h2,<-rP]
   congr 1
   omega
  .rw[uz];exact ef
 rcases xJ hh.base hlst.MG hrx with⟨e2,e3⟩|⟨b,cap',olds,e3,hcap',hro,hmo⟩
 .subst e2;have hro:vd E i.size [] []:=⟨ah,ah,by simp[cellAt],ah⟩;have hc0:cap0=0:=by rw[hxv]at e3;cases e3;rfl
  have hr:=run_append_nil (P:=P) w t o.type e i z hu ht.info ht.zero a rows'.length cap vals hrows.len hmem hpos (by simp at hsmall;omega) (by simp at hb;omega);rw[<-e3,<-e1]at hr;refine anew [] hro ?_;subst hc0;simpa using hr
 .rw[hxv]at e3;cases e3
  by_cases hroom:rows.length+rows'.length<=cap0
  ·
   have hcn:cap0≠rows.length:=an
   obtain⟨nb,hb2,_⟩:∃nb,(some b:Option Addr)=some ⟨nb,0,none⟩/\rows.length<=cap0:=by
    rcases g2 with h2|h2
    .exact absurd h2 hcn
    .exact h2
   cases hb2
   have hown:qG E H id nb:=⟨ob,cap0,hob,hkd,by rw[hn];exact hg,by rw[hn];exact hcn⟩;obtain⟨cur,cap2,f1,hgb,hcs⟩:=hh.fA.fH id nb ob hown hob;rw[hn,hg]at f1;cases f1
   rw[hty]at hgb;rw[hsz]at hcs;have hfit:rows.length*i.size+vals.length<=cur.size:=aX
   have hr:=run_append_room (P:=P) w t o.type e i hu ht.info nb rows.length cap0 cur hgb a rows'.length cap vals hrows.len hmem hrows.one hroom hfit;rw[<-hxv,<-e1]at hr;obtain⟨cur',hcur'⟩:∃cur',cur'=(cur.toList.take (rows.length*i.size)++vals++cur.toList.drop (rows.length*i.size+vals.length)).toArray:=⟨_,rfl⟩;rw[<-hcur']at hr;have hlo:rows.length*i.size=olds.length:=hro.len.symm;have hbl:nb<w.heap.size:=(pP.1 hgb).1
   have holds:cur.toList.take olds.length=olds:=by
    apply rL
    intro j;rw[pZ];split
    .rename_i hj;have h3:=hmo j olds[j] (by simp[hj]);rw[xa]at h3;unfold World.cell? at h3;rw[hgb]at h3;simp at h3;simp[hj,h3]
    .rename_i hj;rw[rQ an]
   refine fin (w.setRow nb cur') olds nb cap0 cur' hro V V V (by simp[World.setRow]) ?_ ?_ ?_ hroom (.inl hown) ?_ ?_ ?_ hr
   .intro k hk' hne';simp[World.setRow,ti,Ne.symm hne']
   .simp[World.setRow,ti,hgb]
   .rw[<-hcs,hcur'];simp;omega
   .intro o' u hu';have h7:=hh.fA.st id nb ob o' u hown hob hu';rw[hn,hsz]at h7;have hst:=(hh.base.qp _ _ _ hu').1;unfold World.cell? at hst;rw[hgb]at hst;simp at hst;rw[hcur'];simp only[s9];rw[sa,pI ar,pZ,pD h7,rm];exact hst
   .intro o' u hu';have h7:=hh.fA.st id nb ob o' u hown hob hu';rw[hn,hsz]at h7;exact h7
   .rw[hcur',hlo,holds];exact ef
  ·
   have hr:=run_append_grow (P:=P) w t o.type e i z hu ht.info ht.zero b rows.length cap0 olds hro.len hmo a rows'.length cap vals hrows.len hmem an an (growslice_fits an hb);rw[<-hxv,<-e1]at hr;refine anew olds hro ?_;simpa using hr
end
section
variable {B:Nat} {s:S}
def qa.LV(hh:qa w E H)(ob:Ob)(h1:ob.kind≠1)(h2:ob.kind≠2)(hf:ob.fz<=ob.rows.length)(G:Nat->Nat->Option Value)(hG:∀id k,id<E.n->G id k=E.G id k):
  qa w {E.push 0 0 with G:=G} (H++[ob])/\qn w E H w {E.push 0 0 with G:=G} (H++[ob]):=by
 obtain⟨E',hE'⟩:∃E':Env,E'={E.push 0 0 with G:=G}:=⟨_,rfl⟩;rw[<-hE']
 have hle:E.le E':=by
  have:=E.Ex 0 0;subst hE';exact⟨this.n,this.β,this.κ,this.St,λid k u hi hu=>by show G id k=some u;rw[hG id k hi];exact hu⟩
 have hold:∀id hops,id<H.length->E'.β id hops=E.β id hops:=λid hops ft=>hle.β id hops aU
 have hn':E'.n=E.n+1:=by rw[hE'];rfl
 have hSt:E'.St=E.St:=by rw[hE'];rfl
 have get:∀id hops x,qe (H++[ob]) id hops=some x->id<H.length/\qe H id hops=some x:=by
  intro id hops x hx;by_cases ft:id<H.length
  .exact⟨ft,by rw[kE ft]at hx;exact hx⟩
  .obtain⟨ob1,ho,hk,hg⟩:=qU hx;rw[pR an]at ho
   have:id-H.length=0:=by
    exact gH
   rw[this]at ho;cases ho
   exact absurd hk (by rintro(h|h) <;> contradiction)
 have last:∀id ob1,(H++[ob])[id]?=some ob1->(id<H.length/\H[id]?=some ob1)\/(id=H.length/\ob1=ob):=by
  intro id ob1 ho;by_cases ft:id<H.length
  .rw[pI ft]at ho;exact .inl ⟨ft,ho⟩
  .rw[pR an]at ho
   have:id-H.length=0:=by
    exact gH
   rw[this]at ho;cases ho
   exact .inr ⟨an,rfl⟩
 refine⟨⟨by rw[hn',hh.n];simp,?_,?_,?_,?_,?_,?_⟩,⟨hle,λid k hi=>by subst hE';exact hG id k hi,rfl,rfl,rfl,pN _,λ_ _ _=>V,λb o u hu=>.inl (by rw[hSt]at hu;exact hu),?_⟩⟩
 .intro id ob1 hops sz' rows' hob hx;obtain⟨ft,hx'⟩:=get id hops _ hx;rw[pI ft]at hob;exact(hh.fH id ob1 hops sz' rows' hob hx').step hle aU V
 .intro id hops id' hops' x y hx hy he;obtain⟨h1,hx'⟩:=get id hops _ hx;obtain⟨h2,hy'⟩:=get id' hops' _ hy;rw[hold id hops h1,hold id' hops' h2]at he;exact hh.inj id hops id' hops' x y hx' hy' he
 .rw[hSt];exact hh.qp
 .intro id hops x o u hx hu;obtain⟨h1,hx'⟩:=get id hops _ hx;rw[hold id hops h1,hSt]at hu;obtain⟨e1,ob1,e2,e3⟩:=hh.sep id hops x o u hx' hu;exact⟨e1,ob1,by rw[pI h1];exact e2,e3⟩
 .intro id ob1 hob hk;rcases last id ob1 hob with⟨ft,ho⟩|⟨_,rfl⟩
  .rw[hold id [] ft];exact hh.ty id ob1 ho hk
  .exact absurd hk h2
 .intro id ob1 hob;rcases last id ob1 hob with⟨ft,ho⟩|⟨_,rfl⟩
  .exact hh.fz id ob1 ho
  .exact hf
 .rintro b ⟨id,hops,x,hx,rfl⟩;obtain⟨h1,hx'⟩:=get id hops _ hx;exact .inr ⟨id,hops,x,hx',by rw[hold id hops h1]⟩
def zl.grow(t:Nat)(ty:TypeId)(sz':Nat)(ht:s.tmps[t]?=some (.fq 1 sz rows))(hz:rows=[]\/sz'=sz):
  zl B s ⟨s.tmps.set t (.gl s.H.length sz' rows),s.H++[⟨4,ty,sz',rows,0⟩]⟩:=λm w E a hs=>by
 obtain⟨y,hy,hl⟩:=hs.tmps.get ht
 have hl0:L E.shut (.fq 1 sz' rows) y:=by
  have h1:=hl.kn V;rcases hz with rfl|rfl
  .exact WC.none 1 sz sz' E.shut y h1
  .exact h1
 have hfull:∃a,y=.slice a rows.length rows.length:=by
  cases hl0 with
  |fq o sz rows b off cap us ho hc hsz hst hL=>rcases ho with h|⟨_,h⟩;cases h;subst h;exact⟨_,rfl⟩
  |xA o sz ho a=>exact⟨a,rfl⟩
 have hl1:L E.shut (.fq 0 sz' rows) y:=WC.share 1 sz' rows E.shut y hl0;obtain⟨av,rfl⟩:=hfull;obtain⟨G,hGd⟩:∃G:Nat->Nat->Option Value,G=λi k=>if i=E.n then (if k=rows.length then some (.slice av rows.length rows.length) else none) else E.G i k:=⟨_,rfl⟩
 have hG:∀id k,id<E.n->G id k=E.G id k:=λid k hi=>by rw[hGd];simp[ui hi]
 obtain⟨hR,hg⟩:=hs.heap.base.LV ⟨4,ty,sz',rows,0⟩ (λh=>by cases h) (λh=>by cases h) (pW _) G hG;obtain⟨E',hE'⟩:∃E':Env,E'={E.push 0 0 with G:=G}:=⟨_,rfl⟩;rw[<-hE']at hR hg;have hn:=hs.heap.n;have hG':∀i k,E'.G i k=if i=E.n then (if k=rows.length then some (.slice av rows.length rows.length) else none) else E.G i k:=λi k=>by rw[hE',hGd]
 have last:∀id ob1,(s.H++[⟨4,ty,sz',rows,0⟩])[id]?=some ob1->(id<s.H.length/\s.H[id]?=some ob1)\/(id=s.H.length/\ob1=⟨4,ty,sz',rows,0⟩):=by
  intro id ob1 ho;by_cases ft:id<s.H.length
  .rw[pI ft]at ho;exact .inl ⟨ft,ho⟩
  .rw[pR an]at ho
   have:id-s.H.length=0:=by
    exact gH
   rw[this]at ho;cases ho
   exact .inr ⟨an,rfl⟩
 have back:∀i b,qG E' (s.H++[⟨4,ty,sz',rows,0⟩]) i b->qG E s.H i b:=by
  rintro i b ⟨ob,cap,h1,h2,h3,h4⟩;rcases last i ob h1 with⟨ft,ho⟩|⟨rfl,rfl⟩
  .refine⟨ob,cap,ho,h2,?_,h4⟩;rw[hG',pA an]at h3;exact h3
  .rw[hG',pD hn.symm,pD V]at h3;simp only[rh,Value.slice.injEq]at h3;exact absurd h3.2.2.symm h4
 have rback:∀i b,jz (s.H++[⟨4,ty,sz',rows,0⟩]) i b->jz s.H i b:=by
  rintro i b ⟨ob,r,t,h1,h2,h3,h4⟩;rcases last i ob h1 with⟨ft,ho⟩|⟨rfl,rfl⟩
  .exact⟨ob,r,t,ho,h2,h3,h4⟩
  .exact absurd h3.2 ah
 have hGro:mN w E' (s.H++[⟨4,ty,sz',rows,0⟩]):=by
  refine⟨?_,?_,?_,λi j b h1 h2=>hs.heap.fA.inj i j b (back i b h1) (back j b h2),?_,?_,?_,λi j b h1 h2=>hs.heap.fA.wZ i j b (rback i b h1) (rback j b h2)⟩
  .intro i ob h1 h2;rcases last i ob h1 with⟨ft,ho⟩|⟨rfl,rfl⟩
   .rw[hG',pA an];exact hs.heap.fA.val i ob ho h2
   .exact⟨av,rows.length,by rw[hG',pD hn.symm,pD V],.inl V⟩
  .intro i b ob h1 h2;have h1':=back i b h1;have ft:i<s.H.length:=by obtain⟨ob2,_,e,_⟩:=h1';exact(px.1 e).1
   rw[pI ft]at h2;rw[hG',pA an];exact hs.heap.fA.fH i b ob h1' h2
  .intro i b h1 h2;rcases hg.own b h2 with h3|h3
   .have h1':=back i b h1;obtain⟨ob2,c2,e1,e2⟩:=h1';obtain⟨_,_,_,e3,_⟩:=hs.heap.fA.fH i b ob2 ⟨ob2,c2,e1,e2⟩ e1;have:=(pP.1 e3).1;omega
   .exact hs.heap.fA.sep i b (back i b h1) h3
  .intro i b ob o u h1 h2 h3;have h1':=back i b h1;have ft:i<s.H.length:=by obtain⟨ob2,_,e,_⟩:=h1';exact(px.1 e).1
   rw[pI ft]at h2;exact hs.heap.fA.st i b ob o u h1' h2 (by rw[hE']at h3;exact h3)
  .intro i ob k u h1 h2 h3;rcases last i ob h1 with⟨ft,ho⟩|⟨rfl,rfl⟩
   .rw[hG',pA an]at h3;exact hs.heap.fA.top i ob k u ho h2 h3
   .rw[hG',pD hn.symm]at h3;split at h3
    .rename_i e;rw[e];exact pN _
    .cases h3
  .intro i ob r t h1 h2 h3;rcases last i ob h1 with⟨ft,ho⟩|⟨rfl,rfl⟩
   .obtain⟨p1,p2⟩:=hs.heap.fA.iK i ob r t ho h2 h3;exact⟨p1,p2.mono hg.le⟩
   .exact absurd h3.2 ah
 have hGrow:Grow w E s.H w E' (s.H++[⟨4,ty,sz',rows,0⟩]):=
  ⟨hg.le,rfl,rfl,rfl,pN _,λ_ _ _=>V,λb o u hu=>(hg.jB b o u hu).imp_right λh=>h.imp_right .inl,λb hb=>by
   rcases hb with hb|⟨i,hb|hb⟩
   .exact(hg.own b hb).imp_right .inl
   .exact .inr (.inr ⟨i,.inl (back i b hb)⟩)
   .exact .inr (.inr ⟨i,.inr (rback i b hb)⟩)⟩
 refine⟨E',⟨⟨hR,hGro⟩,?_,hs.defers,ay⟩,hGrow.iW (by rw[hn];exact hs.base)⟩
 have hnl:L E' (.gl s.H.length sz' rows) (.slice av rows.length rows.length):=by
  refine .gl _ _ _ _ (by rw[hE'];show _<E.n+1;omega) (by rw[hG',pD hn.symm,pD V]) (hl1.mono hg.le.shut)
 have:=(hs.tmps.mono hg.le).set hnl t
 rw[show a.tmps.toList.set t (.slice av rows.length rows.length)=a.tmps.toList from by
  apply rL
  intro j;rw[pM];split
  .rename_i e;subst e;rw[hy,pD (px.1 hy).1]
  .rfl]at this
 exact gI
def xN(n:Nat):Nat->C->C
 |0,_=>.za
 |k+1,c=>match c with
  |.gl _ sz rows=>.fq 0 sz rows
  |.agg cs=>.agg (cs.map (xN n k))
  |.fy cs=>.fy (cs.map (xN n k))
  |.fn f first caps=>.fn f (first.map (xN n k)) (caps.map (xN n k))
  |.iq t c=>.iq t (xN n k c)
  |.rc r=>.rc r
  |.ref id hops sz i j=>if Nat.blt id n then .ref id hops sz i j else .za
  |.sl id hops sz lo len full=>if Nat.blt id n then .sl id hops sz lo len full else .za
  |.mp id=>if Nat.blt id n then .mp id else .za
  |.v x=>.v x
  |.fq o sz rows=>.fq o sz rows
  |.jR cells=>.jR cells
  |.un=>.un
  |.za=>.za
def LL.of_map{f:C->C}{ys:List Value}(h:LL E cs ys)(hf:∀c y,L E c y->L E' (f c) y):LL E' (cs.map f) ys:=
 ⟨ai h.1,λi c y e1 e2=>by
  rw[pw]at e1;cases hx:cs[i]? with
  |none=>rw[hx]at e1;cases e1
  |some c0=>rw[hx]at e1;cases e1;exact hf c0 y (h.2 i c0 y hx e2)⟩
def L.low(n:Nat):∀(k:Nat) {c:C} {y:Value},L E c y->L (E.cut n) (xN n k c) y:=by
 intro k
 induction k with
 |zero=>intro c y h;exact .za y
 |succ k ih=>
  intro c y h;have hs:E.shut.le (E.cut n):=⟨pW _,λid hops hi=>absurd hi (rA _),λid hops hi=>absurd hi (rA _),λb o u hu=>hu,λid _ _ hi=>absurd hi (rA _)⟩;cases h with
  |gl id sz rows y hn hg h=>exact h.mono hs
  |v x hx=>exact .v _ hx
  |fq o sz rows b off cap us ho hc hsz hst hL=>exact(L.fq (E:=E) o sz rows b off cap us ho hc hsz hst hL).kn V |>.mono hs
  |xA o sz ho a=>exact .xA o sz ho a
  |jR cells b off us hst hL=>exact(L.jR (E:=E) cells b off us hst hL).kn V |>.mono hs
  |ref id hops sz i j hn=>
   unfold xN;dsimp only;split
   .rename_i h;exact .ref (E:=E.cut n) id hops sz i j bm
   .exact .za _
  |sl id hops sz lo len full cap hn hlen hf hf'=>
   unfold xN;dsimp only;split
   .rename_i h;exact .sl (E:=E.cut n) id hops sz lo len full cap bm hlen hf hf'
   .exact .za _
  |mp id hn=>
   unfold xN;dsimp only;split
   .rename_i h;exact .mp (E:=E.cut n) id bm
   .exact .za _
  |agg cs ys h1 h2 h3=>
   have:=LL.of_map (f:=xN n k) (E':=E.cut n) (cs:=cs) (ys:=ys.toList) ⟨ai h1,λi c y e1 e2=>h2 i c y e1 uX⟩ (λc y hl=>ih hl);exact gJ
  |fy cs ys h1 h2=>
   have:=LL.of_map (f:=xN n k) (E':=E.cut n) (cs:=cs) (ys:=ys.toList) ⟨ai h1,λi c y e1 e2=>h2 i c y e1 uX⟩ (λc y hl=>ih hl);exact .fy _ ys (ai this.1) (λi c y e1 e2=>this.2 i c y e1 uX)
  |fn f first caps ys zs h1 h2 h3 h4=>
   have t1:=LL.of_map (f:=xN n k) (E':=E.cut n) (cs:=first) (ys:=ys.toList) ⟨ai h1,λi c y e1 e2=>h3 i c y e1 uX⟩ (λc y hl=>ih hl);have t2:=LL.of_map (f:=xN n k) (E':=E.cut n) (cs:=caps) (ys:=zs.toList) ⟨ai h2,λi c y e1 e2=>h4 i c y e1 uX⟩ (λc y hl=>ih hl);exact gS
  |un=>exact .un
  |za y=>exact .za y
  |iq t c y h=>exact .iq t _ y (ih h)
def zl.low(n:Nat)(t:List C)(H:zq)(hB:Nat.ble B n=true)(hn:Nat.ble n H.length=true)(hr:qj n (H.take n)=true):zl B ⟨t,H⟩ ⟨t.map (xN n 9),H.take n⟩:=λm w E a hs=>
 ⟨E.cut n,⟨hs.heap.drop n (pO hn) hr,hs.tmps.of_map (λc y hl=>hl.low n 9),hs.defers,bd⟩,
  ⟨⟨λ_ _ _=>V,λ_ _ _=>V,λ_ _ _ h=>h,λ_ _ _ _ h=>h⟩,rfl,rfl,rfl,pN _,λ_ _ _=>V,λb o u hu=>.inl hu,λb h=>.inr h.take⟩⟩
def WC.gl(id sz:Nat)(rows:List (List C)):WC (.gl id sz rows) (.fq 0 sz rows):=λE y h=>Ar h
end
section
variable {P:Program} {o:Oper} {ρ:Operand->C} {H:zq}
def qx.D5(hh:qx w E H){sz':Nat}(hl:L E (.fq 1 sz rows) y)(ty:TypeId)(hz:rows=[]\/sz'=sz):
  ∃E1,qx w E1 (H++[⟨4,ty,sz',rows,0⟩])/\L E1 (.gl H.length sz' rows) y/\Grow w E H w E1 (H++[⟨4,ty,sz',rows,0⟩]):=by
 obtain⟨E1,hs,g⟩:=zl.grow (B:=H.length) (s:=⟨[.fq 1 sz rows],H⟩) 0 ty sz' V hz 0 w E ⟨#[y],[]⟩ ⟨hh,LL.one hl,pW _,pN _⟩;have hn:=hs.heap.n
 refine⟨E1,hs.heap,hs.tmps.cons_inv.1,⟨⟨by rw[hn,hh.n];simp,λid hops hi=>g.le.β id hops tE,λid hops hi=>g.le.κ id hops tE,g.le.St,λid k u hi=>g.le.G id k u tE⟩,
  g.os,g.tape,g.output,g.size,g.frame,g.jB,g.own⟩⟩
def Ej{l:List α}{i:Nat}{x:α}(h:l[i]?=some x):l.set i x=l:=by
 apply rL
 intro j;rw[pM];split
 .rename_i e;subst e;rw[pD (px.1 h).1,h]
 .rfl
def fE.LA(cl:Call)(ho:o.op=.call cl)(x y:Operand)(ht:oP P cl x y e i z){id:Nat}(hx:ρ x=.gl id i.size rows)(hob:H[id]?=some ob)
 (hkd:ob=⟨4,e,i.size,rows,0⟩){sz':Nat}{rows':List (List C)}(hy:xz H (Ab.ij (ρ y))=some (sz',rows'))(hsz:rows'=[]\/sz'=i.size)(hm:rows.length+rows'.length<=maxLen)(hb:(rows.length+rows'.length)*i.bytes<=140737488355328):
  fE P o ρ H (.gl id i.size (rows++rows')) (H.set id ⟨4,e,i.size,rows++rows',0⟩):=by
 subst hkd;by_cases hne:rows'=[]
 .subst hne;rw[sY,Ej hob];refine .same λw E σ hh hl K hk=>?_
  have h0:=Ar (hl x uV);have h1:=Ar (hl y uV);have hx':xz H (Ab.ij (ρ x))=some (i.size,rows):=by rw[hx];simp[Ab.ij,xz]
  obtain⟨t,hu,hexec⟩:=vi ho ht σ w
  have hyv:∃a cap,σ y=.slice a 0 cap:=by
   rcases xJ hh h1 hy with⟨_,e1⟩|⟨a,cap,vals,e1,_⟩
   .exact⟨none,0,e1⟩
   .exact⟨some a,cap,e1⟩
  obtain⟨a,cap,hyv⟩:=hyv
  have hr:(Builtin.append_ #[t,t] o.type #[σ x,σ y]).run P w=.ok (σ x) w:=by
   rcases xJ hh h0 hx' with⟨_,e1⟩|⟨a',cap',vals,e1,hcap,_⟩
   .cases a <;> simp[Builtin.append_,run_underlying hu,sizeOf,typeInfo,ht.info,Builtin.lenOf,hyv,e1,Builtin.firstCells,loadCells,loadCellsFrom]
   .cases a <;> simp[Builtin.append_,run_underlying hu,sizeOf,typeInfo,ht.info,Builtin.lenOf,hyv,e1,hcap,Builtin.firstCells,loadCells,loadCellsFrom,storeCells]
  rw[hexec _ _ hr];refine hk _ w E hh ?_ (qn.refl w E H);have:=hl x uV;rw[hx]at this;exact gI
 .obtain rfl:=hsz.resolve_left hne;exact .Up cl ho x y ht hx hob V V V V hy hne hm hb
def fE.PZ(cl:Call)(ho:o.op=.call cl)(x y:Operand)(ht:oP P cl x y e i z)(hx:ρ x=.fq 1 sz rows)(hsx:rows=[]\/sz=i.size)
 {sz':Nat}{rows':List (List C)}(hy:xz H (Ab.ij (ρ y))=some (sz',rows'))(hsz:rows'=[]\/sz'=i.size)(hm:rows.length+rows'.length<=maxLen)(hb:(rows.length+rows'.length)*i.bytes<=140737488355328):
  fE P o ρ H (.gl H.length i.size (rows++rows')) (H++[⟨4,e,i.size,rows++rows',0⟩]):=by
 classical
 intro w E σ hh hl K hk;have h0:=hl x uV;rw[hx]at h0;obtain⟨E1,hh1,hl1,g1⟩:=hh.D5 h0 e (sz':=i.size) (hsx.imp id Eq.symm);obtain⟨ρ',hρx,hρ⟩:∃ρ':Operand->C,ρ' x=.gl H.length i.size rows/\∀z,z≠x->ρ' z=ρ z:=⟨λz=>if z=x then .gl H.length i.size rows else ρ z,ah,λz hz=>by simp[hz]⟩;have hob:(H++[⟨4,e,i.size,rows,0⟩]:zq)[H.length]?=some ⟨4,e,i.size,rows,0⟩:=ah
 have hy':∃sz2,xz (H++[⟨4,e,i.size,rows,0⟩]) (Ab.ij (ρ' y))=some (sz2,rows')/\(rows'=[]\/sz2=i.size):=by
  by_cases hyx:y=x
  .subst hyx;rw[hx]at hy;simp[Ab.ij,xz]at hy;obtain⟨_,rfl⟩:=hy;exact⟨i.size,by rw[hρx];simp[Ab.ij,xz],.inr V⟩
  .rw[hρ y hyx];refine⟨sz',?_,hsz⟩;cases hc:Ab.ij (ρ y) with
   |sl id hops sz2 lo len full=>
    rw[hc]at hy;simp only[xz]at hy|-;cases hid:H[id]? with
    |none=>rw[hid]at hy;simp at hy
    |some ob=>
     have ft:=(px.1 hid).1;rw[hid]at hy;rw[pI ft,hid,kE ft];exact hy
   |fq o2 s2 r2=>rw[hc]at hy;exact hy
   |_=>rw[hc]at hy;cases hy
 obtain⟨sz2,hy1,hy2⟩:=hy'
 have:=fE.LA (ρ:=ρ') cl ho x y ht hρx hob V hy1 hy2 hm hb w E1 σ hh1 (λz hz=>by
  by_cases hzx:z=x
  .subst hzx;rw[hρx];exact hl1
  .rw[hρ z hzx];exact(hl z hz).mono g1.le) K
 have e1:(H++[⟨4,e,i.size,rows,0⟩]:zq).set H.length ⟨4,e,i.size,rows++rows',0⟩=H++[⟨4,e,i.size,rows++rows',0⟩]:=ah
 rw[e1]at this;exact this λv w' E' a b c=>hk v w' E' a b (g1.trans c)
end
abbrev bs(l:List UInt8):ByteArray:=⟨⟨l⟩⟩
theorem Er(l:List UInt8):(bs l).size=l.length:=rfl
def XK(l:List UInt8)(n:Nat):(bs l)[n]?=l[n]?:=by
 have h:(bs l)[n]?=(bs l).data[n]?:=by
  by_cases hn:n<l.length
  .rw[getElem?_pos (bs l) n hn,getElem?_pos (bs l).data n hn];rfl
  .rw[getElem?_neg (bs l) n hn,getElem?_neg (bs l).data n hn]
 rw[h];simp
def Sv(l:List UInt8)(a b:Nat):(bs l).extract a b=bs ((l.take b).drop a):=by
 apply ByteArray.ext
 rw[ByteArray.data_extract];apply uq.1
 simp[List.drop_take]
def Uw(l m:List UInt8):bs l++bs m=bs (l++m):=by
 apply ByteArray.ext
 simp
section
variable {P:Program} {o:Oper} {ρ:Operand->C} {H:zq}
def jJ{x:Value}(h:L E (.v x) y):y=x:=by cases h;rfl
def qA.Wv(t:TypeId)(x y:Operand)(ho:o.op=.index t x y)(ht:P.underlying t=some .string){l:List UInt8}(hx:ρ x=.v (.string (bs l))){k:IntKind}{n:Int}(hy:ρ y=.v (.int k n))(h0:0<=n)
 {c:UInt8}(hc:l[n.toNat]?=some c):qA P o ρ H (.v (.int .u8 c.toNat)) H:=λw E σ hh hl K hk=>by
 have h1:=jJ (hx ▸ hl x uU);have h2:=jJ (hy ▸ hl y uU)
 have hr:(execOp σ o).run P w=.ok (.value (.int .u8 c.toNat)) w:=by
  unfold execOp;simp[ho,Instr.index,asIntOf,h1,h2,run_underlying ht,h0,XK,hc]
 exact dV
def qA.MU(cl:Call)(ho:o.op=.call cl)(hcl:cl.callee=.builtin .len)(x:Operand)(hx:cl.args= #[x])(ht:cl.argTypes= #[t])(hu:P.underlying t=some .string)
 {l:List UInt8}(hl0:ρ x=.v (.string (bs l))):qA P o ρ H (.v (.int .i64 l.length)) H:=λw E σ hh hl K hk=>by
 have h1:=jJ (hl0 ▸ hl x (by simp[ho,Op.operands,Call.operands,hcl,hx]))
 have hr:(execOp σ o).run P w=.ok (.value (.int .i64 l.length)) w:=by
  unfold execOp;simp[ho,resolve,hcl,hx,ht,invoke,builtin,Builtin.len_,h1,run_underlying hu,goInt,Er]
 exact dV
def Qm{len:Nat}{hi:Option Operand}{l h:Nat}(hl:∀y,lo=some y->∃k,σ y=.int k l)(hl0:lo=none->l=0)(hh:∀y,hi=some y->∃k,σ y=.int k h)(hh0:hi=none->h=len)
 (h1:l<=h)(h2:h<=len)(w:World):(Instr.sliceBounds false len len (lo.map σ) (hi.map σ) none).run P w=.ok (l,h,len) w:=by
 unfold Instr.sliceBounds;cases lo with
 |none=>
  obtain rfl:=hl0 V;cases hi with
  |none=>obtain rfl:=hh0 V;simp
  |some y=>obtain⟨k,e⟩:=hh y V;simp[e,run_sliceBound h2]
 |some x=>
  obtain⟨k0,e0⟩:=hl x V;cases hi with
  |none=>obtain rfl:=hh0 V;simp[e0,run_sliceBound h1]
  |some y=>obtain⟨k,e⟩:=hh y V;simp[e,e0,run_sliceBound h2,run_sliceBound h1]
def qA.Ww(t:TypeId)(x:Operand)(lo hi:Option Operand)(ho:o.op=.slice t x lo hi none)(ht:P.underlying t=some .string){b:List UInt8}(hx:ρ x=.v (.string (bs b)))
 {l h:Nat}(hl':ma ρ lo 0 l)(hh':ma ρ hi b.length h)(h1:l<=h)(h2:h<=b.length):qA P o ρ H (.v (.string (bs ((b.take h).drop l)))) H:=λw E σ hh hl K hk=>by
 have h0:=jJ (hx ▸ hl x uU);obtain⟨b1,b2⟩:=hl'.val (E:=E) (σ:=σ) (λy e=>hl y hZ);obtain⟨b3,b4⟩:=hh'.val (E:=E) (σ:=σ) (λy e=>hl y hZ)
 have hr:(execOp σ o).run P w=.ok (.value (.string (bs ((b.take h).drop l)))) w:=by
  unfold execOp;have:=Qm (P:=P) b1 b2 b3 b4 h1 h2 w;rw[<-Er]at this;simp[ho,Instr.sliceAt,run_underlying ht,Instr.slice,h0,this,Sv]
 exact dV
def qA.Ni(op:BinOp)(t t':TypeId)(x y:Operand)(ho:o.op=.binOp op t x y t')(hop:op=.eql\/op=.neq){a b:List UInt8}(hx:ρ x=.v (.string (bs a)))(hy:ρ y=.v (.string (bs b))):
  qA P o ρ H (.v (.bool (if op=.eql then a == b else !(a == b)))) H:=λw E σ hh hl K hk=>by
 have h1:=jJ (hx ▸ hl x uU);have h2:=jJ (hy ▸ hl y uU)
 have hr:(execOp σ o).run P w=.ok (.value (.bool (if op=.eql then a == b else !(a == b)))) w:=by
  unfold execOp;rcases hop with rfl|rfl <;> simp[ho,h1,h2,eqGuard,binOp,Op.stringOp]
 exact dV
def qA.Xl(t t':TypeId)(x y:Operand)(ho:o.op=.binOp .add t x y t'){a b:List UInt8}(hx:ρ x=.v (.string (bs a)))(hy:ρ y=.v (.string (bs b)))(hm:a.length+b.length<=9223372036854775807):
  qA P o ρ H (.v (.string (bs (a++b)))) H:=λw E σ hh hl K hk=>by
 have h1:=jJ (hx ▸ hl x uU);have h2:=jJ (hy ▸ hl y uU)
 have hr:(execOp σ o).run P w=.ok (.value (.string (bs (a++b)))) w:=by
  unfold execOp;simp only[ho,h1,h2,Sem.run_bind];simp[eqGuard,binOp,Op.stringOp,Uw];rw[Er,Er];omega
 exact dV
abbrev BA(b:UInt8):List C:=[.v (.int .u8 (b.toNat:Int))]
def qA.TX(src dst:TypeId)(x:Operand)(ho:o.op=.convert src dst x)(hs:P.underlying src=some (.slice e))(he:P.underlying e=some (.int .u8))(hd:P.underlying dst=some .string){bts:List UInt8}
 (hx:ρ x=.fq fo 1 (bts.map BA)):qA P o ρ H (.v (.string (bs bts))) H:=λw E σ hh hl K hk=>by
 have h0:=hl x uU
 have key:(convert src dst (σ x)).run P w=.ok (.string (bs bts)) w:=by
  rw[hx]at h0;generalize σ x=y at h0;generalize hc:C.fq fo 1 (bts.map BA)=c at h0;cases h0 with
  |fq o' sz rows b off cap us ho' hcap hsz hst hL=>
   cases hc
   have hlen:(bts.map BA).length=bts.length:=pz ..;rw[hlen]
   have:=run_convert_bytes_arg (P:=P) w src e hs he b off bts.length cap (bts.map λb=>(b.toNat:Int)) ah (λi hi=>by
    have hr:(bts.map BA)[i]?=some (BA bts[i]):=by simp[hi]
    have h1:=hst i _ 0 _ hr V;have h2:=jJ (hL i _ 0 _ hr V);rw[h2]at h1;have h3:=(hh.qp _ _ _ h1).1;have e1:off+i*1+0=off+i:=an
    rw[e1]at h3;rw[h3];simp[List.getD,hi]) dst hd
   rw[this]
   congr 2
   apply ByteArray.ext
   apply uq.1
   rw[strOfNums_data,sJ];have e2:((λn:Int=>UInt8.ofNat n.toNat) ∘ λb:UInt8=>(b.toNat:Int))=id:=by funext b;simp
   rw[e2,List.map_id]
  |xA o' sz ho' a=>
   have hb:bts=[]:=by
    have:(bts.map BA)=[]:=by injection hc
    simpa using this
   subst hb;cases a with
   |none=>exact run_convert_bytes_nil w src e hs he 0 0 dst hd
   |some a=>
    rw[run_convert_bytes_string w src dst e _ 0 0 hs he hd,run_bytesToString w _ 0 0 [] (by simp[loadCells];rfl)]
    rfl
  |_=>cases hc
 have hr:(execOp σ o).run P w=.ok (.value (.string (bs bts))) w:=by
  unfold execOp;simp[ho,key]
 exact dV
end
abbrev kP(z l:Nat)(o:Obj)(t:List C):Ob:=⟨4,l,z,[.rc o::t],1⟩
abbrev IB(l:Nat)(o:Obj)(t:List C):Ob:=kP 1 l o t
abbrev iy(l:Nat)(r:Loop)(t:List C):Ob:=IB l (.loop r) t
abbrev ix(b:Nat)(es:Array MapEntry)(k:Nat):Ob:=IB b (.map es k) []
def qx.setObj(hh:qx w E H){z id l:Nat}{r r':Obj}{t t':List C}(hob:H[id]?=some (kP z l r t))(hf':De r'=true)(hr:lY E t r->lY E t' r'):
  qx (w.putObj l r') E (H.set id (kP z l r' t'))/\Grow w E H (w.putObj l r') E (H.set id (kP z l r' t')):=by
 obtain⟨⟨hL,hf⟩,ht⟩:=hh.fA.iK id _ r t hob V ⟨rfl,rfl⟩;have ft:=(pP.1 hL).1
 have hcells:∀(k:Nat) c ty z,w.heap[k]?=some (Obj.cells c ty z)->(w.putObj l r').heap[k]?=w.heap[k]?:=λk c ty z h=>
  World.putObj_heap_other (by rintro rfl;rw[hL]at h;cases h;cases hf)
 have hgetS:∀i,i≠id->(H.set id (kP z l r' t'))[i]?=H[i]?:=λi hi=>by rw[pM,pA (Ne.symm hi)]
 have hgetI:(H.set id (kP z l r' t'))[id]?=some (kP z l r' t'):=by rw[pM,pD V,pD (px.1 hob).1]
 have hGo:∀i b,qG E (H.set id (kP z l r' t')) i b->qG E H i b:=by
  rintro i b ⟨ob2,cap,h1,h2,h3,h4⟩;by_cases hi:i=id
  .subst hi;rw[hgetI]at h1;cases h1
   exact⟨_,cap,hob,rfl,h3,h4⟩
  .rw[hgetS i hi]at h1;exact⟨ob2,cap,h1,h2,h3,h4⟩
 have hRo:∀i b,jz (H.set id (kP z l r' t')) i b->jz H i b:=by
  rintro i b ⟨ob2,r2,t2,h1,h2,h3,h4⟩;by_cases hi:i=id
  .subst hi;rw[hgetI]at h1;cases h1
   exact⟨_,r,t,hob,rfl,⟨rfl,rfl⟩,h4⟩
  .rw[hgetS i hi]at h1;exact⟨ob2,r2,t2,h1,h2,h3,h4⟩
 have ho0:∀b,q6 E (H.set id (kP z l r' t')) b↔q6 E H b:=λb=>q6.CD hob V V V
 have hR:qa (w.putObj l r') E (H.set id (kP z l r' t')):=by
  refine qa.CD (hh.base.other (Env.le.refl E) V V ?_ ?_ λb o u _ hu=>hu) hob V V ah
  .intro b hb;obtain⟨cur,e,h1⟩:=hh.base.Di hb;exact hcells b _ _ _ h1
  .intro b o u hu;obtain⟨h1,h2⟩:=hh.base.qp b o u hu;refine⟨?_,h2⟩;unfold World.cell? at h1|-;split at h1
   .rename_i c ty z hc;rw[hcells _ _ _ _ hc,hc];exact h1
   .cases h1
 refine⟨⟨hR,?_,?_,?_,?_,?_,?_,?_,λi j b h1 h2=>hh.fA.wZ i j b (hRo i b h1) (hRo j b h2)⟩,⟨Env.le.refl E,rfl,rfl,rfl,ah,?_,λb o u hu=>.inl hu,?_⟩⟩
 .intro i ob2 h1 h2;by_cases hi:i=id
  .subst hi;rw[hgetI]at h1;cases h1
   have:=hh.fA.val i _ hob V;exact gI
  .rw[hgetS i hi]at h1;exact hh.fA.val i ob2 h1 h2
 .intro i b ob2 h1 h2;have h1':=hGo i b h1;by_cases hi:i=id
  .subst hi;rw[hgetI]at h2;cases h2
   obtain⟨cur,cap,e1,e2,e3⟩:=hh.fA.fH i b _ h1' hob;exact⟨cur,cap,e1,(hcells _ _ _ _ e2).trans e2,e3⟩
  .rw[hgetS i hi]at h2;obtain⟨cur,cap,e1,e2,e3⟩:=hh.fA.fH i b ob2 h1' h2;exact⟨cur,cap,e1,(hcells _ _ _ _ e2).trans e2,e3⟩
 .intro i b h1 h2;exact hh.fA.sep i b (hGo i b h1) ((ho0 b).1 h2)
 .intro i j b h1 h2;exact hh.fA.inj i j b (hGo i b h1) (hGo j b h2)
 .intro i b ob2 o u h1 h2 h3;have h1':=hGo i b h1;by_cases hi:i=id
  .subst hi;rw[hgetI]at h2;cases h2
   have:=hh.fA.st i b _ o u h1' hob h3;exact gI
  .rw[hgetS i hi]at h2;exact hh.fA.st i b ob2 o u h1' h2 h3
 .intro i ob2 k u h1 h2 h3;by_cases hi:i=id
  .subst hi;rw[hgetI]at h1;cases h1
   have:=hh.fA.top i _ k u hob V h3;exact gI
  .rw[hgetS i hi]at h1;exact hh.fA.top i ob2 k u h1 h2 h3
 .intro i ob2 r2 t2 h1 h2 h3;by_cases hi:i=id
  .subst hi;rw[hgetI]at h1;cases h1
   obtain⟨h3,_⟩:=h3;simp only[List.cons.injEq,C.rc.injEq,and_true]at h3;obtain⟨rfl,rfl⟩:=h3;exact⟨⟨World.putObj_heap_same ft,hf'⟩,hr ht⟩
  .rw[hgetS i hi]at h1;obtain⟨p1,p2⟩:=hh.fA.iK i ob2 r2 t2 h1 h2 h3;refine⟨⟨(World.putObj_heap_other ?_).trans p1.1,p1.2⟩,p2⟩;intro e;exact hi (hh.fA.wZ i id l ⟨ob2,r2,t2,h1,h2,h3,e⟩ ⟨_,r,t,hob,rfl,⟨rfl,rfl⟩,rfl⟩)
 .intro k _ hk;refine World.putObj_heap_other ?_;rintro rfl;exact hk (.inr ⟨id,.inr ⟨_,r,t,hob,rfl,⟨rfl,rfl⟩,rfl⟩⟩)
 .rintro b (hb|⟨i,hb|hb⟩)
  .exact .inr (.inl ((ho0 b).1 hb))
  .exact .inr (.inr ⟨i,.inl (hGo i b hb)⟩)
  .exact .inr (.inr ⟨i,.inr (hRo i b hb)⟩)
def qx.Ez(hh:qx w E H){id l:Nat}{r r':Loop}{t:List C}(hob:H[id]?=some (iy l r t))(hr:r'.tmps=r.tmps):
  qx (w.putObj l (.loop r')) E (H.set id (iy l r' t))/\Grow w E H (w.putObj l (.loop r')) E (H.set id (iy l r' t)):=hh.setObj (z:=1) hob V λh=>.inl (by simp only[Ic,hr];exact h.loop)
def qx.newObj{w0:World}(h0:qx w0 E H){z l:Nat}{r:Obj}{t:List C}(hf:De r=true)(hk:∀k,k<w0.heap.size->w.heap[k]?=w0.heap[k]?)(hos:w.os=w0.os)(htp:w.tape=w0.tape)(hout:w.output=w0.output)(hsz:w0.heap.size<=w.heap.size)
 (hL:w.heap[l]?=some r)(hl:w0.heap.size<=l)(ht:lY E t r):∃E1,qx w E1 (H++[kP z l r t])/\Grow w0 E H w E1 (H++[kP z l r t]):=by
 have hh:qx w E H:=h0.cells λk o h _=>hk k (pP.1 h).1
 have hn:=hh.n;obtain⟨G,hGd⟩:∃G:Nat->Nat->Option Value,G=λi k=>if i=E.n then (if k=1 then some (.slice none 1 1) else none) else E.G i k:=⟨_,rfl⟩
 have hG:∀id k,id<E.n->G id k=E.G id k:=λid k hi=>by rw[hGd];simp[ui hi]
 obtain⟨hR,hg⟩:=hh.base.LV (kP z l r t) (λh=>by cases h) (λh=>by cases h) (pN _) G hG;obtain⟨E',hE'⟩:∃E':Env,E'={E.push 0 0 with G:=G}:=⟨_,rfl⟩;rw[<-hE']at hR hg;have hG':∀i k,E'.G i k=if i=E.n then (if k=1 then some (.slice none 1 1) else none) else E.G i k:=λi k=>by rw[hE',hGd]
 have hSt:E'.St=E.St:=by rw[hE'];rfl
 have last:∀id ob1,(H++[kP z l r t])[id]?=some ob1->(id<H.length/\H[id]?=some ob1)\/(id=H.length/\ob1=kP z l r t):=by
  intro id ob1 ho;by_cases ft:id<H.length
  .rw[pI ft]at ho;exact .inl ⟨ft,ho⟩
  .rw[pR an]at ho
   have:id-H.length=0:=by
    exact gH
   rw[this]at ho;cases ho
   exact .inr ⟨an,rfl⟩
 have back:∀i b,qG E' (H++[kP z l r t]) i b->qG E H i b:=by
  rintro i b ⟨ob,cap,h1,h2,h3,h4⟩;rcases last i ob h1 with⟨ft,ho⟩|⟨rfl,rfl⟩
  .refine⟨ob,cap,ho,h2,?_,h4⟩;rw[hG',pA an]at h3;exact h3
  .rw[hG',pD hn.symm,pD (show(kP z l r t).rows.length=1 from V)]at h3;simp at h3
 have rback:∀i b,jz (H++[kP z l r t]) i b->(jz H i b/\b<w0.heap.size)\/(i=H.length/\b=l):=by
  rintro i b ⟨ob,r2,t2,h1,h2,h3,h4⟩;rcases last i ob h1 with⟨ft,ho⟩|⟨rfl,rfl⟩
  .have:=(h0.fA.iK i ob r2 t2 ho h2 h3).1.1;rw[h4]at this;exact .inl ⟨⟨ob,r2,t2,ho,h2,h3,h4⟩,(pP.1 this).1⟩
  .exact .inr ⟨rfl,h4.symm⟩
 have hGro:mN w E' (H++[kP z l r t]):=by
  refine⟨?_,?_,?_,λi j b h1 h2=>hh.fA.inj i j b (back i b h1) (back j b h2),?_,?_,?_,?_⟩
  .intro i ob h1 h2;rcases last i ob h1 with⟨ft,ho⟩|⟨rfl,rfl⟩
   .rw[hG',pA an];exact hh.fA.val i ob ho h2
   .exact⟨none,1,by show E'.G _ 1=_;rw[hG',pD hn.symm,pD V];rfl,.inl V⟩
  .intro i b ob h1 h2;have h1':=back i b h1;have ft:i<H.length:=by obtain⟨ob2,_,e,_⟩:=h1';exact(px.1 e).1
   rw[pI ft]at h2;rw[hG',pA an];exact hh.fA.fH i b ob h1' h2
  .intro i b h1 h2;rcases hg.own b h2 with h3|h3
   .have h1':=back i b h1;obtain⟨ob2,c2,e1,e2⟩:=h1';obtain⟨_,_,_,e3,_⟩:=hh.fA.fH i b ob2 ⟨ob2,c2,e1,e2⟩ e1;have:=(pP.1 e3).1;omega
   .exact hh.fA.sep i b (back i b h1) h3
  .intro i b ob o u h1 h2 h3;have h1':=back i b h1;have ft:i<H.length:=by obtain⟨ob2,_,e,_⟩:=h1';exact(px.1 e).1
   rw[pI ft]at h2;exact hh.fA.st i b ob o u h1' h2 (by rw[hSt]at h3;exact h3)
  .intro i ob k u h1 h2 h3;rcases last i ob h1 with⟨ft,ho⟩|⟨rfl,rfl⟩
   .rw[hG',pA an]at h3;exact hh.fA.top i ob k u ho h2 h3
   .rw[hG',pD hn.symm]at h3;split at h3
    .rename_i e;rw[e];exact pN _
    .cases h3
  .intro i ob r2 t2 h1 h2 h3;rcases last i ob h1 with⟨ft,ho⟩|⟨rfl,rfl⟩
   .obtain⟨p1,p2⟩:=hh.fA.iK i ob r2 t2 ho h2 h3;exact⟨p1,p2.mono hg.le⟩
   .obtain⟨h3,_⟩:=h3;simp only[List.cons.injEq,C.rc.injEq,and_true]at h3;obtain⟨rfl,rfl⟩:=h3;exact⟨⟨hL,hf⟩,ht.mono hg.le⟩
  .intro i j b h1 h2;rcases rback i b h1 with⟨a1,a2⟩|⟨rfl,rfl⟩
   .rcases rback j b h2 with⟨b1,b2⟩|⟨rfl,rfl⟩
    .exact hh.fA.wZ i j b a1 b1
    .omega
   .rcases rback j b h2 with⟨b1,b2⟩|⟨rfl,_⟩
    .omega
    .rfl
 refine⟨E',⟨hR,hGro⟩,⟨hg.le,hos,htp,hout,hsz,λk h1 _=>hk k h1,λb o u hu=>.inl (by rw[hSt]at hu;exact hu),?_⟩⟩;rintro b (hb|⟨i,hb|hb⟩)
 .rcases hg.own b hb with h3|h3
  .exact .inl (rR hsz h3)
  .exact .inr (.inl h3)
 .exact .inr (.inr ⟨i,.inl (back i b hb)⟩)
 .rcases rback i b hb with⟨a1,_⟩|⟨_,rfl⟩
  .exact .inr (.inr ⟨i,.inr a1⟩)
  .exact .inl hl
def qx.W7{w0:World}(h0:qx w0 E H){l:Nat}{r:Loop}{t:List C}(hk:∀k,k<w0.heap.size->w.heap[k]?=w0.heap[k]?)(hos:w.os=w0.os)(htp:w.tape=w0.tape)(hout:w.output=w0.output)(hsz:w0.heap.size<=w.heap.size)
 (hL:w.heap[l]?=some (.loop r))(hl:w0.heap.size<=l)(ht:LL E t r.tmps.toList):∃E1,qx w E1 (H++[iy l r t])/\Grow w0 E H w E1 (H++[iy l r t]):=h0.newObj (z:=1) V hk hos htp hout hsz hL hl (.inl ht)
def jv(P:Program)(l:Nat)(H:zq)(args:List C)(r:C)(H':zq):Prop:=
 ∀(w:World) (E:Env) (vs:Array Value),qx w E H->LL E args vs.toList->
  ∃fn tmps assign body,(Instr.yield l vs).run P w=.ok (.round l fn tmps assign body) w/\
   RoundIn (fw none) 0 P l fn tmps assign body w λe w'=>∃v E',e=.returned v/\qx w' E' H'/\L E' r v/\Grow w E H w' E' H'
def BJ(t:List C)(ps:List Tmp)(args:List C):List C:=(ps.zip args).foldl (λt x=>t.set x.1 x.2) t
def L2{E:Env}:∀(ps:List Tmp) (args:List C) (vs:List Value) (t:List C) (ys:Array Value),LL E t ys.toList->LL E args vs->
  LL E (BJ t ps args) ((ps.zip vs).foldl (λ(tmps:Array Value) x=>tmps.setIfInBounds x.1 x.2) ys).toList
 |[],args,vs,t,ys,h,_=>by simpa [BJ] using h
 |p::ps,[],[],t,ys,h,_=>by simpa [BJ] using h
 |p::ps,[],v::vs,t,ys,h,hl=>by have:=hl.1;simp at this
 |p::ps,c::cs,[],t,ys,h,hl=>by have:=hl.1;simp at this
 |p::ps,c::cs,v::vs,t,ys,h,hl=>by
  obtain⟨h1,h2⟩:=hl.cons_inv;have h3:LL E (t.set p c) (ys.setIfInBounds p v).toList:=by simpa using h.set h1 p
  simpa [BJ] using L2 ps cs vs (t.set p c) (ys.setIfInBounds p v) h3 h2
def jA.up{w':World}(hh:qx w E H)(hs:qx w' E' H')(hb:H.length<=H'.length)(g:jA H.length w E H w' E' H'):Grow w E H w' E' H':=
 ⟨⟨by rw[hh.n,hs.n];exact hb,λid hops hi=>g.le.β id hops tE,λid hops hi=>g.le.κ id hops tE,g.le.St,λid k u hi=>g.le.G id k u tE⟩,
  g.os,g.tape,g.output,g.size,g.frame,g.jB,g.own⟩
abbrev busy(r:Loop):Loop:={r with state:=.busy}
abbrev left(r:Loop)(c:Code):Loop:={r with state:=.done,pending:=some c}
abbrev ML(id l:Nat)(r:Loop)(t:List C)(rv:Bool)(H':zq)(e:Exit)(H3:zq):Prop:=
 H3[id]?=some (iy l (busy r) t)/\((e=.normal/\rv=true/\H'=H3.set id (iy l r t))\/(rv=false/\((e=.ret/\H'=H3.set id (iy l (left r .ret) t))\/∃i,e=.exit i/\H'=H3.set id (iy l (left r (.exit i)) t))))
def jv.kQ{H1:zq}{id l:Nat}{r:Loop}{t:List C}{rv:Bool}(hob:H1[id]?=some (iy l r t))(hst:r.state=.ready)(hpe:r.pending=none)
 (hn:args.length=r.params.size)(hna:xv r.assign=false)(hnb:xv r.body=false)
 (h:qX P H1.length r.assign ⟨BJ t r.params.toList args,H1⟩ λe s1=>e=.normal/\s1.H[id]?=some (iy l r t)/\qX P H1.length r.body ⟨s1.tmps,s1.H.set id (iy l (busy r) t)⟩ λe s2=>
   ∃s3,zl H1.length s2 s3/\ML id l r t rv H' e s3.H):jv P l H1 args (.v (.bool rv)) H':=by
 intro w E vs hh hl;obtain⟨⟨hL,_⟩,ht⟩:=hh.fA.iK id _ (.loop r) t hob V ⟨rfl,rfl⟩;have ht:=ht.loop;have hsz:vs.size=r.params.size:=by have:=hl.1;exact dL
 refine⟨r.fn,_,r.assign,r.body,run_yield hL hsz,roundIn_of_wpIn trivial ?_⟩
 have h0:xM H1.length 0 w E ⟨BJ t r.params.toList args,H1⟩ {tmps:=(r.params.zip vs).foldl (λtmps (x:Tmp×Value)=>tmps.setIfInBounds x.1 x.2) r.tmps,defers:=[]}:=by
  refine⟨hh,?_,pW _,pN _⟩;have:=L2 r.params.toList args vs.toList t r.tmps ht hl;rw[<-Array.toList_zip,Array.foldl_toList]at this;exact gI
 refine h (some l) 0 w E _ _ (λe=>by rw[hna]at e;cases e) h0 λe s1 w1 E1 a1 hR1 hs1 g1=>?_
 obtain⟨rfl,hob1,hb⟩:=hR1;obtain⟨⟨hL1,_⟩,_⟩:=hs1.heap.fA.iK id _ (.loop r) t hob1 V ⟨rfl,rfl⟩;refine⟨_,run_beginRound hL1 hst,?_⟩;obtain⟨hR2,G2⟩:=hs1.heap.Ez (r':=busy r) hob1 V;refine hb (some l) 0 _ E1 a1 _ (λe=>by rw[hnb]at e;cases e) ⟨hR2,hs1.tmps,?_,ai hs1.base⟩ λe s2 w3 E2 a3 hR3 hs2 g2=>?_
 .exact hs1.defers.grow hs1.heap G2
 obtain⟨s3,hw3,hob2,hend3⟩:=hR3;obtain⟨E3,hs3,g23⟩:=hw3 _ w3 E2 a3 hs2;have g3:=g2.trans g23;obtain⟨⟨hL3,_⟩,_⟩:=hs3.heap.fA.iK id _ (.loop (busy r)) t hob2 V ⟨rfl,rfl⟩;have hn1:H1.length<=E1.n:=by rw[hs1.heap.n];exact hs1.base
 have hn3:H1.length<=E3.n:=by rw[hs3.heap.n];exact hs3.base
 rcases hend3 with⟨rfl,rfl,rfl⟩|⟨rfl,hleave⟩
 .obtain⟨hR4,G4⟩:=hs3.heap.Ez (r':=r) hob2 V
  have e:({busy r with state:=.ready,pending:=none}:Loop)=r:=by
   obtain⟨st,pe,_,_,_,_,_,_⟩:=r;simp only at hst hpe;subst hst hpe
   rfl
  have hend:=run_endRound (P:=P) none hL3;refine⟨.bool true,_,hend,?_⟩
  have e2:(w3.putObj l (.loop {busy r with state:=if (none:Option Code).isNone then .ready else .done,pending:=none}))=w3.putObj l (.loop r):=by
   rw[show({busy r with state:=if (none:Option Code).isNone then .ready else .done,pending:=none}:Loop)=r from e]
  rw[e2];exact⟨.bool true,E3,rfl,hR4,.v _ V,jA.up hh hR4 (ai hs3.base) (((g1.trans (G2.iW hn1)).trans g3).trans (G4.iW hn3))⟩
 .have key:∀c,H'=s3.H.set id (iy l (left r c) t)->∃v w4,(Instr.endRound l (some c)).run P w3=.ok v w4/\∃v' E',Ending.returned v=.returned v'/\qx w4 E' H'/\L E' (.v (.bool false)) v'/\Grow w E H1 w4 E' H':=λc hc=>by
   subst hc;obtain⟨hR4,G4⟩:=hs3.heap.Ez (r':=left r c) hob2 V;have hend:=run_endRound (P:=P) (some c) hL3;refine⟨.bool false,_,hend,.bool false,E3,rfl,hR4,.v _ V,?_⟩;exact jA.up hh hR4 (ai hs3.base) (((g1.trans (G2.iW hn1)).trans g3).trans (G4.iW hn3))
  rcases hleave with⟨rfl,hc⟩|⟨i,rfl,hc⟩
  .exact key _ hc
  .exact key _ hc
section
variable {P:Program} {o:Oper} {ρ:Operand->C} {H:zq}
def fE.yield(cl:Call)(ho:o.op=.call cl)(x:Operand)(hcl:cl.callee=.value x){l:Nat}(hf:ρ x=.v (.func (.yield l) #[] #[])){r:C}{H':zq}
 (hs:jv P l H (cl.args.toList.map ρ) r H'):fE P o ρ H r H':=λw E σ hh hl K hk=>by
 have h0:=hl x bn;rw[hf]at h0
 have hv:σ x=.func (.yield l) #[] #[]:=by
  generalize σ x=u at *;cases h0
  rfl
 have e3:LL E (cl.args.toList.map ρ) (cl.args.map σ).toList:=by
  refine⟨ah,?_⟩;intro i c y hc hy;rw[pw]at hc;rw[eD,pw]at hy;cases ha:cl.args.toList[i]? with
  |none=>rw[ha]at hc;cases hc
  |some a=>
   rw[ha]at hc hy;cases hc
   cases hy
   exact gX
 obtain⟨fn,tmps,assign,body,hy,hR⟩:=hs w E (cl.args.map σ) hh e3
 have hr:(execOp σ o).run P w=.ok (.round l fn tmps assign body) w:=by
  unfold execOp;simp[ho,resolve,hcl,hv,Deferred.ofValue,invoke,hy]
 rw[hr];exact hR.mono λe w' ⟨v,E',h1,h2,h3,h4⟩=>⟨v,h1,hk v w' E' h2 h3 h4⟩
end
def ki{r:Nat}(hb:w.heap[r]?=some (.map es clock)):(getObj r).run P w=.ok (.map es clock) w:=by
 simp[getObj,Sem.run,hb]
def kj{r:Nat}(o:Obj)(hb:w.heap[r]?=some (.map es clock)):(setObj r o).run P w=.ok () {w with heap:=w.heap.setIfInBounds r o}:=by
 simp[setObj,Sem.run,hb]
theorem Kn(t:TypeId)(w:World):(Instr.makeMap t none).run P w=.ok (.map (some w.heap.size)) (w.alloc (.map #[] 0)):=rfl
def KP(w:World)(o:Obj):(w.alloc o).heap[w.heap.size]?=some o/\∀r',r'<w.heap.size->(w.alloc o).heap[r']?=w.heap[r']?:=by
 have e:(w.alloc o).heap=w.heap.push o:=rfl;rw[e];exact⟨ah,λr' h=>by simp[Array.getElem?_push,ui h]⟩
structure mu(P:Program)(kt:TypeId){κ:Type}[DecidableEq κ](enc:κ->Value):Prop where
 check:∀(w:World) (em:Bool) (k:κ),(Instr.checkKey em 10000 kt (enc k)).run P w=.ok () w
 find:∀(w:World) (k:κ) (l:List (κ×Value)) (n:Nat),(Instr.findKey kt (enc k) (l.mapIdx λi kv=>⟨enc kv.1,kv.2,i+n⟩)).run P w=.ok ((l.findIdx? λkv=>decide (kv.1=k)).bind λi=>(l[i]?).map λkv=>(i,kv.2)) w
 bits:∀k:κ,Instr.sameBits 10000 (enc k) (enc k)=true
section
variable {κ:Type} [DecidableEq κ]
def jK(enc:κ->Value)(l:List (κ×Value)):Array MapEntry:=(l.mapIdx λi kv=>⟨enc kv.1,kv.2,i⟩).toArray
def jm(l:List (κ×υ))(k:κ):Option Nat:=l.findIdx? λkv=>decide (kv.1=k)
def yF(l:List (κ×υ))(k:κ)(v:υ):List (κ×υ):=match jm l k with
 |some i=>l.set i (k,v)
 |none=>l++[(k,v)]
def Gl(enc:κ->Value)(l:List (κ×Value)):(jK enc l).size=l.length:=by simp[jK]
def BZ(enc:κ->Value)(l:List (κ×Value))(i:Nat):(jK enc l)[i]?=(l[i]?).map λkv=>⟨enc kv.1,kv.2,i⟩:=by
 simp only[jK,s9,rK]
def KE(enc:κ->Value)(l:List (κ×Value))(k:κ)(v:Value):(jK enc l).push ⟨enc k,v,l.length⟩=jK enc (l++[(k,v)]):=by
 apply uq.1
 simp[jK,List.mapIdx_append]
def Gs(enc:κ->Value)(l:List (κ×Value))(i:Nat)(k:κ)(v:Value)(f:MapEntry->MapEntry)(hf:∀kv,l[i]?=some kv->f ⟨enc kv.1,kv.2,i⟩=⟨enc k,v,i⟩):(jK enc l).modify i f=jK enc (l.set i (k,v)):=by
 apply Array.ext_getElem?
 intro j;rw[ti,BZ,BZ,pM];by_cases e:i=j
 .subst e;rw[pD V,pD V];cases h:l[i]? with
  |none=>rw[pA (by rw[rT]at h;omega)];rfl
  |some kv=>rw[pD (px.1 h).1];simp[hf kv h]
 .rw[pA e,pA e]
def xV{l:List (κ×υ)}{k:κ}{i:Nat}(h:jm l k=some i):∃v,l[i]?=some (k,v):=by
 unfold jm at h;rw[pT]at h;obtain⟨h1,h2,_⟩:=h;simp only[pY]at h2;exact⟨l[i].2,by rw[pq h1,<-h2]⟩
section
variable {P:Program} {o:Oper} {ρ:Operand->C} {H:zq}
def EN{id k:Nat}(hh:qx w E H)(hob:H[id]?=some (ix b es k)):w.heap[b]?=some (.map es k):=(hh.fA.iK id _ _ [] hob V ⟨rfl,rfl⟩).1.1
def B5(h:L E (.v (.map (some b))) y):y=.map (some b):=by cases h;rfl
def Gq{id k k':Nat}{es':Array MapEntry}(hh:qx w E H)(hob:H[id]?=some (ix b es k)):
  qx {w with heap:=w.heap.setIfInBounds b (.map es' k')} E (H.set id (ix b es' k'))/\Grow w E H {w with heap:=w.heap.setIfInBounds b (.map es' k')} E (H.set id (ix b es' k')):=by
 have:=hh.setObj (z:=1) (r':=.map es' k') (t':=[]) hob V λ_=>.inl LL.nil
 exact gI
def jC.makeMap(t:TypeId)(ho:o.op=.makeMap t none)(hR:∀b,R (.v (.map (some b))) (H++[ix b #[] 0])):jC P o ρ H R:=λw E σ hh hl hc K hk=>by
 have hr:(execOp σ o).run P w=.ok (.value (.map (some w.heap.size))) (w.alloc (.map #[] 0)):=by
  unfold execOp;simp[ho,Kn]
 rw[hr];obtain⟨h1,h2⟩:=KP w (.map #[] 0);obtain⟨E1,h3,g⟩:=hh.newObj (z:=1) (w:=w.alloc (.map #[] 0)) (l:=w.heap.size) (r:=.map #[] 0) (t:=[]) V h2 V V V ah h1 (pN _) (.inl LL.nil);exact hk _ _ _ _ E1 (hR _) h3 (.v _ V) g
variable {kt et:TypeId} {enc:κ->Value}
def fE.lookup(t:TypeId)(x y:Operand)(ho:o.op=.lookup t x y false)(ht:P.underlying t=some (.map kt et))(hk:mu P kt enc){id b:Nat}{l:List (κ×Value)}(hob:H[id]?=some (ix b (jK enc l) l.length))(hx:ρ x=.v (.map (some b)))
 (k:κ)(hy:∀E u,L E (ρ y) u->u=enc k){i:TypeInfo}{z:Value}(hi:P.info? et=some i)(hz:i.zero=some z){c:C}(hc:∀E,L E c (((jm l k).bind λi=>(l[i]?).map (·.2)).getD z)):fE P o ρ H c H:=λw E σ hh hl K hq=>by
 have h1:=B5 (hx ▸ hl x uU);have h2:=hy E _ (hl y uU);have hb:=EN hh hob;have hf:=hk.find w k l 0
 have hr:(execOp σ o).run P w=.ok (.value (((jm l k).bind λi=>(l[i]?).map (·.2)).getD z)) w:=by
  unfold execOp;simp only[ho,h1,h2,Instr.lookup,Sem.run_bind,run_underlying ht,Result.andThen_ok,ki hb,Sem.run_pure,hk.check]
  have e:(Instr.findKey kt (enc k) (jK enc l).toList).run P w=.ok ((jm l k).bind λi=>(l[i]?).map λkv=>(i,kv.2)) w:=by
   simpa [jK,jm] using hf
  rw[e];simp only[Result.andThen_ok];cases hfv:jm l k with
  |none=>simp[xg hi hz]
  |some i=>
   obtain⟨v,hv⟩:=xV hfv;simp[hv]
 rw[hr];exact hq _ w E hh (hc E) (Grow.refl w E H)
def Ji{k:κ}(hk:mu P kt enc)(old:Value)(h:old=enc k):(Instr.keyThatStays old (enc k)).run P w=.ok (enc k) w:=by
 subst h;unfold Instr.keyThatStays;rw[pD (hk.bits k)]
 rfl
def fE.mapUpdate(t:TypeId)(m x y:Operand)(ho:o.op=.mapUpdate t m x y\/o.op=.insert t m x y)(ht:P.underlying t=some (.map kt et))(hk:mu P kt enc){id b:Nat}{l:List (κ×Value)}(hob:H[id]?=some (ix b (jK enc l) l.length))(hm:ρ m=.v (.map (some b)))
 (k:κ)(hx:∀E u,L E (ρ x) u->u=enc k)(v:Value)(hy:∀E u,L E (ρ y) u->u=v):fE P o ρ H .un (H.set id (ix b (jK enc (yF l k v)) (yF l k v).length)):=λw E σ hh hl K hq=>by
 have hmem:m∈o.op.operands/\x∈o.op.operands/\y∈o.op.operands:=by rcases ho with ho|ho <;> simp[ho,Op.operands]
 have h1:=B5 (hm ▸ hl m hmem.1);have h2:=hx E _ (hl x hmem.2.1);have h3:=hy E _ (hl y hmem.2.2);have hb:=EN hh hob
 have e:(Instr.findKey kt (enc k) (jK enc l).toList).run P w=.ok ((jm l k).bind λi=>(l[i]?).map λkv=>(i,kv.2)) w:=by
  simpa [jK,jm] using hk.find w k l 0
 have hr:(execOp σ o).run P w=.ok .skip {w with heap:=w.heap.setIfInBounds b (.map (jK enc (yF l k v)) (yF l k v).length)}:=by
  have key:(Instr.mapUpdate t (.map (some b)) (enc k) v).run P w=.ok () {w with heap:=w.heap.setIfInBounds b (.map (jK enc (yF l k v)) (yF l k v).length)}:=by
   simp only[Instr.mapUpdate,Sem.run_bind,run_underlying ht,Result.andThen_ok,ki hb,hk.check,e];cases hfv:jm l k with
   |none=>
    simp only[fg,kj _ hb];rw[KE];simp[yF,hfv]
   |some i=>
    obtain⟨v0,hv⟩:=xV hfv;simp only[ri,hv,pL,Sem.run_bind,BZ];rw[Ji hk _ ah];simp only[Result.andThen_ok,kj _ hb];rw[Gs enc l i k v (λe=>{key:=enc k,val:=v,born:=e.born}) (λkv hkv=>V)];simp[yF,hfv]
  unfold execOp;rcases ho with ho|ho <;> simp[ho,h1,h2,h3,key]
 rw[hr];obtain⟨hR,g⟩:=Gq (es':=jK enc (yF l k v)) (k':=(yF l k v).length) hh hob;exact hq _ _ E hR .un g
def fU(l:List (κ×υ))(k:κ):Nat:=(jm l k).getD l.length
def nX(l:List (κ×υ))(k:κ)(z:υ):List (κ×υ):=match jm l k with
 |some _=>l
 |none=>l++[(k,z)]
def fE.mapEntry(t:TypeId)(m x:Operand)(ho:o.op=.mapEntry t m x)(ht:P.underlying t=some (.map kt et))(hk:mu P kt enc){id b:Nat}{l:List (κ×Value)}(hob:H[id]?=some (ix b (jK enc l) l.length))(hm:ρ m=.v (.map (some b)))
 (k:κ)(hx:∀E u,L E (ρ x) u->u=enc k){i:TypeInfo}{z:Value}(hi:P.info? et=some i)(hz:i.zero=some z):
  fE P o ρ H (.fy [.za,.v (.int .i64 (fU l k:Int))]) (H.set id (ix b (jK enc (nX l k z)) (nX l k z).length)):=λw E σ hh hl K hq=>by
 have h1:=B5 (hm ▸ hl m uU);have h2:=hx E _ (hl x uU);have hb:=EN hh hob
 have e:(Instr.findKey kt (enc k) (jK enc l).toList).run P w=.ok ((jm l k).bind λi=>(l[i]?).map λkv=>(i,kv.2)) w:=by
  simpa [jK,jm] using hk.find w k l 0
 have hr:∃v,(execOp σ o).run P w=.ok (.value (.tuple #[v,.int .i64 (fU l k:Int)])) {w with heap:=w.heap.setIfInBounds b (.map (jK enc (nX l k z)) (nX l k z).length)}:=by
  unfold execOp;simp only[ho,h1,h2,Instr.mapEntry,Sem.run_bind,run_underlying ht,Result.andThen_ok,ki hb,hk.check,e];cases hfv:jm l k with
  |none=>
   simp only[fg,Sem.run_bind,xg hi hz,Result.andThen_ok,kj _ hb];rw[KE];exact⟨z,by simp[nX,fU,hfv,goInt]⟩
  |some i=>
   obtain⟨v0,hv⟩:=xV hfv;simp only[ri,hv,pL,Sem.run_bind,BZ];rw[Ji hk _ ah];simp only[Result.andThen_ok,kj _ hb];rw[Gs enc l i k v0 (λe=>{key:=enc k,val:=e.val,born:=e.born}) (λkv hkv=>by rw[hv]at hkv;cases hkv;rfl)]
   have:l.set i (k,v0)=l:=by
    apply rL
    intro j;rw[pM];split
    .rename_i e2;subst e2;rw[pD (px.1 hv).1,hv]
    .rfl
   rw[this];exact⟨v0,by simp[nX,fU,hfv,goInt]⟩
 obtain⟨v,hr⟩:=hr;rw[hr];obtain⟨hR,g⟩:=Gq (es':=jK enc (nX l k z)) (k':=(nX l k z).length) hh hob;refine hq _ _ E hR (.fy _ _ V λj c y e1 e2=>?_) g
 match j,e1,e2 with
 |0,e1,e2=>cases e1;exact .za _
 |1,e1,e2=>cases e1;cases e2;exact .v _ V
def find_born(enc:κ->Value)(l:List (κ×Value))(i:Nat)(hi:i<l.length):(jK enc l).findIdx? (λe=>(e.born:Int) == (i:Int))=some i:=by
 rw[Array.findIdx?_eq_some_iff_getElem];refine⟨by rw[Gl];exact hi,?_,?_⟩
 .have:=BZ enc l i;rw[pq hi,sB (by rw[Gl];exact hi)]at this;simp only[pL,rh]at this;rw[this];simp
 .intro j hj;have hjl:j<l.length:=by omega
  have:=BZ enc l j;rw[pq hjl,sB (by rw[Gl];exact hjl)]at this;simp only[pL,rh]at this;rw[this];simp;omega
def fE.entryStore(t:TypeId)(m x y:Operand)(ho:o.op=.entryStore t m x y){id b:Nat}{l:List (κ×Value)}(hob:H[id]?=some (ix b (jK enc l) l.length))(hm:ρ m=.v (.map (some b))){i:Nat}(hx:ρ x=.v (.int .i64 (i:Int)))(hi:i<l.length)
 (v:Value)(hy:∀E u,L E (ρ y) u->u=v):fE P o ρ H .un (H.set id (ix b (jK enc (l.set i (l[i].1,v))) (l.set i (l[i].1,v)).length)):=λw E σ hh hl K hq=>by
 have h1:=B5 (hm ▸ hl m uU);have h2:=jJ (hx ▸ hl x uU);have h3:=hy E _ (hl y uU);have hb:=EN hh hob
 have hr:(execOp σ o).run P w=.ok .skip {w with heap:=w.heap.setIfInBounds b (.map (jK enc (l.set i (l[i].1,v))) (l.set i (l[i].1,v)).length)}:=by
  unfold execOp;have hi0:(asInt (.int .i64 (i:Int))).run P w=.ok (i:Int) w:=rfl;simp only[ho,h1,h2,h3,Instr.entryStore,Sem.run_bind,Result.andThen_ok,ki hb,hi0,find_born enc l i hi,Sem.run_pure,kj _ hb];rw[Gs enc l i l[i].1 v (λe=>{key:=e.key,val:=v,born:=e.born}) (λkv hkv=>by rw[pq hi]at hkv;cases hkv;rfl)];simp
 rw[hr];obtain⟨hR,g⟩:=Gq (es':=jK enc (l.set i (l[i].1,v))) (k':=(l.set i (l[i].1,v)).length) hh hob;exact hq _ _ E hR .un g
end
end
section
variable {P:Program} {kt:TypeId}
def IS{κ:Type}[DecidableEq κ]{enc:κ->Value}(heq:∀(w:World) (a b:κ),(Op.equal kt (enc a) (enc b)).run P w=.ok (decide (a=b)) w)(w:World)(k:κ):∀(l:List (κ×Value)) (n j:Nat),
  (Instr.findAsking kt (enc k) (l.mapIdx λi kv=>⟨enc kv.1,kv.2,i+n⟩) j).run P w=.ok ((l.findIdx? λkv=>decide (kv.1=k)).bind λi=>(l[i]?).map λkv=>(i+j,kv.2)) w
 |[],n,j=>by simp[Instr.findAsking]
 |kv::l,n,j=>by
  have ih:=IS heq w k l (n+1) (j+1);rw[List.mapIdx_cons];unfold Instr.findAsking;simp only[Sem.run_bind,heq,Result.andThen_ok];by_cases e:k=kv.1
  .rw[pD (ai e)];simp[sG,e]
  .rw[pA (ai e)]
   have e2:(l.mapIdx λi kv=>(⟨enc kv.1,kv.2,i+1+n⟩:MapEntry))=l.mapIdx λi kv=>⟨enc kv.1,kv.2,i+(n+1)⟩:=by
    congr 1
    funext i kv
    congr 1
    omega
   rw[e2,ih,sG,pA (by simpa using λh=>e h.symm)]
   congr 1
   cases hf:l.findIdx? λkv=>decide (kv.1=k) with
   |none=>rfl
   |some i=>
    simp only[pL,ri,sx];cases l[i]? with
    |none=>rfl
    |some v=>simp;omega
def JS{d:TypeDesc}{κ:Type}[DecidableEq κ]{enc:κ->Value}(heq:∀(a b:κ),Instr.sameNow d (enc a) (enc b)=some (decide (a=b)))(k:κ):∀(l:List (κ×Value)) (n j:Nat),
  Instr.findNow d (enc k) (l.mapIdx λi kv=>⟨enc kv.1,kv.2,i+n⟩) j=some ((l.findIdx? λkv=>decide (kv.1=k)).bind λi=>(l[i]?).map λkv=>(i+j,kv.2))
 |[],n,j=>by simp[Instr.findNow]
 |kv::l,n,j=>by
  have ih:=JS heq k l (n+1) (j+1);rw[List.mapIdx_cons];unfold Instr.findNow;simp only[heq];by_cases e:k=kv.1
  .simp[sG,e]
  .have e2:(l.mapIdx λi kv=>(⟨enc kv.1,kv.2,i+1+n⟩:MapEntry))=l.mapIdx λi kv=>⟨enc kv.1,kv.2,i+(n+1)⟩:=by
    congr 1
    funext i kv
    congr 1
    omega
   rw[rW e];dsimp only;rw[e2,ih,sG,pA (by simpa using λh=>e h.symm)]
   congr 1
   cases hf:l.findIdx? λkv=>decide (kv.1=k) with
   |none=>rfl
   |some i=>
    simp only[pL,ri,sx];cases l[i]? with
    |none=>rfl
    |some v=>simp;omega
abbrev qo(n:Int):Value:=.int .i64 n
abbrev vR(k:Int×Int):Value:=.agg #[.int .i64 k.1,.int .i64 k.2]
def mu.int(hu:P.underlying kt=some (.int .i64)):mu P kt qo where
 check w em k:=by
  show(Instr.checkKey em (9999+1) kt _).run P w=_;unfold Instr.checkKey;simp[run_underlying hu]
 find w k l n:=by
  have:=JS (d:=.int .i64) (enc:=qo) (λa b=>by simp[Instr.sameNow];rfl) k l n 0;simp only[tv]at this;simp[Instr.findKey,run_underlying hu,this]
 bits k:=by simp[Instr.sameBits]
def mu.two{f g : Field}(hu : P.underlying kt = some (.struct #[f, g]))(f1 : f.offset = 0)(f2 : f.name ≠ "_")(f3 : P.underlying f.type = some (.int .i64))(g1 : g.offset = 1)(g2 : g.name ≠ "_")(g3 : P.underlying g.type = some (.int .i64))(hheld : nT P 9 kt = true)
 (he:∀a b:Int×Int,nJ P 9 kt (.agg [.v (.int .i64 a.1),.v (.int .i64 a.2)]) (.agg [.v (.int .i64 b.1),.v (.int .i64 b.2)])=some (a.1 == b.1 && (a.2 == b.2 && true))):mu P kt vR:=by
 have hL:∀k:Int×Int,L ⟨0,λ_ _=>0,λ_ _=>0,λ_ _=>none,λ_ _=>none⟩ (.agg [.v (.int .i64 k.1),.v (.int .i64 k.2)]) (vR k):=λk=>.agg _ _ V (λi c y e1 e2=>by
   match i,e1,e2 with
   |0,e1,e2=>cases e1;cases e2;exact .v _ V
   |1,e1,e2=>cases e1;cases e2;exact .v _ V) (by simp[Value.oneCell'])
 have heq:∀(w:World) (a b:Int×Int),(Op.equal kt (vR a) (vR b)).run P w=.ok (decide (a=b)) w:=λw a b=>by
  have:=Ef (d':=10000) 9 w hheld aj (hL a) (hL b) (he a b);show(Op.equalIn 10000 kt _ _).run P w=_;rw[this]
  congr 1
  obtain⟨a1,a2⟩:=a;obtain⟨b1,b2⟩:=b;rw[u6];simp
 refine⟨λw em k=>?_,λw k l n=>?_,λk=>?_⟩
 .show(Instr.checkKey em (9998+1+1) kt _).run P w=_;rw[Instr.checkKey]
  have c1:∀(fd:Field) (n:Int),P.underlying fd.type=some (.int .i64)->(Instr.checkKey em (9998+1) fd.type (.int .i64 n)).run P w=.ok () w:=λfd n h=>by
   rw[Instr.checkKey];simp[run_underlying h]
  have p1:(part f.type #[.int .i64 k.1,.int .i64 k.2] f.offset).run P w=.ok (.int .i64 k.1) w:=by
   simp[part,isAgg,run_underlying f3,f1]
  have p2:(part g.type #[.int .i64 k.1,.int .i64 k.2] g.offset).run P w=.ok (.int .i64 k.2) w:=by
   simp[part,isAgg,run_underlying g3,g1]
  simp[run_underlying hu,f2,g2,p1,p2,c1 f _ f3,c1 g _ g3]
 .rw[run_findKey_eq w (by rw[hu])];have:=IS heq w k l n 0;simp only[tv]at this;exact gI
 .show Instr.sameBits (9999+1) _ _=true;simp[Instr.sameBits]
end
abbrev mM:=Int×Value×Nat
variable{l:List mM}
def lh(l:List mM):Array MapEntry:=(l.map λe=>(⟨qo e.1,e.2.1,e.2.2⟩:MapEntry)).toArray
def vS(l:List mM)(x:Int):Option Nat:=l.findIdx? λe=>decide (e.1=x)
abbrev BQ(b:Nat)(l:List mM)(k:Nat)(t:List C):Ob:=kP 2 b (.map (lh l) k) t
def TZ(l:List mM)(x:Int)(v:Value)(k:Nat):(lh l).push ⟨qo x,v,k⟩=lh (l++[(x,v,k)]):=by
 apply uq.1
 simp[lh]
def Ke{x:Int}{i:Nat}(h:vS l x=some i):∃v n,l[i]?=some (x,v,n):=by
 unfold vS at h;rw[pT]at h;obtain⟨h1,h2,_⟩:=h;simp only[pY]at h2;exact⟨l[i].2.1,l[i].2.2,by rw[pq h1,<-h2]⟩
section
variable {P:Program} {kt:TypeId}
def Ll(k:Int):∀(l:List mM) (j:Nat),
  Instr.findNow (.int .i64) (qo k) (l.map λe=>(⟨qo e.1,e.2.1,e.2.2⟩:MapEntry)) j=some ((l.findIdx? λe=>decide (e.1=k)).bind λi=>(l[i]?).map λe=>(i+j,e.2.1))
 |[],j=>by simp[Instr.findNow]
 |e::l,j=>by
  have ih:=Ll k l (j+1);rw[tp];unfold Instr.findNow;have hs:Instr.sameNow (.int .i64) (qo k) (qo e.1)=some (decide (k=e.1)):=by simp[Instr.sameNow];rfl
  simp only[hs];by_cases h:k=e.1
  .simp[sG,h]
  .rw[rW h];dsimp only;rw[ih,sG,pA (by simpa using λh2=>h h2.symm)]
   congr 1
   cases hf:l.findIdx? λe=>decide (e.1=k) with
   |none=>rfl
   |some i=>
    simp only[pL,ri,sx];cases l[i]? with
    |none=>rfl
    |some v=>simp;omega
def La(hu:P.underlying kt=some (.int .i64))(l:List mM)(x:Int)(w:World):(Instr.findKey kt (qo x) (lh l).toList).run P w=.ok ((vS l x).bind λi=>(l[i]?).map λe=>(i,e.2.1)) w:=by
 have:=Ll x l 0;simp only[tv]at this;simp[Instr.findKey,run_underlying hu,lh,this,vS]
def Km(hu:P.underlying kt=some (.int .i64))(x:Int)(em:Bool)(w:World):(Instr.checkKey em 10000 kt (qo x)).run P w=.ok () w:=(mu.int hu).check w em x
end
section
variable {P:Program} {o:Oper} {ρ:Operand->C} {H:zq} {kt et:TypeId}
def L0{z id k:Nat}{t:List C}(hh:qx w E H)(hob:H[id]?=some (kP z b (.map es k) t)):w.heap[b]?=some (.map es k):=(hh.fA.iK id _ _ t hob V ⟨rfl,rfl⟩).1.1
def Kw{t:List C}{k:Nat}(h:lY E t (.map (lh l) k))(hlen:t.length=l.length):LL E t (l.map (·.2.1)):=by
 rcases h with h|⟨es,k',e,h⟩
 .have h1:t.length=0:=h.1;have:l=[]:=eQ an;subst this;simpa [Ic] using h
 .cases e
  simpa [lh,sJ,Function.comp_def] using h
def Sy{t:List C}{k:Nat}(h:LL E t (l.map (·.2.1))):lY E t (.map (lh l) k):=
 .inr ⟨_,_,rfl,by simpa [lh,sJ,Function.comp_def] using h⟩
def jC.Vy(t:TypeId)(ho:o.op=.makeMap t none)(hR:∀b,R (.v (.map (some b))) (H++[BQ b [] 0 []])):jC P o ρ H R:=λw E σ hh hl hc K hk=>by
 have hr:(execOp σ o).run P w=.ok (.value (.map (some w.heap.size))) (w.alloc (.map #[] 0)):=by
  unfold execOp;simp[ho,Kn]
 rw[hr];obtain⟨h1,h2⟩:=KP w (.map #[] 0);obtain⟨E1,h3,g⟩:=hh.newObj (z:=2) (w:=w.alloc (.map #[] 0)) (l:=w.heap.size) (r:=.map #[] 0) (t:=[]) V h2 V V V ah h1 (pN _) (.inl LL.nil);exact hk _ _ _ _ E1 (hR _) h3 (.v _ V) g
def TN{z id k k':Nat}{l':List mM}{t t':List C}(hh:qx w E H)(hob:H[id]?=some (kP z b (.map es k) t))(ht:lY E t (.map es k)->lY E t' (.map (lh l') k')):
  qx {w with heap:=w.heap.setIfInBounds b (.map (lh l') k')} E (H.set id (kP z b (.map (lh l') k') t'))/\Grow w E H {w with heap:=w.heap.setIfInBounds b (.map (lh l') k')} E (H.set id (kP z b (.map (lh l') k') t')):=
 hh.setObj (r':=.map (lh l') k') hob V ht
def Rj{k:Nat}(ht:P.underlying t=some (.map kt et))(hu:P.underlying kt=some (.int .i64))(hb:w.heap[b]?=some (.map (lh l) k)){x:Int}(hf:vS l x=none)(v:Value):
  (Instr.mapUpdate t (.map (some b)) (qo x) v).run P w=.ok () {w with heap:=w.heap.setIfInBounds b (.map (lh (l++[(x,v,k)])) (k+1))}:=by
 simp only[Instr.mapUpdate,Sem.run_bind,run_underlying ht,Result.andThen_ok,ki hb,Km hu,La hu,hf,fg,kj _ hb];rw[TZ]
def VQ{m x y:Operand}(ho:o.op=.mapUpdate t m x y\/o.op=.insert t m x y){a b c:Value}(h1:σ m=a)(h2:σ x=b)(h3:σ y=c){w':World}(h:(Instr.mapUpdate t a b c).run P w=.ok () w'):(execOp σ o).run P w=.ok .skip w':=by
 unfold execOp;rcases ho with ho|ho <;> simp[ho,h1,h2,h3,h]
def WT{m x y:Operand}(ho:o.op=.mapUpdate t m x y\/o.op=.insert t m x y):m∈o.op.operands/\x∈o.op.operands/\y∈o.op.operands:=by rcases ho with ho|ho <;> simp[ho,Op.operands]
def jC.qq(t:TypeId)(m x y:Operand)(ho:o.op=.mapUpdate t m x y\/o.op=.insert t m x y)(ht:P.underlying t=some (.map kt et))(hu:P.underlying kt=some (.int .i64)){id k:Nat}(hob:H[id]?=some (BQ b l k cs))(hlen:cs.length=l.length)
 (hm:ρ m=.v (.map (some b))){kx:Int}(hx:ρ x=.v (.int .i64 kx))(hf:vS l kx=none){R:C->zq->Prop}
 (hR:∀v,R .un (H.set id (BQ b (l++[(kx,v,k)]) (k+1) (cs++[ρ y])))):jC P o ρ H R:=λw E σ hh hl _ K hk=>by
 obtain⟨m1,m2,m3⟩:=WT ho;have hr:=VQ (P:=P) ho (B5 (hm ▸ hl m m1)) (jJ (hx ▸ hl x m2)) V (Rj ht hu (L0 hh hob) hf (σ y));rw[hr]
 obtain⟨h1,g⟩:=TN (l':=l++[(kx,σ y,k)]) (k':=k+1) (t':=cs++[ρ y]) hh hob λh=>Sy (by
  have:=(Kw h hlen).append (LL.one (hl y m3));simpa using this)
 exact hk _ _ _ _ E (hR (σ y)) h1 .un g
def UH{k:Nat}(ht:P.underlying t=some (.map kt et))(hu:P.underlying kt=some (.int .i64))(hb:w.heap[b]?=some (.map (lh l) k))(x:Int)(hi:P.info? et=some i)(hz:i.zero=some z)(ok:Bool):
  (Instr.lookup t (.map (some b)) (qo x) ok).run P w=.ok (if ok then .tuple #[((vS l x).bind λi=>(l[i]?).map (·.2.1)).getD z,.bool (vS l x).isSome] else ((vS l x).bind λi=>(l[i]?).map (·.2.1)).getD z) w:=by
 simp only[Instr.lookup,Sem.run_bind,run_underlying ht,Result.andThen_ok,ki hb,Sem.run_pure,Km hu,La hu];cases hf:vS l x with
 |none=>cases ok <;> simp[xg hi hz]
 |some i=>
  obtain⟨v,n,hv⟩:=Ke hf;cases ok <;> simp[hv]
def Xm{v:Value}{b:Bool}(h:L E c v):L E (.fy [c,.v (.bool b)]) (.tuple #[v,.bool b]):=.fy _ _ V λj c y e1 e2=>by
 match j,e1,e2 with
 |0,e1,e2=>cases e1;cases e2;exact h
 |1,e1,e2=>cases e1;cases e2;exact .v _ V
def fE.C6(t:TypeId)(x y:Operand)(ok:Bool)(ho:o.op=.lookup t x y ok)(ht:P.underlying t=some (.map kt et))(hu:P.underlying kt=some (.int .i64)){id k:Nat}(hob:H[id]?=some (BQ b l k cs))(hlen:cs.length=l.length)
 (hx:ρ x=.v (.map (some b))){kx:Int}(hy:ρ y=.v (.int .i64 kx)){i:TypeInfo}{z:Value}(hi:P.info? et=some i)(hz:i.zero=some z){j:Nat}(hf:vS l kx=some j){c:C}(hc:cs[j]?=some c):
  fE P o ρ H (if ok then .fy [c,.v (.bool true)] else c) H:=λw E σ hh hl K hk=>by
 have h1:=B5 (hx ▸ hl x uU);have h2:=jJ (hy ▸ hl y uU);obtain⟨v,n,hv⟩:=Ke hf;have hr:=UH (P:=P) ht hu (L0 hh hob) kx hi hz ok
 have hr2:(execOp σ o).run P w=.ok (.value (if ok then .tuple #[v,.bool true] else v)) w:=by
  unfold execOp;rw[ho];simp only[h1,h2,Sem.run_bind];rw[show(Value.int IntKind.i64 kx)=qo kx from V,hr,hf];simp[hv]
 rw[hr2];have hll:=Kw ((hh.fA.iK id _ _ cs hob V ⟨rfl,rfl⟩).2) hlen;have hL:L E c v:=hll.2 j c v hc (by rw[pw,hv];rfl);refine hk _ _ E hh ?_ (Grow.refl w E H);cases ok
 .exact hL
 .exact Xm hL
end
def vE:TypeDesc->Bool
 |.interface _=>false
 |_=>true
def HQ(P:Program)(t:TypeId)(name:String)(f:FuncId):Bool:=
 match P.info? t,P.underlying t with
 |some i,some d=>(match i.methods.find? (·.name == name) with
  |some m=>m.path.isEmpty && (match m.func with
   |some (g,p)=>g == f && !p
   |none=>false)
  |none=>false) && (match d with
  |.pointer _=>false
  |_=>true)
 |_,_=>false
section
variable {P:Program} {o:Oper} {ρ:Operand->C} {H:zq}
def fE.TM(t:TypeId)(x:Operand)(ho:o.op=.makeInterface t x)(hu:P.underlying t=some d)(hd:vE d=true):fE P o ρ H (.iq t (ρ x)) H:=λw E σ hh hl K hk=>by
 have hx:=hl x uU
 have hr:(execOp σ o).run P w=.ok (.value (.iface t (σ x))) w:=by
  unfold execOp;simp only[ho,Instr.makeInterface,Sem.run_bind,run_underlying hu,Result.andThen_ok];cases d <;> first|rfl|(simp[vE]at hd)
 rw[hr];exact hk _ w E hh (.iq t _ _ hx) (Grow.refl w E H)
def G0(h:L E (.iq t c) y):∃v,y=.iface t v/\L E c v:=by
 cases h with
 |iq t c y h=>exact⟨y,rfl,h⟩
def fE.Ur(x:Operand)(xT asT:TypeId)(ho:o.op=.typeAssert x xT asT true)(hx:ρ x=.iq asT c)(hu:P.underlying asT=some d)(hd:vE d=true):fE P o ρ H (.fy [c,.v (.bool true)]) H:=λw E σ hh hl K hk=>by
 obtain⟨v,hv,hL⟩:=G0 (hx ▸ hl x uU)
 have hr:(execOp σ o).run P w=.ok (.value (.tuple #[v,.bool true])) w:=by
  unfold execOp;simp only[ho,hv,Instr.typeAssert,Sem.run_bind,run_underlying hu,Result.andThen_ok];cases d <;> first|(simp[vE]at hd;done)|(simp;done)
 rw[hr];refine hk _ w E hh (.fy _ _ V λj c y e1 e2=>?_) (Grow.refl w E H)
 match j,e1,e2 with
 |0,e1,e2=>cases e1;cases e2;exact hL
 |1,e1,e2=>cases e1;cases e2;exact .v _ V
def fE.UD(x:Operand)(xT asT:TypeId)(ho:o.op=.typeAssert x xT asT true)(hx:ρ x=.iq t c)(hne:(t == asT)=false)(hu:P.underlying asT=some d)(hd:vE d=true)(hi:P.info? asT=some i)(hz:i.zero.isSome=true):
  fE P o ρ H (.fy [.za,.v (.bool false)]) H:=λw E σ hh hl K hk=>by
 obtain⟨v,hv,hL⟩:=G0 (hx ▸ hl x uU);obtain⟨z,hz⟩:=Option.isSome_iff_exists.1 hz;have hne:t≠asT:=ai hne
 have hr:(execOp σ o).run P w=.ok (.value (.tuple #[z,.bool false])) w:=by
  unfold execOp;simp only[ho,hv,Instr.typeAssert,Sem.run_bind,run_underlying hu,Result.andThen_ok];cases d <;> first|(simp[vE]at hd;done)|(simp[hne,xg hi hz];done)
 rw[hr];refine hk _ w E hh (.fy _ _ V λj c y e1 e2=>?_) (Grow.refl w E H)
 match j,e1,e2 with
 |0,e1,e2=>cases e1;exact .za _
 |1,e1,e2=>cases e1;cases e2;exact .v _ V
def fE.invoke(cl:Call)(ho:o.op=.call cl)(x:Operand)(name:String)(hcl:cl.callee=.invoke x name){t:TypeId}{c:C}(hx:ρ x=.iq t c){f:FuncId}(hm:HQ P t name f=true)(hcb:qv P f=true){r:C}{H':zq}
 (hs:zb P f H (c::(cl.args.toList.map ρ)) r H'):fE P o ρ H r H':=λw E σ hh hl K hk=>by
 obtain⟨v,hv,hL⟩:=G0 (hx ▸ hl x bn);unfold qv at hcb;split at hcb
 rotate_left
 .cases hcb
 rename_i fn hfn;simp only[pJ,rE]at hcb;have hname : fn.name ≠ "runtime.NumGoroutine" := by simpa using hcb.1
 have hbody:fn.body≠none:=bo
 have hmeth:∀k,(method (k+1) t v name).run P w=.ok (f,v) w:=λk=>by
  unfold HQ at hm;split at hm
  rotate_left
  .cases hm
  rename_i i d hi hu;simp only[pJ]at hm;obtain⟨hm,hd⟩:=hm;split at hm
  rotate_left
  .cases hm
  rename_i m hfind;simp only[pJ]at hm;obtain⟨hp,hf⟩:=hm;split at hf
  rotate_left
  .cases hf
  rename_i g p hg;simp only[pJ,rF,rE]at hf;obtain⟨rfl,rfl⟩:=hf;have hp0:m.path= #[]:=ai hp
  unfold method;simp only[Sem.run_bind,run_typeInfo w hi,Result.andThen_ok,hfind,hp0,follow,Sem.run_pure,hg,receiverAt,run_underlying hu];cases d <;> first|(simp at hd;done)|rfl
 obtain⟨k,hk0⟩:∃k,P.types.size+Made.depth=k+1:=⟨P.types.size+Made.depth-1,by unfold Made.depth;omega⟩
 have hr:(execOp σ o).run P w=.ok (.enter f (#[v]++cl.args.map σ)) w:=by
  have e0:(#[Value.iface t v]++cl.args.map σ)[0]?=some (.iface t v):=by rw[uv ah];rfl
  have e1:(#[Value.iface t v]++cl.args.map σ).extract 1 (#[Value.iface t v]++cl.args.map σ).size=cl.args.map σ:=by
   apply uq.1
   simp;exact sq ah
  have e2:(callMethod (.iface t v) name (cl.args.map σ)).run P w=.ok (.enter f (#[v]++cl.args.map σ)) w:=by
   unfold callMethod;simp[hk0,hmeth,callFunc,hfn,hname,hbody]
  unfold execOp;simp only[ho,resolve,hcl,hv,Sem.run_bind,Sem.run_pure,Result.andThen_ok,Go.invoke,e0,e1,e2]
 rw[hr];refine(hs w E (#[v]++cl.args.map σ) hh ?_).mono ?_
 .have e3:LL E (cl.args.toList.map ρ) (cl.args.map σ).toList:=by
   refine⟨ah,?_⟩;intro i c y hc hy;rw[pw]at hc;rw[eD,pw]at hy;cases ha:cl.args.toList[i]? with
   |none=>rw[ha]at hc;cases hc
   |some a=>
    rw[ha]at hc hy;cases hc
    cases hy
    exact gX
  have:=(LL.one hL).append e3;simpa using this
 .rintro e w' ⟨v',E',rfl,h5,h6,h7⟩;exact⟨v',rfl,hk v' w' E' h5 h6 h7⟩
end
end Go.Ab
