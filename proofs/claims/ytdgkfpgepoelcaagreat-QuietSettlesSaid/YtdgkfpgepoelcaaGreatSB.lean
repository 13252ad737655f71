import Derived.Still
import Derived.Laws.Pointers
import Derived.Laws.StructEq
import Derived.Laws.Cover3
import Derived.ChangeKeysEq
import Derived.Laws.BytesArg
import Derived.RangeFuncRecord
import Derived.Carry
import Derived.MapKept
import Derived.WideKeyRuns
import Derived.Maps.RangeRun
import Derived.Test.YtdgkfpgepoelcaaGreatSA
set_option linter.all false
set_option maxRecDepth 100000
set_option maxHeartbeats 4000000
namespace Go.Ab
variable{e t:TypeId}{i:TypeInfo}{α υ:Type}{d:TypeDesc}{H H':zf}{x:Nat×List (List C)}{w:World}{E E':Env}{sz b fo clock:Nat}{rows:List (List C)}{vals:List Value}{cur:Array Value}{y z:Value}{ob ob':Ob}{cs args:List C}{dst:Option Tmp}{c r:C}{o:Oper}{s:S}{K:S->Prop}{hops:List rT}{fn:Func}{f:FuncId}{R:C->zf->Prop}{σ:Operand->Value}{lo:Option Operand}{ρ:Operand->C}{P:Program}{es:Array MapEntry}
def jg(H:zf)(id:Nat):zf:=H.modify id λob=>match ob with
 |⟨_,ty,sz,rows,fz⟩=>⟨0,ty,sz,rows,fz⟩
def jZ(H:zf)(id j:Nat):(jg H id)[j]?=(H[j]?).map λob=>if id=j then {ob with kind:=0} else ob:=by
 unfold jg;rw[dR]
 rfl
def jR{id:Nat}{id':Nat}{p:List rT}(h:zB (jg H id) id' p=some x):id'≠id/\zB H id' p=some x:=by
 obtain⟨ob,ho,hk,hg⟩:=qd h;rw[jZ]at ho;cases hx:H[id']? with
 |none=>rw[hx]at ho;cases ho
 |some ob0=>
  rw[hx]at ho;simp only[dc,dj]at ho;by_cases hid:id=id'
  .subst hid;simp at ho;subst ho;simp at hk
  .rw[c6 hid]at ho;subst ho;refine⟨Ne.symm hid,?_⟩;unfold zB;rw[hx];simp only[hk,if_true];exact hg
def zD.kill(h:zD w E H)(id:Nat):zD w E (jg H id) where
 n:=by rw[h.n];simp[jg]
 rM id' ob p sz rows hob hx:=by
  obtain⟨h1,h2⟩:=jR hx;rw[jZ]at hob;cases hx':H[id']? with
  |none=>rw[hx']at hob;cases hob
  |some ob0=>
   rw[hx']at hob;simp only[dc,dj,c6 (Ne.symm h1)]at hob;subst hob;exact h.rM id' _ p sz rows hx' h2
 inj id1 p1 id2 p2 x y hx hy he:=h.inj id1 p1 id2 p2 x y (jR hx).2 (jR hy).2 he
 zK:=h.zK
 sep id' p x o u hx hu:=by
  obtain⟨h1,h2⟩:=jR hx;obtain⟨e1,ob,e2,e3⟩:=h.sep id' p x o u h2 hu;refine⟨e1,ob,?_,e3⟩;rw[jZ,e2];simp[Ne.symm h1]
 ty id' ob hob hk:=by
  rw[jZ]at hob;cases hx':H[id']? with
  |none=>rw[hx']at hob;cases hob
  |some ob0=>
   rw[hx']at hob;simp only[dc,dj]at hob;by_cases hid:id=id'
   .rw[c7 hid]at hob;subst hob;simp at hk
   .rw[c6 hid]at hob;subst hob;exact h.ty id' _ hx' hk
 fz id' ob hob:=by
  rw[jZ]at hob;cases hx':H[id']? with
  |none=>rw[hx']at hob;cases hob
  |some ob0=>
   rw[hx']at hob;simp only[dc,dj]at hob;have h0:=h.fz id' ob0 hx';subst hob;split <;> exact h0
def zR.kill(w:World)(E:Env)(H:zf)(id:Nat):zR w E H w E (jg H id):=
 ⟨Env.le.refl E,λ_ _ _=>V,rfl,rfl,rfl,de _,λ_ _ _=>V,λ_ _ _ h=>.inl h,λb ⟨id',p,x,hx,he⟩=>.inr ⟨id',p,x,(jR hx).2,he⟩⟩
def Env.again(E:Env)(id:Nat):Env:=
 {n:=E.n+1,β:=λid' hops=>if id'=E.n then E.β id hops else E.β id' hops,κ:=λid' hops=>if id'=E.n then E.κ id hops else E.κ id' hops,St:=E.St,G:=E.G}
def Env.Hn(E:Env)(id:Nat):E.le (E.again id):=
 ⟨Nat.le_succ _,λid' hops h=>by simp[Env.again,g8 h],λid' hops h=>by simp[Env.again,g8 h],λb o u h=>h,λ_ _ _ _ h=>h⟩
def zD.drew{w:World}{E:Env}{H:zf}(h:zD w E H):zD w.drew E H:=
 ⟨h.n,λid ob p sz rows h1 h2=>let b:=h.rM id ob p sz rows h1 h2;⟨b.len,b.row,b.rM⟩,h.inj,h.zK,h.sep,h.ty,h.fz⟩
def zR.drew(w:World)(E:Env)(H:zf):zR w E H w.drew E H:=
 ⟨Env.le.refl E,λ_ _ _=>V,rfl,rfl,rfl,de _,λ_ _ _=>V,λ_ _ _ h=>.inl h,λ_ h=>.inr h⟩
def xI.zy{E:Env}{sz:Nat}{rows:List (List C)}{vals:List Value}(h:xI E sz rows vals){i k:Nat}{c:C}(hc:cellAt rows i k=some c):zy c=true:=by
 obtain⟨u,_,hl⟩:=h.cell i k c hc;cases hl with
 |rG o sz rows b off cap us ho _ _ _ _=>rcases ho with rfl|⟨rfl,_⟩ <;> rfl
 |q6 o sz ho=>rcases ho with rfl|rfl <;> rfl
 |_=>rfl
def zD.mB(h:zD w E H)(ty:TypeId){κ:Nat}(hr:xI E sz rows vals)(hlen:rows.length<=κ)(hcur:cur.size=κ*sz)
 (htake:cur.toList.take vals.length=vals):
  zD (w.alloc (.cells cur ty)) (E.push w.heap.size κ) (H++[⟨2,ty,sz,rows,0⟩])/\zR w E H (w.alloc (.cells cur ty)) (E.push w.heap.size κ) (H++[⟨2,ty,sz,rows,0⟩]):=by
 refine h.push 2 ty sz κ rows cur (.inr V) hr.row hlen hcur (λi k c hc=>hr.zy hc) ?_;intro i k c hc;obtain⟨u,hu,hl⟩:=hr.cell i k c hc;refine⟨u,?_,by simpa [Env.at] using hl,hr.one u (cZ hu)⟩;rw[<-htake,du]at hu;split at hu
 .simpa using hu
 .cases hu
def zD.GY(h:zD w E H)(ty:TypeId){κ:Nat}(hr:xI E sz rows vals)(hlen:rows.length<=κ)(hcur:cur.size=κ*sz)
 (htake:cur.toList.take vals.length=vals)(fz:Nat)(hfz:fz<=rows.length):
  zD (w.alloc (.cells cur ty)) (E.push w.heap.size κ) (H++[⟨2,ty,sz,rows,fz⟩])/\zR w E H (w.alloc (.cells cur ty)) (E.push w.heap.size κ) (H++[⟨2,ty,sz,rows,fz⟩]):=by
 obtain⟨h1,h2⟩:=h.mB ty hr hlen hcur htake
 have hgb:∀id p,zB (H++[⟨2,ty,sz,rows,fz⟩]) id p=zB (H++[⟨2,ty,sz,rows,0⟩]) id p:=by
  intro id p;unfold zB;by_cases rF:id<H.length
  .rw[da rF,da rF]
  .rw[dg ah,dg ah];cases id-H.length <;> simp
 have hob:∀id ob,(H++[⟨2,ty,sz,rows,fz⟩])[id]?=some ob->∃ob',(H++[⟨2,ty,sz,rows,0⟩])[id]?=some ob'/\ob.kind=ob'.kind/\ob.ty=ob'.ty/\(id<H.length->ob=ob')/\(¬id<H.length->ob.fz=fz/\ob.rows=rows):=by
  intro id ob hob;by_cases rF:id<H.length
  .rw[da rF]at hob;exact⟨ob,by rw[da rF];exact hob,rfl,rfl,λ_=>V,λhn=>absurd rF hn⟩
  .rw[dg ah]at hob;rw[dg ah];cases hd:id-H.length with
   |zero=>rw[hd]at hob;simp at hob;subst hob;exact⟨_,rfl,rfl,rfl,λhl=>absurd hl rF,λ_=>⟨rfl,rfl⟩⟩
   |succ n=>rw[hd]at hob;simp at hob
 refine⟨⟨by rw[h1.n];simp,?_,?_,h1.zK,?_,?_,?_⟩,⟨h2.le,h2.fA,h2.os,h2.tape,h2.output,h2.size,h2.frame,h2.qB,?_⟩⟩
 .intro id ob p s2 r2 h3 h4;obtain⟨ob',h5,h6,_⟩:=hob id ob h3;rw[hgb]at h4;rw[h6];exact h1.rM id ob' p s2 r2 h5 h4
 .intro id p id' p' x y hx hy he;rw[hgb]at hx hy;exact h1.inj id p id' p' x y hx hy he
 .intro id p x o u hx hu;rw[hgb]at hx;obtain⟨e1,ob,e2,e3⟩:=h1.sep id p x o u hx hu;refine⟨e1,?_⟩;by_cases rF:id<H.length
  .rw[da rF]at e2|-;exact⟨ob,e2,e3⟩
  .exfalso
   have h5:=(cW.1 e2).1;simp at h5;have:id=H.length:=ah
   subst this;simp at e2;subst e2;simp at e3
 .intro id ob h3 h4;obtain⟨ob',h5,h6,h7,_⟩:=hob id ob h3;rw[h7];exact h1.ty id ob' h5 (by rw[<-h6];exact h4)
 .intro id ob h3;obtain⟨ob',h5,_,_,h8,h9⟩:=hob id ob h3;by_cases rF:id<H.length
  .rw[h8 rF];exact h1.fz id ob' h5
  .obtain⟨e1,e2⟩:=h9 rF;rw[e1,e2];exact hfz
 .rintro b ⟨id,p,x,hx,hb⟩;rw[hgb]at hx;exact h2.own b ⟨id,p,x,hx,hb⟩
def nw(hn:E.n=H.length)(g κ sz len:Nat)(full:Bool)(cap:Nat)(hlen:len<=cap)(hf:full=true->cap=len)(hf':full=false->cap=κ):
  L (E.push g κ) (.sl H.length [] sz 0 len full) (.slice (some ⟨g,0,none⟩) len cap):=by
 have:=L.sl (E:=E.push g κ) H.length [] sz 0 len full cap (by simp[Env.push,hn]) hlen hf (λe=>by simp[Env.push,hn,hf' e]);have hb:(E.push g κ).β H.length []=g:=by simp[Env.push,hn]
 rw[hb,pA]at this;exact cQ
def zD.again{w:World}{E:Env}{H:zf}(hh:zD w E H){id:Nat}{ob:Ob}(hob:H[id]?=some ob)(hkd:ob.kind=2){rows:List (List C)}{vals:List Value}(zF:xI E ob.sz rows vals)
 {cur cur':Array Value}(hg:w.heap[E.β id []]?=some (.cells cur ob.ty (0,0)))(hsize:cur'.size=E.κ id []*ob.sz)(hlen:rows.length<=E.κ id [])(htake:cur'.toList.take vals.length=vals)(hfz:ob.fz<=rows.length)
 (hst:∀o u,E.St (E.β id []) o=some u->cur'[o]?=some u):
  zD (w.setRow (E.β id []) cur') (E.again id) (jg H id++[⟨2,ob.ty,ob.sz,rows,ob.fz⟩])/\zR w E H (w.setRow (E.β id []) cur') (E.again id) (jg H id++[⟨2,ob.ty,ob.sz,rows,ob.fz⟩]):=by
 have hgb:zB H id []=some (ob.sz,ob.rows):=by unfold zB;rw[hob];simp[hkd,z5]
 have hnew:∀hops,(E.again id).β H.length hops=E.β id hops:=λhops=>by simp[Env.again,hh.n]
 have hle:=E.Hn id;have hold':∀id' hops,id'<H.length->(E.again id).β id' hops=E.β id' hops:=λid' hops rF=>hle.β id' hops bd
 have hkl:(jg H id).length=H.length:=by simp[jg]
 have get:∀id' p x,zB (jg H id++[⟨2,ob.ty,ob.sz,rows,ob.fz⟩]) id' p=some x->(id'<H.length/\id'≠id/\zB H id' p=some x)\/(id'=H.length/\p=[]/\x=(ob.sz,rows)):=by
  intro id' p x hx';by_cases rF:id'<H.length
  .rw[xB (by rw[hkl];exact rF)]at hx';obtain⟨h5,h6⟩:=jR hx';exact .inl ⟨rF,h5,h6⟩
  .have h5:=y8 hx';simp[hkl]at h5;have:id'=H.length:=by omega
   subst this;simp only[zB,<-hkl,dg (de _),gU,pI]at hx';rw[c7 aj]at hx';obtain⟨h6,h7⟩:=xV (λi k c hc=>zF.zy hc) hx';exact .inr ⟨rfl,h6,h7⟩
 have hdiff:∀id' p x,id'≠id->zB H id' p=some x->E.β id' p≠E.β id []:=λid' p x hne' hx' he=>hne' (hh.inj id' p id [] _ _ hx' hgb he).1
 have hget:∀id' ob',(jg H id++[⟨2,ob.ty,ob.sz,rows,ob.fz⟩])[id']?=some ob'->(id'<H.length/\∃ob0,H[id']?=some ob0/\((id'=id/\ob'={ob0 with kind:=0})\/(id'≠id/\ob'=ob0)))\/(id'=H.length/\ob'=⟨2,ob.ty,ob.sz,rows,ob.fz⟩):=by
  intro id' ob' hob';by_cases rF:id'<H.length
  .left
   rw[da (by rw[hkl];exact rF),jZ]at hob';cases hx3:H[id']? with
   |none=>rw[hx3]at hob';cases hob'
   |some ob0=>
    rw[hx3]at hob';simp only[dc,dj]at hob';refine⟨rF,ob0,rfl,?_⟩;by_cases hid:id=id'
    .subst hid;rw[c7 V]at hob';exact .inl ⟨rfl,hob'.symm⟩
    .rw[c6 hid]at hob';exact .inr ⟨Ne.symm hid,hob'.symm⟩
  .right
   have h1:=(cW.1 hob').1;simp[hkl]at h1;have:id'=H.length:=ah
   subst this;rw[<-hkl]at hob';simp at hob';exact⟨rfl,hob'.symm⟩
 refine⟨⟨by simp[Env.again,hh.n,hkl],?_,?_,?_,?_,?_,?_⟩,⟨hle,λ_ _ _=>V,rfl,rfl,rfl,by simp[World.setRow],?_,λb o' u hu'=>.inl hu',?_⟩⟩
 .intro id' ob' p sz' r' hob' hx';rcases get id' p _ hx' with⟨rF,hne',hx2⟩|⟨rfl,rfl,hx2⟩
  .rcases hget id' ob' hob' with⟨_,ob0,h1,⟨h2,_⟩|⟨_,h2⟩⟩|⟨h2,_⟩
   .exact absurd h2 hne'
   .subst h2;exact(hh.rM id' _ p sz' r' h1 hx2).step hle bd (setRow_other w _ _ _ (hdiff id' p _ hne' hx2))
   .omega
  .cases hx2
   rcases hget _ ob' hob' with⟨h1,_⟩|⟨_,h2⟩
   .omega
   .subst h2;refine⟨by simp[Env.again,hh.n];exact hlen,zF.row,cur',ob.ty,by rw[hnew];exact setRow_heap w _ cur cur' _ _ hg,by simp[Env.again,hh.n];exact hsize,?_⟩;intro i' k c hc;obtain⟨u,hu',hl'⟩:=zF.cell i' k c hc;refine⟨u,?_,(z6.loose (zF.zy hc)).2 ⟨by simpa [Env.at] using hl'.mono hle.shut,zF.one u (cZ hu')⟩⟩;rw[<-htake,du]at hu';split at hu'
    .simpa using hu'
    .cases hu'
 .intro id1 p1 id2 p2 x y hx' hy' he;rcases get id1 p1 _ hx' with⟨rF,hne',hx2⟩|⟨rfl,rfl,_⟩ <;> rcases get id2 p2 _ hy' with⟨hlt',hne2,hy2⟩|⟨rfl,rfl,_⟩
  .rw[hold' id1 p1 rF,hold' id2 p2 hlt']at he;exact hh.inj id1 p1 id2 p2 x y hx2 hy2 he
  .rw[hold' id1 p1 rF,hnew]at he;exact absurd he (hdiff id1 p1 _ hne' hx2)
  .rw[hold' id2 p2 hlt',hnew]at he;exact absurd he.symm (hdiff id2 p2 _ hne2 hy2)
  .exact⟨rfl,rfl⟩
 .intro b o' u hu';refine⟨?_,(hh.zK b o' u hu').2⟩;have hst':=(hh.zK b o' u hu').1;by_cases hbb:b=E.β id []
  .subst hbb;unfold World.cell?;rw[setRow_heap w _ cur cur' _ _ hg];simpa using hst o' u hu'
  .unfold World.cell? at hst'|-;simp only[setRow_other w _ _ _ hbb];exact hst'
 .intro id' p x o' u hx' hu';rcases get id' p _ hx' with⟨rF,hne',hx2⟩|⟨rfl,rfl,_⟩
  .rw[hold' id' p rF]at hu';obtain⟨e1,ob0,e2,e3⟩:=hh.sep id' p _ o' u hx2 hu';refine⟨e1,ob0,?_,e3⟩;rw[da (by rw[hkl];exact rF),jZ,e2];simp[Ne.symm hne']
  .rw[hnew]at hu';obtain⟨_,ob0,e2,e3⟩:=hh.sep id [] _ o' u hgb hu';rw[hob]at e2;cases e2
   exact⟨rfl,⟨2,ob.ty,ob.sz,rows,ob.fz⟩,by rw[<-hkl];simp,e3⟩
 .intro id' ob' hob' hk';rcases hget id' ob' hob' with⟨rF,ob0,h1,⟨_,h2⟩|⟨hne',h2⟩⟩|⟨rfl,h2⟩
  .subst h2;simp at hk'
  .subst h2;obtain⟨cur0,hc0⟩:=hh.ty id' _ h1 hk';rw[hold' id' [] rF];by_cases hbb:E.β id' []=E.β id []
   .rw[hbb]at hc0|-;rw[hg]at hc0
    injection hc0 with hc0
    injection hc0 with h7 h8
    exact⟨cur',by rw[<-h8];exact setRow_heap w _ cur cur' _ _ hg⟩
   .exact⟨cur0,by rw[setRow_other w _ _ _ hbb];exact hc0⟩
  .subst h2;exact⟨cur',by rw[hnew];exact setRow_heap w _ cur cur' _ _ hg⟩
 .intro id' ob' hob';rcases hget id' ob' hob' with⟨rF,ob0,h1,⟨_,h2⟩|⟨_,h2⟩⟩|⟨rfl,h2⟩
  .subst h2;exact hh.fz id' ob0 h1
  .subst h2;exact hh.fz id' _ h1
  .subst h2;exact hfz
 .intro k hk ho;exact setRow_other w _ _ _ (λe'=>ho ⟨id,[],_,hgb,e'.symm⟩)
 .rintro b ⟨id',p,x,hx',rfl⟩
  right
  rcases get id' p _ hx' with⟨rF,_,hx2⟩|⟨rfl,rfl,_⟩
  .exact⟨id',p,x,hx2,by rw[hold' id' p rF]⟩
  .exact⟨id,[],_,hgb,by rw[hnew]⟩
section
variable {P:Program} {o:Oper} {ρ:Operand->C} {H:zf}
structure tP(P:Program)(cl:Call)(x y:Operand)(e:TypeId)(i:TypeInfo)(z:Value):Prop where
 callee:cl.callee=.builtin .append
 args:cl.args= #[x,y]
 ty:∃t,cl.argTypes= #[t,t]/\P.underlying t=some (.slice e)
 info:P.info? e=some i
 zero:i.zero=some z
 nF:z.cells.size=i.size
def xz{cl:Call}(ho:o.op=.call cl){x y:Operand}(ht:tP P cl x y e i z)(σ:Operand->Value)(w:World):
  ∃t,P.underlying t=some (.slice e)/\∀v w',(Builtin.append_ #[t,t] o.type #[σ x,σ y]).run P w=.ok v w'->(execOp σ o).run P w=.ok (.value v) w':=by
 obtain⟨t,h1,h2⟩:=ht.ty;refine⟨t,h2,λv w' hr=>?_⟩;unfold execOp;simp[ho,resolve,ht.callee,ht.args,h1,invoke,builtin,hr]
def zU.Fs(cl:Call)(ho:o.op=.call cl)(x y:Operand)(ht:tP P cl x y e i z){sz':Nat}(hx:jc H (ρ x)=some (sz,rows))
 (hy:jc H (ρ y)=some (sz',[])):zU P o ρ H (ρ x) H:=λw E σ hh hl K hk=>by
 have h0:=hl x uT;have h1:=hl y uT;obtain⟨t,hu,hexec⟩:=xz ho ht σ w
 have hyv:∃a cap,σ y=.slice a 0 cap:=by
  rcases jt hh h1 hy with⟨_,e1⟩|⟨a,cap,vals,e1,_⟩
  .exact⟨none,0,e1⟩
  .exact⟨some a,cap,e1⟩
 obtain⟨a,cap,hyv⟩:=hyv
 have hr:(Builtin.append_ #[t,t] o.type #[σ x,σ y]).run P w=.ok (σ x) w:=by
  rcases jt hh h0 hx with⟨_,e1⟩|⟨a',cap',vals,e1,hcap,_⟩
  .cases a <;> simp[Builtin.append_,run_underlying hu,sizeOf,typeInfo,ht.info,Builtin.lenOf,hyv,e1,Builtin.firstCells,loadCells,loadCellsFrom]
  .cases a <;> simp[Builtin.append_,run_underlying hu,sizeOf,typeInfo,ht.info,Builtin.lenOf,hyv,e1,hcap,Builtin.firstCells,loadCells,loadCellsFrom,storeCells]
 rw[hexec _ _ hr];exact hk _ w E hh h0 (zR.refl w E H)
def zU.Fq(cl:Call)(ho:o.op=.call cl)(x y:Operand)(ht:tP P cl x y e i z)(hx:ρ x=.rG 1 sz rows)(hsz:rows=[]\/sz=i.size)
 {rows':List (List C)}(hy:jc H (ρ y)=some (i.size,rows'))(hne:rows'≠[])(hm:rows.length+rows'.length<=maxLen)(hb:(rows.length+rows'.length)*i.bytes<=140737488355328):
  zU P o ρ H (.sl H.length [] i.size 0 (rows.length+rows'.length) false) (H++[⟨2,e,i.size,rows++rows',0⟩]):=λw E σ hh hl K hk=>by
 have h0:=hl x uT;have h1:=hl y uT;obtain⟨t,hu,hexec⟩:=xz ho ht σ w;have hpos:0<rows'.length:=pY.2 hne;have hsmall:rows.length+rows'.length<=9223372036854775807:=bf
 rcases jt hh h1 hy with⟨e1,_⟩|⟨a,cap,vals,e1,_,hrows,hmem⟩
 .exact absurd e1 hne
 have hold:∃olds,xI E i.size rows olds/\((rows=[]/\σ x=.slice none 0 0)\/∃b,σ x=.slice (some b) rows.length rows.length/\∀(j:Nat) u,olds[j]?=some u->w.cell? (b.add j)=some u):=by
  rw[hx]at h0;have hrx:jc H (.rG 1 sz rows)=some (sz,rows):=by simp[jc]
  rcases jt hh h0 hrx with⟨e2,e3⟩|⟨b,cap',olds,e3,hcap',hro,hmo⟩
  .subst e2;exact⟨[],⟨aj,aj,by simp[cellAt],aj⟩,.inl ⟨rfl,e3⟩⟩
  .have hfull:cap'=rows.length:=by
    rw[e3]at h0;cases h0 with
    |rG o sz rows b off cap us ho hc hsz' hst hL=>rcases ho with h|⟨_,h⟩;cases h;exact h
    |q6 o sz ho a=>rfl
   rw[hfull]at e3;rcases hsz with rfl|rfl
   .exact⟨[],⟨aj,aj,by simp[cellAt],aj⟩,.inr ⟨b,e3,aj⟩⟩
   .exact⟨olds,hro,.inr ⟨b,e3,hmo⟩⟩
 obtain⟨olds,hro,hcase⟩:=hold;have zF:=hro.append hrows;have hz:=ht.nF
 have fin:∀(v:Value) (cap':Nat) (w':World),rows.length+rows'.length<=cap'->w'=w.drew.alloc (.cells ((olds++vals).toArray++Builtin.zeroCells z.cells (cap'-(rows.length+rows'.length))) e)->
   v=.slice (some ⟨w.heap.size,0,none⟩) (rows.length+rows'.length) cap'->(Builtin.append_ #[t,t] o.type #[σ x,σ y]).run P w=.ok v w'->sY P K ((execOp σ o).run P w):=by
  intro v cap' w' hcap' hw hv hr;rw[hexec _ _ hr]
  have hsize:((olds++vals).toArray++Builtin.zeroCells z.cells (cap'-(rows.length+rows'.length))).size=cap'*i.size:=by
   have h2:(olds++vals).length=(rows.length+rows'.length)*i.size:=by rw[zF.len,dX]
   simp only[rm,pK,size_zeroCells,hz];rw[h2,<-dN]
   congr 1
   omega
  have:=hh.drew.mB e (κ:=cap') (zF) (cur:=(olds++vals).toArray++Builtin.zeroCells z.cells (cap'-(rows.length+rows'.length))) (ak hcap') hsize (by rw[gX];exact pH);subst hw;subst hv;refine hk _ _ _ this.1 ?_ ((zR.drew w E H).trans this.2);exact nw hh.n _ _ _ _ false cap' hcap' aj (λ_=>V)
 rcases hcase with⟨rfl,e3⟩|⟨b,e3,hmo⟩
 .have holds0:olds=[]:=pW (ak hro.len);subst holds0;have hr:=run_append_nil (P:=P) w t o.type e i z hu ht.info ht.zero a rows'.length cap vals hrows.len hmem hpos (by simp at hsmall;omega) (by simp at hb;omega);rw[<-e3,<-e1]at hr;refine fin _ (grownCap w rows'.length 0 e) _ ?_ ?_ ?_ hr
  .simpa using grownCap_ge w rows'.length 0 e
  .simp
  .simp
 .have hr:=run_append_grow (P:=P) w t o.type e i z hu ht.info ht.zero b rows.length rows.length olds hro.len hmo a rows'.length cap vals hrows.len hmem ah ah (growslice_fits ah hb);rw[<-e3,<-e1]at hr;refine fin _ (grownCap w (rows.length+rows'.length) rows.length e) _ ?_ ?_ V hr
  .exact grownCap_ge w _ _ e
  .simp
def zU.GB(cl:Call)(ho:o.op=.call cl)(x y:Operand)(ht:tP P cl x y e i z){id n:Nat}(hx:ρ x=.sl id [] i.size 0 n false)(hob:H[id]?=some ob)
 (hkd:ob.kind=2)(hty:ob.ty=e)(hsz:ob.sz=i.size)(hn:ob.rows.length=n)(hno:ob.rows.all (·.all zy)=true)
 {rows':List (List C)}(hy:jc H (ρ y)=some (i.size,rows'))(hne:rows'≠[])(hm:n+rows'.length<=maxLen)(hb:(n+rows'.length)*i.bytes<=140737488355328):
  zU P o ρ H (.sl H.length [] i.size 0 (n+rows'.length) false) (jg H id++[⟨2,e,i.size,ob.rows++rows',ob.fz⟩]):=λw E σ hh hl K hk=>by
 subst hn;have h0:=hl x uT;have h1:=hl y uT;obtain⟨t,hu,hexec⟩:=xz ho ht σ w;have hpos:0<rows'.length:=pY.2 hne;have hsmall:ob.rows.length+rows'.length<=9223372036854775807:=bf
 have hgb:zB H id []=some (i.size,ob.rows):=by unfold zB;rw[hob];simp[hkd,z5,hsz]
 rcases jt hh h1 hy with⟨e1,_⟩|⟨a,cap,vals,e1,_,hrows,hmem⟩
 .exact absurd e1 hne
 have hrx:jc H (ρ x)=some (i.size,ob.rows):=by
  rw[hx];simp only[jc,hob,hgb];rw[c7]
  .simp
  .simp only[c9,dH,dm];refine⟨⟨⟨trivial,hkd⟩,ah⟩,ak hno⟩
 have hB:=hh.rM id ob [] _ _ hob hgb;obtain⟨cur,e',hg,hcs,hcell⟩:=hB.rM;obtain⟨cur2,hg2⟩:=hh.ty id ob hob hkd;rw[hg]at hg2;cases hg2
 rw[hty]at hg
 have hxv:σ x=.slice (some ⟨E.β id [],0,none⟩) ob.rows.length (E.κ id []):=by
  rw[hx]at h0;generalize σ x=u at *;cases h0 with
  |sl id hops sz lo len full cap hn hlen hf hf'=>
   have:=hf' V;simp at this;subst this;simp
 rcases jt hh h0 hrx with⟨_,e3⟩|⟨b,cap',olds,e3,hcap',hro,hmo⟩
 .rw[hxv]at e3;cases e3
 rw[hxv]at e3;cases e3
 have zF:=hro.append hrows;have hz:=ht.nF
 have holds:cur.toList.take olds.length=olds:=by
  apply dS
  intro j;rw[du];split
  .rename_i hj;have h3:=hmo j olds[j] (by simp[hj]);rw[qX]at h3;unfold World.cell? at h3;rw[hg]at h3;simp at h3;simp[hj,h3]
  .rename_i hj;rw[dZ ah]
 by_cases hroom:ob.rows.length+rows'.length<=E.κ id []
 ·
  have hfit:ob.rows.length*i.size+vals.length<=cur.size:=bh
  have hr:=run_append_room (P:=P) w t o.type e i hu ht.info (E.β id []) ob.rows.length (E.κ id []) cur hg a rows'.length cap vals hrows.len hmem hrows.one hroom hfit;rw[<-hxv,<-e1]at hr;rw[hexec _ _ hr];obtain⟨cur',hcur'⟩:∃cur',cur'=(cur.toList.take (ob.rows.length*i.size)++vals++cur.toList.drop (ob.rows.length*i.size+vals.length)).toArray:=⟨_,rfl⟩;rw[<-hcur'];have hlo:ob.rows.length*i.size=olds.length:=hro.len.symm
  have htake:cur'.toList.take (olds++vals).length=olds++vals:=by
   rw[hcur',hlo,holds];exact pH
  have hsize:cur'.size=E.κ id []*ob.sz:=by rw[hsz,<-hcs,hcur'];simp;omega
  have hA:=hh.again hob hkd (rows:=ob.rows++rows') (vals:=olds++vals) (by rw[hsz];exact zF) (cur:=cur) (cur':=cur') (by rw[hty];exact hg) hsize (ak hroom) htake (by have:=hh.fz id ob hob;simp;omega) ?_
  .rw[hsz,hty]at hA;refine hk _ _ _ hA.1 ?_ hA.2;have:=L.sl (E:=E.again id) H.length [] i.size 0 (ob.rows.length+rows'.length) false (E.κ id []) (by simp[Env.again,hh.n]) hroom aj (λ_=>by simp[Env.again,hh.n]);have hb':(E.again id).β H.length []=E.β id []:=by simp[Env.again,hh.n]
   rw[hb',pA]at this;exact cQ
  .intro o' u hu';obtain⟨_,ob',e2,e3'⟩:=hh.sep id [] _ o' u hgb hu';rw[hob]at e2;cases e2
   have hst:=(hh.zK _ _ _ hu').1;unfold World.cell? at hst;rw[hg]at hst;simp at hst
   have h7:o'<ob.rows.length*i.size:=by
    rw[hsz]at e3';exact dD e3' (dJ _ (hh.fz id ob hob))
   rw[hcur'];simp only[g9];rw[gL,da aw,du,c7 h7,dw];exact hst
 ·
  have hr:=run_append_grow (P:=P) w t o.type e i z hu ht.info ht.zero ⟨E.β id [],0,none⟩ ob.rows.length (E.κ id []) olds hro.len hmo a rows'.length cap vals hrows.len hmem ah ah (growslice_fits ah hb);rw[<-hxv,<-e1]at hr;rw[hexec _ _ hr];obtain⟨cap',hcap2⟩:∃cap',cap'=grownCap w (ob.rows.length+rows'.length) (E.κ id []) e:=⟨_,rfl⟩;have hge:ob.rows.length+rows'.length<=cap':=by rw[hcap2];exact grownCap_ge w _ _ e
  rw[<-hcap2]
  have hsize:((olds++vals).toArray++Builtin.zeroCells z.cells (cap'-(ob.rows.length+rows'.length))).size=cap'*i.size:=by
   have h2:(olds++vals).length=(ob.rows.length+rows'.length)*i.size:=by rw[zF.len,dX]
   simp only[rm,pK,size_zeroCells,hz];rw[h2,<-dN]
   congr 1
   omega
  have hk1:=hh.drew.kill id;have hB2:=hk1.GY e (κ:=cap') zF (cur:=(olds++vals).toArray++Builtin.zeroCells z.cells (cap'-(ob.rows.length+rows'.length))) (ak hge) hsize (by rw[gX];exact pH) ob.fz (by have:=hh.fz id ob hob;simp;omega);have hkl:(jg H id).length=H.length:=by simp[jg]
  have hval:(olds.toArray++vals.toArray++Builtin.zeroCells z.cells (cap'-(ob.rows.length+rows'.length)))=((olds++vals).toArray++Builtin.zeroCells z.cells (cap'-(ob.rows.length+rows'.length))):=aj
  rw[hval];refine hk _ _ _ hB2.1 ?_ ((zR.drew w E H).trans ((zR.kill w.drew E H id).trans hB2.2));have:=nw (E:=E) (H:=jg H id) hk1.n w.heap.size cap' i.size (ob.rows.length+rows'.length) false cap' hge aj (λ_=>V);rw[hkl]at this;exact cQ
end
section
variable {P:Program} {o:Oper} {ρ:Operand->C} {H:zf}
def kF(z:Array Value)(n j:Nat)(h:j<n):(madeCells z n)[j]?=some z[j%z.size]!:=by
 simp[madeCells,h]
def vn(hz:vr P t=some cs)(hsh:cs.all jF=true)(n:Nat):∃i z,P.info? t=some i/\i.zero=some z/\z.cells.size=i.size/\cs.length=i.size/\
  xI E i.size (List.replicate n cs) (madeCells z.cells (n*i.size)).toList:=by
 obtain⟨i,z,hi,hzz,hll,h1,hsz,hno,hlen⟩:=ym hz E;refine⟨i,z,hi,hzz,hsz,hlen,⟨by simp[madeCells],λr hr=>by rw[(pB.1 hr).2];exact hlen,?_,?_⟩⟩
 .intro r k c hc;unfold cellAt at hc;rw[pJ]at hc;split at hc
  .rename_i hr;simp only[dB]at hc;have hk:k<i.size:=by rw[<-hlen];exact(cW.1 hc).1
   obtain⟨u,hu,hl⟩:=hll.get hc
   have rF:r*i.size+k<n*i.size:=by
    have:(r+1)*i.size<=n*i.size:=dJ _ hr;rw[dN]at this;omega
   refine⟨u,?_,hl.xv (c8.1 hsh c (cZ hc))⟩;rw[dw,kF _ _ _ rF,hsz,pa,rB,pN hk];rw[dw]at hu;rw[getElem!_def,hu]
  .simp at hc
 .intro u hu;obtain⟨j,hj⟩:=di.1 hu;rw[dw]at hj
  have rF:j<n*i.size:=by
   have:=(db.1 hj).1;simpa [madeCells] using this
  rw[kF _ _ _ rF]at hj;cases hj
  have hpos:0<i.size:=by rcases pC i.size with h|h <;> simp_all
  have hm:j%z.cells.size<z.cells.size:=Nat.mod_lt _ ah;rw[getElem!_pos z.cells _ hm];exact h1 _ (Array.getElem_mem hm)
def zU.makeSlice(t:TypeId)(x y:Operand)(ho:o.op=.makeSlice t x y)(ht:P.underlying t=some (.slice e))(hi:P.info? e=some i)(hz:vr P e=some cs)(hsh:cs.all jF=true)
 {k k':IntKind}{n:Int}(hx:ρ x=.v (.int k n))(hy:ρ y=.v (.int k' n))(h0:0<=n)(hb:(i.bytes:Int)*n<=281474976710656)(hm:n<=9223372036854775807):
  zU P o ρ H (.sl H.length [] i.size 0 n.toNat false) (H++[⟨2,e,i.size,List.replicate n.toNat cs,0⟩]):=λw E σ hh hl K hk=>by
 have h1:=hl x uR;have h2:=hl y uR;rw[hx]at h1;rw[hy]at h2;have hxv:σ x=.int k n:=by generalize σ x=u at *;cases h1;rfl
 have hyv:σ y=.int k' n:=by generalize σ y=u at *;cases h2;rfl
 obtain⟨i',z,hi',hzz,hsz,hlen,hrows⟩:=vn (E:=E) hz hsh n.toNat;rw[hi]at hi';cases hi'
 have hr0:=run_make (P:=P) w t e i z ht hi hzz k k' n n h0 (gC _) hb hm
 have hr:(execOp σ o).run P w=.ok (.value (.slice (some ⟨w.heap.size,0,none⟩) n.toNat n.toNat)) (w.alloc (.cells (madeCells z.cells (n.toNat*i.size)) e)):=by
  unfold execOp;simp only[ho,hxv,hyv,Sem.run_bind,hr0,Result.andThen_ok]
  rfl
 rw[hr];have hB:=hh.mB e (κ:=n.toNat) hrows (cur:=madeCells z.cells (n.toNat*i.size)) aj (by simp[madeCells]) (by rw[dy]);exact hk _ _ _ hB.1 (nw hh.n _ _ _ _ false n.toNat (de _) aj (λ_=>V)) hB.2
def chunk(sz:Nat):Nat->List C->List (List C)
 |0,_=>[]
 |n+1,cs=>cs.take sz::chunk sz n (cs.drop sz)
def wx(sz:Nat):∀(n:Nat) (cs:List C),(chunk sz n cs).length=n
 |0,_=>rfl
 |n+1,cs=>by simp[chunk,wx sz n]
def lQ(sz:Nat):∀(n:Nat) (cs:List C) (i:Nat),i<n->(chunk sz n cs)[i]?=some ((cs.drop (i*sz)).take sz)
 |0,_,_,h=>absurd h (dx _)
 |n+1,cs,0,_=>by simp[chunk]
 |n+1,cs,i+1,h=>by
  simp only[chunk,gp];rw[lQ sz n _ i ah,List.drop_drop]
  congr 3
  rw[dN];omega
def Env.still(E:Env)(g:Nat)(cur:Array Value):Env:={E with St:=λb o=>if b=g then cur[o]? else E.St b o}
def zD.Ax(h:zD w E H)(ty:TypeId)(cur:Array Value)(h1:∀y∈cur,y.oneCell'=true):
  zD (w.alloc (.cells cur ty)) (E.still w.heap.size cur) H/\zR w E H (w.alloc (.cells cur ty)) (E.still w.heap.size cur) H:=by
 have hle:E.le (E.still w.heap.size cur):=⟨de _,λ_ _ _=>V,λ_ _ _=>V,λb o u hu=>by
  have rF:=kg (h.zK b o u hu).1;simp only[Env.still];rw[c6 ah];exact hu,λ_ _ _ _ hu=>hu⟩
 refine⟨⟨h.n,?_,h.inj,?_,?_,?_,h.fz⟩,⟨hle,λ_ _ _=>V,rfl,rfl,rfl,by show _<=(w.heap.push _).size;simp,λk hk ho=>heap_alloc_old w _ hk,?_,λb hb=>.inr hb⟩⟩
 .intro id ob hops sz rows hob hx;have hb:=h.rM id ob hops sz rows hob hx;exact hb.step hle (by rw[h.n];exact y8 hx) (heap_alloc_old w _ hb.mK)
 .intro b o u hu;simp only[Env.still]at hu;split at hu
  .rename_i hb;subst hb;refine⟨?_,h1 u (gI hu)⟩;rw[World.cell?_alloc_new];exact hu
  .have hs:=h.zK b o u hu;exact⟨by rw[oQ (kg hs.1)];exact hs.1,hs.2⟩
 .intro id hops x o u hx hu;have rF:=h.lt hx;simp only[Env.still]at hu;have hne:¬E.β id hops=w.heap.size:=by omega
  rw[c6 hne]at hu;exact h.sep id hops x o u hx hu
 .intro id ob hob hk;obtain⟨cur',hc⟩:=h.ty id ob hob hk;exact⟨cur',by show(w.alloc _).heap[E.β id []]?=_;rw[heap_alloc_old w _ (db.1 hc).1];exact hc⟩
 .intro b o u hu;simp only[Env.still]at hu;split at hu
  .rename_i hb;exact .inr (.inl ah)
  .exact .inl hu
def zU.ER(t:TypeId)(x y:Operand)(ho:o.op=.makeSlice t x y)(ht:P.underlying t=some (.slice e))(hi:P.info? e=some i)(hz:vr P e=some cs)(hsh:cs.all jF=true)
 {k k':IntKind}{n:Int}(hx:ρ x=.v (.int k n))(hy:ρ y=.v (.int k' n))(h0:0<=n)(hb:(i.bytes:Int)*n<=281474976710656)(hm:n<=9223372036854775807):
  zU P o ρ H (.rG 0 i.size (List.replicate n.toNat cs)) H:=λw E σ hh hl K hk=>by
 have h1:=hl x uR;have h2:=hl y uR;rw[hx]at h1;rw[hy]at h2;have hxv:σ x=.int k n:=by generalize σ x=u at *;cases h1;rfl
 have hyv:σ y=.int k' n:=by generalize σ y=u at *;cases h2;rfl
 obtain⟨i',z,hi',hzz,hsz,hlen,hrows⟩:=vn (E:=E) hz hsh n.toNat;rw[hi]at hi';cases hi'
 have hr0:=run_make (P:=P) w t e i z ht hi hzz k k' n n h0 (gC _) hb hm
 have hr:(execOp σ o).run P w=.ok (.value (.slice (some ⟨w.heap.size,0,none⟩) n.toNat n.toNat)) (w.alloc (.cells (madeCells z.cells (n.toNat*i.size)) e)):=by
  unfold execOp;simp only[ho,hxv,hyv,Sem.run_bind,hr0,Result.andThen_ok]
  rfl
 rw[hr];have hB:=hh.Ax e (madeCells z.cells (n.toNat*i.size)) λu hu=>hrows.one u (ak hu)
 refine hk _ _ _ hB.1 ?_ hB.2;have:=L.rG (E:=E.still w.heap.size (madeCells z.cells (n.toNat*i.size))) 0 i.size (List.replicate n.toNat cs) w.heap.size 0 n.toNat (λr k=>(madeCells z.cells (n.toNat*i.size)).getD (r*i.size+k) undef) (.inl V) aj (λr hr=>hrows.row r hr) ?_ ?_
 .simpa using this
 all_goals
  intro r row k c hrow hc;obtain⟨u,hu',hlu⟩:=hrows.cell r k c (by unfold cellAt;rw[hrow];exact hc);rw[dw]at hu';have hgd:(madeCells z.cells (n.toNat*i.size)).getD (r*i.size+k) undef=u:=by rw[dE,hu'];rfl
  rw[hgd]
 .simp only[Env.still,if_true,dF];exact hu'
 .exact hlu.mono hB.2.le.shut
def nM(P:Program)(t:TypeId)(len:Nat)(parts:List (Nat×C)):Option C:=
 match P.underlying t with
 |some (.slice e)=>match P.info? e,vr P e with
  |some i,some z=>if decide (len*i.size<=16777216) && decide (0<i.size) then
    match wC (λj=>some (j*i.size,i.size)) (List.replicate len z).flatten parts with
    |some cs=>if cs.all jF && (cs.length == len*i.size) then some (.rG 1 i.size (chunk i.size len cs)) else none
    |none=>none
   else none
  |_,_=>none
 |_=>none
def vu(z:List α)(n j:Nat)(h:j<n*z.length):(List.replicate n z).flatten[j]?=z[j%z.length]?:=by
 induction n generalizing j with
 |zero=>simp at h
 |succ n ih=>
  rw[pw,List.flatten_cons];by_cases hj:j<z.length
  .rw[da hj,pN hj]
  .rw[dg ah,ih (j-z.length) (by rw[dN]at h;omega)]
   congr 1
   rw[<-Nat.mod_eq_sub_mod ah]
def zU.buildSlice(t:TypeId)(len:Nat)(parts:Array (Nat×Operand))(ho:o.op=.buildSlice t len parts){c:C}(hb:nM P t len (parts.toList.map λp=>(p.1,ρ p.2))=some c):zU P o ρ H c H:=λw E σ hh hl K hk=>by
 have hp:∀p∈parts.toList,L E (ρ p.2) (σ p.2):=λp hpm=>hl p.2 (by
  simp only[ho,Op.operands];exact(List.mem_toArray).2 (dT.2 ⟨p,hpm,rfl⟩))
 unfold nM at hb;split at hb
 rotate_left
 .cases hb
 rename_i e hu;split at hb
 rotate_left
 .cases hb
 rename_i i z hi hz;split at hb
 rotate_left
 .cases hb
 rename_i hcond;simp only[c9,dm]at hcond;split at hb
 rotate_left
 .cases hb
 rename_i cs hf;split at hb
 rotate_left
 .cases hb
 rename_i hcond2;simp only[c9,dH]at hcond2;cases hb
 obtain⟨i',zv,h1,h2,h3,h4,h5,h6,h7⟩:=ym hz E;rw[hi]at h1;cases h1
 obtain⟨arr0,harr0⟩:∃arr0,arr0=(Array.range (len*i.size)).map (λj=>zv.cells[j%zv.cells.size]!):=⟨_,rfl⟩
 have hget0:∀j,j<len*i.size->arr0[j]?=zv.cells[j%i.size]?:=by
  intro j hj;rw[harr0];have hm:j%zv.cells.size<zv.cells.size:=Nat.mod_lt _ ah;simp only[rb,Array.getElem?_range,hj,if_true,dc];rw[getElem!_pos zv.cells _ hm,<-h5,gz hm]
 have hsize0:arr0.size=len*i.size:=by rw[harr0];simp
 have hl0:LL E (List.replicate len z).flatten arr0.toList:=by
  refine⟨by simp[hsize0,h7],?_⟩;intro j c y hc hy;rw[dw]at hy;have hj:j<len*i.size:=by rw[<-hsize0];exact(db.1 hy).1
  rw[hget0 j hj]at hy;rw[vu z len j (by rw[h7];exact hj),h7]at hc;exact h3.2 _ c y hc (ak hy)
 have hone0:∀u∈arr0,u.oneCell'=true:=by
  intro u hum;obtain⟨j,hj⟩:=pL.1 hum;have hjl:j<len*i.size:=by rw[<-hsize0];exact(db.1 hj).1
  rw[hget0 j hjl]at hj;exact h4 u (gI hj)
 have hno0:(List.replicate len z).flatten.all zy=true:=by
  rw[c8];intro c hc;obtain⟨l,hlm,hcl⟩:=List.mem_flatten.1 hc;rw[(pB.1 hlm).2]at hcl;exact c8.1 h6 c hcl
 obtain⟨arr,a1,a2,a3,a4⟩:=iv parts.toList _ arr0 hl0 hone0 hno0 hp cs hf
 have hr:(execOp σ o).run P w=.ok (.value (.slice (some ⟨w.heap.size,0,none⟩) len len)) (w.alloc (.cells arr e)):=by
  unfold execOp;have hn:¬(2 ^ 24<len*i.size):=ah
  by_cases hlz:len*i.size=0
  .have e0:arr0= #[]:=by apply gd;rw[hsize0];exact hlz
   rw[e0]at a1;have e9:∀f:Nat->Value,(Array.range 0).map f= #[]:=λf=>gd aj
   simp only[ho,Instr.buildSlice,Sem.run_bind,run_underlying hu,Result.andThen_ok,qk hi];rw[c6 hn];simp[hlz,newRow,e9,a1]
  .simp only[ho,Instr.buildSlice,Sem.run_bind,run_underlying hu,Result.andThen_ok,qk hi];rw[c6 hn];simp[hlz,jd hi h2,newRow,<-harr0,a1]
 rw[hr];have hB:=hh.Ax e arr a3;refine hk _ _ _ hB.1 ?_ hB.2;have hlc:(chunk i.size len cs).length=len:=wx _ _ _;have:=L.rG (E:=E.still w.heap.size arr) 1 i.size (chunk i.size len cs) w.heap.size 0 len (λr k=>arr.getD (r*i.size+k) undef) (.inr ⟨rfl,hlc.symm⟩) (by rw[hlc];exact de _) ?_ ?_ ?_
 .rw[hlc]at this;exact cQ
 .intro r hrm;obtain⟨j,hj⟩:=di.1 hrm;have hjl:j<len:=by rw[<-hlc];exact(cW.1 hj).1
  rw[lQ _ _ _ _ hjl]at hj;cases hj
  have:(j+1)*i.size<=len*i.size:=dJ _ hjl;rw[dN]at this;simp;omega
 all_goals
  intro r row k c hrow hc;have hrl:r<len:=by rw[<-hlc];exact(cW.1 hrow).1
  rw[lQ _ _ _ _ hrl]at hrow;cases hrow
  rw[du]at hc;split at hc
  rotate_left
  .cases hc
  rw[dM]at hc;obtain⟨u,hu',hlu⟩:=a2.get hc;rw[dw]at hu';have hgd:arr.getD (r*i.size+k) undef=u:=by rw[dE,hu'];rfl
  rw[hgd]
 .simp only[Env.still,if_true,dF];exact hu'
 .have:=hlu.xv (c8.1 hcond2.1 c (cZ hc));exact this.mono hB.2.le.shut
end
section
variable {P:Program} {B:Nat} {ops:Array Oper} {md:Region.Mode} {X:zf->Prop} {eff:Nat->Bool}
def mR{tmps:List C}{x:Operand}(h:∀d,dst=some d->x≠.tmp d):ev (put tmps dst c) x=ev tmps x:=by
 cases dst with
 |none=>rfl
 |some d=>
  cases x with
  |tmp t=>
   have hne:d≠t:=λe=>h d V (e ▸ rfl)
   simp[ev,put,List.getElem?_set_ne hne]
  |_=>rfl
def mc(h:∀d,dst=some d->d∉o.looksAt ops):∀x∈o.op.operands,∀d,dst=some d->x≠.tmp d:=λx hx d hd e=>h d hd (by
 subst e;exact pU _ (List.mem_filterMap.2 ⟨.tmp d,ak hx,rfl⟩))
def rQ.put{o:Oper}{tmps:List C}{H H':zf}{c x:C}{dst:Option Tmp}(h:∀d,dst=some d->d∉o.looksAt ops):rQ P o (ev (put tmps dst x)) H c H'↔rQ P o (ev tmps) H c H':=
 ⟨λh'=>h'.congr λy hy=>(mR (mc h y hy)).symm,λh'=>h'.congr λy hy=>mR (mc h y hy)⟩
def jU{tmps:List C}{x:C}(h:∀d,dst=some d->d∉o.looksAt ops):qt ops (put tmps dst x) o=qt ops tmps o:=by
 cases dst with
 |none=>rfl
 |some d=>
  have hd:=h d V;unfold qt;cases hg:o.guard with
  |none=>rfl
  |some g=>
   obtain⟨j,want⟩:=g
   have:ez ops (put tmps (some d) x) j=ez ops tmps j:=by
    unfold ez;cases hj:(ops[j]?).bind (·.dst) with
    |none=>rfl
    |some e=>
     have hne:d≠e:=λhe=>hd (by
      subst he;unfold Oper.looksAt;rw[hg];refine List.mem_append_right _ ?_;dsimp only;rw[hj];simp)
     simp[put,List.getElem?_set_ne hne]
   simp only[this]
def put_comm{tmps:List C}{x y:Option Tmp}(v u:C)(h:∀d,x=some d->y≠some d):put (put tmps x v) y u=put (put tmps y u) x v:=by
 cases x with
 |none=>rfl
 |some d=>
  cases y with
  |none=>rfl
  |some e=>
   have hne:d≠e:=λhe=>h d V (he ▸ rfl)
   simp[put,List.set_comm _ _ hne]
def YA(P:Program)(ops:Array Oper)(X:zf->Prop)(o:Oper)(c:C)(tmps:List C):Prop:=
 (qt ops tmps o=some true/\∀H,X H->rQ P o (ev tmps) H c H)\/(qt ops tmps o=some false/\c=.un)
def YA.put{o:Oper}{c x:C}{tmps:List C}{dst:Option Tmp}(h:∀d,dst=some d->d∉o.looksAt ops):YA P ops X o c (put tmps dst x)↔YA P ops X o c tmps:=by
 unfold YA;rw[jU h];constructor
 .rintro(⟨h1,h2⟩|h1)
  .exact .inl ⟨h1,λH hH=>(rQ.put h).1 (h2 H hH)⟩
  .exact .inr h1
 .rintro(⟨h1,h2⟩|h1)
  .exact .inl ⟨h1,λH hH=>(rQ.put h).2 (h2 H hH)⟩
  .exact .inr h1
def TA(P:Program)(ops:Array Oper)(X:zf->Prop)(o:Oper)(c:C)(tmps:List C)(H H':zf):Prop:=
 qt ops tmps o=some true/\X H'/\rQ P o (ev tmps) H c H'
def TA.put{o:Oper}{c x:C}{tmps:List C}{dst:Option Tmp}{H H':zf}(h:∀d,dst=some d->d∉o.looksAt ops):TA P ops X o c (put tmps dst x) H H'↔TA P ops X o c tmps H H':=by
 unfold TA;rw[jU h,rQ.put h]
def sV(P:Program)(ops:Array Oper)(X:zf->Prop)(eff:Nat->Bool)(i:Nat)(K:S->Prop)(s:S):Prop:=
 match ops[i]? with
 |none=>K s
 |some o=>(eff i=false/\∃c,YA P ops X o c s.tmps/\K ⟨put s.tmps o.dst c,s.H⟩)\/(eff i=true/\∃c H',TA P ops X o c s.tmps s.H H'/\K ⟨put s.tmps o.dst c,H'⟩)
def F7{i:Nat}{K':S->Prop}(h:∀s,K s->K' s)(hh:sV P ops X eff i K s):sV P ops X eff i K' s:=by
 unfold sV at *;split
 .exact h _ (by simpa [*] using hh)
 .rename_i o ho;simp only[ho]at hh;rcases hh with⟨h1,c,h2,h3⟩|⟨h1,c,H',h2,h3⟩
  .exact .inl ⟨h1,c,h2,h _ h3⟩
  .exact .inr ⟨h1,c,H',h2,h _ h3⟩
def fI(P:Program)(ops:Array Oper)(X:zf->Prop)(eff:Nat->Bool)(Q:S->Prop):List Oper->Nat->S->Prop
 |[],_,s=>Q s
 |_::l,k,s=>sV P ops X eff k (fI P ops X eff Q l (k+1)) s
def fL(P:Program)(md:Region.Mode)(ops:Array Oper)(X:zf->Prop)(eff:Nat->Bool)(Q:S->Prop):Nat->Array Bool->S->Prop
 |0,listed,s=>Region.ready md ops listed=[]/\Q s
 |fuel+1,listed,s=>(Region.ready md ops listed=[]->Q s)/\∀i∈Region.ready md ops listed,sV P ops X eff i (fL P md ops X eff Q fuel (listed.setIfInBounds i true)) s
def jO{q:Option Nat}{m:Nat}{H0:zf}{Q:S->Prop}{w0:World}{E0:Env}{Q':Exit->Act->World->Prop}(hQ:∀s w E a,Q s->je B m w E s a->qq B w0 E0 H0 w E s.H->Q' .normal a w):
  ∀(fuel:Nat) (listed:Array Bool) (s:S) (w:World) (E:Env) (a:Act),X s.H->je B m w E s a->qq B w0 E0 H0 w E s.H->fL P md ops X eff Q fuel listed s->wpAnyIn (fw q) 0 P md ops Q' fuel listed a w
 |0,_,s,w,E,a,hX,hs,hg,h=>⟨h.1,hQ s w E a h.2 hs hg⟩
 |fuel+1,listed,s,w,E,a,hX,hs,hg,h=>⟨λh0=>hQ s w E a (h.1 h0) hs hg,λi hi=>by
   have h1:=h.2 i hi;unfold sV at h1;unfold wpOpIn;split
   .rename_i ho;simp only[ho]at h1;exact jO hQ fuel _ s w E a hX hs hg h1
   .rename_i o ho;simp only[ho]at h1;rcases h1 with⟨_,c,⟨hw,hv⟩|⟨hw,rfl⟩,hK⟩|⟨_,c,H',⟨hw,hX',hv⟩,hK⟩
    .rw[c7 (qA hs.tmps hw)];exact kB.iG (hv s.H hX) q m w E a _ Q' hs λw' E' a' h2 g2=>jO hQ fuel _ ⟨put s.tmps o.dst c,s.H⟩ w' E' a' hX h2 (hg.trans g2) hK
    .rw[c6 bj];exact⟨λ_ _=>trivial,jO hQ fuel _ ⟨put s.tmps o.dst .un,s.H⟩ w E _ hX (hs.put .un o.dst) hg hK⟩
    .rw[c7 (qA hs.tmps hw)];exact kB.iG hv q m w E a _ Q' hs λw' E' a' h2 g2=>jO hQ fuel _ _ w' E' a' hX' h2 (hg.trans g2) hK⟩
def ef(P:Program)(ops:Array Oper)(X:zf->Prop)(eff:Nat->Bool)(i:Nat)(o:Oper)(c:C)(H':zf)(s:S):Prop:=
 (eff i=false/\YA P ops X o c s.tmps/\H'=s.H)\/(eff i=true/\TA P ops X o c s.tmps s.H H')
def ef.nY{i:Nat}(hi:ops[i]?=some o)(h:ef P ops X eff i o c H' s)(hK:K ⟨put s.tmps o.dst c,H'⟩):sV P ops X eff i K s:=by
 unfold sV;simp only[hi];rcases h with⟨h1,h2,rfl⟩|⟨h1,h2⟩
 .exact .inl ⟨h1,c,h2,hK⟩
 .exact .inr ⟨h1,c,H',h2,hK⟩
def F8{i j:Nat}{oi oj:Oper}{Hi:zf}(hj:ops[j]?=some oj)(hap:oi.apart ops oj=true)(he:eff i=true->eff j=false)(hf:ef P ops X eff i oi c Hi s)
 (h:sV P ops X eff j K ⟨put s.tmps oi.dst c,Hi⟩):
  sV P ops X eff j (λs'=>∃H2,ef P ops X eff i oi c H2 s'/\K ⟨put s'.tmps oi.dst c,H2⟩) s:=by
 obtain⟨h1,h2,h3⟩:=Oper.apart_spec hap;unfold sV at *;simp only[hj] at *;rcases h with⟨hej,cj,hy,hK⟩|⟨hej,cj,Hj,ht,hK⟩
 .refine .inl ⟨hej,cj,(YA.put h1).1 hy,Hi,?_,?_⟩
  .rcases hf with⟨h4,h5,h6⟩|⟨h4,h5⟩
   .exact .inl ⟨h4,(YA.put h3).2 h5,h6⟩
   .exact .inr ⟨h4,(TA.put h3).2 h5⟩
  .rw[put_comm _ _ h2]at hK;exact hK
 .rcases hf with⟨h4,h5,rfl⟩|⟨h4,h5⟩
  .refine .inr ⟨hej,cj,Hj,(TA.put h1).1 ht,Hj,.inl ⟨h4,(YA.put h3).2 h5,rfl⟩,?_⟩;rw[put_comm _ _ h2]at hK;exact hK
  .rw[he h4]at hej;cases hej
def Fo{Q:S->Prop}{i:Nat}{oi:Oper}(hi:ops[i]?=some oi):
  ∀(fuel:Nat) (listed:Array Bool) (s:S) (Hi:zf),
   (∀j oj,ops[j]?=some oj->j≠i->listed.getD j true=false->(∀e∈oj.after,Region.binds md e=true->e.on≠i)->oi.apart ops oj=true/\(eff i=true->eff j=false))->
   i∈Region.ready md ops listed->ef P ops X eff i oi c Hi s->
   fL P md ops X eff Q fuel (listed.setIfInBounds i true) ⟨put s.tmps oi.dst c,Hi⟩->fL P md ops X eff Q (fuel+1) listed s:=by
 intro fuel
 induction fuel with
 |zero=>
  intro listed s Hi _ hr hy H;refine⟨λh=>bk,λj hj=>?_⟩;by_cases hji:j=i
  .subst hji;exact hy.nY hi H
  .have:=ready_mono hj hji;rw[H.1]at this;cases this
 |succ fuel ih=>
  intro listed s Hi hfree hr hy H;refine⟨λh=>bk,λj hj=>?_⟩;by_cases hji:j=i
  .subst hji;exact hy.nY hi H
  .have h1:=H.2 j (ready_mono hj hji);obtain⟨hjun,oj,hoj,zF⟩:=mem_ready.1 hj
   have hnot:∀e∈oj.after,Region.binds md e=true->e.on≠i:=λe he hb heq=>by
    have h1:=zF e he hb;have h0:=(mem_ready.1 hr).1;rw[heq]at h1;rcases pD i listed.size with h'|h'
    .simp[h']at h0 h1;rw[h0]at h1;cases h1
    .simp[gO h']at h1
   obtain⟨hap,hee⟩:=hfree j oj hoj hji hjun hnot;have h2:=F8 hoj hap hee hy h1
   have hfree':∀k ok,ops[k]?=some ok->k≠i->(listed.setIfInBounds j true).getD k true=false->
     (∀e∈ok.after,Region.binds md e=true->e.on≠i)->oi.apart ops ok=true/\(eff i=true->eff k=false):=λk ok hk hki hun hno=>by
    refine hfree k ok hk hki ?_ hno;by_cases hjk:j=k
    .subst hjk;exact hjun
    .rw[getD_set_ne true hjk]at hun;exact hun
   refine F7 (λs' ⟨H2,h3,h4⟩=>ih (listed.setIfInBounds j true) s' H2 hfree' (ready_mono hr (Ne.symm hji)) h3 ?_) h2;rw[pE _ _ hji];exact h4
def ug(md:Region.Mode)(ops:Array Oper)(eff:Nat->Bool):Bool:=
 (List.range ops.size).all λi=>!eff i || (List.range ops.size).all λj=>!eff j || decide (j<=i) || match ops[j]? with
  |some oj=>oj.after.any λe=>Region.binds md e && e.on == i
  |none=>true
def AL(h:ug md ops eff=true){i j:Nat}{oj:Oper}(hi:eff i=true)(rF:i<j)(hj:ops[j]?=some oj)(hno:∀e∈oj.after,Region.binds md e=true->e.on≠i):eff j=false:=by
 have hjl:=(db.1 hj).1;simp only[ug,c8,gG]at h;have h1:=h i ah;simp only[hi,pM,gD,c8,gG]at h1;have h2:=h1 j hjl;rw[hj]at h2;cases he:eff j with
 |false=>rfl
 |true=>
  exfalso
  simp only[he,pM,gD,gf,dm]at h2;rcases h2 with h2|h2
  .omega
  .obtain⟨e,hem,hb⟩:=Array.any_eq_true'.1 h2;simp only[c9,dH]at hb;exact hno e hem hb.1 hb.2
def AY{Q:S->Prop}(hE:ug md ops eff=true):∀(l:List Oper) (k:Nat) (listed:Array Bool) (s:S),(∀j,l[j]?=ops[k+j]?)->(∀j,j<k->listed.getD j true=true)->
  Region.lexFrom md ops l.length k listed=true->fI P ops X eff Q l k s->fL P md ops X eff Q l.length listed s
 |[],_,_,_,_,_,hB,h=>⟨by simpa [Region.lexFrom] using hB,h⟩
 |o::l,k,listed,s,hl,hk,hB,h=>by
  have h0:ops[k]?=some o:=by simpa using (hl 0).symm
  simp only[gA,Region.lexFrom,c9]at hB;obtain⟨⟨hr,hf⟩,hB'⟩:=hB;have h':sV P ops X eff k (fI P ops X eff Q l (k+1)) s:=h;unfold sV at h';simp only[h0]at h'
  obtain⟨c,H',hfst,hK⟩:∃c H',ef P ops X eff k o c H' s/\fI P ops X eff Q l (k+1) ⟨put s.tmps o.dst c,H'⟩:=by
   rcases h' with⟨h1,c,h2,h3⟩|⟨h1,c,H',h2,h3⟩
   .exact⟨c,s.H,.inl ⟨h1,h2,rfl⟩,h3⟩
   .exact⟨c,H',.inr ⟨h1,h2⟩,h3⟩
  refine Fo h0 l.length listed s H' (λj oj hj hne hun hno=>⟨Region.free_spec h0 hf j oj hj hne hun hno,λhe=>?_⟩) (ak hr) hfst
   (AY hE l (k+1) _ _ (λj=>by have:=hl (j+1);simpa [gM,ru 1 j] using this) ?_ hB' hK)
  .refine AL hE he ?_ hj hno;rcases g6 j k with rF|heq|rF
   .rw[hk j rF]at hun;cases hun
   .exact absurd heq hne
   .exact rF
  .intro j hj;by_cases hjk:k=j
   .subst hjk;by_cases rF:k<listed.size
    .simp[rF]
    .simp[rF]
   .rw[getD_set_ne true hjk];exact hk j ah
def zL.drew{w:World}{E:Env}{H:zf}(h:zL w E H):zL w.drew E H:=⟨h.base.drew,sR.step h (zR.drew w E H) (qs.refl H)⟩
def Grow.drew(w:World)(E:Env)(H:zf):Grow w E H w.drew E H:=
 ⟨Env.le.refl E,rfl,rfl,rfl,de _,λ_ _ _=>V,λ_ _ _ h=>.inl h,λ_ h=>.inr h⟩
def je.drew{m:Nat}{w:World}{E:Env}{s:S}{a:Act}(h:je B m w E s a):je B m {w with drawn:=w.drawn+1} E s a:=⟨h.heap.drew,h.tmps,Marks.mono (w:=w) (w':={w with drawn:=w.drawn+1}) (de _) h.defers λ_ _ _=>V,h.base⟩
def tW.draw{id:Nat}{s':S}(X:zf->Prop)(eff:Nat->Bool)(hm:P.follows .mixedOrders=true)(hB:Region.lexB .any ops=true)(hE:ug .any ops eff=true)(hX:X s.H)
 (h:fI P ops X eff (·=s') ops.toList 0 s):tW P B (.region id ops true) s .normal s':=λq m w E a Q _ hs hq=>by
 simp only[Region.lexB,c9]at hB;refine wpIn_region_any hm (jO (X:=X) (eff:=eff) (H0:=s.H) (Q:=(·=s')) (w0:=w) (E0:=E) (λs1 w1 E1 a1 he h1 g1=>by subst he;exact hq _ _ w1 E1 a1 ⟨rfl,rfl⟩ h1 g1) _ _ s _ E a hX hs.drew ((Grow.drew w E s.H).sB uW) ?_);have:=AY (X:=X) (eff:=eff) (Q:=(·=s')) (P:=P) (md:=.any) hE ops.toList 0 (Array.replicate ops.size false) s aj (λj hj=>absurd hj (dx j)) (ak hB.2) h;simpa using this
end
section
variable {P:Program} {B:Nat} {s s':S}
def WC(c c':C):Prop:=∀(E:Env) (y:Value),L E c y->L E c' y
def WC.refl(c:C):WC c c:=λ_ _ h=>h
def WC.za(c:C):WC c .za:=λ_ y _=>.za y
def WC.share(o sz:Nat)(rows:List (List C)):WC (.rG o sz rows) (.rG 0 sz rows):=λE y h=>by
 cases h with
 |rG o sz rows b off cap us ho hc hsz hst hL=>exact .rG 0 sz rows b off cap us (.inl V) hc hsz hst hL
 |q6 o sz ho a=>exact .q6 0 sz (.inl V) a
def WC.none(o sz sz':Nat):WC (.rG o sz []) (.rG o sz' []):=λE y h=>by
 cases h with
 |rG o sz rows b off cap us ho hc hsz hst hL=>exact .rG o sz' [] b off cap us ho hc aj aj aj
 |q6 o sz ho a=>exact .q6 o sz' ho a
inductive sA:List C->List C->Prop
 |nil:sA [] []
 |cons {c c':C} {cs cs':List C} (h:WC c c') (t:sA cs cs'):sA (c::cs) (c'::cs')
def sA.refl:∀cs:List C,sA cs cs
 |[]=>.nil
 |c::cs=>.cons (.refl c) (sA.refl cs)
def sA.LL{E:Env}:∀{cs cs':List C} {ys:List Value},sA cs cs'->LL E cs ys->LL E cs' ys
 |[],_,ys,.nil,h=>h
 |c::cs,_,ys,.cons h t,hl=>by
  match ys,hl with
  |[],hl=>have:=hl.1;simp at this
  |y::ys,hl=>
   obtain⟨h1,h2⟩:=hl.cons_inv;exact LL.cons (h E y h1) (t.LL h2)
def zm.tmps{t t':List C}{H:zf}(h:sA t t'):zm B ⟨t,H⟩ ⟨t',H⟩:=λm w E a hs=>
 ⟨E,⟨hs.heap,h.LL hs.tmps,hs.defers,hs.base⟩,qq.refl B w E H⟩
def tZ(keep:List Nat):Nat->List C->List C
 |_,[]=>[]
 |i,c::cs=>(if keep.contains i then c else .za)::tZ keep (i+1) cs
def lz(keep:List Nat):∀(cs:List C) (i:Nat),sA cs (tZ keep i cs)
 |[],_=>.nil
 |c::cs,i=>.cons (by split;exact .refl c;exact .za c) (lz keep cs (i+1))
def zm.mask(keep:List Nat)(t:List C)(H:zf):zm B ⟨t,H⟩ ⟨tZ keep 0 t,H⟩:=zm.tmps (lz keep t 0)
def j9(n:Nat):Nat->C->Bool
 |0,_=>false
 |k+1,c=>match c with
  |.v _|.qC _|.un|.za=>true
  |.rG o _ rows=>o != 2 || rows.all λr=>r.all (j9 n k)
  |.ref id .. |.sl id .. |.mp id|.gl id ..=>decide (id<n)
  |.r4 _ c=>j9 n k c
  |.rc _=>true
  |.agg cs|.rO cs=>cs.all (j9 n k)
  |.fn _ first caps=>first.all (j9 n k) && caps.all (j9 n k)
def Env.cut(E:Env)(n:Nat):Env:={E with n:=n}
def L.cut{E:Env}(n:Nat):∀(k:Nat) {c:C} {y:Value},j9 n k c=true->L E c y->L (E.cut n) c y:=by
 intro k
 induction k with
 |zero=>intro c y h;simp[j9]at h
 |succ k ih=>
  intro c y h hl;cases hl with
  |v x hx=>exact .v _ hx
  |rG o sz rows b off cap us ho hc hsz hst hL=>exact .rG o sz rows b off cap us ho hc hsz hst hL
  |q6 o sz ho a=>exact .q6 o sz ho a
  |qC cells b off us hst hL=>exact .qC cells b off us hst hL
  |ref id hops sz i k hn=>simp only[j9,dm]at h;exact .ref (E:=E.cut n) id hops sz i k h
  |sl id hops sz lo len full cap hn hlen hf hf'=>simp only[j9,dm]at h;exact .sl (E:=E.cut n) id hops sz lo len full cap h hlen hf hf'
  |mp id hn=>simp only[j9,dm]at h;exact .mp (E:=E.cut n) id h
  |agg cs ys h1 h2 h3=>
   simp only[j9,c8]at h;exact .agg cs ys h1 (λi c y e1 e2=>ih (h c (cZ e1)) (h2 i c y e1 e2)) h3
  |rO cs ys h1 h2=>
   simp only[j9,c8]at h;exact .rO cs ys h1 (λi c y e1 e2=>ih (h c (cZ e1)) (h2 i c y e1 e2))
  |fn f first caps ys zs h1 h2 h3 h4=>
   simp only[j9,c9,c8]at h;exact .fn f first caps ys zs h1 h2 (λi c y e1 e2=>ih (h.1 c (cZ e1)) (h3 i c y e1 e2)) (λi c y e1 e2=>ih (h.2 c (cZ e1)) (h4 i c y e1 e2))
  |un=>exact .un
  |za y=>exact .za y
  |gl id sz rows y hn hg hl=>simp only[j9,dm]at h;exact .gl (E:=E.cut n) id sz rows y h hg hl
  |r4 t c y hl=>simp only[j9]at h;exact .r4 t c y (ih h hl)
def jk(n:Nat)(H:zf):Bool:=H.all λob=>ob.kind == 2 || (ob.kind == 4 && ob.fz == 0) || ob.rows.all λr=>r.all (j9 n 9)
def Bf{n:Nat}:∀(hops:List rT) (sz:Nat) (rows:List (List C)) (sz':Nat) (rows':List (List C)),(∀i k c,cellAt rows i k=some c->∃f,j9 n f c=true)->xh sz rows hops=some (sz',rows')->
  ∀i k c,cellAt rows' i k=some c->∃f,j9 n f c=true
 |[],sz,rows,sz',rows',h,hg=>by rw[z5]at hg;cases hg;exact h
 |(i,k)::hs,sz,rows,sz',rows',h,hg=>by
  rw[q5]at hg;split at hg
  .rename_i sz2 rows2 hc;refine Bf hs sz2 rows2 sz' rows' ?_ hg;obtain⟨f,hf⟩:=h i k _ hc;cases f with
   |zero=>simp[j9]at hf
   |succ f=>
    intro i' k' c' hc';simp only[j9,bne_self_eq_false,gD,c8]at hf;unfold cellAt at hc';cases hx:rows2[i']? with
    |none=>rw[hx]at hc';cases hc'
    |some r=>rw[hx]at hc';exact⟨f,hf r (cZ hx) c' (cZ hc')⟩
  .cases hg
def yR{n id:Nat}(h:zB (H.take n) id hops=some x):zB H id hops=some x/\id<n:=by
 obtain⟨ob,ho,hk,hg⟩:=qd h;rw[du]at ho;split at ho
 .rename_i rF;refine⟨?_,rF⟩;unfold zB;rw[ho];simp only[hk,if_true];exact hg
 .cases ho
def zm.dead(ty sz:Nat):zm B s ⟨s.tmps,s.H++[⟨0,ty,sz,[],0⟩]⟩:=λm w E a hs=>by
 have hh:=hs.heap.base;have hle:=E.mC 0 0
 have get:∀id hops x,zB (s.H++[⟨0,ty,sz,[],0⟩]) id hops=some x->id<s.H.length/\zB s.H id hops=some x:=by
  intro id hops x hx;by_cases rF:id<s.H.length
  .exact⟨rF,by rw[xB rF]at hx;exact hx⟩
  .obtain⟨ob,ho,hk,hg⟩:=qd hx;rw[dg ah]at ho
   have:id-s.H.length=0:=by
    exact cy
   rw[this]at ho;cases ho
   simp at hk
 have hold:∀id hops,id<s.H.length->(E.push 0 0).β id hops=E.β id hops:=λid hops rF=>hle.β id hops bd
 have hk4:qs s.H (s.H++[⟨0,ty,sz,[],0⟩]):=qs.push _ _ (λh=>by cases h)
 suffices h:zD w (E.push 0 0) (s.H++[⟨0,ty,sz,[],0⟩])/\zR w E s.H w (E.push 0 0) (s.H++[⟨0,ty,sz,[],0⟩]) from
  ⟨E.push 0 0,⟨⟨h.1,sR.step hs.heap h.2 hk4⟩,hs.tmps.mono hle,hs.defers,bm⟩,(h.2.up hs.heap hk4).sB (by rw[hh.n];exact hs.base)⟩
 refine⟨⟨by simp[Env.push,hh.n],?_,?_,hh.zK,?_,?_,?_⟩,⟨hle,λ_ _ _=>V,rfl,rfl,rfl,de _,λ_ _ _=>V,λb o u hu=>.inl hu,?_⟩⟩
 .intro id ob hops sz' rows' hob hx;obtain⟨rF,hx'⟩:=get id hops _ hx;rw[da rF]at hob;exact(hh.rM id ob hops sz' rows' hob hx').step hle bd V
 .intro id hops id' hops' x y hx hy he;obtain⟨h1,hx'⟩:=get id hops _ hx;obtain⟨h2,hy'⟩:=get id' hops' _ hy;rw[hold id hops h1,hold id' hops' h2]at he;exact hh.inj id hops id' hops' x y hx' hy' he
 .intro id hops x o u hx hu;obtain⟨h1,hx'⟩:=get id hops _ hx;rw[hold id hops h1]at hu;obtain⟨e1,ob,e2,e3⟩:=hh.sep id hops x o u hx' hu;exact⟨e1,ob,by rw[da h1];exact e2,e3⟩
 .intro id ob hob hk;by_cases rF:id<s.H.length
  .rw[da rF]at hob;rw[hold id [] rF];exact hh.ty id ob hob hk
  .rw[dg ah]at hob
   have:id-s.H.length=0:=by
    have:=(cW.1 hob).1;exact cN
   rw[this]at hob;cases hob
   cases hk
 .intro id ob hob;by_cases rF:id<s.H.length
  .rw[da rF]at hob;exact hh.fz id ob hob
  .rw[dg ah]at hob
   have:id-s.H.length=0:=by
    have:=(cW.1 hob).1;exact cN
   rw[this]at hob;cases hob
   exact dA _
 .rintro b ⟨id,hops,x,hx,rfl⟩;obtain⟨h1,hx'⟩:=get id hops _ hx;exact .inr ⟨id,hops,x,hx',by rw[hold id hops h1]⟩
def zD.drop(hh:zD w E H)(n:Nat)(hn:n<=H.length)(hr:jk n (H.take n)=true):zD w (E.cut n) (H.take n) where
 n:=by simp[Env.cut,hn]
 rM id ob hops sz rows hob hx:=by
  obtain⟨hx',rF⟩:=yR hx;rw[du,c7 rF]at hob;have hb:=hh.rM id ob hops sz rows hob hx';obtain⟨cur,e,hg,hcs,hcell⟩:=hb.rM;refine⟨hb.len,hb.row,cur,e,hg,hcs,?_⟩;intro i k c hc;obtain⟨u,hu,ho⟩:=hcell i k c hc;refine⟨u,hu,?_⟩;by_cases hno:zy c=true
  .rw[z6.loose hno]at ho|-;refine⟨?_,ho.2⟩;by_cases hk:ob.kind=2
   .have h1:=ho.1;simp only[Env.at,hk,if_true]at h1|-;exact h1
   .have h1:=ho.1;simp only[Env.at,c6 hk]at h1|-;have h2:=c8.1 hr ob (cZ (by rw[du,c7 rF];exact hob));have hk':(ob.kind == 2)=false:=by simpa using hk
    obtain⟨ob2,ho2,hk12,hg2⟩:=qd hx';rw[hob]at ho2;cases ho2
    have hk4:(ob.kind == 4)=false:=by rcases hk12 with e|e <;> rw[e] <;> rfl
    rw[hk',hk4,Bool.false_and,gD,gD]at h2
    obtain⟨f,hf⟩:=Bf hops _ _ _ _ (λi k c hc=>by
     unfold cellAt at hc;cases hx:ob.rows[i]? with
     |none=>rw[hx]at hc;cases hc
     |some r=>
      rw[hx]at hc;exact⟨9,c8.1 (c8.1 h2 r (cZ hx)) c (cZ hc)⟩) hg2 i k c hc
    exact h1.cut n f hf
  .unfold z6 at ho|-;split at ho
   .exact ho
   .rename_i h2;exfalso
    apply hno
    unfold zy;split
    .exact absurd V (h2 _ _)
    .rfl
 inj id hops id' hops' x y hx hy he:=hh.inj id hops id' hops' x y (yR hx).1 (yR hy).1 he
 zK:=hh.zK
 sep id hops x o u hx hu:=by
  obtain⟨hx',rF⟩:=yR hx;obtain⟨e1,ob,e2,e3⟩:=hh.sep id hops x o u hx' hu;exact⟨e1,ob,by rw[du,c7 rF];exact e2,e3⟩
 ty id ob hob hk:=by
  rw[du]at hob;split at hob
  .exact hh.ty id ob hob hk
  .cases hob
 fz id ob hob:=by
  rw[du]at hob;split at hob
  .exact hh.fz id ob hob
  .cases hob
def xu{n id:Nat}(h:(H.take n)[id]?=some ob):H[id]?=some ob:=by
 rw[du]at h;split at h
 .exact h
 .cases h
def zT.take{n id:Nat}(h:zT (E.cut n) (H.take n) id b):zT E H id b:=
 let ⟨ob,cap,h1,h2,h3,h4⟩:=h;⟨ob,cap,xu h1,h2,h3,h4⟩
def qo.take{n id:Nat}(h:qo (H.take n) id b):qo H id b:=
 let ⟨ob,r,t,h1,h2⟩:=h;⟨ob,r,t,xu h1,h2⟩
def qc.take{n:Nat}(h:qc (E.cut n) (H.take n) b):qc E H b:=
 let ⟨id,hops,x,hx,e⟩:=h;⟨id,hops,x,(yR hx).1,e⟩
def qK.take{E:Env}{H:zf}{n b:Nat}(h:qK (E.cut n) (H.take n) b):qK E H b:=
 h.imp qc.take λ⟨id,h⟩=>⟨id,h.imp zT.take qo.take⟩
def zL.drop{w:World}{E:Env}{H:zf}(hh:zL w E H)(n:Nat)(hn:n<=H.length)(hr:jk n (H.take n)=true):zL w (E.cut n) (H.take n) where
 base:=hh.base.drop n hn hr
 rI:={
  val:=λid ob h1 h2=>hh.rI.val id ob (xu h1) h2
  rM:=λid b ob h1 h2=>hh.rI.rM id b ob h1.take (xu h2)
  sep:=λid b h1 h2=>hh.rI.sep id b h1.take h2.take
  inj:=λid id' b h1 h2=>hh.rI.inj id id' b h1.take h2.take
  st:=λid b ob o u h1 h2 h3=>hh.rI.st id b ob o u h1.take (xu h2) h3
  top:=λid ob k u h1 h2 h3=>hh.rI.top id ob k u (xu h1) h2 h3
  sa:=λid ob r t h1 h2 h3=>by
   obtain⟨p1,p2⟩:=hh.rI.sa id ob r t (xu h1) h2 h3;refine⟨p1,p2.map λys hl=>⟨hl.1,λi c y e1 e2=>(hl.2 i c y e1 e2).cut n 9 ?_⟩⟩;have:=c8.1 hr ob (cZ h1);rw[h2,h3.1,h3.2]at this;simp at this;exact this.2 c (cZ e1)
  yq:=λid id' b h1 h2=>hh.rI.yq id id' b h1.take h2.take}
def zm.drop(n:Nat)(hB:Nat.ble B n=true)(hn:Nat.ble n s.H.length=true)(ht:s.tmps.all (j9 n 9)=true)(hr:jk n (s.H.take n)=true):zm B s ⟨s.tmps,s.H.take n⟩:=λm w E a hs=>
 ⟨E.cut n,⟨hs.heap.drop n (gk hn) hr,⟨hs.tmps.1,λi c y e1 e2=>(hs.tmps.2 i c y e1 e2).cut n 9 (c8.1 ht c (cZ e1))⟩,hs.defers,bn⟩,
  ⟨⟨λ_ _ _=>V,λ_ _ _=>V,λ_ _ _ h=>h,λ_ _ _ _ h=>h⟩,rfl,rfl,rfl,de _,λ_ _ _=>V,λb o u hu=>.inl hu,λb h=>.inr h.take⟩⟩
def zm.keep(m:List Nat)(n:Nat)(t:List C)(H:zf)(hB:Nat.ble B n=true)(hn:Nat.ble n H.length=true)(ht:(tZ m 0 t).all (j9 n 9)=true)(hr:jk n (H.take n)=true):zm B ⟨t,H⟩ ⟨tZ m 0 t,H.take n⟩:=
 (zm.mask m t H).trans (zm.drop (s:=⟨tZ m 0 t,H⟩) n hB hn ht hr)
def entry(fn:Func)(args:List C):List C:=args++List.replicate (fn.ntmps-args.length) .un
def eR(P:Program)(s:S):ResultVar->Option C
 |.tmp t=>some ((s.tmps[t]?).getD .za)
 |.cell a t=>yd P s.H t ((s.tmps[a]?).getD .za)
def yJ(P:Program)(fn:Func)(s:S):Option C:=
 match fn.results.toList.mapM (eR P s) with
 |some [c]=>some c
 |some cs=>some (.rO cs)
 |none=>none
def iU(tmps:Array Value):ResultVar->Sem Value
 |.tmp t=>pure (tmps.getD t undef)
 |.cell a t=>do loadVar t (<-asAddr (tmps.getD a undef))
theorem FQ(fn:Func)(tmps:Array Value):results fn tmps=(do let vs <-fn.results.mapM (iU tmps);pure (if h:vs.size=1 then vs[0] else .tuple vs)):=rfl
def A2{tmps:List C}{a:Array Value}(h:LL E tmps a.toList)(t:Tmp):L E ((tmps[t]?).getD .za) (a.getD t undef):=by
 have:=fP (a:=⟨a,[]⟩) h (.tmp t);exact cQ
def Gx(hh:zD w E H){c0:C}(hl:L E c0 y)(hc:yd P H t c0=some c):∃a u,y=.pointer (some a)/\(loadVar t a).run P w=.ok u w/\L E c u:=by
 unfold yd at hc;split at hc
 .rename_i d i hd hi;by_cases hag:ki d=true
  .rw[c7 hag]at hc;cases hr:vN H c0 i.size with
   |none=>rw[hr]at hc;cases hc
   |some cs=>
    rw[hr]at hc;cases hc
    obtain⟨a,us,ha,hcell,hll,hlen,hone⟩:=ij hh hl hr;have h3:=run_loadCells_list (P:=P) (w:=w) a us (λj v hj=>hcell j v hj);rw[hlen]at h3
    exact⟨a,.agg us.toArray,ha,by simp[loadVar,xY hd,hag,qk hi,h3],
     .agg cs us.toArray (ak hll.1) (λi c y e1 e2=>hll.2 i c y e1 uS) (λu hu=>hone u (ak hu))⟩
  .rw[c6 hag]at hc;split at hc
   .rename_i x0 hr;cases hc
    obtain⟨a,us,ha,hcell,hll,hlen,hone⟩:=ij hh hl hr
    obtain⟨u,rfl⟩:∃u,us=[u]:=by
     match us,hlen with
     |[u],_=>exact⟨u,rfl⟩
    have hu:=hcell 0 u V;have ha0:a.add 0=a:=by simp[Addr.add]
    rw[ha0]at hu;exact⟨a,u,ha,by simp[loadVar,xY hd,hag,hu],hll.cons_inv.1⟩
   .cases hc
 .cases hc
def mu{m:Nat}{a:Act}(hs:je B m w E s a)(hr:yJ P fn s=some r):∃v,(results fn a.tmps).run P w=.ok v w/\L E r v:=by
 have one:∀(x:ResultVar) c,eR P s x=some c->∃v,(iU a.tmps x).run P w=.ok v w/\L E c v:=by
  intro x c h;cases x with
  |tmp t=>cases h;exact⟨_,rfl,A2 hs.tmps t⟩
  |cell b t=>
   obtain⟨ad,u,e1,e2,e3⟩:=Gx hs.heap.base (A2 hs.tmps b) h;refine⟨u,?_,e3⟩;unfold iU;dsimp only;rw[e1];exact e2
 have key:∀(l:List ResultVar) (cs:List C),l.mapM (eR P s)=some cs->∃vs:List Value,(l.mapM (iU a.tmps)).run P w=.ok vs w/\LL E cs vs:=by
  intro l
  induction l with
  |nil=>intro cs h;simp at h;subst h;exact⟨[],aj,LL.nil⟩
  |cons x l ih=>
   intro cs h;rw[pb]at h;cases hx:eR P s x with
   |none=>rw[hx]at h;cases h
   |some c=>
    rw[hx]at h;cases hm:l.mapM (eR P s) with
    |none=>rw[hm]at h;cases h
    |some cs'=>
     rw[hm]at h;cases h
     obtain⟨vs,h1,h2⟩:=ih cs' hm;obtain⟨v,e1,e2⟩:=one x c hx;exact⟨v::vs,by rw[pb];simp[h1,e1],LL.cons e2 h2⟩
 unfold yJ at hr;cases hm:fn.results.toList.mapM (eR P s) with
 |none=>rw[hm]at hr;cases hr
 |some cs=>
  obtain⟨vs,h1,h2⟩:=key _ cs hm
  have h3:(results fn a.tmps).run P w=.ok (if h:vs.toArray.size=1 then vs.toArray[0] else .tuple vs.toArray) w:=by
   rw[FQ,Array.mapM_eq_mapM_toList];simp[h1]
  refine⟨_,h3,?_⟩;rw[hm]at hr;split at hr
  .rename_i c e;cases e
   cases hr
   match vs,h2 with
   |[],h2=>have:=h2.1;simp at this
   |[v],h2=>simpa using h2.cons_inv.1
   |_::_::_,h2=>have:=h2.1;simp at this
  .rename_i cs0 hne e;cases e
   cases hr
   have hl:=h2.1
   have hne1:vs.length≠1:=by
    intro h;rw[h]at hl
    match cs,hl with
    |[c],_=>exact hne c V
   rw[dif_neg (ak hne1)];exact .rO cs vs.toArray (ak hl) (λi c y e1 e2=>h2.2 i c y e1 uS)
  .rename_i e;cases e
def Bd{vs:Array Value}(h:LL E args vs.toList):LL E (entry fn args) (vs++Array.replicate (fn.ntmps-vs.size) undef).toList:=by
 rw[gX,Array.toList_replicate];have hl:=h.1;simp at hl;refine h.append ⟨by simp[hl],?_⟩;intro i c y e1 e2;obtain⟨rfl,_⟩:=pB.1 (cZ e1) |>.symm
 obtain⟨rfl,_⟩:=pB.1 (cZ e2) |>.symm
 exact .un
def leaves{fn:Func}{tmps:Array Value}{R:Ending->World->Prop}{m:Nat}:∀{ds:List Deferred} {w:World},Marks m w ds->
  (∀w':World,w'.os=w.os->w'.tape=w.tape->w'.output=w.output->w'.heap.size=w.heap.size->(∀k:Nat,k<m->w'.heap[k]?=w.heap[k]?)->(∀(k:Nat) (o:Obj),w.heap[k]?=some o->(∀ds,o≠.deferred ds)->w'.heap[k]?=w.heap[k]?)->
   ∃v,(results fn tmps).run P w'=.ok v w'/\R (.returned v) w')->LeavesInM (fw none) 0 P fn tmps R ds .returning w
 |[],w,_,h=>h w V V V V (λ_ _=>V) (λ_ _ _ _=>V)
 |d::ds,w,⟨⟨D,h1,h2,h3,h4⟩,ht⟩,h=>by
  refine⟨aj,.inl ⟨D,_,by rw[h1],run_takeDeferred h3,leaves (Marks.mono aj ht λD' hm hd=>World.putObj_heap_other (by rintro rfl;exact h4 hm)) λw' a1 a2 a3 a4 a5 a6=>
   h w' a1 a2 a3 (a4.trans World.putObj_size) (λk hk=>(a5 k hk).trans (World.putObj_heap_other ah)) λk o hc hd=>?_⟩⟩
  have hne:k≠D:=by rintro rfl;rw[h3]at hc;cases hc;exact hd _ V
  have e:=World.putObj_heap_other (w:=w) (o:=.deferred none) hne;exact(a6 k o (e.trans hc) hd).trans e
def ql(P:Program)(f:FuncId)(H:zf)(args:List C)(R:C->zf->Prop):Prop:=
 ∀(w:World) (E:Env) (vs:Array Value),zL w E H->LL E args vs.toList->
  Calls P f vs w λe w'=>∃r H' v E',R r H'/\e=.returned v/\zL w' E' H'/\L E' r v/\Grow w E H w' E' H'
def ql.at(h:ql P f H args λc X=>c=r/\X=H'):zb P f H args r H':=λw E vs hh hl=>
 (h w E vs hh hl).mono λe w' ⟨c,X,v,E',⟨h1,h2⟩,h3⟩=>by subst h1 h2;exact⟨v,E',h3⟩
def zb.sX(h:zb P f H args r H')(hR:R r H'):ql P f H args R:=λw E vs hh hl=>
 (h w E vs hh hl).mono λe w' ⟨v,E',h3⟩=>⟨r,H',v,E',hR,h3⟩
def ql.ye{c:Code}(hf:P.funcs[f]?=some fn)(hb:fn.body=some c)
 (hr:qb P H.length c ⟨entry fn args,H⟩ λex s1=>(ex=.ret\/ex=.normal)/\∃s2 r,zm H.length s1 s2/\yJ P fn s2=some r/\R r s2.H):ql P f H args R:=λw E vs hh hl=>by
 refine(callsIn_wide (n:=0)).1 (callsIn_of_wp_marks hf hb trivial (hr none w.heap.size w E _ _ (λ_=>V) ⟨hh,Bd hl,de _,de _⟩ λex s1 w' E1 a' hR hs1 g1=>?_));obtain⟨hex,s',r,hw,hres,hRr⟩:=hR;obtain⟨E',hs,g2⟩:=hw _ w' E1 a' hs1;have g:=g1.trans g2
 have key:LeavesInM (fw none) 0 P fn a'.tmps (λe w'=>∃r H' v E',R r H'/\e=.returned v/\zL w' E' H'/\L E' r v/\Grow w E H w' E' H') a'.defers .returning w':=by
  refine leaves hs.defers λw2 a1 a2 a3 a4 a5 a6=>?_
  have hs2:je H.length w.heap.size w2 E' s' {a' with defers:=[]}:=⟨hs.heap.cells a6,hs.tmps,bo,hs.base⟩;obtain⟨v,h1,h2⟩:=mu hs2 hres
  have hg:Grow w E H w2 E' s'.H:=⟨⟨bp,λid hops hi=>g.le.β id hops uU,λid hops hi=>g.le.κ id hops uU,g.le.St,λid k u hi=>g.le.G id k u uU⟩,
   a1.trans g.os,a2.trans g.tape,a3.trans g.output,by rw[a4];exact g.size,λk hk ho=>(a5 k hk).trans (g.frame k hk ho),g.qB,g.own⟩
  exact⟨v,h1,r,s'.H,v,E',hRr,rfl,hs2.heap,h2,hg⟩
 rcases hex with rfl|rfl <;> exact key
def qK.none:¬qK E [] b:=λh=>by
 rcases h with⟨id,hops,x,hx,_⟩|⟨id,⟨ob,cap,hx,_⟩|⟨ob,r,t,hx,_⟩⟩
 .simp[zB]at hx
 .simp at hx
 .simp at hx
def ql.close{R:C->Prop}(h:ql P f [] args λc _=>R c)(hc:∀c,R c->c=r/\j9 0 9 r=true):zb P f [] args r []:=λw E vs hh hl=>by
 refine(h w E vs hh hl).mono ?_;rintro e w' ⟨c,H',v,E',hR,rfl,h1,h2,g⟩;obtain⟨rfl,hlow⟩:=hc c hR;have h3:=h1.drop 0 (dA _) (by simp[jk]);rw[pZ]at h3;have hn:E.n=0:=hh.n
 exact⟨v,E'.cut 0,rfl,h3,h2.cut 0 9 hlow,⟨⟨by rw[hn];exact dA _,λid hops hi=>by rw[hn]at hi;omega,λid hops hi=>by rw[hn]at hi;omega,g.le.St,λid k u hi=>by rw[hn]at hi;omega⟩,g.os,g.tape,g.output,g.size,g.frame,g.qB,
  λb h=>absurd h qK.none⟩⟩
def zb.frame{f:FuncId}{args:List C}{r:C}(h:zb P f [] args r [])(ha:args.all (j9 0 9)=true)(H:zf):zb P f H args r H:=λw E vs hh hl=>by
 have h0:zL w (E.cut 0) []:=by
  have:=hh.drop 0 (dA _) (by simp[jk]);rw[pZ]at this;exact cQ
 have hl0:LL (E.cut 0) args vs.toList:=⟨hl.1,λi c y e1 e2=>(hl.2 i c y e1 e2).cut 0 9 (c8.1 ha c (cZ e1))⟩;refine(h w (E.cut 0) vs h0 hl0).mono ?_;rintro e w' ⟨v,E',rfl,h1,h2,g⟩;have hle:E.le {E with St:=E'.St}:=⟨de _,λ_ _ _=>V,λ_ _ _=>V,λb o u hu=>g.le.St b o u hu,λ_ _ _ _ hu=>hu⟩;have hn:E'.n=0:=h1.n;have hsame:∀b,b<w.heap.size->w'.heap[b]?=w.heap[b]?:=λb hb=>g.frame b hb qK.none
 have hnew:∀b o u,E'.St b o=some u->E.St b o=some u\/w.heap.size<=b:=λb o u hu=>by
  rcases g.qB b o u hu with h5|h5|h5
  .exact .inl h5
  .exact .inr h5
  .exact absurd h5 qK.none
 have hb:=hh.base
 have hst:∀id hops x o u,zB H id hops=some x->E'.St (E.β id hops) o=some u->E.St (E.β id hops) o=some u:=λid hops x o u hx hu=>by
  rcases hnew _ o u hu with h5|h5
  .exact h5
  .have:=hb.lt hx;omega
 have hR:zD w' {E with St:=E'.St} H:=by
  refine⟨hb.n,?_,hb.inj,h1.base.zK,?_,?_,hb.fz⟩
  .intro id ob hops sz rows hob hx;have hb':=hb.rM id ob hops sz rows hob hx;exact hb'.step hle (by rw[hb.n];exact y8 hx) (hsame _ hb'.mK)
  .intro id hops x o u hx hu;exact hb.sep id hops x o u hx (hst id hops x o u hx hu)
  .intro id ob hob hk;obtain⟨cur,hc⟩:=hb.ty id ob hob hk;exact⟨cur,by rw[<-hc];exact hsame _ (db.1 hc).1⟩
 have hG:zR w E H w' {E with St:=E'.St} H:=⟨hle,λ_ _ _=>V,g.os,g.tape,g.output,g.size,λk hk _=>hsame k hk,λb o u hu=>(hnew b o u hu).imp_right .inl,λb hb=>.inr hb⟩;refine⟨v,{E with St:=E'.St},rfl,⟨hR,sR.step hh hG (qs.refl H)⟩,?_,hG.up hh (qs.refl H)⟩;have hz:∀{p:Prop} (id:Nat),id<E'.n->p:=λid hi=>absurd hi (by rw[hn];exact dx _)
 have hle2:Env.le E' {E with St:=E'.St}:=Env.le.mk (by rw[hn];exact dA _) (λid hops hi=>hz id hi) (λid hops hi=>hz id hi) (λb o u hu=>hu) (λid _ _ hi=>hz id hi);exact L.mono hle2 h2
end
section
variable {P:Program} {o:Oper} {ρ:Operand->C} {H:zf}
def run_sliceBound{k:IntKind}{n y:Nat}{code:BoundsCode}(h:n<=y)(w:World):(Instr.sliceBound (.int k n) y code).run P w=.ok n w:=by
 simp[Instr.sliceBound,asIntOf,h]
def sM(ρ:Operand->C)(x:Option Operand)(dflt n:Nat):Prop:=
 match x with
 |none=>n=dflt
 |some y=>∃k,ρ y=.v (.int k n)
def o4{len cap:Nat}{hi:Option Operand}{l h:Nat}(hl:∀y,lo=some y->∃k,σ y=.int k l)(hl0:lo=none->l=0)(hh:∀y,hi=some y->∃k,σ y=.int k h)(hh0:hi=none->h=len)
 (h1:l<=h)(h2:h<=cap)(w:World):(Instr.sliceBounds true len cap (lo.map σ) (hi.map σ) none).run P w=.ok (l,h,cap) w:=by
 unfold Instr.sliceBounds;cases lo with
 |none=>
  obtain rfl:=hl0 V;cases hi with
  |none=>obtain rfl:=hh0 V;simp
  |some y=>obtain⟨k,e⟩:=hh y V;simp[e,run_sliceBound h2]
 |some x=>
  obtain⟨k0,e0⟩:=hl x V;cases hi with
  |none=>obtain rfl:=hh0 V;simp[e0,run_sliceBound h1]
  |some y=>obtain⟨k,e⟩:=hh y V;simp[e,e0,run_sliceBound h2,run_sliceBound h1]
def Ex{len cap:Nat}{hi mx:Operand}{l h m:Nat}(hl:∀y,lo=some y->∃k,σ y=.int k l)(hl0:lo=none->l=0)(hh:∃k,σ hi=.int k h)(hm:∃k,σ mx=.int k m)
 (h1:l<=h)(h2:h<=m)(h3:m<=cap)(w:World):(Instr.sliceBounds true len cap (lo.map σ) (some (σ hi)) (some (σ mx))).run P w=.ok (l,h,m) w:=by
 unfold Instr.sliceBounds;obtain⟨k,e⟩:=hh;obtain⟨k',e'⟩:=hm;cases lo with
 |none=>obtain rfl:=hl0 V;simp[e,e',run_sliceBound h2,run_sliceBound h3]
 |some x=>obtain⟨k0,e0⟩:=hl x V;simp[e,e',e0,run_sliceBound h2,run_sliceBound h1,run_sliceBound h3]
def sM.val{x:Option Operand}{d n:Nat}(h:sM ρ x d n)(hl:∀y,x=some y->L E (ρ y) (σ y)):(∀y,x=some y->∃k,σ y=.int k n)/\(x=none->n=d):=by
 unfold sM at h;cases x with
 |none=>exact⟨λy e=>(by cases e),λ_=>h⟩
 |some y=>
  refine⟨λz e=>?_,λe=>(by cases e)⟩;cases e
  obtain⟨k,e⟩:=h;have:=hl y V;rw[e]at this;refine⟨k,?_⟩;generalize σ y=u at *;cases this
  rfl
def Bx{o:Nat}(h:L E (.rG o sz rows) y):∃a cap,y=.slice a rows.length cap/\rows.length<=cap/\(o=1->cap=rows.length)/\
  ∀(l h m o':Nat),l<=h->h<=rows.length->m<=cap->h<=m->(o'=0\/o'=1/\m=h)->L E (.rG o' sz ((rows.drop l).take (h-l))) (.slice (if m=l then a else a.map (·.add (l*sz))) (h-l) (m-l)):=by
 cases h with
 |rG o sz rows b off cap us ho hc hsz hst hL=>
  refine⟨_,cap,rfl,hc,λe=>by subst e;exact(ho.resolve_left aq).2,?_⟩;intro l h m o' h1 h2 h3 h4 ho';have hlen:((rows.drop l).take (h-l)).length=h-l:=aw
  have ho2:o'=0\/o'=1/\m-l=((rows.drop l).take (h-l)).length:=by
   rw[hlen];rcases ho' with e|⟨e,e2⟩
   .exact .inl e
   .exact .inr ⟨e,ah⟩
  by_cases hm:m=l
  .rw[c7 hm];have:h=l:=by omega
   subst this;subst hm;simp only[gU,pZ]at ho2|-;exact .rG o' sz [] b off 0 (λ_ _=>undef) (ak ho2) (de _) aj aj aj
  .rw[c6 hm,dc,qX];have:=L.rG (E:=E) o' sz ((rows.drop l).take (h-l)) b (off+l*sz) (m-l) (λi k=>us (l+i) k) ho2 (by rw[hlen];omega) (λr hr=>hsz r (pf (gK hr))) ?_ ?_
   .rw[hlen]at this;exact cQ
   .intro i r k c hr hk;rw[du]at hr;split at hr
    .rw[dM]at hr;have:=hst (l+i) r k c hr hk;rw[dN]at this;rw[show off+l*sz+i*sz+k=off+(l*sz+i*sz)+k from ah];exact cQ
    .cases hr
   .intro i r k c hr hk;rw[du]at hr;split at hr
    .rw[dM]at hr;exact hL (l+i) r k c hr hk
    .cases hr
 |q6 o sz ho a=>
  refine⟨a,0,rfl,de _,λ_=>V,?_⟩;intro l h m o' h1 h2 h3 h4 ho';simp at h2 h3;subst h2;subst h3;obtain rfl:l=0:=ah
  simp;exact .q6 o' sz (by rcases ho' with e|e;exact .inl e;exact .inr e.1) a
def zU.A1(t:TypeId)(x:Operand)(lo hi:Option Operand)(ho:o.op=.slice t x lo hi none)(ht:P.underlying t=some (.slice e))(hi':P.info? e=some i)
 (hx:ρ x=.rG fo sz rows)(hsz:rows=[]\/sz=i.size){l h:Nat}(hl':sM ρ lo 0 l)(hh':sM ρ hi rows.length h)(h1:l<=h)(h2:h<=rows.length):
  zU P o ρ H (.rG (if fo=1/\h=rows.length then 1 else 0) sz ((rows.drop l).take (h-l))) H:=λw E σ hh hl K hk=>by
 have h0:=hl x uR;rw[hx]at h0;obtain⟨a,cap,e1,e2,e3,e4⟩:=Bx h0;obtain⟨b1,b2⟩:=hl'.val (E:=E) (σ:=σ) (λy e=>hl y tE);obtain⟨b3,b4⟩:=hh'.val (E:=E) (σ:=σ) (λy e=>hl y tE)
 have hr:(execOp σ o).run P w=.ok (.value (.slice (if cap=l then a else a.map (·.add (l*i.size))) (h-l) (cap-l))) w:=by
  unfold execOp;simp[ho,Instr.sliceAt,run_underlying ht,Instr.slice,e1,o4 b1 b2 b3 b4 h1 (by omega:h<=cap),qk hi']
 rw[hr];refine hk _ w E hh ?_ (zR.refl w E H)
 have hsz2:(if cap=l then a else a.map (·.add (l*i.size)))=(if cap=l then a else a.map (·.add (l*sz))):=by
  rcases hsz with e|e
  .subst e;have:l=0:=by simp at h2;omega
   subst this;simp
  .rw[e]
 rw[hsz2];refine e4 l h cap _ h1 h2 (de _) ah ?_;by_cases hc:fo=1/\h=rows.length
 .rw[c7 hc];exact .inr ⟨rfl,by rw[e3 hc.1];exact hc.2.symm⟩
 .rw[c6 hc];exact .inl V
def zU.F2(t:TypeId)(x:Operand)(lo:Option Operand)(hi mx:Operand)(ho:o.op=.slice t x lo (some hi) (some mx))(ht:P.underlying t=some (.slice e))(hi':P.info? e=some i)
 {rows:List (List C)}(hx:ρ x=.rG fo sz rows)(hsz:rows=[]\/sz=i.size){l h:Nat}(hl':sM ρ lo 0 l)(hh':sM ρ (some hi) 0 h)(hm':sM ρ (some mx) 0 h)(h1:l<=h)(h2:h<=rows.length):
  zU P o ρ H (.rG 1 sz ((rows.drop l).take (h-l))) H:=λw E σ hh hl K hk=>by
 have h0:=hl x uR;rw[hx]at h0;obtain⟨a,cap,e1,e2,e3,e4⟩:=Bx h0;obtain⟨b1,b2⟩:=hl'.val (E:=E) (σ:=σ) (λy e=>hl y tE);obtain⟨b3,_⟩:=hh'.val (E:=E) (σ:=σ) (λy e=>hl y (by cases e;simp[ho,Op.operands]));obtain⟨b4,_⟩:=hm'.val (E:=E) (σ:=σ) (λy e=>hl y (by cases e;simp[ho,Op.operands]))
 have hr:(execOp σ o).run P w=.ok (.value (.slice (if h=l then a else a.map (·.add (l*i.size))) (h-l) (h-l))) w:=by
  unfold execOp;simp[ho,Instr.sliceAt,run_underlying ht,Instr.slice,e1,Ex b1 b2 (b3 _ V) (b4 _ V) h1 (de h) (by omega:h<=cap),qk hi']
 rw[hr];refine hk _ w E hh ?_ (zR.refl w E H)
 have hsz2:(if h=l then a else a.map (·.add (l*i.size)))=(if h=l then a else a.map (·.add (l*sz))):=by
  rcases hsz with e|e
  .subst e;have:l=0:=by simp at h2;omega
   subst this;simp
  .rw[e]
 rw[hsz2];exact e4 l h h 1 h1 h2 ah (de _) (.inr ⟨rfl,rfl⟩)
def zU.HF(t:TypeId)(x:Operand)(lo hi:Option Operand)(ho:o.op=.slice t x lo hi none)(ht:P.underlying t=some (.slice e))(hi':P.info? e=some i){id:Nat}{lo0 len:Nat}{full:Bool}
 (hx:ρ x=.sl id hops sz lo0 len full)(hsz:sz=i.size){l h:Nat}(hl':sM ρ lo 0 l)(hh':sM ρ hi len h)(h1:l<=h)(h2:h<=len)(hne:l=0\/l<h)(hfu:full=false\/h=len):
  zU P o ρ H (.sl id hops sz (lo0+l) (h-l) full) H:=λw E σ hh hl K hk=>by
 have h0:=hl x uR;rw[hx]at h0
 obtain⟨cap,hy,hn,hlen,hf,hf'⟩:∃cap,σ x=.slice (some ⟨E.β id hops,lo0*sz,none⟩) len cap/\id<E.n/\len<=cap/\(full=true->cap=len)/\(full=false->lo0+cap=E.κ id hops):=by
  generalize σ x=u at *;cases h0 with
  |sl id hops sz lo len full cap hn hlen hf hf'=>exact⟨cap,rfl,hn,hlen,hf,hf'⟩
 obtain⟨b1,b2⟩:=hl'.val (E:=E) (σ:=σ) (λy e=>hl y tE);obtain⟨b3,b4⟩:=hh'.val (E:=E) (σ:=σ) (λy e=>hl y tE)
 have hr:(execOp σ o).run P w=.ok (.value (.slice (some (if cap=l then ⟨E.β id hops,lo0*sz,none⟩ else (Addr.mk (E.β id hops) (lo0*sz) none).add (l*i.size))) (h-l) (cap-l))) w:=by
  unfold execOp;simp only[ho,Instr.sliceAt,Sem.run_bind,run_underlying ht,Result.andThen_ok,Instr.slice,hy,Option.map_none,o4 b1 b2 b3 b4 h1 (by omega:h<=cap),qk hi'];by_cases hc:cap=l
  .simp[hc]
  .simp[hc]
 rw[hr];refine hk _ w E hh ?_ (zR.refl w E H)
 have hadd:(if cap=l then (⟨E.β id hops,lo0*sz,none⟩:Addr) else (Addr.mk (E.β id hops) (lo0*sz) none).add (l*i.size))=⟨E.β id hops,(lo0+l)*sz,none⟩:=by
  rw[qX,<-hsz,<-dN];by_cases hc:cap=l
  .rw[c7 hc];have:l=0:=by omega
   rw[this];rfl
  .rw[c6 hc]
 rw[hadd];refine .sl id hops sz (lo0+l) (h-l) full (cap-l) hn ah (λe=>?_) (λe=>?_)
 .have:=hf e;rcases hfu with e2|e2
  .rw[e]at e2;cases e2
  .omega
 .have:=hf' e;omega
end
def xQ(P:Program)(eq:TypeId->C->C->Option Bool)(xs ys:List C):List Field->Option Bool
 |[]=>some true
 |f :: fs => if f.name ≠ "_" then
   match kG P f.type xs f.offset,kG P f.type ys f.offset with
   |some a,some b=>match eq f.type a b,xQ P eq xs ys fs with
    |some r,some r'=>some (r && r')
    |_,_=>none
   |_,_=>none
  else xQ P eq xs ys fs
def vD(P:Program)(eq:C->C->Option Bool)(el:TypeId)(n:Nat)(xs ys:List C):List Nat->Option Bool
 |[]=>some true
 |i::is=>match kG P el xs (i*n),kG P el ys (i*n) with
  |some a,some b=>match eq a b,vD P eq el n xs ys is with
   |some r,some r'=>some (r && r')
   |_,_=>none
  |_,_=>none
def tp(P:Program):Nat->TypeId->C->C->Option Bool
 |0,_,_,_=>none
 |d+1,t,x,y=>match P.underlying t,x,y with
  |some (.int _),.v (.int k a),.v (.int k' b)=>if k=k' then some (a == b) else none
  |some .bool,.v (.bool a),.v (.bool b)=>some (a == b)
  |some .string,.v (.string a),.v (.string b)=>match a,b with
   |⟨⟨a⟩⟩,⟨⟨b⟩⟩=>some (a == b)
  |some (.struct fs),.agg xs,.agg ys=>xQ P (tp P d) xs ys fs.toList
  |some (.array len el),.agg xs,.agg ys=>match P.info? el with
   |some i=>vD P (tp P d el) el i.size xs ys (List.range' 0 len)
   |none=>none
  |_,_,_=>none
def vG(P:Program):Nat->TypeId->Bool
 |0,_=>false
 |d+1,t=>match P.underlying t with
  |some (.struct fs)=>!P.stoodInHeld t && fs.toList.all λf=>vG P d f.type
  |some (.array _ el)=>vG P d el
  |_=>true
section
variable {P:Program} {E:Env}
def x6{d:Nat}(ih:∀{d'} {t:TypeId} {x y:C} {u v:Value} {b:Bool} (w:World),vG P d t=true->d<=d'->L E x u->L E y v->tp P d t x y=some b->(Op.equalIn d' t u v).run P w=.ok b w){d':Nat}(hd:d<=d')
 {xs ys:List C}{us vs:Array Value}(hx:LL E xs us.toList)(hy:LL E ys vs.toList)(h1:∀u∈us,u.oneCell'=true)(h2:∀u∈vs,u.oneCell'=true)(w:World):
  ∀(fs:List Field) (b:Bool),(fs.all λf=>vG P d f.type)=true->xQ P (tp P d) xs ys fs=some b->(Op.eqFields d' us vs fs).run P w=.ok b w
 |[],b,_,h=>by simp[xQ]at h;subst h;simp[Op.eqFields]
 |f::fs,b,zF,h=>by
  simp only[pn,c9]at zF;unfold xQ at h;unfold Op.eqFields;by_cases hn : f.name ≠ "_"
  .rw[c7 hn]at h|-;split at h
   .rename_i a a' ha ha';split at h
    .rename_i r r' hr hr';cases h
     obtain⟨u,hu,hlu⟩:=y1 (w:=w) hx h1 ha;obtain⟨v,hv,hlv⟩:=y1 (w:=w) hy h2 ha';have h5:=ih w zF.1 hd hlu hlv hr;have h6:=x6 ih hd hx hy h1 h2 w fs r' zF.2 hr';simp only[Sem.run_bind,hu,hv,h5,Result.andThen_ok];cases r
     .simp
     .simpa using h6
    .cases h
   .cases h
  .rw[c6 hn]at h|-;exact x6 ih hd hx hy h1 h2 w fs b zF.2 h
def E4{d:Nat}(ih:∀{d'} {t:TypeId} {x y:C} {u v:Value} {b:Bool} (w:World),vG P d t=true->d<=d'->L E x u->L E y v->tp P d t x y=some b->(Op.equalIn d' t u v).run P w=.ok b w){d':Nat}(hd:d<=d')
 {xs ys:List C}{us vs:Array Value}(hx:LL E xs us.toList)(hy:LL E ys vs.toList)(h1:∀u∈us,u.oneCell'=true)(h2:∀u∈vs,u.oneCell'=true)(w:World){t el:TypeId}{len:Nat}{i:TypeInfo}
 (ht:P.underlying t=some (.array len el))(hi:P.info? el=some i)(hh:vG P d el=true){b:Bool}(h:vD P (tp P d el) el i.size xs ys (List.range' 0 len)=some b):
  (Op.equalIn (d'+1) t (.agg us) (.agg vs)).run P w=.ok b w:=by
 simp only[Op.equalIn,Sem.run_bind,run_underlying ht,Result.andThen_ok,qk hi,Std.Legacy.Range.forIn_eq_forIn_range',Std.Legacy.Range.size,gu,Nat.add_sub_cancel,Nat.div_one]
 revert h
 generalize List.range' 0 len=is;intro h
 induction is generalizing b with
 |nil=>simp[vD]at h;subst h;simp
 |cons j is ih2=>
  unfold vD at h;split at h
  .rename_i a a' ha ha';split at h
   .rename_i r r' hr hr';cases h
    obtain⟨u,hu,hlu⟩:=y1 (w:=w) hx h1 ha;obtain⟨v,hv,hlv⟩:=y1 (w:=w) hy h2 ha';have h5:=ih w hh hd hlu hlv hr;have h6:=ih2 hr';simp only[List.forIn_cons,Sem.run_bind,Sem.run_ite,hu,hv,h5,Result.andThen_ok];cases r
    .simp
    .simpa using h6
   .cases h
  .cases h
def lZ:∀(d:Nat) {d':Nat} {t:TypeId} {x y:C} {u v:Value} {b:Bool} (w:World),vG P d t=true->d<=d'->L E x u->L E y v->tp P d t x y=some b->(Op.equalIn d' t u v).run P w=.ok b w
 |0,d',t,x,y,u,v,b,w,_,hd,hx,hy,h=>by simp[tp]at h
 |d+1,d',t,x,y,u,v,b,w,hheld,hd,hx,hy,h=>by
  obtain⟨d'',rfl⟩:∃d'',d'=d''+1:=⟨d'-1,ah⟩;unfold tp at h;split at h
  .rename_i k0 k a k' b' hu;cases hx;cases hy
   split at h
   .rename_i e;subst e;cases h;exact run_equalIn_int w d'' t _ _ _ _ hu
   .cases h
  .rename_i a b' hu;cases hx;cases hy;cases h
   exact run_equalIn_bool' w d'' t _ _ hu
  .rename_i a b' hu;obtain⟨⟨a⟩⟩:=a;obtain⟨⟨b'⟩⟩:=b';cases hx;cases hy;cases h
   have e:((⟨⟨a⟩⟩:ByteArray) == ⟨⟨b'⟩⟩)=(a == b'):=by
    show((⟨a⟩:Array UInt8) == ⟨b'⟩)=(a == b');simp
   simp[Op.equalIn,run_underlying hu,e]
  .rename_i fs xs ys hu;have hf:P.fieldsOf t=fs:=by unfold Program.fieldsOf;rw[hu]
   unfold vG at hheld;rw[hu]at hheld;simp only[c9,dG]at hheld;cases hx with
   |agg _ us a1 a2 a3=>
    cases hy with
    |agg _ vs b1 b2 b3=>
     rw[run_equalIn_struct w d'' t us vs (by rw[hf];exact hu) hheld.1,hf]
     exact x6 (d:=d) (λ{d'} {t} {x} {y} {u} {v} {b} w h0 h1 h2 h3 h4=>lZ d w h0 h1 h2 h3 h4) ah ⟨ak a1,λi c y e1 e2=>a2 i c y e1 uS⟩
      ⟨ak b1,λi c y e1 e2=>b2 i c y e1 uS⟩ a3 b3 w fs.toList b hheld.2 h
  .rename_i len el xs ys hu;unfold vG at hheld;rw[hu]at hheld;dsimp only at hheld;split at h
   .rename_i i hi;cases hx with
    |agg _ us a1 a2 a3=>
     cases hy with
     |agg _ vs b1 b2 b3=>
      exact E4 (d:=d) (λ{d'} {t} {x} {y} {u} {v} {b} w h0 h1 h2 h3 h4=>lZ d w h0 h1 h2 h3 h4) ah ⟨ak a1,λi c y e1 e2=>a2 i c y e1 uS⟩
       ⟨ak b1,λi c y e1 e2=>b2 i c y e1 uS⟩ a3 b3 w hu hi hheld h
   .cases h
  .cases h
def zU.wB(op:BinOp)(t t':TypeId)(x y:Operand)(ho:o.op=.binOp op t x y t')(hop:op=.eql\/op=.neq)(hm:P.eqGuardType P.depth t=false)(hheld:vG P 9 t=true){xs ys:List C}(hx:ρ x=.agg xs)(hy:ρ y=.agg ys)
 {b:Bool}(hb:tp P 9 t (.agg xs) (.agg ys)=some b):zU P o ρ H (.v (.bool (if op=.eql then b else !b))) H:=λw E σ hh hl K hk=>by
 have h0:=hl x uR;have h1:=hl y uR;rw[hx]at h0;rw[hy]at h1;have h2:=lZ (E:=E) (d':=10000) 9 w hheld aq h0 h1 hb;obtain⟨us,hu⟩:∃us,σ x=.agg us:=by generalize σ x=u at *;cases h0;exact⟨_,rfl⟩
 obtain⟨vs,hv⟩:∃vs,σ y=.agg vs:=by generalize σ y=u at *;cases h1;exact⟨_,rfl⟩
 rw[hu,hv]at h2
 have hr:(execOp σ o).run P w=.ok (.value (.bool (if op=.eql then b else !b))) w:=by
  unfold execOp;simp only[ho,hu,hv,Sem.run_bind,run_eqGuard_agg w op t x y us vs hm,Result.andThen_ok];rcases hop with rfl|rfl
  .rw[run_eql_struct,h2];rfl
  .rw[run_neq_struct,h2];rfl
 exact cm
def wg.iF(op:BinOp)(t t':TypeId)(x:Operand)(ho:o.op=.binOp op t x (.const (.slice none 0 0)) t')(hop:op=.eql\/op=.neq)(ht:P.underlying t=some (.slice e))
 (hx:(∃fo sz rows,ρ x=.rG fo sz rows/\rows≠[])\/∃id hops sz lo len full,ρ x=.sl id hops sz lo len full):wg P o ρ H (.v (.bool (if op=.eql then false else true))) H:=λw E σ hh hl hc K hk=>by
 have h0:=hl x uR
 obtain⟨b,off,len,cap,hv⟩:∃b off len cap,σ x=.slice (some ⟨b,off,none⟩) len cap:=by
  generalize σ x=u at *;rcases hx with⟨fo,sz,rows,h1,h2⟩|⟨id,hops,sz,lo,len,full,h1⟩
  .rw[h1]at h0;cases h0 with
   |rG o sz rows b off cap us ho hc hsz hst hL=>exact⟨_,_,_,_,rfl⟩
   |q6 o sz ho a=>exact absurd V h2
  .rw[h1]at h0;cases h0
   exact⟨_,_,_,_,rfl⟩
 have hr:(execOp σ o).run P w=.ok (.value (.bool (if op=.eql then false else true))) w:=by
  unfold execOp;rcases hop with rfl|rfl
  .simp[ho,hv,hc,eqGuard,binOp,run_equal_slice_nil w t e _ len cap ht]
  .simp[ho,hv,hc,eqGuard,binOp,run_equal_slice_nil w t e _ len cap ht]
 rw[hr];exact hk _ w E hh (.v _ V) (Grow.refl w E H)
def qz.BL(op:BinOp)(t t':TypeId)(x:Operand)(ho:o.op=.binOp op t x (.const (.slice none 0 0)) t')(hop:op=.eql\/op=.neq)(ht:P.underlying t=some (.slice e))
 {fo sz:Nat}(hx:ρ x=.rG fo sz []){R:C->zf->Prop}(h1:R (.v (.bool true)) H)(h2:R (.v (.bool false)) H):qz P o ρ H R:=λw E σ hh hl hc K hk=>by
 have h0:=hl x uR
 obtain⟨a,len,cap,hv⟩:∃a len cap,σ x=.slice a len cap:=by
  generalize σ x=u at *;rw[hx]at h0;cases h0 with
  |rG o sz rows b off cap us ho hc hsz hst hL=>exact⟨_,_,_,rfl⟩
  |q6 o sz ho a=>exact⟨_,_,_,rfl⟩
 have hr:∃b,(execOp σ o).run P w=.ok (.value (.bool b)) w:=by
  unfold execOp;rcases hop with rfl|rfl
  .exact⟨a.isNone,bq⟩
  .exact⟨a.isSome,bq⟩
 obtain⟨b,hr⟩:=hr;rw[hr];refine hk _ _ _ w E (?_:R (.v (.bool b)) H) hh (.v _ V) (Grow.refl w E H);cases b
 .exact h2
 .exact h1
def wg.BG(op:BinOp)(t t':TypeId)(x:Operand)(ho:o.op=.binOp op t x (.const (.pointer none)) t')(hop:op=.eql\/op=.neq)(ht:P.underlying t=some (.pointer (P.pointee t)))(b:Bool)
 (hx:∀E u,L E (ρ x) u->∃a,u=.pointer a/\a.isNone=b):wg P o ρ H (.v (.bool (if op=.eql then b else !b))) H:=λw E σ hh hl hc K hk=>by
 obtain⟨a,hv,hb⟩:=hx E _ (hl x uR)
 have hr:(execOp σ o).run P w=.ok (.value (.bool (if op=.eql then b else !b))) w:=by
  unfold execOp;rcases hop with rfl|rfl
  .simp[ho,hv,hc,eqGuard,binOp,run_equal_pointer_nil w t a ht,hb]
  .simp[ho,hv,hc,eqGuard,binOp,run_equal_pointer_nil w t a ht,hb]
 rw[hr];exact hk _ w E hh (.v _ V) (Grow.refl w E H)
end
def rX:C->C
 |.gl _ sz rows=>.rG 0 sz rows
 |c=>c
def L.BT(h:L E.shut c y):L E c y:=h.mono E.fc
def wj(h:L E c y):L E (rX c) y:=by
 cases h with
 |gl id sz rows y hn hg h=>exact h.BT
 |v x hx=>exact .v _ hx
 |rG o sz rows b off cap us ho hc hsz hst hL=>exact .rG o sz rows b off cap us ho hc hsz hst hL
 |q6 o sz ho a=>exact .q6 o sz ho a
 |qC cells b off us hst hL=>exact .qC cells b off us hst hL
 |ref id hops sz i k hn=>exact .ref id hops sz i k hn
 |sl id hops sz lo len full cap hn hlen hf hf'=>exact .sl id hops sz lo len full cap hn hlen hf hf'
 |fn f first caps ys zs h1 h2 h3 h4=>exact .fn f first caps ys zs h1 h2 h3 h4
 |mp id hn=>exact .mp id hn
 |agg cs ys h1 h2 h3=>exact .agg cs ys h1 h2 h3
 |rO cs ys h1 h2=>exact .rO cs ys h1 h2
 |un=>exact .un
 |za y=>exact .za y
 |r4 t c y h=>exact .r4 t c y h
section
variable {P:Program} {o:Oper} {ρ:Operand->C} {H:zf}
def zU.weaken{ρ':Operand->C}(hw:∀x (E:Env) y,L E (ρ x) y->L E (ρ' x) y)(h:zU P o ρ' H c H'):zU P o ρ H c H':=
 λw E σ hh hl K hk=>h w E σ hh (λx hx=>hw x E (σ x) (hl x hx)) K hk
def zU.rX(h:zU P o (λx=>Ab.rX (ρ x)) H c H'):zU P o ρ H c H':=h.weaken λx E y hl=>wj hl
def rQ.rX(h:rQ P o (λx=>Ab.rX (ρ x)) H c H'):rQ P o ρ H c H':=
 λw E σ hh hl K hk=>h w E σ hh (λx hx=>wj (hl x hx)) K hk
def rQ.iK(h:zU P o ρ H c H')(ob:Ob)(hk:ob.kind≠4)(e:H'=H++[ob]):rQ P o ρ H c H':=.fa h (e ▸ qs.push H ob hk)
def qs.w6(H:zf)(id:Nat)(hops:List rT)(f:List (List C)->List (List C))(h:∀ob,H[id]?=some ob->ob.kind≠4):qs H (w6 H id hops f):=
 qs.modify H id _ λob hob=>by
  have:=h ob hob;obtain⟨kind,ty,sz,rows,fz⟩:=ob;exact⟨this,this⟩
def qs.jg(H:zf)(id:Nat)(h:∀ob,H[id]?=some ob->ob.kind≠4):qs H (jg H id):=
 qs.modify H id _ λob hob=>by
  have:=h ob hob;obtain⟨kind,ty,sz,rows,fz⟩:=ob;exact⟨this,λe=>by cases e⟩
def o9{a x:C}(h:j7 P H t a x=some H'):qs H H':=by
 unfold j7 at h;split at h
 .rename_i id hops sz i k inf _;split at h
  .rename_i sz' rows ob hg hob;split at h
   .split at h
    .cases h
     refine qs.w6 H id hops _ λob' h'=>?_
     obtain⟨ob2,h2,h3,_⟩:=qd hg;rw[h2]at h';cases h'
     rcases h3 with e|e <;> rw[e] <;> decide
    .cases h
   .cases h
  .cases h
 .cases h
def yh:C->C
 |.gl _ sz rows=>.rG 0 sz rows
 |.agg cs=>.agg (cs.map rX)
 |c=>c
def ma(h:L E c y):L E (yh c) y:=by
 cases c with
 |gl id sz rows=>exact wj h
 |agg cs=>
  cases h with
  |agg _ ys h1 h2 h3=>
   refine .agg _ ys tD ?_ h3;intro i c y e1 e2;rw[cX]at e1;cases hx:cs[i]? with
   |none=>rw[hx]at e1;cases e1
   |some c0=>rw[hx]at e1;cases e1;exact wj (h2 i c0 y hx e2)
 |_=>exact h
def zD.other{w':World}(h:zD w E H)(hle:E.le E')(hβ:E'.β=E.β)(hn:E'.n=E.n)(hsame:∀b,qc E H b->w'.heap[b]?=w.heap[b]?)
 (hst:∀b o u,E'.St b o=some u->w'.cell? ⟨b,o,none⟩=some u/\u.oneCell'=true)(hsep:∀b o u,qc E H b->E'.St b o=some u->E.St b o=some u):zD w' E' H where
 n:=by rw[hn,h.n]
 rM id ob hops sz rows hob hx:=(h.rM id ob hops sz rows hob hx).step hle (by rw[h.n];exact y8 hx) (hsame _ ⟨id,hops,_,hx,rfl⟩)
 inj id hops id' hops' x y hx hy he:=h.inj id hops id' hops' x y hx hy (by rw[hβ]at he;exact he)
 zK:=hst
 sep id hops x o u hx hu:=by
  rw[hβ]at hu;exact h.sep id hops x o u hx (hsep _ o u ⟨id,hops,x,hx,rfl⟩ hu)
 ty id ob hob hk:=by
  obtain⟨cur,hc⟩:=h.ty id ob hob hk;exact⟨cur,by rw[hβ,hsame _ ⟨id,[],_,by unfold zB;rw[hob];simp[hk,z5];rfl,rfl⟩];exact hc⟩
 fz:=h.fz
def xU{id:Nat}(hob:H[id]?=some ob)(hk:ob.kind=4)(hk':ob'.kind=4)(id':Nat)(hops:List rT):zB (H.set id ob') id' hops=zB H id' hops:=by
 unfold zB;rw[df];by_cases he:id=id'
 .subst he;have rF:=(cW.1 hob).1;rw[c7 V,c7 rF,hob];simp[hk,hk']
 .rw[c6 he]
def zD.eP(h:zD w E H){id:Nat}(hob:H[id]?=some ob)(hk:ob.kind=4)(hk':ob'.kind=4)(hf:ob'.fz<=ob'.rows.length):zD w E (H.set id ob') where
 n:=by rw[h.n];simp
 rM id' ob2 hops sz rows hob2 hx:=by
  rw[xU hob hk hk']at hx;obtain⟨ob3,e1,e2,_⟩:=qd hx;have hne:id≠id':=by rintro rfl;rw[hob]at e1;cases e1;rw[hk]at e2;rcases e2 with e|e <;> cases e
  rw[df,c6 hne]at hob2;exact h.rM id' ob2 hops sz rows hob2 hx
 inj id1 p1 id2 p2 x y hx hy he:=h.inj id1 p1 id2 p2 x y (by rw[<-xU hob hk hk'];exact hx) (by rw[<-xU hob hk hk'];exact hy) he
 zK:=h.zK
 sep id' hops x o u hx hu:=by
  rw[xU hob hk hk']at hx;obtain⟨e1,ob2,e2,e3⟩:=h.sep id' hops x o u hx hu;obtain⟨ob3,e4,e5,_⟩:=qd hx;have hne:id≠id':=by rintro rfl;rw[hob]at e4;cases e4;rw[hk]at e5;rcases e5 with e|e <;> cases e
  exact⟨e1,ob2,by rw[df,c6 hne];exact e2,e3⟩
 ty id' ob2 hob2 hk2:=by
  rw[df]at hob2;split at hob2
  .split at hob2
   .cases hob2;rw[hk']at hk2;cases hk2
   .cases hob2
  .exact h.ty id' ob2 hob2 hk2
 fz id' ob2 hob2:=by
  rw[df]at hob2;split at hob2
  .split at hob2
   .cases hob2;exact hf
   .cases hob2
  .exact h.fz id' ob2 hob2
def qc.eP{id:Nat}(hob:H[id]?=some ob)(hk:ob.kind=4)(hk':ob'.kind=4)(hβ:E'.β=E.β):qc E' (H.set id ob') b↔qc E H b:=by
 unfold qc;constructor
 .rintro⟨i,hops,x,hx,rfl⟩;exact⟨i,hops,x,by rw[<-xU hob hk hk'];exact hx,by rw[hβ]⟩
 .rintro⟨i,hops,x,hx,rfl⟩;exact⟨i,hops,x,by rw[xU hob hk hk'];exact hx,by rw[hβ]⟩
def Env.grown(E:Env)(id nb k n:Nat)(cur:Array Value)(v:Value):Env:=
 {E with St:=λb o=>if b=nb/\o<n then cur[o]? else E.St b o,G:=λi j=>if i=id/\j=k then some v else E.G i j}
def zL.grown{w w':World}{E:Env}{H:zf}(hh:zL w E H){id:Nat}{ob:Ob}(hob:H[id]?=some ob)(hk:ob.kind=4){rows:List (List C)}(rF:ob.rows.length<rows.length)
 {nb cap:Nat}{cur:Array Value}(hos:w'.os=w.os)(htape:w'.tape=w.tape)(hout:w'.output=w.output)(hsize:w.heap.size<=w'.heap.size)
 (hother:∀k,k<w.heap.size->k≠nb->w'.heap[k]?=w.heap[k]?)(hnb:w'.heap[nb]?=some (.cells cur ob.ty (0,0)))(hcs:cur.size=cap*ob.sz)(hcap:rows.length<=cap)
 (hown:zT E H id nb\/w.heap.size<=nb)(hkeep:∀o u,E.St nb o=some u->cur[o]?=some u)(hin:∀o u,E.St nb o=some u->o<rows.length*ob.sz)
 (hone:∀(o:Nat) u,o<rows.length*ob.sz->cur[o]?=some u->u.oneCell'=true):
  zL w' (E.grown id nb rows.length (rows.length*ob.sz) cur (.slice (some ⟨nb,0,none⟩) rows.length cap)) (H.set id ⟨4,ob.ty,ob.sz,rows,0⟩)/\
   Grow w E H w' (E.grown id nb rows.length (rows.length*ob.sz) cur (.slice (some ⟨nb,0,none⟩) rows.length cap)) (H.set id ⟨4,ob.ty,ob.sz,rows,0⟩):=by
 obtain⟨E',hE'⟩:∃E',E'=E.grown id nb rows.length (rows.length*ob.sz) cur (.slice (some ⟨nb,0,none⟩) rows.length cap):=⟨_,rfl⟩;obtain⟨ob',hob'⟩:∃ob':Ob,ob'=⟨4,ob.ty,ob.sz,rows,0⟩:=⟨_,rfl⟩;rw[<-hE',<-hob'];have hid:id<E.n:=by rw[hh.n];exact(cW.1 hob).1
 have hk':ob'.kind=4:=by rw[hob']
 have hβ:E'.β=E.β:=by rw[hE'];rfl
 have hn:E'.n=E.n:=by rw[hE'];rfl
 have hSt:∀b o,E'.St b o=if b=nb/\o<rows.length*ob.sz then cur[o]? else E.St b o:=λb o=>by rw[hE'];rfl
 have hG:∀i j,E'.G i j=if i=id/\j=rows.length then some (.slice (some ⟨nb,0,none⟩) rows.length cap) else E.G i j:=λi j=>by rw[hE'];rfl
 have hno0:¬qc E H nb:=λhc=>by
  rcases hown with h1|h1
  .exact hh.rI.sep id nb h1 hc
  .obtain⟨i,hops,x,hx,e⟩:=hc;have:=hh.base.lt hx;omega
 have hle:E.le E':=by
  refine⟨by rw[hn];exact de _,λi hops _=>by rw[hβ],λi hops _=>by rw[hE'];rfl,?_,?_⟩
  .intro b o u hu;rw[hSt];split
   .rename_i h;obtain⟨rfl,h⟩:=h;exact hkeep o u hu
   .exact hu
  .intro i k u _ hu;rw[hG];split
   .rename_i h;obtain⟨rfl,rfl⟩:=h;have:=hh.rI.top _ ob _ u hob hk hu;omega
   .exact hu
 have hStN:∀b o u,E'.St b o=some u->E.St b o=some u\/(b=nb/\o<rows.length*ob.sz/\cur[o]?=some u):=by
  intro b o u hu;rw[hSt]at hu;split at hu
  .rename_i h;exact .inr ⟨h.1,h.2,hu⟩
  .exact .inl hu
 have hgetS:∀i,i≠id->(H.set id ob')[i]?=H[i]?:=λi hi=>by rw[df,c6 (Ne.symm hi)]
 have hgetI:(H.set id ob')[id]?=some ob':=by rw[df,c7 V,c7 (cW.1 hob).1]
 have hGo:∀i b,i≠id->(zT E' (H.set id ob') i b↔zT E H i b):=by
  intro i b hi;unfold zT;rw[hgetS i hi];constructor
  .rintro⟨ob2,c2,h1,h2,h3,h4⟩;rw[hG,c6 (λh=>hi h.1)]at h3;exact⟨ob2,c2,h1,h2,h3,h4⟩
  .rintro⟨ob2,c2,h1,h2,h3,h4⟩;exact⟨ob2,c2,h1,h2,by rw[hG,c6 (λh=>hi h.1)];exact h3,h4⟩
 have hGi:∀b,zT E' (H.set id ob') id b->b=nb:=by
  rintro b ⟨ob2,c2,h1,h2,h3,h4⟩;rw[hgetI]at h1;simp only[dj]at h1;subst h1;rw[hG,c7 ⟨rfl,by rw[hob']⟩]at h3;simp only[dj,Value.slice.injEq,Addr.mk.injEq]at h3;exact h3.1.1.symm
 have hne:∀i b,i≠id->zT E H i b->b≠nb:=by
  intro i b hi hg he;subst he;rcases hown with h1|h1
  .exact hi (hh.rI.inj i id b hg h1)
  .obtain⟨ob2,c1,e1,e2⟩:=hg;obtain⟨cur2,c2,_,e3,_⟩:=hh.rI.rM i b ob2 ⟨ob2,c1,e1,e2⟩ e1;have:=(db.1 e3).1;omega
 have hlt2:∀i b,zT E H i b->b<w.heap.size:=by
  intro i b hg;obtain⟨ob2,c2,e1,e2⟩:=(hg:zT E H i b);have hg:zT E H i b:=⟨ob2,c2,e1,e2⟩;obtain⟨cur2,c2,_,e3,_⟩:=hh.rI.rM i b ob2 hg e1;exact(db.1 e3).1
 have hR:zD w' E' (H.set id ob'):=by
  refine zD.eP (hh.base.other hle hβ hn ?_ ?_ ?_) hob hk hk' (by rw[hob'];exact dA _)
  .rintro b ⟨i,hops,x,hx,rfl⟩;refine hother _ (hh.base.lt hx) λhe=>hno0 ?_
   rw[<-he];exact⟨i,hops,x,hx,rfl⟩
  .intro b o u hu;rcases hStN b o u hu with h1|⟨rfl,h2,h3⟩
   .obtain⟨h4,h5⟩:=hh.base.zK b o u h1;refine⟨?_,h5⟩;by_cases hb:b=nb
    .subst hb;unfold World.cell?;rw[hnb];simpa using hkeep o u h1
    .unfold World.cell? at h4|-;rw[hother b (kg (hh.base.zK b o u h1).1) hb];exact h4
   .exact⟨by unfold World.cell?;rw[hnb];simpa using h3,hone o u h2 h3⟩
  .intro b o u hb hu;rcases hStN b o u hu with h1|⟨rfl,h2,h3⟩
   .exact h1
   .exact absurd hb hno0
 have hrne:∀b o,w.heap[b]?=some o->wH o=true->b≠nb:=by
  rintro b o hb hf rfl;rcases hown with h1|h1
  .obtain⟨ob2,c1,e1,e2⟩:=h1;obtain⟨cur2,c2,_,e3,_⟩:=hh.rI.rM id b ob2 ⟨ob2,c1,e1,e2⟩ e1;rw[hb]at e3;cases e3
   cases hf
  .have:=(db.1 hb).1;omega
 have hrb:∀i b,qo (H.set id ob') i b->qo H i b:=by
  rintro i b ⟨ob2,r,t,h1,h2,h3,h4⟩;by_cases hi:i=id
  .subst hi;rw[hgetI]at h1;cases h1
   exact absurd h3.2 (by rw[hob'];simp)
  .rw[hgetS i hi]at h1;exact⟨ob2,r,t,h1,h2,h3,h4⟩
 refine⟨⟨hR,?_,?_,?_,?_,?_,?_,?_,λi j b h1 h2=>hh.rI.yq i j b (hrb i b h1) (hrb j b h2)⟩,⟨hle,hos,htape,hout,hsize,?_,?_,?_⟩⟩
 .intro i ob2 h1 h2;by_cases hi:i=id
  .subst hi;rw[hgetI]at h1;cases h1
   refine⟨some ⟨nb,0,none⟩,cap,?_,.inr ⟨nb,rfl,?_⟩⟩
   .rw[hG,c7 ⟨rfl,by rw[hob']⟩,hob']
   .rw[hob'];exact hcap
  .rw[hgetS i hi]at h1;rw[hG,c6 (λh=>hi h.1)];exact hh.rI.val i ob2 h1 h2
 .intro i b ob2 h1 h2;by_cases hi:i=id
  .subst hi;obtain rfl:=hGi b h1;rw[hgetI]at h2;cases h2
   refine⟨cur,cap,?_,?_,?_⟩
   .rw[hG,c7 ⟨rfl,by rw[hob']⟩,hob']
   .rw[hob'];exact hnb
   .rw[hob'];exact hcs
  .have h1':=(hGo i b hi).1 h1;rw[hgetS i hi]at h2;obtain⟨cur2,c2,e1,e2,e3⟩:=hh.rI.rM i b ob2 h1' h2;refine⟨cur2,c2,?_,?_,e3⟩
   .rw[hG,c6 (λh=>hi h.1)];exact e1
   .rw[hother b (hlt2 i b h1') (hne i b hi h1')];exact e2
 .intro i b h1 h2;rw[qc.eP hob hk hk' hβ]at h2;by_cases hi:i=id
  .subst hi;obtain rfl:=hGi b h1;exact hno0 h2
  .exact hh.rI.sep i b ((hGo i b hi).1 h1) h2
 .intro i j b h1 h2;by_cases hi:i=id
  .by_cases hj:j=id
   .rw[hi,hj]
   .subst hi;have:=hGi b h1;exact absurd this (hne j b hj ((hGo j b hj).1 h2))
  .by_cases hj:j=id
   .subst hj;have:=hGi b h2;exact absurd this (hne i b hi ((hGo i b hi).1 h1))
   .exact hh.rI.inj i j b ((hGo i b hi).1 h1) ((hGo j b hj).1 h2)
 .intro i b ob2 o u h1 h2 h3;by_cases hi:i=id
  .subst hi;obtain rfl:=hGi b h1;rw[hgetI]at h2;cases h2
   rw[hob'];rcases hStN b o u h3 with h4|⟨_,h4,_⟩
   .exact hin o u h4
   .exact h4
  .have h1':=(hGo i b hi).1 h1;rw[hgetS i hi]at h2;rcases hStN b o u h3 with h4|⟨h4,_⟩
   .exact hh.rI.st i b ob2 o u h1' h2 h4
   .exact absurd h4 (hne i b hi h1')
 .intro i ob2 k u h1 h2 h3;by_cases hi:i=id
  .subst hi;rw[hgetI]at h1;cases h1
   rw[hob'];rw[hG]at h3;split at h3
   .rename_i h;rw[h.2];exact de _
   .have:=hh.rI.top i ob k u hob hk h3;show k<=rows.length;omega
  .rw[hgetS i hi]at h1;rw[hG,c6 (λh=>hi h.1)]at h3;exact hh.rI.top i ob2 k u h1 h2 h3
 .intro i ob2 r t h1 h2 h3;by_cases hi:i=id
  .subst hi;rw[hgetI]at h1;cases h1
   exact absurd h3.2 (by rw[hob'];simp)
  .rw[hgetS i hi]at h1;obtain⟨⟨e,hf⟩,hl⟩:=hh.rI.sa i ob2 r t h1 h2 h3;refine⟨⟨?_,hf⟩,hl.mono hle⟩;rw[hother _ (db.1 e).1 (hrne _ r e hf)];exact e
 .intro k h1 h2;refine hother k h1 ?_;rintro rfl;rcases hown with h3|h3
  .exact h2 (.inr ⟨id,.inl h3⟩)
  .omega
 .intro b o u hu;rcases hStN b o u hu with h4|⟨rfl,h4,_⟩
  .exact .inl h4
  .exact hown.elim (λh=>.inr (.inr (.inr ⟨id,.inl h⟩))) (λh=>.inr (.inl h))
 .rintro b (hb|⟨i,hb|hb⟩)
  .rw[qc.eP hob hk hk' hβ]at hb;exact .inr (.inl hb)
  .by_cases hi:i=id
   .subst hi;obtain rfl:=hGi b hb;exact hown.elim (λh=>.inr (.inr ⟨i,.inl h⟩)) .inl
   .exact .inr (.inr ⟨i,.inl ((hGo i b hi).1 hb)⟩)
  .exact .inr (.inr ⟨i,.inr (hrb i b hb)⟩)
def Ij{id nb k cap:Nat}(hid:id<E.n)(hr:xI E sz rows vals)(htake:cur.toList.take vals.length=vals)(hcap:rows.length<=cap)
 (hle:E.le (E.grown id nb rows.length (rows.length*sz) cur (.slice (some ⟨nb,0,none⟩) rows.length cap))):
  L (E.grown id nb rows.length (rows.length*sz) cur (.slice (some ⟨nb,0,none⟩) rows.length cap)) (.gl id sz rows) (.slice (some ⟨nb,0,none⟩) rows.length cap):=by
 obtain⟨E',hE'⟩:∃E',E'=E.grown id nb rows.length (rows.length*sz) cur (.slice (some ⟨nb,0,none⟩) rows.length cap):=⟨_,rfl⟩;rw[<-hE']at hle|-
 have hSt:∀o u,o<rows.length*sz->cur[o]?=some u->E'.St nb o=some u:=λo u h1 h2=>by
  rw[hE'];show(if nb=nb/\o<rows.length*sz then cur[o]? else _)=some u;rw[c7 ⟨rfl,h1⟩];exact h2
 have cell:∀i r k c,rows[i]?=some r->r[k]?=some c->∃u,cur[i*sz+k]?=some u/\i*sz+k<rows.length*sz/\L E.shut c u:=by
  intro i r k c h1 h2;have hc:cellAt rows i k=some c:=by unfold cellAt;rw[h1];exact h2
  obtain⟨u,hu,hl⟩:=hr.cell i k c hc;have rF:=(cW.1 hu).1;refine⟨u,?_,by rw[<-hr.len];exact rF,hl⟩;rw[<-htake,du,c7 rF]at hu;simpa using hu
 refine .gl id sz rows _ ?_ ?_ ?_
 .rw[hE'];exact hid
 .rw[hE'];show(if id=id/\rows.length=rows.length then _ else _)=_;rw[c7 ⟨rfl,rfl⟩]
 .refine .rG (E:=E'.shut) 0 sz rows nb 0 cap (λi k=>(cur[i*sz+k]?).getD undef) (.inl V) hcap hr.row ?_ ?_
  .intro i r k c h1 h2;obtain⟨u,hu,rF,_⟩:=cell i r k c h1 h2;rw[dF,hu];exact hSt _ u rF hu
  .intro i r k c h1 h2;obtain⟨u,hu,_,hl⟩:=cell i r k c h1 h2;rw[hu];exact hl.mono hle.shut
def rQ.GC(cl:Call)(ho:o.op=.call cl)(x y:Operand)(ht:tP P cl x y e i z){id:Nat}(hx:ρ x=.gl id i.size rows)(hob:H[id]?=some ob)
 (hkd:ob.kind=4)(hty:ob.ty=e)(hsz:ob.sz=i.size)(hn:ob.rows.length=rows.length)
 {rows':List (List C)}(hy:jc H (Ab.rX (ρ y))=some (i.size,rows'))(hne:rows'≠[])(hm:rows.length+rows'.length<=maxLen)(hb:(rows.length+rows'.length)*i.bytes<=140737488355328):
  rQ P o ρ H (.gl id i.size (rows++rows')) (H.set id ⟨4,e,i.size,rows++rows',0⟩):=λw E σ hh hl K hk=>by
 have h0:=hl x uT;have h1:=wj (hl y uT);obtain⟨t,hu,hexec⟩:=xz ho ht σ w;have hpos:0<rows'.length:=pY.2 hne;have hsmall:rows.length+rows'.length<=9223372036854775807:=bf
 rcases jt hh.base h1 hy with⟨e1,_⟩|⟨a,cap,vals,e1,_,hrows,hmem⟩
 .exact absurd e1 hne
 rw[hx]at h0
 obtain⟨hid,hg,hlst⟩:id<E.n/\E.G id rows.length=some (σ x)/\L E.shut (.rG 0 i.size rows) (σ x):=by
  generalize σ x=u at h0|-;cases h0 with
  |gl id sz rows y hn hg h=>exact⟨hn,hg,h⟩
 obtain⟨a0,cap0,g1,g2⟩:=hh.rI.val id ob hob hkd;rw[hn]at g1 g2;rw[hg]at g1;have hxv:σ x=.slice a0 rows.length cap0:=ak g1
 rw[hxv]at hg;have hrx:jc H (.rG 0 i.size rows)=some (i.size,rows):=by simp[jc]
 have hz:=ht.nF;have hlen:(rows++rows').length=rows.length+rows'.length:=dX
 have fin:∀(w':World) (olds:List Value) (nb cap':Nat) (cur':Array Value),xI E i.size rows olds->w'.os=w.os->w'.tape=w.tape->w'.output=w.output->w.heap.size<=w'.heap.size->
   (∀k,k<w.heap.size->k≠nb->w'.heap[k]?=w.heap[k]?)->w'.heap[nb]?=some (.cells cur' e (0,0))->cur'.size=cap'*i.size->rows.length+rows'.length<=cap'->
   (zT E H id nb\/w.heap.size<=nb)->(∀o u,E.St nb o=some u->cur'[o]?=some u)->(∀o u,E.St nb o=some u->o<rows.length*i.size)->cur'.toList.take (olds++vals).length=olds++vals->
   (Builtin.append_ #[t,t] o.type #[σ x,σ y]).run P w=.ok (.slice (some ⟨nb,0,none⟩) (rows.length+rows'.length) cap') w'->sY P K ((execOp σ o).run P w):=by
  intro w' olds nb cap' cur' hro hos htape hout hsize hother hnb hcs hcap hown hkeep hin htake hr;rw[hexec _ _ hr];have zF:=hro.append hrows
  have hG:=hh.grown hob hkd (rows:=rows++rows') (w':=w') (nb:=nb) (cap:=cap') (cur:=cur') (by rw[hn,hlen];omega) hos htape hout hsize hother (by rw[hty];exact hnb) (by rw[hsz];exact hcs) (by rw[hlen];exact hcap) hown hkeep
   (λo u hu=>by rw[hsz,hlen];exact dD (hin o u hu) (dJ _ ah))
   (λo u h2 h3=>by
    have rF:o<(olds++vals).length:=by rw[zF.len,<-hsz];exact h2
    refine zF.one u ?_;rw[<-htake];refine cZ (i:=o) ?_;rw[du,c7 rF];simpa using h3)
  have hL:=Ij (E:=E) (id:=id) (nb:=nb) (k:=0) (cap:=cap') (cur:=cur') hid zF htake (by rw[hlen];exact hcap) (by rw[<-hsz];exact hG.2.le);rw[hsz,hty]at hG;rw[hlen]at hG hL;exact hk _ _ _ hG.1 hL hG.2
 have anew:∀olds,xI E i.size rows olds->(Builtin.append_ #[t,t] o.type #[σ x,σ y]).run P w=.ok (.slice (some ⟨w.heap.size,0,none⟩) (rows.length+rows'.length) (grownCap w (rows.length+rows'.length) cap0 e))
   (w.drew.alloc (.cells ((olds++vals).toArray++Builtin.zeroCells z.cells (grownCap w (rows.length+rows'.length) cap0 e-(rows.length+rows'.length))) e))->sY P K ((execOp σ o).run P w):=by
  intro olds hro hr;have zF:=hro.append hrows;obtain⟨cap',hcap2⟩:∃cap',cap'=grownCap w (rows.length+rows'.length) cap0 e:=⟨_,rfl⟩;have hge:rows.length+rows'.length<=cap':=by rw[hcap2];exact grownCap_ge w _ _ e
  rw[<-hcap2]at hr
  have hnone:∀o u,E.St w.heap.size o=some u->False:=λo u hu=>by
   have:=kg (hh.base.zK _ o u hu).1;omega
  refine fin (w.drew.alloc (.cells ((olds++vals).toArray++Builtin.zeroCells z.cells (cap'-(rows.length+rows'.length))) e)) olds w.heap.size cap' ((olds++vals).toArray++Builtin.zeroCells z.cells (cap'-(rows.length+rows'.length))) hro V V V ?_ ?_ ?_ ?_ hge (.inr (de _)) (λo u hu=>(hnone o u hu).elim) (λo u hu=>(hnone o u hu).elim) ?_ hr
  .show _<=(w.heap.push _).size;simp
  .exactλk hk _=>heap_alloc_old w.drew _ hk
  .exact heap_alloc_new w.drew _
  .have h2:(olds++vals).length=(rows.length+rows'.length)*i.size:=by rw[zF.len,dX]
   simp only[rm,pK,size_zeroCells,hz];rw[h2,<-dN]
   congr 1
   omega
  .rw[gX];exact pH
 rcases jt hh.base hlst.BT hrx with⟨e2,e3⟩|⟨b,cap',olds,e3,hcap',hro,hmo⟩
 .subst e2;have hro:xI E i.size [] []:=⟨aj,aj,by simp[cellAt],aj⟩;have hc0:cap0=0:=by rw[hxv]at e3;cases e3;rfl
  have hr:=run_append_nil (P:=P) w t o.type e i z hu ht.info ht.zero a rows'.length cap vals hrows.len hmem hpos (by simp at hsmall;omega) (by simp at hb;omega);rw[<-e3,<-e1]at hr;refine anew [] hro ?_;subst hc0;simpa using hr
 .rw[hxv]at e3;cases e3
  by_cases hroom:rows.length+rows'.length<=cap0
  ·
   have hcn:cap0≠rows.length:=ah
   obtain⟨nb,hb2,_⟩:∃nb,(some b:Option Addr)=some ⟨nb,0,none⟩/\rows.length<=cap0:=by
    rcases g2 with h2|h2
    .exact absurd h2 hcn
    .exact h2
   cases hb2
   have hown:zT E H id nb:=⟨ob,cap0,hob,hkd,by rw[hn];exact hg,by rw[hn];exact hcn⟩;obtain⟨cur,cap2,f1,hgb,hcs⟩:=hh.rI.rM id nb ob hown hob;rw[hn,hg]at f1;cases f1
   rw[hty]at hgb;rw[hsz]at hcs;have hfit:rows.length*i.size+vals.length<=cur.size:=bh
   have hr:=run_append_room (P:=P) w t o.type e i hu ht.info nb rows.length cap0 cur hgb a rows'.length cap vals hrows.len hmem hrows.one hroom hfit;rw[<-hxv,<-e1]at hr;obtain⟨cur',hcur'⟩:∃cur',cur'=(cur.toList.take (rows.length*i.size)++vals++cur.toList.drop (rows.length*i.size+vals.length)).toArray:=⟨_,rfl⟩;rw[<-hcur']at hr;have hlo:rows.length*i.size=olds.length:=hro.len.symm;have hbl:nb<w.heap.size:=(db.1 hgb).1
   have holds:cur.toList.take olds.length=olds:=by
    apply dS
    intro j;rw[du];split
    .rename_i hj;have h3:=hmo j olds[j] (by simp[hj]);rw[qX]at h3;unfold World.cell? at h3;rw[hgb]at h3;simp at h3;simp[hj,h3]
    .rename_i hj;rw[dZ ah]
   refine fin (w.setRow nb cur') olds nb cap0 cur' hro V V V (by simp[World.setRow]) ?_ ?_ ?_ hroom (.inl hown) ?_ ?_ ?_ hr
   .intro k hk' hne';simp[World.setRow,gQ,Ne.symm hne']
   .simp[World.setRow,gQ,hgb]
   .rw[<-hcs,hcur'];simp;omega
   .intro o' u hu';have h7:=hh.rI.st id nb ob o' u hown hob hu';rw[hn,hsz]at h7;have hst:=(hh.base.zK _ _ _ hu').1;unfold World.cell? at hst;rw[hgb]at hst;simp at hst;rw[hcur'];simp only[g9];rw[gL,da aw,du,c7 h7,dw];exact hst
   .intro o' u hu';have h7:=hh.rI.st id nb ob o' u hown hob hu';rw[hn,hsz]at h7;exact h7
   .rw[hcur',hlo,holds];exact pH
  ·
   have hr:=run_append_grow (P:=P) w t o.type e i z hu ht.info ht.zero b rows.length cap0 olds hro.len hmo a rows'.length cap vals hrows.len hmem ah ah (growslice_fits ah hb);rw[<-hxv,<-e1]at hr;refine anew olds hro ?_;simpa using hr
end
section
variable {B:Nat} {s:S}
def zD.A6(hh:zD w E H)(ob:Ob)(h1:ob.kind≠1)(h2:ob.kind≠2)(hf:ob.fz<=ob.rows.length)(G:Nat->Nat->Option Value)(hG:∀id k,id<E.n->G id k=E.G id k):
  zD w {E.push 0 0 with G:=G} (H++[ob])/\zR w E H w {E.push 0 0 with G:=G} (H++[ob]):=by
 obtain⟨E',hE'⟩:∃E':Env,E'={E.push 0 0 with G:=G}:=⟨_,rfl⟩;rw[<-hE']
 have hle:E.le E':=by
  have:=E.mC 0 0;subst hE';exact⟨this.n,this.β,this.κ,this.St,λid k u hi hu=>by show G id k=some u;rw[hG id k hi];exact hu⟩
 have hold:∀id hops,id<H.length->E'.β id hops=E.β id hops:=λid hops rF=>hle.β id hops bd
 have hn':E'.n=E.n+1:=by rw[hE'];rfl
 have hSt:E'.St=E.St:=by rw[hE'];rfl
 have get:∀id hops x,zB (H++[ob]) id hops=some x->id<H.length/\zB H id hops=some x:=by
  intro id hops x hx;by_cases rF:id<H.length
  .exact⟨rF,by rw[xB rF]at hx;exact hx⟩
  .obtain⟨ob1,ho,hk,hg⟩:=qd hx;rw[dg ah]at ho
   have:id-H.length=0:=by
    exact cy
   rw[this]at ho;cases ho
   exact absurd hk (by rintro(h|h) <;> contradiction)
 have last:∀id ob1,(H++[ob])[id]?=some ob1->(id<H.length/\H[id]?=some ob1)\/(id=H.length/\ob1=ob):=by
  intro id ob1 ho;by_cases rF:id<H.length
  .rw[da rF]at ho;exact .inl ⟨rF,ho⟩
  .rw[dg ah]at ho
   have:id-H.length=0:=by
    exact cy
   rw[this]at ho;cases ho
   exact .inr ⟨ah,rfl⟩
 refine⟨⟨by rw[hn',hh.n];simp,?_,?_,?_,?_,?_,?_⟩,⟨hle,λid k hi=>by subst hE';exact hG id k hi,rfl,rfl,rfl,de _,λ_ _ _=>V,λb o u hu=>.inl (by rw[hSt]at hu;exact hu),?_⟩⟩
 .intro id ob1 hops sz' rows' hob hx;obtain⟨rF,hx'⟩:=get id hops _ hx;rw[da rF]at hob;exact(hh.rM id ob1 hops sz' rows' hob hx').step hle bd V
 .intro id hops id' hops' x y hx hy he;obtain⟨h1,hx'⟩:=get id hops _ hx;obtain⟨h2,hy'⟩:=get id' hops' _ hy;rw[hold id hops h1,hold id' hops' h2]at he;exact hh.inj id hops id' hops' x y hx' hy' he
 .rw[hSt];exact hh.zK
 .intro id hops x o u hx hu;obtain⟨h1,hx'⟩:=get id hops _ hx;rw[hold id hops h1,hSt]at hu;obtain⟨e1,ob1,e2,e3⟩:=hh.sep id hops x o u hx' hu;exact⟨e1,ob1,by rw[da h1];exact e2,e3⟩
 .intro id ob1 hob hk;rcases last id ob1 hob with⟨rF,ho⟩|⟨_,rfl⟩
  .rw[hold id [] rF];exact hh.ty id ob1 ho hk
  .exact absurd hk h2
 .intro id ob1 hob;rcases last id ob1 hob with⟨rF,ho⟩|⟨_,rfl⟩
  .exact hh.fz id ob1 ho
  .exact hf
 .rintro b ⟨id,hops,x,hx,rfl⟩;obtain⟨h1,hx'⟩:=get id hops _ hx;exact .inr ⟨id,hops,x,hx',by rw[hold id hops h1]⟩
def zm.grow(t:Nat)(ty:TypeId)(sz':Nat)(ht:s.tmps[t]?=some (.rG 1 sz rows))(hz:rows=[]\/sz'=sz):
  zm B s ⟨s.tmps.set t (.gl s.H.length sz' rows),s.H++[⟨4,ty,sz',rows,0⟩]⟩:=λm w E a hs=>by
 obtain⟨y,hy,hl⟩:=hs.tmps.get ht
 have hl0:L E.shut (.rG 1 sz' rows) y:=by
  have h1:=hl.xv V;rcases hz with rfl|rfl
  .exact WC.none 1 sz sz' E.shut y h1
  .exact h1
 have hfull:∃a,y=.slice a rows.length rows.length:=by
  cases hl0 with
  |rG o sz rows b off cap us ho hc hsz hst hL=>rcases ho with h|⟨_,h⟩;cases h;subst h;exact⟨_,rfl⟩
  |q6 o sz ho a=>exact⟨a,rfl⟩
 have hl1:L E.shut (.rG 0 sz' rows) y:=WC.share 1 sz' rows E.shut y hl0;obtain⟨av,rfl⟩:=hfull;obtain⟨G,hGd⟩:∃G:Nat->Nat->Option Value,G=λi k=>if i=E.n then (if k=rows.length then some (.slice av rows.length rows.length) else none) else E.G i k:=⟨_,rfl⟩
 have hG:∀id k,id<E.n->G id k=E.G id k:=λid k hi=>by rw[hGd];simp[g8 hi]
 obtain⟨hR,hg⟩:=hs.heap.base.A6 ⟨4,ty,sz',rows,0⟩ (λh=>by cases h) (λh=>by cases h) (dA _) G hG;obtain⟨E',hE'⟩:∃E':Env,E'={E.push 0 0 with G:=G}:=⟨_,rfl⟩;rw[<-hE']at hR hg;have hn:=hs.heap.n;have hG':∀i k,E'.G i k=if i=E.n then (if k=rows.length then some (.slice av rows.length rows.length) else none) else E.G i k:=λi k=>by rw[hE',hGd]
 have last:∀id ob1,(s.H++[⟨4,ty,sz',rows,0⟩])[id]?=some ob1->(id<s.H.length/\s.H[id]?=some ob1)\/(id=s.H.length/\ob1=⟨4,ty,sz',rows,0⟩):=by
  intro id ob1 ho;by_cases rF:id<s.H.length
  .rw[da rF]at ho;exact .inl ⟨rF,ho⟩
  .rw[dg ah]at ho
   have:id-s.H.length=0:=by
    exact cy
   rw[this]at ho;cases ho
   exact .inr ⟨ah,rfl⟩
 have back:∀i b,zT E' (s.H++[⟨4,ty,sz',rows,0⟩]) i b->zT E s.H i b:=by
  rintro i b ⟨ob,cap,h1,h2,h3,h4⟩;rcases last i ob h1 with⟨rF,ho⟩|⟨rfl,rfl⟩
  .refine⟨ob,cap,ho,h2,?_,h4⟩;rw[hG',c6 ah]at h3;exact h3
  .rw[hG',c7 hn.symm,c7 V]at h3;simp only[dj,Value.slice.injEq]at h3;exact absurd h3.2.2.symm h4
 have rback:∀i b,qo (s.H++[⟨4,ty,sz',rows,0⟩]) i b->qo s.H i b:=by
  rintro i b ⟨ob,r,t,h1,h2,h3,h4⟩;rcases last i ob h1 with⟨rF,ho⟩|⟨rfl,rfl⟩
  .exact⟨ob,r,t,ho,h2,h3,h4⟩
  .exact absurd h3.2 aj
 have hGro:sR w E' (s.H++[⟨4,ty,sz',rows,0⟩]):=by
  refine⟨?_,?_,?_,λi j b h1 h2=>hs.heap.rI.inj i j b (back i b h1) (back j b h2),?_,?_,?_,λi j b h1 h2=>hs.heap.rI.yq i j b (rback i b h1) (rback j b h2)⟩
  .intro i ob h1 h2;rcases last i ob h1 with⟨rF,ho⟩|⟨rfl,rfl⟩
   .rw[hG',c6 ah];exact hs.heap.rI.val i ob ho h2
   .exact⟨av,rows.length,by rw[hG',c7 hn.symm,c7 V],.inl V⟩
  .intro i b ob h1 h2;have h1':=back i b h1;have rF:i<s.H.length:=by obtain⟨ob2,_,e,_⟩:=h1';exact(cW.1 e).1
   rw[da rF]at h2;rw[hG',c6 ah];exact hs.heap.rI.rM i b ob h1' h2
  .intro i b h1 h2;rcases hg.own b h2 with h3|h3
   .have h1':=back i b h1;obtain⟨ob2,c2,e1,e2⟩:=h1';obtain⟨_,_,_,e3,_⟩:=hs.heap.rI.rM i b ob2 ⟨ob2,c2,e1,e2⟩ e1;have:=(db.1 e3).1;omega
   .exact hs.heap.rI.sep i b (back i b h1) h3
  .intro i b ob o u h1 h2 h3;have h1':=back i b h1;have rF:i<s.H.length:=by obtain⟨ob2,_,e,_⟩:=h1';exact(cW.1 e).1
   rw[da rF]at h2;exact hs.heap.rI.st i b ob o u h1' h2 (by rw[hE']at h3;exact h3)
  .intro i ob k u h1 h2 h3;rcases last i ob h1 with⟨rF,ho⟩|⟨rfl,rfl⟩
   .rw[hG',c6 ah]at h3;exact hs.heap.rI.top i ob k u ho h2 h3
   .rw[hG',c7 hn.symm]at h3;split at h3
    .rename_i e;rw[e];exact de _
    .cases h3
  .intro i ob r t h1 h2 h3;rcases last i ob h1 with⟨rF,ho⟩|⟨rfl,rfl⟩
   .obtain⟨p1,p2⟩:=hs.heap.rI.sa i ob r t ho h2 h3;exact⟨p1,p2.mono hg.le⟩
   .exact absurd h3.2 aj
 have hGrow:Grow w E s.H w E' (s.H++[⟨4,ty,sz',rows,0⟩]):=
  ⟨hg.le,rfl,rfl,rfl,de _,λ_ _ _=>V,λb o u hu=>(hg.qB b o u hu).imp_right λh=>h.imp_right .inl,λb hb=>by
   rcases hb with hb|⟨i,hb|hb⟩
   .exact(hg.own b hb).imp_right .inl
   .exact .inr (.inr ⟨i,.inl (back i b hb)⟩)
   .exact .inr (.inr ⟨i,.inr (rback i b hb)⟩)⟩
 refine⟨E',⟨⟨hR,hGro⟩,?_,hs.defers,bm⟩,hGrow.sB (by rw[hn];exact hs.base)⟩
 have hnl:L E' (.gl s.H.length sz' rows) (.slice av rows.length rows.length):=by
  refine .gl _ _ _ _ (by rw[hE'];show _<E.n+1;omega) (by rw[hG',c7 hn.symm,c7 V]) (hl1.mono hg.le.shut)
 have:=(hs.tmps.mono hg.le).set hnl t
 rw[show a.tmps.toList.set t (.slice av rows.length rows.length)=a.tmps.toList from by
  apply dS
  intro j;rw[df];split
  .rename_i e;subst e;rw[hy,c7 (cW.1 hy).1]
  .rfl]at this
 exact cQ
def jL(n:Nat):Nat->C->C
 |0,_=>.za
 |k+1,c=>match c with
  |.gl _ sz rows=>.rG 0 sz rows
  |.agg cs=>.agg (cs.map (jL n k))
  |.rO cs=>.rO (cs.map (jL n k))
  |.fn f first caps=>.fn f (first.map (jL n k)) (caps.map (jL n k))
  |.r4 t c=>.r4 t (jL n k c)
  |.rc r=>.rc r
  |.ref id hops sz i j=>if Nat.blt id n then .ref id hops sz i j else .za
  |.sl id hops sz lo len full=>if Nat.blt id n then .sl id hops sz lo len full else .za
  |.mp id=>if Nat.blt id n then .mp id else .za
  |.v x=>.v x
  |.rG o sz rows=>.rG o sz rows
  |.qC cells=>.qC cells
  |.un=>.un
  |.za=>.za
def LL.of_map{f:C->C}{ys:List Value}(h:LL E cs ys)(hf:∀c y,L E c y->L E' (f c) y):LL E' (cs.map f) ys:=
 ⟨ak h.1,λi c y e1 e2=>by
  rw[cX]at e1;cases hx:cs[i]? with
  |none=>rw[hx]at e1;cases e1
  |some c0=>rw[hx]at e1;cases e1;exact hf c0 y (h.2 i c0 y hx e2)⟩
def L.low(n:Nat):∀(k:Nat) {c:C} {y:Value},L E c y->L (E.cut n) (jL n k c) y:=by
 intro k
 induction k with
 |zero=>intro c y h;exact .za y
 |succ k ih=>
  intro c y h;have hs:E.shut.le (E.cut n):=⟨dA _,λid hops hi=>absurd hi (dx _),λid hops hi=>absurd hi (dx _),λb o u hu=>hu,λid _ _ hi=>absurd hi (dx _)⟩;cases h with
  |gl id sz rows y hn hg h=>exact h.mono hs
  |v x hx=>exact .v _ hx
  |rG o sz rows b off cap us ho hc hsz hst hL=>exact(L.rG (E:=E) o sz rows b off cap us ho hc hsz hst hL).xv V |>.mono hs
  |q6 o sz ho a=>exact .q6 o sz ho a
  |qC cells b off us hst hL=>exact(L.qC (E:=E) cells b off us hst hL).xv V |>.mono hs
  |ref id hops sz i j hn=>
   unfold jL;dsimp only;split
   .rename_i h;exact .ref (E:=E.cut n) id hops sz i j br
   .exact .za _
  |sl id hops sz lo len full cap hn hlen hf hf'=>
   unfold jL;dsimp only;split
   .rename_i h;exact .sl (E:=E.cut n) id hops sz lo len full cap br hlen hf hf'
   .exact .za _
  |mp id hn=>
   unfold jL;dsimp only;split
   .rename_i h;exact .mp (E:=E.cut n) id br
   .exact .za _
  |agg cs ys h1 h2 h3=>
   have:=LL.of_map (f:=jL n k) (E':=E.cut n) (cs:=cs) (ys:=ys.toList) ⟨ak h1,λi c y e1 e2=>h2 i c y e1 uS⟩ (λc y hl=>ih hl);exact cG
  |rO cs ys h1 h2=>
   have:=LL.of_map (f:=jL n k) (E':=E.cut n) (cs:=cs) (ys:=ys.toList) ⟨ak h1,λi c y e1 e2=>h2 i c y e1 uS⟩ (λc y hl=>ih hl);exact .rO _ ys (ak this.1) (λi c y e1 e2=>this.2 i c y e1 uS)
  |fn f first caps ys zs h1 h2 h3 h4=>
   have t1:=LL.of_map (f:=jL n k) (E':=E.cut n) (cs:=first) (ys:=ys.toList) ⟨ak h1,λi c y e1 e2=>h3 i c y e1 uS⟩ (λc y hl=>ih hl);have t2:=LL.of_map (f:=jL n k) (E':=E.cut n) (cs:=caps) (ys:=zs.toList) ⟨ak h2,λi c y e1 e2=>h4 i c y e1 uS⟩ (λc y hl=>ih hl);exact cK
  |un=>exact .un
  |za y=>exact .za y
  |r4 t c y h=>exact .r4 t _ y (ih h)
def zm.low(n:Nat)(t:List C)(H:zf)(hB:Nat.ble B n=true)(hn:Nat.ble n H.length=true)(hr:jk n (H.take n)=true):zm B ⟨t,H⟩ ⟨t.map (jL n 9),H.take n⟩:=λm w E a hs=>
 ⟨E.cut n,⟨hs.heap.drop n (gk hn) hr,hs.tmps.of_map (λc y hl=>hl.low n 9),hs.defers,bn⟩,
  ⟨⟨λ_ _ _=>V,λ_ _ _=>V,λ_ _ _ h=>h,λ_ _ _ _ h=>h⟩,rfl,rfl,rfl,de _,λ_ _ _=>V,λb o u hu=>.inl hu,λb h=>.inr h.take⟩⟩
def WC.gl(id sz:Nat)(rows:List (List C)):WC (.gl id sz rows) (.rG 0 sz rows):=λE y h=>wj h
end
section
variable {P:Program} {o:Oper} {ρ:Operand->C} {H:zf}
def zL.AS(hh:zL w E H){sz':Nat}(hl:L E (.rG 1 sz rows) y)(ty:TypeId)(hz:rows=[]\/sz'=sz):
  ∃E1,zL w E1 (H++[⟨4,ty,sz',rows,0⟩])/\L E1 (.gl H.length sz' rows) y/\Grow w E H w E1 (H++[⟨4,ty,sz',rows,0⟩]):=by
 obtain⟨E1,hs,g⟩:=zm.grow (B:=H.length) (s:=⟨[.rG 1 sz rows],H⟩) 0 ty sz' V hz 0 w E ⟨#[y],[]⟩ ⟨hh,LL.one hl,dA _,de _⟩;have hn:=hs.heap.n
 refine⟨E1,hs.heap,hs.tmps.cons_inv.1,⟨⟨by rw[hn,hh.n];simp,λid hops hi=>g.le.β id hops uU,λid hops hi=>g.le.κ id hops uU,g.le.St,λid k u hi=>g.le.G id k u uU⟩,
  g.os,g.tape,g.output,g.size,g.frame,g.qB,g.own⟩⟩
def H9{l:List α}{i:Nat}{x:α}(h:l[i]?=some x):l.set i x=l:=by
 apply dS
 intro j;rw[df];split
 .rename_i e;subst e;rw[c7 (cW.1 h).1,h]
 .rfl
def rQ.AZ(cl:Call)(ho:o.op=.call cl)(x y:Operand)(ht:tP P cl x y e i z){id:Nat}(hx:ρ x=.gl id i.size rows)(hob:H[id]?=some ob)
 (hkd:ob=⟨4,e,i.size,rows,0⟩){sz':Nat}{rows':List (List C)}(hy:jc H (Ab.rX (ρ y))=some (sz',rows'))(hsz:rows'=[]\/sz'=i.size)(hm:rows.length+rows'.length<=maxLen)(hb:(rows.length+rows'.length)*i.bytes<=140737488355328):
  rQ P o ρ H (.gl id i.size (rows++rows')) (H.set id ⟨4,e,i.size,rows++rows',0⟩):=by
 subst hkd;by_cases hne:rows'=[]
 .subst hne;rw[gR,H9 hob];refine .same λw E σ hh hl K hk=>?_
  have h0:=wj (hl x uT);have h1:=wj (hl y uT);have hx':jc H (Ab.rX (ρ x))=some (i.size,rows):=by rw[hx];simp[Ab.rX,jc]
  obtain⟨t,hu,hexec⟩:=xz ho ht σ w
  have hyv:∃a cap,σ y=.slice a 0 cap:=by
   rcases jt hh h1 hy with⟨_,e1⟩|⟨a,cap,vals,e1,_⟩
   .exact⟨none,0,e1⟩
   .exact⟨some a,cap,e1⟩
  obtain⟨a,cap,hyv⟩:=hyv
  have hr:(Builtin.append_ #[t,t] o.type #[σ x,σ y]).run P w=.ok (σ x) w:=by
   rcases jt hh h0 hx' with⟨_,e1⟩|⟨a',cap',vals,e1,hcap,_⟩
   .cases a <;> simp[Builtin.append_,run_underlying hu,sizeOf,typeInfo,ht.info,Builtin.lenOf,hyv,e1,Builtin.firstCells,loadCells,loadCellsFrom]
   .cases a <;> simp[Builtin.append_,run_underlying hu,sizeOf,typeInfo,ht.info,Builtin.lenOf,hyv,e1,hcap,Builtin.firstCells,loadCells,loadCellsFrom,storeCells]
  rw[hexec _ _ hr];refine hk _ w E hh ?_ (zR.refl w E H);have:=hl x uT;rw[hx]at this;exact cQ
 .obtain rfl:=hsz.resolve_left hne;exact .GC cl ho x y ht hx hob V V V V hy hne hm hb
def rQ.DJ(cl:Call)(ho:o.op=.call cl)(x y:Operand)(ht:tP P cl x y e i z)(hx:ρ x=.rG 1 sz rows)(hsx:rows=[]\/sz=i.size)
 {sz':Nat}{rows':List (List C)}(hy:jc H (Ab.rX (ρ y))=some (sz',rows'))(hsz:rows'=[]\/sz'=i.size)(hm:rows.length+rows'.length<=maxLen)(hb:(rows.length+rows'.length)*i.bytes<=140737488355328):
  rQ P o ρ H (.gl H.length i.size (rows++rows')) (H++[⟨4,e,i.size,rows++rows',0⟩]):=by
 classical
 intro w E σ hh hl K hk;have h0:=hl x uT;rw[hx]at h0;obtain⟨E1,hh1,hl1,g1⟩:=hh.AS h0 e (sz':=i.size) (hsx.imp id Eq.symm);obtain⟨ρ',hρx,hρ⟩:∃ρ':Operand->C,ρ' x=.gl H.length i.size rows/\∀z,z≠x->ρ' z=ρ z:=⟨λz=>if z=x then .gl H.length i.size rows else ρ z,aj,λz hz=>by simp[hz]⟩;have hob:(H++[⟨4,e,i.size,rows,0⟩]:zf)[H.length]?=some ⟨4,e,i.size,rows,0⟩:=aj
 have hy':∃sz2,jc (H++[⟨4,e,i.size,rows,0⟩]) (Ab.rX (ρ' y))=some (sz2,rows')/\(rows'=[]\/sz2=i.size):=by
  by_cases hyx:y=x
  .subst hyx;rw[hx]at hy;simp[Ab.rX,jc]at hy;obtain⟨_,rfl⟩:=hy;exact⟨i.size,by rw[hρx];simp[Ab.rX,jc],.inr V⟩
  .rw[hρ y hyx];refine⟨sz',?_,hsz⟩;cases hc:Ab.rX (ρ y) with
   |sl id hops sz2 lo len full=>
    rw[hc]at hy;simp only[jc]at hy|-;cases hid:H[id]? with
    |none=>rw[hid]at hy;simp at hy
    |some ob=>
     have rF:=(cW.1 hid).1;rw[hid]at hy;rw[da rF,hid,xB rF];exact hy
   |rG o2 s2 r2=>rw[hc]at hy;exact hy
   |_=>rw[hc]at hy;cases hy
 obtain⟨sz2,hy1,hy2⟩:=hy'
 have:=rQ.AZ (ρ:=ρ') cl ho x y ht hρx hob V hy1 hy2 hm hb w E1 σ hh1 (λz hz=>by
  by_cases hzx:z=x
  .subst hzx;rw[hρx];exact hl1
  .rw[hρ z hzx];exact(hl z hz).mono g1.le) K
 have e1:(H++[⟨4,e,i.size,rows,0⟩]:zf).set H.length ⟨4,e,i.size,rows++rows',0⟩=H++[⟨4,e,i.size,rows++rows',0⟩]:=aj
 rw[e1]at this;exact this λv w' E' a b c=>hk v w' E' a b (g1.trans c)
end
abbrev bs(l:List UInt8):ByteArray:=⟨⟨l⟩⟩
theorem iu(l:List UInt8):(bs l).size=l.length:=rfl
def IC(l:List UInt8)(n:Nat):(bs l)[n]?=l[n]?:=by
 have h:(bs l)[n]?=(bs l).data[n]?:=by
  by_cases hn:n<l.length
  .rw[getElem?_pos (bs l) n hn,getElem?_pos (bs l).data n hn];rfl
  .rw[getElem?_neg (bs l) n hn,getElem?_neg (bs l).data n hn]
 rw[h];simp
def Fu(l:List UInt8)(a b:Nat):(bs l).extract a b=bs ((l.take b).drop a):=by
 apply ByteArray.ext
 rw[ByteArray.data_extract];apply ph.1
 simp[List.drop_take]
def GH(l m:List UInt8):bs l++bs m=bs (l++m):=by
 apply ByteArray.ext
 simp
section
variable {P:Program} {o:Oper} {ρ:Operand->C} {H:zf}
def yj{x:Value}(h:L E (.v x) y):y=x:=by cases h;rfl
def zU.Ia(t:TypeId)(x y:Operand)(ho:o.op=.index t x y)(ht:P.underlying t=some .string){l:List UInt8}(hx:ρ x=.v (.string (bs l))){k:IntKind}{n:Int}(hy:ρ y=.v (.int k n))(h0:0<=n)
 {c:UInt8}(hc:l[n.toNat]?=some c):zU P o ρ H (.v (.int .u8 c.toNat)) H:=λw E σ hh hl K hk=>by
 have h1:=yj (hx ▸ hl x uR);have h2:=yj (hy ▸ hl y uR)
 have hr:(execOp σ o).run P w=.ok (.value (.int .u8 c.toNat)) w:=by
  unfold execOp;simp[ho,Instr.index,asIntOf,h1,h2,run_underlying ht,h0,IC,hc]
 exact cm
def zU.BR(cl:Call)(ho:o.op=.call cl)(hcl:cl.callee=.builtin .len)(x:Operand)(hx:cl.args= #[x])(ht:cl.argTypes= #[t])(hu:P.underlying t=some .string)
 {l:List UInt8}(hl0:ρ x=.v (.string (bs l))):zU P o ρ H (.v (.int .i64 l.length)) H:=λw E σ hh hl K hk=>by
 have h1:=yj (hl0 ▸ hl x (by simp[ho,Op.operands,Call.operands,hcl,hx]))
 have hr:(execOp σ o).run P w=.ok (.value (.int .i64 l.length)) w:=by
  unfold execOp;simp[ho,resolve,hcl,hx,ht,invoke,builtin,Builtin.len_,h1,run_underlying hu,goInt,iu]
 exact cm
def D3{len:Nat}{hi:Option Operand}{l h:Nat}(hl:∀y,lo=some y->∃k,σ y=.int k l)(hl0:lo=none->l=0)(hh:∀y,hi=some y->∃k,σ y=.int k h)(hh0:hi=none->h=len)
 (h1:l<=h)(h2:h<=len)(w:World):(Instr.sliceBounds false len len (lo.map σ) (hi.map σ) none).run P w=.ok (l,h,len) w:=by
 unfold Instr.sliceBounds;cases lo with
 |none=>
  obtain rfl:=hl0 V;cases hi with
  |none=>obtain rfl:=hh0 V;simp
  |some y=>obtain⟨k,e⟩:=hh y V;simp[e,run_sliceBound h2]
 |some x=>
  obtain⟨k0,e0⟩:=hl x V;cases hi with
  |none=>obtain rfl:=hh0 V;simp[e0,run_sliceBound h1]
  |some y=>obtain⟨k,e⟩:=hh y V;simp[e,e0,run_sliceBound h2,run_sliceBound h1]
def zU.Ib(t:TypeId)(x:Operand)(lo hi:Option Operand)(ho:o.op=.slice t x lo hi none)(ht:P.underlying t=some .string){b:List UInt8}(hx:ρ x=.v (.string (bs b)))
 {l h:Nat}(hl':sM ρ lo 0 l)(hh':sM ρ hi b.length h)(h1:l<=h)(h2:h<=b.length):zU P o ρ H (.v (.string (bs ((b.take h).drop l)))) H:=λw E σ hh hl K hk=>by
 have h0:=yj (hx ▸ hl x uR);obtain⟨b1,b2⟩:=hl'.val (E:=E) (σ:=σ) (λy e=>hl y tE);obtain⟨b3,b4⟩:=hh'.val (E:=E) (σ:=σ) (λy e=>hl y tE)
 have hr:(execOp σ o).run P w=.ok (.value (.string (bs ((b.take h).drop l)))) w:=by
  unfold execOp;have:=D3 (P:=P) b1 b2 b3 b4 h1 h2 w;rw[<-iu]at this;simp[ho,Instr.sliceAt,run_underlying ht,Instr.slice,h0,this,Fu]
 exact cm
def zU.Cb(op:BinOp)(t t':TypeId)(x y:Operand)(ho:o.op=.binOp op t x y t')(hop:op=.eql\/op=.neq){a b:List UInt8}(hx:ρ x=.v (.string (bs a)))(hy:ρ y=.v (.string (bs b))):
  zU P o ρ H (.v (.bool (if op=.eql then a == b else !(a == b)))) H:=λw E σ hh hl K hk=>by
 have h1:=yj (hx ▸ hl x uR);have h2:=yj (hy ▸ hl y uR)
 have hr:(execOp σ o).run P w=.ok (.value (.bool (if op=.eql then a == b else !(a == b)))) w:=by
  unfold execOp;rcases hop with rfl|rfl <;> simp[ho,h1,h2,eqGuard,binOp,Op.stringOp]
 exact cm
def zU.Iw(t t':TypeId)(x y:Operand)(ho:o.op=.binOp .add t x y t'){a b:List UInt8}(hx:ρ x=.v (.string (bs a)))(hy:ρ y=.v (.string (bs b)))(hm:a.length+b.length<=9223372036854775807):
  zU P o ρ H (.v (.string (bs (a++b)))) H:=λw E σ hh hl K hk=>by
 have h1:=yj (hx ▸ hl x uR);have h2:=yj (hy ▸ hl y uR)
 have hr:(execOp σ o).run P w=.ok (.value (.string (bs (a++b)))) w:=by
  unfold execOp;simp only[ho,h1,h2,Sem.run_bind];simp[eqGuard,binOp,Op.stringOp,GH];rw[iu,iu];omega
 exact cm
abbrev uw(b:UInt8):List C:=[.v (.int .u8 (b.toNat:Int))]
def zU.GM(src dst:TypeId)(x:Operand)(ho:o.op=.convert src dst x)(hs:P.underlying src=some (.slice e))(he:P.underlying e=some (.int .u8))(hd:P.underlying dst=some .string){bts:List UInt8}
 (hx:ρ x=.rG fo 1 (bts.map uw)):zU P o ρ H (.v (.string (bs bts))) H:=λw E σ hh hl K hk=>by
 have h0:=hl x uR
 have key:(convert src dst (σ x)).run P w=.ok (.string (bs bts)) w:=by
  rw[hx]at h0;generalize σ x=y at h0;generalize hc:C.rG fo 1 (bts.map uw)=c at h0;cases h0 with
  |rG o' sz rows b off cap us ho' hcap hsz hst hL=>
   cases hc
   have hlen:(bts.map uw).length=bts.length:=cY ..;rw[hlen]
   have:=run_convert_bytes_arg (P:=P) w src e hs he b off bts.length cap (bts.map λb=>(b.toNat:Int)) aj (λi hi=>by
    have hr:(bts.map uw)[i]?=some (uw bts[i]):=by simp[hi]
    have h1:=hst i _ 0 _ hr V;have h2:=yj (hL i _ 0 _ hr V);rw[h2]at h1;have h3:=(hh.zK _ _ _ h1).1;have e1:off+i*1+0=off+i:=ah
    rw[e1]at h3;rw[h3];simp[List.getD,hi]) dst hd
   rw[this]
   congr 2
   apply ByteArray.ext
   apply ph.1
   rw[strOfNums_data,pS];have e2:((λn:Int=>UInt8.ofNat n.toNat) ∘ λb:UInt8=>(b.toNat:Int))=id:=by funext b;simp
   rw[e2,List.map_id]
  |q6 o' sz ho' a=>
   have hb:bts=[]:=by
    have:(bts.map uw)=[]:=by injection hc
    simpa using this
   subst hb;cases a with
   |none=>exact run_convert_bytes_nil w src e hs he 0 0 dst hd
   |some a=>
    rw[run_convert_bytes_string w src dst e _ 0 0 hs he hd,run_bytesToString w _ 0 0 [] (by simp[loadCells];rfl)]
    rfl
  |_=>cases hc
 have hr:(execOp σ o).run P w=.ok (.value (.string (bs bts))) w:=by
  unfold execOp;simp[ho,key]
 exact cm
end
abbrev xH(z l:Nat)(o:Obj)(t:List C):Ob:=⟨4,l,z,[.rc o::t],1⟩
abbrev n9(l:Nat)(o:Obj)(t:List C):Ob:=xH 1 l o t
abbrev r8(l:Nat)(r:Loop)(t:List C):Ob:=n9 l (.loop r) t
abbrev sK(b:Nat)(es:Array MapEntry)(k:Nat):Ob:=n9 b (.map es k) []
def zL.setObj(hh:zL w E H){z id l:Nat}{r r':Obj}{t t':List C}(hob:H[id]?=some (xH z l r t))(hf':wH r'=true)(hr:kq E t r->kq E t' r'):
  zL (w.putObj l r') E (H.set id (xH z l r' t'))/\Grow w E H (w.putObj l r') E (H.set id (xH z l r' t')):=by
 obtain⟨⟨hL,hf⟩,ht⟩:=hh.rI.sa id _ r t hob V ⟨rfl,rfl⟩;have rF:=(db.1 hL).1
 have hcells:∀(k:Nat) c ty z,w.heap[k]?=some (Obj.cells c ty z)->(w.putObj l r').heap[k]?=w.heap[k]?:=λk c ty z h=>
  World.putObj_heap_other (by rintro rfl;rw[hL]at h;cases h;cases hf)
 have hgetS:∀i,i≠id->(H.set id (xH z l r' t'))[i]?=H[i]?:=λi hi=>by rw[df,c6 (Ne.symm hi)]
 have hgetI:(H.set id (xH z l r' t'))[id]?=some (xH z l r' t'):=by rw[df,c7 V,c7 (cW.1 hob).1]
 have hGo:∀i b,zT E (H.set id (xH z l r' t')) i b->zT E H i b:=by
  rintro i b ⟨ob2,cap,h1,h2,h3,h4⟩;by_cases hi:i=id
  .subst hi;rw[hgetI]at h1;cases h1
   exact⟨_,cap,hob,rfl,h3,h4⟩
  .rw[hgetS i hi]at h1;exact⟨ob2,cap,h1,h2,h3,h4⟩
 have hRo:∀i b,qo (H.set id (xH z l r' t')) i b->qo H i b:=by
  rintro i b ⟨ob2,r2,t2,h1,h2,h3,h4⟩;by_cases hi:i=id
  .subst hi;rw[hgetI]at h1;cases h1
   exact⟨_,r,t,hob,rfl,⟨rfl,rfl⟩,h4⟩
  .rw[hgetS i hi]at h1;exact⟨ob2,r2,t2,h1,h2,h3,h4⟩
 have ho0:∀b,qc E (H.set id (xH z l r' t')) b↔qc E H b:=λb=>qc.eP hob V V V
 have hR:zD (w.putObj l r') E (H.set id (xH z l r' t')):=by
  refine zD.eP (hh.base.other (Env.le.refl E) V V ?_ ?_ λb o u _ hu=>hu) hob V V aj
  .intro b hb;obtain⟨cur,e,h1⟩:=hh.base.wt hb;exact hcells b _ _ _ h1
  .intro b o u hu;obtain⟨h1,h2⟩:=hh.base.zK b o u hu;refine⟨?_,h2⟩;unfold World.cell? at h1|-;split at h1
   .rename_i c ty z hc;rw[hcells _ _ _ _ hc,hc];exact h1
   .cases h1
 refine⟨⟨hR,?_,?_,?_,?_,?_,?_,?_,λi j b h1 h2=>hh.rI.yq i j b (hRo i b h1) (hRo j b h2)⟩,⟨Env.le.refl E,rfl,rfl,rfl,aj,?_,λb o u hu=>.inl hu,?_⟩⟩
 .intro i ob2 h1 h2;by_cases hi:i=id
  .subst hi;rw[hgetI]at h1;cases h1
   have:=hh.rI.val i _ hob V;exact cQ
  .rw[hgetS i hi]at h1;exact hh.rI.val i ob2 h1 h2
 .intro i b ob2 h1 h2;have h1':=hGo i b h1;by_cases hi:i=id
  .subst hi;rw[hgetI]at h2;cases h2
   obtain⟨cur,cap,e1,e2,e3⟩:=hh.rI.rM i b _ h1' hob;exact⟨cur,cap,e1,(hcells _ _ _ _ e2).trans e2,e3⟩
  .rw[hgetS i hi]at h2;obtain⟨cur,cap,e1,e2,e3⟩:=hh.rI.rM i b ob2 h1' h2;exact⟨cur,cap,e1,(hcells _ _ _ _ e2).trans e2,e3⟩
 .intro i b h1 h2;exact hh.rI.sep i b (hGo i b h1) ((ho0 b).1 h2)
 .intro i j b h1 h2;exact hh.rI.inj i j b (hGo i b h1) (hGo j b h2)
 .intro i b ob2 o u h1 h2 h3;have h1':=hGo i b h1;by_cases hi:i=id
  .subst hi;rw[hgetI]at h2;cases h2
   have:=hh.rI.st i b _ o u h1' hob h3;exact cQ
  .rw[hgetS i hi]at h2;exact hh.rI.st i b ob2 o u h1' h2 h3
 .intro i ob2 k u h1 h2 h3;by_cases hi:i=id
  .subst hi;rw[hgetI]at h1;cases h1
   have:=hh.rI.top i _ k u hob V h3;exact cQ
  .rw[hgetS i hi]at h1;exact hh.rI.top i ob2 k u h1 h2 h3
 .intro i ob2 r2 t2 h1 h2 h3;by_cases hi:i=id
  .subst hi;rw[hgetI]at h1;cases h1
   obtain⟨h3,_⟩:=h3;simp only[List.cons.injEq,C.rc.injEq,and_true]at h3;obtain⟨rfl,rfl⟩:=h3;exact⟨⟨World.putObj_heap_same rF,hf'⟩,hr ht⟩
  .rw[hgetS i hi]at h1;obtain⟨p1,p2⟩:=hh.rI.sa i ob2 r2 t2 h1 h2 h3;refine⟨⟨(World.putObj_heap_other ?_).trans p1.1,p1.2⟩,p2⟩;intro e;exact hi (hh.rI.yq i id l ⟨ob2,r2,t2,h1,h2,h3,e⟩ ⟨_,r,t,hob,rfl,⟨rfl,rfl⟩,rfl⟩)
 .intro k _ hk;refine World.putObj_heap_other ?_;rintro rfl;exact hk (.inr ⟨id,.inr ⟨_,r,t,hob,rfl,⟨rfl,rfl⟩,rfl⟩⟩)
 .rintro b (hb|⟨i,hb|hb⟩)
  .exact .inr (.inl ((ho0 b).1 hb))
  .exact .inr (.inr ⟨i,.inl (hGo i b hb)⟩)
  .exact .inr (.inr ⟨i,.inr (hRo i b hb)⟩)
def zL.ik(hh:zL w E H){id l:Nat}{r r':Loop}{t:List C}(hob:H[id]?=some (r8 l r t))(hr:r'.tmps=r.tmps):
  zL (w.putObj l (.loop r')) E (H.set id (r8 l r' t))/\Grow w E H (w.putObj l (.loop r')) E (H.set id (r8 l r' t)):=hh.setObj (z:=1) hob V λh=>.inl (by simp only[nR,hr];exact h.loop)
def zL.newObj{w0:World}(h0:zL w0 E H){z l:Nat}{r:Obj}{t:List C}(hf:wH r=true)(hk:∀k,k<w0.heap.size->w.heap[k]?=w0.heap[k]?)(hos:w.os=w0.os)(htp:w.tape=w0.tape)(hout:w.output=w0.output)(hsz:w0.heap.size<=w.heap.size)
 (hL:w.heap[l]?=some r)(hl:w0.heap.size<=l)(ht:kq E t r):∃E1,zL w E1 (H++[xH z l r t])/\Grow w0 E H w E1 (H++[xH z l r t]):=by
 have hh:zL w E H:=h0.cells λk o h _=>hk k (db.1 h).1
 have hn:=hh.n;obtain⟨G,hGd⟩:∃G:Nat->Nat->Option Value,G=λi k=>if i=E.n then (if k=1 then some (.slice none 1 1) else none) else E.G i k:=⟨_,rfl⟩
 have hG:∀id k,id<E.n->G id k=E.G id k:=λid k hi=>by rw[hGd];simp[g8 hi]
 obtain⟨hR,hg⟩:=hh.base.A6 (xH z l r t) (λh=>by cases h) (λh=>by cases h) (de _) G hG;obtain⟨E',hE'⟩:∃E':Env,E'={E.push 0 0 with G:=G}:=⟨_,rfl⟩;rw[<-hE']at hR hg;have hG':∀i k,E'.G i k=if i=E.n then (if k=1 then some (.slice none 1 1) else none) else E.G i k:=λi k=>by rw[hE',hGd]
 have hSt:E'.St=E.St:=by rw[hE'];rfl
 have last:∀id ob1,(H++[xH z l r t])[id]?=some ob1->(id<H.length/\H[id]?=some ob1)\/(id=H.length/\ob1=xH z l r t):=by
  intro id ob1 ho;by_cases rF:id<H.length
  .rw[da rF]at ho;exact .inl ⟨rF,ho⟩
  .rw[dg ah]at ho
   have:id-H.length=0:=by
    exact cy
   rw[this]at ho;cases ho
   exact .inr ⟨ah,rfl⟩
 have back:∀i b,zT E' (H++[xH z l r t]) i b->zT E H i b:=by
  rintro i b ⟨ob,cap,h1,h2,h3,h4⟩;rcases last i ob h1 with⟨rF,ho⟩|⟨rfl,rfl⟩
  .refine⟨ob,cap,ho,h2,?_,h4⟩;rw[hG',c6 ah]at h3;exact h3
  .rw[hG',c7 hn.symm,c7 (show(xH z l r t).rows.length=1 from V)]at h3;simp at h3
 have rback:∀i b,qo (H++[xH z l r t]) i b->(qo H i b/\b<w0.heap.size)\/(i=H.length/\b=l):=by
  rintro i b ⟨ob,r2,t2,h1,h2,h3,h4⟩;rcases last i ob h1 with⟨rF,ho⟩|⟨rfl,rfl⟩
  .have:=(h0.rI.sa i ob r2 t2 ho h2 h3).1.1;rw[h4]at this;exact .inl ⟨⟨ob,r2,t2,ho,h2,h3,h4⟩,(db.1 this).1⟩
  .exact .inr ⟨rfl,h4.symm⟩
 have hGro:sR w E' (H++[xH z l r t]):=by
  refine⟨?_,?_,?_,λi j b h1 h2=>hh.rI.inj i j b (back i b h1) (back j b h2),?_,?_,?_,?_⟩
  .intro i ob h1 h2;rcases last i ob h1 with⟨rF,ho⟩|⟨rfl,rfl⟩
   .rw[hG',c6 ah];exact hh.rI.val i ob ho h2
   .exact⟨none,1,by show E'.G _ 1=_;rw[hG',c7 hn.symm,c7 V];rfl,.inl V⟩
  .intro i b ob h1 h2;have h1':=back i b h1;have rF:i<H.length:=by obtain⟨ob2,_,e,_⟩:=h1';exact(cW.1 e).1
   rw[da rF]at h2;rw[hG',c6 ah];exact hh.rI.rM i b ob h1' h2
  .intro i b h1 h2;rcases hg.own b h2 with h3|h3
   .have h1':=back i b h1;obtain⟨ob2,c2,e1,e2⟩:=h1';obtain⟨_,_,_,e3,_⟩:=hh.rI.rM i b ob2 ⟨ob2,c2,e1,e2⟩ e1;have:=(db.1 e3).1;omega
   .exact hh.rI.sep i b (back i b h1) h3
  .intro i b ob o u h1 h2 h3;have h1':=back i b h1;have rF:i<H.length:=by obtain⟨ob2,_,e,_⟩:=h1';exact(cW.1 e).1
   rw[da rF]at h2;exact hh.rI.st i b ob o u h1' h2 (by rw[hSt]at h3;exact h3)
  .intro i ob k u h1 h2 h3;rcases last i ob h1 with⟨rF,ho⟩|⟨rfl,rfl⟩
   .rw[hG',c6 ah]at h3;exact hh.rI.top i ob k u ho h2 h3
   .rw[hG',c7 hn.symm]at h3;split at h3
    .rename_i e;rw[e];exact de _
    .cases h3
  .intro i ob r2 t2 h1 h2 h3;rcases last i ob h1 with⟨rF,ho⟩|⟨rfl,rfl⟩
   .obtain⟨p1,p2⟩:=hh.rI.sa i ob r2 t2 ho h2 h3;exact⟨p1,p2.mono hg.le⟩
   .obtain⟨h3,_⟩:=h3;simp only[List.cons.injEq,C.rc.injEq,and_true]at h3;obtain⟨rfl,rfl⟩:=h3;exact⟨⟨hL,hf⟩,ht.mono hg.le⟩
  .intro i j b h1 h2;rcases rback i b h1 with⟨a1,a2⟩|⟨rfl,rfl⟩
   .rcases rback j b h2 with⟨b1,b2⟩|⟨rfl,rfl⟩
    .exact hh.rI.yq i j b a1 b1
    .omega
   .rcases rback j b h2 with⟨b1,b2⟩|⟨rfl,_⟩
    .omega
    .rfl
 refine⟨E',⟨hR,hGro⟩,⟨hg.le,hos,htp,hout,hsz,λk h1 _=>hk k h1,λb o u hu=>.inl (by rw[hSt]at hu;exact hu),?_⟩⟩;rintro b (hb|⟨i,hb|hb⟩)
 .rcases hg.own b hb with h3|h3
  .exact .inl (dK hsz h3)
  .exact .inr (.inl h3)
 .exact .inr (.inr ⟨i,.inl (back i b hb)⟩)
 .rcases rback i b hb with⟨a1,_⟩|⟨_,rfl⟩
  .exact .inr (.inr ⟨i,.inr a1⟩)
  .exact .inl hl
def zL.HW{w0:World}(h0:zL w0 E H){l:Nat}{r:Loop}{t:List C}(hk:∀k,k<w0.heap.size->w.heap[k]?=w0.heap[k]?)(hos:w.os=w0.os)(htp:w.tape=w0.tape)(hout:w.output=w0.output)(hsz:w0.heap.size<=w.heap.size)
 (hL:w.heap[l]?=some (.loop r))(hl:w0.heap.size<=l)(ht:LL E t r.tmps.toList):∃E1,zL w E1 (H++[r8 l r t])/\Grow w0 E H w E1 (H++[r8 l r t]):=h0.newObj (z:=1) V hk hos htp hout hsz hL hl (.inl ht)
def qV(P:Program)(l:Nat)(H:zf)(args:List C)(r:C)(H':zf):Prop:=
 ∀(w:World) (E:Env) (vs:Array Value),zL w E H->LL E args vs.toList->
  ∃fn tmps assign body,(Instr.yield l vs).run P w=.ok (.round l fn tmps assign body) w/\
   RoundIn (fw none) 0 P l fn tmps assign body w λe w'=>∃v E',e=.returned v/\zL w' E' H'/\L E' r v/\Grow w E H w' E' H'
def ea(t:List C)(ps:List Tmp)(args:List C):List C:=(ps.zip args).foldl (λt x=>t.set x.1 x.2) t
def BB{E:Env}:∀(ps:List Tmp) (args:List C) (vs:List Value) (t:List C) (ys:Array Value),LL E t ys.toList->LL E args vs->
  LL E (ea t ps args) ((ps.zip vs).foldl (λ(tmps:Array Value) x=>tmps.setIfInBounds x.1 x.2) ys).toList
 |[],args,vs,t,ys,h,_=>by simpa [ea] using h
 |p::ps,[],[],t,ys,h,_=>by simpa [ea] using h
 |p::ps,[],v::vs,t,ys,h,hl=>by have:=hl.1;simp at this
 |p::ps,c::cs,[],t,ys,h,hl=>by have:=hl.1;simp at this
 |p::ps,c::cs,v::vs,t,ys,h,hl=>by
  obtain⟨h1,h2⟩:=hl.cons_inv;have h3:LL E (t.set p c) (ys.setIfInBounds p v).toList:=by simpa using h.set h1 p
  simpa [ea] using BB ps cs vs (t.set p c) (ys.setIfInBounds p v) h3 h2
def qq.up{w':World}(hh:zL w E H)(hs:zL w' E' H')(hb:H.length<=H'.length)(g:qq H.length w E H w' E' H'):Grow w E H w' E' H':=
 ⟨⟨by rw[hh.n,hs.n];exact hb,λid hops hi=>g.le.β id hops uU,λid hops hi=>g.le.κ id hops uU,g.le.St,λid k u hi=>g.le.G id k u uU⟩,
  g.os,g.tape,g.output,g.size,g.frame,g.qB,g.own⟩
abbrev busy(r:Loop):Loop:={r with state:=.busy}
abbrev left(r:Loop)(c:Code):Loop:={r with state:=.done,pending:=some c}
abbrev BJ(id l:Nat)(r:Loop)(t:List C)(rv:Bool)(H':zf)(e:Exit)(H3:zf):Prop:=
 H3[id]?=some (r8 l (busy r) t)/\((e=.normal/\rv=true/\H'=H3.set id (r8 l r t))\/(rv=false/\((e=.ret/\H'=H3.set id (r8 l (left r .ret) t))\/∃i,e=.exit i/\H'=H3.set id (r8 l (left r (.exit i)) t))))
def qV.ye{H1:zf}{id l:Nat}{r:Loop}{t:List C}{rv:Bool}(hob:H1[id]?=some (r8 l r t))(hst:r.state=.ready)(hpe:r.pending=none)
 (hn:args.length=r.params.size)(hna:qW r.assign=false)(hnb:qW r.body=false)
 (h:qb P H1.length r.assign ⟨ea t r.params.toList args,H1⟩ λe s1=>e=.normal/\s1.H[id]?=some (r8 l r t)/\qb P H1.length r.body ⟨s1.tmps,s1.H.set id (r8 l (busy r) t)⟩ λe s2=>
   ∃s3,zm H1.length s2 s3/\BJ id l r t rv H' e s3.H):qV P l H1 args (.v (.bool rv)) H':=by
 intro w E vs hh hl;obtain⟨⟨hL,_⟩,ht⟩:=hh.rI.sa id _ (.loop r) t hob V ⟨rfl,rfl⟩;have ht:=ht.loop;have hsz:vs.size=r.params.size:=by have:=hl.1;exact cN
 refine⟨r.fn,_,r.assign,r.body,run_yield hL hsz,roundIn_of_wpIn trivial ?_⟩
 have h0:je H1.length 0 w E ⟨ea t r.params.toList args,H1⟩ {tmps:=(r.params.zip vs).foldl (λtmps (x:Tmp×Value)=>tmps.setIfInBounds x.1 x.2) r.tmps,defers:=[]}:=by
  refine⟨hh,?_,dA _,de _⟩;have:=BB r.params.toList args vs.toList t r.tmps ht hl;rw[<-Array.toList_zip,Array.foldl_toList]at this;exact cQ
 refine h (some l) 0 w E _ _ (λe=>by rw[hna]at e;cases e) h0 λe s1 w1 E1 a1 hR1 hs1 g1=>?_
 obtain⟨rfl,hob1,hb⟩:=hR1;obtain⟨⟨hL1,_⟩,_⟩:=hs1.heap.rI.sa id _ (.loop r) t hob1 V ⟨rfl,rfl⟩;refine⟨_,run_beginRound hL1 hst,?_⟩;obtain⟨hR2,G2⟩:=hs1.heap.ik (r':=busy r) hob1 V;refine hb (some l) 0 _ E1 a1 _ (λe=>by rw[hnb]at e;cases e) ⟨hR2,hs1.tmps,?_,ak hs1.base⟩ λe s2 w3 E2 a3 hR3 hs2 g2=>?_
 .exact hs1.defers.grow hs1.heap G2
 obtain⟨s3,hw3,hob2,hend3⟩:=hR3;obtain⟨E3,hs3,g23⟩:=hw3 _ w3 E2 a3 hs2;have g3:=g2.trans g23;obtain⟨⟨hL3,_⟩,_⟩:=hs3.heap.rI.sa id _ (.loop (busy r)) t hob2 V ⟨rfl,rfl⟩;have hn1:H1.length<=E1.n:=by rw[hs1.heap.n];exact hs1.base
 have hn3:H1.length<=E3.n:=by rw[hs3.heap.n];exact hs3.base
 rcases hend3 with⟨rfl,rfl,rfl⟩|⟨rfl,hleave⟩
 .obtain⟨hR4,G4⟩:=hs3.heap.ik (r':=r) hob2 V
  have e:({busy r with state:=.ready,pending:=none}:Loop)=r:=by
   obtain⟨st,pe,_,_,_,_,_,_⟩:=r;simp only at hst hpe;subst hst hpe
   rfl
  have hend:=run_endRound (P:=P) none hL3;refine⟨.bool true,_,hend,?_⟩
  have e2:(w3.putObj l (.loop {busy r with state:=if (none:Option Code).isNone then .ready else .done,pending:=none}))=w3.putObj l (.loop r):=by
   rw[show({busy r with state:=if (none:Option Code).isNone then .ready else .done,pending:=none}:Loop)=r from e]
  rw[e2];exact⟨.bool true,E3,rfl,hR4,.v _ V,qq.up hh hR4 (ak hs3.base) (((g1.trans (G2.sB hn1)).trans g3).trans (G4.sB hn3))⟩
 .have key:∀c,H'=s3.H.set id (r8 l (left r c) t)->∃v w4,(Instr.endRound l (some c)).run P w3=.ok v w4/\∃v' E',Ending.returned v=.returned v'/\zL w4 E' H'/\L E' (.v (.bool false)) v'/\Grow w E H1 w4 E' H':=λc hc=>by
   subst hc;obtain⟨hR4,G4⟩:=hs3.heap.ik (r':=left r c) hob2 V;have hend:=run_endRound (P:=P) (some c) hL3;refine⟨.bool false,_,hend,.bool false,E3,rfl,hR4,.v _ V,?_⟩;exact qq.up hh hR4 (ak hs3.base) (((g1.trans (G2.sB hn1)).trans g3).trans (G4.sB hn3))
  rcases hleave with⟨rfl,hc⟩|⟨i,rfl,hc⟩
  .exact key _ hc
  .exact key _ hc
section
variable {P:Program} {o:Oper} {ρ:Operand->C} {H:zf}
def rQ.yield(cl:Call)(ho:o.op=.call cl)(x:Operand)(hcl:cl.callee=.value x){l:Nat}(hf:ρ x=.v (.func (.yield l) #[] #[])){r:C}{H':zf}
 (hs:qV P l H (cl.args.toList.map ρ) r H'):rQ P o ρ H r H':=λw E σ hh hl K hk=>by
 have h0:=hl x bt;rw[hf]at h0
 have hv:σ x=.func (.yield l) #[] #[]:=by
  generalize σ x=u at *;cases h0
  rfl
 have e3:LL E (cl.args.toList.map ρ) (cl.args.map σ).toList:=by
  refine⟨aj,?_⟩;intro i c y hc hy;rw[cX]at hc;rw[pO,cX]at hy;cases ha:cl.args.toList[i]? with
  |none=>rw[ha]at hc;cases hc
  |some a=>
   rw[ha]at hc hy;cases hc
   cases hy
   exact cM
 obtain⟨fn,tmps,assign,body,hy,hR⟩:=hs w E (cl.args.map σ) hh e3
 have hr:(execOp σ o).run P w=.ok (.round l fn tmps assign body) w:=by
  unfold execOp;simp[ho,resolve,hcl,hv,Deferred.ofValue,invoke,hy]
 rw[hr];exact hR.mono λe w' ⟨v,E',h1,h2,h3,h4⟩=>⟨v,h1,hk v w' E' h2 h3 h4⟩
end
def xq{r:Nat}(hb:w.heap[r]?=some (.map es clock)):(getObj r).run P w=.ok (.map es clock) w:=by
 simp[getObj,Sem.run,hb]
def xr{r:Nat}(o:Obj)(hb:w.heap[r]?=some (.map es clock)):(setObj r o).run P w=.ok () {w with heap:=w.heap.setIfInBounds r o}:=by
 simp[setObj,Sem.run,hb]
theorem Ar(t:TypeId)(w:World):(Instr.makeMap t none).run P w=.ok (.map (some w.heap.size)) (w.alloc (.map #[] 0)):=rfl
def AF(w:World)(o:Obj):(w.alloc o).heap[w.heap.size]?=some o/\∀r',r'<w.heap.size->(w.alloc o).heap[r']?=w.heap[r']?:=by
 have e:(w.alloc o).heap=w.heap.push o:=rfl;rw[e];exact⟨aj,λr' h=>by simp[Array.getElem?_push,g8 h]⟩
structure tS(P:Program)(kt:TypeId){κ:Type}[DecidableEq κ](enc:κ->Value):Prop where
 check:∀(w:World) (em:Bool) (k:κ),(Instr.checkKey em 10000 kt (enc k)).run P w=.ok () w
 find:∀(w:World) (k:κ) (l:List (κ×Value)) (n:Nat),(Instr.findKey kt (enc k) (l.mapIdx λi kv=>⟨enc kv.1,kv.2,i+n⟩)).run P w=.ok ((l.findIdx? λkv=>decide (kv.1=k)).bind λi=>(l[i]?).map λkv=>(i,kv.2)) w
 bits:∀k:κ,Instr.sameBits 10000 (enc k) (enc k)=true
section
variable {κ:Type} [DecidableEq κ]
def jH(enc:κ->Value)(l:List (κ×Value)):Array MapEntry:=(l.mapIdx λi kv=>⟨enc kv.1,kv.2,i⟩).toArray
def qL(l:List (κ×υ))(k:κ):Option Nat:=l.findIdx? λkv=>decide (kv.1=k)
def vv(l:List (κ×υ))(k:κ)(v:υ):List (κ×υ):=match qL l k with
 |some i=>l.set i (k,v)
 |none=>l++[(k,v)]
def lS(enc:κ->Value)(l:List (κ×Value)):(jH enc l).size=l.length:=by simp[jH]
def yO(enc:κ->Value)(l:List (κ×Value))(i:Nat):(jH enc l)[i]?=(l[i]?).map λkv=>⟨enc kv.1,kv.2,i⟩:=by
 simp only[jH,g9,pR]
def AM(enc:κ->Value)(l:List (κ×Value))(k:κ)(v:Value):(jH enc l).push ⟨enc k,v,l.length⟩=jH enc (l++[(k,v)]):=by
 apply ph.1
 simp[jH,List.mapIdx_append]
def lY(enc:κ->Value)(l:List (κ×Value))(i:Nat)(k:κ)(v:Value)(f:MapEntry->MapEntry)(hf:∀kv,l[i]?=some kv->f ⟨enc kv.1,kv.2,i⟩=⟨enc k,v,i⟩):(jH enc l).modify i f=jH enc (l.set i (k,v)):=by
 apply Array.ext_getElem?
 intro j;rw[gQ,yO,yO,df];by_cases e:i=j
 .subst e;rw[c7 V,c7 V];cases h:l[i]? with
  |none=>rw[c6 (by rw[dI]at h;omega)];rfl
  |some kv=>rw[c7 (cW.1 h).1];simp[hf kv h]
 .rw[c6 e,c6 e]
def xg{l:List (κ×υ)}{k:κ}{i:Nat}(h:qL l k=some i):∃v,l[i]?=some (k,v):=by
 unfold qL at h;rw[dh]at h;obtain⟨h1,h2,_⟩:=h;simp only[dm]at h2;exact⟨l[i].2,by rw[cV h1,<-h2]⟩
section
variable {P:Program} {o:Oper} {ρ:Operand->C} {H:zf}
def iE{id k:Nat}(hh:zL w E H)(hob:H[id]?=some (sK b es k)):w.heap[b]?=some (.map es k):=(hh.rI.sa id _ _ [] hob V ⟨rfl,rfl⟩).1.1
def yW(h:L E (.v (.map (some b))) y):y=.map (some b):=by cases h;rfl
def mf{id k k':Nat}{es':Array MapEntry}(hh:zL w E H)(hob:H[id]?=some (sK b es k)):
  zL {w with heap:=w.heap.setIfInBounds b (.map es' k')} E (H.set id (sK b es' k'))/\Grow w E H {w with heap:=w.heap.setIfInBounds b (.map es' k')} E (H.set id (sK b es' k')):=by
 have:=hh.setObj (z:=1) (r':=.map es' k') (t':=[]) hob V λ_=>.inl LL.nil
 exact cQ
def qz.makeMap(t:TypeId)(ho:o.op=.makeMap t none)(hR:∀b,R (.v (.map (some b))) (H++[sK b #[] 0])):qz P o ρ H R:=λw E σ hh hl hc K hk=>by
 have hr:(execOp σ o).run P w=.ok (.value (.map (some w.heap.size))) (w.alloc (.map #[] 0)):=by
  unfold execOp;simp[ho,Ar]
 rw[hr];obtain⟨h1,h2⟩:=AF w (.map #[] 0);obtain⟨E1,h3,g⟩:=hh.newObj (z:=1) (w:=w.alloc (.map #[] 0)) (l:=w.heap.size) (r:=.map #[] 0) (t:=[]) V h2 V V V aj h1 (de _) (.inl LL.nil);exact hk _ _ _ _ E1 (hR _) h3 (.v _ V) g
variable {kt et:TypeId} {enc:κ->Value}
def rQ.lookup(t:TypeId)(x y:Operand)(ho:o.op=.lookup t x y false)(ht:P.underlying t=some (.map kt et))(hk:tS P kt enc){id b:Nat}{l:List (κ×Value)}(hob:H[id]?=some (sK b (jH enc l) l.length))(hx:ρ x=.v (.map (some b)))
 (k:κ)(hy:∀E u,L E (ρ y) u->u=enc k){i:TypeInfo}{z:Value}(hi:P.info? et=some i)(hz:i.zero=some z){c:C}(hc:∀E,L E c (((qL l k).bind λi=>(l[i]?).map (·.2)).getD z)):rQ P o ρ H c H:=λw E σ hh hl K hq=>by
 have h1:=yW (hx ▸ hl x uR);have h2:=hy E _ (hl y uR);have hb:=iE hh hob;have hf:=hk.find w k l 0
 have hr:(execOp σ o).run P w=.ok (.value (((qL l k).bind λi=>(l[i]?).map (·.2)).getD z)) w:=by
  unfold execOp;simp only[ho,h1,h2,Instr.lookup,Sem.run_bind,run_underlying ht,Result.andThen_ok,xq hb,Sem.run_pure,hk.check]
  have e:(Instr.findKey kt (enc k) (jH enc l).toList).run P w=.ok ((qL l k).bind λi=>(l[i]?).map λkv=>(i,kv.2)) w:=by
   simpa [jH,qL] using hf
  rw[e];simp only[Result.andThen_ok];cases hfv:qL l k with
  |none=>simp[jd hi hz]
  |some i=>
   obtain⟨v,hv⟩:=xg hfv;simp[hv]
 rw[hr];exact hq _ w E hh (hc E) (Grow.refl w E H)
def w5{k:κ}(hk:tS P kt enc)(old:Value)(h:old=enc k):(Instr.keyThatStays old (enc k)).run P w=.ok (enc k) w:=by
 subst h;unfold Instr.keyThatStays;rw[c7 (hk.bits k)]
 rfl
def rQ.mapUpdate(t:TypeId)(m x y:Operand)(ho:o.op=.mapUpdate t m x y\/o.op=.insert t m x y)(ht:P.underlying t=some (.map kt et))(hk:tS P kt enc){id b:Nat}{l:List (κ×Value)}(hob:H[id]?=some (sK b (jH enc l) l.length))(hm:ρ m=.v (.map (some b)))
 (k:κ)(hx:∀E u,L E (ρ x) u->u=enc k)(v:Value)(hy:∀E u,L E (ρ y) u->u=v):rQ P o ρ H .un (H.set id (sK b (jH enc (vv l k v)) (vv l k v).length)):=λw E σ hh hl K hq=>by
 have hmem:m∈o.op.operands/\x∈o.op.operands/\y∈o.op.operands:=by rcases ho with ho|ho <;> simp[ho,Op.operands]
 have h1:=yW (hm ▸ hl m hmem.1);have h2:=hx E _ (hl x hmem.2.1);have h3:=hy E _ (hl y hmem.2.2);have hb:=iE hh hob
 have e:(Instr.findKey kt (enc k) (jH enc l).toList).run P w=.ok ((qL l k).bind λi=>(l[i]?).map λkv=>(i,kv.2)) w:=by
  simpa [jH,qL] using hk.find w k l 0
 have hr:(execOp σ o).run P w=.ok .skip {w with heap:=w.heap.setIfInBounds b (.map (jH enc (vv l k v)) (vv l k v).length)}:=by
  have key:(Instr.mapUpdate t (.map (some b)) (enc k) v).run P w=.ok () {w with heap:=w.heap.setIfInBounds b (.map (jH enc (vv l k v)) (vv l k v).length)}:=by
   simp only[Instr.mapUpdate,Sem.run_bind,run_underlying ht,Result.andThen_ok,xq hb,hk.check,e];cases hfv:qL l k with
   |none=>
    simp only[ry,xr _ hb];rw[AM];simp[vv,hfv]
   |some i=>
    obtain⟨v0,hv⟩:=xg hfv;simp only[dB,hv,dc,Sem.run_bind,yO];rw[w5 hk _ aj];simp only[Result.andThen_ok,xr _ hb];rw[lY enc l i k v (λe=>{key:=enc k,val:=v,born:=e.born}) (λkv hkv=>V)];simp[vv,hfv]
  unfold execOp;rcases ho with ho|ho <;> simp[ho,h1,h2,h3,key]
 rw[hr];obtain⟨hR,g⟩:=mf (es':=jH enc (vv l k v)) (k':=(vv l k v).length) hh hob;exact hq _ _ E hR .un g
def sS(l:List (κ×υ))(k:κ):Nat:=(qL l k).getD l.length
def uh(l:List (κ×υ))(k:κ)(z:υ):List (κ×υ):=match qL l k with
 |some _=>l
 |none=>l++[(k,z)]
def rQ.mapEntry(t:TypeId)(m x:Operand)(ho:o.op=.mapEntry t m x)(ht:P.underlying t=some (.map kt et))(hk:tS P kt enc){id b:Nat}{l:List (κ×Value)}(hob:H[id]?=some (sK b (jH enc l) l.length))(hm:ρ m=.v (.map (some b)))
 (k:κ)(hx:∀E u,L E (ρ x) u->u=enc k){i:TypeInfo}{z:Value}(hi:P.info? et=some i)(hz:i.zero=some z):
  rQ P o ρ H (.rO [.za,.v (.int .i64 (sS l k:Int))]) (H.set id (sK b (jH enc (uh l k z)) (uh l k z).length)):=λw E σ hh hl K hq=>by
 have h1:=yW (hm ▸ hl m uR);have h2:=hx E _ (hl x uR);have hb:=iE hh hob
 have e:(Instr.findKey kt (enc k) (jH enc l).toList).run P w=.ok ((qL l k).bind λi=>(l[i]?).map λkv=>(i,kv.2)) w:=by
  simpa [jH,qL] using hk.find w k l 0
 have hr:∃v,(execOp σ o).run P w=.ok (.value (.tuple #[v,.int .i64 (sS l k:Int)])) {w with heap:=w.heap.setIfInBounds b (.map (jH enc (uh l k z)) (uh l k z).length)}:=by
  unfold execOp;simp only[ho,h1,h2,Instr.mapEntry,Sem.run_bind,run_underlying ht,Result.andThen_ok,xq hb,hk.check,e];cases hfv:qL l k with
  |none=>
   simp only[ry,Sem.run_bind,jd hi hz,Result.andThen_ok,xr _ hb];rw[AM];exact⟨z,by simp[uh,sS,hfv,goInt]⟩
  |some i=>
   obtain⟨v0,hv⟩:=xg hfv;simp only[dB,hv,dc,Sem.run_bind,yO];rw[w5 hk _ aj];simp only[Result.andThen_ok,xr _ hb];rw[lY enc l i k v0 (λe=>{key:=enc k,val:=e.val,born:=e.born}) (λkv hkv=>by rw[hv]at hkv;cases hkv;rfl)]
   have:l.set i (k,v0)=l:=by
    apply dS
    intro j;rw[df];split
    .rename_i e2;subst e2;rw[c7 (cW.1 hv).1,hv]
    .rfl
   rw[this];exact⟨v0,by simp[uh,sS,hfv,goInt]⟩
 obtain⟨v,hr⟩:=hr;rw[hr];obtain⟨hR,g⟩:=mf (es':=jH enc (uh l k z)) (k':=(uh l k z).length) hh hob;refine hq _ _ E hR (.rO _ _ V λj c y e1 e2=>?_) g
 match j,e1,e2 with
 |0,e1,e2=>cases e1;exact .za _
 |1,e1,e2=>cases e1;cases e2;exact .v _ V
def find_born(enc:κ->Value)(l:List (κ×Value))(i:Nat)(hi:i<l.length):(jH enc l).findIdx? (λe=>(e.born:Int) == (i:Int))=some i:=by
 rw[Array.findIdx?_eq_some_iff_getElem];refine⟨by rw[lS];exact hi,?_,?_⟩
 .have:=yO enc l i;rw[cV hi,gz (by rw[lS];exact hi)]at this;simp only[dc,dj]at this;rw[this];simp
 .intro j hj;have hjl:j<l.length:=by omega
  have:=yO enc l j;rw[cV hjl,gz (by rw[lS];exact hjl)]at this;simp only[dc,dj]at this;rw[this];simp;omega
def rQ.entryStore(t:TypeId)(m x y:Operand)(ho:o.op=.entryStore t m x y){id b:Nat}{l:List (κ×Value)}(hob:H[id]?=some (sK b (jH enc l) l.length))(hm:ρ m=.v (.map (some b))){i:Nat}(hx:ρ x=.v (.int .i64 (i:Int)))(hi:i<l.length)
 (v:Value)(hy:∀E u,L E (ρ y) u->u=v):rQ P o ρ H .un (H.set id (sK b (jH enc (l.set i (l[i].1,v))) (l.set i (l[i].1,v)).length)):=λw E σ hh hl K hq=>by
 have h1:=yW (hm ▸ hl m uR);have h2:=yj (hx ▸ hl x uR);have h3:=hy E _ (hl y uR);have hb:=iE hh hob
 have hr:(execOp σ o).run P w=.ok .skip {w with heap:=w.heap.setIfInBounds b (.map (jH enc (l.set i (l[i].1,v))) (l.set i (l[i].1,v)).length)}:=by
  unfold execOp;have hi0:(asInt (.int .i64 (i:Int))).run P w=.ok (i:Int) w:=rfl;simp only[ho,h1,h2,h3,Instr.entryStore,Sem.run_bind,Result.andThen_ok,xq hb,hi0,find_born enc l i hi,Sem.run_pure,xr _ hb];rw[lY enc l i l[i].1 v (λe=>{key:=e.key,val:=v,born:=e.born}) (λkv hkv=>by rw[cV hi]at hkv;cases hkv;rfl)];simp
 rw[hr];obtain⟨hR,g⟩:=mf (es':=jH enc (l.set i (l[i].1,v))) (k':=(l.set i (l[i].1,v)).length) hh hob;exact hq _ _ E hR .un g
end
end
section
variable {P:Program} {kt:TypeId}
def oH{d:TypeDesc}{κ:Type}[DecidableEq κ]{enc:κ->Value}(heq:∀(a b:κ),Instr.sameNow d (enc a) (enc b)=some (decide (a=b)))(k:κ):∀(l:List (κ×Value)) (n j:Nat),
  Instr.findNow d (enc k) (l.mapIdx λi kv=>⟨enc kv.1,kv.2,i+n⟩) j=some ((l.findIdx? λkv=>decide (kv.1=k)).bind λi=>(l[i]?).map λkv=>(i+j,kv.2))
 |[],n,j=>by simp[Instr.findNow]
 |kv::l,n,j=>by
  have ih:=oH heq k l (n+1) (j+1);rw[List.mapIdx_cons];unfold Instr.findNow;simp only[heq];by_cases e:k=kv.1
  .simp[pF,e]
  .have e2:(l.mapIdx λi kv=>(⟨enc kv.1,kv.2,i+1+n⟩:MapEntry))=l.mapIdx λi kv=>⟨enc kv.1,kv.2,i+(n+1)⟩:=by
    congr 1
    funext i kv
    congr 1
    omega
   rw[dY e];dsimp only;rw[e2,ih,pF,c6 (by simpa using λh=>e h.symm)]
   congr 1
   cases hf:l.findIdx? λkv=>decide (kv.1=k) with
   |none=>rfl
   |some i=>
    simp only[dc,dB,gp];cases l[i]? with
    |none=>rfl
    |some v=>simp;omega
abbrev jG(n:Int):Value:=.int .i64 n
def tS.int(hu:P.underlying kt=some (.int .i64)):tS P kt jG where
 check w em k:=by
  show(Instr.checkKey em (9999+1) kt _).run P w=_;unfold Instr.checkKey;simp[run_underlying hu]
 find w k l n:=by
  have:=oH (d:=.int .i64) (enc:=jG) (λa b=>by simp[Instr.sameNow];rfl) k l n 0;simp only[pG]at this;simp[Instr.findKey,run_underlying hu,this]
 bits k:=by simp[Instr.sameBits]
end
abbrev sP:=Int×Value×Nat
variable{l:List sP}
def y6(l:List sP):Array MapEntry:=(l.map λe=>(⟨jG e.1,e.2.1,e.2.2⟩:MapEntry)).toArray
def xA(l:List sP)(x:Int):Option Nat:=l.findIdx? λe=>decide (e.1=x)
abbrev e7(b:Nat)(l:List sP)(k:Nat)(t:List C):Ob:=xH 2 b (.map (y6 l) k) t
def GO(l:List sP)(x:Int)(v:Value)(k:Nat):(y6 l).push ⟨jG x,v,k⟩=y6 (l++[(x,v,k)]):=by
 apply ph.1
 simp[y6]
def oL{x:Int}{i:Nat}(h:xA l x=some i):∃v n,l[i]?=some (x,v,n):=by
 unfold xA at h;rw[dh]at h;obtain⟨h1,h2,_⟩:=h;simp only[dm]at h2;exact⟨l[i].2.1,l[i].2.2,by rw[cV h1,<-h2]⟩
section
variable {P:Program} {kt:TypeId}
def Be(k:Int):∀(l:List sP) (j:Nat),
  Instr.findNow (.int .i64) (jG k) (l.map λe=>(⟨jG e.1,e.2.1,e.2.2⟩:MapEntry)) j=some ((l.findIdx? λe=>decide (e.1=k)).bind λi=>(l[i]?).map λe=>(i+j,e.2.1))
 |[],j=>by simp[Instr.findNow]
 |e::l,j=>by
  have ih:=Be k l (j+1);rw[pk];unfold Instr.findNow;have hs:Instr.sameNow (.int .i64) (jG k) (jG e.1)=some (decide (k=e.1)):=by simp[Instr.sameNow];rfl
  simp only[hs];by_cases h:k=e.1
  .simp[pF,h]
  .rw[dY h];dsimp only;rw[ih,pF,c6 (by simpa using λh2=>h h2.symm)]
   congr 1
   cases hf:l.findIdx? λe=>decide (e.1=k) with
   |none=>rfl
   |some i=>
    simp only[dc,dB,gp];cases l[i]? with
    |none=>rfl
    |some v=>simp;omega
def Ay(hu:P.underlying kt=some (.int .i64))(l:List sP)(x:Int)(w:World):(Instr.findKey kt (jG x) (y6 l).toList).run P w=.ok ((xA l x).bind λi=>(l[i]?).map λe=>(i,e.2.1)) w:=by
 have:=Be x l 0;simp only[pG]at this;simp[Instr.findKey,run_underlying hu,y6,this,xA]
def Aq(hu:P.underlying kt=some (.int .i64))(x:Int)(em:Bool)(w:World):(Instr.checkKey em 10000 kt (jG x)).run P w=.ok () w:=(tS.int hu).check w em x
end
section
variable {P:Program} {o:Oper} {ρ:Operand->C} {H:zf} {kt et:TypeId}
def Bz{z id k:Nat}{t:List C}(hh:zL w E H)(hob:H[id]?=some (xH z b (.map es k) t)):w.heap[b]?=some (.map es k):=(hh.rI.sa id _ _ t hob V ⟨rfl,rfl⟩).1.1
def Am{t:List C}{k:Nat}(h:kq E t (.map (y6 l) k))(hlen:t.length=l.length):LL E t (l.map (·.2.1)):=by
 rcases h with h|⟨es,k',e,h⟩
 .have h1:t.length=0:=h.1;have:l=[]:=pW ah;subst this;simpa [nR] using h
 .cases e
  simpa [y6,pS,Function.comp_def] using h
def Fx{t:List C}{k:Nat}(h:LL E t (l.map (·.2.1))):kq E t (.map (y6 l) k):=
 .inr ⟨_,_,rfl,by simpa [y6,pS,Function.comp_def] using h⟩
def qz.Hd(t:TypeId)(ho:o.op=.makeMap t none)(hR:∀b,R (.v (.map (some b))) (H++[e7 b [] 0 []])):qz P o ρ H R:=λw E σ hh hl hc K hk=>by
 have hr:(execOp σ o).run P w=.ok (.value (.map (some w.heap.size))) (w.alloc (.map #[] 0)):=by
  unfold execOp;simp[ho,Ar]
 rw[hr];obtain⟨h1,h2⟩:=AF w (.map #[] 0);obtain⟨E1,h3,g⟩:=hh.newObj (z:=2) (w:=w.alloc (.map #[] 0)) (l:=w.heap.size) (r:=.map #[] 0) (t:=[]) V h2 V V V aj h1 (de _) (.inl LL.nil);exact hk _ _ _ _ E1 (hR _) h3 (.v _ V) g
def Ga{z id k k':Nat}{l':List sP}{t t':List C}(hh:zL w E H)(hob:H[id]?=some (xH z b (.map es k) t))(ht:kq E t (.map es k)->kq E t' (.map (y6 l') k')):
  zL {w with heap:=w.heap.setIfInBounds b (.map (y6 l') k')} E (H.set id (xH z b (.map (y6 l') k') t'))/\Grow w E H {w with heap:=w.heap.setIfInBounds b (.map (y6 l') k')} E (H.set id (xH z b (.map (y6 l') k') t')):=
 hh.setObj (r':=.map (y6 l') k') hob V ht
def Ey{k:Nat}(ht:P.underlying t=some (.map kt et))(hu:P.underlying kt=some (.int .i64))(hb:w.heap[b]?=some (.map (y6 l) k)){x:Int}(hf:xA l x=none)(v:Value):
  (Instr.mapUpdate t (.map (some b)) (jG x) v).run P w=.ok () {w with heap:=w.heap.setIfInBounds b (.map (y6 (l++[(x,v,k)])) (k+1))}:=by
 simp only[Instr.mapUpdate,Sem.run_bind,run_underlying ht,Result.andThen_ok,xq hb,Aq hu,Ay hu,hf,ry,xr _ hb];rw[GO]
def GZ{m x y:Operand}(ho:o.op=.mapUpdate t m x y\/o.op=.insert t m x y){a b c:Value}(h1:σ m=a)(h2:σ x=b)(h3:σ y=c){w':World}(h:(Instr.mapUpdate t a b c).run P w=.ok () w'):(execOp σ o).run P w=.ok .skip w':=by
 unfold execOp;rcases ho with ho|ho <;> simp[ho,h1,h2,h3,h]
def IQ{m x y:Operand}(ho:o.op=.mapUpdate t m x y\/o.op=.insert t m x y):m∈o.op.operands/\x∈o.op.operands/\y∈o.op.operands:=by rcases ho with ho|ho <;> simp[ho,Op.operands]
def qz.zQ(t:TypeId)(m x y:Operand)(ho:o.op=.mapUpdate t m x y\/o.op=.insert t m x y)(ht:P.underlying t=some (.map kt et))(hu:P.underlying kt=some (.int .i64)){id k:Nat}(hob:H[id]?=some (e7 b l k cs))(hlen:cs.length=l.length)
 (hm:ρ m=.v (.map (some b))){kx:Int}(hx:ρ x=.v (.int .i64 kx))(hf:xA l kx=none){R:C->zf->Prop}
 (hR:∀v,R .un (H.set id (e7 b (l++[(kx,v,k)]) (k+1) (cs++[ρ y])))):qz P o ρ H R:=λw E σ hh hl _ K hk=>by
 obtain⟨m1,m2,m3⟩:=IQ ho;have hr:=GZ (P:=P) ho (yW (hm ▸ hl m m1)) (yj (hx ▸ hl x m2)) V (Ey ht hu (Bz hh hob) hf (σ y));rw[hr]
 obtain⟨h1,g⟩:=Ga (l':=l++[(kx,σ y,k)]) (k':=k+1) (t':=cs++[ρ y]) hh hob λh=>Fx (by
  have:=(Am h hlen).append (LL.one (hl y m3));simpa using this)
 exact hk _ _ _ _ E (hR (σ y)) h1 .un g
def Gy{k:Nat}(ht:P.underlying t=some (.map kt et))(hu:P.underlying kt=some (.int .i64))(hb:w.heap[b]?=some (.map (y6 l) k))(x:Int)(hi:P.info? et=some i)(hz:i.zero=some z)(ok:Bool):
  (Instr.lookup t (.map (some b)) (jG x) ok).run P w=.ok (if ok then .tuple #[((xA l x).bind λi=>(l[i]?).map (·.2.1)).getD z,.bool (xA l x).isSome] else ((xA l x).bind λi=>(l[i]?).map (·.2.1)).getD z) w:=by
 simp only[Instr.lookup,Sem.run_bind,run_underlying ht,Result.andThen_ok,xq hb,Sem.run_pure,Aq hu,Ay hu];cases hf:xA l x with
 |none=>cases ok <;> simp[jd hi hz]
 |some i=>
  obtain⟨v,n,hv⟩:=oL hf;cases ok <;> simp[hv]
def Ix{v:Value}{b:Bool}(h:L E c v):L E (.rO [c,.v (.bool b)]) (.tuple #[v,.bool b]):=.rO _ _ V λj c y e1 e2=>by
 match j,e1,e2 with
 |0,e1,e2=>cases e1;cases e2;exact h
 |1,e1,e2=>cases e1;cases e2;exact .v _ V
def rQ.l8(t:TypeId)(x y:Operand)(ok:Bool)(ho:o.op=.lookup t x y ok)(ht:P.underlying t=some (.map kt et))(hu:P.underlying kt=some (.int .i64)){id k:Nat}(hob:H[id]?=some (e7 b l k cs))(hlen:cs.length=l.length)
 (hx:ρ x=.v (.map (some b))){kx:Int}(hy:ρ y=.v (.int .i64 kx)){i:TypeInfo}{z:Value}(hi:P.info? et=some i)(hz:i.zero=some z){j:Nat}(hf:xA l kx=some j){c:C}(hc:cs[j]?=some c):
  rQ P o ρ H (if ok then .rO [c,.v (.bool true)] else c) H:=λw E σ hh hl K hk=>by
 have h1:=yW (hx ▸ hl x uR);have h2:=yj (hy ▸ hl y uR);obtain⟨v,n,hv⟩:=oL hf;have hr:=Gy (P:=P) ht hu (Bz hh hob) kx hi hz ok
 have hr2:(execOp σ o).run P w=.ok (.value (if ok then .tuple #[v,.bool true] else v)) w:=by
  unfold execOp;rw[ho];simp only[h1,h2,Sem.run_bind];rw[show(Value.int IntKind.i64 kx)=jG kx from V,hr,hf];simp[hv]
 rw[hr2];have hll:=Am ((hh.rI.sa id _ _ cs hob V ⟨rfl,rfl⟩).2) hlen;have hL:L E c v:=hll.2 j c v hc (by rw[cX,hv];rfl);refine hk _ _ E hh ?_ (Grow.refl w E H);cases ok
 .exact hL
 .exact Ix hL
end
def j5:TypeDesc->Bool
 |.interface _=>false
 |_=>true
def nt(P:Program)(t:TypeId)(name:String)(f:FuncId):Bool:=
 match P.info? t,P.underlying t with
 |some i,some d=>(match i.methods.find? (·.name == name) with
  |some m=>m.path.isEmpty && (match m.func with
   |some (g,p)=>g == f && !p
   |none=>false)
  |none=>false) && (match d with
  |.pointer _=>false
  |_=>true)
 |_,_=>false
section
variable {P:Program} {o:Oper} {ρ:Operand->C} {H:zf}
def rQ.F9(t:TypeId)(x:Operand)(ho:o.op=.makeInterface t x)(hu:P.underlying t=some d)(hd:j5 d=true):rQ P o ρ H (.r4 t (ρ x)) H:=λw E σ hh hl K hk=>by
 have hx:=hl x uR
 have hr:(execOp σ o).run P w=.ok (.value (.iface t (σ x))) w:=by
  unfold execOp;simp only[ho,Instr.makeInterface,Sem.run_bind,run_underlying hu,Result.andThen_ok];cases d <;> first|rfl|(simp[j5]at hd)
 rw[hr];exact hk _ w E hh (.r4 t _ _ hx) (Grow.refl w E H)
def mL(h:L E (.r4 t c) y):∃v,y=.iface t v/\L E c v:=by
 cases h with
 |r4 t c y h=>exact⟨y,rfl,h⟩
def rQ.GF(x:Operand)(xT asT:TypeId)(ho:o.op=.typeAssert x xT asT true)(hx:ρ x=.r4 asT c)(hu:P.underlying asT=some d)(hd:j5 d=true):rQ P o ρ H (.rO [c,.v (.bool true)]) H:=λw E σ hh hl K hk=>by
 obtain⟨v,hv,hL⟩:=mL (hx ▸ hl x uR)
 have hr:(execOp σ o).run P w=.ok (.value (.tuple #[v,.bool true])) w:=by
  unfold execOp;simp only[ho,hv,Instr.typeAssert,Sem.run_bind,run_underlying hu,Result.andThen_ok];cases d <;> first|(simp[j5]at hd;done)|(simp;done)
 rw[hr];refine hk _ w E hh (.rO _ _ V λj c y e1 e2=>?_) (Grow.refl w E H)
 match j,e1,e2 with
 |0,e1,e2=>cases e1;cases e2;exact hL
 |1,e1,e2=>cases e1;cases e2;exact .v _ V
def rQ.Ho(x:Operand)(xT asT:TypeId)(ho:o.op=.typeAssert x xT asT true)(hx:ρ x=.r4 t c)(hne:(t == asT)=false)(hu:P.underlying asT=some d)(hd:j5 d=true)(hi:P.info? asT=some i)(hz:i.zero.isSome=true):
  rQ P o ρ H (.rO [.za,.v (.bool false)]) H:=λw E σ hh hl K hk=>by
 obtain⟨v,hv,hL⟩:=mL (hx ▸ hl x uR);obtain⟨z,hz⟩:=Option.isSome_iff_exists.1 hz;have hne:t≠asT:=ak hne
 have hr:(execOp σ o).run P w=.ok (.value (.tuple #[z,.bool false])) w:=by
  unfold execOp;simp only[ho,hv,Instr.typeAssert,Sem.run_bind,run_underlying hu,Result.andThen_ok];cases d <;> first|(simp[j5]at hd;done)|(simp[hne,jd hi hz];done)
 rw[hr];refine hk _ w E hh (.rO _ _ V λj c y e1 e2=>?_) (Grow.refl w E H)
 match j,e1,e2 with
 |0,e1,e2=>cases e1;exact .za _
 |1,e1,e2=>cases e1;cases e2;exact .v _ V
def rQ.invoke(cl:Call)(ho:o.op=.call cl)(x:Operand)(name:String)(hcl:cl.callee=.invoke x name){t:TypeId}{c:C}(hx:ρ x=.r4 t c){f:FuncId}(hm:nt P t name f=true)(hcb:zC P f=true){r:C}{H':zf}
 (hs:zb P f H (c::(cl.args.toList.map ρ)) r H'):rQ P o ρ H r H':=λw E σ hh hl K hk=>by
 obtain⟨v,hv,hL⟩:=mL (hx ▸ hl x bt);unfold zC at hcb;split at hcb
 rotate_left
 .cases hcb
 rename_i fn hfn;simp only[c9,dG]at hcb;have hname : fn.name ≠ "runtime.NumGoroutine" := by simpa using hcb.1
 have hbody:fn.body≠none:=bu
 have hmeth:∀k,(method (k+1) t v name).run P w=.ok (f,v) w:=λk=>by
  unfold nt at hm;split at hm
  rotate_left
  .cases hm
  rename_i i d hi hu;simp only[c9]at hm;obtain⟨hm,hd⟩:=hm;split at hm
  rotate_left
  .cases hm
  rename_i m hfind;simp only[c9]at hm;obtain⟨hp,hf⟩:=hm;split at hf
  rotate_left
  .cases hf
  rename_i g p hg;simp only[c9,dH,dG]at hf;obtain⟨rfl,rfl⟩:=hf;have hp0:m.path= #[]:=ak hp
  unfold method;simp only[Sem.run_bind,run_typeInfo w hi,Result.andThen_ok,hfind,hp0,follow,Sem.run_pure,hg,receiverAt,run_underlying hu];cases d <;> first|(simp at hd;done)|rfl
 obtain⟨k,hk0⟩:∃k,P.types.size+Made.depth=k+1:=⟨P.types.size+Made.depth-1,by unfold Made.depth;omega⟩
 have hr:(execOp σ o).run P w=.ok (.enter f (#[v]++cl.args.map σ)) w:=by
  have e0:(#[Value.iface t v]++cl.args.map σ)[0]?=some (.iface t v):=by rw[po aj];rfl
  have e1:(#[Value.iface t v]++cl.args.map σ).extract 1 (#[Value.iface t v]++cl.args.map σ).size=cl.args.map σ:=by
   apply ph.1
   simp;exact gP aj
  have e2:(callMethod (.iface t v) name (cl.args.map σ)).run P w=.ok (.enter f (#[v]++cl.args.map σ)) w:=by
   unfold callMethod;simp[hk0,hmeth,callFunc,hfn,hname,hbody]
  unfold execOp;simp only[ho,resolve,hcl,hv,Sem.run_bind,Sem.run_pure,Result.andThen_ok,Go.invoke,e0,e1,e2]
 rw[hr];refine(hs w E (#[v]++cl.args.map σ) hh ?_).mono ?_
 .have e3:LL E (cl.args.toList.map ρ) (cl.args.map σ).toList:=by
   refine⟨aj,?_⟩;intro i c y hc hy;rw[cX]at hc;rw[pO,cX]at hy;cases ha:cl.args.toList[i]? with
   |none=>rw[ha]at hc;cases hc
   |some a=>
    rw[ha]at hc hy;cases hc
    cases hy
    exact cM
  have:=(LL.one hL).append e3;simpa using this
 .rintro e w' ⟨v',E',rfl,h5,h6,h7⟩;exact⟨v',rfl,hk v' w' E' h5 h6 h7⟩
end
end Go.Ab
