import Derived.Test.YtllehbdigpdinaaGreatSK
import Derived.Test.YtllehbdigpdinaaGreatSZ
set_option linter.all false
set_option maxRecDepth 100000
set_option maxHeartbeats 4000000
namespace Go.Wor
open Go.Ab Go.Proofs Tryz Go.Gat Go.Nam Go.Hos Go.Con Go.Sna
open Go.Hy hiding encI
def hE(e:En):Nat:=e.next.length-(Slp.qG e).1.length
def hG(g:Gr):Nat:=(g.ends.map hE).sum
def hV(v:fc):Nat:=(v.zq.map hG).sum
def B7(w:Wor):Nat:=(w.ze.map hV).sum
structure zzc(w:Wor):Prop where
 lens:w.ze.length<4000000000000000000
 lg:∀v∈w.ze,v.zq.length<4000000000000000000
 le:∀v∈w.ze,∀g∈v.zq,g.ends.length<4000000000000000000
 ok:∀v∈w.ze,∀g∈v.zq,∀e∈g.ends,e.ok/\Slp.ft e=true/\(Slp.qG e).1.length<=e.next.length
 sum:B7 w<4000000000000000000
end Go.Wor
namespace Go.Slp
open Go.Ab Go.Proofs Tryz Go.Hy
def F0{nx:List Int}{i0 s v:Int}(h0:0<=s)(hs:s∉xi nx i0 (jZ nx i0)):∀j,j<=jZ nx i0->jW (nx.set s.toNat v) i0 j=jW nx i0 j
 |0,_=>rfl
 |j+1,h=>by
  have ih:=F0 (v:=v) h0 hs j aw;have hm:jW nx i0 j∈xi nx i0 (jZ nx i0):=gZ.2 ⟨j,rp.2 aw,rfl⟩;have hb:=(Fy (vy nx i0).2.2).2 _ hm;have hp:0<=jW nx i0 j:=by unfold iK at hb;simp at hb;omega
  show im (nx.set s.toNat v) (jW (nx.set s.toNat v) i0 j)=im nx (jW nx i0 j);rw[ih];exact LR (λe=>hs (e ▸ hm)) h0 hp
def Oy{nx:List Int}{i0 s v:Int}(h0:0<=s)(hs:s∉xi nx i0 (jZ nx i0)){k:Nat}(hk:k<=jZ nx i0):xi (nx.set s.toNat v) i0 k=xi nx i0 k:=by
 unfold xi;apply sb
 intro j hj;exact F0 h0 hs j (by have:=rp.1 hj;omega)
def Oa{nx:List Int}{i0 s v:Int}(h0:0<=s)(hs:s∉xi nx i0 (jZ nx i0)){k:Nat}(hk:k<=jZ nx i0):yy (nx.set s.toNat v) i0 k=yy nx i0 k:=by
 unfold yy;rw[Oy h0 hs hk,F0 h0 hs k hk];unfold iK;rw[r4]
def OC{nx:List Int}{i0 s v:Int}(h0:0<=s)(hs:s∉xi nx i0 (jZ nx i0)):jZ (nx.set s.toNat v) i0=jZ nx i0:=by
 obtain⟨c1,c2,c3⟩:=vy nx i0;exact It (by rw[Oa h0 hs (gD _)];exact c2) λj hj=>by rw[Oa h0 hs aw];exact c3 j hj
def O4{nx:List Int}{i0 s v:Int}(h0:0<=s)(hs:s∉xi nx i0 (jZ nx i0)):fW (nx.set s.toNat v) i0=fW nx i0:=by
 unfold fW;rw[OC h0 hs,F0 h0 hs _ (gD _)]
def Wa{e:En}{s v:Int}(hi:ft e=true)(h0:0<=s)(hs:s∉(qG e).1):qG {e with next:=e.next.set s.toNat v}=qG e/\ft {e with next:=e.next.set s.toNat v}=true:=by
 have ok:fW e.next (zA e)=true:=by
  unfold ft at hi;simp only[gC]at hi;exact hi.1.1.1
 have hs:s∉xi e.next (zA e) (jZ e.next (zA e)):=by
  unfold qG at hs;rw[gk ok]at hs;exact hs
 refine⟨?_,?_⟩
 ·show(if fW (e.next.set s.toNat v) (zA e)=true then (xi (e.next.set s.toNat v) (zA e) (jZ (e.next.set s.toNat v) (zA e)),(0:Int)) else ([],11))=_;rw[O4 h0 hs,OC h0 hs,Oy h0 hs (gD _)]
  rfl
 ·show(fW (e.next.set s.toNat v) (zA e) && decide (1<=(e.next.set s.toNat v).length) && decide ((e.next.set s.toNat v).length<=4) && decide (0<=e.zi))=true;rw[O4 h0 hs,r4];exact hi
end Go.Slp
namespace Go.Wor
open Go.Ab Go.Proofs Tryz Go.Gat Go.Nam Go.Hos Go.Con Go.Sna
open Go.Hy hiding encI
def Jc{α:Type}(f:α->Nat):∀(l:List α) (i:Nat) {x:α} (y:α),l[i]?=some x->((l.set i y).map f).sum+f x=(l.map f).sum+f y
 |[],i,x,y,h=>by simp at h
 |a::l,0,x,y,h=>by
  have e:a=x:=aq h
  subst e;simp only[ud,rE,rR];omega
 |a::l,i+1,x,y,h=>by
  have:=Jc f l i y (aq h);simp only[List.set_cons_succ,rE,rR];omega
def LM{w:Wor}(gw:jQ w){m:eR}(ht:0<=m.zf/\m.zf<w.pins.length)(hd:m.done=false)(hv:m.version=0)(hc:m.zj=0)(he:m.end_=0)(ho:m.other=0)(hs:m.slot=0)(hl:m.listen= -1)(hi:m.i=0)(hk:m.k=0):∃v g e,qF w m v g e:=by
 have c:=gw.current;obtain⟨v,hv0⟩:∃v,w.ze[0]?=some v:=⟨_,dZ aw⟩;have gv:=(gw.fI _ v hv0).1;have h0:0<v.zq.length:=aF
 obtain⟨g,e,hg,hee,l1,l2⟩:=wR gv h0;exact⟨v,g,e,qo.2 gw,ht,hd,aw,by rw[hv];exact hv0,aw,by rw[hc];exact hg,aw,by rw[he];exact hee,aw,aw,aw,aw,aw⟩
def wO(w:Wor)(i j k:Int):Option En:=(w.ze[i.toNat]?).bind λv=>(v.zq[j.toNat]?).bind λg=>g.ends[k.toNat]?
abbrev ma(w:Wor)(m:eR)(v:fc)(g:Gr)(e':En)(tk:Int):Wor:={w with ze:=w.ze.set m.version.toNat {v with zq:=v.zq.set m.zj.toNat {g with zt:=tk,ends:=g.ends.set m.end_.toNat e'} } }
def Fb{w:Wor}{m:eR}{v:fc}{g:Gr}{e:En}(hat:fS w m v g e)(e':En)(tk i j k:Int):wO (ma w m v g e' tk) i j k=if i.toNat=m.version.toNat/\j.toNat=m.zj.toNat/\k.toNat=m.end_.toNat then some e' else wO w i j k:=by
 have s1:=(dY.1 hat.at_).1;have s2:=(dY.1 hat.fE).1;have s3:=(dY.1 hat.fL).1;unfold wO ma;dsimp only;by_cases h1:i.toNat=m.version.toNat
 ·rw[h1,gu s1,hat.at_,gX,gX];dsimp only;by_cases h2:j.toNat=m.zj.toNat
  ·rw[h2,gu s2,hat.fE,gX,gX];dsimp only;by_cases h3:k.toNat=m.end_.toNat
   ·rw[h3,gu s3,gk ⟨rfl,rfl,rfl⟩]
   ·rw[gV (λh=>h3 h.symm),gf (λh=>h3 h.2.2)]
  ·rw[gV (λh=>h2 h.symm),gf (λh=>h2 h.2.1)]
 ·rw[gV (λh=>h1 h.symm),gf (λh=>h1 h.1)]
def FF{w:Wor}{m:eR}{v:fc}{g:Gr}{e:En}(hat:fS w m v g e):wO w m.version m.zj m.end_=some e:=by
 unfold wO;rw[hat.at_,gX,hat.fE,gX,hat.fL]
def nE(L:List ff)(i j k:Int):Nat:=L.countP λa=>decide (a.version=i/\a.zj=j/\a.end_=k)
def nL(L:List ff)(i:Int):Nat:=L.countP λa=>decide (a.listen=i)
def Gf(a b:ff):Prop:=a.version=b.version/\a.zj=b.zj/\a.end_=b.end_/\a.slot=b.slot
structure oR(w:Wor)(a:ff):Prop where
 pos:0<=a.version/\0<=a.zj/\0<=a.end_/\0<=a.slot
 fi:0<=a.listen/\a.listen<w.zd.length
 at_:∃e,wO w a.version a.zj a.end_=some e/\a.slot<e.next.length/\a.slot∉(Slp.qG e).1
structure lh(w:Wor)(L:List ff)(x:Int):Prop where
 GH:∀a∈L,oR w a
 diff:L.Pairwise λa b=>¬Gf a b
 fi:∀(i:Nat) l,w.zd[i]?=some l->((nL L i+(if x=i then 1 else 0):Nat):Int)<=l.zi
 ends : ∀i j k e, 0 <= i -> 0 <= j -> 0 <= k -> wO w i j k = some e -> (nE L i j k : Int) <= e.zi
def oR.lD{w:Wor}{m:eR}{v:fc}{g:Gr}{e e':En}{a:ff}{tk:Int}(f:oR w a)(hat:fS w m v g e)(hl:e'.next.length=e.next.length)(hf:a.slot∉(Slp.qG e).1->a.version=m.version->a.zj=m.zj->a.end_=m.end_->a.slot∉(Slp.qG e').1):oR (ma w m v g e' tk) a:=by
 obtain⟨h1,h2,e0,h3,h4,h5⟩:=f;refine⟨h1,h2,?_⟩;rw[Fb hat];by_cases q:a.version.toNat=m.version.toNat/\a.zj.toNat=m.zj.toNat/\a.end_.toNat=m.end_.toNat
 ·rw[gk q];have p1:=hat.v0;have p2:=hat.g0;have p3:=hat.e0;have q1:a.version=m.version:=by omega
  have q2:a.zj=m.zj:=aw
  have q3:a.end_=m.end_:=aw
  have:=FF hat;rw[<-q1,<-q2,<-q3,h3]at this;cases this
  exact⟨e',rfl,aw,hf h5 q1 q2 q3⟩
 ·rw[gf q];exact⟨e0,h3,h4,h5⟩
def oR.other{w w':Wor}{a:ff}(f:oR w a)(hv:w'.ze=w.ze)(hl:w'.zd.length=w.zd.length):oR w' a:=by
 obtain⟨h1,h2,h3⟩:=f;exact⟨h1,aw,by unfold wO at h3 ⊢;rw[hv];exact h3⟩
def lh.lD{w:Wor}{m:eR}{v:fc}{g:Gr}{e e':En}{L:List ff}{x tk:Int}(o:lh w L x)(hat:fS w m v g e)(hl:e'.next.length=e.next.length)(hf:∀s,s∉(Slp.qG e).1->s∉(Slp.qG e').1)(ha:e.zi<=e'.zi):lh (ma w m v g e' tk) L x:=by
 refine⟨λa h=>(o.GH a h).lD hat hl λh1 _ _ _=>hf _ h1,o.diff,o.fi,λi j k e0 hi hj hk h=>?_⟩;rw[Fb hat]at h;split at h
 ·rename_i q;cases h
  have p1:=hat.v0;have p2:=hat.g0;have p3:=hat.e0;have q1:i=m.version:=aw
  have q2:j=m.zj:=aw
  have q3:k=m.end_:=aw
  have:=o.ends _ _ _ e hat.v0 hat.g0 hat.e0 (FF hat);rw[q1,q2,q3];omega
 ·exact o.ends i j k e0 hi hj hk h
def lh.other{w w':Wor}{L:List ff}{x:Int}(o:lh w L x)(hv:w'.ze=w.ze)(hl:w'.zd=w.zd):lh w' L x:=by
 refine⟨λa h=>(o.GH a h).other hv (by rw[hl]),o.diff,by rw[hl];exact o.fi,?_⟩;unfold wO;rw[hv];exact o.ends
def lh.set{w:Wor}{L:List ff}{x x':Int}{i:Nat}{l:fq}{n:Int}(o:lh w L x)(hx:w.zd[i]?=some l)(hn:((nL L i+(if x'=i then 1 else 0):Nat):Int)<=n)(hi:∀j:Nat,j≠i->(x'=j->x=j)):lh {w with zd:=w.zd.set i {l with zi:=n} } L x':=by
 refine⟨λa h=>(o.GH a h).other O aj,o.diff,λj l' h=>?_,o.ends⟩;rcases x7 h with⟨rfl,rfl,_⟩|⟨hne,h⟩
 ·exact hn
 ·have:=o.fi j l' h;have h3:=hi j (λh=>hne h.symm);by_cases q:x'=j
  ·rw[gk q];rw[gk (h3 q)]at this;exact dF
  ·rw[gf q];omega
def Zh(L:List ff)(a:ff)(i:Int):nL (L++[a]) i=nL L i+if a.listen=i then 1 else 0:=by
 unfold nL;rw[sg,sO];simp
def Zg(L:List ff)(a:ff)(i j k:Int):nE (L++[a]) i j k=nE L i j k+if a.version=i/\a.zj=j/\a.end_=k then 1 else 0:=by
 unfold nE;rw[sg,sO];simp
def lh.snoc{w:Wor}{m:eR}{v:fc}{g:Gr}{e e':En}{L:List ff}{tk:Int}(o:lh w L m.listen)(hat:fS w m v g e)(f:oR w (wo m))(d:∀b∈L,¬Gf b (wo m))(hl:e'.next.length=e.next.length)(hf:∀s,s∉(Slp.qG e).1->s∉(Slp.qG e').1)(ha:e'.zi=e.zi+1):
  lh (ma w m v g e' tk) (L++[wo m]) (-1):=by
 refine⟨λa h=>?_,?_,λi l h=>?_,λi j k e0 hi hj hk h=>?_⟩
 ·rcases gO.1 h with h|h
  ·exact(o.GH a h).lD hat hl λh1 _ _ _=>hf _ h1
  ·rw[gN.1 h];exact f.lD hat hl λh1 _ _ _=>hf _ h1
 ·rw[pO];exact⟨o.diff,List.pairwise_singleton ..,λa ha b hb=>by rw[gN.1 hb];exact d a ha⟩
 ·have:=o.fi i l h;rw[Zh,gf (show ¬(-1:Int)=i by omega)];exact dF
 ·rw[Zg];rw[Fb hat]at h;have p1:=hat.v0;have p2:=hat.g0;have p3:=hat.e0;split at h
  ·rename_i q;cases h
   have q1:i=m.version:=aw
   have q2:j=m.zj:=aw
   have q3:k=m.end_:=aw
   have:=o.ends _ _ _ e p1 p2 p3 (FF hat);rw[q1,q2,q3];split <;> omega
  ·rename_i q;have:=o.ends i j k e0 hi hj hk h;rw[gf]
   ·exact dF
   ·rintro⟨q1,q2,q3⟩;have q1:m.version=i:=q1;have q2:m.zj=j:=q2;have q3:m.end_=k:=q3;exact q ⟨aw,aw,aw⟩
inductive HI(L:List ff)(h:Nat):Wor->eR->Prop
 |out {w:Wor} {m:eR} (p:m.pc<=4\/(20<=m.pc/\m.answer.kind≠1/\(m.listen<0\/m.pc=23))) (o:lh w L (-1)) (e:B7 w=h):HI L h w m
 |GZ {w:Wor} {m:eR} (p:(5<=m.pc/\m.pc<=11)\/(20<=m.pc/\m.pc<=22/\m.answer.kind≠1)) (l:0<=m.listen) (o:lh w L m.listen) (e:B7 w=h):HI L h w m
 |Ku {w:Wor} {m:eR} (p:m.pc=12) (l:0<=m.listen) (o:lh w L m.listen) (e:B7 w=h+1) (f:oR w (wo m)) (d:∀b∈L,¬Gf b (wo m)):HI L h w m
 |held {w:Wor} {m:eR} (p:20<=m.pc/\m.pc≠22) (k:m.answer.kind=1) (o:lh w (L++[m.answer]) (-1)) (e:B7 w=h+1):HI L h w m
section
variable {N K:Nat} {w:Wor} {m:eR} {v:fc} {g:Gr} {e:En} {L:List ff} {h:Nat} {r:Wor×eR×eV}
def HI.early(hi:HI L h w m)(p:m.pc<=4):lh w L (-1)/\B7 w=h:=by
 cases hi with
 |out q o e=>exact⟨o,e⟩
 |GZ q l o e=>omega
 |Ku q l o e f d=>omega
 |held q k o e=>omega
def HI.fk(hi:HI L h w m)(p:5<=m.pc/\m.pc<=11):0<=m.listen/\lh w L m.listen/\B7 w=h:=by
 cases hi with
 |out q o e=>omega
 |GZ q l o e=>exact⟨l,o,e⟩
 |Ku q l o e f d=>omega
 |held q k o e=>omega
def YJ{e:En}{s k:Int}(he:e.ok)(hv:Slp.ft e=true)(hh:Slp.zA e=s)(h0:0<=s)(hk:Slp.im e.next s=k):(Slp.qG e).1=s::(Slp.qG (qV e (Slp.jb e.head k) e.zi)).1/\s∉(Slp.qG (qV e (Slp.jb e.head k) e.zi)).1:=by
 have hp:Slp.GJ e=(qV e (Slp.jb e.head k) e.zi,s,0):=by
  unfold Slp.GJ;rw[gf (by simp[hv]),gf aw,hh,hk]
 obtain⟨_,_,_,_,_,_,_,_,q⟩:=Slp.Z4 he hp;have q1:=rz Prod.fst q;refine⟨q1,?_⟩;have hd:=Slp.WZ e.next (Slp.zA e);have hf:=rz Prod.fst (Slp.BU (Slp.Bt hv).1);simp only at hf;rw[<-hf,q1,List.nodup_cons]at hd;exact hd.1
end
end Go.Wor
namespace Go.Wor
open Go.Ab Go.Proofs Tryz Go.Gat Go.Nam Go.Hos Go.Con Go.Sna Go.Pla
open Go.Hy hiding encI
def Pw{w:Wor}{i j k:Int}{e:En}(h:wO w i j k=some e):∃v g,w.ze[i.toNat]?=some v/\v.zq[j.toNat]?=some g/\g.ends[k.toNat]?=some e:=by
 unfold wO at h;obtain⟨v,h1,h⟩:=gU.1 h;obtain⟨g,h2,h3⟩:=gU.1 h;exact⟨v,g,h1,h2,h3⟩
def Xj{e:En}{s:Int}(he:e.ok)(hv:Slp.ft e=true)(h0:0<=s)(h1:s<e.next.length)(hn:s∉(Slp.qG e).1):
  Slp.ft ⟨Slp.jb e.head s,e.next.set s.toNat (Slp.zA e),e.zi⟩=true/\(⟨Slp.jb e.head s,e.next.set s.toNat (Slp.zA e),e.zi⟩:En).ok/\(Slp.qG ⟨Slp.jb e.head s,e.next.set s.toNat (Slp.zA e),e.zi⟩).1=s::(Slp.qG e).1:=by
 have hp:Slp.Gn e s=(⟨Slp.jb e.head s,e.next.set s.toNat (Slp.zA e),e.zi⟩,0):=by
  unfold Slp.Gn;rw[gf (by simp[hv]),gf aw,gf (aq hn)]
 obtain⟨_,_,_,_,_,q1,q2,_,q3⟩:=Slp.YL he hp;exact⟨q1,q2,rz Prod.fst q3⟩
end Go.Wor
namespace Go.Pla
open Go.Ab Go.Proofs Tryz Go.Hy
def Ix{α:Type}{p q:α->Bool}:∀{l:List α},(∀x∈l,p x=q x)->l.findIdx? p=l.findIdx? q
 |[],_=>rfl
 |x::l,h=>by
  rw[rK,rK,h x (pW ..),Ix λy hy=>h y (pT _ hy)]
def Oj(given:List ff)(a f:ff){n:Nat}(h:n<given.length):ir (given++[a]) f n=ir given f n:=by
 unfold ir;rw[gz h]
def LS(given:List ff)(a:ff):∀k,k<=given.length->jn (given++[a]) k=jn given k
 |0,_=>rfl
 |k+1,h=>by
  show Af (given++[a]) (jn (given++[a]) k) k=Af given (jn given k) k;have eU:=kM given k aw;rw[LS given a k aw];unfold Af;rw[gz aw];cases hx:given[k]? with
  |none=>rfl
  |some x=>
   dsimp only;rw[Ix (p:=ir (given++[a]) x) (q:=ir given x) λn hn=>Oj given a x (by have:=eU n hn;omega)]
def HP(given:List ff)(a:ff):jH (given++[a])=if a.kind=1 then jH given++[given.length] else match (jH given).findIdx? (ir given a) with
  |some k=>(jH given).eraseIdx k
  |none=>jH given:=by
 have eU:=kM given given.length (gD _);unfold jH;rw[gE,rP];show Af (given++[a]) (jn (given++[a]) given.length) given.length=_;rw[LS given a _ (gD _)];unfold Af;rw[gK (gD _),rJ];show(if a.kind=1 then _ else match (jn given given.length).findIdx? (ir (given++[a]) a) with|some k=>_|none=>_)=_;rw[Ix (p:=ir (given++[a]) a) (q:=ir given a) λn hn=>Oj given a a (eU n hn)]
def wg(given L:List ff):Prop:=(jH given).map (λi=>given[i]?)=L.map some
def wg.len{given L:List ff}(h:wg given L):(jH given).length=L.length:=by
 have:=rz List.length h;simpa using this
theorem YT:wg [] []:=rfl
def Il(given:List ff)(a:ff)(l:List Nat)(h:∀n∈l,n<given.length):l.map (λi=>(given++[a])[i]?)=l.map λi=>given[i]?:=
 sb λn hn=>gz (h n hn)
def wg.zxO{given L:List ff}(h:wg given L){a:ff}(ha:a.kind=1):wg (given++[a]) (L++[a]):=by
 have eU:∀n∈jH given,n<given.length:=kM given given.length (gD _);unfold wg at h ⊢;rw[HP,gk ha,rb,Il given a _ eU,h,rb];simp
def wg.other{given L:List ff}(h:wg given L){a:ff}(ha:a.kind≠1)(h6:a.kind≠6):wg (given++[a]) L:=by
 have eU:∀n∈jH given,n<given.length:=kM given given.length (gD _)
 have e:(jH given).findIdx? (ir given a)=none:=by
  rw[gP];intro n hn;unfold ir;split
  ·unfold wP;rw[rC h6]
   rfl
  ·rfl
 unfold wg at h ⊢;rw[HP,gf ha,e];dsimp only;rw[Il given a _ eU,h]
def wg.head{given L:List ff}{b:ff}(h:wg given (b::L)):∃i l,jH given=i::l/\given[i]?=some b/\l.map (λi=>given[i]?)=L.map some:=by
 unfold wg at h;cases ho:jH given with
 |nil=>rw[ho]at h;cases h
 |cons i l=>
  rw[ho,rE,rE]at h;obtain⟨h1,h2⟩:=List.cons.inj h;exact⟨i,l,rfl,h1,h2⟩
end Go.Pla
namespace Go.Beg
open Go.Ab Go.Proofs Tryz Go.Hy Go.Pla
end Go.Beg
namespace Go.Wor
open Go.Ab Go.Proofs Tryz Go.Gat Go.Nam Go.Hos Go.Con Go.Sna Go.Pla
open Go.Hy hiding encI
end Go.Wor
