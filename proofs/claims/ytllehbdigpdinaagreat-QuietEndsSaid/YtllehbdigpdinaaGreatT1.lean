import Derived.Test.YtllehbdigpdinaaGreatTK
import Derived.Test.YtllehbdigpdinaaGreatTZ
set_option linter.all false
set_option maxRecDepth 100000
set_option maxHeartbeats 4000000
namespace Go.Wor
open Go.Ab Go.Proofs Tryz Go.Gat Go.Nam Go.Hos Go.Con Go.Sna
open Go.Hy hiding encI
def hE(e:En):Nat:=e.next.length-(Slp.qB e).1.length
def hG(g:Gr):Nat:=(g.ends.map hE).sum
def hV(v:fI):Nat:=(v.zq.map hG).sum
def Bz(w:Wor):Nat:=(w.ze.map hV).sum
def zw7{α:Type}(f:α->Nat)(l:List α){k:Nat}(h:k<l.length):((l.take (k+1)).map f).sum=((l.take k).map f).sum+f l[k]:=by
 rw[rj h,pR,fp];simp
structure zCg(w:Wor):Prop where
 lens:w.ze.length<4000000000000000000
 lg:∀v∈w.ze,v.zq.length<4000000000000000000
 le:∀v∈w.ze,∀g∈v.zq,g.ends.length<4000000000000000000
 ok:∀v∈w.ze,∀g∈v.zq,∀e∈g.ends,e.ok/\Slp.fV e=true/\(Slp.qB e).1.length<=e.next.length
 sum:Bz w<4000000000000000000
end Go.Wor
namespace Go.Slp
open Go.Ab Go.Proofs Tryz Go.Hy
variable{nx:List Int}{i0:Int}
def H6{nx:List Int}{i0 s v:Int}(h0:0<=s)(hs:s∉xK nx i0 (xg nx i0)):∀j,j<=xg nx i0->xe (nx.set s.toNat v) i0 j=xe nx i0 j
 |0,_=>rfl
 |j+1,h=>by
  have ih:=H6 (v:=v) h0 hs j aw;have hm:xe nx i0 j∈xK nx i0 (xg nx i0):=gY.2 ⟨j,rG.2 aw,rfl⟩;have hb:=(FL (vr nx i0).2.2).2 _ hm;have hp:0<=xe nx i0 j:=by unfold lK at hb;simp at hb;omega
  show iR (nx.set s.toNat v) (xe (nx.set s.toNat v) i0 j)=iR nx (xe nx i0 j);rw[ih];exact PJ (λe=>hs (e ▸ hm)) h0 hp
def Sy{s v:Int}(h0:0<=s)(hs:s∉xK nx i0 (xg nx i0)){k:Nat}(hk:k<=xg nx i0):xK (nx.set s.toNat v) i0 k=xK nx i0 k:=by
 unfold xK;apply pQ
 intro j hj;exact H6 h0 hs j (by have:=rG.1 hj;omega)
def Rm{s v:Int}(h0:0<=s)(hs:s∉xK nx i0 (xg nx i0)){k:Nat}(hk:k<=xg nx i0):yU (nx.set s.toNat v) i0 k=yU nx i0 k:=by
 unfold yU;rw[Sy h0 hs hk,H6 h0 hs k hk];unfold lK;rw[pV]
def RU{s v:Int}(h0:0<=s)(hs:s∉xK nx i0 (xg nx i0)):xg (nx.set s.toNat v) i0=xg nx i0:=by
 obtain⟨c1,c2,c3⟩:=vr nx i0;exact K4 (by rw[Rm h0 hs (gG _)];exact c2) λj hj=>by rw[Rm h0 hs aw];exact c3 j hj
def SX{s v:Int}(h0:0<=s)(hs:s∉xK nx i0 (xg nx i0)):iI (nx.set s.toNat v) i0=iI nx i0:=by
 unfold iI;rw[RU h0 hs,H6 h0 hs _ (gG _)]
def ztp{e:En}{s v:Int}(hi:fV e=true)(h0:0<=s)(hs:s∉(qB e).1):qB {e with next:=e.next.set s.toNat v}=qB e/\fV {e with next:=e.next.set s.toNat v}=true:=by
 have ok:iI e.next (zA e)=true:=by
  unfold fV at hi;simp only[gH]at hi;exact hi.1.1.1
 have hs:s∉xK e.next (zA e) (xg e.next (zA e)):=by
  unfold qB at hs;rw[gz ok]at hs;exact hs
 refine⟨?_,?_⟩
 .show(if iI (e.next.set s.toNat v) (zA e)=true then (xK (e.next.set s.toNat v) (zA e) (xg (e.next.set s.toNat v) (zA e)),(0:Int)) else ([],11))=_;rw[SX h0 hs,RU h0 hs,Sy h0 hs (gG _)]
  rfl
 .show(iI (e.next.set s.toNat v) (zA e) && decide (1<=(e.next.set s.toNat v).length) && decide ((e.next.set s.toNat v).length<=4) && decide (0<=e.zj))=true;rw[SX h0 hs,pV];exact hi
end Go.Slp
namespace Go.Wor
open Go.Ab Go.Proofs Tryz Go.Gat Go.Nam Go.Hos Go.Con Go.Sna
open Go.Hy hiding encI
variable{w:Wor}{m:fD}{v:fI}{g:Gr}{e:En}{a:fN}
def Ih{α:Type}(f:α->Nat):∀(l:List α) (i:Nat) {x:α} (y:α),l[i]?=some x->((l.set i y).map f).sum+f x=(l.map f).sum+f y
 |[],i,x,y,h=>by simp at h
 |a::l,0,x,y,h=>by
  have e:a=x:=aq h
  subst e;simp only[sA,pP,rI];omega
 |a::l,i+1,x,y,h=>by
  have:=Ih f l i y tO;simp only[uo,pP,rI];omega
def J1(gw:qQ w)(ht:0<=m.zf/\m.zf<w.pins.length)(hd:m.done=false)(hv:m.version=0)(hc:m.zg=0)(he:m.end_=0)(ho:m.other=0)(hs:m.slot=0)(hl:m.listen= -1)(hi:m.i=0)(hk:m.k=0):∃v g e,qt w m v g e:=by
 have c:=gw.current;obtain⟨v,hv0⟩:∃v,w.ze[0]?=some v:=⟨_,gk aw⟩;have gv:=(gw.fW _ v hv0).1;have h0:0<v.zq.length:=aE
 obtain⟨g,e,hg,hee,l1,l2⟩:=wI gv h0;exact⟨v,g,e,qf.2 gw,ht,hd,aw,by rw[hv];exact hv0,aw,by rw[hc];exact hg,aw,by rw[he];exact hee,aw,aw,aw,aw,aw⟩
def yZ(w:Wor)(i j k:Int):Option En:=(w.ze[i.toNat]?).bind λv=>(v.zq[j.toNat]?).bind λg=>g.ends[k.toNat]?
abbrev mQ(w:Wor)(m:fD)(v:fI)(g:Gr)(e':En)(tk:Int):Wor:={w with ze:=w.ze.set m.version.toNat {v with zq:=v.zq.set m.zg.toNat {g with zx:=tk,ends:=g.ends.set m.end_.toNat e'} } }
def G9(hat:iB w m v g e)(e':En)(tk i j k:Int):yZ (mQ w m v g e' tk) i j k=if i.toNat=m.version.toNat/\j.toNat=m.zg.toNat/\k.toNat=m.end_.toNat then some e' else yZ w i j k:=by
 have s1:=(gh.1 hat.at_).1;have s2:=(gh.1 hat.fY).1;have s3:=(gh.1 hat.ib).1;unfold yZ mQ;dsimp only;by_cases h1:i.toNat=m.version.toNat
 .rw[h1,gD s1,hat.at_,gW,gW];dsimp only;by_cases h2:j.toNat=m.zg.toNat
  .rw[h2,gD s2,hat.fY,gW,gW];dsimp only;by_cases h3:k.toNat=m.end_.toNat
   .rw[h3,gD s3,gz ⟨rfl,rfl,rfl⟩]
   .rw[pj (λh=>h3 h.symm),gp (λh=>h3 h.2.2)]
  .rw[pj (λh=>h2 h.symm),gp (λh=>h2 h.2.1)]
 .rw[pj (λh=>h1 h.symm),gp (λh=>h1 h.1)]
def HT(hat:iB w m v g e):yZ w m.version m.zg m.end_=some e:=by
 unfold yZ;rw[hat.at_,gW,hat.fY,gW,hat.ib]
def nE(L:List fN)(i j k:Int):Nat:=L.countP λa=>decide (a.version=i/\a.zg=j/\a.end_=k)
def nL(L:List fN)(i:Int):Nat:=L.countP λa=>decide (a.listen=i)
def EI(a b:fN):Prop:=a.version=b.version/\a.zg=b.zg/\a.end_=b.end_/\a.slot=b.slot
structure Az(w:Wor)(a:fN):Prop where
 pos:0<=a.version/\0<=a.zg/\0<=a.end_/\0<=a.slot
 fP:0<=a.listen/\a.listen<w.zc.length
 at_:∃e,yZ w a.version a.zg a.end_=some e/\a.slot<e.next.length/\a.slot∉(Slp.qB e).1
structure ny(w:Wor)(L:List fN)(x:Int):Prop where
 oz:∀a∈L,Az w a
 diff:L.Pairwise λa b=>¬EI a b
 fP:∀(i:Nat) l,w.zc[i]?=some l->((nL L i+(if x=i then 1 else 0):Nat):Int)<=l.zj
 ends : ∀i j k e, 0 <= i -> 0 <= j -> 0 <= k -> yZ w i j k = some e -> (nE L i j k : Int) <= e.zj
def Az.np{e':En}{tk:Int}(f:Az w a)(hat:iB w m v g e)(hl:e'.next.length=e.next.length)(hf:a.slot∉(Slp.qB e).1->a.version=m.version->a.zg=m.zg->a.end_=m.end_->a.slot∉(Slp.qB e').1):Az (mQ w m v g e' tk) a:=by
 obtain⟨h1,h2,e0,h3,h4,h5⟩:=f;refine⟨h1,h2,?_⟩;rw[G9 hat];by_cases q:a.version.toNat=m.version.toNat/\a.zg.toNat=m.zg.toNat/\a.end_.toNat=m.end_.toNat
 .rw[gz q];have p1:=hat.v0;have p2:=hat.g0;have p3:=hat.e0;have q1:a.version=m.version:=by omega
  have q2:a.zg=m.zg:=aw
  have q3:a.end_=m.end_:=aw
  have:=HT hat;rw[<-q1,<-q2,<-q3,h3]at this;cases this
  exact⟨e',rfl,aw,hf h5 q1 q2 q3⟩
 .rw[gp q];exact⟨e0,h3,h4,h5⟩
def Az.other{w':Wor}(f:Az w a)(hv:w'.ze=w.ze)(hl:w'.zc.length=w.zc.length):Az w' a:=by
 obtain⟨h1,h2,h3⟩:=f;exact⟨h1,aw,by unfold yZ at h3|-;rw[hv];exact h3⟩
def ny.np{w:Wor}{m:fD}{v:fI}{g:Gr}{e e':En}{L:List fN}{x tk:Int}(o:ny w L x)(hat:iB w m v g e)(hl:e'.next.length=e.next.length)(hf:∀s,s∉(Slp.qB e).1->s∉(Slp.qB e').1)(ha:e.zj<=e'.zj):ny (mQ w m v g e' tk) L x:=by
 refine⟨λa h=>(o.oz a h).np hat hl λh1 _ _ _=>hf _ h1,o.diff,o.fP,λi j k e0 hi hj hk h=>?_⟩;rw[G9 hat]at h;split at h
 .rename_i q;cases h
  have p1:=hat.v0;have p2:=hat.g0;have p3:=hat.e0;have q1:i=m.version:=aw
  have q2:j=m.zg:=aw
  have q3:k=m.end_:=aw
  have:=o.ends _ _ _ e hat.v0 hat.g0 hat.e0 (HT hat);rw[q1,q2,q3];omega
 .exact o.ends i j k e0 hi hj hk h
def ny.other{w w':Wor}{L:List fN}{x:Int}(o:ny w L x)(hv:w'.ze=w.ze)(hl:w'.zc=w.zc):ny w' L x:=by
 refine⟨λa h=>(o.oz a h).other hv (by rw[hl]),o.diff,by rw[hl];exact o.fP,?_⟩;unfold yZ;rw[hv];exact o.ends
def ny.set{w:Wor}{L:List fN}{x x':Int}{i:Nat}{l:fT}{n:Int}(o:ny w L x)(hx:w.zc[i]?=some l)(hn:((nL L i+(if x'=i then 1 else 0):Nat):Int)<=n)(hi:∀j:Nat,j≠i->(x'=j->x=j)):ny {w with zc:=w.zc.set i {l with zj:=n} } L x':=by
 refine⟨λa h=>(o.oz a h).other V aj,o.diff,λj l' h=>?_,o.ends⟩;rcases xc h with⟨rfl,rfl,_⟩|⟨hne,h⟩
 .exact hn
 .have:=o.fP j l' h;have h3:=hi j (λh=>hne h.symm);by_cases q:x'=j
  .rw[gz q];rw[gz (h3 q)]at this;exact dG
  .rw[gp q];omega
inductive HI(L:List fN)(h:Nat):Wor->fD->Prop
 |out {w:Wor} {m:fD} (p:m.pc<=4\/(20<=m.pc/\m.answer.kind≠1/\(m.listen<0\/m.pc=23))) (o:ny w L (-1)) (e:Bz w=h):HI L h w m
 |Jp {w:Wor} {m:fD} (p:(5<=m.pc/\m.pc<=11)\/(20<=m.pc/\m.pc<=22/\m.answer.kind≠1)) (l:0<=m.listen) (o:ny w L m.listen) (e:Bz w=h):HI L h w m
 |M7 {w:Wor} {m:fD} (p:m.pc=12) (l:0<=m.listen) (o:ny w L m.listen) (e:Bz w=h+1) (f:Az w (Es m)) (d:∀b∈L,¬EI b (Es m)):HI L h w m
 |held {w:Wor} {m:fD} (p:20<=m.pc/\m.pc≠22) (k:m.answer.kind=1) (o:ny w (L++[m.answer]) (-1)) (e:Bz w=h+1):HI L h w m
section
variable {N K:Nat} {w:Wor} {m:fD} {v:fI} {g:Gr} {e:En} {L:List fN} {h:Nat} {r:Wor×fD×fG}
def HI.early(hi:HI L h w m)(p:m.pc<=4):ny w L (-1)/\Bz w=h:=by
 cases hi with
 |out q o e=>exact⟨o,e⟩
 |Jp q l o e=>omega
 |M7 q l o e f d=>omega
 |held q k o e=>omega
def HI.Ct(hi:HI L h w m)(p:5<=m.pc/\m.pc<=11):0<=m.listen/\ny w L m.listen/\Bz w=h:=by
 cases hi with
 |out q o e=>omega
 |Jp q l o e=>exact⟨l,o,e⟩
 |M7 q l o e f d=>omega
 |held q k o e=>omega
def zwu{s k:Int}(he:e.ok)(hv:Slp.fV e=true)(hh:Slp.zA e=s)(h0:0<=s)(hk:Slp.iR e.next s=k):(Slp.qB e).1=s::(Slp.qB (qK e (Slp.qY e.head k) e.zj)).1/\s∉(Slp.qB (qK e (Slp.qY e.head k) e.zj)).1:=by
 have hp:Slp.I4 e=(qK e (Slp.qY e.head k) e.zj,s,0):=by
  unfold Slp.I4;rw[gp (by simp[hv]),gp aw,hh,hk]
 obtain⟨_,_,_,_,_,_,_,_,q⟩:=Slp.zyS he hp;have q1:=rq Prod.fst q;refine⟨q1,?_⟩;have hd:=Slp.zuv e.next (Slp.zA e);have hf:=rq Prod.fst (Slp.Df (Slp.CG hv).1);simp only at hf;rw[<-hf,q1,List.nodup_cons]at hd;exact hd.1
end
end Go.Wor
namespace Go.Wor
open Go.Ab Go.Proofs Tryz Go.Gat Go.Nam Go.Hos Go.Con Go.Sna Go.Pla
open Go.Hy hiding encI
variable{e:En}
theorem Tm{w:Wor}{i j k:Int}(h:yZ w i j k=some e):∃v g,w.ze[i.toNat]?=some v/\v.zq[j.toNat]?=some g/\g.ends[k.toNat]?=some e:=by
 unfold yZ at h;obtain⟨v,h1,h⟩:=gQ.1 h;obtain⟨g,h2,h3⟩:=gQ.1 h;exact⟨v,g,h1,h2,h3⟩
def zt4{s:Int}(he:e.ok)(hv:Slp.fV e=true)(h0:0<=s)(h1:s<e.next.length)(hn:s∉(Slp.qB e).1):
  Slp.fV ⟨Slp.qY e.head s,e.next.set s.toNat (Slp.zA e),e.zj⟩=true/\(⟨Slp.qY e.head s,e.next.set s.toNat (Slp.zA e),e.zj⟩:En).ok/\(Slp.qB ⟨Slp.qY e.head s,e.next.set s.toNat (Slp.zA e),e.zj⟩).1=s::(Slp.qB e).1:=by
 have hp:Slp.IT e s=(⟨Slp.qY e.head s,e.next.set s.toNat (Slp.zA e),e.zj⟩,0):=by
  unfold Slp.IT;rw[gp (by simp[hv]),gp aw,gp (aq hn)]
 obtain⟨_,_,_,_,_,q1,q2,_,q3⟩:=Slp.zwB he hp;exact⟨q1,q2,rq Prod.fst q3⟩
end Go.Wor
namespace Go.Pla
open Go.Ab Go.Proofs Tryz Go.Hy
variable{given:List fN}{a:fN}
def KU{α:Type}{p q:α->Bool}:∀{l:List α},(∀x∈l,p x=q x)->l.findIdx? p=l.findIdx? q
 |[],_=>rfl
 |x::l,h=>by
  rw[rQ,rQ,h x (pX ..),KU λy hy=>h y (pL _ hy)]
def Sh(given:List fN)(a f:fN){n:Nat}(h:n<given.length):iS (given++[a]) f n=iS given f n:=by
 unfold iS;rw[gF h]
def PK(given:List fN)(a:fN):∀k,k<=given.length->jw (given++[a]) k=jw given k
 |0,_=>rfl
 |k+1,h=>by
  show BB (given++[a]) (jw (given++[a]) k) k=BB given (jw given k) k;have fE:=ky given k aw;rw[PK given a k aw];unfold BB;rw[gF aw];cases hx:given[k]? with
  |none=>rfl
  |some x=>
   dsimp only;rw[KU (p:=iS (given++[a]) x) (q:=iS given x) λn hn=>Sh given a x (by have:=fE n hn;omega)]
def Kt(given:List fN)(a:fN):qG (given++[a])=if a.kind=1 then qG given++[given.length] else match (qG given).findIdx? (iS given a) with
  |some k=>(qG given).eraseIdx k
  |none=>qG given:=by
 have fE:=ky given given.length (gG _);unfold qG;rw[pz,rP];show BB (given++[a]) (jw (given++[a]) given.length) given.length=_;rw[PK given a _ (gG _)];unfold BB;rw[gP (gG _),rR];show(if a.kind=1 then _ else match (jw given given.length).findIdx? (iS (given++[a]) a) with|some k=>_|none=>_)=_;rw[KU (p:=iS (given++[a]) a) (q:=iS given a) λn hn=>Sh given a a (fE n hn)]
def wZ(given L:List fN):Prop:=(qG given).map (λi=>given[i]?)=L.map some
def wZ.len{L:List fN}(h:wZ given L):(qG given).length=L.length:=by
 have:=rq List.length h;simpa using this
theorem zyA:wZ [] []:=rfl
def KO(given:List fN)(a:fN)(l:List Nat)(h:∀n∈l,n<given.length):l.map (λi=>(given++[a])[i]?)=l.map λi=>given[i]?:=
 pQ λn hn=>gF (h n hn)
def wZ.UF{L:List fN}(h:wZ given L)(ha:a.kind=1):wZ (given++[a]) (L++[a]):=by
 have fE:∀n∈qG given,n<given.length:=ky given given.length (gG _);unfold wZ at h|-;rw[Kt,gz ha,pR,KO given a _ fE,h,pR];simp
def wZ.other{L:List fN}(h:wZ given L)(ha:a.kind≠1)(h6:a.kind≠6):wZ (given++[a]) L:=by
 have fE:∀n∈qG given,n<given.length:=ky given given.length (gG _)
 have e:(qG given).findIdx? (iS given a)=none:=by
  rw[gV];intro n hn;unfold iS;split
  .unfold od;rw[rz h6]
   rfl
  .rfl
 unfold wZ at h|-;rw[Kt,gp ha,e];dsimp only;rw[KO given a _ fE,h]
def wZ.head{L:List fN}{b:fN}(h:wZ given (b::L)):∃i l,qG given=i::l/\given[i]?=some b/\l.map (λi=>given[i]?)=L.map some:=by
 unfold wZ at h;cases ho:qG given with
 |nil=>rw[ho]at h;cases h
 |cons i l=>
  rw[ho,pP,pP]at h;obtain⟨h1,h2⟩:=List.cons.inj h;exact⟨i,l,rfl,h1,h2⟩
end Go.Pla
namespace Go.Beg
open Go.Ab Go.Proofs Tryz Go.Hy Go.Pla
end Go.Beg
namespace Go.Wor
open Go.Ab Go.Proofs Tryz Go.Gat Go.Nam Go.Hos Go.Con Go.Sna Go.Pla
open Go.Hy hiding encI
end Go.Wor
