import Derived.Test.YtamgiodaflkbhaaGreatTK
import Derived.Test.YtamgiodaflkbhaaGreatTZ
set_option linter.all false
set_option maxRecDepth 100000
set_option maxHeartbeats 4000000
namespace Go.Wor
open Go.Ab Go.Proofs Tryz Go.Gat Go.Nam Go.Hos Go.Con Go.Sna
open Go.Hy hiding encI
variable{α:Type}
def hE(e:En):Nat:=e.next.length-(Slp.xp e).1.length
def hG(g:Gr):Nat:=(g.ends.map hE).sum
def hV(v:eX):Nat:=(v.zg.map hG).sum
def od(w:Wor):Nat:=(w.zd.map hV).sum
def FY(f:α->Nat)(l:List α){k:Nat}(h:k<l.length):((l.take (k+1)).map f).sum=((l.take k).map f).sum+f l[k]:=by
 rw[pP h,pZ,List.sum_append];simp
def Fo(f:α->Nat)(l:List α):∀k,((l.take k).map f).sum<=(l.map f).sum:=λk=>by
 have h:(l.map f).sum=((l.take k).map f).sum+((l.drop k).map f).sum:=by
  rw[<-List.sum_append,<-pZ,sZ]
 omega
structure Ms(w:Wor):Prop where
 lens:w.zd.length<4000000000000000000
 lg:∀v∈w.zd,v.zg.length<4000000000000000000
 le:∀v∈w.zd,∀g∈v.zg,g.ends.length<4000000000000000000
 ok:∀v∈w.zd,∀g∈v.zg,∀e∈g.ends,e.ok/\Slp.fm e=true/\(Slp.xp e).1.length<=e.next.length
 sum:od w<4000000000000000000
def PY(w:Wor)(hw:Ms w):th 34 [] [Cw w] (I (od w:Nat)) []:=by
 have m1:(w.zd.map zt).length=w.zd.length:=gO ..;have b1:=hw.lens;refine ab func34 ?_;rw[m1];refine zH.seq w.zd.length (λk=>(.za::.ref 0 [] 8 0 0::I 0::I (((w.zd.take k).map hV).sum:Nat)::mK (.za::(lV w.zd)::I w.zd.length::I k::mK (mK (mK (mK ([.za,.za,.za,.za]))))))) (λk=>[oW w]) (λk=>True) ?_ trivial (λk hk _=>?_) (λ_=>?_)
 .exact cC
 .obtain⟨v,hx⟩:∃v,v=w.zd[k]:=⟨_,rfl⟩;have hv:v∈w.zd:=by rw[hx];exact gz
  have hg:(w.zd.map zt)[k]?=some (zt v):=by rw[gM,gL hk,hx];rfl
  have m2:(v.zg.map zy).length=v.zg.length:=gO ..;have sk:=FY hV w.zd hk;rw[<-hx]at sk;have sl:=Fo hV w.zd (k+1);have sw:(w.zd.map hV).sum<4000000000000000000:=hw.sum;have bg:=hw.lg v hv;conv=>whnf
  refine zay ?_
  rw[m2];refine zH.seq v.zg.length (λj=>(.za::.ref 0 [] 8 0 0::I 0::I (((w.zd.take k).map hV).sum+((v.zg.take j).map hG).sum:Nat)::.za::.ref 1 [] 5 0 0::.za::.za::.za::.za::.za::.za::.za::(lV w.zd)::I w.zd.length::I k::.za::.za::.za::.za::(lG v.zg)::I v.zg.length::I j::mK (mK (mK ([.za,.za,.za,.za,.za]))))) (λj=>[oW w,⟨1,106,5,[zt v],0⟩]) (λk=>True) ?_ trivial (λj hj _=>?_) (λ_=>?_)
  .exact cC
  .obtain⟨g,hxg⟩:∃g,g=v.zg[j]:=⟨_,rfl⟩;have hgm:g∈v.zg:=by rw[hxg];exact pH hj
   have hgg:(v.zg.map zy)[j]?=some (zy g):=by rw[gM,gL hj,hxg];rfl
   have m3:(g.ends.map zu).length=g.ends.length:=gO ..;have sj:=FY hG v.zg hj;rw[<-hxg]at sj;have sjl:=Fo hG v.zg (j+1);have sjv:(v.zg.map hG).sum=hV v:=rfl;have be:=hw.le v hv g hgm;conv=>whnf
   refine uF ?_;refine za7 ?_
   rw[m3];refine zH.seq g.ends.length (λn=>(.za::.ref 0 [] 8 0 0::I 0::I (((w.zd.take k).map hV).sum+((v.zg.take j).map hG).sum+((g.ends.take n).map hE).sum:Nat)::.za::.ref 1 [] 5 0 0::.za::.ref 2 [] 2 0 0::.za::.za::.za::.za::.za::(lV w.zd)::I w.zd.length::I k::.za::.za::.za::.za::(lG v.zg)::I v.zg.length::I j::.za::.za::.za::.za::(lE g.ends)::I g.ends.length::I n::mK (mK ([.za,.za,.za,.za,.za,.za])))) (λn=>[oW w,⟨1,106,5,[zt v],0⟩,⟨1,111,2,[zy g],0⟩]) (λk=>True) ?_ trivial (λn hn _=>?_) (λ_=>?_)
   .exact cC
   .obtain⟨e,hxe⟩:∃e,e=g.ends[n]:=⟨_,rfl⟩;have hem:e∈g.ends:=by rw[hxe];exact pH hn
    have hge:(g.ends.map zu)[n]?=some (zu e):=by rw[gM,gL hn,hxe];rfl
    obtain⟨eo,ei,el⟩:=hw.ok v hv g hgm e hem;have sn:=FY hE g.ends hn;rw[<-hxe]at sn;have snl:=Fo hE g.ends (n+1);have sng:(g.ends.map hE).sum=hG g:=rfl;have m4:(e.next.map Go.Hy.encI).length=e.next.length:=gO ..;have m5:((Slp.xp e).1.map Go.Hy.encI).length=(Slp.xp e).1.length:=gO ..;have en:=eo.2.1.2;conv=>whnf
    refine uF ?_;(refine te hge ?_)
    refine af (Slp.Dq e eo) ?_;refine af (Slp.Be e eo) ?_;rw[ei];refine td ?_
    rw[m4,m5]
    have q1:IntKind.i64.wrap ((e.next.length:Int)-((Slp.xp e).1.length:Int))=((hE e:Nat):Int):=by
     rw[jB an an];unfold hE;omega
    have q2:IntKind.i64.wrap (((((w.zd.take k).map hV).sum+((v.zg.take j).map hG).sum+((g.ends.take n).map hE).sum:Nat):Int)+((hE e:Nat):Int))=(((((w.zd.take k).map hV).sum+((v.zg.take j).map hG).sum+((g.ends.take (n+1)).map hE).sum:Nat)):Int):=by
     rw[jB an an];omega
    rw[q1,q2,zm an];refine zai ?_;exact cE 3
   .have e1:(g.ends.take g.ends.length).map hE=g.ends.map hE:=by rw[px]
    have e2:(((v.zg.take j).map hG).sum+(g.ends.map hE).sum)=((v.zg.take (j+1)).map hG).sum:=by rw[sj];rfl
    refine uD ?_;rw[e1,sf,e2,zm an];refine zai ?_;exact cE 2
  .have e1:(v.zg.take v.zg.length).map hG=v.zg.map hG:=by rw[px]
   have e2:(((w.zd.take k).map hV).sum+(v.zg.map hG).sum)=((w.zd.take (k+1)).map hV).sum:=by rw[sk];rfl
   refine uD ?_;rw[e1,e2,zm an];refine zai ?_;exact cE 1
 .have e1:(w.zd.take w.zd.length).map hV=w.zd.map hV:=by rw[px]
  refine uD ?_;rw[e1];exact uI
def Vu(e:En):(Slp.xp e).1.length<=e.next.length:=by
 have h1:=(Slp.Cq e.next (Slp.zR e)).1;unfold Slp.xp;split
 .show(Slp.vy _ _ _).length<=_;unfold Slp.vy;simp only[gO,List.length_range];omega
 .simp
def DA{α:Type}(f:α->Nat)(b:Nat):∀(l:List α),(∀x∈l,f x<=b)->(l.map f).sum<=l.length*b
 |[],_=>by simp
 |x::l,h=>by
  have:=DA f b l λy hy=>h y (rE _ hy)
  have:=h x (rM ..);rw[sM,List.sum_cons,rK,rp];omega
def Vy{N:Nat}{w:Wor}(h:jX w)(t:fG N w)(hN:N<=100000000):Ms w:=by
 have lZ:∀v∈w.zd,v.zg.length<=4/\∀g∈v.zg,g.ends.length<=4/\1<=g.ends.length/\∀e∈g.ends,Slp.fm e=true/\e.next.length<=4/\1<=e.next.length:=λv hv=>by
  obtain⟨i,hi⟩:=pA.1 hv;exact(h.il i v hi).1.lZ
 refine⟨by have:=t.iO;omega,λv hv=>by have:=(lZ v hv).1;omega,λv hv g hg=>by have:=((lZ v hv).2 g hg).1;omega,λv hv g hg e he=>⟨((t.ij v hv).2 g hg).2 e he,(((lZ v hv).2 g hg).2.2 e he).1,Vu e⟩,?_⟩
 have q1:∀v∈w.zd,∀g∈v.zg,hG g<=16:=λv hv g hg=>by
  have f:=(lZ v hv).2 g hg;have:=DA hE 4 g.ends λe he=>by have:=(f.2.2 e he).2.1;unfold hE;omega
  have:=f.1;unfold hG;omega
 have q2:∀v∈w.zd,hV v<=64:=λv hv=>by
  have:=DA hG 16 v.zg λg hg=>q1 v hv g hg
  have:=(lZ v hv).1;unfold hV;omega
 have:=DA hV 64 w.zd q2;have:=t.iO;unfold od;omega
end Go.Wor
namespace Go.Slp
open Go.Ab Go.Proofs Tryz Go.Hy
end Go.Slp
namespace Go.Wor
open Go.Ab Go.Proofs Tryz Go.Gat Go.Nam Go.Hos Go.Con Go.Sna
open Go.Hy hiding encI
variable{w:Wor}{m:eQ}{v:eX}{g:Gr}{e:En}{a:fe}
def oL(w:Wor)(i j k:Int):Option En:=(w.zd[i.toNat]?).bind λv=>(v.zg[j.toNat]?).bind λg=>g.ends[k.toNat]?
abbrev Dn(w:Wor)(m:eQ)(v:eX)(g:Gr)(e':En)(tk:Int):Wor:={w with zd:=w.zd.set m.version.toNat {v with zg:=v.zg.set m.zp.toNat {g with zC:=tk,ends:=g.ends.set m.end_.toNat e'} } }
def Jw(hat:fF w m v g e)(e':En)(tk i j k:Int):oL (Dn w m v g e' tk) i j k=if i.toNat=m.version.toNat/\j.toNat=m.zp.toNat/\k.toNat=m.end_.toNat then some e' else oL w i j k:=by
 have s1:=(gN.1 hat.at_).1;have s2:=(gN.1 hat.fV).1;have s3:=(gN.1 hat.ig).1;unfold oL Dn;dsimp only;by_cases h1:i.toNat=m.version.toNat
 .rw[h1,gX s1,hat.at_,pJ,pJ];dsimp only;by_cases h2:j.toNat=m.zp.toNat
  .rw[h2,gX s2,hat.fV,pJ,pJ];dsimp only;by_cases h3:k.toNat=m.end_.toNat
   .rw[h3,gX s3,gS ⟨rfl,rfl,rfl⟩]
   .rw[pT (λh=>h3 h.symm),gP (λh=>h3 h.2.2)]
  .rw[pT (λh=>h2 h.symm),gP (λh=>h2 h.2.1)]
 .rw[pT (λh=>h1 h.symm),gP (λh=>h1 h.1)]
def K1(hat:fF w m v g e):oL w m.version m.zp m.end_=some e:=by
 unfold oL;rw[hat.at_,pJ,hat.fV,pJ,hat.ig]
def nE(L:List fe)(i j k:Int):Nat:=L.countP λa=>decide (a.version=i/\a.zp=j/\a.end_=k)
def nL(L:List fe)(i:Int):Nat:=L.countP λa=>decide (a.listen=i)
def Mp(a b:fe):Prop:=a.version=b.version/\a.zp=b.zp/\a.end_=b.end_/\a.slot=b.slot
structure Av(w:Wor)(a:fe):Prop where
 pos:0<=a.version/\0<=a.zp/\0<=a.end_/\0<=a.slot
 fT:0<=a.listen/\a.listen<w.zc.length
 at_:∃e,oL w a.version a.zp a.end_=some e/\a.slot<e.next.length/\a.slot∉(Slp.xp e).1
structure lu(w:Wor)(L:List fe)(x:Int):Prop where
 Hx:∀a∈L,Av w a
 diff:L.Pairwise λa b=>¬Mp a b
 fT:∀(i:Nat) l,w.zc[i]?=some l->((nL L i+(if x=i then 1 else 0):Nat):Int)<=l.zo
 ends : ∀i j k e, 0 <= i -> 0 <= j -> 0 <= k -> oL w i j k = some e -> (nE L i j k : Int) <= e.zo
def Av.ox{e':En}{tk:Int}(f:Av w a)(hat:fF w m v g e)(hl:e'.next.length=e.next.length)(hf:a.slot∉(Slp.xp e).1->a.version=m.version->a.zp=m.zp->a.end_=m.end_->a.slot∉(Slp.xp e').1):Av (Dn w m v g e' tk) a:=by
 obtain⟨h1,h2,e0,h3,h4,h5⟩:=f;refine⟨h1,h2,?_⟩;rw[Jw hat];by_cases q:a.version.toNat=m.version.toNat/\a.zp.toNat=m.zp.toNat/\a.end_.toNat=m.end_.toNat
 .rw[gS q];have p1:=hat.v0;have p2:=hat.g0;have p3:=hat.e0;have q1:a.version=m.version:=by omega
  have q2:a.zp=m.zp:=an
  have q3:a.end_=m.end_:=an
  have:=K1 hat;rw[<-q1,<-q2,<-q3,h3]at this;cases this
  exact⟨e',rfl,an,hf h5 q1 q2 q3⟩
 .rw[gP q];exact⟨e0,h3,h4,h5⟩
def Av.other{w':Wor}(f:Av w a)(hv:w'.zd=w.zd)(hl:w'.zc.length=w.zc.length):Av w' a:=by
 obtain⟨h1,h2,h3⟩:=f;exact⟨h1,an,by unfold oL at h3|-;rw[hv];exact h3⟩
def lu.ox{w:Wor}{m:eQ}{v:eX}{g:Gr}{e e':En}{L:List fe}{x tk:Int}(o:lu w L x)(hat:fF w m v g e)(hl:e'.next.length=e.next.length)(hf:∀s,s∉(Slp.xp e).1->s∉(Slp.xp e').1)(ha:e.zo<=e'.zo):lu (Dn w m v g e' tk) L x:=by
 refine⟨λa h=>(o.Hx a h).ox hat hl λh1 _ _ _=>hf _ h1,o.diff,o.fT,λi j k e0 hi hj hk h=>?_⟩;rw[Jw hat]at h;split at h
 .rename_i q;cases h
  have p1:=hat.v0;have p2:=hat.g0;have p3:=hat.e0;have q1:i=m.version:=an
  have q2:j=m.zp:=an
  have q3:k=m.end_:=an
  have:=o.ends _ _ _ e hat.v0 hat.g0 hat.e0 (K1 hat);rw[q1,q2,q3];omega
 .exact o.ends i j k e0 hi hj hk h
def lu.other{w w':Wor}{L:List fe}{x:Int}(o:lu w L x)(hv:w'.zd=w.zd)(hl:w'.zc=w.zc):lu w' L x:=by
 refine⟨λa h=>(o.Hx a h).other hv (by rw[hl]),o.diff,by rw[hl];exact o.fT,?_⟩;unfold oL;rw[hv];exact o.ends
def lu.set{w:Wor}{L:List fe}{x x':Int}{i:Nat}{l:fj}{n:Int}(o:lu w L x)(hx:w.zc[i]?=some l)(hn:((nL L i+(if x'=i then 1 else 0):Nat):Int)<=n)(hi:∀j:Nat,j≠i->(x'=j->x=j)):lu {w with zc:=w.zc.set i {l with zo:=n} } L x':=by
 refine⟨λa h=>(o.Hx a h).other V ah,o.diff,λj l' h=>?_,o.ends⟩;rcases DU h with⟨rfl,rfl,_⟩|⟨hne,h⟩
 .exact hn
 .have:=o.fT j l' h;have h3:=hi j (λh=>hne h.symm);by_cases q:x'=j
  .rw[gS q];rw[gS (h3 q)]at this;exact dW
  .rw[gP q];omega
inductive HI(L:List fe)(h:Nat):Wor->eQ->Prop
 |out {w:Wor} {m:eQ} (p:m.pc<=4\/(20<=m.pc/\m.answer.kind≠1/\(m.listen<0\/m.pc=23))) (o:lu w L (-1)) (e:od w=h):HI L h w m
 |EN {w:Wor} {m:eQ} (p:(5<=m.pc/\m.pc<=11)\/(20<=m.pc/\m.pc<=22/\m.answer.kind≠1)) (l:0<=m.listen) (o:lu w L m.listen) (e:od w=h):HI L h w m
 |HN {w:Wor} {m:eQ} (p:m.pc=12) (l:0<=m.listen) (o:lu w L m.listen) (e:od w=h+1) (f:Av w (CB m)) (d:∀b∈L,¬Mp b (CB m)):HI L h w m
 |held {w:Wor} {m:eQ} (p:20<=m.pc/\m.pc≠22) (k:m.answer.kind=1) (o:lu w (L++[m.answer]) (-1)) (e:od w=h+1):HI L h w m
section
variable {N K:Nat} {w:Wor} {m:eQ} {v:eX} {g:Gr} {e:En} {L:List fe} {h:Nat} {r:Wor×eQ×e7}
def HI.early(hi:HI L h w m)(p:m.pc<=4):lu w L (-1)/\od w=h:=by
 cases hi with
 |out q o e=>exact⟨o,e⟩
 |EN q l o e=>omega
 |HN q l o e f d=>omega
 |held q k o e=>omega
def HI.MY(hi:HI L h w m)(p:5<=m.pc/\m.pc<=11):0<=m.listen/\lu w L m.listen/\od w=h:=by
 cases hi with
 |out q o e=>omega
 |EN q l o e=>exact⟨l,o,e⟩
 |HN q l o e f d=>omega
 |held q k o e=>omega
end
end Go.Wor
namespace Go.Wor
open Go.Ab Go.Proofs Tryz Go.Gat Go.Nam Go.Hos Go.Con Go.Sna Go.Pla
open Go.Hy hiding encI
end Go.Wor
namespace Go.Pla
open Go.Ab Go.Proofs Tryz Go.Hy
def FO{α:Type}{p q:α->Bool}:∀{l:List α},(∀x∈l,p x=q x)->l.findIdx? p=l.findIdx? q
 |[],_=>rfl
 |x::l,h=>by
  rw[rY,rY,h x (rM ..),FO λy hy=>h y (rE _ hy)]
def Lz(given:List fe)(a f:fe){n:Nat}(h:n<given.length):fx (given++[a]) f n=fx given f n:=by
 unfold fx;rw[gW h]
def Jr(given:List fe)(a:fe):∀k,k<=given.length->qH (given++[a]) k=qH given k
 |0,_=>rfl
 |k+1,h=>by
  show og (given++[a]) (qH (given++[a]) k) k=og given (qH given k) k;have eP:=wy given k an;rw[Jr given a k an];unfold og;rw[gW an];cases hx:given[k]? with
  |none=>rfl
  |some x=>
   dsimp only;rw[FO (p:=fx (given++[a]) x) (q:=fx given x) λn hn=>Lz given a x (by have:=eP n hn;omega)]
def Tg(given:List fe)(a:fe):qZ (given++[a])=if a.kind=1 then qZ given++[given.length] else match (qZ given).findIdx? (fx given a) with
  |some k=>(qZ given).eraseIdx k
  |none=>qZ given:=by
 have eP:=wy given given.length (pj _);unfold qZ;rw[pW,rW];show og (given++[a]) (qH (given++[a]) given.length) given.length=_;rw[Jr given a _ (pj _)];unfold og;rw[pq (pj _),r7];show(if a.kind=1 then _ else match (qH given given.length).findIdx? (fx (given++[a]) a) with|some k=>_|none=>_)=_;rw[FO (p:=fx (given++[a]) a) (q:=fx given a) λn hn=>Lz given a a (eP n hn)]
def oY(given L:List fe):Prop:=(qZ given).map (λi=>given[i]?)=L.map some
def oY.len{given L:List fe}(h:oY given L):(qZ given).length=L.length:=by
 have:=r6 List.length h;simpa using this
def Vo(given:List fe)(a:fe)(l:List Nat)(h:∀n∈l,n<given.length):l.map (λi=>(given++[a])[i]?)=l.map λi=>given[i]?:=
 r9 λn hn=>gW (h n hn)
def oY.other{given L:List fe}(h:oY given L){a:fe}(ha:a.kind≠1)(h6:a.kind≠6):oY (given++[a]) L:=by
 have eP:∀n∈qZ given,n<given.length:=wy given given.length (pj _)
 have e:(qZ given).findIdx? (fx given a)=none:=by
  rw[pD];intro n hn;unfold fx;split
  .unfold y2;rw[rA h6]
   rfl
  .rfl
 unfold oY at h|-;rw[Tg,gP ha,e];dsimp only;rw[Vo given a _ eP,h]
def oY.head{given L:List fe}{b:fe}(h:oY given (b::L)):∃i l,qZ given=i::l/\given[i]?=some b/\l.map (λi=>given[i]?)=L.map some:=by
 unfold oY at h;cases ho:qZ given with
 |nil=>rw[ho]at h;cases h
 |cons i l=>
  rw[ho,sM,sM]at h;obtain⟨h1,h2⟩:=List.cons.inj h;exact⟨i,l,rfl,h1,h2⟩
end Go.Pla
namespace Go.Beg
open Go.Ab Go.Proofs Tryz Go.Hy Go.Pla
end Go.Beg
namespace Go.Wor
open Go.Ab Go.Proofs Tryz Go.Gat Go.Nam Go.Hos Go.Con Go.Sna Go.Pla
open Go.Hy hiding encI
end Go.Wor
