import Derived.Test.YtoeaoedlpmohoaaGreatTK
import Derived.Test.YtoeaoedlpmohoaaGreatTZ
set_option linter.all false
set_option maxRecDepth 100000
set_option maxHeartbeats 4000000
namespace Go.Wor
open Go.Ab Go.Proofs Tryz Go.Gat Go.Nam Go.Hos Go.Con Go.Sna
open Go.Hy hiding encI
def hE(e:En):Nat:=e.next.length-(Slp.qh e).1.length
def hG(g:Gr):Nat:=(g.ends.map hE).sum
def hV(v:fp):Nat:=(v.zo.map hG).sum
def nR(w:Wor):Nat:=(w.zd.map hV).sum
def FW{α:Type}(f:α->Nat)(l:List α){k:Nat}(h:k<l.length):((l.take (k+1)).map f).sum=((l.take k).map f).sum+f l[k]:=by
 rw[pS h,pE,sF];simp
def HD{α:Type}(f:α->Nat)(l:List α):∀k,((l.take k).map f).sum<=(l.map f).sum:=λk=>by
 have h:(l.map f).sum=((l.take k).map f).sum+((l.drop k).map f).sum:=by
  rw[<-sF,<-pE,rX]
 omega
structure PC(w:Wor):Prop where
 lens:w.zd.length<4000000000000000000
 lg:∀v∈w.zd,v.zo.length<4000000000000000000
 le:∀v∈w.zd,∀g∈v.zo,g.ends.length<4000000000000000000
 ok:∀v∈w.zd,∀g∈v.zo,∀e∈g.ends,e.ok/\Slp.fE e=true/\(Slp.qh e).1.length<=e.next.length
 sum:nR w<4000000000000000000
def LU(w:Wor)(hw:PC w):tj 26 [] [Cw w] (I (nR w:Nat)) []:=by
 have m1:(w.zd.map zH).length=w.zd.length:=gu ..;have b1:=hw.lens;refine ab func26 ?_;rw[m1];refine qe.seq w.zd.length (λk=>(.za::.ref 0 [] 8 0 0::I 0::I (((w.zd.take k).map hV).sum:Nat)::tZ (.za::(lV w.zd)::I w.zd.length::I k::tZ (tZ (tZ (tZ ([.za,.za,.za,.za]))))))) (λk=>[oW w]) (λk=>True) ?_ trivial (λk hk _=>?_) (λ_=>?_)
 ·exact cC
 ·obtain⟨v,hx⟩:∃v,v=w.zd[k]:=⟨_,rfl⟩;have hv:v∈w.zd:=by rw[hx];exact gU hk
  have hg:(w.zd.map zH)[k]?=some (zH v):=by rw[gf,dX hk,hx];rfl
  have m2:(v.zo.map zE).length=v.zo.length:=gu ..;have sk:=FW hV w.zd hk;rw[<-hx]at sk;have sl:=HD hV w.zd (k+1);have sw:(w.zd.map hV).sum<4000000000000000000:=hw.sum;have bg:=hw.lg v hv;conv=>whnf
  refine uF ?_;(refine tc hg ?_)
  rw[m2];refine qe.seq v.zo.length (λj=>(.za::.ref 0 [] 8 0 0::I 0::I (((w.zd.take k).map hV).sum+((v.zo.take j).map hG).sum:Nat)::.za::.ref 1 [] 5 0 0::.za::.za::.za::.za::.za::.za::.za::(lV w.zd)::I w.zd.length::I k::.za::.za::.za::.za::(lG v.zo)::I v.zo.length::I j::tZ (tZ (tZ ([.za,.za,.za,.za,.za]))))) (λj=>[oW w,⟨1,69,5,[zH v],0⟩]) (λk=>True) ?_ trivial (λj hj _=>?_) (λ_=>?_)
  ·exact cC
  ·obtain⟨g,hxg⟩:∃g,g=v.zo[j]:=⟨_,rfl⟩;have hgm:g∈v.zo:=by rw[hxg];exact gU hj
   have hgg:(v.zo.map zE)[j]?=some (zE g):=by rw[gf,dX hj,hxg];rfl
   have m3:(g.ends.map zA).length=g.ends.length:=gu ..;have sj:=FW hG v.zo hj;rw[<-hxg]at sj;have sjl:=HD hG v.zo (j+1);have sjv:(v.zo.map hG).sum=hV v:=rfl;have be:=hw.le v hv g hgm;conv=>whnf
   refine uF ?_;(refine tc hgg ?_)
   rw[m3];refine qe.seq g.ends.length (λn=>(.za::.ref 0 [] 8 0 0::I 0::I (((w.zd.take k).map hV).sum+((v.zo.take j).map hG).sum+((g.ends.take n).map hE).sum:Nat)::.za::.ref 1 [] 5 0 0::.za::.ref 2 [] 2 0 0::.za::.za::.za::.za::.za::(lV w.zd)::I w.zd.length::I k::.za::.za::.za::.za::(lG v.zo)::I v.zo.length::I j::.za::.za::.za::.za::(lE g.ends)::I g.ends.length::I n::tZ (tZ ([.za,.za,.za,.za,.za,.za])))) (λn=>[oW w,⟨1,69,5,[zH v],0⟩,⟨1,72,2,[zE g],0⟩]) (λk=>True) ?_ trivial (λn hn _=>?_) (λ_=>?_)
   ·exact cC
   ·obtain⟨e,hxe⟩:∃e,e=g.ends[n]:=⟨_,rfl⟩;have hem:e∈g.ends:=by rw[hxe];exact gU hn
    have hge:(g.ends.map zA)[n]?=some (zA e):=by rw[gf,dX hn,hxe];rfl
    obtain⟨eo,ei,el⟩:=hw.ok v hv g hgm e hem;have sn:=FW hE g.ends hn;rw[<-hxe]at sn;have snl:=HD hE g.ends (n+1);have sng:(g.ends.map hE).sum=hG g:=rfl;have m4:(e.next.map Go.Hy.encI).length=e.next.length:=gu ..;have m5:((Slp.qh e).1.map Go.Hy.encI).length=(Slp.qh e).1.length:=gu ..;have en:=eo.2.1.2;conv=>whnf
    refine uF ?_;(refine tc hge ?_)
    refine ah (Slp.w6 e eo) ?_;refine ah (Slp.CS e eo) ?_;rw[ei];refine hZ ?_
    rw[m4,m5]
    have q1:IntKind.i64.wrap ((e.next.length:Int)-((Slp.qh e).1.length:Int))=((hE e:Nat):Int):=by
     rw[jx aw aw];unfold hE;omega
    have q2:IntKind.i64.wrap (((((w.zd.take k).map hV).sum+((v.zo.take j).map hG).sum+((g.ends.take n).map hE).sum:Nat):Int)+((hE e:Nat):Int))=(((((w.zd.take k).map hV).sum+((v.zo.take j).map hG).sum+((g.ends.take (n+1)).map hE).sum:Nat)):Int):=by
     rw[jx aw aw];omega
    rw[q1,q2,zw aw];refine .inl ⟨rfl,?_,trivial⟩;exact cE 3
   ·have e1:(g.ends.take g.ends.length).map hE=g.ends.map hE:=by rw[gZ]
    have e2:(((v.zo.take j).map hG).sum+(g.ends.map hE).sum)=((v.zo.take (j+1)).map hG).sum:=by rw[sj];rfl
    refine uD ?_;rw[e1,rV,e2,zw aw];refine .inl ⟨rfl,?_,trivial⟩;exact cE 2
  ·have e1:(v.zo.take v.zo.length).map hG=v.zo.map hG:=by rw[gZ]
   have e2:(((w.zd.take k).map hV).sum+(v.zo.map hG).sum)=((w.zd.take (k+1)).map hV).sum:=by rw[sk];rfl
   refine uD ?_;rw[e1,e2,zw aw];refine .inl ⟨rfl,?_,trivial⟩;exact cE 1
 ·have e1:(w.zd.take w.zd.length).map hV=w.zd.map hV:=by rw[gZ]
  refine uD ?_;rw[e1];exact uI
def YW(e:En):(Slp.qh e).1.length<=e.next.length:=by
 have h1:=(Slp.yK e.next (Slp.zB e)).1;unfold Slp.qh;split
 ·show(Slp.xr _ _ _).length<=_;unfold Slp.xr;simp only[gu,uq];omega
 ·simp
def FA{α:Type}(f:α->Nat)(b:Nat):∀(l:List α),(∀x∈l,f x<=b)->(l.map f).sum<=l.length*b
 |[],_=>by simp
 |x::l,h=>by
  have:=FA f b l λy hy=>h y (pP _ hy)
  have:=h x (pT ..);rw[pN,ry,rk,rb];omega
def Jh{N:Nat}{w:Wor}(h:jK w)(t:mw N w)(hN:N<=100000000):PC w:=by
 have lD:∀v∈w.zd,v.zo.length<=4/\∀g∈v.zo,g.ends.length<=4/\1<=g.ends.length/\∀e∈g.ends,Slp.fE e=true/\e.next.length<=4/\1<=e.next.length:=λv hv=>by
  obtain⟨i,hi⟩:=gE.1 hv;exact(h.fM i v hi).1.lD
 refine⟨by have:=t.iW;omega,λv hv=>by have:=(lD v hv).1;omega,λv hv g hg=>by have:=((lD v hv).2 g hg).1;omega,λv hv g hg e he=>⟨((t.lq v hv).2 g hg).2 e he,(((lD v hv).2 g hg).2.2 e he).1,YW e⟩,?_⟩
 have q1:∀v∈w.zd,∀g∈v.zo,hG g<=16:=λv hv g hg=>by
  have f:=(lD v hv).2 g hg;have:=FA hE 4 g.ends λe he=>by have:=(f.2.2 e he).2.1;unfold hE;omega
  have:=f.1;unfold hG;omega
 have q2:∀v∈w.zd,hV v<=64:=λv hv=>by
  have:=FA hG 16 v.zo λg hg=>q1 v hv g hg
  have:=(lD v hv).1;unfold hV;omega
 have:=FA hV 64 w.zd q2;have:=t.iW;unfold nR;omega
end Go.Wor
namespace Go.Slp
open Go.Ab Go.Proofs Tryz Go.Hy
def F7{nx:List Int}{i0 s v:Int}(h0:0<=s)(hs:s∉xr nx i0 (j8 nx i0)):∀j,j<=j8 nx i0->j6 (nx.set s.toNat v) i0 j=j6 nx i0 j
 |0,_=>rfl
 |j+1,h=>by
  have ih:=F7 (v:=v) h0 hs j aw;have hm:j6 nx i0 j∈xr nx i0 (j8 nx i0):=gR.2 ⟨j,p7.2 aw,rfl⟩;have hb:=(DZ (yK nx i0).2.2).2 _ hm;have hp:0<=j6 nx i0 j:=by unfold iR at hb;simp at hb;omega
  show iA (nx.set s.toNat v) (j6 (nx.set s.toNat v) i0 j)=iA nx (j6 nx i0 j);rw[ih];exact Mw (λe=>hs (e ▸ hm)) h0 hp
def OM{nx:List Int}{i0 s v:Int}(h0:0<=s)(hs:s∉xr nx i0 (j8 nx i0)){k:Nat}(hk:k<=j8 nx i0):xr (nx.set s.toNat v) i0 k=xr nx i0 k:=by
 unfold xr;apply p8
 intro j hj;exact F7 h0 hs j (by have:=p7.1 hj;omega)
def Ou{nx:List Int}{i0 s v:Int}(h0:0<=s)(hs:s∉xr nx i0 (j8 nx i0)){k:Nat}(hk:k<=j8 nx i0):yG (nx.set s.toNat v) i0 k=yG nx i0 k:=by
 unfold yG;rw[OM h0 hs hk,F7 h0 hs k hk];unfold iR;rw[pU]
def OU{nx:List Int}{i0 s v:Int}(h0:0<=s)(hs:s∉xr nx i0 (j8 nx i0)):j8 (nx.set s.toNat v) i0=j8 nx i0:=by
 obtain⟨c1,c2,c3⟩:=yK nx i0;exact Ix (by rw[Ou h0 hs (gC _)];exact c2) λj hj=>by rw[Ou h0 hs aw];exact c3 j hj
def Ps{nx:List Int}{i0 s v:Int}(h0:0<=s)(hs:s∉xr nx i0 (j8 nx i0)):ij (nx.set s.toNat v) i0=ij nx i0:=by
 unfold ij;rw[OU h0 hs,F7 h0 hs _ (gC _)]
def VL{e:En}{s v:Int}(hi:fE e=true)(h0:0<=s)(hs:s∉(qh e).1):qh {e with next:=e.next.set s.toNat v}=qh e/\fE {e with next:=e.next.set s.toNat v}=true:=by
 have ok:ij e.next (zB e)=true:=by
  unfold fE at hi;simp only[gA]at hi;exact hi.1.1.1
 have hs:s∉xr e.next (zB e) (j8 e.next (zB e)):=by
  unfold qh at hs;rw[gh ok]at hs;exact hs
 refine⟨?_,?_⟩
 ·show(if ij (e.next.set s.toNat v) (zB e)=true then (xr (e.next.set s.toNat v) (zB e) (j8 (e.next.set s.toNat v) (zB e)),(0:Int)) else ([],11))=_;rw[Ps h0 hs,OU h0 hs,OM h0 hs (gC _)]
  rfl
 ·show(ij (e.next.set s.toNat v) (zB e) && decide (1<=(e.next.set s.toNat v).length) && decide ((e.next.set s.toNat v).length<=4) && decide (0<=e.zi))=true;rw[Ps h0 hs,pU];exact hi
end Go.Slp
namespace Go.Wor
open Go.Ab Go.Proofs Tryz Go.Gat Go.Nam Go.Hos Go.Con Go.Sna
open Go.Hy hiding encI
def Jd{α:Type}(f:α->Nat):∀(l:List α) (i:Nat) {x:α} (y:α),l[i]?=some x->((l.set i y).map f).sum+f x=(l.map f).sum+f y
 |[],i,x,y,h=>by simp at h
 |a::l,0,x,y,h=>by
  have e:a=x:=aq h
  subst e;simp only[sb,pN,ry];omega
 |a::l,i+1,x,y,h=>by
  have:=Jd f l i y (aq h);simp only[uh,pN,ry];omega
def Ts{w:Wor}(gw:jK w){m:fi}(ht:0<=m.zf/\m.zf<w.pins.length)(hd:m.done=false)(hv:m.version=0)(hc:m.zg=0)(he:m.end_=0)(ho:m.other=0)(hs:m.slot=0)(hl:m.listen= -1)(hi:m.i=0)(hk:m.k=0):∃v g e,qS w m v g e:=by
 have c:=gw.current;obtain⟨v,hv0⟩:∃v,w.zd[0]?=some v:=⟨_,dX aw⟩;have gv:=(gw.fM _ v hv0).1;have h0:0<v.zo.length:=aE
 obtain⟨g,e,hg,hee,l1,l2⟩:=CP gv h0;exact⟨v,g,e,qB.2 gw,ht,hd,aw,by rw[hv];exact hv0,aw,by rw[hc];exact hg,aw,by rw[he];exact hee,aw,aw,aw,aw,aw⟩
def kb(w:Wor)(i j k:Int):Option En:=(w.zd[i.toNat]?).bind λv=>(v.zo[j.toNat]?).bind λg=>g.ends[k.toNat]?
abbrev mR(w:Wor)(m:fi)(v:fp)(g:Gr)(e':En)(tk:Int):Wor:={w with zd:=w.zd.set m.version.toNat {v with zo:=v.zo.set m.zg.toNat {g with zu:=tk,ends:=g.ends.set m.end_.toNat e'} } }
def HS{w:Wor}{m:fi}{v:fp}{g:Gr}{e:En}(hat:ic w m v g e)(e':En)(tk i j k:Int):kb (mR w m v g e' tk) i j k=if i.toNat=m.version.toNat/\j.toNat=m.zg.toNat/\k.toNat=m.end_.toNat then some e' else kb w i j k:=by
 have s1:=(dW.1 hat.at_).1;have s2:=(dW.1 hat.fG).1;have s3:=(dW.1 hat.fP).1;unfold kb mR;dsimp only;by_cases h1:i.toNat=m.version.toNat
 ·rw[h1,gk s1,hat.at_,gT,gT];dsimp only;by_cases h2:j.toNat=m.zg.toNat
  ·rw[h2,gk s2,hat.fG,gT,gT];dsimp only;by_cases h3:k.toNat=m.end_.toNat
   ·rw[h3,gk s3,gh ⟨rfl,rfl,rfl⟩]
   ·rw[gW (λh=>h3 h.symm),dZ (λh=>h3 h.2.2)]
  ·rw[gW (λh=>h2 h.symm),dZ (λh=>h2 h.2.1)]
 ·rw[gW (λh=>h1 h.symm),dZ (λh=>h1 h.1)]
def Iy{w:Wor}{m:fi}{v:fp}{g:Gr}{e:En}(hat:ic w m v g e):kb w m.version m.zg m.end_=some e:=by
 unfold kb;rw[hat.at_,gT,hat.fG,gT,hat.fP]
def nE(L:List fA)(i j k:Int):Nat:=L.countP λa=>decide (a.version=i/\a.zg=j/\a.end_=k)
def nL(L:List fA)(i:Int):Nat:=L.countP λa=>decide (a.listen=i)
def Ci(a b:fA):Prop:=a.version=b.version/\a.zg=b.zg/\a.end_=b.end_/\a.slot=b.slot
structure oO(w:Wor)(a:fA):Prop where
 pos:0<=a.version/\0<=a.zg/\0<=a.end_/\0<=a.slot
 fC:0<=a.listen/\a.listen<w.ze.length
 at_:∃e,kb w a.version a.zg a.end_=some e/\a.slot<e.next.length/\a.slot∉(Slp.qh e).1
structure mL(w:Wor)(L:List fA)(x:Int):Prop where
 ny:∀a∈L,oO w a
 diff:L.Pairwise λa b=>¬Ci a b
 fC:∀(i:Nat) l,w.ze[i]?=some l->((nL L i+(if x=i then 1 else 0):Nat):Int)<=l.zi
 ends : ∀i j k e, 0 <= i -> 0 <= j -> 0 <= k -> kb w i j k = some e -> (nE L i j k : Int) <= e.zi
def oO.mG{w:Wor}{m:fi}{v:fp}{g:Gr}{e e':En}{a:fA}{tk:Int}(f:oO w a)(hat:ic w m v g e)(hl:e'.next.length=e.next.length)(hf:a.slot∉(Slp.qh e).1->a.version=m.version->a.zg=m.zg->a.end_=m.end_->a.slot∉(Slp.qh e').1):oO (mR w m v g e' tk) a:=by
 obtain⟨h1,h2,e0,h3,h4,h5⟩:=f;refine⟨h1,h2,?_⟩;rw[HS hat];by_cases q:a.version.toNat=m.version.toNat/\a.zg.toNat=m.zg.toNat/\a.end_.toNat=m.end_.toNat
 ·rw[gh q];have p1:=hat.v0;have p2:=hat.g0;have p3:=hat.e0;have q1:a.version=m.version:=by omega
  have q2:a.zg=m.zg:=aw
  have q3:a.end_=m.end_:=aw
  have:=Iy hat;rw[<-q1,<-q2,<-q3,h3]at this;cases this
  exact⟨e',rfl,aw,hf h5 q1 q2 q3⟩
 ·rw[dZ q];exact⟨e0,h3,h4,h5⟩
def oO.other{w w':Wor}{a:fA}(f:oO w a)(hv:w'.zd=w.zd)(hl:w'.ze.length=w.ze.length):oO w' a:=by
 obtain⟨h1,h2,h3⟩:=f;exact⟨h1,aw,by unfold kb at h3 ⊢;rw[hv];exact h3⟩
def mL.mG{w:Wor}{m:fi}{v:fp}{g:Gr}{e e':En}{L:List fA}{x tk:Int}(o:mL w L x)(hat:ic w m v g e)(hl:e'.next.length=e.next.length)(hf:∀s,s∉(Slp.qh e).1->s∉(Slp.qh e').1)(ha:e.zi<=e'.zi):mL (mR w m v g e' tk) L x:=by
 refine⟨λa h=>(o.ny a h).mG hat hl λh1 _ _ _=>hf _ h1,o.diff,o.fC,λi j k e0 hi hj hk h=>?_⟩;rw[HS hat]at h;split at h
 ·rename_i q;cases h
  have p1:=hat.v0;have p2:=hat.g0;have p3:=hat.e0;have q1:i=m.version:=aw
  have q2:j=m.zg:=aw
  have q3:k=m.end_:=aw
  have:=o.ends _ _ _ e hat.v0 hat.g0 hat.e0 (Iy hat);rw[q1,q2,q3];omega
 ·exact o.ends i j k e0 hi hj hk h
def mL.other{w w':Wor}{L:List fA}{x:Int}(o:mL w L x)(hv:w'.zd=w.zd)(hl:w'.ze=w.ze):mL w' L x:=by
 refine⟨λa h=>(o.ny a h).other hv (by rw[hl]),o.diff,by rw[hl];exact o.fC,?_⟩;unfold kb;rw[hv];exact o.ends
def mL.set{w:Wor}{L:List fA}{x x':Int}{i:Nat}{l:fI}{n:Int}(o:mL w L x)(hx:w.ze[i]?=some l)(hn:((nL L i+(if x'=i then 1 else 0):Nat):Int)<=n)(hi:∀j:Nat,j≠i->(x'=j->x=j)):mL {w with ze:=w.ze.set i {l with zi:=n} } L x':=by
 refine⟨λa h=>(o.ny a h).other J aj,o.diff,λj l' h=>?_,o.ends⟩;rcases jy h with⟨rfl,rfl,_⟩|⟨hne,h⟩
 ·exact hn
 ·have:=o.fC j l' h;have h3:=hi j (λh=>hne h.symm);by_cases q:x'=j
  ·rw[gh q];rw[gh (h3 q)]at this;exact dG
  ·rw[dZ q];omega
inductive HI(L:List fA)(h:Nat):Wor->fi->Prop
 |out {w:Wor} {m:fi} (p:m.pc<=4\/(20<=m.pc/\m.answer.kind≠1/\(m.listen<0\/m.pc=23))) (o:mL w L (-1)) (e:nR w=h):HI L h w m
 |Hl {w:Wor} {m:fi} (p:(5<=m.pc/\m.pc<=11)\/(20<=m.pc/\m.pc<=22/\m.answer.kind≠1)) (l:0<=m.listen) (o:mL w L m.listen) (e:nR w=h):HI L h w m
 |KE {w:Wor} {m:fi} (p:m.pc=12) (l:0<=m.listen) (o:mL w L m.listen) (e:nR w=h+1) (f:oO w (C1 m)) (d:∀b∈L,¬Ci b (C1 m)):HI L h w m
 |held {w:Wor} {m:fi} (p:20<=m.pc/\m.pc≠22) (k:m.answer.kind=1) (o:mL w (L++[m.answer]) (-1)) (e:nR w=h+1):HI L h w m
section
variable {N K:Nat} {w:Wor} {m:fi} {v:fp} {g:Gr} {e:En} {L:List fA} {h:Nat} {r:Wor×fi×fk}
def HI.early(hi:HI L h w m)(p:m.pc<=4):mL w L (-1)/\nR w=h:=by
 cases hi with
 |out q o e=>exact⟨o,e⟩
 |Hl q l o e=>omega
 |KE q l o e f d=>omega
 |held q k o e=>omega
def HI.BB(hi:HI L h w m)(p:5<=m.pc/\m.pc<=11):0<=m.listen/\mL w L m.listen/\nR w=h:=by
 cases hi with
 |out q o e=>omega
 |Hl q l o e=>exact⟨l,o,e⟩
 |KE q l o e f d=>omega
 |held q k o e=>omega
def X7{e:En}{s k:Int}(he:e.ok)(hv:Slp.fE e=true)(hh:Slp.zB e=s)(h0:0<=s)(hk:Slp.iA e.next s=k):(Slp.qh e).1=s::(Slp.qh (qs e (Slp.ja e.head k) e.zi)).1/\s∉(Slp.qh (qs e (Slp.ja e.head k) e.zi)).1:=by
 have hp:Slp.GU e=(qs e (Slp.ja e.head k) e.zi,s,0):=by
  unfold Slp.GU;rw[dZ (by simp[hv]),dZ aw,hh,hk]
 obtain⟨_,_,_,_,_,_,_,_,q⟩:=Slp.Zz he hp;have q1:=rq Prod.fst q;refine⟨q1,?_⟩;have hd:=Slp.WE e.next (Slp.zB e);have hf:=rq Prod.fst (Slp.B1 (Slp.o6 hv).1);simp only at hf;rw[<-hf,q1,List.nodup_cons]at hd;exact hd.1
end
end Go.Wor
namespace Go.Wor
open Go.Ab Go.Proofs Tryz Go.Gat Go.Nam Go.Hos Go.Con Go.Sna Go.Pla
open Go.Hy hiding encI
def PF{w:Wor}{i j k:Int}{e:En}(h:kb w i j k=some e):∃v g,w.zd[i.toNat]?=some v/\v.zo[j.toNat]?=some g/\g.ends[k.toNat]?=some e:=by
 unfold kb at h;obtain⟨v,h1,h⟩:=gO.1 h;obtain⟨g,h2,h3⟩:=gO.1 h;exact⟨v,g,h1,h2,h3⟩
def WZ{e:En}{s:Int}(he:e.ok)(hv:Slp.fE e=true)(h0:0<=s)(h1:s<e.next.length)(hn:s∉(Slp.qh e).1):
  Slp.fE ⟨Slp.ja e.head s,e.next.set s.toNat (Slp.zB e),e.zi⟩=true/\(⟨Slp.ja e.head s,e.next.set s.toNat (Slp.zB e),e.zi⟩:En).ok/\(Slp.qh ⟨Slp.ja e.head s,e.next.set s.toNat (Slp.zB e),e.zi⟩).1=s::(Slp.qh e).1:=by
 have hp:Slp.Gy e s=(⟨Slp.ja e.head s,e.next.set s.toNat (Slp.zB e),e.zi⟩,0):=by
  unfold Slp.Gy;rw[dZ (by simp[hv]),dZ aw,dZ (aq hn)]
 obtain⟨_,_,_,_,_,q1,q2,_,q3⟩:=Slp.X9 he hp;exact⟨q1,q2,rq Prod.fst q3⟩
end Go.Wor
namespace Go.Pla
open Go.Ab Go.Proofs Tryz Go.Hy
def Is{α:Type}{p q:α->Bool}:∀{l:List α},(∀x∈l,p x=q x)->l.findIdx? p=l.findIdx? q
 |[],_=>rfl
 |x::l,h=>by
  rw[rI,rI,h x (pT ..),Is λy hy=>h y (pP _ hy)]
def OQ(given:List fA)(a f:fA){n:Nat}(h:n<given.length):iC (given++[a]) f n=iC given f n:=by
 unfold iC;rw[gy h]
def Mx(given:List fA)(a:fA):∀k,k<=given.length->jr (given++[a]) k=jr given k
 |0,_=>rfl
 |k+1,h=>by
  show AI (given++[a]) (jr (given++[a]) k) k=AI given (jr given k) k;have fj:=vT given k aw;rw[Mx given a k aw];unfold AI;rw[gy aw];cases hx:given[k]? with
  |none=>rfl
  |some x=>
   dsimp only;rw[Is (p:=iC (given++[a]) x) (q:=iC given x) λn hn=>OQ given a x (by have:=fj n hn;omega)]
def Ie(given:List fA)(a:fA):qE (given++[a])=if a.kind=1 then qE given++[given.length] else match (qE given).findIdx? (iC given a) with
  |some k=>(qE given).eraseIdx k
  |none=>qE given:=by
 have fj:=vT given given.length (gC _);unfold qE;rw[pj,rH];show AI (given++[a]) (jr (given++[a]) given.length) given.length=_;rw[Mx given a _ (gC _)];unfold AI;rw[gG (gC _),rK];show(if a.kind=1 then _ else match (jr given given.length).findIdx? (iC (given++[a]) a) with|some k=>_|none=>_)=_;rw[Is (p:=iC (given++[a]) a) (q:=iC given a) λn hn=>OQ given a a (fj n hn)]
def wc(given L:List fA):Prop:=(qE given).map (λi=>given[i]?)=L.map some
def wc.len{given L:List fA}(h:wc given L):(qE given).length=L.length:=by
 have:=rq List.length h;simpa using this
theorem Z4:wc [] []:=rfl
def IP(given:List fA)(a:fA)(l:List Nat)(h:∀n∈l,n<given.length):l.map (λi=>(given++[a])[i]?)=l.map λi=>given[i]?:=
 p8 λn hn=>gy (h n hn)
def wc.zyg{given L:List fA}(h:wc given L){a:fA}(ha:a.kind=1):wc (given++[a]) (L++[a]):=by
 have fj:∀n∈qE given,n<given.length:=vT given given.length (gC _);unfold wc at h ⊢;rw[Ie,gh ha,pE,IP given a _ fj,h,pE];simp
def wc.other{given L:List fA}(h:wc given L){a:fA}(ha:a.kind≠1)(h6:a.kind≠6):wc (given++[a]) L:=by
 have fj:∀n∈qE given,n<given.length:=vT given given.length (gC _)
 have e:(qE given).findIdx? (iC given a)=none:=by
  rw[gS];intro n hn;unfold iC;split
  ·unfold wZ;rw[rC h6]
   rfl
  ·rfl
 unfold wc at h ⊢;rw[Ie,dZ ha,e];dsimp only;rw[IP given a _ fj,h]
def wc.head{given L:List fA}{b:fA}(h:wc given (b::L)):∃i l,qE given=i::l/\given[i]?=some b/\l.map (λi=>given[i]?)=L.map some:=by
 unfold wc at h;cases ho:qE given with
 |nil=>rw[ho]at h;cases h
 |cons i l=>
  rw[ho,pN,pN]at h;obtain⟨h1,h2⟩:=List.cons.inj h;exact⟨i,l,rfl,h1,h2⟩
end Go.Pla
namespace Go.Beg
open Go.Ab Go.Proofs Tryz Go.Hy Go.Pla
end Go.Beg
namespace Go.Wor
open Go.Ab Go.Proofs Tryz Go.Gat Go.Nam Go.Hos Go.Con Go.Sna Go.Pla
open Go.Hy hiding encI
end Go.Wor
