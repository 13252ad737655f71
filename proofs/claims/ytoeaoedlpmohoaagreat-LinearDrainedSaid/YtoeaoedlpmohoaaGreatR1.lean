import Derived.Test.YtoeaoedlpmohoaaGreatRK
import Derived.Test.YtoeaoedlpmohoaaGreatRZ
set_option linter.all false
set_option maxRecDepth 100000
set_option maxHeartbeats 4000000
namespace Go.Wor
open Go.Ab Go.Proofs Tryz Go.Gat Go.Nam Go.Hos Go.Con Go.Sna
open Go.Hy hiding encI
def hE(e:En):Nat:=e.next.length-(Slp.qF e).1.length
def hG(g:Gr):Nat:=(g.ends.map hE).sum
def hV(v:fB):Nat:=(v.zm.map hG).sum
def Ad(w:Wor):Nat:=(w.ze.map hV).sum
def Ix{α:Type}(f:α->Nat)(l:List α){k:Nat}(h:k<l.length):((l.take (k+1)).map f).sum=((l.take k).map f).sum+f l[k]:=by
 rw[rb h,rp,fi];simp
def Ho{α:Type}(f:α->Nat)(l:List α):∀k,((l.take k).map f).sum<=(l.map f).sum:=λk=>by
 have h:(l.map f).sum=((l.take k).map f).sum+((l.drop k).map f).sum:=by
  rw[<-fi,<-rp,rq]
 omega
structure O5(w:Wor):Prop where
 lens:w.ze.length<4000000000000000000
 lg:∀v∈w.ze,v.zm.length<4000000000000000000
 le:∀v∈w.ze,∀g∈v.zm,g.ends.length<4000000000000000000
 ok:∀v∈w.ze,∀g∈v.zm,∀e∈g.ends,e.ok/\Slp.fP e=true/\(Slp.qF e).1.length<=e.next.length
 sum:Ad w<4000000000000000000
def RX(w:Wor)(hw:O5 w):tn 26 [] [Cw w] (I (Ad w:Nat)) []:=by
 have m1:(w.ze.map zK).length=w.ze.length:=gE ..;have b1:=hw.lens;refine ab func26 ?_;rw[m1];refine zZ.seq w.ze.length (λk=>(.za::.ref 0 [] 8 0 0::I 0::I (((w.ze.take k).map hV).sum:Nat)::mC (.za::(lV w.ze)::I w.ze.length::I k::mC (mC (mC (mC ([.za,.za,.za,.za]))))))) (λk=>[⟨1,38,8,[zU w],0⟩]) (λk=>True) ?_ trivial (λk hk _=>?_) (λ_=>?_)
 ·exact cC
 ·obtain⟨v,hx⟩:∃v,v=w.ze[k]:=⟨_,rfl⟩;have hv:v∈w.ze:=by rw[hx];exact gZ hk
  have hg:(w.ze.map zK)[k]?=some (zK v):=by rw[gz,gp hk,hx];rfl
  have m2:(v.zm.map zF).length=v.zm.length:=gE ..;have sk:=Ix hV w.ze hk;rw[<-hx]at sk;have sl:=Ho hV w.ze (k+1);have sw:(w.ze.map hV).sum<4000000000000000000:=hw.sum;have bg:=hw.lg v hv;conv=>whnf
  refine uF ?_;(refine td hg ?_)
  rw[m2];refine zZ.seq v.zm.length (λj=>(.za::.ref 0 [] 8 0 0::I 0::I (((w.ze.take k).map hV).sum+((v.zm.take j).map hG).sum:Nat)::.za::.ref 1 [] 5 0 0::.za::.za::.za::.za::.za::.za::.za::(lV w.ze)::I w.ze.length::I k::.za::.za::.za::.za::(lG v.zm)::I v.zm.length::I j::mC (mC (mC ([.za,.za,.za,.za,.za]))))) (λj=>[⟨1,38,8,[zU w],0⟩,⟨1,69,5,[zK v],0⟩]) (λk=>True) ?_ trivial (λj hj _=>?_) (λ_=>?_)
  ·exact cC
  ·obtain⟨g,hxg⟩:∃g,g=v.zm[j]:=⟨_,rfl⟩;have hgm:g∈v.zm:=by rw[hxg];exact gZ hj
   have hgg:(v.zm.map zF)[j]?=some (zF g):=by rw[gz,gp hj,hxg];rfl
   have m3:(g.ends.map zx).length=g.ends.length:=gE ..;have sj:=Ix hG v.zm hj;rw[<-hxg]at sj;have sjl:=Ho hG v.zm (j+1);have sjv:(v.zm.map hG).sum=hV v:=rfl;have be:=hw.le v hv g hgm;conv=>whnf
   refine uF ?_;(refine td hgg ?_)
   rw[m3];refine zZ.seq g.ends.length (λn=>(.za::.ref 0 [] 8 0 0::I 0::I (((w.ze.take k).map hV).sum+((v.zm.take j).map hG).sum+((g.ends.take n).map hE).sum:Nat)::.za::.ref 1 [] 5 0 0::.za::.ref 2 [] 2 0 0::.za::.za::.za::.za::.za::(lV w.ze)::I w.ze.length::I k::.za::.za::.za::.za::(lG v.zm)::I v.zm.length::I j::.za::.za::.za::.za::(lE g.ends)::I g.ends.length::I n::mC (mC ([.za,.za,.za,.za,.za,.za])))) (λn=>[⟨1,38,8,[zU w],0⟩,⟨1,69,5,[zK v],0⟩,⟨1,72,2,[zF g],0⟩]) (λk=>True) ?_ trivial (λn hn _=>?_) (λ_=>?_)
   ·exact cC
   ·obtain⟨e,hxe⟩:∃e,e=g.ends[n]:=⟨_,rfl⟩;have hem:e∈g.ends:=by rw[hxe];exact gZ hn
    have hge:(g.ends.map zx)[n]?=some (zx e):=by rw[gz,gp hn,hxe];rfl
    obtain⟨eo,ei,el⟩:=hw.ok v hv g hgm e hem;have sn:=Ix hE g.ends hn;rw[<-hxe]at sn;have snl:=Ho hE g.ends (n+1);have sng:(g.ends.map hE).sum=hG g:=rfl;have m4:(e.next.map Go.Hy.encI).length=e.next.length:=gE ..;have m5:((Slp.qF e).1.map Go.Hy.encI).length=(Slp.qF e).1.length:=gE ..;have en:=eo.2.1.2;conv=>whnf
    refine uF ?_;(refine td hge ?_)
    refine ah (Slp.E4 e eo) ?_;refine ah (Slp.Ct e eo) ?_;rw[ei];refine tc ?_
    rw[m4,m5]
    have q1:IntKind.i64.wrap ((e.next.length:Int)-((Slp.qF e).1.length:Int))=((hE e:Nat):Int):=by
     rw[qd aw aw];unfold hE;omega
    have q2:IntKind.i64.wrap (((((w.ze.take k).map hV).sum+((v.zm.take j).map hG).sum+((g.ends.take n).map hE).sum:Nat):Int)+((hE e:Nat):Int))=(((((w.ze.take k).map hV).sum+((v.zm.take j).map hG).sum+((g.ends.take (n+1)).map hE).sum:Nat)):Int):=by
     rw[qd aw aw];omega
    rw[q1,q2,zw aw];refine .inl ⟨rfl,?_,trivial⟩;exact cE 3
   ·have e1:(g.ends.take g.ends.length).map hE=g.ends.map hE:=by rw[pQ]
    have e2:(((v.zm.take j).map hG).sum+(g.ends.map hE).sum)=((v.zm.take (j+1)).map hG).sum:=by rw[sj];rfl
    refine uD ?_;rw[e1,r8,e2,zw aw];refine .inl ⟨rfl,?_,trivial⟩;exact cE 2
  ·have e1:(v.zm.take v.zm.length).map hG=v.zm.map hG:=by rw[pQ]
   have e2:(((w.ze.take k).map hV).sum+(v.zm.map hG).sum)=((w.ze.take (k+1)).map hV).sum:=by rw[sk];rfl
   refine uD ?_;rw[e1,e2,zw aw];refine .inl ⟨rfl,?_,trivial⟩;exact cE 1
 ·have e1:(w.ze.take w.ze.length).map hV=w.ze.map hV:=by rw[pQ]
  refine uD ?_;rw[e1];exact uI
def Yh(e:En):(Slp.qF e).1.length<=e.next.length:=by
 have h1:=(Slp.yT e.next (Slp.zD e)).1;unfold Slp.qF;split
 ·show(Slp.xd _ _ _).length<=_;unfold Slp.xd;simp only[gE,List.length_range];omega
 ·simp
def Ft{α:Type}(f:α->Nat)(b:Nat):∀(l:List α),(∀x∈l,f x<=b)->(l.map f).sum<=l.length*b
 |[],_=>by simp
 |x::l,h=>by
  have:=Ft f b l λy hy=>h y (pV _ hy)
  have:=h x (rh ..);rw[rJ,rU,pR,ru];omega
def Ym{N:Nat}{w:Wor}(h:jV w)(t:mM N w)(hN:N<=100000000):O5 w:=by
 have lY:∀v∈w.ze,v.zm.length<=4/\∀g∈v.zm,g.ends.length<=4/\1<=g.ends.length/\∀e∈g.ends,Slp.fP e=true/\e.next.length<=4/\1<=e.next.length:=λv hv=>by
  obtain⟨i,hi⟩:=gW.1 hv;exact(h.fX i v hi).1.lY
 refine⟨by have:=t.lu;omega,λv hv=>by have:=(lY v hv).1;omega,λv hv g hg=>by have:=((lY v hv).2 g hg).1;omega,λv hv g hg e he=>⟨((t.i6 v hv).2 g hg).2 e he,(((lY v hv).2 g hg).2.2 e he).1,Yh e⟩,?_⟩
 have q1:∀v∈w.ze,∀g∈v.zm,hG g<=16:=λv hv g hg=>by
  have f:=(lY v hv).2 g hg;have:=Ft hE 4 g.ends λe he=>by have:=(f.2.2 e he).2.1;unfold hE;omega
  have:=f.1;unfold hG;omega
 have q2:∀v∈w.ze,hV v<=64:=λv hv=>by
  have:=Ft hG 16 v.zm λg hg=>q1 v hv g hg
  have:=(lY v hv).1;unfold hV;omega
 have:=Ft hV 64 w.ze q2;have:=t.lu;unfold Ad;omega
end Go.Wor
namespace Go.Slp
open Go.Ab Go.Proofs Tryz Go.Hy
def FZ{nx:List Int}{i0 s v:Int}(h0:0<=s)(hs:s∉xd nx i0 (j5 nx i0)):∀j,j<=j5 nx i0->j0 (nx.set s.toNat v) i0 j=j0 nx i0 j
 |0,_=>rfl
 |j+1,h=>by
  have ih:=FZ (v:=v) h0 hs j aw;have hm:j0 nx i0 j∈xd nx i0 (j5 nx i0):=pd.2 ⟨j,rC.2 aw,rfl⟩;have hb:=(FE (yT nx i0).2.2).2 _ hm;have hp:0<=j0 nx i0 j:=by unfold iX at hb;simp at hb;omega
  show iH (nx.set s.toNat v) (j0 (nx.set s.toNat v) i0 j)=iH nx (j0 nx i0 j);rw[ih];exact LQ (λe=>hs (e ▸ hm)) h0 hp
def Om{nx:List Int}{i0 s v:Int}(h0:0<=s)(hs:s∉xd nx i0 (j5 nx i0)){k:Nat}(hk:k<=j5 nx i0):xd (nx.set s.toNat v) i0 k=xd nx i0 k:=by
 unfold xd;apply sA
 intro j hj;exact FZ h0 hs j (by have:=rC.1 hj;omega)
def NA{nx:List Int}{i0 s v:Int}(h0:0<=s)(hs:s∉xd nx i0 (j5 nx i0)){k:Nat}(hk:k<=j5 nx i0):yx (nx.set s.toNat v) i0 k=yx nx i0 k:=by
 unfold yx;rw[Om h0 hs hk,FZ h0 hs k hk];unfold iX;rw[sb]
def N4{nx:List Int}{i0 s v:Int}(h0:0<=s)(hs:s∉xd nx i0 (j5 nx i0)):j5 (nx.set s.toNat v) i0=j5 nx i0:=by
 obtain⟨c1,c2,c3⟩:=yT nx i0;exact Ip (by rw[NA h0 hs (gJ _)];exact c2) λj hj=>by rw[NA h0 hs aw];exact c3 j hj
def OO{nx:List Int}{i0 s v:Int}(h0:0<=s)(hs:s∉xd nx i0 (j5 nx i0)):iy (nx.set s.toNat v) i0=iy nx i0:=by
 unfold iy;rw[N4 h0 hs,FZ h0 hs _ (gJ _)]
def Wf{e:En}{s v:Int}(hi:fP e=true)(h0:0<=s)(hs:s∉(qF e).1):qF { e with next:=e.next.set s.toNat v }=qF e/\fP { e with next:=e.next.set s.toNat v }=true:=by
 have ok:iy e.next (zD e)=true:=by
  unfold fP at hi;simp only[gH]at hi;exact hi.1.1.1
 have hs:s∉xd e.next (zD e) (j5 e.next (zD e)):=by
  unfold qF at hs;rw[gC ok]at hs;exact hs
 refine⟨?_,?_⟩
 ·show(if iy (e.next.set s.toNat v) (zD e)=true then (xd (e.next.set s.toNat v) (zD e) (j5 (e.next.set s.toNat v) (zD e)),(0:Int)) else ([],11))=_;rw[OO h0 hs,N4 h0 hs,Om h0 hs (gJ _)]
  rfl
 ·show(iy (e.next.set s.toNat v) (zD e) && decide (1<=(e.next.set s.toNat v).length) && decide ((e.next.set s.toNat v).length<=4) && decide (0<=e.zi))=true;rw[OO h0 hs,sb];exact hi
end Go.Slp
namespace Go.Wor
open Go.Ab Go.Proofs Tryz Go.Gat Go.Nam Go.Hos Go.Con Go.Sna
open Go.Hy hiding encI
def I4{α:Type}(f:α->Nat):∀(l:List α) (i:Nat) {x:α} (y:α),l[i]?=some x->((l.set i y).map f).sum+f x=(l.map f).sum+f y
 |[],i,x,y,h=>by simp at h
 |a::l,0,x,y,h=>by
  have e:a=x:=aq h
  subst e;simp only[um,rJ,rU];omega
 |a::l,i+1,x,y,h=>by
  have:=I4 f l i y (aq h);simp only[List.set_cons_succ,rJ,rU];omega
def SM{w:Wor}(gw:jV w){m:fq}(ht:0<=m.zf/\m.zf<w.pins.length)(hd:m.done=false)(hv:m.version=0)(hc:m.zg=0)(he:m.end_=0)(ho:m.other=0)(hs:m.slot=0)(hl:m.listen= -1)(hi:m.i=0)(hk:m.k=0):∃v g e,qP w m v g e:=by
 have c:=gw.current;obtain⟨v,hv0⟩:∃v,w.ze[0]?=some v:=⟨_,gp aw⟩;have gv:=(gw.fX _ v hv0).1;have h0:0<v.zm.length:=aE
 obtain⟨g,e,hg,hee,l1,l2⟩:=Cq gv h0;exact⟨v,g,e,qD.2 gw,ht,hd,aw,by rw[hv];exact hv0,aw,by rw[hc];exact hg,aw,by rw[he];exact hee,aw,aw,aw,aw,aw⟩
def wJ(w:Wor)(i j k:Int):Option En:=(w.ze[i.toNat]?).bind λv=>(v.zm[j.toNat]?).bind λg=>g.ends[k.toNat]?
abbrev mE(w:Wor)(m:fq)(v:fB)(g:Gr)(e':En)(tk:Int):Wor:={ w with ze:=w.ze.set m.version.toNat { v with zm:=v.zm.set m.zg.toNat { g with zt:=tk,ends:=g.ends.set m.end_.toNat e' } } }
def EY{w:Wor}{m:fq}{v:fB}{g:Gr}{e:En}(hat:iz w m v g e)(e':En)(tk i j k:Int):wJ (mE w m v g e' tk) i j k=if i.toNat=m.version.toNat/\j.toNat=m.zg.toNat/\k.toNat=m.end_.toNat then some e' else wJ w i j k:=by
 have s1:=(gm.1 hat.at_).1;have s2:=(gm.1 hat.fR).1;have s3:=(gm.1 hat.ia).1;unfold wJ mE;dsimp only;by_cases h1:i.toNat=m.version.toNat
 ·rw[h1,gD s1,hat.at_,pa,pa];dsimp only;by_cases h2:j.toNat=m.zg.toNat
  ·rw[h2,gD s2,hat.fR,pa,pa];dsimp only;by_cases h3:k.toNat=m.end_.toNat
   ·rw[h3,gD s3,gC ⟨rfl,rfl,rfl⟩]
   ·rw[pq (λh=>h3 h.symm),gu (λh=>h3 h.2.2)]
  ·rw[pq (λh=>h2 h.symm),gu (λh=>h2 h.2.1)]
 ·rw[pq (λh=>h1 h.symm),gu (λh=>h1 h.1)]
def FF{w:Wor}{m:fq}{v:fB}{g:Gr}{e:En}(hat:iz w m v g e):wJ w m.version m.zg m.end_=some e:=by
 unfold wJ;rw[hat.at_,pa,hat.fR,pa,hat.ia]
def nE(L:List fF)(i j k:Int):Nat:=L.countP λa=>decide (a.version=i/\a.zg=j/\a.end_=k)
def nL(L:List fF)(i:Int):Nat:=L.countP λa=>decide (a.listen=i)
def Gv(a b:fF):Prop:=a.version=b.version/\a.zg=b.zg/\a.end_=b.end_/\a.slot=b.slot
structure oP(w:Wor)(a:fF):Prop where
 pos:0<=a.version/\0<=a.zg/\0<=a.end_/\0<=a.slot
 fI:0<=a.listen/\a.listen<w.zd.length
 at_:∃e,wJ w a.version a.zg a.end_=some e/\a.slot<e.next.length/\a.slot∉(Slp.qF e).1
structure lW(w:Wor)(L:List fF)(x:Int):Prop where
 Gy:∀a∈L,oP w a
 diff:L.Pairwise λa b=>¬Gv a b
 fI:∀(i:Nat) l,w.zd[i]?=some l->((nL L i+(if x=i then 1 else 0):Nat):Int)<=l.zi
 ends : ∀i j k e, 0 <= i -> 0 <= j -> 0 <= k -> wJ w i j k = some e -> (nE L i j k : Int) <= e.zi
def oP.ma{w:Wor}{m:fq}{v:fB}{g:Gr}{e e':En}{a:fF}{tk:Int}(f:oP w a)(hat:iz w m v g e)(hl:e'.next.length=e.next.length)(hf:a.slot∉(Slp.qF e).1->a.version=m.version->a.zg=m.zg->a.end_=m.end_->a.slot∉(Slp.qF e').1):oP (mE w m v g e' tk) a:=by
 obtain⟨h1,h2,e0,h3,h4,h5⟩:=f;refine⟨h1,h2,?_⟩;rw[EY hat];by_cases q:a.version.toNat=m.version.toNat/\a.zg.toNat=m.zg.toNat/\a.end_.toNat=m.end_.toNat
 ·rw[gC q];have p1:=hat.v0;have p2:=hat.g0;have p3:=hat.e0;have q1:a.version=m.version:=by omega
  have q2:a.zg=m.zg:=aw
  have q3:a.end_=m.end_:=aw
  have:=FF hat;rw[<-q1,<-q2,<-q3,h3]at this;cases this
  exact⟨e',rfl,aw,hf h5 q1 q2 q3⟩
 ·rw[gu q];exact⟨e0,h3,h4,h5⟩
def oP.other{w w':Wor}{a:fF}(f:oP w a)(hv:w'.ze=w.ze)(hl:w'.zd.length=w.zd.length):oP w' a:=by
 obtain⟨h1,h2,h3⟩:=f;exact⟨h1,aw,by unfold wJ at h3 ⊢;rw[hv];exact h3⟩
def lW.ma{w:Wor}{m:fq}{v:fB}{g:Gr}{e e':En}{L:List fF}{x tk:Int}(o:lW w L x)(hat:iz w m v g e)(hl:e'.next.length=e.next.length)(hf:∀s,s∉(Slp.qF e).1->s∉(Slp.qF e').1)(ha:e.zi<=e'.zi):lW (mE w m v g e' tk) L x:=by
 refine⟨λa h=>(o.Gy a h).ma hat hl λh1 _ _ _=>hf _ h1,o.diff,o.fI,λi j k e0 hi hj hk h=>?_⟩;rw[EY hat]at h;split at h
 ·rename_i q;cases h
  have p1:=hat.v0;have p2:=hat.g0;have p3:=hat.e0;have q1:i=m.version:=aw
  have q2:j=m.zg:=aw
  have q3:k=m.end_:=aw
  have:=o.ends _ _ _ e hat.v0 hat.g0 hat.e0 (FF hat);rw[q1,q2,q3];omega
 ·exact o.ends i j k e0 hi hj hk h
def lW.other{w w':Wor}{L:List fF}{x:Int}(o:lW w L x)(hv:w'.ze=w.ze)(hl:w'.zd=w.zd):lW w' L x:=by
 refine⟨λa h=>(o.Gy a h).other hv (by rw[hl]),o.diff,by rw[hl];exact o.fI,?_⟩;unfold wJ;rw[hv];exact o.ends
def lW.set{w:Wor}{L:List fF}{x x':Int}{i:Nat}{l:fQ}{n:Int}(o:lW w L x)(hx:w.zd[i]?=some l)(hn:((nL L i+(if x'=i then 1 else 0):Nat):Int)<=n)(hi:∀j:Nat,j≠i->(x'=j->x=j)):lW { w with zd:=w.zd.set i { l with zi:=n } } L x':=by
 refine⟨λa h=>(o.Gy a h).other rfl aj,o.diff,λj l' h=>?_,o.ends⟩;rcases x7 h with⟨rfl,rfl,_⟩|⟨hne,h⟩
 ·exact hn
 ·have:=o.fI j l' h;have h3:=hi j (λh=>hne h.symm);by_cases q:x'=j
  ·rw[gC q];rw[gC (h3 q)]at this;exact dM
  ·rw[gu q];omega
def XZ(L:List fF)(a:fF)(i:Int):nL (L++[a]) i=nL L i+if a.listen=i then 1 else 0:=by
 unfold nL;rw[sE,sU];simp
def XY(L:List fF)(a:fF)(i j k:Int):nE (L++[a]) i j k=nE L i j k+if a.version=i/\a.zg=j/\a.end_=k then 1 else 0:=by
 unfold nE;rw[sE,sU];simp
def lW.snoc{w:Wor}{m:fq}{v:fB}{g:Gr}{e e':En}{L:List fF}{tk:Int}(o:lW w L m.listen)(hat:iz w m v g e)(f:oP w (km m))(d:∀b∈L,¬Gv b (km m))(hl:e'.next.length=e.next.length)(hf:∀s,s∉(Slp.qF e).1->s∉(Slp.qF e').1)(ha:e'.zi=e.zi+1):
  lW (mE w m v g e' tk) (L++[km m]) (-1):=by
 refine⟨λa h=>?_,?_,λi l h=>?_,λi j k e0 hi hj hk h=>?_⟩
 ·rcases gT.1 h with h|h
  ·exact(o.Gy a h).ma hat hl λh1 _ _ _=>hf _ h1
  ·rw[gS.1 h];exact f.ma hat hl λh1 _ _ _=>hf _ h1
 ·rw[pW];exact⟨o.diff,List.pairwise_singleton ..,λa ha b hb=>by rw[gS.1 hb];exact d a ha⟩
 ·have:=o.fI i l h;rw[XZ,gu (show ¬(-1:Int)=i by omega)];exact dM
 ·rw[XY];rw[EY hat]at h;have p1:=hat.v0;have p2:=hat.g0;have p3:=hat.e0;split at h
  ·rename_i q;cases h
   have q1:i=m.version:=aw
   have q2:j=m.zg:=aw
   have q3:k=m.end_:=aw
   have:=o.ends _ _ _ e p1 p2 p3 (FF hat);rw[q1,q2,q3];split <;> omega
  ·rename_i q;have:=o.ends i j k e0 hi hj hk h;rw[gu]
   ·exact dM
   ·rintro⟨q1,q2,q3⟩;have q1:m.version=i:=q1;have q2:m.zg=j:=q2;have q3:m.end_=k:=q3;exact q ⟨aw,aw,aw⟩
inductive HI(L:List fF)(h:Nat):Wor->fq->Prop
 |out {w:Wor} {m:fq} (p:m.pc<=4\/(20<=m.pc/\m.answer.kind≠1/\(m.listen<0\/m.pc=23))) (o:lW w L (-1)) (e:Ad w=h):HI L h w m
 |G5 {w:Wor} {m:fq} (p:(5<=m.pc/\m.pc<=11)\/(20<=m.pc/\m.pc<=22/\m.answer.kind≠1)) (l:0<=m.listen) (o:lW w L m.listen) (e:Ad w=h):HI L h w m
 |Kg {w:Wor} {m:fq} (p:m.pc=12) (l:0<=m.listen) (o:lW w L m.listen) (e:Ad w=h+1) (f:oP w (km m)) (d:∀b∈L,¬Gv b (km m)):HI L h w m
 |held {w:Wor} {m:fq} (p:20<=m.pc/\m.pc≠22) (k:m.answer.kind=1) (o:lW w (L++[m.answer]) (-1)) (e:Ad w=h+1):HI L h w m
section
variable {N K:Nat} {w:Wor} {m:fq} {v:fB} {g:Gr} {e:En} {L:List fF} {h:Nat} {r:Wor×fq×fx}
def HI.early(hi:HI L h w m)(p:m.pc<=4):lW w L (-1)/\Ad w=h:=by
 cases hi with
 |out q o e=>exact⟨o,e⟩
 |G5 q l o e=>omega
 |Kg q l o e f d=>omega
 |held q k o e=>omega
def HI.fL(hi:HI L h w m)(p:5<=m.pc/\m.pc<=11):0<=m.listen/\lW w L m.listen/\Ad w=h:=by
 cases hi with
 |out q o e=>omega
 |G5 q l o e=>exact⟨l,o,e⟩
 |Kg q l o e f d=>omega
 |held q k o e=>omega
def Xt{e:En}{s k:Int}(he:e.ok)(hv:Slp.fP e=true)(hh:Slp.zD e=s)(h0:0<=s)(hk:Slp.iH e.next s=k):(Slp.qF e).1=s::(Slp.qF (qA e (Slp.je e.head k) e.zi)).1/\s∉(Slp.qF (qA e (Slp.je e.head k) e.zi)).1:=by
 have hp:Slp.GM e=(qA e (Slp.je e.head k) e.zi,s,0):=by
  unfold Slp.GM;rw[gu (by simp[hv]),gu aw,hh,hk]
 obtain⟨_,_,_,_,_,_,_,_,q⟩:=Slp.YM he hp;have q1:=rF Prod.fst q;refine⟨q1,?_⟩;have hd:=Slp.VK e.next (Slp.zD e);have hf:=rF Prod.fst (Slp.BH (Slp.Bj hv).1);simp only at hf;rw[<-hf,q1,List.nodup_cons]at hd;exact hd.1
end
end Go.Wor
namespace Go.Wor
open Go.Ab Go.Proofs Tryz Go.Gat Go.Nam Go.Hos Go.Con Go.Sna Go.Pla
open Go.Hy hiding encI
def O8{w:Wor}{i j k:Int}{e:En}(h:wJ w i j k=some e):∃v g,w.ze[i.toNat]?=some v/\v.zm[j.toNat]?=some g/\g.ends[k.toNat]?=some e:=by
 unfold wJ at h;obtain⟨v,h1,h⟩:=pj.1 h;obtain⟨g,h2,h3⟩:=pj.1 h;exact⟨v,g,h1,h2,h3⟩
def VV{e:En}{s:Int}(he:e.ok)(hv:Slp.fP e=true)(h0:0<=s)(h1:s<e.next.length)(hn:s∉(Slp.qF e).1):
  Slp.fP ⟨Slp.je e.head s,e.next.set s.toNat (Slp.zD e),e.zi⟩=true/\(⟨Slp.je e.head s,e.next.set s.toNat (Slp.zD e),e.zi⟩:En).ok/\(Slp.qF ⟨Slp.je e.head s,e.next.set s.toNat (Slp.zD e),e.zi⟩).1=s::(Slp.qF e).1:=by
 have hp:Slp.Gj e s=(⟨Slp.je e.head s,e.next.set s.toNat (Slp.zD e),e.zi⟩,0):=by
  unfold Slp.Gj;rw[gu (by simp[hv]),gu aw,gu (aq hn)]
 obtain⟨_,_,_,_,_,q1,q2,_,q3⟩:=Slp.Xv he hp;exact⟨q1,q2,rF Prod.fst q3⟩
end Go.Wor
namespace Go.Pla
open Go.Ab Go.Proofs Tryz Go.Hy
def It{α:Type}{p q:α->Bool}:∀{l:List α},(∀x∈l,p x=q x)->l.findIdx? p=l.findIdx? q
 |[],_=>rfl
 |x::l,h=>by
  rw[rM,rM,h x (rh ..),It λy hy=>h y (pV _ hy)]
def N1(given:List fF)(a f:fF){n:Nat}(h:n<given.length):iG (given++[a]) f n=iG given f n:=by
 unfold iG;rw[gG h]
def LR(given:List fF)(a:fF):∀k,k<=given.length->jt (given++[a]) k=jt given k
 |0,_=>rfl
 |k+1,h=>by
  show Ae (given++[a]) (jt (given++[a]) k) k=Ae given (jt given k) k;have ft:=vA given k aw;rw[LR given a k aw];unfold Ae;rw[gG aw];cases hx:given[k]? with
  |none=>rfl
  |some x=>
   dsimp only;rw[It (p:=iG (given++[a]) x) (q:=iG given x) λn hn=>N1 given a x (by have:=ft n hn;omega)]
def Fl(given:List fF)(a:fF):jF (given++[a])=if a.kind=1 then jF given++[given.length] else match (jF given).findIdx? (iG given a) with
  |some k=>(jF given).eraseIdx k
  |none=>jF given:=by
 have ft:=vA given given.length (gJ _);unfold jF;rw[gK,rX];show Ae (given++[a]) (jt (given++[a]) given.length) given.length=_;rw[LR given a _ (gJ _)];unfold Ae;rw[gO (gJ _),rR];show(if a.kind=1 then _ else match (jt given given.length).findIdx? (iG (given++[a]) a) with|some k=>_|none=>_)=_;rw[It (p:=iG (given++[a]) a) (q:=iG given a) λn hn=>N1 given a a (ft n hn)]
def vF(given L:List fF):Prop:=(jF given).map (λi=>given[i]?)=L.map some
def vF.len{given L:List fF}(h:vF given L):(jF given).length=L.length:=by
 have:=rF List.length h;simpa using this
theorem Zf:vF [] []:=rfl
def FK(given:List fF)(a:fF)(l:List Nat)(h:∀n∈l,n<given.length):l.map (λi=>(given++[a])[i]?)=l.map λi=>given[i]?:=
 sA λn hn=>gG (h n hn)
def vF.Zw{given L:List fF}(h:vF given L){a:fF}(ha:a.kind=1):vF (given++[a]) (L++[a]):=by
 have ft:∀n∈jF given,n<given.length:=vA given given.length (gJ _);unfold vF at h ⊢;rw[Fl,gC ha,rp,FK given a _ ft,h,rp];simp
def vF.other{given L:List fF}(h:vF given L){a:fF}(ha:a.kind≠1)(h6:a.kind≠6):vF (given++[a]) L:=by
 have ft:∀n∈jF given,n<given.length:=vA given given.length (gJ _)
 have e:(jF given).findIdx? (iG given a)=none:=by
  rw[gX];intro n hn;unfold iG;split
  ·unfold kz;rw[rK h6]
   rfl
  ·rfl
 unfold vF at h ⊢;rw[Fl,gu ha,e];dsimp only;rw[FK given a _ ft,h]
def vF.head{given L:List fF}{b:fF}(h:vF given (b::L)):∃i l,jF given=i::l/\given[i]?=some b/\l.map (λi=>given[i]?)=L.map some:=by
 unfold vF at h;cases ho:jF given with
 |nil=>rw[ho]at h;cases h
 |cons i l=>
  rw[ho,rJ,rJ]at h;obtain⟨h1,h2⟩:=List.cons.inj h;exact⟨i,l,rfl,h1,h2⟩
def vF.ended{given L:List fF}{b f:fF}(h:vF given (b::L))(he:kz f b=true):vF (given++[f]) L:=by
 have ft:∀n∈jF given,n<given.length:=vA given given.length (gJ _)
 have h6:f.kind=6:=by
  unfold kz at he;simp only[gH,gQ]at he;exact he.1
 obtain⟨i,l,h1,h2,h3⟩:=h.head
 have e:(jF given).findIdx? (iG given f)=some 0:=by
  rw[h1,rM];unfold iG;rw[h2];dsimp only;rw[gC he]
 have hl:∀n∈l,n<given.length:=λn hn=>ft n (by rw[h1];exact pV _ hn)
 unfold vF;rw[Fl,gu aw,e,h1];show l.map _=_;rw[FK given f _ hl,h3]
end Go.Pla
namespace Go.Beg
open Go.Ab Go.Proofs Tryz Go.Hy Go.Pla
end Go.Beg
namespace Go.Wor
open Go.Ab Go.Proofs Tryz Go.Gat Go.Nam Go.Hos Go.Con Go.Sna Go.Pla
open Go.Hy hiding encI
end Go.Wor
