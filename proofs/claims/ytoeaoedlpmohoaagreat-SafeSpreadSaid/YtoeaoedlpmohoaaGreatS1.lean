import Derived.Test.YtoeaoedlpmohoaaGreatSK
import Derived.Test.YtoeaoedlpmohoaaGreatSZ
set_option linter.all false
set_option maxRecDepth 100000
set_option maxHeartbeats 4000000
namespace Go.Wor
open Go.Ab Go.Proofs Tryz Go.Gat Go.Nam Go.Hos Go.Con Go.Sna
open Go.Hy hiding encI
def hE(e:En):Nat:=e.next.length-(Slp.qo e).1.length
def hG(g:Gr):Nat:=(g.ends.map hE).sum
def hV(v:lJ):Nat:=(v.zp.map hG).sum
def B0(w:Wor):Nat:=(w.zd.map hV).sum
def Kt{α:Type}(f:α->Nat)(l:List α){k:Nat}(h:k<l.length):((l.take (k+1)).map f).sum=((l.take k).map f).sum+f l[k]:=by
 rw[rS h,rD,ff];simp
def M4{α:Type}(f:α->Nat)(l:List α):∀k,((l.take k).map f).sum<=(l.map f).sum:=λk=>by
 have h:(l.map f).sum=((l.take k).map f).sum+((l.drop k).map f).sum:=by
  rw[<-ff,<-rD,sE]
 omega
structure QI(w:Wor):Prop where
 lens:w.zd.length<4000000000000000000
 lg:∀v∈w.zd,v.zp.length<4000000000000000000
 le:∀v∈w.zd,∀g∈v.zp,g.ends.length<4000000000000000000
 ok:∀v∈w.zd,∀g∈v.zp,∀e∈g.ends,e.ok/\Slp.mq e=true/\(Slp.qo e).1.length<=e.next.length
 sum:B0 w<4000000000000000000
def SA(w:Wor)(hw:QI w):tp 26 [] [Cw w] (I (B0 w:Nat)) []:=by
 have m1:(w.zd.map zJ).length=w.zd.length:=pB ..;have b1:=hw.lens;refine ab func26 ?_;rw[m1];refine zW.seq w.zd.length (λk=>(.za::.ref 0 [] 8 0 0::I 0::I (((w.zd.take k).map hV).sum:Nat)::mF (.za::(lV w.zd)::I w.zd.length::I k::mF (mF (mF (mF ([.za,.za,.za,.za]))))))) (λk=>[oW w]) (λk=>True) ?_ trivial (λk hk _=>?_) (λ_=>?_)
 ·exact cC
 ·obtain⟨v,hx⟩:∃v,v=w.zd[k]:=⟨_,rfl⟩;have hv:v∈w.zd:=by rw[hx];exact pY hk
  have hg:(w.zd.map zJ)[k]?=some (zJ v):=by rw[pj,pa hk,hx];rfl
  have m2:(v.zp.map zI).length=v.zp.length:=pB ..;have sk:=Kt hV w.zd hk;rw[<-hx]at sk;have sl:=M4 hV w.zd (k+1);have sw:(w.zd.map hV).sum<4000000000000000000:=hw.sum;have bg:=hw.lg v hv;conv=>whnf
  refine uF ?_;(refine tj hg ?_)
  rw[m2];refine zW.seq v.zp.length (λj=>(.za::.ref 0 [] 8 0 0::I 0::I (((w.zd.take k).map hV).sum+((v.zp.take j).map hG).sum:Nat)::.za::.ref 1 [] 5 0 0::.za::.za::.za::.za::.za::.za::.za::(lV w.zd)::I w.zd.length::I k::.za::.za::.za::.za::(lG v.zp)::I v.zp.length::I j::mF (mF (mF ([.za,.za,.za,.za,.za]))))) (λj=>[oW w,⟨1,69,5,[zJ v],0⟩]) (λk=>True) ?_ trivial (λj hj _=>?_) (λ_=>?_)
  ·exact cC
  ·obtain⟨g,hxg⟩:∃g,g=v.zp[j]:=⟨_,rfl⟩;have hgm:g∈v.zp:=by rw[hxg];exact pY hj
   have hgg:(v.zp.map zI)[j]?=some (zI g):=by rw[pj,pa hj,hxg];rfl
   have m3:(g.ends.map zF).length=g.ends.length:=pB ..;have sj:=Kt hG v.zp hj;rw[<-hxg]at sj;have sjl:=M4 hG v.zp (j+1);have sjv:(v.zp.map hG).sum=hV v:=rfl;have be:=hw.le v hv g hgm;conv=>whnf
   refine uF ?_;(refine tj hgg ?_)
   rw[m3];refine zW.seq g.ends.length (λn=>(.za::.ref 0 [] 8 0 0::I 0::I (((w.zd.take k).map hV).sum+((v.zp.take j).map hG).sum+((g.ends.take n).map hE).sum:Nat)::.za::.ref 1 [] 5 0 0::.za::.ref 2 [] 2 0 0::.za::.za::.za::.za::.za::(lV w.zd)::I w.zd.length::I k::.za::.za::.za::.za::(lG v.zp)::I v.zp.length::I j::.za::.za::.za::.za::(lE g.ends)::I g.ends.length::I n::mF (mF ([.za,.za,.za,.za,.za,.za])))) (λn=>[oW w,⟨1,69,5,[zJ v],0⟩,⟨1,72,2,[zI g],0⟩]) (λk=>True) ?_ trivial (λn hn _=>?_) (λ_=>?_)
   ·exact cC
   ·obtain⟨e,hxe⟩:∃e,e=g.ends[n]:=⟨_,rfl⟩;have hem:e∈g.ends:=by rw[hxe];exact pY hn
    have hge:(g.ends.map zF)[n]?=some (zF e):=by rw[pj,pa hn,hxe];rfl
    obtain⟨eo,ei,el⟩:=hw.ok v hv g hgm e hem;have sn:=Kt hE g.ends hn;rw[<-hxe]at sn;have snl:=M4 hE g.ends (n+1);have sng:(g.ends.map hE).sum=hG g:=rfl;have m4:(e.next.map Go.Hy.encI).length=e.next.length:=pB ..;have m5:((Slp.qo e).1.map Go.Hy.encI).length=(Slp.qo e).1.length:=pB ..;have en:=eo.2.1.2;conv=>whnf
    refine uF ?_;(refine tj hge ?_)
    refine ah (Slp.HU e eo) ?_;refine ah (Slp.Gi e eo) ?_;rw[ei];refine tf ?_
    rw[m4,m5]
    have q1:IntKind.i64.wrap ((e.next.length:Int)-((Slp.qo e).1.length:Int))=((hE e:Nat):Int):=by
     rw[qi aw aw];unfold hE;omega
    have q2:IntKind.i64.wrap (((((w.zd.take k).map hV).sum+((v.zp.take j).map hG).sum+((g.ends.take n).map hE).sum:Nat):Int)+((hE e:Nat):Int))=(((((w.zd.take k).map hV).sum+((v.zp.take j).map hG).sum+((g.ends.take (n+1)).map hE).sum:Nat)):Int):=by
     rw[qi aw aw];omega
    rw[q1,q2,zy aw];refine .inl ⟨rfl,?_,trivial⟩;exact cE 3
   ·have e1:(g.ends.take g.ends.length).map hE=g.ends.map hE:=by rw[rj]
    have e2:(((v.zp.take j).map hG).sum+(g.ends.map hE).sum)=((v.zp.take (j+1)).map hG).sum:=by rw[sj];rfl
    refine uD ?_;rw[e1,uh,e2,zy aw];refine .inl ⟨rfl,?_,trivial⟩;exact cE 2
  ·have e1:(v.zp.take v.zp.length).map hG=v.zp.map hG:=by rw[rj]
   have e2:(((w.zd.take k).map hV).sum+(v.zp.map hG).sum)=((w.zd.take (k+1)).map hV).sum:=by rw[sk];rfl
   refine uD ?_;rw[e1,e2,zy aw];refine .inl ⟨rfl,?_,trivial⟩;exact cE 1
 ·have e1:(w.zd.take w.zd.length).map hV=w.zd.map hV:=by rw[rj]
  refine uD ?_;rw[e1];exact uI
def zz3(e:En):(Slp.qo e).1.length<=e.next.length:=by
 have h1:=(Slp.vK e.next (Slp.zG e)).1;unfold Slp.qo;split
 ·show(Slp.xU _ _ _).length<=_;unfold Slp.xU;simp only[pB,fp];omega
 ·simp
def Ke{α:Type}(f:α->Nat)(b:Nat):∀(l:List α),(∀x∈l,f x<=b)->(l.map f).sum<=l.length*b
 |[],_=>by simp
 |x::l,h=>by
  have:=Ke f b l λy hy=>h y (r8 _ hy)
  have:=h x (r7 ..);rw[se,sR,rF,sL];omega
def KU{N:Nat}{w:Wor}(h:xa w)(t:AE N w)(hN:N<=100000000):QI w:=by
 have oV:∀v∈w.zd,v.zp.length<=4/\∀g∈v.zp,g.ends.length<=4/\1<=g.ends.length/\∀e∈g.ends,Slp.mq e=true/\e.next.length<=4/\1<=e.next.length:=λv hv=>by
  obtain⟨i,hi⟩:=pJ.1 hv;exact(h.my i v hi).1.oV
 refine⟨by have:=t.wC;omega,λv hv=>by have:=(oV v hv).1;omega,λv hv g hg=>by have:=((oV v hv).2 g hg).1;omega,λv hv g hg e he=>⟨((t.oO v hv).2 g hg).2 e he,(((oV v hv).2 g hg).2.2 e he).1,zz3 e⟩,?_⟩
 have q1:∀v∈w.zd,∀g∈v.zp,hG g<=16:=λv hv g hg=>by
  have f:=(oV v hv).2 g hg;have:=Ke hE 4 g.ends λe he=>by have:=(f.2.2 e he).2.1;unfold hE;omega
  have:=f.1;unfold hG;omega
 have q2:∀v∈w.zd,hV v<=64:=λv hv=>by
  have:=Ke hG 16 v.zp λg hg=>q1 v hv g hg
  have:=(oV v hv).1;unfold hV;omega
 have:=Ke hV 64 w.zd q2;have:=t.wC;unfold B0;omega
end Go.Wor
namespace Go.Slp
open Go.Ab Go.Proofs Tryz Go.Hy
def KY{nx:List Int}{i0 s v:Int}(h0:0<=s)(hs:s∉xU nx i0 (xG nx i0)):∀j,j<=xG nx i0->xF (nx.set s.toNat v) i0 j=xF nx i0 j
 |0,_=>rfl
 |j+1,h=>by
  have ih:=KY (v:=v) h0 hs j aw;have hm:xF nx i0 j∈xU nx i0 (xG nx i0):=pZ.2 ⟨j,sJ.2 aw,rfl⟩;have hb:=(Is (vK nx i0).2.2).2 _ hm;have hp:0<=xF nx i0 j:=by unfold oa at hb;simp at hb;omega
  show nv (nx.set s.toNat v) (xF (nx.set s.toNat v) i0 j)=nv nx (xF nx i0 j);rw[ih];exact Tz (λe=>hs (e ▸ hm)) h0 hp
def Wl{nx:List Int}{i0 s v:Int}(h0:0<=s)(hs:s∉xU nx i0 (xG nx i0)){k:Nat}(hk:k<=xG nx i0):xU (nx.set s.toNat v) i0 k=xU nx i0 k:=by
 unfold xU;apply sG
 intro j hj;exact KY h0 hs j (by have:=sJ.1 hj;omega)
def Vy{nx:List Int}{i0 s v:Int}(h0:0<=s)(hs:s∉xU nx i0 (xG nx i0)){k:Nat}(hk:k<=xG nx i0):vA (nx.set s.toNat v) i0 k=vA nx i0 k:=by
 unfold vA;rw[Wl h0 hs hk,KY h0 hs k hk];unfold oa;rw[rX]
def VL{nx:List Int}{i0 s v:Int}(h0:0<=s)(hs:s∉xU nx i0 (xG nx i0)):xG (nx.set s.toNat v) i0=xG nx i0:=by
 obtain⟨c1,c2,c3⟩:=vK nx i0;exact NY (by rw[Vy h0 hs (pI _)];exact c2) λj hj=>by rw[Vy h0 hs aw];exact c3 j hj
def WJ{nx:List Int}{i0 s v:Int}(h0:0<=s)(hs:s∉xU nx i0 (xG nx i0)):m9 (nx.set s.toNat v) i0=m9 nx i0:=by
 unfold m9;rw[VL h0 hs,KY h0 hs _ (pI _)]
def zvo{e:En}{s v:Int}(hi:mq e=true)(h0:0<=s)(hs:s∉(qo e).1):qo {e with next:=e.next.set s.toNat v}=qo e/\mq {e with next:=e.next.set s.toNat v}=true:=by
 have ok:m9 e.next (zG e)=true:=by
  unfold mq at hi;simp only[pG]at hi;exact hi.1.1.1
 have hs:s∉xU e.next (zG e) (xG e.next (zG e)):=by
  unfold qo at hs;rw[pA ok]at hs;exact hs
 refine⟨?_,?_⟩
 ·show(if m9 (e.next.set s.toNat v) (zG e)=true then (xU (e.next.set s.toNat v) (zG e) (xG (e.next.set s.toNat v) (zG e)),(0:Int)) else ([],11))=_;rw[WJ h0 hs,VL h0 hs,Wl h0 hs (pI _)]
  rfl
 ·show(m9 (e.next.set s.toNat v) (zG e) && decide (1<=(e.next.set s.toNat v).length) && decide ((e.next.set s.toNat v).length<=4) && decide (0<=e.zj))=true;rw[WJ h0 hs,rX];exact hi
end Go.Slp
namespace Go.Wor
open Go.Ab Go.Proofs Tryz Go.Gat Go.Nam Go.Hos Go.Con Go.Sna
open Go.Hy hiding encI
def O8{α:Type}(f:α->Nat):∀(l:List α) (i:Nat) {x:α} (y:α),l[i]?=some x->((l.set i y).map f).sum+f x=(l.map f).sum+f y
 |[],i,x,y,h=>by simp at h
 |a::l,0,x,y,h=>by
  have e:a=x:=aq h
  subst e;simp only[u9,se,sR];omega
 |a::l,i+1,x,y,h=>by
  have:=O8 f l i y (aq h);simp only[fY,se,sR];omega
def zqr{w:Wor}(gw:xa w){m:lh}(ht:0<=m.zg/\m.zg<w.pins.length)(hd:m.done=false)(hv:m.version=0)(hc:m.zi=0)(he:m.end_=0)(ho:m.other=0)(hs:m.slot=0)(hl:m.listen= -1)(hi:m.i=0)(hk:m.k=0):∃v g e,ja w m v g e:=by
 have c:=gw.current;obtain⟨v,hv0⟩:∃v,w.zd[0]?=some v:=⟨_,pa aw⟩;have gv:=(gw.my _ v hv0).1;have h0:0<v.zp.length:=aF
 obtain⟨g,e,hg,hee,l1,l2⟩:=Gw gv h0;exact⟨v,g,e,qO.2 gw,ht,hd,aw,by rw[hv];exact hv0,aw,by rw[hc];exact hg,aw,by rw[he];exact hee,aw,aw,aw,aw,aw⟩
def wF(w:Wor)(i j k:Int):Option En:=(w.zd[i.toNat]?).bind λv=>(v.zp[j.toNat]?).bind λg=>g.ends[k.toNat]?
abbrev AG(w:Wor)(m:lh)(v:lJ)(g:Gr)(e':En)(tk:Int):Wor:={w with zd:=w.zd.set m.version.toNat {v with zp:=v.zp.set m.zi.toNat {g with zx:=tk,ends:=g.ends.set m.end_.toNat e'} } }
def J1{w:Wor}{m:lh}{v:lJ}{g:Gr}{e:En}(hat:m7 w m v g e)(e':En)(tk i j k:Int):wF (AG w m v g e' tk) i j k=if i.toNat=m.version.toNat/\j.toNat=m.zi.toNat/\k.toNat=m.end_.toNat then some e' else wF w i j k:=by
 have s1:=(gZ.1 hat.at_).1;have s2:=(gZ.1 hat.mn).1;have s3:=(gZ.1 hat.mM).1;unfold wF AG;dsimp only;by_cases h1:i.toNat=m.version.toNat
 ·rw[h1,pC s1,hat.at_,rh,rh];dsimp only;by_cases h2:j.toNat=m.zi.toNat
  ·rw[h2,pC s2,hat.mn,rh,rh];dsimp only;by_cases h3:k.toNat=m.end_.toNat
   ·rw[h3,pC s3,pA ⟨rfl,rfl,rfl⟩]
   ·rw[pX (λh=>h3 h.symm),pw (λh=>h3 h.2.2)]
  ·rw[pX (λh=>h2 h.symm),pw (λh=>h2 h.2.1)]
 ·rw[pX (λh=>h1 h.symm),pw (λh=>h1 h.1)]
def KF{w:Wor}{m:lh}{v:lJ}{g:Gr}{e:En}(hat:m7 w m v g e):wF w m.version m.zi m.end_=some e:=by
 unfold wF;rw[hat.at_,rh,hat.mn,rh,hat.mM]
def nE(L:List lM)(i j k:Int):Nat:=L.countP λa=>decide (a.version=i/\a.zi=j/\a.end_=k)
def nL(L:List lM)(i:Int):Nat:=L.countP λa=>decide (a.listen=i)
def EU(a b:lM):Prop:=a.version=b.version/\a.zi=b.zi/\a.end_=b.end_/\a.slot=b.slot
structure B5(w:Wor)(a:lM):Prop where
 pos:0<=a.version/\0<=a.zi/\0<=a.end_/\0<=a.slot
 lY:0<=a.listen/\a.listen<w.zf.length
 at_:∃e,wF w a.version a.zi a.end_=some e/\a.slot<e.next.length/\a.slot∉(Slp.qo e).1
structure Ad(w:Wor)(L:List lM)(x:Int):Prop where
 Bq:∀a∈L,B5 w a
 diff:L.Pairwise λa b=>¬EU a b
 lY:∀(i:Nat) l,w.zf[i]?=some l->((nL L i+(if x=i then 1 else 0):Nat):Int)<=l.zj
 ends : ∀i j k e, 0 <= i -> 0 <= j -> 0 <= k -> wF w i j k = some e -> (nE L i j k : Int) <= e.zj
def B5.Am{w:Wor}{m:lh}{v:lJ}{g:Gr}{e e':En}{a:lM}{tk:Int}(f:B5 w a)(hat:m7 w m v g e)(hl:e'.next.length=e.next.length)(hf:a.slot∉(Slp.qo e).1->a.version=m.version->a.zi=m.zi->a.end_=m.end_->a.slot∉(Slp.qo e').1):B5 (AG w m v g e' tk) a:=by
 obtain⟨h1,h2,e0,h3,h4,h5⟩:=f;refine⟨h1,h2,?_⟩;rw[J1 hat];by_cases q:a.version.toNat=m.version.toNat/\a.zi.toNat=m.zi.toNat/\a.end_.toNat=m.end_.toNat
 ·rw[pA q];have p1:=hat.v0;have p2:=hat.g0;have p3:=hat.e0;have q1:a.version=m.version:=by omega
  have q2:a.zi=m.zi:=aw
  have q3:a.end_=m.end_:=aw
  have:=KF hat;rw[<-q1,<-q2,<-q3,h3]at this;cases this
  exact⟨e',rfl,aw,hf h5 q1 q2 q3⟩
 ·rw[pw q];exact⟨e0,h3,h4,h5⟩
def B5.other{w w':Wor}{a:lM}(f:B5 w a)(hv:w'.zd=w.zd)(hl:w'.zf.length=w.zf.length):B5 w' a:=by
 obtain⟨h1,h2,h3⟩:=f;exact⟨h1,aw,by unfold wF at h3 ⊢;rw[hv];exact h3⟩
def Ad.Am{w:Wor}{m:lh}{v:lJ}{g:Gr}{e e':En}{L:List lM}{x tk:Int}(o:Ad w L x)(hat:m7 w m v g e)(hl:e'.next.length=e.next.length)(hf:∀s,s∉(Slp.qo e).1->s∉(Slp.qo e').1)(ha:e.zj<=e'.zj):Ad (AG w m v g e' tk) L x:=by
 refine⟨λa h=>(o.Bq a h).Am hat hl λh1 _ _ _=>hf _ h1,o.diff,o.lY,λi j k e0 hi hj hk h=>?_⟩;rw[J1 hat]at h;split at h
 ·rename_i q;cases h
  have p1:=hat.v0;have p2:=hat.g0;have p3:=hat.e0;have q1:i=m.version:=aw
  have q2:j=m.zi:=aw
  have q3:k=m.end_:=aw
  have:=o.ends _ _ _ e hat.v0 hat.g0 hat.e0 (KF hat);rw[q1,q2,q3];omega
 ·exact o.ends i j k e0 hi hj hk h
def Ad.other{w w':Wor}{L:List lM}{x:Int}(o:Ad w L x)(hv:w'.zd=w.zd)(hl:w'.zf=w.zf):Ad w' L x:=by
 refine⟨λa h=>(o.Bq a h).other hv (by rw[hl]),o.diff,by rw[hl];exact o.lY,?_⟩;unfold wF;rw[hv];exact o.ends
def Ad.set{w:Wor}{L:List lM}{x x':Int}{i:Nat}{l:mj}{n:Int}(o:Ad w L x)(hx:w.zf[i]?=some l)(hn:((nL L i+(if x'=i then 1 else 0):Nat):Int)<=n)(hi:∀j:Nat,j≠i->(x'=j->x=j)):Ad {w with zf:=w.zf.set i {l with zj:=n} } L x':=by
 refine⟨λa h=>(o.Bq a h).other O aj,o.diff,λj l' h=>?_,o.ends⟩;rcases jG h with⟨rfl,rfl,_⟩|⟨hne,h⟩
 ·exact hn
 ·have:=o.lY j l' h;have h3:=hi j (λh=>hne h.symm);by_cases q:x'=j
  ·rw[pA q];rw[pA (h3 q)]at this;exact gh
  ·rw[pw q];omega
def XN(L:List lM)(a:lM)(i:Int):nL (L++[a]) i=nL L i+if a.listen=i then 1 else 0:=by
 unfold nL;rw[sP,sQ];simp
def XM(L:List lM)(a:lM)(i j k:Int):nE (L++[a]) i j k=nE L i j k+if a.version=i/\a.zi=j/\a.end_=k then 1 else 0:=by
 unfold nE;rw[sP,sQ];simp
def Ad.snoc{w:Wor}{m:lh}{v:lJ}{g:Gr}{e e':En}{L:List lM}{tk:Int}(o:Ad w L m.listen)(hat:m7 w m v g e)(f:B5 w (DW m))(d:∀b∈L,¬EU b (DW m))(hl:e'.next.length=e.next.length)(hf:∀s,s∉(Slp.qo e).1->s∉(Slp.qo e').1)(ha:e'.zj=e.zj+1):
  Ad (AG w m v g e' tk) (L++[DW m]) (-1):=by
 refine⟨λa h=>?_,?_,λi l h=>?_,λi j k e0 hi hj hk h=>?_⟩
 ·rcases pV.1 h with h|h
  ·exact(o.Bq a h).Am hat hl λh1 _ _ _=>hf _ h1
  ·rw[pP.1 h];exact f.Am hat hl λh1 _ _ _=>hf _ h1
 ·rw[r9];exact⟨o.diff,List.pairwise_singleton ..,λa ha b hb=>by rw[pP.1 hb];exact d a ha⟩
 ·have:=o.lY i l h;rw[XN,pw (show ¬(-1:Int)=i by omega)];exact gh
 ·rw[XM];rw[J1 hat]at h;have p1:=hat.v0;have p2:=hat.g0;have p3:=hat.e0;split at h
  ·rename_i q;cases h
   have q1:i=m.version:=aw
   have q2:j=m.zi:=aw
   have q3:k=m.end_:=aw
   have:=o.ends _ _ _ e p1 p2 p3 (KF hat);rw[q1,q2,q3];split <;> omega
  ·rename_i q;have:=o.ends i j k e0 hi hj hk h;rw[pw]
   ·exact gh
   ·rintro⟨q1,q2,q3⟩;have q1:m.version=i:=q1;have q2:m.zi=j:=q2;have q3:m.end_=k:=q3;exact q ⟨aw,aw,aw⟩
inductive HI(L:List lM)(h:Nat):Wor->lh->Prop
 |out {w:Wor} {m:lh} (p:m.pc<=4\/(20<=m.pc/\m.answer.kind≠1/\(m.listen<0\/m.pc=23))) (o:Ad w L (-1)) (e:B0 w=h):HI L h w m
 |Mi {w:Wor} {m:lh} (p:(5<=m.pc/\m.pc<=11)\/(20<=m.pc/\m.pc<=22/\m.answer.kind≠1)) (l:0<=m.listen) (o:Ad w L m.listen) (e:B0 w=h):HI L h w m
 |Ql {w:Wor} {m:lh} (p:m.pc=12) (l:0<=m.listen) (o:Ad w L m.listen) (e:B0 w=h+1) (f:B5 w (DW m)) (d:∀b∈L,¬EU b (DW m)):HI L h w m
 |held {w:Wor} {m:lh} (p:20<=m.pc/\m.pc≠22) (k:m.answer.kind=1) (o:Ad w (L++[m.answer]) (-1)) (e:B0 w=h+1):HI L h w m
section
variable {N K:Nat} {w:Wor} {m:lh} {v:lJ} {g:Gr} {e:En} {L:List lM} {h:Nat} {r:Wor×lh×lD}
def HI.early(hi:HI L h w m)(p:m.pc<=4):Ad w L (-1)/\B0 w=h:=by
 cases hi with
 |out q o e=>exact⟨o,e⟩
 |Mi q l o e=>omega
 |Ql q l o e f d=>omega
 |held q k o e=>omega
def HI.l7(hi:HI L h w m)(p:5<=m.pc/\m.pc<=11):0<=m.listen/\Ad w L m.listen/\B0 w=h:=by
 cases hi with
 |out q o e=>omega
 |Mi q l o e=>exact⟨l,o,e⟩
 |Ql q l o e f d=>omega
 |held q k o e=>omega
def zyx{e:En}{s k:Int}(he:e.ok)(hv:Slp.mq e=true)(hh:Slp.zG e=s)(h0:0<=s)(hk:Slp.nv e.next s=k):(Slp.qo e).1=s::(Slp.qo (qE e (Slp.jC e.head k) e.zj)).1/\s∉(Slp.qo (qE e (Slp.jC e.head k) e.zj)).1:=by
 have hp:Slp.Jz e=(qE e (Slp.jC e.head k) e.zj,s,0):=by
  unfold Slp.Jz;rw[pw (by simp[hv]),pw aw,hh,hk]
 obtain⟨_,_,_,_,_,_,_,_,q⟩:=Slp.XK he hp;have q1:=sF Prod.fst q;refine⟨q1,?_⟩;have hd:=Slp.zwv e.next (Slp.zG e);have hf:=sF Prod.fst (Slp.Fm (Slp.C3 hv).1);simp only at hf;rw[<-hf,q1,List.nodup_cons]at hd;exact hd.1
end
end Go.Wor
namespace Go.Wor
open Go.Ab Go.Proofs Tryz Go.Gat Go.Nam Go.Hos Go.Con Go.Sna Go.Pla
open Go.Hy hiding encI
def QL{w:Wor}{i j k:Int}{e:En}(h:wF w i j k=some e):∃v g,w.zd[i.toNat]?=some v/\v.zp[j.toNat]?=some g/\g.ends[k.toNat]?=some e:=by
 unfold wF at h;obtain⟨v,h1,h⟩:=pN.1 h;obtain⟨g,h2,h3⟩:=pN.1 h;exact⟨v,g,h1,h2,h3⟩
def zv0{e:En}{s:Int}(he:e.ok)(hv:Slp.mq e=true)(h0:0<=s)(h1:s<e.next.length)(hn:s∉(Slp.qo e).1):
  Slp.mq ⟨Slp.jC e.head s,e.next.set s.toNat (Slp.zG e),e.zj⟩=true/\(⟨Slp.jC e.head s,e.next.set s.toNat (Slp.zG e),e.zj⟩:En).ok/\(Slp.qo ⟨Slp.jC e.head s,e.next.set s.toNat (Slp.zG e),e.zj⟩).1=s::(Slp.qo e).1:=by
 have hp:Slp.LC e s=(⟨Slp.jC e.head s,e.next.set s.toNat (Slp.zG e),e.zj⟩,0):=by
  unfold Slp.LC;rw[pw (by simp[hv]),pw aw,pw (aq hn)]
 obtain⟨_,_,_,_,_,q1,q2,_,q3⟩:=Slp.zyC he hp;exact⟨q1,q2,sF Prod.fst q3⟩
end Go.Wor
namespace Go.Pla
open Go.Ab Go.Proofs Tryz Go.Hy
def NS{α:Type}{p q:α->Bool}:∀{l:List α},(∀x∈l,p x=q x)->l.findIdx? p=l.findIdx? q
 |[],_=>rfl
 |x::l,h=>by
  rw[tu,tu,h x (r7 ..),NS λy hy=>h y (r8 _ hy)]
def We(given:List lM)(a f:lM){n:Nat}(h:n<given.length):nz (given++[a]) f n=nz given f n:=by
 unfold nz;rw[pD h]
def Td(given:List lM)(a:lM):∀k,k<=given.length->jS (given++[a]) k=jS given k
 |0,_=>rfl
 |k+1,h=>by
  show DE (given++[a]) (jS (given++[a]) k) k=DE given (jS given k) k;have lu:=wu given k aw;rw[Td given a k aw];unfold DE;rw[pD aw];cases hx:given[k]? with
  |none=>rfl
  |some x=>
   dsimp only;rw[NS (p:=nz (given++[a]) x) (q:=nz given x) λn hn=>We given a x (by have:=lu n hn;omega)]
def Ny(given:List lM)(a:lM):qQ (given++[a])=if a.kind=1 then qQ given++[given.length] else match (qQ given).findIdx? (nz given a) with
  |some k=>(qQ given).eraseIdx k
  |none=>qQ given:=by
 have lu:=wu given given.length (pI _);unfold qQ;rw[pL,tt];show DE (given++[a]) (jS (given++[a]) given.length) given.length=_;rw[Td given a _ (pI _)];unfold DE;rw[pT (pI _),sY];show(if a.kind=1 then _ else match (jS given given.length).findIdx? (nz (given++[a]) a) with|some k=>_|none=>_)=_;rw[NS (p:=nz (given++[a]) a) (q:=nz given a) λn hn=>We given a a (lu n hn)]
def n8(given L:List lM):Prop:=(qQ given).map (λi=>given[i]?)=L.map some
def n8.len{given L:List lM}(h:n8 given L):(qQ given).length=L.length:=by
 have:=sF List.length h;simpa using this
theorem X4:n8 [] []:=rfl
def Oh(given:List lM)(a:lM)(l:List Nat)(h:∀n∈l,n<given.length):l.map (λi=>(given++[a])[i]?)=l.map λi=>given[i]?:=
 sG λn hn=>pD (h n hn)
def n8.Y8{given L:List lM}(h:n8 given L){a:lM}(ha:a.kind=1):n8 (given++[a]) (L++[a]):=by
 have lu:∀n∈qQ given,n<given.length:=wu given given.length (pI _);unfold n8 at h ⊢;rw[Ny,pA ha,rD,Oh given a _ lu,h,rD];simp
def n8.other{given L:List lM}(h:n8 given L){a:lM}(ha:a.kind≠1)(h6:a.kind≠6):n8 (given++[a]) L:=by
 have lu:∀n∈qQ given,n<given.length:=wu given given.length (pI _)
 have e:(qQ given).findIdx? (nz given a)=none:=by
  rw[pW];intro n hn;unfold nz;split
  ·unfold BD;rw[sU h6]
   rfl
  ·rfl
 unfold n8 at h ⊢;rw[Ny,pw ha,e];dsimp only;rw[Oh given a _ lu,h]
def n8.head{given L:List lM}{b:lM}(h:n8 given (b::L)):∃i l,qQ given=i::l/\given[i]?=some b/\l.map (λi=>given[i]?)=L.map some:=by
 unfold n8 at h;cases ho:qQ given with
 |nil=>rw[ho]at h;cases h
 |cons i l=>
  rw[ho,se,se]at h;obtain⟨h1,h2⟩:=List.cons.inj h;exact⟨i,l,rfl,h1,h2⟩
end Go.Pla
namespace Go.Beg
open Go.Ab Go.Proofs Tryz Go.Hy Go.Pla
end Go.Beg
namespace Go.Wor
open Go.Ab Go.Proofs Tryz Go.Gat Go.Nam Go.Hos Go.Con Go.Sna Go.Pla
open Go.Hy hiding encI
end Go.Wor
