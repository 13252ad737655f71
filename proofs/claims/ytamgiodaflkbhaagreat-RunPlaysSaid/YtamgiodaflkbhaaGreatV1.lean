import Derived.Test.YtamgiodaflkbhaaGreatVK
import Derived.Test.YtamgiodaflkbhaaGreatVZ
set_option linter.all false
set_option maxRecDepth 100000
set_option maxHeartbeats 4000000
namespace Go.Wor
open Go.Ab Go.Proofs Tryz Go.Gat Go.Nam Go.Hos Go.Con Go.Sna
open Go.Hy hiding encI
variable{α:Type}
def hE(e:En):Nat:=e.next.length-(Slp.xw e).1.length
def hG(g:Gr):Nat:=(g.ends.map hE).sum
def hV(v:fC):Nat:=(v.zg.map hG).sum
def Ad(w:Wor):Nat:=(w.zd.map hV).sum
def GB(f:α->Nat)(l:List α){k:Nat}(h:k<l.length):((l.take (k+1)).map f).sum=((l.take k).map f).sum+f l[k]:=by
 rw[ru h,ry,List.sum_append];simp
def FY(f:α->Nat)(l:List α):∀k,((l.take k).map f).sum<=(l.map f).sum:=λk=>by
 have h:(l.map f).sum=((l.take k).map f).sum+((l.drop k).map f).sum:=by
  rw[<-List.sum_append,<-ry,ug]
 omega
structure MV(w:Wor):Prop where
 lens:w.zd.length<4000000000000000000
 lg:∀v∈w.zd,v.zg.length<4000000000000000000
 le:∀v∈w.zd,∀g∈v.zg,g.ends.length<4000000000000000000
 ok:∀v∈w.zd,∀g∈v.zg,∀e∈g.ends,e.ok/\Slp.fS e=true/\(Slp.xw e).1.length<=e.next.length
 sum:Ad w<4000000000000000000
def QJ(w:Wor)(hw:MV w):th 34 [] [Cw w] (I (Ad w:Nat)) []:=by
 have m1:(w.zd.map zt).length=w.zd.length:=pz ..;have b1:=hw.lens;refine ab func34 ?_;rw[m1];refine zH.seq w.zd.length (λk=>(.za::.ref 0 [] 8 0 0::I 0::I (((w.zd.take k).map hV).sum:Nat)::mL (.za::(lV w.zd)::I w.zd.length::I k::mL (mL (mL (mL ([.za,.za,.za,.za]))))))) (λk=>[oW w]) (λk=>True) ?_ trivial (λk hk _=>?_) (λ_=>?_)
 .exact cC
 .obtain⟨v,hx⟩:∃v,v=w.zd[k]:=⟨_,rfl⟩;have hv:v∈w.zd:=by rw[hx];exact gp
  have hg:(w.zd.map zt)[k]?=some (zt v):=by rw[pw,pq hk,hx];rfl
  have m2:(v.zg.map zy).length=v.zg.length:=pz ..;have sk:=GB hV w.zd hk;rw[<-hx]at sk;have sl:=FY hV w.zd (k+1);have sw:(w.zd.map hV).sum<4000000000000000000:=hw.sum;have bg:=hw.lg v hv;conv=>whnf
  refine zaD ?_
  rw[m2];refine zH.seq v.zg.length (λj=>(.za::.ref 0 [] 8 0 0::I 0::I (((w.zd.take k).map hV).sum+((v.zg.take j).map hG).sum:Nat)::.za::.ref 1 [] 5 0 0::.za::.za::.za::.za::.za::.za::.za::(lV w.zd)::I w.zd.length::I k::.za::.za::.za::.za::(lG v.zg)::I v.zg.length::I j::mL (mL (mL ([.za,.za,.za,.za,.za]))))) (λj=>[oW w,⟨1,106,5,[zt v],0⟩]) (λk=>True) ?_ trivial (λj hj _=>?_) (λ_=>?_)
  .exact cC
  .obtain⟨g,hxg⟩:∃g,g=v.zg[j]:=⟨_,rfl⟩;have hgm:g∈v.zg:=by rw[hxg];exact ph
   have hgg:(v.zg.map zy)[j]?=some (zy g):=by rw[pw,pq hj,hxg];rfl
   have m3:(g.ends.map zx).length=g.ends.length:=pz ..;have sj:=GB hG v.zg hj;rw[<-hxg]at sj;have sjl:=FY hG v.zg (j+1);have sjv:(v.zg.map hG).sum=hV v:=rfl;have be:=hw.le v hv g hgm;conv=>whnf
   refine uF ?_;refine zbh ?_
   rw[m3];refine zH.seq g.ends.length (λn=>(.za::.ref 0 [] 8 0 0::I 0::I (((w.zd.take k).map hV).sum+((v.zg.take j).map hG).sum+((g.ends.take n).map hE).sum:Nat)::.za::.ref 1 [] 5 0 0::.za::.ref 2 [] 2 0 0::.za::.za::.za::.za::.za::(lV w.zd)::I w.zd.length::I k::.za::.za::.za::.za::(lG v.zg)::I v.zg.length::I j::.za::.za::.za::.za::(lE g.ends)::I g.ends.length::I n::mL (mL ([.za,.za,.za,.za,.za,.za])))) (λn=>[oW w,⟨1,106,5,[zt v],0⟩,⟨1,111,2,[zy g],0⟩]) (λk=>True) ?_ trivial (λn hn _=>?_) (λ_=>?_)
   .exact cC
   .obtain⟨e,hxe⟩:∃e,e=g.ends[n]:=⟨_,rfl⟩;have hem:e∈g.ends:=by rw[hxe];exact rj hn
    have hge:(g.ends.map zx)[n]?=some (zx e):=by rw[pw,pq hn,hxe];rfl
    obtain⟨eo,ei,el⟩:=hw.ok v hv g hgm e hem;have sn:=GB hE g.ends hn;rw[<-hxe]at sn;have snl:=FY hE g.ends (n+1);have sng:(g.ends.map hE).sum=hG g:=rfl;have m4:(e.next.map Go.Hy.encI).length=e.next.length:=pz ..;have m5:((Slp.xw e).1.map Go.Hy.encI).length=(Slp.xw e).1.length:=pz ..;have en:=eo.2.1.2;conv=>whnf
    refine uF ?_;(refine te hge ?_)
    refine af (Slp.DZ e eo) ?_;refine af (Slp.B2 e eo) ?_;rw[ei];refine td ?_
    rw[m4,m5]
    have q1:IntKind.i64.wrap ((e.next.length:Int)-((Slp.xw e).1.length:Int))=((hE e:Nat):Int):=by
     rw[jF an an];unfold hE;omega
    have q2:IntKind.i64.wrap (((((w.zd.take k).map hV).sum+((v.zg.take j).map hG).sum+((g.ends.take n).map hE).sum:Nat):Int)+((hE e:Nat):Int))=(((((w.zd.take k).map hV).sum+((v.zg.take j).map hG).sum+((g.ends.take (n+1)).map hE).sum:Nat)):Int):=by
     rw[jF an an];omega
    rw[q1,q2,zk an];refine zap ?_;exact cE 3
   .have e1:(g.ends.take g.ends.length).map hE=g.ends.map hE:=by rw[pQ]
    have e2:(((v.zg.take j).map hG).sum+(g.ends.map hE).sum)=((v.zg.take (j+1)).map hG).sum:=by rw[sj];rfl
    refine uD ?_;rw[e1,sS,e2,zk an];refine zap ?_;exact cE 2
  .have e1:(v.zg.take v.zg.length).map hG=v.zg.map hG:=by rw[pQ]
   have e2:(((w.zd.take k).map hV).sum+(v.zg.map hG).sum)=((w.zd.take (k+1)).map hV).sum:=by rw[sk];rfl
   refine uD ?_;rw[e1,e2,zk an];refine zap ?_;exact cE 1
 .have e1:(w.zd.take w.zd.length).map hV=w.zd.map hV:=by rw[pQ]
  refine uD ?_;rw[e1];exact uI
def WV(e:En):(Slp.xw e).1.length<=e.next.length:=by
 have h1:=(Slp.C9 e.next (Slp.zQ e)).1;unfold Slp.xw;split
 .show(Slp.vQ _ _ _).length<=_;unfold Slp.vQ;simp only[pz,List.length_range];omega
 .simp
def D8{α:Type}(f:α->Nat)(b:Nat):∀(l:List α),(∀x∈l,f x<=b)->(l.map f).sum<=l.length*b
 |[],_=>by simp
 |x::l,h=>by
  have:=D8 f b l λy hy=>h y (rY _ hy)
  have:=h x (sd ..);rw[tp,List.sum_cons,r8,rP];omega
def WZ{N:Nat}{w:Wor}(h:j8 w)(t:il N w)(hN:N<=100000000):MV w:=by
 have mQ:∀v∈w.zd,v.zg.length<=4/\∀g∈v.zg,g.ends.length<=4/\1<=g.ends.length/\∀e∈g.ends,Slp.fS e=true/\e.next.length<=4/\1<=e.next.length:=λv hv=>by
  obtain⟨i,hi⟩:=pV.1 hv;exact(h.iP i v hi).1.mQ
 refine⟨by have:=t.lH;omega,λv hv=>by have:=(mQ v hv).1;omega,λv hv g hg=>by have:=((mQ v hv).2 g hg).1;omega,λv hv g hg e he=>⟨((t.iN v hv).2 g hg).2 e he,(((mQ v hv).2 g hg).2.2 e he).1,WV e⟩,?_⟩
 have q1:∀v∈w.zd,∀g∈v.zg,hG g<=16:=λv hv g hg=>by
  have f:=(mQ v hv).2 g hg;have:=D8 hE 4 g.ends λe he=>by have:=(f.2.2 e he).2.1;unfold hE;omega
  have:=f.1;unfold hG;omega
 have q2:∀v∈w.zd,hV v<=64:=λv hv=>by
  have:=D8 hG 16 v.zg λg hg=>q1 v hv g hg
  have:=(mQ v hv).1;unfold hV;omega
 have:=D8 hV 64 w.zd q2;have:=t.lH;unfold Ad;omega
end Go.Wor
namespace Go.Slp
open Go.Ab Go.Proofs Tryz Go.Hy
end Go.Slp
namespace Go.Wor
open Go.Ab Go.Proofs Tryz Go.Gat Go.Nam Go.Hos Go.Con Go.Sna
open Go.Hy hiding encI
variable{w:Wor}{m:fx}{v:fC}{g:Gr}{e:En}{a:fM}
def As(w:Wor)(i j k:Int):Option En:=(w.zd[i.toNat]?).bind λv=>(v.zg[j.toNat]?).bind λg=>g.ends[k.toNat]?
abbrev DT(w:Wor)(m:fx)(v:fC)(g:Gr)(e':En)(tk:Int):Wor:={w with zd:=w.zd.set m.version.toNat {v with zg:=v.zg.set m.zp.toNat {g with zC:=tk,ends:=g.ends.set m.end_.toNat e'} } }
def Kc(hat:ig w m v g e)(e':En)(tk i j k:Int):As (DT w m v g e' tk) i j k=if i.toNat=m.version.toNat/\j.toNat=m.zp.toNat/\k.toNat=m.end_.toNat then some e' else As w i j k:=by
 have s1:=(px.1 hat.at_).1;have s2:=(px.1 hat.iC).1;have s3:=(px.1 hat.iM).1;unfold As DT;dsimp only;by_cases h1:i.toNat=m.version.toNat
 .rw[h1,pH s1,hat.at_,ri,ri];dsimp only;by_cases h2:j.toNat=m.zp.toNat
  .rw[h2,pH s2,hat.iC,ri,ri];dsimp only;by_cases h3:k.toNat=m.end_.toNat
   .rw[h3,pH s3,pD ⟨rfl,rfl,rfl⟩]
   .rw[rC (λh=>h3 h.symm),pA (λh=>h3 h.2.2)]
  .rw[rC (λh=>h2 h.symm),pA (λh=>h2 h.2.1)]
 .rw[rC (λh=>h1 h.symm),pA (λh=>h1 h.1)]
def LH(hat:ig w m v g e):As w m.version m.zp m.end_=some e:=by
 unfold As;rw[hat.at_,ri,hat.iC,ri,hat.iM]
def nE(L:List fM)(i j k:Int):Nat:=L.countP λa=>decide (a.version=i/\a.zp=j/\a.end_=k)
def nL(L:List fM)(i:Int):Nat:=L.countP λa=>decide (a.listen=i)
def M6(a b:fM):Prop:=a.version=b.version/\a.zp=b.zp/\a.end_=b.end_/\a.slot=b.slot
structure Bg(w:Wor)(a:fM):Prop where
 pos:0<=a.version/\0<=a.zp/\0<=a.end_/\0<=a.slot
 iB:0<=a.listen/\a.listen<w.zc.length
 at_:∃e,As w a.version a.zp a.end_=some e/\a.slot<e.next.length/\a.slot∉(Slp.xw e).1
structure mf(w:Wor)(L:List fM)(x:Int):Prop where
 Ip:∀a∈L,Bg w a
 diff:L.Pairwise λa b=>¬M6 a b
 iB:∀(i:Nat) l,w.zc[i]?=some l->((nL L i+(if x=i then 1 else 0):Nat):Int)<=l.zo
 ends : ∀i j k e, 0 <= i -> 0 <= j -> 0 <= k -> As w i j k = some e -> (nE L i j k : Int) <= e.zo
def Bg.Ag{e':En}{tk:Int}(f:Bg w a)(hat:ig w m v g e)(hl:e'.next.length=e.next.length)(hf:a.slot∉(Slp.xw e).1->a.version=m.version->a.zp=m.zp->a.end_=m.end_->a.slot∉(Slp.xw e').1):Bg (DT w m v g e' tk) a:=by
 obtain⟨h1,h2,e0,h3,h4,h5⟩:=f;refine⟨h1,h2,?_⟩;rw[Kc hat];by_cases q:a.version.toNat=m.version.toNat/\a.zp.toNat=m.zp.toNat/\a.end_.toNat=m.end_.toNat
 .rw[pD q];have p1:=hat.v0;have p2:=hat.g0;have p3:=hat.e0;have q1:a.version=m.version:=by omega
  have q2:a.zp=m.zp:=an
  have q3:a.end_=m.end_:=an
  have:=LH hat;rw[<-q1,<-q2,<-q3,h3]at this;cases this
  exact⟨e',rfl,an,hf h5 q1 q2 q3⟩
 .rw[pA q];exact⟨e0,h3,h4,h5⟩
def Bg.other{w':Wor}(f:Bg w a)(hv:w'.zd=w.zd)(hl:w'.zc.length=w.zc.length):Bg w' a:=by
 obtain⟨h1,h2,h3⟩:=f;exact⟨h1,an,by unfold As at h3|-;rw[hv];exact h3⟩
def mf.Ag{w:Wor}{m:fx}{v:fC}{g:Gr}{e e':En}{L:List fM}{x tk:Int}(o:mf w L x)(hat:ig w m v g e)(hl:e'.next.length=e.next.length)(hf:∀s,s∉(Slp.xw e).1->s∉(Slp.xw e').1)(ha:e.zo<=e'.zo):mf (DT w m v g e' tk) L x:=by
 refine⟨λa h=>(o.Ip a h).Ag hat hl λh1 _ _ _=>hf _ h1,o.diff,o.iB,λi j k e0 hi hj hk h=>?_⟩;rw[Kc hat]at h;split at h
 .rename_i q;cases h
  have p1:=hat.v0;have p2:=hat.g0;have p3:=hat.e0;have q1:i=m.version:=an
  have q2:j=m.zp:=an
  have q3:k=m.end_:=an
  have:=o.ends _ _ _ e hat.v0 hat.g0 hat.e0 (LH hat);rw[q1,q2,q3];omega
 .exact o.ends i j k e0 hi hj hk h
def mf.other{w w':Wor}{L:List fM}{x:Int}(o:mf w L x)(hv:w'.zd=w.zd)(hl:w'.zc=w.zc):mf w' L x:=by
 refine⟨λa h=>(o.Ip a h).other hv (by rw[hl]),o.diff,by rw[hl];exact o.iB,?_⟩;unfold As;rw[hv];exact o.ends
def mf.set{w:Wor}{L:List fM}{x x':Int}{i:Nat}{l:fO}{n:Int}(o:mf w L x)(hx:w.zc[i]?=some l)(hn:((nL L i+(if x'=i then 1 else 0):Nat):Int)<=n)(hi:∀j:Nat,j≠i->(x'=j->x=j)):mf {w with zc:=w.zc.set i {l with zo:=n} } L x':=by
 refine⟨λa h=>(o.Ip a h).other V ah,o.diff,λj l' h=>?_,o.ends⟩;rcases Eu h with⟨rfl,rfl,_⟩|⟨hne,h⟩
 .exact hn
 .have:=o.iB j l' h;have h3:=hi j (λh=>hne h.symm);by_cases q:x'=j
  .rw[pD q];rw[pD (h3 q)]at this;exact gI
  .rw[pA q];omega
inductive HI(L:List fM)(h:Nat):Wor->fx->Prop
 |out {w:Wor} {m:fx} (p:m.pc<=4\/(20<=m.pc/\m.answer.kind≠1/\(m.listen<0\/m.pc=23))) (o:mf w L (-1)) (e:Ad w=h):HI L h w m
 |Fx {w:Wor} {m:fx} (p:(5<=m.pc/\m.pc<=11)\/(20<=m.pc/\m.pc<=22/\m.answer.kind≠1)) (l:0<=m.listen) (o:mf w L m.listen) (e:Ad w=h):HI L h w m
 |Iz {w:Wor} {m:fx} (p:m.pc=12) (l:0<=m.listen) (o:mf w L m.listen) (e:Ad w=h+1) (f:Bg w (Dl m)) (d:∀b∈L,¬M6 b (Dl m)):HI L h w m
 |held {w:Wor} {m:fx} (p:20<=m.pc/\m.pc≠22) (k:m.answer.kind=1) (o:mf w (L++[m.answer]) (-1)) (e:Ad w=h+1):HI L h w m
section
variable {N K:Nat} {w:Wor} {m:fx} {v:fC} {g:Gr} {e:En} {L:List fM} {h:Nat} {r:Wor×fx×fF}
def HI.early(hi:HI L h w m)(p:m.pc<=4):mf w L (-1)/\Ad w=h:=by
 cases hi with
 |out q o e=>exact⟨o,e⟩
 |Fx q l o e=>omega
 |Iz q l o e f d=>omega
 |held q k o e=>omega
def HI.NH(hi:HI L h w m)(p:5<=m.pc/\m.pc<=11):0<=m.listen/\mf w L m.listen/\Ad w=h:=by
 cases hi with
 |out q o e=>omega
 |Fx q l o e=>exact⟨l,o,e⟩
 |Iz q l o e f d=>omega
 |held q k o e=>omega
end
end Go.Wor
namespace Go.Wor
open Go.Ab Go.Proofs Tryz Go.Gat Go.Nam Go.Hos Go.Con Go.Sna Go.Pla
open Go.Hy hiding encI
end Go.Wor
namespace Go.Pla
open Go.Ab Go.Proofs Tryz Go.Hy
def Gu{α:Type}{p q:α->Bool}:∀{l:List α},(∀x∈l,p x=q x)->l.findIdx? p=l.findIdx? q
 |[],_=>rfl
 |x::l,h=>by
  rw[sG,sG,h x (sd ..),Gu λy hy=>h y (rY _ hy)]
def Mb(given:List fM)(a f:fM){n:Nat}(h:n<given.length):fU (given++[a]) f n=fU given f n:=by
 unfold fU;rw[pI h]
def Kr(given:List fM)(a:fM):∀k,k<=given.length->qJ (given++[a]) k=qJ given k
 |0,_=>rfl
 |k+1,h=>by
  show o6 (given++[a]) (qJ (given++[a]) k) k=o6 given (qJ given k) k;have ft:=wO given k an;rw[Kr given a k an];unfold o6;rw[pI an];cases hx:given[k]? with
  |none=>rfl
  |some x=>
   dsimp only;rw[Gu (p:=fU (given++[a]) x) (q:=fU given x) λn hn=>Mb given a x (by have:=ft n hn;omega)]
def U8(given:List fM)(a:fM):q7 (given++[a])=if a.kind=1 then q7 given++[given.length] else match (q7 given).findIdx? (fU given a) with
  |some k=>(q7 given).eraseIdx k
  |none=>q7 given:=by
 have ft:=wO given given.length (pN _);unfold q7;rw[rB,r7];show o6 (given++[a]) (qJ (given++[a]) given.length) given.length=_;rw[Kr given a _ (pN _)];unfold o6;rw[pR (pN _),sM];show(if a.kind=1 then _ else match (qJ given given.length).findIdx? (fU (given++[a]) a) with|some k=>_|none=>_)=_;rw[Gu (p:=fU (given++[a]) a) (q:=fU given a) λn hn=>Mb given a a (ft n hn)]
def AA(given L:List fM):Prop:=(q7 given).map (λi=>given[i]?)=L.map some
def AA.len{given L:List fM}(h:AA given L):(q7 given).length=L.length:=by
 have:=sH List.length h;simpa using this
def Vz(given:List fM)(a:fM)(l:List Nat)(h:∀n∈l,n<given.length):l.map (λi=>(given++[a])[i]?)=l.map λi=>given[i]?:=
 sQ λn hn=>pI (h n hn)
def AA.other{given L:List fM}(h:AA given L){a:fM}(ha:a.kind≠1)(h6:a.kind≠6):AA (given++[a]) L:=by
 have ft:∀n∈q7 given,n<given.length:=wO given given.length (pN _)
 have e:(q7 given).findIdx? (fU given a)=none:=by
  rw[pX];intro n hn;unfold fU;split
  .unfold vh;rw[rW h6]
   rfl
  .rfl
 unfold AA at h|-;rw[U8,pA ha,e];dsimp only;rw[Vz given a _ ft,h]
def AA.head{given L:List fM}{b:fM}(h:AA given (b::L)):∃i l,q7 given=i::l/\given[i]?=some b/\l.map (λi=>given[i]?)=L.map some:=by
 unfold AA at h;cases ho:q7 given with
 |nil=>rw[ho]at h;cases h
 |cons i l=>
  rw[ho,tp,tp]at h;obtain⟨h1,h2⟩:=List.cons.inj h;exact⟨i,l,rfl,h1,h2⟩
end Go.Pla
namespace Go.Beg
open Go.Ab Go.Proofs Tryz Go.Hy Go.Pla
end Go.Beg
namespace Go.Wor
open Go.Ab Go.Proofs Tryz Go.Gat Go.Nam Go.Hos Go.Con Go.Sna Go.Pla
open Go.Hy hiding encI
end Go.Wor
