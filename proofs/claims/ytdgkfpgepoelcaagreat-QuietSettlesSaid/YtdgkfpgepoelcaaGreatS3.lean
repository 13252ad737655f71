import Derived.Test.YtdgkfpgepoelcaaGreatSU
import Derived.Test.YtdgkfpgepoelcaaGreatST
import Derived.Test.YtdgkfpgepoelcaaGreatSC
import Derived.Test.YtdgkfpgepoelcaaGreatSK
import Derived.Test.YtdgkfpgepoelcaaGreatS1
set_option linter.all false
set_option maxRecDepth 100000
set_option maxHeartbeats 4000000
namespace Go.Wor
open Go.Ab Go.Proofs Tryz Go.Gat Go.Nam Go.Hos Go.Con Go.Sna
open Go.Hy hiding encI
def Dz(c:List (List Int))(hc:c.length<4000000000000000000):tc 59 [] [rZ c] (Bo (jl c)) []:=by
 have m1:(c.map zX).length=c.length:=cY ..;refine ab func59 ?_;refine zp.seq c.length (λk=>((rZ c)::.za::Bo false::I k::tJ (tJ ([.za,.za,.za,.za])))) (λk=>[]) (λk=>∀j,(h:j<c.length)->j<k->c[j].length=6) ?_ aj (λk hk hr=>?_) (λhr=>?_)
 .exact cC
 .obtain⟨x,hx⟩:∃x,x=c[k]:=⟨_,rfl⟩;have hg:(c.map zX)[k]?=some (zX x):=by rw[cX,cV hk,hx];rfl
  have m2:(x.map u7).length=x.length:=cY ..;conv=>whnf
  rw[m1];refine zar ?_
  rw[m2];refine⟨λc1=>?_,λc1=>?_⟩
  .have e:jl c=false:=by
    unfold jl;rw[show c.all (λr=>r.length == 6)=false from gi.2 ⟨x,au,by simp at c1|-;omega⟩]
    rfl
   rw[e];refine zaO ?_
   exact uI
  refine dd ?_;refine .inl ⟨rfl,?_,λi hi hij=>?_⟩
  .exact cg
  .by_cases e:i=k
   .subst e;rw[<-hx];simp at c1;omega
   .exact hr i hi ah
 .have e:jl c=(decide (1<=c.length) && decide (c.length<=8)):=by
   unfold jl;rw[show c.all (λr=>r.length == 6)=true from c8.2 λr hm=>by obtain⟨i,hi,rfl⟩:=dk.1 hm;simp[hr i hi hi]]
   rfl
  rw[e];conv=>whnf
  rw[m1];refine zap ?_
  rw[m1];refine⟨λc1=>?_,λc1=>?_⟩
  .have c1:1<=c.length:=by simp at c1;omega
   refine dd ?_;rw[m1];refine⟨λc2=>?_,λc2=>?_⟩
   .refine dd ?_
    (exact⟨.inl V,_,.refl _,uN (by simp at c2;rw[gj c1,gj ah];rfl)⟩)
   .refine dd ?_
    (exact⟨.inl V,_,.refl _,uN (by simp at c2;rw[gj c1,dY ah];rfl)⟩)
  .have c1:¬1<=c.length:=by simp at c1;omega
   refine zab ?_
   (exact⟨.inl V,_,.refl _,uN (by rw[dY c1];rfl)⟩)
def uy(l:List rP)(n:Int):Bool:=l.any λr=>decide (r.version=n) && r.gone
def Eu(l:List rP)(n:Int)(hl:l.length<4000000000000000000):tc 117 [] [lR l,I n] (Bo (uy l n)) []:=by
 have m1:(l.map zW).length=l.length:=cY ..;refine ab func117 ?_;refine zp.seq l.length (λk=>((lR l)::I n::.za::.za::Bo false::I k::tJ (tJ ([.za,.za,.za,.za])))) (λk=>[]) (λk=>∀j,(h:j<l.length)->j<k->(decide (l[j].version=n) && l[j].gone)=false) ?_ aj (λk hk hr=>?_) (λhr=>?_)
 .exact cC
 .obtain⟨x,hx⟩:∃x,x=l[k]:=⟨_,rfl⟩;have hg:(l.map zW)[k]?=some (zW x):=by rw[cX,cV hk,hx];rfl
  have bad:(decide (x.version=n) && x.gone)=true->uy l n=true:=λh=>dQ.2 ⟨x,au,h⟩
  have jI:(decide (x.version=n) && x.gone)=false->∀i,(h:i<l.length)->i<k+1->(decide (l[i].version=n) && l[i].gone)=false:=λh i hi hij=>by
   by_cases e:i=k
   .subst e;rw[<-hx];exact h
   .exact hr i hi ah
  conv=>whnf
  rw[m1];refine zar ?_
  refine⟨λc1=>?_,λc1=>?_⟩
  .have c1:x.version=n:=by simpa using c1
   refine dd ?_;(refine hY hg ?_)
   refine⟨λc2=>?_,λc2=>?_⟩
   .rw[bad (by rw[c2,gj c1];rfl)];refine zaO ?_
    exact uI
   .refine dd ?_;refine .inl ⟨rfl,?_,jI (by rw[c2,gT])⟩;exact cg
  .have c1:¬x.version=n:=by simpa using c1
   refine zab ?_
   refine .inl ⟨rfl,?_,jI (by rw[dY c1];rfl)⟩;exact cg
 .have e:uy l n=false:=by
   unfold uy;rw[dv];intro x hm;obtain⟨i,hi,rfl⟩:=dk.1 hm;simp only[hr i hi hi]
   decide
  rw[e];conv=>whnf
  rw[m1];refine zap ?_
  exact uI
def Dr(s:Sna)(hs:x4 s):tc 212 [] [Cs s] (Cf (wu s)) []:=by
 have m1:(s.rules.map yu).length=s.rules.length:=cY ..;have m2:(s.zc.map jJ).length=s.zc.length:=cY ..;have m3:(s.ze.map qF).length=s.ze.length:=cY ..;have hl:=hs.rules.1;refine ab func212 ?_;refine zp.seq s.rules.length (λk=>(.za::.ref 0 [] 3 0 0:: .ref 1 [] 3 0 0:: .ref 2 [] 3 0 0::I k:: .za::.za::.za::.za::tJ (jp (tJ (tJ (tJ ([]))))))) (λk=>[⟨1,64,3,[xf s],0⟩,⟨1,40,3,[[.rG 1 0 [],.rG 1 0 [],.rG 1 0 []]],0⟩,⟨1,40,3,[[lT s.zc,.gl 3 4 (((s.rules.take k).map (kW s)).map jQ),lC s.ze]],0⟩,⟨4,120,4,((s.rules.take k).map (kW s)).map jQ,0⟩]) (λk=>True) ?_ trivial (λk hk hr=>?_) (λhr=>?_)
 .refine zm.trans (zm.xc 2 1 120 4 V V (.inl V) V V) ?_;exact cC
 .obtain⟨r,hx⟩:∃r,r=s.rules[k]:=⟨_,rfl⟩;have hg:(s.rules.map yu)[k]?=some (yu r):=by rw[cX,cV hk,hx];rfl
  have hlg:(((s.rules.take k).map (kW s)).map jQ).length=k:=aw
  have eg:((s.rules.take (k+1)).map (kW s)).map jQ=((s.rules.take k).map (kW s)).map jQ++[jQ (kW s r)]:=ax
  have hv:∀a b,a=jD s.zc r.listen->b=jC s.ze r.zn->jQ ⟨a,r.host,r.path,b⟩=jQ (kW s r):=λa b h1 h2=>by rw[h1,h2];rfl
  conv=>whnf
  rw[m1];refine zar ?_
  refine⟨λh1=>?_,λh1=>?_⟩
  rotate_left
  .refine zab ?_
   refine⟨λq1=>?_,λq1=>?_⟩;rotate_left;(focus (refine dd ?_;refine hU ?_;(refine⟨rfl,.inr V,ay,aA,dd ?_⟩);(refine .inl ⟨rfl,?_,trivial⟩);(rw[zk ah,eg,<-hv _ _ uZ tA]);exact cE 4));refine dd ?_;(rw[m3]);refine⟨λq2=>?_,λq2=>?_⟩;rotate_left;(focus (refine dd ?_;refine hU ?_;(refine⟨rfl,.inr V,ay,aA,dd ?_⟩);(refine .inl ⟨rfl,?_,trivial⟩);(rw[zk ah,eg,<-hv _ _ uZ tB]);exact cE 4));(have q3:r.zn.toNat<s.ze.length:=by simp at q1 q2;omega);(have gq:(s.ze.map qF)[r.zn.toNat]?=some (qF s.ze[r.zn.toNat]):=by rw[cX,cV q3];rfl);refine zaj ?_;(rw[zk ah,eg,<-hv _ _ uZ (by unfold jC;rw[c7 aC,cV q3])]);exact cE 4
  refine dd ?_;rw[m2];refine⟨λh2=>?_,λh2=>?_⟩
  rotate_left
  .refine zab ?_
   refine⟨λq1=>?_,λq1=>?_⟩;rotate_left;(focus (refine dd ?_;refine hU ?_;(refine⟨rfl,.inr V,ay,aA,dd ?_⟩);(refine .inl ⟨rfl,?_,trivial⟩);(rw[zk ah,eg,<-hv _ _ tC tA]);exact cE 4));refine dd ?_;(rw[m3]);refine⟨λq2=>?_,λq2=>?_⟩;rotate_left;(focus (refine dd ?_;refine hU ?_;(refine⟨rfl,.inr V,ay,aA,dd ?_⟩);(refine .inl ⟨rfl,?_,trivial⟩);(rw[zk ah,eg,<-hv _ _ tC tB]);exact cE 4));(have q3:r.zn.toNat<s.ze.length:=by simp at q1 q2;omega);(have gq:(s.ze.map qF)[r.zn.toNat]?=some (qF s.ze[r.zn.toNat]):=by rw[cX,cV q3];rfl);refine zaj ?_;(rw[zk ah,eg,<-hv _ _ tC (by unfold jC;rw[c7 aC,cV q3])]);exact cE 4
  have h3:r.listen.toNat<s.zc.length:=aD
  have gl:(s.zc.map jJ)[r.listen.toNat]?=some (jJ s.zc[r.listen.toNat]):=by rw[cX,cV h3];rfl
  refine zab ?_
  refine⟨by simp at h1;omega,_,gl,dd ?_⟩;refine⟨λq1=>?_,λq1=>?_⟩;rotate_left;(focus (refine dd ?_;refine hU ?_;(refine⟨rfl,.inr V,ay,aA,dd ?_⟩);(refine .inl ⟨rfl,?_,trivial⟩);(rw[zk ah,eg,<-hv _ _ (by unfold jD;rw[c7 aD,cV h3]) tA]);exact cE 4));refine dd ?_;(rw[m3]);refine⟨λq2=>?_,λq2=>?_⟩;rotate_left;(focus (refine dd ?_;refine hU ?_;(refine⟨rfl,.inr V,ay,aA,dd ?_⟩);(refine .inl ⟨rfl,?_,trivial⟩);(rw[zk ah,eg,<-hv _ _ (by unfold jD;rw[c7 aD,cV h3]) tB]);exact cE 4));(have q3:r.zn.toNat<s.ze.length:=by simp at q1 q2;omega);(have gq:(s.ze.map qF)[r.zn.toNat]?=some (qF s.ze[r.zn.toNat]):=by rw[cX,cV q3];rfl);exact zaX
 .conv=>whnf
  rw[m1];refine zap ?_
  rw[dy];exact uI
def Dc(s:Sna)(hs:x4 s):tc 170 [] [Cs s] (Bo (vX s)) []:=by
 refine ab func170 ?_;refine af (Dr s hs) ?_;refine af (DT (wu s) hs.cfg) ?_;refine⟨λh=>?_,λh=>?_⟩
 .refine dd ?_
  (exact⟨.inl V,_,.refl _,uN aE⟩)
 .refine dd ?_
  (exact⟨.inl V,_,.refl _,uN aE⟩)
def Dd(v:rL)(hv:lb v):tc 116 [] [Cv v] (Bo (xN v)) []:=by
 have m1:(v.zg.map zM).length=v.zg.length:=cY ..;have m2:(v.snap.ze.map qF).length=v.snap.ze.length:=cY ..;have hgl:=hv.zg;refine ab func116 ?_;refine af (Dc v.snap hv.snap) ?_;refine⟨λh1=>?_,λh1=>?_⟩
 rotate_left
 .have e:xN v=false:=by unfold xN;rw[h1];rfl
  rw[e];refine zab ?_
  exact uI
 refine dd ?_;rw[m1,m2];refine⟨λh2=>?_,λh2=>?_⟩
 .have e:xN v=false:=by unfold xN;rw[show decide (v.zg.length=v.snap.ze.length)=false from by rw[dz];intro hh;simp[hh]at h2,gT];rfl
  rw[e];refine zab ?_
  exact uI
 have h2':v.zg.length=v.snap.ze.length:=aF
 refine zab ?_
 refine zp.seq v.zg.length (λk=>(.za::.ref 0 [] 5 0 0::Bo false::I k:: .za::.za::.za::tJ (jp (jp ([]))))) (λk=>[⟨1,67,5,[zw v],0⟩]) (λk=>∀j,j<k->xL v j=true) ?_ aj (λk hk hr=>?_) (λhr=>?_)
 .exact cC
 .obtain⟨g,hg⟩:∃g,g=v.zg[k]:=⟨_,rfl⟩;obtain⟨x,hx⟩:∃x,x=v.snap.ze[k]'ah:=⟨_,rfl⟩;have gg:(v.zg.map zM)[k]?=some (zM g):=by rw[cX,cV hk,hg];rfl
  have gx:(v.snap.ze.map qF)[k]?=some (qF x):=by rw[cX,cV ah,hx];rfl
  have hgm:g∈v.zg:=by rw[hg];exact dn hk
  have me:(g.ends.map zP).length=g.ends.length:=cY ..;have mh:(x.zG.map xe).length=x.zG.length:=cY ..;have be:=(hv.ends g hgm).1
  have hd:xL v k=(decide (g.ends.length=x.zG.length) && !g.ends.any (jz x)):=by
   unfold xL;rw[cV hk,cV ah,<-hg,<-hx]
  have bad:xL v k=false->xN v=false:=λh=>by
   unfold xN;rw[show(List.range v.zg.length).all (xL v)=false from gi.2 ⟨k,gG.2 hk,aG⟩,gT]
  have jI:xL v k=true->∀j,j<k+1->xL v j=true:=λh j hj=>by
   by_cases e:j=k
   .subst e;exact h
   .exact hr j ah
  conv=>whnf
  rw[m1];refine uF ?_;refine uE ?_;(refine hY gg ?_)
  rw[me];(refine hY gx ?_)
  rw[mh];refine⟨λh3=>?_,λh3=>?_⟩
  .rw[bad (by rw[hd,dY (by simp at h3;omega)];rfl)];refine zaO ?_
   exact uI
  have h3:g.ends.length=x.zG.length:=by simp at h3;omega
  refine dd ?_;refine zp.seq g.ends.length (λj=>(.za::.ref 0 [] 5 0 0::Bo false::I k::I j:: .za::.za::tJ (jp (jp ([]))))) (λj=>[⟨1,67,5,[zw v],0⟩]) (λj=>∀i,(h:i<g.ends.length)->i<j->jz x g.ends[i]=false) ?_ aj (λj hj hrj=>?_) (λhrj=>?_)
  .exact cC
  .obtain⟨e,hxe⟩:∃e,e=g.ends[j]:=⟨_,rfl⟩;have hem:e∈g.ends:=by rw[hxe];exact dn hj
   have hge:(g.ends.map zP)[j]?=some (zP e):=by rw[cX,cV hj,hxe];rfl
   have eo:=(hv.ends g hgm).2 e hem;have mn:(e.next.map Go.Hy.encI).length=e.next.length:=cY ..
   have bade:jz x e=true->xN v=false:=λh=>bad (by
    rw[hd,show g.ends.any (jz x)=true from dQ.2 ⟨e,hem,h⟩];simp)
   conv=>whnf
   (refine hY gg ?_)
   rw[me];refine uF ?_;(refine hY gg ?_)
   (refine hY hge ?_)
   refine uE ?_;refine af (Go.Slp.yZ e eo) ?_;refine⟨λh4=>?_,λh4=>?_⟩
   rotate_left
   .rw[bade (by unfold jz;rw[h4];rfl)];refine zab ?_
    refine zad ?_
    (try (refine .inr ⟨aj,uH ?_⟩))
    exact uI
   refine dd ?_;rw[mn];(refine hY gx ?_)
   refine⟨λh5=>?_,λh5=>?_⟩
   .rw[bade (by unfold jz;simp at h5;simp[h5])];refine zab ?_
    refine zad ?_
    (try (refine .inr ⟨aj,uH ?_⟩))
    exact uI
   .refine zab ?_
    refine .inl ⟨rfl,?_,λi hi hij=>?_⟩
    .exact cq
    .by_cases q:i=j
     .subst q;rw[<-hxe];unfold jz;simp at h5;rw[h4,h5];simp
     .exact hrj i hi ah
  .have no:g.ends.any (jz x)=false:=by
    rw[dv];intro y hy;obtain⟨i,hi,rfl⟩:=dk.1 hy;simp[hrj i hi hi]
   conv=>whnf
   (refine hY gg ?_)
   rw[me];refine zap ?_
   refine .inl ⟨rfl,?_,jI (by rw[hd,no,gj h3];rfl)⟩;exact cq
 .have e:xN v=true:=by
   unfold xN;rw[h1,gj h2',show(List.range v.zg.length).all (xL v)=true from c8.2 λi hi=>hr i (ak hi)]
   rfl
  rw[e];conv=>whnf
  rw[m1];refine zap ?_
  exact uI
end Go.Wor
namespace Go.Lim
open Go.Ab Go.Proofs Tryz Go.Hy
variable{l:List rP}{v:Int}
def qy(l:List rP)(v:Int):Int:=match l.findIdx? (·.version == v) with|some i=>(i:Int)|none=> -1
def Gn{k:Nat}(rF:k<l.length)(hno:∀j,j<k->∀r,l[j]?=some r->(r.version == v)=false)(h:(l[k].version == v)=true):qy l v=k:=by
 have:l.findIdx? (·.version == v)=some k:=by
  rw[dh];refine⟨rF,h,λj hj=>?_⟩;simp[hno j hj _ (cV ah)]
 unfold qy;rw[this]
def Eo{k:Nat}(hk:¬k<l.length)(hno:∀j,j<k->∀r,l[j]?=some r->(r.version == v)=false):qy l v= -1:=by
 have:l.findIdx? (·.version == v)=none:=by
  rw[dt];intro x hx;obtain⟨j,hj⟩:=di.1 hx;have hjl:=(cW.1 hj).1;exact cR
 unfold qy;rw[this]
def yC(hl:l.length<5864062014700):tc 187 [] [lR l,I v] (I (qy l v)) []:=by
 refine zb.vc (fn:=f187) func187 V (uH ?_) V
 refine zp.inv (λn t1 H1=>∃k,k+n=l.length/\H1=[]/\(∀j,j<k->∀r,l[j]?=some r->(r.version == v)=false)/\
   t1=((lR l)::I v::.za::.za::I 0::I k::tJ ([.za,.za,.za,.za,.za,.za]))) l.length ?_ ?_
 .exact⟨_,_,zm.mask [0,1,4,5] _ _,0,aj,rfl,aj,rfl⟩
 rintro n _ _ ⟨k,hk,rfl,hno,rfl⟩;conv=>whnf
 refine⟨λh=>?_,λh=>?_⟩
 .conv=>whnf
  have rF:k<l.length:=ak h
  refine⟨ah,zW l[k],al,uH ?_⟩;refine⟨λh2=>?_,λh2=>?_⟩
  .conv=>whnf
   refine zaq ?_;exact⟨.inl V,_,.refl _,by rw[Gn rF hno h2];rfl⟩
  .conv=>whnf
   refine .inl ⟨rfl,n-1,_,_,ah,zm.mask [0,1,4,5] _ _,k+1,ah,rfl,?_,?_⟩
   .intro j hj r hr;by_cases hjk:j=k
    .subst hjk;rw[cV rF]at hr;cases hr
     exact h2
    .exact cS
   .rw[zk ah];rfl
 .conv=>whnf
  refine zaq ?_;have hge:¬k<l.length:=ak h
  exact⟨.inl V,_,.refl _,by rw[Eo hge hno];rfl⟩
def okW(l:List rP)(i:Nat)(r:rP):Bool:=!(decide (r.version<0)) && !(decide (r.at_<0)) && (qy l r.version == (i:Int))
def BM{i:Nat}(h:i<l.length):okW l i l[i]=sd l i l[i]:=by
 unfold okW sd
 congr 1
 unfold qy uz;cases hf:l.findIdx? (·.version == l[i].version) with
 |none=>
  rw[dt]at hf;have:=hf l[i] (dn h);simp at this
 |some j=>
  rw[dh]at hf;obtain⟨h1,h2,h3⟩:=hf;rw[pT];simp only[dH,dG,dv];constructor
  .intro e x hx;have e':j=i:=by omega
   subst e';obtain⟨m,hm,rfl⟩:=dk.1 hx;simp at hm;rw[ga];simpa using h3 m ah
  .intro zF;rcases g6 j i with rF|heq|rF
   .have:=zF l[j] (dk.2 ⟨j,aw,by rw[ga]⟩);exact absurd (ak h2) this
   .omega
   .exact absurd aj (h3 i rF)
def yZ(hl:l.length<5864062014700):tc 118 [] [lR l] (Bo (rR l)) []:=by
 refine zb.vc (fn:=f118) func118 V (uH ?_) V
 refine zp.inv (λn t1 H1=>∃k,k+n=l.length/\H1=[]/\(∀j,j<k->(h:j<l.length)->sd l j l[j]=true)/\
   t1=((lR l)::.za::Bo false::I k::tJ (tJ (tJ ([.za,.za,.za,.za,.za,.za,.za]))))) l.length ?_ ?_
 .exact⟨_,_,zm.mask [0,2,3] _ _,0,aj,rfl,aj,rfl⟩
 rintro n _ _ ⟨k,hk,rfl,hno,rfl⟩;conv=>whnf
 refine⟨λh=>?_,λh=>?_⟩
 .conv=>whnf
  have rF:k<l.length:=ak h
  have no:okW l k l[k]=false->rR l=false:=λe=>AT rF (by rw[<-BM rF];exact e)
  have hel:(l.map zW)[(k:Int).toNat]?=some (zW l[k]):=al
  refine⟨ah,zW l[k],hel,uH ?_⟩;refine⟨λh1=>?_,λh1=>?_⟩
  .conv=>whnf
   refine zaq ?_;exact⟨.inl V,_,.refl _,by rw[no (by simp[okW,h1])];rfl⟩
  .conv=>whnf
   refine⟨ah,zW l[k],hel,uH ?_⟩;refine⟨λh2=>?_,λh2=>?_⟩
   .conv=>whnf
    refine zaq ?_;exact⟨.inl V,_,.refl _,by rw[no (by simp[okW,h2])];rfl⟩
   .conv=>whnf
    refine⟨ah,zW l[k],hel,uH ?_⟩;refine⟨_,_,(yC (v:=l[k].version) hl).frame V _,uH ?_⟩;refine⟨λh3=>?_,λh3=>?_⟩
    .conv=>whnf
     refine zaq ?_;have h4:qy l l[k].version≠(k:Int):=ak h3
     exact⟨.inl V,_,.refl _,by rw[no (by simp[okW,h4])];rfl⟩
    .conv=>whnf
     have h4:qy l l[k].version=(k:Int):=ak h3
     refine .inl ⟨rfl,n-1,_,_,ah,zm.mask [0,2,3] _ _,k+1,ah,rfl,?_,?_⟩
     .intro j hj hjl;by_cases hjk:j=k
      .subst hjk;rw[<-BM rF];simp only[okW,h1,h2,h4];simp
      .exact hno j ah hjl
     .rw[zk ah];rfl
 .conv=>whnf
  refine zaq ?_
  have:rR l=true:=by
   unfold rR;rw[decide_eq_true_iff];intro i hi;have:¬k<l.length:=ak h
   exact hno i ah hi
  exact⟨.inl V,_,.refl _,by rw[this];rfl⟩
end Go.Lim
namespace Go.Wor
open Go.Ab Go.Proofs Tryz Go.Gat Go.Nam Go.Hos Go.Con Go.Sna
open Go.Hy hiding encI
variable{w:Wor}{v:rL}{g:Gr}
def vS(w:Wor)(v:rL)(i:Nat):Bool:=xN v && (v.qQ == uy w.zi i)
def j6(w:Wor)(r:rP):Bool:=decide (r.version<0) || decide ((w.zd.length:Int)<=r.version) || r.version == w.current || decide (w.zl<r.at_)
structure eX(w:Wor):Prop where
 rU:∀(j:Nat) l,w.zc[j]?=some l->Go.Gat.rR l=true/\qy w.zc l.name=j
 sf:∀(j:Nat) v,w.zd[j]?=some v->vS w v j=true
 sD:∀r∈w.zi,j6 w r=false
 lq:Go.Lim.rR w.zi=true
def wX(w:Wor)(hw:so w)(b:Bool)(hb:b=true↔eX w):tc 60 [] [Cw w] (Bo b) []:=by
 have m1:(w.zc.map z1).length=w.zc.length:=cY ..;have m2:(w.zd.map zw).length=w.zd.length:=cY ..;have m3:(w.zi.map zW).length=w.zi.length:=cY ..;have b1:=hw.zc.1;have b2:=hw.zd.1;have b3:=hw.zi
 have no:¬eX w->b=false:=λh=>by
  cases e:b with
  |false=>rfl
  |true=>exact absurd (hb.1 e) h
 refine ab func60 ?_;refine zp.seq w.zc.length (λk=>(.za::.ref 0 [] 8 0 0::Bo false::I k:: .za::tJ (jp (jp (tJ (tJ (tJ ([])))))))) (λk=>[oW w]) (λk=>∀j l,j<k->w.zc[j]?=some l->Go.Gat.rR l=true/\qy w.zc l.name=j) ?_ (λj l h=>absurd h ah) (λk hk hr=>?_) (λhr=>?_)
 .exact cC
 .obtain⟨x,hx⟩:∃x,w.zc[k]?=some x:=⟨_,cV hk⟩;have hg:(w.zc.map z1)[k]?=some (z1 x):=by rw[cX,hx];rfl
  have xo:=hw.zc.2 x (cZ hx);conv=>whnf
  rw[m1];refine zas ?_
  refine af (Go.Gat.yZ x xo) ?_;refine⟨λh1=>?_,λh1=>?_⟩
  rotate_left
  .rw[no λq=>by have:=(q.rU k x hx).1;rw[h1]at this;cases this];exact zam
  refine dd ?_;(refine hY hg ?_)
  refine af (Go.Gat.D1 w.zc x.name ah) ?_;refine⟨λh2=>?_,λh2=>?_⟩
  .rw[no λq=>by have:=(q.rU k x hx).2;simp at h2;exact h2 this];exact zam
  .refine zab ?_
   refine .inl ⟨rfl,?_,λj l hj hl=>?_⟩
   .exact cq
   .by_cases q:j=k
    .subst q;rw[hx]at hl;cases hl;simp at h2;exact⟨h1,h2⟩
    .exact hr j l ah hl
 conv=>whnf
 rw[m1];refine zap ?_
 have hL:∀(j:Nat) l,w.zc[j]?=some l->Go.Gat.rR l=true/\qy w.zc l.name=j:=λj l h=>hr j l (cW.1 h).1 h
 clear hr
 refine zp.seq w.zd.length (λk=>(.za::.ref 0 [] 8 0 0::Bo false:: .za::I k:: tJ (jp (jp (tJ (tJ (tJ ([])))))))) (λk=>[oW w]) (λk=>∀j v,j<k->w.zd[j]?=some v->vS w v j=true) ?_ (λj l h=>absurd h ah) (λk hk hr=>?_) (λhr=>?_)
 .exact cC
 .obtain⟨x,hx⟩:∃x,w.zd[k]?=some x:=⟨_,cV hk⟩;have hg:(w.zd.map zw)[k]?=some (zw x):=by rw[cX,hx];rfl
  have xo:=hw.zd.2 x (cZ hx);conv=>whnf
  rw[m2];refine zas ?_
  refine af (Dd x xo) ?_;refine⟨λh1=>?_,λh1=>?_⟩
  rotate_left
  .rw[no λq=>by have:=q.sf k x hx;unfold vS at this;rw[h1]at this;cases this];exact zam
  refine dd ?_;(refine hY hg ?_)
  refine⟨λhf=>?_,λhf=>?_⟩
  all_goals
   refine dd ?_;refine af (Eu w.zi k ah) ?_;refine⟨λh2=>?_,λh2=>?_⟩
   all_goals
    refine zab ?_
    first
     |(rw[no λq=>by have:=q.sf k x hx;unfold vS at this;rw[h1,hf,h2]at this;cases this];refine dd ?_;refine hU ?_;(refine .inr ⟨aj,uH ?_⟩);(exact uI))
     |(refine .inl ⟨rfl,?_,λj l hj hl=>?_⟩
       .exact cq
       .by_cases q:j=k
        .subst q;rw[hx]at hl;cases hl;unfold vS;rw[h1,hf,h2];rfl
        .exact hr j l ah hl)
 conv=>whnf
 rw[m2];refine zap ?_
 have hV:∀(j:Nat) v,w.zd[j]?=some v->vS w v j=true:=λj l h=>hr j l (cW.1 h).1 h
 clear hr
 refine zp.seq w.zi.length (λk=>(.za::.ref 0 [] 8 0 0::Bo false:: .za::.za::I k:: .za::.za::.za::.za::.za::.za::.za::tJ (jp (jp (tJ (tJ ([]))))))) (λk=>[oW w]) (λk=>∀j r,j<k->w.zi[j]?=some r->j6 w r=false) ?_ (λj l h=>absurd h ah) (λk hk hr=>?_) (λhr=>?_)
 .exact cC
 .obtain⟨r,hx⟩:∃x,w.zi[k]?=some x:=⟨_,cV hk⟩;have hg:(w.zi.map zW)[k]?=some (zW r):=by rw[cX,hx];rfl
  have bad:j6 w r=true->b=false:=λh=>no λq=>by
   have:=q.sD r (cZ hx);rw[h]at this;cases this
  conv=>whnf
  rw[m3];refine zar ?_
  refine⟨λh1=>?_,λh1=>?_⟩
  .rw[bad (by unfold j6;rw[h1];rfl)];exact zam
  refine dd ?_;rw[m2];refine⟨λh2=>?_,λh2=>?_⟩
  .rw[bad (by unfold j6;simp at h2;simp[h2])];exact zam
  refine dd ?_;refine⟨λh3=>?_,λh3=>?_⟩
  .rw[bad (by unfold j6;simp at h3;simp[h3])];exact zam
  refine dd ?_;refine⟨λh4=>?_,λh4=>?_⟩
  .rw[bad (by unfold j6;simp at h4;simp[h4])];exact zam
  .refine zab ?_
   refine .inl ⟨rfl,?_,λj l hj hl=>?_⟩
   .exact cq
   .by_cases q:j=k
    .subst q;rw[hx]at hl;cases hl;unfold j6;simp at h1 h2 h3 h4;simp[h1,h2,h3,h4]
    .exact hr j l ah hl
 conv=>whnf
 rw[m3];refine zap ?_
 have hM:∀r∈w.zi,j6 w r=false:=λr hm=>by
  obtain⟨j,hj⟩:=di.1 hm;exact hr j r (cW.1 hj).1 hj
 refine af (Go.Lim.yZ (l:=w.zi) ah) ?_;refine⟨λhI=>?_,λhI=>?_⟩
 .rw[hb.2 ⟨hL,hV,hM,hI⟩];exact cr
 .rw[no λq=>by have:=q.lq;rw[hI]at this;cases this];exact cr
def BK{l:List rP}(h:Go.Lim.rR l=true)(i:Int):uy l i=jW l i:=by
 rw[pT,yS l i (vK h)];unfold uy;simp
def IG(g:qg w):eX w:=by
 refine⟨g.rU,λj v hv=>?_,λr hr=>?_,g.zi⟩
 .obtain⟨h1,h2⟩:=g.sf j v hv;unfold vS;rw[fY.2 h1,BK g.zi,h2];simp
 .obtain⟨i,hi⟩:=di.1 hr;have la:=yc g hi;have:=g.bad r hr;unfold jA at this;unfold j6;simp at this|-;omega
def HP(gg:qn w=true)(hc:0<=w.current/\w.current<w.zd.length)(h:eX w):qg w:=by
 refine⟨gg,hc,h.lq,λr hr=>?_,λj v hv=>?_,h.rU⟩
 .have:=h.sD r hr;unfold j6 at this;unfold jA;simp at this|-;omega
 .have:=h.sf j v hv;unfold vS at this;rw[BK h.lq]at this;simp at this;exact⟨fY.1 this.1,this.2⟩
def vT(w:Wor)(hw:so w):tc 24 [] [Cw w] (Bo (qf w)) []:=by
 have m1:(w.pins.map Go.Hy.encI).length=w.pins.length:=cY ..;have m2:(w.zd.map zw).length=w.zd.length:=cY ..;have m3:(w.counts.map zX).length=w.counts.length:=cY ..;have b1:=hw.pins;have b2:=hw.zd.1;have b3:=hw.counts.1
 have no:¬qg w->qf w=false:=λh=>by
  cases e:qf w with
  |false=>rfl
  |true=>exact absurd (qJ.1 e) h
 have gr:qg w->nU w:=λg=>zZ.1 g.ground
 have n0:w.zl<0->¬qg w:=λh g=>by have:=(gr g).zl;omega
 have n1:w.zl > 1000000000000->¬qg w:=λh g=>by have:=(gr g).zl;omega
 have n2:w.lock<0->¬qg w:=λh g=>by have:=(gr g).lock;omega
 have n3:w.lock > 1->¬qg w:=λh g=>by have:=(gr g).lock;omega
 have n4:w.pins.length<1->¬qg w:=λh g=>by have:=(gr g).pins;omega
 have n5:w.pins.length > 8->¬qg w:=λh g=>by have:=(gr g).pins;omega
 have n6:w.counts.length≠w.pins.length->¬qg w:=λh g=>h (gr g).counts.1
 have n7:jl w.counts=false->¬qg w:=λh g=>by
  have:=g.ground;unfold qn at this;rw[h]at this;simp at this
 refine ab func24 ?_;rw[m1];refine⟨λh1=>?_,λh1=>?_⟩
 .rw[no (n4 (by have:=dq h1;omega))];refine zab ?_
  exact uI
 refine dd ?_;refine⟨λh2=>?_,λh2=>?_⟩
 .rw[no (n5 (by have:=dq h2;omega))];refine zab ?_
  exact uI
 refine dd ?_;rw[m3,m1];refine⟨λh3=>?_,λh3=>?_⟩
 .rw[no (n6 (by have:=h3;simp at this;omega))];refine zab ?_
  exact uI
 have h3:w.counts.length=w.pins.length:=by simp at h3;omega
 refine dd ?_;refine af (Dz w.counts ah) ?_;refine⟨λh4=>?_,λh4=>?_⟩
 rotate_left
 .rw[no (n7 (ak h4))];refine zab ?_
  exact uI
 have h4:jl w.counts=true:=ak h4
 refine dd ?_;refine⟨λh5=>?_,λh5=>?_⟩
 .rw[no (n0 (dq h5))];refine zab ?_
  exact uI
 refine dd ?_;refine⟨λh6=>?_,λh6=>?_⟩
 .rw[no (n1 (dq h6))];refine zab ?_
  exact uI
 refine dd ?_;refine⟨λh7=>?_,λh7=>?_⟩
 .rw[no (n2 (dq h7))];refine zab ?_
  exact uI
 refine dd ?_;refine⟨λh8=>?_,λh8=>?_⟩
 .rw[no (n3 (dq h8))];refine zab ?_
  exact uI
 refine zab ?_
 refine zp.seq w.pins.length (λk=>(.za::.ref 0 [] 8 0 0::Bo false::I k:: .za::.za::.za::.za::.za::tJ (jp (jp (tJ (tJ ([]))))))) (λk=>[oW w]) (λk=>∀j,(h:j<w.pins.length)->j<k->0<=w.pins[j]/\w.pins[j]<=w.zl+1) ?_ aj (λk hk hr=>?_) (λhr=>?_)
 .exact cC
 .obtain⟨x,hx⟩:∃x,w.pins[k]?=some x:=⟨_,cV hk⟩;have hg:(w.pins.map Go.Hy.encI)[k]?=some (Go.Hy.encI x):=by rw[cX,hx];rfl
  have hk':w.pins[k]=x:=(cW.1 hx).2;have nx:¬(0<=x/\x<=w.zl+1)->¬qg w:=λh g=>h ((gr g).sW x (cZ hx))
  conv=>whnf
  rw[m1];refine zas ?_
  refine⟨λq1=>?_,λq1=>?_⟩
  .rw[no (nx (by have:=dq q1;omega))];refine zab ?_
   refine zad ?_
   exact uI
  refine dd ?_;(refine hY hg ?_)
  refine⟨λq2=>?_,λq2=>?_⟩
  .have e0:0<=w.zl/\w.zl<=1000000000000:=by
    have:=dp h5;have:=dp h6;omega
   have q2:=dq q2;rw[z7 ah ah]at q2;rw[no (nx ah)];refine zab ?_
   refine zad ?_
   exact uI
  .have e0:0<=w.zl/\w.zl<=1000000000000:=by
    have:=dp h5;have:=dp h6;omega
   have q1:=dp q1;have q2:=dp q2;rw[z7 ah ah]at q2;refine zab ?_
   refine .inl ⟨rfl,?_,λj hj hl=>?_⟩
   .exact cq
   .by_cases q:j=k
    .subst q;rw[hk'];omega
    .exact cF
 conv=>whnf
 rw[m1]
 have gg:qn w=true:=zZ.2 ⟨by have:=dp h1;have:=dp h2;omega,⟨h3,by unfold jl at h4;simp at h4;exact h4.1.1⟩,by have:=dp h5;have:=dp h6;omega,by have:=dp h7;have:=dp h8;omega,λp hp=>by
  obtain⟨j,hj⟩:=di.1 hp;have q:=hr j (cW.1 hj).1 (cW.1 hj).1;rw[(cW.1 hj).2]at q;exact q⟩
 refine zap ?_
 refine⟨λc1=>?_,λc1=>?_⟩
 .rw[no (λg=>by have:=g.current;have:=dq c1;omega)];refine zab ?_
  exact uI
 refine dd ?_;rw[m2];refine⟨λc2=>?_,λc2=>?_⟩
 .rw[no (λg=>by have:=g.current;have:=dq c2;omega)];refine zab ?_
  exact uI
 have c1:=dp c1;have c2:=dp c2;refine dd ?_;by_cases l:eX w
 rotate_left
 .refine af (wX w hw false ⟨λh=>absurd h aq,λh=>absurd h l⟩) ?_;rw[no (λg=>l (IG g))];refine hU ?_
  exact uI
 have g:qg w:=HP gg ah l;refine af (wX w hw true ⟨λ_=>l,λ_=>V⟩) ?_;refine hU ?_
 obtain⟨v,hv⟩:∃v,w.zd[w.current.toNat]?=some v:=⟨_,cV ah⟩;have hg:(w.zd.map zw)[w.current.toNat]?=some (zw v):=by rw[cX,hv];rfl
 have hf:v.qQ=false:=by
  rw[(g.sf _ v hv).2];cases e:jW w.zi (w.current.toNat:Int) with
  |false=>rfl
  |true=>
   obtain⟨r,hr,h1,_⟩:=(yS _ _ (vK g.zi)).1 e;obtain⟨i,hi⟩:=di.1 hr;have:=(yc g hi).2.2.2.2;omega
 have hw1:qf w=true:=qJ.2 g;refine⟨ah,_,hg,uH ?_⟩;refine⟨λf1=>?_,λf1=>?_⟩
 .rw[hf]at f1;cases f1
 refine zab ?_
 rw[hw1];exact uI
def xX(i n:Int):tc 191 [] [I i,I n] (Bo (r5 i n)) []:=by
 refine ab func191 ?_;refine⟨λh1=>?_,λh1=>?_⟩
 .refine⟨λh2=>?_,λh2=>?_⟩
  .rw[show r5 i n=true from by unfold r5;rw[h1,h2];rfl];exact cr
  .rw[show r5 i n=false from by unfold r5;rw[h2];simp];exact cr
 .rw[show r5 i n=false from by unfold r5;rw[h1];rfl];refine zab ?_
  exact uI
def zN(m:rH)(a c x:Int):tc 144 [] [Cm m,I a,I c,I x] (Ce ⟨m.zO,0,a,c, -1,false,x,false,false,false,wN⟩) []:=by
 refine ab func144 ?_;exact uI
def oY(m:rH)(e:rV)(a:r3):tc 147 [] [Cm m,Ce e,.agg (xy a)] (.rO [Cm {m with done:=true,answer:=a},Ce {e with done:=true,answer:=a}]) []:=by
 refine ab func147 ?_;refine .inl ⟨⟨false,[0,1],[0,1],[]⟩,an,uH ?_⟩;refine hO ?_
 exact uI
def kY(w:Wor)(m:rH)(v:rL)(a c x:Int)(h0:0<=m.version)(hv:w.zd[m.version.toNat]?=some v):tc 140 [] [Cw w,Cm m,I a,I c,I x] (Ce ⟨m.zO,0,a,c,m.version,v.qQ,x,false,false,false,wN⟩) []:=by
 have gv:(w.zd.map zw)[m.version.toNat]?=some (zw v):=by rw[cX,hv];rfl
 refine ab func140 ?_;refine uE ?_;refine⟨h0,_,gv,uH ?_⟩;refine⟨λq=>?_,λq=>?_⟩
 .rw[q];exact cr
 .rw[q];exact cr
def D2(w:Wor)(m:rH)(hw:so w)(hm:i64 m.listen):tc 133 [] [Cw w,Cm m] (Bo (qe w m)) []:=by
 have m1:(w.pins.map Go.Hy.encI).length=w.pins.length:=cY ..;have m2:(w.zd.map zw).length=w.zd.length:=cY ..;have m3:(w.zc.map z1).length=w.zc.length:=cY ..;have b3:=hw.zc.1;refine ab func133 ?_;refine uE ?_;refine af (vT w hw) ?_;refine⟨λh1=>?_,λh1=>?_⟩
 rotate_left
 ·(have e:qe w m=false:=by (unfold qe;(rw[h1]);simp));exact bW
 refine dd ?_;rw[m1];refine af (xX m.zO w.pins.length) ?_;refine⟨λh2=>?_,λh2=>?_⟩
 rotate_left
 ·(have e:qe w m=false:=by (unfold qe;(rw[h2]);simp));exact bW
 refine dd ?_;refine⟨λh3=>?_,λh3=>?_⟩
 ·(have e:qe w m=false:=by (unfold qe;(rw[h3]);simp));exact bW
 refine dd ?_;rw[m2];refine af (xX m.version w.zd.length) ?_;refine⟨λh4=>?_,λh4=>?_⟩
 rotate_left
 ·(have e:qe w m=false:=by (unfold qe;(rw[h4]);simp));exact bW
 obtain⟨c0,c1⟩:=xw.1 h4;have hv:w.zd[m.version.toNat]?=some (w.zd[m.version.toNat]'ah):=cV _;generalize w.zd[m.version.toNat]'ah=v at hv;have gv:(w.zd.map zw)[m.version.toNat]?=some (zw v):=by rw[cX,hv];rfl
 have m4:(v.zg.map zM).length=v.zg.length:=cY ..
 have g0:qe w m=(r5 m.zn v.zg.length && (match v.zg[m.zn.toNat]? with
  |none=>false
  |some g=>r5 m.end_ g.ends.length && r5 m.other g.ends.length && (match g.ends[m.end_.toNat]? with
   |none=>false
   |some e=>r5 m.slot e.next.length) && (r5 (m.listen+1) (w.zc.length+1) && decide (0<=m.i) && decide (0<=m.k)))):=by
  unfold qe;rw[h1,h2,h3,h4,hv]
  rfl
 rw[g0];refine dd ?_;refine⟨c0,_,gv,dd ?_⟩;rw[m4];refine af (xX m.zn v.zg.length) ?_;refine⟨λh5=>?_,λh5=>?_⟩
 rotate_left
 .rw[h5];refine zab ?_
  exact uI
 obtain⟨c2,c3⟩:=xw.1 h5;have hg:v.zg[m.zn.toNat]?=some (v.zg[m.zn.toNat]'ah):=cV _;generalize v.zg[m.zn.toNat]'ah=g at hg;have gg:(v.zg.map zM)[m.zn.toNat]?=some (zM g):=by rw[cX,hg];rfl
 have m5:(g.ends.map zP).length=g.ends.length:=cY ..;rw[h5,hg];dsimp only;refine zab ?_
 refine uE ?_;refine⟨c0,_,gv,uH ?_⟩;refine⟨c2,_,gg,uH ?_⟩;refine uE ?_;rw[m5];refine af (xX m.end_ g.ends.length) ?_;refine⟨λh6=>?_,λh6=>?_⟩
 rotate_left
 .rw[h6];refine zab ?_
  exact uI
 obtain⟨c4,c5⟩:=xw.1 h6;have he:g.ends[m.end_.toNat]?=some (g.ends[m.end_.toNat]'ah):=cV _;generalize g.ends[m.end_.toNat]'ah=e at he;have ge:(g.ends.map zP)[m.end_.toNat]?=some (zP e):=by rw[cX,he];rfl
 have m6:(e.next.map Go.Hy.encI).length=e.next.length:=cY ..;rw[h6,he];dsimp only;refine dd ?_;rw[m5];refine af (xX m.other g.ends.length) ?_;refine⟨λh7=>?_,λh7=>?_⟩
 rotate_left
 .rw[h7];refine zab ?_
  exact uI
 rw[h7];refine dd ?_;refine⟨c4,_,ge,dd ?_⟩;rw[m6];refine af (xX m.slot e.next.length) ?_;refine⟨λh8=>?_,λh8=>?_⟩
 rotate_left
 .rw[h8];refine zab ?_
  exact uI
 rw[h8];refine zab ?_
 refine⟨λq1=>?_,λq1=>?_⟩
 rotate_left
 .refine zab ?_
  (exact⟨.inl V,_,.refl _,uN (by symm;unfold r5;simp at q1|-;omega)⟩)
 refine dd ?_;rw[m3];refine⟨λq2=>?_,λq2=>?_⟩
 rotate_left
 .refine zab ?_
  (exact⟨.inl V,_,.refl _,uN (by symm;unfold r5;simp at q1 q2|-;omega)⟩)
 refine dd ?_;refine⟨λq3=>?_,λq3=>?_⟩
 rotate_left
 .refine zab ?_
  (exact⟨.inl V,_,.refl _,uN (by symm;unfold r5;simp at q1 q2 q3|-;omega)⟩)
 refine dd ?_;refine⟨λq4=>?_,λq4=>?_⟩
 .refine zab ?_
  (exact⟨.inl V,_,.refl _,uN (by symm;unfold r5;simp at q1 q2 q3 q4|-;omega)⟩)
 .refine zab ?_
  (exact⟨.inl V,_,.refl _,uN (by symm;unfold r5;simp at q1 q2 q3 q4|-;omega)⟩)
def vg(v:rL)(k:Nat):Nat:=((v.zg.take k).flatMap (·.ends)).length
def F4{k:Nat}(h:v.zg[k]?=some g):vg v (k+1)=vg v k+g.ends.length:=by
 have e:v.zg.take (k+1)=v.zg.take k++[g]:=by rw[List.take_add_one,h];rfl
 unfold vg;rw[e];simp
def Hx{k:Nat}(h:v.zg[k]?=some g):zY v=(v.zg.take k).flatMap (·.ends)++(g.ends++(v.zg.drop (k+1)).flatMap (·.ends)):=by
 have e:v.zg.drop k=g::v.zg.drop (k+1):=by
  rw[pz (cW.1 h).1,(cW.1 h).2]
 have a:v.zg=v.zg.take k++g::v.zg.drop (k+1):=by rw[<-e,pP]
 show v.zg.flatMap (·.ends)=_;conv=>lhs;rw[a]
 simp
def HO{k n:Nat}(h:v.zg[k]?=some g)(h1:vg v k<=n)(h2:n-vg v k<g.ends.length):(zY v)[n]?=g.ends[n-vg v k]?:=by
 unfold vg at h1 h2|-;rw[Hx h,dg h1,da h2]
def An(v:rL)(hv:tx v)(n:Nat)(e:En)(he:(zY v)[n]?=some e):tc 204 [] [Cv v,I n] (.agg (zP e)) []:=by
 have m1:(v.zg.map zM).length=v.zg.length:=cY ..;have hn:n<(zY v).length:=(cW.1 he).1;have b1:=hv.zg;have hs:(zY v).length<=v.zg.length*1000:=wG v.zg hv.ends;refine ab func204 ?_;refine zp.seq v.zg.length (λk=>((Cv v)::I ((n-vg v k:Nat):Int)::.ref 0 [] 5 0 0::.za::.ref 1 [] 3 0 0::I k::tJ (tJ (tJ (tJ ([.za,.za,.za])))))) (λk=>[⟨1,67,5,[zw v],0⟩,⟨1,141,3,[[U 0,.rG 1 0 [],I 0]],0⟩]) (λk=>vg v k<=n) ?_ (dA _) (λk hk hr=>?_) (λhr=>?_)
 .rw[show n-vg v 0=n from by unfold vg;simp];exact cC
 .obtain⟨g,hg⟩:∃g,v.zg[k]?=some g:=⟨_,cV hk⟩;have gg:(v.zg.map zM)[k]?=some (zM g):=by rw[cX,hg];rfl
  have m2:(g.ends.map zP).length=g.ends.length:=cY ..;have sc:=F4 hg;have gl:=hv.ends g (cZ hg);conv=>whnf
  rw[m1];refine uF ?_;(refine hY gg ?_)
  rw[m2];refine⟨λq=>?_,λq=>?_⟩
  .have q:=dq q;have q:n-vg v k<g.ends.length:=by omega
   have ge:g.ends[n-vg v k]?=some e:=(HO hg hr q).symm.trans he;have ge:(g.ends.map zP)[n-vg v k]?=some (zP e):=by rw[cX,ge];rfl
   refine dd ?_;(refine hY gg ?_)
   (refine hY ge ?_)
   refine zad ?_
   exact uI
  .have q:=dp q;have q:g.ends.length<=n-vg v k:=by omega
   refine dd ?_;(refine hY gg ?_)
   refine .inl ⟨rfl,?_,ah⟩;rw[m2,zk ah,z7 ah ah,show((n-vg v k:Nat):Int)-(g.ends.length:Int)=((n-vg v (k+1):Nat):Int) from ah];exact cE 2
 .exfalso
  have:vg v v.zg.length=(zY v).length:=by unfold vg;rw[dy];rfl
  omega
structure ur(w:Wor)(m:rH):Prop where
 pc:0<=m.pc/\m.pc<=10/\m.pc≠7
 i:0<=m.i
 sW:m.pc=2->m.i<w.pins.length
 ends : m.pc = 5 -> 0 <= m.version /\ ∃v, w.zd[m.version.toNat]? = some v /\ tx v /\ m.k<(zY v).length
 free:m.pc=6->∃r,w.zi[m.i.toNat]?=some r/\r.version=m.version/\r.gone=false
 shut:8<m.pc->∃l,w.zc[m.i.toNat]?=some l/\(m.pc=9\/l.drain=true)
def jN(w:Wor)(m:rH)(hw:so w)(hm:i64 m.listen)(hs:qe w m=true)(h:ur w m):tc 148 [] [Cw w,Cm m] (Bo true) []:=by
 have m1:(w.pins.map Go.Hy.encI).length=w.pins.length:=cY ..;have m2:(w.zd.map zw).length=w.zd.length:=cY ..;have m3:(w.zc.map z1).length=w.zc.length:=cY ..;have m4:(w.zi.map zW).length=w.zi.length:=cY ..;refine ab func148 ?_;refine af (D2 w m hw hm) ?_;rw[hs];refine hU ?_
 refine⟨λq1=>?_,λq1=>?_⟩
 ·(have q:=dq q1);(exact absurd q (by have:=h.pc;omega))
 refine dd ?_;refine⟨λq2=>?_,λq2=>?_⟩
 ·(have q:=dq q2);(exact absurd q (by have:=h.pc;omega))
 refine dd ?_;refine⟨λq3=>?_,λq3=>?_⟩
 .exact absurd (eq_of_beq q3) h.pc.2.2
 refine zab ?_
 refine⟨λp2=>?_,λp2=>?_⟩
 .have p2:=eq_of_beq p2;refine dd ?_;rw[m1];have hp:=h.sW p2;refine⟨λ_=>dd ?_,λq=>absurd hp (dp q)⟩;exact uI
 refine dd ?_;refine⟨λp5=>?_,λp5=>?_⟩
 .have p5:=eq_of_beq p5;obtain⟨v0,v,hv,fv,hk⟩:=h.ends p5;have gv:(w.zd.map zw)[m.version.toNat]?=some (zw v):=by rw[cX,hv];rfl
  refine dd ?_;refine uE ?_;refine⟨v0,_,gv,uH ?_⟩;refine af (oZ v fv) ?_;refine⟨λ_=>dd ?_,λq=>absurd hk (dp q)⟩;exact uI
 refine dd ?_;refine⟨λp6=>?_,λp6=>?_⟩
 .have p6:=eq_of_beq p6;obtain⟨r,hr,hv,hg⟩:=h.free p6;have gr:(w.zi.map zW)[m.i.toNat]?=some (zW r):=by rw[cX,hr];rfl
  have hl:=(cW.1 hr).1;have hi:=h.i;refine dd ?_;refine uE ?_;rw[m4];refine⟨λ_=>dd ?_,λq=>absurd (show m.i<(w.zi.length:Int) by omega) (dp q)⟩;refine⟨hi,_,gr,uH ?_⟩;refine⟨λ_=>dd ?_,λq=>absurd (by rw[hv];exact beq_self_eq_true _:(r.version == m.version)=true) (by rw[q];decide)⟩;refine⟨hi,_,gr,uH ?_⟩;refine⟨λq=>absurd (hg.symm.trans q) aq,λ_=>dd ?_⟩;refine hU ?_
  exact uI
 refine dd ?_;refine⟨λp8=>?_,λp8=>?_⟩
 .have p8:=dq p8;obtain⟨l,hl,hd⟩:=h.shut ah;have gl:(w.zc.map z1)[m.i.toNat]?=some (z1 l):=by rw[cX,hl];rfl
  have hi:=h.i;have hl:=(cW.1 hl).1;refine dd ?_;rw[m3];refine⟨λ_=>dd ?_,λq=>absurd (show m.i<(w.zc.length:Int) by omega) (dp q)⟩;refine⟨λp9=>?_,λp9=>?_⟩
  .refine zab ?_
   exact uI
  refine dd ?_;refine⟨hi,_,gl,uH ?_⟩;have hd:l.drain=true:=hd.resolve_left λq=>by rw[q]at p9;simp at p9
  refine⟨λ_=>dd ?_,λq=>absurd (hd.symm.trans q) aq⟩;refine hU ?_
  exact uI
 refine zab ?_
 exact uI
def vd(w:Wor)(h:x3 w):tc 135 [] [Cw w] (Cw w) []:=by
 have m1:(w.pins.map Go.Hy.encI).length=w.pins.length:=cY ..;have m2:(w.zd.map zw).length=w.zd.length:=cY ..;have m3:(w.zc.map z1).length=w.zc.length:=cY ..;have m4:(w.zi.map zW).length=w.zi.length:=cY ..;have b1:=h.pins;have b2:=h.zd.1;have b3:=h.zc;have b4:=h.zi;refine ab func135 ?_;refine zay ?_;refine zp.seq w.zd.length (λk=>(.za::.ref 0 [] 8 0 0:: .ref 1 [] 8 0 0:: .ref 2 [] 8 0 0::I k:: .za::.za::tJ (jp (jp (jp (jp (tJ ([])))))))) (λk=>[oW w,⟨1,28,8,[sF],0⟩,⟨1,28,8,[[I w.zl,I w.current,I w.lock,.gl 3 1 (w.pins.map Go.Hy.encI),.gl 4 5 ((w.zd.take k).map zw),lL w.zc,rZ w.counts,lR w.zi]],0⟩,⟨4,3,1,(w.pins.map Go.Hy.encI),0⟩,⟨4,67,5,((w.zd.take k).map zw),0⟩]) (λk=>True) ?_ trivial (λk hk _=>?_) (λ_=>?_)
 .refine zm.trans (zm.xc 2 4 67 5 V V (.inl V) V V) ?_;exact cC
 .obtain⟨v,hv⟩:∃v,v=w.zd[k]:=⟨_,rfl⟩;have hgv:(w.zd.map zw)[k]?=some (zw v):=by rw[cX,cV hk,hv];rfl
  have sv:=h.zd.2 v aJ;have m5:(v.zg.map zM).length=v.zg.length:=cY ..;have b5:=sv.1;conv=>whnf
  rw[m2];refine zaB ?_
  refine zp.seq v.zg.length (λj=>(.za::.ref 0 [] 8 0 0:: .ref 1 [] 8 0 0:: .ref 2 [] 8 0 0::I k:: .ref 5 [] 5 0 0::I j:: tJ (jp (jp (jp (jp (tJ ([])))))))) (λj=>[oW w,⟨1,28,8,[sF],0⟩,⟨1,28,8,[[I w.zl,I w.current,I w.lock,.gl 3 1 (w.pins.map Go.Hy.encI),.gl 4 5 ((w.zd.take k).map zw),lL w.zc,rZ w.counts,lR w.zi]],0⟩,⟨4,3,1,(w.pins.map Go.Hy.encI),0⟩,⟨4,67,5,((w.zd.take k).map zw),0⟩,⟨1,67,5,[xf v.snap++[.gl 6 2 ((v.zg.take j).map zM),Bo v.qQ]],0⟩,⟨4,71,2,((v.zg.take j).map zM),0⟩]) (λk=>True) ?_ trivial (λj hj _=>?_) (λ_=>?_)
  .exact cD
  .obtain⟨g,hg⟩:∃g,g=v.zg[j]:=⟨_,rfl⟩;have hgg:(v.zg.map zM)[j]?=some (zM g):=by rw[cX,cV hj,hg];rfl
   have sg:=sv.2 g aK;have m6:(g.ends.map zP).length=g.ends.length:=cY ..;have b6:=sg.1;have lG:(((v.zg.take j).map zM)).length=j:=aw
   have eG:((v.zg.take (j+1)).map zM)=((v.zg.take j).map zM)++[zM g]:=aL
   conv=>whnf
   (refine hY hgv ?_)
   rw[m5];refine zaB ?_
   (refine hY hgg ?_)
   refine zp.seq g.ends.length (λn=>(.za::.ref 0 [] 8 0 0:: .ref 1 [] 8 0 0:: .ref 2 [] 8 0 0::I k:: .ref 5 [] 5 0 0::I j:: .ref 7 [] 2 0 0::I n:: .za::.za::.za::.za::.za::.za::tJ (jp (jp (jp (jp ([]))))))) (λn=>[oW w,⟨1,28,8,[sF],0⟩,⟨1,28,8,[[I w.zl,I w.current,I w.lock,.gl 3 1 (w.pins.map Go.Hy.encI),.gl 4 5 ((w.zd.take k).map zw),lL w.zc,rZ w.counts,lR w.zi]],0⟩,⟨4,3,1,(w.pins.map Go.Hy.encI),0⟩,⟨4,67,5,((w.zd.take k).map zw),0⟩,⟨1,67,5,[xf v.snap++[.gl 6 2 ((v.zg.take j).map zM),Bo v.qQ]],0⟩,⟨4,71,2,((v.zg.take j).map zM),0⟩,⟨1,71,2,[[U g.yi,.gl 8 3 ((g.ends.take n).map zP)]],0⟩,⟨4,141,3,((g.ends.take n).map zP),0⟩]) (λk=>True) ?_ trivial (λn hn _=>?_) (λ_=>?_)
   .exact cB
   .obtain⟨e,he⟩:∃e,e=g.ends[n]:=⟨_,rfl⟩;have hge:(g.ends.map zP)[n]?=some (zP e):=by rw[cX,cV hn,he];rfl
    have se:=sg.2 e aM;have m7:(e.next.map Go.Hy.encI).length=e.next.length:=cY ..;have lE:(((g.ends.take n).map zP)).length=n:=aw
    have eE:((g.ends.take (n+1)).map zP)=((g.ends.take n).map zP)++[zP e]:=aN
    conv=>whnf
    (refine hY hgv ?_)
    (refine hY hgg ?_)
    rw[m6];refine zaB ?_
    (refine hY hgg ?_)
    (refine hY hge ?_)
    exact cb
   .conv=>whnf
    (refine hY hgv ?_)
    (refine hY hgg ?_)
    exact bY
  .have lV:(((w.zd.take k).map zw)).length=k:=by simp;omega
   have eV:((w.zd.take (k+1)).map zw)=((w.zd.take k).map zw)++[zw v]:=aS
   conv=>whnf
   (refine hY hgv ?_)
   rw[m5];refine zai ?_;rw[dy];refine⟨rfl,.inr V,by rw[lV];simp[maxLen];omega,by rw[lV];show(k+1)*104<=_;omega,dd ?_⟩;refine zat ?_;rw[zk ah,eV];exact cE 5
 .conv=>whnf
  rw[m2];refine zai ?_;rw[dy];have m8:(w.counts.map zX).length=w.counts.length:=cY ..;have b8:=h.counts.1;refine .inl ⟨.inl V,.inr V,aH,aT,uH ?_⟩;refine zp.seq w.counts.length (λk=>(.za::.ref 0 [] 8 0 0:: .ref 1 [] 8 0 0:: .ref 2 [] 8 0 0:: .za::.za::.za::.za::.za::.za::.za::I k:: .za::.za::.za::tJ (jp (jp (jp (jp ([]))))))) (λk=>[oW w,⟨1,28,8,[sF],0⟩,⟨1,28,8,[[I w.zl,I w.current,I w.lock,.gl 3 1 (w.pins.map Go.Hy.encI),.gl 4 5 (w.zd.map zw),.gl 5 4 (w.zc.map z1),.gl 6 1 ((w.counts.take k).map zX),lR w.zi]],0⟩,⟨4,3,1,(w.pins.map Go.Hy.encI),0⟩,⟨4,67,5,w.zd.map zw,0⟩,⟨4,81,4,w.zc.map z1,0⟩,⟨4,121,1,((w.counts.take k).map zX),0⟩]) (λk=>True) ?_ trivial (λk hk _=>?_) (λ_=>?_)
  .exact zaR
  .obtain⟨r,hr⟩:∃r,r=w.counts[k]:=⟨_,rfl⟩;have hgr:(w.counts.map zX)[k]?=some (zX r):=by rw[cX,cV hk,hr];rfl
   have sr:=h.counts.2 r aU;have lC:(((w.counts.take k).map zX)).length=k:=aw
   have eC:((w.counts.take (k+1)).map zX)=((w.counts.take k).map zX)++[zX r]:=aV
   conv=>whnf
   refine zaA ?_
   refine⟨?_,?_⟩
   .conv=>whnf
    refine zac ?_
    refine zay ?_;refine zac ?_
    refine zaT ?_
    refine zaC ?_
    exact cp
   .refine⟨?_,trivial⟩;conv=>whnf
    refine zay ?_;refine hO ?_
    refine⟨?_,?_⟩
    .conv=>whnf
     refine zac ?_
     refine zaT ?_
     refine zaC ?_
     exact cp
    .trivial
  .conv=>whnf
   rw[m8];refine zai ?_;rw[dy];refine .inl ⟨.inl V,.inr V,aH,aY,uH ?_⟩;exact uI
def Dt(w x:Wor)(m:rH)(hp:m.pc=1):tc 149 [] [Cw w,Cw x,Cm m] (.rO [Cw x,Cm {m with zl:=w.zl,pc:=2,i:=0},Ce (rY m 1 1 w.zl)]) []:=by
 refine ab func149 ?_;rw[hp];refine hU ?_
 refine .inl ⟨⟨true,[0,1,2,4],[0,1,2],[5]⟩,an,uH ?_⟩;refine af (zN {m with zl:=w.zl,pc:=2,i:=0} 1 1 w.zl) ?_;refine hO ?_
 exact uI
def Ds(w x:Wor)(m:rH)(hp:m.pc=0)(hl:w.lock=0):tc 149 [] [Cw w,Cw x,Cm m] (.rO [Cw {x with lock:=1},Cm {m with pc:=1},Ce (rY m 4 14 1)]) []:=by
 refine ab func149 ?_;rw[hp];refine hU ?_
 rw[hl];refine hU ?_
 refine .inl ⟨⟨true,[0,1,2],[0,1,2],[3]⟩,an,uH ?_⟩;refine af (zN {m with pc:=1} 4 14 1) ?_;refine hO ?_
 exact uI
def C3(w x:Wor)(m:rH)(p:Int)(hp:m.pc=2)(h0:0<=m.i)(hx:w.pins[m.i.toNat]?=some p):tc 149 [] [Cw w,Cw x,Cm m] (.rO [Cw x,Cm (tu w m p),Ce (rY m 1 2 p)]) []:=by
 have m1:(w.pins.map Go.Hy.encI).length=w.pins.length:=cY ..;have hg:(w.pins.map Go.Hy.encI)[m.i.toNat]?=some (Go.Hy.encI p):=by rw[cX,hx];rfl
 refine ab func149 ?_;rw[hp];refine hU ?_
 refine⟨h0,_,hg,uH ?_⟩;by_cases c:p≠0/\p≠IntKind.i64.wrap (m.zl+1)
 .rw[show tu w m p=rW m 4 0 from c7 c];refine⟨λ_=>dd ?_,λh=>absurd c.1 uY⟩;refine⟨λ_=>dd ?_,λh=>absurd c.2 uY⟩;refine hU ?_
  refine .inl ⟨⟨true,[0,1,2],[0,1,2],[4]⟩,an,uH ?_⟩;refine af (zN (rW m 4 0) 1 2 p) ?_;refine hO ?_
  exact uI
 by_cases q:IntKind.i64.wrap (m.i+1)<(w.pins.length:Int)
 .rw[show tu w m p={m with i:=IntKind.i64.wrap (m.i+1),pc:=2} from((c6 c).trans (c7 q)).trans (by rw[<-hp])];by_cases c0:p=0
  .refine⟨λh=>absurd c0 uY,λ_=>?_⟩;refine zab ?_
   exact zau
  .have c1:p=IntKind.i64.wrap (m.zl+1):=Decidable.not_not.1 λh=>c ⟨c0,h⟩
   refine⟨λ_=>dd ?_,λh=>absurd uY c0⟩;refine⟨λh=>absurd c1 uY,λ_=>dd ?_⟩;refine hU ?_
   exact zau
 .rw[show tu w m p=rW m 3 (IntKind.i64.wrap (m.i+1)) from(c6 c).trans (c6 q)];by_cases c0:p=0
  .refine⟨λh=>absurd c0 uY,λ_=>?_⟩;refine zab ?_
   exact zav
  .have c1:p=IntKind.i64.wrap (m.zl+1):=Decidable.not_not.1 λh=>c ⟨c0,h⟩
   refine⟨λ_=>dd ?_,λh=>absurd uY c0⟩;refine⟨λh=>absurd c1 uY,λ_=>dd ?_⟩;refine hU ?_
   exact zav
def C4(w x:Wor)(m:rH)(hp:m.pc=3):tc 149 [] [Cw w,Cw x,Cm m]
  (if w.zl=m.zl/\w.zl<1000000000000 then .rO [Cw {x with zl:=IntKind.i64.wrap (w.zl+1)},Cm {rW m 4 0 with zl:=IntKind.i64.wrap (w.zl+1)},Ce (rY m 4 1 (IntKind.i64.wrap (w.zl+1)))] else .rO [Cw x,Cm (rW m 4 0),Ce (rY m 5 1 w.zl)]) []:=by
 have hc:=zN {m with pc:=3} 5 1 w.zl;refine ab func149 ?_;rw[hp];refine hU ?_
 refine af hc ?_;by_cases c:w.zl=m.zl/\w.zl<1000000000000
 .rw[c7 c];refine⟨λ_=>dd ?_,λh=>absurd c.1 uY⟩;refine⟨λ_=>dd ?_,λh=>absurd c.2 (dp h)⟩;refine .inl ⟨⟨false,[0,1,2],[1,2,6],[]⟩,an,uH ?_⟩;refine hO ?_
  exact uI
 rw[c6 c];by_cases c0:w.zl=m.zl
 .have c1:¬w.zl<1000000000000:=λh=>c ⟨c0,h⟩
  refine⟨λ_=>dd ?_,λh=>absurd uY (λq:¬w.zl=m.zl=>q c0)⟩;refine⟨λh=>absurd (dq h) c1,λ_=>dd ?_⟩;refine hU ?_
  refine .inl ⟨⟨false,[0,1,2],[1,2,6],[]⟩,an,uH ?_⟩;refine hO ?_
  exact uI
 .refine⟨λh=>absurd uY c0,λ_=>?_⟩;refine zab ?_
  refine .inl ⟨⟨false,[0,1,2],[1,2,6],[]⟩,an,uH ?_⟩;refine hO ?_
  exact uI
end Go.Wor
