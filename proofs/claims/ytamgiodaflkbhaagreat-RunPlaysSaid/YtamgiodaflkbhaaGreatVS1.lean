import Derived.Test.YtamgiodaflkbhaaGreatVU
import Derived.Test.YtamgiodaflkbhaaGreatVT
import Derived.Test.YtamgiodaflkbhaaGreatVC
import Derived.Test.YtamgiodaflkbhaaGreatVK
import Derived.Test.YtamgiodaflkbhaaGreatVR
set_option linter.all false
set_option maxRecDepth 100000
set_option maxHeartbeats 4000000
namespace Go.Wor
open Go.Ab Go.Proofs Tryz Go.Gat Go.Nam Go.Hos Go.Con Go.Sna
open Go.Hy hiding encI
def OI(c:List (List Int))(hc:c.length<4000000000000000000):th 194 [] [fJ c] (Bo (yd c)) []:=by
 have m1:(c.map zA).length=c.length:=pz ..;refine ab func194 ?_;refine zH.seq c.length (λk=>((fJ c)::.za::Bo false::I k::mL (mL ([.za,.za,.za,.za])))) (λk=>[]) (λk=>∀j,(h:j<c.length)->j<k->c[j].length=6) ?_ ah (λk hk hr=>?_) (λhr=>?_)
 .exact cC
 .obtain⟨x,hx⟩:∃x,x=c[k]:=⟨_,rfl⟩;have hg:(c.map zA)[k]?=some (zA x):=by rw[pw,pq hk,hx];rfl
  have m2:(x.map qD).length=x.length:=pz ..;conv=>whnf
  rw[m1];refine zaD ?_
  rw[m2];refine⟨λc1=>?_,λc1=>?_⟩
  .have e:yd c=false:=by
    unfold yd;rw[show c.all (λr=>r.length == 6)=false from so.2 ⟨x,bJ,by simp at c1|-;omega⟩]
    rfl
   rw[e];refine zbV ?_
   exact uI
  refine dd ?_;refine .inl ⟨rfl,?_,λi hi hij=>?_⟩
  .exact dK
  .by_cases e:i=k
   .subst e;rw[<-hx];simp at c1;omega
   .exact hr i hi an
 .have e:yd c=(decide (1<=c.length) && decide (c.length<=8)):=by
   unfold yd;rw[show c.all (λr=>r.length == 6)=true from pG.2 λr hm=>by obtain⟨i,hi,rfl⟩:=pU.1 hm;simp[hr i hi hi]]
   rfl
  rw[e];conv=>whnf
  rw[m1];refine zbf ?_
  rw[m1];refine⟨λc1=>?_,λc1=>?_⟩
  .have c1:1<=c.length:=by simp at c1;omega
   refine dd ?_;rw[m1];refine⟨λc2=>?_,λc2=>?_⟩
   .refine dd ?_
    (exact⟨.inl V,_,.refl _,uN (by simp at c2;rw[rX c1,rX an];rfl)⟩)
   .refine dd ?_
    (exact⟨.inl V,_,.refl _,uN (by simp at c2;rw[rX c1,rW an];rfl)⟩)
  .have c1:¬1<=c.length:=by simp at c1;omega
   refine zac ?_
   (exact⟨.inl V,_,.refl _,uN (by rw[rW c1];rfl)⟩)
def BG(l:List fK)(n:Int):Bool:=l.any λr=>decide (r.version=n) && r.gone
def QZ(l:List fK)(n:Int)(hl:l.length<4000000000000000000):th 242 [] [lR l,I n] (Bo (BG l n)) []:=by
 have m1:(l.map qk).length=l.length:=pz ..;refine ab func242 ?_;refine zH.seq l.length (λk=>((lR l)::I n::.za::.za::Bo false::I k::mL (mL ([.za,.za,.za,.za])))) (λk=>[]) (λk=>∀j,(h:j<l.length)->j<k->(decide (l[j].version=n) && l[j].gone)=false) ?_ ah (λk hk hr=>?_) (λhr=>?_)
 .exact cC
 .obtain⟨x,hx⟩:∃x,x=l[k]:=⟨_,rfl⟩;have hg:(l.map qk)[k]?=some (qk x):=by rw[pw,pq hk,hx];rfl
  have bad:(decide (x.version=n) && x.gone)=true->BG l n=true:=λh=>rJ.2 ⟨x,bJ,h⟩
  have lD:(decide (x.version=n) && x.gone)=false->∀i,(h:i<l.length)->i<k+1->(decide (l[i].version=n) && l[i].gone)=false:=λh i hi hij=>by
   by_cases e:i=k
   .subst e;rw[<-hx];exact h
   .exact hr i hi an
  conv=>whnf
  rw[m1];refine zaD ?_
  refine⟨λc1=>?_,λc1=>?_⟩
  .have c1:x.version=n:=by simpa using c1
   refine dd ?_;refine zbR ?_
   refine⟨λc2=>?_,λc2=>?_⟩
   .rw[bad (by rw[c2,rX c1];rfl)];refine zbV ?_
    exact uI
   .refine dd ?_;refine .inl ⟨rfl,?_,lD (by rw[c2,sT])⟩;exact dK
  .have c1:¬x.version=n:=by simpa using c1
   refine zac ?_
   refine .inl ⟨rfl,?_,lD (by rw[rW c1];rfl)⟩;exact dK
 .have e:BG l n=false:=by
   unfold BG;rw[rk];intro x hm;obtain⟨i,hi,rfl⟩:=pU.1 hm;simp only[hr i hi hi]
   decide
  rw[e];conv=>whnf
  rw[m1];refine zbf ?_
  exact uI
def Pr(s:Sna)(hs:y6 s):th 167 [] [Cs s] (Cf (lb s)) []:=by
 have m1:(s.rules.map ju).length=s.rules.length:=pz ..;have m2:(s.zc.map z7).length=s.zc.length:=pz ..;have m3:(s.zj.map jx).length=s.zj.length:=pz ..;have hl:=hs.rules.1;refine ab func167 ?_;refine zH.seq s.rules.length (λk=>(.za::.ref 0 [] 3 0 0:: .ref 1 [] 3 0 0:: .ref 2 [] 3 0 0::I k:: .za::.za::.za::.za::mL (jp (mL (mL (mL ([]))))))) (λk=>[⟨1,86,3,[qV s],0⟩,⟨1,26,3,[[.fq 1 0 [],.fq 1 0 [],.fq 1 0 []]],0⟩,⟨1,26,3,[[lT s.zc,.gl 3 4 (((s.rules.take k).map (lQ s)).map xF),lC s.zj]],0⟩,⟨4,116,4,((s.rules.take k).map (lQ s)).map xF,0⟩]) (λk=>True) ?_ trivial (λk hk hr=>?_) (λhr=>?_)
 .refine zl.trans (zl.qN 2 1 116 4 V V (.inl V) V V) ?_;exact cC
 .obtain⟨r,hx⟩:∃r,r=s.rules[k]:=⟨_,rfl⟩;have hg:(s.rules.map ju)[k]?=some (ju r):=by rw[pw,pq hk,hx];rfl
  have hlg:(((s.rules.take k).map (lQ s)).map xF).length=k:=ar
  have eg:((s.rules.take (k+1)).map (lQ s)).map xF=((s.rules.take k).map (lQ s)).map xF++[xF (lQ s r)]:=bM
  have hv:∀a b,a=xO s.zc r.listen->b=xy s.zj r.zp->xF ⟨a,r.host,r.path,b⟩=xF (lQ s r):=λa b h1 h2=>by rw[h1,h2];rfl
  conv=>whnf
  rw[m1];refine zaD ?_
  refine⟨λh1=>?_,λh1=>?_⟩
  rotate_left
  .refine zac ?_
   refine⟨λq1=>?_,λq1=>?_⟩;rotate_left;(focus (refine dd ?_;refine td ?_;(refine⟨rfl,.inr V,bN,ck,dd ?_⟩);(refine .inl ⟨rfl,?_,trivial⟩);(rw[zk an,eg,<-hv _ _ tP tR]);exact cE 4));refine dd ?_;(rw[m3]);refine⟨λq2=>?_,λq2=>?_⟩;rotate_left;(focus (refine dd ?_;refine td ?_;(refine⟨rfl,.inr V,bN,ck,dd ?_⟩);(refine .inl ⟨rfl,?_,trivial⟩);(rw[zk an,eg,<-hv _ _ tP tS]);exact cE 4));(have q3:r.zp.toNat<s.zj.length:=by simp at q1 q2;omega);(have gq:(s.zj.map jx)[r.zp.toNat]?=some (jx s.zj[r.zp.toNat]):=by rw[pw,pq q3];rfl);refine za3 ?_;(rw[zk an,eg,<-hv _ _ tP (by unfold xy;rw[pD cm,pq q3])]);exact cE 4
  refine dd ?_;rw[m2];refine⟨λh2=>?_,λh2=>?_⟩
  rotate_left
  .refine zac ?_
   refine⟨λq1=>?_,λq1=>?_⟩;rotate_left;(focus (refine dd ?_;refine td ?_;(refine⟨rfl,.inr V,bN,ck,dd ?_⟩);(refine .inl ⟨rfl,?_,trivial⟩);(rw[zk an,eg,<-hv _ _ tT tR]);exact cE 4));refine dd ?_;(rw[m3]);refine⟨λq2=>?_,λq2=>?_⟩;rotate_left;(focus (refine dd ?_;refine td ?_;(refine⟨rfl,.inr V,bN,ck,dd ?_⟩);(refine .inl ⟨rfl,?_,trivial⟩);(rw[zk an,eg,<-hv _ _ tT tS]);exact cE 4));(have q3:r.zp.toNat<s.zj.length:=by simp at q1 q2;omega);(have gq:(s.zj.map jx)[r.zp.toNat]?=some (jx s.zj[r.zp.toNat]):=by rw[pw,pq q3];rfl);refine za3 ?_;(rw[zk an,eg,<-hv _ _ tT (by unfold xy;rw[pD cm,pq q3])]);exact cE 4
  have h3:r.listen.toNat<s.zc.length:=cp
  have gl:(s.zc.map z7)[r.listen.toNat]?=some (z7 s.zc[r.listen.toNat]):=by rw[pw,pq h3];rfl
  refine zac ?_
  refine⟨by simp at h1;omega,_,gl,dd ?_⟩;refine⟨λq1=>?_,λq1=>?_⟩;rotate_left;(focus (refine dd ?_;refine td ?_;(refine⟨rfl,.inr V,bN,ck,dd ?_⟩);(refine .inl ⟨rfl,?_,trivial⟩);(rw[zk an,eg,<-hv _ _ (by unfold xO;rw[pD cp,pq h3]) tR]);exact cE 4));refine dd ?_;(rw[m3]);refine⟨λq2=>?_,λq2=>?_⟩;rotate_left;(focus (refine dd ?_;refine td ?_;(refine⟨rfl,.inr V,bN,ck,dd ?_⟩);(refine .inl ⟨rfl,?_,trivial⟩);(rw[zk an,eg,<-hv _ _ (by unfold xO;rw[pD cp,pq h3]) tS]);exact cE 4));(have q3:r.zp.toNat<s.zj.length:=by simp at q1 q2;omega);(have gq:(s.zj.map jx)[r.zp.toNat]?=some (jx s.zj[r.zp.toNat]):=by rw[pw,pq q3];rfl);exact zcw
 .conv=>whnf
  rw[m1];refine zbf ?_
  exact gN
def IW(s:Sna)(hs:y6 s):th 128 [] [Cs s] (Bo (yO s)) []:=by
 refine ab func128 ?_;refine af (Pr s hs) ?_;refine af (wa (lb s) hs.cfg) ?_;refine⟨λh=>?_,λh=>?_⟩
 .refine dd ?_
  (exact⟨.inl V,_,.refl _,uN cq⟩)
 .refine dd ?_
  (exact⟨.inl V,_,.refl _,uN cq⟩)
def OL(v:fC)(hv:Ft v):th 241 [] [Cv v] (Bo (we v)) []:=by
 have m1:(v.zg.map zy).length=v.zg.length:=pz ..;have m2:(v.snap.zj.map jx).length=v.snap.zj.length:=pz ..;have hgl:=hv.zg;refine ab func241 ?_;refine af (IW v.snap hv.snap) ?_;refine⟨λh1=>?_,λh1=>?_⟩
 rotate_left
 .have e:we v=false:=by unfold we;rw[h1];rfl
  rw[e];refine zac ?_
  exact uI
 refine dd ?_;rw[m1,m2];refine⟨λh2=>?_,λh2=>?_⟩
 .have e:we v=false:=by unfold we;rw[show decide (v.zg.length=v.snap.zj.length)=false from by rw[rD];intro hh;simp[hh]at h2,sT];rfl
  rw[e];refine zac ?_
  exact uI
 have h2':v.zg.length=v.snap.zj.length:=aD
 refine zac ?_
 refine zH.seq v.zg.length (λk=>(.za::.ref 0 [] 5 0 0::Bo false::I k:: .za::.za::.za::mL (jp (jp ([]))))) (λk=>[⟨1,106,5,[zt v],0⟩]) (λk=>∀j,j<k->kS v j=true) ?_ ah (λk hk hr=>?_) (λhr=>?_)
 .exact cC
 .obtain⟨g,hg⟩:∃g,g=v.zg[k]:=⟨_,rfl⟩;obtain⟨x,hx⟩:∃x,x=v.snap.zj[k]'an:=⟨_,rfl⟩;have gg:(v.zg.map zy)[k]?=some (zy g):=by rw[pw,pq hk,hg];rfl
  have gx:(v.snap.zj.map jx)[k]?=some (jx x):=by rw[pw,pq an,hx];rfl
  have hgm:g∈v.zg:=by rw[hg];exact gp
  have me:(g.ends.map zx).length=g.ends.length:=pz ..;have mh:(x.zM.map yK).length=x.zM.length:=pz ..;have be:=(hv.ends g hgm).1
  have hd:kS v k=(decide (g.ends.length=x.zM.length) && !g.ends.any (yC x)):=by
   unfold kS;rw[pq hk,pq an,<-hg,<-hx]
  have bad:kS v k=false->we v=false:=λh=>by
   unfold we;rw[show(List.range v.zg.length).all (kS v)=false from so.2 ⟨k,sy.2 hk,aA⟩,sT]
  have lD:kS v k=true->∀j,j<k+1->kS v j=true:=λh j hj=>by
   by_cases e:j=k
   .subst e;exact h
   .exact hr j an
  conv=>whnf
  rw[m1];refine uF ?_;refine uE ?_;(refine te gg ?_)
  rw[me];(refine te gx ?_)
  rw[mh];refine⟨λh3=>?_,λh3=>?_⟩
  .rw[bad (by rw[hd,rW aF];rfl)];refine zbV ?_
   exact uI
  have h3:g.ends.length=x.zM.length:=aF
  refine dd ?_;refine zH.seq g.ends.length (λj=>(.za::.ref 0 [] 5 0 0::Bo false::I k::I j:: .za::.za::mL (jp (jp ([]))))) (λj=>[⟨1,106,5,[zt v],0⟩]) (λj=>∀i,(h:i<g.ends.length)->i<j->yC x g.ends[i]=false) ?_ ah (λj hj hrj=>?_) (λhrj=>?_)
  .exact cC
  .obtain⟨e,hxe⟩:∃e,e=g.ends[j]:=⟨_,rfl⟩;have hem:e∈g.ends:=by rw[hxe];exact ph
   have hge:(g.ends.map zx)[j]?=some (zx e):=by rw[pw,pq hj,hxe];rfl
   have eo:=(hv.ends g hgm).2 e hem;have mn:(e.next.map Go.Hy.encI).length=e.next.length:=pz ..
   have bade:yC x e=true->we v=false:=λh=>bad (by
    rw[hd,show g.ends.any (yC x)=true from rJ.2 ⟨e,hem,h⟩];simp)
   conv=>whnf
   (refine te gg ?_)
   rw[me];refine uF ?_;(refine te gg ?_)
   (refine te hge ?_)
   refine uE ?_;refine af (Go.Slp.CS e eo) ?_;refine⟨λh4=>?_,λh4=>?_⟩
   rotate_left
   .rw[bade (by unfold yC;rw[h4];rfl)];refine zac ?_
    refine zaw ?_
    refine zbS ?_
    exact uI
   refine dd ?_;rw[mn];(refine te gx ?_)
   refine⟨λh5=>?_,λh5=>?_⟩
   .rw[bade (by unfold yC;simp at h5;simp[h5])];refine zac ?_
    refine zaw ?_
    refine zbS ?_
    exact uI
   .refine zac ?_
    refine .inl ⟨rfl,?_,λi hi hij=>?_⟩
    .exact dG
    .by_cases q:i=j
     .subst q;rw[<-hxe];unfold yC;simp at h5;rw[h4,h5];simp
     .exact hrj i hi an
  .have no:g.ends.any (yC x)=false:=by
    rw[rk];intro y hy;obtain⟨i,hi,rfl⟩:=pU.1 hy;simp[hrj i hi hi]
   conv=>whnf
   (refine te gg ?_)
   rw[me];refine zbf ?_
   refine .inl ⟨rfl,?_,lD (by rw[hd,no,rX h3];rfl)⟩;exact dG
 .have e:we v=true:=by
   unfold we;rw[h1,rX h2',show(List.range v.zg.length).all (kS v)=true from pG.2 λi hi=>hr i (ai hi)]
   rfl
  rw[e];conv=>whnf
  rw[m1];refine zbf ?_
  exact uI
end Go.Wor
namespace Go.Lim
open Go.Ab Go.Proofs Tryz Go.Hy
variable{l:List fK}{v:Int}
def zZ(l:List fK)(v:Int):Int:=match l.findIdx? (·.version == v) with|some i=>(i:Int)|none=> -1
def Va{k:Nat}(ft:k<l.length)(hno:∀j,j<k->∀r,l[j]?=some r->(r.version == v)=false)(h:(l[k].version == v)=true):zZ l v=k:=by
 have:l.findIdx? (·.version == v)=some k:=by
  rw[pT];refine⟨ft,h,λj hj=>?_⟩;simp[hno j hj _ (pq an)]
 unfold zZ;rw[this]
def Rs{k:Nat}(hk:¬k<l.length)(hno:∀j,j<k->∀r,l[j]?=some r->(r.version == v)=false):zZ l v= -1:=by
 have:l.findIdx? (·.version == v)=none:=by
  rw[pX];intro x hx;obtain⟨j,hj⟩:=pV.1 hx;have hjl:=(px.1 hj).1;exact hno j an x hj
 unfold zZ;rw[this]
def vr(hl:l.length<5864062014700):th 273 [] [lR l,I v] (I (zZ l v)) []:=by
 refine zb.Bq (fn:=f273) func273 V (uH ?_) V
 refine zH.inv (λn t1 H1=>∃k,k+n=l.length/\H1=[]/\(∀j,j<k->∀r,l[j]?=some r->(r.version == v)=false)/\
   t1=((lR l)::I v::.za::.za::I 0::I k::mL ([.za,.za,.za,.za,.za,.za]))) l.length ?_ ?_
 .exact⟨_,_,zl.mask [0,1,4,5] _ _,0,ah,rfl,ah,rfl⟩
 rintro n _ _ ⟨k,hk,rfl,hno,rfl⟩;conv=>whnf
 refine⟨λh=>?_,λh=>?_⟩
 .conv=>whnf
  have ft:k<l.length:=ai h
  refine⟨an,qk l[k],aB,uH ?_⟩;refine⟨λh2=>?_,λh2=>?_⟩
  .conv=>whnf
   refine zaW ?_;exact⟨.inl V,_,.refl _,by rw[Va ft hno h2];rfl⟩
  .conv=>whnf
   refine .inl ⟨rfl,n-1,_,_,an,zl.mask [0,1,4,5] _ _,k+1,an,rfl,?_,?_⟩
   .intro j hj r hr;by_cases hjk:j=k
    .subst hjk;rw[pq ft]at hr;cases hr
     exact h2
    .exact hno j an r hr
   .rw[zk an];rfl
 .conv=>whnf
  refine zaW ?_;have hge:¬k<l.length:=ai h
  exact⟨.inl V,_,.refl _,by rw[Rs hge hno];rfl⟩
def okW(l:List fK)(i:Nat)(r:fK):Bool:=!(decide (r.version<0)) && !(decide (r.at_<0)) && (zZ l r.version == (i:Int))
def MB{i:Nat}(h:i<l.length):okW l i l[i]=iG l i l[i]:=by
 unfold okW iG
 congr 1
 unfold zZ BE;cases hf:l.findIdx? (·.version == l[i].version) with
 |none=>
  rw[pX]at hf;have:=hf l[i] (rj h);simp at this
 |some j=>
  rw[pT]at hf;obtain⟨h1,h2,h3⟩:=hf;rw[u6];simp only[rF,rE,rk];constructor
  .intro e x hx;have e':j=i:=by omega
   subst e';obtain⟨m,hm,rfl⟩:=pU.1 hx;simp at hm;rw[ss];simpa using h3 m an
  .intro qd;rcases sC j i with ft|heq|ft
   .have:=qd l[j] (pU.2 ⟨j,ar,by rw[ss]⟩);exact absurd tM this
   .omega
   .exact absurd ah (h3 i ft)
def CS(hl:l.length<5864062014700):th 243 [] [lR l] (Bo (fS l)) []:=by
 refine zb.Bq (fn:=f243) func243 V (uH ?_) V
 refine zH.inv (λn t1 H1=>∃k,k+n=l.length/\H1=[]/\(∀j,j<k->(h:j<l.length)->iG l j l[j]=true)/\
   t1=((lR l)::.za::Bo false::I k::mL (mL (mL ([.za,.za,.za,.za,.za,.za,.za]))))) l.length ?_ ?_
 .exact⟨_,_,zl.mask [0,2,3] _ _,0,ah,rfl,ah,rfl⟩
 rintro n _ _ ⟨k,hk,rfl,hno,rfl⟩;conv=>whnf
 refine⟨λh=>?_,λh=>?_⟩
 .conv=>whnf
  have ft:k<l.length:=ai h
  have no:okW l k l[k]=false->fS l=false:=λe=>KY ft (by rw[<-MB ft];exact e)
  have hel:(l.map qk)[(k:Int).toNat]?=some (qk l[k]):=aB
  refine⟨an,qk l[k],hel,uH ?_⟩;refine⟨λh1=>?_,λh1=>?_⟩
  .conv=>whnf
   refine zaW ?_;exact⟨.inl V,_,.refl _,by rw[no (by simp[okW,h1])];rfl⟩
  .conv=>whnf
   refine⟨an,qk l[k],hel,uH ?_⟩;refine⟨λh2=>?_,λh2=>?_⟩
   .conv=>whnf
    refine zaW ?_;exact⟨.inl V,_,.refl _,by rw[no (by simp[okW,h2])];rfl⟩
   .conv=>whnf
    refine⟨an,qk l[k],hel,uH ?_⟩;refine⟨_,_,(vr (v:=l[k].version) hl).frame V _,uH ?_⟩;refine⟨λh3=>?_,λh3=>?_⟩
    .conv=>whnf
     refine zaW ?_;have h4:zZ l l[k].version≠(k:Int):=ai h3
     exact⟨.inl V,_,.refl _,by rw[no (by simp[okW,h4])];rfl⟩
    .conv=>whnf
     have h4:zZ l l[k].version=(k:Int):=ai h3
     refine .inl ⟨rfl,n-1,_,_,an,zl.mask [0,2,3] _ _,k+1,an,rfl,?_,?_⟩
     .intro j hj hjl;by_cases hjk:j=k
      .subst hjk;rw[<-MB ft];simp only[okW,h1,h2,h4];simp
      .exact hno j an hjl
     .rw[zk an];rfl
 .conv=>whnf
  refine zaW ?_
  have:fS l=true:=by
   unfold fS;rw[decide_eq_true_iff];intro i hi;have:¬k<l.length:=ai h
   exact hno i an hi
  exact⟨.inl V,_,.refl _,by rw[this];rfl⟩
end Go.Lim
namespace Go.Wor
open Go.Ab Go.Proofs Tryz Go.Gat Go.Nam Go.Hos Go.Con Go.Sna
open Go.Hy hiding encI
variable{w:Wor}{v:fC}{g:Gr}
def AT(w:Wor)(v:fC)(i:Nat):Bool:=we v && (v.qH == BG w.zn i)
def vH(w:Wor)(r:fK):Bool:=decide (r.version<0) || decide ((w.zd.length:Int)<=r.version) || r.version == w.current || decide (w.zr<r.at_)
structure CJ(w:Wor):Prop where
 iB:∀(j:Nat) l,w.zc[j]?=some l->Go.Gat.fS l=true/\zZ w.zc l.name=j
 iP:∀(j:Nat) v,w.zd[j]?=some v->AT w v j=true
 lJ:∀r∈w.zn,vH w r=false
 Fy:Go.Lim.fS w.zn=true
def Jh(w:Wor)(hw:fG w)(b:Bool)(hb:b=true↔CJ w):th 195 [] [Cw w] (Bo b) []:=by
 have m1:(w.zc.map zT).length=w.zc.length:=pz ..;have m2:(w.zd.map zt).length=w.zd.length:=pz ..;have m3:(w.zn.map qk).length=w.zn.length:=pz ..;have b1:=hw.zc.1;have b2:=hw.zd.1;have b3:=hw.zn
 have no:¬CJ w->b=false:=λh=>by
  cases e:b with
  |false=>rfl
  |true=>exact absurd (hb.1 e) h
 refine ab func195 ?_;refine zH.seq w.zc.length (λk=>(.za::.ref 0 [] 8 0 0::Bo false::I k:: .za::mL (jp (jp (mL (mL (mL ([])))))))) (λk=>[oW w]) (λk=>∀j l,j<k->w.zc[j]?=some l->Go.Gat.fS l=true/\zZ w.zc l.name=j) ?_ (λj l h=>absurd h an) (λk hk hr=>?_) (λhr=>?_)
 .exact cC
 .obtain⟨x,hx⟩:∃x,w.zc[k]?=some x:=⟨_,pq hk⟩;have hg:(w.zc.map zT)[k]?=some (zT x):=by rw[pw,hx];rfl
  have xo:=hw.zc.2 x (pE hx);conv=>whnf
  rw[m1];refine za8 ?_
  refine af (Go.Gat.CS x xo) ?_;refine⟨λh1=>?_,λh1=>?_⟩
  rotate_left
  .rw[no λq=>by have:=(q.iB k x hx).1;rw[h1]at this;cases this];exact zba
  refine dd ?_;refine zbR ?_
  refine af (Go.Gat.vJ w.zc x.name an) ?_;refine⟨λh2=>?_,λh2=>?_⟩
  .rw[no λq=>by have:=(q.iB k x hx).2;simp at h2;exact h2 this];exact zba
  .refine zac ?_
   refine .inl ⟨rfl,?_,λj l hj hl=>?_⟩
   .exact dG
   .by_cases q:j=k
    .subst q;rw[hx]at hl;cases hl;simp at h2;exact⟨h1,h2⟩
    .exact hr j l an hl
 conv=>whnf
 rw[m1];refine zbf ?_
 have hL:∀(j:Nat) l,w.zc[j]?=some l->Go.Gat.fS l=true/\zZ w.zc l.name=j:=λj l h=>hr j l (px.1 h).1 h
 clear hr
 refine zH.seq w.zd.length (λk=>(.za::.ref 0 [] 8 0 0::Bo false:: .za::I k:: mL (jp (jp (mL (mL (mL ([])))))))) (λk=>[oW w]) (λk=>∀j v,j<k->w.zd[j]?=some v->AT w v j=true) ?_ (λj l h=>absurd h an) (λk hk hr=>?_) (λhr=>?_)
 .exact cC
 .obtain⟨x,hx⟩:∃x,w.zd[k]?=some x:=⟨_,pq hk⟩;have hg:(w.zd.map zt)[k]?=some (zt x):=by rw[pw,hx];rfl
  have xo:=hw.zd.2 x (pE hx);conv=>whnf
  rw[m2];refine za8 ?_
  refine af (OL x xo) ?_;refine⟨λh1=>?_,λh1=>?_⟩
  rotate_left
  .rw[no λq=>by have:=q.iP k x hx;unfold AT at this;rw[h1]at this;cases this];exact zba
  refine dd ?_;refine zbR ?_
  refine⟨λhf=>?_,λhf=>?_⟩
  all_goals
   refine dd ?_;refine af (QZ w.zn k an) ?_;refine⟨λh2=>?_,λh2=>?_⟩
   all_goals
    refine zac ?_
    first
     |(rw[no λq=>by have:=q.iP k x hx;unfold AT at this;rw[h1,hf,h2]at this;cases this];refine dd ?_;refine td ?_;(refine .inr ⟨ah,uH ?_⟩);(exact uI))
     |(refine .inl ⟨rfl,?_,λj l hj hl=>?_⟩
       .exact dG
       .by_cases q:j=k
        .subst q;rw[hx]at hl;cases hl;unfold AT;rw[h1,hf,h2];rfl
        .exact hr j l an hl)
 conv=>whnf
 rw[m2];refine zbf ?_
 have hV:∀(j:Nat) v,w.zd[j]?=some v->AT w v j=true:=λj l h=>hr j l (px.1 h).1 h
 clear hr
 refine zH.seq w.zn.length (λk=>(.za::.ref 0 [] 8 0 0::Bo false:: .za::.za::I k:: .za::.za::.za::.za::.za::.za::.za::mL (jp (jp (mL (mL ([]))))))) (λk=>[oW w]) (λk=>∀j r,j<k->w.zn[j]?=some r->vH w r=false) ?_ (λj l h=>absurd h an) (λk hk hr=>?_) (λhr=>?_)
 .exact cC
 .obtain⟨r,hx⟩:∃x,w.zn[k]?=some x:=⟨_,pq hk⟩;have hg:(w.zn.map qk)[k]?=some (qk r):=by rw[pw,hx];rfl
  have bad:vH w r=true->b=false:=λh=>no λq=>by
   have:=q.lJ r (pE hx);rw[h]at this;cases this
  conv=>whnf
  rw[m3];refine zaD ?_
  refine⟨λh1=>?_,λh1=>?_⟩
  .rw[bad (by unfold vH;rw[h1];rfl)];exact zba
  refine dd ?_;rw[m2];refine⟨λh2=>?_,λh2=>?_⟩
  .rw[bad (by unfold vH;simp at h2;simp[h2])];exact zba
  refine dd ?_;refine⟨λh3=>?_,λh3=>?_⟩
  .rw[bad (by unfold vH;simp at h3;simp[h3])];exact zba
  refine dd ?_;refine⟨λh4=>?_,λh4=>?_⟩
  .rw[bad (by unfold vH;simp at h4;simp[h4])];exact zba
  .refine zac ?_
   refine .inl ⟨rfl,?_,λj l hj hl=>?_⟩
   .exact dG
   .by_cases q:j=k
    .subst q;rw[hx]at hl;cases hl;unfold vH;simp at h1 h2 h3 h4;simp[h1,h2,h3,h4]
    .exact hr j l an hl
 conv=>whnf
 rw[m3];refine zbf ?_
 have hM:∀r∈w.zn,vH w r=false:=λr hm=>by
  obtain⟨j,hj⟩:=pV.1 hm;exact hr j r (px.1 hj).1 hj
 refine af (Go.Lim.CS (l:=w.zn) an) ?_;refine⟨λhI=>?_,λhI=>?_⟩
 .rw[hb.2 ⟨hL,hV,hM,hI⟩];exact dB
 .rw[no λq=>by have:=q.Fy;rw[hI]at this;cases this];exact dB
def MD{l:List fK}(h:Go.Lim.fS l=true)(i:Int):BG l i=yY l i:=by
 rw[u6,wx l i (B3 h)];unfold BG;simp
def Xq(g:j8 w):CJ w:=by
 refine⟨g.iB,λj v hv=>?_,λr hr=>?_,g.zn⟩
 .obtain⟨h1,h2⟩:=g.iP j v hv;unfold AT;rw[Em.2 h1,MD g.zn,h2];simp
 .obtain⟨i,hi⟩:=pV.1 hr;have la:=B4 g hi;have:=g.bad r hr;unfold yD at this;unfold vH;simp at this|-;omega
def WX(gg:jy w=true)(hc:0<=w.current/\w.current<w.zd.length)(h:CJ w):j8 w:=by
 refine⟨gg,hc,h.Fy,λr hr=>?_,λj v hv=>?_,h.iB⟩
 .have:=h.lJ r hr;unfold vH at this;unfold yD;simp at this|-;omega
 .have:=h.iP j v hv;unfold AT at this;rw[MD h.Fy]at this;simp at this;exact⟨Em.1 this.1,this.2⟩
def OM(w:Wor)(hw:fG w):th 143 [] [Cw w] (Bo (j7 w)) []:=by
 have m1:(w.pins.map Go.Hy.encI).length=w.pins.length:=pz ..;have m2:(w.zd.map zt).length=w.zd.length:=pz ..;have m3:(w.counts.map zA).length=w.counts.length:=pz ..;have b1:=hw.pins;have b2:=hw.zd.1;have b3:=hw.counts.1
 have no:¬j8 w->j7 w=false:=λh=>by
  cases e:j7 w with
  |false=>rfl
  |true=>exact absurd (qt.1 e) h
 have gr:j8 w->Iu w:=λg=>j9.1 g.ground
 have n0:w.zr<0->¬j8 w:=λh g=>by have:=(gr g).zr;omega
 have n1:w.zr > 1000000000000->¬j8 w:=λh g=>by have:=(gr g).zr;omega
 have n2:w.lock<0->¬j8 w:=λh g=>by have:=(gr g).lock;omega
 have n3:w.lock > 1->¬j8 w:=λh g=>by have:=(gr g).lock;omega
 have n4:w.pins.length<1->¬j8 w:=λh g=>by have:=(gr g).pins;omega
 have n5:w.pins.length > 8->¬j8 w:=λh g=>by have:=(gr g).pins;omega
 have n6:w.counts.length≠w.pins.length->¬j8 w:=λh g=>h (gr g).counts.1
 have n7:yd w.counts=false->¬j8 w:=λh g=>by
  have:=g.ground;unfold jy at this;rw[h]at this;simp at this
 refine ab func143 ?_;rw[m1];refine⟨λh1=>?_,λh1=>?_⟩
 .rw[no (n4 (by have:=pC h1;omega))];refine zac ?_
  exact uI
 refine dd ?_;refine⟨λh2=>?_,λh2=>?_⟩
 .rw[no (n5 (by have:=pC h2;omega))];refine zac ?_
  exact uI
 refine dd ?_;rw[m3,m1];refine⟨λh3=>?_,λh3=>?_⟩
 .rw[no (n6 (by have:=h3;simp at this;omega))];refine zac ?_
  exact uI
 have h3:w.counts.length=w.pins.length:=aF
 refine dd ?_;refine af (OI w.counts an) ?_;refine⟨λh4=>?_,λh4=>?_⟩
 rotate_left
 .rw[no (n7 (ai h4))];refine zac ?_
  exact uI
 have h4:yd w.counts=true:=ai h4
 refine dd ?_;refine⟨λh5=>?_,λh5=>?_⟩
 .rw[no (n0 (pC h5))];refine zac ?_
  exact uI
 refine dd ?_;refine⟨λh6=>?_,λh6=>?_⟩
 .rw[no (n1 (pC h6))];refine zac ?_
  exact uI
 refine dd ?_;refine⟨λh7=>?_,λh7=>?_⟩
 .rw[no (n2 (pC h7))];refine zac ?_
  exact uI
 refine dd ?_;refine⟨λh8=>?_,λh8=>?_⟩
 .rw[no (n3 (pC h8))];refine zac ?_
  exact uI
 refine zac ?_
 refine zH.seq w.pins.length (λk=>(.za::.ref 0 [] 8 0 0::Bo false::I k:: .za::.za::.za::.za::.za::mL (jp (jp (mL (mL ([]))))))) (λk=>[oW w]) (λk=>∀j,(h:j<w.pins.length)->j<k->0<=w.pins[j]/\w.pins[j]<=w.zr+1) ?_ ah (λk hk hr=>?_) (λhr=>?_)
 .exact cC
 .obtain⟨x,hx⟩:∃x,w.pins[k]?=some x:=⟨_,pq hk⟩;have hg:(w.pins.map Go.Hy.encI)[k]?=some (Go.Hy.encI x):=by rw[pw,hx];rfl
  have hk':w.pins[k]=x:=(px.1 hx).2;have nx:¬(0<=x/\x<=w.zr+1)->¬j8 w:=λh g=>h ((gr g).AM x (pE hx))
  conv=>whnf
  rw[m1];refine za8 ?_
  refine⟨λq1=>?_,λq1=>?_⟩
  .rw[no (nx (by have:=pC q1;omega))];refine zac ?_
   refine zaw ?_
   exact uI
  refine dd ?_;refine zbR ?_
  refine⟨λq2=>?_,λq2=>?_⟩
  .have e0:0<=w.zr/\w.zr<=1000000000000:=by
    have:=pB h5;have:=pB h6;omega
   have q2:=pC q2;rw[jF an an]at q2;rw[no (nx an)];refine zac ?_
   refine zaw ?_
   exact uI
  .have e0:0<=w.zr/\w.zr<=1000000000000:=by
    have:=pB h5;have:=pB h6;omega
   have q1:=pB q1;have q2:=pB q2;rw[jF an an]at q2;refine zac ?_
   refine .inl ⟨rfl,?_,λj hj hl=>?_⟩
   .exact dG
   .by_cases q:j=k
    .subst q;rw[hk'];omega
    .exact gE
 conv=>whnf
 rw[m1]
 have gg:jy w=true:=j9.2 ⟨by have:=pB h1;have:=pB h2;omega,⟨h3,by unfold yd at h4;simp at h4;exact h4.1.1⟩,by have:=pB h5;have:=pB h6;omega,by have:=pB h7;have:=pB h8;omega,λp hp=>by
  obtain⟨j,hj⟩:=pV.1 hp;have q:=hr j (px.1 hj).1 (px.1 hj).1;rw[(px.1 hj).2]at q;exact q⟩
 refine zbf ?_
 refine⟨λc1=>?_,λc1=>?_⟩
 .rw[no (λg=>by have:=g.current;have:=pC c1;omega)];refine zac ?_
  exact uI
 refine dd ?_;rw[m2];refine⟨λc2=>?_,λc2=>?_⟩
 .rw[no (λg=>by have:=g.current;have:=pC c2;omega)];refine zac ?_
  exact uI
 have c1:=pB c1;have c2:=pB c2;refine dd ?_;by_cases l:CJ w
 rotate_left
 .refine af (Jh w hw false ⟨λh=>absurd h aj,λh=>absurd h l⟩) ?_;rw[no (λg=>l (Xq g))];refine td ?_
  exact uI
 have g:j8 w:=WX gg an l;refine af (Jh w hw true ⟨λ_=>l,λ_=>V⟩) ?_;refine td ?_
 obtain⟨v,hv⟩:∃v,w.zd[w.current.toNat]?=some v:=⟨_,pq an⟩;have hg:(w.zd.map zt)[w.current.toNat]?=some (zt v):=by rw[pw,hv];rfl
 have hf:v.qH=false:=by
  rw[(g.iP _ v hv).2];cases e:yY w.zn (w.current.toNat:Int) with
  |false=>rfl
  |true=>
   obtain⟨r,hr,h1,_⟩:=(wx _ _ (B3 g.zn)).1 e;obtain⟨i,hi⟩:=pV.1 hr;have:=(B4 g hi).2.2.2.2;omega
 have hw1:j7 w=true:=qt.2 g;refine⟨an,_,hg,uH ?_⟩;refine⟨λf1=>?_,λf1=>?_⟩
 .rw[hf]at f1;cases f1
 refine zac ?_
 rw[hw1];exact uI
def wA(i n:Int):th 144 [] [I i,I n] (Bo (iA i n)) []:=by
 refine ab func144 ?_;refine⟨λh1=>?_,λh1=>?_⟩
 .refine⟨λh2=>?_,λh2=>?_⟩
  .rw[show iA i n=true from by unfold iA;rw[h1,h2];rfl];exact dB
  .rw[show iA i n=false from by unfold iA;rw[h2];simp];exact dB
 .rw[show iA i n=false from by unfold iA;rw[h1];rfl];refine zac ?_
  exact uI
def zS(m:fx)(a c x:Int):th 98 [] [Cm m,I a,I c,I x] (Ce ⟨m.zm,0,a,c, -1,false,x,false,false,false,kG⟩) []:=by
 refine ab func98 ?_;exact uI
def xP(m:fx)(e:fF)(a:fM):th 101 [] [Cm m,Ce e,.agg (qY a)] (.fy [Cm {m with done:=true,answer:=a},Ce {e with done:=true,answer:=a}]) []:=by
 refine ab func101 ?_;refine .inl ⟨⟨false,[0,1],[0,1],[]⟩,ak,uH ?_⟩;refine tc ?_
 exact uI
def jk(w:Wor)(m:fx)(v:fC)(a c x:Int)(h0:0<=m.version)(hv:w.zd[m.version.toNat]?=some v):th 94 [] [Cw w,Cm m,I a,I c,I x] (Ce ⟨m.zm,0,a,c,m.version,v.qH,x,false,false,false,kG⟩) []:=by
 have gv:(w.zd.map zt)[m.version.toNat]?=some (zt v):=by rw[pw,hv];rfl
 refine ab func94 ?_;refine uE ?_;refine⟨h0,_,gv,uH ?_⟩;refine⟨λq=>?_,λq=>?_⟩
 .rw[q];exact dB
 .rw[q];exact dB
def zP(w:Wor)(m:fx)(hw:fG w)(hm:i64 m.listen):th 87 [] [Cw w,Cm m] (Bo (zG w m)) []:=by
 have m1:(w.pins.map Go.Hy.encI).length=w.pins.length:=pz ..;have m2:(w.zd.map zt).length=w.zd.length:=pz ..;have m3:(w.zc.map zT).length=w.zc.length:=pz ..;have b3:=hw.zc.1;refine ab func87 ?_;refine uE ?_;refine af (OM w hw) ?_;refine⟨λh1=>?_,λh1=>?_⟩
 rotate_left
 ·(have e:zG w m=false:=by (unfold zG;(rw[h1]);simp));exact gM
 refine dd ?_;rw[m1];refine af (wA m.zm w.pins.length) ?_;refine⟨λh2=>?_,λh2=>?_⟩
 rotate_left
 ·(have e:zG w m=false:=by (unfold zG;(rw[h2]);simp));exact gM
 refine dd ?_;refine⟨λh3=>?_,λh3=>?_⟩
 ·(have e:zG w m=false:=by (unfold zG;(rw[h3]);simp));exact gM
 refine dd ?_;rw[m2];refine af (wA m.version w.zd.length) ?_;refine⟨λh4=>?_,λh4=>?_⟩
 rotate_left
 ·(have e:zG w m=false:=by (unfold zG;(rw[h4]);simp));exact gM
 obtain⟨c0,c1⟩:=yv.1 h4;have hv:w.zd[m.version.toNat]?=some (w.zd[m.version.toNat]'an):=pq _;generalize w.zd[m.version.toNat]'an=v at hv;have gv:(w.zd.map zt)[m.version.toNat]?=some (zt v):=by rw[pw,hv];rfl
 have m4:(v.zg.map zy).length=v.zg.length:=pz ..
 have g0:zG w m=(iA m.zp v.zg.length && (match v.zg[m.zp.toNat]? with
  |none=>false
  |some g=>iA m.end_ g.ends.length && iA m.other g.ends.length && (match g.ends[m.end_.toNat]? with
   |none=>false
   |some e=>iA m.slot e.next.length) && (iA (m.listen+1) (w.zc.length+1) && decide (0<=m.i) && decide (0<=m.k)))):=by
  unfold zG;rw[h1,h2,h3,h4,hv]
  rfl
 rw[g0];refine dd ?_;refine⟨c0,_,gv,dd ?_⟩;rw[m4];refine af (wA m.zp v.zg.length) ?_;refine⟨λh5=>?_,λh5=>?_⟩
 rotate_left
 .rw[h5];refine zac ?_
  exact uI
 obtain⟨c2,c3⟩:=yv.1 h5;have hg:v.zg[m.zp.toNat]?=some (v.zg[m.zp.toNat]'an):=pq _;generalize v.zg[m.zp.toNat]'an=g at hg;have gg:(v.zg.map zy)[m.zp.toNat]?=some (zy g):=by rw[pw,hg];rfl
 have m5:(g.ends.map zx).length=g.ends.length:=pz ..;rw[h5,hg];dsimp only;refine zac ?_
 refine uE ?_;refine⟨c0,_,gv,uH ?_⟩;refine⟨c2,_,gg,uH ?_⟩;refine uE ?_;rw[m5];refine af (wA m.end_ g.ends.length) ?_;refine⟨λh6=>?_,λh6=>?_⟩
 rotate_left
 .rw[h6];refine zac ?_
  exact uI
 obtain⟨c4,c5⟩:=yv.1 h6;have he:g.ends[m.end_.toNat]?=some (g.ends[m.end_.toNat]'an):=pq _;generalize g.ends[m.end_.toNat]'an=e at he;have ge:(g.ends.map zx)[m.end_.toNat]?=some (zx e):=by rw[pw,he];rfl
 have m6:(e.next.map Go.Hy.encI).length=e.next.length:=pz ..;rw[h6,he];dsimp only;refine dd ?_;rw[m5];refine af (wA m.other g.ends.length) ?_;refine⟨λh7=>?_,λh7=>?_⟩
 rotate_left
 .rw[h7];refine zac ?_
  exact uI
 rw[h7];refine dd ?_;refine⟨c4,_,ge,dd ?_⟩;rw[m6];refine af (wA m.slot e.next.length) ?_;refine⟨λh8=>?_,λh8=>?_⟩
 rotate_left
 .rw[h8];refine zac ?_
  exact uI
 rw[h8];refine zac ?_
 refine⟨λq1=>?_,λq1=>?_⟩
 rotate_left
 .refine zac ?_
  (exact⟨.inl V,_,.refl _,uN (by symm;unfold iA;simp at q1|-;omega)⟩)
 refine dd ?_;rw[m3];refine⟨λq2=>?_,λq2=>?_⟩
 rotate_left
 .refine zac ?_
  (exact⟨.inl V,_,.refl _,uN (by symm;unfold iA;simp at q1 q2|-;omega)⟩)
 refine dd ?_;refine⟨λq3=>?_,λq3=>?_⟩
 rotate_left
 .refine zac ?_
  (exact⟨.inl V,_,.refl _,uN (by symm;unfold iA;simp at q1 q2 q3|-;omega)⟩)
 refine dd ?_;refine⟨λq4=>?_,λq4=>?_⟩
 .refine zac ?_
  (exact⟨.inl V,_,.refl _,uN (by symm;unfold iA;simp at q1 q2 q3 q4|-;omega)⟩)
 .refine zac ?_
  (exact⟨.inl V,_,.refl _,uN (by symm;unfold iA;simp at q1 q2 q3 q4|-;omega)⟩)
def lp(v:fC)(k:Nat):Nat:=((v.zg.take k).flatMap (·.ends)).length
def UP{k:Nat}(h:v.zg[k]?=some g):lp v (k+1)=lp v k+g.ends.length:=by
 have e:v.zg.take (k+1)=v.zg.take k++[g]:=by rw[tr,h];rfl
 unfold lp;rw[e];simp
def VO{k:Nat}(h:v.zg[k]?=some g):jf v=(v.zg.take k).flatMap (·.ends)++(g.ends++(v.zg.drop (k+1)).flatMap (·.ends)):=by
 have e:v.zg.drop k=g::v.zg.drop (k+1):=by
  rw[u7 (px.1 h).1,(px.1 h).2]
 have a:v.zg=v.zg.take k++g::v.zg.drop (k+1):=by rw[<-e,ug]
 show v.zg.flatMap (·.ends)=_;conv=>lhs;rw[a]
 simp
def V4{k n:Nat}(h:v.zg[k]?=some g)(h1:lp v k<=n)(h2:n-lp v k<g.ends.length):(jf v)[n]?=g.ends[n-lp v k]?:=by
 unfold lp at h1 h2|-;rw[VO h,pR h1,pI h2]
def Kz(v:fC)(hv:nF v)(n:Nat)(e:En)(he:(jf v)[n]?=some e):th 157 [] [Cv v,I n] (.agg (zx e)) []:=by
 have m1:(v.zg.map zy).length=v.zg.length:=pz ..;have hn:n<(jf v).length:=(px.1 he).1;have b1:=hv.zg;have hs:(jf v).length<=v.zg.length*1000:=Gv v.zg hv.ends;refine ab func157 ?_;refine zH.seq v.zg.length (λk=>((Cv v)::I ((n-lp v k:Nat):Int)::.ref 0 [] 5 0 0::.za::.ref 1 [] 3 0 0::I k::mL (mL (mL (mL ([.za,.za,.za])))))) (λk=>[⟨1,106,5,[zt v],0⟩,⟨1,151,3,[[U 0,.fq 1 0 [],I 0]],0⟩]) (λk=>lp v k<=n) ?_ (pW _) (λk hk hr=>?_) (λhr=>?_)
 .rw[show n-lp v 0=n from by unfold lp;simp];exact cC
 .obtain⟨g,hg⟩:∃g,v.zg[k]?=some g:=⟨_,pq hk⟩;have gg:(v.zg.map zy)[k]?=some (zy g):=by rw[pw,hg];rfl
  have m2:(g.ends.map zx).length=g.ends.length:=pz ..;have sc:=UP hg;have gl:=hv.ends g (pE hg);conv=>whnf
  rw[m1];refine uF ?_;(refine te gg ?_)
  rw[m2];refine⟨λq=>?_,λq=>?_⟩
  .have q:=pC q;have q:n-lp v k<g.ends.length:=by omega
   have ge:g.ends[n-lp v k]?=some e:=(V4 hg hr q).symm.trans he;have ge:(g.ends.map zx)[n-lp v k]?=some (zx e):=by rw[pw,ge];rfl
   refine dd ?_;(refine te gg ?_)
   (refine te ge ?_)
   refine zaw ?_
   exact uI
  .have q:=pB q;have q:g.ends.length<=n-lp v k:=by omega
   refine dd ?_;(refine te gg ?_)
   refine .inl ⟨rfl,?_,an⟩;rw[m2,zk an,jF an an,show((n-lp v k:Nat):Int)-(g.ends.length:Int)=((n-lp v (k+1):Nat):Int) from an];exact cE 2
 .exfalso
  have:lp v v.zg.length=(jf v).length:=by unfold lp;rw[pQ];rfl
  omega
structure oB(w:Wor)(m:fx):Prop where
 pc:0<=m.pc/\m.pc<=10/\m.pc≠7
 i:0<=m.i
 AM:m.pc=2->m.i<w.pins.length
 ends : m.pc = 5 -> 0 <= m.version /\ ∃v, w.zd[m.version.toNat]? = some v /\ nF v /\ m.k<(jf v).length
 free:m.pc=6->∃r,w.zn[m.i.toNat]?=some r/\r.version=m.version/\r.gone=false
 shut:8<m.pc->∃l,w.zc[m.i.toNat]?=some l/\(m.pc=9\/l.drain=true)
def y2(w:Wor)(m:fx)(hw:fG w)(hm:i64 m.listen)(hs:zG w m=true)(h:oB w m):th 102 [] [Cw w,Cm m] (Bo true) []:=by
 have m1:(w.pins.map Go.Hy.encI).length=w.pins.length:=pz ..;have m2:(w.zd.map zt).length=w.zd.length:=pz ..;have m3:(w.zc.map zT).length=w.zc.length:=pz ..;have m4:(w.zn.map qk).length=w.zn.length:=pz ..;refine ab func102 ?_;refine af (zP w m hw hm) ?_;rw[hs];refine td ?_
 refine⟨λq1=>?_,λq1=>?_⟩
 ·(have q:=pC q1);(exact absurd q (by have:=h.pc;omega))
 refine dd ?_;refine⟨λq2=>?_,λq2=>?_⟩
 ·(have q:=pC q2);(exact absurd q (by have:=h.pc;omega))
 refine dd ?_;refine⟨λq3=>?_,λq3=>?_⟩
 .exact absurd (eq_of_beq q3) h.pc.2.2
 refine zac ?_
 refine⟨λp2=>?_,λp2=>?_⟩
 .have p2:=eq_of_beq p2;refine dd ?_;rw[m1];have hp:=h.AM p2;refine⟨λ_=>dd ?_,λq=>absurd hp (pB q)⟩;exact uI
 refine dd ?_;refine⟨λp5=>?_,λp5=>?_⟩
 .have p5:=eq_of_beq p5;obtain⟨v0,v,hv,fv,hk⟩:=h.ends p5;have gv:(w.zd.map zt)[m.version.toNat]?=some (zt v):=by rw[pw,hv];rfl
  refine dd ?_;refine uE ?_;refine⟨v0,_,gv,uH ?_⟩;refine af (FQ v fv) ?_;refine⟨λ_=>dd ?_,λq=>absurd hk (pB q)⟩;exact uI
 refine dd ?_;refine⟨λp6=>?_,λp6=>?_⟩
 .have p6:=eq_of_beq p6;obtain⟨r,hr,hv,hg⟩:=h.free p6;have gr:(w.zn.map qk)[m.i.toNat]?=some (qk r):=by rw[pw,hr];rfl
  have hl:=(px.1 hr).1;have hi:=h.i;refine dd ?_;refine uE ?_;rw[m4];refine⟨λ_=>dd ?_,λq=>absurd (show m.i<(w.zn.length:Int) by omega) (pB q)⟩;refine⟨hi,_,gr,uH ?_⟩;refine⟨λ_=>dd ?_,λq=>absurd (by rw[hv];exact beq_self_eq_true _:(r.version == m.version)=true) tU⟩;refine⟨hi,_,gr,uH ?_⟩;refine⟨λq=>absurd (hg.symm.trans q) aj,λ_=>dd ?_⟩;refine td ?_
  exact uI
 refine dd ?_;refine⟨λp8=>?_,λp8=>?_⟩
 .have p8:=pC p8;obtain⟨l,hl,hd⟩:=h.shut an;have gl:(w.zc.map zT)[m.i.toNat]?=some (zT l):=by rw[pw,hl];rfl
  have hi:=h.i;have hl:=(px.1 hl).1;refine dd ?_;rw[m3];refine⟨λ_=>dd ?_,λq=>absurd (show m.i<(w.zc.length:Int) by omega) (pB q)⟩;refine⟨λp9=>?_,λp9=>?_⟩
  .refine zac ?_
   exact uI
  refine dd ?_;refine⟨hi,_,gl,uH ?_⟩;have hd:l.drain=true:=hd.resolve_left λq=>by rw[q]at p9;simp at p9
  refine⟨λ_=>dd ?_,λq=>absurd (hd.symm.trans q) aj⟩;refine td ?_
  exact uI
 refine zac ?_
 exact uI
def qy(w:Wor)(h:z6 w):th 89 [] [Cw w] (Cw w) []:=by
 have m1:(w.pins.map Go.Hy.encI).length=w.pins.length:=pz ..;have m2:(w.zd.map zt).length=w.zd.length:=pz ..;have m3:(w.zc.map zT).length=w.zc.length:=pz ..;have m4:(w.zn.map qk).length=w.zn.length:=pz ..;have b1:=h.pins;have b2:=h.zd.1;have b3:=h.zc;have b4:=h.zn;refine ab func89 ?_;refine zaz ?_;refine zH.seq w.zd.length (λk=>(.za::.ref 0 [] 8 0 0:: .ref 1 [] 8 0 0:: .ref 2 [] 8 0 0::I k:: .za::.za::mL (jp (jp (jp (jp (mL ([])))))))) (λk=>[oW w,⟨1,38,8,[fW],0⟩,⟨1,38,8,[[I w.zr,I w.current,I w.lock,.gl 3 1 (w.pins.map Go.Hy.encI),.gl 4 5 ((w.zd.take k).map zt),lL w.zc,fJ w.counts,lR w.zn]],0⟩,⟨4,3,1,(w.pins.map Go.Hy.encI),0⟩,⟨4,106,5,((w.zd.take k).map zt),0⟩]) (λk=>True) ?_ trivial (λk hk _=>?_) (λ_=>?_)
 .exact dX
 .obtain⟨v,hv⟩:∃v,v=w.zd[k]:=⟨_,rfl⟩;have hgv:(w.zd.map zt)[k]?=some (zt v):=by rw[pw,pq hk,hv];rfl
  have sv:=h.zd.2 v tN;have m5:(v.zg.map zy).length=v.zg.length:=pz ..;have b5:=sv.1;conv=>whnf
  rw[m2];refine zaK ?_
  refine zH.seq v.zg.length (λj=>(.za::.ref 0 [] 8 0 0:: .ref 1 [] 8 0 0:: .ref 2 [] 8 0 0::I k:: .ref 5 [] 5 0 0::I j:: mL (jp (jp (jp (jp (mL ([])))))))) (λj=>[oW w,⟨1,38,8,[fW],0⟩,⟨1,38,8,[[I w.zr,I w.current,I w.lock,.gl 3 1 (w.pins.map Go.Hy.encI),.gl 4 5 ((w.zd.take k).map zt),lL w.zc,fJ w.counts,lR w.zn]],0⟩,⟨4,3,1,(w.pins.map Go.Hy.encI),0⟩,⟨4,106,5,((w.zd.take k).map zt),0⟩,⟨1,106,5,[qV v.snap++[.gl 6 2 ((v.zg.take j).map zy),Bo v.qH]],0⟩,⟨4,111,2,((v.zg.take j).map zy),0⟩]) (λk=>True) ?_ trivial (λj hj _=>?_) (λ_=>?_)
  .exact dJ
  .obtain⟨g,hg⟩:∃g,g=v.zg[j]:=⟨_,rfl⟩;have hgg:(v.zg.map zy)[j]?=some (zy g):=by rw[pw,pq hj,hg];rfl
   have sg:=sv.2 g tI;have m6:(g.ends.map zx).length=g.ends.length:=pz ..;have b6:=sg.1;have lG:(((v.zg.take j).map zy)).length=j:=ar
   have eG:((v.zg.take (j+1)).map zy)=((v.zg.take j).map zy)++[zy g]:=ct
   conv=>whnf
   refine zbB ?_
   rw[m5];refine zaK ?_
   refine zbh ?_
   refine zH.seq g.ends.length (λn=>(.za::.ref 0 [] 8 0 0:: .ref 1 [] 8 0 0:: .ref 2 [] 8 0 0::I k:: .ref 5 [] 5 0 0::I j:: .ref 7 [] 2 0 0::I n:: .za::.za::.za::.za::.za::.za::mL (jp (jp (jp (jp ([]))))))) (λn=>[oW w,⟨1,38,8,[fW],0⟩,⟨1,38,8,[[I w.zr,I w.current,I w.lock,.gl 3 1 (w.pins.map Go.Hy.encI),.gl 4 5 ((w.zd.take k).map zt),lL w.zc,fJ w.counts,lR w.zn]],0⟩,⟨4,3,1,(w.pins.map Go.Hy.encI),0⟩,⟨4,106,5,((w.zd.take k).map zt),0⟩,⟨1,106,5,[qV v.snap++[.gl 6 2 ((v.zg.take j).map zy),Bo v.qH]],0⟩,⟨4,111,2,((v.zg.take j).map zy),0⟩,⟨1,111,2,[[U g.zC,.gl 8 3 ((g.ends.take n).map zx)]],0⟩,⟨4,151,3,((g.ends.take n).map zx),0⟩]) (λk=>True) ?_ trivial (λn hn _=>?_) (λ_=>?_)
   .exact dI
   .obtain⟨e,he⟩:∃e,e=g.ends[n]:=⟨_,rfl⟩;have hge:(g.ends.map zx)[n]?=some (zx e):=by rw[pw,pq hn,he];rfl
    have se:=sg.2 e tJ;have m7:(e.next.map Go.Hy.encI).length=e.next.length:=pz ..;have lE:(((g.ends.take n).map zx)).length=n:=ar
    have eE:((g.ends.take (n+1)).map zx)=((g.ends.take n).map zx)++[zx e]:=cw
    conv=>whnf
    refine zbB ?_
    refine zbh ?_
    rw[m6];refine zaK ?_
    refine zbh ?_
    (refine te hge ?_)
    exact du
   .conv=>whnf
    refine zbB ?_
    refine zbh ?_
    exact dq
  .have lV:(((w.zd.take k).map zt)).length=k:=by simp;omega
   have eV:((w.zd.take (k+1)).map zt)=((w.zd.take k).map zt)++[zt v]:=cB
   conv=>whnf
   refine zbB ?_
   exact dy
 .conv=>whnf
  rw[m2];refine zaf ?_;rw[pQ];have m8:(w.counts.map zA).length=w.counts.length:=pz ..;have b8:=h.counts.1;refine zbT ?_;refine zH.seq w.counts.length (λk=>(.za::.ref 0 [] 8 0 0:: .ref 1 [] 8 0 0:: .ref 2 [] 8 0 0:: .za::.za::.za::.za::.za::.za::.za::I k:: .za::.za::.za::mL (jp (jp (jp (jp ([]))))))) (λk=>[oW w,⟨1,38,8,[fW],0⟩,⟨1,38,8,[[I w.zr,I w.current,I w.lock,.gl 3 1 (w.pins.map Go.Hy.encI),.gl 4 5 (w.zd.map zt),.gl 5 4 (w.zc.map zT),.gl 6 1 ((w.counts.take k).map zA),lR w.zn]],0⟩,⟨4,3,1,(w.pins.map Go.Hy.encI),0⟩,⟨4,106,5,w.zd.map zt,0⟩,⟨4,98,4,w.zc.map zT,0⟩,⟨4,155,1,((w.counts.take k).map zA),0⟩]) (λk=>True) ?_ trivial (λk hk _=>?_) (λ_=>?_)
  .exact dP
  .obtain⟨r,hr⟩:∃r,r=w.counts[k]:=⟨_,rfl⟩;have hgr:(w.counts.map zA)[k]?=some (zA r):=by rw[pw,pq hk,hr];rfl
   have sr:=h.counts.2 r tK;have lC:(((w.counts.take k).map zA)).length=k:=ar
   have eC:((w.counts.take (k+1)).map zA)=((w.counts.take k).map zA)++[zA r]:=cH
   conv=>whnf
   refine za2 ?_
   refine⟨?_,?_⟩
   .conv=>whnf
    refine zai ?_
    refine zaz ?_;refine zai ?_
    refine za5 ?_
    refine zaM ?_
    exact dz
   .refine⟨?_,trivial⟩;conv=>whnf
    refine zaz ?_;refine tc ?_
    refine⟨?_,?_⟩
    .conv=>whnf
     refine zai ?_
     refine za5 ?_
     refine zaM ?_
     exact dz
    .trivial
  .conv=>whnf
   rw[m8];refine zaf ?_;rw[pQ];refine .inl ⟨.inl V,.inr V,aq,bQ,uH ?_⟩;exact uI
def Pw(w x:Wor)(m:fx)(hp:m.pc=1):th 103 [] [Cw w,Cw x,Cm m] (.fy [Cw x,Cm {m with zr:=w.zr,pc:=2,i:=0},Ce (fI m 1 1 w.zr)]) []:=by
 refine ab func103 ?_;rw[hp];refine td ?_
 refine .inl ⟨⟨true,[0,1,2,4],[0,1,2],[5]⟩,ak,uH ?_⟩;refine af (zS {m with zr:=w.zr,pc:=2,i:=0} 1 1 w.zr) ?_;refine tc ?_
 exact uI
def Pv(w x:Wor)(m:fx)(hp:m.pc=0)(hl:w.lock=0):th 103 [] [Cw w,Cw x,Cm m] (.fy [Cw {x with lock:=1},Cm {m with pc:=1},Ce (fI m 4 14 1)]) []:=by
 refine ab func103 ?_;rw[hp];refine td ?_
 rw[hl];refine td ?_
 refine .inl ⟨⟨true,[0,1,2],[0,1,2],[3]⟩,ak,uH ?_⟩;refine af (zS {m with pc:=1} 4 14 1) ?_;refine tc ?_
 exact uI
def Px(w x:Wor)(m:fx)(p:Int)(hp:m.pc=2)(h0:0<=m.i)(hx:w.pins[m.i.toNat]?=some p):th 103 [] [Cw w,Cw x,Cm m] (.fy [Cw x,Cm (oV w m p),Ce (fI m 1 2 p)]) []:=by
 have m1:(w.pins.map Go.Hy.encI).length=w.pins.length:=pz ..;have hg:(w.pins.map Go.Hy.encI)[m.i.toNat]?=some (Go.Hy.encI p):=by rw[pw,hx];rfl
 refine ab func103 ?_;rw[hp];refine td ?_
 refine⟨h0,_,hg,uH ?_⟩;by_cases c:p≠0/\p≠IntKind.i64.wrap (m.zr+1)
 .rw[show oV w m p=im m 4 0 from pD c];refine⟨λ_=>dd ?_,λh=>absurd c.1 uW⟩;refine⟨λ_=>dd ?_,λh=>absurd c.2 uW⟩;refine td ?_
  refine .inl ⟨⟨true,[0,1,2],[0,1,2],[4]⟩,ak,uH ?_⟩;refine af (zS (im m 4 0) 1 2 p) ?_;refine tc ?_
  exact uI
 by_cases q:IntKind.i64.wrap (m.i+1)<(w.pins.length:Int)
 .rw[show oV w m p={m with i:=IntKind.i64.wrap (m.i+1),pc:=2} from((pA c).trans (pD q)).trans (by rw[<-hp])];by_cases c0:p=0
  .refine⟨λh=>absurd c0 uW,λ_=>?_⟩;refine zac ?_
   exact zbF
  .have c1:p=IntKind.i64.wrap (m.zr+1):=Decidable.not_not.1 λh=>c ⟨c0,h⟩
   refine⟨λ_=>dd ?_,λh=>absurd uW c0⟩;refine⟨λh=>absurd c1 uW,λ_=>dd ?_⟩;refine td ?_
   exact zbF
 .rw[show oV w m p=im m 3 (IntKind.i64.wrap (m.i+1)) from(pA c).trans (pA q)];by_cases c0:p=0
  .refine⟨λh=>absurd c0 uW,λ_=>?_⟩;refine zac ?_
   exact zbG
  .have c1:p=IntKind.i64.wrap (m.zr+1):=Decidable.not_not.1 λh=>c ⟨c0,h⟩
   refine⟨λ_=>dd ?_,λh=>absurd uW c0⟩;refine⟨λh=>absurd c1 uW,λ_=>dd ?_⟩;refine td ?_
   exact zbG
def Py(w x:Wor)(m:fx)(hp:m.pc=3):th 103 [] [Cw w,Cw x,Cm m]
  (if w.zr=m.zr/\w.zr<1000000000000 then .fy [Cw {x with zr:=IntKind.i64.wrap (w.zr+1)},Cm {im m 4 0 with zr:=IntKind.i64.wrap (w.zr+1)},Ce (fI m 4 1 (IntKind.i64.wrap (w.zr+1)))] else .fy [Cw x,Cm (im m 4 0),Ce (fI m 5 1 w.zr)]) []:=by
 have hc:=zS {m with pc:=3} 5 1 w.zr;refine ab func103 ?_;rw[hp];refine td ?_
 refine af hc ?_;by_cases c:w.zr=m.zr/\w.zr<1000000000000
 .rw[pD c];refine⟨λ_=>dd ?_,λh=>absurd c.1 uW⟩;refine⟨λ_=>dd ?_,λh=>absurd c.2 (pB h)⟩;refine zbm ?_
  exact uI
 rw[pA c];by_cases c0:w.zr=m.zr
 .have c1:¬w.zr<1000000000000:=λh=>c ⟨c0,h⟩
  refine⟨λ_=>dd ?_,λh=>absurd uW (λq:¬w.zr=m.zr=>q c0)⟩;refine⟨λh=>absurd (pC h) c1,λ_=>dd ?_⟩;refine td ?_
  refine zbm ?_
  exact uI
 .refine⟨λh=>absurd uW c0,λ_=>?_⟩;refine zac ?_
  refine zbm ?_
  exact uI
end Go.Wor
