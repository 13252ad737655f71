import Derived.Test.YtamgiodaflkbhaaGreatTU
import Derived.Test.YtamgiodaflkbhaaGreatTT
import Derived.Test.YtamgiodaflkbhaaGreatTC
import Derived.Test.YtamgiodaflkbhaaGreatTK
import Derived.Test.YtamgiodaflkbhaaGreatTR
set_option linter.all false
set_option maxRecDepth 100000
set_option maxHeartbeats 4000000
namespace Go.Wor
open Go.Ab Go.Proofs Tryz Go.Gat Go.Nam Go.Hos Go.Con Go.Sna
open Go.Hy hiding encI
def Oo(c:List (List Int))(hc:c.length<4000000000000000000):th 194 [] [ff c] (Bo (xV c)) []:=by
 have m1:(c.map zA).length=c.length:=gO ..;refine ab func194 ?_;refine zH.seq c.length (λk=>((ff c)::.za::Bo false::I k::mK (mK ([.za,.za,.za,.za])))) (λk=>[]) (λk=>∀j,(h:j<c.length)->j<k->c[j].length=6) ?_ ah (λk hk hr=>?_) (λhr=>?_)
 .exact cC
 .obtain⟨x,hx⟩:∃x,x=c[k]:=⟨_,rfl⟩;have hg:(c.map zA)[k]?=some (zA x):=by rw[gM,gL hk,hx];rfl
  have m2:(x.map qB).length=x.length:=gO ..;conv=>whnf
  rw[m1];refine zay ?_
  rw[m2];refine⟨λc1=>?_,λc1=>?_⟩
  .have e:xV c=false:=by
    unfold xV;rw[show c.all (λr=>r.length == 6)=false from rP.2 ⟨x,bA,by simp at c1|-;omega⟩]
    rfl
   rw[e];refine zbw ?_
   exact uI
  refine dd ?_;refine .inl ⟨rfl,?_,λi hi hij=>?_⟩
  .exact dm
  .by_cases e:i=k
   .subst e;rw[<-hx];simp at c1;omega
   .exact hr i hi an
 .have e:xV c=(decide (1<=c.length) && decide (c.length<=8)):=by
   unfold xV;rw[show c.all (λr=>r.length == 6)=true from gV.2 λr hm=>by obtain⟨i,hi,rfl⟩:=pz.1 hm;simp[hr i hi hi]]
   rfl
  rw[e];conv=>whnf
  rw[m1];refine za2 ?_
  rw[m1];refine⟨λc1=>?_,λc1=>?_⟩
  .have c1:1<=c.length:=by simp at c1;omega
   refine dd ?_;rw[m1];refine⟨λc2=>?_,λc2=>?_⟩
   .refine dd ?_
    (exact⟨.inl V,_,.refl _,uN (by simp at c2;rw[rH c1,rH an];rfl)⟩)
   .refine dd ?_
    (exact⟨.inl V,_,.refl _,uN (by simp at c2;rw[rH c1,rA an];rfl)⟩)
  .have c1:¬1<=c.length:=by simp at c1;omega
   refine zac ?_
   (exact⟨.inl V,_,.refl _,uN (by rw[rA c1];rfl)⟩)
def AT(l:List fg)(n:Int):Bool:=l.any λr=>decide (r.version=n) && r.gone
def QS(l:List fg)(n:Int)(hl:l.length<4000000000000000000):th 242 [] [lR l,I n] (Bo (AT l n)) []:=by
 have m1:(l.map qh).length=l.length:=gO ..;refine ab func242 ?_;refine zH.seq l.length (λk=>((lR l)::I n::.za::.za::Bo false::I k::mK (mK ([.za,.za,.za,.za])))) (λk=>[]) (λk=>∀j,(h:j<l.length)->j<k->(decide (l[j].version=n) && l[j].gone)=false) ?_ ah (λk hk hr=>?_) (λhr=>?_)
 .exact cC
 .obtain⟨x,hx⟩:∃x,x=l[k]:=⟨_,rfl⟩;have hg:(l.map qh)[k]?=some (qh x):=by rw[gM,gL hk,hx];rfl
  have bad:(decide (x.version=n) && x.gone)=true->AT l n=true:=λh=>ri.2 ⟨x,bA,h⟩
  have iL:(decide (x.version=n) && x.gone)=false->∀i,(h:i<l.length)->i<k+1->(decide (l[i].version=n) && l[i].gone)=false:=λh i hi hij=>by
   by_cases e:i=k
   .subst e;rw[<-hx];exact h
   .exact hr i hi an
  conv=>whnf
  rw[m1];refine zay ?_
  refine⟨λc1=>?_,λc1=>?_⟩
  .have c1:x.version=n:=by simpa using c1
   refine dd ?_;refine zb8 ?_
   refine⟨λc2=>?_,λc2=>?_⟩
   .rw[bad (by rw[c2,rH c1];rfl)];refine zbw ?_
    exact uI
   .refine dd ?_;refine .inl ⟨rfl,?_,iL (by rw[c2,sq])⟩;exact dm
  .have c1:¬x.version=n:=by simpa using c1
   refine zac ?_
   refine .inl ⟨rfl,?_,iL (by rw[rA c1];rfl)⟩;exact dm
 .have e:AT l n=false:=by
   unfold AT;rw[pI];intro x hm;obtain⟨i,hi,rfl⟩:=pz.1 hm;simp only[hr i hi hi]
   decide
  rw[e];conv=>whnf
  rw[m1];refine za2 ?_
  exact uI
def Ov(s:Sna)(hs:yR s):th 167 [] [Cs s] (Cf (iD s)) []:=by
 have m1:(s.rules.map q9).length=s.rules.length:=gO ..;have m2:(s.zc.map qe).length=s.zc.length:=gO ..;have m3:(s.zi.map jl).length=s.zi.length:=gO ..;have hl:=hs.rules.1;refine ab func167 ?_;refine zH.seq s.rules.length (λk=>(.za::.ref 0 [] 3 0 0:: .ref 1 [] 3 0 0:: .ref 2 [] 3 0 0::I k:: .za::.za::.za::.za::mK (jp (mK (mK (mK ([]))))))) (λk=>[⟨1,86,3,[qP s],0⟩,⟨1,26,3,[[.eM 1 0 [],.eM 1 0 [],.eM 1 0 []]],0⟩,⟨1,26,3,[[lT s.zc,.gl 3 4 (((s.rules.take k).map (iT s)).map xy),lC s.zi]],0⟩,⟨4,116,4,((s.rules.take k).map (iT s)).map xy,0⟩]) (λk=>True) ?_ trivial (λk hk hr=>?_) (λhr=>?_)
 .refine zk.trans (zk.qM 2 1 116 4 V V (.inl V) V V) ?_;exact cC
 .obtain⟨r,hx⟩:∃r,r=s.rules[k]:=⟨_,rfl⟩;have hg:(s.rules.map q9)[k]?=some (q9 r):=by rw[gM,gL hk,hx];rfl
  have hlg:(((s.rules.take k).map (iT s)).map xy).length=k:=ar
  have eg:((s.rules.take (k+1)).map (iT s)).map xy=((s.rules.take k).map (iT s)).map xy++[xy (iT s r)]:=bC
  have hv:∀a b,a=xH s.zc r.listen->b=xr s.zi r.zp->xy ⟨a,r.host,r.path,b⟩=xy (iT s r):=λa b h1 h2=>by rw[h1,h2];rfl
  conv=>whnf
  rw[m1];refine zay ?_
  refine⟨λh1=>?_,λh1=>?_⟩
  rotate_left
  .refine zac ?_
   refine⟨λq1=>?_,λq1=>?_⟩;rotate_left;(focus (refine dd ?_;refine td ?_;(refine⟨rfl,.inr V,bD,bU,dd ?_⟩);(refine .inl ⟨rfl,?_,trivial⟩);(rw[zm an,eg,<-hv _ _ tO tP]);exact cE 4));refine dd ?_;(rw[m3]);refine⟨λq2=>?_,λq2=>?_⟩;rotate_left;(focus (refine dd ?_;refine td ?_;(refine⟨rfl,.inr V,bD,bU,dd ?_⟩);(refine .inl ⟨rfl,?_,trivial⟩);(rw[zm an,eg,<-hv _ _ tO tR]);exact cE 4));(have q3:r.zp.toNat<s.zi.length:=by simp at q1 q2;omega);(have gq:(s.zi.map jl)[r.zp.toNat]?=some (jl s.zi[r.zp.toNat]):=by rw[gM,gL q3];rfl);refine zaR ?_;(rw[zm an,eg,<-hv _ _ tO (by unfold xr;rw[gS bV,gL q3])]);exact cE 4
  refine dd ?_;rw[m2];refine⟨λh2=>?_,λh2=>?_⟩
  rotate_left
  .refine zac ?_
   refine⟨λq1=>?_,λq1=>?_⟩;rotate_left;(focus (refine dd ?_;refine td ?_;(refine⟨rfl,.inr V,bD,bU,dd ?_⟩);(refine .inl ⟨rfl,?_,trivial⟩);(rw[zm an,eg,<-hv _ _ tS tP]);exact cE 4));refine dd ?_;(rw[m3]);refine⟨λq2=>?_,λq2=>?_⟩;rotate_left;(focus (refine dd ?_;refine td ?_;(refine⟨rfl,.inr V,bD,bU,dd ?_⟩);(refine .inl ⟨rfl,?_,trivial⟩);(rw[zm an,eg,<-hv _ _ tS tR]);exact cE 4));(have q3:r.zp.toNat<s.zi.length:=by simp at q1 q2;omega);(have gq:(s.zi.map jl)[r.zp.toNat]?=some (jl s.zi[r.zp.toNat]):=by rw[gM,gL q3];rfl);refine zaR ?_;(rw[zm an,eg,<-hv _ _ tS (by unfold xr;rw[gS bV,gL q3])]);exact cE 4
  have h3:r.listen.toNat<s.zc.length:=bW
  have gl:(s.zc.map qe)[r.listen.toNat]?=some (qe s.zc[r.listen.toNat]):=by rw[gM,gL h3];rfl
  refine zac ?_
  refine⟨by simp at h1;omega,_,gl,dd ?_⟩;refine⟨λq1=>?_,λq1=>?_⟩;rotate_left;(focus (refine dd ?_;refine td ?_;(refine⟨rfl,.inr V,bD,bU,dd ?_⟩);(refine .inl ⟨rfl,?_,trivial⟩);(rw[zm an,eg,<-hv _ _ (by unfold xH;rw[gS bW,gL h3]) tP]);exact cE 4));refine dd ?_;(rw[m3]);refine⟨λq2=>?_,λq2=>?_⟩;rotate_left;(focus (refine dd ?_;refine td ?_;(refine⟨rfl,.inr V,bD,bU,dd ?_⟩);(refine .inl ⟨rfl,?_,trivial⟩);(rw[zm an,eg,<-hv _ _ (by unfold xH;rw[gS bW,gL h3]) tR]);exact cE 4));(have q3:r.zp.toNat<s.zi.length:=by simp at q1 q2;omega);(have gq:(s.zi.map jl)[r.zp.toNat]?=some (jl s.zi[r.zp.toNat]):=by rw[gM,gL q3];rfl);exact zch
 .conv=>whnf
  rw[m1];refine za2 ?_
  exact dZ
def Ik(s:Sna)(hs:yR s):th 128 [] [Cs s] (Bo (yN s)) []:=by
 refine ab func128 ?_;refine af (Ov s hs) ?_;refine af (IC (iD s) hs.cfg) ?_;refine⟨λh=>?_,λh=>?_⟩
 .refine dd ?_
  (exact⟨.inl V,_,.refl _,uN bY⟩)
 .refine dd ?_
  (exact⟨.inl V,_,.refl _,uN bY⟩)
def Ot(v:eX)(hv:EI v):th 241 [] [Cv v] (Bo (kO v)) []:=by
 have m1:(v.zg.map zy).length=v.zg.length:=gO ..;have m2:(v.snap.zi.map jl).length=v.snap.zi.length:=gO ..;have hgl:=hv.zg;refine ab func241 ?_;refine af (Ik v.snap hv.snap) ?_;refine⟨λh1=>?_,λh1=>?_⟩
 rotate_left
 .have e:kO v=false:=by unfold kO;rw[h1];rfl
  rw[e];refine zac ?_
  exact uI
 refine dd ?_;rw[m1,m2];refine⟨λh2=>?_,λh2=>?_⟩
 .have e:kO v=false:=by unfold kO;rw[show decide (v.zg.length=v.snap.zi.length)=false from by rw[pM];intro hh;simp[hh]at h2,sq];rfl
  rw[e];refine zac ?_
  exact uI
 have h2':v.zg.length=v.snap.zi.length:=aC
 refine zac ?_
 refine zH.seq v.zg.length (λk=>(.za::.ref 0 [] 5 0 0::Bo false::I k:: .za::.za::.za::mK (jp (jp ([]))))) (λk=>[⟨1,106,5,[zt v],0⟩]) (λk=>∀j,j<k->kD v j=true) ?_ ah (λk hk hr=>?_) (λhr=>?_)
 .exact cC
 .obtain⟨g,hg⟩:∃g,g=v.zg[k]:=⟨_,rfl⟩;obtain⟨x,hx⟩:∃x,x=v.snap.zi[k]'an:=⟨_,rfl⟩;have gg:(v.zg.map zy)[k]?=some (zy g):=by rw[gM,gL hk,hg];rfl
  have gx:(v.snap.zi.map jl)[k]?=some (jl x):=by rw[gM,gL an,hx];rfl
  have hgm:g∈v.zg:=by rw[hg];exact gz
  have me:(g.ends.map zu).length=g.ends.length:=gO ..;have mh:(x.zL.map yt).length=x.zL.length:=gO ..;have be:=(hv.ends g hgm).1
  have hd:kD v k=(decide (g.ends.length=x.zL.length) && !g.ends.any (yu x)):=by
   unfold kD;rw[gL hk,gL an,<-hg,<-hx]
  have bad:kD v k=false->kO v=false:=λh=>by
   unfold kO;rw[show(List.range v.zg.length).all (kD v)=false from rP.2 ⟨k,rS.2 hk,aA⟩,sq]
  have iL:kD v k=true->∀j,j<k+1->kD v j=true:=λh j hj=>by
   by_cases e:j=k
   .subst e;exact h
   .exact hr j an
  conv=>whnf
  rw[m1];refine uF ?_;refine uE ?_;(refine te gg ?_)
  rw[me];(refine te gx ?_)
  rw[mh];refine⟨λh3=>?_,λh3=>?_⟩
  .rw[bad (by rw[hd,rA aD];rfl)];refine zbw ?_
   exact uI
  have h3:g.ends.length=x.zL.length:=aD
  refine dd ?_;refine zH.seq g.ends.length (λj=>(.za::.ref 0 [] 5 0 0::Bo false::I k::I j:: .za::.za::mK (jp (jp ([]))))) (λj=>[⟨1,106,5,[zt v],0⟩]) (λj=>∀i,(h:i<g.ends.length)->i<j->yu x g.ends[i]=false) ?_ ah (λj hj hrj=>?_) (λhrj=>?_)
  .exact cC
  .obtain⟨e,hxe⟩:∃e,e=g.ends[j]:=⟨_,rfl⟩;have hem:e∈g.ends:=by rw[hxe];exact pH hj
   have hge:(g.ends.map zu)[j]?=some (zu e):=by rw[gM,gL hj,hxe];rfl
   have eo:=(hv.ends g hgm).2 e hem;have mn:(e.next.map Go.Hy.encI).length=e.next.length:=gO ..
   have bade:yu x e=true->kO v=false:=λh=>bad (by
    rw[hd,show g.ends.any (yu x)=true from ri.2 ⟨e,hem,h⟩];simp)
   conv=>whnf
   (refine te gg ?_)
   rw[me];refine uF ?_;(refine te gg ?_)
   (refine te hge ?_)
   refine uE ?_;refine af (Go.Slp.Ca e eo) ?_;refine⟨λh4=>?_,λh4=>?_⟩
   rotate_left
   .rw[bade (by unfold yu;rw[h4];rfl)];refine zac ?_
    refine zap ?_
    (try (refine .inr ⟨ah,uH ?_⟩))
    exact uI
   refine dd ?_;rw[mn];(refine te gx ?_)
   refine⟨λh5=>?_,λh5=>?_⟩
   .rw[bade (by unfold yu;simp at h5;simp[h5])];refine zac ?_
    refine zap ?_
    (try (refine .inr ⟨ah,uH ?_⟩))
    exact uI
   .refine zac ?_
    refine .inl ⟨rfl,?_,λi hi hij=>?_⟩
    .exact dz
    .by_cases q:i=j
     .subst q;rw[<-hxe];unfold yu;simp at h5;rw[h4,h5];simp
     .exact hrj i hi an
  .have no:g.ends.any (yu x)=false:=by
    rw[pI];intro y hy;obtain⟨i,hi,rfl⟩:=pz.1 hy;simp[hrj i hi hi]
   conv=>whnf
   (refine te gg ?_)
   rw[me];refine za2 ?_
   refine .inl ⟨rfl,?_,iL (by rw[hd,no,rH h3];rfl)⟩;exact dz
 .have e:kO v=true:=by
   unfold kO;rw[h1,rH h2',show(List.range v.zg.length).all (kD v)=true from gV.2 λi hi=>hr i (ai hi)]
   rfl
  rw[e];conv=>whnf
  rw[m1];refine za2 ?_
  exact uI
end Go.Wor
namespace Go.Lim
open Go.Ab Go.Proofs Tryz Go.Hy
variable{l:List fg}{v:Int}
def z7(l:List fg)(v:Int):Int:=match l.findIdx? (·.version == v) with|some i=>(i:Int)|none=> -1
def Ti{k:Nat}(eP:k<l.length)(hno:∀j,j<k->∀r,l[j]?=some r->(r.version == v)=false)(h:(l[k].version == v)=true):z7 l v=k:=by
 have:l.findIdx? (·.version == v)=some k:=by
  rw[pB];refine⟨eP,h,λj hj=>?_⟩;simp[hno j hj _ (gL an)]
 unfold z7;rw[this]
def PR{k:Nat}(hk:¬k<l.length)(hno:∀j,j<k->∀r,l[j]?=some r->(r.version == v)=false):z7 l v= -1:=by
 have:l.findIdx? (·.version == v)=none:=by
  rw[pD];intro x hx;obtain⟨j,hj⟩:=pA.1 hx;have hjl:=(gN.1 hj).1;exact hno j an x hj
 unfold z7;rw[this]
def va(hl:l.length<5864062014700):th 273 [] [lR l,I v] (I (z7 l v)) []:=by
 refine zb.AF (fn:=f273) func273 V (uH ?_) V
 refine zH.inv (λn t1 H1=>∃k,k+n=l.length/\H1=[]/\(∀j,j<k->∀r,l[j]?=some r->(r.version == v)=false)/\
   t1=((lR l)::I v::.za::.za::I 0::I k::mK ([.za,.za,.za,.za,.za,.za]))) l.length ?_ ?_
 .exact⟨_,_,zk.mask [0,1,4,5] _ _,0,ah,rfl,ah,rfl⟩
 rintro n _ _ ⟨k,hk,rfl,hno,rfl⟩;conv=>whnf
 refine⟨λh=>?_,λh=>?_⟩
 .conv=>whnf
  have eP:k<l.length:=ai h
  refine⟨an,qh l[k],aB,uH ?_⟩;refine⟨λh2=>?_,λh2=>?_⟩
  .conv=>whnf
   refine zaN ?_;exact⟨.inl V,_,.refl _,by rw[Ti eP hno h2];rfl⟩
  .conv=>whnf
   refine .inl ⟨rfl,n-1,_,_,an,zk.mask [0,1,4,5] _ _,k+1,an,rfl,?_,?_⟩
   .intro j hj r hr;by_cases hjk:j=k
    .subst hjk;rw[gL eP]at hr;cases hr
     exact h2
    .exact hno j an r hr
   .rw[zm an];rfl
 .conv=>whnf
  refine zaN ?_;have hge:¬k<l.length:=ai h
  exact⟨.inl V,_,.refl _,by rw[PR hge hno];rfl⟩
def okW(l:List fg)(i:Nat)(r:fg):Bool:=!(decide (r.version<0)) && !(decide (r.at_<0)) && (z7 l r.version == (i:Int))
def LW{i:Nat}(h:i<l.length):okW l i l[i]=fZ l i l[i]:=by
 unfold okW fZ
 congr 1
 unfold z7 AU;cases hf:l.findIdx? (·.version == l[i].version) with
 |none=>
  rw[pD]at hf;have:=hf l[i] (pH h);simp at this
 |some j=>
  rw[pB]at hf;obtain⟨h1,h2,h3⟩:=hf;rw[ub];simp only[pU,pS,pI];constructor
  .intro e x hx;have e':j=i:=by omega
   subst e';obtain⟨m,hm,rfl⟩:=pz.1 hx;simp at hm;rw[rQ];simpa using h3 m an
  .intro qc;rcases rU j i with eP|heq|eP
   .have:=qc l[j] (pz.2 ⟨j,ar,by rw[rQ]⟩);exact absurd tM this
   .omega
   .exact absurd ah (h3 i eP)
def Ca(hl:l.length<5864062014700):th 243 [] [lR l] (Bo (fm l)) []:=by
 refine zb.AF (fn:=f243) func243 V (uH ?_) V
 refine zH.inv (λn t1 H1=>∃k,k+n=l.length/\H1=[]/\(∀j,j<k->(h:j<l.length)->fZ l j l[j]=true)/\
   t1=((lR l)::.za::Bo false::I k::mK (mK (mK ([.za,.za,.za,.za,.za,.za,.za]))))) l.length ?_ ?_
 .exact⟨_,_,zk.mask [0,2,3] _ _,0,ah,rfl,ah,rfl⟩
 rintro n _ _ ⟨k,hk,rfl,hno,rfl⟩;conv=>whnf
 refine⟨λh=>?_,λh=>?_⟩
 .conv=>whnf
  have eP:k<l.length:=ai h
  have no:okW l k l[k]=false->fm l=false:=λe=>Kt eP (by rw[<-LW eP];exact e)
  have hel:(l.map qh)[(k:Int).toNat]?=some (qh l[k]):=aB
  refine⟨an,qh l[k],hel,uH ?_⟩;refine⟨λh1=>?_,λh1=>?_⟩
  .conv=>whnf
   refine zaN ?_;exact⟨.inl V,_,.refl _,by rw[no (by simp[okW,h1])];rfl⟩
  .conv=>whnf
   refine⟨an,qh l[k],hel,uH ?_⟩;refine⟨λh2=>?_,λh2=>?_⟩
   .conv=>whnf
    refine zaN ?_;exact⟨.inl V,_,.refl _,by rw[no (by simp[okW,h2])];rfl⟩
   .conv=>whnf
    refine⟨an,qh l[k],hel,uH ?_⟩;refine⟨_,_,(va (v:=l[k].version) hl).frame V _,uH ?_⟩;refine⟨λh3=>?_,λh3=>?_⟩
    .conv=>whnf
     refine zaN ?_;have h4:z7 l l[k].version≠(k:Int):=ai h3
     exact⟨.inl V,_,.refl _,by rw[no (by simp[okW,h4])];rfl⟩
    .conv=>whnf
     have h4:z7 l l[k].version=(k:Int):=ai h3
     refine .inl ⟨rfl,n-1,_,_,an,zk.mask [0,2,3] _ _,k+1,an,rfl,?_,?_⟩
     .intro j hj hjl;by_cases hjk:j=k
      .subst hjk;rw[<-LW eP];simp only[okW,h1,h2,h4];simp
      .exact hno j an hjl
     .rw[zm an];rfl
 .conv=>whnf
  refine zaN ?_
  have:fm l=true:=by
   unfold fm;rw[decide_eq_true_iff];intro i hi;have:¬k<l.length:=ai h
   exact hno i an hi
  exact⟨.inl V,_,.refl _,by rw[this];rfl⟩
end Go.Lim
namespace Go.Wor
open Go.Ab Go.Proofs Tryz Go.Gat Go.Nam Go.Hos Go.Con Go.Sna
open Go.Hy hiding encI
variable{w:Wor}{v:eX}{g:Gr}
def Ae(w:Wor)(v:eX)(i:Nat):Bool:=kO v && (v.qF == AT w.zn i)
def vq(w:Wor)(r:fg):Bool:=decide (r.version<0) || decide ((w.zd.length:Int)<=r.version) || r.version == w.current || decide (w.zr<r.at_)
structure B1(w:Wor):Prop where
 fT:∀(j:Nat) l,w.zc[j]?=some l->Go.Gat.fm l=true/\z7 w.zc l.name=j
 il:∀(j:Nat) v,w.zd[j]?=some v->Ae w v j=true
 iQ:∀r∈w.zn,vq w r=false
 EO:Go.Lim.fm w.zn=true
def Iq(w:Wor)(hw:fa w)(b:Bool)(hb:b=true↔B1 w):th 195 [] [Cw w] (Bo b) []:=by
 have m1:(w.zc.map zU).length=w.zc.length:=gO ..;have m2:(w.zd.map zt).length=w.zd.length:=gO ..;have m3:(w.zn.map qh).length=w.zn.length:=gO ..;have b1:=hw.zc.1;have b2:=hw.zd.1;have b3:=hw.zn
 have no:¬B1 w->b=false:=λh=>by
  cases e:b with
  |false=>rfl
  |true=>exact absurd (hb.1 e) h
 refine ab func195 ?_;refine zH.seq w.zc.length (λk=>(.za::.ref 0 [] 8 0 0::Bo false::I k:: .za::mK (jp (jp (mK (mK (mK ([])))))))) (λk=>[oW w]) (λk=>∀j l,j<k->w.zc[j]?=some l->Go.Gat.fm l=true/\z7 w.zc l.name=j) ?_ (λj l h=>absurd h an) (λk hk hr=>?_) (λhr=>?_)
 .exact cC
 .obtain⟨x,hx⟩:∃x,w.zc[k]?=some x:=⟨_,gL hk⟩;have hg:(w.zc.map zU)[k]?=some (zU x):=by rw[gM,hx];rfl
  have xo:=hw.zc.2 x (gT hx);conv=>whnf
  rw[m1];refine zaZ ?_
  refine af (Go.Gat.Ca x xo) ?_;refine⟨λh1=>?_,λh1=>?_⟩
  rotate_left
  .rw[no λq=>by have:=(q.fT k x hx).1;rw[h1]at this;cases this];exact zaW
  refine dd ?_;refine zb8 ?_
  refine af (Go.Gat.kL w.zc x.name an) ?_;refine⟨λh2=>?_,λh2=>?_⟩
  .rw[no λq=>by have:=(q.fT k x hx).2;simp at h2;exact h2 this];exact zaW
  .refine zac ?_
   refine .inl ⟨rfl,?_,λj l hj hl=>?_⟩
   .exact dz
   .by_cases q:j=k
    .subst q;rw[hx]at hl;cases hl;simp at h2;exact⟨h1,h2⟩
    .exact hr j l an hl
 conv=>whnf
 rw[m1];refine za2 ?_
 have hL:∀(j:Nat) l,w.zc[j]?=some l->Go.Gat.fm l=true/\z7 w.zc l.name=j:=λj l h=>hr j l (gN.1 h).1 h
 clear hr
 refine zH.seq w.zd.length (λk=>(.za::.ref 0 [] 8 0 0::Bo false:: .za::I k:: mK (jp (jp (mK (mK (mK ([])))))))) (λk=>[oW w]) (λk=>∀j v,j<k->w.zd[j]?=some v->Ae w v j=true) ?_ (λj l h=>absurd h an) (λk hk hr=>?_) (λhr=>?_)
 .exact cC
 .obtain⟨x,hx⟩:∃x,w.zd[k]?=some x:=⟨_,gL hk⟩;have hg:(w.zd.map zt)[k]?=some (zt x):=by rw[gM,hx];rfl
  have xo:=hw.zd.2 x (gT hx);conv=>whnf
  rw[m2];refine zaZ ?_
  refine af (Ot x xo) ?_;refine⟨λh1=>?_,λh1=>?_⟩
  rotate_left
  .rw[no λq=>by have:=q.il k x hx;unfold Ae at this;rw[h1]at this;cases this];exact zaW
  refine dd ?_;refine zb8 ?_
  refine⟨λhf=>?_,λhf=>?_⟩
  all_goals
   refine dd ?_;refine af (QS w.zn k an) ?_;refine⟨λh2=>?_,λh2=>?_⟩
   all_goals
    refine zac ?_
    first
     |(rw[no λq=>by have:=q.il k x hx;unfold Ae at this;rw[h1,hf,h2]at this;cases this];refine dd ?_;refine td ?_;(refine .inr ⟨ah,uH ?_⟩);(exact uI))
     |(refine .inl ⟨rfl,?_,λj l hj hl=>?_⟩
       .exact dz
       .by_cases q:j=k
        .subst q;rw[hx]at hl;cases hl;unfold Ae;rw[h1,hf,h2];rfl
        .exact hr j l an hl)
 conv=>whnf
 rw[m2];refine za2 ?_
 have hV:∀(j:Nat) v,w.zd[j]?=some v->Ae w v j=true:=λj l h=>hr j l (gN.1 h).1 h
 clear hr
 refine zH.seq w.zn.length (λk=>(.za::.ref 0 [] 8 0 0::Bo false:: .za::.za::I k:: .za::.za::.za::.za::.za::.za::.za::mK (jp (jp (mK (mK ([]))))))) (λk=>[oW w]) (λk=>∀j r,j<k->w.zn[j]?=some r->vq w r=false) ?_ (λj l h=>absurd h an) (λk hk hr=>?_) (λhr=>?_)
 .exact cC
 .obtain⟨r,hx⟩:∃x,w.zn[k]?=some x:=⟨_,gL hk⟩;have hg:(w.zn.map qh)[k]?=some (qh r):=by rw[gM,hx];rfl
  have bad:vq w r=true->b=false:=λh=>no λq=>by
   have:=q.iQ r (gT hx);rw[h]at this;cases this
  conv=>whnf
  rw[m3];refine zay ?_
  refine⟨λh1=>?_,λh1=>?_⟩
  .rw[bad (by unfold vq;rw[h1];rfl)];exact zaW
  refine dd ?_;rw[m2];refine⟨λh2=>?_,λh2=>?_⟩
  .rw[bad (by unfold vq;simp at h2;simp[h2])];exact zaW
  refine dd ?_;refine⟨λh3=>?_,λh3=>?_⟩
  .rw[bad (by unfold vq;simp at h3;simp[h3])];exact zaW
  refine dd ?_;refine⟨λh4=>?_,λh4=>?_⟩
  .rw[bad (by unfold vq;simp at h4;simp[h4])];exact zaW
  .refine zac ?_
   refine .inl ⟨rfl,?_,λj l hj hl=>?_⟩
   .exact dz
   .by_cases q:j=k
    .subst q;rw[hx]at hl;cases hl;unfold vq;simp at h1 h2 h3 h4;simp[h1,h2,h3,h4]
    .exact hr j l an hl
 conv=>whnf
 rw[m3];refine za2 ?_
 have hM:∀r∈w.zn,vq w r=false:=λr hm=>by
  obtain⟨j,hj⟩:=pA.1 hm;exact hr j r (gN.1 hj).1 hj
 refine af (Go.Lim.Ca (l:=w.zn) an) ?_;refine⟨λhI=>?_,λhI=>?_⟩
 .rw[hb.2 ⟨hL,hV,hM,hI⟩];exact dg
 .rw[no λq=>by have:=q.EO;rw[hI]at this;cases this];exact dg
def L2{l:List fg}(h:Go.Lim.fm l=true)(i:Int):AT l i=yK l i:=by
 rw[ub,kY l i (Bf h)];unfold AT;simp
def W9(g:jX w):B1 w:=by
 refine⟨g.fT,λj v hv=>?_,λr hr=>?_,g.zn⟩
 .obtain⟨h1,h2⟩:=g.il j v hv;unfold Ae;rw[DO.2 h1,L2 g.zn,h2];simp
 .obtain⟨i,hi⟩:=pA.1 hr;have la:=Bg g hi;have:=g.bad r hr;unfold yv at this;unfold vq;simp at this|-;omega
def Vw(gg:jt w=true)(hc:0<=w.current/\w.current<w.zd.length)(h:B1 w):jX w:=by
 refine⟨gg,hc,h.EO,λr hr=>?_,λj v hv=>?_,h.fT⟩
 .have:=h.iQ r hr;unfold vq at this;unfold yv;simp at this|-;omega
 .have:=h.il j v hv;unfold Ae at this;rw[L2 h.EO]at this;simp at this;exact⟨DO.1 this.1,this.2⟩
def Ou(w:Wor)(hw:fa w):th 143 [] [Cw w] (Bo (jW w)) []:=by
 have m1:(w.pins.map Go.Hy.encI).length=w.pins.length:=gO ..;have m2:(w.zd.map zt).length=w.zd.length:=gO ..;have m3:(w.counts.map zA).length=w.counts.length:=gO ..;have b1:=hw.pins;have b2:=hw.zd.1;have b3:=hw.counts.1
 have no:¬jX w->jW w=false:=λh=>by
  cases e:jW w with
  |false=>rfl
  |true=>exact absurd (qq.1 e) h
 have gr:jX w->HH w:=λg=>jZ.1 g.ground
 have n0:w.zr<0->¬jX w:=λh g=>by have:=(gr g).zr;omega
 have n1:w.zr > 1000000000000->¬jX w:=λh g=>by have:=(gr g).zr;omega
 have n2:w.lock<0->¬jX w:=λh g=>by have:=(gr g).lock;omega
 have n3:w.lock > 1->¬jX w:=λh g=>by have:=(gr g).lock;omega
 have n4:w.pins.length<1->¬jX w:=λh g=>by have:=(gr g).pins;omega
 have n5:w.pins.length > 8->¬jX w:=λh g=>by have:=(gr g).pins;omega
 have n6:w.counts.length≠w.pins.length->¬jX w:=λh g=>h (gr g).counts.1
 have n7:xV w.counts=false->¬jX w:=λh g=>by
  have:=g.ground;unfold jt at this;rw[h]at this;simp at this
 refine ab func143 ?_;rw[m1];refine⟨λh1=>?_,λh1=>?_⟩
 .rw[no (n4 (by have:=gQ h1;omega))];refine zac ?_
  exact uI
 refine dd ?_;refine⟨λh2=>?_,λh2=>?_⟩
 .rw[no (n5 (by have:=gQ h2;omega))];refine zac ?_
  exact uI
 refine dd ?_;rw[m3,m1];refine⟨λh3=>?_,λh3=>?_⟩
 .rw[no (n6 (by have:=h3;simp at this;omega))];refine zac ?_
  exact uI
 have h3:w.counts.length=w.pins.length:=aD
 refine dd ?_;refine af (Oo w.counts an) ?_;refine⟨λh4=>?_,λh4=>?_⟩
 rotate_left
 .rw[no (n7 (ai h4))];refine zac ?_
  exact uI
 have h4:xV w.counts=true:=ai h4
 refine dd ?_;refine⟨λh5=>?_,λh5=>?_⟩
 .rw[no (n0 (gQ h5))];refine zac ?_
  exact uI
 refine dd ?_;refine⟨λh6=>?_,λh6=>?_⟩
 .rw[no (n1 (gQ h6))];refine zac ?_
  exact uI
 refine dd ?_;refine⟨λh7=>?_,λh7=>?_⟩
 .rw[no (n2 (gQ h7))];refine zac ?_
  exact uI
 refine dd ?_;refine⟨λh8=>?_,λh8=>?_⟩
 .rw[no (n3 (gQ h8))];refine zac ?_
  exact uI
 refine zac ?_
 refine zH.seq w.pins.length (λk=>(.za::.ref 0 [] 8 0 0::Bo false::I k:: .za::.za::.za::.za::.za::mK (jp (jp (mK (mK ([]))))))) (λk=>[oW w]) (λk=>∀j,(h:j<w.pins.length)->j<k->0<=w.pins[j]/\w.pins[j]<=w.zr+1) ?_ ah (λk hk hr=>?_) (λhr=>?_)
 .exact cC
 .obtain⟨x,hx⟩:∃x,w.pins[k]?=some x:=⟨_,gL hk⟩;have hg:(w.pins.map Go.Hy.encI)[k]?=some (Go.Hy.encI x):=by rw[gM,hx];rfl
  have hk':w.pins[k]=x:=(gN.1 hx).2;have nx:¬(0<=x/\x<=w.zr+1)->¬jX w:=λh g=>h ((gr g).Ad x (gT hx))
  conv=>whnf
  rw[m1];refine zaZ ?_
  refine⟨λq1=>?_,λq1=>?_⟩
  .rw[no (nx (by have:=gQ q1;omega))];refine zac ?_
   refine zap ?_
   exact uI
  refine dd ?_;refine zb8 ?_
  refine⟨λq2=>?_,λq2=>?_⟩
  .have e0:0<=w.zr/\w.zr<=1000000000000:=by
    have:=gR h5;have:=gR h6;omega
   have q2:=gQ q2;rw[jB an an]at q2;rw[no (nx an)];refine zac ?_
   refine zap ?_
   exact uI
  .have e0:0<=w.zr/\w.zr<=1000000000000:=by
    have:=gR h5;have:=gR h6;omega
   have q1:=gR q1;have q2:=gR q2;rw[jB an an]at q2;refine zac ?_
   refine .inl ⟨rfl,?_,λj hj hl=>?_⟩
   .exact dz
   .by_cases q:j=k
    .subst q;rw[hk'];omega
    .exact dP
 conv=>whnf
 rw[m1]
 have gg:jt w=true:=jZ.2 ⟨by have:=gR h1;have:=gR h2;omega,⟨h3,by unfold xV at h4;simp at h4;exact h4.1.1⟩,by have:=gR h5;have:=gR h6;omega,by have:=gR h7;have:=gR h8;omega,λp hp=>by
  obtain⟨j,hj⟩:=pA.1 hp;have q:=hr j (gN.1 hj).1 (gN.1 hj).1;rw[(gN.1 hj).2]at q;exact q⟩
 refine za2 ?_
 refine⟨λc1=>?_,λc1=>?_⟩
 .rw[no (λg=>by have:=g.current;have:=gQ c1;omega)];refine zac ?_
  exact uI
 refine dd ?_;rw[m2];refine⟨λc2=>?_,λc2=>?_⟩
 .rw[no (λg=>by have:=g.current;have:=gQ c2;omega)];refine zac ?_
  exact uI
 have c1:=gR c1;have c2:=gR c2;refine dd ?_;by_cases l:B1 w
 rotate_left
 .refine af (Iq w hw false ⟨λh=>absurd h aj,λh=>absurd h l⟩) ?_;rw[no (λg=>l (W9 g))];refine td ?_
  exact uI
 have g:jX w:=Vw gg an l;refine af (Iq w hw true ⟨λ_=>l,λ_=>V⟩) ?_;refine td ?_
 obtain⟨v,hv⟩:∃v,w.zd[w.current.toNat]?=some v:=⟨_,gL an⟩;have hg:(w.zd.map zt)[w.current.toNat]?=some (zt v):=by rw[gM,hv];rfl
 have hf:v.qF=false:=by
  rw[(g.il _ v hv).2];cases e:yK w.zn (w.current.toNat:Int) with
  |false=>rfl
  |true=>
   obtain⟨r,hr,h1,_⟩:=(kY _ _ (Bf g.zn)).1 e;obtain⟨i,hi⟩:=pA.1 hr;have:=(Bg g hi).2.2.2.2;omega
 have hw1:jW w=true:=qq.2 g;refine⟨an,_,hg,uH ?_⟩;refine⟨λf1=>?_,λf1=>?_⟩
 .rw[hf]at f1;cases f1
 refine zac ?_
 rw[hw1];exact uI
def wb(i n:Int):th 144 [] [I i,I n] (Bo (fS i n)) []:=by
 refine ab func144 ?_;refine⟨λh1=>?_,λh1=>?_⟩
 .refine⟨λh2=>?_,λh2=>?_⟩
  .rw[show fS i n=true from by unfold fS;rw[h1,h2];rfl];exact dg
  .rw[show fS i n=false from by unfold fS;rw[h2];simp];exact dg
 .rw[show fS i n=false from by unfold fS;rw[h1];rfl];refine zac ?_
  exact uI
def zT(m:eQ)(a c x:Int):th 98 [] [Cm m,I a,I c,I x] (Ce ⟨m.zl,0,a,c, -1,false,x,false,false,false,kk⟩) []:=by
 refine ab func98 ?_;exact uI
def xJ(m:eQ)(e:e7)(a:fe):th 101 [] [Cm m,Ce e,.agg (jr a)] (.eR [Cm {m with done:=true,answer:=a},Ce {e with done:=true,answer:=a}]) []:=by
 refine ab func101 ?_;refine .inl ⟨⟨false,[0,1],[0,1],[]⟩,ak,uH ?_⟩;refine tc ?_
 exact uI
def jg(w:Wor)(m:eQ)(v:eX)(a c x:Int)(h0:0<=m.version)(hv:w.zd[m.version.toNat]?=some v):th 94 [] [Cw w,Cm m,I a,I c,I x] (Ce ⟨m.zl,0,a,c,m.version,v.qF,x,false,false,false,kk⟩) []:=by
 have gv:(w.zd.map zt)[m.version.toNat]?=some (zt v):=by rw[gM,hv];rfl
 refine ab func94 ?_;refine uE ?_;refine⟨h0,_,gv,uH ?_⟩;refine⟨λq=>?_,λq=>?_⟩
 .rw[q];exact dg
 .rw[q];exact dg
def zQ(w:Wor)(m:eQ)(hw:fa w)(hm:i64 m.listen):th 87 [] [Cw w,Cm m] (Bo (zE w m)) []:=by
 have m1:(w.pins.map Go.Hy.encI).length=w.pins.length:=gO ..;have m2:(w.zd.map zt).length=w.zd.length:=gO ..;have m3:(w.zc.map zU).length=w.zc.length:=gO ..;have b3:=hw.zc.1;refine ab func87 ?_;refine uE ?_;refine af (Ou w hw) ?_;refine⟨λh1=>?_,λh1=>?_⟩
 rotate_left
 ·(have e:zE w m=false:=by (unfold zE;(rw[h1]);simp));exact dc
 refine dd ?_;rw[m1];refine af (wb m.zl w.pins.length) ?_;refine⟨λh2=>?_,λh2=>?_⟩
 rotate_left
 ·(have e:zE w m=false:=by (unfold zE;(rw[h2]);simp));exact dc
 refine dd ?_;refine⟨λh3=>?_,λh3=>?_⟩
 ·(have e:zE w m=false:=by (unfold zE;(rw[h3]);simp));exact dc
 refine dd ?_;rw[m2];refine af (wb m.version w.zd.length) ?_;refine⟨λh4=>?_,λh4=>?_⟩
 rotate_left
 ·(have e:zE w m=false:=by (unfold zE;(rw[h4]);simp));exact dc
 obtain⟨c0,c1⟩:=ym.1 h4;have hv:w.zd[m.version.toNat]?=some (w.zd[m.version.toNat]'an):=gL _;generalize w.zd[m.version.toNat]'an=v at hv;have gv:(w.zd.map zt)[m.version.toNat]?=some (zt v):=by rw[gM,hv];rfl
 have m4:(v.zg.map zy).length=v.zg.length:=gO ..
 have g0:zE w m=(fS m.zp v.zg.length && (match v.zg[m.zp.toNat]? with
  |none=>false
  |some g=>fS m.end_ g.ends.length && fS m.other g.ends.length && (match g.ends[m.end_.toNat]? with
   |none=>false
   |some e=>fS m.slot e.next.length) && (fS (m.listen+1) (w.zc.length+1) && decide (0<=m.i) && decide (0<=m.k)))):=by
  unfold zE;rw[h1,h2,h3,h4,hv]
  rfl
 rw[g0];refine dd ?_;refine⟨c0,_,gv,dd ?_⟩;rw[m4];refine af (wb m.zp v.zg.length) ?_;refine⟨λh5=>?_,λh5=>?_⟩
 rotate_left
 .rw[h5];refine zac ?_
  exact uI
 obtain⟨c2,c3⟩:=ym.1 h5;have hg:v.zg[m.zp.toNat]?=some (v.zg[m.zp.toNat]'an):=gL _;generalize v.zg[m.zp.toNat]'an=g at hg;have gg:(v.zg.map zy)[m.zp.toNat]?=some (zy g):=by rw[gM,hg];rfl
 have m5:(g.ends.map zu).length=g.ends.length:=gO ..;rw[h5,hg];dsimp only;refine zac ?_
 refine uE ?_;refine⟨c0,_,gv,uH ?_⟩;refine⟨c2,_,gg,uH ?_⟩;refine uE ?_;rw[m5];refine af (wb m.end_ g.ends.length) ?_;refine⟨λh6=>?_,λh6=>?_⟩
 rotate_left
 .rw[h6];refine zac ?_
  exact uI
 obtain⟨c4,c5⟩:=ym.1 h6;have he:g.ends[m.end_.toNat]?=some (g.ends[m.end_.toNat]'an):=gL _;generalize g.ends[m.end_.toNat]'an=e at he;have ge:(g.ends.map zu)[m.end_.toNat]?=some (zu e):=by rw[gM,he];rfl
 have m6:(e.next.map Go.Hy.encI).length=e.next.length:=gO ..;rw[h6,he];dsimp only;refine dd ?_;rw[m5];refine af (wb m.other g.ends.length) ?_;refine⟨λh7=>?_,λh7=>?_⟩
 rotate_left
 .rw[h7];refine zac ?_
  exact uI
 rw[h7];refine dd ?_;refine⟨c4,_,ge,dd ?_⟩;rw[m6];refine af (wb m.slot e.next.length) ?_;refine⟨λh8=>?_,λh8=>?_⟩
 rotate_left
 .rw[h8];refine zac ?_
  exact uI
 rw[h8];refine zac ?_
 refine⟨λq1=>?_,λq1=>?_⟩
 rotate_left
 .refine zac ?_
  (exact⟨.inl V,_,.refl _,uN (by symm;unfold fS;simp at q1|-;omega)⟩)
 refine dd ?_;rw[m3];refine⟨λq2=>?_,λq2=>?_⟩
 rotate_left
 .refine zac ?_
  (exact⟨.inl V,_,.refl _,uN (by symm;unfold fS;simp at q1 q2|-;omega)⟩)
 refine dd ?_;refine⟨λq3=>?_,λq3=>?_⟩
 rotate_left
 .refine zac ?_
  (exact⟨.inl V,_,.refl _,uN (by symm;unfold fS;simp at q1 q2 q3|-;omega)⟩)
 refine dd ?_;refine⟨λq4=>?_,λq4=>?_⟩
 .refine zac ?_
  (exact⟨.inl V,_,.refl _,uN (by symm;unfold fS;simp at q1 q2 q3 q4|-;omega)⟩)
 .refine zac ?_
  (exact⟨.inl V,_,.refl _,uN (by symm;unfold fS;simp at q1 q2 q3 q4|-;omega)⟩)
def iG(v:eX)(k:Nat):Nat:=((v.zg.take k).flatMap (·.ends)).length
def UJ{k:Nat}(h:v.zg[k]?=some g):iG v (k+1)=iG v k+g.ends.length:=by
 have e:v.zg.take (k+1)=v.zg.take k++[g]:=by rw[sN,h];rfl
 unfold iG;rw[e];simp
def Uh{k:Nat}(h:v.zg[k]?=some g):jb v=(v.zg.take k).flatMap (·.ends)++(g.ends++(v.zg.drop (k+1)).flatMap (·.ends)):=by
 have e:v.zg.drop k=g::v.zg.drop (k+1):=by
  rw[uc (gN.1 h).1,(gN.1 h).2]
 have a:v.zg=v.zg.take k++g::v.zg.drop (k+1):=by rw[<-e,sZ]
 show v.zg.flatMap (·.ends)=_;conv=>lhs;rw[a]
 simp
def Vt{k n:Nat}(h:v.zg[k]?=some g)(h1:iG v k<=n)(h2:n-iG v k<g.ends.length):(jb v)[n]?=g.ends[n-iG v k]?:=by
 unfold iG at h1 h2|-;rw[Uh h,pq h1,gW h2]
def JQ(v:eX)(hv:mR v)(n:Nat)(e:En)(he:(jb v)[n]?=some e):th 157 [] [Cv v,I n] (.agg (zu e)) []:=by
 have m1:(v.zg.map zy).length=v.zg.length:=gO ..;have hn:n<(jb v).length:=(gN.1 he).1;have b1:=hv.zg;have hs:(jb v).length<=v.zg.length*1000:=FP v.zg hv.ends;refine ab func157 ?_;refine zH.seq v.zg.length (λk=>((Cv v)::I ((n-iG v k:Nat):Int)::.ref 0 [] 5 0 0::.za::.ref 1 [] 3 0 0::I k::mK (mK (mK (mK ([.za,.za,.za])))))) (λk=>[⟨1,106,5,[zt v],0⟩,⟨1,151,3,[[U 0,.eM 1 0 [],I 0]],0⟩]) (λk=>iG v k<=n) ?_ (pC _) (λk hk hr=>?_) (λhr=>?_)
 .rw[show n-iG v 0=n from by unfold iG;simp];exact cC
 .obtain⟨g,hg⟩:∃g,v.zg[k]?=some g:=⟨_,gL hk⟩;have gg:(v.zg.map zy)[k]?=some (zy g):=by rw[gM,hg];rfl
  have m2:(g.ends.map zu).length=g.ends.length:=gO ..;have sc:=UJ hg;have gl:=hv.ends g (gT hg);conv=>whnf
  rw[m1];refine uF ?_;(refine te gg ?_)
  rw[m2];refine⟨λq=>?_,λq=>?_⟩
  .have q:=gQ q;have q:n-iG v k<g.ends.length:=by omega
   have ge:g.ends[n-iG v k]?=some e:=(Vt hg hr q).symm.trans he;have ge:(g.ends.map zu)[n-iG v k]?=some (zu e):=by rw[gM,ge];rfl
   refine dd ?_;(refine te gg ?_)
   (refine te ge ?_)
   refine zap ?_
   exact uI
  .have q:=gR q;have q:g.ends.length<=n-iG v k:=by omega
   refine dd ?_;(refine te gg ?_)
   refine .inl ⟨rfl,?_,an⟩;rw[m2,zm an,jB an an,show((n-iG v k:Nat):Int)-(g.ends.length:Int)=((n-iG v (k+1):Nat):Int) from an];exact cE 2
 .exfalso
  have:iG v v.zg.length=(jb v).length:=by unfold iG;rw[px];rfl
  omega
structure nI(w:Wor)(m:eQ):Prop where
 pc:0<=m.pc/\m.pc<=10/\m.pc≠7
 i:0<=m.i
 Ad:m.pc=2->m.i<w.pins.length
 ends : m.pc = 5 -> 0 <= m.version /\ ∃v, w.zd[m.version.toNat]? = some v /\ mR v /\ m.k<(jb v).length
 free:m.pc=6->∃r,w.zn[m.i.toNat]?=some r/\r.version=m.version/\r.gone=false
 shut:8<m.pc->∃l,w.zc[m.i.toNat]?=some l/\(m.pc=9\/l.drain=true)
def yM(w:Wor)(m:eQ)(hw:fa w)(hm:i64 m.listen)(hs:zE w m=true)(h:nI w m):th 102 [] [Cw w,Cm m] (Bo true) []:=by
 have m1:(w.pins.map Go.Hy.encI).length=w.pins.length:=gO ..;have m2:(w.zd.map zt).length=w.zd.length:=gO ..;have m3:(w.zc.map zU).length=w.zc.length:=gO ..;have m4:(w.zn.map qh).length=w.zn.length:=gO ..;refine ab func102 ?_;refine af (zQ w m hw hm) ?_;rw[hs];refine td ?_
 refine⟨λq1=>?_,λq1=>?_⟩
 ·(have q:=gQ q1);(exact absurd q (by have:=h.pc;omega))
 refine dd ?_;refine⟨λq2=>?_,λq2=>?_⟩
 ·(have q:=gQ q2);(exact absurd q (by have:=h.pc;omega))
 refine dd ?_;refine⟨λq3=>?_,λq3=>?_⟩
 .exact absurd (eq_of_beq q3) h.pc.2.2
 refine zac ?_
 refine⟨λp2=>?_,λp2=>?_⟩
 .have p2:=eq_of_beq p2;refine dd ?_;rw[m1];have hp:=h.Ad p2;refine⟨λ_=>dd ?_,λq=>absurd hp (gR q)⟩;exact uI
 refine dd ?_;refine⟨λp5=>?_,λp5=>?_⟩
 .have p5:=eq_of_beq p5;obtain⟨v0,v,hv,fv,hk⟩:=h.ends p5;have gv:(w.zd.map zt)[m.version.toNat]?=some (zt v):=by rw[gM,hv];rfl
  refine dd ?_;refine uE ?_;refine⟨v0,_,gv,uH ?_⟩;refine af (Fe v fv) ?_;refine⟨λ_=>dd ?_,λq=>absurd hk (gR q)⟩;exact uI
 refine dd ?_;refine⟨λp6=>?_,λp6=>?_⟩
 .have p6:=eq_of_beq p6;obtain⟨r,hr,hv,hg⟩:=h.free p6;have gr:(w.zn.map qh)[m.i.toNat]?=some (qh r):=by rw[gM,hr];rfl
  have hl:=(gN.1 hr).1;have hi:=h.i;refine dd ?_;refine uE ?_;rw[m4];refine⟨λ_=>dd ?_,λq=>absurd (show m.i<(w.zn.length:Int) by omega) (gR q)⟩;refine⟨hi,_,gr,uH ?_⟩;refine⟨λ_=>dd ?_,λq=>absurd (by rw[hv];exact beq_self_eq_true _:(r.version == m.version)=true) tU⟩;refine⟨hi,_,gr,uH ?_⟩;refine⟨λq=>absurd (hg.symm.trans q) aj,λ_=>dd ?_⟩;refine td ?_
  exact uI
 refine dd ?_;refine⟨λp8=>?_,λp8=>?_⟩
 .have p8:=gQ p8;obtain⟨l,hl,hd⟩:=h.shut an;have gl:(w.zc.map zU)[m.i.toNat]?=some (zU l):=by rw[gM,hl];rfl
  have hi:=h.i;have hl:=(gN.1 hl).1;refine dd ?_;rw[m3];refine⟨λ_=>dd ?_,λq=>absurd (show m.i<(w.zc.length:Int) by omega) (gR q)⟩;refine⟨λp9=>?_,λp9=>?_⟩
  .refine zac ?_
   exact uI
  refine dd ?_;refine⟨hi,_,gl,uH ?_⟩;have hd:l.drain=true:=hd.resolve_left λq=>by rw[q]at p9;simp at p9
  refine⟨λ_=>dd ?_,λq=>absurd (hd.symm.trans q) aj⟩;refine td ?_
  exact uI
 refine zac ?_
 exact uI
def qw(w:Wor)(h:z6 w):th 89 [] [Cw w] (Cw w) []:=by
 have m1:(w.pins.map Go.Hy.encI).length=w.pins.length:=gO ..;have m2:(w.zd.map zt).length=w.zd.length:=gO ..;have m3:(w.zc.map zU).length=w.zc.length:=gO ..;have m4:(w.zn.map qh).length=w.zn.length:=gO ..;have b1:=h.pins;have b2:=h.zd.1;have b3:=h.zc;have b4:=h.zn;refine ab func89 ?_;refine zaq ?_;refine zH.seq w.zd.length (λk=>(.za::.ref 0 [] 8 0 0:: .ref 1 [] 8 0 0:: .ref 2 [] 8 0 0::I k:: .za::.za::mK (jp (jp (jp (jp (mK ([])))))))) (λk=>[oW w,⟨1,38,8,[fB],0⟩,⟨1,38,8,[[I w.zr,I w.current,I w.lock,.gl 3 1 (w.pins.map Go.Hy.encI),.gl 4 5 ((w.zd.take k).map zt),lL w.zc,ff w.counts,lR w.zn]],0⟩,⟨4,3,1,(w.pins.map Go.Hy.encI),0⟩,⟨4,106,5,((w.zd.take k).map zt),0⟩]) (λk=>True) ?_ trivial (λk hk _=>?_) (λ_=>?_)
 .exact dI
 .obtain⟨v,hv⟩:∃v,v=w.zd[k]:=⟨_,rfl⟩;have hgv:(w.zd.map zt)[k]?=some (zt v):=by rw[gM,gL hk,hv];rfl
  have sv:=h.zd.2 v tN;have m5:(v.zg.map zy).length=v.zg.length:=gO ..;have b5:=sv.1;conv=>whnf
  rw[m2];refine zaA ?_
  refine zH.seq v.zg.length (λj=>(.za::.ref 0 [] 8 0 0:: .ref 1 [] 8 0 0:: .ref 2 [] 8 0 0::I k:: .ref 5 [] 5 0 0::I j:: mK (jp (jp (jp (jp (mK ([])))))))) (λj=>[oW w,⟨1,38,8,[fB],0⟩,⟨1,38,8,[[I w.zr,I w.current,I w.lock,.gl 3 1 (w.pins.map Go.Hy.encI),.gl 4 5 ((w.zd.take k).map zt),lL w.zc,ff w.counts,lR w.zn]],0⟩,⟨4,3,1,(w.pins.map Go.Hy.encI),0⟩,⟨4,106,5,((w.zd.take k).map zt),0⟩,⟨1,106,5,[qP v.snap++[.gl 6 2 ((v.zg.take j).map zy),Bo v.qF]],0⟩,⟨4,111,2,((v.zg.take j).map zy),0⟩]) (λk=>True) ?_ trivial (λj hj _=>?_) (λ_=>?_)
  .exact dk
  .obtain⟨g,hg⟩:∃g,g=v.zg[j]:=⟨_,rfl⟩;have hgg:(v.zg.map zy)[j]?=some (zy g):=by rw[gM,gL hj,hg];rfl
   have sg:=sv.2 g tH;have m6:(g.ends.map zu).length=g.ends.length:=gO ..;have b6:=sg.1;have lG:(((v.zg.take j).map zy)).length=j:=ar
   have eG:((v.zg.take (j+1)).map zy)=((v.zg.take j).map zy)++[zy g]:=bZ
   conv=>whnf
   refine zbo ?_
   rw[m5];refine zaA ?_
   refine za7 ?_
   refine zH.seq g.ends.length (λn=>(.za::.ref 0 [] 8 0 0:: .ref 1 [] 8 0 0:: .ref 2 [] 8 0 0::I k:: .ref 5 [] 5 0 0::I j:: .ref 7 [] 2 0 0::I n:: .za::.za::.za::.za::.za::.za::mK (jp (jp (jp (jp ([]))))))) (λn=>[oW w,⟨1,38,8,[fB],0⟩,⟨1,38,8,[[I w.zr,I w.current,I w.lock,.gl 3 1 (w.pins.map Go.Hy.encI),.gl 4 5 ((w.zd.take k).map zt),lL w.zc,ff w.counts,lR w.zn]],0⟩,⟨4,3,1,(w.pins.map Go.Hy.encI),0⟩,⟨4,106,5,((w.zd.take k).map zt),0⟩,⟨1,106,5,[qP v.snap++[.gl 6 2 ((v.zg.take j).map zy),Bo v.qF]],0⟩,⟨4,111,2,((v.zg.take j).map zy),0⟩,⟨1,111,2,[[U g.zC,.gl 8 3 ((g.ends.take n).map zu)]],0⟩,⟨4,151,3,((g.ends.take n).map zu),0⟩]) (λk=>True) ?_ trivial (λn hn _=>?_) (λ_=>?_)
   .exact dj
   .obtain⟨e,he⟩:∃e,e=g.ends[n]:=⟨_,rfl⟩;have hge:(g.ends.map zu)[n]?=some (zu e):=by rw[gM,gL hn,he];rfl
    have se:=sg.2 e tI;have m7:(e.next.map Go.Hy.encI).length=e.next.length:=gO ..;have lE:(((g.ends.take n).map zu)).length=n:=ar
    have eE:((g.ends.take (n+1)).map zu)=((g.ends.take n).map zu)++[zu e]:=b9
    conv=>whnf
    refine zbo ?_
    refine za7 ?_
    rw[m6];refine zaA ?_
    refine za7 ?_
    (refine te hge ?_)
    exact c7
   .conv=>whnf
    refine zbo ?_
    refine za7 ?_
    exact cZ
  .have lV:(((w.zd.take k).map zt)).length=k:=by simp;omega
   have eV:((w.zd.take (k+1)).map zt)=((w.zd.take k).map zt)++[zt v]:=cp
   conv=>whnf
   refine zbo ?_
   exact db
 .conv=>whnf
  rw[m2];refine zaf ?_;rw[px];have m8:(w.counts.map zA).length=w.counts.length:=gO ..;have b8:=h.counts.1;refine zbF ?_;refine zH.seq w.counts.length (λk=>(.za::.ref 0 [] 8 0 0:: .ref 1 [] 8 0 0:: .ref 2 [] 8 0 0:: .za::.za::.za::.za::.za::.za::.za::I k:: .za::.za::.za::mK (jp (jp (jp (jp ([]))))))) (λk=>[oW w,⟨1,38,8,[fB],0⟩,⟨1,38,8,[[I w.zr,I w.current,I w.lock,.gl 3 1 (w.pins.map Go.Hy.encI),.gl 4 5 (w.zd.map zt),.gl 5 4 (w.zc.map zU),.gl 6 1 ((w.counts.take k).map zA),lR w.zn]],0⟩,⟨4,3,1,(w.pins.map Go.Hy.encI),0⟩,⟨4,106,5,w.zd.map zt,0⟩,⟨4,98,4,w.zc.map zU,0⟩,⟨4,155,1,((w.counts.take k).map zA),0⟩]) (λk=>True) ?_ trivial (λk hk _=>?_) (λ_=>?_)
  .exact dv
  .obtain⟨r,hr⟩:∃r,r=w.counts[k]:=⟨_,rfl⟩;have hgr:(w.counts.map zA)[k]?=some (zA r):=by rw[gM,gL hk,hr];rfl
   have sr:=h.counts.2 r tJ;have lC:(((w.counts.take k).map zA)).length=k:=ar
   have eC:((w.counts.take (k+1)).map zA)=((w.counts.take k).map zA)++[zA r]:=cx
   conv=>whnf
   refine zaQ ?_
   refine⟨?_,?_⟩
   .conv=>whnf
    refine zae ?_
    refine zaq ?_;refine zae ?_
    refine zaT ?_
    refine zaC ?_
    exact de
   .refine⟨?_,trivial⟩;conv=>whnf
    refine zaq ?_;refine tc ?_
    refine⟨?_,?_⟩
    .conv=>whnf
     refine zae ?_
     refine zaT ?_
     refine zaC ?_
     exact de
    .trivial
  .conv=>whnf
   rw[m8];refine zaf ?_;rw[px];refine .inl ⟨.inl V,.inr V,aq,bG,uH ?_⟩;exact uI
def OA(w x:Wor)(m:eQ)(hp:m.pc=1):th 103 [] [Cw w,Cw x,Cm m] (.eR [Cw x,Cm {m with zr:=w.zr,pc:=2,i:=0},Ce (fc m 1 1 w.zr)]) []:=by
 refine ab func103 ?_;rw[hp];refine td ?_
 refine .inl ⟨⟨true,[0,1,2,4],[0,1,2],[5]⟩,ak,uH ?_⟩;refine af (zT {m with zr:=w.zr,pc:=2,i:=0} 1 1 w.zr) ?_;refine tc ?_
 exact uI
def Oz(w x:Wor)(m:eQ)(hp:m.pc=0)(hl:w.lock=0):th 103 [] [Cw w,Cw x,Cm m] (.eR [Cw {x with lock:=1},Cm {m with pc:=1},Ce (fc m 4 14 1)]) []:=by
 refine ab func103 ?_;rw[hp];refine td ?_
 rw[hl];refine td ?_
 refine .inl ⟨⟨true,[0,1,2],[0,1,2],[3]⟩,ak,uH ?_⟩;refine af (zT {m with pc:=1} 4 14 1) ?_;refine tc ?_
 exact uI
def OB(w x:Wor)(m:eQ)(p:Int)(hp:m.pc=2)(h0:0<=m.i)(hx:w.pins[m.i.toNat]?=some p):th 103 [] [Cw w,Cw x,Cm m] (.eR [Cw x,Cm (nU w m p),Ce (fc m 1 2 p)]) []:=by
 have m1:(w.pins.map Go.Hy.encI).length=w.pins.length:=gO ..;have hg:(w.pins.map Go.Hy.encI)[m.i.toNat]?=some (Go.Hy.encI p):=by rw[gM,hx];rfl
 refine ab func103 ?_;rw[hp];refine td ?_
 refine⟨h0,_,hg,uH ?_⟩;by_cases c:p≠0/\p≠IntKind.i64.wrap (m.zr+1)
 .rw[show nU w m p=fJ m 4 0 from gS c];refine⟨λ_=>dd ?_,λh=>absurd c.1 uW⟩;refine⟨λ_=>dd ?_,λh=>absurd c.2 uW⟩;refine td ?_
  refine .inl ⟨⟨true,[0,1,2],[0,1,2],[4]⟩,ak,uH ?_⟩;refine af (zT (fJ m 4 0) 1 2 p) ?_;refine tc ?_
  exact uI
 by_cases q:IntKind.i64.wrap (m.i+1)<(w.pins.length:Int)
 .rw[show nU w m p={m with i:=IntKind.i64.wrap (m.i+1),pc:=2} from((gP c).trans (gS q)).trans (by rw[<-hp])];by_cases c0:p=0
  .refine⟨λh=>absurd c0 uW,λ_=>?_⟩;refine zac ?_
   exact zbr
  .have c1:p=IntKind.i64.wrap (m.zr+1):=Decidable.not_not.1 λh=>c ⟨c0,h⟩
   refine⟨λ_=>dd ?_,λh=>absurd uW c0⟩;refine⟨λh=>absurd c1 uW,λ_=>dd ?_⟩;refine td ?_
   exact zbr
 .rw[show nU w m p=fJ m 3 (IntKind.i64.wrap (m.i+1)) from(gP c).trans (gP q)];by_cases c0:p=0
  .refine⟨λh=>absurd c0 uW,λ_=>?_⟩;refine zac ?_
   exact zbs
  .have c1:p=IntKind.i64.wrap (m.zr+1):=Decidable.not_not.1 λh=>c ⟨c0,h⟩
   refine⟨λ_=>dd ?_,λh=>absurd uW c0⟩;refine⟨λh=>absurd c1 uW,λ_=>dd ?_⟩;refine td ?_
   exact zbs
def OC(w x:Wor)(m:eQ)(hp:m.pc=3):th 103 [] [Cw w,Cw x,Cm m]
  (if w.zr=m.zr/\w.zr<1000000000000 then .eR [Cw {x with zr:=IntKind.i64.wrap (w.zr+1)},Cm {fJ m 4 0 with zr:=IntKind.i64.wrap (w.zr+1)},Ce (fc m 4 1 (IntKind.i64.wrap (w.zr+1)))] else .eR [Cw x,Cm (fJ m 4 0),Ce (fc m 5 1 w.zr)]) []:=by
 have hc:=zT {m with pc:=3} 5 1 w.zr;refine ab func103 ?_;rw[hp];refine td ?_
 refine af hc ?_;by_cases c:w.zr=m.zr/\w.zr<1000000000000
 .rw[gS c];refine⟨λ_=>dd ?_,λh=>absurd c.1 uW⟩;refine⟨λ_=>dd ?_,λh=>absurd c.2 (gR h)⟩;refine za9 ?_
  exact uI
 rw[gP c];by_cases c0:w.zr=m.zr
 .have c1:¬w.zr<1000000000000:=λh=>c ⟨c0,h⟩
  refine⟨λ_=>dd ?_,λh=>absurd uW (λq:¬w.zr=m.zr=>q c0)⟩;refine⟨λh=>absurd (gQ h) c1,λ_=>dd ?_⟩;refine td ?_
  refine za9 ?_
  exact uI
 .refine⟨λh=>absurd uW c0,λ_=>?_⟩;refine zac ?_
  refine za9 ?_
  exact uI
end Go.Wor
