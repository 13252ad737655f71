import Derived.Test.YtamgiodaflkbhaaGreatV5
import Derived.Test.YtamgiodaflkbhaaGreatV6
import Derived.Test.YtamgiodaflkbhaaGreatVH
import Derived.Test.YtamgiodaflkbhaaGreatVS5
set_option linter.all false
set_option maxRecDepth 100000
set_option maxHeartbeats 4000000
namespace Go.Wor
open Go.Ab Go.Proofs Tryz Go.Gat Go.Nam Go.Hos Go.Con Go.Sna Go.Pla
open Go.Hy hiding encI
def Oy(s:ic)(hs:CM s)(hf:qQ s.first):th 28 [] [Bf s] (Bo (iJ s)) []:=by
 have m1:(s.threads.map j0).length=s.threads.length:=pz ..;have m2:(s.zY.map Go.Hy.encI).length=s.zY.length:=pz ..;have b1:=hs.threads;have b2:=hs.zY;have hch:=wa s.first hf;have hr0:yH s.first=((qh s.first).1 == 0):=rfl;generalize qh s.first=cv at hch hr0;obtain⟨er,pe⟩:=cv;dsimp only at hr0;refine ab func28 ?_;refine af hch ?_;refine⟨λh1=>?_,λh1=>?_⟩
 ·(rw[show iJ s=false from by (unfold iJ;rw[hr0,show(er == 0)=false by simpa using h1];rfl)]);exact dv
 have h1:yH s.first=true:=by rw[hr0];simpa using h1
 refine dd ?_;rw[m1];refine⟨λh2=>?_,λh2=>?_⟩
 ·(rw[show iJ s=false from aC]);exact dv
 have h2:1<=s.threads.length:=aD
 refine dd ?_;rw[m1];refine⟨λh3=>?_,λh3=>?_⟩
 ·(rw[show iJ s=false from aE]);exact dv
 have h3:s.threads.length<=8:=aF
 refine dd ?_;rw[m2];refine⟨λh4=>?_,λh4=>?_⟩
 ·(rw[show iJ s=false from aG]);exact dv
 have h4:s.zY.length<=4000:=by simp at h4;omega
 have e1:iJ s=(!s.threads.any l6 && !s.zY.any Az):=by
  unfold iJ;rw[h1,rX h2,rX h3,rX h4]
  rfl
 refine zac ?_
 refine zH.seq s.threads.length (λk=>(.za::.ref 0 [] 5 0 0::Bo false:: .za::.za::I k:: .za::.za::.za::.za::.za::.za::.za::mL (jp (jp (mL ([])))))) (λk=>[oS s]) (λk=>∀j,(h:j<s.threads.length)->j<k->l6 s.threads[j]=false) ?_ ah (λk hk hr=>?_) (λhr=>?_)
 .exact cC
 .obtain⟨v,hx⟩:∃v,v=s.threads[k]:=⟨_,rfl⟩;have hv:v∈s.threads:=by rw[hx];exact gp
  have hg:(s.threads.map j0)[k]?=some (j0 v):=by rw[pw,pq hk,hx];rfl
  have mg:(v.map yB).length=v.length:=pz ..
  have bad:l6 v=true->iJ s=false:=λh=>by
   rw[e1,rJ.2 ⟨v,hv,h⟩];rfl
  have bg:=hs.ops v hv;conv=>whnf
  rw[m1];refine zaD ?_
  rw[mg];refine⟨λc2=>?_,λc2=>?_⟩
  .rw[bad (by unfold l6;rw[rX (by simp at c2;omega)];rfl)];refine zbV ?_
   exact uI
  have c2:¬16<v.length:=by simp at c2;omega
  refine dd ?_;refine zH.seq v.length (λj=>(.za::.ref 0 [] 5 0 0::Bo false:: .za::.za::I k::I j:: .za::.za::.za::.za::.za::.za::mL (jp (jp (mL ([])))))) (λj=>[oS s]) (λj=>∀i,(h:i<v.length)->i<j->my v[i]=false) ?_ ah (λj hj hrj=>?_) (λhrj=>?_)
  .exact cC
  .obtain⟨o,hxg⟩:∃o,o=v[j]:=⟨_,rfl⟩;have ho:o∈v:=by rw[hxg];exact ph
   have hgg:(v.map yB)[j]?=some (yB o):=by rw[pw,pq hj,hxg];rfl
   have badg:my o=true->iJ s=false:=λh=>bad (by
    have:v.any my=true:=rJ.2 ⟨o,ho,h⟩;unfold l6;rw[this,uh])
   conv=>whnf
   refine zbR ?_
   rw[mg];refine zaD ?_
   refine zbh ?_
   refine⟨λc3=>?_,λc3=>?_⟩
   .rw[badg (by unfold my;rw[c3];rfl)];refine zac ?_
    refine zaw ?_
    refine zbS ?_
    exact uI
   refine dd ?_;refine zbR ?_
   refine zbh ?_
   refine⟨λc4=>?_,λc4=>?_⟩
   .rw[badg (by unfold my;simp at c4;simp[c4])];refine zac ?_
    refine zaw ?_
    refine zbS ?_
    exact uI
   refine zac ?_
   refine .inl ⟨rfl,?_,λi hi hij=>?_⟩
   .exact dG
   .by_cases e:i=j
    .subst e;rw[<-hxg];unfold my;rw[c3];simp at c4;simp;omega
    .exact hrj i hi an
  .have h5:v.any my=false:=by
    rw[rk];intro x hx;obtain⟨i,hi,rfl⟩:=pU.1 hx;simp[hrj i hi hi]
   conv=>whnf
   refine zbR ?_
   rw[mg];refine zaf ?_;refine .inl ⟨rfl,?_,λi hi hij=>?_⟩
   .exact dG
   .by_cases e:i=k
    .subst e;rw[<-hx];unfold l6;rw[rW c2,h5]
     rfl
    .exact hr i hi an
 .have h5:s.threads.any l6=false:=by
   rw[rk];intro x hx;obtain⟨i,hi,rfl⟩:=pU.1 hx;simp[hr i hi hi]
  rw[e1,h5];conv=>whnf
  rw[m1];refine zaf ?_;refine zH.seq s.zY.length (λk=>(.za::.ref 0 [] 5 0 0::Bo false:: .za::.za::.za::.za::I k:: .za::.za::.za::.za::.za::mL (jp (jp (mL ([])))))) (λk=>[oS s]) (λk=>∀j,(h:j<s.zY.length)->j<k->Az s.zY[j]=false) ?_ ah (λk hk hr=>?_) (λhr=>?_)
  .exact cC
  .obtain⟨n,hx⟩:∃n,n=s.zY[k]:=⟨_,rfl⟩;have hn:n∈s.zY:=by rw[hx];exact gp
   have hg:(s.zY.map Go.Hy.encI)[k]?=some (Go.Hy.encI n):=by rw[pw,pq hk,hx];rfl
   conv=>whnf
   rw[m2];refine zaD ?_
   refine⟨λc2=>?_,λc2=>?_⟩
   .rw[show s.zY.any Az=true from rJ.2 ⟨n,hn,c2⟩];refine zbV ?_
    exact uI
   refine dd ?_;refine .inl ⟨rfl,?_,λi hi hij=>?_⟩
   .exact dG
   .by_cases e:i=k
    .subst e;rw[<-hx];exact c2
    .exact hr i hi an
  .have h6:s.zY.any Az=false:=by
    rw[rk];intro x hx;obtain⟨i,hi,rfl⟩:=pU.1 hx;simp[hr i hi hi]
   rw[h6];conv=>whnf
   rw[m2];exact dO
end Go.Wor
namespace Go.Ply
open Go.Ab Go.Proofs Tryz Go.Hy Go.Wor
def Rb(p:Int)(l:List Int)(hl:l.length<1000000000000):th 20 [] [I p,lI l] (.fy [I (yg p l).1,I (yg p l).2]) []:=by
 have ml:(l.map Go.Hy.encI).length=l.length:=pz ..;refine ab func20 ?_;refine⟨λh1=>?_,λh1=>?_⟩
 .have h1:p<0:=by simpa using h1
  have e:yg p l=(0,1):=pD h1;rw[e];exact dB
 have h1:¬p<0:=ai h1
 refine dd ?_;rw[ml];refine⟨λh2=>?_,λh2=>?_⟩
 .have h2:l.length=0:=by simpa using h2
  have e:yg p l=(0,5):=(pA h1).trans (pD h2);rw[e];exact dB
 have h2:l.length≠0:=ai h2
 have hn:(((l.map Go.Hy.encI).length:Nat):Int)≠0:=an
 have et:p.tmod (((l.map Go.Hy.encI).length:Nat):Int)=p%l.length:=aK
 have b0:0<=p%(l.length:Int):=sP _ an;have b1:p%(l.length:Int)<l.length:=sN _ an;obtain⟨x,hx⟩:∃x,l[(p%(l.length:Int)).toNat]?=some x:=⟨_,pq an⟩;have hg:(l.map Go.Hy.encI)[(p%(l.length:Int)).toNat]?=some [I x]:=by rw[pw,hx];rfl
 have e:yg p l=(x,0):=(pA h1).trans ((pA h2).trans (by rw[hx];rfl));rw[e];refine dd ?_;split;(rotate_left;(rename_i hno;exact(hno _ (jU V V V hn)).elim));(rename_i v e;cases e.symm.trans (jU rfl rfl rfl hn));refine dd ?_
 rw[et];refine⟨b0,_,hg,dd ?_⟩;exact uI
def jl(x:ia):List C:=lP x.ops::I (x.done:Int)::Bo x.on::(vX x.m++[lA x.given])
def Qx(X:List ia)(hX:X.length<1000):th 21 [⟨1,0,48,X.map jl,0⟩] [.sl 0 [] 48 0 X.length false] (lI ((ql X X.length).map λ(n:Nat)=>(n:Int))) [⟨1,0,48,X.map jl,0⟩]:=by
 have ownX:∀r∈X.map jl,∀c∈r,zF c=true:=λr hr c hc=>(shut_map (enc:=jl) (λ_=>V) _ r hr c hc).2
 have lowX:∀n,0<=n->qj n [⟨1,0,48,X.map jl,0⟩]=true:=λn _=>qi λr hr c hc=>by obtain⟨x,_,rfl⟩:=rp.1 hr;exact pG.1 (show(jl x).all (qE n 9)=true from V) c hc
 refine aa func21 ?_;refine zH.seq X.length (λk=>(.sl 0 [] 48 0 X.length false::.za::.za::.gl 1 1 (iS X k)::I k::mL (mL (mL ([]))))) (λk=>[⟨1,0,48,X.map jl,0⟩,⟨4,3,1,iS X k,0⟩]) (λk=>True) ?_ trivial (λk hk _=>?_) (λ_=>?_)
 .refine zl.trans (zl.grow 3 3 1 V (.inl V)) ?_;exact cC
 .obtain⟨x,hx⟩:∃x,x=X[k]:=⟨_,rfl⟩;have hgx:X[k]?=some x:=by rw[pq hk,hx]
  have hg:(X.map jl)[k]?=some (jl x):=by rw[pw,hgx];rfl
  have e1:0+(k:Int).toNat=k:=ah
  have mo:(x.ops.map yB).length=x.ops.length:=pz ..;have la:=CU X k;conv=>whnf
  refine uF ?_;refine uE ?_;refine⟨an,ai hk,dd ?_⟩;rw[e1];refine⟨_,hg,aO,dd ?_⟩;refine⟨an,ai hk,dd ?_⟩;rw[e1];refine⟨_,hg,(by show 0+1<=48;decide),dd ?_⟩;rw[mo];refine⟨λq=>?_,λq=>?_⟩
  .have ho:nO x=false:=by unfold nO;simp at q;simp;omega
   have lI:(iS X k).length=(ql X k).length:=L7 X k;refine dd ?_;refine⟨rfl,.inr V,by rw[lI];simp[maxLen];omega,by rw[lI];show(_+1)*8<=_;omega,dd ?_⟩;refine zap ?_;rw[zk an,L8 hgx ho];exact zl.jd 2 ta V V V (by (repeat' (first|(exact V)|(exact lowX _ (pW _))|(refine qc ?_ ?_)))) V
  .have ho:nO x=true:=by unfold nO;simp at q;simp;omega
   refine dd ?_;refine zap ?_;rw[zk an,Mt hgx ho];exact zl.jd 2 ta V V V (by (repeat' (first|(exact V)|(exact lowX _ (pW _))|(refine qc ?_ ?_)))) V
 .conv=>whnf
  refine zaf ?_;refine⟨.inl V,_,_,.refl _,rfl,?_⟩;refine zl.trans (zl.tmps (.cons (WC.gl _ _ _) .nil)) ?_;show zl _ _ ⟨[.fq 0 1 (List.map Go.Hy.encI _)],_⟩;rw[sJ];exact zl.jd 1 ta V V V (lowX _ aj) V
end Go.Ply
namespace Go.Wor
open Go.Ab Go.Proofs Tryz Go.Gat Go.Nam Go.Hos Go.Con Go.Sna Go.Pla
open Go.Hy hiding encI
def wQ(l:List fB)(s:fB)(hl:l.length<4611686018427387904):th 69 [⟨2,9,1,(l).map z7,0⟩] [.sl 0 [] 1 0 l.length false,Tx s] (I (jI l s)) [⟨2,9,1,(l).map z7,0⟩]:=by
 refine aa func69 ?_;refine zH.seq l.length (λk=>(.sl 0 [] 1 0 l.length false::(Tx s)::.za::.za::I 0::I k::mL ([.za,.za,.za,.za,.za]))) (λk=>[⟨2,9,1,(l).map z7,0⟩]) (λk=>∀j,(h:j<l.length)->j<k->(l[j] == s)=false) ?_ ah (λk hk hr=>?_) (λhr=>?_)
 .exact cC
 .have hg:(l.map z7)[k]?=some (z7 l[k]):=by rw[pw,pq hk];rfl
  have e1:0+(k:Int).toNat=k:=ah
  conv=>whnf
  refine uF ?_;refine⟨an,ai hk,dd ?_⟩;rw[e1];refine⟨_,hg,tH,dd ?_⟩;refine⟨λh2=>?_,λh2=>?_⟩
  .refine zci ?_
   have e:jI l s=k:=by
    unfold jI
    have:l.findIdx? (λx=>x == s)=some k:=by
     exact dC
    rw[this]
   rw[e];exact dF
  .refine dd ?_;refine .inl ⟨rfl,?_,λj hj hjk=>?_⟩
   .exact dG
   .by_cases e:j=k
    .subst e;exact h2
    .exact gE
 .conv=>whnf
  refine zaf ?_
  have e:jI l s= -1:=by
   unfold jI
   have:l.findIdx? (λx=>x == s)=none:=by
    rw[pX];intro x hx;obtain⟨j,hj,rfl⟩:=pU.1 hx;exact hr j hj hj
   rw[this]
  rw[e];exact dF
def B1(l:List fB)(s:fB):jI l s<0↔(l.any λx=>x == s)=false:=by
 unfold jI;cases h:l.findIdx? (λx=>x == s) with
 |none=>
  rw[pX]at h;simp only[rk];refine⟨λ_ x hx=>by simp[h x hx],λ_=>by decide⟩
 |some k=>
  obtain⟨hk,h2,_⟩:=pT.1 h;have:(l.any λx=>x == s)=true:=rJ.2 ⟨_,rj hk,h2⟩;rw[this];refine⟨λh=>absurd h (by show ¬((k:Nat):Int)<0;omega),λh=>by cases h⟩
def KN(l:List fB)(out:List fB){k:Nat}(h:k<l.length):(l.take (k+1)).foldl jr out=jr ((l.take k).foldl jr out) l[k]:=y8 jr out l h
def UZ(out:List fB)(n:fB):∃t,jr out n=out++t:=by
 unfold jr;split
 .exact⟨[],ah⟩
 .exact⟨[n],rfl⟩
def Gw:∀(l out:List fB),∃t,l.foldl jr out=out++t
 |[],out=>⟨[],ah⟩
 |a::l,out=>by
  obtain⟨t1,h1⟩:=UZ out a;obtain⟨t2,h2⟩:=Gw l (jr out a);exact⟨t1++t2,by rw[u4,h2,h1,sa]⟩
def HM(l:List fB):((l.map z7).all λx=>x.all zF)=true:=by
 rw[pG];intro r hr;obtain⟨x,_,rfl⟩:=rp.1 hr
 rfl
def SV(out l:List fB)(hl:out.length+l.length<1000000000):th 75 [⟨2,9,1,(out).map z7,0⟩] [.sl 0 [] 1 0 out.length false,lT l] (.sl (if l.foldl jr out=out then 0 else 1) [] 1 0 (l.foldl jr out).length false) (if l.foldl jr out=out then [⟨2,9,1,(out).map z7,0⟩] else [⟨0,0,0,[],0⟩,⟨2,9,1,(l.foldl jr out).map z7,0⟩]):=by
 have hlm:(l.map z7).length=l.length:=pz ..;refine z8 (fn:=f75) func75 V (by split <;> simp) (uH ?_);refine zH.inv (λi t1 H1=>∃(k:Nat) (o:List fB),k+i=l.length/\o=(l.take k).foldl jr out/\((o=out/\t1=(.sl 0 [] 1 0 (out).length false::(lT l)::.za::.za::.fq 1 0 []::I k::mL (mL ([.za,.za,.za,.za,.za])))/\H1=[⟨2,9,1,(out).map z7,0⟩])\/(o≠out/\t1=(.sl 1 [] 1 0 (o).length false::(lT l)::.za::.za::.fq 1 0 []::I k::mL (mL ([.za,.za,.za,.za,.za])))/\H1=[⟨0,0,0,[],0⟩,⟨2,9,1,(o).map z7,0⟩]))) l.length ?_ ?_
 .exact⟨_,_,cC,0,out,ah,rfl,.inl ⟨rfl,rfl,rfl⟩⟩
 rintro i _ _ ⟨k,o,hk,ho,hst⟩;by_cases hi:i=0
 .have hkl:k=l.length:=by omega
  rw[hkl,pQ]at ho;rw[<-ho];rcases hst with⟨h1,rfl,rfl⟩|⟨h1,rfl,rfl⟩
  .rw[pD h1,pD h1];conv=>whnf
   rw[hlm];refine za9 ?_;refine zaW ?_;rw[h1];exact dF
  .rw[pA h1,pA h1];conv=>whnf
   rw[hlm];refine za9 ?_;refine zaW ?_;exact dk
 .have ft:k<l.length:=by omega
  have hg:(l.map z7)[k]?=some (z7 l[k]):=by rw[pw,pq ft];rfl
  have ht:=KN l out ft;rw[<-ho]at ht
  have hol:o.length<=out.length+k:=by
   have:=yW jr 1 (l.take k) out λx _ o=>C8 o x
   rw[<-ho,sI]at this;omega
  have hpre:out.length<=o.length:=by
   obtain⟨t,het⟩:=Gw (l.take k) out;rw[ho,het];simp
  have hmo:(o.map z7).length=o.length:=pz ..;have hlen:(o++[l[k]]).length=o.length+1:=ah
  rcases hst with⟨h1,rfl,rfl⟩|⟨h1,rfl,rfl⟩
  .subst h1;conv=>whnf
   rw[hlm];refine zaD ?_
   refine ae [0] (wQ o l[k] an) ?_;refine⟨λq=>?_,λq=>?_⟩
   .have hq:(o.any λx=>x == l[k])=false:=(B1 _ _).1 tO;have he:jr o l[k]=o++[l[k]]:=by unfold jr;rw[pA (by rw[hq];decide)]
    refine dd ?_;refine zbR ?_
    refine⟨ah,HM _,aq,bz,dd ?_⟩;refine .inl ⟨rfl,i-1,_,_,an,?_,k+1,o++[l[k]],an,c6,.inr ⟨ah,rfl,rfl⟩⟩;rw[zk an,hlen,ry];exact(zl.gone 0).trans (cC)
   .have hq:(o.any λx=>x == l[k])=true:=by
     cases h:o.any λx=>x == l[k] with
     |true=>rfl
     |false=>exact absurd ((B1 _ _).2 h) tO
    have he:jr o l[k]=o:=by unfold jr;rw[pD hq]
    refine dd ?_;refine .inl ⟨rfl,i-1,_,_,an,?_,k+1,o,an,c6,.inl ⟨rfl,rfl,rfl⟩⟩;exact dG
  .conv=>whnf
   rw[hlm];refine zaD ?_
   refine ae [1] (wQ o l[k] an) ?_;refine⟨λq=>?_,λq=>?_⟩
   .have hq:(o.any λx=>x == l[k])=false:=(B1 _ _).1 tO;have he:jr o l[k]=o++[l[k]]:=by unfold jr;rw[pA (by rw[hq];decide)]
    refine dd ?_;refine zbR ?_
    refine⟨ah,HM _,aq,bz,dd ?_⟩;refine .inl ⟨rfl,i-1,_,_,an,?_,k+1,o++[l[k]],an,c6,.inr ⟨λh=>by have:=sH List.length h;rw[hlen]at this;omega,rfl,rfl⟩⟩;rw[zk an,hlen,ry];exact(zl.fD [0,2] [0,1,4,5] _ _ V V V V).trans (cC)
   .have hq:(o.any λx=>x == l[k])=true:=by
     cases h:o.any λx=>x == l[k] with
     |true=>rfl
     |false=>exact absurd ((B1 _ _).2 h) tO
    have he:jr o l[k]=o:=by unfold jr;rw[pD hq]
    refine dd ?_;refine .inl ⟨rfl,i-1,_,_,an,?_,k+1,o,an,c6,.inr ⟨h1,rfl,rfl⟩⟩;exact gL
def Ru(l:List fB)(hl:l.length<1000000000)(hne:l.foldl jr []≠[]):th 75 [] [.fq 1 1 [],lT l] (.sl 0 [] 1 0 (l.foldl jr []).length false) [⟨2,9,1,(l.foldl jr []).map z7,0⟩]:=by
 have hlm:(l.map z7).length=l.length:=pz ..;refine z8 (fn:=f75) func75 V (pW _) (uH ?_);refine zH.inv (λi t1 H1=>∃(k:Nat) (o:List fB),k+i=l.length/\o=(l.take k).foldl jr []/\((o=[]/\t1=(.fq 1 1 []::(lT l)::.za::.za::.fq 1 0 []::I k::mL (mL ([.za,.za,.za,.za,.za])))/\H1=[])\/(o≠[]/\t1=(.sl 0 [] 1 0 (o).length false::(lT l)::.za::.za::.fq 1 0 []::I k::mL (mL ([.za,.za,.za,.za,.za])))/\H1=[⟨2,9,1,(o).map z7,0⟩]))) l.length ?_ ?_
 .exact⟨_,_,cC,0,[],ah,rfl,.inl ⟨rfl,rfl,rfl⟩⟩
 rintro i _ _ ⟨k,o,hk,ho,hst⟩;by_cases hi:i=0
 .have hkl:k=l.length:=by omega
  rw[hkl,pQ]at ho;rw[<-ho]at hne|-;rcases hst with⟨h1,rfl,rfl⟩|⟨h1,rfl,rfl⟩
  .exact absurd h1 hne
  .conv=>whnf
   rw[hlm];refine za9 ?_;refine zaW ?_;exact dF
 .have ft:k<l.length:=by omega
  have hg:(l.map z7)[k]?=some (z7 l[k]):=by rw[pw,pq ft];rfl
  have ht:=KN l [] ft;rw[<-ho]at ht
  have hol:o.length<=k:=by
   have:=yW jr 1 (l.take k) [] λx _ o=>C8 o x
   rw[<-ho,sI]at this;exact dL
  have hmo:(o.map z7).length=o.length:=pz ..;have hlen:(o++[l[k]]).length=o.length+1:=ah
  rcases hst with⟨h1,rfl,rfl⟩|⟨h1,rfl,rfl⟩
  .subst h1;have hi1:jI [] l[k]= -1:=rfl;have he:jr [] l[k]=[l[k]]:=rfl;conv=>whnf
   rw[hlm];refine zaD ?_
   refine af ((ku [] l[k] aj).pre (.cons (WC.share _ _ _) (.cons (.refl _) .nil))) ?_;rw[hi1];refine td ?_
   refine zbR ?_
   refine .inr ⟨.inl V,aj,aj,dd ?_⟩;refine .inl ⟨rfl,i-1,_,_,an,?_,k+1,[l[k]],an,c6,.inr ⟨ah,rfl,rfl⟩⟩;exact dG
  .conv=>whnf
   rw[hlm];refine zaD ?_
   refine ae [0] (wQ o l[k] an) ?_;refine⟨λq=>?_,λq=>?_⟩
   .have hq:(o.any λx=>x == l[k])=false:=(B1 _ _).1 tO;have he:jr o l[k]=o++[l[k]]:=by unfold jr;rw[pA (by rw[hq];decide)]
    refine dd ?_;refine zbR ?_
    refine⟨ah,HM _,aq,bz,dd ?_⟩;refine .inl ⟨rfl,i-1,_,_,an,?_,k+1,o++[l[k]],an,c6,.inr ⟨ah,rfl,rfl⟩⟩;rw[zk an,hlen,ry];exact(zl.fD [1] [0,1,4,5] _ _ V V V V).trans (cC)
   .have hq:(o.any λx=>x == l[k])=true:=by
     cases h:o.any λx=>x == l[k] with
     |true=>rfl
     |false=>exact absurd ((B1 _ _).2 h) tO
    have he:jr o l[k]=o:=by unfold jr;rw[pD hq]
    refine dd ?_;refine .inl ⟨rfl,i-1,_,_,an,?_,k+1,o,an,c6,.inr ⟨h1,rfl,rfl⟩⟩;exact dG
def SY{c:fZ}(h:yH c=true):c.zc≠[]:=by
 have h:(qh c).1=0:=by simpa [yH] using h
 intro h0;unfold qh at h;split at h
 .rename_i q;exact absurd h q
 .rename_i q;have q:(xK c).1=0:=Decidable.of_not_not q;unfold xK at q;rw[h0]at q;simp at q
def V5:∀(l out:List fB),l≠[]->l.foldl jr out≠[]
 |[],_,h=>absurd V h
 |a::l,out,_=>by
  obtain⟨t,ht⟩:=Gw l (jr out a);rw[u4,ht];unfold jr;split
  .rename_i q;intro h;have:out=[]:=(List.append_eq_nil_iff.1 h).1;rw[this]at q;cases q
  .simp
def Qc(s:ic)(hs:CL s)(hc:∀l∈s.threads,∀o∈l,qQ o.config):th 31 [] [Bf s] (lT (jL s)) []:=by
 have m1:(s.threads.map j0).length=s.threads.length:=pz ..;have b1:=hs.threads;have f4:=yM hs.first;have o4:=B8 [] f4;simp only[List.length_nil,pK]at o4;have ha:=Ru s.first.zc an (V5 _ _ (SY hs.first))
 change zb _ _ _ _ (.sl 0 [] 1 0 (yx [] s.first).length false) [⟨2,9,1,(yx [] s.first).map z7,0⟩]at ha
 have hA:∀k,k<=s.threads.length->(((s.threads.take k).foldl xr (yx [] s.first))).length<=4+64*k:=λk hk=>by
  have:=yW xr 64 (s.threads.take k) (yx [] s.first) λl hl o=>C4 o (hs.ops l (pF hl))
  rw[sI]at this;have e:min k s.threads.length=k:=fl hk;rw[e]at this;omega
 refine ab func31 ?_;refine ae [] (ha) ?_;refine zH.seq s.threads.length (λk=>(.za::.ref 0 [] 5 0 0::.fq 1 0 []::.sl 1 [] 1 0 ((s.threads.take k).foldl xr (yx [] s.first)).length false::I k::mL (jp (mL ([.za,.za,.za,.za,.za]))))) (λk=>[oS s,⟨2,9,1,((s.threads.take k).foldl xr (yx [] s.first)).map z7,0⟩]) (λk=>True) ?_ trivial (λk hk _=>?_) (λ_=>?_)
 .exact cC
 .obtain⟨v,hx⟩:∃v,v=s.threads[k]:=⟨_,rfl⟩;have hv:v∈s.threads:=by rw[hx];exact gp
  have hg:(s.threads.map j0)[k]?=some (j0 v):=by rw[pw,pq hk,hx];rfl
  have mg:(v.map yB).length=v.length:=pz ..;have b2:=hs.ops v hv;have hAk:=hA k an;have e3:((s.threads.take (k+1)).foldl xr (yx [] s.first))=xr ((s.threads.take k).foldl xr (yx [] s.first)) v:=by rw[hx];exact y8 xr _ s.threads hk
  have hB:∀j,j<=v.length->(((v.take j).foldl yP ((s.threads.take k).foldl xr (yx [] s.first)))).length<=4+64*k+4*j:=λj hj=>by
   have:=yW yP 4 (v.take j) ((s.threads.take k).foldl xr (yx [] s.first)) λo _ x=>Gx x o
   rw[sI]at this;have e:min j v.length=j:=fl hj;rw[e]at this;omega
  generalize ((s.threads.take k).foldl xr (yx [] s.first))=oa at hAk e3 hB|-;conv=>whnf
  rw[m1];refine uF ?_;refine zH.seq v.length (λj=>(.za::.ref 0 [] 5 0 0::.fq 1 0 []::.sl 1 [] 1 0 ((v.take j).foldl yP oa).length false::I k::I j::mL (jp (mL ([.za,.za,.za,.za]))))) (λj=>[oS s,⟨2,9,1,((v.take j).foldl yP oa).map z7,0⟩]) (λk=>True) ?_ trivial (λj hj _=>?_) (λ_=>?_)
  .exact cC
  .obtain⟨o,hxg⟩:∃o,o=v[j]:=⟨_,rfl⟩;have ho:o∈v:=by rw[hxg];exact ph
   have hgg:(v.map yB)[j]?=some (yB o):=by rw[pw,pq hj,hxg];rfl
   have hch:=wa o.config (hc v hv o ho);have hBj:=hB j an;have e4:(v.take (j+1)).foldl yP oa=yP ((v.take j).foldl yP oa) o:=by rw[hxg];exact y8 yP _ v hj
   rw[e4];have hr0:yH o.config=((qh o.config).1 == 0):=rfl;generalize qh o.config=cv at hch hr0;obtain⟨er,pe⟩:=cv;dsimp only at hr0;generalize (v.take j).foldl yP oa=ob at hBj|-;conv=>whnf
   refine zbR ?_
   rw[mg];refine zaD ?_
   refine zbh ?_
   refine af hch ?_;refine⟨λq1=>?_,λq1=>?_⟩
   rotate_left
   .have eo:yP ob o=ob:=by unfold yP Ah;rw[pA (by simp at q1;simp[q1])]
    rw[eo];refine zac ?_
    exact dH
   refine dd ?_;refine⟨λq2=>?_,λq2=>?_⟩
   rotate_left
   .have eo:yP ob o=ob:=by unfold yP Ah;rw[pA (by rw[hr0,q2];simp)]
    rw[eo];refine zac ?_
    exact dH
   have hr:yH o.config=true:=by rw[hr0,q2]
   have eo:yP ob o=o.config.zc.foldl jr ob:=by unfold yP Ah;rw[pD (by rw[hr];simpa using q1)];rfl
   have f5:=yM hr;have hadd:=SV ob o.config.zc an;rw[eo];generalize o.config.zc.foldl jr ob=oc at hadd|-;refine zac ?_
   by_cases q:oc=ob
   .rw[pD q,pD q]at hadd;subst q;refine ae [1] (hadd) ?_;exact dH
   .rw[pA q,pA q]at hadd;refine ae [1] (hadd) ?_;refine zap ?_;rw[zk an];exact(zl.fD [0,3] [1,2,3,4,5] _ _ V V V V).trans (cC)
  .conv=>whnf
   refine zbR ?_
   rw[mg];refine zaf ?_;refine zap ?_;rw[zk an,e3,pQ];exact cC
 .conv=>whnf
  rw[m1];refine zaf ?_;rw[pQ];exact⟨.inl V,_,zl.FP 2 V V (.inr V) (by simp[jL]) (shut_map (enc:=z7) (λ_=>V) _),rfl⟩
end Go.Wor
namespace Go.Wor
open Go.Ab Go.Proofs Tryz Go.Gat Go.Nam Go.Hos Go.Con Go.Sna Go.Pla Go.Dep
open Go.Hy hiding encI
def WU(k:Nat){c c':C}(hp:Br k c'=true)(he:yf k c=yf k c'):WC c c':=λE y h=>Ka k hp (he ▸ Me k h)
def Xo(N:Nat)(h8:N<=8):WC (.fq 0 1 (List.replicate N [C.fq 1 1 [[U 0],[U 0],[U 0],[U 0],[U 0],[U 0]]])) (fJ (List.replicate N [0,0,0,0,0,0])):=by
 obtain rfl|rfl|rfl|rfl|rfl|rfl|rfl|rfl|rfl:N=0\/N=1\/N=2\/N=3\/N=4\/N=5\/N=6\/N=7\/N=8:=an
 all_goals exact WU 9 V V
def Oz(N:Nat)(h1:1<=N)(h8:N<=8):th 74 [] [I N] (.fy [fJ (List.replicate N [0,0,0,0,0,0]),I 0]) []:=by
 refine ab func74 ?_;refine za9 ?_;refine za9 ?_;refine td ?_
 refine zH.seq N (λk=>(I N::.za::.fq 1 0 []::I 0::.gl 0 1 (List.replicate k [C.fq 1 1 [[U 0],[U 0],[U 0],[U 0],[U 0],[U 0]]])::I k::mL (mL ([.za])))) (λk=>[⟨4,155,1,List.replicate k [C.fq 1 1 [[U 0],[U 0],[U 0],[U 0],[U 0],[U 0]]],0⟩]) (λk=>True) ?_ trivial (λk hk _=>?_) (λ_=>?_)
 .refine zl.trans (zl.grow 4 155 1 V (.inl V)) ?_;exact cC
 .have lG:(List.replicate k [C.fq 1 1 [[U 0],[U 0],[U 0],[U 0],[U 0],[U 0]]]).length=k:=tj ..;have eG:List.replicate (k+1) [C.fq 1 1 [[U 0],[U 0],[U 0],[U 0],[U 0],[U 0]]]=List.replicate k [C.fq 1 1 [[U 0],[U 0],[U 0],[U 0],[U 0],[U 0]]]++[[C.fq 1 1 [[U 0],[U 0],[U 0],[U 0],[U 0],[U 0]]]]:=sX;conv=>whnf
  refine uF ?_;refine⟨rfl,.inr V,by rw[lG];show k+1<=maxLen;simp only[maxLen];omega,by rw[lG];show(k+1)*24<=_;omega,dd ?_⟩;refine zap ?_;rw[zk an,eG];exact cE 1
 .conv=>whnf
  refine zaf ?_;exact⟨.inl V,_,zl.tmps (iI.at (i:=2) V ((WC.gl _ _ _).trans (Xo N h8))),rfl⟩
def SC(s:Sna)(l:List fB)(N:Nat)(hs:y6 s)(h0:yO s=true)(h1:1<=N)(h8:N<=8)(hl:l.length<1000000000/\∀x∈l,x.length<4000000000000000000):th 30 [] [Cs s,lT l,I N] (tW (k9 s l N)) []:=by
 have m1:(l.map z7).length=l.length:=pz ..;have cs:=Jg s hs;have e2:qf s=((qf s).1,0):=by unfold qf;rw[pD h0]
 rw[e2]at cs
 change zb _ _ _ _ (.fy [Cv (qf s).1,I 0]) _ at cs
 have hn:=Oz N h1 h8;have hb:k8 l=false->k9 s l N=(nV,1):=λh=>by unfold k9;rw[pD (.inr (.inr (.inr h)))]
 refine ab func30 ?_;refine af cs ?_;refine td ?_
 refine za9 ?_;refine za9 ?_;refine td ?_
 refine zH.seq l.length (λk=>(.za::lT l::I N:: .ref 0 [] 3 0 0:: .za::.za::.ref 1 [] 8 0 0::I 0:: .ref 2 [] 5 0 0:: .za::.ref 3 [] 8 0 0::I k:: .za::.za::.za::.za::.za::.za::mL (jp (mL (mL (mL ([]))))))) (λk=>[⟨1,86,3,[qV s],0⟩,⟨1,38,8,[fW],0⟩,⟨1,106,5,[zt (qf s).1],0⟩,⟨1,38,8,[[I 0,I 0,I 0,.fq 1 0 [],.fq 1 5 [zt (qf s).1],.gl 4 4 (((l.take k).map yS).map zT),.fq 1 0 [],.fq 1 0 []]],0⟩,⟨4,98,4,((l.take k).map yS).map zT,0⟩]) (λk=>∀j,j<k->An l j=true) ?_ ah (λk hk hr=>?_) (λhr=>?_)
 .refine zl.trans (zl.qN 3 5 98 4 V V (.inl V) V V) ?_;exact cC
 .obtain⟨x,hx⟩:∃x,x=l[k]:=⟨_,rfl⟩;have hx2:l[k]?=some x:=by rw[pq hk,hx]
  have hg:(l.map z7)[k]?=some (z7 x):=by rw[pw,hx2];rfl
  have hxm:x∈l:=bJ
  have hno:An l k=(jS x && decide (zZ ((l.take k).map yS) x<0)):=by unfold An;rw[hx2]
  have bad:An l k=false->k9 s l N=(nV,1):=λh=>hb (by unfold k8;rw[so];exact⟨k,ai hk,aA⟩)
  have hlg:(((l.take k).map yS).map zT).length=k:=ar
  have eg:((l.take (k+1)).map yS).map zT=((l.take k).map yS).map zT++[zT (yS x)]:=bM
  conv=>whnf
  rw[m1];refine uF ?_;refine .inl ⟨⟨true,[],[],[4,12]⟩,ak,uH ?_⟩;refine zbR ?_
  refine af (kJ x (by have:=hl.2 x hxm;omega)) ?_;cases h2:jS x
  .rw[bad (by rw[hno,h2];rfl)];refine td ?_
   refine zaw ?_
   exact dm
  refine td ?_
  refine zbR ?_
  refine af (vJ ((l.take k).map yS) x ar) ?_;refine⟨λh3=>?_,λh3=>?_⟩
  .rw[bad c7];refine zac ?_
   refine zaw ?_
   exact dm
  refine zac ?_
  refine uE ?_;refine zbR ?_
  refine⟨rfl,.inr V,by rw[hlg];show k+1<=maxLen;simp only[maxLen];omega,by rw[hlg];show(k+1)*40<=_;omega,dd ?_⟩;refine .inl ⟨rfl,?_,λj hj=>?_⟩
  .rw[zk an,eg];exact cE 5
  .by_cases e:j=k
   .subst e;rw[hno,h2];simp at h3|-;omega
   .exact hr j an
 .have qd:k8 l=true:=by
   unfold k8;rw[pG];intro i hi;exact hr i (ai hi)
  have e:k9 s l N=(⟨0,0,0,List.replicate N 0,[(qf s).1],l.map yS,List.replicate N [0,0,0,0,0,0],[]⟩,0):=by unfold k9;rw[pA (by simp only[h0,qd];simp;omega),uf]
  rw[e];conv=>whnf
  rw[m1];refine zaf ?_;rw[pQ];refine zH.seq N (λk=>(.za::lT l::I N:: .ref 0 [] 3 0 0:: .za::.za::.ref 1 [] 8 0 0::I 0:: .ref 2 [] 5 0 0:: .za::.ref 3 [] 8 0 0:: .za::I k:: .za::.za::.za::.za::.za::mL (jp (mL (mL (mL ([]))))))) (λk=>[⟨1,86,3,[qV s],0⟩,⟨1,38,8,[fW],0⟩,⟨1,106,5,[zt (qf s).1],0⟩,⟨1,38,8,[[I 0,I 0,I 0,.gl 5 1 (List.replicate k [I 0]),.fq 1 5 [zt (qf s).1],.gl 4 4 ((l.map yS).map zT),.fq 1 0 [],.fq 1 0 []]],0⟩,⟨4,98,4,(l.map yS).map zT,0⟩,⟨4,3,1,List.replicate k [I 0],0⟩]) (λk=>True) ?_ trivial (λk hk _=>?_) (λ_=>?_)
  .refine zl.trans (zl.qN 3 3 3 1 V V (.inl V) V V) ?_;exact cC
  .have lG:(List.replicate k [I 0]).length=k:=tj ..;have eG:List.replicate (k+1) [I 0]=List.replicate k [I 0]++[[I 0]]:=sX;conv=>whnf
   refine uF ?_;refine⟨rfl,.inr V,by rw[lG];show k+1<=maxLen;simp only[maxLen];omega,by rw[lG];show(k+1)*8<=_;omega,dd ?_⟩;refine zap ?_;rw[zk an,eG];exact cE 6
  .conv=>whnf
   refine zaf ?_;refine af hn ?_;refine zcb ?_
   have e9:xc ⟨0,0,0,List.replicate N 0,[(qf s).1],l.map yS,List.replicate N [0,0,0,0,0,0],[]⟩=[I 0,I 0,I 0,.fq 0 1 (List.replicate N [I 0]),.fq 0 5 [zt (qf s).1],lL (l.map yS),fJ (List.replicate N [0,0,0,0,0,0]),.fq 0 3 []]:=by
    have e8:(List.replicate N (0:Int)).map Go.Hy.encI=List.replicate N [I 0]:=e6;show [I 0,I 0,I 0,C.fq 0 1 ((List.replicate N (0:Int)).map Go.Hy.encI),_,_,_,_]=_;rw[e8]
    rfl
   show _=some (C.fy [C.agg (xc ⟨0,0,0,List.replicate N 0,[(qf s).1],l.map yS,List.replicate N [0,0,0,0,0,0],[]⟩),I 0]);rw[e9]
   rfl
end Go.Wor
namespace Go.Wor
open Go.Ab Go.Proofs Tryz Go.Gat Go.Nam Go.Hos Go.Con Go.Sna Go.Pla
open Go.Hy hiding encI
def IM(s:ic)(hs:CM s)(hf:qQ s.first)(ho:∀l∈s.threads,∀o∈l,qQ o.config)(hn:iJ s=true->∀x∈jL s,x.length<4000000000000000000):th 9 [] [Bf s] (.fy [Cw (qS s).1,I (qS s).2]) []:=by
 have m1:(s.threads.map j0).length=s.threads.length:=pz ..;refine ab func9 ?_;refine af (Oy s hs hf) ?_;cases h1:iJ s
 .rw[show qS s=(nV,1) from pA aJ];refine td ?_
  exact dm
 obtain⟨p1,p2,p3,p4,p5,p6⟩:=yl h1;have er:(qh s.first).1=0:=by simpa [yH] using p1
 have eb:(qB s.first).2.1=0:=(wi s.first).trans er;have hb:=FO s.first hf;have en:qS s=k9 (qB s.first).1 (jL s) s.threads.length:=pD h1;have wn:CL s:=⟨p1,p3,λl hl=>(p5 l hl).1,λl hl o hO=>(ho l hl o hO).k⟩
 have nl:(jL s).length<1000000000:=by
  have a:=B8 [] (yM p1)
  have b:=yW xr 64 s.threads (yx [] s.first) λl hl o=>by
   have hl2:=(p5 l hl).1;exact C4 o hl2
  have c:jL s=s.threads.foldl xr (yx [] s.first):=rfl;rw[c];simp at a;omega
 have hw:=SC (qB s.first).1 (jL s) s.threads.length (vu hf) (F6 er) p2 p3 ⟨nl,hn h1⟩;rw[en];generalize k9 (qB s.first).1 (jL s) s.threads.length=nv at hw|-;obtain⟨w,e⟩:=nv;generalize qB s.first=bv at hb eb hw;obtain⟨sn,e1,e2⟩:=bv;dsimp only at eb;subst eb;refine td ?_
 refine af hb ?_;refine .inr ⟨⟨[0,1,2,4,6],[0,2],true⟩,ak,λ_=>V,_,uH ?_,λt2 H2 h=>h⟩;refine⟨_,ag [] (Qc s wn ho),uH ?_⟩;rw[m1];refine⟨_,ag [] (hw),uH (uH ?_)⟩;(repeat' (first|(refine And.intro V (uH ?_))|(refine And.intro (uH ?_) trivial)|(refine And.intro ?_ ?_ <;> (conv=>whnf))))
 all_goals
  refine zaM ?_
  exact uI
end Go.Wor
