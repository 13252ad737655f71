import Derived.Test.YtamgiodaflkbhaaGreatTZ
import Derived.Test.YtamgiodaflkbhaaGreatTU
import Derived.Test.YtamgiodaflkbhaaGreatTI
set_option linter.all false
set_option maxRecDepth 100000
set_option maxHeartbeats 4000000
namespace Go.Wor
open Go.Ab Go.Proofs Tryz Go.Gat Go.Nam Go.Hos Go.Con Go.Sna Go.Pla
open Go.Hy hiding encI
variable{H:zq}{f:FuncId}{caps:List C}{l:List ft}{c:fC}
abbrev C8(s:ia):C:=.agg (BE s)
def nY(c:fC):Bool:=(qp c).1 == 0
def At(o:ft):Bool:=decide (o.kind<1) || decide (6<o.kind)
def oZ(l:List ft):Bool:=decide (16<l.length) || l.any At
def Dc(n:Int):Bool:=decide (n<0)
def iH(s:ia):Bool:=nY s.first && decide (1<=s.threads.length) && decide (s.threads.length<=8) && decide (s.qT.length<=4000) && !s.threads.any oZ && !s.qT.any Dc
structure EK(s:ia):Prop where
 first:yf s.first
 threads:s.threads.length<4000000000000000000
 ops:∀l∈s.threads,l.length<4000000000000000000
 qT:s.qT.length<4000000000000000000
def Jk(c:fC)(hc:yf c):th 54 [] [Cf c] (Bo (nY c)) []:=by
 refine ab func54 ?_;refine af (EY c hc) ?_;refine⟨λh=>?_,λh=>?_⟩
 .refine dd ?_
  (exact⟨.inl V,_,.refl _,uN (by exact h.symm)⟩)
 .refine dd ?_
  (exact⟨.inl V,_,.refl _,uN (by exact h.symm)⟩)
abbrev Hd(o:ft):C:=.agg (vx o)
def Ry(p:ft->Bool)(hcb:qt prog f=true)(hp:∀r∈l,th f H ([Hd r]++caps) (Bo (p r)) H)(hl:l.length<4611686018427387904):
  th 106 H [lP l,.fn f [] caps] (I (match l.findIdx? p with|some i=>(i:Int)|none=> -1)) H:=by
 refine zb.zZ (fn:=f106) func106 V (uH ?_)
 refine zH.inv (λn t1 H1=>∃k,k+n=l.length/\H1=H/\(∀j,j<k->∀r,l[j]?=some r->p r=false)/\
   t1=((lP l)::.fn f [] caps::.za::.za::I 0::.za::.za::I (l.map vx).length::I k::mK ([.za,.za]))) l.length ?_ ?_
 .exact dy
 rintro n _ _ ⟨k,hk,rfl,hno,rfl⟩;conv=>whnf
 refine⟨λh=>?_,λh=>?_⟩
 .conv=>whnf
  have eP:k<l.length:=ai h
  refine⟨an,vx l[k],aB,uH ?_⟩;rw[hcb];refine⟨_,_,hp _ (pH eP),uH ?_⟩;refine⟨λh2=>?_,λh2=>?_⟩
  .conv=>whnf
   refine zaX ?_
   have:l.findIdx? p=some k:=by
    rw[pB];refine⟨eP,h2,λj hj=>?_⟩;simp[hno j hj _ (gL an)]
   rw[this]
   rfl
  .conv=>whnf
   refine .inl ⟨rfl,n-1,_,_,an,zk.mask [0,1,4,7,8] _ _,k+1,an,rfl,?_,?_⟩
   .intro j hj r hr;by_cases hjk:j=k
    .subst hjk;rw[gL eP]at hr;cases hr
     exact h2
    .exact hno j an r hr
   .rw[zm an];rfl
 .conv=>whnf
  refine zaX ?_
  have:l.findIdx? p=none:=by
   rw[pD];intro x hx;obtain⟨j,hj⟩:=pA.1 hx;have hjl:=(gN.1 hj).1;have:¬k<l.length:=ai h
   exact hno j an x hj
  rw[this]
  rfl
def RJ(p:ft->Bool)(hcb:qt prog f=true)(hp:∀r∈l,th f H ([Hd r]++caps) (Bo (p r)) H)(hl:l.length<4611686018427387904):
  th 55 H [lP l,.fn f [] caps] (Bo (l.any p)) H:=by
 refine zb.zZ (fn:=f55) func55 V (uH ?_);refine⟨_,_,Ry p hcb hp hl,dd ?_⟩;refine zbg ?_;refine⟨λh=>?_,λh=>?_⟩ <;> rw[h]
 .exact dO
 .exact dO
def Sl(o:ft):th 56 [] [Hd o] (Bo (At o)) []:=by
 refine ab func56 ?_;refine⟨λh1=>?_,λh1=>?_⟩
 .refine zac ?_
  (exact⟨.inl V,_,.refl _,uN (by unfold At;rw[h1];rfl)⟩)
 .refine dd ?_;refine⟨λh2=>?_,λh2=>?_⟩
  .refine dd ?_
   (exact⟨.inl V,_,.refl _,uN (by unfold At;rw[h1];simp at h2;simp[h2])⟩)
  .refine dd ?_
   (exact⟨.inl V,_,.refl _,uN (by unfold At;rw[h1];simp at h2;simp;omega)⟩)
def Sn(n:Int):th 58 [] [I n] (Bo (Dc n)) []:=by
 refine ab func58 ?_;refine⟨λh1=>?_,λh1=>?_⟩
 .refine dd ?_
  (exact⟨.inl V,_,.refl _,uN (by exact h1.symm)⟩)
 .refine dd ?_
  (exact⟨.inl V,_,.refl _,uN (by exact h1.symm)⟩)
def N3(s:ia)(hs:EK s):th 24 [] [C8 s] (Bo (iH s)) []:=by
 have m1:(s.threads.map wo).length=s.threads.length:=gO ..;have m2:(s.qT.map Go.Hy.encI).length=s.qT.length:=gO ..;have b1:=hs.threads;have b2:=hs.qT;have hcon:=Go.Wor.JI (H:=[]) (f:=58) (l:=s.qT) (caps:=[]) Dc ak (λr _=>Sn r) an;refine ab func24 ?_;refine af (Jk s.first hs.first) ?_;refine⟨λh1=>?_,λh1=>?_⟩
 rotate_left
 ·(rw[show iH s=false from by (unfold iH;rw[h1];rfl)]);refine zac ?_;exact uI
 refine dd ?_;rw[m1];refine⟨λh2=>?_,λh2=>?_⟩
 ·(rw[show iH s=false from by (unfold iH;rw[rA (show ¬1<=s.threads.length by simp at h2;omega)];simp)]);refine zac ?_;exact uI
 have h2:1<=s.threads.length:=aC
 refine dd ?_;rw[m1];refine⟨λh3=>?_,λh3=>?_⟩
 ·(rw[show iH s=false from by (unfold iH;rw[rA (show ¬s.threads.length<=8 by simp at h3;omega)];simp)]);refine zac ?_;exact uI
 have h3:s.threads.length<=8:=aD
 refine dd ?_;rw[m2];refine⟨λh4=>?_,λh4=>?_⟩
 ·(rw[show iH s=false from by (unfold iH;rw[rA (show ¬s.qT.length<=4000 by simp at h4;omega)];simp)]);refine zac ?_;exact uI
 have h4:s.qT.length<=4000:=by simp at h4;omega
 have e1:iH s=(!s.threads.any oZ && !s.qT.any Dc):=by
  unfold iH;rw[h1,rH h2,rH h3,rH h4]
  rfl
 refine zac ?_
 rw[m1];refine zH.seq s.threads.length (λk=>(.za::.ref 0 [] 5 0 0::Bo false::mK (mK (mK (.za::(De s.threads)::I s.threads.length::I k::mK ([.za,.za,.za,.za,.za,.za,.za])))))) (λk=>[oS s]) (λk=>∀j,(h:j<s.threads.length)->j<k->oZ s.threads[j]=false) ?_ ah (λk hk hr=>?_) (λhr=>?_)
 .exact cC
 .obtain⟨x,hx⟩:∃x,x=s.threads[k]:=⟨_,rfl⟩;have hxm:x∈s.threads:=by rw[hx];exact gz
  have hg:(s.threads.map wo)[k]?=some (wo x):=by rw[gM,gL hk,hx];rfl
  have m3:(x.map vx).length=x.length:=gO ..;have bx:=hs.ops x hxm;have hcx:=RJ (H:=[]) (f:=56) (l:=x) (caps:=[]) At ak (λr _=>Sl r) an
  have bad:oZ x=true->iH s=false:=λh=>by
   rw[e1,ri.2 ⟨x,hxm,h⟩];rfl
  conv=>whnf
  refine zay ?_
  rw[m3];refine⟨λc1=>?_,λc1=>?_⟩
  .rw[bad (by unfold oZ;rw[rH (show 16<x.length by simp at c1;omega)];rfl)];refine zac ?_
   refine zap ?_
   exact uI
  have eT:oZ x=x.any At:=by unfold oZ;rw[rA (by simp at c1;omega)];rfl
  refine dd ?_;refine af hcx ?_;refine⟨λc2=>?_,λc2=>?_⟩
  .rw[bad (by rw[eT,c2])];refine zac ?_
   refine zap ?_
   exact uI
  .refine zac ?_
   refine .inl ⟨rfl,?_,λi hi hij=>?_⟩
   .exact dz
   .by_cases e:i=k
    .subst e;rw[<-hx,eT,c2]
    .exact hr i hi an
 .have h5:s.threads.any oZ=false:=by
   rw[pI];intro x hx;obtain⟨i,hi,rfl⟩:=pz.1 hx;simp[hr i hi hi]
  rw[e1,h5];refine uD ?_;refine af hcon ?_;refine⟨λq=>?_,λq=>?_⟩
  all_goals
   rw[q];refine zac ?_
   exact uI
def kb(out:List eU)(n:eU):List eU:=if (out.any λx=>x == n)=true then out else out++[n]
def wF(out:List eU)(c:fC):List eU:=c.zc.foldl kb out
def AZ(o:ft):Bool:=decide (o.kind=3) && nY o.config
def iV(out:List eU)(o:ft):List eU:=if AZ o=true then wF out o.config else out
def kB(out:List eU)(l:List ft):List eU:=l.foldl iV out
def yj(s:ia):List eU:=s.threads.foldl kB (wF [] s.first)
def wa(h:nY c=true):c.zc.length<=4:=by
 have h:(qp c).1=0:=by simpa [nY] using h
 unfold qp at h;split at h
 .rename_i q;exact absurd h q
 .rename_i q;have q:(xX c).1=0:=Decidable.of_not_not q;unfold xX at q;split at q
  .exact absurd (show(6:Int)=0 from q) aj
  .rename_i z;simp at z;omega
theorem FW(out:List eU)(n:eU):(kb out n).length<=out.length+1:=by
 grind [kb]
def Ct{α β:Type}(f:List β->α->List β)(k:Nat):∀(l:List α) (out:List β),(∀x∈l,∀o:List β,(f o x).length<=o.length+k)->(l.foldl f out).length<=out.length+k*l.length
 |[],out,_=>by simp
 |x::l,out,h=>by
  have h1:=h x (rM ..) out;have h2:=Ct f k l (f out x) λy hy o=>h y (rE _ hy) o
  rw[eI,rK,Nat.mul_add];omega
def DJ(out:List eU)(h:c.zc.length<=4):(wF out c).length<=out.length+4:=by
 have:=Ct kb 1 c.zc out λn _ o=>FW o n
 unfold wF;omega
def KD(out:List eU)(o:ft):(iV out o).length<=out.length+4:=by
 unfold iV;split
 .rename_i h;unfold AZ at h;simp only[gY]at h;exact DJ out (wa h.2)
 .omega
def FG(out:List eU)(h:l.length<=16):(kB out l).length<=out.length+64:=by
 have:=Ct iV 4 l out λo _ x=>KD x o
 unfold kB;omega
def Dp{α β:Type}(f:β->α->β)(b:β)(l:List α){k:Nat}(h:k<l.length):(l.take (k+1)).foldl f b=f ((l.take k).foldl f b) l[k]:=by
 rw[pP h,eh]
 rfl
def N9(s:ia)(X Y:Ob):th 66 [X,Y] [C8 s] (.fn 123 [] [.ref 2 [] 5 0 0]) [X,Y,oS s]:=by
 refine zb.zZ (fn:=f66) func66 V (uH ?_);exact uJ
structure EJ(s:ia):Prop where
 first:nY s.first=true
 threads:s.threads.length<=8
 ops:∀l∈s.threads,l.length<=16
 cfg:∀l∈s.threads,∀o∈l,yf o.config
def NP(s:ia)(hs:EJ s)(l:Nat)(rec:Ob)(hrec:ql 5 [rec]=true)
 (hy0:∀(out:List eU) (c:fC),out.length<=600->c.zc.length<=4->jn prog l ([oS s,⟨1,22,1,[[.gl 3 1 ((out).map qe)]],0⟩,oS s,⟨4,9,1,(out).map qe,0⟩,rec]) [Cf c] (Bo true) ([oS s,⟨1,22,1,[[.gl 3 1 ((wF out c).map qe)]],0⟩,oS s,⟨4,9,1,(wF out c).map qe,0⟩,rec]))
 (hy1:∀(out:List eU) (c:fC) (o:ft),out.length<=600->c.zc.length<=4->jn prog l ([oS s,⟨1,22,1,[[.gl 3 1 ((out).map qe)]],0⟩,oS s,⟨4,9,1,(out).map qe,0⟩,rec]++[⟨1,48,10,[vx (o)],0⟩]) [Cf c] (Bo true) ([oS s,⟨1,22,1,[[.gl 3 1 ((wF out c).map qe)]],0⟩,oS s,⟨4,9,1,(wF out c).map qe,0⟩,rec]++[⟨1,48,10,[vx (o)],0⟩])):
  th 123 ([oS s,⟨1,22,1,[[.gl 3 1 (([]).map qe)]],0⟩,oS s,⟨4,9,1,([]).map qe,0⟩,rec]) [.v (.func (.yield l) #[] #[]),.ref 2 [] 5 0 0] (.eR []) ([oS s,⟨1,22,1,[[.gl 3 1 ((yj s).map qe)]],0⟩,oS s,⟨4,9,1,(yj s).map qe,0⟩,rec]):=by
 have m1:(s.threads.map wo).length=s.threads.length:=gO ..;have b1:=hs.threads;have y0:=hy0 [] s.first aj (wa hs.first);refine zb.zZ (fn:=f123) func123 V (uH ?_);refine⟨_,_,y0,dd ?_⟩;refine td ?_
 rw[m1];refine zH.seq s.threads.length (λk=>(.v (.func (.yield l) #[] #[])::.ref 2 [] 5 0 0::mK (.za::.za::.za::(De s.threads)::I s.threads.length::I k::mK (mK (mK ([.za,.za])))))) (λk=>[oS s,⟨1,22,1,[[.gl 3 1 (((s.threads.take k).foldl kB (wF [] s.first)).map qe)]],0⟩,oS s,⟨4,9,1,((s.threads.take k).foldl kB (wF [] s.first)).map qe,0⟩,rec]) (λk=>((s.threads.take k).foldl kB (wF [] s.first)).length<=4+64*k) ?_ (by have:=DJ [] (wa hs.first);simpa using this) (λk hk hr=>?_) (λhr=>?_)
 .exact cC
 .obtain⟨x,hx⟩:∃x,x=s.threads[k]:=⟨_,rfl⟩;have hxm:x∈s.threads:=by rw[hx];exact gz
  have hg:(s.threads.map wo)[k]?=some (wo x):=by rw[gM,gL hk,hx];rfl
  have m3:(x.map vx).length=x.length:=gO ..;have bx:=hs.ops x hxm;have et:(s.threads.take (k+1)).foldl kB (wF [] s.first)=kB ((s.threads.take k).foldl kB (wF [] s.first)) x:=by rw[Dp _ _ _ hk,hx]
  rw[et];generalize (s.threads.take k).foldl kB (wF [] s.first)=out at hr|-;conv=>whnf
  refine zay ?_
  rw[m3];refine zH.seq x.length (λj=>(.v (.func (.yield l) #[] #[])::.ref 2 [] 5 0 0::mK (.za::.za::.za::(De s.threads)::I s.threads.length::I k::.za::.za::.za::(lP x)::I x.length::I j::mK (mK ([.za,.za,.za,.za]))))) (λj=>[oS s,⟨1,22,1,[[.gl 3 1 (((x.take j).foldl iV out).map qe)]],0⟩,oS s,⟨4,9,1,((x.take j).foldl iV out).map qe,0⟩,rec]) (λj=>((x.take j).foldl iV out).length<=4+64*k+4*j) ?_ (ai hr) (λj hj hrj=>?_) (λhrj=>?_)
  .exact cC
  .obtain⟨o,hxo⟩:∃o,o=x[j]:=⟨_,rfl⟩;have hom:o∈x:=by rw[hxo];exact pH hj
   have hgo:(x.map vx)[j]?=some (vx o):=by rw[gM,gL hj,hxo];rfl
   have eo:(x.take (j+1)).foldl iV out=iV ((x.take j).foldl iV out) o:=by rw[Dp _ _ _ hj,hxo]
   have ol:=KD ((x.take j).foldl iV out) o;rw[eo];generalize (x.take j).foldl iV out=out2 at hrj ol|-;have skip:AZ o=false->iV out2 o=out2:=λh=>by unfold iV;rw[gP aA]
   have take:AZ o=true->iV out2 o=wF out2 o.config:=λh=>by unfold iV;rw[gS h]
   conv=>whnf
   refine uF ?_;(refine te hgo ?_)
   refine⟨λc1=>?_,λc1=>?_⟩
   rotate_left
   .rw[skip (by unfold AZ;rw[rA (ai c1)];rfl)]at ol|-;refine zac ?_
    exact zb5
   have c1:o.kind=3:=ai c1
   refine dd ?_;refine af (Jk o.config (hs.cfg x hxm o hom)) ?_;refine⟨λc2=>?_,λc2=>?_⟩
   rotate_left
   .rw[skip (by unfold AZ;rw[c2,sq])]at ol|-;refine zac ?_
    exact zb5
   have y1:=hy1 out2 o.config o an (wa c2);rw[take (by unfold AZ;rw[c2,rH c1];rfl)]at ol|-;refine dd ?_;refine⟨_,_,y1,dd ?_⟩;refine td ?_
   exact zb5
  .have e:(x.take x.length).foldl iV out=kB out x:=by rw[px];rfl
   have al:=FG out bx;refine uD ?_;rw[e,zm an];refine .inl ⟨rfl,?_,an⟩;exact zk.jq 5 ta V V V hrec V
 .have e:(s.threads.take s.threads.length).foldl kB (wF [] s.first)=yj s:=by rw[px];rfl
  refine uD ?_;rw[e];exact dK
abbrev Hq(s:ia):List C:=C8 s:: .ref 0 [] 5 0 0:: .eM 1 0 []:: .ref 1 [] 1 0 0:: .un:: .un:: .un:: .agg (BE s):: .fn 123 [] [.ref 2 [] 5 0 0]::List.replicate 18 .un
def P4(s:ia)(hs:EJ s):th 27 [] [C8 s] (lT (yj s)) []:=by
 refine ab func27 ?_;refine⟨_,_,N9 s _ _,uH ?_⟩;refine⟨_,zk.qM 1 0 9 1 V V (.inl V) V V,?_⟩;refine⟨.normal,_,[oS s,⟨1,22,1,[[.gl 3 1 ((yj s).map qe)]],0⟩,oS s,⟨4,9,1,(yj s).map qe,0⟩],λl r h1 h2 h3 h4 h5=>⟨_,_,r,NP s hs l (fQ l r (Hq s)) V (λout c ho hc=>?_) (λout c o ho hc=>?_),rfl,aE,rfl,pC _,aF,zk.low 4 _ _ V V V⟩,?_⟩
 .have mc:(c.zc.map qe).length=c.zc.length:=gO ..;refine jn.zZ (id:=4) V h1 h2 h3 h4 h5 V V V (uH ?_);refine⟨rfl,rfl,uH ?_⟩;rw[mc];refine zH.seq c.zc.length (λk=>(.za::.ref 0 [] 5 0 0::.za::.ref 1 [] 1 0 0::.za::.za::.za::.za::.za::.za::.za::(lT c.zc)::I c.zc.length::I k::mK ([.za,.za,.za,.za,.za]))) (λk=>let R:=fQ l (busy r) (Hq s);[oS s,⟨1,22,1,[[.gl 3 1 (((c.zc.take k).foldl kb out).map qe)]],0⟩,oS s,⟨4,9,1,((c.zc.take k).foldl kb out).map qe,0⟩,R]++[⟨1,26,3,[iz c],0⟩]) (λk=>((c.zc.take k).foldl kb out).length<=out.length+k) ?_ ah (λk hk hr=>?_) (λhr=>?_)
  .exact cC
  .obtain⟨n,hx⟩:∃n,n=c.zc[k]:=⟨_,rfl⟩;have hg:(c.zc.map qe)[k]?=some (qe n):=by rw[gM,gL hk,hx];rfl
   have et:(c.zc.take (k+1)).foldl kb out=kb ((c.zc.take k).foldl kb out) n:=by rw[Dp _ _ _ hk,hx]
   have al:=FW ((c.zc.take k).foldl kb out) n;dsimp only;rw[et];generalize (c.zc.take k).foldl kb out=o2 at hr al|-;have ml:(o2.map qe).length=o2.length:=gO ..;conv=>whnf
   refine zay ?_
   refine af (Du o2 n an) ?_;refine⟨λq=>?_,λq=>?_⟩
   .rw[show kb o2 n=o2 from gS q];refine dd ?_;refine .inl ⟨rfl,?_,an⟩;rw[zm an];exact cE 6
   .have ea:kb o2 n=o2++[n]:=gP (by simp[q]);rw[ea]at al|-;refine dd ?_;refine⟨rfl,.inr V,by rw[ml];simp[maxLen];omega,by rw[ml];show _*16<=_;simp;omega,dd ?_⟩;have eb:o2.map qe++[[Tx n]]=(o2++[n]).map qe:=by simp[qe]
    rw[eb];refine .inl ⟨rfl,?_,an⟩;rw[zm an];exact cE 6
  .have e:(c.zc.take c.zc.length).foldl kb out=wF out c:=by rw[px];rfl
   refine uD ?_;rw[e];exact⟨(.za::.ref 0 [] 5 0 0::mK (mK (mK ([.za])))),_,cE 5,rfl,.inl ⟨rfl,rfl,rfl⟩⟩
 .have mc:(c.zc.map qe).length=c.zc.length:=gO ..;refine jn.zZ (id:=4) V h1 h2 h3 h4 h5 V V V (uH ?_);refine⟨rfl,rfl,uH ?_⟩;rw[mc];refine zH.seq c.zc.length (λk=>(.za::.ref 0 [] 5 0 0::.za::.ref 1 [] 1 0 0::.za::.za::.za::.za::.za::.za::.za::(lT c.zc)::I c.zc.length::I k::mK ([.za,.za,.za,.za,.za]))) (λk=>let R:=fQ l (busy r) (Hq s);[oS s,⟨1,22,1,[[.gl 3 1 (((c.zc.take k).foldl kb out).map qe)]],0⟩,oS s,⟨4,9,1,((c.zc.take k).foldl kb out).map qe,0⟩,R]++[⟨1,48,10,[vx o],0⟩,⟨1,26,3,[iz c],0⟩]) (λk=>((c.zc.take k).foldl kb out).length<=out.length+k) ?_ ah (λk hk hr=>?_) (λhr=>?_)
  .exact cC
  .obtain⟨n,hx⟩:∃n,n=c.zc[k]:=⟨_,rfl⟩;have hg:(c.zc.map qe)[k]?=some (qe n):=by rw[gM,gL hk,hx];rfl
   have et:(c.zc.take (k+1)).foldl kb out=kb ((c.zc.take k).foldl kb out) n:=by rw[Dp _ _ _ hk,hx]
   have al:=FW ((c.zc.take k).foldl kb out) n;dsimp only;rw[et];generalize (c.zc.take k).foldl kb out=o2 at hr al|-;have ml:(o2.map qe).length=o2.length:=gO ..;conv=>whnf
   refine zay ?_
   refine af (Du o2 n an) ?_;refine⟨λq=>?_,λq=>?_⟩
   .rw[show kb o2 n=o2 from gS q];refine dd ?_;refine .inl ⟨rfl,?_,an⟩;rw[zm an];exact cE 7
   .have ea:kb o2 n=o2++[n]:=gP (by simp[q]);rw[ea]at al|-;refine dd ?_;refine⟨rfl,.inr V,by rw[ml];simp[maxLen];omega,by rw[ml];show _*16<=_;simp;omega,dd ?_⟩;have eb:o2.map qe++[[Tx n]]=(o2++[n]).map qe:=by simp[qe]
    rw[eb];refine .inl ⟨rfl,?_,an⟩;rw[zm an];exact cE 7
  .have e:(c.zc.take c.zc.length).foldl kb out=wF out c:=by rw[px];rfl
   refine uD ?_;rw[e];exact⟨(.za::.ref 0 [] 5 0 0::mK (mK (mK ([.za])))),_,cE 6,rfl,.inl ⟨rfl,rfl,rfl⟩⟩
 .conv=>whnf
  exact uI
def jP(s:ia):Wor×Int:=if iH s=true then lM (qI s.first).1 (yj s) s.threads.length else (AL,1)
def kZ{s:ia}(h:iH s=true):nY s.first=true/\1<=s.threads.length/\s.threads.length<=8/\s.qT.length<=4000/\(∀l∈s.threads,l.length<=16/\∀o∈l,1<=o.kind/\o.kind<=6)/\∀n∈s.qT,0<=n:=by
 unfold iH at h;simp only[gY,pE,pS,pI]at h;obtain⟨⟨⟨⟨⟨h1,h2⟩,h3⟩,h4⟩,h5⟩,h6⟩:=h;refine⟨h1,h2,h3,h4,λl hl=>?_,λn hn=>?_⟩
 .have q:=h5 l hl;unfold oZ at q;simp only[Bool.not_eq_true,rk,pM,pI]at q;refine⟨an,λo ho=>?_⟩;have:=q.2 o ho;unfold At at this;exact dt
 .have:=h6 n hn;unfold Dc at this;exact dt
def HW(s:ia)(hs:EK s)(hc:nY s.first=true->jv s.first)(ho:∀l∈s.threads,∀o∈l,yf o.config)(hn:iH s=true->∀x∈yj s,x.length<4000000000000000000):th 8 [] [C8 s] (.eR [Cw (jP s).1,I (jP s).2]) []:=by
 have m1:(s.threads.map wo).length=s.threads.length:=gO ..;refine ab func8 ?_;refine af (N3 s hs) ?_;refine⟨λh1=>?_,λh1=>?_⟩
 rotate_left
 .rw[show jP s=(AL,1) from gP aG];refine zac ?_
  exact c9
 obtain⟨p1,p2,p3,p4,p5,p6⟩:=kZ h1;have sc:=hc p1;have er:(qp s.first).1=0:=by simpa [nY] using p1
 refine zac ?_
 refine af (Fh s.first sc.k) ?_;have eb:(qI s.first).2.1=0:=(Cd s.first).trans er;have en:jP s=lM (qI s.first).1 (yj s) s.threads.length:=gS h1;have wn:EJ s:=⟨p1,p3,λl hl=>(p5 l hl).1,ho⟩
 have nl:(yj s).length<1000000000:=by
  have a:=DJ [] (wa p1)
  have b:=Ct kB 64 s.threads (wF [] s.first) λl hl o=>by
   have hl2:=(p5 l hl).1;exact FG o hl2
  have c:yj s=s.threads.foldl kB (wF [] s.first):=rfl;rw[c];simp at a;omega
 have nw:=Tv (qI s.first).1 (yj s) s.threads.length (ko sc) ⟨nl,hn h1⟩;refine⟨λh=>absurd h (by rw[eb];decide),λ_=>dd ?_⟩;refine uE ?_;refine af (P4 s wn) ?_;rw[m1];refine af nw ?_;rw[en];exact uI
end Go.Wor
