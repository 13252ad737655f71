import Derived.Test.YtamgiodaflkbhaaGreatVZ
import Derived.Test.YtamgiodaflkbhaaGreatVU
import Derived.Test.YtamgiodaflkbhaaGreatVI
set_option linter.all false
set_option maxRecDepth 100000
set_option maxHeartbeats 4000000
namespace Go.Wor
open Go.Ab Go.Proofs Tryz Go.Gat Go.Nam Go.Hos Go.Con Go.Sna Go.Pla
open Go.Hy hiding encI
variable{H:zq}{f:FuncId}{caps:List C}{l:List fQ}{c:fZ}
abbrev Bf(s:ic):C:=.agg (vA s)
def yH(c:fZ):Bool:=(qh c).1 == 0
def my(o:fQ):Bool:=decide (o.kind<1) || decide (6<o.kind)
def l6(l:List fQ):Bool:=decide (16<l.length) || l.any my
def Az(n:Int):Bool:=decide (n<0)
def iJ(s:ic):Bool:=yH s.first && decide (1<=s.threads.length) && decide (s.threads.length<=8) && decide (s.zY.length<=4000) && !s.threads.any l6 && !s.zY.any Az
structure CM(s:ic):Prop where
 first:yp s.first
 threads:s.threads.length<4000000000000000000
 ops:∀l∈s.threads,l.length<4000000000000000000
 zY:s.zY.length<4000000000000000000
def Jo(c:fZ)(hc:yp c):th 54 [] [Cf c] (Bo (yH c)) []:=by
 refine ab func54 ?_;refine af (FL c hc) ?_;refine⟨λh=>?_,λh=>?_⟩
 .refine dd ?_
  (exact⟨.inl V,_,.refl _,uN (by exact h.symm)⟩)
 .refine dd ?_
  (exact⟨.inl V,_,.refl _,uN (by exact h.symm)⟩)
abbrev Ih(o:fQ):C:=.agg (yB o)
def S6(p:fQ->Bool)(hcb:qv prog f=true)(hp:∀r∈l,th f H ([Ih r]++caps) (Bo (p r)) H)(hl:l.length<4611686018427387904):
  th 106 H [lP l,.fn f [] caps] (I (match l.findIdx? p with|some i=>(i:Int)|none=> -1)) H:=by
 refine zb.zX (fn:=f106) func106 V (uH ?_)
 refine zH.inv (λn t1 H1=>∃k,k+n=l.length/\H1=H/\(∀j,j<k->∀r,l[j]?=some r->p r=false)/\
   t1=((lP l)::.fn f [] caps::.za::.za::I 0::.za::.za::I (l.map yB).length::I k::mL ([.za,.za]))) l.length ?_ ?_
 .exact dS
 rintro n _ _ ⟨k,hk,rfl,hno,rfl⟩;conv=>whnf
 refine⟨λh=>?_,λh=>?_⟩
 .conv=>whnf
  have ft:k<l.length:=ai h
  refine⟨an,yB l[k],aB,uH ?_⟩;rw[hcb];refine⟨_,_,hp _ (rj ft),uH ?_⟩;refine⟨λh2=>?_,λh2=>?_⟩
  .conv=>whnf
   refine zbb ?_
   have:l.findIdx? p=some k:=by
    rw[pT];refine⟨ft,h2,λj hj=>?_⟩;simp[hno j hj _ (pq an)]
   rw[this]
   rfl
  .conv=>whnf
   refine .inl ⟨rfl,n-1,_,_,an,zl.mask [0,1,4,7,8] _ _,k+1,an,rfl,?_,?_⟩
   .intro j hj r hr;by_cases hjk:j=k
    .subst hjk;rw[pq ft]at hr;cases hr
     exact h2
    .exact hno j an r hr
   .rw[zk an];rfl
 .conv=>whnf
  refine zbb ?_
  have:l.findIdx? p=none:=by
   rw[pX];intro x hx;obtain⟨j,hj⟩:=pV.1 hx;have hjl:=(px.1 hj).1;have:¬k<l.length:=ai h
   exact hno j an x hj
  rw[this]
  rfl
def RU(p:fQ->Bool)(hcb:qv prog f=true)(hp:∀r∈l,th f H ([Ih r]++caps) (Bo (p r)) H)(hl:l.length<4611686018427387904):
  th 55 H [lP l,.fn f [] caps] (Bo (l.any p)) H:=by
 refine zb.zX (fn:=f55) func55 V (uH ?_);refine⟨_,_,S6 p hcb hp hl,dd ?_⟩;refine zbt ?_;refine⟨λh=>?_,λh=>?_⟩ <;> rw[h]
 .exact gk
 .exact gk
def Tr(o:fQ):th 56 [] [Ih o] (Bo (my o)) []:=by
 refine ab func56 ?_;refine⟨λh1=>?_,λh1=>?_⟩
 .refine zac ?_
  (exact⟨.inl V,_,.refl _,uN (by unfold my;rw[h1];rfl)⟩)
 .refine dd ?_;refine⟨λh2=>?_,λh2=>?_⟩
  .refine dd ?_
   (exact⟨.inl V,_,.refl _,uN (by unfold my;rw[h1];simp at h2;simp[h2])⟩)
  .refine dd ?_
   (exact⟨.inl V,_,.refl _,uN (by unfold my;rw[h1];simp at h2;simp;omega)⟩)
def Ts(n:Int):th 58 [] [I n] (Bo (Az n)) []:=by
 refine ab func58 ?_;refine⟨λh1=>?_,λh1=>?_⟩
 .refine dd ?_
  (exact⟨.inl V,_,.refl _,uN (by exact h1.symm)⟩)
 .refine dd ?_
  (exact⟨.inl V,_,.refl _,uN (by exact h1.symm)⟩)
def ON(s:ic)(hs:CM s):th 24 [] [Bf s] (Bo (iJ s)) []:=by
 have m1:(s.threads.map j0).length=s.threads.length:=pz ..;have m2:(s.zY.map Go.Hy.encI).length=s.zY.length:=pz ..;have b1:=hs.threads;have b2:=hs.zY;have hcon:=Go.Wor.J8 (H:=[]) (f:=58) (l:=s.zY) (caps:=[]) Az ak (λr _=>Ts r) an;refine ab func24 ?_;refine af (Jo s.first hs.first) ?_;refine⟨λh1=>?_,λh1=>?_⟩
 rotate_left
 ·(rw[show iJ s=false from by (unfold iJ;rw[h1];rfl)]);exact dv
 refine dd ?_;rw[m1];refine⟨λh2=>?_,λh2=>?_⟩
 ·(rw[show iJ s=false from aC]);exact dv
 have h2:1<=s.threads.length:=aD
 refine dd ?_;rw[m1];refine⟨λh3=>?_,λh3=>?_⟩
 ·(rw[show iJ s=false from aE]);exact dv
 have h3:s.threads.length<=8:=aF
 refine dd ?_;rw[m2];refine⟨λh4=>?_,λh4=>?_⟩
 ·(rw[show iJ s=false from aG]);exact dv
 have h4:s.zY.length<=4000:=by simp at h4;omega
 have e1:iJ s=(!s.threads.any l6 && !s.zY.any Az):=by
  unfold iJ;rw[h1,rX h2,rX h3,rX h4]
  rfl
 refine zac ?_
 rw[m1];refine zH.seq s.threads.length (λk=>(.za::.ref 0 [] 5 0 0::Bo false::mL (mL (mL (.za::(Cz s.threads)::I s.threads.length::I k::mL ([.za,.za,.za,.za,.za,.za,.za])))))) (λk=>[oS s]) (λk=>∀j,(h:j<s.threads.length)->j<k->l6 s.threads[j]=false) ?_ ah (λk hk hr=>?_) (λhr=>?_)
 .exact cC
 .obtain⟨x,hx⟩:∃x,x=s.threads[k]:=⟨_,rfl⟩;have hxm:x∈s.threads:=by rw[hx];exact gp
  have hg:(s.threads.map j0)[k]?=some (j0 x):=by rw[pw,pq hk,hx];rfl
  have m3:(x.map yB).length=x.length:=pz ..;have bx:=hs.ops x hxm;have hcx:=RU (H:=[]) (f:=56) (l:=x) (caps:=[]) my ak (λr _=>Tr r) an
  have bad:l6 x=true->iJ s=false:=λh=>by
   rw[e1,rJ.2 ⟨x,hxm,h⟩];rfl
  conv=>whnf
  refine zaD ?_
  rw[m3];refine⟨λc1=>?_,λc1=>?_⟩
  .rw[bad (by unfold l6;rw[rX (show 16<x.length by simp at c1;omega)];rfl)];refine zac ?_
   refine zaw ?_
   exact uI
  have eT:l6 x=x.any my:=by unfold l6;rw[rW (by simp at c1;omega)];rfl
  refine dd ?_;refine af hcx ?_;refine⟨λc2=>?_,λc2=>?_⟩
  .rw[bad (by rw[eT,c2])];refine zac ?_
   refine zaw ?_
   exact uI
  .refine zac ?_
   refine .inl ⟨rfl,?_,λi hi hij=>?_⟩
   .exact dG
   .by_cases e:i=k
    .subst e;rw[<-hx,eT,c2]
    .exact hr i hi an
 .have h5:s.threads.any l6=false:=by
   rw[rk];intro x hx;obtain⟨i,hi,rfl⟩:=pU.1 hx;simp[hr i hi hi]
  rw[e1,h5];refine uD ?_;refine af hcon ?_;refine⟨λq=>?_,λq=>?_⟩
  all_goals
   rw[q];refine zac ?_
   exact uI
def jr(out:List fB)(n:fB):List fB:=if (out.any λx=>x == n)=true then out else out++[n]
def yx(out:List fB)(c:fZ):List fB:=c.zc.foldl jr out
def Ah(o:fQ):Bool:=decide (o.kind=3) && yH o.config
def yP(out:List fB)(o:fQ):List fB:=if Ah o=true then yx out o.config else out
def xr(out:List fB)(l:List fQ):List fB:=l.foldl yP out
def jL(s:ic):List fB:=s.threads.foldl xr (yx [] s.first)
def yM(h:yH c=true):c.zc.length<=4:=by
 have h:(qh c).1=0:=by simpa [yH] using h
 unfold qh at h;split at h
 .rename_i q;exact absurd h q
 .rename_i q;have q:(xK c).1=0:=Decidable.of_not_not q;unfold xK at q;split at q
  .exact absurd (show(6:Int)=0 from q) aj
  .rename_i z;simp at z;omega
theorem C8(out:List fB)(n:fB):(jr out n).length<=out.length+1:=by
 grind [jr]
def yW{α β:Type}(f:List β->α->List β)(k:Nat):∀(l:List α) (out:List β),(∀x∈l,∀o:List β,(f o x).length<=o.length+k)->(l.foldl f out).length<=out.length+k*l.length
 |[],out,_=>by simp
 |x::l,out,h=>by
  have h1:=h x (sd ..) out;have h2:=yW f k l (f out x) λy hy o=>h y (rY _ hy) o
  rw[u4,r8,Nat.mul_add];omega
def B8(out:List fB)(h:c.zc.length<=4):(yx out c).length<=out.length+4:=by
 have:=yW jr 1 c.zc out λn _ o=>C8 o n
 unfold yx;omega
def Gx(out:List fB)(o:fQ):(yP out o).length<=out.length+4:=by
 unfold yP;split
 .rename_i h;unfold Ah at h;simp only[pJ]at h;exact B8 out (yM h.2)
 .omega
def C4(out:List fB)(h:l.length<=16):(xr out l).length<=out.length+64:=by
 have:=yW yP 4 l out λo _ x=>Gx x o
 unfold xr;omega
def y8{α β:Type}(f:β->α->β)(b:β)(l:List α){k:Nat}(h:k<l.length):(l.take (k+1)).foldl f b=f ((l.take k).foldl f b) l[k]:=by
 rw[ru h,fc]
 rfl
def OC(s:ic)(X Y:Ob):th 66 [X,Y] [Bf s] (.fn 123 [] [.ref 2 [] 5 0 0]) [X,Y,oS s]:=by
 refine zb.zX (fn:=f66) func66 V (uH ?_);exact uJ
structure CL(s:ic):Prop where
 first:yH s.first=true
 threads:s.threads.length<=8
 ops:∀l∈s.threads,l.length<=16
 cfg:∀l∈s.threads,∀o∈l,yp o.config
def Ot(s:ic)(hs:CL s)(l:Nat)(rec:Ob)(hrec:qj 5 [rec]=true)
 (hy0:∀(out:List fB) (c:fZ),out.length<=600->c.zc.length<=4->jv prog l ([oS s,⟨1,22,1,[[.gl 3 1 ((out).map z7)]],0⟩,oS s,⟨4,9,1,(out).map z7,0⟩,rec]) [Cf c] (Bo true) ([oS s,⟨1,22,1,[[.gl 3 1 ((yx out c).map z7)]],0⟩,oS s,⟨4,9,1,(yx out c).map z7,0⟩,rec]))
 (hy1:∀(out:List fB) (c:fZ) (o:fQ),out.length<=600->c.zc.length<=4->jv prog l ([oS s,⟨1,22,1,[[.gl 3 1 ((out).map z7)]],0⟩,oS s,⟨4,9,1,(out).map z7,0⟩,rec]++[⟨1,48,10,[yB (o)],0⟩]) [Cf c] (Bo true) ([oS s,⟨1,22,1,[[.gl 3 1 ((yx out c).map z7)]],0⟩,oS s,⟨4,9,1,(yx out c).map z7,0⟩,rec]++[⟨1,48,10,[yB (o)],0⟩])):
  th 123 ([oS s,⟨1,22,1,[[.gl 3 1 (([]).map z7)]],0⟩,oS s,⟨4,9,1,([]).map z7,0⟩,rec]) [.v (.func (.yield l) #[] #[]),.ref 2 [] 5 0 0] (.fy []) ([oS s,⟨1,22,1,[[.gl 3 1 ((jL s).map z7)]],0⟩,oS s,⟨4,9,1,(jL s).map z7,0⟩,rec]):=by
 have m1:(s.threads.map j0).length=s.threads.length:=pz ..;have b1:=hs.threads;have y0:=hy0 [] s.first aj (yM hs.first);refine zb.zX (fn:=f123) func123 V (uH ?_);refine⟨_,_,y0,dd ?_⟩;refine td ?_
 rw[m1];refine zH.seq s.threads.length (λk=>(.v (.func (.yield l) #[] #[])::.ref 2 [] 5 0 0::mL (.za::.za::.za::(Cz s.threads)::I s.threads.length::I k::mL (mL (mL ([.za,.za])))))) (λk=>[oS s,⟨1,22,1,[[.gl 3 1 (((s.threads.take k).foldl xr (yx [] s.first)).map z7)]],0⟩,oS s,⟨4,9,1,((s.threads.take k).foldl xr (yx [] s.first)).map z7,0⟩,rec]) (λk=>((s.threads.take k).foldl xr (yx [] s.first)).length<=4+64*k) ?_ (by have:=B8 [] (yM hs.first);simpa using this) (λk hk hr=>?_) (λhr=>?_)
 .exact cC
 .obtain⟨x,hx⟩:∃x,x=s.threads[k]:=⟨_,rfl⟩;have hxm:x∈s.threads:=by rw[hx];exact gp
  have hg:(s.threads.map j0)[k]?=some (j0 x):=by rw[pw,pq hk,hx];rfl
  have m3:(x.map yB).length=x.length:=pz ..;have bx:=hs.ops x hxm;have et:(s.threads.take (k+1)).foldl xr (yx [] s.first)=xr ((s.threads.take k).foldl xr (yx [] s.first)) x:=by rw[y8 _ _ _ hk,hx]
  rw[et];generalize (s.threads.take k).foldl xr (yx [] s.first)=out at hr|-;conv=>whnf
  refine zaD ?_
  rw[m3];refine zH.seq x.length (λj=>(.v (.func (.yield l) #[] #[])::.ref 2 [] 5 0 0::mL (.za::.za::.za::(Cz s.threads)::I s.threads.length::I k::.za::.za::.za::(lP x)::I x.length::I j::mL (mL ([.za,.za,.za,.za]))))) (λj=>[oS s,⟨1,22,1,[[.gl 3 1 (((x.take j).foldl yP out).map z7)]],0⟩,oS s,⟨4,9,1,((x.take j).foldl yP out).map z7,0⟩,rec]) (λj=>((x.take j).foldl yP out).length<=4+64*k+4*j) ?_ (ai hr) (λj hj hrj=>?_) (λhrj=>?_)
  .exact cC
  .obtain⟨o,hxo⟩:∃o,o=x[j]:=⟨_,rfl⟩;have hom:o∈x:=by rw[hxo];exact ph
   have hgo:(x.map yB)[j]?=some (yB o):=by rw[pw,pq hj,hxo];rfl
   have eo:(x.take (j+1)).foldl yP out=yP ((x.take j).foldl yP out) o:=by rw[y8 _ _ _ hj,hxo]
   have ol:=Gx ((x.take j).foldl yP out) o;rw[eo];generalize (x.take j).foldl yP out=out2 at hrj ol|-;have skip:Ah o=false->yP out2 o=out2:=λh=>by unfold yP;rw[pA aA]
   have take:Ah o=true->yP out2 o=yx out2 o.config:=λh=>by unfold yP;rw[pD h]
   conv=>whnf
   refine uF ?_;(refine te hgo ?_)
   refine⟨λc1=>?_,λc1=>?_⟩
   rotate_left
   .rw[skip (by unfold Ah;rw[rW (ai c1)];rfl)]at ol|-;refine zac ?_
    exact zck
   have c1:o.kind=3:=ai c1
   refine dd ?_;refine af (Jo o.config (hs.cfg x hxm o hom)) ?_;refine⟨λc2=>?_,λc2=>?_⟩
   rotate_left
   .rw[skip (by unfold Ah;rw[c2,sT])]at ol|-;refine zac ?_
    exact zck
   have y1:=hy1 out2 o.config o an (yM c2);rw[take (by unfold Ah;rw[c2,rX c1];rfl)]at ol|-;refine dd ?_;refine⟨_,_,y1,dd ?_⟩;refine td ?_
   exact zck
  .have e:(x.take x.length).foldl yP out=xr out x:=by rw[pQ];rfl
   have al:=C4 out bx;refine uD ?_;rw[e,zk an];refine .inl ⟨rfl,?_,an⟩;exact zl.jd 5 ta V V V hrec V
 .have e:(s.threads.take s.threads.length).foldl xr (yx [] s.first)=jL s:=by rw[pQ];rfl
  refine uD ?_;rw[e];exact dZ
abbrev H5(s:ic):List C:=Bf s:: .ref 0 [] 5 0 0:: .fq 1 0 []:: .ref 1 [] 1 0 0:: .un:: .un:: .un:: .agg (vA s):: .fn 123 [] [.ref 2 [] 5 0 0]::List.replicate 18 .un
def QC(s:ic)(hs:CL s):th 27 [] [Bf s] (lT (jL s)) []:=by
 refine ab func27 ?_;refine⟨_,_,OC s _ _,uH ?_⟩;refine⟨_,zl.qN 1 0 9 1 V V (.inl V) V V,?_⟩;refine⟨.normal,_,[oS s,⟨1,22,1,[[.gl 3 1 ((jL s).map z7)]],0⟩,oS s,⟨4,9,1,(jL s).map z7,0⟩],λl r h1 h2 h3 h4 h5=>⟨_,_,r,Ot s hs l (iy l r (H5 s)) V (λout c ho hc=>?_) (λout c o ho hc=>?_),rfl,aH,rfl,pW _,aI,zl.low 4 _ _ V V V⟩,?_⟩
 .have mc:(c.zc.map z7).length=c.zc.length:=pz ..;refine jv.zX (id:=4) V h1 h2 h3 h4 h5 V V V (uH ?_);refine⟨rfl,rfl,uH ?_⟩;rw[mc];refine zH.seq c.zc.length (λk=>(.za::.ref 0 [] 5 0 0::.za::.ref 1 [] 1 0 0::.za::.za::.za::.za::.za::.za::.za::(lT c.zc)::I c.zc.length::I k::mL ([.za,.za,.za,.za,.za]))) (λk=>let R:=iy l (busy r) (H5 s);[oS s,⟨1,22,1,[[.gl 3 1 (((c.zc.take k).foldl jr out).map z7)]],0⟩,oS s,⟨4,9,1,((c.zc.take k).foldl jr out).map z7,0⟩,R]++[⟨1,26,3,[iY c],0⟩]) (λk=>((c.zc.take k).foldl jr out).length<=out.length+k) ?_ ah (λk hk hr=>?_) (λhr=>?_)
  .exact cC
  .obtain⟨n,hx⟩:∃n,n=c.zc[k]:=⟨_,rfl⟩;have hg:(c.zc.map z7)[k]?=some (z7 n):=by rw[pw,pq hk,hx];rfl
   have et:(c.zc.take (k+1)).foldl jr out=jr ((c.zc.take k).foldl jr out) n:=by rw[y8 _ _ _ hk,hx]
   have al:=C8 ((c.zc.take k).foldl jr out) n;dsimp only;rw[et];generalize (c.zc.take k).foldl jr out=o2 at hr al|-;have ml:(o2.map z7).length=o2.length:=pz ..;conv=>whnf
   refine zaD ?_
   refine af (DY o2 n an) ?_;refine⟨λq=>?_,λq=>?_⟩
   .rw[show jr o2 n=o2 from pD q];refine dd ?_;refine .inl ⟨rfl,?_,an⟩;rw[zk an];exact cE 6
   .have ea:jr o2 n=o2++[n]:=pA (by simp[q]);rw[ea]at al|-;refine dd ?_;refine⟨rfl,.inr V,by rw[ml];simp[maxLen];omega,by rw[ml];show _*16<=_;simp;omega,dd ?_⟩;have eb:o2.map z7++[[Tx n]]=(o2++[n]).map z7:=by simp[z7]
    rw[eb];refine .inl ⟨rfl,?_,an⟩;rw[zk an];exact cE 6
  .have e:(c.zc.take c.zc.length).foldl jr out=yx out c:=by rw[pQ];rfl
   refine uD ?_;rw[e];exact⟨(.za::.ref 0 [] 5 0 0::mL (mL (mL ([.za])))),_,cE 5,rfl,.inl ⟨rfl,rfl,rfl⟩⟩
 .have mc:(c.zc.map z7).length=c.zc.length:=pz ..;refine jv.zX (id:=4) V h1 h2 h3 h4 h5 V V V (uH ?_);refine⟨rfl,rfl,uH ?_⟩;rw[mc];refine zH.seq c.zc.length (λk=>(.za::.ref 0 [] 5 0 0::.za::.ref 1 [] 1 0 0::.za::.za::.za::.za::.za::.za::.za::(lT c.zc)::I c.zc.length::I k::mL ([.za,.za,.za,.za,.za]))) (λk=>let R:=iy l (busy r) (H5 s);[oS s,⟨1,22,1,[[.gl 3 1 (((c.zc.take k).foldl jr out).map z7)]],0⟩,oS s,⟨4,9,1,((c.zc.take k).foldl jr out).map z7,0⟩,R]++[⟨1,48,10,[yB o],0⟩,⟨1,26,3,[iY c],0⟩]) (λk=>((c.zc.take k).foldl jr out).length<=out.length+k) ?_ ah (λk hk hr=>?_) (λhr=>?_)
  .exact cC
  .obtain⟨n,hx⟩:∃n,n=c.zc[k]:=⟨_,rfl⟩;have hg:(c.zc.map z7)[k]?=some (z7 n):=by rw[pw,pq hk,hx];rfl
   have et:(c.zc.take (k+1)).foldl jr out=jr ((c.zc.take k).foldl jr out) n:=by rw[y8 _ _ _ hk,hx]
   have al:=C8 ((c.zc.take k).foldl jr out) n;dsimp only;rw[et];generalize (c.zc.take k).foldl jr out=o2 at hr al|-;have ml:(o2.map z7).length=o2.length:=pz ..;conv=>whnf
   refine zaD ?_
   refine af (DY o2 n an) ?_;refine⟨λq=>?_,λq=>?_⟩
   .rw[show jr o2 n=o2 from pD q];refine dd ?_;refine .inl ⟨rfl,?_,an⟩;rw[zk an];exact cE 7
   .have ea:jr o2 n=o2++[n]:=pA (by simp[q]);rw[ea]at al|-;refine dd ?_;refine⟨rfl,.inr V,by rw[ml];simp[maxLen];omega,by rw[ml];show _*16<=_;simp;omega,dd ?_⟩;have eb:o2.map z7++[[Tx n]]=(o2++[n]).map z7:=by simp[z7]
    rw[eb];refine .inl ⟨rfl,?_,an⟩;rw[zk an];exact cE 7
  .have e:(c.zc.take c.zc.length).foldl jr out=yx out c:=by rw[pQ];rfl
   refine uD ?_;rw[e];exact⟨(.za::.ref 0 [] 5 0 0::mL (mL (mL ([.za])))),_,cE 6,rfl,.inl ⟨rfl,rfl,rfl⟩⟩
 .conv=>whnf
  exact uI
def qS(s:ic):Wor×Int:=if iJ s=true then k9 (qB s.first).1 (jL s) s.threads.length else (nV,1)
def yl{s:ic}(h:iJ s=true):yH s.first=true/\1<=s.threads.length/\s.threads.length<=8/\s.zY.length<=4000/\(∀l∈s.threads,l.length<=16/\∀o∈l,1<=o.kind/\o.kind<=6)/\∀n∈s.zY,0<=n:=by
 unfold iJ at h;simp only[pJ,pY,rE,rk]at h;obtain⟨⟨⟨⟨⟨h1,h2⟩,h3⟩,h4⟩,h5⟩,h6⟩:=h;refine⟨h1,h2,h3,h4,λl hl=>?_,λn hn=>?_⟩
 .have q:=h5 l hl;unfold l6 at q;simp only[Bool.not_eq_true,r4,rD,rk]at q;refine⟨an,λo ho=>?_⟩;have:=q.2 o ho;unfold my at this;exact dL
 .have:=h6 n hn;unfold Az at this;exact dL
def wS(s:ic)(hs:CM s)(hc:yH s.first=true->qQ s.first)(ho:∀l∈s.threads,∀o∈l,yp o.config)(hn:iJ s=true->∀x∈jL s,x.length<4000000000000000000):th 8 [] [Bf s] (.fy [Cw (qS s).1,I (qS s).2]) []:=by
 have m1:(s.threads.map j0).length=s.threads.length:=pz ..;refine ab func8 ?_;refine af (ON s hs) ?_;refine⟨λh1=>?_,λh1=>?_⟩
 rotate_left
 .rw[show qS s=(nV,1) from pA aJ];refine zac ?_
  exact dm
 obtain⟨p1,p2,p3,p4,p5,p6⟩:=yl h1;have sc:=hc p1;have er:(qh s.first).1=0:=by simpa [yH] using p1
 refine zac ?_
 refine af (FK s.first sc.k) ?_;have eb:(qB s.first).2.1=0:=(wi s.first).trans er;have en:qS s=k9 (qB s.first).1 (jL s) s.threads.length:=pD h1;have wn:CL s:=⟨p1,p3,λl hl=>(p5 l hl).1,ho⟩
 have nl:(jL s).length<1000000000:=by
  have a:=B8 [] (yM p1)
  have b:=yW xr 64 s.threads (yx [] s.first) λl hl o=>by
   have hl2:=(p5 l hl).1;exact C4 o hl2
  have c:jL s=s.threads.foldl xr (yx [] s.first):=rfl;rw[c];simp at a;omega
 have nw:=TS (qB s.first).1 (jL s) s.threads.length (vu sc) ⟨nl,hn h1⟩;refine⟨λh=>absurd h (by rw[eb];decide),λ_=>dd ?_⟩;refine uE ?_;refine af (QC s wn) ?_;rw[m1];refine af nw ?_;rw[en];exact uI
end Go.Wor
