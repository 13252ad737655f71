import Derived.Test.YtoeaoedlpmohoaaGreatSZ
import Derived.Test.YtoeaoedlpmohoaaGreatSU
import Derived.Test.YtoeaoedlpmohoaaGreatSI
set_option linter.all false
set_option maxRecDepth 100000
set_option maxHeartbeats 4000000
namespace Go.Wor
open Go.Ab Go.Proofs Tryz Go.Gat Go.Nam Go.Hos Go.Con Go.Sna Go.Pla
open Go.Hy hiding encI
abbrev Jg(s:mb):C:=.agg (yC s)
def wY(c:mL):Bool:=(qy c).1 == 0
def E6(o:lX):Bool:=decide (o.kind<1) || decide (6<o.kind)
def Ei(l:List lX):Bool:=decide (16<l.length) || l.any E6
def Jf(n:Int):Bool:=decide (n<0)
def oN(s:mb):Bool:=wY s.first && decide (1<=s.threads.length) && decide (s.threads.length<=8) && decide (s.zP.length<=4000) && !s.threads.any Ei && !s.zP.any Jf
structure L9(s:mb):Prop where
 first:yY s.first
 threads:s.threads.length<4000000000000000000
 ops:∀l∈s.threads,l.length<4000000000000000000
 zP:s.zP.length<4000000000000000000
def SN(c:mL)(hc:yY c):tp 77 [] [Cf c] (Bo (wY c)) []:=by
 refine ab func77 ?_;refine ah (MP c hc) ?_;refine⟨λh=>?_,λh=>?_⟩
 ·refine dd ?_
  (exact⟨.inl O,_,.refl _,uN (by exact h.symm)⟩)
 ·refine dd ?_
  (exact⟨.inl O,_,.refl _,uN (by exact h.symm)⟩)
abbrev Mz(o:lX):C:=.agg (wy o)
def zrV{H:zo}{f:FuncId}{caps:List C}{l:List lX}(p:lX->Bool)(hcb:qw prog f=true)(hp:∀r∈l,tp f H ([Mz r]++caps) (Bo (p r)) H)(hl:l.length<4611686018427387904):
  tp 108 H [lP l,.fn f [] caps] (I (match l.findIdx? p with|some i=>(i:Int)|none=> -1)) H:=by
 refine zc.zM (fn:=f108) func108 O (uH ?_)
 refine zW.inv (λn t1 H1=>∃k,k+n=l.length/\H1=H/\(∀j,j<k->∀r,l[j]?=some r->p r=false)/\
   t1=((lP l)::.fn f [] caps::.za::.za::I 0::.za::.za::I (l.map wy).length::I k::mF ([.za,.za]))) l.length ?_ ?_
 ·exact dC
 rintro n _ _ ⟨k,hk,rfl,hno,rfl⟩;conv=>whnf
 refine⟨λh=>?_,λh=>?_⟩
 ·conv=>whnf
  have lu:k<l.length:=aq h
  refine⟨aw,wy l[k],aY,uH ?_⟩;rw[hcb];refine⟨_,_,hp _ (pY lu),uH ?_⟩;refine⟨λh2=>?_,λh2=>?_⟩
  ·conv=>whnf
   refine .inr ⟨aj,uH ?_⟩;refine⟨.inl O,_,.refl _,rfl,?_⟩
   have:l.findIdx? p=some k:=by
    rw[pO];refine⟨lu,h2,λj hj=>?_⟩;simp[hno j hj _ (pa aw)]
   rw[this]
   rfl
  ·conv=>whnf
   refine .inl ⟨rfl,n-1,_,_,aw,zt.mask [0,1,4,7,8] _ _,k+1,aw,rfl,?_,?_⟩
   ·intro j hj r hr;by_cases hjk:j=k
    ·subst hjk;rw[pa lu]at hr;cases hr
     exact h2
    ·exact hno j aw r hr
   ·rw[zy aw];rfl
 ·conv=>whnf
  refine .inr ⟨aj,uH ?_⟩;refine⟨.inl O,_,.refl _,rfl,?_⟩
  have:l.findIdx? p=none:=by
   rw[pW];intro x hx;obtain⟨j,hj⟩:=pJ.1 hx;have hjl:=(gZ.1 hj).1;have:¬k<l.length:=aq h
   exact hno j aw x hj
  rw[this]
  rfl
def zrg{H:zo}{f:FuncId}{caps:List C}{l:List lX}(p:lX->Bool)(hcb:qw prog f=true)(hp:∀r∈l,tp f H ([Mz r]++caps) (Bo (p r)) H)(hl:l.length<4611686018427387904):
  tp 78 H [lP l,.fn f [] caps] (Bo (l.any p)) H:=by
 refine zc.zM (fn:=f78) func78 O (uH ?_);refine⟨_,_,zrV p hcb hp hl,dd ?_⟩;rw[show decide ((match l.findIdx? p with|some i=>((i:Nat):Int)|none=>(-1:Int))≥(0:Int))=l.any p from Fp l p];refine⟨λh=>?_,λh=>?_⟩ <;> rw[h]
 ·exact dN
 ·exact dN
def zsN(o:lX):tp 79 [] [Mz o] (Bo (E6 o)) []:=by
 refine ab func79 ?_;refine⟨λh1=>?_,λh1=>?_⟩
 ·refine dd ?_;refine tf ?_
  (exact⟨.inl O,_,.refl _,uN (by unfold E6;rw[h1];rfl)⟩)
 ·refine dd ?_;refine⟨λh2=>?_,λh2=>?_⟩
  ·refine dd ?_
   (exact⟨.inl O,_,.refl _,uN (by unfold E6;rw[h1];simp at h2;simp[h2])⟩)
  ·refine dd ?_
   (exact⟨.inl O,_,.refl _,uN (by unfold E6;rw[h1];simp at h2;simp;omega)⟩)
def zsO(n:Int):tp 81 [] [I n] (Bo (Jf n)) []:=by
 refine ab func81 ?_;refine⟨λh1=>?_,λh1=>?_⟩
 ·refine dd ?_
  (exact⟨.inl O,_,.refl _,uN (by exact h1.symm)⟩)
 ·refine dd ?_
  (exact⟨.inl O,_,.refl _,uN (by exact h1.symm)⟩)
def zkP(s:mb)(hs:L9 s):tp 55 [] [Jg s] (Bo (oN s)) []:=by
 have m1:(s.threads.map yo).length=s.threads.length:=pB ..;have m2:(s.zP.map Go.Hy.encI).length=s.zP.length:=pB ..;have b1:=hs.threads;have b2:=hs.zP;have hcon:=Go.Wor.JZ (H:=[]) (f:=81) (l:=s.zP) (caps:=[]) Jf au (λr _=>zsO r) aw;refine ab func55 ?_;refine ah (SN s.first hs.first) ?_;refine⟨λh1=>?_,λh1=>?_⟩
 rotate_left
 ·(rw[show oN s=false from by (unfold oN;rw[h1];rfl)]);exact dw
 refine dd ?_;rw[m1];refine⟨λh2=>?_,λh2=>?_⟩
 ·(rw[show oN s=false from by (unfold oN;rw[sU (show ¬1<=s.threads.length by simp at h2;omega)];simp)]);exact dw
 have h2:1<=s.threads.length:=aZ
 refine dd ?_;rw[m1];refine⟨λh3=>?_,λh3=>?_⟩
 ·(rw[show oN s=false from by (unfold oN;rw[sU (show ¬s.threads.length<=8 by simp at h3;omega)];simp)]);exact dw
 have h3:s.threads.length<=8:=by simp at h3;omega
 refine dd ?_;rw[m2];refine⟨λh4=>?_,λh4=>?_⟩
 ·(rw[show oN s=false from by (unfold oN;rw[sU (show ¬s.zP.length<=4000 by simp at h4;omega)];simp)]);exact dw
 have h4:s.zP.length<=4000:=by simp at h4;omega
 have e1:oN s=(!s.threads.any Ei && !s.zP.any Jf):=by
  unfold oN;rw[h1,ur h2,ur h3,ur h4]
  rfl
 refine dd ?_;refine tf ?_
 rw[m1];refine zW.seq s.threads.length (λk=>(.za::.ref 0 [] 5 0 0::Bo false::mF (mF (mF (.za::(Ht s.threads)::I s.threads.length::I k::mF ([.za,.za,.za,.za,.za,.za,.za])))))) (λk=>[oS s]) (λk=>∀j,(h:j<s.threads.length)->j<k->Ei s.threads[j]=false) ?_ aj (λk hk hr=>?_) (λhr=>?_)
 ·exact cC
 ·obtain⟨x,hx⟩:∃x,x=s.threads[k]:=⟨_,rfl⟩;have hxm:x∈s.threads:=by rw[hx];exact pY hk
  have hg:(s.threads.map yo)[k]?=some (yo x):=by rw[pj,pa hk,hx];rfl
  have m3:(x.map wy).length=x.length:=pB ..;have bx:=hs.ops x hxm;have hcx:=zrg (H:=[]) (f:=79) (l:=x) (caps:=[]) E6 au (λr _=>zsN r) aw
  have bad:Ei x=true->oN s=false:=λh=>by
   rw[e1,sb.2 ⟨x,hxm,h⟩];rfl
  conv=>whnf
  refine uF ?_;(refine tj hg ?_)
  rw[m3];refine⟨λc1=>?_,λc1=>?_⟩
  ·rw[bad (by unfold Ei;rw[ur (show 16<x.length by simp at c1;omega)];rfl)];refine dd ?_;refine tf ?_
   (refine .inr ⟨aj,uH ?_⟩)
   exact uI
  have eT:Ei x=x.any E6:=by unfold Ei;rw[sU (by simp at c1;omega)];rfl
  refine dd ?_;refine ah hcx ?_;refine⟨λc2=>?_,λc2=>?_⟩
  ·rw[bad (by rw[eT,c2])];refine dd ?_;refine tf ?_
   (refine .inr ⟨aj,uH ?_⟩)
   exact uI
  ·refine dd ?_;refine tf ?_
   refine .inl ⟨rfl,?_,λi hi hij=>?_⟩
   ·exact gA
   ·by_cases e:i=k
    ·subst e;rw[<-hx,eT,c2]
    ·exact hr i hi aw
 ·have h5:s.threads.any Ei=false:=by
   rw[rI];intro x hx;obtain⟨i,hi,rfl⟩:=rP.1 hx;simp[hr i hi hi]
  rw[e1,h5];refine uD ?_;refine ah hcon ?_;refine⟨λq=>?_,λq=>?_⟩
  all_goals
   rw[q];refine dd ?_;refine tf ?_
   exact uI
def ka(out:List lH)(n:lH):List lH:=if (out.any λx=>x == n)=true then out else out++[n]
def nY(out:List lH)(c:mL):List lH:=c.zf.foldl ka out
def Fa(o:lX):Bool:=decide (o.kind=3) && wY o.config
def oQ(out:List lH)(o:lX):List lH:=if Fa o=true then nY out o.config else out
def AI(out:List lH)(l:List lX):List lH:=l.foldl oQ out
def ye(s:mb):List lH:=s.threads.foldl AI (nY [] s.first)
def Gd{c:mL}(h:wY c=true):c.zf.length<=4:=by
 have h:(qy c).1=0:=by simpa [wY] using h
 unfold qy at h;split at h
 ·rename_i q;exact absurd h q
 ·rename_i q;have q:(kT c).1=0:=Decidable.of_not_not q;unfold kT at q;split at q
  ·exact absurd (show(6:Int)=0 from q) ar
  ·rename_i z;simp at z;omega
def N4(out:List lH)(n:lH):(ka out n).length<=out.length+1:=by
 unfold ka;split
 ·omega
 ·simp
def Io{α β:Type}(f:List β->α->List β)(k:Nat):∀(l:List α) (out:List β),(∀x∈l,∀o:List β,(f o x).length<=o.length+k)->(l.foldl f out).length<=out.length+k*l.length
 |[],out,_=>by simp
 |x::l,out,h=>by
  have h1:=h x (r7 ..) out;have h2:=Io f k l (f out x) λy hy o=>h y (r8 _ hy) o
  rw[iI,rF,Nat.mul_add];omega
def Kq(out:List lH){c:mL}(h:c.zf.length<=4):(nY out c).length<=out.length+4:=by
 have:=Io ka 1 c.zf out λn _ o=>N4 o n
 unfold nY;omega
def Uz(out:List lH)(o:lX):(oQ out o).length<=out.length+4:=by
 unfold oQ;split
 ·rename_i h;unfold Fa at h;simp only[pG]at h;exact Kq out (Gd h.2)
 ·omega
def NI(out:List lH){l:List lX}(h:l.length<=16):(AI out l).length<=out.length+64:=by
 have:=Io oQ 4 l out λo _ x=>Uz x o
 unfold AI;omega
def J3{α β:Type}(f:β->α->β)(b:β)(l:List α){k:Nat}(h:k<l.length):(l.take (k+1)).foldl f b=f ((l.take k).foldl f b) l[k]:=by
 rw[rS h,eK]
 rfl
def zla(s:mb)(X Y:Ob):tp 89 [X,Y] [Jg s] (.fn 124 [] [.ref 2 [] 5 0 0]) [X,Y,oS s]:=by
 refine zc.zM (fn:=f89) func89 O (uH ?_);exact uJ
structure L8(s:mb):Prop where
 first:wY s.first=true
 threads:s.threads.length<=8
 ops:∀l∈s.threads,l.length<=16
 cfg:∀l∈s.threads,∀o∈l,yY o.config
def zjN(s:mb)(hs:L8 s)(l:Nat)(rec:Ob)(hrec:qf 5 [rec]=true)
 (hy0:∀(out:List lH) (c:mL),out.length<=600->c.zf.length<=4->xd prog l ([oS s,⟨1,22,1,[[.gl 3 1 ((out).map qG)]],0⟩,oS s,⟨4,9,1,(out).map qG,0⟩,rec]) [Cf c] (Bo true) ([oS s,⟨1,22,1,[[.gl 3 1 ((nY out c).map qG)]],0⟩,oS s,⟨4,9,1,(nY out c).map qG,0⟩,rec]))
 (hy1:∀(out:List lH) (c:mL) (o:lX),out.length<=600->c.zf.length<=4->xd prog l ([oS s,⟨1,22,1,[[.gl 3 1 ((out).map qG)]],0⟩,oS s,⟨4,9,1,(out).map qG,0⟩,rec]++[⟨1,57,10,[wy (o)],0⟩]) [Cf c] (Bo true) ([oS s,⟨1,22,1,[[.gl 3 1 ((nY out c).map qG)]],0⟩,oS s,⟨4,9,1,(nY out c).map qG,0⟩,rec]++[⟨1,57,10,[wy (o)],0⟩])):
  tp 124 ([oS s,⟨1,22,1,[[.gl 3 1 (([]).map qG)]],0⟩,oS s,⟨4,9,1,([]).map qG,0⟩,rec]) [.v (.func (.yield l) #[] #[]),.ref 2 [] 5 0 0] (.lK []) ([oS s,⟨1,22,1,[[.gl 3 1 ((ye s).map qG)]],0⟩,oS s,⟨4,9,1,(ye s).map qG,0⟩,rec]):=by
 have m1:(s.threads.map yo).length=s.threads.length:=pB ..;have b1:=hs.threads;have y0:=hy0 [] s.first ar (Gd hs.first);refine zc.zM (fn:=f124) func124 O (uH ?_);refine⟨_,_,y0,dd ?_⟩;refine tf ?_
 rw[m1];refine zW.seq s.threads.length (λk=>(.v (.func (.yield l) #[] #[])::.ref 2 [] 5 0 0::mF (.za::.za::.za::(Ht s.threads)::I s.threads.length::I k::mF (mF (mF ([.za,.za])))))) (λk=>[oS s,⟨1,22,1,[[.gl 3 1 (((s.threads.take k).foldl AI (nY [] s.first)).map qG)]],0⟩,oS s,⟨4,9,1,((s.threads.take k).foldl AI (nY [] s.first)).map qG,0⟩,rec]) (λk=>((s.threads.take k).foldl AI (nY [] s.first)).length<=4+64*k) ?_ (by have:=Kq [] (Gd hs.first);simpa using this) (λk hk hr=>?_) (λhr=>?_)
 ·exact cC
 ·obtain⟨x,hx⟩:∃x,x=s.threads[k]:=⟨_,rfl⟩;have hxm:x∈s.threads:=by rw[hx];exact pY hk
  have hg:(s.threads.map yo)[k]?=some (yo x):=by rw[pj,pa hk,hx];rfl
  have m3:(x.map wy).length=x.length:=pB ..;have bx:=hs.ops x hxm;have et:(s.threads.take (k+1)).foldl AI (nY [] s.first)=AI ((s.threads.take k).foldl AI (nY [] s.first)) x:=by rw[J3 _ _ _ hk,hx]
  rw[et];generalize (s.threads.take k).foldl AI (nY [] s.first)=out at hr ⊢;conv=>whnf
  refine uF ?_;(refine tj hg ?_)
  rw[m3];refine zW.seq x.length (λj=>(.v (.func (.yield l) #[] #[])::.ref 2 [] 5 0 0::mF (.za::.za::.za::(Ht s.threads)::I s.threads.length::I k::.za::.za::.za::(lP x)::I x.length::I j::mF (mF ([.za,.za,.za,.za]))))) (λj=>[oS s,⟨1,22,1,[[.gl 3 1 (((x.take j).foldl oQ out).map qG)]],0⟩,oS s,⟨4,9,1,((x.take j).foldl oQ out).map qG,0⟩,rec]) (λj=>((x.take j).foldl oQ out).length<=4+64*k+4*j) ?_ (aq hr) (λj hj hrj=>?_) (λhrj=>?_)
  ·exact cC
  ·obtain⟨o,hxo⟩:∃o,o=x[j]:=⟨_,rfl⟩;have hom:o∈x:=by rw[hxo];exact pY hj
   have hgo:(x.map wy)[j]?=some (wy o):=by rw[pj,pa hj,hxo];rfl
   have eo:(x.take (j+1)).foldl oQ out=oQ ((x.take j).foldl oQ out) o:=by rw[J3 _ _ _ hj,hxo]
   have ol:=Uz ((x.take j).foldl oQ out) o;rw[eo];generalize (x.take j).foldl oQ out=out2 at hrj ol ⊢;have skip:Fa o=false->oQ out2 o=out2:=λh=>by unfold oQ;rw[pw aI]
   have take:Fa o=true->oQ out2 o=nY out2 o.config:=λh=>by unfold oQ;rw[pA h]
   conv=>whnf
   refine uF ?_;(refine tj hgo ?_)
   refine⟨λc1=>?_,λc1=>?_⟩
   rotate_left
   ·rw[skip (by unfold Fa;rw[sU (aq c1)];rfl)]at ol ⊢;refine dd ?_;refine tf ?_
    refine .inl ⟨rfl,?_,aw⟩;rw[zy aw];exact zt.yi 5 tc O O O hrec O
   have c1:o.kind=3:=aq c1
   refine dd ?_;refine ah (SN o.config (hs.cfg x hxm o hom)) ?_;refine⟨λc2=>?_,λc2=>?_⟩
   rotate_left
   ·rw[skip (by unfold Fa;rw[c2,eQ])]at ol ⊢;refine dd ?_;refine tf ?_
    refine .inl ⟨rfl,?_,aw⟩;rw[zy aw];exact zt.yi 5 tc O O O hrec O
   have y1:=hy1 out2 o.config o aw (Gd c2);rw[take (by unfold Fa;rw[c2,ur c1];rfl)]at ol ⊢;refine dd ?_;refine⟨_,_,y1,dd ?_⟩;refine tf ?_
   refine .inl ⟨rfl,?_,aw⟩;rw[zy aw];exact zt.yi 5 tc O O O hrec O
  ·have e:(x.take x.length).foldl oQ out=AI out x:=by rw[rj];rfl
   have al:=NI out bx;refine uD ?_;rw[e,zy aw];refine .inl ⟨rfl,?_,aw⟩;exact zt.yi 5 tc O O O hrec O
 ·have e:(s.threads.take s.threads.length).foldl AI (nY [] s.first)=ye s:=by rw[rj];rfl
  refine uD ?_;rw[e];exact dx
abbrev MJ(s:mb):List C:=Jg s:: .ref 0 [] 5 0 0:: .lq 1 0 []:: .ref 1 [] 1 0 0:: .un:: .un:: .un:: .agg (yC s):: .fn 124 [] [.ref 2 [] 5 0 0]::List.replicate 18 .un
def zpI(s:mb)(hs:L8 s):tp 58 [] [Jg s] (lT (ye s)) []:=by
 refine ab func58 ?_;refine⟨_,_,zla s _ _,uH ?_⟩;refine⟨_,zt.DC 1 0 9 1 O O (.inl O) O O,?_⟩;refine⟨.normal,_,[oS s,⟨1,22,1,[[.gl 3 1 ((ye s).map qG)]],0⟩,oS s,⟨4,9,1,(ye s).map qG,0⟩],λl r h1 h2 h3 h4 h5=>⟨_,_,r,zjN s hs l (nn l r (MJ s)) O (λout c ho hc=>?_) (λout c o ho hc=>?_),rfl,ba,rfl,rk _,bc,zt.low 4 _ _ O O O⟩,?_⟩
 ·have mc:(c.zf.map qG).length=c.zf.length:=pB ..;refine xd.zM (id:=4) O h1 h2 h3 h4 h5 O O O (uH ?_);refine⟨rfl,rfl,uH ?_⟩;rw[mc];refine zW.seq c.zf.length (λk=>(.za::.ref 0 [] 5 0 0::.za::.ref 1 [] 1 0 0::.za::.za::.za::.za::.za::.za::.za::(lT c.zf)::I c.zf.length::I k::mF ([.za,.za,.za,.za,.za]))) (λk=>let R:=nn l (busy r) (MJ s);[oS s,⟨1,22,1,[[.gl 3 1 (((c.zf.take k).foldl ka out).map qG)]],0⟩,oS s,⟨4,9,1,((c.zf.take k).foldl ka out).map qG,0⟩,R]++[⟨1,26,3,[B7 c],0⟩]) (λk=>((c.zf.take k).foldl ka out).length<=out.length+k) ?_ aj (λk hk hr=>?_) (λhr=>?_)
  ·exact cC
  ·obtain⟨n,hx⟩:∃n,n=c.zf[k]:=⟨_,rfl⟩;have hg:(c.zf.map qG)[k]?=some (qG n):=by rw[pj,pa hk,hx];rfl
   have et:(c.zf.take (k+1)).foldl ka out=ka ((c.zf.take k).foldl ka out) n:=by rw[J3 _ _ _ hk,hx]
   have al:=N4 ((c.zf.take k).foldl ka out) n;dsimp only;rw[et];generalize (c.zf.take k).foldl ka out=o2 at hr al ⊢;have ml:(o2.map qG).length=o2.length:=pB ..;conv=>whnf
   refine uF ?_;(refine tj hg ?_)
   refine ah (J0 o2 n aw) ?_;refine⟨λq=>?_,λq=>?_⟩
   ·rw[show ka o2 n=o2 from pA q];refine dd ?_;refine .inl ⟨rfl,?_,aw⟩;rw[zy aw];exact cE 6
   ·have ea:ka o2 n=o2++[n]:=pw (by simp[q]);rw[ea]at al ⊢;refine dd ?_;refine⟨rfl,.inr O,by rw[ml];simp[maxLen];omega,by rw[ml];show _*16<=_;simp;omega,dd ?_⟩;have eb:o2.map qG++[[Tx n]]=(o2++[n]).map qG:=by simp[qG]
    rw[eb];refine .inl ⟨rfl,?_,aw⟩;rw[zy aw];exact cE 6
  ·have e:(c.zf.take c.zf.length).foldl ka out=nY out c:=by rw[rj];rfl
   refine uD ?_;rw[e];exact⟨(.za::.ref 0 [] 5 0 0::mF (mF (mF ([.za])))),_,cE 5,rfl,.inl ⟨rfl,rfl,rfl⟩⟩
 ·have mc:(c.zf.map qG).length=c.zf.length:=pB ..;refine xd.zM (id:=4) O h1 h2 h3 h4 h5 O O O (uH ?_);refine⟨rfl,rfl,uH ?_⟩;rw[mc];refine zW.seq c.zf.length (λk=>(.za::.ref 0 [] 5 0 0::.za::.ref 1 [] 1 0 0::.za::.za::.za::.za::.za::.za::.za::(lT c.zf)::I c.zf.length::I k::mF ([.za,.za,.za,.za,.za]))) (λk=>let R:=nn l (busy r) (MJ s);[oS s,⟨1,22,1,[[.gl 3 1 (((c.zf.take k).foldl ka out).map qG)]],0⟩,oS s,⟨4,9,1,((c.zf.take k).foldl ka out).map qG,0⟩,R]++[⟨1,57,10,[wy o],0⟩,⟨1,26,3,[B7 c],0⟩]) (λk=>((c.zf.take k).foldl ka out).length<=out.length+k) ?_ aj (λk hk hr=>?_) (λhr=>?_)
  ·exact cC
  ·obtain⟨n,hx⟩:∃n,n=c.zf[k]:=⟨_,rfl⟩;have hg:(c.zf.map qG)[k]?=some (qG n):=by rw[pj,pa hk,hx];rfl
   have et:(c.zf.take (k+1)).foldl ka out=ka ((c.zf.take k).foldl ka out) n:=by rw[J3 _ _ _ hk,hx]
   have al:=N4 ((c.zf.take k).foldl ka out) n;dsimp only;rw[et];generalize (c.zf.take k).foldl ka out=o2 at hr al ⊢;have ml:(o2.map qG).length=o2.length:=pB ..;conv=>whnf
   refine uF ?_;(refine tj hg ?_)
   refine ah (J0 o2 n aw) ?_;refine⟨λq=>?_,λq=>?_⟩
   ·rw[show ka o2 n=o2 from pA q];refine dd ?_;refine .inl ⟨rfl,?_,aw⟩;rw[zy aw];exact cE 7
   ·have ea:ka o2 n=o2++[n]:=pw (by simp[q]);rw[ea]at al ⊢;refine dd ?_;refine⟨rfl,.inr O,by rw[ml];simp[maxLen];omega,by rw[ml];show _*16<=_;simp;omega,dd ?_⟩;have eb:o2.map qG++[[Tx n]]=(o2++[n]).map qG:=by simp[qG]
    rw[eb];refine .inl ⟨rfl,?_,aw⟩;rw[zy aw];exact cE 7
  ·have e:(c.zf.take c.zf.length).foldl ka out=nY out c:=by rw[rj];rfl
   refine uD ?_;rw[e];exact⟨(.za::.ref 0 [] 5 0 0::mF (mF (mF ([.za])))),_,cE 6,rfl,.inl ⟨rfl,rfl,rfl⟩⟩
 ·conv=>whnf
  exact uI
def qT(s:mb):Wor×Int:=if oN s=true then nZ (z7 s.first).1 (ye s) s.threads.length else (FM,1)
def xg{s:mb}(h:oN s=true):wY s.first=true/\1<=s.threads.length/\s.threads.length<=8/\s.zP.length<=4000/\(∀l∈s.threads,l.length<=16/\∀o∈l,1<=o.kind/\o.kind<=6)/\∀n∈s.zP,0<=n:=by
 unfold oN at h;simp only[pG,pQ,rZ,rI]at h;obtain⟨⟨⟨⟨⟨h1,h2⟩,h3⟩,h4⟩,h5⟩,h6⟩:=h;refine⟨h1,h2,h3,h4,λl hl=>?_,λn hn=>?_⟩
 ·have q:=h5 l hl;unfold Ei at q;simp only[Bool.not_eq_true,rY,rL,rI]at q;refine⟨aw,λo ho=>?_⟩;have:=q.2 o ho;unfold E6 at this;exact dB
 ·have:=h6 n hn;unfold Jf at this;exact dB
def RE(s:mb)(hs:L9 s)(hc:wY s.first=true->yX s.first)(ho:∀l∈s.threads,∀o∈l,yY o.config)(hn:oN s=true->∀x∈ye s,x.length<4000000000000000000):tp 30 [] [Jg s] (.lK [Cw (qT s).1,I (qT s).2]) []:=by
 have m1:(s.threads.map yo).length=s.threads.length:=pB ..;refine ab func30 ?_;refine ah (zkP s hs) ?_;refine⟨λh1=>?_,λh1=>?_⟩
 rotate_left
 ·rw[show qT s=(FM,1) from pw aD];refine dd ?_;refine tf ?_
  exact dq
 obtain⟨p1,p2,p3,p4,p5,p6⟩:=xg h1;have sc:=hc p1;have er:(qy s.first).1=0:=by simpa [wY] using p1
 refine dd ?_;refine tf ?_
 refine ah (vH s.first sc.k) ?_;have eb:(z7 s.first).2.1=0:=(wL s.first).trans er;have en:qT s=nZ (z7 s.first).1 (ye s) s.threads.length:=pA h1;have wn:L8 s:=⟨p1,p3,λl hl=>(p5 l hl).1,ho⟩
 have nl:(ye s).length<1000000000:=by
  have a:=Kq [] (Gd p1)
  have b:=Io AI 64 s.threads (nY [] s.first) λl hl o=>by
   have hl2:=(p5 l hl).1;exact NI o hl2
  have c:ye s=s.threads.foldl AI (nY [] s.first):=rfl;rw[c];simp at a;omega
 have nw:=zvy (z7 s.first).1 (ye s) s.threads.length (JQ sc) ⟨nl,hn h1⟩;refine⟨λh=>absurd h (by rw[eb];decide),λ_=>dd ?_⟩;refine uE ?_;refine ah (zpI s wn) ?_;rw[m1];refine ah nw ?_;rw[en];exact uI
end Go.Wor
