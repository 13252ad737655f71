import Derived.Test.YtllehbdigpdinaaGreatSZ
import Derived.Test.YtllehbdigpdinaaGreatSU
import Derived.Test.YtllehbdigpdinaaGreatSI
set_option linter.all false
set_option maxRecDepth 100000
set_option maxHeartbeats 4000000
namespace Go.Wor
open Go.Ab Go.Proofs Tryz Go.Gat Go.Nam Go.Hos Go.Con Go.Sna Go.Pla
open Go.Hy hiding encI
abbrev EC(s:fy):C:=.agg (kV s)
def km(c:fD):Bool:=(qg c).1 == 0
def BF(o:fh):Bool:=decide (o.kind<1) || decide (6<o.kind)
def AW(l:List fh):Bool:=decide (16<l.length) || l.any BF
def EB(n:Int):Bool:=decide (n<0)
def iR(s:fy):Bool:=km s.first && decide (1<=s.threads.length) && decide (s.threads.length<=8) && decide (s.zW.length<=4000) && !s.threads.any AW && !s.zW.any EB
structure GQ(s:fy):Prop where
 first:xZ s.first
 threads:s.threads.length<4000000000000000000
 ops:∀l∈s.threads,l.length<4000000000000000000
 zW:s.zW.length<4000000000000000000
def Lz(c:fD)(hc:xZ c):tn 77 [] [Cf c] (Bo (km c)) []:=by
 refine ab func77 ?_;refine ah (Hg c hc) ?_;refine⟨λh=>?_,λh=>?_⟩
 ·refine dd ?_
  (exact⟨.inl O,_,.refl _,uN (by exact h.symm)⟩)
 ·refine dd ?_
  (exact⟨.inl O,_,.refl _,uN (by exact h.symm)⟩)
abbrev J5(o:fh):C:=.agg (y8 o)
def Ug{H:zl}{f:FuncId}{caps:List C}{l:List fh}(p:fh->Bool)(hcb:qi prog f=true)(hp:∀r∈l,tn f H ([J5 r]++caps) (Bo (p r)) H)(hl:l.length<4611686018427387904):
  tn 119 H [lP l,.fn f [] caps] (I (match l.findIdx? p with|some i=>(i:Int)|none=> -1)) H:=by
 refine zb.zG (fn:=f119) func119 O (uH ?_)
 refine qa.inv (λn t1 H1=>∃k,k+n=l.length/\H1=H/\(∀j,j<k->∀r,l[j]?=some r->p r=false)/\
   t1=((lP l)::.fn f [] caps::.za::.za::I 0::.za::.za::I (l.map y8).length::I k::hU ([.za,.za]))) l.length ?_ ?_
 ·exact dc
 rintro n _ _ ⟨k,hk,rfl,hno,rfl⟩;conv=>whnf
 refine⟨λh=>?_,λh=>?_⟩
 ·conv=>whnf
  have eU:k<l.length:=aq h
  refine⟨aw,y8 l[k],aZ,uH ?_⟩;rw[hcb];refine⟨_,_,hp _ (gW eU),uH ?_⟩;refine⟨λh2=>?_,λh2=>?_⟩
  ·conv=>whnf
   refine .inr ⟨aj,uH ?_⟩;refine⟨.inl O,_,.refl _,rfl,?_⟩
   have:l.findIdx? p=some k:=by
    rw[gJ];refine⟨eU,h2,λj hj=>?_⟩;simp[hno j hj _ (dZ aw)]
   rw[this]
   rfl
  ·conv=>whnf
   refine .inl ⟨rfl,n-1,_,_,aw,zn.mask [0,1,4,7,8] _ _,k+1,aw,rfl,?_,?_⟩
   ·intro j hj r hr;by_cases hjk:j=k
    ·subst hjk;rw[dZ eU]at hr;cases hr
     exact h2
    ·exact hno j aw r hr
   ·rw[zw aw];rfl
 ·conv=>whnf
  refine .inr ⟨aj,uH ?_⟩;refine⟨.inl O,_,.refl _,rfl,?_⟩
  have:l.findIdx? p=none:=by
   rw[gP];intro x hx;obtain⟨j,hj⟩:=gQ.1 hx;have hjl:=(dY.1 hj).1;have:¬k<l.length:=aq h
   exact hno j aw x hj
  rw[this]
  rfl
def Tm{H:zl}{f:FuncId}{caps:List C}{l:List fh}(p:fh->Bool)(hcb:qi prog f=true)(hp:∀r∈l,tn f H ([J5 r]++caps) (Bo (p r)) H)(hl:l.length<4611686018427387904):
  tn 78 H [lP l,.fn f [] caps] (Bo (l.any p)) H:=by
 refine zb.zG (fn:=f78) func78 O (uH ?_);refine⟨_,_,Ug p hcb hp hl,dd ?_⟩;rw[show decide ((match l.findIdx? p with|some i=>((i:Nat):Int)|none=>(-1:Int))≥(0:Int))=l.any p from BW l p];refine⟨λh=>?_,λh=>?_⟩ <;> rw[h]
 ·exact dk
 ·exact dk
def Vq(o:fh):tn 79 [] [J5 o] (Bo (BF o)) []:=by
 refine ab func79 ?_;refine⟨λh1=>?_,λh1=>?_⟩
 ·refine dd ?_;refine tc ?_
  (exact⟨.inl O,_,.refl _,uN (by unfold BF;rw[h1];rfl)⟩)
 ·refine dd ?_;refine⟨λh2=>?_,λh2=>?_⟩
  ·refine dd ?_
   (exact⟨.inl O,_,.refl _,uN (by unfold BF;rw[h1];simp at h2;simp[h2])⟩)
  ·refine dd ?_
   (exact⟨.inl O,_,.refl _,uN (by unfold BF;rw[h1];simp at h2;simp;omega)⟩)
def Vr(n:Int):tn 80 [] [I n] (Bo (EB n)) []:=by
 refine ab func80 ?_;refine⟨λh1=>?_,λh1=>?_⟩
 ·refine dd ?_
  (exact⟨.inl O,_,.refl _,uN (by exact h1.symm)⟩)
 ·refine dd ?_
  (exact⟨.inl O,_,.refl _,uN (by exact h1.symm)⟩)
def RO(s:fy)(hs:GQ s):tn 41 [] [EC s] (Bo (iR s)) []:=by
 have m1:(s.threads.map x4).length=s.threads.length:=gp ..;have m2:(s.zW.map Go.Hy.encI).length=s.zW.length:=gp ..;have b1:=hs.threads;have b2:=hs.zW;have hcon:=Go.Wor.E9 (H:=[]) (f:=80) (l:=s.zW) (caps:=[]) EB au (λr _=>Vr r) aw;refine ab func41 ?_;refine ah (Lz s.first hs.first) ?_;refine⟨λh1=>?_,λh1=>?_⟩
 rotate_left
 ·(rw[show iR s=false from by (unfold iR;rw[h1];rfl)]);exact c7
 refine dd ?_;rw[m1];refine⟨λh2=>?_,λh2=>?_⟩
 ·(rw[show iR s=false from by (unfold iR;rw[rC (show ¬1<=s.threads.length by simp at h2;omega)];simp)]);exact c7
 have h2:1<=s.threads.length:=ba
 refine dd ?_;rw[m1];refine⟨λh3=>?_,λh3=>?_⟩
 ·(rw[show iR s=false from by (unfold iR;rw[rC (show ¬s.threads.length<=8 by simp at h3;omega)];simp)]);exact c7
 have h3:s.threads.length<=8:=by simp at h3;omega
 refine dd ?_;rw[m2];refine⟨λh4=>?_,λh4=>?_⟩
 ·(rw[show iR s=false from by (unfold iR;rw[rC (show ¬s.zW.length<=4000 by simp at h4;omega)];simp)]);exact c7
 have h4:s.zW.length<=4000:=by simp at h4;omega
 have e1:iR s=(!s.threads.any AW && !s.zW.any EB):=by
  unfold iR;rw[h1,rY h2,rY h3,rY h4]
  rfl
 refine dd ?_;refine tc ?_
 rw[m1];refine qa.seq s.threads.length (λk=>(.za::.ref 0 [] 5 0 0::Bo false::hU (hU (hU (.za::(Dg s.threads)::I s.threads.length::I k::hU ([.za,.za,.za,.za,.za,.za,.za])))))) (λk=>[oS s]) (λk=>∀j,(h:j<s.threads.length)->j<k->AW s.threads[j]=false) ?_ aj (λk hk hr=>?_) (λhr=>?_)
 ·exact cC
 ·obtain⟨x,hx⟩:∃x,x=s.threads[k]:=⟨_,rfl⟩;have hxm:x∈s.threads:=by rw[hx];exact gW hk
  have hg:(s.threads.map x4)[k]?=some (x4 x):=by rw[gj,dZ hk,hx];rfl
  have m3:(x.map y8).length=x.length:=gp ..;have bx:=hs.ops x hxm;have hcx:=Tm (H:=[]) (f:=79) (l:=x) (caps:=[]) BF au (λr _=>Vq r) aw
  have bad:AW x=true->iR s=false:=λh=>by
   rw[e1,pZ.2 ⟨x,hxm,h⟩];rfl
  conv=>whnf
  refine uF ?_;(refine td hg ?_)
  rw[m3];refine⟨λc1=>?_,λc1=>?_⟩
  ·rw[bad (by unfold AW;rw[rY (show 16<x.length by simp at c1;omega)];rfl)];refine dd ?_;refine tc ?_
   (refine .inr ⟨aj,uH ?_⟩)
   exact uI
  have eT:AW x=x.any BF:=by unfold AW;rw[rC (by simp at c1;omega)];rfl
  refine dd ?_;refine ah hcx ?_;refine⟨λc2=>?_,λc2=>?_⟩
  ·rw[bad (by rw[eT,c2])];refine dd ?_;refine tc ?_
   (refine .inr ⟨aj,uH ?_⟩)
   exact uI
  ·refine dd ?_;refine tc ?_
   refine .inl ⟨rfl,?_,λi hi hij=>?_⟩
   ·exact dG
   ·by_cases e:i=k
    ·subst e;rw[<-hx,eT,c2]
    ·exact hr i hi aw
 ·have h5:s.threads.any AW=false:=by
   rw[pd];intro x hx;obtain⟨i,hi,rfl⟩:=pz.1 hx;simp[hr i hi hi]
  rw[e1,h5];refine uD ?_;refine ah hcon ?_;refine⟨λq=>?_,λq=>?_⟩
  all_goals
   rw[q];refine dd ?_;refine tc ?_
   exact uI
def yS(out:List eZ)(n:eZ):List eZ:=if (out.any λx=>x == n)=true then out else out++[n]
def kT(out:List eZ)(c:fD):List eZ:=c.zd.foldl yS out
def BH(o:fh):Bool:=decide (o.kind=3) && km o.config
def iT(out:List eZ)(o:fh):List eZ:=if BH o=true then kT out o.config else out
def wa(out:List eZ)(l:List fh):List eZ:=l.foldl iT out
def xr(s:fy):List eZ:=s.threads.foldl wa (kT [] s.first)
def wG{c:fD}(h:km c=true):c.zd.length<=4:=by
 have h:(qg c).1=0:=by simpa [km] using h
 unfold qg at h;split at h
 ·rename_i q;exact absurd h q
 ·rename_i q;have q:(vr c).1=0:=Decidable.of_not_not q;unfold vr at q;split at q
  ·exact absurd (show(6:Int)=0 from q) ar
  ·rename_i z;simp at z;omega
def Is(out:List eZ)(n:eZ):(yS out n).length<=out.length+1:=by
 unfold yS;split
 ·omega
 ·simp
def DR{α β:Type}(f:List β->α->List β)(k:Nat):∀(l:List α) (out:List β),(∀x∈l,∀o:List β,(f o x).length<=o.length+k)->(l.foldl f out).length<=out.length+k*l.length
 |[],out,_=>by simp
 |x::l,out,h=>by
  have h1:=h x (pW ..) out;have h2:=DR f k l (f out x) λy hy o=>h y (pT _ hy) o
  rw[eh,pC,Nat.mul_add];omega
def Fv(out:List eZ){c:fD}(h:c.zd.length<=4):(kT out c).length<=out.length+4:=by
 have:=DR yS 1 c.zd out λn _ o=>Is o n
 unfold kT;omega
def Nt(out:List eZ)(o:fh):(iT out o).length<=out.length+4:=by
 unfold iT;split
 ·rename_i h;unfold BH at h;simp only[gC]at h;exact Fv out (wG h.2)
 ·omega
def HX(out:List eZ){l:List fh}(h:l.length<=16):(wa out l).length<=out.length+64:=by
 have:=DR iT 4 l out λo _ x=>Nt x o
 unfold wa;omega
def Fc{α β:Type}(f:β->α->β)(b:β)(l:List α){k:Nat}(h:k<l.length):(l.take (k+1)).foldl f b=f ((l.take k).foldl f b) l[k]:=by
 rw[p7 h,sE]
 rfl
def Ry(s:fy)(X Y:Ob):tn 86 [X,Y] [EC s] (.fn 131 [] [.ref 2 [] 5 0 0]) [X,Y,oS s]:=by
 refine zb.zG (fn:=f86) func86 O (uH ?_);exact uJ
structure GP(s:fy):Prop where
 first:km s.first=true
 threads:s.threads.length<=8
 ops:∀l∈s.threads,l.length<=16
 cfg:∀l∈s.threads,∀o∈l,xZ o.config
def Rn(s:fy)(hs:GP s)(l:Nat)(rec:Ob)(hrec:qM 5 [rec]=true)
 (hy0:∀(out:List eZ) (c:fD),out.length<=600->c.zd.length<=4->jC prog l ([oS s,⟨1,22,1,[[.gl 3 1 ((out).map qn)]],0⟩,oS s,⟨4,9,1,(out).map qn,0⟩,rec]) [Cf c] (Bo true) ([oS s,⟨1,22,1,[[.gl 3 1 ((kT out c).map qn)]],0⟩,oS s,⟨4,9,1,(kT out c).map qn,0⟩,rec]))
 (hy1:∀(out:List eZ) (c:fD) (o:fh),out.length<=600->c.zd.length<=4->jC prog l ([oS s,⟨1,22,1,[[.gl 3 1 ((out).map qn)]],0⟩,oS s,⟨4,9,1,(out).map qn,0⟩,rec]++[⟨1,58,10,[y8 (o)],0⟩]) [Cf c] (Bo true) ([oS s,⟨1,22,1,[[.gl 3 1 ((kT out c).map qn)]],0⟩,oS s,⟨4,9,1,(kT out c).map qn,0⟩,rec]++[⟨1,58,10,[y8 (o)],0⟩])):
  tn 131 ([oS s,⟨1,22,1,[[.gl 3 1 (([]).map qn)]],0⟩,oS s,⟨4,9,1,([]).map qn,0⟩,rec]) [.v (.func (.yield l) #[] #[]),.ref 2 [] 5 0 0] (.fb []) ([oS s,⟨1,22,1,[[.gl 3 1 ((xr s).map qn)]],0⟩,oS s,⟨4,9,1,(xr s).map qn,0⟩,rec]):=by
 have m1:(s.threads.map x4).length=s.threads.length:=gp ..;have b1:=hs.threads;have y0:=hy0 [] s.first ar (wG hs.first);refine zb.zG (fn:=f131) func131 O (uH ?_);refine⟨_,_,y0,dd ?_⟩;refine tc ?_
 rw[m1];refine qa.seq s.threads.length (λk=>(.v (.func (.yield l) #[] #[])::.ref 2 [] 5 0 0::hU (.za::.za::.za::(Dg s.threads)::I s.threads.length::I k::hU (hU (hU ([.za,.za])))))) (λk=>[oS s,⟨1,22,1,[[.gl 3 1 (((s.threads.take k).foldl wa (kT [] s.first)).map qn)]],0⟩,oS s,⟨4,9,1,((s.threads.take k).foldl wa (kT [] s.first)).map qn,0⟩,rec]) (λk=>((s.threads.take k).foldl wa (kT [] s.first)).length<=4+64*k) ?_ (by have:=Fv [] (wG hs.first);simpa using this) (λk hk hr=>?_) (λhr=>?_)
 ·exact cC
 ·obtain⟨x,hx⟩:∃x,x=s.threads[k]:=⟨_,rfl⟩;have hxm:x∈s.threads:=by rw[hx];exact gW hk
  have hg:(s.threads.map x4)[k]?=some (x4 x):=by rw[gj,dZ hk,hx];rfl
  have m3:(x.map y8).length=x.length:=gp ..;have bx:=hs.ops x hxm;have et:(s.threads.take (k+1)).foldl wa (kT [] s.first)=wa ((s.threads.take k).foldl wa (kT [] s.first)) x:=by rw[Fc _ _ _ hk,hx]
  rw[et];generalize (s.threads.take k).foldl wa (kT [] s.first)=out at hr ⊢;conv=>whnf
  refine uF ?_;(refine td hg ?_)
  rw[m3];refine qa.seq x.length (λj=>(.v (.func (.yield l) #[] #[])::.ref 2 [] 5 0 0::hU (.za::.za::.za::(Dg s.threads)::I s.threads.length::I k::.za::.za::.za::(lP x)::I x.length::I j::hU (hU ([.za,.za,.za,.za]))))) (λj=>[oS s,⟨1,22,1,[[.gl 3 1 (((x.take j).foldl iT out).map qn)]],0⟩,oS s,⟨4,9,1,((x.take j).foldl iT out).map qn,0⟩,rec]) (λj=>((x.take j).foldl iT out).length<=4+64*k+4*j) ?_ (aq hr) (λj hj hrj=>?_) (λhrj=>?_)
  ·exact cC
  ·obtain⟨o,hxo⟩:∃o,o=x[j]:=⟨_,rfl⟩;have hom:o∈x:=by rw[hxo];exact gW hj
   have hgo:(x.map y8)[j]?=some (y8 o):=by rw[gj,dZ hj,hxo];rfl
   have eo:(x.take (j+1)).foldl iT out=iT ((x.take j).foldl iT out) o:=by rw[Fc _ _ _ hj,hxo]
   have ol:=Nt ((x.take j).foldl iT out) o;rw[eo];generalize (x.take j).foldl iT out=out2 at hrj ol ⊢;have skip:BH o=false->iT out2 o=out2:=λh=>by unfold iT;rw[gf aI]
   have take:BH o=true->iT out2 o=kT out2 o.config:=λh=>by unfold iT;rw[gk h]
   conv=>whnf
   refine uF ?_;(refine td hgo ?_)
   refine⟨λc1=>?_,λc1=>?_⟩
   rotate_left
   ·rw[skip (by unfold BH;rw[rC (aq c1)];rfl)]at ol ⊢;refine dd ?_;refine tc ?_
    refine .inl ⟨rfl,?_,aw⟩;rw[zw aw];exact zn.xw 5 hC O O O hrec O
   have c1:o.kind=3:=aq c1
   refine dd ?_;refine ah (Lz o.config (hs.cfg x hxm o hom)) ?_;refine⟨λc2=>?_,λc2=>?_⟩
   rotate_left
   ·rw[skip (by unfold BH;rw[c2,sQ])]at ol ⊢;refine dd ?_;refine tc ?_
    refine .inl ⟨rfl,?_,aw⟩;rw[zw aw];exact zn.xw 5 hC O O O hrec O
   have y1:=hy1 out2 o.config o aw (wG c2);rw[take (by unfold BH;rw[c2,rY c1];rfl)]at ol ⊢;refine dd ?_;refine⟨_,_,y1,dd ?_⟩;refine tc ?_
   refine .inl ⟨rfl,?_,aw⟩;rw[zw aw];exact zn.xw 5 hC O O O hrec O
  ·have e:(x.take x.length).foldl iT out=wa out x:=by rw[pQ];rfl
   have al:=HX out bx;refine uD ?_;rw[e,zw aw];refine .inl ⟨rfl,?_,aw⟩;exact zn.xw 5 hC O O O hrec O
 ·have e:(s.threads.take s.threads.length).foldl wa (kT [] s.first)=xr s:=by rw[pQ];rfl
  refine uD ?_;rw[e];exact c8
abbrev J7(s:fy):List C:=EC s:: .ref 0 [] 5 0 0:: .eS 1 0 []:: .ref 1 [] 1 0 0:: .un:: .un:: .un:: .agg (kV s):: .fn 131 [] [.ref 2 [] 5 0 0]::List.replicate 18 .un
def S1(s:fy)(hs:GP s):tn 44 [] [EC s] (lT (xr s)) []:=by
 refine ab func44 ?_;refine⟨_,_,Ry s _ _,uH ?_⟩;refine⟨_,zn.Ae 1 0 9 1 O O (.inl O) O O,?_⟩;refine⟨.normal,_,[oS s,⟨1,22,1,[[.gl 3 1 ((xr s).map qn)]],0⟩,oS s,⟨4,9,1,(xr s).map qn,0⟩],λl r h1 h2 h3 h4 h5=>⟨_,_,r,Rn s hs l (fZ l r (J7 s)) O (λout c ho hc=>?_) (λout c o ho hc=>?_),rfl,bb,rfl,gY _,bc,zn.low 4 _ _ O O O⟩,?_⟩
 ·have mc:(c.zd.map qn).length=c.zd.length:=gp ..;refine jC.zG (id:=4) O h1 h2 h3 h4 h5 O O O (uH ?_);refine⟨rfl,rfl,uH ?_⟩;rw[mc];refine qa.seq c.zd.length (λk=>(.za::.ref 0 [] 5 0 0::.za::.ref 1 [] 1 0 0::.za::.za::.za::.za::.za::.za::.za::(lT c.zd)::I c.zd.length::I k::hU ([.za,.za,.za,.za,.za]))) (λk=>let R:=fZ l (busy r) (J7 s);[oS s,⟨1,22,1,[[.gl 3 1 (((c.zd.take k).foldl yS out).map qn)]],0⟩,oS s,⟨4,9,1,((c.zd.take k).foldl yS out).map qn,0⟩,R]++[⟨1,26,3,[nD c],0⟩]) (λk=>((c.zd.take k).foldl yS out).length<=out.length+k) ?_ aj (λk hk hr=>?_) (λhr=>?_)
  ·exact cC
  ·obtain⟨n,hx⟩:∃n,n=c.zd[k]:=⟨_,rfl⟩;have hg:(c.zd.map qn)[k]?=some (qn n):=by rw[gj,dZ hk,hx];rfl
   have et:(c.zd.take (k+1)).foldl yS out=yS ((c.zd.take k).foldl yS out) n:=by rw[Fc _ _ _ hk,hx]
   have al:=Is ((c.zd.take k).foldl yS out) n;dsimp only;rw[et];generalize (c.zd.take k).foldl yS out=o2 at hr al ⊢;have ml:(o2.map qn).length=o2.length:=gp ..;conv=>whnf
   refine uF ?_;(refine td hg ?_)
   refine ah (Fa o2 n aw) ?_;refine⟨λq=>?_,λq=>?_⟩
   ·rw[show yS o2 n=o2 from gk q];refine dd ?_;refine .inl ⟨rfl,?_,aw⟩;rw[zw aw];exact cE 6
   ·have ea:yS o2 n=o2++[n]:=gf (by simp[q]);rw[ea]at al ⊢;refine dd ?_;refine⟨rfl,.inr O,by rw[ml];simp[maxLen];omega,by rw[ml];show _*16<=_;simp;omega,dd ?_⟩;have eb:o2.map qn++[[Tx n]]=(o2++[n]).map qn:=by simp[qn]
    rw[eb];refine .inl ⟨rfl,?_,aw⟩;rw[zw aw];exact cE 6
  ·have e:(c.zd.take c.zd.length).foldl yS out=kT out c:=by rw[pQ];rfl
   refine uD ?_;rw[e];exact⟨(.za::.ref 0 [] 5 0 0::hU (hU (hU ([.za])))),_,cE 5,rfl,.inl ⟨rfl,rfl,rfl⟩⟩
 ·have mc:(c.zd.map qn).length=c.zd.length:=gp ..;refine jC.zG (id:=4) O h1 h2 h3 h4 h5 O O O (uH ?_);refine⟨rfl,rfl,uH ?_⟩;rw[mc];refine qa.seq c.zd.length (λk=>(.za::.ref 0 [] 5 0 0::.za::.ref 1 [] 1 0 0::.za::.za::.za::.za::.za::.za::.za::(lT c.zd)::I c.zd.length::I k::hU ([.za,.za,.za,.za,.za]))) (λk=>let R:=fZ l (busy r) (J7 s);[oS s,⟨1,22,1,[[.gl 3 1 (((c.zd.take k).foldl yS out).map qn)]],0⟩,oS s,⟨4,9,1,((c.zd.take k).foldl yS out).map qn,0⟩,R]++[⟨1,58,10,[y8 o],0⟩,⟨1,26,3,[nD c],0⟩]) (λk=>((c.zd.take k).foldl yS out).length<=out.length+k) ?_ aj (λk hk hr=>?_) (λhr=>?_)
  ·exact cC
  ·obtain⟨n,hx⟩:∃n,n=c.zd[k]:=⟨_,rfl⟩;have hg:(c.zd.map qn)[k]?=some (qn n):=by rw[gj,dZ hk,hx];rfl
   have et:(c.zd.take (k+1)).foldl yS out=yS ((c.zd.take k).foldl yS out) n:=by rw[Fc _ _ _ hk,hx]
   have al:=Is ((c.zd.take k).foldl yS out) n;dsimp only;rw[et];generalize (c.zd.take k).foldl yS out=o2 at hr al ⊢;have ml:(o2.map qn).length=o2.length:=gp ..;conv=>whnf
   refine uF ?_;(refine td hg ?_)
   refine ah (Fa o2 n aw) ?_;refine⟨λq=>?_,λq=>?_⟩
   ·rw[show yS o2 n=o2 from gk q];refine dd ?_;refine .inl ⟨rfl,?_,aw⟩;rw[zw aw];exact cE 7
   ·have ea:yS o2 n=o2++[n]:=gf (by simp[q]);rw[ea]at al ⊢;refine dd ?_;refine⟨rfl,.inr O,by rw[ml];simp[maxLen];omega,by rw[ml];show _*16<=_;simp;omega,dd ?_⟩;have eb:o2.map qn++[[Tx n]]=(o2++[n]).map qn:=by simp[qn]
    rw[eb];refine .inl ⟨rfl,?_,aw⟩;rw[zw aw];exact cE 7
  ·have e:(c.zd.take c.zd.length).foldl yS out=kT out c:=by rw[pQ];rfl
   refine uD ?_;rw[e];exact⟨(.za::.ref 0 [] 5 0 0::hU (hU (hU ([.za])))),_,cE 6,rfl,.inl ⟨rfl,rfl,rfl⟩⟩
 ·conv=>whnf
  exact uI
def qC(s:fy):Wor×Int:=if iR s=true then i7 (zT s.first).1 (xr s) s.threads.length else (B6,1)
def xI{s:fy}(h:iR s=true):km s.first=true/\1<=s.threads.length/\s.threads.length<=8/\s.zW.length<=4000/\(∀l∈s.threads,l.length<=16/\∀o∈l,1<=o.kind/\o.kind<=6)/\∀n∈s.zW,0<=n:=by
 unfold iR at h;simp only[gC,gM,pJ,pd]at h;obtain⟨⟨⟨⟨⟨h1,h2⟩,h3⟩,h4⟩,h5⟩,h6⟩:=h;refine⟨h1,h2,h3,h4,λl hl=>?_,λn hn=>?_⟩
 ·have q:=h5 l hl;unfold AW at q;simp only[Bool.not_eq_true,pD,pn,pd]at q;refine⟨aw,λo ho=>?_⟩;have:=q.2 o ho;unfold BF at this;exact de
 ·have:=h6 n hn;unfold EB at this;exact de
def KJ(s:fy)(hs:GQ s)(hc:km s.first=true->xn s.first)(ho:∀l∈s.threads,∀o∈l,xZ o.config)(hn:iR s=true->∀x∈xr s,x.length<4000000000000000000):tn 17 [] [EC s] (.fb [Cw (qC s).1,I (qC s).2]) []:=by
 have m1:(s.threads.map x4).length=s.threads.length:=gp ..;refine ab func17 ?_;refine ah (RO s hs) ?_;refine⟨λh1=>?_,λh1=>?_⟩
 rotate_left
 ·rw[show qC s=(B6,1) from gf aD];refine dd ?_;refine tc ?_
  exact cY
 obtain⟨p1,p2,p3,p4,p5,p6⟩:=xI h1;have sc:=hc p1;have er:(qg s.first).1=0:=by simpa [km] using p1
 refine dd ?_;refine tc ?_
 refine ah (yB s.first sc.k) ?_;have eb:(zT s.first).2.1=0:=(vU s.first).trans er;have en:qC s=i7 (zT s.first).1 (xr s) s.threads.length:=gk h1;have wn:GP s:=⟨p1,p3,λl hl=>(p5 l hl).1,ho⟩
 have nl:(xr s).length<1000000000:=by
  have a:=Fv [] (wG p1)
  have b:=DR wa 64 s.threads (kT [] s.first) λl hl o=>by
   have hl2:=(p5 l hl).1;exact HX o hl2
  have c:xr s=s.threads.foldl wa (kT [] s.first):=rfl;rw[c];simp at a;omega
 have nw:=Wj (zT s.first).1 (xr s) s.threads.length (E5 sc) ⟨nl,hn h1⟩;refine⟨λh=>absurd h (by rw[eb];decide),λ_=>dd ?_⟩;refine uE ?_;refine ah (S1 s wn) ?_;rw[m1];refine ah nw ?_;rw[en];exact uI
end Go.Wor
