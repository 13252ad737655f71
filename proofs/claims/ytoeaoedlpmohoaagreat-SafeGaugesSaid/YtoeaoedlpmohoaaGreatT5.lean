import Derived.Test.YtoeaoedlpmohoaaGreatTZ
import Derived.Test.YtoeaoedlpmohoaaGreatTU
import Derived.Test.YtoeaoedlpmohoaaGreatTI
set_option linter.all false
set_option maxRecDepth 100000
set_option maxHeartbeats 4000000
namespace Go.Wor
open Go.Ab Go.Proofs Tryz Go.Gat Go.Nam Go.Hos Go.Con Go.Sna Go.Pla
open Go.Hy hiding encI
abbrev EL(s:fR):C:=.agg (wi s)
def AG(c:ia):Bool:=(jn c).1 == 0
def BU(o:fJ):Bool:=decide (o.kind<1) || decide (6<o.kind)
def Br(l:List fJ):Bool:=decide (16<l.length) || l.any BU
def EP(n:Int):Bool:=decide (n<0)
def lh(s:fR):Bool:=AG s.first && decide (1<=s.threads.length) && decide (s.threads.length<=8) && decide (s.zQ.length<=4000) && !s.threads.any Br && !s.zQ.any EP
structure G9(s:fR):Prop where
 first:ye s.first
 threads:s.threads.length<4000000000000000000
 ops:∀l∈s.threads,l.length<4000000000000000000
 zQ:s.zQ.length<4000000000000000000
def Ll(c:ia)(hc:ye c):tj 77 [] [Cf c] (Bo (AG c)) []:=by
 refine ab func77 ?_;refine ah (Hu c hc) ?_;refine⟨λh=>?_,λh=>?_⟩
 ·refine dd ?_
  (exact⟨.inl J,_,.refl _,uN (by exact h.symm)⟩)
 ·refine dd ?_
  (exact⟨.inl J,_,.refl _,uN (by exact h.symm)⟩)
abbrev Ko(o:fJ):C:=.agg (i7 o)
def TX{H:zm}{f:FuncId}{caps:List C}{l:List fJ}(p:fJ->Bool)(hcb:qp prog f=true)(hp:∀r∈l,tj f H ([Ko r]++caps) (Bo (p r)) H)(hl:l.length<4611686018427387904):
  tj 108 H [lP l,.fn f [] caps] (I (match l.findIdx? p with|some i=>(i:Int)|none=> -1)) H:=by
 refine zb.zL (fn:=f108) func108 J (uH ?_)
 refine qe.inv (λn t1 H1=>∃k,k+n=l.length/\H1=H/\(∀j,j<k->∀r,l[j]?=some r->p r=false)/\
   t1=((lP l)::.fn f [] caps::.za::.za::I 0::.za::.za::I (l.map i7).length::I k::tZ ([.za,.za]))) l.length ?_ ?_
 ·exact c8
 rintro n _ _ ⟨k,hk,rfl,hno,rfl⟩;conv=>whnf
 refine⟨λh=>?_,λh=>?_⟩
 ·conv=>whnf
  have fj:k<l.length:=aq h
  refine⟨aw,i7 l[k],aX,uH ?_⟩;rw[hcb];refine⟨_,_,hp _ (gU fj),uH ?_⟩;refine⟨λh2=>?_,λh2=>?_⟩
  ·conv=>whnf
   refine .inr ⟨aj,uH ?_⟩;refine⟨.inl J,_,.refl _,rfl,?_⟩
   have:l.findIdx? p=some k:=by
    rw[gK];refine⟨fj,h2,λj hj=>?_⟩;simp[hno j hj _ (dX aw)]
   rw[this]
   rfl
  ·conv=>whnf
   refine .inl ⟨rfl,n-1,_,_,aw,zq.mask [0,1,4,7,8] _ _,k+1,aw,rfl,?_,?_⟩
   ·intro j hj r hr;by_cases hjk:j=k
    ·subst hjk;rw[dX fj]at hr;cases hr
     exact h2
    ·exact hno j aw r hr
   ·rw[zw aw];rfl
 ·conv=>whnf
  refine .inr ⟨aj,uH ?_⟩;refine⟨.inl J,_,.refl _,rfl,?_⟩
  have:l.findIdx? p=none:=by
   rw[gS];intro x hx;obtain⟨j,hj⟩:=gE.1 hx;have hjl:=(dW.1 hj).1;have:¬k<l.length:=aq h
   exact hno j aw x hj
  rw[this]
  rfl
def T6{H:zm}{f:FuncId}{caps:List C}{l:List fJ}(p:fJ->Bool)(hcb:qp prog f=true)(hp:∀r∈l,tj f H ([Ko r]++caps) (Bo (p r)) H)(hl:l.length<4611686018427387904):
  tj 78 H [lP l,.fn f [] caps] (Bo (l.any p)) H:=by
 refine zb.zL (fn:=f78) func78 J (uH ?_);refine⟨_,_,TX p hcb hp hl,dd ?_⟩;rw[show decide ((match l.findIdx? p with|some i=>((i:Nat):Int)|none=>(-1:Int))≥(0:Int))=l.any p from D6 l p];refine⟨λh=>?_,λh=>?_⟩ <;> rw[h]
 ·exact dj
 ·exact dj
def Uy(o:fJ):tj 79 [] [Ko o] (Bo (BU o)) []:=by
 refine ab func79 ?_;refine⟨λh1=>?_,λh1=>?_⟩
 ·refine dd ?_;refine hZ ?_
  (exact⟨.inl J,_,.refl _,uN (by unfold BU;rw[h1];rfl)⟩)
 ·refine dd ?_;refine⟨λh2=>?_,λh2=>?_⟩
  ·refine dd ?_
   (exact⟨.inl J,_,.refl _,uN (by unfold BU;rw[h1];simp at h2;simp[h2])⟩)
  ·refine dd ?_
   (exact⟨.inl J,_,.refl _,uN (by unfold BU;rw[h1];simp at h2;simp;omega)⟩)
def Uz(n:Int):tj 81 [] [I n] (Bo (EP n)) []:=by
 refine ab func81 ?_;refine⟨λh1=>?_,λh1=>?_⟩
 ·refine dd ?_
  (exact⟨.inl J,_,.refl _,uN (by exact h1.symm)⟩)
 ·refine dd ?_
  (exact⟨.inl J,_,.refl _,uN (by exact h1.symm)⟩)
def Rn(s:fR)(hs:G9 s):tj 55 [] [EL s] (Bo (lh s)) []:=by
 have m1:(s.threads.map vJ).length=s.threads.length:=gu ..;have m2:(s.zQ.map Go.Hy.encI).length=s.zQ.length:=gu ..;have b1:=hs.threads;have b2:=hs.zQ;have hcon:=Go.Wor.Ma (H:=[]) (f:=81) (l:=s.zQ) (caps:=[]) EP au (λr _=>Uz r) aw;refine ab func55 ?_;refine ah (Ll s.first hs.first) ?_;refine⟨λh1=>?_,λh1=>?_⟩
 rotate_left
 ·(rw[show lh s=false from by (unfold lh;rw[h1];rfl)]);exact cU
 refine dd ?_;rw[m1];refine⟨λh2=>?_,λh2=>?_⟩
 ·(rw[show lh s=false from by (unfold lh;rw[rC (show ¬1<=s.threads.length by simp at h2;omega)];simp)]);exact cU
 have h2:1<=s.threads.length:=aY
 refine dd ?_;rw[m1];refine⟨λh3=>?_,λh3=>?_⟩
 ·(rw[show lh s=false from by (unfold lh;rw[rC (show ¬s.threads.length<=8 by simp at h3;omega)];simp)]);exact cU
 have h3:s.threads.length<=8:=by simp at h3;omega
 refine dd ?_;rw[m2];refine⟨λh4=>?_,λh4=>?_⟩
 ·(rw[show lh s=false from by (unfold lh;rw[rC (show ¬s.zQ.length<=4000 by simp at h4;omega)];simp)]);exact cU
 have h4:s.zQ.length<=4000:=by simp at h4;omega
 have e1:lh s=(!s.threads.any Br && !s.zQ.any EP):=by
  unfold lh;rw[h1,rY h2,rY h3,rY h4]
  rfl
 refine dd ?_;refine hZ ?_
 rw[m1];refine qe.seq s.threads.length (λk=>(.za::.ref 0 [] 5 0 0::Bo false::tZ (tZ (tZ (.za::(Dt s.threads)::I s.threads.length::I k::tZ ([.za,.za,.za,.za,.za,.za,.za])))))) (λk=>[oS s]) (λk=>∀j,(h:j<s.threads.length)->j<k->Br s.threads[j]=false) ?_ aj (λk hk hr=>?_) (λhr=>?_)
 ·exact cC
 ·obtain⟨x,hx⟩:∃x,x=s.threads[k]:=⟨_,rfl⟩;have hxm:x∈s.threads:=by rw[hx];exact gU hk
  have hg:(s.threads.map vJ)[k]?=some (vJ x):=by rw[gf,dX hk,hx];rfl
  have m3:(x.map i7).length=x.length:=gu ..;have bx:=hs.ops x hxm;have hcx:=T6 (H:=[]) (f:=79) (l:=x) (caps:=[]) BU au (λr _=>Uy r) aw
  have bad:Br x=true->lh s=false:=λh=>by
   rw[e1,p9.2 ⟨x,hxm,h⟩];rfl
  conv=>whnf
  refine uF ?_;(refine tc hg ?_)
  rw[m3];refine⟨λc1=>?_,λc1=>?_⟩
  ·rw[bad (by unfold Br;rw[rY (show 16<x.length by simp at c1;omega)];rfl)];refine dd ?_;refine hZ ?_
   (refine .inr ⟨aj,uH ?_⟩)
   exact uI
  have eT:Br x=x.any BU:=by unfold Br;rw[rC (by simp at c1;omega)];rfl
  refine dd ?_;refine ah hcx ?_;refine⟨λc2=>?_,λc2=>?_⟩
  ·rw[bad (by rw[eT,c2])];refine dd ?_;refine hZ ?_
   (refine .inr ⟨aj,uH ?_⟩)
   exact uI
  ·refine dd ?_;refine hZ ?_
   refine .inl ⟨rfl,?_,λi hi hij=>?_⟩
   ·exact dD
   ·by_cases e:i=k
    ·subst e;rw[<-hx,eT,c2]
    ·exact hr i hi aw
 ·have h5:s.threads.any Br=false:=by
   rw[pC];intro x hx;obtain⟨i,hi,rfl⟩:=pM.1 hx;simp[hr i hi hi]
  rw[e1,h5];refine uD ?_;refine ah hcon ?_;refine⟨λq=>?_,λq=>?_⟩
  all_goals
   rw[q];refine dd ?_;refine hZ ?_
   exact uI
def vY(out:List ft)(n:ft):List ft:=if (out.any λx=>x == n)=true then out else out++[n]
def wW(out:List ft)(c:ia):List ft:=c.ze.foldl vY out
def Cy(o:fJ):Bool:=decide (o.kind=3) && AG o.config
def lW(out:List ft)(o:fJ):List ft:=if Cy o=true then wW out o.config else out
def wu(out:List ft)(l:List fJ):List ft:=l.foldl lW out
def yk(s:fR):List ft:=s.threads.foldl wu (wW [] s.first)
def wS{c:ia}(h:AG c=true):c.ze.length<=4:=by
 have h:(jn c).1=0:=by simpa [AG] using h
 unfold jn at h;split at h
 ·rename_i q;exact absurd h q
 ·rename_i q;have q:(vx c).1=0:=Decidable.of_not_not q;unfold vx at q;split at q
  ·exact absurd (show(6:Int)=0 from q) ar
  ·rename_i z;simp at z;omega
def IC(out:List ft)(n:ft):(vY out n).length<=out.length+1:=by
 unfold vY;split
 ·omega
 ·simp
def D1{α β:Type}(f:List β->α->List β)(k:Nat):∀(l:List α) (out:List β),(∀x∈l,∀o:List β,(f o x).length<=o.length+k)->(l.foldl f out).length<=out.length+k*l.length
 |[],out,_=>by simp
 |x::l,out,h=>by
  have h1:=h x (pT ..) out;have h2:=D1 f k l (f out x) λy hy o=>h y (pP _ hy) o
  rw[ec,rk,Nat.mul_add];omega
def FN(out:List ft){c:ia}(h:c.ze.length<=4):(wW out c).length<=out.length+4:=by
 have:=D1 vY 1 c.ze out λn _ o=>IC o n
 unfold wW;omega
def Nv(out:List ft)(o:fJ):(lW out o).length<=out.length+4:=by
 unfold lW;split
 ·rename_i h;unfold Cy at h;simp only[gA]at h;exact FN out (wS h.2)
 ·omega
def Il(out:List ft){l:List fJ}(h:l.length<=16):(wu out l).length<=out.length+64:=by
 have:=D1 lW 4 l out λo _ x=>Nv x o
 unfold wu;omega
def Fc{α β:Type}(f:β->α->β)(b:β)(l:List α){k:Nat}(h:k<l.length):(l.take (k+1)).foldl f b=f ((l.take k).foldl f b) l[k]:=by
 rw[pS h,sN]
 rfl
def Rg(s:fR)(X Y:Ob):tj 89 [X,Y] [EL s] (.fn 124 [] [.ref 2 [] 5 0 0]) [X,Y,oS s]:=by
 refine zb.zL (fn:=f89) func89 J (uH ?_);exact uJ
structure G8(s:fR):Prop where
 first:AG s.first=true
 threads:s.threads.length<=8
 ops:∀l∈s.threads,l.length<=16
 cfg:∀l∈s.threads,∀o∈l,ye o.config
def Rb(s:fR)(hs:G8 s)(l:Nat)(rec:Ob)(hrec:zX 5 [rec]=true)
 (hy0:∀(out:List ft) (c:ia),out.length<=600->c.ze.length<=4->jI prog l ([oS s,⟨1,22,1,[[.gl 3 1 ((out).map qw)]],0⟩,oS s,⟨4,9,1,(out).map qw,0⟩,rec]) [Cf c] (Bo true) ([oS s,⟨1,22,1,[[.gl 3 1 ((wW out c).map qw)]],0⟩,oS s,⟨4,9,1,(wW out c).map qw,0⟩,rec]))
 (hy1:∀(out:List ft) (c:ia) (o:fJ),out.length<=600->c.ze.length<=4->jI prog l ([oS s,⟨1,22,1,[[.gl 3 1 ((out).map qw)]],0⟩,oS s,⟨4,9,1,(out).map qw,0⟩,rec]++[⟨1,57,10,[i7 (o)],0⟩]) [Cf c] (Bo true) ([oS s,⟨1,22,1,[[.gl 3 1 ((wW out c).map qw)]],0⟩,oS s,⟨4,9,1,(wW out c).map qw,0⟩,rec]++[⟨1,57,10,[i7 (o)],0⟩])):
  tj 124 ([oS s,⟨1,22,1,[[.gl 3 1 (([]).map qw)]],0⟩,oS s,⟨4,9,1,([]).map qw,0⟩,rec]) [.v (.func (.yield l) #[] #[]),.ref 2 [] 5 0 0] (.fq []) ([oS s,⟨1,22,1,[[.gl 3 1 ((yk s).map qw)]],0⟩,oS s,⟨4,9,1,(yk s).map qw,0⟩,rec]):=by
 have m1:(s.threads.map vJ).length=s.threads.length:=gu ..;have b1:=hs.threads;have y0:=hy0 [] s.first ar (wS hs.first);refine zb.zL (fn:=f124) func124 J (uH ?_);refine⟨_,_,y0,dd ?_⟩;refine hZ ?_
 rw[m1];refine qe.seq s.threads.length (λk=>(.v (.func (.yield l) #[] #[])::.ref 2 [] 5 0 0::tZ (.za::.za::.za::(Dt s.threads)::I s.threads.length::I k::tZ (tZ (tZ ([.za,.za])))))) (λk=>[oS s,⟨1,22,1,[[.gl 3 1 (((s.threads.take k).foldl wu (wW [] s.first)).map qw)]],0⟩,oS s,⟨4,9,1,((s.threads.take k).foldl wu (wW [] s.first)).map qw,0⟩,rec]) (λk=>((s.threads.take k).foldl wu (wW [] s.first)).length<=4+64*k) ?_ (by have:=FN [] (wS hs.first);simpa using this) (λk hk hr=>?_) (λhr=>?_)
 ·exact cC
 ·obtain⟨x,hx⟩:∃x,x=s.threads[k]:=⟨_,rfl⟩;have hxm:x∈s.threads:=by rw[hx];exact gU hk
  have hg:(s.threads.map vJ)[k]?=some (vJ x):=by rw[gf,dX hk,hx];rfl
  have m3:(x.map i7).length=x.length:=gu ..;have bx:=hs.ops x hxm;have et:(s.threads.take (k+1)).foldl wu (wW [] s.first)=wu ((s.threads.take k).foldl wu (wW [] s.first)) x:=by rw[Fc _ _ _ hk,hx]
  rw[et];generalize (s.threads.take k).foldl wu (wW [] s.first)=out at hr ⊢;conv=>whnf
  refine uF ?_;(refine tc hg ?_)
  rw[m3];refine qe.seq x.length (λj=>(.v (.func (.yield l) #[] #[])::.ref 2 [] 5 0 0::tZ (.za::.za::.za::(Dt s.threads)::I s.threads.length::I k::.za::.za::.za::(lP x)::I x.length::I j::tZ (tZ ([.za,.za,.za,.za]))))) (λj=>[oS s,⟨1,22,1,[[.gl 3 1 (((x.take j).foldl lW out).map qw)]],0⟩,oS s,⟨4,9,1,((x.take j).foldl lW out).map qw,0⟩,rec]) (λj=>((x.take j).foldl lW out).length<=4+64*k+4*j) ?_ (aq hr) (λj hj hrj=>?_) (λhrj=>?_)
  ·exact cC
  ·obtain⟨o,hxo⟩:∃o,o=x[j]:=⟨_,rfl⟩;have hom:o∈x:=by rw[hxo];exact gU hj
   have hgo:(x.map i7)[j]?=some (i7 o):=by rw[gf,dX hj,hxo];rfl
   have eo:(x.take (j+1)).foldl lW out=lW ((x.take j).foldl lW out) o:=by rw[Fc _ _ _ hj,hxo]
   have ol:=Nv ((x.take j).foldl lW out) o;rw[eo];generalize (x.take j).foldl lW out=out2 at hrj ol ⊢;have skip:Cy o=false->lW out2 o=out2:=λh=>by unfold lW;rw[dZ aH]
   have take:Cy o=true->lW out2 o=wW out2 o.config:=λh=>by unfold lW;rw[gh h]
   conv=>whnf
   refine uF ?_;(refine tc hgo ?_)
   refine⟨λc1=>?_,λc1=>?_⟩
   rotate_left
   ·rw[skip (by unfold Cy;rw[rC (aq c1)];rfl)]at ol ⊢;refine dd ?_;refine hZ ?_
    refine .inl ⟨rfl,?_,aw⟩;rw[zw aw];exact zq.xG 5 hC J J J hrec J
   have c1:o.kind=3:=aq c1
   refine dd ?_;refine ah (Ll o.config (hs.cfg x hxm o hom)) ?_;refine⟨λc2=>?_,λc2=>?_⟩
   rotate_left
   ·rw[skip (by unfold Cy;rw[c2,sy])]at ol ⊢;refine dd ?_;refine hZ ?_
    refine .inl ⟨rfl,?_,aw⟩;rw[zw aw];exact zq.xG 5 hC J J J hrec J
   have y1:=hy1 out2 o.config o aw (wS c2);rw[take (by unfold Cy;rw[c2,rY c1];rfl)]at ol ⊢;refine dd ?_;refine⟨_,_,y1,dd ?_⟩;refine hZ ?_
   refine .inl ⟨rfl,?_,aw⟩;rw[zw aw];exact zq.xG 5 hC J J J hrec J
  ·have e:(x.take x.length).foldl lW out=wu out x:=by rw[gZ];rfl
   have al:=Il out bx;refine uD ?_;rw[e,zw aw];refine .inl ⟨rfl,?_,aw⟩;exact zq.xG 5 hC J J J hrec J
 ·have e:(s.threads.take s.threads.length).foldl wu (wW [] s.first)=yk s:=by rw[gZ];rfl
  refine uD ?_;rw[e];exact cX
abbrev Kw(s:fR):List C:=EL s:: .ref 0 [] 5 0 0:: .fh 1 0 []:: .ref 1 [] 1 0 0:: .un:: .un:: .un:: .agg (wi s):: .fn 124 [] [.ref 2 [] 5 0 0]::List.replicate 18 .un
def SJ(s:fR)(hs:G8 s):tj 58 [] [EL s] (lT (yk s)) []:=by
 refine ab func58 ?_;refine⟨_,_,Rg s _ _,uH ?_⟩;refine⟨_,zq.Bf 1 0 9 1 J J (.inl J) J J,?_⟩;refine⟨.normal,_,[oS s,⟨1,22,1,[[.gl 3 1 ((yk s).map qw)]],0⟩,oS s,⟨4,9,1,(yk s).map qw,0⟩],λl r h1 h2 h3 h4 h5=>⟨_,_,r,Rb s hs l (iy l r (Kw s)) J (λout c ho hc=>?_) (λout c o ho hc=>?_),rfl,aZ,rfl,gV _,ba,zq.low 4 _ _ J J J⟩,?_⟩
 ·have mc:(c.ze.map qw).length=c.ze.length:=gu ..;refine jI.zL (id:=4) J h1 h2 h3 h4 h5 J J J (uH ?_);refine⟨rfl,rfl,uH ?_⟩;rw[mc];refine qe.seq c.ze.length (λk=>(.za::.ref 0 [] 5 0 0::.za::.ref 1 [] 1 0 0::.za::.za::.za::.za::.za::.za::.za::(lT c.ze)::I c.ze.length::I k::tZ ([.za,.za,.za,.za,.za]))) (λk=>let R:=iy l (busy r) (Kw s);[oS s,⟨1,22,1,[[.gl 3 1 (((c.ze.take k).foldl vY out).map qw)]],0⟩,oS s,⟨4,9,1,((c.ze.take k).foldl vY out).map qw,0⟩,R]++[⟨1,26,3,[n8 c],0⟩]) (λk=>((c.ze.take k).foldl vY out).length<=out.length+k) ?_ aj (λk hk hr=>?_) (λhr=>?_)
  ·exact cC
  ·obtain⟨n,hx⟩:∃n,n=c.ze[k]:=⟨_,rfl⟩;have hg:(c.ze.map qw)[k]?=some (qw n):=by rw[gf,dX hk,hx];rfl
   have et:(c.ze.take (k+1)).foldl vY out=vY ((c.ze.take k).foldl vY out) n:=by rw[Fc _ _ _ hk,hx]
   have al:=IC ((c.ze.take k).foldl vY out) n;dsimp only;rw[et];generalize (c.ze.take k).foldl vY out=o2 at hr al ⊢;have ml:(o2.map qw).length=o2.length:=gu ..;conv=>whnf
   refine uF ?_;(refine tc hg ?_)
   refine ah (Fa o2 n aw) ?_;refine⟨λq=>?_,λq=>?_⟩
   ·rw[show vY o2 n=o2 from gh q];refine dd ?_;refine .inl ⟨rfl,?_,aw⟩;rw[zw aw];exact cE 6
   ·have ea:vY o2 n=o2++[n]:=dZ (by simp[q]);rw[ea]at al ⊢;refine dd ?_;refine⟨rfl,.inr J,by rw[ml];simp[maxLen];omega,by rw[ml];show _*16<=_;simp;omega,dd ?_⟩;have eb:o2.map qw++[[Tx n]]=(o2++[n]).map qw:=by simp[qw]
    rw[eb];refine .inl ⟨rfl,?_,aw⟩;rw[zw aw];exact cE 6
  ·have e:(c.ze.take c.ze.length).foldl vY out=wW out c:=by rw[gZ];rfl
   refine uD ?_;rw[e];exact⟨(.za::.ref 0 [] 5 0 0::tZ (tZ (tZ ([.za])))),_,cE 5,rfl,.inl ⟨rfl,rfl,rfl⟩⟩
 ·have mc:(c.ze.map qw).length=c.ze.length:=gu ..;refine jI.zL (id:=4) J h1 h2 h3 h4 h5 J J J (uH ?_);refine⟨rfl,rfl,uH ?_⟩;rw[mc];refine qe.seq c.ze.length (λk=>(.za::.ref 0 [] 5 0 0::.za::.ref 1 [] 1 0 0::.za::.za::.za::.za::.za::.za::.za::(lT c.ze)::I c.ze.length::I k::tZ ([.za,.za,.za,.za,.za]))) (λk=>let R:=iy l (busy r) (Kw s);[oS s,⟨1,22,1,[[.gl 3 1 (((c.ze.take k).foldl vY out).map qw)]],0⟩,oS s,⟨4,9,1,((c.ze.take k).foldl vY out).map qw,0⟩,R]++[⟨1,57,10,[i7 o],0⟩,⟨1,26,3,[n8 c],0⟩]) (λk=>((c.ze.take k).foldl vY out).length<=out.length+k) ?_ aj (λk hk hr=>?_) (λhr=>?_)
  ·exact cC
  ·obtain⟨n,hx⟩:∃n,n=c.ze[k]:=⟨_,rfl⟩;have hg:(c.ze.map qw)[k]?=some (qw n):=by rw[gf,dX hk,hx];rfl
   have et:(c.ze.take (k+1)).foldl vY out=vY ((c.ze.take k).foldl vY out) n:=by rw[Fc _ _ _ hk,hx]
   have al:=IC ((c.ze.take k).foldl vY out) n;dsimp only;rw[et];generalize (c.ze.take k).foldl vY out=o2 at hr al ⊢;have ml:(o2.map qw).length=o2.length:=gu ..;conv=>whnf
   refine uF ?_;(refine tc hg ?_)
   refine ah (Fa o2 n aw) ?_;refine⟨λq=>?_,λq=>?_⟩
   ·rw[show vY o2 n=o2 from gh q];refine dd ?_;refine .inl ⟨rfl,?_,aw⟩;rw[zw aw];exact cE 7
   ·have ea:vY o2 n=o2++[n]:=dZ (by simp[q]);rw[ea]at al ⊢;refine dd ?_;refine⟨rfl,.inr J,by rw[ml];simp[maxLen];omega,by rw[ml];show _*16<=_;simp;omega,dd ?_⟩;have eb:o2.map qw++[[Tx n]]=(o2++[n]).map qw:=by simp[qw]
    rw[eb];refine .inl ⟨rfl,?_,aw⟩;rw[zw aw];exact cE 7
  ·have e:(c.ze.take c.ze.length).foldl vY out=wW out c:=by rw[gZ];rfl
   refine uD ?_;rw[e];exact⟨(.za::.ref 0 [] 5 0 0::tZ (tZ (tZ ([.za])))),_,cE 6,rfl,.inl ⟨rfl,rfl,rfl⟩⟩
 ·conv=>whnf
  exact uI
def qM(s:fR):Wor×Int:=if lh s=true then lx (jJ s.first).1 (yk s) s.threads.length else (Cn,1)
def xE{s:fR}(h:lh s=true):AG s.first=true/\1<=s.threads.length/\s.threads.length<=8/\s.zQ.length<=4000/\(∀l∈s.threads,l.length<=16/\∀o∈l,1<=o.kind/\o.kind<=6)/\∀n∈s.zQ,0<=n:=by
 unfold lh at h;simp only[gA,gH,pJ,pC]at h;obtain⟨⟨⟨⟨⟨h1,h2⟩,h3⟩,h4⟩,h5⟩,h6⟩:=h;refine⟨h1,h2,h3,h4,λl hl=>?_,λn hn=>?_⟩
 ·have q:=h5 l hl;unfold Br at q;simp only[Bool.not_eq_true,pQ,pK,pC]at q;refine⟨aw,λo ho=>?_⟩;have:=q.2 o ho;unfold BU at this;exact cW
 ·have:=h6 n hn;unfold EP at this;exact cW
def KP(s:fR)(hs:G9 s)(hc:AG s.first=true->wV s.first)(ho:∀l∈s.threads,∀o∈l,ye o.config)(hn:lh s=true->∀x∈yk s,x.length<4000000000000000000):tj 30 [] [EL s] (.fq [Cw (qM s).1,I (qM s).2]) []:=by
 have m1:(s.threads.map vJ).length=s.threads.length:=gu ..;refine ab func30 ?_;refine ah (Rn s hs) ?_;refine⟨λh1=>?_,λh1=>?_⟩
 rotate_left
 ·rw[show qM s=(Cn,1) from dZ aD];refine dd ?_;refine hZ ?_
  exact cR
 obtain⟨p1,p2,p3,p4,p5,p6⟩:=xE h1;have sc:=hc p1;have er:(jn s.first).1=0:=by simpa [AG] using p1
 refine dd ?_;refine hZ ?_
 refine ah (HG s.first sc.k) ?_;have eb:(jJ s.first).2.1=0:=(Iq s.first).trans er;have en:qM s=lx (jJ s.first).1 (yk s) s.threads.length:=gh h1;have wn:G8 s:=⟨p1,p3,λl hl=>(p5 l hl).1,ho⟩
 have nl:(yk s).length<1000000000:=by
  have a:=FN [] (wS p1)
  have b:=D1 wu 64 s.threads (wW [] s.first) λl hl o=>by
   have hl2:=(p5 l hl).1;exact Il o hl2
  have c:yk s=s.threads.foldl wu (wW [] s.first):=rfl;rw[c];simp at a;omega
 have nw:=Vn (jJ s.first).1 (yk s) s.threads.length (E7 sc) ⟨nl,hn h1⟩;refine⟨λh=>absurd h (by rw[eb];decide),λ_=>dd ?_⟩;refine uE ?_;refine ah (SJ s wn) ?_;rw[m1];refine ah nw ?_;rw[en];exact uI
end Go.Wor
