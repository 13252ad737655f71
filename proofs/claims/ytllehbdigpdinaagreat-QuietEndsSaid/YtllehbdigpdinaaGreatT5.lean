import Derived.Test.YtllehbdigpdinaaGreatTZ
import Derived.Test.YtllehbdigpdinaaGreatTU
import Derived.Test.YtllehbdigpdinaaGreatTI
set_option linter.all false
set_option maxRecDepth 100000
set_option maxHeartbeats 4000000
namespace Go.Wor
open Go.Ab Go.Proofs Tryz Go.Gat Go.Nam Go.Hos Go.Con Go.Sna Go.Pla
open Go.Hy hiding encI
variable{H:zn}{f:FuncId}{caps:List C}{l:List fQ}{c:iq}
abbrev Gy(s:fU):C:=.agg (w7 s)
def AQ(c:iq):Bool:=(jj c).1 == 0
def CV(o:fQ):Bool:=decide (o.kind<1) || decide (6<o.kind)
def Ci(l:List fQ):Bool:=decide (16<l.length) || l.any CV
def Gx(n:Int):Bool:=decide (n<0)
def lM(s:fU):Bool:=AQ s.first && decide (1<=s.threads.length) && decide (s.threads.length<=8) && decide (s.zJ.length<=4000) && !s.threads.any Ci && !s.zJ.any Gx
structure Jh(s:fU):Prop where
 first:yn s.first
 threads:s.threads.length<4000000000000000000
 ops:∀l∈s.threads,l.length<4000000000000000000
 zJ:s.zJ.length<4000000000000000000
def Pa(c:iq)(hc:yn c):tj 77 [] [Cf c] (Bo (AQ c)) []:=by
 refine ab func77 ?_;refine ah (JU c hc) ?_;refine⟨λh=>?_,λh=>?_⟩
 .refine dd ?_
  (exact⟨.inl V,_,.refl _,uN (by exact h.symm)⟩)
 .refine dd ?_
  (exact⟨.inl V,_,.refl _,uN (by exact h.symm)⟩)
abbrev MU(o:fQ):C:=.agg (yW o)
def Yi(p:fQ->Bool)(hcb:qh prog f=true)(hp:∀r∈l,tj f H ([MU r]++caps) (Bo (p r)) H)(hl:l.length<4611686018427387904):
  tj 119 H [lP l,.fn f [] caps] (I (match l.findIdx? p with|some i=>(i:Int)|none=> -1)) H:=by
 refine zb.zN (fn:=f119) func119 V (uH ?_)
 refine qg.inv (λn t1 H1=>∃k,k+n=l.length/\H1=H/\(∀j,j<k->∀r,l[j]?=some r->p r=false)/\
   t1=((lP l)::.fn f [] caps::.za::.za::I 0::.za::.za::I (l.map yW).length::I k::tY ([.za,.za]))) l.length ?_ ?_
 .exact c9
 rintro n _ _ ⟨k,hk,rfl,hno,rfl⟩;conv=>whnf
 refine⟨λh=>?_,λh=>?_⟩
 .conv=>whnf
  have fE:k<l.length:=aq h
  refine⟨aw,yW l[k],bc,uH ?_⟩;refine za9 ?_;refine⟨λh2=>?_,λh2=>?_⟩
  .conv=>whnf
   refine zal ?_
   have:l.findIdx? p=some k:=by
    rw[gS];refine⟨fE,h2,λj hj=>?_⟩;simp[hno j hj _ (gk aw)]
   rw[this]
   rfl
  .conv=>whnf
   refine .inl ⟨rfl,n-1,_,_,aw,zp.mask [0,1,4,7,8] _ _,k+1,aw,rfl,?_,?_⟩
   .intro j hj r hr;by_cases hjk:j=k
    .subst hjk;rw[gk fE]at hr;cases hr
     exact h2
    .exact dV
   .rw[zw aw];rfl
 .conv=>whnf
  refine zal ?_
  have:l.findIdx? p=none:=by
   rw[gV];intro x hx;obtain⟨j,hj⟩:=gI.1 hx;have hjl:=(gh.1 hj).1;have:¬k<l.length:=aq h
   exact dU
  rw[this]
  rfl
def YS(p:fQ->Bool)(hcb:qh prog f=true)(hp:∀r∈l,tj f H ([MU r]++caps) (Bo (p r)) H)(hl:l.length<4611686018427387904):
  tj 78 H [lP l,.fn f [] caps] (Bo (l.any p)) H:=by
 refine zb.zN (fn:=f78) func78 V (uH ?_);refine⟨_,_,Yi p hcb hp hl,dd ?_⟩;refine zax ?_;refine⟨λh=>?_,λh=>?_⟩ <;> rw[h]
 .exact di
 .exact di
def Zn(o:fQ):tj 79 [] [MU o] (Bo (CV o)) []:=by
 refine ab func79 ?_;refine⟨λh1=>?_,λh1=>?_⟩
 .refine zad ?_
  (exact⟨.inl V,_,.refl _,uN (by unfold CV;rw[h1];rfl)⟩)
 .refine dd ?_;refine⟨λh2=>?_,λh2=>?_⟩
  .refine dd ?_
   (exact⟨.inl V,_,.refl _,uN (by unfold CV;rw[h1];simp at h2;simp[h2])⟩)
  .refine dd ?_
   (exact⟨.inl V,_,.refl _,uN (by unfold CV;rw[h1];simp at h2;simp;omega)⟩)
def Zo(n:Int):tj 80 [] [I n] (Bo (Gx n)) []:=by
 refine ab func80 ?_;refine⟨λh1=>?_,λh1=>?_⟩
 .refine dd ?_
  (exact⟨.inl V,_,.refl _,uN (by exact h1.symm)⟩)
 .refine dd ?_
  (exact⟨.inl V,_,.refl _,uN (by exact h1.symm)⟩)
def Wq(s:fU)(hs:Jh s):tj 41 [] [Gy s] (Bo (lM s)) []:=by
 have m1:(s.threads.map xy).length=s.threads.length:=gC ..;have m2:(s.zJ.map Go.Hy.encI).length=s.zJ.length:=gC ..;have b1:=hs.threads;have b2:=hs.zJ;have hcon:=Go.Wor.J9 (H:=[]) (f:=80) (l:=s.zJ) (caps:=[]) Gx au (λr _=>Zo r) aw;refine ab func41 ?_;refine ah (Pa s.first hs.first) ?_;refine⟨λh1=>?_,λh1=>?_⟩
 rotate_left
 ·(rw[show lM s=false from by (unfold lM;rw[h1];rfl)]);exact c8
 refine dd ?_;rw[m1];refine⟨λh2=>?_,λh2=>?_⟩
 ·(rw[show lM s=false from by (unfold lM;rw[rz (show ¬1<=s.threads.length by simp at h2;omega)];simp)]);exact c8
 have h2:1<=s.threads.length:=bd
 refine dd ?_;rw[m1];refine⟨λh3=>?_,λh3=>?_⟩
 ·(rw[show lM s=false from by (unfold lM;rw[rz (show ¬s.threads.length<=8 by simp at h3;omega)];simp)]);exact c8
 have h3:s.threads.length<=8:=by simp at h3;omega
 refine dd ?_;rw[m2];refine⟨λh4=>?_,λh4=>?_⟩
 ·(rw[show lM s=false from by (unfold lM;rw[rz (show ¬s.zJ.length<=4000 by simp at h4;omega)];simp)]);exact c8
 have h4:s.zJ.length<=4000:=by simp at h4;omega
 have e1:lM s=(!s.threads.any Ci && !s.zJ.any Gx):=by
  unfold lM;rw[h1,rT h2,rT h3,rT h4]
  rfl
 refine zad ?_
 rw[m1];refine qg.seq s.threads.length (λk=>(.za::.ref 0 [] 5 0 0::Bo false::tY (tY (tY (.za::(DB s.threads)::I s.threads.length::I k::tY ([.za,.za,.za,.za,.za,.za,.za])))))) (λk=>[oS s]) (λk=>∀j,(h:j<s.threads.length)->j<k->Ci s.threads[j]=false) ?_ aj (λk hk hr=>?_) (λhr=>?_)
 .exact cC
 .obtain⟨x,hx⟩:∃x,x=s.threads[k]:=⟨_,rfl⟩;have hxm:x∈s.threads:=by rw[hx];exact pt hk
  have hg:(s.threads.map xy)[k]?=some (xy x):=by rw[gy,gk hk,hx];rfl
  have m3:(x.map yW).length=x.length:=gC ..;have bx:=hs.ops x hxm;have hcx:=YS (H:=[]) (f:=79) (l:=x) (caps:=[]) CV au (λr _=>Zn r) aw
  have bad:Ci x=true->lM s=false:=λh=>by
   rw[e1,rh.2 ⟨x,hxm,h⟩];rfl
  conv=>whnf
  refine zan ?_
  rw[m3];refine⟨λc1=>?_,λc1=>?_⟩
  .rw[bad (by unfold Ci;rw[rT (show 16<x.length by simp at c1;omega)];rfl)];refine zad ?_
   refine zaw ?_
   exact uI
  have eT:Ci x=x.any CV:=by unfold Ci;rw[rz (by simp at c1;omega)];rfl
  refine dd ?_;refine ah hcx ?_;refine⟨λc2=>?_,λc2=>?_⟩
  .rw[bad (by rw[eT,c2])];refine zad ?_
   refine zaw ?_
   exact uI
  .refine zad ?_
   refine .inl ⟨rfl,?_,λi hi hij=>?_⟩
   .exact du
   .by_cases e:i=k
    .subst e;rw[<-hx,eT,c2]
    .exact hr i hi aw
 .have h5:s.threads.any Ci=false:=by
   rw[pq];intro x hx;obtain⟨i,hi,rfl⟩:=pJ.1 hx;simp[hr i hi hi]
  rw[e1,h5];refine uD ?_;refine ah hcon ?_;refine⟨λq=>?_,λq=>?_⟩
  all_goals
   rw[q];refine zad ?_
   exact uI
def vY(out:List fK)(n:fK):List fK:=if (out.any λx=>x == n)=true then out else out++[n]
def kP(out:List fK)(c:iq):List fK:=c.zc.foldl vY out
def C3(o:fQ):Bool:=decide (o.kind=3) && AQ o.config
def mw(out:List fK)(o:fQ):List fK:=if C3 o=true then kP out o.config else out
def kJ(out:List fK)(l:List fQ):List fK:=l.foldl mw out
def xt(s:fU):List fK:=s.threads.foldl kJ (kP [] s.first)
theorem wb(h:AQ c=true):c.zc.length<=4:=by
 have h:(jj c).1=0:=by simpa [AQ] using h
 unfold jj at h;split at h
 .rename_i q;exact absurd h q
 .rename_i q;have q:(vV c).1=0:=Decidable.of_not_not q;unfold vV at q;split at q
  .exact absurd (show(6:Int)=0 from q) ar
  .rename_i z;simp at z;omega
def FJ(out:List fK)(n:fK):(vY out n).length<=out.length+1:=by
 grind [vY]
def vu{α β:Type}(f:List β->α->List β)(k:Nat):∀(l:List α) (out:List β),(∀x∈l,∀o:List β,(f o x).length<=o.length+k)->(l.foldl f out).length<=out.length+k*l.length
 |[],out,_=>by simp
 |x::l,out,h=>by
  have h1:=h x (pX ..) out;have h2:=vu f k l (f out x) λy hy o=>h y (pL _ hy) o
  rw[fq,ry,Nat.mul_add];omega
theorem Db(out:List fK)(h:c.zc.length<=4):(kP out c).length<=out.length+4:=by
 have:=vu vY 1 c.zc out λn _ o=>FJ o n
 unfold kP;omega
def HP(out:List fK)(o:fQ):(mw out o).length<=out.length+4:=by
 unfold mw;split
 .rename_i h;unfold C3 at h;simp only[gH]at h;exact Db out (wb h.2)
 .omega
def KE(out:List fK)(h:l.length<=16):(kJ out l).length<=out.length+64:=by
 have:=vu mw 4 l out λo _ x=>HP x o
 unfold kJ;omega
def Hb{α β:Type}(f:β->α->β)(b:β)(l:List α){k:Nat}(h:k<l.length):(l.take (k+1)).foldl f b=f ((l.take k).foldl f b) l[k]:=by
 rw[rj h,eX]
 rfl
def Wm(s:fU)(X Y:Ob):tj 86 [X,Y] [Gy s] (.fn 131 [] [.ref 2 [] 5 0 0]) [X,Y,oS s]:=by
 refine zb.zN (fn:=f86) func86 V (uH ?_);exact uJ
structure Jf(s:fU):Prop where
 first:AQ s.first=true
 threads:s.threads.length<=8
 ops:∀l∈s.threads,l.length<=16
 cfg:∀l∈s.threads,∀o∈l,yn o.config
def V1(s:fU)(hs:Jf s)(l:Nat)(rec:Ob)(hrec:zW 5 [rec]=true)
 (hy0:∀(out:List fK) (c:iq),out.length<=600->c.zc.length<=4->jM prog l ([oS s,⟨1,22,1,[[.gl 3 1 ((out).map qx)]],0⟩,oS s,⟨4,9,1,(out).map qx,0⟩,rec]) [Cf c] (Bo true) ([oS s,⟨1,22,1,[[.gl 3 1 ((kP out c).map qx)]],0⟩,oS s,⟨4,9,1,(kP out c).map qx,0⟩,rec]))
 (hy1:∀(out:List fK) (c:iq) (o:fQ),out.length<=600->c.zc.length<=4->jM prog l ([oS s,⟨1,22,1,[[.gl 3 1 ((out).map qx)]],0⟩,oS s,⟨4,9,1,(out).map qx,0⟩,rec]++[⟨1,58,10,[yW (o)],0⟩]) [Cf c] (Bo true) ([oS s,⟨1,22,1,[[.gl 3 1 ((kP out c).map qx)]],0⟩,oS s,⟨4,9,1,(kP out c).map qx,0⟩,rec]++[⟨1,58,10,[yW (o)],0⟩])):
  tj 131 ([oS s,⟨1,22,1,[[.gl 3 1 (([]).map qx)]],0⟩,oS s,⟨4,9,1,([]).map qx,0⟩,rec]) [.v (.func (.yield l) #[] #[]),.ref 2 [] 5 0 0] (.fJ []) ([oS s,⟨1,22,1,[[.gl 3 1 ((xt s).map qx)]],0⟩,oS s,⟨4,9,1,(xt s).map qx,0⟩,rec]):=by
 have m1:(s.threads.map xy).length=s.threads.length:=gC ..;have b1:=hs.threads;have y0:=hy0 [] s.first ar (wb hs.first);refine zb.zN (fn:=f131) func131 V (uH ?_);refine⟨_,_,y0,dd ?_⟩;refine hZ ?_
 rw[m1];refine qg.seq s.threads.length (λk=>(.v (.func (.yield l) #[] #[])::.ref 2 [] 5 0 0::tY (.za::.za::.za::(DB s.threads)::I s.threads.length::I k::tY (tY (tY ([.za,.za])))))) (λk=>[oS s,⟨1,22,1,[[.gl 3 1 (((s.threads.take k).foldl kJ (kP [] s.first)).map qx)]],0⟩,oS s,⟨4,9,1,((s.threads.take k).foldl kJ (kP [] s.first)).map qx,0⟩,rec]) (λk=>((s.threads.take k).foldl kJ (kP [] s.first)).length<=4+64*k) ?_ (by have:=Db [] (wb hs.first);simpa using this) (λk hk hr=>?_) (λhr=>?_)
 .exact cC
 .obtain⟨x,hx⟩:∃x,x=s.threads[k]:=⟨_,rfl⟩;have hxm:x∈s.threads:=by rw[hx];exact pt hk
  have hg:(s.threads.map xy)[k]?=some (xy x):=by rw[gy,gk hk,hx];rfl
  have m3:(x.map yW).length=x.length:=gC ..;have bx:=hs.ops x hxm;have et:(s.threads.take (k+1)).foldl kJ (kP [] s.first)=kJ ((s.threads.take k).foldl kJ (kP [] s.first)) x:=by rw[Hb _ _ _ hk,hx]
  rw[et];generalize (s.threads.take k).foldl kJ (kP [] s.first)=out at hr|-;conv=>whnf
  refine zan ?_
  rw[m3];refine qg.seq x.length (λj=>(.v (.func (.yield l) #[] #[])::.ref 2 [] 5 0 0::tY (.za::.za::.za::(DB s.threads)::I s.threads.length::I k::.za::.za::.za::(lP x)::I x.length::I j::tY (tY ([.za,.za,.za,.za]))))) (λj=>[oS s,⟨1,22,1,[[.gl 3 1 (((x.take j).foldl mw out).map qx)]],0⟩,oS s,⟨4,9,1,((x.take j).foldl mw out).map qx,0⟩,rec]) (λj=>((x.take j).foldl mw out).length<=4+64*k+4*j) ?_ (aq hr) (λj hj hrj=>?_) (λhrj=>?_)
  .exact cC
  .obtain⟨o,hxo⟩:∃o,o=x[j]:=⟨_,rfl⟩;have hom:o∈x:=by rw[hxo];exact pt hj
   have hgo:(x.map yW)[j]?=some (yW o):=by rw[gy,gk hj,hxo];rfl
   have eo:(x.take (j+1)).foldl mw out=mw ((x.take j).foldl mw out) o:=by rw[Hb _ _ _ hj,hxo]
   have ol:=HP ((x.take j).foldl mw out) o;rw[eo];generalize (x.take j).foldl mw out=out2 at hrj ol|-;have skip:C3 o=false->mw out2 o=out2:=λh=>by unfold mw;rw[gp aH]
   have take:C3 o=true->mw out2 o=kP out2 o.config:=λh=>by unfold mw;rw[gz h]
   conv=>whnf
   refine uF ?_;(refine tc hgo ?_)
   refine⟨λc1=>?_,λc1=>?_⟩
   rotate_left
   .rw[skip (by unfold C3;rw[rz (aq c1)];rfl)]at ol|-;refine zad ?_
    exact zbb
   have c1:o.kind=3:=aq c1
   refine dd ?_;refine ah (Pa o.config (hs.cfg x hxm o hom)) ?_;refine⟨λc2=>?_,λc2=>?_⟩
   rotate_left
   .rw[skip (by unfold C3;rw[c2,sJ])]at ol|-;refine zad ?_
    exact zbb
   have y1:=hy1 out2 o.config o aw (wb c2);rw[take (by unfold C3;rw[c2,rT c1];rfl)]at ol|-;refine dd ?_;refine⟨_,_,y1,dd ?_⟩;refine hZ ?_
   exact zbb
  .have e:(x.take x.length).foldl mw out=kJ out x:=by rw[pI];rfl
   have al:=KE out bx;refine uD ?_;rw[e,zw aw];refine .inl ⟨rfl,?_,aw⟩;exact zp.xO 5 hC V V V hrec V
 .have e:(s.threads.take s.threads.length).foldl kJ (kP [] s.first)=xt s:=by rw[pI];rfl
  refine uD ?_;rw[e];exact de
abbrev JF(s:fU):List C:=Gy s:: .ref 0 [] 5 0 0:: .fF 1 0 []:: .ref 1 [] 1 0 0:: .un:: .un:: .un:: .agg (w7 s):: .fn 131 [] [.ref 2 [] 5 0 0]::List.replicate 18 .un
def Xk(s:fU)(hs:Jf s):tj 44 [] [Gy s] (lT (xt s)) []:=by
 refine ab func44 ?_;refine⟨_,_,Wm s _ _,uH ?_⟩;refine⟨_,zp.B7 1 0 9 1 V V (.inl V) V V,?_⟩;refine⟨.normal,_,[oS s,⟨1,22,1,[[.gl 3 1 ((xt s).map qx)]],0⟩,oS s,⟨4,9,1,(xt s).map qx,0⟩],λl r h1 h2 h3 h4 h5=>⟨_,_,r,V1 s hs l (iN l r (JF s)) V (λout c ho hc=>?_) (λout c o ho hc=>?_),rfl,bf,rfl,pa _,bh,zp.low 4 _ _ V V V⟩,?_⟩
 .have mc:(c.zc.map qx).length=c.zc.length:=gC ..;refine jM.zN (id:=4) V h1 h2 h3 h4 h5 V V V (uH ?_);refine⟨rfl,rfl,uH ?_⟩;rw[mc];refine qg.seq c.zc.length (λk=>(.za::.ref 0 [] 5 0 0::.za::.ref 1 [] 1 0 0::.za::.za::.za::.za::.za::.za::.za::(lT c.zc)::I c.zc.length::I k::tY ([.za,.za,.za,.za,.za]))) (λk=>let R:=iN l (busy r) (JF s);[oS s,⟨1,22,1,[[.gl 3 1 (((c.zc.take k).foldl vY out).map qx)]],0⟩,oS s,⟨4,9,1,((c.zc.take k).foldl vY out).map qx,0⟩,R]++[⟨1,26,3,[Ae c],0⟩]) (λk=>((c.zc.take k).foldl vY out).length<=out.length+k) ?_ aj (λk hk hr=>?_) (λhr=>?_)
  .exact cC
  .obtain⟨n,hx⟩:∃n,n=c.zc[k]:=⟨_,rfl⟩;have hg:(c.zc.map qx)[k]?=some (qx n):=by rw[gy,gk hk,hx];rfl
   have et:(c.zc.take (k+1)).foldl vY out=vY ((c.zc.take k).foldl vY out) n:=by rw[Hb _ _ _ hk,hx]
   have al:=FJ ((c.zc.take k).foldl vY out) n;dsimp only;rw[et];generalize (c.zc.take k).foldl vY out=o2 at hr al|-;have ml:(o2.map qx).length=o2.length:=gC ..;conv=>whnf
   refine zan ?_
   refine ah (G8 o2 n aw) ?_;refine⟨λq=>?_,λq=>?_⟩
   .rw[show vY o2 n=o2 from gz q];refine dd ?_;refine .inl ⟨rfl,?_,aw⟩;rw[zw aw];exact cE 6
   .have ea:vY o2 n=o2++[n]:=gp (by simp[q]);rw[ea]at al|-;refine dd ?_;refine⟨rfl,.inr V,by rw[ml];simp[maxLen];omega,by rw[ml];show _*16<=_;simp;omega,dd ?_⟩;have eb:o2.map qx++[[Tx n]]=(o2++[n]).map qx:=by simp[qx]
    rw[eb];refine .inl ⟨rfl,?_,aw⟩;rw[zw aw];exact cE 6
  .have e:(c.zc.take c.zc.length).foldl vY out=kP out c:=by rw[pI];rfl
   refine uD ?_;rw[e];exact⟨(.za::.ref 0 [] 5 0 0::tY (tY (tY ([.za])))),_,cE 5,rfl,.inl ⟨rfl,rfl,rfl⟩⟩
 .have mc:(c.zc.map qx).length=c.zc.length:=gC ..;refine jM.zN (id:=4) V h1 h2 h3 h4 h5 V V V (uH ?_);refine⟨rfl,rfl,uH ?_⟩;rw[mc];refine qg.seq c.zc.length (λk=>(.za::.ref 0 [] 5 0 0::.za::.ref 1 [] 1 0 0::.za::.za::.za::.za::.za::.za::.za::(lT c.zc)::I c.zc.length::I k::tY ([.za,.za,.za,.za,.za]))) (λk=>let R:=iN l (busy r) (JF s);[oS s,⟨1,22,1,[[.gl 3 1 (((c.zc.take k).foldl vY out).map qx)]],0⟩,oS s,⟨4,9,1,((c.zc.take k).foldl vY out).map qx,0⟩,R]++[⟨1,58,10,[yW o],0⟩,⟨1,26,3,[Ae c],0⟩]) (λk=>((c.zc.take k).foldl vY out).length<=out.length+k) ?_ aj (λk hk hr=>?_) (λhr=>?_)
  .exact cC
  .obtain⟨n,hx⟩:∃n,n=c.zc[k]:=⟨_,rfl⟩;have hg:(c.zc.map qx)[k]?=some (qx n):=by rw[gy,gk hk,hx];rfl
   have et:(c.zc.take (k+1)).foldl vY out=vY ((c.zc.take k).foldl vY out) n:=by rw[Hb _ _ _ hk,hx]
   have al:=FJ ((c.zc.take k).foldl vY out) n;dsimp only;rw[et];generalize (c.zc.take k).foldl vY out=o2 at hr al|-;have ml:(o2.map qx).length=o2.length:=gC ..;conv=>whnf
   refine zan ?_
   refine ah (G8 o2 n aw) ?_;refine⟨λq=>?_,λq=>?_⟩
   .rw[show vY o2 n=o2 from gz q];refine dd ?_;refine .inl ⟨rfl,?_,aw⟩;rw[zw aw];exact cE 7
   .have ea:vY o2 n=o2++[n]:=gp (by simp[q]);rw[ea]at al|-;refine dd ?_;refine⟨rfl,.inr V,by rw[ml];simp[maxLen];omega,by rw[ml];show _*16<=_;simp;omega,dd ?_⟩;have eb:o2.map qx++[[Tx n]]=(o2++[n]).map qx:=by simp[qx]
    rw[eb];refine .inl ⟨rfl,?_,aw⟩;rw[zw aw];exact cE 7
  .have e:(c.zc.take c.zc.length).foldl vY out=kP out c:=by rw[pI];rfl
   refine uD ?_;rw[e];exact⟨(.za::.ref 0 [] 5 0 0::tY (tY (tY ([.za])))),_,cE 6,rfl,.inl ⟨rfl,rfl,rfl⟩⟩
 .conv=>whnf
  exact uI
def qm(s:fU):Wor×Int:=if lM s=true then lx (jN s.first).1 (xt s) s.threads.length else (ot,1)
def jF{s:fU}(h:lM s=true):AQ s.first=true/\1<=s.threads.length/\s.threads.length<=8/\s.zJ.length<=4000/\(∀l∈s.threads,l.length<=16/\∀o∈l,1<=o.kind/\o.kind<=6)/\∀n∈s.zJ,0<=n:=by
 unfold lM at h;simp only[gH,gR,pK,pq]at h;obtain⟨⟨⟨⟨⟨h1,h2⟩,h3⟩,h4⟩,h5⟩,h6⟩:=h;refine⟨h1,h2,h3,h4,λl hl=>?_,λn hn=>?_⟩
 .have q:=h5 l hl;unfold Ci at q;simp only[ff,pU,pY,pq]at q;refine⟨aw,λo ho=>?_⟩;have:=q.2 o ho;unfold CV at this;exact dc
 .have:=h6 n hn;unfold Gx at this;exact dc
def N9(s:fU)(hs:Jh s)(hc:AQ s.first=true->ka s.first)(ho:∀l∈s.threads,∀o∈l,yn o.config)(hn:lM s=true->∀x∈xt s,x.length<4000000000000000000):tj 17 [] [Gy s] (.fJ [Cw (qm s).1,I (qm s).2]) []:=by
 have m1:(s.threads.map xy).length=s.threads.length:=gC ..;refine ab func17 ?_;refine ah (Wq s hs) ?_;refine⟨λh1=>?_,λh1=>?_⟩
 rotate_left
 .rw[show qm s=(ot,1) from gp aD];refine zad ?_
  exact cX
 obtain⟨p1,p2,p3,p4,p5,p6⟩:=jF h1;have sc:=hc p1;have er:(jj s.first).1=0:=by simpa [AQ] using p1
 refine zad ?_
 refine ah (JT s.first sc.k) ?_;have eb:(jN s.first).2.1=0:=(KH s.first).trans er;have en:qm s=lx (jN s.first).1 (xt s) s.threads.length:=gz h1;have wn:Jf s:=⟨p1,p3,λl hl=>(p5 l hl).1,ho⟩
 have nl:(xt s).length<1000000000:=by
  have a:=Db [] (wb p1)
  have b:=vu kJ 64 s.threads (kP [] s.first) λl hl o=>by
   have hl2:=(p5 l hl).1;exact KE o hl2
  have c:xt s=s.threads.foldl kJ (kP [] s.first):=rfl;rw[c];simp at a;omega
 have nw:=ztB (jN s.first).1 (xt s) s.threads.length (G7 sc) ⟨nl,hn h1⟩;refine⟨λh=>absurd h (by rw[eb];decide),λ_=>dd ?_⟩;refine uE ?_;refine ah (Xk s wn) ?_;rw[m1];refine ah nw ?_;rw[en];exact uI
end Go.Wor
