import Derived.Test.YtoeaoedlpmohoaaGreatRZ
import Derived.Test.YtoeaoedlpmohoaaGreatRU
import Derived.Test.YtoeaoedlpmohoaaGreatRI
set_option linter.all false
set_option maxRecDepth 100000
set_option maxHeartbeats 4000000
namespace Go.Wor
open Go.Ab Go.Proofs Tryz Go.Gat Go.Nam Go.Hos Go.Con Go.Sna Go.Pla
open Go.Hy hiding encI
abbrev Es(s:fW):C:=.agg (qi s)
def o8(c:ib):Bool:=(qO c).1 == 0
def BA(o:fG):Bool:=decide (o.kind<1) || decide (6<o.kind)
def AP(l:List fG):Bool:=decide (16<l.length) || l.any BA
def ED(n:Int):Bool:=decide (n<0)
def i5(s:fW):Bool:=o8 s.first && decide (1<=s.threads.length) && decide (s.threads.length<=8) && decide (s.zW.length<=4000) && !s.threads.any AP && !s.zW.any ED
structure GS(s:fW):Prop where
 first:x4 s.first
 threads:s.threads.length<4000000000000000000
 ops:∀l∈s.threads,l.length<4000000000000000000
 zW:s.zW.length<4000000000000000000
def Lo(c:ib)(hc:x4 c):tn 77 [] [Cf c] (Bo (o8 c)) []:=by
 refine ab func77 ?_;refine ah (G9 c hc) ?_;refine⟨λh=>?_,λh=>?_⟩
 ·refine dd ?_
  (exact⟨.inl rfl,_,.refl _,uN (by exact h.symm)⟩)
 ·refine dd ?_
  (exact⟨.inl rfl,_,.refl _,uN (by exact h.symm)⟩)
abbrev J0(o:fG):C:=.agg (vq o)
def Um{H:zl}{f:FuncId}{caps:List C}{l:List fG}(p:fG->Bool)(hcb:qm prog f=true)(hp:∀r∈l,tn f H ([J0 r]++caps) (Bo (p r)) H)(hl:l.length<4611686018427387904):
  tn 108 H [lP l,.fn f [] caps] (I (match l.findIdx? p with|some i=>(i:Int)|none=> -1)) H:=by
 refine zb.zI (fn:=f108) func108 rfl (uH ?_)
 refine zZ.inv (λn t1 H1=>∃k,k+n=l.length/\H1=H/\(∀j,j<k->∀r,l[j]?=some r->p r=false)/\
   t1=((lP l)::.fn f [] caps::.za::.za::I 0::.za::.za::I (l.map vq).length::I k::mC ([.za,.za]))) l.length ?_ ?_
 ·exact dc
 rintro n _ _ ⟨k,hk,rfl,hno,rfl⟩;conv=>whnf
 refine⟨λh=>?_,λh=>?_⟩
 ·conv=>whnf
  have ft:k<l.length:=aq h
  refine⟨aw,vq l[k],aX,uH ?_⟩;rw[hcb];refine⟨_,_,hp _ (gZ ft),uH ?_⟩;refine⟨λh2=>?_,λh2=>?_⟩
  ·conv=>whnf
   refine .inr ⟨aj,uH ?_⟩;refine⟨.inl rfl,_,.refl _,rfl,?_⟩
   have:l.findIdx? p=some k:=by
    rw[gR];refine⟨ft,h2,λj hj=>?_⟩;simp[hno j hj _ (gp aw)]
   rw[this]
   rfl
  ·conv=>whnf
   refine .inl ⟨rfl,n-1,_,_,aw,zp.mask [0,1,4,7,8] _ _,k+1,aw,rfl,?_,?_⟩
   ·intro j hj r hr;by_cases hjk:j=k
    ·subst hjk;rw[gp ft]at hr;cases hr
     exact h2
    ·exact hno j aw r hr
   ·rw[zw aw];rfl
 ·conv=>whnf
  refine .inr ⟨aj,uH ?_⟩;refine⟨.inl rfl,_,.refl _,rfl,?_⟩
  have:l.findIdx? p=none:=by
   rw[gX];intro x hx;obtain⟨j,hj⟩:=gW.1 hx;have hjl:=(gm.1 hj).1;have:¬k<l.length:=aq h
   exact hno j aw x hj
  rw[this]
  rfl
def Te{H:zl}{f:FuncId}{caps:List C}{l:List fG}(p:fG->Bool)(hcb:qm prog f=true)(hp:∀r∈l,tn f H ([J0 r]++caps) (Bo (p r)) H)(hl:l.length<4611686018427387904):
  tn 78 H [lP l,.fn f [] caps] (Bo (l.any p)) H:=by
 refine zb.zI (fn:=f78) func78 rfl (uH ?_);refine⟨_,_,Um p hcb hp hl,dd ?_⟩;rw[show decide ((match l.findIdx? p with|some i=>((i:Nat):Int)|none=>(-1:Int))≥(0:Int))=l.any p from BK l p];refine⟨λh=>?_,λh=>?_⟩ <;> rw[h]
 ·exact dt
 ·exact dt
def TT(o:fG):tn 79 [] [J0 o] (Bo (BA o)) []:=by
 refine ab func79 ?_;refine⟨λh1=>?_,λh1=>?_⟩
 ·refine dd ?_;refine tc ?_
  (exact⟨.inl rfl,_,.refl _,uN (by unfold BA;rw[h1];rfl)⟩)
 ·refine dd ?_;refine⟨λh2=>?_,λh2=>?_⟩
  ·refine dd ?_
   (exact⟨.inl rfl,_,.refl _,uN (by unfold BA;rw[h1];simp at h2;simp[h2])⟩)
  ·refine dd ?_
   (exact⟨.inl rfl,_,.refl _,uN (by unfold BA;rw[h1];simp at h2;simp;omega)⟩)
def TU(n:Int):tn 81 [] [I n] (Bo (ED n)) []:=by
 refine ab func81 ?_;refine⟨λh1=>?_,λh1=>?_⟩
 ·refine dd ?_
  (exact⟨.inl rfl,_,.refl _,uN (by exact h1.symm)⟩)
 ·refine dd ?_
  (exact⟨.inl rfl,_,.refl _,uN (by exact h1.symm)⟩)
def Rc(s:fW)(hs:GS s):tn 55 [] [Es s] (Bo (i5 s)) []:=by
 have m1:(s.threads.map xf).length=s.threads.length:=gE ..;have m2:(s.zW.map Go.Hy.encI).length=s.zW.length:=gE ..;have b1:=hs.threads;have b2:=hs.zW;have hcon:=Go.Wor.EW (H:=[]) (f:=81) (l:=s.zW) (caps:=[]) ED au (λr _=>TU r) aw;refine ab func55 ?_;refine ah (Lo s.first hs.first) ?_;refine⟨λh1=>?_,λh1=>?_⟩
 rotate_left
 ·(rw[show i5 s=false from by (unfold i5;rw[h1];rfl)]);exact c7
 refine dd ?_;rw[m1];refine⟨λh2=>?_,λh2=>?_⟩
 ·(rw[show i5 s=false from by (unfold i5;rw[rK (show ¬1<=s.threads.length by simp at h2;omega)];simp)]);exact c7
 have h2:1<=s.threads.length:=aY
 refine dd ?_;rw[m1];refine⟨λh3=>?_,λh3=>?_⟩
 ·(rw[show i5 s=false from by (unfold i5;rw[rK (show ¬s.threads.length<=8 by simp at h3;omega)];simp)]);exact c7
 have h3:s.threads.length<=8:=by simp at h3;omega
 refine dd ?_;rw[m2];refine⟨λh4=>?_,λh4=>?_⟩
 ·(rw[show i5 s=false from by (unfold i5;rw[rK (show ¬s.zW.length<=4000 by simp at h4;omega)];simp)]);exact c7
 have h4:s.zW.length<=4000:=by simp at h4;omega
 have e1:i5 s=(!s.threads.any AP && !s.zW.any ED):=by
  unfold i5;rw[h1,r9 h2,r9 h3,r9 h4]
  rfl
 refine dd ?_;refine tc ?_
 rw[m1];refine zZ.seq s.threads.length (λk=>(.za::.ref 0 [] 5 0 0::Bo false::mC (mC (mC (.za::(Dc s.threads)::I s.threads.length::I k::mC ([.za,.za,.za,.za,.za,.za,.za])))))) (λk=>[⟨1,30,5,[qi s],0⟩]) (λk=>∀j,(h:j<s.threads.length)->j<k->AP s.threads[j]=false) ?_ aj (λk hk hr=>?_) (λhr=>?_)
 ·exact cC
 ·obtain⟨x,hx⟩:∃x,x=s.threads[k]:=⟨_,rfl⟩;have hxm:x∈s.threads:=by rw[hx];exact gZ hk
  have hg:(s.threads.map xf)[k]?=some (xf x):=by rw[gz,gp hk,hx];rfl
  have m3:(x.map vq).length=x.length:=gE ..;have bx:=hs.ops x hxm;have hcx:=Te (H:=[]) (f:=79) (l:=x) (caps:=[]) BA au (λr _=>TT r) aw
  have bad:AP x=true->i5 s=false:=λh=>by
   rw[e1,rB.2 ⟨x,hxm,h⟩];rfl
  conv=>whnf
  refine uF ?_;(refine td hg ?_)
  rw[m3];refine⟨λc1=>?_,λc1=>?_⟩
  ·rw[bad (by unfold AP;rw[r9 (show 16<x.length by simp at c1;omega)];rfl)];refine dd ?_;refine tc ?_
   (refine .inr ⟨aj,uH ?_⟩)
   exact uI
  have eT:AP x=x.any BA:=by unfold AP;rw[rK (by simp at c1;omega)];rfl
  refine dd ?_;refine ah hcx ?_;refine⟨λc2=>?_,λc2=>?_⟩
  ·rw[bad (by rw[eT,c2])];refine dd ?_;refine tc ?_
   (refine .inr ⟨aj,uH ?_⟩)
   exact uI
  ·refine dd ?_;refine tc ?_
   refine .inl ⟨rfl,?_,λi hi hij=>?_⟩
   ·exact dL
   ·by_cases e:i=k
    ·subst e;rw[<-hx,eT,c2]
    ·exact hr i hi aw
 ·have h5:s.threads.any AP=false:=by
   rw[pD];intro x hx;obtain⟨i,hi,rfl⟩:=pF.1 hx;simp[hr i hi hi]
  rw[e1,h5];refine uD ?_;refine ah hcon ?_;refine⟨λq=>?_,λq=>?_⟩
  all_goals
   rw[q];refine dd ?_;refine tc ?_
   exact uI
def vG(out:List fA)(n:fA):List fA:=if (out.any λx=>x == n)=true then out else out++[n]
def wF(out:List fA)(c:ib):List fA:=c.zd.foldl vG out
def B5(o:fG):Bool:=decide (o.kind=3) && o8 o.config
def l8(out:List fA)(o:fG):List fA:=if B5 o=true then wF out o.config else out
def kU(out:List fA)(l:List fG):List fA:=l.foldl l8 out
def yc(s:fW):List fA:=s.threads.foldl kU (wF [] s.first)
def wA{c:ib}(h:o8 c=true):c.zd.length<=4:=by
 have h:(qO c).1=0:=by simpa [o8] using h
 unfold qO at h;split at h
 ·rename_i q;exact absurd h q
 ·rename_i q;have q:(vm c).1=0:=Decidable.of_not_not q;unfold vm at q;split at q
  ·exact absurd (show(6:Int)=0 from q) ar
  ·rename_i z;simp at z;omega
def Ia(out:List fA)(n:fA):(vG out n).length<=out.length+1:=by
 unfold vG;split
 ·omega
 ·simp
def DC{α β:Type}(f:List β->α->List β)(k:Nat):∀(l:List α) (out:List β),(∀x∈l,∀o:List β,(f o x).length<=o.length+k)->(l.foldl f out).length<=out.length+k*l.length
 |[],out,_=>by simp
 |x::l,out,h=>by
  have h1:=h x (rh ..) out;have h2:=DC f k l (f out x) λy hy o=>h y (pV _ hy) o
  rw[eK,pR,Nat.mul_add];omega
def Fx(out:List fA){c:ib}(h:c.zd.length<=4):(wF out c).length<=out.length+4:=by
 have:=DC vG 1 c.zd out λn _ o=>Ia o n
 unfold wF;omega
def Nj(out:List fA)(o:fG):(l8 out o).length<=out.length+4:=by
 unfold l8;split
 ·rename_i h;unfold B5 at h;simp only[gH]at h;exact Fx out (wA h.2)
 ·omega
def HO(out:List fA){l:List fG}(h:l.length<=16):(kU out l).length<=out.length+64:=by
 have:=DC l8 4 l out λo _ x=>Nj x o
 unfold kU;omega
def EZ{α β:Type}(f:β->α->β)(b:β)(l:List α){k:Nat}(h:k<l.length):(l.take (k+1)).foldl f b=f ((l.take k).foldl f b) l[k]:=by
 rw[rb h,sJ]
 rfl
def Rj(s:fW)(X Y:Ob):tn 89 [X,Y] [Es s] (.fn 124 [] [.ref 2 [] 5 0 0]) [X,Y,⟨1,30,5,[qi s],0⟩]:=by
 refine zb.zI (fn:=f89) func89 rfl (uH ?_);exact uJ
structure GR(s:fW):Prop where
 first:o8 s.first=true
 threads:s.threads.length<=8
 ops:∀l∈s.threads,l.length<=16
 cfg:∀l∈s.threads,∀o∈l,x4 o.config
def QN(s:fW)(hs:GR s)(l:Nat)(rec:Ob)(hrec:qV 5 [rec]=true)
 (hy0:∀(out:List fA) (c:ib),out.length<=600->c.zd.length<=4->jH prog l ([⟨1,30,5,[qi s],0⟩,⟨1,22,1,[[.gl 3 1 ((out).map qv)]],0⟩,⟨1,30,5,[qi s],0⟩,⟨4,9,1,(out).map qv,0⟩,rec]) [Cf c] (Bo true) ([⟨1,30,5,[qi s],0⟩,⟨1,22,1,[[.gl 3 1 ((wF out c).map qv)]],0⟩,⟨1,30,5,[qi s],0⟩,⟨4,9,1,(wF out c).map qv,0⟩,rec]))
 (hy1:∀(out:List fA) (c:ib) (o:fG),out.length<=600->c.zd.length<=4->jH prog l ([⟨1,30,5,[qi s],0⟩,⟨1,22,1,[[.gl 3 1 ((out).map qv)]],0⟩,⟨1,30,5,[qi s],0⟩,⟨4,9,1,(out).map qv,0⟩,rec]++[⟨1,57,10,[vq (o)],0⟩]) [Cf c] (Bo true) ([⟨1,30,5,[qi s],0⟩,⟨1,22,1,[[.gl 3 1 ((wF out c).map qv)]],0⟩,⟨1,30,5,[qi s],0⟩,⟨4,9,1,(wF out c).map qv,0⟩,rec]++[⟨1,57,10,[vq (o)],0⟩])):
  tn 124 ([⟨1,30,5,[qi s],0⟩,⟨1,22,1,[[.gl 3 1 (([]).map qv)]],0⟩,⟨1,30,5,[qi s],0⟩,⟨4,9,1,([]).map qv,0⟩,rec]) [.v (.func (.yield l) #[] #[]),.ref 2 [] 5 0 0] (.fC []) ([⟨1,30,5,[qi s],0⟩,⟨1,22,1,[[.gl 3 1 ((yc s).map qv)]],0⟩,⟨1,30,5,[qi s],0⟩,⟨4,9,1,(yc s).map qv,0⟩,rec]):=by
 have m1:(s.threads.map xf).length=s.threads.length:=gE ..;have b1:=hs.threads;have y0:=hy0 [] s.first ar (wA hs.first);refine zb.zI (fn:=f124) func124 rfl (uH ?_);refine⟨_,_,y0,dd ?_⟩;refine tc ?_
 rw[m1];refine zZ.seq s.threads.length (λk=>(.v (.func (.yield l) #[] #[])::.ref 2 [] 5 0 0::mC (.za::.za::.za::(Dc s.threads)::I s.threads.length::I k::mC (mC (mC ([.za,.za])))))) (λk=>[⟨1,30,5,[qi s],0⟩,⟨1,22,1,[[.gl 3 1 (((s.threads.take k).foldl kU (wF [] s.first)).map qv)]],0⟩,⟨1,30,5,[qi s],0⟩,⟨4,9,1,((s.threads.take k).foldl kU (wF [] s.first)).map qv,0⟩,rec]) (λk=>((s.threads.take k).foldl kU (wF [] s.first)).length<=4+64*k) ?_ (by have:=Fx [] (wA hs.first);simpa using this) (λk hk hr=>?_) (λhr=>?_)
 ·exact cC
 ·obtain⟨x,hx⟩:∃x,x=s.threads[k]:=⟨_,rfl⟩;have hxm:x∈s.threads:=by rw[hx];exact gZ hk
  have hg:(s.threads.map xf)[k]?=some (xf x):=by rw[gz,gp hk,hx];rfl
  have m3:(x.map vq).length=x.length:=gE ..;have bx:=hs.ops x hxm;have et:(s.threads.take (k+1)).foldl kU (wF [] s.first)=kU ((s.threads.take k).foldl kU (wF [] s.first)) x:=by rw[EZ _ _ _ hk,hx]
  rw[et];generalize (s.threads.take k).foldl kU (wF [] s.first)=out at hr ⊢;conv=>whnf
  refine uF ?_;(refine td hg ?_)
  rw[m3];refine zZ.seq x.length (λj=>(.v (.func (.yield l) #[] #[])::.ref 2 [] 5 0 0::mC (.za::.za::.za::(Dc s.threads)::I s.threads.length::I k::.za::.za::.za::(lP x)::I x.length::I j::mC (mC ([.za,.za,.za,.za]))))) (λj=>[⟨1,30,5,[qi s],0⟩,⟨1,22,1,[[.gl 3 1 (((x.take j).foldl l8 out).map qv)]],0⟩,⟨1,30,5,[qi s],0⟩,⟨4,9,1,((x.take j).foldl l8 out).map qv,0⟩,rec]) (λj=>((x.take j).foldl l8 out).length<=4+64*k+4*j) ?_ (aq hr) (λj hj hrj=>?_) (λhrj=>?_)
  ·exact cC
  ·obtain⟨o,hxo⟩:∃o,o=x[j]:=⟨_,rfl⟩;have hom:o∈x:=by rw[hxo];exact gZ hj
   have hgo:(x.map vq)[j]?=some (vq o):=by rw[gz,gp hj,hxo];rfl
   have eo:(x.take (j+1)).foldl l8 out=l8 ((x.take j).foldl l8 out) o:=by rw[EZ _ _ _ hj,hxo]
   have ol:=Nj ((x.take j).foldl l8 out) o;rw[eo];generalize (x.take j).foldl l8 out=out2 at hrj ol ⊢;have skip:B5 o=false->l8 out2 o=out2:=λh=>by unfold l8;rw[gu aH]
   have take:B5 o=true->l8 out2 o=wF out2 o.config:=λh=>by unfold l8;rw[gC h]
   conv=>whnf
   refine uF ?_;(refine td hgo ?_)
   refine⟨λc1=>?_,λc1=>?_⟩
   rotate_left
   ·rw[skip (by unfold B5;rw[rK (aq c1)];rfl)]at ol ⊢;refine dd ?_;refine tc ?_
    refine .inl ⟨rfl,?_,aw⟩;rw[zw aw];exact zp.xy 5 hU rfl rfl rfl hrec rfl
   have c1:o.kind=3:=aq c1
   refine dd ?_;refine ah (Lo o.config (hs.cfg x hxm o hom)) ?_;refine⟨λc2=>?_,λc2=>?_⟩
   rotate_left
   ·rw[skip (by unfold B5;rw[c2,sX])]at ol ⊢;refine dd ?_;refine tc ?_
    refine .inl ⟨rfl,?_,aw⟩;rw[zw aw];exact zp.xy 5 hU rfl rfl rfl hrec rfl
   have y1:=hy1 out2 o.config o aw (wA c2);rw[take (by unfold B5;rw[c2,r9 c1];rfl)]at ol ⊢;refine dd ?_;refine⟨_,_,y1,dd ?_⟩;refine tc ?_
   refine .inl ⟨rfl,?_,aw⟩;rw[zw aw];exact zp.xy 5 hU rfl rfl rfl hrec rfl
  ·have e:(x.take x.length).foldl l8 out=kU out x:=by rw[pQ];rfl
   have al:=HO out bx;refine uD ?_;rw[e,zw aw];refine .inl ⟨rfl,?_,aw⟩;exact zp.xy 5 hU rfl rfl rfl hrec rfl
 ·have e:(s.threads.take s.threads.length).foldl kU (wF [] s.first)=yc s:=by rw[pQ];rfl
  refine uD ?_;rw[e];exact c8
abbrev J7(s:fW):List C:=Es s:: .ref 0 [] 5 0 0:: .fp 1 0 []:: .ref 1 [] 1 0 0:: .un:: .un:: .un:: .agg (qi s):: .fn 124 [] [.ref 2 [] 5 0 0]::List.replicate 18 .un
def SV(s:fW)(hs:GR s):tn 58 [] [Es s] (lT (yc s)) []:=by
 refine ab func58 ?_;refine⟨_,_,Rj s _ _,uH ?_⟩;refine⟨_,zp.Ac 1 0 9 1 rfl rfl (.inl rfl) rfl rfl,?_⟩;refine⟨.normal,_,[⟨1,30,5,[qi s],0⟩,⟨1,22,1,[[.gl 3 1 ((yc s).map qv)]],0⟩,⟨1,30,5,[qi s],0⟩,⟨4,9,1,(yc s).map qv,0⟩],λl r h1 h2 h3 h4 h5=>⟨_,_,r,QN s hs l (iD l r (J7 s)) rfl (λout c ho hc=>?_) (λout c o ho hc=>?_),rfl,aZ,rfl,pb _,ba,zp.low 4 _ _ rfl rfl rfl⟩,?_⟩
 ·have mc:(c.zd.map qv).length=c.zd.length:=gE ..;refine jH.zI (id:=4) rfl h1 h2 h3 h4 h5 rfl rfl rfl (uH ?_);refine⟨rfl,rfl,uH ?_⟩;rw[mc];refine zZ.seq c.zd.length (λk=>(.za::.ref 0 [] 5 0 0::.za::.ref 1 [] 1 0 0::.za::.za::.za::.za::.za::.za::.za::(lT c.zd)::I c.zd.length::I k::mC ([.za,.za,.za,.za,.za]))) (λk=>let R:=iD l (busy r) (J7 s);[⟨1,30,5,[qi s],0⟩,⟨1,22,1,[[.gl 3 1 (((c.zd.take k).foldl vG out).map qv)]],0⟩,⟨1,30,5,[qi s],0⟩,⟨4,9,1,((c.zd.take k).foldl vG out).map qv,0⟩,R]++[⟨1,26,3,[nM c],0⟩]) (λk=>((c.zd.take k).foldl vG out).length<=out.length+k) ?_ aj (λk hk hr=>?_) (λhr=>?_)
  ·exact cC
  ·obtain⟨n,hx⟩:∃n,n=c.zd[k]:=⟨_,rfl⟩;have hg:(c.zd.map qv)[k]?=some (qv n):=by rw[gz,gp hk,hx];rfl
   have et:(c.zd.take (k+1)).foldl vG out=vG ((c.zd.take k).foldl vG out) n:=by rw[EZ _ _ _ hk,hx]
   have al:=Ia ((c.zd.take k).foldl vG out) n;dsimp only;rw[et];generalize (c.zd.take k).foldl vG out=o2 at hr al ⊢;have ml:(o2.map qv).length=o2.length:=gE ..;conv=>whnf
   refine uF ?_;(refine td hg ?_)
   refine ah (EX o2 n aw) ?_;refine⟨λq=>?_,λq=>?_⟩
   ·rw[show vG o2 n=o2 from gC q];refine dd ?_;refine .inl ⟨rfl,?_,aw⟩;rw[zw aw];exact cE 6
   ·have ea:vG o2 n=o2++[n]:=gu (by simp[q]);rw[ea]at al ⊢;refine dd ?_;refine⟨rfl,.inr rfl,by rw[ml];simp[maxLen];omega,by rw[ml];show _*16<=_;simp;omega,dd ?_⟩;have eb:o2.map qv++[[Tx n]]=(o2++[n]).map qv:=by simp[qv]
    rw[eb];refine .inl ⟨rfl,?_,aw⟩;rw[zw aw];exact cE 6
  ·have e:(c.zd.take c.zd.length).foldl vG out=wF out c:=by rw[pQ];rfl
   refine uD ?_;rw[e];exact⟨(.za::.ref 0 [] 5 0 0::mC (mC (mC ([.za])))),_,cE 5,rfl,.inl ⟨rfl,rfl,rfl⟩⟩
 ·have mc:(c.zd.map qv).length=c.zd.length:=gE ..;refine jH.zI (id:=4) rfl h1 h2 h3 h4 h5 rfl rfl rfl (uH ?_);refine⟨rfl,rfl,uH ?_⟩;rw[mc];refine zZ.seq c.zd.length (λk=>(.za::.ref 0 [] 5 0 0::.za::.ref 1 [] 1 0 0::.za::.za::.za::.za::.za::.za::.za::(lT c.zd)::I c.zd.length::I k::mC ([.za,.za,.za,.za,.za]))) (λk=>let R:=iD l (busy r) (J7 s);[⟨1,30,5,[qi s],0⟩,⟨1,22,1,[[.gl 3 1 (((c.zd.take k).foldl vG out).map qv)]],0⟩,⟨1,30,5,[qi s],0⟩,⟨4,9,1,((c.zd.take k).foldl vG out).map qv,0⟩,R]++[⟨1,57,10,[vq o],0⟩,⟨1,26,3,[nM c],0⟩]) (λk=>((c.zd.take k).foldl vG out).length<=out.length+k) ?_ aj (λk hk hr=>?_) (λhr=>?_)
  ·exact cC
  ·obtain⟨n,hx⟩:∃n,n=c.zd[k]:=⟨_,rfl⟩;have hg:(c.zd.map qv)[k]?=some (qv n):=by rw[gz,gp hk,hx];rfl
   have et:(c.zd.take (k+1)).foldl vG out=vG ((c.zd.take k).foldl vG out) n:=by rw[EZ _ _ _ hk,hx]
   have al:=Ia ((c.zd.take k).foldl vG out) n;dsimp only;rw[et];generalize (c.zd.take k).foldl vG out=o2 at hr al ⊢;have ml:(o2.map qv).length=o2.length:=gE ..;conv=>whnf
   refine uF ?_;(refine td hg ?_)
   refine ah (EX o2 n aw) ?_;refine⟨λq=>?_,λq=>?_⟩
   ·rw[show vG o2 n=o2 from gC q];refine dd ?_;refine .inl ⟨rfl,?_,aw⟩;rw[zw aw];exact cE 7
   ·have ea:vG o2 n=o2++[n]:=gu (by simp[q]);rw[ea]at al ⊢;refine dd ?_;refine⟨rfl,.inr rfl,by rw[ml];simp[maxLen];omega,by rw[ml];show _*16<=_;simp;omega,dd ?_⟩;have eb:o2.map qv++[[Tx n]]=(o2++[n]).map qv:=by simp[qv]
    rw[eb];refine .inl ⟨rfl,?_,aw⟩;rw[zw aw];exact cE 7
  ·have e:(c.zd.take c.zd.length).foldl vG out=wF out c:=by rw[pQ];rfl
   refine uD ?_;rw[e];exact⟨(.za::.ref 0 [] 5 0 0::mC (mC (mC ([.za])))),_,cE 6,rfl,.inl ⟨rfl,rfl,rfl⟩⟩
 ·conv=>whnf
  exact uI
def qM(s:fW):Wor×Int:=if i5 s=true then lS (qa s.first).1 (yc s) s.threads.length else (BY,1)
def xK{s:fW}(h:i5 s=true):o8 s.first=true/\1<=s.threads.length/\s.threads.length<=8/\s.zW.length<=4000/\(∀l∈s.threads,l.length<=16/\∀o∈l,1<=o.kind/\o.kind<=6)/\∀n∈s.zW,0<=n:=by
 unfold i5 at h;simp only[gH,gQ,pO,pD]at h;obtain⟨⟨⟨⟨⟨h1,h2⟩,h3⟩,h4⟩,h5⟩,h6⟩:=h;refine⟨h1,h2,h3,h4,λl hl=>?_,λn hn=>?_⟩
 ·have q:=h5 l hl;unfold AP at q;simp only[Bool.not_eq_true,pX,pN,pD]at q;refine⟨aw,λo ho=>?_⟩;have:=q.2 o ho;unfold BA at this;exact de
 ·have:=h6 n hn;unfold ED at this;exact de
def KA(s:fW)(hs:GS s)(hc:o8 s.first=true->x3 s.first)(ho:∀l∈s.threads,∀o∈l,x4 o.config)(hn:i5 s=true->∀x∈yc s,x.length<4000000000000000000):tn 30 [] [Es s] (.fC [Cw (qM s).1,I (qM s).2]) []:=by
 have m1:(s.threads.map xf).length=s.threads.length:=gE ..;refine ab func30 ?_;refine ah (Rc s hs) ?_;refine⟨λh1=>?_,λh1=>?_⟩
 rotate_left
 ·rw[show qM s=(BY,1) from gu aD];refine dd ?_;refine tc ?_
  exact cY
 obtain⟨p1,p2,p3,p4,p5,p6⟩:=xK h1;have sc:=hc p1;have er:(qO s.first).1=0:=by simpa [o8] using p1
 refine dd ?_;refine tc ?_
 refine ah (yy s.first sc.k) ?_;have eb:(qa s.first).2.1=0:=(HR s.first).trans er;have en:qM s=lS (qa s.first).1 (yc s) s.threads.length:=gC h1;have wn:GR s:=⟨p1,p3,λl hl=>(p5 l hl).1,ho⟩
 have nl:(yc s).length<1000000000:=by
  have a:=Fx [] (wA p1)
  have b:=DC kU 64 s.threads (wF [] s.first) λl hl o=>by
   have hl2:=(p5 l hl).1;exact HO o hl2
  have c:yc s=s.threads.foldl kU (wF [] s.first):=rfl;rw[c];simp at a;omega
 have nw:=Wp (qa s.first).1 (yc s) s.threads.length (EV sc) ⟨nl,hn h1⟩;refine⟨λh=>absurd h (by rw[eb];decide),λ_=>dd ?_⟩;refine uE ?_;refine ah (SV s wn) ?_;rw[m1];refine ah nw ?_;rw[en];exact uI
end Go.Wor
