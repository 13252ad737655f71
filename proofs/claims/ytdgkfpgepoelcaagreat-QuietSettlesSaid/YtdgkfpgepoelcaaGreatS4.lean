import Derived.Test.YtdgkfpgepoelcaaGreatS3
import Derived.Test.YtdgkfpgepoelcaaGreatSU
import Derived.Test.YtdgkfpgepoelcaaGreatS1
import Derived.Test.YtdgkfpgepoelcaaGreatS2
set_option linter.all false
set_option maxRecDepth 100000
set_option maxHeartbeats 4000000
namespace Go.Wor
open Go.Ab Go.Proofs Tryz Go.Gat Go.Nam Go.Hos Go.Con Go.Sna
open Go.Hy hiding encI
def Dv(w x:Wor)(m:rH)(hp:m.pc=0)(hl:w.lock≠0):tc 149 [] [Cw w,Cw x,Cm m] (.rO [Cw x,Cm {m with done:=true,answer:=tT 12},Ce {rY m 5 14 1 with done:=true,answer:=tT 12}]) []:=by
 refine ab func149 ?_;rw[hp];refine hU ?_
 refine⟨λ_=>dd ?_,λhh=>absurd (ak hh) hl⟩;refine .inr ⟨⟨[0,1,2,4],[2],true⟩,an,λ_=>V,_,uH ?_,λt2 H2 h=>h⟩;refine⟨_,ag [] (zN {m with pc:=0} 5 14 1),uH ?_⟩;refine⟨_,ag [] (oY {m with pc:=0} (rY m 5 14 1) (tT 12)),uH (uH ?_)⟩;(repeat' (first|(refine And.intro V (uH ?_))|(refine And.intro (uH ?_) trivial)|(refine And.intro ?_ ?_ <;> (conv=>whnf))))
 all_goals
  refine zaC ?_
  refine .inl ⟨⟨false,[0,1,2],[1,6,7],[]⟩,an,uH ?_⟩;refine hO ?_
  exact uI
def Dp(w:Wor)(h:x3 w)(l0:rS)(ls:List rS)(hq:w.zc=l0::ls):tc 135 [] [Cw w] (.agg (tG 0 w)) [⟨2,81,4,w.zc.map z1,0⟩]:=by
 have hq2:w.zc.map z1=z1 l0::ls.map z1:=by rw[hq];rfl
 have hq4:ls.length<1000000000:=by have:=h.zc;rw[hq]at this;exact cN
 have hq3:(ls.map z1).length+1=w.zc.length:=by rw[hq];simp
 have m1:(w.pins.map Go.Hy.encI).length=w.pins.length:=cY ..;have m2:(w.zd.map zw).length=w.zd.length:=cY ..;have m3:(w.zc.map z1).length=w.zc.length:=cY ..;have m4:(w.zi.map zW).length=w.zi.length:=cY ..;have b1:=h.pins;have b2:=h.zd.1;have b3:=h.zc;have b4:=h.zi;refine iH (fn:=f135) func135 V (uH ?_);refine zay ?_;refine zp.seq w.zd.length (λk=>(.za::.ref 0 [] 8 0 0:: .ref 1 [] 8 0 0:: .ref 2 [] 8 0 0::I k:: .za::.za::tJ (jp (jp (jp (jp (tJ ([])))))))) (λk=>[oW w,⟨1,28,8,[sF],0⟩,⟨1,28,8,[[I w.zl,I w.current,I w.lock,.gl 3 1 (w.pins.map Go.Hy.encI),.gl 4 5 ((w.zd.take k).map zw),lL w.zc,rZ w.counts,lR w.zi]],0⟩,⟨4,3,1,(w.pins.map Go.Hy.encI),0⟩,⟨4,67,5,((w.zd.take k).map zw),0⟩]) (λk=>True) ?_ trivial (λk hk _=>?_) (λ_=>?_)
 .refine zm.trans (zm.xc 2 4 67 5 V V (.inl V) V V) ?_;exact cC
 .obtain⟨v,hv⟩:∃v,v=w.zd[k]:=⟨_,rfl⟩;have hgv:(w.zd.map zw)[k]?=some (zw v):=by rw[cX,cV hk,hv];rfl
  have sv:=h.zd.2 v aJ;have m5:(v.zg.map zM).length=v.zg.length:=cY ..;have b5:=sv.1;conv=>whnf
  rw[m2];refine zaB ?_
  refine zp.seq v.zg.length (λj=>(.za::.ref 0 [] 8 0 0:: .ref 1 [] 8 0 0:: .ref 2 [] 8 0 0::I k:: .ref 5 [] 5 0 0::I j:: tJ (jp (jp (jp (jp (tJ ([])))))))) (λj=>[oW w,⟨1,28,8,[sF],0⟩,⟨1,28,8,[[I w.zl,I w.current,I w.lock,.gl 3 1 (w.pins.map Go.Hy.encI),.gl 4 5 ((w.zd.take k).map zw),lL w.zc,rZ w.counts,lR w.zi]],0⟩,⟨4,3,1,(w.pins.map Go.Hy.encI),0⟩,⟨4,67,5,((w.zd.take k).map zw),0⟩,⟨1,67,5,[xf v.snap++[.gl 6 2 ((v.zg.take j).map zM),Bo v.qQ]],0⟩,⟨4,71,2,((v.zg.take j).map zM),0⟩]) (λk=>True) ?_ trivial (λj hj _=>?_) (λ_=>?_)
  .exact cD
  .obtain⟨g,hg⟩:∃g,g=v.zg[j]:=⟨_,rfl⟩;have hgg:(v.zg.map zM)[j]?=some (zM g):=by rw[cX,cV hj,hg];rfl
   have sg:=sv.2 g aK;have m6:(g.ends.map zP).length=g.ends.length:=cY ..;have b6:=sg.1;have lG:(((v.zg.take j).map zM)).length=j:=aw
   have eG:((v.zg.take (j+1)).map zM)=((v.zg.take j).map zM)++[zM g]:=aL
   conv=>whnf
   (refine hY hgv ?_)
   rw[m5];refine zaB ?_
   (refine hY hgg ?_)
   refine zp.seq g.ends.length (λn=>(.za::.ref 0 [] 8 0 0:: .ref 1 [] 8 0 0:: .ref 2 [] 8 0 0::I k:: .ref 5 [] 5 0 0::I j:: .ref 7 [] 2 0 0::I n:: .za::.za::.za::.za::.za::.za::tJ (jp (jp (jp (jp ([]))))))) (λn=>[oW w,⟨1,28,8,[sF],0⟩,⟨1,28,8,[[I w.zl,I w.current,I w.lock,.gl 3 1 (w.pins.map Go.Hy.encI),.gl 4 5 ((w.zd.take k).map zw),lL w.zc,rZ w.counts,lR w.zi]],0⟩,⟨4,3,1,(w.pins.map Go.Hy.encI),0⟩,⟨4,67,5,((w.zd.take k).map zw),0⟩,⟨1,67,5,[xf v.snap++[.gl 6 2 ((v.zg.take j).map zM),Bo v.qQ]],0⟩,⟨4,71,2,((v.zg.take j).map zM),0⟩,⟨1,71,2,[[U g.yi,.gl 8 3 ((g.ends.take n).map zP)]],0⟩,⟨4,141,3,((g.ends.take n).map zP),0⟩]) (λk=>True) ?_ trivial (λn hn _=>?_) (λ_=>?_)
   .exact cB
   .obtain⟨e,he⟩:∃e,e=g.ends[n]:=⟨_,rfl⟩;have hge:(g.ends.map zP)[n]?=some (zP e):=by rw[cX,cV hn,he];rfl
    have se:=sg.2 e aM;have m7:(e.next.map Go.Hy.encI).length=e.next.length:=cY ..;have lE:(((g.ends.take n).map zP)).length=n:=aw
    have eE:((g.ends.take (n+1)).map zP)=((g.ends.take n).map zP)++[zP e]:=aN
    conv=>whnf
    (refine hY hgv ?_)
    (refine hY hgg ?_)
    rw[m6];refine zaB ?_
    (refine hY hgg ?_)
    (refine hY hge ?_)
    exact cb
   .conv=>whnf
    (refine hY hgv ?_)
    (refine hY hgg ?_)
    exact bY
  .have lV:(((w.zd.take k).map zw)).length=k:=by simp;omega
   have eV:((w.zd.take (k+1)).map zw)=((w.zd.take k).map zw)++[zw v]:=aS
   conv=>whnf
   (refine hY hgv ?_)
   rw[m5];refine zai ?_;rw[dy];refine⟨rfl,.inr V,by rw[lV];simp[maxLen];omega,by rw[lV];show(k+1)*104<=_;omega,dd ?_⟩;refine zat ?_;rw[zk ah,eV];exact cE 5
 .conv=>whnf
  rw[m2];refine zai ?_;rw[dy];have m8:(w.counts.map zX).length=w.counts.length:=cY ..;have b8:=h.counts.1;refine .inr ?_;rw[hq2];refine⟨.inl V,aH,aT,uH ?_⟩;refine zp.seq w.counts.length (λk=>(.za::.ref 0 [] 8 0 0:: .ref 1 [] 8 0 0:: .ref 2 [] 8 0 0:: .za::.za::.za::.za::.za::.za::.za::I k:: .za::.za::.za::tJ (jp (jp (jp (jp ([]))))))) (λk=>[oW w,⟨1,28,8,[sF],0⟩,⟨1,28,8,[[I w.zl,I w.current,I w.lock,.gl 3 1 (w.pins.map Go.Hy.encI),.gl 4 5 (w.zd.map zw),.sl 5 [] 4 0 w.zc.length false,.gl 6 1 ((w.counts.take k).map zX),lR w.zi]],0⟩,⟨4,3,1,(w.pins.map Go.Hy.encI),0⟩,⟨4,67,5,w.zd.map zw,0⟩,⟨2,81,4,w.zc.map z1,0⟩,⟨4,121,1,((w.counts.take k).map zX),0⟩]) (λk=>True) ?_ trivial (λk hk _=>?_) (λ_=>?_)
  .rw[hq3,<-hq2,show([]:List (List C)).length+w.zc.length=w.zc.length from dF _];exact zaR
  .obtain⟨r,hr⟩:∃r,r=w.counts[k]:=⟨_,rfl⟩;have hgr:(w.counts.map zX)[k]?=some (zX r):=by rw[cX,cV hk,hr];rfl
   have sr:=h.counts.2 r aU;have lC:(((w.counts.take k).map zX)).length=k:=aw
   have eC:((w.counts.take (k+1)).map zX)=((w.counts.take k).map zX)++[zX r]:=aV
   conv=>whnf
   refine zaA ?_
   refine⟨?_,?_⟩
   .conv=>whnf
    refine zac ?_
    refine zay ?_;refine zac ?_
    refine zaT ?_
    refine zaC ?_
    exact cp
   .refine⟨?_,trivial⟩;conv=>whnf
    refine zay ?_;refine hO ?_
    refine⟨?_,?_⟩
    .conv=>whnf
     refine zac ?_
     refine zaT ?_
     refine zaC ?_
     exact cp
    .trivial
  .conv=>whnf
   rw[m8];refine zai ?_;rw[dy];refine .inl ⟨.inl V,.inr V,aH,aY,uH ?_⟩;refine⟨.inl V,_,_,.refl _,rfl,?_⟩;rw[<-hq2];exact Bh [5] [0] V V V V V V
def Dq(w:Wor)(h:x3 w)(r0:rP)(rs:List rP)(hq:w.zi=r0::rs)(hne:w.zd≠[]):tc 135 [] [Cw w] (.agg [I w.zl,I w.current,I w.lock,lI w.pins,.sl 0 [] 5 0 w.zd.length false,lL w.zc,rZ w.counts,.sl 1 [] 3 0 w.zi.length false]) [⟨2,67,5,w.zd.map zw,0⟩,⟨2,126,3,w.zi.map zW,0⟩]:=by
 have hq2:w.zi.map zW=zW r0::rs.map zW:=by rw[hq];rfl
 have hq4:rs.length<1000000000:=by have:=h.zi;rw[hq]at this;exact cN
 have hq3:(rs.map zW).length+1=w.zi.length:=by rw[hq];simp
 have hz:Nat.beq w.zd.length 0=false:=by cases hv:w.zd with|nil=>exact absurd hv hne|cons x l=>rfl
 have m1:(w.pins.map Go.Hy.encI).length=w.pins.length:=cY ..;have m2:(w.zd.map zw).length=w.zd.length:=cY ..;have m3:(w.zc.map z1).length=w.zc.length:=cY ..;have m4:(w.zi.map zW).length=w.zi.length:=cY ..;have b1:=h.pins;have b2:=h.zd.1;have b3:=h.zc;have b4:=h.zi;refine iH (fn:=f135) func135 V (uH ?_);refine zay ?_;refine zp.seq w.zd.length (λk=>(.za::.ref 0 [] 8 0 0:: .ref 1 [] 8 0 0:: .ref 2 [] 8 0 0::I k:: .za::.za::tJ (jp (jp (jp (jp (tJ ([])))))))) (λk=>[oW w,⟨1,28,8,[sF],0⟩,⟨1,28,8,[[I w.zl,I w.current,I w.lock,.gl 3 1 (w.pins.map Go.Hy.encI),cond (Nat.beq k 0) (C.rG 1 5 []) (C.sl 4 [] 5 0 k false),lL w.zc,rZ w.counts,lR w.zi]],0⟩,⟨4,3,1,(w.pins.map Go.Hy.encI),0⟩,(cond (Nat.beq k 0) (⟨0,0,0,[],0⟩:Ob) ⟨2,67,5,((w.zd.take k).map zw),0⟩)]) (λk=>True) ?_ trivial (λk hk _=>?_) (λ_=>?_)
 .refine zm.trans (zm.dead 0 0) ?_;exact cC
 .obtain⟨v,hv⟩:∃v,v=w.zd[k]:=⟨_,rfl⟩;obtain⟨b,hb⟩:∃b,b=Nat.beq k 0:=⟨_,rfl⟩;rw[<-hb];have hgv:(w.zd.map zw)[k]?=some (zw v):=by rw[cX,cV hk,hv];rfl
  have sv:=h.zd.2 v aJ;have m5:(v.zg.map zM).length=v.zg.length:=cY ..;have b5:=sv.1;cases b
  .skip
   conv=>whnf
   rw[m2];refine zaB ?_
   refine zp.seq v.zg.length (λj=>(.za::.ref 0 [] 8 0 0:: .ref 1 [] 8 0 0:: .ref 2 [] 8 0 0::I k:: .ref 5 [] 5 0 0::I j:: tJ (jp (jp (jp (jp (tJ ([])))))))) (λj=>[oW w,⟨1,28,8,[sF],0⟩,⟨1,28,8,[[I w.zl,I w.current,I w.lock,.gl 3 1 (w.pins.map Go.Hy.encI),cond false (C.rG 1 5 []) (C.sl 4 [] 5 0 k false),lL w.zc,rZ w.counts,lR w.zi]],0⟩,⟨4,3,1,(w.pins.map Go.Hy.encI),0⟩,(cond false (⟨0,0,0,[],0⟩:Ob) ⟨2,67,5,((w.zd.take k).map zw),0⟩),⟨1,67,5,[xf v.snap++[.gl 6 2 ((v.zg.take j).map zM),Bo v.qQ]],0⟩,⟨4,71,2,((v.zg.take j).map zM),0⟩]) (λk=>True) ?_ trivial (λj hj _=>?_) (λ_=>?_)
   .exact cD
   .obtain⟨g,hg⟩:∃g,g=v.zg[j]:=⟨_,rfl⟩;have hgg:(v.zg.map zM)[j]?=some (zM g):=by rw[cX,cV hj,hg];rfl
    have sg:=sv.2 g aK;have m6:(g.ends.map zP).length=g.ends.length:=cY ..;have b6:=sg.1;have lG:(((v.zg.take j).map zM)).length=j:=aw
    have eG:((v.zg.take (j+1)).map zM)=((v.zg.take j).map zM)++[zM g]:=aL
    conv=>whnf
    (refine hY hgv ?_)
    rw[m5];refine zaB ?_
    (refine hY hgg ?_)
    refine zp.seq g.ends.length (λn=>(.za::.ref 0 [] 8 0 0:: .ref 1 [] 8 0 0:: .ref 2 [] 8 0 0::I k:: .ref 5 [] 5 0 0::I j:: .ref 7 [] 2 0 0::I n:: .za::.za::.za::.za::.za::.za::tJ (jp (jp (jp (jp ([]))))))) (λn=>[oW w,⟨1,28,8,[sF],0⟩,⟨1,28,8,[[I w.zl,I w.current,I w.lock,.gl 3 1 (w.pins.map Go.Hy.encI),cond false (C.rG 1 5 []) (C.sl 4 [] 5 0 k false),lL w.zc,rZ w.counts,lR w.zi]],0⟩,⟨4,3,1,(w.pins.map Go.Hy.encI),0⟩,(cond false (⟨0,0,0,[],0⟩:Ob) ⟨2,67,5,((w.zd.take k).map zw),0⟩),⟨1,67,5,[xf v.snap++[.gl 6 2 ((v.zg.take j).map zM),Bo v.qQ]],0⟩,⟨4,71,2,((v.zg.take j).map zM),0⟩,⟨1,71,2,[[U g.yi,.gl 8 3 ((g.ends.take n).map zP)]],0⟩,⟨4,141,3,((g.ends.take n).map zP),0⟩]) (λk=>True) ?_ trivial (λn hn _=>?_) (λ_=>?_)
    .exact cB
    .obtain⟨e,he⟩:∃e,e=g.ends[n]:=⟨_,rfl⟩;have hge:(g.ends.map zP)[n]?=some (zP e):=by rw[cX,cV hn,he];rfl
     have se:=sg.2 e aM;have m7:(e.next.map Go.Hy.encI).length=e.next.length:=cY ..;have lE:(((g.ends.take n).map zP)).length=n:=aw
     have eE:((g.ends.take (n+1)).map zP)=((g.ends.take n).map zP)++[zP e]:=aN
     conv=>whnf
     (refine hY hgv ?_)
     (refine hY hgg ?_)
     rw[m6];refine zaB ?_
     (refine hY hgg ?_)
     (refine hY hge ?_)
     exact cb
    .conv=>whnf
     (refine hY hgv ?_)
     (refine hY hgg ?_)
     exact bY
   .have lV:(((w.zd.take k).map zw)).length=k:=by simp;omega
    have eV:((w.zd.take (k+1)).map zw)=((w.zd.take k).map zw)++[zw v]:=aS
    conv=>whnf
    (refine hY hgv ?_)
    rw[m5];refine zai ?_;rw[dy];conv=>whnf
    refine⟨lV,c8.2 λr hr=>c8.2 λc hc=>(shut_map (enc:=zw) (λ_=>V) (w.zd.take k) r (by rw[gZ];rw[<-gZ] at *;exact hr) c hc).2,aH,by show(k+1)*104<=_;omega,dd ?_⟩;refine zat ?_;rw[zk ah];refine(zm.rJ [0,1,2,3,7] [1,2,3,4] _ _ V V V V).trans ?_;rw[eV];exact cC
  .skip
   conv=>whnf
   rw[m2];refine zaB ?_
   refine zp.seq v.zg.length (λj=>(.za::.ref 0 [] 8 0 0:: .ref 1 [] 8 0 0:: .ref 2 [] 8 0 0::I k:: .ref 5 [] 5 0 0::I j:: tJ (jp (jp (jp (jp (tJ ([])))))))) (λj=>[oW w,⟨1,28,8,[sF],0⟩,⟨1,28,8,[[I w.zl,I w.current,I w.lock,.gl 3 1 (w.pins.map Go.Hy.encI),cond true (C.rG 1 5 []) (C.sl 4 [] 5 0 k false),lL w.zc,rZ w.counts,lR w.zi]],0⟩,⟨4,3,1,(w.pins.map Go.Hy.encI),0⟩,(cond true (⟨0,0,0,[],0⟩:Ob) ⟨2,67,5,((w.zd.take k).map zw),0⟩),⟨1,67,5,[xf v.snap++[.gl 6 2 ((v.zg.take j).map zM),Bo v.qQ]],0⟩,⟨4,71,2,((v.zg.take j).map zM),0⟩]) (λk=>True) ?_ trivial (λj hj _=>?_) (λ_=>?_)
   .exact cD
   .obtain⟨g,hg⟩:∃g,g=v.zg[j]:=⟨_,rfl⟩;have hgg:(v.zg.map zM)[j]?=some (zM g):=by rw[cX,cV hj,hg];rfl
    have sg:=sv.2 g aK;have m6:(g.ends.map zP).length=g.ends.length:=cY ..;have b6:=sg.1;have lG:(((v.zg.take j).map zM)).length=j:=aw
    have eG:((v.zg.take (j+1)).map zM)=((v.zg.take j).map zM)++[zM g]:=aL
    conv=>whnf
    (refine hY hgv ?_)
    rw[m5];refine zaB ?_
    (refine hY hgg ?_)
    refine zp.seq g.ends.length (λn=>(.za::.ref 0 [] 8 0 0:: .ref 1 [] 8 0 0:: .ref 2 [] 8 0 0::I k:: .ref 5 [] 5 0 0::I j:: .ref 7 [] 2 0 0::I n:: .za::.za::.za::.za::.za::.za::tJ (jp (jp (jp (jp ([]))))))) (λn=>[oW w,⟨1,28,8,[sF],0⟩,⟨1,28,8,[[I w.zl,I w.current,I w.lock,.gl 3 1 (w.pins.map Go.Hy.encI),cond true (C.rG 1 5 []) (C.sl 4 [] 5 0 k false),lL w.zc,rZ w.counts,lR w.zi]],0⟩,⟨4,3,1,(w.pins.map Go.Hy.encI),0⟩,(cond true (⟨0,0,0,[],0⟩:Ob) ⟨2,67,5,((w.zd.take k).map zw),0⟩),⟨1,67,5,[xf v.snap++[.gl 6 2 ((v.zg.take j).map zM),Bo v.qQ]],0⟩,⟨4,71,2,((v.zg.take j).map zM),0⟩,⟨1,71,2,[[U g.yi,.gl 8 3 ((g.ends.take n).map zP)]],0⟩,⟨4,141,3,((g.ends.take n).map zP),0⟩]) (λk=>True) ?_ trivial (λn hn _=>?_) (λ_=>?_)
    .exact cB
    .obtain⟨e,he⟩:∃e,e=g.ends[n]:=⟨_,rfl⟩;have hge:(g.ends.map zP)[n]?=some (zP e):=by rw[cX,cV hn,he];rfl
     have se:=sg.2 e aM;have m7:(e.next.map Go.Hy.encI).length=e.next.length:=cY ..;have lE:(((g.ends.take n).map zP)).length=n:=aw
     have eE:((g.ends.take (n+1)).map zP)=((g.ends.take n).map zP)++[zP e]:=aN
     conv=>whnf
     (refine hY hgv ?_)
     (refine hY hgg ?_)
     rw[m6];refine zaB ?_
     (refine hY hgg ?_)
     (refine hY hge ?_)
     exact cb
    .conv=>whnf
     (refine hY hgv ?_)
     (refine hY hgg ?_)
     exact bY
   .have lV:(((w.zd.take k).map zw)).length=k:=by simp;omega
    have eV:((w.zd.take (k+1)).map zw)=((w.zd.take k).map zw)++[zw v]:=aS
    conv=>whnf
    (refine hY hgv ?_)
    rw[m5];refine zai ?_;rw[dy];obtain rfl:k=0:=pQ hb.symm;conv=>whnf
    refine .inr ⟨.inl V,gk V,gk V,dd ?_⟩;refine zat ?_;rw[zk ah];refine(zm.rJ [0,1,2,3,7] [1,2,3,4] _ _ V V V V).trans ?_;rw[eV];exact cC
 .rw[hz];conv=>whnf
  rw[m2];refine zai ?_;rw[dy];have m8:(w.counts.map zX).length=w.counts.length:=cY ..;have b8:=h.counts.1;refine .inl ⟨.inl V,.inr V,aH,aT,uH ?_⟩;refine zp.seq w.counts.length (λk=>(.za::.ref 0 [] 8 0 0:: .ref 1 [] 8 0 0:: .ref 2 [] 8 0 0:: .za::.za::.za::.za::.za::.za::.za::I k:: .za::.za::.za::tJ (jp (jp (jp (jp ([]))))))) (λk=>[oW w,⟨1,28,8,[sF],0⟩,⟨1,28,8,[[I w.zl,I w.current,I w.lock,.gl 3 1 (w.pins.map Go.Hy.encI),.sl 4 [] 5 0 w.zd.length false,.gl 5 4 (w.zc.map z1),.gl 6 1 ((w.counts.take k).map zX),lR w.zi]],0⟩,⟨4,3,1,(w.pins.map Go.Hy.encI),0⟩,⟨2,67,5,w.zd.map zw,0⟩,⟨4,81,4,w.zc.map z1,0⟩,⟨4,121,1,((w.counts.take k).map zX),0⟩]) (λk=>True) ?_ trivial (λk hk _=>?_) (λ_=>?_)
  .exact zaR
  .obtain⟨r,hr⟩:∃r,r=w.counts[k]:=⟨_,rfl⟩;have hgr:(w.counts.map zX)[k]?=some (zX r):=by rw[cX,cV hk,hr];rfl
   have sr:=h.counts.2 r aU;have lC:(((w.counts.take k).map zX)).length=k:=aw
   have eC:((w.counts.take (k+1)).map zX)=((w.counts.take k).map zX)++[zX r]:=aV
   conv=>whnf
   refine zaA ?_
   refine⟨?_,?_⟩
   .conv=>whnf
    refine zac ?_
    refine zay ?_;refine zac ?_
    refine zaT ?_
    refine zaC ?_
    exact cp
   .refine⟨?_,trivial⟩;conv=>whnf
    refine zay ?_;refine hO ?_
    refine⟨?_,?_⟩
    .conv=>whnf
     refine zac ?_
     refine zaT ?_
     refine zaC ?_
     exact cp
    .trivial
  .conv=>whnf
   rw[m8];refine zai ?_;rw[dy];refine .inr ?_;rw[hq2];refine⟨.inl V,aH,aY,uH ?_⟩;rw[hq3,<-hq2,show([]:List (List C)).length+w.zi.length=w.zi.length from dF _];refine⟨.inl V,_,_,.refl _,rfl,?_⟩;exact Bh [4,7] [0] V V V V V V
def Dw(w x:Wor)(m:rH)(l:rS)(hp:m.pc=9)(h0:0<=m.i)(hx:w.zc[m.i.toNat]?=some l):tc 151 [] [Cw w,Cw x,Cm m] (.rO [Cw x,Cm (if l.zt=0 then {m with pc:=10} else rW m 8 (IntKind.i64.wrap (m.i+1))),Ce (rY m 1 5 l.zt)]) []:=by
 have m3:(w.zc.map z1).length=w.zc.length:=cY ..;have hg:(w.zc.map z1)[m.i.toNat]?=some (z1 l):=by rw[cX,hx];rfl
 have hl:=(cW.1 hx).1;refine ab func151 ?_;rw[m3];refine zaM ?_;rw[hp];refine hU ?_
 by_cases c:l.zt=0
 .rw[c7 c];refine⟨λh=>absurd c uY,λ_=>dd ?_⟩;refine zaH ?_;refine af (zN {m with pc:=10} 1 5 l.zt) ?_;refine hO ?_
  exact uI
 rw[c6 c];refine⟨λ_=>dd ?_,λh=>absurd uY c⟩;refine zaH ?_;refine af (zN (rW m 8 (IntKind.i64.wrap (m.i+1))) 1 5 l.zt) ?_;refine hO ?_
 exact uI
def vQ(w x:Wor)(m:rH)(l:rS)(hp:m.pc=8)(h0:0<=m.i)(hx:w.zc[m.i.toNat]?=some l):tc 151 [] [Cw w,Cw x,Cm m] (.rO [Cw x,Cm (if l.drain=true/\l.closed=false then {m with pc:=9} else {m with pc:=8,i:=IntKind.i64.wrap (m.i+1)}),Ce (rY m 1 4 (if l.drain then 1 else 0))]) []:=by
 have m3:(w.zc.map z1).length=w.zc.length:=cY ..;have hg:(w.zc.map z1)[m.i.toNat]?=some (z1 l):=by rw[cX,hx];rfl
 have hl:=(cW.1 hx).1;have hc:=zN {m with pc:=8} 1 4 0;refine ab func151 ?_;rw[m3];refine zaM ?_;rw[hp];refine hU ?_
 refine af hc ?_;refine⟨λd=>?_,λd=>?_⟩
 .refine dd ?_;rw[d];refine hU ?_
  refine⟨λq=>?_,λq=>?_⟩
  .rw[q,c6 (show ¬(true=true/\true=false) by decide),c7 (show(true=true) from V)];refine zab ?_
   refine .inl ⟨⟨false,[0,1,2],[1,2,7],[]⟩,an,uH ?_⟩;refine hO ?_
   exact uI
  .rw[q,c7 (show(true=true/\false=false) from⟨rfl,rfl⟩),c7 (show(true=true) from V)];refine zab ?_
   refine .inl ⟨⟨false,[0,1,2],[1,2,7],[]⟩,an,uH ?_⟩;refine hO ?_
   exact uI
 .rw[d,c6 (λh:false=true/\l.closed=false=>absurd h.1 aq),c6 (show ¬(false=true) by decide)];refine zab ?_
  refine .inl ⟨⟨false,[0,1,2],[1,2,7],[]⟩,an,uH ?_⟩;refine hO ?_
  exact uI
def C2(w:Wor)(m:rH)(l:rS)(hp:m.pc=10)(h0:0<=m.i)(hx:w.zc[m.i.toNat]?=some l):
  tc 151 [⟨2,81,4,(w.zc).map z1,0⟩] [Cw w,.agg (tG 0 w),Cm m] (.rO [.agg (tG 0 w),Cm (rW m 8 (IntKind.i64.wrap (m.i+1))),Ce (rY m 2 13 1)]) [⟨2,81,4,(w.zc.set m.i.toNat (vo l)).map z1,0⟩]:=by
 have m3:(w.zc.map z1).length=w.zc.length:=cY ..;have e1:0+m.i.toNat=m.i.toNat:=dF _;have gx:(w.zc.map z1)[m.i.toNat]?=some (z1 l):=by rw[cX,hx];rfl
 have rF:=(cW.1 hx).1;have hst:(w.zc.map z1).set m.i.toNat [Tx l.name,Bo l.drain,I l.zt,Bo true]=(w.zc.set m.i.toNat (vo l)).map z1:=ba
 refine aa func151 ?_;rw[m3];refine⟨λh=>absurd (dq h) ah,λ_=>dd ?_⟩;refine⟨h0,_,gx,uH ?_⟩;rw[hp];refine hU ?_
 refine zaN ?_
 rw[hst];refine .inl ⟨⟨true,[0,1,2],[2,3],[3]⟩,an,uH ?_⟩;refine af (zN (rW m 8 (IntKind.i64.wrap (m.i+1))) 2 13 1) ?_;refine hO ?_;exact⟨.inl V,_,_,.refl _,rfl,cE 1⟩
def vR(w x:Wor)(m:rH)(h:(w.zc.length:Int)<=m.i):tc 151 [] [Cw w,Cw x,Cm m] (.rO [Cw {x with lock:=0},Cm {m with done:=true,answer:=ud 11 m.answer.n},Ce {rY m 2 14 0 with done:=true,answer:=ud 11 m.answer.n}]) []:=by
 have m3:(w.zc.map z1).length=w.zc.length:=cY ..;refine ab func151 ?_;rw[m3];refine⟨λ_=>dd ?_,λh2=>absurd (dp h2) ah⟩;refine .inr ⟨⟨[0,1,2,5,7],[2],true⟩,an,λ_=>V,_,uH ?_,λt2 H2 h=>h⟩;refine⟨_,ag [] (zN m 2 14 0),uH ?_⟩;refine⟨_,ag [] (oY m (rY m 2 14 0) (ud 11 m.answer.n)),uH (uH ?_)⟩;(repeat' (first|(refine And.intro V (uH ?_))|(refine And.intro (uH ?_) trivial)|(refine And.intro ?_ ?_ <;> (conv=>whnf))))
 all_goals
  refine zaC ?_
  refine .inl ⟨⟨false,[0,1,2],[1,6,7],[]⟩,an,uH ?_⟩;refine hO ?_
  exact uI
def C5(w x:Wor)(m:rH)(r:rP)(hp:m.pc=4)(h0:0<=m.i)(hx:w.zi[m.i.toNat]?=some r)(ha:i64 r.at_)(c:r.gone=true\/Go.Lim.j0 r.at_ m.zl=false):tc 150 [] [Cw w,Cw x,Cm m] (.rO [Cw x,Cm {m with pc:=4,i:=IntKind.i64.wrap (m.i+1)},Ce (rY m 1 11 r.version)]) []:=by
 have m4:(w.zi.map zW).length=w.zi.length:=cY ..;have hg:(w.zi.map zW)[m.i.toNat]?=some (zW r):=by rw[cX,hx];rfl
 have hl:=(cW.1 hx).1;refine ab func150 ?_;rw[hp];refine hU ?_
 rw[m4];refine zaM ?_;refine⟨λg=>?_,λg=>?_⟩
 .refine zab ?_
  refine zaH ?_;refine af (zN {m with pc:=4,i:=IntKind.i64.wrap (m.i+1)} 1 11 r.version) ?_;refine hO ?_
  exact uI
 have c:Go.Lim.j0 r.at_ m.zl=false:=c.resolve_left λh=>absurd (h.symm.trans g) aq
 refine dd ?_;refine af (Go.Lim.o3 (now:=m.zl) ha.1 ha.2) ?_;rw[c];refine hU ?_
 refine zaH ?_;refine af (zN {m with pc:=4,i:=IntKind.i64.wrap (m.i+1)} 1 11 r.version) ?_;refine hO ?_
 exact uI
def C6(w x:Wor)(m:rH)(r:rP)(hp:m.pc=4)(h0:0<=m.i)(hx:w.zi[m.i.toNat]?=some r)(ha:i64 r.at_)(g:r.gone=false)(c:Go.Lim.j0 r.at_ m.zl=true):tc 150 [] [Cw w,Cw x,Cm m] (.rO [Cw x,Cm {m with version:=r.version,zn:=0,end_:=0,other:=0,slot:=0,k:=0,pc:=5},Ce (rY m 1 11 r.version)]) []:=by
 have m4:(w.zi.map zW).length=w.zi.length:=cY ..;have hg:(w.zi.map zW)[m.i.toNat]?=some (zW r):=by rw[cX,hx];rfl
 have hl:=(cW.1 hx).1;refine ab func150 ?_;rw[hp];refine hU ?_
 rw[m4];refine zaM ?_;refine⟨λh=>absurd (g.symm.trans h) aq,λ_=>dd ?_⟩;refine af (Go.Lim.o3 (now:=m.zl) ha.1 ha.2) ?_;rw[c];refine hU ?_
 refine zaH ?_;refine af (zN {m with version:=r.version,zn:=0,end_:=0,other:=0,slot:=0,k:=0,pc:=5} 1 11 r.version) ?_;refine hO ?_
 exact uI
def C7(w x:Wor)(m:rH)(v:rL)(k:Nat)(e:En)(hp:m.pc=5)(h0:0<=m.version)(hx:w.zd[m.version.toNat]?=some v)(fv:tx v)(hk:m.k=k)(he:(zY v)[k]?=some e)(c:e.zt≠0):tc 150 [] [Cw w,Cw x,Cm m] (.rO [Cw x,Cm {m with pc:=4,i:=IntKind.i64.wrap (m.i+1)},Ce (nZ m v 1 7 e.zt)]) []:=by
 have m2:(w.zd.map zw).length=w.zd.length:=cY ..;have hg:(w.zd.map zw)[m.version.toNat]?=some (zw v):=by rw[cX,hx];rfl
 have hc:=An v fv k e he;rw[<-hk]at hc;refine ab func150 ?_;rw[hp];refine hU ?_
 (try (refine uE ?_))
 refine⟨h0,_,hg,uH ?_⟩;refine af hc ?_;refine⟨λ_=>dd ?_,λh=>absurd uY c⟩;refine .inl ⟨⟨true,[0,1,2,3],[0,1,2],[5]⟩,an,uH ?_⟩;refine af (kY w {m with pc:=4,i:=IntKind.i64.wrap (m.i+1)} v 1 7 e.zt h0 hx) ?_;refine hO ?_
 exact uI
def C8(w x:Wor)(m:rH)(v:rL)(k:Nat)(e:En)(hp:m.pc=5)(h0:0<=m.version)(hx:w.zd[m.version.toNat]?=some v)(fv:tx v)(hk:m.k=k)(he:(zY v)[k]?=some e)(c:e.zt=0):tc 150 [] [Cw w,Cw x,Cm m] (.rO [Cw x,Cm (if IntKind.i64.wrap (m.k+1)<(zY v).length then {m with pc:=5,k:=IntKind.i64.wrap (m.k+1)} else {m with k:=IntKind.i64.wrap (m.k+1),pc:=6}),Ce (nZ m v 1 7 e.zt)]) []:=by
 have m2:(w.zd.map zw).length=w.zd.length:=cY ..;have hg:(w.zd.map zw)[m.version.toNat]?=some (zw v):=by rw[cX,hx];rfl
 have hc:=An v fv k e he;rw[<-hk]at hc;refine ab func150 ?_;rw[hp];refine hU ?_
 (try (refine uE ?_))
 refine⟨h0,_,hg,uH ?_⟩;refine af hc ?_;refine⟨λh=>absurd c uY,λ_=>dd ?_⟩;(try (refine uE ?_))
 refine⟨h0,_,hg,uH ?_⟩;refine af (oZ v fv) ?_;by_cases q:IntKind.i64.wrap (m.k+1)<(zY v).length
 .rw[c7 q];refine⟨λh=>absurd q aZ,λ_=>dd ?_⟩;refine .inl ⟨⟨true,[0,1,2,3],[0,1,2],[5]⟩,an,uH ?_⟩;refine af (kY w {m with pc:=5,k:=IntKind.i64.wrap (m.k+1)} v 1 7 e.zt h0 hx) ?_;refine hO ?_
  exact uI
 .rw[c6 q];refine⟨λ_=>dd ?_,λh=>absurd (dp h) ah⟩;refine .inl ⟨⟨true,[0,1,2,3],[0,1,2],[5]⟩,an,uH ?_⟩;refine af (kY w {m with k:=IntKind.i64.wrap (m.k+1),pc:=6} v 1 7 e.zt h0 hx) ?_;refine hO ?_
  exact uI
def DV(w:Wor)(m:rH)(v:rL)(r:rP)(hp:m.pc=6)(a0:0<=m.version)(hv:w.zd[m.version.toNat]?=some v)(h0:0<=m.i)(hx:w.zi[m.i.toNat]?=some r):
  tc 150 [⟨2,67,5,(w.zd).map zw,0⟩,⟨2,126,3,(w.zi).map zW,0⟩] [Cw w,.agg [I w.zl,I w.current,I w.lock,lI w.pins,.sl 0 [] 5 0 w.zd.length false,lL w.zc,rZ w.counts,.sl 1 [] 3 0 w.zi.length false],Cm m] (.rO [.agg [I w.zl,I w.current,I w.lock,lI w.pins,.sl 0 [] 5 0 w.zd.length false,lL w.zc,rZ w.counts,.sl 1 [] 3 0 w.zi.length false],Cm (tY m),Ce (rY m 2 12 m.version)]) [⟨2,67,5,(w.zd.set m.version.toNat (x7 v)).map zw,0⟩,⟨2,126,3,(w.zi.set m.i.toNat (xb r)).map zW,0⟩]:=by
 have e1:0+m.i.toNat=m.i.toNat:=dF _;have e2:0+m.version.toNat=m.version.toNat:=dF _;have av:=(cW.1 hv).1;have gv:(w.zd.map zw)[m.version.toNat]?=some (zw v):=by rw[cX,hv];rfl
 have rF:=(cW.1 hx).1;have gx:(w.zi.map zW)[m.i.toNat]?=some (zW r):=by rw[cX,hx];rfl
 have hst:(w.zi.map zW).set m.i.toNat [I r.version,I r.at_,Bo true]=(w.zi.set m.i.toNat (xb r)).map zW:=ba
 have hsv:(w.zd.map zw).set m.version.toNat [lT v.snap.zc,u1 v.snap.rules,lC v.snap.ze,lG v.zg,Bo true]=(w.zd.set m.version.toNat (x7 v)).map zw:=ba
 refine aa func150 ?_;rw[hp];refine hU ?_
 refine⟨a0,av,dd ?_⟩;rw[e2];refine⟨_,gv,rfl,dd ?_⟩;refine hO ?_
 refine zaN ?_
 rw[hst,hsv];refine .inl ⟨⟨true,[0,1,2,4],[3,4],[5]⟩,an,uH ?_⟩;refine af (zN (tY m) 2 12 m.version) ?_;exact bU
def DW(w x:Wor)(m:rH)(hp:m.pc=4)(h:(w.zi.length:Int)<=m.i):tc 150 [] [Cw w,Cw w,Cm m] (.rO [Cw (sE w (rW m 8 0)).1,Cm (sE w (rW m 8 0)).2.1,Ce (sE w (rW m 8 0)).2.2]) []:=by
 have m4:(w.zi.map zW).length=w.zi.length:=cY ..
 have hc:tc 151 [] [Cw w,Cw w,Cm (rW m 8 0)] (.rO [Cw (sE w (rW m 8 0)).1,Cm (sE w (rW m 8 0)).2.1,Ce (sE w (rW m 8 0)).2.2]) []:=by
  unfold sE;cases hl:w.zc[(rW m 8 0).i.toNat]? with
  |none=>exact vR w w (rW m 8 0) (by have:=dI.1 hl;exact Int.ofNat_le.2 this)
  |some l=>exact vQ w w (rW m 8 0) l V (gC _) hl
 refine ab func150 ?_;rw[hp];refine hU ?_
 rw[m4];refine⟨λ_=>dd ?_,λh2=>absurd (dp h2) ah⟩;refine af hc ?_;refine .inl ⟨⟨false,[0,1,2],[6,7,8],[]⟩,an,uH ?_⟩;refine hO ?_
 exact uI
end Go.Wor
namespace Go.Wor
open Go.Ab Go.Proofs Tryz Go.Gat Go.Nam Go.Hos Go.Con Go.Sna Go.Pla
open Go.Hy hiding encI
abbrev ft(w:Wor)(m:rH)(r:Wor×rH×rV):Prop:=tc 39 [] [Sw w,Sm m] (Sr r.1 r.2.1 r.2.2) []
inductive wh:Nat->Wor->rH->Wor->rH->Prop
 |last {w w':Wor} {m m':rH} {e:rV} (h:ft w m (w',m',e)) (he:e.access≠0) (hd:m'.done=true):wh 1 w m w' m'
 |more {n:Nat} {w w' w2:Wor} {m m' m2:rH} {e:rV} (h:ft w m (w',m',e)) (he:e.access≠0) (hd:m'.done=false) (hg:wh n w' m' w2 m2):wh (n+1) w m w2 m2
def Gv(hR:∀{N K:Nat} {w:Wor} {m:rH} {v:rL} {g:Gr} {e:En} {r:Wor×rH×rV},St N K w->x5 w m v g e->tn m->s9 w m v g e->m.op.kind=5->N<=100000000->qZ w m=some r->ft w m r):∀(n:Nat) {N K:Nat} {w0 w:Wor} {m:rH} {v:rL} {g:Gr} {e:En},J w0 w m n->qg w0->w0.lock=0->(w0.zc.length<1000000000/\w0.zi.length<1000000000)->St N K w->x5 w m v g e->tn m->s9 w m v g e->m.op.kind=5->N+n<=100000000->
  ∃n' m' K',wh n' w m (wz w0) m'/\1<=n'/\n'<=n/\St (N+n) K' (wz w0):=by
 intro n
 induction n using Nat.strongRecOn with
 |_ n ih=>
  intro N K w0 w m v g e hJ g0 hl hb st su tm lo hk hN;obtain⟨⟨w',m',ev⟩,h1,h2⟩:=yB st su tm lo hk ah;have hp:=hR st su tm lo hk ah h1;have nx:=Ba hJ su.done g0 hl hb h1 h2.st.jI;rcases nx with⟨hd,hc,hn⟩|⟨n',hn,hd',hJ'⟩
  .have hc:w'=wz w0:=hc;subst hc;exact⟨1,m',K+1,.last hp h2.ev hd,ah,hn,h2.st.mono ah (de _)⟩
  .rcases h2.go with⟨hd,hf⟩|⟨⟨v',g',e',hs',lo'⟩,h3⟩
   .exact absurd (hd.symm.trans hd') aq
   .obtain⟨n2,m2,K',hg,h4,h5,h6⟩:=ih n' hn hJ' g0 hl hb h2.st hs' h2.tm lo' (by rw[h2.op];exact hk) ah;exact⟨n2+1,m2,K',.more hp h2.ev hs'.done hg,ah,ah,h6.mono ah (de _)⟩
def FP(hR:∀{N K:Nat} {w:Wor} {m:rH} {v:rL} {g:Gr} {e:En} {r:Wor×rH×rV},St N K w->x5 w m v g e->tn m->s9 w m v g e->m.op.kind=5->N<=100000000->qZ w m=some r->ft w m r){N K:Nat}{w:Wor}(st:St N K w)(hN:N+qj w<=100000000):∃n m' K',wh n w wL (wM w) m'/\1<=n/\n<=qj w/\St (N+qj w) K' (wM w):=by
 have gw:=st.jI;have gr:=zZ.1 gw.ground;obtain⟨v,g,e,su⟩:=Ac gw (m:=wL) ⟨gC _,by show(0:Int)<_;have:=gr.pins.1;omega⟩ V V V V V V V V V;have lo:s9 w wL v g e:=by constructor <;> dsimp only <;> omega
 unfold wM;by_cases hl:w.lock=0
 .rw[c7 hl];have b1:=st.ty.rU;have b2:=st.ty.sD;obtain⟨n,m',K',h1,h2,h3,h4⟩:=Gv hR _ (J.p0 V) gw hl ⟨ah,ah⟩ st su kn lo V (by unfold qj at hN;omega);exact⟨n,m',K',h1,h2,ar,h4.mono ar (de _)⟩
 .rw[c6 hl];obtain⟨⟨w',m',ev⟩,h1,h2⟩:=yB st su kn lo V ah;have hp:=hR st su kn lo V ah h1;unfold qZ at h1;rw[c7 V,c6 hl]at h1;cases h1
  exact⟨1,_,K,.last hp h2.ev V,ah,ar,st.mono ah (de _)⟩
section
variable {N K:Nat} {w w':Wor} {m m':rH} {v:rL} {g:Gr} {en:En} {e:rV} {r:Wor×rH×rV}
def iJ(sw:x3 w)(ok:so w)(hl:i64 m.listen)(hs:qe w m=true)(ca:ur w m)(hp:m.pc<4)(h:tc 149 [] [Cw w,Cw w,Cm m] (Sr w' m' e) []):tc 79 [] [Cw w,Cm m] (Sr w' m' e) []:=by
 refine zaw ?_
 refine af (vd w sw) ?_;refine⟨λ_=>dd ?_,λq=>absurd (dp q) ah⟩;refine zaY ?_
 exact uI
def BI(sw:x3 w)(ok:so w)(hl:i64 m.listen)(hs:qe w m=true)(ca:ur w m)(hp:4<=m.pc)(hp2:m.pc<7)(h:tc 150 [] [Cw w,Cw w,Cm m] (Sr w' m' e) []):tc 79 [] [Cw w,Cm m] (Sr w' m' e) []:=by
 refine zaw ?_
 refine af (vd w sw) ?_;refine zaU ?_;refine⟨λ_=>dd ?_,λq=>absurd (dp q) ah⟩;refine zaY ?_
 exact uI
def B8(sw:x3 w)(ok:so w)(hl:i64 m.listen)(hs:qe w m=true)(ca:ur w m)(hp:7<=m.pc)(h:tc 151 [] [Cw w,Cw w,Cm m] (Sr w' m' e) []):tc 79 [] [Cw w,Cm m] (Sr w' m' e) []:=by
 refine zaw ?_
 refine af (vd w sw) ?_;refine zaU ?_;refine zaU ?_;refine zaY ?_
 exact uI
def HA(sw:x3 w)(ok:so w)(hl:i64 m.listen)(hs:qe w m=true)(ca:ur w m)(hp:m.pc=10){l:rS}(h0:0<=m.i)(hx:w.zc[m.i.toNat]?=some l):
  tc 79 [] [Cw w,Cm m] (Sr {w with zc:=w.zc.set m.i.toNat (vo l)} (rW m 8 (IntKind.i64.wrap (m.i+1))) (rY m 2 13 1)) []:=by
 obtain⟨l0,ls,hq⟩:∃l0 ls,w.zc=l0::ls:=by cases h:w.zc with|nil=>rw[h]at hx;simp at hx|cons a b=>exact⟨a,b,rfl⟩
 refine zaw ?_
 refine ae [] (Dp w sw l0 ls hq) ?_;refine zaU ?_;refine zaU ?_;refine ae [5] (C2 w m l hp h0 hx) ?_;(refine .inl ⟨⟨false,[0,1,2],[7,8,9],[]⟩,an,uH ?_⟩);refine hO ?_
 exact⟨.inl V,_,zm.jv 2 0 5 V V V V (.inr V) V aj (shut_map (enc:=z1) (λ_=>V) _) (qG V),rfl⟩
def Hz(sw:x3 w)(ok:so w)(hl:i64 m.listen)(hs:qe w m=true)(ca:ur w m)(hp:m.pc=6){x:rP}(a0:0<=m.version)(hv:w.zd[m.version.toNat]?=some v)(h0:0<=m.i)(hx:w.zi[m.i.toNat]?=some x):
  tc 79 [] [Cw w,Cm m] (Sr {w with zd:=w.zd.set m.version.toNat (x7 v),zi:=w.zi.set m.i.toNat (xb x)} (tY m) (rY m 2 12 m.version)) []:=by
 obtain⟨r0,rs,hq⟩:∃r0 rs,w.zi=r0::rs:=by cases h:w.zi with|nil=>rw[h]at hx;simp at hx|cons a b=>exact⟨a,b,rfl⟩
 refine zaw ?_
 refine ae [] (Dq w sw r0 rs hq (by rintro h;rw[h]at hv;simp at hv)) ?_;refine zaU ?_;refine⟨λ_=>dd ?_,λq=>absurd (dp q) ah⟩;refine ae [5,6] (DV w m v x hp a0 hv h0 hx) ?_;(refine .inl ⟨⟨false,[0,1,2],[8,9,10],[]⟩,an,uH ?_⟩);refine hO ?_
 exact⟨.inl V,_,(zm.jv 2 0 4 V V V V (.inr V) V aj (shut_map (enc:=zw) (λ_=>V) _) (qG V)).trans (zm.jv 2 0 7 V V V V (.inr V) V aj (shut_map (enc:=zW) (λ_=>V) _) (qG V)),rfl⟩
def Hw(gw:qg w)(su:x5 w m v g en)(lo:s9 w m v g en):ur w m where
 pc:=by have:=lo.pc;omega
 i:=su.i
 sW:=lo.sW
 ends p := ⟨su.version.1, v, su.sC, fg gw su.sC, lo.act p⟩
 free p:=lo.sD (.inr p)
 shut p:=by
  have q:m.pc=9\/m.pc=10:=by have:=lo.pc;omega
  obtain⟨l,h1,h2⟩:=lo.rU q;exact⟨l,h1,.inr h2⟩
def Gt(st:St N K w)(su:x5 w m v g en)(tm:tn m)(lo:s9 w m v g en)(hN:N<=100000000)(h:qZ w m=some r):tc 79 [] [Cw w,Cm m] (Sr r.1 r.2.1 r.2.2) []:=by
 have gw:=st.jI;have sw:=B9 gw st.ty hN;have ok:=iQ gw st.ty hN;have hl:=tm.listen;have hs:=Ah su;have ca:=Hw gw su lo;have si:=su.i;unfold qZ at h;by_cases p:m.pc=0
 .rw[c7 p]at h;cases h
  refine iJ sw ok hl hs ca ah ?_;by_cases q:w.lock=0
  .rw[c7 q];exact Ds w w m p q
  .rw[c6 q];exact Dv w w m p q
 rw[c6 p]at h
 clear p
 by_cases p:m.pc=1
 .rw[c7 p]at h;cases h
  exact iJ sw ok hl hs ca ah (Dt w w m p)
 rw[c6 p]at h
 clear p
 by_cases p:m.pc=2
 .rw[c7 p]at h;obtain⟨x,hx,rfl⟩:=gh.1 h;exact iJ sw ok hl hs ca ah (C3 w w m x p si hx)
 rw[c6 p]at h
 clear p
 by_cases p:m.pc=3
 .rw[c7 p]at h;cases h
  refine iJ sw ok hl hs ca ah ?_;have:=C4 w w m p;by_cases q:w.zl=m.zl/\w.zl<1000000000000
  .rw[c7 q]at this|-;exact cQ
  .rw[c6 q]at this|-;exact cQ
 rw[c6 p]at h
 clear p
 by_cases p:m.pc=4
 .rw[c7 p]at h;cases h
  refine BI sw ok hl hs ca ah ah ?_;cases hx:w.zi[m.i.toNat]? with
  |none=>exact DW w w m p (by have:=dI.1 hx;omega)
  |some x=>
   have la:=yc gw hx;have ge:=(zZ.1 gw.ground).zl;have e4:∀i:Int,({m with pc:=4,i:=i}:rH)={m with i:=i}:=λi=>by rw[<-p]
   show zb _ _ _ _ (Sr w (tz m x) (rY m 1 11 x.version)) _;by_cases c:x.gone=true\/Go.Lim.j0 x.at_ m.zl=false
   .have:=C5 w w m x p si hx ⟨ah,ah⟩ c;rw[e4]at this;rw[show tz m x=_ from c7 c];exact cQ
   .rw[show tz m x=_ from c6 c];exact C6 w w m x p si hx ⟨ah,ah⟩ (by have:=λh=>c (.inl h);simpa using this) (by have:=λh=>c (.inr h);simpa using this)
 rw[c6 p]at h
 clear p
 by_cases p:m.pc=5
 .rw[c7 p]at h;obtain⟨v',hv',h⟩:=dP.1 h;obtain⟨x,hx,rfl⟩:=gh.1 h;have sk:=su.k;have hk:m.k=(m.k.toNat:Int):=(pt sk).symm;refine BI sw ok hl hs ca ah ah ?_;show zb _ _ _ _ (Sr w (tL m v' x.zt) (lr m v' x.zt)) _;by_cases c:x.zt≠0
  .rw[show tL m v' x.zt=_ from c7 c];exact C7 w w m v' m.k.toNat x p su.version.1 hv' (fg gw hv') hk hx c
  .have:=C8 w w m v' m.k.toNat x p su.version.1 hv' (fg gw hv') hk hx (Decidable.not_not.1 c);have e5:({m with pc:=5,k:=IntKind.i64.wrap (m.k+1)}:rH)={m with k:=IntKind.i64.wrap (m.k+1)}:=by rw[<-p]
   rw[e5]at this;rw[show tL m v' x.zt=_ from c6 c];exact cQ
 rw[c6 p]at h
 clear p
 by_cases p:m.pc=6
 .rw[c7 p]at h;obtain⟨v',hv',h⟩:=dP.1 h;obtain⟨x,hx,h⟩:=dP.1 h;split at h
  rotate_left
  .cases h
  cases h
  exact Hz sw ok hl hs ca p su.version.1 hv' si hx
 rw[c6 p]at h
 clear p
 by_cases p:m.pc=8
 .rw[c7 p]at h;cases h
  refine B8 sw ok hl hs ca ah ?_;unfold sE;cases hx:w.zc[m.i.toNat]? with
  |none=>exact vR w w m (by have:=dI.1 hx;omega)
  |some l=>
   have:=vQ w w m l p si hx;have e8:({m with pc:=8,i:=IntKind.i64.wrap (m.i+1)}:rH)={m with i:=IntKind.i64.wrap (m.i+1)}:=by rw[<-p]
   rw[e8]at this;exact cQ
 rw[c6 p]at h
 clear p
 by_cases p:m.pc=9
 .rw[c7 p]at h;obtain⟨x,hx,rfl⟩:=gh.1 h;exact B8 sw ok hl hs ca ah (Dw w w m x p si hx)
 rw[c6 p]at h
 clear p
 by_cases p:m.pc=10
 .rw[c7 p]at h;obtain⟨x,hx,h⟩:=dP.1 h;split at h
  .cases h
   exact HA sw ok hl hs ca p si hx
  .cases h
 rw[c6 p]at h;cases h
end
end Go.Wor
namespace Go.Wor
open Go.Ab Go.Proofs Tryz Go.Gat Go.Nam Go.Hos Go.Con Go.Sna Go.Pla Go.Dep
open Go.Hy hiding encI
variable{w:Wor}{N:Nat}
def HB{m:rH}{r:Wor×rH×rV}(hk:m.op.kind=5)(h:tc 79 [] [Cw w,Cm m] (Sr r.1 r.2.1 r.2.2) []):ft w m r:=by
 refine ab func39 ?_;(refine⟨λq=>absurd (eq_of_beq q) bb,λ_=>dd ?_⟩)
 (refine⟨λq=>absurd (eq_of_beq q) bb,λ_=>dd ?_⟩)
 (refine⟨λq=>absurd (eq_of_beq q) bb,λ_=>dd ?_⟩)
 (refine⟨λq=>absurd (eq_of_beq q) bb,λ_=>dd ?_⟩)
 refine⟨λ_=>dd ?_,λq=>absurd (q.symm.trans (dH.2 hk)) aq⟩;refine af h ?_;refine .inl ⟨⟨false,[0,1,2],[5,6,7],[]⟩,an,uH ?_⟩;refine hO ?_
 exact uI
def FO:tc 38 [] [I 0,.agg (tf fb),lA []] (Sm wL) []:=by
 refine ab func38 ?_;refine hU ?_
 exact uI
def DS{n:Nat}{w':Wor}{t:Int}{o:ss}{m m':rH}{given:List r3}(hb:tc 38 [] [I t,.agg (tf o),lA given] (Sm m) [])(hg:wh n w m w' m')(hn:n<=10000):tc 20 [] [Sw w,I t,.agg (tf o),lA given] (.rO [Sw w',.agg (xy m'.answer),I n]) []:=by
 refine ab func20 ?_;refine af hb ?_;refine zp.inv (λi t1 H1=>∃(k:Nat) (wk:Wor) (mk:rH),k+i=n/\wh i wk mk w' m'/\t1=(.za::.za::.za::.za::.ref 0 [] 8 0 0::.za::.ref 1 [] 10 0 0::.za::.ref 2 [] 8 0 0::.ref 3 [] 13 0 0::I 0::.ref 4 [] 44 0 0::.ref 5 [] 8 0 0::I ((k+1:Nat):Int)::tJ (tJ (tJ (tJ ([.za,.za])))))/\H1=[oW w,⟨1,51,10,[tf o],0⟩,⟨1,28,8,[sF],0⟩,⟨1,57,13,[xy ⟨0,0,0,0,0,0,0,ux⟩],0⟩,oM mk,oW wk]) n ?_ ?_
 .exact⟨_,_,cC,0,w,m,aj,hg,rfl,rfl⟩
 rintro i _ _ ⟨k,wk,mk,hk,hg,rfl,rfl⟩;have hi:1<=i:=by cases hg <;> omega
 conv=>whnf
 refine uF ?_;cases hg with
 |last h he hd=>
  refine af h ?_;refine⟨λh=>absurd h (ak he),λ_=>dd ?_⟩;refine⟨λ_=>dd ?_,λh=>absurd ((hd).symm.trans h:true=false) aq⟩;refine .inl ⟨⟨false,[0,2],[4,5],[]⟩,an,uH ?_⟩;refine hO ?_
  refine zaq ?_;rw[hk];exact uI
 |more h he hd hg=>
  refine af h ?_;refine⟨λh=>absurd h (ak he),λ_=>dd ?_⟩;exact zaJ
def FN{n:Nat}{w':Wor}{m':rH}(hg:wh n w wL w' m')(hn:n<=10000):tc 20 [] [Sw w,I 0,BN,.rG 1 0 []] (.rO [Sw w',.agg (xy m'.answer),I n]) []:=
 (DS (given:=[]) FO hg hn).pre (.cons (.refl _) (.cons (.refl _) (.cons (WC.Ct (.cons (.refl _) (.cons (.refl _) (.cons (.refl _) (.cons (.refl _) (.cons (.refl _) (.cons (.refl _) (.cons (.refl _) (.cons (WC.nil 0 1) (.cons (WC.nil 0 4) (.cons (WC.nil 0 4) .nil))))))))))) (.cons (WC.nil 0 13) .nil))))
def Db(w:Wor)(n:Int)(ok:so w)(hg:qf w=true->∀k:Nat,k<10->∃j m',wh j (jY k w) wL (jY (k+1) w) m'/\j<=10000):tc 8 [] [Sw w,I n] (.rO [Sw (qU w n).1,I (qU w n).2]) []:=by
 have no:¬(qf w=true/\0<=n/\n<=10)->qU w n=(ua,1):=λh=>c6 h
 refine ab func8 ?_;refine af (vT w ok) ?_;refine⟨λh1=>?_,λh1=>?_⟩
 rotate_left
 .rw[no (by rintro⟨h,_⟩;rw[h]at h1;cases h1)];refine zab ?_
  exact bV
 have hw:=h1;refine dd ?_;refine⟨λh2=>?_,λh2=>?_⟩
 .have h2:n<0:=by simpa using h2
  rw[no ah];refine zab ?_
  exact bV
 have h2:0<=n:=ak h2
 refine dd ?_;refine⟨λh3=>?_,λh3=>?_⟩
 .have h3:10<n:=by simpa using h3
  rw[no ah];refine zab ?_
  exact bV
 have h3:n<=10:=ak h3
 obtain⟨N,rfl⟩:∃N:Nat,n=N:=⟨n.toNat,ah⟩;have e:qU w N=(jY N w,0):=by unfold qU;rw[c7 ⟨hw,h2,h3⟩,rk]
 rw[e];refine dd ?_;refine zp.seq N (λk=>(.za::I N::.ref 0 [] 8 0 0::.za::.ref 1 [] 8 0 0::I 0::I k::tJ (tJ (tJ ([.za,.za,.za,.za,.za]))))) (λk=>[oW (jY k w),⟨1,28,8,[sF],0⟩]) (λk=>True) ?_ trivial (λk hk _=>?_) (λ_=>?_)
 .exact cC
 .obtain⟨j,m',hj,hj2⟩:=hg hw k ah;conv=>whnf
  refine uF ?_;refine af (FN hj hj2) ?_;exact ck
 .exact cU
def FR{K:Nat}(n:Int)(ok:so w)(h:qf w=true->St 60 K w/\qj w<=10000):tc 8 [] [Sw w,I n] (.rO [Sw (qU w n).1,I (qU w n).2]) []:=by
 refine Db w n ok λhw k hk=>?_
 obtain⟨st,hs⟩:=h hw;have hm:(k+1)*qj w<=10*10000:=rE ah hs;rw[dN]at hm;obtain⟨K',s⟩:=fe st k ah;obtain⟨j,m',_,h1,_,h3,_⟩:=FP (λst su tm lo hk hN hr=>HB hk (Gt st su tm lo hN hr)) s (by rw[xt];omega);rw[xt]at h3;exact⟨j,m',h1,ah⟩
def Bj(hb:yL w=false)(hg:qg w):qj w<=2000:=by
 obtain⟨b1,b2,b3,b4,b5,b6⟩:=lN hb
 have q:∀r∈w.zi.drop 0,qR w r<=18:=λr _=>by
  unfold qR;split
  .rename_i v hv;have:=vC (hg.sf _ v hv).1;omega
  .omega
 have:=nH (qR w) 18 (w.zi.drop 0) q;rw[gH]at this;unfold qj s0;rw[gH];omega
def IS(h:qg w)(t:tK N w)(hN:N<=100000000):fQ w:=by
 have g:=zZ.1 h.ground
 have tq:∀v∈w.zd,v.zg.length<=4/\∀g∈v.zg,g.ends.length<=4/\1<=g.ends.length/\∀e∈g.ends,Slp.rR e=true/\e.next.length<=4/\1<=e.next.length:=λv hv=>by
  obtain⟨i,hi⟩:=di.1 hv;exact(h.sf i v hi).1.tq
 refine⟨⟨by have:=g.pins;omega,by have:=t.yk;omega,by have:=t.rU;omega,bc,by have:=t.sD;omega,λv hv=>?_,λv hv=>⟨by have:=(tq v hv).1;omega,λg hg=>by have:=((tq v hv).2 g hg).1;omega⟩⟩,λv hv=>?_,λv hv g hg e he=>((t.sL v hv).2 g hg).2 e he,λr hr=>by have:=g.counts.2 r hr;omega⟩
 .have q:=(t.sL v hv).1;exact⟨by have:=q.zc.1;omega,by have:=q.rules.1;omega,by have:=q.ze.1;omega⟩
 .have q:=(t.sL v hv).1;exact⟨by have:=q.zc.1;omega,by have:=q.rules.1;omega,by have:=q.ze.1;omega,λx hx=>(q.ze.2 x hx).2⟩
def Io(t:tK N w):i6 9223372036854775807 w:=
 ⟨λl hl=>by have:=(t.tv l hl).2.2;omega,λv hv g hg e he=>by have:=(((t.sL v hv).2 g hg).2 e he).2.2.2;omega⟩
def quietSettles_sound(w:Wor)(n:Int)(hw:Hy.Wor.okW w):tc 3 [] [Cw w,I n] (Bo true) []:=by
 have hk:=Jl hw;refine ab func3 ?_;refine af (Ft w hk.wk) ?_;refine⟨λh1=>?_,λh1=>?_⟩
 .refine zab ?_
  exact uI
 have ok:=II hw h1;have ty:=Jj hw h1
 have hs:qf w=true->St 60 9223372036854775807 w/\qj w<=10000:=λh=>
  ⟨⟨qJ.1 h,ty,Io ty⟩,by have:=Bj h1 (qJ.1 h);omega⟩
 have hx:fQ (qU w n).1:=by
  unfold qU;split
  .rename_i q;obtain⟨st,_⟩:=hs q.1;have tq:=Bj h1 st.jI;have e:n.toNat*qj w<=10*2000:=rE ah tq;obtain⟨K',s⟩:=fe st n.toNat ah;exact IS s.jI s.ty ah
  .exact⟨⟨aq,aq,aq,aq,aq,(λ_ h=>nomatch h),(λ_ h=>nomatch h)⟩,(λ_ h=>nomatch h),(λ_ h=>nomatch h),(λ_ h=>nomatch h)⟩
 refine dd ?_;have c1:=y2 n ok hs;have c2:=FR n ok hs;generalize qU w n=s at c1 c2 hx;refine af c1 ?_;refine af c2 ?_;refine af DL ?_;refine hU ?_
 refine af (Jf s.1 hx) ?_;refine hU ?_
 refine⟨λ_=>dd ?_,λh=>absurd h aj⟩;exact uI
end Go.Wor
