import Derived.Test.YtamgiodaflkbhaaGreatTS1
import Derived.Test.YtamgiodaflkbhaaGreatTU
import Derived.Test.YtamgiodaflkbhaaGreatTR
set_option linter.all false
set_option maxRecDepth 100000
set_option maxHeartbeats 4000000
namespace Go.Wor
open Go.Ab Go.Proofs Tryz Go.Gat Go.Nam Go.Hos Go.Con Go.Sna
open Go.Hy hiding encI
def Ol(w x:Wor)(m:eQ)(hp:m.pc=0)(hl:w.lock≠0):th 103 [] [Cw w,Cw x,Cm m] (.eR [Cw x,Cm {m with done:=true,answer:=wG 12},Ce {fc m 5 14 1 with done:=true,answer:=wG 12}]) []:=by
 refine ab func103 ?_;rw[hp];refine td ?_
 refine⟨λ_=>dd ?_,λhh=>absurd (ai hh) hl⟩;refine .inr ⟨⟨[0,1,2,4],[2],true⟩,ak,λ_=>V,_,uH ?_,λt2 H2 h=>h⟩;refine⟨_,ag [] (zT {m with pc:=0} 5 14 1),uH ?_⟩;refine⟨_,ag [] (xJ {m with pc:=0} (fc m 5 14 1) (wG 12)),uH (uH ?_)⟩;(repeat' (first|(refine And.intro V (uH ?_))|(refine And.intro (uH ?_) trivial)|(refine And.intro ?_ ?_ <;> (conv=>whnf))))
 all_goals
  refine zaC ?_
  refine .inl ⟨⟨false,[0,1,2],[1,6,7],[]⟩,ak,uH ?_⟩;refine tc ?_
  exact uI
def yL(w:Wor)(h:z6 w)(l0:fj)(ls:List fj)(hq:w.zc=l0::ls):th 89 [] [Cw w] (.agg (iv 0 w)) [⟨2,98,4,w.zc.map zU,0⟩]:=by
 have hq2:w.zc.map zU=zU l0::ls.map zU:=cB
 have hq4:ls.length<1000000000:=by have:=h.zc;rw[hq]at this;exact dt
 have hq3:(ls.map zU).length+1=w.zc.length:=cD
 have m1:(w.pins.map Go.Hy.encI).length=w.pins.length:=gO ..;have m2:(w.zd.map zt).length=w.zd.length:=gO ..;have m3:(w.zc.map zU).length=w.zc.length:=gO ..;have m4:(w.zn.map qh).length=w.zn.length:=gO ..;have b1:=h.pins;have b2:=h.zd.1;have b3:=h.zc;have b4:=h.zn;refine kA (fn:=f89) func89 V (uH ?_);refine zaq ?_;refine zH.seq w.zd.length (λk=>(.za::.ref 0 [] 8 0 0:: .ref 1 [] 8 0 0:: .ref 2 [] 8 0 0::I k:: .za::.za::mK (jp (jp (jp (jp (mK ([])))))))) (λk=>[oW w,⟨1,38,8,[fB],0⟩,⟨1,38,8,[[I w.zr,I w.current,I w.lock,.gl 3 1 (w.pins.map Go.Hy.encI),.gl 4 5 ((w.zd.take k).map zt),lL w.zc,ff w.counts,lR w.zn]],0⟩,⟨4,3,1,(w.pins.map Go.Hy.encI),0⟩,⟨4,106,5,((w.zd.take k).map zt),0⟩]) (λk=>True) ?_ trivial (λk hk _=>?_) (λ_=>?_)
 .exact dI
 .obtain⟨v,hv⟩:∃v,v=w.zd[k]:=⟨_,rfl⟩;have hgv:(w.zd.map zt)[k]?=some (zt v):=by rw[gM,gL hk,hv];rfl
  have sv:=h.zd.2 v tN;have m5:(v.zg.map zy).length=v.zg.length:=gO ..;have b5:=sv.1;conv=>whnf
  rw[m2];refine zaA ?_
  refine zH.seq v.zg.length (λj=>(.za::.ref 0 [] 8 0 0:: .ref 1 [] 8 0 0:: .ref 2 [] 8 0 0::I k:: .ref 5 [] 5 0 0::I j:: mK (jp (jp (jp (jp (mK ([])))))))) (λj=>[oW w,⟨1,38,8,[fB],0⟩,⟨1,38,8,[[I w.zr,I w.current,I w.lock,.gl 3 1 (w.pins.map Go.Hy.encI),.gl 4 5 ((w.zd.take k).map zt),lL w.zc,ff w.counts,lR w.zn]],0⟩,⟨4,3,1,(w.pins.map Go.Hy.encI),0⟩,⟨4,106,5,((w.zd.take k).map zt),0⟩,⟨1,106,5,[qP v.snap++[.gl 6 2 ((v.zg.take j).map zy),Bo v.qF]],0⟩,⟨4,111,2,((v.zg.take j).map zy),0⟩]) (λk=>True) ?_ trivial (λj hj _=>?_) (λ_=>?_)
  .exact dk
  .obtain⟨g,hg⟩:∃g,g=v.zg[j]:=⟨_,rfl⟩;have hgg:(v.zg.map zy)[j]?=some (zy g):=by rw[gM,gL hj,hg];rfl
   have sg:=sv.2 g tH;have m6:(g.ends.map zu).length=g.ends.length:=gO ..;have b6:=sg.1;have lG:(((v.zg.take j).map zy)).length=j:=ar
   have eG:((v.zg.take (j+1)).map zy)=((v.zg.take j).map zy)++[zy g]:=bZ
   conv=>whnf
   refine zbo ?_
   rw[m5];refine zaA ?_
   refine za7 ?_
   refine zH.seq g.ends.length (λn=>(.za::.ref 0 [] 8 0 0:: .ref 1 [] 8 0 0:: .ref 2 [] 8 0 0::I k:: .ref 5 [] 5 0 0::I j:: .ref 7 [] 2 0 0::I n:: .za::.za::.za::.za::.za::.za::mK (jp (jp (jp (jp ([]))))))) (λn=>[oW w,⟨1,38,8,[fB],0⟩,⟨1,38,8,[[I w.zr,I w.current,I w.lock,.gl 3 1 (w.pins.map Go.Hy.encI),.gl 4 5 ((w.zd.take k).map zt),lL w.zc,ff w.counts,lR w.zn]],0⟩,⟨4,3,1,(w.pins.map Go.Hy.encI),0⟩,⟨4,106,5,((w.zd.take k).map zt),0⟩,⟨1,106,5,[qP v.snap++[.gl 6 2 ((v.zg.take j).map zy),Bo v.qF]],0⟩,⟨4,111,2,((v.zg.take j).map zy),0⟩,⟨1,111,2,[[U g.zC,.gl 8 3 ((g.ends.take n).map zu)]],0⟩,⟨4,151,3,((g.ends.take n).map zu),0⟩]) (λk=>True) ?_ trivial (λn hn _=>?_) (λ_=>?_)
   .exact dj
   .obtain⟨e,he⟩:∃e,e=g.ends[n]:=⟨_,rfl⟩;have hge:(g.ends.map zu)[n]?=some (zu e):=by rw[gM,gL hn,he];rfl
    have se:=sg.2 e tI;have m7:(e.next.map Go.Hy.encI).length=e.next.length:=gO ..;have lE:(((g.ends.take n).map zu)).length=n:=ar
    have eE:((g.ends.take (n+1)).map zu)=((g.ends.take n).map zu)++[zu e]:=b9
    conv=>whnf
    refine zbo ?_
    refine za7 ?_
    rw[m6];refine zaA ?_
    refine za7 ?_
    (refine te hge ?_)
    exact c7
   .conv=>whnf
    refine zbo ?_
    refine za7 ?_
    exact cZ
  .have lV:(((w.zd.take k).map zt)).length=k:=by simp;omega
   have eV:((w.zd.take (k+1)).map zt)=((w.zd.take k).map zt)++[zt v]:=cp
   conv=>whnf
   refine zbo ?_
   exact db
 .conv=>whnf
  rw[m2];refine zaf ?_;rw[px];have m8:(w.counts.map zA).length=w.counts.length:=gO ..;have b8:=h.counts.1;refine .inr ?_;rw[hq2];refine⟨.inl V,aq,cw,uH ?_⟩;refine zH.seq w.counts.length (λk=>(.za::.ref 0 [] 8 0 0:: .ref 1 [] 8 0 0:: .ref 2 [] 8 0 0:: .za::.za::.za::.za::.za::.za::.za::I k:: .za::.za::.za::mK (jp (jp (jp (jp ([]))))))) (λk=>[oW w,⟨1,38,8,[fB],0⟩,⟨1,38,8,[[I w.zr,I w.current,I w.lock,.gl 3 1 (w.pins.map Go.Hy.encI),.gl 4 5 (w.zd.map zt),.sl 5 [] 4 0 w.zc.length false,.gl 6 1 ((w.counts.take k).map zA),lR w.zn]],0⟩,⟨4,3,1,(w.pins.map Go.Hy.encI),0⟩,⟨4,106,5,w.zd.map zt,0⟩,⟨2,98,4,w.zc.map zU,0⟩,⟨4,155,1,((w.counts.take k).map zA),0⟩]) (λk=>True) ?_ trivial (λk hk _=>?_) (λ_=>?_)
  .rw[hq3,<-hq2,show([]:List (List C)).length+w.zc.length=w.zc.length from gZ _];exact dv
  .obtain⟨r,hr⟩:∃r,r=w.counts[k]:=⟨_,rfl⟩;have hgr:(w.counts.map zA)[k]?=some (zA r):=by rw[gM,gL hk,hr];rfl
   have sr:=h.counts.2 r tJ;have lC:(((w.counts.take k).map zA)).length=k:=ar
   have eC:((w.counts.take (k+1)).map zA)=((w.counts.take k).map zA)++[zA r]:=cx
   conv=>whnf
   refine zaQ ?_
   refine⟨?_,?_⟩
   .conv=>whnf
    refine zae ?_
    refine zaq ?_;refine zae ?_
    refine zaT ?_
    refine zaC ?_
    exact de
   .refine⟨?_,trivial⟩;conv=>whnf
    refine zaq ?_;refine tc ?_
    refine⟨?_,?_⟩
    .conv=>whnf
     refine zae ?_
     refine zaT ?_
     refine zaC ?_
     exact de
    .trivial
  .conv=>whnf
   refine zbh ?_;rw[<-hq2];exact q8 [5] [0] V V V V V V
def N2(w:Wor)(h:z6 w)(r0:fg)(rs:List fg)(hq:w.zn=r0::rs)(hne:w.zd≠[]):th 89 [] [Cw w] (.agg [I w.zr,I w.current,I w.lock,lI w.pins,.sl 0 [] 5 0 w.zd.length false,lL w.zc,ff w.counts,.sl 1 [] 3 0 w.zn.length false]) [⟨2,106,5,w.zd.map zt,0⟩,⟨2,157,3,w.zn.map qh,0⟩]:=by
 have hq2:w.zn.map qh=qh r0::rs.map qh:=cB
 have hq4:rs.length<1000000000:=by have:=h.zn;rw[hq]at this;exact dt
 have hq3:(rs.map qh).length+1=w.zn.length:=cD
 have hz:Nat.beq w.zd.length 0=false:=by cases hv:w.zd with|nil=>exact absurd hv hne|cons x l=>rfl
 have m1:(w.pins.map Go.Hy.encI).length=w.pins.length:=gO ..;have m2:(w.zd.map zt).length=w.zd.length:=gO ..;have m3:(w.zc.map zU).length=w.zc.length:=gO ..;have m4:(w.zn.map qh).length=w.zn.length:=gO ..;have b1:=h.pins;have b2:=h.zd.1;have b3:=h.zc;have b4:=h.zn;refine kA (fn:=f89) func89 V (uH ?_);refine zaq ?_;refine zH.seq w.zd.length (λk=>(.za::.ref 0 [] 8 0 0:: .ref 1 [] 8 0 0:: .ref 2 [] 8 0 0::I k:: .za::.za::mK (jp (jp (jp (jp (mK ([])))))))) (λk=>[oW w,⟨1,38,8,[fB],0⟩,⟨1,38,8,[[I w.zr,I w.current,I w.lock,.gl 3 1 (w.pins.map Go.Hy.encI),cond (Nat.beq k 0) (C.eM 1 5 []) (C.sl 4 [] 5 0 k false),lL w.zc,ff w.counts,lR w.zn]],0⟩,⟨4,3,1,(w.pins.map Go.Hy.encI),0⟩,(cond (Nat.beq k 0) (⟨0,0,0,[],0⟩:Ob) ⟨2,106,5,((w.zd.take k).map zt),0⟩)]) (λk=>True) ?_ trivial (λk hk _=>?_) (λ_=>?_)
 .refine zk.trans (zk.dead 0 0) ?_;exact cC
 .obtain⟨v,hv⟩:∃v,v=w.zd[k]:=⟨_,rfl⟩;obtain⟨b,hb⟩:∃b,b=Nat.beq k 0:=⟨_,rfl⟩;rw[<-hb];have hgv:(w.zd.map zt)[k]?=some (zt v):=by rw[gM,gL hk,hv];rfl
  have sv:=h.zd.2 v tN;have m5:(v.zg.map zy).length=v.zg.length:=gO ..;have b5:=sv.1;cases b
  .skip
   conv=>whnf
   rw[m2];refine zaA ?_
   refine zH.seq v.zg.length (λj=>(.za::.ref 0 [] 8 0 0:: .ref 1 [] 8 0 0:: .ref 2 [] 8 0 0::I k:: .ref 5 [] 5 0 0::I j:: mK (jp (jp (jp (jp (mK ([])))))))) (λj=>[oW w,⟨1,38,8,[fB],0⟩,⟨1,38,8,[[I w.zr,I w.current,I w.lock,.gl 3 1 (w.pins.map Go.Hy.encI),cond false (C.eM 1 5 []) (C.sl 4 [] 5 0 k false),lL w.zc,ff w.counts,lR w.zn]],0⟩,⟨4,3,1,(w.pins.map Go.Hy.encI),0⟩,(cond false (⟨0,0,0,[],0⟩:Ob) ⟨2,106,5,((w.zd.take k).map zt),0⟩),⟨1,106,5,[qP v.snap++[.gl 6 2 ((v.zg.take j).map zy),Bo v.qF]],0⟩,⟨4,111,2,((v.zg.take j).map zy),0⟩]) (λk=>True) ?_ trivial (λj hj _=>?_) (λ_=>?_)
   .exact dk
   .obtain⟨g,hg⟩:∃g,g=v.zg[j]:=⟨_,rfl⟩;have hgg:(v.zg.map zy)[j]?=some (zy g):=by rw[gM,gL hj,hg];rfl
    have sg:=sv.2 g tH;have m6:(g.ends.map zu).length=g.ends.length:=gO ..;have b6:=sg.1;have lG:(((v.zg.take j).map zy)).length=j:=ar
    have eG:((v.zg.take (j+1)).map zy)=((v.zg.take j).map zy)++[zy g]:=bZ
    conv=>whnf
    refine zbo ?_
    rw[m5];refine zaA ?_
    refine za7 ?_
    refine zH.seq g.ends.length (λn=>(.za::.ref 0 [] 8 0 0:: .ref 1 [] 8 0 0:: .ref 2 [] 8 0 0::I k:: .ref 5 [] 5 0 0::I j:: .ref 7 [] 2 0 0::I n:: .za::.za::.za::.za::.za::.za::mK (jp (jp (jp (jp ([]))))))) (λn=>[oW w,⟨1,38,8,[fB],0⟩,⟨1,38,8,[[I w.zr,I w.current,I w.lock,.gl 3 1 (w.pins.map Go.Hy.encI),cond false (C.eM 1 5 []) (C.sl 4 [] 5 0 k false),lL w.zc,ff w.counts,lR w.zn]],0⟩,⟨4,3,1,(w.pins.map Go.Hy.encI),0⟩,(cond false (⟨0,0,0,[],0⟩:Ob) ⟨2,106,5,((w.zd.take k).map zt),0⟩),⟨1,106,5,[qP v.snap++[.gl 6 2 ((v.zg.take j).map zy),Bo v.qF]],0⟩,⟨4,111,2,((v.zg.take j).map zy),0⟩,⟨1,111,2,[[U g.zC,.gl 8 3 ((g.ends.take n).map zu)]],0⟩,⟨4,151,3,((g.ends.take n).map zu),0⟩]) (λk=>True) ?_ trivial (λn hn _=>?_) (λ_=>?_)
    .exact dj
    .obtain⟨e,he⟩:∃e,e=g.ends[n]:=⟨_,rfl⟩;have hge:(g.ends.map zu)[n]?=some (zu e):=by rw[gM,gL hn,he];rfl
     have se:=sg.2 e tI;have m7:(e.next.map Go.Hy.encI).length=e.next.length:=gO ..;have lE:(((g.ends.take n).map zu)).length=n:=ar
     have eE:((g.ends.take (n+1)).map zu)=((g.ends.take n).map zu)++[zu e]:=b9
     conv=>whnf
     refine zbo ?_
     refine za7 ?_
     rw[m6];refine zaA ?_
     refine za7 ?_
     (refine te hge ?_)
     exact c7
    .conv=>whnf
     refine zbo ?_
     refine za7 ?_
     exact cZ
   .have lV:(((w.zd.take k).map zt)).length=k:=by simp;omega
    have eV:((w.zd.take (k+1)).map zt)=((w.zd.take k).map zt)++[zt v]:=cp
    conv=>whnf
    refine zbo ?_
    rw[m5];refine zaf ?_;rw[px];conv=>whnf
    refine⟨lV,gV.2 λr hr=>gV.2 λc hc=>(shut_map (enc:=zt) (λ_=>V) (w.zd.take k) r (by rw[sG];rw[<-sG] at *;exact hr) c hc).2,aq,cF,dd ?_⟩;refine zai ?_;rw[zm an];refine(zk.eZ [0,1,2,3,7] [1,2,3,4] _ _ V V V V).trans ?_;rw[eV];exact cC
  .skip
   conv=>whnf
   rw[m2];refine zaA ?_
   refine zH.seq v.zg.length (λj=>(.za::.ref 0 [] 8 0 0:: .ref 1 [] 8 0 0:: .ref 2 [] 8 0 0::I k:: .ref 5 [] 5 0 0::I j:: mK (jp (jp (jp (jp (mK ([])))))))) (λj=>[oW w,⟨1,38,8,[fB],0⟩,⟨1,38,8,[[I w.zr,I w.current,I w.lock,.gl 3 1 (w.pins.map Go.Hy.encI),cond true (C.eM 1 5 []) (C.sl 4 [] 5 0 k false),lL w.zc,ff w.counts,lR w.zn]],0⟩,⟨4,3,1,(w.pins.map Go.Hy.encI),0⟩,(cond true (⟨0,0,0,[],0⟩:Ob) ⟨2,106,5,((w.zd.take k).map zt),0⟩),⟨1,106,5,[qP v.snap++[.gl 6 2 ((v.zg.take j).map zy),Bo v.qF]],0⟩,⟨4,111,2,((v.zg.take j).map zy),0⟩]) (λk=>True) ?_ trivial (λj hj _=>?_) (λ_=>?_)
   .exact dk
   .obtain⟨g,hg⟩:∃g,g=v.zg[j]:=⟨_,rfl⟩;have hgg:(v.zg.map zy)[j]?=some (zy g):=by rw[gM,gL hj,hg];rfl
    have sg:=sv.2 g tH;have m6:(g.ends.map zu).length=g.ends.length:=gO ..;have b6:=sg.1;have lG:(((v.zg.take j).map zy)).length=j:=ar
    have eG:((v.zg.take (j+1)).map zy)=((v.zg.take j).map zy)++[zy g]:=bZ
    conv=>whnf
    refine zbo ?_
    rw[m5];refine zaA ?_
    refine za7 ?_
    refine zH.seq g.ends.length (λn=>(.za::.ref 0 [] 8 0 0:: .ref 1 [] 8 0 0:: .ref 2 [] 8 0 0::I k:: .ref 5 [] 5 0 0::I j:: .ref 7 [] 2 0 0::I n:: .za::.za::.za::.za::.za::.za::mK (jp (jp (jp (jp ([]))))))) (λn=>[oW w,⟨1,38,8,[fB],0⟩,⟨1,38,8,[[I w.zr,I w.current,I w.lock,.gl 3 1 (w.pins.map Go.Hy.encI),cond true (C.eM 1 5 []) (C.sl 4 [] 5 0 k false),lL w.zc,ff w.counts,lR w.zn]],0⟩,⟨4,3,1,(w.pins.map Go.Hy.encI),0⟩,(cond true (⟨0,0,0,[],0⟩:Ob) ⟨2,106,5,((w.zd.take k).map zt),0⟩),⟨1,106,5,[qP v.snap++[.gl 6 2 ((v.zg.take j).map zy),Bo v.qF]],0⟩,⟨4,111,2,((v.zg.take j).map zy),0⟩,⟨1,111,2,[[U g.zC,.gl 8 3 ((g.ends.take n).map zu)]],0⟩,⟨4,151,3,((g.ends.take n).map zu),0⟩]) (λk=>True) ?_ trivial (λn hn _=>?_) (λ_=>?_)
    .exact dj
    .obtain⟨e,he⟩:∃e,e=g.ends[n]:=⟨_,rfl⟩;have hge:(g.ends.map zu)[n]?=some (zu e):=by rw[gM,gL hn,he];rfl
     have se:=sg.2 e tI;have m7:(e.next.map Go.Hy.encI).length=e.next.length:=gO ..;have lE:(((g.ends.take n).map zu)).length=n:=ar
     have eE:((g.ends.take (n+1)).map zu)=((g.ends.take n).map zu)++[zu e]:=b9
     conv=>whnf
     refine zbo ?_
     refine za7 ?_
     rw[m6];refine zaA ?_
     refine za7 ?_
     (refine te hge ?_)
     exact c7
    .conv=>whnf
     refine zbo ?_
     refine za7 ?_
     exact cZ
   .have lV:(((w.zd.take k).map zt)).length=k:=by simp;omega
    have eV:((w.zd.take (k+1)).map zt)=((w.zd.take k).map zt)++[zt v]:=cp
    conv=>whnf
    refine zbo ?_
    rw[m5];refine zaf ?_;rw[px];obtain rfl:k=0:=uw hb.symm;conv=>whnf
    refine .inr ⟨.inl V,ph V,ph V,dd ?_⟩;refine zai ?_;rw[zm an];refine(zk.eZ [0,1,2,3,7] [1,2,3,4] _ _ V V V V).trans ?_;rw[eV];exact cC
 .rw[hz];conv=>whnf
  rw[m2];refine zaf ?_;rw[px];have m8:(w.counts.map zA).length=w.counts.length:=gO ..;have b8:=h.counts.1;refine zbF ?_;refine zH.seq w.counts.length (λk=>(.za::.ref 0 [] 8 0 0:: .ref 1 [] 8 0 0:: .ref 2 [] 8 0 0:: .za::.za::.za::.za::.za::.za::.za::I k:: .za::.za::.za::mK (jp (jp (jp (jp ([]))))))) (λk=>[oW w,⟨1,38,8,[fB],0⟩,⟨1,38,8,[[I w.zr,I w.current,I w.lock,.gl 3 1 (w.pins.map Go.Hy.encI),.sl 4 [] 5 0 w.zd.length false,.gl 5 4 (w.zc.map zU),.gl 6 1 ((w.counts.take k).map zA),lR w.zn]],0⟩,⟨4,3,1,(w.pins.map Go.Hy.encI),0⟩,⟨2,106,5,w.zd.map zt,0⟩,⟨4,98,4,w.zc.map zU,0⟩,⟨4,155,1,((w.counts.take k).map zA),0⟩]) (λk=>True) ?_ trivial (λk hk _=>?_) (λ_=>?_)
  .exact dv
  .obtain⟨r,hr⟩:∃r,r=w.counts[k]:=⟨_,rfl⟩;have hgr:(w.counts.map zA)[k]?=some (zA r):=by rw[gM,gL hk,hr];rfl
   have sr:=h.counts.2 r tJ;have lC:(((w.counts.take k).map zA)).length=k:=ar
   have eC:((w.counts.take (k+1)).map zA)=((w.counts.take k).map zA)++[zA r]:=cx
   conv=>whnf
   refine zaQ ?_
   refine⟨?_,?_⟩
   .conv=>whnf
    refine zae ?_
    refine zaq ?_;refine zae ?_
    refine zaT ?_
    refine zaC ?_
    exact de
   .refine⟨?_,trivial⟩;conv=>whnf
    refine zaq ?_;refine tc ?_
    refine⟨?_,?_⟩
    .conv=>whnf
     refine zae ?_
     refine zaT ?_
     refine zaC ?_
     exact de
    .trivial
  .conv=>whnf
   refine zbV ?_;exact q8 [4,7] [0] V V V V V V
def Om(w x:Wor)(m:eQ)(l:fj)(hp:m.pc=9)(h0:0<=m.i)(hx:w.zc[m.i.toNat]?=some l):th 105 [] [Cw w,Cw x,Cm m] (.eR [Cw x,Cm (if l.zo=0 then {m with pc:=10} else fJ m 8 (IntKind.i64.wrap (m.i+1))),Ce (fc m 1 5 l.zo)]) []:=by
 have m3:(w.zc.map zU).length=w.zc.length:=gO ..;have hg:(w.zc.map zU)[m.i.toNat]?=some (zU l):=by rw[gM,hx];rfl
 have hl:=(gN.1 hx).1;refine ab func105 ?_;rw[m3];refine zbU ?_;refine⟨h0,_,hg,uH ?_⟩;rw[hp];refine td ?_
 by_cases c:l.zo=0
 .rw[gS c];refine⟨λh=>absurd c uW,λ_=>dd ?_⟩;refine zbW ?_;refine af (zT {m with pc:=10} 1 5 l.zo) ?_;refine tc ?_
  exact uI
 rw[gP c];refine⟨λ_=>dd ?_,λh=>absurd uW c⟩;refine zbW ?_;refine af (zT (fJ m 8 (IntKind.i64.wrap (m.i+1))) 1 5 l.zo) ?_;refine tc ?_
 exact uI
def H7(w x:Wor)(m:eQ)(l:fj)(hp:m.pc=8)(h0:0<=m.i)(hx:w.zc[m.i.toNat]?=some l):th 105 [] [Cw w,Cw x,Cm m] (.eR [Cw x,Cm (if l.drain=true/\l.closed=false then {m with pc:=9} else {m with pc:=8,i:=IntKind.i64.wrap (m.i+1)}),Ce (fc m 1 4 (if l.drain then 1 else 0))]) []:=by
 have m3:(w.zc.map zU).length=w.zc.length:=gO ..;have hg:(w.zc.map zU)[m.i.toNat]?=some (zU l):=by rw[gM,hx];rfl
 have hl:=(gN.1 hx).1;have hc:=zT {m with pc:=8} 1 4 0;refine ab func105 ?_;rw[m3];refine zbU ?_;refine⟨h0,_,hg,uH ?_⟩;rw[hp];refine td ?_
 refine af hc ?_;refine⟨λd=>?_,λd=>?_⟩
 .refine dd ?_;rw[d];refine td ?_
  refine⟨λq=>?_,λq=>?_⟩
  .rw[q,gP (show ¬(true=true/\true=false) by decide),gS (show(true=true) from V)];refine zac ?_
   refine .inl ⟨⟨false,[0,1,2],[1,2,7],[]⟩,ak,uH ?_⟩;refine tc ?_
   exact uI
  .rw[q,gS (show(true=true/\false=false) from⟨rfl,rfl⟩),gS (show(true=true) from V)];refine zac ?_
   refine .inl ⟨⟨false,[0,1,2],[1,2,7],[]⟩,ak,uH ?_⟩;refine tc ?_
   exact uI
 .rw[d,gP (λh:false=true/\l.closed=false=>absurd h.1 aj),gP (show ¬(false=true) by decide)];refine zac ?_
  refine .inl ⟨⟨false,[0,1,2],[1,2,7],[]⟩,ak,uH ?_⟩;refine tc ?_
  exact uI
def Nv(w:Wor)(m:eQ)(l:fj)(hp:m.pc=10)(h0:0<=m.i)(hx:w.zc[m.i.toNat]?=some l):
  th 105 [⟨2,98,4,(w.zc).map zU,0⟩] [Cw w,.agg (iv 0 w),Cm m] (.eR [.agg (iv 0 w),Cm (fJ m 8 (IntKind.i64.wrap (m.i+1))),Ce (fc m 2 13 1)]) [⟨2,98,4,(w.zc.set m.i.toNat (Ao l)).map zU,0⟩]:=by
 have m3:(w.zc.map zU).length=w.zc.length:=gO ..;have e1:0+m.i.toNat=m.i.toNat:=gZ _;have gx:(w.zc.map zU)[m.i.toNat]?=some (zU l):=by rw[gM,hx];rfl
 have eP:=(gN.1 hx).1;have hst:(w.zc.map zU).set m.i.toNat [Tx l.name,Bo l.drain,I l.zo,Bo true]=(w.zc.set m.i.toNat (Ao l)).map zU:=bE
 refine aa func105 ?_;rw[m3];refine zbU ?_;refine⟨h0,_,gx,uH ?_⟩;rw[hp];refine td ?_
 refine za8 ?_
 rw[hst];refine .inl ⟨⟨true,[0,1,2],[2,3],[3]⟩,ak,uH ?_⟩;refine af (zT (fJ m 8 (IntKind.i64.wrap (m.i+1))) 2 13 1) ?_;refine tc ?_;exact dG
def H8(w x:Wor)(m:eQ)(h:(w.zc.length:Int)<=m.i):th 105 [] [Cw w,Cw x,Cm m] (.eR [Cw {x with lock:=0},Cm {m with done:=true,answer:=As 11 m.answer.n},Ce {fc m 2 14 0 with done:=true,answer:=As 11 m.answer.n}]) []:=by
 have m3:(w.zc.map zU).length=w.zc.length:=gO ..;refine ab func105 ?_;rw[m3];refine⟨λ_=>dd ?_,λh2=>absurd (gR h2) an⟩;refine .inr ⟨⟨[0,1,2,5,7],[2],true⟩,ak,λ_=>V,_,uH ?_,λt2 H2 h=>h⟩;refine⟨_,ag [] (zT m 2 14 0),uH ?_⟩;refine⟨_,ag [] (xJ m (fc m 2 14 0) (As 11 m.answer.n)),uH (uH ?_)⟩;(repeat' (first|(refine And.intro V (uH ?_))|(refine And.intro (uH ?_) trivial)|(refine And.intro ?_ ?_ <;> (conv=>whnf))))
 all_goals
  refine zaC ?_
  refine .inl ⟨⟨false,[0,1,2],[1,6,7],[]⟩,ak,uH ?_⟩;refine tc ?_
  exact uI
def OD(w x:Wor)(m:eQ)(r:fg)(hp:m.pc=4)(h0:0<=m.i)(hx:w.zn[m.i.toNat]?=some r)(ha:i64 r.at_)(c:r.gone=true\/Go.Lim.vC r.at_ m.zr=false):th 104 [] [Cw w,Cw x,Cm m] (.eR [Cw x,Cm {m with pc:=4,i:=IntKind.i64.wrap (m.i+1)},Ce (fc m 1 11 r.version)]) []:=by
 have m4:(w.zn.map qh).length=w.zn.length:=gO ..;have hg:(w.zn.map qh)[m.i.toNat]?=some (qh r):=by rw[gM,hx];rfl
 have hl:=(gN.1 hx).1;refine ab func104 ?_;rw[hp];refine td ?_
 rw[m4];refine zbU ?_;refine⟨h0,_,hg,uH ?_⟩;refine⟨λg=>?_,λg=>?_⟩
 .refine zac ?_
  refine zbW ?_;refine af (zT {m with pc:=4,i:=IntKind.i64.wrap (m.i+1)} 1 11 r.version) ?_;refine tc ?_
  exact uI
 have c:Go.Lim.vC r.at_ m.zr=false:=c.resolve_left λh=>absurd (h.symm.trans g) aj
 refine dd ?_;refine af (Go.Lim.Jq (now:=m.zr) ha.1 ha.2) ?_;rw[c];refine td ?_
 refine zbW ?_;refine af (zT {m with pc:=4,i:=IntKind.i64.wrap (m.i+1)} 1 11 r.version) ?_;refine tc ?_
 exact uI
def OE(w x:Wor)(m:eQ)(r:fg)(hp:m.pc=4)(h0:0<=m.i)(hx:w.zn[m.i.toNat]?=some r)(ha:i64 r.at_)(g:r.gone=false)(c:Go.Lim.vC r.at_ m.zr=true):th 104 [] [Cw w,Cw x,Cm m] (.eR [Cw x,Cm {m with version:=r.version,zp:=0,end_:=0,other:=0,slot:=0,k:=0,pc:=5},Ce (fc m 1 11 r.version)]) []:=by
 have m4:(w.zn.map qh).length=w.zn.length:=gO ..;have hg:(w.zn.map qh)[m.i.toNat]?=some (qh r):=by rw[gM,hx];rfl
 have hl:=(gN.1 hx).1;refine ab func104 ?_;rw[hp];refine td ?_
 rw[m4];refine zbU ?_;refine⟨h0,_,hg,uH ?_⟩;refine⟨λh=>absurd (g.symm.trans h) aj,λ_=>dd ?_⟩;refine af (Go.Lim.Jq (now:=m.zr) ha.1 ha.2) ?_;rw[c];refine td ?_
 refine zbW ?_;refine af (zT {m with version:=r.version,zp:=0,end_:=0,other:=0,slot:=0,k:=0,pc:=5} 1 11 r.version) ?_;refine tc ?_
 exact uI
def OF(w x:Wor)(m:eQ)(v:eX)(k:Nat)(e:En)(hp:m.pc=5)(h0:0<=m.version)(hx:w.zd[m.version.toNat]?=some v)(fv:mR v)(hk:m.k=k)(he:(jb v)[k]?=some e)(c:e.zo≠0):th 104 [] [Cw w,Cw x,Cm m] (.eR [Cw x,Cm {m with pc:=4,i:=IntKind.i64.wrap (m.i+1)},Ce (fD m v 1 7 e.zo)]) []:=by
 have m2:(w.zd.map zt).length=w.zd.length:=gO ..;have hg:(w.zd.map zt)[m.version.toNat]?=some (zt v):=by rw[gM,hx];rfl
 have hc:=JQ v fv k e he;rw[<-hk]at hc;refine ab func104 ?_;rw[hp];refine td ?_
 (try (refine uE ?_))
 refine⟨h0,_,hg,uH ?_⟩;refine af hc ?_;refine⟨λ_=>dd ?_,λh=>absurd uW c⟩;refine .inl ⟨⟨true,[0,1,2,3],[0,1,2],[5]⟩,ak,uH ?_⟩;refine af (jg w {m with pc:=4,i:=IntKind.i64.wrap (m.i+1)} v 1 7 e.zo h0 hx) ?_;refine tc ?_
 exact uI
def OG(w x:Wor)(m:eQ)(v:eX)(k:Nat)(e:En)(hp:m.pc=5)(h0:0<=m.version)(hx:w.zd[m.version.toNat]?=some v)(fv:mR v)(hk:m.k=k)(he:(jb v)[k]?=some e)(c:e.zo=0):th 104 [] [Cw w,Cw x,Cm m] (.eR [Cw x,Cm (if IntKind.i64.wrap (m.k+1)<(jb v).length then {m with pc:=5,k:=IntKind.i64.wrap (m.k+1)} else {m with k:=IntKind.i64.wrap (m.k+1),pc:=6}),Ce (fD m v 1 7 e.zo)]) []:=by
 have m2:(w.zd.map zt).length=w.zd.length:=gO ..;have hg:(w.zd.map zt)[m.version.toNat]?=some (zt v):=by rw[gM,hx];rfl
 have hc:=JQ v fv k e he;rw[<-hk]at hc;refine ab func104 ?_;rw[hp];refine td ?_
 (try (refine uE ?_))
 refine⟨h0,_,hg,uH ?_⟩;refine af hc ?_;refine⟨λh=>absurd c uW,λ_=>dd ?_⟩;(try (refine uE ?_))
 refine⟨h0,_,hg,uH ?_⟩;refine af (Fe v fv) ?_;by_cases q:IntKind.i64.wrap (m.k+1)<(jb v).length
 .rw[gS q];refine⟨λh=>absurd q cA,λ_=>dd ?_⟩;refine .inl ⟨⟨true,[0,1,2,3],[0,1,2],[5]⟩,ak,uH ?_⟩;refine af (jg w {m with pc:=5,k:=IntKind.i64.wrap (m.k+1)} v 1 7 e.zo h0 hx) ?_;refine tc ?_
  exact uI
 .rw[gP q];refine⟨λ_=>dd ?_,λh=>absurd (gR h) an⟩;refine .inl ⟨⟨true,[0,1,2,3],[0,1,2],[5]⟩,ak,uH ?_⟩;refine af (jg w {m with k:=IntKind.i64.wrap (m.k+1),pc:=6} v 1 7 e.zo h0 hx) ?_;refine tc ?_
  exact uI
def PI(w:Wor)(m:eQ)(v:eX)(r:fg)(hp:m.pc=6)(a0:0<=m.version)(hv:w.zd[m.version.toNat]?=some v)(h0:0<=m.i)(hx:w.zn[m.i.toNat]?=some r):
  th 104 [⟨2,106,5,(w.zd).map zt,0⟩,⟨2,157,3,(w.zn).map qh,0⟩] [Cw w,.agg [I w.zr,I w.current,I w.lock,lI w.pins,.sl 0 [] 5 0 w.zd.length false,lL w.zc,ff w.counts,.sl 1 [] 3 0 w.zn.length false],Cm m] (.eR [.agg [I w.zr,I w.current,I w.lock,lI w.pins,.sl 0 [] 5 0 w.zd.length false,lL w.zc,ff w.counts,.sl 1 [] 3 0 w.zn.length false],Cm (Bb m),Ce (fc m 2 12 m.version)]) [⟨2,106,5,(w.zd.set m.version.toNat (AH v)).map zt,0⟩,⟨2,157,3,(w.zn.set m.i.toNat (mM r)).map qh,0⟩]:=by
 have e1:0+m.i.toNat=m.i.toNat:=gZ _;have e2:0+m.version.toNat=m.version.toNat:=gZ _;have av:=(gN.1 hv).1;have gv:(w.zd.map zt)[m.version.toNat]?=some (zt v):=by rw[gM,hv];rfl
 have eP:=(gN.1 hx).1;have gx:(w.zn.map qh)[m.i.toNat]?=some (qh r):=by rw[gM,hx];rfl
 have hst:(w.zn.map qh).set m.i.toNat [I r.version,I r.at_,Bo true]=(w.zn.set m.i.toNat (mM r)).map qh:=bE
 have hsv:(w.zd.map zt).set m.version.toNat [lT v.snap.zc,vM v.snap.rules,lC v.snap.zi,lG v.zg,Bo true]=(w.zd.set m.version.toNat (AH v)).map zt:=bE
 refine aa func104 ?_;rw[hp];refine td ?_
 refine⟨a0,av,dd ?_⟩;rw[e2];refine⟨_,gv,rfl,dd ?_⟩;refine tc ?_
 refine za8 ?_
 rw[hst,hsv];refine .inl ⟨⟨true,[0,1,2,4],[3,4],[5]⟩,ak,uH ?_⟩;refine af (zT (Bb m) 2 12 m.version) ?_;exact dq
def PJ(w x:Wor)(m:eQ)(hp:m.pc=4)(h:(w.zn.length:Int)<=m.i):th 104 [] [Cw w,Cw w,Cm m] (.eR [Cw (iY w (fJ m 8 0)).1,Cm (iY w (fJ m 8 0)).2.1,Ce (iY w (fJ m 8 0)).2.2]) []:=by
 have m4:(w.zn.map qh).length=w.zn.length:=gO ..
 have hc:th 105 [] [Cw w,Cw w,Cm (fJ m 8 0)] (.eR [Cw (iY w (fJ m 8 0)).1,Cm (iY w (fJ m 8 0)).2.1,Ce (iY w (fJ m 8 0)).2.2]) []:=by
  unfold iY;cases hl:w.zc[(fJ m 8 0).i.toNat]? with
  |none=>exact H8 w w (fJ m 8 0) (by have:=rz.1 hl;exact Int.ofNat_le.2 this)
  |some l=>exact H7 w w (fJ m 8 0) l V (sA _) hl
 refine ab func104 ?_;rw[hp];refine td ?_
 rw[m4];refine⟨λ_=>dd ?_,λh2=>absurd (gR h2) an⟩;refine af hc ?_;refine zbx ?_
 exact uI
end Go.Wor
namespace Go.Wor
open Go.Ab Go.Proofs Tryz Go.Gat Go.Nam Go.Hos Go.Con Go.Sna Go.Pla
open Go.Hy hiding encI
abbrev oa(w:Wor)(m:eQ)(r:Wor×eQ×e7):Prop:=th 23 [] [Sw w,Sm m] (Sr r.1 r.2.1 r.2.2) []
inductive GR:Nat->Wor->eQ->Wor->eQ->Prop
 |last {w w':Wor} {m m':eQ} {e:e7} (h:oa w m (w',m',e)) (he:e.access≠0) (hd:m'.done=true):GR 1 w m w' m'
 |more {n:Nat} {w w' w2:Wor} {m m' m2:eQ} {e:e7} (h:oa w m (w',m',e)) (he:e.access≠0) (hd:m'.done=false) (hg:GR n w' m' w2 m2):GR (n+1) w m w2 m2
section
variable {N K:Nat} {w w':Wor} {m m':eQ} {v:eX} {g:Gr} {en:En} {e:e7} {r:Wor×eQ×e7}
def Ef(sw:z6 w)(ok:fa w)(hl:i64 m.listen)(hs:zE w m=true)(ca:nI w m)(hp:m.pc<4)(h:th 103 [] [Cw w,Cw w,Cm m] (Sr w' m' e) []):th 52 [] [Cw w,Cm m] (Sr w' m' e) []:=by
 refine zbt ?_
 refine af (qw w sw) ?_;refine⟨λ_=>dd ?_,λq=>absurd (gR q) an⟩;refine zcm ?_
 exact uI
def LQ(sw:z6 w)(ok:fa w)(hl:i64 m.listen)(hs:zE w m=true)(ca:nI w m)(hp:4<=m.pc)(hp2:m.pc<7)(h:th 104 [] [Cw w,Cw w,Cm m] (Sr w' m' e) []):th 52 [] [Cw w,Cm m] (Sr w' m' e) []:=by
 refine zbt ?_
 refine af (qw w sw) ?_;refine zbu ?_;refine⟨λ_=>dd ?_,λq=>absurd (gR q) an⟩;refine zcm ?_
 exact uI
def Mj(sw:z6 w)(ok:fa w)(hl:i64 m.listen)(hs:zE w m=true)(ca:nI w m)(hp:7<=m.pc)(h:th 105 [] [Cw w,Cw w,Cm m] (Sr w' m' e) []):th 52 [] [Cw w,Cm m] (Sr w' m' e) []:=by
 refine zbt ?_
 refine af (qw w sw) ?_;refine zbu ?_;refine zbu ?_;refine zcm ?_
 exact uI
def Wz(sw:z6 w)(ok:fa w)(hl:i64 m.listen)(hs:zE w m=true)(ca:nI w m)(hp:m.pc=10){l:fj}(h0:0<=m.i)(hx:w.zc[m.i.toNat]?=some l):
  th 52 [] [Cw w,Cm m] (Sr {w with zc:=w.zc.set m.i.toNat (Ao l)} (fJ m 8 (IntKind.i64.wrap (m.i+1))) (fc m 2 13 1)) []:=by
 obtain⟨l0,ls,hq⟩:∃l0 ls,w.zc=l0::ls:=cG
 refine zbt ?_
 refine ae [] (yL w sw l0 ls hq) ?_;refine zbu ?_;refine zbu ?_;refine ae [5] (Nv w m l hp h0 hx) ?_;(refine .inl ⟨⟨false,[0,1,2],[7,8,9],[]⟩,ak,uH ?_⟩);refine tc ?_
 exact dD
def Wy(sw:z6 w)(ok:fa w)(hl:i64 m.listen)(hs:zE w m=true)(ca:nI w m)(hp:m.pc=6){x:fg}(a0:0<=m.version)(hv:w.zd[m.version.toNat]?=some v)(h0:0<=m.i)(hx:w.zn[m.i.toNat]?=some x):
  th 52 [] [Cw w,Cm m] (Sr {w with zd:=w.zd.set m.version.toNat (AH v),zn:=w.zn.set m.i.toNat (mM x)} (Bb m) (fc m 2 12 m.version)) []:=by
 obtain⟨r0,rs,hq⟩:∃r0 rs,w.zn=r0::rs:=by cases h:w.zn with|nil=>rw[h]at hx;simp at hx|cons a b=>exact⟨a,b,rfl⟩
 refine zbt ?_
 refine ae [] (N2 w sw r0 rs hq (by rintro h;rw[h]at hv;simp at hv)) ?_;refine zbu ?_;refine⟨λ_=>dd ?_,λq=>absurd (gR q) an⟩;refine ae [5,6] (PI w m v x hp a0 hv h0 hx) ?_;(refine .inl ⟨⟨false,[0,1,2],[8,9,10],[]⟩,ak,uH ?_⟩);refine tc ?_
 exact⟨.inl V,_,(zk.zN 2 0 4 V V V V (.inr V) V ah (shut_map (enc:=zt) (λ_=>V) _) (zB V)).trans (zk.zN 2 0 7 V V V V (.inr V) V ah (shut_map (enc:=qh) (λ_=>V) _) (zB V)),rfl⟩
def R4(gw:jX w)(ty:fG N w)(su:jN w m v g en)(tm:im m)(ca:nI w m)(hN:N<=100000000)(h:xj w m=some r):th 52 [] [Cw w,Cm m] (Sr r.1 r.2.1 r.2.2) []:=by
 have sw:=mH gw ty hN;have ok:=wV gw ty hN;have hl:=tm.listen;have hs:=vT su;have si:=su.i;unfold xj at h;by_cases p:m.pc=0
 .rw[gS p]at h;cases h
  refine Ef sw ok hl hs ca an ?_;by_cases q:w.lock=0
  .rw[gS q];exact Oz w w m p q
  .rw[gP q];exact Ol w w m p q
 rw[gP p]at h
 clear p
 by_cases p:m.pc=1
 .rw[gS p]at h;cases h
  exact Ef sw ok hl hs ca an (OA w w m p)
 rw[gP p]at h
 clear p
 by_cases p:m.pc=2
 .rw[gS p]at h;obtain⟨x,hx,rfl⟩:=pN.1 h;exact Ef sw ok hl hs ca an (OB w w m x p si hx)
 rw[gP p]at h
 clear p
 by_cases p:m.pc=3
 .rw[gS p]at h;cases h
  refine Ef sw ok hl hs ca an ?_;have:=OC w w m p;by_cases q:w.zr=m.zr/\w.zr<1000000000000
  .rw[gS q]at this|-;exact dW
  .rw[gP q]at this|-;exact dW
 rw[gP p]at h
 clear p
 by_cases p:m.pc=4
 .rw[gS p]at h;cases h
  refine LQ sw ok hl hs ca an an ?_;cases hx:w.zn[m.i.toNat]? with
  |none=>exact PJ w w m p (by have:=rz.1 hx;omega)
  |some x=>
   have la:=Bg gw hx;have ge:=(jZ.1 gw.ground).zr;have e4:∀i:Int,({m with pc:=4,i:=i}:eQ)={m with i:=i}:=λi=>by rw[<-p]
   show zb _ _ _ _ (Sr w (oz m x) (fc m 1 11 x.version)) _;by_cases c:x.gone=true\/Go.Lim.vC x.at_ m.zr=false
   .have:=OD w w m x p si hx ⟨an,an⟩ c;rw[e4]at this;rw[show oz m x=_ from gS c];exact dW
   .rw[show oz m x=_ from gP c];exact OE w w m x p si hx ⟨an,an⟩ (by have:=λh=>c (.inl h);simpa using this) (by have:=λh=>c (.inr h);simpa using this)
 rw[gP p]at h
 clear p
 by_cases p:m.pc=5
 .rw[gS p]at h;obtain⟨v',hv',h⟩:=rD.1 h;obtain⟨x,hx,rfl⟩:=pN.1 h;have sk:=su.k;have hk:m.k=(m.k.toNat:Int):=(tx sk).symm;refine LQ sw ok hl hs ca an an ?_;show zb _ _ _ _ (Sr w (o9 m v' x.zo) (EP m v' x.zo)) _;by_cases c:x.zo≠0
  .rw[show o9 m v' x.zo=_ from gS c];exact OF w w m v' m.k.toNat x p su.version.1 hv' (AG gw hv') hk hx c
  .have:=OG w w m v' m.k.toNat x p su.version.1 hv' (AG gw hv') hk hx (Decidable.not_not.1 c);have e5:({m with pc:=5,k:=IntKind.i64.wrap (m.k+1)}:eQ)={m with k:=IntKind.i64.wrap (m.k+1)}:=by rw[<-p]
   rw[e5]at this;rw[show o9 m v' x.zo=_ from gP c];exact dW
 rw[gP p]at h
 clear p
 by_cases p:m.pc=6
 .rw[gS p]at h;obtain⟨v',hv',h⟩:=rD.1 h;obtain⟨x,hx,h⟩:=rD.1 h;split at h
  rotate_left
  .cases h
  cases h
  exact Wy sw ok hl hs ca p su.version.1 hv' si hx
 rw[gP p]at h
 clear p
 by_cases p:m.pc=8
 .rw[gS p]at h;cases h
  refine Mj sw ok hl hs ca an ?_;unfold iY;cases hx:w.zc[m.i.toNat]? with
  |none=>exact H8 w w m (by have:=rz.1 hx;omega)
  |some l=>
   have:=H7 w w m l p si hx;have e8:({m with pc:=8,i:=IntKind.i64.wrap (m.i+1)}:eQ)={m with i:=IntKind.i64.wrap (m.i+1)}:=by rw[<-p]
   rw[e8]at this;exact dW
 rw[gP p]at h
 clear p
 by_cases p:m.pc=9
 .rw[gS p]at h;obtain⟨x,hx,rfl⟩:=pN.1 h;exact Mj sw ok hl hs ca an (Om w w m x p si hx)
 rw[gP p]at h
 clear p
 by_cases p:m.pc=10
 .rw[gS p]at h;obtain⟨x,hx,h⟩:=rD.1 h;split at h
  .cases h
   exact Wz sw ok hl hs ca p si hx
  .cases h
 rw[gP p]at h;cases h
end
end Go.Wor
namespace Go.Wor
open Go.Ab Go.Proofs Tryz Go.Gat Go.Nam Go.Hos Go.Con Go.Sna Go.Pla Go.Dep
open Go.Hy hiding encI
def Gp{w:Wor}{m:eQ}{r:Wor×eQ×e7}(hk:m.op.kind=5)(h:th 52 [] [Cw w,Cm m] (Sr r.1 r.2.1 r.2.2) []):oa w m r:=by
 refine ab func23 ?_;refine zaM ?_
 refine zaM ?_
 refine zaM ?_
 refine zaM ?_
 refine⟨λ_=>dd ?_,λq=>absurd (q.symm.trans (pU.2 hk)) aj⟩;refine af h ?_;refine zat ?_
 exact uI
end Go.Wor
