import Derived.Test.YtamgiodaflkbhaaGreatVS1
import Derived.Test.YtamgiodaflkbhaaGreatVU
import Derived.Test.YtamgiodaflkbhaaGreatVR
set_option linter.all false
set_option maxRecDepth 100000
set_option maxHeartbeats 4000000
namespace Go.Wor
open Go.Ab Go.Proofs Tryz Go.Gat Go.Nam Go.Hos Go.Con Go.Sna
open Go.Hy hiding encI
def OX(w x:Wor)(m:fx)(hp:m.pc=0)(hl:w.lock≠0):th 103 [] [Cw w,Cw x,Cm m] (.fy [Cw x,Cm {m with done:=true,answer:=wW 12},Ce {fI m 5 14 1 with done:=true,answer:=wW 12}]) []:=by
 refine ab func103 ?_;rw[hp];refine td ?_
 refine⟨λ_=>dd ?_,λhh=>absurd (ai hh) hl⟩;refine .inr ⟨⟨[0,1,2,4],[2],true⟩,ak,λ_=>V,_,uH ?_,λt2 H2 h=>h⟩;refine⟨_,ag [] (zS {m with pc:=0} 5 14 1),uH ?_⟩;refine⟨_,ag [] (xP {m with pc:=0} (fI m 5 14 1) (wW 12)),uH (uH ?_)⟩;(repeat' (first|(refine And.intro V (uH ?_))|(refine And.intro (uH ?_) trivial)|(refine And.intro ?_ ?_ <;> (conv=>whnf))))
 all_goals
  refine zaM ?_
  refine .inl ⟨⟨false,[0,1,2],[1,6,7],[]⟩,ak,uH ?_⟩;refine tc ?_
  exact uI
def yZ(w:Wor)(h:z6 w)(l0:fO)(ls:List fO)(hq:w.zc=l0::ls):th 89 [] [Cw w] (.agg (iU 0 w)) [⟨2,98,4,w.zc.map zT,0⟩]:=by
 have hq2:w.zc.map zT=zT l0::ls.map zT:=cL
 have hq4:ls.length<1000000000:=by have:=h.zc;rw[hq]at this;exact dL
 have hq3:(ls.map zT).length+1=w.zc.length:=cM
 have m1:(w.pins.map Go.Hy.encI).length=w.pins.length:=pz ..;have m2:(w.zd.map zt).length=w.zd.length:=pz ..;have m3:(w.zc.map zT).length=w.zc.length:=pz ..;have m4:(w.zn.map qk).length=w.zn.length:=pz ..;have b1:=h.pins;have b2:=h.zd.1;have b3:=h.zc;have b4:=h.zn;refine kR (fn:=f89) func89 V (uH ?_);refine zaz ?_;refine zH.seq w.zd.length (λk=>(.za::.ref 0 [] 8 0 0:: .ref 1 [] 8 0 0:: .ref 2 [] 8 0 0::I k:: .za::.za::mL (jp (jp (jp (jp (mL ([])))))))) (λk=>[oW w,⟨1,38,8,[fW],0⟩,⟨1,38,8,[[I w.zr,I w.current,I w.lock,.gl 3 1 (w.pins.map Go.Hy.encI),.gl 4 5 ((w.zd.take k).map zt),lL w.zc,fJ w.counts,lR w.zn]],0⟩,⟨4,3,1,(w.pins.map Go.Hy.encI),0⟩,⟨4,106,5,((w.zd.take k).map zt),0⟩]) (λk=>True) ?_ trivial (λk hk _=>?_) (λ_=>?_)
 .exact dX
 .obtain⟨v,hv⟩:∃v,v=w.zd[k]:=⟨_,rfl⟩;have hgv:(w.zd.map zt)[k]?=some (zt v):=by rw[pw,pq hk,hv];rfl
  have sv:=h.zd.2 v tN;have m5:(v.zg.map zy).length=v.zg.length:=pz ..;have b5:=sv.1;conv=>whnf
  rw[m2];refine zaK ?_
  refine zH.seq v.zg.length (λj=>(.za::.ref 0 [] 8 0 0:: .ref 1 [] 8 0 0:: .ref 2 [] 8 0 0::I k:: .ref 5 [] 5 0 0::I j:: mL (jp (jp (jp (jp (mL ([])))))))) (λj=>[oW w,⟨1,38,8,[fW],0⟩,⟨1,38,8,[[I w.zr,I w.current,I w.lock,.gl 3 1 (w.pins.map Go.Hy.encI),.gl 4 5 ((w.zd.take k).map zt),lL w.zc,fJ w.counts,lR w.zn]],0⟩,⟨4,3,1,(w.pins.map Go.Hy.encI),0⟩,⟨4,106,5,((w.zd.take k).map zt),0⟩,⟨1,106,5,[qV v.snap++[.gl 6 2 ((v.zg.take j).map zy),Bo v.qH]],0⟩,⟨4,111,2,((v.zg.take j).map zy),0⟩]) (λk=>True) ?_ trivial (λj hj _=>?_) (λ_=>?_)
  .exact dJ
  .obtain⟨g,hg⟩:∃g,g=v.zg[j]:=⟨_,rfl⟩;have hgg:(v.zg.map zy)[j]?=some (zy g):=by rw[pw,pq hj,hg];rfl
   have sg:=sv.2 g tI;have m6:(g.ends.map zx).length=g.ends.length:=pz ..;have b6:=sg.1;have lG:(((v.zg.take j).map zy)).length=j:=ar
   have eG:((v.zg.take (j+1)).map zy)=((v.zg.take j).map zy)++[zy g]:=ct
   conv=>whnf
   refine zbB ?_
   rw[m5];refine zaK ?_
   refine zbh ?_
   refine zH.seq g.ends.length (λn=>(.za::.ref 0 [] 8 0 0:: .ref 1 [] 8 0 0:: .ref 2 [] 8 0 0::I k:: .ref 5 [] 5 0 0::I j:: .ref 7 [] 2 0 0::I n:: .za::.za::.za::.za::.za::.za::mL (jp (jp (jp (jp ([]))))))) (λn=>[oW w,⟨1,38,8,[fW],0⟩,⟨1,38,8,[[I w.zr,I w.current,I w.lock,.gl 3 1 (w.pins.map Go.Hy.encI),.gl 4 5 ((w.zd.take k).map zt),lL w.zc,fJ w.counts,lR w.zn]],0⟩,⟨4,3,1,(w.pins.map Go.Hy.encI),0⟩,⟨4,106,5,((w.zd.take k).map zt),0⟩,⟨1,106,5,[qV v.snap++[.gl 6 2 ((v.zg.take j).map zy),Bo v.qH]],0⟩,⟨4,111,2,((v.zg.take j).map zy),0⟩,⟨1,111,2,[[U g.zC,.gl 8 3 ((g.ends.take n).map zx)]],0⟩,⟨4,151,3,((g.ends.take n).map zx),0⟩]) (λk=>True) ?_ trivial (λn hn _=>?_) (λ_=>?_)
   .exact dI
   .obtain⟨e,he⟩:∃e,e=g.ends[n]:=⟨_,rfl⟩;have hge:(g.ends.map zx)[n]?=some (zx e):=by rw[pw,pq hn,he];rfl
    have se:=sg.2 e tJ;have m7:(e.next.map Go.Hy.encI).length=e.next.length:=pz ..;have lE:(((g.ends.take n).map zx)).length=n:=ar
    have eE:((g.ends.take (n+1)).map zx)=((g.ends.take n).map zx)++[zx e]:=cw
    conv=>whnf
    refine zbB ?_
    refine zbh ?_
    rw[m6];refine zaK ?_
    refine zbh ?_
    (refine te hge ?_)
    exact du
   .conv=>whnf
    refine zbB ?_
    refine zbh ?_
    exact dq
  .have lV:(((w.zd.take k).map zt)).length=k:=by simp;omega
   have eV:((w.zd.take (k+1)).map zt)=((w.zd.take k).map zt)++[zt v]:=cB
   conv=>whnf
   refine zbB ?_
   exact dy
 .conv=>whnf
  rw[m2];refine zaf ?_;rw[pQ];have m8:(w.counts.map zA).length=w.counts.length:=pz ..;have b8:=h.counts.1;refine .inr ?_;rw[hq2];refine⟨.inl V,aq,cG,uH ?_⟩;refine zH.seq w.counts.length (λk=>(.za::.ref 0 [] 8 0 0:: .ref 1 [] 8 0 0:: .ref 2 [] 8 0 0:: .za::.za::.za::.za::.za::.za::.za::I k:: .za::.za::.za::mL (jp (jp (jp (jp ([]))))))) (λk=>[oW w,⟨1,38,8,[fW],0⟩,⟨1,38,8,[[I w.zr,I w.current,I w.lock,.gl 3 1 (w.pins.map Go.Hy.encI),.gl 4 5 (w.zd.map zt),.sl 5 [] 4 0 w.zc.length false,.gl 6 1 ((w.counts.take k).map zA),lR w.zn]],0⟩,⟨4,3,1,(w.pins.map Go.Hy.encI),0⟩,⟨4,106,5,w.zd.map zt,0⟩,⟨2,98,4,w.zc.map zT,0⟩,⟨4,155,1,((w.counts.take k).map zA),0⟩]) (λk=>True) ?_ trivial (λk hk _=>?_) (λ_=>?_)
  .rw[hq3,<-hq2,show([]:List (List C)).length+w.zc.length=w.zc.length from pK _];exact dP
  .obtain⟨r,hr⟩:∃r,r=w.counts[k]:=⟨_,rfl⟩;have hgr:(w.counts.map zA)[k]?=some (zA r):=by rw[pw,pq hk,hr];rfl
   have sr:=h.counts.2 r tK;have lC:(((w.counts.take k).map zA)).length=k:=ar
   have eC:((w.counts.take (k+1)).map zA)=((w.counts.take k).map zA)++[zA r]:=cH
   conv=>whnf
   refine za2 ?_
   refine⟨?_,?_⟩
   .conv=>whnf
    refine zai ?_
    refine zaz ?_;refine zai ?_
    refine za5 ?_
    refine zaM ?_
    exact dz
   .refine⟨?_,trivial⟩;conv=>whnf
    refine zaz ?_;refine tc ?_
    refine⟨?_,?_⟩
    .conv=>whnf
     refine zai ?_
     refine za5 ?_
     refine zaM ?_
     exact dz
    .trivial
  .conv=>whnf
   refine zbu ?_;rw[<-hq2];exact ja [5] [0] V V V V V V
def Pq(w:Wor)(h:z6 w)(r0:fK)(rs:List fK)(hq:w.zn=r0::rs)(hne:w.zd≠[]):th 89 [] [Cw w] (.agg [I w.zr,I w.current,I w.lock,lI w.pins,.sl 0 [] 5 0 w.zd.length false,lL w.zc,fJ w.counts,.sl 1 [] 3 0 w.zn.length false]) [⟨2,106,5,w.zd.map zt,0⟩,⟨2,157,3,w.zn.map qk,0⟩]:=by
 have hq2:w.zn.map qk=qk r0::rs.map qk:=cL
 have hq4:rs.length<1000000000:=by have:=h.zn;rw[hq]at this;exact dL
 have hq3:(rs.map qk).length+1=w.zn.length:=cM
 have hz:Nat.beq w.zd.length 0=false:=by cases hv:w.zd with|nil=>exact absurd hv hne|cons x l=>rfl
 have m1:(w.pins.map Go.Hy.encI).length=w.pins.length:=pz ..;have m2:(w.zd.map zt).length=w.zd.length:=pz ..;have m3:(w.zc.map zT).length=w.zc.length:=pz ..;have m4:(w.zn.map qk).length=w.zn.length:=pz ..;have b1:=h.pins;have b2:=h.zd.1;have b3:=h.zc;have b4:=h.zn;refine kR (fn:=f89) func89 V (uH ?_);refine zaz ?_;refine zH.seq w.zd.length (λk=>(.za::.ref 0 [] 8 0 0:: .ref 1 [] 8 0 0:: .ref 2 [] 8 0 0::I k:: .za::.za::mL (jp (jp (jp (jp (mL ([])))))))) (λk=>[oW w,⟨1,38,8,[fW],0⟩,⟨1,38,8,[[I w.zr,I w.current,I w.lock,.gl 3 1 (w.pins.map Go.Hy.encI),cond (Nat.beq k 0) (C.fq 1 5 []) (C.sl 4 [] 5 0 k false),lL w.zc,fJ w.counts,lR w.zn]],0⟩,⟨4,3,1,(w.pins.map Go.Hy.encI),0⟩,(cond (Nat.beq k 0) (⟨0,0,0,[],0⟩:Ob) ⟨2,106,5,((w.zd.take k).map zt),0⟩)]) (λk=>True) ?_ trivial (λk hk _=>?_) (λ_=>?_)
 .refine zl.trans (zl.dead 0 0) ?_;exact cC
 .obtain⟨v,hv⟩:∃v,v=w.zd[k]:=⟨_,rfl⟩;obtain⟨b,hb⟩:∃b,b=Nat.beq k 0:=⟨_,rfl⟩;rw[<-hb];have hgv:(w.zd.map zt)[k]?=some (zt v):=by rw[pw,pq hk,hv];rfl
  have sv:=h.zd.2 v tN;have m5:(v.zg.map zy).length=v.zg.length:=pz ..;have b5:=sv.1;cases b
  .skip
   conv=>whnf
   rw[m2];refine zaK ?_
   refine zH.seq v.zg.length (λj=>(.za::.ref 0 [] 8 0 0:: .ref 1 [] 8 0 0:: .ref 2 [] 8 0 0::I k:: .ref 5 [] 5 0 0::I j:: mL (jp (jp (jp (jp (mL ([])))))))) (λj=>[oW w,⟨1,38,8,[fW],0⟩,⟨1,38,8,[[I w.zr,I w.current,I w.lock,.gl 3 1 (w.pins.map Go.Hy.encI),cond false (C.fq 1 5 []) (C.sl 4 [] 5 0 k false),lL w.zc,fJ w.counts,lR w.zn]],0⟩,⟨4,3,1,(w.pins.map Go.Hy.encI),0⟩,(cond false (⟨0,0,0,[],0⟩:Ob) ⟨2,106,5,((w.zd.take k).map zt),0⟩),⟨1,106,5,[qV v.snap++[.gl 6 2 ((v.zg.take j).map zy),Bo v.qH]],0⟩,⟨4,111,2,((v.zg.take j).map zy),0⟩]) (λk=>True) ?_ trivial (λj hj _=>?_) (λ_=>?_)
   .exact dJ
   .obtain⟨g,hg⟩:∃g,g=v.zg[j]:=⟨_,rfl⟩;have hgg:(v.zg.map zy)[j]?=some (zy g):=by rw[pw,pq hj,hg];rfl
    have sg:=sv.2 g tI;have m6:(g.ends.map zx).length=g.ends.length:=pz ..;have b6:=sg.1;have lG:(((v.zg.take j).map zy)).length=j:=ar
    have eG:((v.zg.take (j+1)).map zy)=((v.zg.take j).map zy)++[zy g]:=ct
    conv=>whnf
    refine zbB ?_
    rw[m5];refine zaK ?_
    refine zbh ?_
    refine zH.seq g.ends.length (λn=>(.za::.ref 0 [] 8 0 0:: .ref 1 [] 8 0 0:: .ref 2 [] 8 0 0::I k:: .ref 5 [] 5 0 0::I j:: .ref 7 [] 2 0 0::I n:: .za::.za::.za::.za::.za::.za::mL (jp (jp (jp (jp ([]))))))) (λn=>[oW w,⟨1,38,8,[fW],0⟩,⟨1,38,8,[[I w.zr,I w.current,I w.lock,.gl 3 1 (w.pins.map Go.Hy.encI),cond false (C.fq 1 5 []) (C.sl 4 [] 5 0 k false),lL w.zc,fJ w.counts,lR w.zn]],0⟩,⟨4,3,1,(w.pins.map Go.Hy.encI),0⟩,(cond false (⟨0,0,0,[],0⟩:Ob) ⟨2,106,5,((w.zd.take k).map zt),0⟩),⟨1,106,5,[qV v.snap++[.gl 6 2 ((v.zg.take j).map zy),Bo v.qH]],0⟩,⟨4,111,2,((v.zg.take j).map zy),0⟩,⟨1,111,2,[[U g.zC,.gl 8 3 ((g.ends.take n).map zx)]],0⟩,⟨4,151,3,((g.ends.take n).map zx),0⟩]) (λk=>True) ?_ trivial (λn hn _=>?_) (λ_=>?_)
    .exact dI
    .obtain⟨e,he⟩:∃e,e=g.ends[n]:=⟨_,rfl⟩;have hge:(g.ends.map zx)[n]?=some (zx e):=by rw[pw,pq hn,he];rfl
     have se:=sg.2 e tJ;have m7:(e.next.map Go.Hy.encI).length=e.next.length:=pz ..;have lE:(((g.ends.take n).map zx)).length=n:=ar
     have eE:((g.ends.take (n+1)).map zx)=((g.ends.take n).map zx)++[zx e]:=cw
     conv=>whnf
     refine zbB ?_
     refine zbh ?_
     rw[m6];refine zaK ?_
     refine zbh ?_
     (refine te hge ?_)
     exact du
    .conv=>whnf
     refine zbB ?_
     refine zbh ?_
     exact dq
   .have lV:(((w.zd.take k).map zt)).length=k:=by simp;omega
    have eV:((w.zd.take (k+1)).map zt)=((w.zd.take k).map zt)++[zt v]:=cB
    conv=>whnf
    refine zbB ?_
    rw[m5];refine zaf ?_;rw[pQ];conv=>whnf
    refine⟨lV,pG.2 λr hr=>pG.2 λc hc=>(shut_map (enc:=zt) (λ_=>V) (w.zd.take k) r (by rw[s5];rw[<-s5] at *;exact hr) c hc).2,aq,cN,dd ?_⟩;refine zap ?_;rw[zk an];refine(zl.fD [0,1,2,3,7] [1,2,3,4] _ _ V V V V).trans ?_;rw[eV];exact cC
  .skip
   conv=>whnf
   rw[m2];refine zaK ?_
   refine zH.seq v.zg.length (λj=>(.za::.ref 0 [] 8 0 0:: .ref 1 [] 8 0 0:: .ref 2 [] 8 0 0::I k:: .ref 5 [] 5 0 0::I j:: mL (jp (jp (jp (jp (mL ([])))))))) (λj=>[oW w,⟨1,38,8,[fW],0⟩,⟨1,38,8,[[I w.zr,I w.current,I w.lock,.gl 3 1 (w.pins.map Go.Hy.encI),cond true (C.fq 1 5 []) (C.sl 4 [] 5 0 k false),lL w.zc,fJ w.counts,lR w.zn]],0⟩,⟨4,3,1,(w.pins.map Go.Hy.encI),0⟩,(cond true (⟨0,0,0,[],0⟩:Ob) ⟨2,106,5,((w.zd.take k).map zt),0⟩),⟨1,106,5,[qV v.snap++[.gl 6 2 ((v.zg.take j).map zy),Bo v.qH]],0⟩,⟨4,111,2,((v.zg.take j).map zy),0⟩]) (λk=>True) ?_ trivial (λj hj _=>?_) (λ_=>?_)
   .exact dJ
   .obtain⟨g,hg⟩:∃g,g=v.zg[j]:=⟨_,rfl⟩;have hgg:(v.zg.map zy)[j]?=some (zy g):=by rw[pw,pq hj,hg];rfl
    have sg:=sv.2 g tI;have m6:(g.ends.map zx).length=g.ends.length:=pz ..;have b6:=sg.1;have lG:(((v.zg.take j).map zy)).length=j:=ar
    have eG:((v.zg.take (j+1)).map zy)=((v.zg.take j).map zy)++[zy g]:=ct
    conv=>whnf
    refine zbB ?_
    rw[m5];refine zaK ?_
    refine zbh ?_
    refine zH.seq g.ends.length (λn=>(.za::.ref 0 [] 8 0 0:: .ref 1 [] 8 0 0:: .ref 2 [] 8 0 0::I k:: .ref 5 [] 5 0 0::I j:: .ref 7 [] 2 0 0::I n:: .za::.za::.za::.za::.za::.za::mL (jp (jp (jp (jp ([]))))))) (λn=>[oW w,⟨1,38,8,[fW],0⟩,⟨1,38,8,[[I w.zr,I w.current,I w.lock,.gl 3 1 (w.pins.map Go.Hy.encI),cond true (C.fq 1 5 []) (C.sl 4 [] 5 0 k false),lL w.zc,fJ w.counts,lR w.zn]],0⟩,⟨4,3,1,(w.pins.map Go.Hy.encI),0⟩,(cond true (⟨0,0,0,[],0⟩:Ob) ⟨2,106,5,((w.zd.take k).map zt),0⟩),⟨1,106,5,[qV v.snap++[.gl 6 2 ((v.zg.take j).map zy),Bo v.qH]],0⟩,⟨4,111,2,((v.zg.take j).map zy),0⟩,⟨1,111,2,[[U g.zC,.gl 8 3 ((g.ends.take n).map zx)]],0⟩,⟨4,151,3,((g.ends.take n).map zx),0⟩]) (λk=>True) ?_ trivial (λn hn _=>?_) (λ_=>?_)
    .exact dI
    .obtain⟨e,he⟩:∃e,e=g.ends[n]:=⟨_,rfl⟩;have hge:(g.ends.map zx)[n]?=some (zx e):=by rw[pw,pq hn,he];rfl
     have se:=sg.2 e tJ;have m7:(e.next.map Go.Hy.encI).length=e.next.length:=pz ..;have lE:(((g.ends.take n).map zx)).length=n:=ar
     have eE:((g.ends.take (n+1)).map zx)=((g.ends.take n).map zx)++[zx e]:=cw
     conv=>whnf
     refine zbB ?_
     refine zbh ?_
     rw[m6];refine zaK ?_
     refine zbh ?_
     (refine te hge ?_)
     exact du
    .conv=>whnf
     refine zbB ?_
     refine zbh ?_
     exact dq
   .have lV:(((w.zd.take k).map zt)).length=k:=by simp;omega
    have eV:((w.zd.take (k+1)).map zt)=((w.zd.take k).map zt)++[zt v]:=cB
    conv=>whnf
    refine zbB ?_
    rw[m5];refine zaf ?_;rw[pQ];obtain rfl:k=0:=eI hb.symm;conv=>whnf
    refine .inr ⟨.inl V,pO V,pO V,dd ?_⟩;refine zap ?_;rw[zk an];refine(zl.fD [0,1,2,3,7] [1,2,3,4] _ _ V V V V).trans ?_;rw[eV];exact cC
 .rw[hz];conv=>whnf
  rw[m2];refine zaf ?_;rw[pQ];have m8:(w.counts.map zA).length=w.counts.length:=pz ..;have b8:=h.counts.1;refine zbT ?_;refine zH.seq w.counts.length (λk=>(.za::.ref 0 [] 8 0 0:: .ref 1 [] 8 0 0:: .ref 2 [] 8 0 0:: .za::.za::.za::.za::.za::.za::.za::I k:: .za::.za::.za::mL (jp (jp (jp (jp ([]))))))) (λk=>[oW w,⟨1,38,8,[fW],0⟩,⟨1,38,8,[[I w.zr,I w.current,I w.lock,.gl 3 1 (w.pins.map Go.Hy.encI),.sl 4 [] 5 0 w.zd.length false,.gl 5 4 (w.zc.map zT),.gl 6 1 ((w.counts.take k).map zA),lR w.zn]],0⟩,⟨4,3,1,(w.pins.map Go.Hy.encI),0⟩,⟨2,106,5,w.zd.map zt,0⟩,⟨4,98,4,w.zc.map zT,0⟩,⟨4,155,1,((w.counts.take k).map zA),0⟩]) (λk=>True) ?_ trivial (λk hk _=>?_) (λ_=>?_)
  .exact dP
  .obtain⟨r,hr⟩:∃r,r=w.counts[k]:=⟨_,rfl⟩;have hgr:(w.counts.map zA)[k]?=some (zA r):=by rw[pw,pq hk,hr];rfl
   have sr:=h.counts.2 r tK;have lC:(((w.counts.take k).map zA)).length=k:=ar
   have eC:((w.counts.take (k+1)).map zA)=((w.counts.take k).map zA)++[zA r]:=cH
   conv=>whnf
   refine za2 ?_
   refine⟨?_,?_⟩
   .conv=>whnf
    refine zai ?_
    refine zaz ?_;refine zai ?_
    refine za5 ?_
    refine zaM ?_
    exact dz
   .refine⟨?_,trivial⟩;conv=>whnf
    refine zaz ?_;refine tc ?_
    refine⟨?_,?_⟩
    .conv=>whnf
     refine zai ?_
     refine za5 ?_
     refine zaM ?_
     exact dz
    .trivial
  .conv=>whnf
   refine zb9 ?_;exact ja [4,7] [0] V V V V V V
def OY(w x:Wor)(m:fx)(l:fO)(hp:m.pc=9)(h0:0<=m.i)(hx:w.zc[m.i.toNat]?=some l):th 105 [] [Cw w,Cw x,Cm m] (.fy [Cw x,Cm (if l.zo=0 then {m with pc:=10} else im m 8 (IntKind.i64.wrap (m.i+1))),Ce (fI m 1 5 l.zo)]) []:=by
 have m3:(w.zc.map zT).length=w.zc.length:=pz ..;have hg:(w.zc.map zT)[m.i.toNat]?=some (zT l):=by rw[pw,hx];rfl
 have hl:=(px.1 hx).1;refine ab func105 ?_;rw[m3];refine zcg ?_;rw[hp];refine td ?_
 by_cases c:l.zo=0
 .rw[pD c];refine⟨λh=>absurd c uW,λ_=>dd ?_⟩;refine zca ?_;refine af (zS {m with pc:=10} 1 5 l.zo) ?_;refine tc ?_
  exact uI
 rw[pA c];refine⟨λ_=>dd ?_,λh=>absurd uW c⟩;refine zca ?_;refine af (zS (im m 8 (IntKind.i64.wrap (m.i+1))) 1 5 l.zo) ?_;refine tc ?_
 exact uI
def I2(w x:Wor)(m:fx)(l:fO)(hp:m.pc=8)(h0:0<=m.i)(hx:w.zc[m.i.toNat]?=some l):th 105 [] [Cw w,Cw x,Cm m] (.fy [Cw x,Cm (if l.drain=true/\l.closed=false then {m with pc:=9} else {m with pc:=8,i:=IntKind.i64.wrap (m.i+1)}),Ce (fI m 1 4 (if l.drain then 1 else 0))]) []:=by
 have m3:(w.zc.map zT).length=w.zc.length:=pz ..;have hg:(w.zc.map zT)[m.i.toNat]?=some (zT l):=by rw[pw,hx];rfl
 have hl:=(px.1 hx).1;have hc:=zS {m with pc:=8} 1 4 0;refine ab func105 ?_;rw[m3];refine zcg ?_;rw[hp];refine td ?_
 refine af hc ?_;refine⟨λd=>?_,λd=>?_⟩
 .refine dd ?_;rw[d];refine td ?_
  refine⟨λq=>?_,λq=>?_⟩
  .rw[q,pA (show ¬(true=true/\true=false) by decide),pD (show(true=true) from V)];refine zac ?_
   refine .inl ⟨⟨false,[0,1,2],[1,2,7],[]⟩,ak,uH ?_⟩;refine tc ?_
   exact uI
  .rw[q,pD (show(true=true/\false=false) from⟨rfl,rfl⟩),pD (show(true=true) from V)];refine zac ?_
   refine .inl ⟨⟨false,[0,1,2],[1,2,7],[]⟩,ak,uH ?_⟩;refine tc ?_
   exact uI
 .rw[d,pA (λh:false=true/\l.closed=false=>absurd h.1 aj),pA (show ¬(false=true) by decide)];refine zac ?_
  refine .inl ⟨⟨false,[0,1,2],[1,2,7],[]⟩,ak,uH ?_⟩;refine tc ?_
  exact uI
def Ok(w:Wor)(m:fx)(l:fO)(hp:m.pc=10)(h0:0<=m.i)(hx:w.zc[m.i.toNat]?=some l):
  th 105 [⟨2,98,4,(w.zc).map zT,0⟩] [Cw w,.agg (iU 0 w),Cm m] (.fy [.agg (iU 0 w),Cm (im m 8 (IntKind.i64.wrap (m.i+1))),Ce (fI m 2 13 1)]) [⟨2,98,4,(w.zc.set m.i.toNat (AZ l)).map zT,0⟩]:=by
 have m3:(w.zc.map zT).length=w.zc.length:=pz ..;have e1:0+m.i.toNat=m.i.toNat:=pK _;have gx:(w.zc.map zT)[m.i.toNat]?=some (zT l):=by rw[pw,hx];rfl
 have ft:=(px.1 hx).1;have hst:(w.zc.map zT).set m.i.toNat [Tx l.name,Bo l.drain,I l.zo,Bo true]=(w.zc.set m.i.toNat (AZ l)).map zT:=bO
 refine aa func105 ?_;rw[m3];refine⟨λh=>absurd (pC h) an,λ_=>dd ?_⟩;refine⟨h0,_,gx,uH ?_⟩;rw[hp];refine td ?_
 refine zbl ?_
 rw[hst];refine .inl ⟨⟨true,[0,1,2],[2,3],[3]⟩,ak,uH ?_⟩;refine af (zS (im m 8 (IntKind.i64.wrap (m.i+1))) 2 13 1) ?_;refine tc ?_;exact dF
def I3(w x:Wor)(m:fx)(h:(w.zc.length:Int)<=m.i):th 105 [] [Cw w,Cw x,Cm m] (.fy [Cw {x with lock:=0},Cm {m with done:=true,answer:=Bh 11 m.answer.n},Ce {fI m 2 14 0 with done:=true,answer:=Bh 11 m.answer.n}]) []:=by
 have m3:(w.zc.map zT).length=w.zc.length:=pz ..;refine ab func105 ?_;rw[m3];refine⟨λ_=>dd ?_,λh2=>absurd (pB h2) an⟩;refine .inr ⟨⟨[0,1,2,5,7],[2],true⟩,ak,λ_=>V,_,uH ?_,λt2 H2 h=>h⟩;refine⟨_,ag [] (zS m 2 14 0),uH ?_⟩;refine⟨_,ag [] (xP m (fI m 2 14 0) (Bh 11 m.answer.n)),uH (uH ?_)⟩;(repeat' (first|(refine And.intro V (uH ?_))|(refine And.intro (uH ?_) trivial)|(refine And.intro ?_ ?_ <;> (conv=>whnf))))
 all_goals
  refine zaM ?_
  refine .inl ⟨⟨false,[0,1,2],[1,6,7],[]⟩,ak,uH ?_⟩;refine tc ?_
  exact uI
def Pz(w x:Wor)(m:fx)(r:fK)(hp:m.pc=4)(h0:0<=m.i)(hx:w.zn[m.i.toNat]?=some r)(ha:i64 r.at_)(c:r.gone=true\/Go.Lim.vU r.at_ m.zr=false):th 104 [] [Cw w,Cw x,Cm m] (.fy [Cw x,Cm {m with pc:=4,i:=IntKind.i64.wrap (m.i+1)},Ce (fI m 1 11 r.version)]) []:=by
 have m4:(w.zn.map qk).length=w.zn.length:=pz ..;have hg:(w.zn.map qk)[m.i.toNat]?=some (qk r):=by rw[pw,hx];rfl
 have hl:=(px.1 hx).1;refine ab func104 ?_;rw[hp];refine td ?_
 rw[m4];refine zcg ?_;refine⟨λg=>?_,λg=>?_⟩
 .refine zac ?_
  refine zca ?_;refine af (zS {m with pc:=4,i:=IntKind.i64.wrap (m.i+1)} 1 11 r.version) ?_;refine tc ?_
  exact uI
 have c:Go.Lim.vU r.at_ m.zr=false:=c.resolve_left λh=>absurd (h.symm.trans g) aj
 refine dd ?_;refine af (Go.Lim.Ju (now:=m.zr) ha.1 ha.2) ?_;rw[c];refine td ?_
 refine zca ?_;refine af (zS {m with pc:=4,i:=IntKind.i64.wrap (m.i+1)} 1 11 r.version) ?_;refine tc ?_
 exact uI
def PA(w x:Wor)(m:fx)(r:fK)(hp:m.pc=4)(h0:0<=m.i)(hx:w.zn[m.i.toNat]?=some r)(ha:i64 r.at_)(g:r.gone=false)(c:Go.Lim.vU r.at_ m.zr=true):th 104 [] [Cw w,Cw x,Cm m] (.fy [Cw x,Cm {m with version:=r.version,zp:=0,end_:=0,other:=0,slot:=0,k:=0,pc:=5},Ce (fI m 1 11 r.version)]) []:=by
 have m4:(w.zn.map qk).length=w.zn.length:=pz ..;have hg:(w.zn.map qk)[m.i.toNat]?=some (qk r):=by rw[pw,hx];rfl
 have hl:=(px.1 hx).1;refine ab func104 ?_;rw[hp];refine td ?_
 rw[m4];refine zcg ?_;refine⟨λh=>absurd (g.symm.trans h) aj,λ_=>dd ?_⟩;refine af (Go.Lim.Ju (now:=m.zr) ha.1 ha.2) ?_;rw[c];refine td ?_
 refine zca ?_;refine af (zS {m with version:=r.version,zp:=0,end_:=0,other:=0,slot:=0,k:=0,pc:=5} 1 11 r.version) ?_;refine tc ?_
 exact uI
def PB(w x:Wor)(m:fx)(v:fC)(k:Nat)(e:En)(hp:m.pc=5)(h0:0<=m.version)(hx:w.zd[m.version.toNat]?=some v)(fv:nF v)(hk:m.k=k)(he:(jf v)[k]?=some e)(c:e.zo≠0):th 104 [] [Cw w,Cw x,Cm m] (.fy [Cw x,Cm {m with pc:=4,i:=IntKind.i64.wrap (m.i+1)},Ce (ib m v 1 7 e.zo)]) []:=by
 have m2:(w.zd.map zt).length=w.zd.length:=pz ..;have hg:(w.zd.map zt)[m.version.toNat]?=some (zt v):=by rw[pw,hx];rfl
 have hc:=Kz v fv k e he;rw[<-hk]at hc;refine ab func104 ?_;rw[hp];refine td ?_
 (try (refine uE ?_))
 refine⟨h0,_,hg,uH ?_⟩;refine af hc ?_;refine⟨λ_=>dd ?_,λh=>absurd uW c⟩;refine .inl ⟨⟨true,[0,1,2,3],[0,1,2],[5]⟩,ak,uH ?_⟩;refine af (jk w {m with pc:=4,i:=IntKind.i64.wrap (m.i+1)} v 1 7 e.zo h0 hx) ?_;refine tc ?_
 exact uI
def O3(w x:Wor)(m:fx)(v:fC)(k:Nat)(e:En)(hp:m.pc=5)(h0:0<=m.version)(hx:w.zd[m.version.toNat]?=some v)(fv:nF v)(hk:m.k=k)(he:(jf v)[k]?=some e)(c:e.zo=0):th 104 [] [Cw w,Cw x,Cm m] (.fy [Cw x,Cm (if IntKind.i64.wrap (m.k+1)<(jf v).length then {m with pc:=5,k:=IntKind.i64.wrap (m.k+1)} else {m with k:=IntKind.i64.wrap (m.k+1),pc:=6}),Ce (ib m v 1 7 e.zo)]) []:=by
 have m2:(w.zd.map zt).length=w.zd.length:=pz ..;have hg:(w.zd.map zt)[m.version.toNat]?=some (zt v):=by rw[pw,hx];rfl
 have hc:=Kz v fv k e he;rw[<-hk]at hc;refine ab func104 ?_;rw[hp];refine td ?_
 (try (refine uE ?_))
 refine⟨h0,_,hg,uH ?_⟩;refine af hc ?_;refine⟨λh=>absurd c uW,λ_=>dd ?_⟩;(try (refine uE ?_))
 refine⟨h0,_,hg,uH ?_⟩;refine af (FQ v fv) ?_;by_cases q:IntKind.i64.wrap (m.k+1)<(jf v).length
 .rw[pD q];refine⟨λh=>absurd q cK,λ_=>dd ?_⟩;refine .inl ⟨⟨true,[0,1,2,3],[0,1,2],[5]⟩,ak,uH ?_⟩;refine af (jk w {m with pc:=5,k:=IntKind.i64.wrap (m.k+1)} v 1 7 e.zo h0 hx) ?_;refine tc ?_
  exact uI
 .rw[pA q];refine⟨λ_=>dd ?_,λh=>absurd (pB h) an⟩;refine .inl ⟨⟨true,[0,1,2,3],[0,1,2],[5]⟩,ak,uH ?_⟩;refine af (jk w {m with k:=IntKind.i64.wrap (m.k+1),pc:=6} v 1 7 e.zo h0 hx) ?_;refine tc ?_
  exact uI
def P7(w:Wor)(m:fx)(v:fC)(r:fK)(hp:m.pc=6)(a0:0<=m.version)(hv:w.zd[m.version.toNat]?=some v)(h0:0<=m.i)(hx:w.zn[m.i.toNat]?=some r):
  th 104 [⟨2,106,5,(w.zd).map zt,0⟩,⟨2,157,3,(w.zn).map qk,0⟩] [Cw w,.agg [I w.zr,I w.current,I w.lock,lI w.pins,.sl 0 [] 5 0 w.zd.length false,lL w.zc,fJ w.counts,.sl 1 [] 3 0 w.zn.length false],Cm m] (.fy [.agg [I w.zr,I w.current,I w.lock,lI w.pins,.sl 0 [] 5 0 w.zd.length false,lL w.zc,fJ w.counts,.sl 1 [] 3 0 w.zn.length false],Cm (BP m),Ce (fI m 2 12 m.version)]) [⟨2,106,5,(w.zd.set m.version.toNat (Bv v)).map zt,0⟩,⟨2,157,3,(w.zn.set m.i.toNat (ny r)).map qk,0⟩]:=by
 have e1:0+m.i.toNat=m.i.toNat:=pK _;have e2:0+m.version.toNat=m.version.toNat:=pK _;have av:=(px.1 hv).1;have gv:(w.zd.map zt)[m.version.toNat]?=some (zt v):=by rw[pw,hv];rfl
 have ft:=(px.1 hx).1;have gx:(w.zn.map qk)[m.i.toNat]?=some (qk r):=by rw[pw,hx];rfl
 have hst:(w.zn.map qk).set m.i.toNat [I r.version,I r.at_,Bo true]=(w.zn.set m.i.toNat (ny r)).map qk:=bO
 have hsv:(w.zd.map zt).set m.version.toNat [lT v.snap.zc,kY v.snap.rules,lC v.snap.zj,lG v.zg,Bo true]=(w.zd.set m.version.toNat (Bv v)).map zt:=bO
 refine aa func104 ?_;rw[hp];refine td ?_
 refine⟨a0,av,dd ?_⟩;rw[e2];refine⟨_,gv,rfl,dd ?_⟩;refine tc ?_
 refine zbl ?_
 rw[hst,hsv];refine .inl ⟨⟨true,[0,1,2,4],[3,4],[5]⟩,ak,uH ?_⟩;refine af (zS (BP m) 2 12 m.version) ?_;exact dM
def P8(w x:Wor)(m:fx)(hp:m.pc=4)(h:(w.zn.length:Int)<=m.i):th 104 [] [Cw w,Cw w,Cm m] (.fy [Cw (lW w (im m 8 0)).1,Cm (lW w (im m 8 0)).2.1,Ce (lW w (im m 8 0)).2.2]) []:=by
 have m4:(w.zn.map qk).length=w.zn.length:=pz ..
 have hc:th 105 [] [Cw w,Cw w,Cm (im m 8 0)] (.fy [Cw (lW w (im m 8 0)).1,Cm (lW w (im m 8 0)).2.1,Ce (lW w (im m 8 0)).2.2]) []:=by
  unfold lW;cases hl:w.zc[(im m 8 0).i.toNat]? with
  |none=>exact I3 w w (im m 8 0) (by have:=rT.1 hl;exact Int.ofNat_le.2 this)
  |some l=>exact I2 w w (im m 8 0) l V (sW _) hl
 refine ab func104 ?_;rw[hp];refine td ?_
 rw[m4];refine⟨λ_=>dd ?_,λh2=>absurd (pB h2) an⟩;refine af hc ?_;refine zbK ?_
 exact uI
end Go.Wor
namespace Go.Wor
open Go.Ab Go.Proofs Tryz Go.Gat Go.Nam Go.Hos Go.Con Go.Sna Go.Pla
open Go.Hy hiding encI
abbrev nB(w:Wor)(m:fx)(r:Wor×fx×fF):Prop:=th 23 [] [Sw w,Sm m] (Sr r.1 r.2.1 r.2.2) []
inductive HL:Nat->Wor->fx->Wor->fx->Prop
 |last {w w':Wor} {m m':fx} {e:fF} (h:nB w m (w',m',e)) (he:e.access≠0) (hd:m'.done=true):HL 1 w m w' m'
 |more {n:Nat} {w w' w2:Wor} {m m' m2:fx} {e:fF} (h:nB w m (w',m',e)) (he:e.access≠0) (hd:m'.done=false) (hg:HL n w' m' w2 m2):HL (n+1) w m w2 m2
section
variable {N K:Nat} {w w':Wor} {m m':fx} {v:fC} {g:Gr} {en:En} {e:fF} {r:Wor×fx×fF}
def ET(sw:z6 w)(ok:fG w)(hl:i64 m.listen)(hs:zG w m=true)(ca:oB w m)(hp:m.pc<4)(h:th 103 [] [Cw w,Cw w,Cm m] (Sr w' m' e) []):th 52 [] [Cw w,Cm m] (Sr w' m' e) []:=by
 refine zbH ?_
 refine af (qy w sw) ?_;refine⟨λ_=>dd ?_,λq=>absurd (pB q) an⟩;refine zcB ?_
 exact uI
def MJ(sw:z6 w)(ok:fG w)(hl:i64 m.listen)(hs:zG w m=true)(ca:oB w m)(hp:4<=m.pc)(hp2:m.pc<7)(h:th 104 [] [Cw w,Cw w,Cm m] (Sr w' m' e) []):th 52 [] [Cw w,Cm m] (Sr w' m' e) []:=by
 refine zbH ?_
 refine af (qy w sw) ?_;refine zbI ?_;refine⟨λ_=>dd ?_,λq=>absurd (pB q) an⟩;refine zcB ?_
 exact uI
def Nc(sw:z6 w)(ok:fG w)(hl:i64 m.listen)(hs:zG w m=true)(ca:oB w m)(hp:7<=m.pc)(h:th 105 [] [Cw w,Cw w,Cm m] (Sr w' m' e) []):th 52 [] [Cw w,Cm m] (Sr w' m' e) []:=by
 refine zbH ?_
 refine af (qy w sw) ?_;refine zbI ?_;refine zbI ?_;refine zcB ?_
 exact uI
def WD(sw:z6 w)(ok:fG w)(hl:i64 m.listen)(hs:zG w m=true)(ca:oB w m)(hp:m.pc=10){l:fO}(h0:0<=m.i)(hx:w.zc[m.i.toNat]?=some l):
  th 52 [] [Cw w,Cm m] (Sr {w with zc:=w.zc.set m.i.toNat (AZ l)} (im m 8 (IntKind.i64.wrap (m.i+1))) (fI m 2 13 1)) []:=by
 obtain⟨l0,ls,hq⟩:∃l0 ls,w.zc=l0::ls:=cO
 refine zbH ?_
 refine ae [] (yZ w sw l0 ls hq) ?_;refine zbI ?_;refine zbI ?_;refine ae [5] (Ok w m l hp h0 hx) ?_;(refine .inl ⟨⟨false,[0,1,2],[7,8,9],[]⟩,ak,uH ?_⟩);refine tc ?_
 exact dW
def WB(sw:z6 w)(ok:fG w)(hl:i64 m.listen)(hs:zG w m=true)(ca:oB w m)(hp:m.pc=6){x:fK}(a0:0<=m.version)(hv:w.zd[m.version.toNat]?=some v)(h0:0<=m.i)(hx:w.zn[m.i.toNat]?=some x):
  th 52 [] [Cw w,Cm m] (Sr {w with zd:=w.zd.set m.version.toNat (Bv v),zn:=w.zn.set m.i.toNat (ny x)} (BP m) (fI m 2 12 m.version)) []:=by
 obtain⟨r0,rs,hq⟩:∃r0 rs,w.zn=r0::rs:=by cases h:w.zn with|nil=>rw[h]at hx;simp at hx|cons a b=>exact⟨a,b,rfl⟩
 refine zbH ?_
 refine ae [] (Pq w sw r0 rs hq (by rintro h;rw[h]at hv;simp at hv)) ?_;refine zbI ?_;refine⟨λ_=>dd ?_,λq=>absurd (pB q) an⟩;refine ae [5,6] (P7 w m v x hp a0 hv h0 hx) ?_;(refine .inl ⟨⟨false,[0,1,2],[8,9,10],[]⟩,ak,uH ?_⟩);refine tc ?_
 exact⟨.inl V,_,(zl.zN 2 0 4 V V V V (.inr V) V ah (shut_map (enc:=zt) (λ_=>V) _) (zB V)).trans (zl.zN 2 0 7 V V V V (.inr V) V ah (shut_map (enc:=qk) (λ_=>V) _) (zB V)),rfl⟩
def SW(gw:j8 w)(ty:il N w)(su:jW w m v g en)(tm:iQ m)(ca:oB w m)(hN:N<=100000000)(h:xt w m=some r):th 52 [] [Cw w,Cm m] (Sr r.1 r.2.1 r.2.2) []:=by
 have sw:=ns gw ty hN;have ok:=mX gw ty hN;have hl:=tm.listen;have hs:=kk su;have si:=su.i;unfold xt at h;by_cases p:m.pc=0
 .rw[pD p]at h;cases h
  refine ET sw ok hl hs ca an ?_;by_cases q:w.lock=0
  .rw[pD q];exact Pv w w m p q
  .rw[pA q];exact OX w w m p q
 rw[pA p]at h
 clear p
 by_cases p:m.pc=1
 .rw[pD p]at h;cases h
  exact ET sw ok hl hs ca an (Pw w w m p)
 rw[pA p]at h
 clear p
 by_cases p:m.pc=2
 .rw[pD p]at h;obtain⟨x,hx,rfl⟩:=rq.1 h;exact ET sw ok hl hs ca an (Px w w m x p si hx)
 rw[pA p]at h
 clear p
 by_cases p:m.pc=3
 .rw[pD p]at h;cases h
  refine ET sw ok hl hs ca an ?_;have:=Py w w m p;by_cases q:w.zr=m.zr/\w.zr<1000000000000
  .rw[pD q]at this|-;exact gI
  .rw[pA q]at this|-;exact gI
 rw[pA p]at h
 clear p
 by_cases p:m.pc=4
 .rw[pD p]at h;cases h
  refine MJ sw ok hl hs ca an an ?_;cases hx:w.zn[m.i.toNat]? with
  |none=>exact P8 w w m p (by have:=rT.1 hx;omega)
  |some x=>
   have la:=B4 gw hx;have ge:=(j9.1 gw.ground).zr;have e4:∀i:Int,({m with pc:=4,i:=i}:fx)={m with i:=i}:=λi=>by rw[<-p]
   show zb _ _ _ _ (Sr w (Ai m x) (fI m 1 11 x.version)) _;by_cases c:x.gone=true\/Go.Lim.vU x.at_ m.zr=false
   .have:=Pz w w m x p si hx ⟨an,an⟩ c;rw[e4]at this;rw[show Ai m x=_ from pD c];exact gI
   .rw[show Ai m x=_ from pA c];exact PA w w m x p si hx ⟨an,an⟩ (by have:=λh=>c (.inl h);simpa using this) (by have:=λh=>c (.inr h);simpa using this)
 rw[pA p]at h
 clear p
 by_cases p:m.pc=5
 .rw[pD p]at h;obtain⟨v',hv',h⟩:=r3.1 h;obtain⟨x,hx,rfl⟩:=rq.1 h;have sk:=su.k;have hk:m.k=(m.k.toNat:Int):=(u1 sk).symm;refine MJ sw ok hl hs ca an an ?_;show zb _ _ _ _ (Sr w (AJ m v' x.zo) (Fz m v' x.zo)) _;by_cases c:x.zo≠0
  .rw[show AJ m v' x.zo=_ from pD c];exact PB w w m v' m.k.toNat x p su.version.1 hv' (Bu gw hv') hk hx c
  .have:=O3 w w m v' m.k.toNat x p su.version.1 hv' (Bu gw hv') hk hx (Decidable.not_not.1 c);have e5:({m with pc:=5,k:=IntKind.i64.wrap (m.k+1)}:fx)={m with k:=IntKind.i64.wrap (m.k+1)}:=by rw[<-p]
   rw[e5]at this;rw[show AJ m v' x.zo=_ from pA c];exact gI
 rw[pA p]at h
 clear p
 by_cases p:m.pc=6
 .rw[pD p]at h;obtain⟨v',hv',h⟩:=r3.1 h;obtain⟨x,hx,h⟩:=r3.1 h;split at h
  rotate_left
  .cases h
  cases h
  exact WB sw ok hl hs ca p su.version.1 hv' si hx
 rw[pA p]at h
 clear p
 by_cases p:m.pc=8
 .rw[pD p]at h;cases h
  refine Nc sw ok hl hs ca an ?_;unfold lW;cases hx:w.zc[m.i.toNat]? with
  |none=>exact I3 w w m (by have:=rT.1 hx;omega)
  |some l=>
   have:=I2 w w m l p si hx;have e8:({m with pc:=8,i:=IntKind.i64.wrap (m.i+1)}:fx)={m with i:=IntKind.i64.wrap (m.i+1)}:=by rw[<-p]
   rw[e8]at this;exact gI
 rw[pA p]at h
 clear p
 by_cases p:m.pc=9
 .rw[pD p]at h;obtain⟨x,hx,rfl⟩:=rq.1 h;exact Nc sw ok hl hs ca an (OY w w m x p si hx)
 rw[pA p]at h
 clear p
 by_cases p:m.pc=10
 .rw[pD p]at h;obtain⟨x,hx,h⟩:=r3.1 h;split at h
  .cases h
   exact WD sw ok hl hs ca p si hx
  .cases h
 rw[pA p]at h;cases h
end
end Go.Wor
namespace Go.Wor
open Go.Ab Go.Proofs Tryz Go.Gat Go.Nam Go.Hos Go.Con Go.Sna Go.Pla Go.Dep
open Go.Hy hiding encI
def GW{w:Wor}{m:fx}{r:Wor×fx×fF}(hk:m.op.kind=5)(h:th 52 [] [Cw w,Cm m] (Sr r.1 r.2.1 r.2.2) []):nB w m r:=by
 refine ab func23 ?_;refine zaZ ?_
 refine zaZ ?_
 refine zaZ ?_
 refine zaZ ?_
 refine⟨λ_=>dd ?_,λq=>absurd (q.symm.trans (rF.2 hk)) aj⟩;refine af h ?_;refine zaC ?_
 exact uI
end Go.Wor
