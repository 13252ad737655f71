import Derived.Test.YtkbnjgogjccmfaaGreatSV
import Derived.Test.YtkbnjgogjccmfaaGreatSW
set_option linter.all false
set_option maxRecDepth 100000
set_option maxHeartbeats 4000000
namespace Go.Wor
open Go.Ab Go.Proofs Tryz Go.Hy Go.Gat Go.Nam Go.Hos Go.Con Go.Sna
def PB (l:List eL) (s:ec) (hl:l.length < 4611686018427387904):
  to 59 [⟨2,85,4,(l).map qK,0⟩,⟨1,9,1,[[Tx s]],0⟩] [.sl 0 [] 4 0 l.length false,.fn 60 [] [.ref 1 [] 1 0 0]] (I (zU l s)) [⟨2,85,4,(l).map qK,0⟩,⟨1,9,1,[[Tx s]],0⟩]:=by
 refine aa func59 ?_;refine zW.seq l.length (fun k=>(.sl 0 [] 4 0 l.length false::.fn 60 [] [.ref 1 [] 1 0 0]::.za::.za::I 0::.za::.za::I l.length::I k::hZ ([.za,.za]))) (fun k=>[⟨2,85,4,(l).map qK,0⟩,⟨1,9,1,[[Tx s]],0⟩]) (fun k=>∀ j,(h:j < l.length)->j < k->(l[j].name == s)=false) ?_ aj (fun k hk hr=>?_) (fun hr=>?_)
 ·exact cC
 ·have hg:(l.map qK)[k]?= some (qK l[k]):=by rw [dT,dQ hk];rfl
  have e1:0+(k:Int).toNat=k:=aj
  conv=>whnf
  refine uF ?_;refine ⟨aw,aq hk,dd ?_⟩;rw [e1];refine ⟨_,hg,(by show 0+4<=4;decide),dd ?_⟩;refine af [1] (J0 s l[k]) ?_;refine ⟨fun h2=>?_,fun h2=>?_⟩
  ·refine dd ?_;refine .inr ⟨aj,uH ?_⟩
   have e:zU l s=k:=by
    unfold zU
    have:l.findIdx? (fun x=>x.name == s)=some k:=by
     exact dG
    rw [this]
   rw [e];exact cJ
  ·refine dd ?_;refine .inl ⟨rfl,?_,fun j hj hjk=>?_⟩
   ·rw [zu aw];exact cE 2
   ·by_cases e:j=k
    ·subst e;exact h2
    ·exact hr j hj aw
 ·refine uD ?_
  have e:zU l s= -1:=by
   unfold zU
   have:l.findIdx? (fun x=>x.name == s)=none:=by
    rw [gG];intro x hx;obtain ⟨j,hj,rfl⟩:=pt.1 hx;exact hr j hj hj
   rw [this]
  rw [e];exact cJ
def Ot (l:List eL) (s:ec) (hl:l.length < 4611686018427387904):to 34 [⟨2,85,4,(l).map qK,0⟩] [.sl 0 [] 4 0 l.length false,Tx s] (I (zU l s)) [⟨2,85,4,(l).map qK,0⟩]:=by
 refine aa func34 ?_;refine af [0,1] (PB l s hl) ?_;exact dC
def Jc (m:u3) (e:u6) (a:eC):to 121 [⟨1,69,44,[zD (m)],0⟩,⟨1,223,24,[.ref 0 [] 44 0 0::zP (e)],0⟩] [.ref 1 [] 24 0 0,.agg (xB a)] (.u7 []) [⟨1,69,44,[zD ({ m with done:=true,answer:=a })],0⟩,⟨1,223,24,[.ref 0 [] 44 0 0::zP ({ e with done:=true,answer:=a })],0⟩]:=by
 refine aa func121 ?_;refine .inl ⟨⟨false,[3,7,8],[1,2],[]⟩,au,uH ?_⟩;refine tc ?_
 refine .inl ⟨⟨false,[2],[2],[]⟩,au,uH ?_⟩;refine tc ?_
 exact ⟨.inr rfl,_,_,.refl _,rfl,cE 2⟩
abbrev EN (m:u3):u6:={ qC with zg:=m.zg,access:=1,version:= -1 }
def Og (w:Wor) (m:u3) (sw:qZ w) (ok:fm w) (hl:i64 m.listen) (hpc:m.pc=0) (hs:z6 w m=true) (hi:zU w.zd m.op.listen < 0):
  to 99 [] [Cw w,Cm m] (.u7 [Cw w,Cm { m with done:=true,answer:=iK 7 },Ce { EN m with done:=true,answer:=iK 7 }]) []:=by
 refine ab func99 ?_;refine ⟨fun h=>absurd h (by simp [hpc]),fun _=>dd ?_⟩;refine ah (zO w m ok hl) ?_;refine ⟨fun _=>dd ?_,fun h=>absurd ((hs).symm.trans h:true=false) ar⟩;refine td ?_
 refine ah (qy w sw) ?_;refine ah (wX w.zd m.op.listen (by have:=ok.zd.1;omega)) ?_;refine ⟨fun _=>dd ?_,fun h=>absurd h (aq hi)⟩;refine af [1,5] (Jc m (EN m) (iK 7)) ?_;refine .inl ⟨⟨false,[0,1,5],[0,1,5],[]⟩,au,uH ?_⟩;refine tc ?_
 exact uI
abbrev HO (m:u3):u6:={ qC with zg:=m.zg,access:=2,cell:=4,version:= -1,value:=1,qQ:=true }
def NX (w:Wor) (m:u3) (x:eL) (sw:qZ w) (ok:fm w) (hl:i64 m.listen) (hpc:m.pc=0) (hs:z6 w m=true) (hi:0<=zU w.zd m.op.listen) (hx:w.zd[(zU w.zd m.op.listen).toNat]?= some x):
  to 99 [] [Cw w,Cm m] (.u7 [Cw { w with zd:=w.zd.set (zU w.zd m.op.listen).toNat (Go.Gat.nD x) },Cm { m with listen:=zU w.zd m.op.listen,done:=true,answer:=⟨10,0,0,0,0,zU w.zd m.op.listen,0,⟨0,0,0,0,0,0⟩⟩ },Ce { HO m with done:=true,answer:=⟨10,0,0,0,0,zU w.zd m.op.listen,0,⟨0,0,0,0,0,0⟩⟩ }]) []:=by
 generalize hp:zU w.zd m.op.listen=p at hi hx;have lt:p.toNat < w.zd.length:=(dP.1 hx).1;have gl:(w.zd.map qK)[p.toNat]?= some (qK x):=by rw [dT,hx];rfl
 have hst:(w.zd.map qK).set p.toNat [Tx (Go.Gat.nD x).name,Bo (Go.Gat.nD x).drain,I (Go.Gat.nD x).zf,Bo (Go.Gat.nD x).closed]=(w.zd.set p.toNat (Go.Gat.nD x)).map qK:=bR
 have e1:0+p.toNat=p.toNat:=gz _
 obtain ⟨y,l,hy⟩:∃ y l,w.zd=y::l:=by
  cases h:w.zd with
  | nil=>rw [h] at lt;simp at lt
  | cons y l=>exact ⟨y,l,rfl⟩
 have hpl:=Ot w.zd m.op.listen (by have:=ok.zd.1;omega);rw [hp] at hpl;refine ab func99 ?_;refine ⟨fun h=>absurd h (by simp [hpc]),fun _=>dd ?_⟩;refine ah (zO w m ok hl) ?_;refine ⟨fun _=>dd ?_,fun h=>absurd ((hs).symm.trans h:true=false) ar⟩;refine td ?_
 refine af [] (vd w sw y l hy) ?_;refine af [5] (hpl) ?_;refine ⟨fun h=>absurd h aA,fun _=>dd ?_⟩;refine .inl ⟨⟨true,[1,4],[0],[8]⟩,au,uH ?_⟩;refine tc ?_
 refine ⟨hi,lt,dd ?_⟩;rw [e1];refine ⟨_,gl,(by show 0+4<=4;decide),dd ?_⟩;refine ah (Go.Gat.O4 x) ?_;refine ⟨hi,lt,dd ?_⟩;rw [e1];refine ⟨_,gl,rfl,dd ?_⟩;refine tc ?_
 rw [hst];refine af [1,6] (Jc { m with listen:=p } (HO m) ⟨10,0,0,0,0,p,0,⟨0,0,0,0,0,0⟩⟩) ?_;refine .inl ⟨⟨false,[0,1,5],[0,1,6],[]⟩,au,uH ?_⟩;refine tc ?_
 exact ⟨.inl rfl,_,zp.zV 2 0 5 rfl rfl rfl rfl (.inr rfl) aj aj (shut_map (enc:=qK) (fun _=>rfl) _) (qa rfl),rfl⟩
abbrev fM (m:u3) (p i:Int):u3:={ m with pc:=p,i:=i }
def qF (m:u3) (a b c:Int):to 167 [⟨1,69,44,[zD (m)],0⟩] [.agg [.za,.ref 0 [] 44 0 0],I a,I b,I c] (Ce (eI m a b c)) [⟨1,69,44,[zD (m)],0⟩]:=by
 refine aa func167 ?_;refine tc ?_;exact dC
def xq (m:u3) (p i:Int):to 168 [⟨1,69,44,[zD (m)],0⟩] [.agg [.za,.ref 0 [] 44 0 0],I p,I i] (.u7 []) [⟨1,69,44,[zD ({ m with pc:=p,i:=i })],0⟩]:=by
 refine aa func168 ?_;refine .inl ⟨⟨false,[1,3],[1],[]⟩,au,uH ?_⟩;refine tc ?_
 exact ⟨.inr rfl,_,_,.refl _,rfl,cE 1⟩
def IP (m:u3) (e:u6) (a:eC):to 166 [⟨1,69,44,[zD (m)],0⟩] [.agg [.za,.ref 0 [] 44 0 0],Ce e,.agg (xB a)] (Ce { e with done:=true,answer:=a }) [⟨1,69,44,[zD ({ m with done:=true,answer:=a })],0⟩]:=by
 refine aa func166 ?_;refine .inl ⟨⟨false,[1,3,4],[1,3],[]⟩,au,uH ?_⟩;refine tc ?_
 refine .inl ⟨⟨false,[0],[3],[]⟩,au,uH ?_⟩;refine tc ?_
 refine tc ?_;exact dC
def NR (w:Wor) (m:u3):to 125 [⟨1,37,8,[zJ (w)],0⟩,⟨1,69,44,[zD (m)],0⟩] [.agg tn] (Ce (eI m 1 1 w.zn)) [⟨1,37,8,[zJ (w)],0⟩,⟨1,69,44,[zD ({ m with zn:=w.zn,pc:=2,i:=0 })],0⟩]:=by
 refine aa func125 ?_;refine .inl ⟨⟨false,[1,3,6],[0,2],[]⟩,au,uH ?_⟩;refine tc ?_
 refine af [1] (xq { m with zn:=w.zn } 2 0) ?_;refine .inl ⟨⟨true,[],[],[]⟩,au,uH ?_⟩;refine af [1] (qF { m with zn:=w.zn,pc:=2,i:=0 } 1 1 w.zn) ?_;exact cR
def OF (w:Wor) (m:u3) (h:w.lock≠0):to 124 [⟨1,37,8,[zJ (w)],0⟩,⟨1,69,44,[zD (m)],0⟩] [.agg tn] (Ce { eI m 5 14 1 with done:=true,answer:=iK 12 }) [⟨1,37,8,[zJ (w)],0⟩,⟨1,69,44,[zD ({ m with done:=true,answer:=iK 12 })],0⟩]:=by
 refine aa func124 ?_;refine ⟨fun _=>dd ?_,fun hh=>absurd hh tX⟩;refine .inl ⟨⟨true,[0,1],[2],[2]⟩,au,uH ?_⟩;refine af [1] (qF m 5 14 1) ?_;refine tc ?_
 refine af [1] (IP m (eI m 5 14 1) (iK 12)) ?_;exact cR
def N5 (w:Wor) (m:u3) (h:w.lock=0):to 124 [⟨1,37,8,[zJ (w)],0⟩,⟨1,69,44,[zD (m)],0⟩] [.agg tn] (Ce (eI m 4 14 1)) [⟨1,37,8,[zJ ({ w with lock:=1 })],0⟩,⟨1,69,44,[zD ({ m with pc:=1 })],0⟩]:=by
 refine aa func124 ?_;refine ⟨fun hh=>absurd hh aH,fun _=>dd ?_⟩;refine .inl ⟨⟨false,[1,3],[2],[]⟩,au,uH ?_⟩;refine tc ?_
 refine af [1] (qF { m with pc:=1 } 4 14 1) ?_;exact cR
def n6 (w:Wor) (m:u3) (p:Int):u3:=if p≠0∧p≠IntKind.i64.wrap (m.zn+1) then fM m 4 0 else if IntKind.i64.wrap (m.i+1) < w.pins.length then { m with i:=IntKind.i64.wrap (m.i+1) } else fM m 3 (IntKind.i64.wrap (m.i+1))
def N4 (w:Wor) (m:u3) (p:Int) (h0:0<=m.i) (hp:w.pins[m.i.toNat]?= some p):to 126 [⟨1,37,8,[zJ (w)],0⟩,⟨1,69,44,[zD (m)],0⟩] [.agg tn] (Ce (eI m 1 2 p)) [⟨1,37,8,[zJ (w)],0⟩,⟨1,69,44,[zD (n6 w m p)],0⟩]:=by
 have hg:(w.pins.map encI)[m.i.toNat]?= some (encI p):=by rw [dT,hp];rfl
 have ml:(w.pins.map encI).length=w.pins.length:=dV ..;refine aa func126 ?_;refine uE ?_;(refine ⟨h0,_,hg,dd ?_⟩)
 refine ⟨fun q1=>?_,fun q1=>?_⟩
 ·refine dd ?_;refine ⟨fun q2=>?_,fun q2=>?_⟩
  ·rw [show n6 w m p=fM m 4 0 from dU ⟨aq q1,aq q2⟩];refine dd ?_;refine td ?_
   refine af [1] (xq m 4 0) ?_;refine af [1] (qF (fM m 4 0) 1 2 p) ?_;exact cR
  ·have q:¬(p≠0∧p≠IntKind.i64.wrap (m.zn+1)):=fun hh=>hh.2 (aq q2)
   refine dd ?_;refine td ?_
   (rw [show n6 w m p=_ from dR q]);refine uE ?_;(rw [ml]);refine ⟨fun q3=>?_,fun q3=>?_⟩;(focus ((rw [dU (aq q3)]);refine dd ?_;refine af [1] (qF { m with i:=IntKind.i64.wrap (m.i+1) } 1 2 p) ?_;refine tc ?_;exact ⟨.inl rfl,_,_,.refl _,rfl,cE 2⟩));(rw [dR (aq q3)]);refine dd ?_;refine .inl ⟨⟨true,[],[],[]⟩,au,uH ?_⟩;refine af [1] (xq m 3 (IntKind.i64.wrap (m.i+1))) ?_;refine tc ?_;refine af [1] (qF (fM m 3 (IntKind.i64.wrap (m.i+1))) 1 2 p) ?_;exact cR
 ·have q:¬(p≠0∧p≠IntKind.i64.wrap (m.zn+1)):=fun hh=>hh.1 (aq q1)
  refine dd ?_;refine td ?_
  (rw [show n6 w m p=_ from dR q]);refine uE ?_;(rw [ml]);refine ⟨fun q3=>?_,fun q3=>?_⟩;(focus ((rw [dU (aq q3)]);refine dd ?_;refine af [1] (qF { m with i:=IntKind.i64.wrap (m.i+1) } 1 2 p) ?_;refine tc ?_;exact ⟨.inl rfl,_,_,.refl _,rfl,cE 2⟩));(rw [dR (aq q3)]);refine dd ?_;refine .inl ⟨⟨true,[],[],[]⟩,au,uH ?_⟩;refine af [1] (xq m 3 (IntKind.i64.wrap (m.i+1))) ?_;refine tc ?_;refine af [1] (qF (fM m 3 (IntKind.i64.wrap (m.i+1))) 1 2 p) ?_;exact cR
def NL (w:Wor) (m:u3) (h:¬(w.zn=m.zn∧w.zn < 1000000000000)):to 127 [⟨1,37,8,[zJ (w)],0⟩,⟨1,69,44,[zD (m)],0⟩] [.agg tn] (Ce (eI m 5 1 w.zn)) [⟨1,37,8,[zJ (w)],0⟩,⟨1,69,44,[zD (fM m 4 0)],0⟩]:=by
 refine aa func127 ?_;refine uE ?_;refine ⟨fun q1=>?_,fun q1=>?_⟩
 ·refine dd ?_;refine ⟨fun q2=>?_,fun q2=>?_⟩
  ·exact absurd ⟨aq q1,aq q2⟩ h
  ·refine dd ?_;refine td ?_
   refine af [1] (xq m 4 0) ?_;refine .inl ⟨⟨true,[],[],[]⟩,au,uH ?_⟩;refine af [1] (qF (fM m 4 0) 5 1 w.zn) ?_;exact cR
 ·refine dd ?_;refine td ?_
  refine af [1] (xq m 4 0) ?_;refine .inl ⟨⟨true,[],[],[]⟩,au,uH ?_⟩;refine af [1] (qF (fM m 4 0) 5 1 w.zn) ?_;exact cR
def Nu (w:Wor) (m:u3) (h1:w.zn=m.zn) (h2:w.zn < 1000000000000):to 127 [⟨1,37,8,[zJ (w)],0⟩,⟨1,69,44,[zD (m)],0⟩] [.agg tn] (Ce (eI m 4 1 (IntKind.i64.wrap (w.zn+1)))) [⟨1,37,8,[zJ ({ w with zn:=IntKind.i64.wrap (w.zn+1) })],0⟩,⟨1,69,44,[zD ({ fM m 4 0 with zn:=IntKind.i64.wrap (w.zn+1) })],0⟩]:=by
 refine aa func127 ?_;refine uE ?_;refine ⟨fun _=>dd ?_,fun hh=>absurd hh tH⟩;refine ⟨fun _=>dd ?_,fun hh=>absurd hh aA⟩;refine td ?_
 refine .inl ⟨⟨false,[1,3,6],[0,2],[]⟩,au,uH ?_⟩;refine tc ?_
 refine af [1] (xq { m with zn:=IntKind.i64.wrap (w.zn+1) } 4 0) ?_;refine .inl ⟨⟨true,[],[],[]⟩,au,uH ?_⟩;refine af [1] (qF { fM m 4 0 with zn:=IntKind.i64.wrap (w.zn+1) } 4 1 (IntKind.i64.wrap (w.zn+1))) ?_;exact cR
def yu (v:u9):List En:=v.zm.flatMap (·.ends)
structure CT (v:u9):Prop where
 zm:v.zm.length<=1000
 ends : ∀ g ∈ v.zm, g.ends.length <= 1000
def KP:∀ (l:List Gr),(∀ g ∈ l,g.ends.length<=1000)->(l.flatMap (·.ends)).length<=l.length * 1000
 | [],_=>by simp
 | g::l,h=>by
  have:=KP l fun x hx=>h x (px _ hx)
  have:=h g (pD ..);simp only [uj,gW,pR];omega
def Jd (v:u9) (h:CT v):to 170 [] [Cv v] (lE (yu v)) []:=by
 have m1:(v.zm.map zE).length=v.zm.length:=dV ..;have hgl:=h.zm;refine ab func170 ?_;rw [m1];refine zW.seq v.zm.length (fun k=>(.za::.ref 0 [] 5 0 0::.u1 1 0 []::.gl 1 3 (((v.zm.take k).flatMap (·.ends)).map zx)::.za::.za::.za::(lG v.zm)::I v.zm.length::I k::hZ ([.za]))) (fun k=>[⟨1,107,5,[zF v],0⟩,⟨4,136,3,((v.zm.take k).flatMap (·.ends)).map zx,0⟩]) (fun k=>True) ?_ trivial (fun k hk hr=>?_) (fun hr=>?_)
 ·refine zp.trans (zp.grow 3 136 3 rfl (.inl rfl)) ?_;exact cC
 ·obtain ⟨g,hx⟩:∃ g,g=v.zm[k]:=⟨_,rfl⟩;have hg:(v.zm.map zE)[k]?= some (zE g):=by rw [dT,dQ hk,hx];rfl
  have eg:((v.zm.take (k+1)).flatMap (·.ends)).map zx=((v.zm.take k).flatMap (·.ends)).map zx++g.ends.map zx:=bP
  have l1:(((v.zm.take k).flatMap (·.ends)).map zx).length<=k * 1000:=by
   have:=KP (v.zm.take k) fun x hx=>h.ends x (pK hx)
   rw [List.length_take,Nat.min_eq_left aw] at this;simpa using this
  have l2:(g.ends.map zx).length<=1000:=by rw [dV];exact h.ends g (hx ▸ gS hk)
  conv=>whnf
  refine uF ?_;(refine tf hg ?_)
  refine ⟨rfl,.inr rfl,by simp only [maxLen];omega,by show _ * 40<=_;omega,dd ?_⟩;refine .inl ⟨rfl,?_,trivial⟩;rw [zu aw,eg];exact cE 2
 ·exact dz
abbrev CW (k n:Int):eC:=⟨k,0,0,0,0,0,n,⟨0,0,0,0,0,0⟩⟩
def NJ (w:Wor) (m:u3) (l:eL) (h0:0<=m.i) (hx:w.zd[m.i.toNat]?= some l):to 132 [⟨1,37,8,[zJ (w)],0⟩,⟨1,69,44,[zD (m)],0⟩] [.agg tn] (Ce (eI m 1 5 l.zf)) [⟨1,37,8,[zJ (w)],0⟩,⟨1,69,44,[zD (if l.zf=0 then { m with pc:=10 } else fM m 8 (IntKind.i64.wrap (m.i+1)))],0⟩]:=by
 have hg:(w.zd.map qK)[m.i.toNat]?= some (qK l):=by rw [dT,hx];rfl
 refine aa func132 ?_;refine uE ?_;(refine ⟨h0,_,hg,dd ?_⟩)
 refine ⟨fun q=>?_,fun q=>?_⟩
 ·rw [dU (aq q)];refine dd ?_;refine af [1] (qF { m with pc:=10 } 1 5 l.zf) ?_;exact cR
 ·rw [dR (aq q)];refine dd ?_;refine .inl ⟨⟨true,[],[],[]⟩,au,uH ?_⟩;refine af [1] (xq m 8 (IntKind.i64.wrap (m.i+1))) ?_;refine tc ?_
  refine af [1] (qF (fM m 8 (IntKind.i64.wrap (m.i+1))) 1 5 l.zf) ?_;exact cR
def Ny (w:Wor) (m:u3) (h:w.zd.length<=m.i):to 131 [⟨1,37,8,[zJ (w)],0⟩,⟨1,69,44,[zD (m)],0⟩] [.agg tn] (Ce { eI m 2 14 0 with done:=true,answer:=CW 11 m.answer.n }) [⟨1,37,8,[zJ ({ w with lock:=0 })],0⟩,⟨1,69,44,[zD ({ m with done:=true,answer:=CW 11 m.answer.n })],0⟩]:=by
 have ml:(w.zd.map qK).length=w.zd.length:=dV ..;refine aa func131 ?_;refine uE ?_;rw [ml];refine ⟨fun _=>dd ?_,fun hh=>absurd hh aA⟩;refine .inl ⟨⟨true,[0,1],[2],[2]⟩,au,uH ?_⟩;refine af [1] (qF m 2 14 0) ?_;refine tc ?_
 refine af [1] (IP m (eI m 2 14 0) (CW 11 m.answer.n)) ?_;exact cR
abbrev Ah (m:u3) (l:eL):u3:=if l.drain=true∧l.closed=false then { m with pc:=9 } else { m with i:=IntKind.i64.wrap (m.i+1) }
abbrev EC (m:u3) (l:eL):u6:=eI m 1 4 (if l.drain=true then 1 else 0)
def NH (w:Wor) (m:u3) (l:eL) (h0:0<=m.i) (hx:w.zd[m.i.toNat]?= some l):to 131 [⟨1,37,8,[zJ (w)],0⟩,⟨1,69,44,[zD (m)],0⟩] [.agg tn] (Ce (EC m l)) [⟨1,37,8,[zJ (w)],0⟩,⟨1,69,44,[zD (Ah m l)],0⟩]:=by
 have hg:(w.zd.map qK)[m.i.toNat]?= some (qK l):=by rw [dT,hx];rfl
 have u4:=(dP.1 hx).1;have ml:(w.zd.map qK).length=w.zd.length:=dV ..;obtain ⟨nm,dr,ac,cl⟩:=l;cases dr <;> cases cl
 all_goals
  refine aa func131 ?_;refine uE ?_;rw [ml];refine ⟨fun hh=>absurd hh aA,fun _=>dd ?_⟩;refine .inr ⟨⟨[1,4,8,10],[0,1,2],true⟩,au,fun _=>rfl,_,uH ?_,fun t2 H2 h=>h⟩;refine tc ?_
  (refine ⟨h0,_,hg,dd ?_⟩)
  (refine ⟨uH ?_,trivial⟩);refine tc ?_
  (refine ⟨uH ?_,trivial⟩);refine tc ?_
  (refine ⟨_,_,.refl _,uH ?_⟩)
  refine af [1] (qF m 1 4 0) ?_;(repeat (first | ((refine ya (dd ?_))) | ((refine yb (dd ?_)))))
  exact cR
def Nz {w w':Wor} {m m':u3} {e:u6} (h:w.zr.length<=m.i) (hd:to 131 [⟨1,37,8,[zJ (w)],0⟩,⟨1,69,44,[zD (fM m 8 0)],0⟩] [.agg tn] (Ce e) [⟨1,37,8,[zJ (w')],0⟩,⟨1,69,44,[zD (m')],0⟩]):to 128 [⟨1,37,8,[zJ (w)],0⟩,⟨1,69,44,[zD (m)],0⟩] [.agg tn] (Ce e) [⟨1,37,8,[zJ (w')],0⟩,⟨1,69,44,[zD (m')],0⟩]:=by
 have ml:(w.zr.map xt).length=w.zr.length:=dV ..;refine aa func128 ?_;refine uE ?_;rw [ml];refine ⟨fun _=>dd ?_,fun hh=>absurd hh aA⟩;refine af [1] (xq m 8 0) ?_;refine af [0,1] (hd) ?_;exact cR
abbrev n5 (m:u3) (r:eJ):u3:=if r.gone=true∨Go.Lim.oY r.at_ m.zn=false then { m with i:=IntKind.i64.wrap (m.i+1) } else { m with version:=r.version,zi:=0,end_:=0,other:=0,slot:=0,k:=0,pc:=5 }
def NS (w:Wor) (m:u3) (r:eJ) (hr:i64 r.at_) (h0:0<=m.i) (hx:w.zr[m.i.toNat]?= some r):to 128 [⟨1,37,8,[zJ (w)],0⟩,⟨1,69,44,[zD (m)],0⟩] [.agg tn] (Ce (eI m 1 11 r.version)) [⟨1,37,8,[zJ (w)],0⟩,⟨1,69,44,[zD (n5 m r)],0⟩]:=by
 have hg:(w.zr.map xt)[m.i.toNat]?= some (xt r):=by rw [dT,hx];rfl
 have u4:=(dP.1 hx).1;have ml:(w.zr.map xt).length=w.zr.length:=dV ..;obtain ⟨rv,ra,rg⟩:=r;refine aa func128 ?_;refine uE ?_;rw [ml];refine ⟨fun hh=>absurd hh aA,fun _=>dd ?_⟩;refine .inr ⟨⟨[1,4,8,10],[0,1,2],true⟩,au,fun _=>rfl,_,uH ?_,fun t2 H2 h=>h⟩;refine tc ?_
 (refine ⟨h0,_,hg,dd ?_⟩)
 (refine ⟨uH ?_,trivial⟩);refine tc ?_
 (refine ⟨uH ?_,trivial⟩);refine tc ?_
 (refine ⟨_,_,.refl _,uH ?_⟩)
 cases rg
 ·have eN:Go.Lim.oY ra m.zn=false->n5 m ⟨rv,ra,false⟩={ m with i:=IntKind.i64.wrap (m.i+1) }:=fun hh=>dU (.inr hh)
  have eY:Go.Lim.oY ra m.zn=true->n5 m ⟨rv,ra,false⟩={ m with version:=rv,zi:=0,end_:=0,other:=0,slot:=0,k:=0,pc:=5 }:=fun hh=>dR (by simp [hh])
  refine .inl ⟨⟨true,[],[],[9]⟩,au,uH ?_⟩;(repeat (first | ((refine ya (dd ?_))) | ((refine yb (dd ?_)))))
  refine ah (Go.Lim.Qs (now:=m.zn) hr.1 hr.2) ?_;refine ⟨fun q=>?_,fun q=>?_⟩
  ·rw [eY q];refine dd ?_;refine tc ?_
   (repeat (first | ((refine ya (dd ?_))) | ((refine yb (dd ?_)))))
   refine af [1] (qF { m with version:=rv,zi:=0,end_:=0,other:=0,slot:=0,k:=0,pc:=5 } 1 11 rv) ?_;exact cR
  ·rw [eN q];refine dd ?_;refine tc ?_
   (repeat (first | ((refine ya (dd ?_))) | ((refine yb (dd ?_)))))
   refine af [1] (qF { m with i:=IntKind.i64.wrap (m.i+1) } 1 11 rv) ?_;exact cR
 ·rw [show n5 m ⟨rv,ra,true⟩=_ from dU (.inl rfl)];refine .inl ⟨⟨true,[],[],[9]⟩,au,uH ?_⟩;(repeat (first | ((refine ya (dd ?_))) | ((refine yb (dd ?_)))))
  refine af [1] (qF { m with i:=IntKind.i64.wrap (m.i+1) } 1 11 rv) ?_;exact cR
abbrev CK (l:eL):eL:={ l with closed:=true }
def Qv (w:Wor) (m:u3) (x:eL) (h0:0<=m.i) (hx:w.zd[m.i.toNat]?= some x):
  to 133 [⟨1,37,8,[[I w.zn,I w.current,I w.lock,lI w.pins,lV w.ze,.sl 2 [] 4 0 w.zd.length false,eM w.counts,lR w.zr]],0⟩,⟨1,69,44,[zD (m)],0⟩,⟨2,85,4,(w.zd).map qK,0⟩] [.agg tn] (Ce (eI m 2 13 1)) [⟨1,37,8,[[I w.zn,I w.current,I w.lock,lI w.pins,lV w.ze,.sl 2 [] 4 0 w.zd.length false,eM w.counts,lR w.zr]],0⟩,⟨1,69,44,[zD (fM m 8 (IntKind.i64.wrap (m.i+1)))],0⟩,⟨2,85,4,(w.zd.set m.i.toNat (CK x)).map qK,0⟩]:=by
 have e1:0+m.i.toNat=m.i.toNat:=gz _;have u4:m.i.toNat < w.zd.length:=(dP.1 hx).1;have gx:(w.zd.map qK)[m.i.toNat]?= some (qK x):=by rw [dT,hx];rfl
 have hst:(w.zd.map qK).set m.i.toNat [Tx x.name,Bo x.drain,I x.zf,Bo true]=(w.zd.set m.i.toNat (CK x)).map qK:=bR
 refine aa func133 ?_;refine .inl ⟨⟨false,[1,4,6,9],[0,1,3],[]⟩,au,uH ?_⟩;refine tc ?_
 refine ⟨h0,u4,dd ?_⟩;rw [e1];refine ⟨_,gx,rfl,dd ?_⟩;refine tc ?_
 rw [hst];refine .inl ⟨⟨true,[],[],[]⟩,au,uH ?_⟩;refine af [1] (xq m 8 (IntKind.i64.wrap (m.i+1))) ?_;refine tc ?_
 refine af [1] (qF (fM m 8 (IntKind.i64.wrap (m.i+1))) 2 13 1) ?_;refine tc ?_;exact ⟨.inl rfl,_,_,.refl _,rfl,cE 3⟩
abbrev C5 (m:u3) (v:u9) (a:Int):u6:={ eI m 1 7 a with version:=m.version,qn:=v.qn }
abbrev oN (m:u3) (v:u9) (a:Int):u3:=if a≠0 then fM m 4 (IntKind.i64.wrap (m.i+1)) else if IntKind.i64.wrap (m.k+1) < (yu v).length then { m with k:=IntKind.i64.wrap (m.k+1) } else { m with k:=IntKind.i64.wrap (m.k+1),pc:=6 }
def NG (w:Wor) (m:u3) (v:u9) (e:En) (hf:CT v) (hv:mX w m v) (k0:0<=m.k) (hk:(yu v)[m.k.toNat]?= some e):to 129 [⟨1,37,8,[zJ (w)],0⟩,⟨1,69,44,[zD (m)],0⟩] [.agg tn] (Ce (C5 m v e.zf)) [⟨1,37,8,[zJ (w)],0⟩,⟨1,69,44,[zD (oN m v e.zf)],0⟩]:=by
 have a0:=hv.v0;have a1:=hv.row;have hg:((yu v).map zx)[m.k.toNat]?= some (zx e):=by rw [dT,hk];rfl
 have ml:((yu v).map zx).length=(yu v).length:=dV ..;have he:=Jd v hf;have eA:e.zf≠0->oN m v e.zf=fM m 4 (IntKind.i64.wrap (m.i+1)):=fun hh=>dU hh
 have eB:e.zf=0->oN m v e.zf=if IntKind.i64.wrap (m.k+1) < (yu v).length then { m with k:=IntKind.i64.wrap (m.k+1) } else { m with k:=IntKind.i64.wrap (m.k+1),pc:=6 }:=fun hh=>dR (by simp [hh])
 generalize hll:yu v=ll at he hk hg ml eA eB;obtain ⟨sn,gs,fr⟩:=v;cases fr
 all_goals
  refine aa func129 ?_;refine .inr ⟨⟨[1,4,8,10],[0,1,2],true⟩,au,fun _=>rfl,_,uH ?_,fun t2 H2 h=>h⟩;refine tc ?_
  (refine ⟨a0,_,a1,dd ?_⟩)
  (refine ⟨uH ?_,trivial⟩);refine tc ?_
  (refine ⟨uH ?_,trivial⟩);refine tc ?_
  (refine ⟨_,_,.refl _,uH ?_⟩)
  refine ah he ?_;refine .inr ⟨⟨[0,5,8,9],[0,1,2,3,4],true⟩,au,fun _=>rfl,_,uH ?_,fun t2 H2 h=>h⟩;(refine ⟨k0,_,hg,dd ?_⟩)
  refine ⟨_,ai [1] (qF m 1 7 e.zf),uH ?_⟩;(refine ⟨uH ?_,trivial⟩);refine tc ?_
  (refine ⟨uH ?_,trivial⟩);refine tc ?_
  (refine ⟨_,_,.refl _,uH ?_⟩)
  refine .inl ⟨⟨false,[3,5],[1,4],[]⟩,au,uH ?_⟩;(repeat (first | ((refine ya (dd ?_))) | ((refine yb (dd ?_)))))
  refine tc ?_
  refine ⟨fun q=>?_,fun q=>?_⟩
  ·rw [eA (aq q)];refine dd ?_;refine .inl ⟨⟨true,[],[],[]⟩,au,uH ?_⟩;refine af [1] (xq m 4 (IntKind.i64.wrap (m.i+1))) ?_;exact cR
  ·rw [eB (aq q)];refine dd ?_;rw [ml];refine ⟨fun q2=>?_,fun q2=>?_⟩
   ·rw [dU (aq q2)];refine dd ?_;exact cR
   ·rw [dR (aq q2)];refine dd ?_;exact cR
abbrev oo (v:u9):u9:={ v with qn:=true }
abbrev wu (r:eJ):eJ:={ r with gone:=true }
abbrev BK (m:u3):u3:={ m with answer:={ m.answer with n:=IntKind.i64.wrap (m.answer.n+1) },pc:=4,i:=IntKind.i64.wrap (m.i+1) }
def Dg (w:Wor) (m:u3) (v:u9) (r:eJ) (hv:mX w m v) (h0:0<=m.i) (hx:w.zr[m.i.toNat]?= some r):
  to 130 [⟨1,37,8,[[I w.zn,I w.current,I w.lock,lI w.pins,.sl 2 [] 5 0 w.ze.length false,lL w.zd,eM w.counts,.sl 3 [] 3 0 w.zr.length false]],0⟩,⟨1,69,44,[zD (m)],0⟩,⟨2,107,5,(w.ze).map zF,0⟩,⟨2,101,3,(w.zr).map xt,0⟩] [.agg tn] (Ce (eI m 2 12 m.version)) [⟨1,37,8,[[I w.zn,I w.current,I w.lock,lI w.pins,.sl 2 [] 5 0 w.ze.length false,lL w.zd,eM w.counts,.sl 3 [] 3 0 w.zr.length false]],0⟩,⟨1,69,44,[zD (BK m)],0⟩,⟨2,107,5,(w.ze.set m.version.toNat (oo v)).map zF,0⟩,⟨2,101,3,(w.zr.set m.i.toNat (wu r)).map xt,0⟩]:=by
 have a0:=hv.v0;have av:m.version.toNat < w.ze.length:=(dP.1 hv.at_).1;have gv:=hv.row;have e1:0+m.i.toNat=m.i.toNat:=gz _;have e2:0+m.version.toNat=m.version.toNat:=gz _;have u4:m.i.toNat < w.zr.length:=(dP.1 hx).1;have gx:(w.zr.map xt)[m.i.toNat]?= some (xt r):=by rw [dT,hx];rfl
 have hst:(w.zr.map xt).set m.i.toNat [I r.version,I r.at_,Bo true]=(w.zr.set m.i.toNat (wu r)).map xt:=bR
 have hsv:(w.ze.map zF).set m.version.toNat [lT v.snap.zd,iq v.snap.rules,lC v.snap.zk,lG v.zm,Bo true]=(w.ze.set m.version.toNat (oo v)).map zF:=bR
 refine aa func130 ?_;refine .inl ⟨⟨false,[1,4,8,10,13,17],[0,1,4],[]⟩,au,uH ?_⟩;refine tc ?_
 refine ⟨a0,av,dd ?_⟩;rw [e2];refine ⟨_,gv,rfl,dd ?_⟩;refine tc ?_
 refine ⟨h0,u4,dd ?_⟩;rw [e1];refine ⟨_,gx,rfl,dd ?_⟩;refine tc ?_
 rw [hst,hsv];refine .inl ⟨⟨true,[],[],[]⟩,au,uH ?_⟩;refine af [1] (xq { m with answer:={ m.answer with n:=IntKind.i64.wrap (m.answer.n+1) } } 4 (IntKind.i64.wrap (m.i+1))) ?_;refine tc ?_
 refine .inl ⟨⟨true,[],[],[]⟩,au,uH ?_⟩;refine af [1] (qF (BK m) 2 12 m.version) ?_;refine tc ?_;exact ⟨.inl rfl,_,_,.refl _,rfl,cE 4⟩
def O5 (v:u9) (h:CT v):to 165 [] [Cv v] (I (yu v).length) []:=by
 have ml:((yu v).map zx).length=(yu v).length:=dV ..;have he:=Jd v h;generalize yu v=ll at he ml ⊢;refine ab func165 ?_;refine ah he ?_;rw [ml];exact uI
def Re (w:Wor) (m:u3) (hpc:m.pc=2) (h:m.i < w.pins.length):to 123 [] [Cw w,Cm m] (Bo true) []:=by
 have ml:(w.pins.map encI).length=w.pins.length:=dV ..;refine ab func123 ?_;(repeat (first | refine uA ?_ | refine uB ?_))
 exact uI
def Rh (w:Wor) (m:u3) (hpc:m.pc=9) (h:m.i < w.zd.length):to 123 [] [Cw w,Cm m] (Bo true) []:=by
 have ml:(w.zd.map qK).length=w.zd.length:=dV ..;refine ab func123 ?_;(repeat (first | refine uA ?_ | refine uB ?_))
 exact uI
def xw (w:Wor) (m:u3) (hpc:m.pc≠2∧m.pc≠5∧m.pc≠6∧m.pc≠9∧m.pc≠10):to 123 [] [Cw w,Cm m] (Bo true) []:=by
 refine ab func123 ?_;(repeat (first | refine uA ?_ | refine uB ?_))
 exact uI
def Rf (w:Wor) (m:u3) (v:u9) (hf:CT v) (hpc:m.pc=5) (hv:mX w m v) (h:m.k < (yu v).length):to 123 [] [Cw w,Cm m] (Bo true) []:=by
 have a0:=hv.v0;have a1:=hv.row;refine ab func123 ?_;(repeat (first | refine uA ?_ | refine uB ?_))
 refine .inl ⟨⟨true,[],[],[8]⟩,au,uH ?_⟩;(refine ⟨a0,_,a1,dd ?_⟩)
 refine ah (O5 v hf) ?_;(repeat (first | refine uA ?_ | refine uB ?_))
 exact uI
def Rg (w:Wor) (m:u3) (r:eJ) (hpc:m.pc=6) (h0:0<=m.i) (hx:w.zr[m.i.toNat]?= some r) (h1:r.version=m.version) (h2:r.gone=false):to 123 [] [Cw w,Cm m] (Bo true) []:=by
 have hg:(w.zr.map xt)[m.i.toNat]?= some (xt r):=by rw [dT,hx];rfl
 have u4:=(dP.1 hx).1;have ml:(w.zr.map xt).length=w.zr.length:=dV ..;obtain ⟨rv,ra,rg⟩:=r;cases h2
 refine ab func123 ?_;(repeat (first | refine uA ?_ | refine uB ?_))
 refine uE ?_;rw [ml];(repeat (first | refine uA ?_ | refine uB ?_))
 (refine ⟨h0,_,hg,dd ?_⟩)
 refine ⟨fun _=>dd ?_,fun hh=>absurd hh tH⟩;(repeat (first | ((refine ya (dd ?_))) | ((refine yb (dd ?_)))))
 (refine ⟨h0,_,hg,dd ?_⟩)
 (repeat (first | ((refine ya (dd ?_))) | ((refine yb (dd ?_)))))
 exact uI
def PF (w:Wor) (m:u3) (l:eL) (hpc:m.pc=10) (h0:0<=m.i) (hx:w.zd[m.i.toNat]?= some l) (h1:l.drain=true):to 123 [] [Cw w,Cm m] (Bo true) []:=by
 have hg:(w.zd.map qK)[m.i.toNat]?= some (qK l):=by rw [dT,hx];rfl
 have u4:=(dP.1 hx).1;have ml:(w.zd.map qK).length=w.zd.length:=dV ..;obtain ⟨ln,ld,la,lc⟩:=l;cases h1
 refine ab func123 ?_;(repeat (first | refine uA ?_ | refine uB ?_))
 rw [ml];(repeat (first | refine uA ?_ | refine uB ?_))
 (refine ⟨h0,_,hg,dd ?_⟩)
 (repeat (first | ((refine ya (dd ?_))) | ((refine yb (dd ?_)))))
 exact uI
def Vj (w:Wor) (m:u3) (X:Ob) (j f:Nat) (R:Exit->S->Prop) (hlow:qP 8 ([⟨1,37,8,[zJ (w)],0⟩,⟨1,69,44,[zD (m)],0⟩,⟨1,37,8,[fQ],0⟩,⟨1,69,44,[fP],0⟩,⟨1,48,23,[zP qC],0⟩,X,⟨1,69,44,[zD (m)],0⟩,⟨1,227,2,[tj],0⟩]++[])=true) (hf:∀ v0 v1 v2 v3 v4 v5 v6 v8 v9 v10,vv [(0,v0,0),(1,v1,1),(2,v2,2),(3,v3,3),(4,v4,4),(5,v5,5),(6,v6,6),(8,v8,7),(9,v9,8),(10,v10,9)] m.pc=some j) (hc:([.fn 124 [.agg tj] [],.fn 125 [.agg tj] [],.fn 126 [.agg tj] [],.fn 127 [.agg tj] [],.fn 128 [.agg tj] [],.fn 129 [.agg tj] [],.fn 130 [.agg tj] [],.fn 131 [.agg tj] [],.fn 132 [.agg tj] [],.fn 133 [.agg tj] []]:List C)[j]?= some (.fn f [.agg tj] []))
  (hn:qX prog 0 (behind 5 ((f100.body).getD .skip)) ⟨(.za::.za::.ref 0 [] 8 0 0:: .ref 1 [] 44 0 0:: .ref 2 [] 8 0 0:: .ref 3 [] 44 0 0:: .ref 4 [] 23 0 0:: .ref 5 [] 8 0 0:: .ref 6 [] 44 0 0:: .ref 7 [] 2 0 0:: .fn f [.agg tj] []::Bo true:: hZ (hZ (hZ (hZ (hZ (hZ (hZ ([])))))))),[⟨1,37,8,[zJ (w)],0⟩,⟨1,69,44,[zD (m)],0⟩,⟨1,37,8,[fQ],0⟩,⟨1,69,44,[fP],0⟩,⟨1,48,23,[zP qC],0⟩,X,⟨1,69,44,[zD (m)],0⟩,⟨1,227,2,[tj],0⟩]++[]⟩ R):qX prog 0 (behind 4 ((f100.body).getD .skip)) ⟨(.za::.za::.ref 0 [] 8 0 0:: .ref 1 [] 44 0 0:: .ref 2 [] 8 0 0:: .ref 3 [] 44 0 0:: .ref 4 [] 23 0 0:: .ref 5 [] 8 0 0:: .ref 6 [] 44 0 0:: .ref 7 [] 2 0 0:: .za::.za::hZ (hZ (hZ (hZ (hZ (hZ (hZ ([])))))))),[⟨1,37,8,[zJ (w)],0⟩,⟨1,69,44,[zD (m)],0⟩,⟨1,37,8,[fQ],0⟩,⟨1,69,44,[fP],0⟩,⟨1,48,23,[zP qC],0⟩,X,⟨1,69,44,[zD (m)],0⟩,⟨1,227,2,[tj],0⟩]++[]⟩ R:=by
 refine iG (uH ?_);intro b;refine dd ?_;refine jI.qo (id:=8) _ _ _ _ (.inr rfl) underlying230 underlying3 rfl rfl rfl rfl rfl ?_;intro v0;refine dd ?_;refine jI.qo (id:=8) _ _ _ _ (.inr rfl) underlying230 underlying3 rfl rfl rfl rfl rfl ?_;intro v1;refine dd ?_;refine jI.qo (id:=8) _ _ _ _ (.inr rfl) underlying230 underlying3 rfl rfl rfl rfl rfl ?_;intro v2;refine dd ?_;refine jI.qo (id:=8) _ _ _ _ (.inr rfl) underlying230 underlying3 rfl rfl rfl rfl rfl ?_;intro v3;refine dd ?_;refine jI.qo (id:=8) _ _ _ _ (.inr rfl) underlying230 underlying3 rfl rfl rfl rfl rfl ?_;intro v4;refine dd ?_;refine jI.qo (id:=8) _ _ _ _ (.inr rfl) underlying230 underlying3 rfl rfl rfl rfl rfl ?_;intro v5;refine dd ?_;refine jI.qo (id:=8) _ _ _ _ (.inr rfl) underlying230 underlying3 rfl rfl rfl rfl rfl ?_;intro v6;refine dd ?_;refine jI.qo (id:=8) _ _ _ _ (.inr rfl) underlying230 underlying3 rfl rfl rfl rfl rfl ?_;intro v8;refine dd ?_;refine jI.qo (id:=8) _ _ _ _ (.inr rfl) underlying230 underlying3 rfl rfl rfl rfl rfl ?_;intro v9;refine dd ?_;refine jI.qo (id:=8) _ _ _ _ (.inr rfl) underlying230 underlying3 rfl rfl rfl rfl rfl ?_;intro v10;refine dd ?_;(refine ⟨_,_,eh.B7 (id:=8) _ _ _ _ rfl underlying230 underlying3 rfl rfl rfl rfl rfl rfl (hf _ _ _ _ _ _ _ _ _ _) hc,?_⟩;(refine dd ?_))
 refine td ?_
 refine .inl ⟨rfl,_,_,(zp.forget 8).trans (zp.xx 8 hU rfl rfl rfl hlow rfl),hn⟩
def Uk (w:Wor) (m:u3) (X:Ob) (Y:Ob)(j f:Nat) (R:Exit->S->Prop) (hlow:qP 9 ([⟨1,37,8,[zJ (w)],0⟩,⟨1,69,44,[zD (m)],0⟩,⟨1,37,8,[fQ],0⟩,⟨1,69,44,[fP],0⟩,⟨1,48,23,[zP qC],0⟩,X,⟨1,69,44,[zD (m)],0⟩,⟨1,227,2,[tj],0⟩]++[Y])=true) (hf:∀ v0 v1 v2 v3 v4 v5 v6 v8 v9 v10,vv [(0,v0,0),(1,v1,1),(2,v2,2),(3,v3,3),(4,v4,4),(5,v5,5),(6,v6,6),(8,v8,7),(9,v9,8),(10,v10,9)] m.pc=some j) (hc:([.fn 124 [.agg tj] [],.fn 125 [.agg tj] [],.fn 126 [.agg tj] [],.fn 127 [.agg tj] [],.fn 128 [.agg tj] [],.fn 129 [.agg tj] [],.fn 130 [.agg tj] [],.fn 131 [.agg tj] [],.fn 132 [.agg tj] [],.fn 133 [.agg tj] []]:List C)[j]?= some (.fn f [.agg tj] []))
  (hn:qX prog 0 (behind 5 ((f100.body).getD .skip)) ⟨(.za::.za::.ref 0 [] 8 0 0:: .ref 1 [] 44 0 0:: .ref 2 [] 8 0 0:: .ref 3 [] 44 0 0:: .ref 4 [] 23 0 0:: .ref 5 [] 8 0 0:: .ref 6 [] 44 0 0:: .ref 7 [] 2 0 0:: .fn f [.agg tj] []::Bo true:: hZ (hZ (hZ (hZ (hZ (hZ (hZ ([])))))))),[⟨1,37,8,[zJ (w)],0⟩,⟨1,69,44,[zD (m)],0⟩,⟨1,37,8,[fQ],0⟩,⟨1,69,44,[fP],0⟩,⟨1,48,23,[zP qC],0⟩,X,⟨1,69,44,[zD (m)],0⟩,⟨1,227,2,[tj],0⟩]++[Y]⟩ R):qX prog 0 (behind 4 ((f100.body).getD .skip)) ⟨(.za::.za::.ref 0 [] 8 0 0:: .ref 1 [] 44 0 0:: .ref 2 [] 8 0 0:: .ref 3 [] 44 0 0:: .ref 4 [] 23 0 0:: .ref 5 [] 8 0 0:: .ref 6 [] 44 0 0:: .ref 7 [] 2 0 0:: .za::.za::hZ (hZ (hZ (hZ (hZ (hZ (hZ ([])))))))),[⟨1,37,8,[zJ (w)],0⟩,⟨1,69,44,[zD (m)],0⟩,⟨1,37,8,[fQ],0⟩,⟨1,69,44,[fP],0⟩,⟨1,48,23,[zP qC],0⟩,X,⟨1,69,44,[zD (m)],0⟩,⟨1,227,2,[tj],0⟩]++[Y]⟩ R:=by
 refine iG (uH ?_);intro b;refine dd ?_;refine jI.qo (id:=9) _ _ _ _ (.inr rfl) underlying230 underlying3 rfl rfl rfl rfl rfl ?_;intro v0;refine dd ?_;refine jI.qo (id:=9) _ _ _ _ (.inr rfl) underlying230 underlying3 rfl rfl rfl rfl rfl ?_;intro v1;refine dd ?_;refine jI.qo (id:=9) _ _ _ _ (.inr rfl) underlying230 underlying3 rfl rfl rfl rfl rfl ?_;intro v2;refine dd ?_;refine jI.qo (id:=9) _ _ _ _ (.inr rfl) underlying230 underlying3 rfl rfl rfl rfl rfl ?_;intro v3;refine dd ?_;refine jI.qo (id:=9) _ _ _ _ (.inr rfl) underlying230 underlying3 rfl rfl rfl rfl rfl ?_;intro v4;refine dd ?_;refine jI.qo (id:=9) _ _ _ _ (.inr rfl) underlying230 underlying3 rfl rfl rfl rfl rfl ?_;intro v5;refine dd ?_;refine jI.qo (id:=9) _ _ _ _ (.inr rfl) underlying230 underlying3 rfl rfl rfl rfl rfl ?_;intro v6;refine dd ?_;refine jI.qo (id:=9) _ _ _ _ (.inr rfl) underlying230 underlying3 rfl rfl rfl rfl rfl ?_;intro v8;refine dd ?_;refine jI.qo (id:=9) _ _ _ _ (.inr rfl) underlying230 underlying3 rfl rfl rfl rfl rfl ?_;intro v9;refine dd ?_;refine jI.qo (id:=9) _ _ _ _ (.inr rfl) underlying230 underlying3 rfl rfl rfl rfl rfl ?_;intro v10;refine dd ?_;(refine ⟨_,_,eh.B7 (id:=9) _ _ _ _ rfl underlying230 underlying3 rfl rfl rfl rfl rfl rfl (hf _ _ _ _ _ _ _ _ _ _) hc,?_⟩;(refine dd ?_))
 refine td ?_
 refine .inl ⟨rfl,_,_,(zp.forget 9).trans (zp.xx 9 hU rfl rfl rfl hlow rfl),hn⟩
def Uj (w:Wor) (m:u3) (X:Ob) (Y Z:Ob)(j f:Nat) (R:Exit->S->Prop) (hlow:qP 10 ([⟨1,37,8,[zJ (w)],0⟩,⟨1,69,44,[zD (m)],0⟩,⟨1,37,8,[fQ],0⟩,⟨1,69,44,[fP],0⟩,⟨1,48,23,[zP qC],0⟩,X,⟨1,69,44,[zD (m)],0⟩,⟨1,227,2,[tj],0⟩]++[Y,Z])=true) (hf:∀ v0 v1 v2 v3 v4 v5 v6 v8 v9 v10,vv [(0,v0,0),(1,v1,1),(2,v2,2),(3,v3,3),(4,v4,4),(5,v5,5),(6,v6,6),(8,v8,7),(9,v9,8),(10,v10,9)] m.pc=some j) (hc:([.fn 124 [.agg tj] [],.fn 125 [.agg tj] [],.fn 126 [.agg tj] [],.fn 127 [.agg tj] [],.fn 128 [.agg tj] [],.fn 129 [.agg tj] [],.fn 130 [.agg tj] [],.fn 131 [.agg tj] [],.fn 132 [.agg tj] [],.fn 133 [.agg tj] []]:List C)[j]?= some (.fn f [.agg tj] []))
  (hn:qX prog 0 (behind 5 ((f100.body).getD .skip)) ⟨(.za::.za::.ref 0 [] 8 0 0:: .ref 1 [] 44 0 0:: .ref 2 [] 8 0 0:: .ref 3 [] 44 0 0:: .ref 4 [] 23 0 0:: .ref 5 [] 8 0 0:: .ref 6 [] 44 0 0:: .ref 7 [] 2 0 0:: .fn f [.agg tj] []::Bo true:: hZ (hZ (hZ (hZ (hZ (hZ (hZ ([])))))))),[⟨1,37,8,[zJ (w)],0⟩,⟨1,69,44,[zD (m)],0⟩,⟨1,37,8,[fQ],0⟩,⟨1,69,44,[fP],0⟩,⟨1,48,23,[zP qC],0⟩,X,⟨1,69,44,[zD (m)],0⟩,⟨1,227,2,[tj],0⟩]++[Y,Z]⟩ R):qX prog 0 (behind 4 ((f100.body).getD .skip)) ⟨(.za::.za::.ref 0 [] 8 0 0:: .ref 1 [] 44 0 0:: .ref 2 [] 8 0 0:: .ref 3 [] 44 0 0:: .ref 4 [] 23 0 0:: .ref 5 [] 8 0 0:: .ref 6 [] 44 0 0:: .ref 7 [] 2 0 0:: .za::.za::hZ (hZ (hZ (hZ (hZ (hZ (hZ ([])))))))),[⟨1,37,8,[zJ (w)],0⟩,⟨1,69,44,[zD (m)],0⟩,⟨1,37,8,[fQ],0⟩,⟨1,69,44,[fP],0⟩,⟨1,48,23,[zP qC],0⟩,X,⟨1,69,44,[zD (m)],0⟩,⟨1,227,2,[tj],0⟩]++[Y,Z]⟩ R:=by
 refine iG (uH ?_);intro b;refine dd ?_;refine jI.qo (id:=10) _ _ _ _ (.inr rfl) underlying230 underlying3 rfl rfl rfl rfl rfl ?_;intro v0;refine dd ?_;refine jI.qo (id:=10) _ _ _ _ (.inr rfl) underlying230 underlying3 rfl rfl rfl rfl rfl ?_;intro v1;refine dd ?_;refine jI.qo (id:=10) _ _ _ _ (.inr rfl) underlying230 underlying3 rfl rfl rfl rfl rfl ?_;intro v2;refine dd ?_;refine jI.qo (id:=10) _ _ _ _ (.inr rfl) underlying230 underlying3 rfl rfl rfl rfl rfl ?_;intro v3;refine dd ?_;refine jI.qo (id:=10) _ _ _ _ (.inr rfl) underlying230 underlying3 rfl rfl rfl rfl rfl ?_;intro v4;refine dd ?_;refine jI.qo (id:=10) _ _ _ _ (.inr rfl) underlying230 underlying3 rfl rfl rfl rfl rfl ?_;intro v5;refine dd ?_;refine jI.qo (id:=10) _ _ _ _ (.inr rfl) underlying230 underlying3 rfl rfl rfl rfl rfl ?_;intro v6;refine dd ?_;refine jI.qo (id:=10) _ _ _ _ (.inr rfl) underlying230 underlying3 rfl rfl rfl rfl rfl ?_;intro v8;refine dd ?_;refine jI.qo (id:=10) _ _ _ _ (.inr rfl) underlying230 underlying3 rfl rfl rfl rfl rfl ?_;intro v9;refine dd ?_;refine jI.qo (id:=10) _ _ _ _ (.inr rfl) underlying230 underlying3 rfl rfl rfl rfl rfl ?_;intro v10;refine dd ?_;(refine ⟨_,_,eh.B7 (id:=10) _ _ _ _ rfl underlying230 underlying3 rfl rfl rfl rfl rfl rfl (hf _ _ _ _ _ _ _ _ _ _) hc,?_⟩;(refine dd ?_))
 refine td ?_
 refine .inl ⟨rfl,_,_,(zp.forget 10).trans (zp.xx 10 hU rfl rfl rfl hlow rfl),hn⟩
def jK {w w':Wor} {m m':u3} {e:u6} (sw:qZ w) (ok:fm w) (hl:i64 m.listen) (hs:z6 w m=true) (hm:to 123 [] [Cw w,Cm m] (Bo true) []) (j f:Nat) (hcb:qt prog f=true) (hf:∀ v0 v1 v2 v3 v4 v5 v6 v8 v9 v10,vv [(0,v0,0),(1,v1,1),(2,v2,2),(3,v3,3),(4,v4,4),(5,v5,5),(6,v6,6),(8,v8,7),(9,v9,8),(10,v10,9)] m.pc=some j) (hc:([.fn 124 [.agg tj] [],.fn 125 [.agg tj] [],.fn 126 [.agg tj] [],.fn 127 [.agg tj] [],.fn 128 [.agg tj] [],.fn 129 [.agg tj] [],.fn 130 [.agg tj] [],.fn 131 [.agg tj] [],.fn 132 [.agg tj] [],.fn 133 [.agg tj] []]:List C)[j]?= some (.fn f [.agg tj] []))
  (h:to f [⟨1,37,8,[zJ (w)],0⟩,⟨1,69,44,[zD (m)],0⟩] [.agg tn] (Ce e) [⟨1,37,8,[zJ (w')],0⟩,⟨1,69,44,[zD (m')],0⟩]):to 100 [] [Cw w,Cm m] (.u7 [Cw w',Cm m',Ce e]) []:=by
 refine zb.Al func100 rfl ?_;show qX prog 0 ((f100.body).getD .skip) _ _;refine iG (uH ?_);refine .inl ⟨rfl,_,_,.refl _,iG (uH ?_)⟩;refine ah (zO w m ok hl) ?_;refine ⟨fun _=>dd ?_,fun h=>absurd ((hs).symm.trans h:true=false) ar⟩;refine td ?_
 refine ah hm ?_;refine td ?_
 refine .inl ⟨rfl,_,_,.refl _,iG (uH ?_)⟩;refine .inr ⟨⟨[0,1,2],[0,1],true⟩,au,fun _=>rfl,fun t H=>t=(.za::.za::.ref 0 [] 8 0 0:: .ref 1 [] 44 0 0:: .ref 2 [] 8 0 0:: .ref 3 [] 44 0 0:: .ref 4 [] 23 0 0:: .ref 5 [] 8 0 0:: .ref 6 [] 44 0 0:: .za::.za::.za::hZ (hZ (hZ (hZ (hZ (hZ (hZ ([]))))))))∧H=[⟨1,37,8,[zJ (w)],0⟩,⟨1,69,44,[zD (m)],0⟩,⟨1,37,8,[fQ],0⟩,⟨1,69,44,[fP],0⟩,⟨1,48,23,[zP qC],0⟩,⟨1,37,8,[zJ (w)],0⟩,⟨1,69,44,[zD (m)],0⟩],?_,?_⟩
 ·conv=>whnf
  refine ⟨_,ai [] (qy w sw),uH ?_⟩;repeat' (first | (exact trivial) | (refine ⟨rfl,uH ?_⟩) | (exact ⟨_,_,zp.ed [0,1,2,3,4,5,6] [2,3,4,5,6,7,8] _ _ rfl rfl rfl rfl,rfl,rfl⟩) | (exact ⟨_,_,zp.ed [0,1,2,3,4,6,5] [2,3,4,5,6,7,8] _ _ rfl rfl rfl rfl,rfl,rfl⟩) | (refine And.intro ?_ ?_ <;> (conv=>whnf)))
 rintro _ _ ⟨rfl,rfl⟩;conv=>whnf
 refine .inl ⟨rfl,_,_,.refl _,iG (uH ?_)⟩;refine .inl ⟨rfl,_,_,cE 8,Vj w m (⟨1,37,8,[zJ (w)],0⟩) j f _ rfl hf hc ?_⟩;(refine jC (K:=fun ex t H=>(ex=.ret∨ex=.normal)∧∃ s2,zp 0 ⟨t,H⟩ s2∧(kL prog f100 s2).map (yw 0 9)=some (.u7 [Cw w',Cm m',Ce e])) (uH ?_))
 rw [hcb];refine af [5,6] (h) ?_;refine .inl ⟨⟨false,[0,1,2],[5,6,8],[]⟩,au,uH ?_⟩;refine tc ?_
 exact uI
def Oy {w:Wor} {m m':u3} {e:u6} {ls:List eL} (sw:qZ w) (ok:fm w) (hl:i64 m.listen) (hs:z6 w m=true) (hm:to 123 [] [Cw w,Cm m] (Bo true) []) (j f:Nat) (hcb:qt prog f=true) (hf:∀ v0 v1 v2 v3 v4 v5 v6 v8 v9 v10,vv [(0,v0,0),(1,v1,1),(2,v2,2),(3,v3,3),(4,v4,4),(5,v5,5),(6,v6,6),(8,v8,7),(9,v9,8),(10,v10,9)] m.pc=some j) (hc:([.fn 124 [.agg tj] [],.fn 125 [.agg tj] [],.fn 126 [.agg tj] [],.fn 127 [.agg tj] [],.fn 128 [.agg tj] [],.fn 129 [.agg tj] [],.fn 130 [.agg tj] [],.fn 131 [.agg tj] [],.fn 132 [.agg tj] [],.fn 133 [.agg tj] []]:List C)[j]?= some (.fn f [.agg tj] []))
  (hne:w.zd≠[]) (hll:ls.length=w.zd.length) (h:to f [⟨1,37,8,[[I w.zn,I w.current,I w.lock,lI w.pins,lV w.ze,.sl 2 [] 4 0 w.zd.length false,eM w.counts,lR w.zr]],0⟩,⟨1,69,44,[zD (m)],0⟩,⟨2,85,4,(w.zd).map qK,0⟩] [.agg tn] (Ce e) [⟨1,37,8,[[I w.zn,I w.current,I w.lock,lI w.pins,lV w.ze,.sl 2 [] 4 0 w.zd.length false,eM w.counts,lR w.zr]],0⟩,⟨1,69,44,[zD (m')],0⟩,⟨2,85,4,(ls).map qK,0⟩]):to 100 [] [Cw w,Cm m] (.u7 [Cw { w with zd:=ls },Cm m',Ce e]) []:=by
 obtain ⟨x,l,hx⟩:=sE hne;refine zb.Al func100 rfl ?_;show qX prog 0 ((f100.body).getD .skip) _ _;refine iG (uH ?_);refine .inl ⟨rfl,_,_,.refl _,iG (uH ?_)⟩;refine ah (zO w m ok hl) ?_;refine ⟨fun _=>dd ?_,fun h=>absurd ((hs).symm.trans h:true=false) ar⟩;refine td ?_
 refine ah hm ?_;refine td ?_
 refine .inl ⟨rfl,_,_,.refl _,iG (uH ?_)⟩;refine .inr ⟨⟨[0,2],[0,1],true⟩,au,fun _=>rfl,fun t H=>t=(.za::.za::.ref 0 [] 8 0 0:: .ref 1 [] 44 0 0:: .ref 2 [] 8 0 0:: .ref 3 [] 44 0 0:: .ref 4 [] 23 0 0:: .ref 5 [] 8 0 0:: .ref 6 [] 44 0 0:: .za::.za::.za::hZ (hZ (hZ (hZ (hZ (hZ (hZ ([]))))))))∧H=[⟨1,37,8,[zJ (w)],0⟩,⟨1,69,44,[zD (m)],0⟩,⟨1,37,8,[fQ],0⟩,⟨1,69,44,[fP],0⟩,⟨1,48,23,[zP qC],0⟩,⟨1,37,8,[[I w.zn,I w.current,I w.lock,lI w.pins,lV w.ze,.sl 7 [] 4 0 w.zd.length false,eM w.counts,lR w.zr]],0⟩,⟨1,69,44,[zD (m)],0⟩,⟨2,85,4,(w.zd).map qK,0⟩],?_,?_⟩
 ·conv=>whnf
  repeat' (first | (exact trivial) | (refine ⟨rfl,uH ?_⟩) | (refine zq [] (vd w sw x l hx) rfl rfl rfl rfl rfl rfl (uH ?_)) | (exact ⟨_,_,zp.ed [0,1,2,3,4,5,6,7] [2,3,4,5,6,7,8] _ _ rfl rfl rfl rfl,rfl,rfl⟩) | (exact ⟨_,_,zp.ed [0,1,2,3,4,5,7,6] [2,3,4,5,6,7,8] _ _ rfl rfl rfl rfl,rfl,rfl⟩) | (exact ⟨_,_,zp.ed [0,1,2,3,4,6,5,7] [2,3,4,5,6,7,8] _ _ rfl rfl rfl rfl,rfl,rfl⟩) | (exact ⟨_,_,zp.ed [0,1,2,3,4,6,7,5] [2,3,4,5,6,7,8] _ _ rfl rfl rfl rfl,rfl,rfl⟩) | (exact ⟨_,_,zp.ed [0,1,2,3,4,7,5,6] [2,3,4,5,6,7,8] _ _ rfl rfl rfl rfl,rfl,rfl⟩) | (exact ⟨_,_,zp.ed [0,1,2,3,4,7,6,5] [2,3,4,5,6,7,8] _ _ rfl rfl rfl rfl,rfl,rfl⟩) | (refine And.intro ?_ ?_ <;> (conv=>whnf)))
 rintro _ _ ⟨rfl,rfl⟩;conv=>whnf
 refine .inl ⟨rfl,_,_,.refl _,iG (uH ?_)⟩;refine .inl ⟨rfl,_,_,(zp.ed [0,1,2,3,4,5,6,8,7] [2,3,4,5,6,7,8,9] _ _ rfl rfl rfl rfl).trans (cC),Uk w m (⟨1,37,8,[[I w.zn,I w.current,I w.lock,lI w.pins,lV w.ze,.sl 8 [] 4 0 w.zd.length false,eM w.counts,lR w.zr]],0⟩) (⟨2,85,4,(w.zd).map qK,0⟩) j f _ rfl hf hc ?_⟩;(refine jC (K:=fun ex t H=>(ex=.ret∨ex=.normal)∧∃ s2,zp 0 ⟨t,H⟩ s2∧(kL prog f100 s2).map (yw 0 9)=some (.u7 [Cw { w with zd:=ls },Cm m',Ce e])) (uH ?_))
 rw [hcb];refine af [5,6,8] (h) ?_;refine .inl ⟨⟨false,[0,1,2],[5,6,9],[]⟩,au,uH ?_⟩;refine tc ?_
 exact dy
def ON (w:Wor) (h:qZ w) (x:eJ) (l:List eJ) (hx:w.zr=x::l):to 114 [] [Cw w] (.agg [I w.zn,I w.current,I w.lock,lI w.pins,.sl 0 [] 5 0 w.ze.length false,lL w.zd,eM w.counts,.sl 1 [] 3 0 w.zr.length false]) [⟨2,107,5,(w.ze).map zF,0⟩,⟨2,101,3,(w.zr).map xt,0⟩]:=by
 have hl:l.length < 1000000000:=by have:=h.zr;rw [hx] at this;exact cQ
 have hc:=K1 x l hl;rw [<- hx] at hc;refine Ar (fn:=f114) func114 rfl (uH ?_);refine ah (vc w.pins h.pins) ?_;refine af [] (wQ w.ze h.ze.1 fun v hv=>jM v (h.ze.2 v hv)) ?_;refine ah (vX w.zd h.zd) ?_;refine af [] (wP w.counts h.counts.1 fun r hr=>yg r (h.counts.2 r hr)) ?_;refine af [] (hc) ?_;refine ⟨.inl rfl,_,_,zp.zV 1 0 6 rfl rfl rfl rfl (.inr rfl) rfl aj (shut_map (enc:=zN) (fun _=>rfl) w.counts) (qa rfl),rfl,?_⟩;exact zp.ed [3,5] [0] _ _ rfl rfl rfl (zc rfl (zc rfl (zc rfl (zc rfl (zc (zj fun r hr c hc=>((shut_map (enc:=zN) (fun _=>rfl) w.counts) r hr c hc).2) rfl)))))
def Ox {w:Wor} {m m':u3} {e:u6} {vs:List u9} {rs:List eJ} (sw:qZ w) (ok:fm w) (hl:i64 m.listen) (hs:z6 w m=true) (hm:to 123 [] [Cw w,Cm m] (Bo true) []) (j f:Nat) (hcb:qt prog f=true) (hf:∀ v0 v1 v2 v3 v4 v5 v6 v8 v9 v10,vv [(0,v0,0),(1,v1,1),(2,v2,2),(3,v3,3),(4,v4,4),(5,v5,5),(6,v6,6),(8,v8,7),(9,v9,8),(10,v10,9)] m.pc=some j) (hc:([.fn 124 [.agg tj] [],.fn 125 [.agg tj] [],.fn 126 [.agg tj] [],.fn 127 [.agg tj] [],.fn 128 [.agg tj] [],.fn 129 [.agg tj] [],.fn 130 [.agg tj] [],.fn 131 [.agg tj] [],.fn 132 [.agg tj] [],.fn 133 [.agg tj] []]:List C)[j]?= some (.fn f [.agg tj] []))
  (hne:w.ze≠[]) (hne2:w.zr≠[]) (hvl:vs.length=w.ze.length) (hrl:rs.length=w.zr.length) (h:to f [⟨1,37,8,[[I w.zn,I w.current,I w.lock,lI w.pins,.sl 2 [] 5 0 w.ze.length false,lL w.zd,eM w.counts,.sl 3 [] 3 0 w.zr.length false]],0⟩,⟨1,69,44,[zD (m)],0⟩,⟨2,107,5,(w.ze).map zF,0⟩,⟨2,101,3,(w.zr).map xt,0⟩] [.agg tn] (Ce e) [⟨1,37,8,[[I w.zn,I w.current,I w.lock,lI w.pins,.sl 2 [] 5 0 w.ze.length false,lL w.zd,eM w.counts,.sl 3 [] 3 0 w.zr.length false]],0⟩,⟨1,69,44,[zD (m')],0⟩,⟨2,107,5,(vs).map zF,0⟩,⟨2,101,3,(rs).map xt,0⟩]):to 100 [] [Cw w,Cm m] (.u7 [Cw { w with ze:=vs,zr:=rs },Cm m',Ce e]) []:=by
 obtain ⟨v,vl,hv⟩:=sE hne;obtain ⟨r,rl,hr⟩:=sE hne2;refine zb.Al func100 rfl ?_;show qX prog 0 ((f100.body).getD .skip) _ _;refine iG (uH ?_);refine .inl ⟨rfl,_,_,.refl _,iG (uH ?_)⟩;refine ah (zO w m ok hl) ?_;refine ⟨fun _=>dd ?_,fun h=>absurd ((hs).symm.trans h:true=false) ar⟩;refine td ?_
 refine ah hm ?_;refine td ?_
 refine .inl ⟨rfl,_,_,.refl _,iG (uH ?_)⟩;refine .inr ⟨⟨[0,2],[0,1],true⟩,au,fun _=>rfl,fun t H=>t=(.za::.za::.ref 0 [] 8 0 0:: .ref 1 [] 44 0 0:: .ref 2 [] 8 0 0:: .ref 3 [] 44 0 0:: .ref 4 [] 23 0 0:: .ref 5 [] 8 0 0:: .ref 6 [] 44 0 0:: .za::.za::.za::hZ (hZ (hZ (hZ (hZ (hZ (hZ ([]))))))))∧H=[⟨1,37,8,[zJ (w)],0⟩,⟨1,69,44,[zD (m)],0⟩,⟨1,37,8,[fQ],0⟩,⟨1,69,44,[fP],0⟩,⟨1,48,23,[zP qC],0⟩,⟨1,37,8,[[I w.zn,I w.current,I w.lock,lI w.pins,.sl 7 [] 5 0 w.ze.length false,lL w.zd,eM w.counts,.sl 8 [] 3 0 w.zr.length false]],0⟩,⟨1,69,44,[zD (m)],0⟩,⟨2,107,5,(w.ze).map zF,0⟩,⟨2,101,3,(w.zr).map xt,0⟩],?_,?_⟩
 ·conv=>whnf
  repeat' (first | (exact trivial) | (refine ⟨rfl,uH ?_⟩) | (refine zq [] (ON w sw r rl hr) rfl rfl rfl rfl rfl rfl (uH ?_)) | (exact ⟨_,_,zp.ed [0,1,2,3,4,5,6,7,8] [2,3,4,5,6,7,8] _ _ rfl rfl rfl rfl,rfl,rfl⟩) | (exact ⟨_,_,zp.ed [0,1,2,3,4,5,6,8,7] [2,3,4,5,6,7,8] _ _ rfl rfl rfl rfl,rfl,rfl⟩) | (exact ⟨_,_,zp.ed [0,1,2,3,4,5,7,6,8] [2,3,4,5,6,7,8] _ _ rfl rfl rfl rfl,rfl,rfl⟩) | (exact ⟨_,_,zp.ed [0,1,2,3,4,5,7,8,6] [2,3,4,5,6,7,8] _ _ rfl rfl rfl rfl,rfl,rfl⟩) | (exact ⟨_,_,zp.ed [0,1,2,3,4,5,8,6,7] [2,3,4,5,6,7,8] _ _ rfl rfl rfl rfl,rfl,rfl⟩) | (exact ⟨_,_,zp.ed [0,1,2,3,4,5,8,7,6] [2,3,4,5,6,7,8] _ _ rfl rfl rfl rfl,rfl,rfl⟩) | (exact ⟨_,_,zp.ed [0,1,2,3,4,6,5,7,8] [2,3,4,5,6,7,8] _ _ rfl rfl rfl rfl,rfl,rfl⟩) | (exact ⟨_,_,zp.ed [0,1,2,3,4,6,5,8,7] [2,3,4,5,6,7,8] _ _ rfl rfl rfl rfl,rfl,rfl⟩) | (exact ⟨_,_,zp.ed [0,1,2,3,4,6,7,5,8] [2,3,4,5,6,7,8] _ _ rfl rfl rfl rfl,rfl,rfl⟩) | (exact ⟨_,_,zp.ed [0,1,2,3,4,6,7,8,5] [2,3,4,5,6,7,8] _ _ rfl rfl rfl rfl,rfl,rfl⟩) | (exact ⟨_,_,zp.ed [0,1,2,3,4,6,8,5,7] [2,3,4,5,6,7,8] _ _ rfl rfl rfl rfl,rfl,rfl⟩) | (exact ⟨_,_,zp.ed [0,1,2,3,4,6,8,7,5] [2,3,4,5,6,7,8] _ _ rfl rfl rfl rfl,rfl,rfl⟩) | (exact ⟨_,_,zp.ed [0,1,2,3,4,7,5,6,8] [2,3,4,5,6,7,8] _ _ rfl rfl rfl rfl,rfl,rfl⟩) | (exact ⟨_,_,zp.ed [0,1,2,3,4,7,5,8,6] [2,3,4,5,6,7,8] _ _ rfl rfl rfl rfl,rfl,rfl⟩) | (exact ⟨_,_,zp.ed [0,1,2,3,4,7,6,5,8] [2,3,4,5,6,7,8] _ _ rfl rfl rfl rfl,rfl,rfl⟩) | (exact ⟨_,_,zp.ed [0,1,2,3,4,7,6,8,5] [2,3,4,5,6,7,8] _ _ rfl rfl rfl rfl,rfl,rfl⟩) | (exact ⟨_,_,zp.ed [0,1,2,3,4,7,8,5,6] [2,3,4,5,6,7,8] _ _ rfl rfl rfl rfl,rfl,rfl⟩) | (exact ⟨_,_,zp.ed [0,1,2,3,4,7,8,6,5] [2,3,4,5,6,7,8] _ _ rfl rfl rfl rfl,rfl,rfl⟩) | (exact ⟨_,_,zp.ed [0,1,2,3,4,8,5,6,7] [2,3,4,5,6,7,8] _ _ rfl rfl rfl rfl,rfl,rfl⟩) | (exact ⟨_,_,zp.ed [0,1,2,3,4,8,5,7,6] [2,3,4,5,6,7,8] _ _ rfl rfl rfl rfl,rfl,rfl⟩) | (exact ⟨_,_,zp.ed [0,1,2,3,4,8,6,5,7] [2,3,4,5,6,7,8] _ _ rfl rfl rfl rfl,rfl,rfl⟩) | (exact ⟨_,_,zp.ed [0,1,2,3,4,8,6,7,5] [2,3,4,5,6,7,8] _ _ rfl rfl rfl rfl,rfl,rfl⟩) | (exact ⟨_,_,zp.ed [0,1,2,3,4,8,7,5,6] [2,3,4,5,6,7,8] _ _ rfl rfl rfl rfl,rfl,rfl⟩) | (exact ⟨_,_,zp.ed [0,1,2,3,4,8,7,6,5] [2,3,4,5,6,7,8] _ _ rfl rfl rfl rfl,rfl,rfl⟩) | (refine And.intro ?_ ?_ <;> (conv=>whnf)))
 rintro _ _ ⟨rfl,rfl⟩;conv=>whnf
 refine .inl ⟨rfl,_,_,.refl _,iG (uH ?_)⟩;refine .inl ⟨rfl,_,_,(zp.ed [0,1,2,3,4,5,6,9,7,8] [2,3,4,5,6,7,8,9] _ _ rfl rfl rfl rfl).trans (cC),Uj w m (⟨1,37,8,[[I w.zn,I w.current,I w.lock,lI w.pins,.sl 8 [] 5 0 w.ze.length false,lL w.zd,eM w.counts,.sl 9 [] 3 0 w.zr.length false]],0⟩) (⟨2,107,5,(w.ze).map zF,0⟩) (⟨2,101,3,(w.zr).map xt,0⟩) j f _ rfl hf hc ?_⟩;(refine jC (K:=fun ex t H=>(ex=.ret∨ex=.normal)∧∃ s2,zp 0 ⟨t,H⟩ s2∧(kL prog f100 s2).map (yw 0 9)=some (.u7 [Cw { w with ze:=vs,zr:=rs },Cm m',Ce e])) (uH ?_))
 rw [hcb];refine af [5,6,8,9] (h) ?_;refine .inl ⟨⟨false,[0,1,2],[5,6,10],[]⟩,au,uH ?_⟩;refine tc ?_
 exact ⟨.inl rfl,_,(zp.zV 2 0 4 rfl rfl rfl rfl (.inr rfl) aj (by rw [dV];exact hvl.symm) (shut_map (enc:=zF) (fun _=>rfl) _) (qa rfl)).trans (zp.zV 2 0 7 rfl rfl rfl rfl (.inr rfl) aj (by rw [dV];exact hrl.symm) (shut_map (enc:=xt) (fun _=>rfl) _) (qa rfl)),rfl⟩
end Go.Wor
