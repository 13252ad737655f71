import Derived.Test.YtamgiodaflkbhaaGreatVS8
import Derived.Test.YtamgiodaflkbhaaGreatVQ
import Derived.Test.YtamgiodaflkbhaaGreatVS7
set_option linter.all false
set_option maxRecDepth 100000
set_option maxHeartbeats 4000000
namespace Go.Wor
open Go.Ab Go.Proofs Tryz Go.Gat Go.Nam Go.Hos Go.Con Go.Sna Go.Pla Go.Ply
open Go.Hy hiding encI
def WI(s:ic)(ok:Aq s)(hf:qQ s.first)(hc:∀l∈s.threads,∀o∈l,qQ o.config):th 7 [] [.agg (vA s)] (.fy [lq (jT s).1,.agg (xc (jT s).2.1),I (jT s).2.2]) []:=by
 have hb:=IM s ok.wk hf hc λ_ x hx=>by have:=ok.names x hx;unfold reachBytes at this;omega
 have w:=SH s (qS s) (λk=>oq (oX s) s.zY k) hb (λh=>by
   obtain⟨q,_⟩:=yV h;obtain⟨_,p2,p3,p4,_,p6⟩:=yl q;exact⟨p2,p3,p4,p6⟩) V λh k p hp=>by
  have hk:=(px.1 hp).1;have pt:=EB ok hc h k an;obtain⟨q,_⟩:=yV h;obtain⟨_,_,p3,p4,p5,_⟩:=yl q;refine⟨?_⟩;(try dsimp only)
  rw[Gy hp];rcases Hr pt (Hq ok hc) p an with⟨ha,e,_⟩|⟨t,x,o,r,ht,hx,hop,xT,g1,g2,b,e,_⟩
  .exact .inl ⟨ha,e⟩
  .right
   have xl:=(p5 x.ops xT).1;rw[e];exact⟨t,x,o,r.1,r.2.1,r.2.2,ht,hx,hop,an,an,b.re,rfl⟩
 unfold jT;by_cases h:(qS s).2=0
 .rw[pD h,pD h]at w;rw[pD h];rw[h]at w;exact w
 .rw[pA h,pA h]at w;rw[pA h];exact w
end Go.Wor
namespace Go.Run
open Go.Ab Go.Proofs Tryz Go.Gat Go.Nam Go.Hos Go.Con Go.Sna Go.Pla Go.Ply Go.Wor
open Go.Hy hiding encI
def Nl:Bl nV:=by
 refine⟨⟨aj,aj,aj,aj,aj,λv hv=>?_,λv hv=>?_⟩,λv hv=>?_,λv hv=>?_,λr hr=>?_⟩ <;> first|cases hv|cases hr
def Na:∀(l:List Int) (q:Wor.iX),(l.foldl kU q).2.2.length<=q.2.2.length+l.length
 |[],q=>pN _
 |p::l,q=>by
  have h:=Na l (kU q p)
  have h2:(kU q p).2.2.length<=q.2.2.length+1:=by
   unfold kU;split
   .unfold Fw;split
    .split
     .show(q.2.2++[_]).length<=_;rw[rB,r7];omega
     .omega
    .omega
   .omega
  show((l.foldl kU (kU q p)).2.2.length)<=_;rw[r8];omega
def Vb{s:ic}(ok:Aq s)(hc:∀l∈s.threads,∀o∈l,qQ o.config):(jT s).1.length<=4000:=by
 unfold jT;by_cases h:(qS s).2=0
 .rw[pD h];obtain⟨q,_⟩:=yV h;obtain⟨_,_,_,p4,_,_⟩:=yl q;have o:=Na (s.zY.take s.zY.length) (oX s);show(Fa s).2.2.length<=4000;have e:(oX s).2.2.length=0:=rfl;rw[sI]at o;unfold Fa oq;omega
 .rw[pA h];show 0<=4000
  decide
def runPlays_sound(s:ic)(hs:s.ow):th 3 [] [.agg (vA s)] (Bo true) []:=by
 have m1:(s.zY.map Go.Hy.encI).length=s.zY.length:=pz ..;refine ab func3 ?_;refine af (Su s (MI hs)) ?_;refine⟨λh0=>?_,λh0=>?_⟩
 .refine zac ?_
  exact uI
 have ok:=XF h0 hs;obtain⟨q1,q2,q3,q4⟩:=KR h0;have hf:=wE q1 hs.1;have hc:∀l∈s.threads,∀o∈l,qQ o.config:=λl hl o ho=>wE ((q4 l hl).2 o ho).1 ((hs.2.1.1 l hl).1 o ho).1.2.2.2
 have hn:iJ s=true->∀x∈jL s,x.length<4000000000000000000:=λ_ x hx=>by have:=ok.names x hx;unfold reachBytes at this;omega
 refine dd ?_;rw[m1];refine⟨λh1=>?_,λh1=>?_⟩
 .refine zac ?_
  exact uI
 have l1:(jT s).1.length<=4000:=Vb ok hc
 have k1:Bl (jT s).2.1:=by
  unfold jT;by_cases hz:(qS s).2=0
  .rw[pD hz];exact ES (EB ok hc hz s.zY.length (pN _)).ok
  .rw[pA hz];exact Nl
 have k2:Bl (qS s).1:=by
  by_cases hz:(qS s).2=0
  .exact ES (GM ok hz).ok
  .have:(qS s).1=nV:=by
    unfold qS k9 at hz|-;split
    .rename_i h;rw[pD h]at hz;split
     .rfl
     .rename_i h2;rw[pA h2]at hz;exact absurd V hz
    .rfl
   rw[this];exact Nl
 have pa:=Hu s ok hc;have pb:=WI s ok hf hc;have ba:=wS s ok.wk ok.cfg ok.Im hn;have bb:=IM s ok.wk hf hc hn;generalize jT s=p at *;generalize qS s=bg at *;obtain⟨l,w,e⟩:=p;obtain⟨x,g⟩:=bg;dsimp only at *;refine zac ?_
 refine af pa ?_;refine af pb ?_;refine af ba ?_;refine af bb ?_;refine af Qw ?_;refine td ?_
 refine af (Rk l an) ?_;refine td ?_
 refine af (Ng w k1) ?_;refine td ?_
 refine zcp ?_;refine td ?_
 refine af (Ng x k2) ?_;refine td ?_
 refine zcp ?_;refine td ?_
 exact uI
end Go.Run
