import Derived.Test.YtllehbdigpdinaaGreatSO
import Derived.Test.YtllehbdigpdinaaGreatSK
import Derived.Test.YtllehbdigpdinaaGreatS9
import Derived.Test.YtllehbdigpdinaaGreatSZ
import Derived.Test.YtllehbdigpdinaaGreatS0
set_option linter.all false
set_option maxRecDepth 100000
set_option maxHeartbeats 4000000
namespace Go.Hy
open Go.Ab Go.Proofs Tryz
def fh.nI(o:fh):Prop:=o.ok/\i64 o.d0/\i64 o.d1
def Xa:qp prog 58 y8 fh.nI:=
 qp.map (qp.struct underlying58 au (jg.cons O (qp.int underlying3) (jg.cons O (kN) (jg.cons O (kN) (jg.cons O (kN) (jg.cons O (qp.int underlying3) (jg.cons O (qp.int underlying3) (jg.cons O (qp.int underlying3) (jg.cons O NP (jg.nil _)))))))))) (λx=>⟨x.1,x.2.1,x.2.2.1,x.2.2.2.1,x.2.2.2.2.1,x.2.2.2.2.2.1,x.2.2.2.2.2.2.1,x.2.2.2.2.2.2.2.1⟩) λx h=>⟨⟨⟨h.2.1,h.2.2.1,h.2.2.2.1,h.2.2.2.2.2.2.2.1⟩,wf_i64 h.2.2.2.2.1,wf_i64 h.2.2.2.2.2.1⟩,by simp[y8]⟩
def YD:qp prog 56 (λl:List fh=>[lP l]) (λl=>(∀x∈l,x.nI)/\l.length*152<=reachBytes):=
 qp.slice (sz:=10) (by_:=152) underlying56 au au ar (λ_=>O) Xa
def U8:qp prog 27 (λl:List (List fh)=>[Dg l]) (λl=>(∀x∈l,(∀o∈x,o.nI)/\x.length*152<=reachBytes)/\l.length*24<=reachBytes):=
 qp.slice (sz:=1) (by_:=24) underlying27 au au ar (λ_=>O) YD
def fy.nI(s:fy):Prop:=s.first.ok/\((∀x∈s.threads,(∀o∈x,o.nI)/\x.length*152<=reachBytes)/\s.threads.length*24<=reachBytes)/\(∀p∈s.zW,i64 p)/\s.zW.length*8<=reachBytes
def Xb:qp prog 30 kV fy.nI:=
 qp.map (qp.struct underlying30 au (jg.cons O NP (jg.cons O U8 (jg.cons O Zp (jg.nil _))))) (λx=>⟨x.1,x.2.1,x.2.2.1⟩) λx h=>⟨⟨h.1,h.2.1,λp hp=>wf_i64 (h.2.2.1.1 p hp),h.2.2.1.2⟩,by simp[kV]⟩
def arg_ScrI:IW prog 30 (λx=>.agg (kV x)) fy.nI:=qp.VL underlying30 Xb
end Go.Hy
namespace Go.Wor
open Go.Ab Go.Proofs Tryz Go.Hy Go.Gat Go.Nam Go.Hos Go.Con Go.Sna
structure Wk(w:Wor):Prop where
 pins:w.pins.length<4000000000000000000
 ze:w.ze.length<4000000000000000000
 zd:w.zd.length<4000000000000000000
 counts:w.counts.length<4000000000000000000
 zr:w.zr.length<4000000000000000000
 z6:∀v∈w.ze,v.snap.zd.length<4000000000000000000/\v.snap.rules.length<4000000000000000000/\v.snap.zk.length<4000000000000000000
 zq:∀v∈w.ze,v.zq.length<4000000000000000000/\∀g∈v.zq,g.ends.length<4000000000000000000
structure Qh(s:Sna):Prop where
 zd:s.zd.length<4000000000000000000
 rules:s.rules.length<4000000000000000000
 zk:s.zk.length<4000000000000000000
 zJ:∀x∈s.zk,x.zJ.length<4000000000000000000
structure WkW(w:Wor):Prop where
 wk:Wk w
 z6:∀v∈w.ze,Qh v.snap
 ends : ∀v∈w.ze, ∀g∈v.zq, ∀e∈g.ends, e.ok
 counts:∀r∈w.counts,r.length<4000000000000000000
end Go.Wor
namespace Go.Run
open Go.Ab Go.Proofs Tryz Go.Gat Go.Nam Go.Hos Go.Con Go.Sna Go.Pla Go.Ply Go.Wor
open Go.Hy hiding encI
abbrev lW(c:fD):eR:=⟨oB c,0,0,0,0, -1,0,0,0,0,0,0,0,0,0,false,Beg.y6,i4⟩
def G8(w:Wor)(c:fD):Wor:={w with current:=w.ze.length,ze:=w.ze++[yK c],zr:=w.zr++[⟨w.current,w.zo,false⟩]}
def JI{N:Nat}{w:Wor}{m:eR}{v:fc}{g:Gr}{e:En}{r:Wor×eR×eV}(su:qF w m v g e)(t:my N w)(tm:fT m)(hN:N<=100000000)(hk:m.op.kind=3)(h:yL w m=some r):tn 49 [] [Sw w,Sm m] (Sr r.1 r.2.1 r.2.2) []:=
 Hl hk (Mu su (Mq su) t tm hN hk h)
def Ph{c:fD}(sc:xn c):fT (lW c):=⟨(by decide:i64 (-1)),(by decide:u64 0),(by decide:(-1:Int)<=0/\(0:Int)<=2147483646),by show(0:Nat)<_;decide,by show(0:Nat)<_;decide,(by decide:i64 0),(by decide:i64 0),λ_=>sc.k,λ_ _=>O⟩
def Tc{N K:Nat}{w:Wor}{c:fD}(st:St N K w)(hc:(qg c).1=0)(sc:xn c)(hN:N+3<=100000000):∃m',AT 3 w (lW c) (G8 w c) m'/\m'.answer=⟨8,w.ze.length,0,0,0,0,0,⟨0,0,0,0,0,0⟩⟩:=by
 have gw:=st.jz;have gr:=qf.1 gw.ground;have q:nz c=0:=(vt c).trans hc;obtain⟨v,g,e,su⟩:=LM gw (m:=lW c) ⟨gR _,by show(0:Int)<_;have:=gr.pins.1;omega⟩ O O O O O O O O O;have lo:Gx w (lW c) v g e:=by constructor <;> dsimp only <;> omega
 obtain⟨r1,h1,n1⟩:=Ie st su (Ph sc) lo O
 have e1:yL w (lW c)=some ({w with current:=w.ze.length,ze:=w.ze++[yK c]},mD (lW c) w.current w.ze.length,{fx (lW c) 6 3 w.ze.length with zI:=true}):=by
  unfold yL;rw[gk O,gk q]
 rw[e1]at h1;obtain rfl:=gm h1;rcases n1.go with⟨hd,_⟩|⟨⟨v1,g1,e1',su1,lo1⟩,_⟩
 ·exact nomatch hd
 obtain⟨r2,h2,n2⟩:=Ie n1.st su1 n1.tm lo1 O
 have e2:yL {w with current:=w.ze.length,ze:=w.ze++[yK c]} (mD (lW c) w.current w.ze.length)=some ({w with current:=w.ze.length,ze:=w.ze++[yK c]},{mD (lW c) w.current w.ze.length with zo:=w.zo,pc:=2},fx (mD (lW c) w.current w.ze.length) 1 1 w.zo):=by
  unfold yL;rw[gf (by show ¬(1:Int)=0;decide),gk O]
 rw[e2]at h2;obtain rfl:=gm h2;rcases n2.go with⟨hd,_⟩|⟨⟨v2,g2,e2',su2,lo2⟩,_⟩
 ·exact nomatch hd
 obtain⟨r3,h3,n3⟩:=Ie n2.st su2 n2.tm lo2 O
 have e3:yL {w with current:=w.ze.length,ze:=w.ze++[yK c]} {mD (lW c) w.current w.ze.length with zo:=w.zo,pc:=2}=some (G8 w c,{ {mD (lW c) w.current w.ze.length with zo:=w.zo,pc:=2} with done:=true,answer:=Ao {mD (lW c) w.current w.ze.length with zo:=w.zo,pc:=2} },{fx {mD (lW c) w.current w.ze.length with zo:=w.zo,pc:=2} 2 11 w.current with done:=true,answer:=Ao {mD (lW c) w.current w.ze.length with zo:=w.zo,pc:=2} }):=by
  have h4:=h3;unfold yL at h4 ⊢;rw[gf (by show ¬(2:Int)=0;decide),gf (by show ¬(2:Int)=1;decide),gk O]at h4 ⊢;by_cases z:wW {w with current:=w.ze.length,ze:=w.ze++[yK c]} {mD (lW c) w.current w.ze.length with zo:=w.zo,pc:=2}=true
  ·rw[gk z]at h4;cases h4
  ·rw[gf z]
   rfl
 rw[e3]at h3;obtain rfl:=gm h3;exact⟨_,.more (JI su st.ty (Ph sc) aw O e1) (by show(6:Int)≠0;decide) O (.more (JI su1 n1.st.ty n1.tm aw O e2) uX O (.last (JI su2 n2.st.ty n2.tm aw O e3) tN O)),rfl⟩
def P6:(qC o9).2=0:=by kernel_rfl
abbrev wB:Wor:=(qC o9).1
def G7:St 600 0 wB:=(CD BP P6).st
def hP:tn 6 [] [.agg (PX (lI (JG 60)))] (.fb [nh (qT o9).1,.agg (yt (qT o9).2.1),I (qT o9).2.2]) []:=
 Go.Dep.zb.vN 9 (HG o9 BP) au au
def hE:tn 6 [] [.agg [.eS 1 0 [],.eS 1 0 [],.eS 1 0 [],.eS 1 0 [],.eS 1 0 []]] (.fb [nh (qT n7).1,.agg (yt (qT n7).2.1),I (qT n7).2.2]) []:=
 Go.Dep.zb.vN 9 (HG n7 Qu) au au
def hB:tn 17 [] [.agg (PX (lI (JG 60)))] (.fb [.agg (yt wB),I 0]) []:=by
 have h:=KJ o9 BP.wk BP.cfg BP.P9 λ_ x hx=>by have:=BP.names x hx;unfold reachBytes at this;omega
 have h0:=P6;have e:qC o9=(wB,0):=by rw[<-h0]
 rw[e]at h;exact Go.Dep.zb.vN 9 h au au
def Qv:xn Ch:=BP.cfg au
def hA:tn 35 [] [.agg (yt wB),I 0,.agg ([I 3,Tx [],Tx [],Tx [],I 0,I 0,I 0]++PY),.eS 1 0 []] (.fb [.agg (yt (G8 wB Ch)),.agg (x3 ⟨8,1,0,0,0,0,0,⟨0,0,0,0,0,0⟩⟩),I (3:Nat)]) []:=by
 obtain⟨m',g,ha⟩:=Tc (c:=Ch) G7 au Qv ar;have hb:=Beg.He 0 (oB Ch) [] ar;have em:Beg.jY 0 (oB Ch) []=lW Ch:=au
 rw[em]at hb;have h:=Yl hb g ar;have e1:wB.ze.length=1:=au
 rw[ha,e1]at h;exact Go.Dep.zb.vN 9 h au au
abbrev Du:fh:=⟨3,[],[],[],0,0,0,⟨[],[],[]⟩⟩
def hN:tn 35 [] [.agg (yt wB),I 9,.agg [I 3,Tx [],Tx [],Tx [],I 0,I 0,I 0,.eS 1 0 [],.eS 1 0 [],.eS 1 0 []],.eS 1 0 []] (.fb [.agg (yt wB),.agg (x3 ⟨0,0,0,0,0,0,0,⟨0,0,0,0,0,0⟩⟩),I 0]) []:=by
 have hb:=Beg.He 9 Du [] ar;have hs:zY wB (Beg.jY 9 Du [])=false:=au
 have hl:i64 (Beg.jY 9 Du []).listen:=by
  have e:(Beg.jY 9 Du []).listen= -1:=au
  rw[e]
  decide
 have h:=Hl au (SS wB (Beg.jY 9 Du []) (BB G7.jz G7.ty ar) hl au hs);exact Go.Dep.zb.vN 9 (VH hb h O) au au
def wJ{c:fD}(h:iU c=false)(ok:c.ok):xn c:=by
 unfold iU at h;simp only[pD,pn,tu]at h;obtain⟨⟨⟨⟨h1,h2⟩,h3⟩,h4⟩,h5⟩:=h;obtain⟨⟨a1,_⟩,⟨a2,_⟩,⟨a3,_⟩⟩:=ok;refine⟨⟨aw,λs hs=>?_⟩,⟨aw,λr hr=>?_⟩,⟨aw,λx hx=>?_⟩⟩
 ·have:=a1 s hs;unfold Gl reachBytes at this;omega
 ·have q:=pd.1 h5 r hr;unfold oZ at q;simp only[p8,gM,not_or,tu]at q;have:=a2 r hr;unfold m9.ok reachBytes at this;omega
 ·have q:=pd.1 h4 x hx;unfold nX at q;simp only[p8,gM,not_or,tu]at q;omega
def M3{s:fy}(h:mI s=false):iU s.first=false/\s.threads.length<=20/\s.zW.length<=5000/\∀l∈s.threads,l.length<=40/\∀o∈l,iU o.config=false/\o.host.length<=100/\o.path.length<=100:=by
 unfold mI at h;simp only[pD,pn,tu]at h;obtain⟨⟨⟨h1,h2⟩,h3⟩,h4⟩:=h;refine⟨h1,h2,h3,λl hl=>?_⟩;have q:=pd.1 h4 l hl;unfold Aq at q;simp only[p8,gM,not_or,tu]at q;refine⟨q.1,λo ho=>?_⟩;have q2:oY o=false:=pd.1 (aq q.2) o ho |> λz=>by simpa using z
 unfold oY at q2;simp only[pD,pn,tu]at q2;exact q2
def JF{s:fy}(ok:s.nI):Kp s:=by
 obtain⟨⟨⟨_,b1⟩,⟨_,b2⟩,⟨_,b3⟩⟩,⟨b4,b5⟩,_,_⟩:=ok;unfold reachBytes at b1 b2 b3 b5;refine⟨⟨aw,aw,aw⟩,aw,λl hl=>?_,λl hl o ho=>?_⟩
 ·have:=(b4 l hl).2;unfold reachBytes at this;omega
 ·obtain⟨⟨_,_,_,⟨⟨_,c1⟩,⟨_,c2⟩,⟨_,c3⟩⟩⟩,_⟩:=(b4 l hl).1 o ho;unfold reachBytes at c1 c2 c3;exact⟨aw,aw,aw⟩
def W5{out:List eZ}{n x:eZ}(h:x∈yS out n):x∈out\/x=n:=by
 unfold yS at h;split at h
 ·exact .inl h
 ·simpa using h
def FJ{α:Type}{f:List eZ->α->List eZ}{P:eZ->Prop}:∀(l:List α) (out:List eZ),(∀y∈l,∀o x,(∀z∈o,P z)->x∈f o y->P x)->(∀z∈out,P z)->∀x∈l.foldl f out,P x
 |[],_,_,h,x,hx=>h x hx
 |y::l,out,hf,h,x,hx=>FJ l (f out y) (λy hy=>hf y (pT _ hy)) (λz hz=>hf y (pW ..) out z h hz) x hx
def S0{s:fy}(ok:s.nI):∀x∈xr s,x.length<=reachBytes:=by
 have cfg:∀(c:fD) (out:List eZ),c.ok->(∀z∈out,z.length<=reachBytes)->∀x∈kT out c,x.length<=reachBytes:=λc out hc ho=>
  FJ c.zd out (λy hy o x hz hx=>by
   rcases W5 hx with h|rfl
   ·exact hz x h
   ·exact hc.1.1 _ hy) ho
 refine FJ s.threads _ (λl hl o x hz hx=>?_) (cfg s.first [] ok.1 aj);refine FJ l o (λp hp o x hz hx=>?_) hz x hx;unfold iT at hx;split at hx
 ·exact cfg p.config o ((ok.2.1.1 l hl).1 p hp).1.2.2.2 hz x hx
 ·exact hz x hx
def zxT{s:fy}(h:mI s=false)(ok:s.nI):oH s:=by
 obtain⟨h1,h2,h3,h4⟩:=M3 h;have w:=JF ok;refine⟨⟨(wJ h1 ok.1).k,w.threads,w.ops,aw⟩,λ_=>wJ h1 ok.1,λl hl o ho=>(wJ ((h4 l hl).2 o ho).1 ((ok.2.1.1 l hl).1 o ho).1.2.2.2).k,S0 ok,λl hl o ho=>?_,ok.2.2.1⟩;have a:=(h4 l hl).2 o ho;have b:=(ok.2.1.1 l hl).1 o ho;exact⟨aw,aw,b.2.1,b.2.2,λ_=>(wJ a.1 b.1.2.2.2).k⟩
def mf(s:fy)(n:Nat):fy:=⟨s.first,s.threads,s.zW.take n⟩
def Y5{s:fy}(n:Nat)(h:iR s=true):iR (mf s n)=true:=by
 unfold iR at h ⊢;simp only[gC,gM,pJ]at h ⊢;obtain⟨⟨⟨⟨⟨h1,h2⟩,h3⟩,h4⟩,h5⟩,h6⟩:=h;refine⟨⟨⟨⟨⟨h1,h2⟩,h3⟩,?_⟩,h5⟩,?_⟩
 ·show(s.zW.take n).length<=4000;simp;omega
 ·rw[pd]at h6 ⊢
  exactλx hx=>h6 x (rG hx)
def MZ{s:fy}(n:Nat)(h:(qC s).2=0):qC (mf s n)=qC s:=by
 obtain⟨q,e⟩:=xb h;have q2:=Y5 n q;unfold qC;rw[gk q,gk q2]
 rfl
def ZR{s:fy}{n:Nat}(h:(qC s).2=0)(hn:n<=s.zW.length):yv (mf s n)=iv (iD s) s.zW n:=by
 have e:iD (mf s n)=iD s:=by unfold iD;rw[MZ n h];rfl
 unfold yv;rw[e];unfold iv;show((s.zW.take n).take (s.zW.take n).length).foldl vp _=_;rw[pQ]
def YH(s:Wor.ij)(p:Int):s.2.2 <+:(vp s p).2.2:=by
 unfold vp;split
 ·unfold GY;split
  ·split
   ·split
    ·exact List.prefix_append _ _
    ·exact tw _
   ·exact tw _
  ·exact tw _
 ·exact tw _
def NX:∀(l:List Int) (s:Wor.ij),s.2.2 <+:(l.foldl vp s).2.2
 |[],s=>tw _
 |p::l,s=>(YH s p).trans (NX l (vp s p))
def Nz{s:Wor.ij}{l:List Int}{n m:Nat}(h:n<=m):iv s l m=((l.take m).drop n).foldl vp (iv s l n):=by
 unfold iv;rw[<-sE]
 congr 1
 have:l.take n=(l.take m).take n:=by rw[List.take_take];congr 1;omega
 rw[this,rq]
def ZS{s:Wor.ij}{l:List Int}{n m:Nat}(h:n<=m):(iv s l n).2.2 <+:(iv s l m).2.2:=by
 rw[Nz h];exact NX _ _
def Je{N K:Nat}{s:Wor.ij}(gi:GI N K s.1 s.2.1)(l:List Int):∀k,k<=l.length->N+k<=100000000->K+k<=1099511627776->(iv s l k).2.2.length<=s.2.2.length+k/\((iv s l k).2.2.length=s.2.2.length+k\/qB (iv s l k).2.1 (iv s l k).2.1.length=[])
 |0,_,_,_=>⟨gD _,.inl O⟩
 |k+1,hk,hN,hK=>by
  obtain⟨i1,i2⟩:=Je gi l k aw aw aw;have g:=CZ gi l k aw aw aw;rw[wK (dZ aw)];rcases yI g l[k] aw aw with⟨ha,e⟩|⟨t,x,o,r,hat,_,_,_,_,_,_,e,_⟩
  ·rw[e];exact⟨aw,.inr ha⟩
  ·rcases i2 with i2|ha
   ·rw[e];have z:((iv s l k).2.2++[nT r.2.2 x]).length=s.2.2.length+(k+1):=by rw[gE,i2];rfl
    exact⟨ue z,.inl z⟩
   ·rw[ha]at hat;exact nomatch hat
def Nj{s:fy}(ok:oH s)(h:(qC s).2=0){n:Nat}(hn:n<=s.zW.length):
  (qT (mf s n)).2.2=0/\(qT (mf s n)).1.length<=(qT s).1.length/\(qT s).1.take (qT (mf s n)).1.length=(qT (mf s n)).1/\jQ (qT (mf s n)).2.1/\my 5000 (qT (mf s n)).2.1/\
   ((qT (mf s n)).1.length=n\/(qT (mf s n)).1.length=(qT s).1.length)/\(qT s).1.length<=4000:=by
 have hb:(qC (mf s n)).2=0:=by rw[MZ n h];exact h
 have e1:qT (mf s n)=((iv (iD s) s.zW n).2.2,(iv (iD s) s.zW n).1,0):=by
  unfold qT;rw[gk hb,ZR h hn]
 have e2:qT s=((iv (iD s) s.zW s.zW.length).2.2,(iv (iD s) s.zW s.zW.length).1,0):=by
  unfold qT;rw[gk h]
  rfl
 rw[e1,e2];dsimp only;have gi:=CD ok h;obtain⟨q,_⟩:=xb h;obtain⟨_,_,_,p4,_,_⟩:=xI q;have pre:=ZS (s:=iD s) (l:=s.zW) hn;have l1:=Je gi s.zW n hn aw aw;have l2:=Je gi s.zW s.zW.length (gD _) aw aw;have z:(iD s).2.2.length=0:=rfl;have g:=(Gm ok h n hn).mono (N':=5000) (K':=n) aw (gD _);refine⟨rfl,pre.length_le,(List.prefix_iff_eq_take.1 pre).symm,g.st.jz,g.st.ty,?_,aw⟩;rcases l1.2 with l|ha
 ·exact .inl aw
 ·refine .inr ?_;rw[Nz hn,Wu ha]
def NO{s:fy}(h:(qT s).2.2≠0):(qT s).1=[]/\(qC s).2≠0:=by
 unfold qT at h ⊢;split at h
 ·exact absurd O h
 ·rename_i q;rw[gf q];exact⟨rfl,q⟩
def Iz{s:fy}(h:(qT s).2.2=0):(qC s).2=0:=by
 unfold qT at h;split at h
 ·assumption
 ·exact h
def vM(m:eR)(r:Wor×eR×eV):Prop:=r.2.2.done=r.2.1.done/\(r.2.1.done=true->r.2.2.answer=r.2.1.answer)/\r.2.2.zf=m.zf
def WX{w:Wor}{m:eR}{r:Wor×eR×eV}(hd:m.done=false)(h:oU w m=some r):vM m r:=by
 unfold oU at h;repeat' split at h
 all_goals (first|(cases h;done)|(obtain rfl:=gm h;unfold vM;(try dsimp only);first|exact⟨hd.symm,λq=>absurd (q.symm.trans hd) ar,rfl⟩|exact⟨rfl,λ_=>O,rfl⟩))
def LO{w:Wor}{m:eR}{k p:Int}{r:Wor×eR×eV}(hd:m.done=false)(h:yU w m k p=some r):vM m r:=by
 unfold yU at h;repeat' split at h
 all_goals (first|(cases h;done)|(obtain rfl:=gm h;unfold vM;(try dsimp only);first|exact⟨hd.symm,λq=>absurd (q.symm.trans hd) ar,rfl⟩|exact⟨rfl,λ_=>O,rfl⟩))
def Fj{w:Wor}{m:eR}{f:fq->Wor×eR×eV}{r:Wor×eR×eV}(h:wi w m f=some r)(hf:∀x,vM m (f x)):vM m r:=by
 unfold wi at h;split at h
 ·cases h
 ·obtain⟨x,_,rfl⟩:=gT.1 h;exact hf x
def vu{α:Type}{m:eR}{o:Option α}{f:α->Wor×eR×eV}{r:Wor×eR×eV}(h:o.map f=some r)(hf:∀x,vM m (f x)):vM m r:=by
 obtain⟨x,_,rfl⟩:=gT.1 h;exact hf x
def qx{m m':eR}{w:Wor}{e:eV}(h1:m'.done=false)(h2:e.done=false)(h3:e.zf=m.zf):vM m (w,m',e):=⟨h2.trans h1.symm,λq=>absurd (q.symm.trans h1) ar,h3⟩
def zu{α:Type}{c:Prop}[Decidable c]{a b x:α}(h:(if c then a else b)=x):a=x\/b=x:=by
 by_cases q:c
 ·rw[gk q]at h;exact .inl h
 ·rw[gf q]at h;exact .inr h
def SA{w:Wor}{m:eR}{v:fc}{g:Gr}{e:En}{r:Wor×eR×eV}(hd:m.done=false)(h:zZ w m v g e=some r):vM m r:=by
 have rt:(xe m v).done=false:=by
  unfold xe;repeat' split
  all_goals exact hd
 unfold zZ at h;rcases zu h with h|h
 ·exact WX hd h
 rcases zu h with h|h
 ·obtain rfl:=gm h;refine qx ?_ O O;unfold Cq;split <;> exact hd
 rcases zu h with h|h
 ·exact Fj h λx=>qx hd O O
 rcases zu h with h|h
 ·refine Fj h λx=>?_
  refine qx ?_ ?_ ?_
  ·split
   ·exact hd
   ·exact rt
  ·split <;> rfl
  ·split <;> rfl
 rcases zu h with h|h
 ·exact vu h λx=>qx (by unfold FM;exact hd) O O
 rcases zu h with h|h
 ·obtain rfl:=gm h;exact dy
 rcases zu h with h|h
 ·exact vu h λx=>qx hd O O
 rcases zu h with h|h
 ·obtain rfl:=gm h;refine qx ?_ O O;split <;> exact hd
 rcases zu h with h|h
 ·exact vu h λx=>qx hd O O
 rcases zu h with h|h
 ·split at h
  ·obtain rfl:=gm h;exact dy
  ·obtain rfl:=gm h;exact dy
 rcases zu h with h|h
 ·obtain rfl:=gm h;exact dy
 rcases zu h with h|h
 ·exact LO hd h
 rcases zu h with h|h
 ·exact LO hd h
 rcases zu h with h|h
 ·exact Fj h λx=>qx hd O O
 rcases zu h with h|h
 ·obtain rfl:=gm h;exact dH
 ·cases h
def SU{w:Wor}{m:eR}{v:fc}{g:Gr}{e:En}{r:Wor×eR×eV}(hd:m.done=false)(h:xa w m v g e=some r):vM m r:=by
 unfold xa at h;split at h
 ·obtain rfl:=gm h;exact dy
 split at h
 ·obtain rfl:=gm h;exact dy
 split at h
 ·split at h
  ·obtain rfl:=gm h;exact dy
  ·obtain rfl:=gm h;exact dy
 split at h
 ·obtain rfl:=gm h;exact dy
 split at h
 ·exact Fj h λx=>⟨rfl,λ_=>O,rfl⟩
 split at h
 ·obtain rfl:=gm h;exact dH
 ·cases h
def UX{w:Wor}{m:eR}{r:Wor×eR×eV}(hd:m.done=false)(h:yL w m=some r):vM m r:=by
 unfold yL at h;split at h
 ·split at h
  ·obtain rfl:=gm h;exact qx (by unfold mD;exact hd) O O
  ·obtain rfl:=gm h;exact dH
 split at h
 ·obtain rfl:=gm h;exact dy
 split at h
 ·split at h
  ·cases h
  ·obtain rfl:=gm h;exact dH
 ·cases h
def TX{w:Wor}{m:eR}{r:Wor×eR×eV}(hd:m.done=false)(h:vz w m=some r):vM m r:=by
 unfold vz at h;split at h
 ·split at h
  ·obtain rfl:=gm h;exact dH
  ·exact vu h λx=>⟨rfl,λ_=>O,rfl⟩
 ·cases h
def Od(w:Wor)(m:eR)(hd:m.done=false):vM m (l8 w m):=by
 unfold l8;split
 ·exact dH
 ·refine qx ?_ ?_ ?_
  ·unfold BN;repeat' split
   all_goals exact hd
  ·unfold GC;rfl
  ·unfold GC;rfl
def Rv{w:Wor}{m:eR}{r:Wor×eR×eV}(hd:m.done=false)(h:j8 w m=some r):vM m r:=by
 unfold j8 at h;rcases zu h with h|h
 ·obtain rfl:=gm h;split
  ·exact dy
  ·exact dH
 rcases zu h with h|h
 ·obtain rfl:=gm h;exact dy
 rcases zu h with h|h
 ·refine vu h λx=>qx ?_ O O
  unfold Az;repeat' split
  all_goals exact hd
 rcases zu h with h|h
 ·obtain rfl:=gm h;split
  ·exact dy
  ·exact dy
 rcases zu h with h|h
 ·obtain rfl:=gm h;split
  ·exact Od w (iA m 8 0) hd
  ·refine qx ?_ O O;unfold Ay;repeat' split
   all_goals exact hd
 rcases zu h with h|h
 ·obtain⟨v,_,h⟩:=gU.1 h;refine vu h λx=>qx ?_ ?_ ?_
  ·unfold Bb;repeat' split
   all_goals exact hd
  ·unfold ER;rfl
  ·unfold ER;rfl
 rcases zu h with h|h
 ·obtain⟨v,_,h⟩:=gU.1 h;obtain⟨x,_,h⟩:=gU.1 h;rcases zu h with h|h
  ·obtain rfl:=gm h;refine qx ?_ O O;unfold Ds;exact hd
  ·cases h
 rcases zu h with h|h
 ·obtain rfl:=gm h;exact Od w m hd
 rcases zu h with h|h
 ·refine vu h λx=>qx ?_ O O
  split <;> exact hd
 rcases zu h with h|h
 ·obtain⟨v,_,h⟩:=gU.1 h;rcases zu h with h|h
  ·obtain rfl:=gm h;exact dy
  ·cases h
 ·cases h
def TY{w:Wor}{m:eR}{r:Wor×eR×eV}(hd:m.done=false)(h:yu w m=some r):vM m r:=by
 unfold yu at h;split at h
 ·obtain⟨v,_,h⟩:=gU.1 h;refine vu h λx=>⟨rfl,λq=>?_,rfl⟩
  show(if (jo w m x).done then (jo w m x).answer else mS)=(jo w m x).answer;rw[gk q]
 ·cases h
def HL{w:Wor}{m:eR}{r:Wor×eR×eV}(hd:m.done=false)(h:yl w m=some r):vM m r:=by
 unfold yl at h;split at h
 ·cases h
 split at h
 ·cases h
 split at h
 ·cases h
 split at h
 ·exact SA hd h
 split at h
 ·exact SU hd h
 split at h
 ·exact UX hd h
 split at h
 ·exact TX hd h
 split at h
 ·exact Rv hd h
 split at h
 ·exact TY hd h
 ·cases h
def Jc{X:List Nat}:∀{t:Nat} {a b:Nat},X[t]?=some a->(X.set t b).sum+a=X.sum+b:=by
 induction X with
 |nil=>intro t a b h;cases h
 |cons y X ih=>
  intro t a b h;cases t with
  |zero=>
   have:y=a:=aq h
   subst this;simp only[ud,rR];omega
  |succ t=>
   have:=ih (t:=t) (a:=a) (b:=b) (aq h);simp only[List.set_cons_succ,rR];omega
def vq(x:fp)(m:eR):(jj x m).done=x.done+(if m.done=true then 1 else 0):=by
 unfold Wor.jj;split <;> rfl
def YI{s:fy}(ok:oH s):(qT s).1.length<=4000:=by
 by_cases hz:(qT s).2.2=0
 ·exact(Nj ok (Iz hz) (n:=s.zW.length) (gD _)).2.2.2.2.2.2
 ·rw[(NO hz).1];exact gY _
def Su{l:List eV}(h:(Cal.fC l).2=0):(Cal.fC l).1.countP (λc=>decide (0<=c.ic))=l.countP (·.done)/\(Cal.fC l).1.length<=l.length:=by
 unfold Cal.fC at h ⊢;cases hb:Cal.yT l l.length with
 |none=>rw[hb]at h;cases h
 |some b=>
  obtain⟨h1,h2,h3⟩:=Cal.Fw l hb;refine⟨?_,(Cal.IY hb).2⟩;rw[pQ]at h3;exact h3
end Go.Run
