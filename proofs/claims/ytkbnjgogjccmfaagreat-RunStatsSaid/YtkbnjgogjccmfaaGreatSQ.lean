import Derived.Test.YtkbnjgogjccmfaaGreatSO
import Derived.Test.YtkbnjgogjccmfaaGreatS9
import Derived.Test.YtkbnjgogjccmfaaGreatSZ
import Derived.Test.YtkbnjgogjccmfaaGreatS0
import Derived.Test.YtkbnjgogjccmfaaGreatSL
set_option linter.all false
set_option maxRecDepth 100000
set_option maxHeartbeats 4000000
namespace Go.Hy
open Go.Ab Go.Proofs Tryz
def eK.ma (o:eK):Prop:=o.ok∧i64 o.d0∧i64 o.d1
def S1:qs prog 67 vt eK.ma:=
 qs.map (qs.struct underlying67 au (jd.cons rfl (qs.int underlying3) (jd.cons rfl (kn) (jd.cons rfl (kn) (jd.cons rfl (kn) (jd.cons rfl (qs.int underlying3) (jd.cons rfl (qs.int underlying3) (jd.cons rfl (qs.int underlying3) (jd.cons rfl Lz (jd.nil _)))))))))) (fun x=>⟨x.1,x.2.1,x.2.2.1,x.2.2.2.1,x.2.2.2.2.1,x.2.2.2.2.2.1,x.2.2.2.2.2.2.1,x.2.2.2.2.2.2.2.1⟩) fun x h=>⟨⟨⟨h.2.1,h.2.2.1,h.2.2.2.1,h.2.2.2.2.2.2.2.1⟩,wf_i64 h.2.2.2.2.1,wf_i64 h.2.2.2.2.2.1⟩,by simp [vt]⟩
def Uy:qs prog 49 (fun l:List eK=>[lP l]) (fun l=>(∀ x ∈ l,x.ma)∧l.length * 152<=reachBytes):=
 qs.slice (sz:=10) (by_:=152) underlying49 au au ar (fun _=>rfl) S1
def QF:qs prog 27 (fun l:List (List eK)=>[BB l]) (fun l=>(∀ x ∈ l,(∀ o ∈ x,o.ma)∧x.length * 152<=reachBytes)∧l.length * 24<=reachBytes):=
 qs.slice (sz:=1) (by_:=24) underlying27 au au ar (fun _=>rfl) Uy
def eP.ma (s:eP):Prop:=s.first.ok∧((∀ x ∈ s.threads,(∀ o ∈ x,o.ma)∧x.length * 152<=reachBytes)∧s.threads.length * 24<=reachBytes)∧(∀ p ∈ s.zS,i64 p)∧s.zS.length * 8<=reachBytes
def S2:qs prog 30 qi eP.ma:=
 qs.map (qs.struct underlying30 au (jd.cons rfl Lz (jd.cons rfl QF (jd.cons rfl U8 (jd.nil _))))) (fun x=>⟨x.1,x.2.1,x.2.2.1⟩) fun x h=>⟨⟨h.1,h.2.1,fun p hp=>wf_i64 (h.2.2.1.1 p hp),h.2.2.1.2⟩,by simp [qi]⟩
def arg_ScrI:Gx prog 30 (fun x=>.agg (qi x)) eP.ma:=qs.Sc underlying30 S2
end Go.Hy
namespace Go.Run
open Go.Ab Go.Proofs Tryz Go.Gat Go.Nam Go.Hos Go.Con Go.Sna Go.Pla Go.Ply Go.Wor
open Go.Hy hiding encI
abbrev iE (c:fb):u3:=⟨Aj c,0,0,0,0, -1,0,0,0,0,0,0,0,0,0,false,Beg.ky,iu⟩
def BO (w:Wor) (c:fb):Wor:={ w with current:=w.ze.length,ze:=w.ze++[y9 c],zr:=w.zr++[⟨w.current,w.zn,false⟩] }
def G8 {N:Nat} {w:Wor} {m:u3} {v:u9} {g:Gr} {e:En} {r:Wor × u3 × u6} (su:qG w m v g e) (t:iD N w) (tm:fe m) (hN:N<=100000000) (hk:m.op.kind=3) (h:va w m=some r):to 47 [] [Sw w,Sm m] (Sr r.1 r.2.1 r.2.2) []:=
 E4 hk (J4 su (JM su) t tm hN hk h)
def Mo {c:fb} (sc:xD c):fe (iE c):=⟨(by decide:i64 (-1)),(by decide:u64 0),(by decide:(-1:Int)<=0∧(0:Int)<=2147483646),by show (0:Nat) < _;decide,by show (0:Nat) < _;decide,(by decide:i64 0),(by decide:i64 0),fun _=>sc,fun _ _=>rfl⟩
def OV {N K:Nat} {w:Wor} {c:fb} (st:St N K w) (hc:(jg c).1=0) (sc:xD c) (hN:N+3<=100000000):∃ m',oF 3 w (iE c) (BO w c) m'∧m'.answer=⟨8,w.ze.length,0,0,0,0,0,⟨0,0,0,0,0,0⟩⟩:=by
 have gw:=st.ji;have gr:=zY.1 gw.ground;have q:mn c=0:=(wZ c).trans hc;obtain ⟨v,g,e,su⟩:=I5 gw (m:=iE c) ⟨gy _,by show (0:Int) < _;have:=gr.pins.1;omega⟩ rfl rfl rfl rfl rfl rfl rfl rfl rfl;have lo:Eu w (iE c) v g e:=by constructor <;> dsimp only <;> omega
 obtain ⟨r1,h1,n1⟩:=Ga st su (Mo sc) lo rfl
 have e1:va w (iE c)=some ({ w with current:=w.ze.length,ze:=w.ze++[y9 c] },iZ (iE c) w.current w.ze.length,{ eI (iE c) 6 3 w.ze.length with qQ:=true }):=by
  unfold va;rw [dU rfl,dU q]
 rw [e1] at h1;obtain rfl:=gk h1;rcases n1.go with ⟨hd,_⟩ | ⟨⟨v1,g1,e1',su1,lo1⟩,_⟩
 ·exact nomatch hd
 obtain ⟨r2,h2,n2⟩:=Ga n1.st su1 n1.tm lo1 rfl
 have e2:va { w with current:=w.ze.length,ze:=w.ze++[y9 c] } (iZ (iE c) w.current w.ze.length)=some ({ w with current:=w.ze.length,ze:=w.ze++[y9 c] },{ iZ (iE c) w.current w.ze.length with zn:=w.zn,pc:=2 },eI (iZ (iE c) w.current w.ze.length) 1 1 w.zn):=by
  unfold va;rw [dR (by show ¬(1:Int)=0;decide),dU rfl]
 rw [e2] at h2;obtain rfl:=gk h2;rcases n2.go with ⟨hd,_⟩ | ⟨⟨v2,g2,e2',su2,lo2⟩,_⟩
 ·exact nomatch hd
 obtain ⟨r3,h3,n3⟩:=Ga n2.st su2 n2.tm lo2 rfl
 have e3:va { w with current:=w.ze.length,ze:=w.ze++[y9 c] } { iZ (iE c) w.current w.ze.length with zn:=w.zn,pc:=2 }=some (BO w c,{ { iZ (iE c) w.current w.ze.length with zn:=w.zn,pc:=2 } with done:=true,answer:=Ad { iZ (iE c) w.current w.ze.length with zn:=w.zn,pc:=2 } },{ eI { iZ (iE c) w.current w.ze.length with zn:=w.zn,pc:=2 } 2 11 w.current with done:=true,answer:=Ad { iZ (iE c) w.current w.ze.length with zn:=w.zn,pc:=2 } }):=by
  have h4:=h3;unfold va at h4 ⊢;rw [dR (by show ¬(2:Int)=0;decide),dR (by show ¬(2:Int)=1;decide),dU rfl] at h4 ⊢;by_cases z:wx { w with current:=w.ze.length,ze:=w.ze++[y9 c] } { iZ (iE c) w.current w.ze.length with zn:=w.zn,pc:=2 }=true
  ·rw [dU z] at h4;cases h4
  ·rw [dR z]
   rfl
 rw [e3] at h3;obtain rfl:=gk h3;exact ⟨_,.more (G8 su st.ty (Mo sc) aw rfl e1) (by show (6:Int)≠0;decide) rfl (.more (G8 su1 n1.st.ty n1.tm aw rfl e2) uW rfl (.last (G8 su2 n2.st.ty n2.tm aw rfl e3) tJ rfl)),rfl⟩
def HM:(qp xd).2=0:=by kernel_rfl
abbrev wB:Wor:=(qp xd).1
def EW:St 600 0 wB:=(AU oP HM).st
def hP:to 7 [] [.agg (BF (lI (vm 60)))] (.u7 [fZ (z7 xd).1,.agg (zJ (z7 xd).2.1),I (z7 xd).2.2]) []:=
 Go.Dep.zb.CF 9 (vH xd oP) au au
def hE:to 7 [] [.agg [.u1 1 0 [],.u1 1 0 [],.u1 1 0 [],.u1 1 0 [],.u1 1 0 []]] (.u7 [fZ (z7 oI).1,.agg (zJ (z7 oI).2.1),I (z7 oI).2.2]) []:=
 Go.Dep.zb.CF 9 (vH oI Nk) au au
def hB:to 16 [] [.agg (BF (lI (vm 60)))] (.u7 [.agg (zJ wB),I 0]) []:=by
 have h:=Ij xd oP.wk oP.cfg oP.HN fun _ x hx=>by have:=oP.names x hx;unfold reachBytes at this;omega
 have h0:=HM;have e:qp xd=(wB,0):=by rw [<- h0]
 rw [e] at h;exact Go.Dep.zb.CF 9 h au au
def Nm:xD oH:=oP.cfg au
def hA:to 22 [] [.agg (zJ wB),I 0,.agg ([I 3,Tx [],Tx [],Tx [],I 0,I 0,I 0]++EE),.u1 1 0 []] (.u7 [.agg (zJ (BO wB oH)),.agg (xB ⟨8,1,0,0,0,0,0,⟨0,0,0,0,0,0⟩⟩),I (3:Nat)]) []:=by
 obtain ⟨m',g,ha⟩:=OV (c:=oH) EW au Nm ar;have hb:=Beg.Fb 0 (Aj oH) [] ar;have em:Beg.j7 0 (Aj oH) []=iE oH:=au
 rw [em] at hb;have h:=Ue hb g ar;have e1:wB.ze.length=1:=au
 rw [ha,e1] at h;exact Go.Dep.zb.CF 9 h au au
abbrev BM:eK:=⟨3,[],[],[],0,0,0,⟨[],[],[]⟩⟩
def hN:to 22 [] [.agg (zJ wB),I 9,.agg [I 3,Tx [],Tx [],Tx [],I 0,I 0,I 0,.u1 1 0 [],.u1 1 0 [],.u1 1 0 []],.u1 1 0 []] (.u7 [.agg (zJ wB),.agg (xB ⟨0,0,0,0,0,0,0,⟨0,0,0,0,0,0⟩⟩),I 0]) []:=by
 have hb:=Beg.Fb 9 BM [] ar;have hs:z6 wB (Beg.j7 9 BM [])=false:=au
 have hl:i64 (Beg.j7 9 BM []).listen:=by
  have e:(Beg.j7 9 BM []).listen= -1:=au
  rw [e]
  decide
 have h:=E4 au (Pd wB (Beg.j7 9 BM []) (o7 EW.ji EW.ty ar) hl au hs);exact Go.Dep.zb.CF 9 (Ro hb h rfl) au au
def hH:to 23 [] [.agg (zJ (z7 xd).2.1)] (I (0:Nat)) []:=by
 have gi:=Bw oP HM 60 (sa au);have e:(fD (fH xd) xd.zS 60).1=(z7 xd).2.1:=au
 have e0:nM (z7 xd).2.1=0:=au
 have st:=gi.st;rw [e] at st;have h:=OX (z7 xd).2.1 (VD st.ji st.ty ar);rw [e0] at h;exact h
def jx:to 9 [] [] (Bo true) []:=by
 have f1:(z7 xd).1.length=30:=au
 have f2:(z7 xd).2.2=0:=au
 have f3:(Cal.fK (z7 xd).1).2=0:=au
 have f4:((Cal.fK (z7 xd).1).1.map fun c=>(c.zg,c.answer.kind))=[(0,1),(1,10),(0,6),(0,5)]:=au
 have f5:(z7 xd).2.1.zd=[⟨ic,true,0,false⟩]:=au
 have f6:wB.pins.length=2:=au
 have f7:(z7 oI).1=[]:=au
 have f8:(z7 oI).2.2=1:=au
 have f9:(BO wB oH).current=1:=au
 have hC:=Cal.Dy (z7 xd).1 (by rw [f1];decide);have hP:=hP;have hE:=hE;have hB:=hB;have hA:=hA;have hN:=hN;have hH:=hH;rw [f2] at hP;rw [f7,f8] at hE;generalize BO wB oH=x at *;generalize wB=b at *;generalize (z7 oI).2.1=zw at *;generalize (z7 xd).2.1=w at *;generalize (z7 xd).1=l at *;generalize Cal.fK l=q at *;obtain ⟨cs,er⟩:=q;have f3:er=0:=f3;subst f3;obtain ⟨c0,cs,rfl,g0,f4⟩:=rU.1 f4;obtain ⟨c1,cs,rfl,g1,f4⟩:=rU.1 f4;obtain ⟨c2,cs,rfl,g2,f4⟩:=rU.1 f4;obtain ⟨c3,cs,rfl,g3,f4⟩:=rU.1 f4;obtain rfl:=List.map_eq_nil_iff.1 f4;have h (a b c d:Int) (h:(a,b)=(c,d)):a=c∧b=d:=by cases h;exact dJ
 exact Po hP f1 hC hE hB hA hN hH (h _ _ _ _ g0).2 (h _ _ _ _ g1).2 (h _ _ _ _ g1).1 (h _ _ _ _ g2).2 (h _ _ _ _ g3).2 f5 f6 f9
def Dv {c:fb} (h:iv c=false) (ok:c.ok):xD c:=by
 unfold iv at h;simp only [pz,pn,ub] at h;obtain ⟨⟨⟨⟨h1,h2⟩,h3⟩,h4⟩,h5⟩:=h;obtain ⟨⟨a1,_⟩,⟨a2,_⟩,⟨a3,_⟩⟩:=ok;refine ⟨⟨aw,fun s hs=>?_⟩,⟨aw,fun r hr=>?_⟩,⟨aw,fun x hx=>?_⟩⟩
 ·have:=a1 s hs;unfold Eo reachBytes at this;omega
 ·have q:=gU.1 h5 r hr;unfold ny at q;simp only [pJ,gp,not_or,ub] at q;have:=a2 r hr;unfold l8.ok reachBytes at this;omega
 ·have q:=gU.1 h4 x hx;unfold nu at q;simp only [pJ,gp,not_or,ub] at q;omega
def Ky {s:eP} (h:lX s=false):iv s.first=false∧s.threads.length<=20∧s.zS.length<=5000∧∀ l ∈ s.threads,l.length<=40∧∀ o ∈ l,iv o.config=false∧o.host.length<=100∧o.path.length<=100:=by
 unfold lX at h;simp only [pz,pn,ub] at h;obtain ⟨⟨⟨h1,h2⟩,h3⟩,h4⟩:=h;refine ⟨h1,h2,h3,fun l hl=>?_⟩;have q:=gU.1 h4 l hl;unfold nW at q;simp only [pJ,gp,not_or,ub] at q;refine ⟨q.1,fun o ho=>?_⟩;have q2:ns o=false:=gU.1 (aq q.2) o ho |> fun z=>by simpa using z
 unfold ns at q2;simp only [pz,pn,ub] at q2;exact q2
def Ed {s:eP} (ok:s.ma):H5 s:=by
 obtain ⟨⟨⟨_,b1⟩,⟨_,b2⟩,⟨_,b3⟩⟩,⟨b4,b5⟩,_,_⟩:=ok;unfold reachBytes at b1 b2 b3 b5;refine ⟨⟨aw,aw,aw⟩,aw,fun l hl=>?_,fun l hl o ho=>?_⟩
 ·have:=(b4 l hl).2;unfold reachBytes at this;omega
 ·obtain ⟨⟨_,_,_,⟨⟨_,c1⟩,⟨_,c2⟩,⟨_,c3⟩⟩⟩,_⟩:=(b4 l hl).1 o ho;unfold reachBytes at c1 c2 c3;exact ⟨aw,aw,aw⟩
def SX {out:List ec} {n x:ec} (h:x ∈ vq out n):x ∈ out∨x=n:=by
 unfold vq at h;split at h
 ·exact .inl h
 ·simpa using h
def DC {α:Type} {f:List ec->α->List ec} {P:ec->Prop}:∀ (l:List α) (out:List ec),(∀ y ∈ l,∀ o x,(∀ z ∈ o,P z)->x ∈ f o y->P x)->(∀ z ∈ out,P z)->∀ x ∈ l.foldl f out,P x
 | [],_,_,h,x,hx=>h x hx
 | y::l,out,hf,h,x,hx=>DC l (f out y) (fun y hy=>hf y (px _ hy)) (fun z hz=>hf y (pD ..) out z h hz) x hx
def PG {s:eP} (ok:s.ma):∀ x ∈ yd s,x.length<=reachBytes:=by
 have cfg:∀ (c:fb) (out:List ec),c.ok->(∀ z ∈ out,z.length<=reachBytes)->∀ x ∈ wc out c,x.length<=reachBytes:=fun c out hc ho=>
  DC c.zd out (fun y hy o x hz hx=>by
   rcases SX hx with h | rfl
   ·exact hz x h
   ·exact hc.1.1 _ hy) ho
 refine DC s.threads _ (fun l hl o x hz hx=>?_) (cfg s.first [] ok.1 aj);refine DC l o (fun p hp o x hz hx=>?_) hz x hx;unfold iy at hx;split at hx
 ·exact cfg p.config o ((ok.2.1.1 l hl).1 p hp).1.2.2.2 hz x hx
 ·exact hz x hx
def G0 {s:eP} (h:lX s=false) (ok:s.ma):kE s:=by
 obtain ⟨h1,h2,h3,h4⟩:=Ky h;have w:=Ed ok;refine ⟨⟨(Dv h1 ok.1).k,w.threads,w.ops,aw⟩,fun _=>Dv h1 ok.1,fun l hl o ho=>(Dv ((h4 l hl).2 o ho).1 ((ok.2.1.1 l hl).1 o ho).1.2.2.2).k,PG ok,fun l hl o ho=>?_,ok.2.2.1⟩;have a:=(h4 l hl).2 o ho;have b:=(ok.2.1.1 l hl).1 o ho;exact ⟨aw,aw,b.2.1,b.2.2,fun _=>Dv a.1 b.1.2.2.2⟩
def iU (s:eP) (n:Nat):eP:=⟨s.first,s.threads,s.zS.take n⟩
def VE {s:eP} (n:Nat) (h:fY s=true):fY (iU s n)=true:=by
 unfold fY at h ⊢;simp only [dY,gp,pd] at h ⊢;obtain ⟨⟨⟨⟨⟨h1,h2⟩,h3⟩,h4⟩,h5⟩,h6⟩:=h;refine ⟨⟨⟨⟨⟨h1,h2⟩,h3⟩,?_⟩,h5⟩,?_⟩
 ·show (s.zS.take n).length<=4000;simp;omega
 ·rw [gU] at h6 ⊢
  exact fun x hx=>h6 x (pK hx)
def Kw {s:eP} (n:Nat) (h:(qp s).2=0):qp (iU s n)=qp s:=by
 obtain ⟨q,e⟩:=jT h;have q2:=VE n q;unfold qp;rw [dU q,dU q2]
 rfl
def VP {s:eP} {n:Nat} (h:(qp s).2=0) (hn:n<=s.zS.length):xe (iU s n)=fD (fH s) s.zS n:=by
 have e:fH (iU s n)=fH s:=by unfold fH;rw [Kw n h];rfl
 unfold xe;rw [e];unfold fD;show ((s.zS.take n).take (s.zS.take n).length).foldl yR _=_;rw [gX]
def UD (s:Wor.fJ) (p:Int):s.2.2 <+:(yR s p).2.2:=by
 unfold yR;split
 ·unfold ET;split
  ·split
   ·split
    ·exact List.prefix_append _ _
    ·exact sC _
   ·exact sC _
  ·exact sC _
 ·exact sC _
def KQ:∀ (l:List Int) (s:Wor.fJ),s.2.2 <+:(l.foldl yR s).2.2
 | [],s=>sC _
 | p::l,s=>(UD s p).trans (KQ l (yR s p))
def KY {s:Wor.fJ} {l:List Int} {n m:Nat} (h:n<=m):fD s l m=((l.take m).drop n).foldl yR (fD s l n):=by
 unfold fD;rw [<- rS]
 congr 1
 have:l.take n=(l.take m).take n:=by rw [List.take_take];congr 1;omega
 rw [this,r9]
def VQ {s:Wor.fJ} {l:List Int} {n m:Nat} (h:n<=m):(fD s l n).2.2 <+:(fD s l m).2.2:=by
 rw [KY h];exact KQ _ _
def GU {N K:Nat} {s:Wor.fJ} (gi:GI N K s.1 s.2.1) (l:List Int):∀ k,k<=l.length->N+k<=100000000->K+k<=1099511627776->(fD s l k).2.2.length<=s.2.2.length+k∧((fD s l k).2.2.length=s.2.2.length+k∨qA (fD s l k).2.1 (fD s l k).2.1.length=[])
 | 0,_,_,_=>⟨gf _,.inl rfl⟩
 | k+1,hk,hN,hK=>by
  obtain ⟨i1,i2⟩:=GU gi l k aw aw aw;have g:=Bl gi l k aw aw aw;rw [we (dQ aw)];rcases yG g l[k] aw aw with ⟨ha,e⟩ | ⟨t,x,o,r,hat,_,_,_,_,_,_,e,_⟩
  ·rw [e];exact ⟨aw,.inr ha⟩
  ·rcases i2 with i2 | ha
   ·rw [e];have z:((fD s l k).2.2++[w9 r.2.2 x]).length=s.2.2.length+(k+1):=by rw [gW,i2];rfl
    exact ⟨sa z,.inl z⟩
   ·rw [ha] at hat;exact nomatch hat
def J7 {s:eP} (ok:kE s) (h:(qp s).2=0) {n:Nat} (hn:n<=s.zS.length):
  (z7 (iU s n)).2.2=0∧(z7 (iU s n)).1.length<=(z7 s).1.length∧(z7 s).1.take (z7 (iU s n)).1.length=(z7 (iU s n)).1∧jO (z7 (iU s n)).2.1∧iD 5000 (z7 (iU s n)).2.1∧
   ((z7 (iU s n)).1.length=n∨(z7 (iU s n)).1.length=(z7 s).1.length)∧(z7 s).1.length<=4000:=by
 have hb:(qp (iU s n)).2=0:=by rw [Kw n h];exact h
 have e1:z7 (iU s n)=((fD (fH s) s.zS n).2.2,(fD (fH s) s.zS n).1,0):=by
  unfold z7;rw [dU hb,VP h hn]
 have e2:z7 s=((fD (fH s) s.zS s.zS.length).2.2,(fD (fH s) s.zS s.zS.length).1,0):=by
  unfold z7;rw [dU h]
  rfl
 rw [e1,e2];dsimp only;have gi:=AU ok h;obtain ⟨q,_⟩:=jT h;obtain ⟨_,_,_,p4,_,_⟩:=xI q;have pre:=VQ (s:=fH s) (l:=s.zS) hn;have l1:=GU gi s.zS n hn aw aw;have l2:=GU gi s.zS s.zS.length (gf _) aw aw;have z:(fH s).2.2.length=0:=rfl;have g:=(Bw ok h n hn).mono (N':=5000) (K':=n) aw (gf _);refine ⟨rfl,pre.length_le,(List.prefix_iff_eq_take.1 pre).symm,g.st.ji,g.st.ty,?_,aw⟩;rcases l1.2 with l | ha
 ·exact .inl aw
 ·refine .inr ?_;rw [KY hn,KM ha]
def Tp {s:eP} (h:(z7 s).2.2≠0):(z7 s).1=[]∧(qp s).2≠0:=by
 unfold z7 at h ⊢;split at h
 ·exact absurd rfl h
 ·rename_i q;rw [dR q];exact ⟨rfl,q⟩
def AS {s:eP} (h:(z7 s).2.2=0):(qp s).2=0:=by
 unfold z7 at h;split at h
 ·assumption
 ·exact h
def vU (m:u3) (r:Wor × u3 × u6):Prop:=r.2.2.done=r.2.1.done∧(r.2.1.done=true->r.2.2.answer=r.2.1.answer)∧r.2.2.zg=m.zg
def SR {w:Wor} {m:u3} {r:Wor × u3 × u6} (hd:m.done=false) (h:Ae w m=some r):vU m r:=by
 unfold Ae at h;repeat' split at h
 all_goals (first | (cases h;done) | (obtain rfl:=gk h;unfold vU;(try dsimp only);first | exact ⟨hd.symm,fun q=>absurd (q.symm.trans hd) ar,rfl⟩ | exact ⟨rfl,fun _=>rfl,rfl⟩))
def I6 {w:Wor} {m:u3} {k p:Int} {r:Wor × u3 × u6} (hd:m.done=false) (h:nC w m k p=some r):vU m r:=by
 unfold nC at h;repeat' split at h
 all_goals (first | (cases h;done) | (obtain rfl:=gk h;unfold vU;(try dsimp only);first | exact ⟨hd.symm,fun q=>absurd (q.symm.trans hd) ar,rfl⟩ | exact ⟨rfl,fun _=>rfl,rfl⟩))
def Dw {w:Wor} {m:u3} {f:eL->Wor × u3 × u6} {r:Wor × u3 × u6} (h:iI w m f=some r) (hf:∀ x,vU m (f x)):vU m r:=by
 unfold iI at h;split at h
 ·cases h
 ·obtain ⟨x,_,rfl⟩:=gK.1 h;exact hf x
def vb {α:Type} {m:u3} {o:Option α} {f:α->Wor × u3 × u6} {r:Wor × u3 × u6} (h:o.map f=some r) (hf:∀ x,vU m (f x)):vU m r:=by
 obtain ⟨x,_,rfl⟩:=gK.1 h;exact hf x
def qz {m m':u3} {w:Wor} {e:u6} (h1:m'.done=false) (h2:e.done=false) (h3:e.zg=m.zg):vU m (w,m',e):=⟨h2.trans h1.symm,fun q=>absurd (q.symm.trans h1) ar,h3⟩
def qc {α:Type} {c:Prop} [Decidable c] {a b x:α} (h:(if c then a else b)=x):a=x∨b=x:=by
 by_cases q:c
 ·rw [dU q] at h;exact .inl h
 ·rw [dR q] at h;exact .inr h
def Pf {w:Wor} {m:u3} {v:u9} {g:Gr} {e:En} {r:Wor × u3 × u6} (hd:m.done=false) (h:qg w m v g e=some r):vU m r:=by
 have rt:(xz m v).done=false:=by
  unfold xz;repeat' split
  all_goals exact hd
 unfold qg at h;rcases qc h with h | h
 ·exact SR hd h
 rcases qc h with h | h
 ·obtain rfl:=gk h;refine qz ?_ rfl rfl;unfold AJ;split <;> exact hd
 rcases qc h with h | h
 ·exact Dw h fun x=>qz hd rfl rfl
 rcases qc h with h | h
 ·refine Dw h fun x=>?_
  refine qz ?_ ?_ ?_
  ·split
   ·exact hd
   ·exact rt
  ·split <;> rfl
  ·split <;> rfl
 rcases qc h with h | h
 ·exact vb h fun x=>qz (by unfold DZ;exact hd) rfl rfl
 rcases qc h with h | h
 ·obtain rfl:=gk h;exact dm
 rcases qc h with h | h
 ·exact vb h fun x=>qz hd rfl rfl
 rcases qc h with h | h
 ·obtain rfl:=gk h;refine qz ?_ rfl rfl;split <;> exact hd
 rcases qc h with h | h
 ·exact vb h fun x=>qz hd rfl rfl
 rcases qc h with h | h
 ·split at h
  ·obtain rfl:=gk h;exact dm
  ·obtain rfl:=gk h;exact dm
 rcases qc h with h | h
 ·obtain rfl:=gk h;exact dm
 rcases qc h with h | h
 ·exact I6 hd h
 rcases qc h with h | h
 ·exact I6 hd h
 rcases qc h with h | h
 ·exact Dw h fun x=>qz hd rfl rfl
 rcases qc h with h | h
 ·obtain rfl:=gk h;exact dx
 ·cases h
def Pe {w:Wor} {m:u3} {v:u9} {g:Gr} {e:En} {r:Wor × u3 × u6} (hd:m.done=false) (h:yv w m v g e=some r):vU m r:=by
 unfold yv at h;split at h
 ·obtain rfl:=gk h;exact dm
 split at h
 ·obtain rfl:=gk h;exact dm
 split at h
 ·split at h
  ·obtain rfl:=gk h;exact dm
  ·obtain rfl:=gk h;exact dm
 split at h
 ·obtain rfl:=gk h;exact dm
 split at h
 ·exact Dw h fun x=>⟨rfl,fun _=>rfl,rfl⟩
 split at h
 ·obtain rfl:=gk h;exact dx
 ·cases h
def Rr {w:Wor} {m:u3} {r:Wor × u3 × u6} (hd:m.done=false) (h:va w m=some r):vU m r:=by
 unfold va at h;split at h
 ·split at h
  ·obtain rfl:=gk h;exact qz (by unfold iZ;exact hd) rfl rfl
  ·obtain rfl:=gk h;exact dx
 split at h
 ·obtain rfl:=gk h;exact dm
 split at h
 ·split at h
  ·cases h
  ·obtain rfl:=gk h;exact dx
 ·cases h
def Pm {w:Wor} {m:u3} {r:Wor × u3 × u6} (hd:m.done=false) (h:wh w m=some r):vU m r:=by
 unfold wh at h;split at h
 ·split at h
  ·obtain rfl:=gk h;exact dx
  ·exact vb h fun x=>⟨rfl,fun _=>rfl,rfl⟩
 ·cases h
def Lb (w:Wor) (m:u3) (hd:m.done=false):vU m (mE w m):=by
 unfold mE;split
 ·exact dx
 ·refine qz ?_ ?_ ?_
  ·unfold Ah;repeat' split
   all_goals exact hd
  ·unfold EC;rfl
  ·unfold EC;rfl
def N8 {w:Wor} {m:u3} {r:Wor × u3 × u6} (hd:m.done=false) (h:yA w m=some r):vU m r:=by
 unfold yA at h;rcases qc h with h | h
 ·obtain rfl:=gk h;split
  ·exact dm
  ·exact dx
 rcases qc h with h | h
 ·obtain rfl:=gk h;exact dm
 rcases qc h with h | h
 ·refine vb h fun x=>qz ?_ rfl rfl
  unfold n6;repeat' split
  all_goals exact hd
 rcases qc h with h | h
 ·obtain rfl:=gk h;split
  ·exact dm
  ·exact dm
 rcases qc h with h | h
 ·obtain rfl:=gk h;split
  ·exact Lb w (fM m 8 0) hd
  ·refine qz ?_ rfl rfl;unfold n5;repeat' split
   all_goals exact hd
 rcases qc h with h | h
 ·obtain ⟨v,_,h⟩:=gP.1 h;refine vb h fun x=>qz ?_ ?_ ?_
  ·unfold oN;repeat' split
   all_goals exact hd
  ·unfold C5;rfl
  ·unfold C5;rfl
 rcases qc h with h | h
 ·obtain ⟨v,_,h⟩:=gP.1 h;obtain ⟨x,_,h⟩:=gP.1 h;rcases qc h with h | h
  ·obtain rfl:=gk h;refine qz ?_ rfl rfl;unfold BK;exact hd
  ·cases h
 rcases qc h with h | h
 ·obtain rfl:=gk h;exact Lb w m hd
 rcases qc h with h | h
 ·refine vb h fun x=>qz ?_ rfl rfl
  split <;> exact hd
 rcases qc h with h | h
 ·obtain ⟨v,_,h⟩:=gP.1 h;rcases qc h with h | h
  ·obtain rfl:=gk h;exact dm
  ·cases h
 ·cases h
def Pn {w:Wor} {m:u3} {r:Wor × u3 × u6} (hd:m.done=false) (h:vN w m=some r):vU m r:=by
 unfold vN at h;split at h
 ·obtain ⟨v,_,h⟩:=gP.1 h;refine vb h fun x=>⟨rfl,fun q=>?_,rfl⟩
  show (if (jm w m x).done then (jm w m x).answer else wW)=(jm w m x).answer;rw [dU q]
 ·cases h
def Dh {w:Wor} {m:u3} {r:Wor × u3 × u6} (hd:m.done=false) (h:vz w m=some r):vU m r:=by
 unfold vz at h;split at h
 ·cases h
 split at h
 ·cases h
 split at h
 ·cases h
 split at h
 ·exact Pf hd h
 split at h
 ·exact Pe hd h
 split at h
 ·exact Rr hd h
 split at h
 ·exact Pm hd h
 split at h
 ·exact N8 hd h
 split at h
 ·exact Pn hd h
 ·cases h
def mC (X:List eE):Nat:=(X.map (·.done)).sum
def Cy {X:List Nat}:∀ {t:Nat} {a b:Nat},X[t]?= some a->(X.set t b).sum+a=X.sum+b:=by
 induction X with
 | nil=>intro t a b h;cases h
 | cons y X ih=>
  intro t a b h;cases t with
  | zero=>
   have:y=a:=aq h
   subst this;simp only [rO,pG];omega
  | succ t=>
   have:=ih (t:=t) (a:=a) (b:=b) tX;simp only [sK,pG];omega
def VV {X:List eE} {t:Nat} {x y:eE} (h:X[t]?= some x):mC (X.set t y)+x.done=mC X+y.done:=by
 unfold mC;rw [pL];exact Cy (by rw [dT,h];rfl)
def Du (x:eE) (m:u3):(jE x m).done=x.done+(if m.done=true then 1 else 0):=by
 unfold Wor.jE;split <;> rfl
def LK {N K:Nat} {s:Wor.fJ} (gi:GI N K s.1 s.2.1) (l:List Int):∀ k,k<=l.length->N+k<=100000000->K+k<=1099511627776->(fD s l k).2.2.countP (·.done)+mC s.2.1=s.2.2.countP (·.done)+mC (fD s l k).2.1
 | 0,_,_,_=>rfl
 | k+1,hk,hN,hK=>by
  have ih:=LK gi l k aw aw aw;have g:=Bl gi l k aw aw aw;rw [we (dQ aw)];rcases yG g l[k] aw aw with ⟨ha,e⟩ | ⟨t,x,o,r,hat,hx,ho,hsu,htm,hst,_,e,_⟩
  ·rw [e];exact ih
  ·rw [e];dsimp only;obtain ⟨v,g',e',su⟩:=y8 hsu;have tl:=Dh su.done hst;have d:=VV (y:=jE x r.2.1) hx;rw [Du] at d;have q:(w9 r.2.2 x).done=r.2.1.done:=tl.1;rw [pY,rm,q];omega
def Uz {X:List eE} (h1:∀ x ∈ X,x.done<=x.ops.length) (h2:mC X=(X.map (·.ops.length)).sum):qA X X.length=[]:=by
 have key:∀ (X:List eE),(∀ x ∈ X,x.done<=x.ops.length)->mC X<=(X.map (·.ops.length)).sum∧(mC X=(X.map (·.ops.length)).sum->∀ x ∈ X,x.done=x.ops.length):=by
  intro X
  induction X with
  | nil=>intro _;exact ⟨gf _,fun _ x hx=>nomatch hx⟩
  | cons y X ih=>
   intro h;obtain ⟨i1,i2⟩:=ih fun x hx=>h x (px _ hx)
   have hy:=h y (pD ..);unfold mC at i1 i2 ⊢;simp only [pF,pG];refine ⟨aw,fun e x hx=>?_⟩;rcases rB.1 hx with rfl | hx
   ·omega
   ·exact i2 aw x hx
 refine r7.2 fun t ht=>?_
 obtain ⟨_,x,hx,u4⟩:=BS.1 ht;have:=(key X h1).2 h2 x (dS hx);omega
def mj (s:eP) (l:List Int):eP:=⟨s.first,s.threads,s.zS++l⟩
def Ri {s:eP} {l:List Int} (h:(qp s).2=0) (h2:(qp (mj s l)).2=0):qp (mj s l)=qp s:=by
 obtain ⟨q,e⟩:=jT h;obtain ⟨q2,e2⟩:=jT h2;unfold qp;rw [dU q,dU q2]
 rfl
def TO {s:eP} {l:List Int} (ok:kE s) (h:(z7 s).2.2=0) (h2:(z7 (mj s l)).2.2=0) (hd:(z7 s).1.countP (·.done)=(s.threads.map List.length).sum):z7 (mj s l)=z7 s:=by
 have hb:=AS h;have hb2:=AS h2;have eb:=Ri hb hb2;have e1:z7 s=((xe s).2.2,(xe s).1,0):=by unfold z7;rw [dU hb]
 have e2:z7 (mj s l)=((xe (mj s l)).2.2,(xe (mj s l)).1,0):=by unfold z7;rw [dU hb2]
 rw [e1] at hd;dsimp only at hd;have gi:=AU ok hb;obtain ⟨q,_⟩:=jT hb;obtain ⟨_,_,_,p4,_,_⟩:=xI q;have d:=LK gi s.zS s.zS.length (gf _) aw aw;have g:=Bw ok hb s.zS.length (gf _);have ao:=GV ok hb s.zS.length (gf _)
 have z:mC (fH s).2.1=0:=by
  show ((s.threads.map wG).map (·.done)).sum=0;rw [pX];exact C2 s.threads
 have al:qA (xe s).2.1 (xe s).2.1.length=[]:=by
  refine Uz (fun x hx=>?_) ?_
  ·obtain ⟨i,hi⟩:=gA.1 hx;exact (Ld g hi).2
  ·have a:((xe s).2.1.map (·.ops.length)).sum=(s.threads.map List.length).sum:=by
    rw [<- ao,pX]
    rfl
   have d':(xe s).2.2.countP (·.done)+mC (fH s).2.1=(fH s).2.2.countP (·.done)+mC (xe s).2.1:=d;have z2:(fH s).2.2.countP (·.done)=0:=rfl;omega
 have e3:xe (mj s l)=xe s:=by
  have e0:fH (mj s l)=fH s:=by unfold fH;rw [eb];rfl
  have f:xe (mj s l)=l.foldl yR (xe s):=by
   unfold xe;rw [e0];unfold fD;show ((s.zS++l).take (s.zS++l).length).foldl yR _=_;rw [gX,rS,gX]
  rw [f,KM al]
 rw [e2,e1,e3]
def U4 {s:eP} {l:List Int} (ok:kE s) (hl:l.length<=100000) (hp:∀ p ∈ l,i64 p) (h5:s.zS.length<=5000):kE (mj s l):=
 ⟨⟨ok.wk.first,ok.wk.threads,ok.wk.ops,by show (s.zS++l).length < _;rw [gW];omega⟩,ok.cfg,ok.HN,ok.names,ok.ops,fun p h=>by
  rcases gJ.1 h with h | h
  ·exact ok.zS p h
  ·exact hp p h⟩
def H9:C->C
 | .agg cs=>.agg (cs.map ff)
 | c=>c
def Wv {E:Env} {c:C} {y:Value} (h:L E c y):L E (H9 c) y:=by
 cases h with
 | agg cs ys h1 h2 h3=>
  have:=LL.ed (f:=ff) (E':=E) (cs:=cs) (ys:=ys.toList) ⟨aq h1,fun i c y e1 e2=>h2 i c y e1 uZ⟩ (fun c y hl=>nJ hl);exact dj
 | v x hx=>exact .v _ hx
 | u1 o sz rows b off cap us ho hc hsz hst hL=>exact .u1 o sz rows b off cap us ho hc hsz hst hL
 | xv o sz ho a=>exact .xv o sz ho a
 | jS cells b off us hst hL=>exact .jS cells b off us hst hL
 | ref id hops sz i j hn=>exact .ref id hops sz i j hn
 | sl id hops sz lo len full cap hn hlen hf hf'=>exact .sl id hops sz lo len full cap hn hlen hf hf'
 | fn f first caps ys zs h1 h2 h3 h4=>exact .fn f first caps ys zs h1 h2 h3 h4
 | mp id hn=>exact .mp id hn
 | u7 cs ys h1 h2=>exact .u7 cs ys h1 h2
 | un=>exact .un
 | za y=>exact .za y
 | gl id sz rows y hn hg h=>exact .gl id sz rows y hn hg h
 | fh t c y h=>exact .fh t c y h
def Wi {P:Program} {f:FuncId} {H H':zl} {args:List C} {r:C} (h:zb P f H (args.map H9) r H'):zb P f H args r H':=fun w E vs hh hl=>
 h w E vs hh (LL.ed hl fun c y h=>Wv h)
def Gb {s:eP} (ok:kE s):(z7 s).1.length<=4000:=by
 by_cases hz:(z7 s).2.2=0
 ·exact (J7 ok (AS hz) (n:=s.zS.length) (gf _)).2.2.2.2.2.2
 ·rw [(Tp hz).1];exact gF _
def Kn {s:eP} (ok:kE s) (hz:(z7 s).2.2=0):jO (z7 s).2.1∧iD 5000 (z7 s).2.1:=by
 have f:=J7 ok (AS hz) (n:=s.zS.length) (gf _);have e:iU s s.zS.length=s:=by unfold iU;rw [gX]
 rw [e] at f;exact ⟨f.2.2.2.1,f.2.2.2.2.1⟩
def V8 {w:Wor} (h:jO w) (t:iD 5000 w):H7 w:=by
 have g:=zY.1 h.ground
 have fV:∀ v ∈ w.ze,v.zm.length<=4∧∀ g ∈ v.zm,g.ends.length<=4∧1<=g.ends.length∧∀ e ∈ g.ends,Slp.eF e=true∧e.next.length<=4∧1<=e.next.length:=fun v hv=>by
  obtain ⟨i,hi⟩:=gA.1 hv;exact (h.eR i v hi).1.fV
 refine ⟨⟨by have:=g.pins;omega,by have:=t.iB;omega,by have:=t.ey;omega,bV,by have:=t.ia;omega,fun v hv=>?_,fun v hv=>⟨by have:=(fV v hv).1;omega,fun g hg=>by have:=((fV v hv).2 g hg).1;omega⟩⟩,fun v hv=>?_,fun v hv g hg e he=>((t.fS v hv).2 g hg).2 e he,fun r hr=>by have:=g.counts.2 r hr;omega⟩
 ·have q:=(t.fS v hv).1;exact ⟨by have:=q.zd.1;omega,by have:=q.rules.1;omega,by have:=q.zk.1;omega⟩
 ·have q:=(t.fS v hv).1;exact ⟨by have:=q.zd.1;omega,by have:=q.rules.1;omega,by have:=q.zk.1;omega,fun x hx=>(q.zk.2 x hx).2⟩
def E7 {l:List u6} (h:(Cal.fK l).2=0):(Cal.fK l).1.countP (fun c=>decide (0<=c.fi))=l.countP (·.done)∧(Cal.fK l).1.length<=l.length:=by
 unfold Cal.fK at h ⊢;cases hb:Cal.yy l l.length with
 | none=>rw [hb] at h;cases h
 | some b=>
  obtain ⟨h1,h2,h3⟩:=Cal.Cb l hb;refine ⟨?_,(Cal.GA hb).2⟩;rw [gX] at h3;exact h3
def Ju (s:eP) (more:List Int) (hs:s.ma) (hm:∀ p ∈ more,i64 p):to 4 [] [.agg (qi s),lI more] (Bo true) []:=by
 have m1:(s.zS.map Go.Hy.encI).length=s.zS.length:=dV ..;have m2:(more.map Go.Hy.encI).length=more.length:=dV ..;have m3:(s.threads.map yC).length=s.threads.length:=dV ..;refine ab func4 ?_;refine ah (Fk s (Ed hs)) ?_;refine ⟨fun h0=>?_,fun h0=>?_⟩
 ·refine dd ?_;refine td ?_
  exact uI
 have ok:=G0 h0 hs;refine dd ?_;rw [m1];refine ⟨fun h1=>?_,fun h1=>?_⟩
 ·refine dd ?_;refine td ?_
  exact uI
 have b1:s.zS.length<=1000:=b9
 refine dd ?_;rw [m2];refine ⟨fun h2=>?_,fun h2=>?_⟩
 ·refine dd ?_;refine td ?_
  exact uI
 have b2:more.length<=100:=aY
 refine dd ?_;have bl:=Gb ok;obtain ⟨_,t1,_,t2⟩:=Ky h0;refine ah (vH s ok) ?_;refine ah (Cal.Dy (z7 s).1 aw) ?_;have okm:=U4 ok (l:=more) aw hm aw;have hp2:=vH (mj s more) okm;have key:=TO (l:=more) ok;have ji:=Kn ok;have l9:=E7 (l:=(z7 s).1);generalize z7 (mj s more)=q at *;generalize z7 s=p at *;obtain ⟨l,w,e⟩:=p;dsimp only at *;generalize Cal.fK l=oc at *;obtain ⟨cs,f⟩:=oc;dsimp only at *;have ml:(l.map zP).length=l.length:=dV ..;have mc:(cs.map jA).length=cs.length:=dV ..;refine ⟨fun h3=>?_,fun h3=>?_⟩
 ·refine dd ?_;refine td ?_
  exact c7
 have e0:e=0:=aq h3
 subst e0;refine dd ?_;refine ⟨fun h4=>?_,fun h4=>?_⟩
 ·refine dd ?_;refine td ?_
  exact c7
 have f0:f=0:=aq h4
 subst f0;refine dd ?_;refine zW.seq s.threads.length (fun k=>(.agg (qi s)::lI more:: .ref 0 [] 5 0 0:: .za::Bo false::fZ l:: .ref 1 [] 8 0 0::I 0::oB cs::I 0::I (((s.threads.take k).map List.length).sum:Nat)::I k:: .za::.za::.za::.za::.za::.za::.za::hZ (hZ (hZ (hZ (hZ (hZ (hZ (hZ (hZ (hZ (hZ (hZ ([])))))))))))))) (fun k=>[⟨1,30,5,[qi s],0⟩,⟨1,37,8,[zJ w],0⟩]) (fun k=>True) ?_ trivial (fun k hk hr=>?_) (fun hr=>?_)
 ·exact cC
 ·obtain ⟨v,hx⟩:∃ v,v=s.threads[k]:=⟨_,rfl⟩;have hg:(s.threads.map yC)[k]?= some (yC v):=by rw [dT,dQ hk,hx];rfl
  have mg:(v.map vt).length=v.length:=dV ..;have hv:v.length<=40:=(t2 v tE).1;have hs1:=DJ List.length s.threads hk;rw [<- hx] at hs1;have hb:=k9 List.length 40 (s.threads.take k) fun x hx=>(t2 x (pK hx)).1
  have hl:(s.threads.take k).length<=20:=aA
  conv=>whnf
  rw [m3];refine uF ?_;(refine tf hg ?_)
  rw [mg];refine .inl ⟨rfl,?_,trivial⟩;rw [zu aw,jc aw aw,hs1,Int.natCast_add];exact cC
 have hT:(s.threads.take s.threads.length).map List.length=s.threads.map List.length:=by rw [gX]
 have hb:=k9 List.length 40 s.threads fun x hx=>(t2 x hx).1
 obtain ⟨T,hTe⟩:∃ T,T=(s.threads.map List.length).sum:=⟨_,rfl⟩;have hT2:T<=800:=aw
 obtain ⟨n1,n2⟩:=l9 rfl;conv=>whnf
 rw [m3,hT,<- hTe];refine ⟨fun h=>absurd h aj,fun _=>dd ?_⟩;refine ⟨aj,uH ?_⟩;refine zW.seq cs.length (fun k=>(.agg (qi s)::lI more:: .ref 0 [] 5 0 0:: .za::Bo false::fZ l:: .ref 1 [] 8 0 0::I 0::oB cs::I 0::I ((T:Int) - (((cs.take k).countP (fun c=>decide (0<=c.fi)):Nat):Int)):: .za::I k:: .za::.za::.za::.za::.za::.za::hZ (hZ (hZ (hZ (hZ (hZ (hZ (hZ (hZ (hZ (hZ (hZ ([])))))))))))))) (fun k=>[⟨1,30,5,[qi s],0⟩,⟨1,37,8,[zJ w],0⟩]) (fun k=>True) ?_ trivial (fun k hk hr=>?_) (fun hr=>?_)
 ·exact cC
 ·obtain ⟨c,hx⟩:∃ c,c=cs[k]:=⟨_,rfl⟩;have hg:(cs.map jA)[k]?= some (jA c):=by rw [dT,dQ hk,hx];rfl
  have e1:(cs.take (k+1)).countP (fun c=>decide (0<=c.fi))=(cs.take k).countP (fun c=>decide (0<=c.fi))+if decide (0<=c.fi)=true then 1 else 0:=by
   rw [gR hk,pY,rm,hx]
  have e2:(cs.take k).countP (fun c=>decide (0<=c.fi))<=k:=gY sx aA;conv=>whnf
  rw [mc];refine uF ?_;(refine tf hg ?_)
  refine ⟨fun h5=>?_,fun h5=>?_⟩
  ·rw [dU (aq h5)] at e1;refine dd ?_;refine .inl ⟨rfl,?_,trivial⟩;rw [zu aw,jc aw aw,e1,show (T:Int) - ((cs.take k).countP (fun c=>decide (0<=c.fi)):Nat) - 1=(T:Int) - ((cs.take k).countP (fun c=>decide (0<=c.fi))+1:Nat) from aw];exact cC
  ·rw [dR (aq h5)] at e1;refine dd ?_;refine .inl ⟨rfl,?_,trivial⟩;rw [zu aw,e1,rG];exact cC
 conv=>whnf
 rw [mc,gX,n1];refine ⟨fun h=>absurd h aj,fun _=>dd ?_⟩;refine ⟨aj,uH ?_⟩;refine .inl ⟨.inl rfl,.inr rfl,by rw [m1];simp [maxLen];omega,by rw [m1];show _ * 8<=_;simp;omega,dd ?_⟩;refine ⟨rfl,.inr rfl,by rw [sJ,m1,m2];simp [maxLen];omega,by rw [sJ,m1,m2];show _ * 8<=_;omega,dd ?_⟩;have em:[]++s.zS.map Go.Hy.encI++more.map Go.Hy.encI=(s.zS++more).map Go.Hy.encI:=by rw [sJ,pb]
 rw [em];refine ⟨_,_,Wi (show zb _ _ _ _ _ _ from hp2.frame rfl _),dd ?_⟩;refine ⟨fun h6=>?_,fun h6=>?_⟩
 ·refine dd ?_;refine td ?_
  exact c7
 refine dd ?_;refine ⟨fun h7=>?_,fun h7=>?_⟩
 ·refine dd ?_;refine td ?_
  exact c7
 have q0:q.2.2=0:=aq h7
 have hd:l.countP (·.done)=T:=by
  have h6:=gd (p:=(T:Int) - (l.countP (·.done):Nat)=0) (aq h6);omega
 obtain rfl:=key rfl q0 (hd.trans hTe);refine dd ?_;refine ah jx ?_;refine ⟨fun _=>dd ?_,fun h=>absurd h aj⟩;refine ah (Ps l aw) ?_;refine ⟨fun _=>dd ?_,fun h=>absurd h aj⟩;obtain ⟨gw,tw⟩:=ji rfl;refine ah (Xl w (V8 gw tw)) ?_;refine td ?_
 exact uI
end Go.Run
