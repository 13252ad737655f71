import Derived.Test.YtkbnjgogjccmfaaGreatTO
import Derived.Test.YtkbnjgogjccmfaaGreatT9
import Derived.Test.YtkbnjgogjccmfaaGreatTZ
import Derived.Test.YtkbnjgogjccmfaaGreatT0
import Derived.Test.YtkbnjgogjccmfaaGreatTL
set_option linter.all false
set_option maxRecDepth 100000
set_option maxHeartbeats 4000000
namespace Go.Hy
open Go.Ab Go.Proofs Tryz
def eD.lK (o:eD):Prop:=o.ok∧i64 o.d0∧i64 o.d1
def R0:qo prog 67 vb eD.lK:=
 qo.map (qo.struct underlying67 au (ja.cons rfl (qo.int underlying3) (ja.cons rfl (kc) (ja.cons rfl (kc) (ja.cons rfl (kc) (ja.cons rfl (qo.int underlying3) (ja.cons rfl (qo.int underlying3) (ja.cons rfl (qo.int underlying3) (ja.cons rfl K9 (ja.nil _)))))))))) (fun x=>⟨x.1,x.2.1,x.2.2.1,x.2.2.2.1,x.2.2.2.2.1,x.2.2.2.2.2.1,x.2.2.2.2.2.2.1,x.2.2.2.2.2.2.2.1⟩) fun x h=>⟨⟨⟨h.2.1,h.2.2.1,h.2.2.2.1,h.2.2.2.2.2.2.2.1⟩,wf_i64 h.2.2.2.2.1,wf_i64 h.2.2.2.2.2.1⟩,by simp [vb]⟩
def Tm:qo prog 49 (fun l:List eD=>[lP l]) (fun l=>(∀ x ∈ l,x.lK)∧l.length * 152<=reachBytes):=
 qo.slice (sz:=10) (by_:=152) underlying49 au au ar (fun _=>rfl) R0
def QZ:qo prog 27 (fun l:List (List eD)=>[Bp l]) (fun l=>(∀ x ∈ l,(∀ o ∈ x,o.lK)∧x.length * 152<=reachBytes)∧l.length * 24<=reachBytes):=
 qo.slice (sz:=1) (by_:=24) underlying27 au au ar (fun _=>rfl) Tm
def eF.lK (s:eF):Prop:=s.first.ok∧((∀ x ∈ s.threads,(∀ o ∈ x,o.lK)∧x.length * 152<=reachBytes)∧s.threads.length * 24<=reachBytes)∧(∀ p ∈ s.zT,i64 p)∧s.zT.length * 8<=reachBytes
def Rs:qo prog 30 qv eF.lK:=
 qo.map (qo.struct underlying30 au (ja.cons rfl K9 (ja.cons rfl QZ (ja.cons rfl Vh (ja.nil _))))) (fun x=>⟨x.1,x.2.1,x.2.2.1⟩) fun x h=>⟨⟨h.1,h.2.1,fun p hp=>wf_i64 (h.2.2.1.1 p hp),h.2.2.1.2⟩,by simp [qv]⟩
def arg_ScrI:F1 prog 30 (fun x=>.agg (qv x)) eF.lK:=qo.Ro underlying30 Rs
end Go.Hy
namespace Go.Run
open Go.Ab Go.Proofs Tryz Go.Gat Go.Nam Go.Hos Go.Con Go.Sna Go.Pla Go.Ply Go.Wor
open Go.Hy hiding encI
abbrev iw (c:eP):uw:=⟨o8 c,0,0,0,0, -1,0,0,0,0,0,0,0,0,0,false,Beg.ko,fY⟩
def BF (w:Wor) (c:eP):Wor:={ w with current:=w.ze.length,ze:=w.ze++[y4 c],zr:=w.zr++[⟨w.current,w.zn,false⟩] }
def GL {N:Nat} {w:Wor} {m:uw} {v:u3} {g:Gr} {e:En} {r:Wor × uw × uz} (su:qF w m v g e) (t:ig N w) (tm:eU m) (hN:N<=100000000) (hk:m.op.kind=3) (h:y5 w m=some r):tn 47 [] [Sw w,Sm m] (Sr r.1 r.2.1 r.2.2) []:=
 EN hk (J5 su (JH su) t tm hN hk h)
def L6 {c:eP} (sc:y8 c):eU (iw c):=⟨(by decide:i64 (-1)),(by decide:u64 0),(by decide:(-1:Int)<=0∧(0:Int)<=2147483646),by show (0:Nat) < _;decide,by show (0:Nat) < _;decide,(by decide:i64 0),(by decide:i64 0),fun _=>sc.k,fun _ _=>rfl⟩
def OF {N K:Nat} {w:Wor} {c:eP} (st:St N K w) (hc:(qN c).1=0) (sc:y8 c) (hN:N+3<=100000000):∃ m',ot 3 w (iw c) (BF w c) m'∧m'.answer=⟨8,w.ze.length,0,0,0,0,0,⟨0,0,0,0,0,0⟩⟩:=by
 have gw:=st.jq;have gr:=qa.1 gw.ground;have q:lQ c=0:=(km c).trans hc;obtain ⟨v,g,e,su⟩:=IK gw (m:=iw c) ⟨gk _,by show (0:Int) < _;have:=gr.pins.1;omega⟩ rfl rfl rfl rfl rfl rfl rfl rfl rfl;have lo:Eg w (iw c) v g e:=by constructor <;> dsimp only <;> omega
 obtain ⟨r1,h1,n1⟩:=FW st su (L6 sc) lo rfl
 have e1:y5 w (iw c)=some ({ w with current:=w.ze.length,ze:=w.ze++[y4 c] },iQ (iw c) w.current w.ze.length,{ ez (iw c) 6 3 w.ze.length with qR:=true }):=by
  unfold y5;rw [dQ rfl,dQ q]
 rw [e1] at h1;obtain rfl:=dZ h1;rcases n1.go with ⟨hd,_⟩ | ⟨⟨v1,g1,e1',su1,lo1⟩,_⟩
 ·exact nomatch hd
 obtain ⟨r2,h2,n2⟩:=FW n1.st su1 n1.tm lo1 rfl
 have e2:y5 { w with current:=w.ze.length,ze:=w.ze++[y4 c] } (iQ (iw c) w.current w.ze.length)=some ({ w with current:=w.ze.length,ze:=w.ze++[y4 c] },{ iQ (iw c) w.current w.ze.length with zn:=w.zn,pc:=2 },ez (iQ (iw c) w.current w.ze.length) 1 1 w.zn):=by
  unfold y5;rw [dN (by show ¬(1:Int)=0;decide),dQ rfl]
 rw [e2] at h2;obtain rfl:=dZ h2;rcases n2.go with ⟨hd,_⟩ | ⟨⟨v2,g2,e2',su2,lo2⟩,_⟩
 ·exact nomatch hd
 obtain ⟨r3,h3,n3⟩:=FW n2.st su2 n2.tm lo2 rfl
 have e3:y5 { w with current:=w.ze.length,ze:=w.ze++[y4 c] } { iQ (iw c) w.current w.ze.length with zn:=w.zn,pc:=2 }=some (BF w c,{ { iQ (iw c) w.current w.ze.length with zn:=w.zn,pc:=2 } with done:=true,answer:=oZ { iQ (iw c) w.current w.ze.length with zn:=w.zn,pc:=2 } },{ ez { iQ (iw c) w.current w.ze.length with zn:=w.zn,pc:=2 } 2 11 w.current with done:=true,answer:=oZ { iQ (iw c) w.current w.ze.length with zn:=w.zn,pc:=2 } }):=by
  have h4:=h3;unfold y5 at h4 ⊢;rw [dN (by show ¬(2:Int)=0;decide),dN (by show ¬(2:Int)=1;decide),dQ rfl] at h4 ⊢;by_cases z:wo { w with current:=w.ze.length,ze:=w.ze++[y4 c] } { iQ (iw c) w.current w.ze.length with zn:=w.zn,pc:=2 }=true
  ·rw [dQ z] at h4;cases h4
  ·rw [dN z]
   rfl
 rw [e3] at h3;obtain rfl:=dZ h3;exact ⟨_,.more (GL su st.ty (L6 sc) aw rfl e1) (by show (6:Int)≠0;decide) rfl (.more (GL su1 n1.st.ty n1.tm aw rfl e2) uW rfl (.last (GL su2 n2.st.ty n2.tm aw rfl e3) tI rfl)),rfl⟩
def Hw:(qj j8).2=0:=by kernel_rfl
abbrev wB:Wor:=(qj j8).1
def EJ:St 600 0 wB:=(AH oF Hw).st
def hP:tn 7 [] [.agg (Bt (lI (vi 60)))] (.u1 [fV (qb j8).1,.agg (zJ (qb j8).2.1),I (qb j8).2.2]) []:=
 Go.Dep.zb.Cy 9 (wv j8 oF) au au
def hE:tn 7 [] [.agg [.uv 1 0 [],.uv 1 0 [],.uv 1 0 [],.uv 1 0 [],.uv 1 0 []]] (.u1 [fV (qb ou).1,.agg (zJ (qb ou).2.1),I (qb ou).2.2]) []:=
 Go.Dep.zb.Cy 9 (wv ou MT) au au
def hB:tn 16 [] [.agg (Bt (lI (vi 60)))] (.u1 [.agg (zJ wB),I 0]) []:=by
 have h:=H6 j8 oF.wk oF.cfg oF.Hx fun _ x hx=>by have:=oF.names x hx;unfold reachBytes at this;omega
 have h0:=Hw;have e:qj j8=(wB,0):=by rw [<- h0]
 rw [e] at h;exact Go.Dep.zb.Cy 9 h au au
def MV:y8 oz:=oF.cfg au
def hA:tn 22 [] [.agg (zJ wB),I 0,.agg ([I 3,Tx [],Tx [],Tx [],I 0,I 0,I 0]++Eo),.uv 1 0 []] (.u1 [.agg (zJ (BF wB oz)),.agg (xz ⟨8,1,0,0,0,0,0,⟨0,0,0,0,0,0⟩⟩),I (3:Nat)]) []:=by
 obtain ⟨m',g,ha⟩:=OF (c:=oz) EJ au MV ar;have hb:=Beg.ET 0 (o8 oz) [] ar;have em:Beg.xb 0 (o8 oz) []=iw oz:=au
 rw [em] at hb;have h:=T8 hb g ar;have e1:wB.ze.length=1:=au
 rw [ha,e1] at h;exact Go.Dep.zb.Cy 9 h au au
abbrev BD:eD:=⟨3,[],[],[],0,0,0,⟨[],[],[]⟩⟩
def hN:tn 22 [] [.agg (zJ wB),I 9,.agg [I 3,Tx [],Tx [],Tx [],I 0,I 0,I 0,.uv 1 0 [],.uv 1 0 [],.uv 1 0 []],.uv 1 0 []] (.u1 [.agg (zJ wB),.agg (xz ⟨0,0,0,0,0,0,0,⟨0,0,0,0,0,0⟩⟩),I 0]) []:=by
 have hb:=Beg.ET 9 BD [] ar;have hs:zY wB (Beg.xb 9 BD [])=false:=au
 have hl:i64 (Beg.xb 9 BD []).listen:=by
  have e:(Beg.xb 9 BD []).listen= -1:=au
  rw [e]
  decide
 have h:=EN au (OL wB (Beg.xb 9 BD []) (n8 EJ.jq EJ.ty ar) hl au hs);exact Go.Dep.zb.Cy 9 (Rl hb h rfl) au au
def hH:tn 23 [] [.agg (zJ (qb j8).2.1)] (I (0:Nat)) []:=by
 have gi:=Bl oF Hw 60 (r7 au);have e:(fp (fC j8) j8.zT 60).1=(qb j8).2.1:=au
 have e0:ny (qb j8).2.1=0:=au
 have st:=gi.st;rw [e] at st;have h:=OH (qb j8).2.1 (T0 st.jq st.ty ar);rw [e0] at h;exact h
def j9:tn 9 [] [] (Bo true) []:=by
 have f1:(qb j8).1.length=30:=au
 have f2:(qb j8).2.2=0:=au
 have f3:(Cal.fK (qb j8).1).2=0:=au
 have f4:((Cal.fK (qb j8).1).1.map fun c=>(c.zf,c.answer.kind))=[(0,1),(1,10),(0,6),(0,5)]:=au
 have f5:(qb j8).2.1.zd=[⟨fS,true,0,false⟩]:=au
 have f6:wB.pins.length=2:=au
 have f7:(qb ou).1=[]:=au
 have f8:(qb ou).2.2=1:=au
 have f9:(BF wB oz).current=1:=au
 have hC:=Cal.FT (qb j8).1 (by rw [f1];decide);have hP:=hP;have hE:=hE;have hB:=hB;have hA:=hA;have hN:=hN;have hH:=hH;rw [f2] at hP;rw [f7,f8] at hE;generalize BF wB oz=x at *;generalize wB=b at *;generalize (qb ou).2.1=zw at *;generalize (qb j8).2.1=w at *;generalize (qb j8).1=l at *;generalize Cal.fK l=q at *;obtain ⟨cs,er⟩:=q;have f3:er=0:=f3;subst f3;obtain ⟨c0,cs,rfl,g0,f4⟩:=rO.1 f4;obtain ⟨c1,cs,rfl,g1,f4⟩:=rO.1 f4;obtain ⟨c2,cs,rfl,g2,f4⟩:=rO.1 f4;obtain ⟨c3,cs,rfl,g3,f4⟩:=rO.1 f4;obtain rfl:=List.map_eq_nil_iff.1 f4;have h (a b c d:Int) (h:(a,b)=(c,d)):a=c∧b=d:=by cases h;exact ⟨rfl,rfl⟩
 exact Pm hP f1 hC hE hB hA hN hH (h _ _ _ _ g0).2 (h _ _ _ _ g1).2 (h _ _ _ _ g1).1 (h _ _ _ _ g2).2 (h _ _ _ _ g3).2 f5 f6 f9
def Dj {c:eP} (h:ia c=false) (ok:c.ok):y8 c:=by
 unfold ia at h;simp only [pn,gZ,tU] at h;obtain ⟨⟨⟨⟨h1,h2⟩,h3⟩,h4⟩,h5⟩:=h;obtain ⟨⟨a1,_⟩,⟨a2,_⟩,⟨a3,_⟩⟩:=ok;refine ⟨⟨aw,fun s hs=>?_⟩,⟨aw,fun r hr=>?_⟩,⟨aw,fun x hx=>?_⟩⟩
 ·have:=a1 s hs;unfold Bj reachBytes at this;omega
 ·have q:=gP.1 h5 r hr;unfold np at q;simp only [pE,gh,not_or,tU] at q;have:=a2 r hr;unfold lb.ok reachBytes at this;omega
 ·have q:=gP.1 h4 x hx;unfold nh at q;simp only [pE,gh,not_or,tU] at q;omega
def Ka {s:eF} (h:iW s=false):ia s.first=false∧s.threads.length<=20∧s.zT.length<=5000∧∀ l ∈ s.threads,l.length<=40∧∀ o ∈ l,ia o.config=false∧o.host.length<=100∧o.path.length<=100:=by
 unfold iW at h;simp only [pn,gZ,tU] at h;obtain ⟨⟨⟨h1,h2⟩,h3⟩,h4⟩:=h;refine ⟨h1,h2,h3,fun l hl=>?_⟩;have q:=gP.1 h4 l hl;unfold nK at q;simp only [pE,gh,not_or,tU] at q;refine ⟨q.1,fun o ho=>?_⟩;have q2:ng o=false:=gP.1 (aq q.2) o ho |> fun z=>by simpa using z
 unfold ng at q2;simp only [pn,gZ,tU] at q2;exact q2
def D3 {s:eF} (ok:s.lK):HJ s:=by
 obtain ⟨⟨⟨_,b1⟩,⟨_,b2⟩,⟨_,b3⟩⟩,⟨b4,b5⟩,_,_⟩:=ok;unfold reachBytes at b1 b2 b3 b5;refine ⟨⟨aw,aw,aw⟩,aw,fun l hl=>?_,fun l hl o ho=>?_⟩
 ·have:=(b4 l hl).2;unfold reachBytes at this;omega
 ·obtain ⟨⟨_,_,_,⟨⟨_,c1⟩,⟨_,c2⟩,⟨_,c3⟩⟩⟩,_⟩:=(b4 l hl).1 o ho;unfold reachBytes at c1 c2 c3;exact ⟨aw,aw,aw⟩
def SD {out:List u4} {n x:u4} (h:x ∈ y7 out n):x ∈ out∨x=n:=by
 unfold y7 at h;split at h
 ·exact .inl h
 ·simpa using h
def Dq {α:Type} {f:List u4->α->List u4} {P:u4->Prop}:∀ (l:List α) (out:List u4),(∀ y ∈ l,∀ o x,(∀ z ∈ o,P z)->x ∈ f o y->P x)->(∀ z ∈ out,P z)->∀ x ∈ l.foldl f out,P x
 | [],_,_,h,x,hx=>h x hx
 | y::l,out,hf,h,x,hx=>Dq l (f out y) (fun y hy=>hf y (pj _ hy)) (fun z hz=>hf y (pz ..) out z h hz) x hx
def I1 {s:eF} (ok:s.lK):∀ x ∈ xd s,x.length<=reachBytes:=by
 have cfg:∀ (c:eP) (out:List u4),c.ok->(∀ z ∈ out,z.length<=reachBytes)->∀ x ∈ kE out c,x.length<=reachBytes:=fun c out hc ho=>
  Dq c.zd out (fun y hy o x hz hx=>by
   rcases SD hx with h | rfl
   ·exact hz x h
   ·exact hc.1.1 _ hy) ho
 refine Dq s.threads _ (fun l hl o x hz hx=>?_) (cfg s.first [] ok.1 aj);refine Dq l o (fun p hp o x hz hx=>?_) hz x hx;unfold fZ at hx;split at hx
 ·exact cfg p.config o ((ok.2.1.1 l hl).1 p hp).1.2.2.2 hz x hx
 ·exact hz x hx
def Wr {s:eF} (h:iW s=false) (ok:s.lK):kZ s:=by
 obtain ⟨h1,h2,h3,h4⟩:=Ka h;have w:=D3 ok;refine ⟨⟨(Dj h1 ok.1).k,w.threads,w.ops,aw⟩,fun _=>Dj h1 ok.1,fun l hl o ho=>(Dj ((h4 l hl).2 o ho).1 ((ok.2.1.1 l hl).1 o ho).1.2.2.2).k,I1 ok,fun l hl o ho=>?_,ok.2.2.1⟩;have a:=(h4 l hl).2 o ho;have b:=(ok.2.1.1 l hl).1 o ho;exact ⟨aw,aw,b.2.1,b.2.2,fun _=>(Dj a.1 b.1.2.2.2).k⟩
def il (s:eF) (n:Nat):eF:=⟨s.first,s.threads,s.zT.take n⟩
def T1 {s:eF} (n:Nat) (h:fF s=true):fF (il s n)=true:=by
 unfold fF at h ⊢;simp only [dU,gh,gX] at h ⊢;obtain ⟨⟨⟨⟨⟨h1,h2⟩,h3⟩,h4⟩,h5⟩,h6⟩:=h;refine ⟨⟨⟨⟨⟨h1,h2⟩,h3⟩,?_⟩,h5⟩,?_⟩
 ·show (s.zT.take n).length<=4000;simp;omega
 ·rw [gP] at h6 ⊢
  exact fun x hx=>h6 x (pJ hx)
def J9 {s:eF} (n:Nat) (h:(qj s).2=0):qj (il s n)=qj s:=by
 obtain ⟨q,e⟩:=jZ h;have q2:=T1 n q;unfold qj;rw [dQ q,dQ q2]
 rfl
def VV {s:eF} {n:Nat} (h:(qj s).2=0) (hn:n<=s.zT.length):xP (il s n)=fp (fC s) s.zT n:=by
 have e:fC (il s n)=fC s:=by unfold fC;rw [J9 n h];rfl
 unfold xP;rw [e];unfold fp;show ((s.zT.take n).take (s.zT.take n).length).foldl yL _=_;rw [gO]
def Ts (s:Wor.fx) (p:Int):s.2.2 <+:(yL s p).2.2:=by
 unfold yL;split
 ·unfold EG;split
  ·split
   ·split
    ·exact List.prefix_append _ _
    ·exact sx _
   ·exact sx _
  ·exact sx _
 ·exact sx _
def KG:∀ (l:List Int) (s:Wor.fx),s.2.2 <+:(l.foldl yL s).2.2
 | [],s=>sx _
 | p::l,s=>(Ts s p).trans (KG l (yL s p))
def KQ {s:Wor.fx} {l:List Int} {n m:Nat} (h:n<=m):fp s l m=((l.take m).drop n).foldl yL (fp s l n):=by
 unfold fp;rw [<- rL]
 congr 1
 have:l.take n=(l.take m).take n:=by rw [List.take_take];congr 1;omega
 rw [this,r6]
def VW {s:Wor.fx} {l:List Int} {n m:Nat} (h:n<=m):(fp s l n).2.2 <+:(fp s l m).2.2:=by
 rw [KQ h];exact KG _ _
def GB {N K:Nat} {s:Wor.fx} (gi:GI N K s.1 s.2.1) (l:List Int):∀ k,k<=l.length->N+k<=100000000->K+k<=1099511627776->(fp s l k).2.2.length<=s.2.2.length+k∧((fp s l k).2.2.length=s.2.2.length+k∨qy (fp s l k).2.1 (fp s l k).2.1.length=[])
 | 0,_,_,_=>⟨dW _,.inl rfl⟩
 | k+1,hk,hN,hK=>by
  obtain ⟨i1,i2⟩:=GB gi l k aw aw aw;have g:=AZ gi l k aw aw aw;rw [k8 (dM aw)];rcases yB g l[k] aw aw with ⟨ha,e⟩ | ⟨t,x,o,r,hat,_,_,_,_,_,_,e,_⟩
  ·rw [e];exact ⟨aw,.inr ha⟩
  ·rcases i2 with i2 | ha
   ·rw [e];have z:((fp s l k).2.2++[mC r.2.2 x]).length=s.2.2.length+(k+1):=by rw [gR,i2];rfl
    exact ⟨r7 z,.inl z⟩
   ·rw [ha] at hat;exact nomatch hat
def Fh {s:eF} (ok:kZ s) (h:(qj s).2=0) {n:Nat} (hn:n<=s.zT.length):
  (qb (il s n)).2.2=0∧(qb (il s n)).1.length<=(qb s).1.length∧(qb s).1.take (qb (il s n)).1.length=(qb (il s n)).1∧jC (qb (il s n)).2.1∧ig 5000 (qb (il s n)).2.1∧
   ((qb (il s n)).1.length=n∨(qb (il s n)).1.length=(qb s).1.length)∧(qb s).1.length<=4000:=by
 have hb:(qj (il s n)).2=0:=by rw [J9 n h];exact h
 have e1:qb (il s n)=((fp (fC s) s.zT n).2.2,(fp (fC s) s.zT n).1,0):=by
  unfold qb;rw [dQ hb,VV h hn]
 have e2:qb s=((fp (fC s) s.zT s.zT.length).2.2,(fp (fC s) s.zT s.zT.length).1,0):=by
  unfold qb;rw [dQ h]
  rfl
 rw [e1,e2];dsimp only;have gi:=AH ok h;obtain ⟨q,_⟩:=jZ h;obtain ⟨_,_,_,p4,_,_⟩:=xn q;have pre:=VW (s:=fC s) (l:=s.zT) hn;have l1:=GB gi s.zT n hn aw aw;have l2:=GB gi s.zT s.zT.length (dW _) aw aw;have z:(fC s).2.2.length=0:=rfl;have g:=(Bl ok h n hn).mono (N':=5000) (K':=n) aw (dW _);refine ⟨rfl,pre.length_le,(List.prefix_iff_eq_take.1 pre).symm,g.st.jq,g.st.ty,?_,aw⟩;rcases l1.2 with l | ha
 ·exact .inl aw
 ·refine .inr ?_;rw [KQ hn,Km ha]
def K8 {s:eF} (h:(qb s).2.2≠0):(qb s).1=[]∧(qj s).2≠0:=by
 unfold qb at h ⊢;split at h
 ·exact absurd rfl h
 ·rename_i q;rw [dN q];exact ⟨rfl,q⟩
def B2 {s:eF} (h:(qb s).2.2=0):(qj s).2=0:=by
 unfold qb at h;split at h
 ·assumption
 ·exact h
def vQ (m:uw) (r:Wor × uw × uz):Prop:=r.2.2.done=r.2.1.done∧(r.2.1.done=true->r.2.2.answer=r.2.1.answer)∧r.2.2.zf=m.zf
def S5 {w:Wor} {m:uw} {r:Wor × uw × uz} (hd:m.done=false) (h:o3 w m=some r):vQ m r:=by
 unfold o3 at h;repeat' split at h
 all_goals (first | (cases h;done) | (obtain rfl:=dZ h;unfold vQ;(try dsimp only);first | exact ⟨hd.symm,fun q=>absurd (q.symm.trans hd) ar,rfl⟩ | exact ⟨rfl,fun _=>rfl,rfl⟩))
def IL {w:Wor} {m:uw} {k p:Int} {r:Wor × uw × uz} (hd:m.done=false) (h:wW w m k p=some r):vQ m r:=by
 unfold wW at h;repeat' split at h
 all_goals (first | (cases h;done) | (obtain rfl:=dZ h;unfold vQ;(try dsimp only);first | exact ⟨hd.symm,fun q=>absurd (q.symm.trans hd) ar,rfl⟩ | exact ⟨rfl,fun _=>rfl,rfl⟩))
def Dk {w:Wor} {m:uw} {f:eE->Wor × uw × uz} {r:Wor × uw × uz} (h:iy w m f=some r) (hf:∀ x,vQ m (f x)):vQ m r:=by
 unfold iy at h;split at h
 ·cases h
 ·obtain ⟨x,_,rfl⟩:=gD.1 h;exact hf x
def y6 {α:Type} {m:uw} {o:Option α} {f:α->Wor × uw × uz} {r:Wor × uw × uz} (h:o.map f=some r) (hf:∀ x,vQ m (f x)):vQ m r:=by
 obtain ⟨x,_,rfl⟩:=gD.1 h;exact hf x
def qx {m m':uw} {w:Wor} {e:uz} (h1:m'.done=false) (h2:e.done=false) (h3:e.zf=m.zf):vQ m (w,m',e):=⟨h2.trans h1.symm,fun q=>absurd (q.symm.trans h1) ar,h3⟩
def z8 {α:Type} {c:Prop} [Decidable c] {a b x:α} (h:(if c then a else b)=x):a=x∨b=x:=by
 by_cases q:c
 ·rw [dQ q] at h;exact .inl h
 ·rw [dN q] at h;exact .inr h
def ON {w:Wor} {m:uw} {v:u3} {g:Gr} {e:En} {r:Wor × uw × uz} (hd:m.done=false) (h:qf w m v g e=some r):vQ m r:=by
 have rt:(xx m v).done=false:=by
  unfold xx;repeat' split
  all_goals exact hd
 unfold qf at h;rcases z8 h with h | h
 ·exact S5 hd h
 rcases z8 h with h | h
 ·obtain rfl:=dZ h;refine qx ?_ rfl rfl;unfold Ay;split <;> exact hd
 rcases z8 h with h | h
 ·exact Dk h fun x=>qx hd rfl rfl
 rcases z8 h with h | h
 ·refine Dk h fun x=>?_
  refine qx ?_ ?_ ?_
  ·split
   ·exact hd
   ·exact rt
  ·split <;> rfl
  ·split <;> rfl
 rcases z8 h with h | h
 ·exact y6 h fun x=>qx (by unfold DK;exact hd) rfl rfl
 rcases z8 h with h | h
 ·obtain rfl:=dZ h;exact di
 rcases z8 h with h | h
 ·exact y6 h fun x=>qx hd rfl rfl
 rcases z8 h with h | h
 ·obtain rfl:=dZ h;refine qx ?_ rfl rfl;split <;> exact hd
 rcases z8 h with h | h
 ·exact y6 h fun x=>qx hd rfl rfl
 rcases z8 h with h | h
 ·split at h
  ·obtain rfl:=dZ h;exact di
  ·obtain rfl:=dZ h;exact di
 rcases z8 h with h | h
 ·obtain rfl:=dZ h;exact di
 rcases z8 h with h | h
 ·exact IL hd h
 rcases z8 h with h | h
 ·exact IL hd h
 rcases z8 h with h | h
 ·exact Dk h fun x=>qx hd rfl rfl
 rcases z8 h with h | h
 ·obtain rfl:=dZ h;exact du
 ·cases h
def OM {w:Wor} {m:uw} {v:u3} {g:Gr} {e:En} {r:Wor × uw × uz} (hd:m.done=false) (h:yp w m v g e=some r):vQ m r:=by
 unfold yp at h;split at h
 ·obtain rfl:=dZ h;exact di
 split at h
 ·obtain rfl:=dZ h;exact di
 split at h
 ·split at h
  ·obtain rfl:=dZ h;exact di
  ·obtain rfl:=dZ h;exact di
 split at h
 ·obtain rfl:=dZ h;exact di
 split at h
 ·exact Dk h fun x=>⟨rfl,fun _=>rfl,rfl⟩
 split at h
 ·obtain rfl:=dZ h;exact du
 ·cases h
def Qh {w:Wor} {m:uw} {r:Wor × uw × uz} (hd:m.done=false) (h:y5 w m=some r):vQ m r:=by
 unfold y5 at h;split at h
 ·split at h
  ·obtain rfl:=dZ h;exact qx (by unfold iQ;exact hd) rfl rfl
  ·obtain rfl:=dZ h;exact du
 split at h
 ·obtain rfl:=dZ h;exact di
 split at h
 ·split at h
  ·cases h
  ·obtain rfl:=dZ h;exact du
 ·cases h
def Pb {w:Wor} {m:uw} {r:Wor × uw × uz} (hd:m.done=false) (h:wa w m=some r):vQ m r:=by
 unfold wa at h;split at h
 ·split at h
  ·obtain rfl:=dZ h;exact du
  ·exact y6 h fun x=>⟨rfl,fun _=>rfl,rfl⟩
 ·cases h
def K2 (w:Wor) (m:uw) (hd:m.done=false):vQ m (mq w m):=by
 unfold mq;split
 ·exact du
 ·refine qx ?_ ?_ ?_
  ·unfold o6;repeat' split
   all_goals exact hd
  ·unfold Ee;rfl
  ·unfold Ee;rfl
def NG {w:Wor} {m:uw} {r:Wor × uw × uz} (hd:m.done=false) (h:yu w m=some r):vQ m r:=by
 unfold yu at h;rcases z8 h with h | h
 ·obtain rfl:=dZ h;split
  ·exact di
  ·exact du
 rcases z8 h with h | h
 ·obtain rfl:=dZ h;exact di
 rcases z8 h with h | h
 ·refine y6 h fun x=>qx ?_ rfl rfl
  unfold nR;repeat' split
  all_goals exact hd
 rcases z8 h with h | h
 ·obtain rfl:=dZ h;split
  ·exact di
  ·exact di
 rcases z8 h with h | h
 ·obtain rfl:=dZ h;split
  ·exact K2 w (fD m 8 0) hd
  ·refine qx ?_ rfl rfl;unfold nQ;repeat' split
   all_goals exact hd
 rcases z8 h with h | h
 ·obtain ⟨v,_,h⟩:=gM.1 h;refine y6 h fun x=>qx ?_ ?_ ?_
  ·unfold oC;repeat' split
   all_goals exact hd
  ·unfold CU;rfl
  ·unfold CU;rfl
 rcases z8 h with h | h
 ·obtain ⟨v,_,h⟩:=gM.1 h;obtain ⟨x,_,h⟩:=gM.1 h;rcases z8 h with h | h
  ·obtain rfl:=dZ h;refine qx ?_ rfl rfl;unfold BB;exact hd
  ·cases h
 rcases z8 h with h | h
 ·obtain rfl:=dZ h;exact K2 w m hd
 rcases z8 h with h | h
 ·refine y6 h fun x=>qx ?_ rfl rfl
  split <;> exact hd
 rcases z8 h with h | h
 ·obtain ⟨v,_,h⟩:=gM.1 h;rcases z8 h with h | h
  ·obtain rfl:=dZ h;exact di
  ·cases h
 ·cases h
def Pc {w:Wor} {m:uw} {r:Wor × uw × uz} (hd:m.done=false) (h:vJ w m=some r):vQ m r:=by
 unfold vJ at h;split at h
 ·obtain ⟨v,_,h⟩:=gM.1 h;refine y6 h fun x=>⟨rfl,fun q=>?_,rfl⟩
  show (if (jg w m x).done then (jg w m x).answer else wR)=(jg w m x).answer;rw [dQ q]
 ·cases h
def Fe {w:Wor} {m:uw} {r:Wor × uw × uz} (hd:m.done=false) (h:kC w m=some r):vQ m r:=by
 unfold kC at h;split at h
 ·cases h
 split at h
 ·cases h
 split at h
 ·cases h
 split at h
 ·exact ON hd h
 split at h
 ·exact OM hd h
 split at h
 ·exact Qh hd h
 split at h
 ·exact Pb hd h
 split at h
 ·exact NG hd h
 split at h
 ·exact Pc hd h
 ·cases h
def mj (X:List ej):Nat:=(X.map (·.done)).sum
def DJ {X:List Nat}:∀ {t:Nat} {a b:Nat},X[t]?= some a->(X.set t b).sum+a=X.sum+b:=by
 induction X with
 | nil=>intro t a b h;cases h
 | cons y X ih=>
  intro t a b h;cases t with
  | zero=>
   have:y=a:=aq h
   subst this;simp only [sH,pR];omega
  | succ t=>
   have:=ih (t:=t) (a:=a) (b:=b) (aq h);simp only [List.set_cons_succ,pR];omega
def VZ {X:List ej} {t:Nat} {x y:ej} (h:X[t]?= some x):mj (X.set t y)+x.done=mj X+y.done:=by
 unfold mj;rw [pM];exact DJ (by rw [dP,h];rfl)
def Di (x:ej) (m:uw):(jw x m).done=x.done+(if m.done=true then 1 else 0):=by
 unfold Wor.jw;split <;> rfl
def Lw {N K:Nat} {s:Wor.fx} (gi:GI N K s.1 s.2.1) (l:List Int):∀ k,k<=l.length->N+k<=100000000->K+k<=1099511627776->(fp s l k).2.2.countP (·.done)+mj s.2.1=s.2.2.countP (·.done)+mj (fp s l k).2.1
 | 0,_,_,_=>rfl
 | k+1,hk,hN,hK=>by
  have ih:=Lw gi l k aw aw aw;have g:=AZ gi l k aw aw aw;rw [k8 (dM aw)];rcases yB g l[k] aw aw with ⟨ha,e⟩ | ⟨t,x,o,r,hat,hx,ho,hsu,htm,hst,_,e,_⟩
  ·rw [e];exact ih
  ·rw [e];dsimp only;obtain ⟨v,g',e',su⟩:=y3 hsu;have tl:=Fe su.done hst;have d:=VZ (y:=jw x r.2.1) hx;rw [Di] at d;have q:(mC r.2.2 x).done=r.2.1.done:=tl.1;rw [rH,r5,q];omega
def Tn {X:List ej} (h1:∀ x ∈ X,x.done<=x.ops.length) (h2:mj X=(X.map (·.ops.length)).sum):qy X X.length=[]:=by
 have key:∀ (X:List ej),(∀ x ∈ X,x.done<=x.ops.length)->mj X<=(X.map (·.ops.length)).sum∧(mj X=(X.map (·.ops.length)).sum->∀ x ∈ X,x.done=x.ops.length):=by
  intro X
  induction X with
  | nil=>intro _;exact ⟨dW _,fun _ x hx=>nomatch hx⟩
  | cons y X ih=>
   intro h;obtain ⟨i1,i2⟩:=ih fun x hx=>h x (pj _ hx)
   have hy:=h y (pz ..);unfold mj at i1 i2 ⊢;simp only [pI,pR];refine ⟨aw,fun e x hx=>?_⟩;rcases rq.1 hx with rfl | hx
   ·omega
   ·exact i2 aw x hx
 refine rY.2 fun t ht=>?_
 obtain ⟨_,x,hx,ux⟩:=BJ.1 ht;have:=(key X h1).2 h2 x (dO hx);omega
def lZ (s:eF) (l:List Int):eF:=⟨s.first,s.threads,s.zT++l⟩
def QW {s:eF} {l:List Int} (h:(qj s).2=0) (h2:(qj (lZ s l)).2=0):qj (lZ s l)=qj s:=by
 obtain ⟨q,e⟩:=jZ h;obtain ⟨q2,e2⟩:=jZ h2;unfold qj;rw [dQ q,dQ q2]
 rfl
def Te {s:eF} {l:List Int} (ok:kZ s) (h:(qb s).2.2=0) (h2:(qb (lZ s l)).2.2=0) (hd:(qb s).1.countP (·.done)=(s.threads.map List.length).sum):qb (lZ s l)=qb s:=by
 have hb:=B2 h;have hb2:=B2 h2;have eb:=QW hb hb2;have e1:qb s=((xP s).2.2,(xP s).1,0):=by unfold qb;rw [dQ hb]
 have e2:qb (lZ s l)=((xP (lZ s l)).2.2,(xP (lZ s l)).1,0):=by unfold qb;rw [dQ hb2]
 rw [e1] at hd;dsimp only at hd;have gi:=AH ok hb;obtain ⟨q,_⟩:=jZ hb;obtain ⟨_,_,_,p4,_,_⟩:=xn q;have d:=Lw gi s.zT s.zT.length (dW _) aw aw;have g:=Bl ok hb s.zT.length (dW _);have ao:=DX ok hb s.zT.length (dW _)
 have z:mj (fC s).2.1=0:=by
  show ((s.threads.map fT).map (·.done)).sum=0;rw [pX];exact HD s.threads
 have al:qy (xP s).2.1 (xP s).2.1.length=[]:=by
  refine Tn (fun x hx=>?_) ?_
  ·obtain ⟨i,hi⟩:=gm.1 hx;exact (FQ g hi).2
  ·have a:((xP s).2.1.map (·.ops.length)).sum=(s.threads.map List.length).sum:=by
    rw [<- ao,pX]
    rfl
   have d':(xP s).2.2.countP (·.done)+mj (fC s).2.1=(fC s).2.2.countP (·.done)+mj (xP s).2.1:=d;have z2:(fC s).2.2.countP (·.done)=0:=rfl;omega
 have e3:xP (lZ s l)=xP s:=by
  have e0:fC (lZ s l)=fC s:=by unfold fC;rw [eb];rfl
  have f:xP (lZ s l)=l.foldl yL (xP s):=by
   unfold xP;rw [e0];unfold fp;show ((s.zT++l).take (s.zT++l).length).foldl yL _=_;rw [gO,rL,gO]
  rw [f,Km al]
 rw [e2,e1,e3]
def Vd {s:eF} {l:List Int} (ok:kZ s) (hl:l.length<=100000) (hp:∀ p ∈ l,i64 p) (h5:s.zT.length<=5000):kZ (lZ s l):=
 ⟨⟨ok.wk.first,ok.wk.threads,ok.wk.ops,by show (s.zT++l).length < _;rw [gR];omega⟩,ok.cfg,ok.Hx,ok.names,ok.ops,fun p h=>by
  rcases gH.1 h with h | h
  ·exact ok.zT p h
  ·exact hp p h⟩
def HN:C->C
 | .agg cs=>.agg (cs.map eV)
 | c=>c
def WG {E:Env} {c:C} {y:Value} (h:L E c y):L E (HN c) y:=by
 cases h with
 | agg cs ys h1 h2 h3=>
  have:=LL.u5 (f:=eV) (E':=E) (cs:=cs) (ys:=ys.toList) ⟨aq h1,fun i c y e1 e2=>h2 i c y e1 uY⟩ (fun c y hl=>nu hl);exact dg
 | v x hx=>exact .v _ hx
 | uv o sz rows b off cap us ho hc hsz hst hL=>exact .uv o sz rows b off cap us ho hc hsz hst hL
 | xt o sz ho a=>exact .xt o sz ho a
 | jN cells b off us hst hL=>exact .jN cells b off us hst hL
 | ref id hops sz i j hn=>exact .ref id hops sz i j hn
 | sl id hops sz lo len full cap hn hlen hf hf'=>exact .sl id hops sz lo len full cap hn hlen hf hf'
 | fn f first caps ys zs h1 h2 h3 h4=>exact .fn f first caps ys zs h1 h2 h3 h4
 | mp id hn=>exact .mp id hn
 | u1 cs ys h1 h2=>exact .u1 cs ys h1 h2
 | un=>exact .un
 | za y=>exact .za y
 | gl id sz rows y hn hg h=>exact .gl id sz rows y hn hg h
 | eZ t c y h=>exact .eZ t c y h
def Wt {P:Program} {f:FuncId} {H H':zl} {args:List C} {r:C} (h:zb P f H (args.map HN) r H'):zb P f H args r H':=fun w E vs hh hl=>
 h w E vs hh (LL.u5 hl fun c y h=>WG h)
def Lb {s:eF} (ok:kZ s):(qb s).1.length<=4000:=by
 by_cases hz:(qb s).2.2=0
 ·exact (Fh ok (B2 hz) (n:=s.zT.length) (dW _)).2.2.2.2.2.2
 ·rw [(K8 hz).1];exact gA _
def Ry {s:eF} (ok:kZ s) (hz:(qb s).2.2=0):jC (qb s).2.1∧ig 5000 (qb s).2.1:=by
 have f:=Fh ok (B2 hz) (n:=s.zT.length) (dW _);have e:il s s.zT.length=s:=by unfold il;rw [gO]
 rw [e] at f;exact ⟨f.2.2.2.1,f.2.2.2.2.1⟩
def UF {w:Wor} (h:jC w) (t:ig 5000 w):HL w:=by
 have g:=qa.1 h.ground
 have fO:∀ v ∈ w.ze,v.zm.length<=4∧∀ g ∈ v.zm,g.ends.length<=4∧1<=g.ends.length∧∀ e ∈ g.ends,Slp.eu e=true∧e.next.length<=4∧1<=e.next.length:=fun v hv=>by
  obtain ⟨i,hi⟩:=gm.1 hv;exact (h.eJ i v hi).1.fO
 refine ⟨⟨by have:=g.pins;omega,by have:=t.iu;omega,by have:=t.ec;omega,bV,by have:=t.fQ;omega,fun v hv=>?_,fun v hv=>⟨by have:=(fO v hv).1;omega,fun g hg=>by have:=((fO v hv).2 g hg).1;omega⟩⟩,fun v hv=>?_,fun v hv g hg e he=>((t.fL v hv).2 g hg).2 e he,fun r hr=>by have:=g.counts.2 r hr;omega⟩
 ·have q:=(t.fL v hv).1;exact ⟨by have:=q.zd.1;omega,by have:=q.rules.1;omega,by have:=q.zk.1;omega⟩
 ·have q:=(t.fL v hv).1;exact ⟨by have:=q.zd.1;omega,by have:=q.rules.1;omega,by have:=q.zk.1;omega,fun x hx=>(q.zk.2 x hx).2⟩
def IB {l:List uz} (h:(Cal.fK l).2=0):(Cal.fK l).1.countP (fun c=>decide (0<=c.fj))=l.countP (·.done)∧(Cal.fK l).1.length<=l.length:=by
 unfold Cal.fK at h ⊢;cases hb:Cal.vp l l.length with
 | none=>rw [hb] at h;cases h
 | some b=>
  obtain ⟨h1,h2,h3⟩:=Cal.FN l hb;refine ⟨?_,(Cal.Gl hb).2⟩;rw [gO] at h3;exact h3
def Jc (s:eF) (more:List Int) (hs:s.lK) (hm:∀ p ∈ more,i64 p):tn 4 [] [.agg (qv s),lI more] (Bo true) []:=by
 have m1:(s.zT.map Go.Hy.encI).length=s.zT.length:=dR ..;have m2:(more.map Go.Hy.encI).length=more.length:=dR ..;have m3:(s.threads.map xi).length=s.threads.length:=dR ..;refine ab func4 ?_;refine ah (Jo s (D3 hs)) ?_;refine ⟨fun h0=>?_,fun h0=>?_⟩
 ·refine dd ?_;refine tc ?_
  exact uI
 have ok:=Wr h0 hs;refine dd ?_;rw [m1];refine ⟨fun h1=>?_,fun h1=>?_⟩
 ·refine dd ?_;refine tc ?_
  exact uI
 have b1:s.zT.length<=1000:=b9
 refine dd ?_;rw [m2];refine ⟨fun h2=>?_,fun h2=>?_⟩
 ·refine dd ?_;refine tc ?_
  exact uI
 have b2:more.length<=100:=aZ
 refine dd ?_;have bl:=Lb ok;obtain ⟨_,t1,_,t2⟩:=Ka h0;refine ah (wv s ok) ?_;refine ah (Cal.FT (qb s).1 aw) ?_;have okm:=Vd ok (l:=more) aw hm aw;have hp2:=wv (lZ s more) okm;have key:=Te (l:=more) ok;have jq:=Ry ok;have mQ:=IB (l:=(qb s).1);generalize qb (lZ s more)=q at *;generalize qb s=p at *;obtain ⟨l,w,e⟩:=p;dsimp only at *;generalize Cal.fK l=oc at *;obtain ⟨cs,f⟩:=oc;dsimp only at *;have ml:(l.map zR).length=l.length:=dR ..;have mc:(cs.map jV).length=cs.length:=dR ..;refine ⟨fun h3=>?_,fun h3=>?_⟩
 ·refine dd ?_;refine tc ?_
  refine ah j9 ?_;refine tc ?_;exact uI
 have e0:e=0:=aq h3
 subst e0;refine dd ?_;refine ⟨fun h4=>?_,fun h4=>?_⟩
 ·refine dd ?_;refine tc ?_
  refine ah j9 ?_;refine tc ?_;exact uI
 have f0:f=0:=aq h4
 subst f0;refine dd ?_;refine zZ.seq s.threads.length (fun k=>(.agg (qv s)::lI more:: .ref 0 [] 5 0 0:: .za::Bo false::fV l:: .ref 1 [] 8 0 0::I 0::At cs::I 0::I (((s.threads.take k).map List.length).sum:Nat)::I k:: .za::.za::.za::.za::.za::.za::.za::tZ (tZ (tZ (tZ (tZ (tZ (tZ (tZ (tZ (tZ (tZ (tZ ([])))))))))))))) (fun k=>[⟨1,30,5,[qv s],0⟩,⟨1,37,8,[zJ w],0⟩]) (fun k=>True) ?_ trivial (fun k hk hr=>?_) (fun hr=>?_)
 ·exact cC
 ·obtain ⟨v,hx⟩:∃ v,v=s.threads[k]:=⟨_,rfl⟩;have hg:(s.threads.map xi)[k]?= some (xi v):=by rw [dP,dM hk,hx];rfl
  have mg:(v.map vb).length=v.length:=dR ..;have hv:v.length<=40:=(t2 v tD).1;have hs1:=Dz List.length s.threads hk;rw [<- hx] at hs1;have hb:=kX List.length 40 (s.threads.take k) fun x hx=>(t2 x (pJ hx)).1
  have hl:(s.threads.take k).length<=20:=aA
  conv=>whnf
  rw [m3];refine uF ?_;(refine td hg ?_)
  rw [mg];refine .inl ⟨rfl,?_,trivial⟩;rw [zu aw,q9 aw aw,hs1,Int.natCast_add];exact cC
 have hT:(s.threads.take s.threads.length).map List.length=s.threads.map List.length:=by rw [gO]
 have hb:=kX List.length 40 s.threads fun x hx=>(t2 x hx).1
 obtain ⟨T,hTe⟩:∃ T,T=(s.threads.map List.length).sum:=⟨_,rfl⟩;have hT2:T<=800:=aw
 obtain ⟨n1,n2⟩:=mQ rfl;conv=>whnf
 rw [m3,hT,<- hTe];refine ⟨fun h=>absurd h aj,fun _=>dd ?_⟩;refine ⟨aj,uH ?_⟩;refine zZ.seq cs.length (fun k=>(.agg (qv s)::lI more:: .ref 0 [] 5 0 0:: .za::Bo false::fV l:: .ref 1 [] 8 0 0::I 0::At cs::I 0::I ((T:Int) - (((cs.take k).countP (fun c=>decide (0<=c.fj)):Nat):Int)):: .za::I k:: .za::.za::.za::.za::.za::.za::tZ (tZ (tZ (tZ (tZ (tZ (tZ (tZ (tZ (tZ (tZ (tZ ([])))))))))))))) (fun k=>[⟨1,30,5,[qv s],0⟩,⟨1,37,8,[zJ w],0⟩]) (fun k=>True) ?_ trivial (fun k hk hr=>?_) (fun hr=>?_)
 ·exact cC
 ·obtain ⟨c,hx⟩:∃ c,c=cs[k]:=⟨_,rfl⟩;have hg:(cs.map jV)[k]?= some (jV c):=by rw [dP,dM hk,hx];rfl
  have e1:(cs.take (k+1)).countP (fun c=>decide (0<=c.fj))=(cs.take k).countP (fun c=>decide (0<=c.fj))+if decide (0<=c.fj)=true then 1 else 0:=by
   rw [px hk,rH,r5,hx]
  have e2:(cs.take k).countP (fun c=>decide (0<=c.fj))<=k:=gW sY aA;conv=>whnf
  rw [mc];refine uF ?_;(refine td hg ?_)
  refine ⟨fun h5=>?_,fun h5=>?_⟩
  ·rw [dQ (aq h5)] at e1;refine dd ?_;refine .inl ⟨rfl,?_,trivial⟩;rw [zu aw,q9 aw aw,e1,show (T:Int) - ((cs.take k).countP (fun c=>decide (0<=c.fj)):Nat) - 1=(T:Int) - ((cs.take k).countP (fun c=>decide (0<=c.fj))+1:Nat) from aw];exact cC
  ·rw [dN (aq h5)] at e1;refine dd ?_;refine .inl ⟨rfl,?_,trivial⟩;rw [zu aw,e1,rB];exact cC
 conv=>whnf
 rw [mc,gO,n1];refine ⟨fun h=>absurd h aj,fun _=>dd ?_⟩;refine ⟨aj,uH ?_⟩;refine .inl ⟨.inl rfl,.inr rfl,by rw [m1];simp [maxLen];omega,by rw [m1];show _ * 8<=_;simp;omega,dd ?_⟩;refine ⟨rfl,.inr rfl,by rw [sG,m1,m2];simp [maxLen];omega,by rw [sG,m1,m2];show _ * 8<=_;omega,dd ?_⟩;have em:[]++s.zT.map Go.Hy.encI++more.map Go.Hy.encI=(s.zT++more).map Go.Hy.encI:=by rw [sG,pB]
 rw [em];refine ⟨_,_,Wt (show zb _ _ _ _ _ _ from hp2.frame rfl _),dd ?_⟩;refine ⟨fun h6=>?_,fun h6=>?_⟩
 ·refine dd ?_;refine tc ?_
  refine ah j9 ?_;refine tc ?_;exact uI
 refine dd ?_;refine ⟨fun h7=>?_,fun h7=>?_⟩
 ·refine dd ?_;refine tc ?_
  refine ah j9 ?_;refine tc ?_;exact uI
 have q0:q.2.2=0:=aq h7
 have hd:l.countP (·.done)=T:=by
  have h6:=gK (p:=(T:Int) - (l.countP (·.done):Nat)=0) (aq h6);omega
 obtain rfl:=key rfl q0 (hd.trans hTe);refine dd ?_;refine ah j9 ?_;refine ⟨fun _=>dd ?_,fun h=>absurd h aj⟩;refine ah (Pr l aw) ?_;refine ⟨fun _=>dd ?_,fun h=>absurd h aj⟩;obtain ⟨gw,tw⟩:=jq rfl;refine ah (Wq w (UF gw tw)) ?_;refine tc ?_
 exact uI
end Go.Run
