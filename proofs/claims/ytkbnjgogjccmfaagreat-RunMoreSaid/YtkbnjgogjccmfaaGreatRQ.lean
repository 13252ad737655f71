import Derived.Test.YtkbnjgogjccmfaaGreatRO
import Derived.Test.YtkbnjgogjccmfaaGreatR9
import Derived.Test.YtkbnjgogjccmfaaGreatRZ
import Derived.Test.YtkbnjgogjccmfaaGreatR0
import Derived.Test.YtkbnjgogjccmfaaGreatRL
set_option linter.all false
set_option maxRecDepth 100000
set_option maxHeartbeats 4000000
namespace Go.Hy
open Go.Ab Go.Proofs Tryz
def ef.my (o:ef):Prop:=o.ok∧i64 o.d0∧i64 o.d1
def Rr:qe prog 67 y8 ef.my:=
 qe.map (qe.struct underlying67 au (q6.cons rfl (qe.int underlying3) (q6.cons rfl (vP) (q6.cons rfl (vP) (q6.cons rfl (vP) (q6.cons rfl (qe.int underlying3) (q6.cons rfl (qe.int underlying3) (q6.cons rfl (qe.int underlying3) (q6.cons rfl JP (q6.nil _)))))))))) (fun x=>⟨x.1,x.2.1,x.2.2.1,x.2.2.2.1,x.2.2.2.2.1,x.2.2.2.2.2.1,x.2.2.2.2.2.2.1,x.2.2.2.2.2.2.2.1⟩) fun x h=>⟨⟨⟨h.2.1,h.2.2.1,h.2.2.2.1,h.2.2.2.2.2.2.2.1⟩,wf_i64 h.2.2.2.2.1,wf_i64 h.2.2.2.2.2.1⟩,by simp [y8]⟩
def RJ:qe prog 49 (fun l:List ef=>[lP l]) (fun l=>(∀ x ∈ l,x.my)∧l.length * 152<=reachBytes):=
 qe.slice (sz:=10) (by_:=152) underlying49 au au ar (fun _=>rfl) Rr
def Pa:qe prog 27 (fun l:List (List ef)=>[AK l]) (fun l=>(∀ x ∈ l,(∀ o ∈ x,o.my)∧x.length * 152<=reachBytes)∧l.length * 24<=reachBytes):=
 qe.slice (sz:=1) (by_:=24) underlying27 au au ar (fun _=>rfl) RJ
def ez.my (s:ez):Prop:=s.first.ok∧((∀ x ∈ s.threads,(∀ o ∈ x,o.my)∧x.length * 152<=reachBytes)∧s.threads.length * 24<=reachBytes)∧(∀ p ∈ s.zV,i64 p)∧s.zV.length * 8<=reachBytes
def Rs:qe prog 30 qy ez.my:=
 qe.map (qe.struct underlying30 au (q6.cons rfl JP (q6.cons rfl Pa (q6.cons rfl KF (q6.nil _))))) (fun x=>⟨x.1,x.2.1,x.2.2.1⟩) fun x h=>⟨⟨h.1,h.2.1,fun p hp=>wf_i64 (h.2.2.1.1 p hp),h.2.2.1.2⟩,by simp [qy]⟩
def arg_ScrI:Ak prog 30 (fun x=>.agg (qy x)) ez.my:=qe.QF underlying30 Rs
end Go.Hy
namespace Go.Run
open Go.Ab Go.Proofs Tryz Go.Gat Go.Nam Go.Hos Go.Con Go.Sna Go.Pla Go.Ply Go.Wor
open Go.Hy hiding encI
abbrev ig (c:eG):uk:=⟨oI c,0,0,0,0, -1,0,0,0,0,0,0,0,0,0,false,Beg.ka,iA⟩
def AZ (w:Wor) (c:eG):Wor:={ w with current:=w.ze.length,ze:=w.ze++[yN c],zr:=w.zr++[⟨w.current,w.zn,false⟩] }
def FQ {N:Nat} {w:Wor} {m:uk} {v:uq} {g:Gr} {e:En} {r:Wor × uk × uv} (su:qH w m v g e) (t:fZ N w) (tm:eJ m) (hN:N<=100000000) (hk:m.op.kind=3) (h:vg w m=some r):tn 47 [] [Sw w,Sm m] (Sr r.1 r.2.1 r.2.2) []:=
 D0 hk (Jv su (IE su) t tm hN hk h)
def KR {c:eG} (sc:xp c):eJ (ig c):=⟨(by decide:i64 (-1)),(by decide:u64 0),(by decide:(-1:Int)<=0∧(0:Int)<=2147483646),by show (0:Nat) < _;decide,by show (0:Nat) < _;decide,(by decide:i64 0),(by decide:i64 0),fun _=>sc,fun _ _=>rfl⟩
def N0 {N K:Nat} {w:Wor} {c:eG} (st:St N K w) (hc:(q8 c).1=0) (sc:xp c) (hN:N+3<=100000000):∃ m',nS 3 w (ig c) (AZ w c) m'∧m'.answer=⟨8,w.ze.length,0,0,0,0,0,⟨0,0,0,0,0,0⟩⟩:=by
 have gw:=st.jl;have gr:=qa.1 gw.ground;have q:lu c=0:=(wy c).trans hc;obtain ⟨v,g,e,su⟩:=Io gw (m:=ig c) ⟨gd _,by show (0:Int) < _;have:=gr.pins.1;omega⟩ rfl rfl rfl rfl rfl rfl rfl rfl rfl;have lo:Dw w (ig c) v g e:=by constructor <;> dsimp only <;> omega
 obtain ⟨r1,h1,n1⟩:=ER st su (KR sc) lo rfl
 have e1:vg w (ig c)=some ({ w with current:=w.ze.length,ze:=w.ze++[yN c] },iE (ig c) w.current w.ze.length,{ u6 (ig c) 6 3 w.ze.length with qP:=true }):=by
  unfold vg;rw [dO rfl,dO q]
 rw [e1] at h1;obtain rfl:=gm h1;rcases n1.go with ⟨hd,_⟩ | ⟨⟨v1,g1,e1',su1,lo1⟩,_⟩
 ·exact nomatch hd
 obtain ⟨r2,h2,n2⟩:=ER n1.st su1 n1.tm lo1 rfl
 have e2:vg { w with current:=w.ze.length,ze:=w.ze++[yN c] } (iE (ig c) w.current w.ze.length)=some ({ w with current:=w.ze.length,ze:=w.ze++[yN c] },{ iE (ig c) w.current w.ze.length with zn:=w.zn,pc:=2 },u6 (iE (ig c) w.current w.ze.length) 1 1 w.zn):=by
  unfold vg;rw [dL (by show ¬(1:Int)=0;decide),dO rfl]
 rw [e2] at h2;obtain rfl:=gm h2;rcases n2.go with ⟨hd,_⟩ | ⟨⟨v2,g2,e2',su2,lo2⟩,_⟩
 ·exact nomatch hd
 obtain ⟨r3,h3,n3⟩:=ER n2.st su2 n2.tm lo2 rfl
 have e3:vg { w with current:=w.ze.length,ze:=w.ze++[yN c] } { iE (ig c) w.current w.ze.length with zn:=w.zn,pc:=2 }=some (AZ w c,{ { iE (ig c) w.current w.ze.length with zn:=w.zn,pc:=2 } with done:=true,answer:=oC { iE (ig c) w.current w.ze.length with zn:=w.zn,pc:=2 } },{ u6 { iE (ig c) w.current w.ze.length with zn:=w.zn,pc:=2 } 2 11 w.current with done:=true,answer:=oC { iE (ig c) w.current w.ze.length with zn:=w.zn,pc:=2 } }):=by
  have h4:=h3;unfold vg at h4 ⊢;rw [dL (by show ¬(2:Int)=0;decide),dL (by show ¬(2:Int)=1;decide),dO rfl] at h4 ⊢;by_cases z:kR { w with current:=w.ze.length,ze:=w.ze++[yN c] } { iE (ig c) w.current w.ze.length with zn:=w.zn,pc:=2 }=true
  ·rw [dO z] at h4;cases h4
  ·rw [dL z]
   rfl
 rw [e3] at h3;obtain rfl:=gm h3;exact ⟨_,.more (FQ su st.ty (KR sc) aw rfl e1) (by show (6:Int)≠0;decide) rfl (.more (FQ su1 n1.st.ty n1.tm aw rfl e2) uW rfl (.last (FQ su2 n2.st.ty n2.tm aw rfl e3) tI rfl)),rfl⟩
def Gz:(qu jX).2=0:=by kernel_rfl
abbrev wB:Wor:=(qu jX).1
def DV:St 600 0 wB:=(CF nY Gz).st
def hP:tn 7 [] [.agg (AQ (lI (yX 60)))] (.uo [fR (qp jX).1,.agg (zJ (qp jX).2.1),I (qp jX).2.2]) []:=
 Go.Dep.zb.BJ 9 (Cd jX nY) au au
def hE:tn 7 [] [.agg [.ui 1 0 [],.ui 1 0 [],.ui 1 0 [],.ui 1 0 [],.ui 1 0 []]] (.uo [fR (qp nT).1,.agg (zJ (qp nT).2.1),I (qp nT).2.2]) []:=
 Go.Dep.zb.BJ 9 (Cd nT LM) au au
def hB:tn 16 [] [.agg (AQ (lI (yX 60)))] (.uo [.agg (zJ wB),I 0]) []:=by
 have h:=G9 jX nY.wk nY.cfg nY.Gk fun _ x hx=>by have:=nY.names x hx;unfold reachBytes at this;omega
 have h0:=Gz;have e:qu jX=(wB,0):=by rw [<- h0]
 rw [e] at h;exact Go.Dep.zb.BJ 9 h au au
def LO:xp nQ:=nY.cfg au
def hA:tn 22 [] [.agg (zJ wB),I 0,.agg ([I 3,Tx [],Tx [],Tx [],I 0,I 0,I 0]++DC),.ui 1 0 []] (.uo [.agg (zJ (AZ wB nQ)),.agg (xm ⟨8,1,0,0,0,0,0,⟨0,0,0,0,0,0⟩⟩),I (3:Nat)]) []:=by
 obtain ⟨m',g,ha⟩:=N0 (c:=nQ) DV au LO ar;have hb:=Beg.DW 0 (oI nQ) [] ar;have em:Beg.yg 0 (oI nQ) []=ig nQ:=au
 rw [em] at hb;have h:=SS hb g ar;have e1:wB.ze.length=1:=au
 rw [ha,e1] at h;exact Go.Dep.zb.BJ 9 h au au
abbrev AX:ef:=⟨3,[],[],[],0,0,0,⟨[],[],[]⟩⟩
def hN:tn 22 [] [.agg (zJ wB),I 9,.agg [I 3,Tx [],Tx [],Tx [],I 0,I 0,I 0,.ui 1 0 [],.ui 1 0 [],.ui 1 0 []],.ui 1 0 []] (.uo [.agg (zJ wB),.agg (xm ⟨0,0,0,0,0,0,0,⟨0,0,0,0,0,0⟩⟩),I 0]) []:=by
 have hb:=Beg.DW 9 AX [] ar;have hs:zY wB (Beg.yg 9 AX [])=false:=au
 have hl:i64 (Beg.yg 9 AX []).listen:=by
  have e:(Beg.yg 9 AX []).listen= -1:=au
  rw [e]
  decide
 have h:=D0 au (Nk wB (Beg.yg 9 AX []) (ox DV.jl DV.ty ar) hl au hs);exact Go.Dep.zb.BJ 9 (QC hb h rfl) au au
def hH:tn 23 [] [.agg (zJ (qp jX).2.1)] (I (0:Nat)) []:=by
 have gi:=BI nY Gz 60 (rW au);have e:(ff (fp jX) jX.zV 60).1=(qp jX).2.1:=au
 have e0:mW (qp jX).2.1=0:=au
 have st:=gi.st;rw [e] at st;have h:=N2 (qp jX).2.1 (TQ st.jl st.ty ar);rw [e0] at h;exact h
def yY:tn 9 [] [] (Bo true) []:=by
 have f1:(qp jX).1.length=30:=au
 have f2:(qp jX).2.2=0:=au
 have f3:(Cal.fI (qp jX).1).2=0:=au
 have f4:((Cal.fI (qp jX).1).1.map fun c=>(c.zj,c.answer.kind))=[(0,1),(1,10),(0,6),(0,5)]:=au
 have f5:(qp jX).2.1.zd=[⟨fK,true,0,false⟩]:=au
 have f6:wB.pins.length=2:=au
 have f7:(qp nT).1=[]:=au
 have f8:(qp nT).2.2=1:=au
 have f9:(AZ wB nQ).current=1:=au
 have hC:=Cal.JO (qp jX).1 (by rw [f1];decide);have hP:=hP;have hE:=hE;have hB:=hB;have hA:=hA;have hN:=hN;have hH:=hH;rw [f2] at hP;rw [f7,f8] at hE;generalize AZ wB nQ=x at *;generalize wB=b at *;generalize (qp nT).2.1=zw at *;generalize (qp jX).2.1=w at *;generalize (qp jX).1=l at *;generalize Cal.fI l=q at *;obtain ⟨cs,er⟩:=q;have f3:er=0:=f3;subst f3;obtain ⟨c0,cs,rfl,g0,f4⟩:=rH.1 f4;obtain ⟨c1,cs,rfl,g1,f4⟩:=rH.1 f4;obtain ⟨c2,cs,rfl,g2,f4⟩:=rH.1 f4;obtain ⟨c3,cs,rfl,g3,f4⟩:=rH.1 f4;obtain rfl:=List.map_eq_nil_iff.1 f4;have h (a b c d:Int) (h:(a,b)=(c,d)):a=c∧b=d:=by cases h;exact ⟨rfl,rfl⟩
 exact NS hP f1 hC hE hB hA hN hH (h _ _ _ _ g0).2 (h _ _ _ _ g1).2 (h _ _ _ _ g1).1 (h _ _ _ _ g2).2 (h _ _ _ _ g3).2 f5 f6 f9
def CA {c:eG} (h:fO c=false) (ok:c.ok):xp c:=by
 unfold fO at h;simp only [gY,gT,sW] at h;obtain ⟨⟨⟨⟨h1,h2⟩,h3⟩,h4⟩,h5⟩:=h;obtain ⟨⟨a1,_⟩,⟨a2,_⟩,⟨a3,_⟩⟩:=ok;refine ⟨⟨aw,fun s hs=>?_⟩,⟨aw,fun r hr=>?_⟩,⟨aw,fun x hx=>?_⟩⟩
 ·have:=a1 s hs;unfold Dj reachBytes at this;omega
 ·have q:=gI.1 h5 r hr;unfold mM at q;simp only [pB,dZ,not_or,sW] at q;have:=a2 r hr;unfold lf.ok reachBytes at this;omega
 ·have q:=gI.1 h4 x hx;unfold mK at q;simp only [pB,dZ,not_or,sW] at q;omega
def I1 {s:ez} (h:iV s=false):fO s.first=false∧s.threads.length<=20∧s.zV.length<=5000∧∀ l ∈ s.threads,l.length<=40∧∀ o ∈ l,fO o.config=false∧o.host.length<=100∧o.path.length<=100:=by
 unfold iV at h;simp only [gY,gT,sW] at h;obtain ⟨⟨⟨h1,h2⟩,h3⟩,h4⟩:=h;refine ⟨h1,h2,h3,fun l hl=>?_⟩;have q:=gI.1 h4 l hl;unfold na at q;simp only [pB,dZ,not_or,sW] at q;refine ⟨q.1,fun o ho=>?_⟩;have q2:mJ o=false:=gI.1 (aq q.2) o ho |> fun z=>by simpa using z
 unfold mJ at q2;simp only [gY,gT,sW] at q2;exact q2
def KT {s:ez} (ok:s.my):GJ s:=by
 obtain ⟨⟨⟨_,b1⟩,⟨_,b2⟩,⟨_,b3⟩⟩,⟨b4,b5⟩,_,_⟩:=ok;unfold reachBytes at b1 b2 b3 b5;refine ⟨⟨aw,aw,aw⟩,aw,fun l hl=>?_,fun l hl o ho=>?_⟩
 ·have:=(b4 l hl).2;unfold reachBytes at this;omega
 ·obtain ⟨⟨_,_,_,⟨⟨_,c1⟩,⟨_,c2⟩,⟨_,c3⟩⟩⟩,_⟩:=(b4 l hl).1 o ho;unfold reachBytes at c1 c2 c3;exact ⟨aw,aw,aw⟩
def Ri {out:List uu} {n x:uu} (h:x ∈ y6 out n):x ∈ out∨x=n:=by
 unfold y6 at h;split at h
 ·exact .inl h
 ·simpa using h
def CM {α:Type} {f:List uu->α->List uu} {P:uu->Prop}:∀ (l:List α) (out:List uu),(∀ y ∈ l,∀ o x,(∀ z ∈ o,P z)->x ∈ f o y->P x)->(∀ z ∈ out,P z)->∀ x ∈ l.foldl f out,P x
 | [],_,_,h,x,hx=>h x hx
 | y::l,out,hf,h,x,hx=>CM l (f out y) (fun y hy=>hf y (g9 _ hy)) (fun z hz=>hf y (px ..) out z h hz) x hx
def N8 {s:ez} (ok:s.my):∀ x ∈ xM s,x.length<=reachBytes:=by
 have cfg:∀ (c:eG) (out:List uu),c.ok->(∀ z ∈ out,z.length<=reachBytes)->∀ x ∈ kH out c,x.length<=reachBytes:=fun c out hc ho=>
  CM c.zd out (fun y hy o x hz hx=>by
   rcases Ri hx with h | rfl
   ·exact hz x h
   ·exact hc.1.1 _ hy) ho
 refine CM s.threads _ (fun l hl o x hz hx=>?_) (cfg s.first [] ok.1 aj);refine CM l o (fun p hp o x hz hx=>?_) hz x hx;unfold fT at hx;split at hx
 ·exact cfg p.config o ((ok.2.1.1 l hl).1 p hp).1.2.2.2 hz x hx
 ·exact hz x hx
def U6 {s:ez} (h:iV s=false) (ok:s.my):wI s:=by
 obtain ⟨h1,h2,h3,h4⟩:=I1 h;have w:=KT ok;refine ⟨⟨(CA h1 ok.1).k,w.threads,w.ops,aw⟩,fun _=>CA h1 ok.1,fun l hl o ho=>(CA ((h4 l hl).2 o ho).1 ((ok.2.1.1 l hl).1 o ho).1.2.2.2).k,N8 ok,fun l hl o ho=>?_,ok.2.2.1⟩;have a:=(h4 l hl).2 o ho;have b:=(ok.2.1.1 l hl).1 o ho;exact ⟨aw,aw,b.2.1,b.2.2,fun _=>CA a.1 b.1.2.2.2⟩
def iu (s:ez) (n:Nat):ez:=⟨s.first,s.threads,s.zV.take n⟩
def TR {s:ez} (n:Nat) (h:fG s=true):fG (iu s n)=true:=by
 unfold fG at h ⊢;simp only [dS,dZ,gR] at h ⊢;obtain ⟨⟨⟨⟨⟨h1,h2⟩,h3⟩,h4⟩,h5⟩,h6⟩:=h;refine ⟨⟨⟨⟨⟨h1,h2⟩,h3⟩,?_⟩,h5⟩,?_⟩
 ·show (s.zV.take n).length<=4000;simp;omega
 ·rw [gI] at h6 ⊢
  exact fun x hx=>h6 x (pL hx)
def I0 {s:ez} (n:Nat) (h:(qu s).2=0):qu (iu s n)=qu s:=by
 obtain ⟨q,e⟩:=xc h;have q2:=TR n q;unfold qu;rw [dO q,dO q2]
 rfl
def Uy {s:ez} {n:Nat} (h:(qu s).2=0) (hn:n<=s.zV.length):va (iu s n)=ff (fp s) s.zV n:=by
 have e:fp (iu s n)=fp s:=by unfold fp;rw [I0 n h];rfl
 unfold va;rw [e];unfold ff;show ((s.zV.take n).take (s.zV.take n).length).foldl yW _=_;rw [gK]
def SZ (s:Wor.fD) (p:Int):s.2.2 <+:(yW s p).2.2:=by
 unfold yW;split
 ·unfold DS;split
  ·split
   ·split
    ·exact List.prefix_append _ _
    ·exact sb _
   ·exact sb _
  ·exact sb _
 ·exact sb _
def JY:∀ (l:List Int) (s:Wor.fD),s.2.2 <+:(l.foldl yW s).2.2
 | [],s=>sb _
 | p::l,s=>(SZ s p).trans (JY l (yW s p))
def JG {s:Wor.fD} {l:List Int} {n m:Nat} (h:n<=m):ff s l m=((l.take m).drop n).foldl yW (ff s l n):=by
 unfold ff;rw [<- rF]
 congr 1
 have:l.take n=(l.take m).take n:=by rw [List.take_take];congr 1;omega
 rw [this,rV]
def Uz {s:Wor.fD} {l:List Int} {n m:Nat} (h:n<=m):(ff s l n).2.2 <+:(ff s l m).2.2:=by
 rw [JG h];exact JY _ _
def FL {N K:Nat} {s:Wor.fD} (gi:GI N K s.1 s.2.1) (l:List Int):∀ k,k<=l.length->N+k<=100000000->K+k<=1099511627776->(ff s l k).2.2.length<=s.2.2.length+k∧((ff s l k).2.2.length=s.2.2.length+k∨qw (ff s l k).2.1 (ff s l k).2.1.length=[])
 | 0,_,_,_=>⟨dU _,.inl rfl⟩
 | k+1,hk,hN,hK=>by
  obtain ⟨i1,i2⟩:=FL gi l k aw aw aw;have g:=C5 gi l k aw aw aw;rw [A3 (dK aw)];rcases kV g l[k] aw aw with ⟨ha,e⟩ | ⟨t,x,o,r,hat,_,_,_,_,_,_,e,_⟩
  ·rw [e];exact ⟨aw,.inr ha⟩
  ·rcases i2 with i2 | ha
   ·rw [e];have z:((ff s l k).2.2++[AG r.2.2 x]).length=s.2.2.length+(k+1):=by rw [gN,i2];rfl
    exact ⟨rW z,.inl z⟩
   ·rw [ha] at hat;exact nomatch hat
def Jg {s:ez} (ok:wI s) (h:(qu s).2=0) {n:Nat} (hn:n<=s.zV.length):
  (qp (iu s n)).2.2=0∧(qp (iu s n)).1.length<=(qp s).1.length∧(qp s).1.take (qp (iu s n)).1.length=(qp (iu s n)).1∧jD (qp (iu s n)).2.1∧fZ 5000 (qp (iu s n)).2.1∧
   ((qp (iu s n)).1.length=n∨(qp (iu s n)).1.length=(qp s).1.length)∧(qp s).1.length<=4000:=by
 have hb:(qu (iu s n)).2=0:=by rw [I0 n h];exact h
 have e1:qp (iu s n)=((ff (fp s) s.zV n).2.2,(ff (fp s) s.zV n).1,0):=by
  unfold qp;rw [dO hb,Uy h hn]
 have e2:qp s=((ff (fp s) s.zV s.zV.length).2.2,(ff (fp s) s.zV s.zV.length).1,0):=by
  unfold qp;rw [dO h]
  rfl
 rw [e1,e2];dsimp only;have gi:=CF ok h;obtain ⟨q,_⟩:=xc h;obtain ⟨_,_,_,p4,_,_⟩:=yu q;have pre:=Uz (s:=fp s) (l:=s.zV) hn;have l1:=FL gi s.zV n hn aw aw;have l2:=FL gi s.zV s.zV.length (dU _) aw aw;have z:(fp s).2.2.length=0:=rfl;have g:=(BI ok h n hn).mono (N':=5000) (K':=n) aw (dU _);refine ⟨rfl,pre.length_le,(List.prefix_iff_eq_take.1 pre).symm,g.st.jl,g.st.ty,?_,aw⟩;rcases l1.2 with l | ha
 ·exact .inl aw
 ·refine .inr ?_;rw [JG hn,Jd ha]
def R8 {s:ez} (h:(qp s).2.2≠0):(qp s).1=[]∧(qu s).2≠0:=by
 unfold qp at h ⊢;split at h
 ·exact absurd rfl h
 ·rename_i q;rw [dL q];exact ⟨rfl,q⟩
def CL {s:ez} (h:(qp s).2.2=0):(qu s).2=0:=by
 unfold qp at h;split at h
 ·assumption
 ·exact h
def vC (m:uk) (r:Wor × uk × uv):Prop:=r.2.2.done=r.2.1.done∧(r.2.1.done=true->r.2.2.answer=r.2.1.answer)∧r.2.2.zj=m.zj
def Rd {w:Wor} {m:uk} {r:Wor × uk × uv} (hd:m.done=false) (h:o9 w m=some r):vC m r:=by
 unfold o9 at h;repeat' split at h
 all_goals (first | (cases h;done) | (obtain rfl:=gm h;unfold vC;(try dsimp only);first | exact ⟨hd.symm,fun q=>absurd (q.symm.trans hd) ar,rfl⟩ | exact ⟨rfl,fun _=>rfl,rfl⟩))
def Ip {w:Wor} {m:uk} {k p:Int} {r:Wor × uk × uv} (hd:m.done=false) (h:n6 w m k p=some r):vC m r:=by
 unfold n6 at h;repeat' split at h
 all_goals (first | (cases h;done) | (obtain rfl:=gm h;unfold vC;(try dsimp only);first | exact ⟨hd.symm,fun q=>absurd (q.symm.trans hd) ar,rfl⟩ | exact ⟨rfl,fun _=>rfl,rfl⟩))
def CB {w:Wor} {m:uk} {f:ec->Wor × uk × uv} {r:Wor × uk × uv} (h:lD w m f=some r) (hf:∀ x,vC m (f x)):vC m r:=by
 unfold lD at h;split at h
 ·cases h
 ·obtain ⟨x,_,rfl⟩:=gJ.1 h;exact hf x
def yO {α:Type} {m:uk} {o:Option α} {f:α->Wor × uk × uv} {r:Wor × uk × uv} (h:o.map f=some r) (hf:∀ x,vC m (f x)):vC m r:=by
 obtain ⟨x,_,rfl⟩:=gJ.1 h;exact hf x
def qv {m m':uk} {w:Wor} {e:uv} (h1:m'.done=false) (h2:e.done=false) (h3:e.zj=m.zj):vC m (w,m',e):=⟨h2.trans h1.symm,fun q=>absurd (q.symm.trans h1) ar,h3⟩
def jK {α:Type} {c:Prop} [Decidable c] {a b x:α} (h:(if c then a else b)=x):a=x∨b=x:=by
 by_cases q:c
 ·rw [dO q] at h;exact .inl h
 ·rw [dL q] at h;exact .inr h
def Nm {w:Wor} {m:uk} {v:uq} {g:Gr} {e:En} {r:Wor × uk × uv} (hd:m.done=false) (h:qf w m v g e=some r):vC m r:=by
 have rt:(yn m v).done=false:=by
  unfold yn;repeat' split
  all_goals exact hd
 unfold qf at h;rcases jK h with h | h
 ·exact Rd hd h
 rcases jK h with h | h
 ·obtain rfl:=gm h;refine qv ?_ rfl rfl;unfold Ae;split <;> exact hd
 rcases jK h with h | h
 ·exact CB h fun x=>qv hd rfl rfl
 rcases jK h with h | h
 ·refine CB h fun x=>?_
  refine qv ?_ ?_ ?_
  ·split
   ·exact hd
   ·exact rt
  ·split <;> rfl
  ·split <;> rfl
 rcases jK h with h | h
 ·exact yO h fun x=>qv (by unfold CT;exact hd) rfl rfl
 rcases jK h with h | h
 ·obtain rfl:=gm h;exact dh
 rcases jK h with h | h
 ·exact yO h fun x=>qv hd rfl rfl
 rcases jK h with h | h
 ·obtain rfl:=gm h;refine qv ?_ rfl rfl;split <;> exact hd
 rcases jK h with h | h
 ·exact yO h fun x=>qv hd rfl rfl
 rcases jK h with h | h
 ·split at h
  ·obtain rfl:=gm h;exact dh
  ·obtain rfl:=gm h;exact dh
 rcases jK h with h | h
 ·obtain rfl:=gm h;exact dh
 rcases jK h with h | h
 ·exact Ip hd h
 rcases jK h with h | h
 ·exact Ip hd h
 rcases jK h with h | h
 ·exact CB h fun x=>qv hd rfl rfl
 rcases jK h with h | h
 ·obtain rfl:=gm h;exact dq
 ·cases h
def Nl {w:Wor} {m:uk} {v:uq} {g:Gr} {e:En} {r:Wor × uk × uv} (hd:m.done=false) (h:yB w m v g e=some r):vC m r:=by
 unfold yB at h;split at h
 ·obtain rfl:=gm h;exact dh
 split at h
 ·obtain rfl:=gm h;exact dh
 split at h
 ·split at h
  ·obtain rfl:=gm h;exact dh
  ·obtain rfl:=gm h;exact dh
 split at h
 ·obtain rfl:=gm h;exact dh
 split at h
 ·exact CB h fun x=>⟨rfl,fun _=>rfl,rfl⟩
 split at h
 ·obtain rfl:=gm h;exact dq
 ·cases h
def PS {w:Wor} {m:uk} {r:Wor × uk × uv} (hd:m.done=false) (h:vg w m=some r):vC m r:=by
 unfold vg at h;split at h
 ·split at h
  ·obtain rfl:=gm h;exact qv (by unfold iE;exact hd) rfl rfl
  ·obtain rfl:=gm h;exact dq
 split at h
 ·obtain rfl:=gm h;exact dh
 split at h
 ·split at h
  ·cases h
  ·obtain rfl:=gm h;exact dq
 ·cases h
def OE {w:Wor} {m:uk} {r:Wor × uk × uv} (hd:m.done=false) (h:ny w m=some r):vC m r:=by
 unfold ny at h;split at h
 ·split at h
  ·obtain rfl:=gm h;exact dq
  ·exact yO h fun x=>⟨rfl,fun _=>rfl,rfl⟩
 ·cases h
def Kb (w:Wor) (m:uk) (hd:m.done=false):vC m (mS w m):=by
 unfold mS;split
 ·exact dq
 ·refine qv ?_ ?_ ?_
  ·unfold AV;repeat' split
   all_goals exact hd
  ·unfold DE;rfl
  ·unfold DE;rfl
def MP {w:Wor} {m:uk} {r:Wor × uk × uv} (hd:m.done=false) (h:yR w m=some r):vC m r:=by
 unfold yR at h;rcases jK h with h | h
 ·obtain rfl:=gm h;split
  ·exact dh
  ·exact dq
 rcases jK h with h | h
 ·obtain rfl:=gm h;exact dh
 rcases jK h with h | h
 ·refine yO h fun x=>qv ?_ rfl rfl
  unfold oG;repeat' split
  all_goals exact hd
 rcases jK h with h | h
 ·obtain rfl:=gm h;split
  ·exact dh
  ·exact dh
 rcases jK h with h | h
 ·obtain rfl:=gm h;split
  ·exact Kb w (fm m 8 0) hd
  ·refine qv ?_ rfl rfl;unfold oF;repeat' split
   all_goals exact hd
 rcases jK h with h | h
 ·obtain ⟨v,_,h⟩:=pd.1 h;refine yO h fun x=>qv ?_ ?_ ?_
  ·unfold Ad;repeat' split
   all_goals exact hd
  ·unfold B5;rfl
  ·unfold B5;rfl
 rcases jK h with h | h
 ·obtain ⟨v,_,h⟩:=pd.1 h;obtain ⟨x,_,h⟩:=pd.1 h;rcases jK h with h | h
  ·obtain rfl:=gm h;refine qv ?_ rfl rfl;unfold AU;exact hd
  ·cases h
 rcases jK h with h | h
 ·obtain rfl:=gm h;exact Kb w m hd
 rcases jK h with h | h
 ·refine yO h fun x=>qv ?_ rfl rfl
  split <;> exact hd
 rcases jK h with h | h
 ·obtain ⟨v,_,h⟩:=pd.1 h;rcases jK h with h | h
  ·obtain rfl:=gm h;exact dh
  ·cases h
 ·cases h
def OF {w:Wor} {m:uk} {r:Wor × uk × uv} (hd:m.done=false) (h:nu w m=some r):vC m r:=by
 unfold nu at h;split at h
 ·obtain ⟨v,_,h⟩:=pd.1 h;refine yO h fun x=>⟨rfl,fun q=>?_,rfl⟩
  show (if (jP w m x).done then (jP w m x).answer else wu)=(jP w m x).answer;rw [dO q]
 ·cases h
def PN {w:Wor} {m:uk} {r:Wor × uk × uv} (hd:m.done=false) (h:lq w m=some r):vC m r:=by
 unfold lq at h;split at h
 ·cases h
 split at h
 ·cases h
 split at h
 ·cases h
 split at h
 ·exact Nm hd h
 split at h
 ·exact Nl hd h
 split at h
 ·exact PS hd h
 split at h
 ·exact OE hd h
 split at h
 ·exact MP hd h
 split at h
 ·exact OF hd h
 ·cases h
def lM (X:List ed):Nat:=(X.map (·.done)).sum
def CS {X:List Nat}:∀ {t:Nat} {a b:Nat},X[t]?= some a->(X.set t b).sum+a=X.sum+b:=by
 induction X with
 | nil=>intro t a b h;cases h
 | cons y X ih=>
  intro t a b h;cases t with
  | zero=>
   have:y=a:=aq h
   subst this;simp only [sy,pO];omega
  | succ t=>
   have:=ih (t:=t) (a:=a) (b:=b) (aq h);simp only [List.set_cons_succ,pO];omega
def Uh {X:List ed} {t:Nat} {x y:ed} (h:X[t]?= some x):lM (X.set t y)+x.done=lM X+y.done:=by
 unfold lM;rw [pH];exact CS (by rw [dN,h];rfl)
def EF (x:ed) (m:uk):(xh x m).done=x.done+(if m.done=true then 1 else 0):=by
 unfold Wor.xh;split <;> rfl
def Kq {N K:Nat} {s:Wor.fD} (gi:GI N K s.1 s.2.1) (l:List Int):∀ k,k<=l.length->N+k<=100000000->K+k<=1099511627776->(ff s l k).2.2.countP (·.done)+lM s.2.1=s.2.2.countP (·.done)+lM (ff s l k).2.1
 | 0,_,_,_=>rfl
 | k+1,hk,hN,hK=>by
  have ih:=Kq gi l k aw aw aw;have g:=C5 gi l k aw aw aw;rw [A3 (dK aw)];rcases kV g l[k] aw aw with ⟨ha,e⟩ | ⟨t,x,o,r,hat,hx,ho,hsu,htm,hst,_,e,_⟩
  ·rw [e];exact ih
  ·rw [e];dsimp only;obtain ⟨v,g',e',su⟩:=kD hsu;have tl:=PN su.done hst;have d:=Uh (y:=xh x r.2.1) hx;rw [EF] at d;have q:(AG r.2.2 x).done=r.2.1.done:=tl.1;rw [tp,sO,q];omega
def RL {X:List ed} (h1:∀ x ∈ X,x.done<=x.ops.length) (h2:lM X=(X.map (·.ops.length)).sum):qw X X.length=[]:=by
 have key:∀ (X:List ed),(∀ x ∈ X,x.done<=x.ops.length)->lM X<=(X.map (·.ops.length)).sum∧(lM X=(X.map (·.ops.length)).sum->∀ x ∈ X,x.done=x.ops.length):=by
  intro X
  induction X with
  | nil=>intro _;exact ⟨dU _,fun _ x hx=>nomatch hx⟩
  | cons y X ih=>
   intro h;obtain ⟨i1,i2⟩:=ih fun x hx=>h x (g9 _ hx)
   have hy:=h y (px ..);unfold lM at i1 i2 ⊢;simp only [pE,pO];refine ⟨aw,fun e x hx=>?_⟩;rcases rj.1 hx with rfl | hx
   ·omega
   ·exact i2 aw x hx
 refine rS.2 fun t ht=>?_
 obtain ⟨_,x,hx,uj⟩:=wJ.1 ht;have:=(key X h1).2 h2 x (dM hx);omega
def lj (s:ez) (l:List Int):ez:=⟨s.first,s.threads,s.zV++l⟩
def O7 {s:ez} {l:List Int} (h:(qu s).2=0) (h2:(qu (lj s l)).2=0):qu (lj s l)=qu s:=by
 obtain ⟨q,e⟩:=xc h;obtain ⟨q2,e2⟩:=xc h2;unfold qu;rw [dO q,dO q2]
 rfl
def R4 {s:ez} {l:List Int} (ok:wI s) (h:(qp s).2.2=0) (h2:(qp (lj s l)).2.2=0) (hd:(qp s).1.countP (·.done)=(s.threads.map List.length).sum):qp (lj s l)=qp s:=by
 have hb:=CL h;have hb2:=CL h2;have eb:=O7 hb hb2;have e1:qp s=((va s).2.2,(va s).1,0):=by unfold qp;rw [dO hb]
 have e2:qp (lj s l)=((va (lj s l)).2.2,(va (lj s l)).1,0):=by unfold qp;rw [dO hb2]
 rw [e1] at hd;dsimp only at hd;have gi:=CF ok hb;obtain ⟨q,_⟩:=xc hb;obtain ⟨_,_,_,p4,_,_⟩:=yu q;have d:=Kq gi s.zV s.zV.length (dU _) aw aw;have g:=BI ok hb s.zV.length (dU _);have ao:=FM ok hb s.zV.length (dU _)
 have z:lM (fp s).2.1=0:=by
  show ((s.threads.map fW).map (·.done)).sum=0;rw [pT];exact GC s.threads
 have al:qw (va s).2.1 (va s).2.1.length=[]:=by
  refine RL (fun x hx=>?_) ?_
  ·obtain ⟨i,hi⟩:=gh.1 hx;exact (Kc g hi).2
  ·have a:((va s).2.1.map (·.ops.length)).sum=(s.threads.map List.length).sum:=by
    rw [<- ao,pT]
    rfl
   have d':(va s).2.2.countP (·.done)+lM (fp s).2.1=(fp s).2.2.countP (·.done)+lM (va s).2.1:=d;have z2:(fp s).2.2.countP (·.done)=0:=rfl;omega
 have e3:va (lj s l)=va s:=by
  have e0:fp (lj s l)=fp s:=by unfold fp;rw [eb];rfl
  have f:va (lj s l)=l.foldl yW (va s):=by
   unfold va;rw [e0];unfold ff;show ((s.zV++l).take (s.zV++l).length).foldl yW _=_;rw [gK,rF,gK]
  rw [f,Jd al]
 rw [e2,e1,e3]
def T2 {s:ez} {l:List Int} (ok:wI s) (hl:l.length<=100000) (hp:∀ p ∈ l,i64 p) (h5:s.zV.length<=5000):wI (lj s l):=
 ⟨⟨ok.wk.first,ok.wk.threads,ok.wk.ops,by show (s.zV++l).length < _;rw [gN];omega⟩,ok.cfg,ok.Gk,ok.names,ok.ops,fun p h=>by
  rcases gD.1 h with h | h
  ·exact ok.zV p h
  ·exact hp p h⟩
def GN:C->C
 | .agg cs=>.agg (cs.map eK)
 | c=>c
def Vj {E:Env} {c:C} {y:Value} (h:L E c y):L E (GN c) y:=by
 cases h with
 | agg cs ys h1 h2 h3=>
  have:=LL.ur (f:=eK) (E':=E) (cs:=cs) (ys:=ys.toList) ⟨aq h1,fun i c y e1 e2=>h2 i c y e1 uY⟩ (fun c y hl=>mU hl);exact df
 | v x hx=>exact .v _ hx
 | ui o sz rows b off cap us ho hc hsz hst hL=>exact .ui o sz rows b off cap us ho hc hsz hst hL
 | xf o sz ho a=>exact .xf o sz ho a
 | jH cells b off us hst hL=>exact .jH cells b off us hst hL
 | ref id hops sz i j hn=>exact .ref id hops sz i j hn
 | sl id hops sz lo len full cap hn hlen hf hf'=>exact .sl id hops sz lo len full cap hn hlen hf hf'
 | fn f first caps ys zs h1 h2 h3 h4=>exact .fn f first caps ys zs h1 h2 h3 h4
 | mp id hn=>exact .mp id hn
 | uo cs ys h1 h2=>exact .uo cs ys h1 h2
 | un=>exact .un
 | za y=>exact .za y
 | gl id sz rows y hn hg h=>exact .gl id sz rows y hn hg h
 | eM t c y h=>exact .eM t c y h
def U8 {P:Program} {f:FuncId} {H H':zl} {args:List C} {r:C} (h:zb P f H (args.map GN) r H'):zb P f H args r H':=fun w E vs hh hl=>
 h w E vs hh (LL.ur hl fun c y h=>Vj h)
def S0 {s:ez} (ok:wI s):(qp s).1.length<=4000:=by
 by_cases hz:(qp s).2.2=0
 ·exact (Jg ok (CL hz) (n:=s.zV.length) (dU _)).2.2.2.2.2.2
 ·rw [(R8 hz).1];exact gu _
def Ry {s:ez} (ok:wI s) (hz:(qp s).2.2=0):jD (qp s).2.1∧fZ 5000 (qp s).2.1:=by
 have f:=Jg ok (CL hz) (n:=s.zV.length) (dU _);have e:iu s s.zV.length=s:=by unfold iu;rw [gK]
 rw [e] at f;exact ⟨f.2.2.2.1,f.2.2.2.2.1⟩
def Tk {w:Wor} (h:jD w) (t:fZ 5000 w):GL w:=by
 have g:=qa.1 h.ground
 have fE:∀ v ∈ w.ze,v.zm.length<=4∧∀ g ∈ v.zm,g.ends.length<=4∧1<=g.ends.length∧∀ e ∈ g.ends,Slp.u5 e=true∧e.next.length<=4∧1<=e.next.length:=fun v hv=>by
  obtain ⟨i,hi⟩:=gh.1 hv;exact (h.eu i v hi).1.fE
 refine ⟨⟨by have:=g.pins;omega,by have:=t.fX;omega,by have:=t.uz;omega,bT,by have:=t.fH;omega,fun v hv=>?_,fun v hv=>⟨by have:=(fE v hv).1;omega,fun g hg=>by have:=((fE v hv).2 g hg).1;omega⟩⟩,fun v hv=>?_,fun v hv g hg e he=>((t.fA v hv).2 g hg).2 e he,fun r hr=>by have:=g.counts.2 r hr;omega⟩
 ·have q:=(t.fA v hv).1;exact ⟨by have:=q.zd.1;omega,by have:=q.rules.1;omega,by have:=q.zk.1;omega⟩
 ·have q:=(t.fA v hv).1;exact ⟨by have:=q.zd.1;omega,by have:=q.rules.1;omega,by have:=q.zk.1;omega,fun x hx=>(q.zk.2 x hx).2⟩
def Nd {l:List uv} (h:(Cal.fI l).2=0):(Cal.fI l).1.countP (fun c=>decide (0<=c.fj))=l.countP (·.done)∧(Cal.fI l).1.length<=l.length:=by
 unfold Cal.fI at h ⊢;cases hb:Cal.vh l l.length with
 | none=>rw [hb] at h;cases h
 | some b=>
  obtain ⟨h1,h2,h3⟩:=Cal.EM l hb;refine ⟨?_,(Cal.Fh hb).2⟩;rw [gK] at h3;exact h3
def more_sound (s:ez) (more:List Int) (hs:s.my) (hm:∀ p ∈ more,i64 p):tn 4 [] [.agg (qy s),lI more] (Bo true) []:=by
 have m1:(s.zV.map Go.Hy.encI).length=s.zV.length:=dP ..;have m2:(more.map Go.Hy.encI).length=more.length:=dP ..;have m3:(s.threads.map yj).length=s.threads.length:=dP ..;refine ab func4 ?_;refine ah (Ol s (KT hs)) ?_;refine ⟨fun h0=>?_,fun h0=>?_⟩
 ·refine dd ?_;refine tc ?_
  exact uI
 have ok:=U6 h0 hs;refine dd ?_;rw [m1];refine ⟨fun h1=>?_,fun h1=>?_⟩
 ·refine dd ?_;refine tc ?_
  exact uI
 have b1:s.zV.length<=1000:=bZ
 refine dd ?_;rw [m2];refine ⟨fun h2=>?_,fun h2=>?_⟩
 ·refine dd ?_;refine tc ?_
  exact uI
 have b2:more.length<=100:=aX
 refine dd ?_;have bl:=S0 ok;obtain ⟨_,t1,_,t2⟩:=I1 h0;refine ah (Cd s ok) ?_;refine ah (Cal.JO (qp s).1 aw) ?_;have okm:=T2 ok (l:=more) aw hm aw;have hp2:=Cd (lj s more) okm;have key:=R4 (l:=more) ok;have jl:=Ry ok;have cnt:=Nd (l:=(qp s).1);generalize qp (lj s more)=q at *;generalize qp s=p at *;obtain ⟨l,w,e⟩:=p;dsimp only at *;generalize Cal.fI l=oc at *;obtain ⟨cs,f⟩:=oc;dsimp only at *;have ml:(l.map zR).length=l.length:=dP ..;have mc:(cs.map jS).length=cs.length:=dP ..;refine ⟨fun h3=>?_,fun h3=>?_⟩
 ·refine dd ?_;refine tc ?_
  refine ah yY ?_;refine tc ?_;exact uI
 have e0:e=0:=aq h3
 subst e0;refine dd ?_;refine ⟨fun h4=>?_,fun h4=>?_⟩
 ·refine dd ?_;refine tc ?_
  refine ah yY ?_;refine tc ?_;exact uI
 have f0:f=0:=aq h4
 subst f0;refine dd ?_;refine z5.seq s.threads.length (fun k=>(.agg (qy s)::lI more:: .ref 0 [] 5 0 0:: .za::Bo false::fR l:: .ref 1 [] 8 0 0::I 0::AJ cs::I 0::I (((s.threads.take k).map List.length).sum:Nat)::I k:: .za::.za::.za::.za::.za::.za::.za::tZ (tZ (tZ (tZ (tZ (tZ (tZ (tZ (tZ (tZ (tZ (tZ ([])))))))))))))) (fun k=>[⟨1,30,5,[qy s],0⟩,⟨1,37,8,[zJ w],0⟩]) (fun k=>True) ?_ trivial (fun k hk hr=>?_) (fun hr=>?_)
 ·exact cC
 ·obtain ⟨v,hx⟩:∃ v,v=s.threads[k]:=⟨_,rfl⟩;have hg:(s.threads.map yj)[k]?= some (yj v):=by rw [dN,dK hk,hx];rfl
  have mg:(v.map y8).length=v.length:=dP ..;have hv:v.length<=40:=(t2 v tE).1;have hs1:=CJ List.length s.threads hk;rw [<- hx] at hs1;have hb:=kE List.length 40 (s.threads.take k) fun x hx=>(t2 x (pL hx)).1
  have hl:(s.threads.take k).length<=20:=aA
  conv=>whnf
  rw [m3];refine uF ?_;(refine td hg ?_)
  rw [mg];refine .inl ⟨rfl,?_,trivial⟩;rw [zu aw,qZ aw aw,hs1,Int.natCast_add];exact cC
 have hT:(s.threads.take s.threads.length).map List.length=s.threads.map List.length:=by rw [gK]
 have hb:=kE List.length 40 s.threads fun x hx=>(t2 x hx).1
 obtain ⟨T,hTe⟩:∃ T,T=(s.threads.map List.length).sum:=⟨_,rfl⟩;have hT2:T<=800:=aw
 obtain ⟨n1,n2⟩:=cnt rfl;conv=>whnf
 rw [m3,hT,<- hTe];refine ⟨fun h=>absurd h aj,fun _=>dd ?_⟩;refine ⟨aj,uH ?_⟩;refine z5.seq cs.length (fun k=>(.agg (qy s)::lI more:: .ref 0 [] 5 0 0:: .za::Bo false::fR l:: .ref 1 [] 8 0 0::I 0::AJ cs::I 0::I ((T:Int) - (((cs.take k).countP (fun c=>decide (0<=c.fj)):Nat):Int)):: .za::I k:: .za::.za::.za::.za::.za::.za::tZ (tZ (tZ (tZ (tZ (tZ (tZ (tZ (tZ (tZ (tZ (tZ ([])))))))))))))) (fun k=>[⟨1,30,5,[qy s],0⟩,⟨1,37,8,[zJ w],0⟩]) (fun k=>True) ?_ trivial (fun k hk hr=>?_) (fun hr=>?_)
 ·exact cC
 ·obtain ⟨c,hx⟩:∃ c,c=cs[k]:=⟨_,rfl⟩;have hg:(cs.map jS)[k]?= some (jS c):=by rw [dN,dK hk,hx];rfl
  have e1:(cs.take (k+1)).countP (fun c=>decide (0<=c.fj))=(cs.take k).countP (fun c=>decide (0<=c.fj))+if decide (0<=c.fj)=true then 1 else 0:=by
   rw [pq hk,tp,sO,hx]
  have e2:(cs.take k).countP (fun c=>decide (0<=c.fj))<=k:=gQ List.countP_le_length aA;conv=>whnf
  rw [mc];refine uF ?_;(refine td hg ?_)
  refine ⟨fun h5=>?_,fun h5=>?_⟩
  ·rw [dO (aq h5)] at e1;refine dd ?_;refine .inl ⟨rfl,?_,trivial⟩;rw [zu aw,qZ aw aw,e1,show (T:Int) - ((cs.take k).countP (fun c=>decide (0<=c.fj)):Nat) - 1=(T:Int) - ((cs.take k).countP (fun c=>decide (0<=c.fj))+1:Nat) from aw];exact cC
  ·rw [dL (aq h5)] at e1;refine dd ?_;refine .inl ⟨rfl,?_,trivial⟩;rw [zu aw,e1,rB];exact cC
 conv=>whnf
 rw [mc,gK,n1];refine ⟨fun h=>absurd h aj,fun _=>dd ?_⟩;refine ⟨aj,uH ?_⟩;refine .inl ⟨.inl rfl,.inr rfl,by rw [m1];simp [maxLen];omega,by rw [m1];show _ * 8<=_;simp;omega,dd ?_⟩;refine ⟨rfl,.inr rfl,by rw [sx,m1,m2];simp [maxLen];omega,by rw [sx,m1,m2];show _ * 8<=_;omega,dd ?_⟩;have em:[]++s.zV.map Go.Hy.encI++more.map Go.Hy.encI=(s.zV++more).map Go.Hy.encI:=by rw [sx,pw]
 rw [em];refine ⟨_,_,U8 (show zb _ _ _ _ _ _ from hp2.frame rfl _),dd ?_⟩;refine ⟨fun h6=>?_,fun h6=>?_⟩
 ·refine dd ?_;refine tc ?_
  refine ah yY ?_;refine tc ?_;exact uI
 refine dd ?_;refine ⟨fun h7=>?_,fun h7=>?_⟩
 ·refine dd ?_;refine tc ?_
  refine ah yY ?_;refine tc ?_;exact uI
 have q0:q.2.2=0:=aq h7
 have hd:l.countP (·.done)=T:=by
  have h6:=pn (p:=(T:Int) - (l.countP (·.done):Nat)=0) (aq h6);omega
 obtain rfl:=key rfl q0 (hd.trans hTe);refine dd ?_;refine ah yY ?_;refine ⟨fun _=>dd ?_,fun h=>absurd h aj⟩;refine ah (NW l aw) ?_;refine ⟨fun _=>dd ?_,fun h=>absurd h aj⟩;obtain ⟨gw,tw⟩:=jl rfl;refine ah (UC w (Tk gw tw)) ?_;refine tc ?_
 exact uI
end Go.Run
