import Derived.Test.YtoeaoedlpmohoaaGreatTO
import Derived.Test.YtoeaoedlpmohoaaGreatTK
import Derived.Test.YtoeaoedlpmohoaaGreatT9
import Derived.Test.YtoeaoedlpmohoaaGreatTZ
import Derived.Test.YtoeaoedlpmohoaaGreatT0
set_option linter.all false
set_option maxRecDepth 100000
set_option maxHeartbeats 4000000
namespace Go.Hy
open Go.Ab Go.Proofs Tryz
def fJ.ot(o:fJ):Prop:=o.ok/\i64 o.d0/\i64 o.d1
def WL:qx prog 57 i7 fJ.ot:=
 qx.map (qx.struct underlying57 au (jj.cons J (qx.int underlying3) (jj.cons J (kZ) (jj.cons J (kZ) (jj.cons J (kZ) (jj.cons J (qx.int underlying3) (jj.cons J (qx.int underlying3) (jj.cons J (qx.int underlying3) (jj.cons J NG (jj.nil _)))))))))) (λx=>⟨x.1,x.2.1,x.2.2.1,x.2.2.2.1,x.2.2.2.2.1,x.2.2.2.2.2.1,x.2.2.2.2.2.2.1,x.2.2.2.2.2.2.2.1⟩) λx h=>⟨⟨⟨h.2.1,h.2.2.1,h.2.2.2.1,h.2.2.2.2.2.2.2.1⟩,wf_i64 h.2.2.2.2.1,wf_i64 h.2.2.2.2.2.1⟩,by simp[i7]⟩
def Yu:qx prog 58 (λl:List fJ=>[lP l]) (λl=>(∀x∈l,x.ot)/\l.length*152<=reachBytes):=
 qx.slice (sz:=10) (by_:=152) underlying58 au au ar (λ_=>J) WL
def UW:qx prog 27 (λl:List (List fJ)=>[Dt l]) (λl=>(∀x∈l,(∀o∈x,o.ot)/\x.length*152<=reachBytes)/\l.length*24<=reachBytes):=
 qx.slice (sz:=1) (by_:=24) underlying27 au au ar (λ_=>J) Yu
def fR.ot(s:fR):Prop:=s.first.ok/\((∀x∈s.threads,(∀o∈x,o.ot)/\x.length*152<=reachBytes)/\s.threads.length*24<=reachBytes)/\(∀p∈s.zQ,i64 p)/\s.zQ.length*8<=reachBytes
def WM:qx prog 30 wi fR.ot:=
 qx.map (qx.struct underlying30 au (jj.cons J NG (jj.cons J UW (jj.cons J Z1 (jj.nil _))))) (λx=>⟨x.1,x.2.1,x.2.2.1⟩) λx h=>⟨⟨h.1,h.2.1,λp hp=>wf_i64 (h.2.2.1.1 p hp),h.2.2.1.2⟩,by simp[wi]⟩
def arg_ScrI:I4 prog 30 (λx=>.agg (wi x)) fR.ot:=qx.U9 underlying30 WM
end Go.Hy
namespace Go.Wor
open Go.Ab Go.Proofs Tryz Go.Hy Go.Gat Go.Nam Go.Hos Go.Con Go.Sna
structure Wk(w:Wor):Prop where
 pins:w.pins.length<4000000000000000000
 zd:w.zd.length<4000000000000000000
 ze:w.ze.length<4000000000000000000
 counts:w.counts.length<4000000000000000000
 zp:w.zp.length<4000000000000000000
 zy4:∀v∈w.zd,v.snap.ze.length<4000000000000000000/\v.snap.rules.length<4000000000000000000/\v.snap.zn.length<4000000000000000000
 zo:∀v∈w.zd,v.zo.length<4000000000000000000/\∀g∈v.zo,g.ends.length<4000000000000000000
structure Qn(s:Sna):Prop where
 ze:s.ze.length<4000000000000000000
 rules:s.rules.length<4000000000000000000
 zn:s.zn.length<4000000000000000000
 zR:∀x∈s.zn,x.zR.length<4000000000000000000
structure WkW(w:Wor):Prop where
 wk:Wk w
 zy4:∀v∈w.zd,Qn v.snap
 ends : ∀v∈w.zd, ∀g∈v.zo, ∀e∈g.ends, e.ok
 counts:∀r∈w.counts,r.length<4000000000000000000
end Go.Wor
namespace Go.Run
open Go.Ab Go.Proofs Tryz Go.Gat Go.Nam Go.Hos Go.Con Go.Sna Go.Pla Go.Ply Go.Wor
open Go.Hy hiding encI
def P5:(qM y6).2=0:=by kernel_rfl
abbrev wB:Wor:=(qM y6).1
def hP:tj 13 [] [.agg (Qb (lI (JT 60)))] (.fq [iK (zY y6).1,.agg (vC (zY y6).2.1),I (zY y6).2.2]) []:=
 Go.Dep.zb.J2 9 (Fg y6 CH) au au
def hE:tj 13 [] [.agg [.fh 1 0 [],.fh 1 0 [],.fh 1 0 [],.fh 1 0 [],.fh 1 0 []]] (.fq [iK (zY Dz).1,.agg (vC (zY Dz).2.1),I (zY Dz).2.2]) []:=
 Go.Dep.zb.J2 9 (Fg Dz QB) au au
def hB:tj 30 [] [.agg (Qb (lI (JT 60)))] (.fq [.agg (vC wB),I 0]) []:=by
 have h:=KP y6 CH.wk CH.cfg CH.P6 λ_ x hx=>by have:=CH.names x hx;unfold reachBytes at this;omega
 have h0:=P5;have e:qM y6=(wB,0):=by rw[<-h0]
 rw[e]at h;exact Go.Dep.zb.J2 9 h au au
def hH:tj 26 [] [.agg (vC (zY y6).2.1)] (I (0:Nat)) []:=by
 have gi:=Es CH P5 60 (sO au);have e:(iv (iH y6) y6.zQ 60).1=(zY y6).2.1:=au
 have e0:nR (zY y6).2.1=0:=au
 have st:=gi.st;rw[e]at st;have h:=LU (zY y6).2.1 (Jh st.ji st.ty ar);rw[e0]at h;exact h
def Fz{c:ia}(h:lQ c=false)(ok:c.ok):wV c:=by
 unfold lQ at h;simp only[pQ,pK,ez]at h;obtain⟨⟨⟨⟨h1,h2⟩,h3⟩,h4⟩,h5⟩:=h;obtain⟨⟨a1,_⟩,⟨a2,_⟩,⟨a3,_⟩⟩:=ok;refine⟨⟨aw,λs hs=>?_⟩,⟨aw,λr hr=>?_⟩,⟨aw,λx hx=>?_⟩⟩
 ·have:=a1 s hs;unfold GF reachBytes at this;omega
 ·have q:=pC.1 h5 r hr;unfold Ar at q;simp only[pX,gH,not_or,ez]at q;have:=a2 r hr;unfold nJ.ok reachBytes at this;omega
 ·have q:=pC.1 h4 x hx;unfold An at q;simp only[pX,gH,not_or,ez]at q;omega
def Vc{s:fR}(h:nC s=false):lQ s.first=false/\s.threads.length<=20/\s.zQ.length<=5000/\∀l∈s.threads,l.length<=40/\∀o∈l,lQ o.config=false/\o.host.length<=100/\o.path.length<=100:=by
 unfold nC at h;simp only[pQ,pK,ez]at h;obtain⟨⟨⟨h1,h2⟩,h3⟩,h4⟩:=h;refine⟨h1,h2,h3,λl hl=>?_⟩;have q:=pC.1 h4 l hl;unfold AM at q;simp only[pX,gH,not_or,ez]at q;refine⟨q.1,λo ho=>?_⟩;have q2:Aq o=false:=pC.1 (aq q.2) o ho |> λz=>by simpa using z
 unfold Aq at q2;simp only[pQ,pK,ez]at q2;exact q2
def JL{s:fR}(ok:s.ot):KB s:=by
 obtain⟨⟨⟨_,b1⟩,⟨_,b2⟩,⟨_,b3⟩⟩,⟨b4,b5⟩,_,_⟩:=ok;unfold reachBytes at b1 b2 b3 b5;refine⟨⟨aw,aw,aw⟩,aw,λl hl=>?_,λl hl o ho=>?_⟩
 ·have:=(b4 l hl).2;unfold reachBytes at this;omega
 ·obtain⟨⟨_,_,_,⟨⟨_,c1⟩,⟨_,c2⟩,⟨_,c3⟩⟩⟩,_⟩:=(b4 l hl).1 o ho;unfold reachBytes at c1 c2 c3;exact⟨aw,aw,aw⟩
def Wj{out:List ft}{n x:ft}(h:x∈vY out n):x∈out\/x=n:=by
 unfold vY at h;split at h
 ·exact .inl h
 ·simpa using h
def FJ{α:Type}{f:List ft->α->List ft}{P:ft->Prop}:∀(l:List α) (out:List ft),(∀y∈l,∀o x,(∀z∈o,P z)->x∈f o y->P x)->(∀z∈out,P z)->∀x∈l.foldl f out,P x
 |[],_,_,h,x,hx=>h x hx
 |y::l,out,hf,h,x,hx=>FJ l (f out y) (λy hy=>hf y (pP _ hy)) (λz hz=>hf y (pT ..) out z h hz) x hx
def SH{s:fR}(ok:s.ot):∀x∈yk s,x.length<=reachBytes:=by
 have cfg:∀(c:ia) (out:List ft),c.ok->(∀z∈out,z.length<=reachBytes)->∀x∈wW out c,x.length<=reachBytes:=λc out hc ho=>
  FJ c.ze out (λy hy o x hz hx=>by
   rcases Wj hx with h|rfl
   ·exact hz x h
   ·exact hc.1.1 _ hy) ho
 refine FJ s.threads _ (λl hl o x hz hx=>?_) (cfg s.first [] ok.1 aj);refine FJ l o (λp hp o x hz hx=>?_) hz x hx;unfold lW at hx;split at hx
 ·exact cfg p.config o ((ok.2.1.1 l hl).1 p hp).1.2.2.2 hz x hx
 ·exact hz x hx
def Pn{s:fR}(h:nC s=false)(ok:s.ot):np s:=by
 obtain⟨h1,h2,h3,h4⟩:=Vc h;have w:=JL ok;refine⟨⟨(Fz h1 ok.1).k,w.threads,w.ops,aw⟩,λ_=>Fz h1 ok.1,λl hl o ho=>(Fz ((h4 l hl).2 o ho).1 ((ok.2.1.1 l hl).1 o ho).1.2.2.2).k,SH ok,λl hl o ho=>?_,ok.2.2.1⟩;have a:=(h4 l hl).2 o ho;have b:=(ok.2.1.1 l hl).1 o ho;exact⟨aw,aw,b.2.1,b.2.2,λ_=>(Fz a.1 b.1.2.2.2).k⟩
def lX(s:fR)(n:Nat):fR:=⟨s.first,s.threads,s.zQ.take n⟩
def Y3{s:fR}(n:Nat)(h:lh s=true):lh (lX s n)=true:=by
 unfold lh at h ⊢;simp only[gA,gH,pJ]at h ⊢;obtain⟨⟨⟨⟨⟨h1,h2⟩,h3⟩,h4⟩,h5⟩,h6⟩:=h;refine⟨⟨⟨⟨⟨h1,h2⟩,h3⟩,?_⟩,h5⟩,?_⟩
 ·show(s.zQ.take n).length<=4000;simp;omega
 ·rw[pC]at h6 ⊢
  exactλx hx=>h6 x (rB hx)
def MI{s:fR}(n:Nat)(h:(qM s).2=0):qM (lX s n)=qM s:=by
 obtain⟨q,e⟩:=xj h;have q2:=Y3 n q;unfold qM;rw[gh q,gh q2]
 rfl
def zxC{s:fR}{n:Nat}(h:(qM s).2=0)(hn:n<=s.zQ.length):xe (lX s n)=iv (iH s) s.zQ n:=by
 have e:iH (lX s n)=iH s:=by unfold iH;rw[MI n h];rfl
 unfold xe;rw[e];unfold iv;show((s.zQ.take n).take (s.zQ.take n).length).foldl yw _=_;rw[gZ]
def X6(s:Wor.iu)(p:Int):s.2.2 <+:(yw s p).2.2:=by
 unfold yw;split
 ·unfold Hk;split
  ·split
   ·split
    ·exact List.prefix_append _ _
    ·exact tz _
   ·exact tz _
  ·exact tz _
 ·exact tz _
def N7:∀(l:List Int) (s:Wor.iu),s.2.2 <+:(l.foldl yw s).2.2
 |[],s=>tz _
 |p::l,s=>(X6 s p).trans (N7 l (yw s p))
def NA{s:Wor.iu}{l:List Int}{n m:Nat}(h:n<=m):iv s l m=((l.take m).drop n).foldl yw (iv s l n):=by
 unfold iv;rw[<-sN]
 congr 1
 have:l.take n=(l.take m).take n:=by rw[List.take_take];congr 1;omega
 rw[this,rX]
def zxD{s:Wor.iu}{l:List Int}{n m:Nat}(h:n<=m):(iv s l n).2.2 <+:(iv s l m).2.2:=by
 rw[NA h];exact N7 _ _
def Ju{N K:Nat}{s:Wor.iu}(gi:GI N K s.1 s.2.1)(l:List Int):∀k,k<=l.length->N+k<=100000000->K+k<=1099511627776->(iv s l k).2.2.length<=s.2.2.length+k/\((iv s l k).2.2.length=s.2.2.length+k\/qJ (iv s l k).2.1 (iv s l k).2.1.length=[])
 |0,_,_,_=>⟨gC _,.inl J⟩
 |k+1,hk,hN,hK=>by
  obtain⟨i1,i2⟩:=Ju gi l k aw aw aw;have g:=AB gi l k aw aw aw;rw[y8 (dX aw)];rcases xi g l[k] aw aw with⟨ha,e⟩|⟨t,x,o,r,hat,_,_,_,_,_,_,e,_⟩
  ·rw[e];exact⟨aw,.inr ha⟩
  ·rcases i2 with i2|ha
   ·rw[e];have z:((iv s l k).2.2++[nW r.2.2 x]).length=s.2.2.length+(k+1):=by rw[pj,i2];rfl
    exact⟨sO z,.inl z⟩
   ·rw[ha]at hat;exact nomatch hat
def MZ{s:fR}(ok:np s)(h:(qM s).2=0){n:Nat}(hn:n<=s.zQ.length):
  (zY (lX s n)).2.2=0/\(zY (lX s n)).1.length<=(zY s).1.length/\(zY s).1.take (zY (lX s n)).1.length=(zY (lX s n)).1/\jK (zY (lX s n)).2.1/\mw 5000 (zY (lX s n)).2.1/\
   ((zY (lX s n)).1.length=n\/(zY (lX s n)).1.length=(zY s).1.length)/\(zY s).1.length<=4000:=by
 have hb:(qM (lX s n)).2=0:=by rw[MI n h];exact h
 have e1:zY (lX s n)=((iv (iH s) s.zQ n).2.2,(iv (iH s) s.zQ n).1,0):=by
  unfold zY;rw[gh hb,zxC h hn]
 have e2:zY s=((iv (iH s) s.zQ s.zQ.length).2.2,(iv (iH s) s.zQ s.zQ.length).1,0):=by
  unfold zY;rw[gh h]
  rfl
 rw[e1,e2];dsimp only;have gi:=y9 ok h;obtain⟨q,_⟩:=xj h;obtain⟨_,_,_,p4,_,_⟩:=xE q;have pre:=zxD (s:=iH s) (l:=s.zQ) hn;have l1:=Ju gi s.zQ n hn aw aw;have l2:=Ju gi s.zQ s.zQ.length (gC _) aw aw;have z:(iH s).2.2.length=0:=rfl;have g:=(Es ok h n hn).mono (N':=5000) (K':=n) aw (gC _);refine⟨rfl,pre.length_le,(List.prefix_iff_eq_take.1 pre).symm,g.st.ji,g.st.ty,?_,aw⟩;rcases l1.2 with l|ha
 ·exact .inl aw
 ·refine .inr ?_;rw[NA hn,V6 ha]
def FD{s:fR}(h:(zY s).2.2≠0):(zY s).1=[]/\(qM s).2≠0:=by
 unfold zY at h ⊢;split at h
 ·exact absurd J h
 ·rename_i q;rw[dZ q];exact⟨rfl,q⟩
def DS{s:fR}(h:(zY s).2.2=0):(qM s).2=0:=by
 unfold zY at h;split at h
 ·assumption
 ·exact h
def kL(m:fi)(r:Wor×fi×fk):Prop:=r.2.2.done=r.2.1.done/\(r.2.1.done=true->r.2.2.answer=r.2.1.answer)/\r.2.2.zf=m.zf
def WB{w:Wor}{m:fi}{r:Wor×fi×fk}(hd:m.done=false)(h:Bw w m=some r):kL m r:=by
 unfold Bw at h;repeat' split at h
 all_goals (first|(cases h;done)|(obtain rfl:=gp h;unfold kL;(try dsimp only);first|exact⟨hd.symm,λq=>absurd (q.symm.trans hd) ar,rfl⟩|exact⟨rfl,λ_=>J,rfl⟩))
def Ly{w:Wor}{m:fi}{k p:Int}{r:Wor×fi×fk}(hd:m.done=false)(h:vH w m k p=some r):kL m r:=by
 unfold vH at h;repeat' split at h
 all_goals (first|(cases h;done)|(obtain rfl:=gp h;unfold kL;(try dsimp only);first|exact⟨hd.symm,λq=>absurd (q.symm.trans hd) ar,rfl⟩|exact⟨rfl,λ_=>J,rfl⟩))
def FC{w:Wor}{m:fi}{f:fI->Wor×fi×fk}{r:Wor×fi×fk}(h:iU w m f=some r)(hf:∀x,kL m (f x)):kL m r:=by
 unfold iU at h;split at h
 ·cases h
 ·obtain⟨x,_,rfl⟩:=gM.1 h;exact hf x
def vz{α:Type}{m:fi}{o:Option α}{f:α->Wor×fi×fk}{r:Wor×fi×fk}(h:o.map f=some r)(hf:∀x,kL m (f x)):kL m r:=by
 obtain⟨x,_,rfl⟩:=gM.1 h;exact hf x
def qF{m m':fi}{w:Wor}{e:fk}(h1:m'.done=false)(h2:e.done=false)(h3:e.zf=m.zf):kL m (w,m',e):=⟨h2.trans h1.symm,λq=>absurd (q.symm.trans h1) ar,h3⟩
def zD{α:Type}{c:Prop}[Decidable c]{a b x:α}(h:(if c then a else b)=x):a=x\/b=x:=by
 by_cases q:c
 ·rw[gh q]at h;exact .inl h
 ·rw[dZ q]at h;exact .inr h
def Sd{w:Wor}{m:fi}{v:fp}{g:Gr}{e:En}{r:Wor×fi×fk}(hd:m.done=false)(h:qj w m v g e=some r):kL m r:=by
 have rt:(xd m v).done=false:=by
  unfold xd;repeat' split
  all_goals exact hd
 unfold qj at h;rcases zD h with h|h
 ·exact WB hd h
 rcases zD h with h|h
 ·obtain rfl:=gp h;refine qF ?_ J J;unfold CD;split <;> exact hd
 rcases zD h with h|h
 ·exact FC h λx=>qF hd J J
 rcases zD h with h|h
 ·refine FC h λx=>?_
  refine qF ?_ ?_ ?_
  ·split
   ·exact hd
   ·exact rt
  ·split <;> rfl
  ·split <;> rfl
 rcases zD h with h|h
 ·exact vz h λx=>qF (by unfold Gb;exact hd) J J
 rcases zD h with h|h
 ·obtain rfl:=gp h;exact dp
 rcases zD h with h|h
 ·exact vz h λx=>qF hd J J
 rcases zD h with h|h
 ·obtain rfl:=gp h;refine qF ?_ J J;split <;> exact hd
 rcases zD h with h|h
 ·exact vz h λx=>qF hd J J
 rcases zD h with h|h
 ·split at h
  ·obtain rfl:=gp h;exact dp
  ·obtain rfl:=gp h;exact dp
 rcases zD h with h|h
 ·obtain rfl:=gp h;exact dp
 rcases zD h with h|h
 ·exact Ly hd h
 rcases zD h with h|h
 ·exact Ly hd h
 rcases zD h with h|h
 ·exact FC h λx=>qF hd J J
 rcases zD h with h|h
 ·obtain rfl:=gp h;exact dF
 ·cases h
def Sc{w:Wor}{m:fi}{v:fp}{g:Gr}{e:En}{r:Wor×fi×fk}(hd:m.done=false)(h:j9 w m v g e=some r):kL m r:=by
 unfold j9 at h;split at h
 ·obtain rfl:=gp h;exact dp
 split at h
 ·obtain rfl:=gp h;exact dp
 split at h
 ·split at h
  ·obtain rfl:=gp h;exact dp
  ·obtain rfl:=gp h;exact dp
 split at h
 ·obtain rfl:=gp h;exact dp
 split at h
 ·exact FC h λx=>⟨rfl,λ_=>J,rfl⟩
 split at h
 ·obtain rfl:=gp h;exact dF
 ·cases h
def UK{w:Wor}{m:fi}{r:Wor×fi×fk}(hd:m.done=false)(h:wy w m=some r):kL m r:=by
 unfold wy at h;split at h
 ·split at h
  ·obtain rfl:=gp h;exact qF (by unfold DE;exact hd) J J
  ·obtain rfl:=gp h;exact dF
 split at h
 ·obtain rfl:=gp h;exact dp
 split at h
 ·split at h
  ·cases h
  ·obtain rfl:=gp h;exact dF
 ·cases h
def S4{w:Wor}{m:fi}{r:Wor×fi×fk}(hd:m.done=false)(h:yX w m=some r):kL m r:=by
 unfold yX at h;split at h
 ·split at h
  ·obtain rfl:=gp h;exact dF
  ·exact vz h λx=>⟨rfl,λ_=>J,rfl⟩
 ·cases h
def Oa(w:Wor)(m:fi)(hd:m.done=false):kL m (iX w m):=by
 unfold iX;split
 ·exact dF
 ·refine qF ?_ ?_ ?_
  ·unfold BA;repeat' split
   all_goals exact hd
  ·unfold GL;rfl
  ·unfold GL;rfl
def RE{w:Wor}{m:fi}{r:Wor×fi×fk}(hd:m.done=false)(h:jY w m=some r):kL m r:=by
 unfold jY at h;rcases zD h with h|h
 ·obtain rfl:=gp h;split
  ·exact dp
  ·exact dF
 rcases zD h with h|h
 ·obtain rfl:=gp h;exact dp
 rcases zD h with h|h
 ·refine vz h λx=>qF ?_ J J
  unfold oY;repeat' split
  all_goals exact hd
 rcases zD h with h|h
 ·obtain rfl:=gp h;split
  ·exact dp
  ·exact dp
 rcases zD h with h|h
 ·obtain rfl:=gp h;split
  ·exact Oa w (iI m 8 0) hd
  ·refine qF ?_ J J;unfold Ax;repeat' split
   all_goals exact hd
 rcases zD h with h|h
 ·obtain⟨v,_,h⟩:=gO.1 h;refine vz h λx=>qF ?_ ?_ ?_
  ·unfold oq;repeat' split
   all_goals exact hd
  ·unfold EU;rfl
  ·unfold EU;rfl
 rcases zD h with h|h
 ·obtain⟨v,_,h⟩:=gO.1 h;obtain⟨x,_,h⟩:=gO.1 h;rcases zD h with h|h
  ·obtain rfl:=gp h;refine qF ?_ J J;unfold DC;exact hd
  ·cases h
 rcases zD h with h|h
 ·obtain rfl:=gp h;exact Oa w m hd
 rcases zD h with h|h
 ·refine vz h λx=>qF ?_ J J
  split <;> exact hd
 rcases zD h with h|h
 ·obtain⟨v,_,h⟩:=gO.1 h;rcases zD h with h|h
  ·obtain rfl:=gp h;exact dp
  ·cases h
 ·cases h
def S5{w:Wor}{m:fi}{r:Wor×fi×fk}(hd:m.done=false)(h:yF w m=some r):kL m r:=by
 unfold yF at h;split at h
 ·obtain⟨v,_,h⟩:=gO.1 h;refine vz h λx=>⟨rfl,λq=>?_,rfl⟩
  show(if (ju w m x).done then (ju w m x).answer else nh)=(ju w m x).answer;rw[gh q]
 ·cases h
def E9{w:Wor}{m:fi}{r:Wor×fi×fk}(hd:m.done=false)(h:vV w m=some r):kL m r:=by
 unfold vV at h;split at h
 ·cases h
 split at h
 ·cases h
 split at h
 ·cases h
 split at h
 ·exact Sd hd h
 split at h
 ·exact Sc hd h
 split at h
 ·exact UK hd h
 split at h
 ·exact S4 hd h
 split at h
 ·exact RE hd h
 split at h
 ·exact S5 hd h
 ·cases h
def Jd{X:List Nat}:∀{t:Nat} {a b:Nat},X[t]?=some a->(X.set t b).sum+a=X.sum+b:=by
 induction X with
 |nil=>intro t a b h;cases h
 |cons y X ih=>
  intro t a b h;cases t with
  |zero=>
   have:y=a:=aq h
   subst this;simp only[sb,ry];omega
  |succ t=>
   have:=ih (t:=t) (a:=a) (b:=b) (aq h);simp only[uh,ry];omega
def DQ(x:fB)(m:fi):(qn x m).done=x.done+(if m.done=true then 1 else 0):=by
 unfold Wor.qn;split <;> rfl
def Nf{s:fR}(ok:np s)(hz:(zY s).2.2=0):jK (zY s).2.1/\mw 5000 (zY s).2.1:=by
 have f:=MZ ok (DS hz) (n:=s.zQ.length) (gC _);have e:lX s s.zQ.length=s:=by unfold lX;rw[gZ]
 rw[e]at f;exact⟨f.2.2.2.1,f.2.2.2.2.1⟩
def LK{l:List fk}(h:(Cal.ib l).2=0):(Cal.ib l).1.countP (λc=>decide (0<=c.fY))=l.countP (·.done)/\(Cal.ib l).1.length<=l.length:=by
 unfold Cal.ib at h ⊢;cases hb:Cal.vA l l.length with
 |none=>rw[hb]at h;cases h
 |some b=>
  obtain⟨h1,h2,h3⟩:=Cal.Iw l hb;refine⟨?_,(Cal.FZ hb).2⟩;rw[gZ]at h3;exact h3
end Go.Run
