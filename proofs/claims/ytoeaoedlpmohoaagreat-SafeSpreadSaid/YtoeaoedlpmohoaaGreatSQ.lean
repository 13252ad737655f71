import Derived.Test.YtoeaoedlpmohoaaGreatSO
import Derived.Test.YtoeaoedlpmohoaaGreatSK
import Derived.Test.YtoeaoedlpmohoaaGreatS9
import Derived.Test.YtoeaoedlpmohoaaGreatSZ
import Derived.Test.YtoeaoedlpmohoaaGreatS0
set_option linter.all false
set_option maxRecDepth 100000
set_option maxHeartbeats 4000000
namespace Go.Hy
open Go.Ab Go.Proofs Tryz
def lX.Af(o:lX):Prop:=o.ok/\i64 o.d0/\i64 o.d1
def zvM:qH prog 57 wy lX.Af:=
 qH.map (qH.struct underlying57 au (jL.cons O (qH.int underlying3) (jL.cons O (ED) (jL.cons O (ED) (jL.cons O (ED) (jL.cons O (qH.int underlying3) (jL.cons O (qH.int underlying3) (jL.cons O (qH.int underlying3) (jL.cons O U1 (jL.nil _)))))))))) (λx=>⟨x.1,x.2.1,x.2.2.1,x.2.2.2.1,x.2.2.2.2.1,x.2.2.2.2.2.1,x.2.2.2.2.2.2.1,x.2.2.2.2.2.2.2.1⟩) λx h=>⟨⟨⟨h.2.1,h.2.2.1,h.2.2.2.1,h.2.2.2.2.2.2.2.1⟩,wf_i64 h.2.2.2.2.1,wf_i64 h.2.2.2.2.2.1⟩,by simp[wy]⟩
def zyl:qH prog 58 (λl:List lX=>[lP l]) (λl=>(∀x∈l,x.Af)/\l.length*152<=reachBytes):=
 qH.slice (sz:=10) (by_:=152) underlying58 au au ar (λ_=>O) zvM
def zsq:qH prog 27 (λl:List (List lX)=>[Ht l]) (λl=>(∀x∈l,(∀o∈x,o.Af)/\x.length*152<=reachBytes)/\l.length*24<=reachBytes):=
 qH.slice (sz:=1) (by_:=24) underlying27 au au ar (λ_=>O) zyl
def mb.Af(s:mb):Prop:=s.first.ok/\((∀x∈s.threads,(∀o∈x,o.Af)/\x.length*152<=reachBytes)/\s.threads.length*24<=reachBytes)/\(∀p∈s.zP,i64 p)/\s.zP.length*8<=reachBytes
def zvN:qH prog 30 yC mb.Af:=
 qH.map (qH.struct underlying30 au (jL.cons O U1 (jL.cons O zsq (jL.cons O XX (jL.nil _))))) (λx=>⟨x.1,x.2.1,x.2.2.1⟩) λx h=>⟨⟨h.1,h.2.1,λp hp=>wf_i64 (h.2.2.1.1 p hp),h.2.2.1.2⟩,by simp[yC]⟩
def arg_ScrI:Ou prog 30 (λx=>.agg (yC x)) mb.Af:=qH.zuo underlying30 zvN
end Go.Hy
namespace Go.Wor
open Go.Ab Go.Proofs Tryz Go.Hy Go.Gat Go.Nam Go.Hos Go.Con Go.Sna
structure Wk(w:Wor):Prop where
 pins:w.pins.length<4000000000000000000
 zd:w.zd.length<4000000000000000000
 zf:w.zf.length<4000000000000000000
 counts:w.counts.length<4000000000000000000
 zr:w.zr.length<4000000000000000000
 qn:∀v∈w.zd,v.snap.zf.length<4000000000000000000/\v.snap.rules.length<4000000000000000000/\v.snap.zm.length<4000000000000000000
 zp:∀v∈w.zd,v.zp.length<4000000000000000000/\∀g∈v.zp,g.ends.length<4000000000000000000
structure W4(s:Sna):Prop where
 zf:s.zf.length<4000000000000000000
 rules:s.rules.length<4000000000000000000
 zm:s.zm.length<4000000000000000000
 zE:∀x∈s.zm,x.zE.length<4000000000000000000
structure WkW(w:Wor):Prop where
 wk:Wk w
 qn:∀v∈w.zd,W4 v.snap
 ends : ∀v∈w.zd, ∀g∈v.zp, ∀e∈g.ends, e.ok
 counts:∀r∈w.counts,r.length<4000000000000000000
end Go.Wor
namespace Go.Run
open Go.Ab Go.Proofs Tryz Go.Gat Go.Nam Go.Hos Go.Con Go.Sna Go.Pla Go.Ply Go.Wor
open Go.Hy hiding encI
def Rp:(qT kh).2=0:=by kernel_rfl
abbrev wB:Wor:=(qT kh).1
def hP:tp 13 [] [.agg (Ri (lI (PJ 60)))] (.lK [na (zK kh).1,.agg (kY (zK kh).2.1),I (zK kh).2.2]) []:=
 Go.Dep.zc.AJ 9 (vb kh F0) au au
def hE:tp 13 [] [.agg [.lq 1 0 [],.lq 1 0 [],.lq 1 0 [],.lq 1 0 [],.lq 1 0 []]] (.lK [na (zK CG).1,.agg (kY (zK CG).2.1),I (zK CG).2.2]) []:=
 Go.Dep.zc.AJ 9 (vb CG Xm) au au
def hB:tp 30 [] [.agg (Ri (lI (PJ 60)))] (.lK [.agg (kY wB),I 0]) []:=by
 have h:=RE kh F0.wk F0.cfg F0.Rs λ_ x hx=>by have:=F0.names x hx;unfold reachBytes at this;omega
 have h0:=Rp;have e:qT kh=(wB,0):=by rw[<-h0]
 rw[e]at h;exact Go.Dep.zc.AJ 9 h au au
def hH:tp 26 [] [.agg (kY (zK kh).2.1)] (I (0:Nat)) []:=by
 have gi:=IX F0 Rp 60 (fq au);have e:(mY (nu kh) kh.zP 60).1=(zK kh).2.1:=au
 have e0:B0 (zK kh).2.1=0:=au
 have st:=gi.st;rw[e]at st;have h:=SA (zK kh).2.1 (KU st.jn st.ty ar);rw[e0]at h;exact h
def Gh{c:mL}(h:oR c=false)(ok:c.ok):yX c:=by
 unfold oR at h;simp only[rY,rL,fP]at h;obtain⟨⟨⟨⟨h1,h2⟩,h3⟩,h4⟩,h5⟩:=h;obtain⟨⟨a1,_⟩,⟨a2,_⟩,⟨a3,_⟩⟩:=ok;refine⟨⟨aw,λs hs=>?_⟩,⟨aw,λr hr=>?_⟩,⟨aw,λx hx=>?_⟩⟩
 ·have:=a1 s hs;unfold LQ reachBytes at this;omega
 ·have q:=rI.1 h5 r hr;unfold Dl at q;simp only[sB,pQ,not_or,fP]at q;have:=a2 r hr;unfold BQ.ok reachBytes at this;omega
 ·have q:=rI.1 h4 x hx;unfold CM at q;simp only[sB,pQ,not_or,fP]at q;omega
def TQ{s:mb}(h:Bn s=false):oR s.first=false/\s.threads.length<=20/\s.zP.length<=5000/\∀l∈s.threads,l.length<=40/\∀o∈l,oR o.config=false/\o.host.length<=100/\o.path.length<=100:=by
 unfold Bn at h;simp only[rY,rL,fP]at h;obtain⟨⟨⟨h1,h2⟩,h3⟩,h4⟩:=h;refine⟨h1,h2,h3,λl hl=>?_⟩;have q:=rI.1 h4 l hl;unfold DK at q;simp only[sB,pQ,not_or,fP]at q;refine⟨q.1,λo ho=>?_⟩;have q2:Di o=false:=rI.1 (aq q.2) o ho |> λz=>by simpa using z
 unfold Di at q2;simp only[rY,rL,fP]at q2;exact q2
def D6{s:mb}(ok:s.Af):Qg s:=by
 obtain⟨⟨⟨_,b1⟩,⟨_,b2⟩,⟨_,b3⟩⟩,⟨b4,b5⟩,_,_⟩:=ok;unfold reachBytes at b1 b2 b3 b5;refine⟨⟨aw,aw,aw⟩,aw,λl hl=>?_,λl hl o ho=>?_⟩
 ·have:=(b4 l hl).2;unfold reachBytes at this;omega
 ·obtain⟨⟨_,_,_,⟨⟨_,c1⟩,⟨_,c2⟩,⟨_,c3⟩⟩⟩,_⟩:=(b4 l hl).1 o ho;unfold reachBytes at c1 c2 c3;exact⟨aw,aw,aw⟩
def zwE{out:List lH}{n x:lH}(h:x∈ka out n):x∈out\/x=n:=by
 unfold ka at h;split at h
 ·exact .inl h
 ·simpa using h
def KK{α:Type}{f:List lH->α->List lH}{P:lH->Prop}:∀(l:List α) (out:List lH),(∀y∈l,∀o x,(∀z∈o,P z)->x∈f o y->P x)->(∀z∈out,P z)->∀x∈l.foldl f out,P x
 |[],_,_,h,x,hx=>h x hx
 |y::l,out,hf,h,x,hx=>KK l (f out y) (λy hy=>hf y (r8 _ hy)) (λz hz=>hf y (r7 ..) out z h hz) x hx
def zpH{s:mb}(ok:s.Af):∀x∈ye s,x.length<=reachBytes:=by
 have cfg:∀(c:mL) (out:List lH),c.ok->(∀z∈out,z.length<=reachBytes)->∀x∈nY out c,x.length<=reachBytes:=λc out hc ho=>
  KK c.zf out (λy hy o x hz hx=>by
   rcases zwE hx with h|rfl
   ·exact hz x h
   ·exact hc.1.1 _ hy) ho
 refine KK s.threads _ (λl hl o x hz hx=>?_) (cfg s.first [] ok.1 aj);refine KK l o (λp hp o x hz hx=>?_) hz x hx;unfold oQ at hx;split at hx
 ·exact cfg p.config o ((ok.2.1.1 l hl).1 p hp).1.2.2.2 hz x hx
 ·exact hz x hx
def Fz{s:mb}(h:Bn s=false)(ok:s.Af):kL s:=by
 obtain⟨h1,h2,h3,h4⟩:=TQ h;have w:=D6 ok;refine⟨⟨(Gh h1 ok.1).k,w.threads,w.ops,aw⟩,λ_=>Gh h1 ok.1,λl hl o ho=>(Gh ((h4 l hl).2 o ho).1 ((ok.2.1.1 l hl).1 o ho).1.2.2.2).k,zpH ok,λl hl o ho=>?_,ok.2.2.1⟩;have a:=(h4 l hl).2 o ho;have b:=(ok.2.1.1 l hl).1 o ho;exact⟨aw,aw,b.2.1,b.2.2,λ_=>(Gh a.1 b.1.2.2.2).k⟩
def Ai(s:mb)(n:Nat):mb:=⟨s.first,s.threads,s.zP.take n⟩
def Yi{s:mb}(n:Nat)(h:oN s=true):oN (Ai s n)=true:=by
 unfold oN at h ⊢;simp only[pG,pQ,rZ]at h ⊢;obtain⟨⟨⟨⟨⟨h1,h2⟩,h3⟩,h4⟩,h5⟩,h6⟩:=h;refine⟨⟨⟨⟨⟨h1,h2⟩,h3⟩,?_⟩,h5⟩,?_⟩
 ·show(s.zP.take n).length<=4000;simp;omega
 ·rw[rI]at h6 ⊢
  exactλx hx=>h6 x (sT hx)
def TP{s:mb}(n:Nat)(h:(qT s).2=0):qT (Ai s n)=qT s:=by
 obtain⟨q,e⟩:=jQ h;have q2:=Yi n q;unfold qT;rw[pA q,pA q2]
 rfl
def Zx{s:mb}{n:Nat}(h:(qT s).2=0)(hn:n<=s.zP.length):qU (Ai s n)=mY (nu s) s.zP n:=by
 have e:nu (Ai s n)=nu s:=by unfold nu;rw[TP n h];rfl
 unfold qU;rw[e];unfold mY;show((s.zP.take n).take (s.zP.take n).length).foldl yl _=_;rw[rj]
def zyv(s:Wor.mS)(p:Int):s.2.2 <+:(yl s p).2.2:=by
 unfold yl;split
 ·unfold Mh;split
  ·split
   ·split
    ·exact List.prefix_append _ _
    ·exact fQ _
   ·exact fQ _
  ·exact fQ _
 ·exact fQ _
def Vb:∀(l:List Int) (s:Wor.mS),s.2.2 <+:(l.foldl yl s).2.2
 |[],s=>fQ _
 |p::l,s=>(zyv s p).trans (Vb l (yl s p))
def UE{s:Wor.mS}{l:List Int}{n m:Nat}(h:n<=m):mY s l m=((l.take m).drop n).foldl yl (mY s l n):=by
 unfold mY;rw[<-eK]
 congr 1
 have:l.take n=(l.take m).take n:=by rw[List.take_take];congr 1;omega
 rw[this,sE]
def Zy{s:Wor.mS}{l:List Int}{n m:Nat}(h:n<=m):(mY s l n).2.2 <+:(mY s l m).2.2:=by
 rw[UE h];exact Vb _ _
def Pg{N K:Nat}{s:Wor.mS}(gi:GI N K s.1 s.2.1)(l:List Int):∀k,k<=l.length->N+k<=100000000->K+k<=1099511627776->(mY s l k).2.2.length<=s.2.2.length+k/\((mY s l k).2.2.length=s.2.2.length+k\/qX (mY s l k).2.1 (mY s l k).2.1.length=[])
 |0,_,_,_=>⟨pI _,.inl O⟩
 |k+1,hk,hN,hK=>by
  obtain⟨i1,i2⟩:=Pg gi l k aw aw aw;have g:=kB gi l k aw aw aw;rw[xX (pa aw)];rcases jy g l[k] aw aw with⟨ha,e⟩|⟨t,x,o,r,hat,_,_,_,_,_,_,e,_⟩
  ·rw[e];exact⟨aw,.inr ha⟩
  ·rcases i2 with i2|ha
   ·rw[e];have z:((mY s l k).2.2++[vq r.2.2 x]).length=s.2.2.length+(k+1):=by rw[pL,i2];rfl
    exact⟨fq z,.inl z⟩
   ·rw[ha]at hat;exact nomatch hat
def NQ{s:mb}(ok:kL s)(h:(qT s).2=0){n:Nat}(hn:n<=s.zP.length):
  (zK (Ai s n)).2.2=0/\(zK (Ai s n)).1.length<=(zK s).1.length/\(zK s).1.take (zK (Ai s n)).1.length=(zK (Ai s n)).1/\xa (zK (Ai s n)).2.1/\AE 5000 (zK (Ai s n)).2.1/\
   ((zK (Ai s n)).1.length=n\/(zK (Ai s n)).1.length=(zK s).1.length)/\(zK s).1.length<=4000:=by
 have hb:(qT (Ai s n)).2=0:=by rw[TP n h];exact h
 have e1:zK (Ai s n)=((mY (nu s) s.zP n).2.2,(mY (nu s) s.zP n).1,0):=by
  unfold zK;rw[pA hb,Zx h hn]
 have e2:zK s=((mY (nu s) s.zP s.zP.length).2.2,(mY (nu s) s.zP s.zP.length).1,0):=by
  unfold zK;rw[pA h]
  rfl
 rw[e1,e2];dsimp only;have gi:=xY ok h;obtain⟨q,_⟩:=jQ h;obtain⟨_,_,_,p4,_,_⟩:=xg q;have pre:=Zy (s:=nu s) (l:=s.zP) hn;have l1:=Pg gi s.zP n hn aw aw;have l2:=Pg gi s.zP s.zP.length (pI _) aw aw;have z:(nu s).2.2.length=0:=rfl;have g:=(IX ok h n hn).mono (N':=5000) (K':=n) aw (pI _);refine⟨rfl,pre.length_le,(List.prefix_iff_eq_take.1 pre).symm,g.st.jn,g.st.ty,?_,aw⟩;rcases l1.2 with l|ha
 ·exact .inl aw
 ·refine .inr ?_;rw[UE hn,zuO ha]
def Fl{s:mb}(h:(zK s).2.2≠0):(zK s).1=[]/\(qT s).2≠0:=by
 unfold zK at h ⊢;split at h
 ·exact absurd O h
 ·rename_i q;rw[pw q];exact⟨rfl,q⟩
def ku{s:mb}(h:(zK s).2.2=0):(qT s).2=0:=by
 unfold zK at h;split at h
 ·assumption
 ·exact h
def wD(m:lh)(r:Wor×lh×lD):Prop:=r.2.2.done=r.2.1.done/\(r.2.1.done=true->r.2.2.answer=r.2.1.answer)/\r.2.2.zg=m.zg
def zwr{w:Wor}{m:lh}{r:Wor×lh×lD}(hd:m.done=false)(h:AN w m=some r):wD m r:=by
 unfold AN at h;repeat' split at h
 all_goals (first|(cases h;done)|(obtain rfl:=pz h;unfold wD;(try dsimp only);first|exact⟨hd.symm,λq=>absurd (q.symm.trans hd) ar,rfl⟩|exact⟨rfl,λ_=>O,rfl⟩))
def Sp{w:Wor}{m:lh}{k p:Int}{r:Wor×lh×lD}(hd:m.done=false)(h:xQ w m k p=some r):wD m r:=by
 unfold xQ at h;repeat' split at h
 all_goals (first|(cases h;done)|(obtain rfl:=pz h;unfold wD;(try dsimp only);first|exact⟨hd.symm,λq=>absurd (q.symm.trans hd) ar,rfl⟩|exact⟨rfl,λ_=>O,rfl⟩))
def Kg{w:Wor}{m:lh}{f:mj->Wor×lh×lD}{r:Wor×lh×lD}(h:vW w m f=some r)(hf:∀x,wD m (f x)):wD m r:=by
 unfold vW at h;split at h
 ·cases h
 ·obtain⟨x,_,rfl⟩:=pS.1 h;exact hf x
def kW{α:Type}{m:lh}{o:Option α}{f:α->Wor×lh×lD}{r:Wor×lh×lD}(h:o.map f=some r)(hf:∀x,wD m (f x)):wD m r:=by
 obtain⟨x,_,rfl⟩:=pS.1 h;exact hf x
def qR{m m':lh}{w:Wor}{e:lD}(h1:m'.done=false)(h2:e.done=false)(h3:e.zg=m.zg):wD m (w,m',e):=⟨h2.trans h1.symm,λq=>absurd (q.symm.trans h1) ar,h3⟩
def zq{α:Type}{c:Prop}[Decidable c]{a b x:α}(h:(if c then a else b)=x):a=x\/b=x:=by
 by_cases q:c
 ·rw[pA q]at h;exact .inl h
 ·rw[pw q]at h;exact .inr h
def zoo{w:Wor}{m:lh}{v:lJ}{g:Gr}{e:En}{r:Wor×lh×lD}(hd:m.done=false)(h:zY w m v g e=some r):wD m r:=by
 have rt:(xe m v).done=false:=by
  unfold xe;repeat' split
  all_goals exact hd
 unfold zY at h;rcases zq h with h|h
 ·exact zwr hd h
 rcases zq h with h|h
 ·obtain rfl:=pz h;refine qR ?_ O O;unfold FY;split <;> exact hd
 rcases zq h with h|h
 ·exact Kg h λx=>qR hd O O
 rcases zq h with h|h
 ·refine Kg h λx=>?_
  refine qR ?_ ?_ ?_
  ·split
   ·exact hd
   ·exact rt
  ·split <;> rfl
  ·split <;> rfl
 rcases zq h with h|h
 ·exact kW h λx=>qR (by unfold K4;exact hd) O O
 rcases zq h with h|h
 ·obtain rfl:=pz h;exact dW
 rcases zq h with h|h
 ·exact kW h λx=>qR hd O O
 rcases zq h with h|h
 ·obtain rfl:=pz h;refine qR ?_ O O;split <;> exact hd
 rcases zq h with h|h
 ·exact kW h λx=>qR hd O O
 rcases zq h with h|h
 ·split at h
  ·obtain rfl:=pz h;exact dW
  ·obtain rfl:=pz h;exact dW
 rcases zq h with h|h
 ·obtain rfl:=pz h;exact dW
 rcases zq h with h|h
 ·exact Sp hd h
 rcases zq h with h|h
 ·exact Sp hd h
 rcases zq h with h|h
 ·exact Kg h λx=>qR hd O O
 rcases zq h with h|h
 ·obtain rfl:=pz h;exact gE
 ·cases h
def zon{w:Wor}{m:lh}{v:lJ}{g:Gr}{e:En}{r:Wor×lh×lD}(hd:m.done=false)(h:jO w m v g e=some r):wD m r:=by
 unfold jO at h;split at h
 ·obtain rfl:=pz h;exact dW
 split at h
 ·obtain rfl:=pz h;exact dW
 split at h
 ·split at h
  ·obtain rfl:=pz h;exact dW
  ·obtain rfl:=pz h;exact dW
 split at h
 ·obtain rfl:=pz h;exact dW
 split at h
 ·exact Kg h λx=>⟨rfl,λ_=>O,rfl⟩
 split at h
 ·obtain rfl:=pz h;exact gE
 ·cases h
def zs5{w:Wor}{m:lh}{r:Wor×lh×lD}(hd:m.done=false)(h:kU w m=some r):wD m r:=by
 unfold kU at h;split at h
 ·split at h
  ·obtain rfl:=pz h;exact qR (by unfold HG;exact hd) O O
  ·obtain rfl:=pz h;exact gE
 split at h
 ·obtain rfl:=pz h;exact dW
 split at h
 ·split at h
  ·cases h
  ·obtain rfl:=pz h;exact gE
 ·cases h
def zqy{w:Wor}{m:lh}{r:Wor×lh×lD}(hd:m.done=false)(h:yA w m=some r):wD m r:=by
 unfold yA at h;split at h
 ·split at h
  ·obtain rfl:=pz h;exact gE
  ·exact kW h λx=>⟨rfl,λ_=>O,rfl⟩
 ·cases h
def VB(w:Wor)(m:lh)(hd:m.done=false):wD m (nM w m):=by
 unfold nM;split
 ·exact gE
 ·refine qR ?_ ?_ ?_
  ·unfold Es;repeat' split
   all_goals exact hd
  ·unfold JC;rfl
  ·unfold JC;rfl
def zlz{w:Wor}{m:lh}{r:Wor×lh×lD}(hd:m.done=false)(h:jA w m=some r):wD m r:=by
 unfold jA at h;rcases zq h with h|h
 ·obtain rfl:=pz h;split
  ·exact dW
  ·exact gE
 rcases zq h with h|h
 ·obtain rfl:=pz h;exact dW
 rcases zq h with h|h
 ·refine kW h λx=>qR ?_ O O
  unfold CW;repeat' split
  all_goals exact hd
 rcases zq h with h|h
 ·obtain rfl:=pz h;split
  ·exact dW
  ·exact dW
 rcases zq h with h|h
 ·obtain rfl:=pz h;split
  ·exact VB w (nH m 8 0) hd
  ·refine qR ?_ O O;unfold Dq;repeat' split
   all_goals exact hd
 rcases zq h with h|h
 ·obtain⟨v,_,h⟩:=pN.1 h;refine kW h λx=>qR ?_ ?_ ?_
  ·unfold Cd;repeat' split
   all_goals exact hd
  ·unfold Jt;rfl
  ·unfold Jt;rfl
 rcases zq h with h|h
 ·obtain⟨v,_,h⟩:=pN.1 h;obtain⟨x,_,h⟩:=pN.1 h;rcases zq h with h|h
  ·obtain rfl:=pz h;refine qR ?_ O O;unfold HB;exact hd
  ·cases h
 rcases zq h with h|h
 ·obtain rfl:=pz h;exact VB w m hd
 rcases zq h with h|h
 ·refine kW h λx=>qR ?_ O O
  split <;> exact hd
 rcases zq h with h|h
 ·obtain⟨v,_,h⟩:=pN.1 h;rcases zq h with h|h
  ·obtain rfl:=pz h;exact dW
  ·cases h
 ·cases h
def zqA{w:Wor}{m:lh}{r:Wor×lh×lD}(hd:m.done=false)(h:xS w m=some r):wD m r:=by
 unfold xS at h;split at h
 ·obtain⟨v,_,h⟩:=pN.1 h;refine kW h λx=>⟨rfl,λq=>?_,rfl⟩
  show(if (jT w m x).done then (jT w m x).answer else BC)=(jT w m x).answer;rw[pA q]
 ·cases h
def w6{w:Wor}{m:lh}{r:Wor×lh×lD}(hd:m.done=false)(h:yu w m=some r):wD m r:=by
 unfold yu at h;split at h
 ·cases h
 split at h
 ·cases h
 split at h
 ·cases h
 split at h
 ·exact zoo hd h
 split at h
 ·exact zon hd h
 split at h
 ·exact zs5 hd h
 split at h
 ·exact zqy hd h
 split at h
 ·exact zlz hd h
 split at h
 ·exact zqA hd h
 ·cases h
def O8{X:List Nat}:∀{t:Nat} {a b:Nat},X[t]?=some a->(X.set t b).sum+a=X.sum+b:=by
 induction X with
 |nil=>intro t a b h;cases h
 |cons y X ih=>
  intro t a b h;cases t with
  |zero=>
   have:y=a:=aq h
   subst this;simp only[u9,sR];omega
  |succ t=>
   have:=ih (t:=t) (a:=a) (b:=b) (aq h);simp only[fY,sR];omega
def yN(x:lW)(m:lh):(qq x m).done=x.done+(if m.done=true then 1 else 0):=by
 unfold Wor.qq;split <;> rfl
def KB{s:mb}(ok:kL s):(zK s).1.length<=4000:=by
 by_cases hz:(zK s).2.2=0
 ·exact(NQ ok (ku hz) (n:=s.zP.length) (pI _)).2.2.2.2.2.2
 ·rw[(Fl hz).1];exact rk _
def H5{s:mb}(ok:kL s)(hz:(zK s).2.2=0):xa (zK s).2.1/\AE 5000 (zK s).2.1:=by
 have f:=NQ ok (ku hz) (n:=s.zP.length) (pI _);have e:Ai s s.zP.length=s:=by unfold Ai;rw[rj]
 rw[e]at f;exact⟨f.2.2.2.1,f.2.2.2.2.1⟩
def JS{l:List lD}(h:(Cal.l8 l).2=0):(Cal.l8 l).1.countP (λc=>decide (0<=c.mK))=l.countP (·.done)/\(Cal.l8 l).1.length<=l.length:=by
 unfold Cal.l8 at h ⊢;cases hb:Cal.vE l l.length with
 |none=>rw[hb]at h;cases h
 |some b=>
  obtain⟨h1,h2,h3⟩:=Cal.Il l hb;refine⟨?_,(Cal.KN hb).2⟩;rw[rj]at h3;exact h3
end Go.Run
