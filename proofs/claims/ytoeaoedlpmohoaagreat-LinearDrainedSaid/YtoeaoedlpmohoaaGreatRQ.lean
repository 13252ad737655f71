import Derived.Test.YtoeaoedlpmohoaaGreatRO
import Derived.Test.YtoeaoedlpmohoaaGreatRK
import Derived.Test.YtoeaoedlpmohoaaGreatR9
import Derived.Test.YtoeaoedlpmohoaaGreatRZ
import Derived.Test.YtoeaoedlpmohoaaGreatR0
set_option linter.all false
set_option maxRecDepth 100000
set_option maxHeartbeats 4000000
namespace Go.Hy
open Go.Ab Go.Proofs Tryz
def fG.nQ(o:fG):Prop:=o.ok/\i64 o.d0/\i64 o.d1
def WA:qw prog 57 vq fG.nQ:=
 qw.map (qw.struct underlying57 au (jl.cons rfl (qw.int underlying3) (jl.cons rfl (kH) (jl.cons rfl (kH) (jl.cons rfl (kH) (jl.cons rfl (qw.int underlying3) (jl.cons rfl (qw.int underlying3) (jl.cons rfl (qw.int underlying3) (jl.cons rfl NM (jl.nil _)))))))))) (λx=>⟨x.1,x.2.1,x.2.2.1,x.2.2.2.1,x.2.2.2.2.1,x.2.2.2.2.2.1,x.2.2.2.2.2.2.1,x.2.2.2.2.2.2.2.1⟩) λx h=>⟨⟨⟨h.2.1,h.2.2.1,h.2.2.2.1,h.2.2.2.2.2.2.2.1⟩,wf_i64 h.2.2.2.2.1,wf_i64 h.2.2.2.2.2.1⟩,by simp[vq]⟩
def XR:qw prog 58 (λl:List fG=>[lP l]) (λl=>(∀x∈l,x.nQ)/\l.length*152<=reachBytes):=
 qw.slice (sz:=10) (by_:=152) underlying58 au au ar (λ_=>rfl) WA
def T3:qw prog 27 (λl:List (List fG)=>[Dc l]) (λl=>(∀x∈l,(∀o∈x,o.nQ)/\x.length*152<=reachBytes)/\l.length*24<=reachBytes):=
 qw.slice (sz:=1) (by_:=24) underlying27 au au ar (λ_=>rfl) XR
def fW.nQ(s:fW):Prop:=s.first.ok/\((∀x∈s.threads,(∀o∈x,o.nQ)/\x.length*152<=reachBytes)/\s.threads.length*24<=reachBytes)/\(∀p∈s.zW,i64 p)/\s.zW.length*8<=reachBytes
def VN:qw prog 30 qi fW.nQ:=
 qw.map (qw.struct underlying30 au (jl.cons rfl NM (jl.cons rfl T3 (jl.cons rfl Zc (jl.nil _))))) (λx=>⟨x.1,x.2.1,x.2.2.1⟩) λx h=>⟨⟨h.1,h.2.1,λp hp=>wf_i64 (h.2.2.1.1 p hp),h.2.2.1.2⟩,by simp[qi]⟩
def arg_ScrI:IB prog 30 (λx=>.agg (qi x)) fW.nQ:=qw.Vv underlying30 VN
end Go.Hy
namespace Go.Wor
open Go.Ab Go.Proofs Tryz Go.Hy Go.Gat Go.Nam Go.Hos Go.Con Go.Sna
structure Wk(w:Wor):Prop where
 pins:w.pins.length<4000000000000000000
 ze:w.ze.length<4000000000000000000
 zd:w.zd.length<4000000000000000000
 counts:w.counts.length<4000000000000000000
 zu:w.zu.length<4000000000000000000
 qz:∀v∈w.ze,v.snap.zd.length<4000000000000000000/\v.snap.rules.length<4000000000000000000/\v.snap.zk.length<4000000000000000000
 zm:∀v∈w.ze,v.zm.length<4000000000000000000/\∀g∈v.zm,g.ends.length<4000000000000000000
structure PG(s:Sna):Prop where
 zd:s.zd.length<4000000000000000000
 rules:s.rules.length<4000000000000000000
 zk:s.zk.length<4000000000000000000
 zL:∀x∈s.zk,x.zL.length<4000000000000000000
structure WkW(w:Wor):Prop where
 wk:Wk w
 qz:∀v∈w.ze,PG v.snap
 ends : ∀v∈w.ze, ∀g∈v.zm, ∀e∈g.ends, e.ok
 counts:∀r∈w.counts,r.length<4000000000000000000
end Go.Wor
namespace Go.Run
open Go.Ab Go.Proofs Tryz Go.Gat Go.Nam Go.Hos Go.Con Go.Sna Go.Pla Go.Ply Go.Wor
open Go.Hy hiding encI
def Py:(qM yQ).2=0:=by kernel_rfl
abbrev wB:Wor:=(qM yQ).1
def hP:tn 13 [] [.agg (Pl (lI (Jm 60)))] (.fC [mf (qo yQ).1,.agg (zU (qo yQ).2.1),I (qo yQ).2.2]) []:=
 Go.Dep.zb.kV 9 (E8 yQ Cj) au au
def hE:tn 13 [] [.agg [.fp 1 0 [],.fp 1 0 [],.fp 1 0 [],.fp 1 0 [],.fp 1 0 []]] (.fC [mf (qo n8).1,.agg (zU (qo n8).2.1),I (qo n8).2.2]) []:=
 Go.Dep.zb.kV 9 (E8 n8 PY) au au
def hB:tn 30 [] [.agg (Pl (lI (Jm 60)))] (.fC [.agg (zU wB),I 0]) []:=by
 have h:=KA yQ Cj.wk Cj.cfg Cj.PB λ_ x hx=>by have:=Cj.names x hx;unfold reachBytes at this;omega
 have h0:=Py;have e:qM yQ=(wB,0):=by rw[<-h0]
 rw[e]at h;exact Go.Dep.zb.kV 9 h au au
def hH:tn 26 [] [.agg (zU (qo yQ).2.1)] (I (0:Nat)) []:=by
 have gi:=Eh Cj Py 60 (sV au);have e:(iK (iV yQ) yQ.zW 60).1=(qo yQ).2.1:=au
 have e0:Ad (qo yQ).2.1=0:=au
 have st:=gi.st;rw[e]at st;have h:=RX (qo yQ).2.1 (Ym st.jQ st.ty ar);rw[e0]at h;exact h
def Fs{c:ib}(h:lK c=false)(ok:c.ok):x3 c:=by
 unfold lK at h;simp only[pX,pN,eR]at h;obtain⟨⟨⟨⟨h1,h2⟩,h3⟩,h4⟩,h5⟩:=h;obtain⟨⟨a1,_⟩,⟨a2,_⟩,⟨a3,_⟩⟩:=ok;refine⟨⟨aw,λs hs=>?_⟩,⟨aw,λr hr=>?_⟩,⟨aw,λx hx=>?_⟩⟩
 ·have:=a1 s hs;unfold Gq reachBytes at this;omega
 ·have q:=pD.1 h5 r hr;unfold oS at q;simp only[rz,gQ,not_or,eR]at q;have:=a2 r hr;unfold nu.ok reachBytes at this;omega
 ·have q:=pD.1 h4 x hx;unfold oV at q;simp only[rz,gQ,not_or,eR]at q;omega
def Vy{s:fW}(h:nh s=false):lK s.first=false/\s.threads.length<=20/\s.zW.length<=5000/\∀l∈s.threads,l.length<=40/\∀o∈l,lK o.config=false/\o.host.length<=100/\o.path.length<=100:=by
 unfold nh at h;simp only[pX,pN,eR]at h;obtain⟨⟨⟨h1,h2⟩,h3⟩,h4⟩:=h;refine⟨h1,h2,h3,λl hl=>?_⟩;have q:=pD.1 h4 l hl;unfold Ap at q;simp only[rz,gQ,not_or,eR]at q;refine⟨q.1,λo ho=>?_⟩;have q2:oQ o=false:=pD.1 (aq q.2) o ho |> λz=>by simpa using z
 unfold oQ at q2;simp only[pX,pN,eR]at q2;exact q2
def Jy{s:fW}(ok:s.nQ):Kc s:=by
 obtain⟨⟨⟨_,b1⟩,⟨_,b2⟩,⟨_,b3⟩⟩,⟨b4,b5⟩,_,_⟩:=ok;unfold reachBytes at b1 b2 b3 b5;refine⟨⟨aw,aw,aw⟩,aw,λl hl=>?_,λl hl o ho=>?_⟩
 ·have:=(b4 l hl).2;unfold reachBytes at this;omega
 ·obtain⟨⟨_,_,_,⟨⟨_,c1⟩,⟨_,c2⟩,⟨_,c3⟩⟩⟩,_⟩:=(b4 l hl).1 o ho;unfold reachBytes at c1 c2 c3;exact⟨aw,aw,aw⟩
def W8{out:List fA}{n x:fA}(h:x∈vG out n):x∈out\/x=n:=by
 unfold vG at h;split at h
 ·exact .inl h
 ·simpa using h
def FI{α:Type}{f:List fA->α->List fA}{P:fA->Prop}:∀(l:List α) (out:List fA),(∀y∈l,∀o x,(∀z∈o,P z)->x∈f o y->P x)->(∀z∈out,P z)->∀x∈l.foldl f out,P x
 |[],_,_,h,x,hx=>h x hx
 |y::l,out,hf,h,x,hx=>FI l (f out y) (λy hy=>hf y (pV _ hy)) (λz hz=>hf y (rh ..) out z h hz) x hx
def SU{s:fW}(ok:s.nQ):∀x∈yc s,x.length<=reachBytes:=by
 have cfg:∀(c:ib) (out:List fA),c.ok->(∀z∈out,z.length<=reachBytes)->∀x∈wF out c,x.length<=reachBytes:=λc out hc ho=>
  FI c.zd out (λy hy o x hz hx=>by
   rcases W8 hx with h|rfl
   ·exact hz x h
   ·exact hc.1.1 _ hy) ho
 refine FI s.threads _ (λl hl o x hz hx=>?_) (cfg s.first [] ok.1 aj);refine FI l o (λp hp o x hz hx=>?_) hz x hx;unfold l8 at hx;split at hx
 ·exact cfg p.config o ((ok.2.1.1 l hl).1 p hp).1.2.2.2 hz x hx
 ·exact hz x hx
def OH{s:fW}(h:nh s=false)(ok:s.nQ):nG s:=by
 obtain⟨h1,h2,h3,h4⟩:=Vy h;have w:=Jy ok;refine⟨⟨(Fs h1 ok.1).k,w.threads,w.ops,aw⟩,λ_=>Fs h1 ok.1,λl hl o ho=>(Fs ((h4 l hl).2 o ho).1 ((ok.2.1.1 l hl).1 o ho).1.2.2.2).k,SU ok,λl hl o ho=>?_,ok.2.2.1⟩;have a:=(h4 l hl).2 o ho;have b:=(ok.2.1.1 l hl).1 o ho;exact⟨aw,aw,b.2.1,b.2.2,λ_=>(Fs a.1 b.1.2.2.2).k⟩
def mG(s:fW)(n:Nat):fW:=⟨s.first,s.threads,s.zW.take n⟩
def Yo{s:fW}(n:Nat)(h:i5 s=true):i5 (mG s n)=true:=by
 unfold i5 at h ⊢;simp only[gH,gQ,pO]at h ⊢;obtain⟨⟨⟨⟨⟨h1,h2⟩,h3⟩,h4⟩,h5⟩,h6⟩:=h;refine⟨⟨⟨⟨⟨h1,h2⟩,h3⟩,?_⟩,h5⟩,?_⟩
 ·show(s.zW.take n).length<=4000;simp;omega
 ·rw[pD]at h6 ⊢
  exactλx hx=>h6 x (rP hx)
def Ma{s:fW}(n:Nat)(h:(qM s).2=0):qM (mG s n)=qM s:=by
 obtain⟨q,e⟩:=xe h;have q2:=Yo n q;unfold qM;rw[gC q,gC q2]
 rfl
def ZW{s:fW}{n:Nat}(h:(qM s).2=0)(hn:n<=s.zW.length):yN (mG s n)=iK (iV s) s.zW n:=by
 have e:iV (mG s n)=iV s:=by unfold iV;rw[Ma n h];rfl
 unfold yN;rw[e];unfold iK;show((s.zW.take n).take (s.zW.take n).length).foldl yV _=_;rw[pQ]
def Xs(s:Wor.iE)(p:Int):s.2.2 <+:(yV s p).2.2:=by
 unfold yV;split
 ·unfold G0;split
  ·split
   ·split
    ·exact List.prefix_append _ _
    ·exact ue _
   ·exact ue _
  ·exact ue _
 ·exact ue _
def Nf:∀(l:List Int) (s:Wor.iE),s.2.2 <+:(l.foldl yV s).2.2
 |[],s=>ue _
 |p::l,s=>(Xs s p).trans (Nf l (yV s p))
def Nn{s:Wor.iE}{l:List Int}{n m:Nat}(h:n<=m):iK s l m=((l.take m).drop n).foldl yV (iK s l n):=by
 unfold iK;rw[<-sJ]
 congr 1
 have:l.take n=(l.take m).take n:=by rw[List.take_take];congr 1;omega
 rw[this,rq]
def ZX{s:Wor.iE}{l:List Int}{n m:Nat}(h:n<=m):(iK s l n).2.2 <+:(iK s l m).2.2:=by
 rw[Nn h];exact Nf _ _
def Je{N K:Nat}{s:Wor.iE}(gi:GI N K s.1 s.2.1)(l:List Int):∀k,k<=l.length->N+k<=100000000->K+k<=1099511627776->(iK s l k).2.2.length<=s.2.2.length+k/\((iK s l k).2.2.length=s.2.2.length+k\/qJ (iK s l k).2.1 (iK s l k).2.1.length=[])
 |0,_,_,_=>⟨gJ _,.inl rfl⟩
 |k+1,hk,hN,hK=>by
  obtain⟨i1,i2⟩:=Je gi l k aw aw aw;have g:=BT gi l k aw aw aw;rw[ks (gp aw)];rcases ye g l[k] aw aw with⟨ha,e⟩|⟨t,x,o,r,hat,_,_,_,_,_,_,e,_⟩
  ·rw[e];exact⟨aw,.inr ha⟩
  ·rcases i2 with i2|ha
   ·rw[e];have z:((iK s l k).2.2++[yo r.2.2 x]).length=s.2.2.length+(k+1):=by rw[gK,i2];rfl
    exact⟨sV z,.inl z⟩
   ·rw[ha]at hat;exact nomatch hat
def MJ{s:fW}(ok:nG s)(h:(qM s).2=0){n:Nat}(hn:n<=s.zW.length):
  (qo (mG s n)).2.2=0/\(qo (mG s n)).1.length<=(qo s).1.length/\(qo s).1.take (qo (mG s n)).1.length=(qo (mG s n)).1/\jV (qo (mG s n)).2.1/\mM 5000 (qo (mG s n)).2.1/\
   ((qo (mG s n)).1.length=n\/(qo (mG s n)).1.length=(qo s).1.length)/\(qo s).1.length<=4000:=by
 have hb:(qM (mG s n)).2=0:=by rw[Ma n h];exact h
 have e1:qo (mG s n)=((iK (iV s) s.zW n).2.2,(iK (iV s) s.zW n).1,0):=by
  unfold qo;rw[gC hb,ZW h hn]
 have e2:qo s=((iK (iV s) s.zW s.zW.length).2.2,(iK (iV s) s.zW s.zW.length).1,0):=by
  unfold qo;rw[gC h]
  rfl
 rw[e1,e2];dsimp only;have gi:=CC ok h;obtain⟨q,_⟩:=xe h;obtain⟨_,_,_,p4,_,_⟩:=xK q;have pre:=ZX (s:=iV s) (l:=s.zW) hn;have l1:=Je gi s.zW n hn aw aw;have l2:=Je gi s.zW s.zW.length (gJ _) aw aw;have z:(iV s).2.2.length=0:=rfl;have g:=(Eh ok h n hn).mono (N':=5000) (K':=n) aw (gJ _);refine⟨rfl,pre.length_le,(List.prefix_iff_eq_take.1 pre).symm,g.st.jQ,g.st.ty,?_,aw⟩;rcases l1.2 with l|ha
 ·exact .inl aw
 ·refine .inr ?_;rw[Nn hn,Va ha]
def XN{s:fW}(h:(qo s).2.2≠0):(qo s).1=[]/\(qM s).2≠0:=by
 unfold qo at h ⊢;split at h
 ·exact absurd rfl h
 ·rename_i q;rw[gu q];exact⟨rfl,q⟩
def Fz{s:fW}(h:(qo s).2.2=0):(qM s).2=0:=by
 unfold qo at h;split at h
 ·assumption
 ·exact h
def kq(m:fq)(r:Wor×fq×fx):Prop:=r.2.2.done=r.2.1.done/\(r.2.1.done=true->r.2.2.answer=r.2.1.answer)/\r.2.2.zf=m.zf
def VH{w:Wor}{m:fq}{r:Wor×fq×fx}(hd:m.done=false)(h:oT w m=some r):kq m r:=by
 unfold oT at h;repeat' split at h
 all_goals (first|(cases h;done)|(obtain rfl:=gF h;unfold kq;(try dsimp only);first|exact⟨hd.symm,λq=>absurd (q.symm.trans hd) ar,rfl⟩|exact⟨rfl,λ_=>rfl,rfl⟩))
def Lz{w:Wor}{m:fq}{k p:Int}{r:Wor×fq×fx}(hd:m.done=false)(h:vO w m k p=some r):kq m r:=by
 unfold vO at h;repeat' split at h
 all_goals (first|(cases h;done)|(obtain rfl:=gF h;unfold kq;(try dsimp only);first|exact⟨hd.symm,λq=>absurd (q.symm.trans hd) ar,rfl⟩|exact⟨rfl,λ_=>rfl,rfl⟩))
def Fu{w:Wor}{m:fq}{f:fQ->Wor×fq×fx}{r:Wor×fq×fx}(h:wa w m f=some r)(hf:∀x,kq m (f x)):kq m r:=by
 unfold wa at h;split at h
 ·cases h
 ·obtain⟨x,_,rfl⟩:=gU.1 h;exact hf x
def vo{α:Type}{m:fq}{o:Option α}{f:α->Wor×fq×fx}{r:Wor×fq×fx}(h:o.map f=some r)(hf:∀x,kq m (f x)):kq m r:=by
 obtain⟨x,_,rfl⟩:=gU.1 h;exact hf x
def qG{m m':fq}{w:Wor}{e:fx}(h1:m'.done=false)(h2:e.done=false)(h3:e.zf=m.zf):kq m (w,m',e):=⟨h2.trans h1.symm,λq=>absurd (q.symm.trans h1) ar,h3⟩
def zA{α:Type}{c:Prop}[Decidable c]{a b x:α}(h:(if c then a else b)=x):a=x\/b=x:=by
 by_cases q:c
 ·rw[gC q]at h;exact .inl h
 ·rw[gu q]at h;exact .inr h
def Sk{w:Wor}{m:fq}{v:fB}{g:Gr}{e:En}{r:Wor×fq×fx}(hd:m.done=false)(h:z8 w m v g e=some r):kq m r:=by
 have rt:(xi m v).done=false:=by
  unfold xi;repeat' split
  all_goals exact hd
 unfold z8 at h;rcases zA h with h|h
 ·exact VH hd h
 rcases zA h with h|h
 ·obtain rfl:=gF h;refine qG ?_ rfl rfl;unfold Cg;split <;> exact hd
 rcases zA h with h|h
 ·exact Fu h λx=>qG hd rfl rfl
 rcases zA h with h|h
 ·refine Fu h λx=>?_
  refine qG ?_ ?_ ?_
  ·split
   ·exact hd
   ·exact rt
  ·split <;> rfl
  ·split <;> rfl
 rcases zA h with h|h
 ·exact vo h λx=>qG (by unfold F2;exact hd) rfl rfl
 rcases zA h with h|h
 ·obtain rfl:=gF h;exact dD
 rcases zA h with h|h
 ·exact vo h λx=>qG hd rfl rfl
 rcases zA h with h|h
 ·obtain rfl:=gF h;refine qG ?_ rfl rfl;split <;> exact hd
 rcases zA h with h|h
 ·exact vo h λx=>qG hd rfl rfl
 rcases zA h with h|h
 ·split at h
  ·obtain rfl:=gF h;exact dD
  ·obtain rfl:=gF h;exact dD
 rcases zA h with h|h
 ·obtain rfl:=gF h;exact dD
 rcases zA h with h|h
 ·exact Lz hd h
 rcases zA h with h|h
 ·exact Lz hd h
 rcases zA h with h|h
 ·exact Fu h λx=>qG hd rfl rfl
 rcases zA h with h|h
 ·obtain rfl:=gF h;exact dN
 ·cases h
def Sj{w:Wor}{m:fq}{v:fB}{g:Gr}{e:En}{r:Wor×fq×fx}(hd:m.done=false)(h:xv w m v g e=some r):kq m r:=by
 unfold xv at h;split at h
 ·obtain rfl:=gF h;exact dD
 split at h
 ·obtain rfl:=gF h;exact dD
 split at h
 ·split at h
  ·obtain rfl:=gF h;exact dD
  ·obtain rfl:=gF h;exact dD
 split at h
 ·obtain rfl:=gF h;exact dD
 split at h
 ·exact Fu h λx=>⟨rfl,λ_=>rfl,rfl⟩
 split at h
 ·obtain rfl:=gF h;exact dN
 ·cases h
def UH{w:Wor}{m:fq}{r:Wor×fq×fx}(hd:m.done=false)(h:m9 w m=some r):kq m r:=by
 unfold m9 at h;split at h
 ·split at h
  ·obtain rfl:=gF h;exact qG (by unfold Dl;exact hd) rfl rfl
  ·obtain rfl:=gF h;exact dN
 split at h
 ·obtain rfl:=gF h;exact dD
 split at h
 ·split at h
  ·cases h
  ·obtain rfl:=gF h;exact dN
 ·cases h
def SQ{w:Wor}{m:fq}{r:Wor×fq×fx}(hd:m.done=false)(h:yZ w m=some r):kq m r:=by
 unfold yZ at h;split at h
 ·split at h
  ·obtain rfl:=gF h;exact dN
  ·exact vo h λx=>⟨rfl,λ_=>rfl,rfl⟩
 ·cases h
def NC(w:Wor)(m:fq)(hd:m.done=false):kq m (mY w m):=by
 unfold mY;split
 ·exact dN
 ·refine qG ?_ ?_ ?_
  ·unfold BE;repeat' split
   all_goals exact hd
  ·unfold Gz;rfl
  ·unfold Gz;rfl
def Ra{w:Wor}{m:fq}{r:Wor×fq×fx}(hd:m.done=false)(h:xu w m=some r):kq m r:=by
 unfold xu at h;rcases zA h with h|h
 ·obtain rfl:=gF h;split
  ·exact dD
  ·exact dN
 rcases zA h with h|h
 ·obtain rfl:=gF h;exact dD
 rcases zA h with h|h
 ·refine vo h λx=>qG ?_ rfl rfl
  unfold Av;repeat' split
  all_goals exact hd
 rcases zA h with h|h
 ·obtain rfl:=gF h;split
  ·exact dD
  ·exact dD
 rcases zA h with h|h
 ·obtain rfl:=gF h;split
  ·exact NC w (iP m 8 0) hd
  ·refine qG ?_ rfl rfl;unfold Au;repeat' split
   all_goals exact hd
 rcases zA h with h|h
 ·obtain⟨v,_,h⟩:=pj.1 h;refine vo h λx=>qG ?_ ?_ ?_
  ·unfold AX;repeat' split
   all_goals exact hd
  ·unfold EN;rfl
  ·unfold EN;rfl
 rcases zA h with h|h
 ·obtain⟨v,_,h⟩:=pj.1 h;obtain⟨x,_,h⟩:=pj.1 h;rcases zA h with h|h
  ·obtain rfl:=gF h;refine qG ?_ rfl rfl;unfold Dh;exact hd
  ·cases h
 rcases zA h with h|h
 ·obtain rfl:=gF h;exact NC w m hd
 rcases zA h with h|h
 ·refine vo h λx=>qG ?_ rfl rfl
  split <;> exact hd
 rcases zA h with h|h
 ·obtain⟨v,_,h⟩:=pj.1 h;rcases zA h with h|h
  ·obtain rfl:=gF h;exact dD
  ·cases h
 ·cases h
def Sv{w:Wor}{m:fq}{r:Wor×fq×fx}(hd:m.done=false)(h:yR w m=some r):kq m r:=by
 unfold yR at h;split at h
 ·obtain⟨v,_,h⟩:=pj.1 h;refine vo h λx=>⟨rfl,λq=>?_,rfl⟩
  show(if (jv w m x).done then (jv w m x).answer else m8)=(jv w m x).answer;rw[gC q]
 ·cases h
def Fa{w:Wor}{m:fq}{r:Wor×fq×fx}(hd:m.done=false)(h:x2 w m=some r):kq m r:=by
 unfold x2 at h;split at h
 ·cases h
 split at h
 ·cases h
 split at h
 ·cases h
 split at h
 ·exact Sk hd h
 split at h
 ·exact Sj hd h
 split at h
 ·exact UH hd h
 split at h
 ·exact SQ hd h
 split at h
 ·exact Ra hd h
 split at h
 ·exact Sv hd h
 ·cases h
def I4{X:List Nat}:∀{t:Nat} {a b:Nat},X[t]?=some a->(X.set t b).sum+a=X.sum+b:=by
 induction X with
 |nil=>intro t a b h;cases h
 |cons y X ih=>
  intro t a b h;cases t with
  |zero=>
   have:y=a:=aq h
   subst this;simp only[um,rU];omega
  |succ t=>
   have:=ih (t:=t) (a:=a) (b:=b) (aq h);simp only[List.set_cons_succ,rU];omega
def DA(x:fN)(m:fq):(jk x m).done=x.done+(if m.done=true then 1 else 0):=by
 unfold Wor.jk;split <;> rfl
def NP{s:fW}(ok:nG s):(qo s).1.length<=4000:=by
 by_cases hz:(qo s).2.2=0
 ·exact(MJ ok (Fz hz) (n:=s.zW.length) (gJ _)).2.2.2.2.2.2
 ·rw[(XN hz).1];exact pb _
def K9{l:List fx}(h:(Cal.fS l).2=0):(Cal.fS l).1.countP (λc=>decide (0<=c.iw))=l.countP (·.done)/\(Cal.fS l).1.length<=l.length:=by
 unfold Cal.fS at h ⊢;cases hb:Cal.yE l l.length with
 |none=>rw[hb]at h;cases h
 |some b=>
  obtain⟨h1,h2,h3⟩:=Cal.Fv l hb;refine⟨?_,(Cal.Iz hb).2⟩;rw[pQ]at h3;exact h3
end Go.Run
