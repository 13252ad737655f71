import Derived.Test.YtllehbdigpdinaaGreatTO
import Derived.Test.YtllehbdigpdinaaGreatTK
import Derived.Test.YtllehbdigpdinaaGreatT9
import Derived.Test.YtllehbdigpdinaaGreatTZ
import Derived.Test.YtllehbdigpdinaaGreatT0
set_option linter.all false
set_option maxRecDepth 100000
set_option maxHeartbeats 4000000
namespace Go.Hy
open Go.Ab Go.Proofs Tryz
def fQ.AL(o:fQ):Prop:=o.ok/\i64 o.d0/\i64 o.d1
def ztM:qy prog 58 yW fQ.AL:=
 qy.map (qy.struct underlying58 au (jq.cons V (qy.int underlying3) (jq.cons V (wO) (jq.cons V (wO) (jq.cons V (wO) (jq.cons V (qy.int underlying3) (jq.cons V (qy.int underlying3) (jq.cons V (qy.int underlying3) (jq.cons V Ru (jq.nil _)))))))))) (λx=>⟨x.1,x.2.1,x.2.2.1,x.2.2.2.1,x.2.2.2.2.1,x.2.2.2.2.2.1,x.2.2.2.2.2.2.1,x.2.2.2.2.2.2.2.1⟩) λx h=>⟨⟨⟨h.2.1,h.2.2.1,h.2.2.2.1,h.2.2.2.2.2.2.2.1⟩,wf_i64 h.2.2.2.2.1,wf_i64 h.2.2.2.2.2.1⟩,by simp[yW]⟩
def zwi:qy prog 56 (λl:List fQ=>[lP l]) (λl=>(∀x∈l,x.AL)/\l.length*152<=reachBytes):=
 qy.slice (sz:=10) (by_:=152) underlying56 au au ar (λ_=>V) ztM
def ZH:qy prog 27 (λl:List (List fQ)=>[DB l]) (λl=>(∀x∈l,(∀o∈x,o.AL)/\x.length*152<=reachBytes)/\l.length*24<=reachBytes):=
 qy.slice (sz:=1) (by_:=24) underlying27 au au ar (λ_=>V) zwi
def fU.AL(s:fU):Prop:=s.first.ok/\((∀x∈s.threads,(∀o∈x,o.AL)/\x.length*152<=reachBytes)/\s.threads.length*24<=reachBytes)/\(∀p∈s.zJ,i64 p)/\s.zJ.length*8<=reachBytes
def ztN:qy prog 30 w7 fU.AL:=
 qy.map (qy.struct underlying30 au (jq.cons V Ru (jq.cons V ZH (jq.cons V zyx (jq.nil _))))) (λx=>⟨x.1,x.2.1,x.2.2.1⟩) λx h=>⟨⟨h.1,h.2.1,λp hp=>wf_i64 (h.2.2.1.1 p hp),h.2.2.1.2⟩,by simp[w7]⟩
def arg_ScrI:Ly prog 30 (λx=>.agg (w7 x)) fU.AL:=qy.zsy underlying30 ztN
end Go.Hy
namespace Go.Wor
open Go.Ab Go.Proofs Tryz Go.Hy Go.Gat Go.Nam Go.Hos Go.Con Go.Sna
structure Wk(w:Wor):Prop where
 pins:w.pins.length<4000000000000000000
 ze:w.ze.length<4000000000000000000
 zc:w.zc.length<4000000000000000000
 counts:w.counts.length<4000000000000000000
 zm:w.zm.length<4000000000000000000
 US:∀v∈w.ze,v.snap.zc.length<4000000000000000000/\v.snap.rules.length<4000000000000000000/\v.snap.zo.length<4000000000000000000
 zq:∀v∈w.ze,v.zq.length<4000000000000000000/\∀g∈v.zq,g.ends.length<4000000000000000000
structure TJ(s:Sna):Prop where
 zc:s.zc.length<4000000000000000000
 rules:s.rules.length<4000000000000000000
 zo:s.zo.length<4000000000000000000
 zS:∀x∈s.zo,x.zS.length<4000000000000000000
structure WkW(w:Wor):Prop where
 wk:Wk w
 US:∀v∈w.ze,TJ v.snap
 ends : ∀v∈w.ze, ∀g∈v.zq, ∀e∈g.ends, e.ok
 counts:∀r∈w.counts,r.length<4000000000000000000
end Go.Wor
namespace Go.Run
open Go.Ab Go.Proofs Tryz Go.Gat Go.Nam Go.Hos Go.Con Go.Sna Go.Pla Go.Ply Go.Wor
open Go.Hy hiding encI
variable{α:Type}{w:Wor}{m:fD}{v:fI}{g:Gr}{e:En}{r:Wor×fD×fG}{c:iq}{s:fU}{l:List Int}
abbrev mV(c:iq):fD:=⟨C9 c,0,0,0,0, -1,0,0,0,0,0,0,0,0,0,false,Beg.yL,vd⟩
def JA(w:Wor)(c:iq):Wor:={w with current:=w.ze.length,ze:=w.ze++[vm c],zm:=w.zm++[⟨w.current,w.zl,false⟩]}
def Mi{N:Nat}(su:qt w m v g e)(t:mB N w)(tm:iy m)(hN:N<=100000000)(hk:m.op.kind=3)(h:yg w m=some r):tj 49 [] [Sw w,Sm m] (Sr r.1 r.2.1 r.2.2) []:=
 JZ hk (QI su (J6 su) t tm hN hk h)
def S6(sc:ka c):iy (mV c):=⟨(by decide:i64 (-1)),(by decide:u64 0),(by decide:(-1:Int)<=0/\(0:Int)<=2147483646),by show(0:Nat)<_;decide,by show(0:Nat)<_;decide,(by decide:i64 0),(by decide:i64 0),λ_=>sc.k,λ_ _=>V⟩
def Xm{N K:Nat}(st:St N K w)(hc:(jj c).1=0)(sc:ka c)(hN:N+3<=100000000):∃m',nV 3 w (mV c) (JA w c) m'/\m'.answer=⟨8,w.ze.length,0,0,0,0,0,⟨0,0,0,0,0,0⟩⟩:=by
 have gw:=st.qI;have gr:=zU.1 gw.ground;have q:oT c=0:=(wX c).trans hc;obtain⟨v,g,e,su⟩:=J1 gw (m:=mV c) ⟨gO _,by show(0:Int)<_;have:=gr.pins.1;omega⟩ V V V V V V V V V;have lo:I0 w (mV c) v g e:=by constructor <;> dsimp only <;> omega
 obtain⟨r1,h1,n1⟩:=Le st su (S6 sc) lo V
 have e1:yg w (mV c)=some ({w with current:=w.ze.length,ze:=w.ze++[vm c]},nI (mV c) w.current w.ze.length,{fX (mV c) 6 3 w.ze.length with jd:=true}):=by
  unfold yg;rw[gz V,gz q]
 rw[e1]at h1;obtain rfl:=gA h1;rcases n1.go with⟨hd,_⟩|⟨⟨v1,g1,e1',su1,lo1⟩,_⟩
 .exact nomatch hd
 obtain⟨r2,h2,n2⟩:=Le n1.st su1 n1.tm lo1 V
 have e2:yg {w with current:=w.ze.length,ze:=w.ze++[vm c]} (nI (mV c) w.current w.ze.length)=some ({w with current:=w.ze.length,ze:=w.ze++[vm c]},{nI (mV c) w.current w.ze.length with zl:=w.zl,pc:=2},fX (nI (mV c) w.current w.ze.length) 1 1 w.zl):=by
  unfold yg;rw[gp (by show ¬(1:Int)=0;decide),gz V]
 rw[e2]at h2;obtain rfl:=gA h2;rcases n2.go with⟨hd,_⟩|⟨⟨v2,g2,e2',su2,lo2⟩,_⟩
 .exact nomatch hd
 obtain⟨r3,h3,n3⟩:=Le n2.st su2 n2.tm lo2 V
 have e3:yg {w with current:=w.ze.length,ze:=w.ze++[vm c]} {nI (mV c) w.current w.ze.length with zl:=w.zl,pc:=2}=some (JA w c,{ {nI (mV c) w.current w.ze.length with zl:=w.zl,pc:=2} with done:=true,answer:=C1 {nI (mV c) w.current w.ze.length with zl:=w.zl,pc:=2} },{fX {nI (mV c) w.current w.ze.length with zl:=w.zl,pc:=2} 2 11 w.current with done:=true,answer:=C1 {nI (mV c) w.current w.ze.length with zl:=w.zl,pc:=2} }):=by
  have h4:=h3;unfold yg at h4|-;rw[gp (by show ¬(2:Int)=0;decide),gp (by show ¬(2:Int)=1;decide),gz V]at h4|-;by_cases z:nJ {w with current:=w.ze.length,ze:=w.ze++[vm c]} {nI (mV c) w.current w.ze.length with zl:=w.zl,pc:=2}=true
  .rw[gz z]at h4;cases h4
  .rw[gp z]
   rfl
 rw[e3]at h3;obtain rfl:=gA h3;exact⟨_,.more (Mi su st.ty (S6 sc) aw V e1) (by show(6:Int)≠0;decide) V (.more (Mi su1 n1.st.ty n1.tm aw V e2) uX V (.last (Mi su2 n2.st.ty n2.tm aw V e3) tI V)),rfl⟩
def NC:(qm Bv).2=0:=by kernel_rfl
abbrev wB:Wor:=(qm Bv).1
def Jz:St 600 0 wB:=(xf C8 NC).st
def hP:tj 6 [] [.agg (NY (lI (Mg 60)))] (.fJ [mC (zZ Bv).1,.agg (yC (zZ Bv).2.1),I (zZ Bv).2.2]) []:=
 Go.Dep.zb.Bx 9 (Kk Bv C8) au au
def hE:tj 6 [] [.agg [.fF 1 0 [],.fF 1 0 [],.fF 1 0 [],.fF 1 0 [],.fF 1 0 []]] (.fJ [mC (zZ Fa).1,.agg (yC (zZ Fa).2.1),I (zZ Fa).2.2]) []:=
 Go.Dep.zb.Bx 9 (Kk Fa TU) au au
def hB:tj 17 [] [.agg (NY (lI (Mg 60)))] (.fJ [.agg (yC wB),I 0]) []:=by
 have h:=N9 Bv C8.wk C8.cfg C8.ND λ_ x hx=>by have:=C8.names x hx;unfold reachBytes at this;omega
 have h0:=NC;have e:qm Bv=(wB,0):=by rw[<-h0]
 rw[e]at h;exact Go.Dep.zb.Bx 9 h au au
def TX:ka Dz:=C8.cfg au
def hA:tj 35 [] [.agg (yC wB),I 0,.agg ([I 3,Tx [],Tx [],Tx [],I 0,I 0,I 0]++NH),.fF 1 0 []] (.fJ [.agg (yC (JA wB Dz)),.agg (xx ⟨8,1,0,0,0,0,0,⟨0,0,0,0,0,0⟩⟩),I (3:Nat)]) []:=by
 obtain⟨m',g,ha⟩:=Xm (c:=Dz) Jz au TX ar;have hb:=Beg.GS 0 (C9 Dz) [] ar;have em:Beg.ji 0 (C9 Dz) []=mV Dz:=au
 rw[em]at hb;have h:=zxB hb g ar;have e1:wB.ze.length=1:=au
 rw[ha,e1]at h;exact Go.Dep.zb.Bx 9 h au au
abbrev Fh:fQ:=⟨3,[],[],[],0,0,0,⟨[],[],[]⟩⟩
def hN:tj 35 [] [.agg (yC wB),I 9,.agg [I 3,Tx [],Tx [],Tx [],I 0,I 0,I 0,.fF 1 0 [],.fF 1 0 [],.fF 1 0 []],.fF 1 0 []] (.fJ [.agg (yC wB),.agg (xx ⟨0,0,0,0,0,0,0,⟨0,0,0,0,0,0⟩⟩),I 0]) []:=by
 have hb:=Beg.GS 9 Fh [] ar;have hs:z8 wB (Beg.ji 9 Fh [])=false:=au
 have hl:i64 (Beg.ji 9 Fh []).listen:=by
  have e:(Beg.ji 9 Fh []).listen= -1:=au
  rw[e]
  decide
 have h:=JZ au (W3 wB (Beg.ji 9 Fh []) (Aq Jz.qI Jz.ty ar) hl au hs);exact Go.Dep.zb.Bx 9 (zsv hb h V) au au
def HC(h:mn c=false)(ok:c.ok):ka c:=by
 unfold mn at h;simp only[pU,pY,eK]at h;obtain⟨⟨⟨⟨h1,h2⟩,h3⟩,h4⟩,h5⟩:=h;obtain⟨⟨a1,_⟩,⟨a2,_⟩,⟨a3,_⟩⟩:=ok;refine⟨⟨aw,λs hs=>?_⟩,⟨aw,λr hr=>?_⟩,⟨aw,λx hx=>?_⟩⟩
 .have:=a1 s hs;unfold IP reachBytes at this;omega
 .have q:=pq.1 h5 r hr;unfold Bi at q;simp only[rD,gR,not_or,eK]at q;have:=a2 r hr;unfold oL.ok reachBytes at this;omega
 .have q:=pq.1 h4 x hx;unfold Bh at q;simp only[rD,gR,not_or,eK]at q;omega
def Hn(h:kD s=false):mn s.first=false/\s.threads.length<=20/\s.zJ.length<=5000/\∀l∈s.threads,l.length<=40/\∀o∈l,mn o.config=false/\o.host.length<=100/\o.path.length<=100:=by
 unfold kD at h;simp only[pU,pY,eK]at h;obtain⟨⟨⟨h1,h2⟩,h3⟩,h4⟩:=h;refine⟨h1,h2,h3,λl hl=>?_⟩;have q:=pq.1 h4 l hl;unfold mz at q;simp only[rD,gR,not_or,eK]at q;refine⟨q.1,λo ho=>?_⟩;have q2:my o=false:=pq.1 (aq q.2) o ho |> λz=>by simpa using z
 unfold my at q2;simp only[pU,pY,eK]at q2;exact q2
def S9(ok:s.AL):GG s:=by
 obtain⟨⟨⟨_,b1⟩,⟨_,b2⟩,⟨_,b3⟩⟩,⟨b4,b5⟩,_,_⟩:=ok;unfold reachBytes at b1 b2 b3 b5;refine⟨⟨aw,aw,aw⟩,aw,λl hl=>?_,λl hl o ho=>?_⟩
 .have:=(b4 l hl).2;unfold reachBytes at this;omega
 .obtain⟨⟨_,_,_,⟨⟨_,c1⟩,⟨_,c2⟩,⟨_,c3⟩⟩⟩,_⟩:=(b4 l hl).1 o ho;unfold reachBytes at c1 c2 c3;exact⟨aw,aw,aw⟩
def zuE{out:List fK}{n x:fK}(h:x∈vY out n):x∈out\/x=n:=by
 unfold vY at h;split at h
 .exact .inl h
 .simpa using h
def HJ{α:Type}{f:List fK->α->List fK}{P:fK->Prop}:∀(l:List α) (out:List fK),(∀y∈l,∀o x,(∀z∈o,P z)->x∈f o y->P x)->(∀z∈out,P z)->∀x∈l.foldl f out,P x
 |[],_,_,h,x,hx=>h x hx
 |y::l,out,hf,h,x,hx=>HJ l (f out y) (λy hy=>hf y (pL _ hy)) (λz hz=>hf y (pX ..) out z h hz) x hx
def Xj(ok:s.AL):∀x∈xt s,x.length<=reachBytes:=by
 have cfg:∀(c:iq) (out:List fK),c.ok->(∀z∈out,z.length<=reachBytes)->∀x∈kP out c,x.length<=reachBytes:=λc out hc ho=>
  HJ c.zc out (λy hy o x hz hx=>by
   rcases zuE hx with h|rfl
   .exact hz x h
   .exact hc.1.1 _ hy) ho
 refine HJ s.threads _ (λl hl o x hz hx=>?_) (cfg s.first [] ok.1 aj);refine HJ l o (λp hp o x hz hx=>?_) hz x hx;unfold mw at hx;split at hx
 .exact cfg p.config o ((ok.2.1.1 l hl).1 p hp).1.2.2.2 hz x hx
 .exact hz x hx
def T8(h:kD s=false)(ok:s.AL):v7 s:=by
 obtain⟨h1,h2,h3,h4⟩:=Hn h;have w:=S9 ok;refine⟨⟨(HC h1 ok.1).k,w.threads,w.ops,aw⟩,λ_=>HC h1 ok.1,λl hl o ho=>(HC ((h4 l hl).2 o ho).1 ((ok.2.1.1 l hl).1 o ho).1.2.2.2).k,Xj ok,λl hl o ho=>?_,ok.2.2.1⟩;have a:=(h4 l hl).2 o ho;have b:=(ok.2.1.1 l hl).1 o ho;exact⟨aw,aw,b.2.1,b.2.2,λ_=>(HC a.1 b.1.2.2.2).k⟩
def na(s:fU)(n:Nat):fU:=⟨s.first,s.threads,s.zJ.take n⟩
def zx2(n:Nat)(h:lM s=true):lM (na s n)=true:=by
 unfold lM at h|-;simp only[gH,gR,pK]at h|-;obtain⟨⟨⟨⟨⟨h1,h2⟩,h3⟩,h4⟩,h5⟩,h6⟩:=h;refine⟨⟨⟨⟨⟨h1,h2⟩,h3⟩,?_⟩,h5⟩,?_⟩
 .show(s.zJ.take n).length<=4000;simp;omega
 .rw[pq]at h6|-
  exactλx hx=>h6 x (rH hx)
def Qw(n:Nat)(h:(qm s).2=0):qm (na s n)=qm s:=by
 obtain⟨q,e⟩:=jI h;have q2:=zx2 n q;unfold qm;rw[gz q,gz q2]
 rfl
def zzN{n:Nat}(h:(qm s).2=0)(hn:n<=s.zJ.length):q8 (na s n)=ir (iE s) s.zJ n:=by
 have e:iE (na s n)=iE s:=by unfold iE;rw[Qw n h];rfl
 unfold q8;rw[e];unfold ir;show((s.zJ.take n).take (s.zJ.take n).length).foldl xk _=_;rw[pI]
def zws(s:Wor.iC)(p:Int):s.2.2 <+:(xk s p).2.2:=by
 unfold xk;split
 .unfold Jo;split
  .split
   .split
    .exact List.prefix_append _ _
    .exact ud _
   .exact ud _
  .exact ud _
 .exact ud _
def QY:∀(l:List Int) (s:Wor.iC),s.2.2 <+:(l.foldl xk s).2.2
 |[],s=>ud _
 |p::l,s=>(zws s p).trans (QY l (xk s p))
def QQ{s:Wor.iC}{n m:Nat}(h:n<=m):ir s l m=((l.take m).drop n).foldl xk (ir s l n):=by
 unfold ir;rw[<-eX]
 congr 1
 have:l.take n=(l.take m).take n:=by rw[List.take_take];congr 1;omega
 rw[this,sC]
def zzO{s:Wor.iC}{n m:Nat}(h:n<=m):(ir s l n).2.2 <+:(ir s l m).2.2:=by
 rw[QQ h];exact QY _ _
def LV{N K:Nat}{s:Wor.iC}(gi:GI N K s.1 s.2.1)(l:List Int):∀k,k<=l.length->N+k<=100000000->K+k<=1099511627776->(ir s l k).2.2.length<=s.2.2.length+k/\((ir s l k).2.2.length=s.2.2.length+k\/qD (ir s l k).2.1 (ir s l k).2.1.length=[])
 |0,_,_,_=>⟨gG _,.inl V⟩
 |k+1,hk,hN,hK=>by
  obtain⟨i1,i2⟩:=LV gi l k aw aw aw;have g:=kh gi l k aw aw aw;rw[xZ (gk aw)];rcases jO g l[k] aw aw with⟨ha,e⟩|⟨t,x,o,r,hat,_,_,_,_,_,_,e,_⟩
  .rw[e];exact⟨aw,.inr ha⟩
  .rcases i2 with i2|ha
   .rw[e];have z:((ir s l k).2.2++[ou r.2.2 x]).length=s.2.2.length+(k+1):=by rw[pz,i2];rfl
    exact⟨uq z,.inl z⟩
   .rw[ha]at hat;exact nomatch hat
def zsY(ok:v7 s)(h:(qm s).2=0){n:Nat}(hn:n<=s.zJ.length):
  (zZ (na s n)).2.2=0/\(zZ (na s n)).1.length<=(zZ s).1.length/\(zZ s).1.take (zZ (na s n)).1.length=(zZ (na s n)).1/\qQ (zZ (na s n)).2.1/\mB 5000 (zZ (na s n)).2.1/\
   ((zZ (na s n)).1.length=n\/(zZ (na s n)).1.length=(zZ s).1.length)/\(zZ s).1.length<=4000:=by
 have hb:(qm (na s n)).2=0:=by rw[Qw n h];exact h
 have e1:zZ (na s n)=((ir (iE s) s.zJ n).2.2,(ir (iE s) s.zJ n).1,0):=by
  unfold zZ;rw[gz hb,zzN h hn]
 have e2:zZ s=((ir (iE s) s.zJ s.zJ.length).2.2,(ir (iE s) s.zJ s.zJ.length).1,0):=by
  unfold zZ;rw[gz h]
  rfl
 rw[e1,e2];dsimp only;have gi:=xf ok h;obtain⟨q,_⟩:=jI h;obtain⟨_,_,_,p4,_,_⟩:=jF q;have pre:=zzO (s:=iE s) (l:=s.zJ) hn;have l1:=LV gi s.zJ n hn aw aw;have l2:=LV gi s.zJ s.zJ.length (gG _) aw aw;have z:(iE s).2.2.length=0:=rfl;have g:=(EL ok h n hn).mono (N':=5000) (K':=n) aw (gG _);refine⟨rfl,pre.length_le,(List.prefix_iff_eq_take.1 pre).symm,g.st.qI,g.st.ty,?_,aw⟩;rcases l1.2 with l|ha
 .exact .inl aw
 .refine .inr ?_;rw[QQ hn,zsV ha]
def zwd(h:(zZ s).2.2≠0):(zZ s).1=[]/\(qm s).2≠0:=by
 unfold zZ at h|-;split at h
 .exact absurd V h
 .rename_i q;rw[gp q];exact⟨rfl,q⟩
def D5(h:(zZ s).2.2=0):(qm s).2=0:=by
 unfold zZ at h;split at h
 .assumption
 .exact h
def wx(m:fD)(r:Wor×fD×fG):Prop:=r.2.2.done=r.2.1.done/\(r.2.1.done=true->r.2.2.answer=r.2.1.answer)/\r.2.2.zf=m.zf
def zut(hd:m.done=false)(h:BM w m=some r):wx m r:=by
 unfold BM at h;repeat' split at h
 all_goals (first|(cases h;done)|(obtain rfl:=gA h;unfold wx;(try dsimp only);first|exact⟨hd.symm,λq=>absurd (q.symm.trans hd) ar,rfl⟩|exact⟨rfl,λ_=>V,rfl⟩))
def OO{k p:Int}(hd:m.done=false)(h:vn w m k p=some r):wx m r:=by
 unfold vn at h;repeat' split at h
 all_goals (first|(cases h;done)|(obtain rfl:=gA h;unfold wx;(try dsimp only);first|exact⟨hd.symm,λq=>absurd (q.symm.trans hd) ar,rfl⟩|exact⟨rfl,λ_=>V,rfl⟩))
def Hh{f:fT->Wor×fD×fG}(h:w9 w m f=some r)(hf:∀x,wx m (f x)):wx m r:=by
 unfold w9 at h;split at h
 .cases h
 .obtain⟨x,_,rfl⟩:=gT.1 h;exact hf x
def vX{o:Option α}{f:α->Wor×fD×fG}(h:o.map f=some r)(hf:∀x,wx m (f x)):wx m r:=by
 obtain⟨x,_,rfl⟩:=gT.1 h;exact hf x
def qH{m':fD}{e:fG}(h1:m'.done=false)(h2:e.done=false)(h3:e.zf=m.zf):wx m (w,m',e):=⟨h2.trans h1.symm,λq=>absurd (q.symm.trans h1) ar,h3⟩
def zC{c:Prop}[Decidable c]{a b x:α}(h:(if c then a else b)=x):a=x\/b=x:=by
 by_cases q:c
 .rw[gz q]at h;exact .inl h
 .rw[gp q]at h;exact .inr h
def W5(hd:m.done=false)(h:qe w m v g e=some r):wx m r:=by
 have rt:(j8 m v).done=false:=by
  unfold j8;repeat' split
  all_goals exact hd
 unfold qe at h;rcases zC h with h|h
 .exact zut hd h
 rcases zC h with h|h
 .obtain rfl:=gA h;refine qH ?_ V V;unfold DL;split <;> exact hd
 rcases zC h with h|h
 .exact Hh h λx=>qH hd V V
 rcases zC h with h|h
 .refine Hh h λx=>?_
  refine qH ?_ ?_ ?_
  .split
   .exact hd
   .exact rt
  .split <;> rfl
  .split <;> rfl
 rcases zC h with h|h
 .exact vX h λx=>qH (by unfold Ii;exact hd) V V
 rcases zC h with h|h
 .obtain rfl:=gA h;exact dx
 rcases zC h with h|h
 .exact vX h λx=>qH hd V V
 rcases zC h with h|h
 .obtain rfl:=gA h;refine qH ?_ V V;split <;> exact hd
 rcases zC h with h|h
 .exact vX h λx=>qH hd V V
 rcases zC h with h|h
 .split at h
  .obtain rfl:=gA h;exact dx
  .obtain rfl:=gA h;exact dx
 rcases zC h with h|h
 .obtain rfl:=gA h;exact dx
 rcases zC h with h|h
 .exact OO hd h
 rcases zC h with h|h
 .exact OO hd h
 rcases zC h with h|h
 .exact Hh h λx=>qH hd V V
 rcases zC h with h|h
 .obtain rfl:=gA h;exact dI
 .cases h
def W4(hd:m.done=false)(h:jW w m v g e=some r):wx m r:=by
 unfold jW at h;split at h
 .obtain rfl:=gA h;exact dx
 split at h
 .obtain rfl:=gA h;exact dx
 split at h
 .split at h
  .obtain rfl:=gA h;exact dx
  .obtain rfl:=gA h;exact dx
 split at h
 .obtain rfl:=gA h;exact dx
 split at h
 .exact Hh h λx=>⟨rfl,λ_=>V,rfl⟩
 split at h
 .obtain rfl:=gA h;exact dI
 .cases h
def ZN(hd:m.done=false)(h:yg w m=some r):wx m r:=by
 unfold yg at h;split at h
 .split at h
  .obtain rfl:=gA h;exact qH (by unfold nI;exact hd) V V
  .obtain rfl:=gA h;exact dI
 split at h
 .obtain rfl:=gA h;exact dx
 split at h
 .split at h
  .cases h
  .obtain rfl:=gA h;exact dI
 .cases h
def XY(hd:m.done=false)(h:yM w m=some r):wx m r:=by
 unfold yM at h;split at h
 .split at h
  .obtain rfl:=gA h;exact dI
  .exact vX h λx=>⟨rfl,λ_=>V,rfl⟩
 .cases h
def Rq(w:Wor)(m:fD)(hd:m.done=false):wx m (i6 w m):=by
 unfold i6;split
 .exact dI
 .refine qH ?_ ?_ ?_
  .unfold Ak;repeat' split
   all_goals exact hd
  .unfold IU;rfl
  .unfold IU;rfl
def Wv(hd:m.done=false)(h:qZ w m=some r):wx m r:=by
 unfold qZ at h;rcases zC h with h|h
 .obtain rfl:=gA h;split
  .exact dx
  .exact dI
 rcases zC h with h|h
 .obtain rfl:=gA h;exact dx
 rcases zC h with h|h
 .refine vX h λx=>qH ?_ V V
  unfold n7;repeat' split
  all_goals exact hd
 rcases zC h with h|h
 .obtain rfl:=gA h;split
  .exact dx
  .exact dx
 rcases zC h with h|h
 .obtain rfl:=gA h;split
  .exact Rq w (iV m 8 0) hd
  .refine qH ?_ V V;unfold oO;repeat' split
   all_goals exact hd
 rcases zC h with h|h
 .obtain⟨v,_,h⟩:=gQ.1 h;refine vX h λx=>qH ?_ ?_ ?_
  .unfold nD;repeat' split
   all_goals exact hd
  .unfold GK;rfl
  .unfold GK;rfl
 rcases zC h with h|h
 .obtain⟨v,_,h⟩:=gQ.1 h;obtain⟨x,_,h⟩:=gQ.1 h;rcases zC h with h|h
  .obtain rfl:=gA h;refine qH ?_ V V;unfold Cr;exact hd
  .cases h
 rcases zC h with h|h
 .obtain rfl:=gA h;exact Rq w m hd
 rcases zC h with h|h
 .refine vX h λx=>qH ?_ V V
  split <;> exact hd
 rcases zC h with h|h
 .obtain⟨v,_,h⟩:=gQ.1 h;rcases zC h with h|h
  .obtain rfl:=gA h;exact dx
  .cases h
 .cases h
def XZ(hd:m.done=false)(h:yf w m=some r):wx m r:=by
 unfold yf at h;split at h
 .obtain⟨v,_,h⟩:=gQ.1 h;refine vX h λx=>⟨rfl,λq=>?_,rfl⟩
  show(if (jo w m x).done then (jo w m x).answer else oq)=(jo w m x).answer;rw[gz q]
 .cases h
def Fw(hd:m.done=false)(h:vj w m=some r):wx m r:=by
 unfold vj at h;split at h
 .cases h
 split at h
 .cases h
 split at h
 .cases h
 split at h
 .exact W5 hd h
 split at h
 .exact W4 hd h
 split at h
 .exact ZN hd h
 split at h
 .exact XY hd h
 split at h
 .exact Wv hd h
 split at h
 .exact XZ hd h
 .cases h
def Bn(X:List fM):Nat:=(X.map (·.done)).sum
def Ih{X:List Nat}:∀{t:Nat} {a b:Nat},X[t]?=some a->(X.set t b).sum+a=X.sum+b:=by
 induction X with
 |nil=>intro t a b h;cases h
 |cons y X ih=>
  intro t a b h;cases t with
  |zero=>
   have:y=a:=aq h
   subst this;simp only[sA,rI];omega
  |succ t=>
   have:=ih (t:=t) (a:=a) (b:=b) tO;simp only[uo,rI];omega
def zzT{X:List fM}{t:Nat}{x y:fM}(h:X[t]?=some x):Bn (X.set t y)+x.done=Bn X+y.done:=by
 unfold Bn;rw[rp];exact Ih (by rw[gy,h];rfl)
def vU(x:fM)(m:fD):(ql x m).done=x.done+(if m.done=true then 1 else 0):=by
 unfold Wor.ql;split <;> rfl
def RY{N K:Nat}{s:Wor.iC}(gi:GI N K s.1 s.2.1)(l:List Int):∀k,k<=l.length->N+k<=100000000->K+k<=1099511627776->(ir s l k).2.2.countP (·.done)+Bn s.2.1=s.2.2.countP (·.done)+Bn (ir s l k).2.1
 |0,_,_,_=>rfl
 |k+1,hk,hN,hK=>by
  have ih:=RY gi l k aw aw aw;have g:=kh gi l k aw aw aw;rw[xZ (gk aw)];rcases jO g l[k] aw aw with⟨ha,e⟩|⟨t,x,o,r,hat,hx,ho,hsu,htm,hst,_,e,_⟩
  .rw[e];exact ih
  .rw[e];dsimp only;obtain⟨v,g',e',su⟩:=xN hsu;have tl:=Fw su.done hst;have d:=zzT (y:=ql x r.2.1) hx;rw[vU]at d;have q:(ou r.2.2 x).done=r.2.1.done:=tl.1;rw[um,eh,q];omega
def XF{l:List fG}(h:(Cal.iH l).2=0):(Cal.iH l).1.countP (λc=>decide (0<=c.iv))=l.countP (·.done)/\(Cal.iH l).1.length<=l.length:=by
 unfold Cal.iH at h|-;cases hb:Cal.vZ l l.length with
 |none=>rw[hb]at h;cases h
 |some b=>
  obtain⟨h1,h2,h3⟩:=Cal.K1 l hb;refine⟨?_,(Cal.Ic hb).2⟩;rw[pI]at h3;exact h3
end Go.Run
