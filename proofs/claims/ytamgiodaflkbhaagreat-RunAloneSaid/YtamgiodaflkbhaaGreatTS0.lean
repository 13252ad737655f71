import Derived.Test.YtamgiodaflkbhaaGreatTO
import Derived.Test.YtamgiodaflkbhaaGreatTQ
import Derived.Test.YtamgiodaflkbhaaGreatTZ
import Derived.Test.YtamgiodaflkbhaaGreatTS8
set_option linter.all false
set_option maxRecDepth 100000
set_option maxHeartbeats 4000000
namespace Go.Hy
open Go.Ab Go.Proofs Tryz
def TI:zO prog 98 zU fj.ok:=
 zO.map (zO.struct underlying98 ak (zV.cons V (yx) (zV.cons V (zO.bool underlying4) (zV.cons V (zO.int underlying3) (zV.cons V (zO.bool underlying4) (zV.nil _)))))) (λx=>⟨x.1,x.2.1,x.2.2.1,x.2.2.2.1⟩) λx h=>⟨⟨h.1,wf_i64 h.2.2.1⟩,rfl⟩
def SC:zO prog 34 (λl:List fj=>[lL l]) (λl=>(∀x∈l,x.ok)/\l.length*40<=reachBytes):=
 zO.slice (sz:=4) (by_:=40) underlying34 ak ak aj (λ_=>V) TI
def TK:zO prog 157 qh fg.ok:=
 zO.map (zO.struct underlying157 ak (zV.cons V (zO.int underlying3) (zV.cons V (zO.int underlying3) (zV.cons V (zO.bool underlying4) (zV.nil _))))) (λx=>⟨x.1,x.2.1,x.2.2.1⟩) λx h=>⟨⟨wf_i64 h.1,wf_i64 h.2.1⟩,rfl⟩
def SD:zO prog 36 (λl:List fg=>[lR l]) (λl=>(∀x∈l,x.ok)/\l.length*24<=reachBytes):=
 zO.slice (sz:=3) (by_:=24) underlying36 ak ak aj (λ_=>V) TK
def UY:zO prog 151 zu En.ok:=
 zO.map (zO.struct underlying151 ak (zV.cons V (zO.int underlying52) (zV.cons V Ll (zV.cons V (zO.int underlying3) (zV.nil _))))) (λx=>⟨x.1,x.2.1,x.2.2.1⟩) λx h=>⟨⟨wf_u64 h.1,⟨λy hy=>wf_i64 (h.2.1.1 y hy),by have:=h.2.1.2;unfold reachBytes at this;show x.2.1.length<=_;omega⟩,wf_i64 h.2.2.1⟩,rfl⟩
def Te:zO prog 109 (λl:List En=>[lE l]) (λl=>(∀x∈l,x.ok)/\l.length*40<=reachBytes):=
 zO.slice (sz:=3) (by_:=40) underlying109 ak ak aj (λ_=>V) UY
def Gr.okW(g:Gr):Prop:=u64 g.zC/\(∀e∈g.ends,e.ok)/\g.ends.length*40<=reachBytes
def UZ:zO prog 111 zy Gr.okW:=
 zO.map (zO.struct underlying111 ak (zV.cons V (zO.int underlying52) (zV.cons V Te (zV.nil _)))) (λx=>⟨x.1,x.2.1⟩) λx h=>⟨⟨wf_u64 h.1,h.2.1⟩,rfl⟩
def Tf:zO prog 104 (λl:List Gr=>[lG l]) (λl=>(∀x∈l,x.okW)/\l.length*32<=reachBytes):=
 zO.slice (sz:=2) (by_:=32) underlying104 ak ak aj (λ_=>V) UZ
def fU.okW(r:fU):Prop:=r.host.length<=reachBytes/\r.path.length<=reachBytes
def TL:zO prog 131 q9 fU.okW:=
 zO.map (zO.struct underlying131 ak (zV.cons V (zO.int underlying3) (zV.cons V (yx) (zV.cons V (yx) (zV.cons V (zO.int underlying3) (zV.nil _)))))) (λx=>⟨x.1,x.2.1,x.2.2.1,x.2.2.2.1⟩) λx h=>⟨⟨h.2.1,h.2.2.1⟩,rfl⟩
def SE:zO prog 84 (λl:List fU=>[vM l]) (λl=>(∀x∈l,x.okW)/\l.length*48<=reachBytes):=
 zO.slice (sz:=4) (by_:=48) underlying84 ak ak aj (λ_=>V) TL
def Sna.okW(s:Sna):Prop:=((∀x∈s.zc,BM x)/\s.zc.length*16<=reachBytes)/\((∀r∈s.rules,r.okW)/\s.rules.length*48<=reachBytes)/\((∀x∈s.zi,x.ok)/\s.zi.length*56<=reachBytes)
def Tb:zO prog 86 qP Sna.okW:=
 zO.map (zO.struct underlying86 ak (zV.cons V Lm (zV.cons V SE (zV.cons V Lk (zV.nil _))))) (λx=>⟨x.1,x.2.1,x.2.2.1⟩) λx h=>⟨⟨h.1,h.2.1,h.2.2.1⟩,rfl⟩
def eX.okW(v:eX):Prop:=v.snap.okW/\((∀g∈v.zg,g.okW)/\v.zg.length*32<=reachBytes)
def Tc:zO prog 106 zt eX.okW:=
 zO.map (zO.struct underlying106 ak (zV.cons V Tb (zV.cons V Tf (zV.cons V (zO.bool underlying4) (zV.nil _))))) (λx=>⟨x.1,x.2.1,x.2.2.1⟩) λx h=>⟨⟨h.1,h.2.1⟩,by simp[zt]⟩
def SF:zO prog 33 (λl:List eX=>[lV l]) (λl=>(∀x∈l,x.okW)/\l.length*104<=reachBytes):=
 zO.slice (sz:=5) (by_:=104) underlying33 ak ak aj (λ_=>V) Tc
def U3:zO prog 155 (λl:List Int=>[lU l]) (λl=>(∀x∈l,(Lit.int .u64 x).wf=true)/\l.length*8<=reachBytes):=
 zO.slice (sz:=1) (by_:=8) underlying155 ak ak aj (λ_=>V) (zO.int underlying52)
def Td:zO prog 35 (λl:List (List Int)=>[ff l]) (λl=>(∀r∈l,(∀x∈r,(Lit.int .u64 x).wf=true)/\r.length*8<=reachBytes)/\l.length*24<=reachBytes):=
 zO.slice (sz:=1) (by_:=24) underlying35 ak ak aj (λ_=>V) U3
structure Wor.okW(w:Wor):Prop where
 pins:w.pins.length*8<=reachBytes
 zd:(∀v∈w.zd,v.okW)/\w.zd.length*104<=reachBytes
 zc:(∀x∈w.zc,x.ok)/\w.zc.length*40<=reachBytes
 counts:(∀r∈w.counts,(∀x∈r,(Lit.int .u64 x).wf=true)/\r.length*8<=reachBytes)/\w.counts.length*24<=reachBytes
 zn:w.zn.length*24<=reachBytes
def U2:zO prog 38 xk Wor.okW:=
 zO.map (zO.struct underlying38 ak (zV.cons V (zO.int underlying3) (zV.cons V (zO.int underlying3) (zV.cons V (zO.int underlying3) (zV.cons V Ll (zV.cons V SF (zV.cons V SC (zV.cons V Td (zV.cons V SD (zV.nil _))))))))))
  (λx=>⟨x.1,x.2.1,x.2.2.1,x.2.2.2.1,x.2.2.2.2.1,x.2.2.2.2.2.1,x.2.2.2.2.2.2.1,x.2.2.2.2.2.2.2.1⟩) λx h=>⟨⟨h.2.2.2.1.2,h.2.2.2.2.1,h.2.2.2.2.2.1,h.2.2.2.2.2.2.1,h.2.2.2.2.2.2.2.1.2⟩,rfl⟩
def arg_Wor:kH prog 38 (λx=>.agg (xk x)) Wor.okW:=zO.Kd underlying38 U2
def ft.okW(o:ft):Prop:=o.ok/\i64 o.d0/\i64 o.d1
def TJ:zO prog 48 vx ft.okW:=
 zO.map (zO.struct underlying48 ak (zV.cons V (zO.int underlying3) (zV.cons V (yx) (zV.cons V (yx) (zV.cons V (yx) (zV.cons V (zO.int underlying3) (zV.cons V (zO.int underlying3) (zV.cons V (zO.int underlying3) (zV.cons V UW (zV.nil _)))))))))) (λx=>⟨x.1,x.2.1,x.2.2.1,x.2.2.2.1,x.2.2.2.2.1,x.2.2.2.2.2.1,x.2.2.2.2.2.2.1,x.2.2.2.2.2.2.2.1⟩) λx h=>⟨⟨⟨h.2.1,h.2.2.1,h.2.2.2.1,h.2.2.2.2.2.2.2.1⟩,wf_i64 h.2.2.2.2.1,wf_i64 h.2.2.2.2.2.1⟩,by simp[vx]⟩
def arg_OpnW:kH prog 48 (λx=>.agg (vx x)) ft.okW:=zO.Kd underlying48 TJ
def fe.Dk(a:fe):Prop:=i64 a.listen
def TH:zO prog 55 jr fe.Dk:=
 zO.map (β:=fe) (enc':=jr) (wf':=fe.Dk) (zO.struct underlying55 ak (zV.cons V (zO.int underlying3) (zV.cons V (zO.int underlying3) (zV.cons V (zO.int underlying3) (zV.cons V (zO.int underlying3) (zV.cons V (zO.int underlying3) (zV.cons V (zO.int underlying3) (zV.cons V (zO.int underlying3) (zV.cons V U1 (zV.nil _)))))))))) (λx=>⟨x.1,x.2.1,x.2.2.1,x.2.2.2.1,x.2.2.2.2.1,x.2.2.2.2.2.1,x.2.2.2.2.2.2.1,x.2.2.2.2.2.2.2.1⟩) λx h=>⟨show i64 _ from wf_i64 h.2.2.2.2.2.1,by simp[jr,oX]⟩
def arg_lAL:kH prog 49 lA (λl:List fe=>(∀x∈l,x.Dk)/\l.length*104<=reachBytes):=
 zO.Um underlying49 (zO.slice (sz:=13) (by_:=104) underlying49 ak ak aj (λ_=>V) TH)
end Go.Hy
namespace Go.Wor
open Go.Ab Go.Proofs Tryz Go.Gat Go.Nam Go.Hos Go.Con Go.Sna Go.Pla
open Go.Hy hiding encI
variable{w:Wor}{s:Sna}
def Xy(h:Hy.Wor.okW w):B3 w:=by
 have r:reachBytes<2000000000000000:=aj
 have hv:=h.zd;refine⟨⟨by have:=h.pins;omega,by have:=hv.2;omega,by have:=h.zc.2;omega,by have:=h.counts.2;omega,by have:=h.zn;omega,λv m=>?_,λv m=>?_⟩,λv m=>?_,λv m g hg e he=>?_,λr hr=>by have:=(h.counts.1 r hr).2;omega⟩
 .have s:=(hv.1 v m).1;exact⟨by have:=s.1.2;omega,by have:=s.2.1.2;omega,by have:=s.2.2.2;omega⟩
 .have s:=(hv.1 v m).2;exact⟨by have:=s.2;omega,λg hg=>by have:=(s.1 g hg).2.2;omega⟩
 .have s:=(hv.1 v m).1;exact⟨by have:=s.1.2;omega,by have:=s.2.1.2;omega,by have:=s.2.2.2;omega,λx hx=>by have:=(s.2.2.1 x hx).2;omega⟩
 .exact((hv.1 v m).2.1 g hg).2.1 e he
def FJ(h:iC w=false):w.pins.length<=20/\w.zd.length<=40/\w.zc.length<=40/\oQ w.counts=false/\w.zn.length<=60/\∀v∈w.zd,mU v=false:=by
 unfold iC at h;simp only[rk,pM,pI]at h;obtain⟨⟨⟨⟨⟨h1,h2⟩,h3⟩,h4⟩,h5⟩,h6⟩:=h;exact⟨an,an,an,h4,an,λv hv=>by simpa using h6 v hv⟩
def JC{v:eX}(h:mU v=false):kC v.snap=false/\v.zg.length<=20/\∀g∈v.zg,g.ends.length<=20:=by
 unfold mU at h;simp only[rk,pM,pI]at h;obtain⟨⟨h1,h2⟩,h3⟩:=h;refine⟨h1,an,λg hg=>?_⟩;have:=h3 g hg;simp[Ax]at this;omega
def P9(h:kC s=false):s.zc.length<=20/\s.zi.length<=20/\s.rules.length<=50/\(∀r∈s.rules,r.host.length<=100/\r.path.length<=100)/\∀x∈s.zi,x.zL.length<=20/\x.name.length<=100:=by
 unfold kC at h;simp only[rk,pM,pI]at h;obtain⟨⟨⟨h1,h2⟩,h3⟩,h4⟩:=h;unfold Al at h3;simp only[rk,pM,pI]at h3;obtain⟨h5,h6⟩:=h3;refine⟨an,an,an,λr hr=>?_,λx hx=>?_⟩
 .have:=h6 r hr;simp[oF]at this;omega
 .have:=h4 x hx;simp[oV]at this;omega
def Ml(h:s.okW)(hb:kC s=false):yR s:=by
 have r:reachBytes<2000000000000000:=aj
 obtain⟨h1,h2,h3,h4,h5⟩:=P9 hb;exact⟨⟨an,λx hx=>by have:=h.1.1 x hx;unfold BM at this;omega⟩,⟨an,λr hr=>by have:=h4 r hr;omega⟩,⟨an,λx hx=>by have:=h5 x hx;omega⟩⟩
def Xv(h:Hy.Wor.okW w)(hb:iC w=false):fG 60 w:=by
 obtain⟨b1,b2,b3,b4,b5,b6⟩:=FJ hb;refine⟨an,an,an,λv hv=>?_,h.zc.1⟩;have s:=h.zd.1 v hv;exact⟨Ml s.1 (JC (b6 v hv)).1,λg hg=>⟨(s.2.1 g hg).1,(s.2.1 g hg).2.1⟩⟩
def Xd(h:Hy.Wor.okW w)(hb:iC w=false):fa w:=by
 obtain⟨b1,b2,b3,b4,b5,b6⟩:=FJ hb;refine⟨an,⟨an,λv hv=>?_⟩,⟨an,h.zc.1⟩,?_,an⟩
 .have s:=h.zd.1 v hv;have q:=JC (b6 v hv);exact⟨Ml s.1 q.1,an,λg hg=>⟨by have:=q.2.2 g hg;omega,(s.2.1 g hg).2.1⟩⟩
 .unfold oQ at b4;simp only[rk,pM,pI]at b4;exact⟨an,λr hr=>by have:=b4.2 r hr;simp at this;omega⟩
def WS{c:fC}(h:c.ok)(hb:iB c=false):jv c:=by
 have r:reachBytes<2000000000000000:=aj
 unfold iB at hb;simp only[rk,pM,pI]at hb;obtain⟨⟨⟨⟨b1,b2⟩,b3⟩,b4⟩,b5⟩:=hb;refine⟨⟨an,λs hs=>by have:=h.1.1 s hs;unfold BM at this;omega⟩,⟨an,λr hr=>?_⟩,⟨an,λx hx=>?_⟩⟩
 .have q:=h.2.1.1 r hr;have:=b5 r hr;simp[nQ]at this;unfold mr.ok at q;omega
 .have q:=h.2.2.1 x hx;unfold fq.ok at q;omega
end Go.Wor
namespace Go.Wor
open Go.Ab Go.Proofs Tryz Go.Gat Go.Nam Go.Hos Go.Con Go.Sna Go.Pla Go.Dep
open Go.Hy hiding encI
def runAlone_law(w:Wor)(t:Int)(o:ft)(given:List fe)(hw:Hy.Wor.okW w)(ho:o.okW)(hA:∀a∈given,a.Dk)(hl:given.length*104<=reachBytes):th 4 [] [Cw w,I t,.agg (vx o),lA given] (Bo true) []:=by
 have hk:=Xy hw;have r:reachBytes<2000000000000000:=aj
 have hcl:=ho.1.2.2.2;have mg:(given.map jr).length=given.length:=gO ..;refine ab func4 ?_;refine af (RC w hk.wk) ?_;refine⟨λh1=>?_,λh1=>?_⟩
 ·(refine dd ?_;refine td ?_;exact uI)
 refine dd ?_;refine af (SW o.config (by have:=hcl.1.2;omega) (by have:=hcl.2.1.2;omega) (by have:=hcl.2.2.2;omega)) ?_;refine⟨λh3=>?_,λh3=>?_⟩
 ·(refine dd ?_;refine td ?_;exact uI)
 refine dd ?_;refine⟨λh4=>?_,λh4=>?_⟩
 ·(refine dd ?_;refine td ?_;exact uI)
 have h4:o.host.length<=100:=by simp at h4;omega
 refine dd ?_;refine⟨λh5=>?_,λh5=>?_⟩
 ·(refine dd ?_;refine td ?_;exact uI)
 have h5:o.path.length<=100:=by simp at h5;omega
 refine dd ?_;rw[mg];refine⟨λh6=>?_,λh6=>?_⟩
 ·(refine dd ?_;refine td ?_;exact uI)
 have h6:given.length<=100:=by simp at h6;omega
 have ok:=Xd hw h1;have ty:=Xv hw h1;obtain⟨mt,pc⟩:=FU (t:=t) (o:=o) (given:=given) ⟨an,an,ho.2.1,ho.2.2,WS hcl h3⟩ hA;obtain⟨hg,hk2⟩:=GS hk 10000 (k:=0) V aj ty ok mt λ_ h=>absurd h pc
 have pa:=Ir (Beg.Fg t o given an) hg;have pb:=R3 (Beg.Pd t o given an) hg;generalize mT w 10000 w (Beg.yg t o given)=q at pa pb hk2;obtain⟨w2,a,n⟩:=q;refine zac ?_
 refine af pa ?_;refine af pb ?_;refine af Go.Run.PD ?_;refine td ?_
 refine af (Xr w2 hk2) ?_;refine td ?_
 refine⟨ak,dd ?_⟩;refine zcb ?_;refine zcb ?_;refine td ?_
 exact uI
end Go.Wor
