import Derived.Test.YtoeaoedlpmohoaaGreatSR
import Derived.Test.YtoeaoedlpmohoaaGreatSR1
set_option linter.all false
set_option maxRecDepth 100000
set_option maxHeartbeats 4000000
namespace Go.Run
open Go.Ab Go.Proofs Tryz Go.Gat Go.Nam Go.Hos Go.Con Go.Sna Go.Pla Go.Ply Go.Wor
open Go.Hy hiding encI
structure Qu(w w':Wor)(i:Nat):Prop where
 pins:w'.pins=w.pins
 zn:w'.zn=w.zn
 zr:w'.zr=w.zr
 current:w'.current=w.current
 len:w'.zd.length=w.zd.length
 P1:∀j,j≠i->w'.zd[j]?=w.zd[j]?
def ve{w w':Wor}{i:Nat}(h1:w'.pins=w.pins)(h2:w'.zn=w.zn)(h3:w'.zr=w.zr)(h4:w'.current=w.current)(h5:w'.zd=w.zd):Qu w w' i:=⟨h1,h2,h3,h4,by rw[h5],λj _=>by rw[h5]⟩
def GL{w w':Wor}{i:Nat}{v':lJ}(h1:w'.pins=w.pins)(h2:w'.zn=w.zn)(h3:w'.zr=w.zr)(h4:w'.current=w.current)(h5:w'.zd=w.zd.set i v'):Qu w w' i:=
 ⟨h1,h2,h3,h4,by rw[h5,rX],λj hj=>by rw[h5,pX (λz=>hj z.symm)]⟩
def HE(w:Wor)(m:lh)(r:Wor×lh×lD):Prop:=
 (m.pc=0/\r.1=w/\r.2.1={m with zn:=w.zn,pc:=1})\/
 (m.pc=1/\r.1=BK w m.zg.toNat (IntKind.i64.wrap (m.zn+1))/\r.2.1={m with pc:=2})\/
 (m.pc=2/\r.1=w/\r.2.1={m with zn:=w.zn,pc:=if w.zn=m.zn then 3 else 1})\/
 (m.pc=3/\r.1=w/\r.2.1.version=w.current/\r.2.1.zn=m.zn/\4<=r.2.1.pc/\r.2.1.done=false)\/
 (4<=m.pc/\m.pc<=22/\r.2.1.version=m.version/\r.2.1.zn=m.zn/\4<=r.2.1.pc/\r.2.1.done=false/\Qu w r.1 m.version.toNat)\/
 (m.pc=23/\r.1=BK w m.zg.toNat 0/\r.2.1.done=true)
def C2{w w':Wor}{m m':lh}{e:lD}(h1:4<=m.pc)(h2:m.pc<=22)(h3:m'.version=m.version)(h4:m'.zn=m.zn)(h5:4<=m'.pc)(h6:m'.done=false)(h7:Qu w w' m.version.toNat):HE w m (w',m',e):=.inr (.inr (.inr (.inr (.inl ⟨h1,h2,h3,h4,h5,h6,h7⟩))))
def Lo{α:Type}{w:Wor}{m:lh}{o:Option α}{f:α->Wor×lh×lD}{r:Wor×lh×lD}(h:o.map f=some r)(hf:∀x,HE w m (f x)):HE w m r:=by
 obtain⟨x,_,rfl⟩:=pS.1 h;exact hf x
def Pr{w:Wor}{m:lh}{f:mj->Wor×lh×lD}{r:Wor×lh×lD}(h:vW w m f=some r)(hf:∀x,HE w m (f x)):HE w m r:=by
 unfold vW at h;rcases zq h with h|h
 ·cases h
 ·exact Lo h hf
def UO{w:Wor}{m:lh}{k p:Int}{r:Wor×lh×lD}(h:xQ w m k p=some r):Qu w r.1 m.version.toNat/\r.2.1={m with pc:=p}:=by
 unfold xQ at h;split at h
 ·cases h
 ·split at h
  ·cases h
  ·obtain rfl:=pz h;exact⟨ve O O O O O,rfl⟩
def J8{w:Wor}{m:lh}{v:lJ}{g:Gr}{e:En}{r:Wor×lh×lD}(hd:m.done=false)(h0:0<=m.pc)(h:zY w m v g e=some r):HE w m r:=by
 have rt:(xe m v).version=m.version/\(xe m v).zn=m.zn/\(4<=m.pc->4<=(xe m v).pc)/\(xe m v).done=m.done:=by
  unfold xe;repeat' split
  all_goals exact⟨rfl,rfl,λh=>by first|exact h|exact pF au,rfl⟩
 unfold zY at h;rcases zA h with⟨p,h⟩|⟨p,h⟩
 ·unfold AN at h;rcases zA h with⟨q,h⟩|⟨_,h⟩
  ·obtain rfl:=pz h;exact .inl ⟨q,rfl,rfl⟩
  rcases zA h with⟨q,h⟩|⟨_,h⟩
  ·obtain rfl:=pz h;exact .inr (.inl ⟨q,rfl,rfl⟩)
  rcases zA h with⟨q,h⟩|⟨_,h⟩
  ·obtain rfl:=pz h;exact .inr (.inr (.inl ⟨q,rfl,rfl⟩))
  ·cases h
 rcases zA h with⟨p3,h⟩|⟨p3,h⟩
 ·obtain rfl:=pz h;refine .inr (.inr (.inr (.inl ⟨p3,rfl,?_,?_,?_,?_⟩)))
  ·split <;> rfl
  ·split <;> rfl
  ·split <;> exact(pF au)
  ·split <;> exact hd
 rcases zA h with⟨q,h⟩|⟨_,h⟩
 ·exact Pr h λx=>C2 aw aw O O (pF au) hd (ve O O O O O)
 rcases zA h with⟨q,h⟩|⟨_,h⟩
 ·refine Pr h λx=>C2 aw aw ?_ ?_ ?_ ?_ (ve O O O O O)
  ·split <;> first|rfl|exact rt.1
  ·split <;> first|rfl|exact rt.2.1
  ·split
   ·exact(pF au)
   ·exact rt.2.2.1 aw
  ·split
   ·exact hd
   ·exact rt.2.2.2.trans hd
 rcases zA h with⟨q,h⟩|⟨_,h⟩
 ·exact Lo h λx=>C2 aw aw O O (pF au) hd (GL O O O O O)
 rcases zA h with⟨q,h⟩|⟨_,h⟩
 ·obtain rfl:=pz h;exact C2 aw aw O O (pF au) hd (ve O O O O O)
 rcases zA h with⟨q,h⟩|⟨_,h⟩
 ·exact Lo h λx=>C2 aw aw O O (pF au) hd (ve O O O O O)
 rcases zA h with⟨q,h⟩|⟨_,h⟩
 ·obtain rfl:=pz h;refine C2 aw aw ?_ ?_ ?_ ?_ (ve O O O O O)
  ·split <;> rfl
  ·split <;> rfl
  ·split <;> exact(pF au)
  ·split <;> exact hd
 rcases zA h with⟨q,h⟩|⟨_,h⟩
 ·exact Lo h λx=>C2 aw aw O O (pF au) hd (ve O O O O O)
 rcases zA h with⟨q,h⟩|⟨_,h⟩
 ·rcases zq h with h|h
  ·obtain rfl:=pz h;exact C2 aw aw O O (pF au) hd (GL O O O O O)
  ·obtain rfl:=pz h;exact C2 aw aw O O (pF au) hd (ve O O O O O)
 rcases zA h with⟨q,h⟩|⟨_,h⟩
 ·obtain rfl:=pz h;exact C2 aw aw O O (pF au) hd (GL O O O O O)
 rcases zA h with⟨q,h⟩|⟨_,h⟩
 ·obtain⟨a,b⟩:=UO h;refine .inr (.inr (.inr (.inr (.inl ⟨aw,aw,?_,?_,?_,?_,a⟩)))) <;> rw[b]
  ·exact(pF au)
  ·exact hd
 rcases zA h with⟨q,h⟩|⟨_,h⟩
 ·obtain⟨a,b⟩:=UO h;refine .inr (.inr (.inr (.inr (.inl ⟨aw,aw,?_,?_,?_,?_,a⟩)))) <;> rw[b]
  ·dsimp only;split <;> decide
  ·exact hd
 rcases zA h with⟨q,h⟩|⟨_,h⟩
 ·exact Pr h λx=>C2 aw aw O O (pF au) hd (ve O O O O O)
 rcases zA h with⟨q,h⟩|⟨_,h⟩
 ·obtain rfl:=pz h;exact .inr (.inr (.inr (.inr (.inr ⟨q,rfl,rfl⟩))))
 ·cases h
def oP(v:lJ):List Int:=(xJ v).map (·.zj)
def Gx:∀(l:List Gr) (i k:Nat) {g:Gr} {e:En} (e':En) (tk:Int),l[i]?=some g->g.ends[k]?=some e->∃p,(l.flatMap (·.ends))[p]?=some e/\((l.set i {g with zx:=tk,ends:=g.ends.set k e'}).flatMap (·.ends))=(l.flatMap (·.ends)).set p e'
 |[],i,k,g,e,e',tk,h,_=>by cases h
 |x::l,0,k,g,e,e',tk,h,h2=>by
  have:x=g:=aq h
  subst this;have lt:=(gZ.1 h2).1;refine⟨k,?_,?_⟩
  ·rw[sO,pD lt];exact h2
  ·rw[u9,sO,sO,fK _ _ lt]
 |x::l,i+1,k,g,e,e',tk,h,h2=>by
  obtain⟨p,p1,p2⟩:=Gx l i k e' tk (aq h) h2;refine⟨x.ends.length+p,?_,?_⟩
  ·rw[sO,pT aw,Nat.add_sub_cancel_left];exact p1
  ·rw[fY,sO,sO,p2,eG _ _ aw,Nat.add_sub_cancel_left]
def LR(w w':Wor)(i:Nat):Prop:=∀(v v':lJ) (k:Nat),w.zd[i]?=some v->w'.zd[i]?=some v'->(oP v').length=(oP v).length/\((oP v)[k]?=some 0->(oP v')[k]?=some 0)
def w9{w w':Wor}{i:Nat}(h:w'.zd[i]?=w.zd[i]?):LR w w' i:=λv v' k h1 h2=>by rw[h,h1]at h2;cases h2;exact⟨rfl,λh3=>h3⟩
def Nj{w:Wor}{m:lh}{v:lJ}{g:Gr}{e e0:En}{tk hd ac:Int}(hv:w.zd[m.version.toNat]?=some v)(hg:v.zp[m.zi.toNat]?=some g)(he:g.ends[m.end_.toNat]?=some e)(ha:e.zj=0->ac=0):LR w (Aw w m v g e0 tk hd ac) m.version.toNat:=λx x' k h1 h2=>by
 rw[hv]at h1;cases h1
 have h2:(w.zd.set m.version.toNat (xN m v g e0 tk hd ac))[m.version.toNat]?=some x':=h2;rw[pC (gZ.1 hv).1]at h2;cases h2
 obtain⟨p,p1,p2⟩:=Gx v.zp m.zi.toNat m.end_.toNat (qE e0 hd ac) tk hg he;have e1:xJ (xN m v g e0 tk hd ac)=(xJ v).set p (qE e0 hd ac):=p2;unfold oP;rw[e1,r6,rX];refine⟨rfl,λh3=>?_⟩;by_cases q:p=k
 ·subst q;have z:(xJ v)[p]?=some e:=p1;rw[pj,z]at h3;have h3:e.zj=0:=by simpa using h3
  rw[pC (by rw[pB];exact(gZ.1 z).1)];show some (qE e0 hd ac).zj=some 0;rw[show(qE e0 hd ac).zj=ac from O,ha h3]
 ·rw[pX q];exact h3
def zuN{w:Wor}{m:lh}{v:lJ}{g:Gr}{e:En}{r:Wor×lh×lD}(hv:w.zd[m.version.toNat]?=some v)(hg:v.zp[m.zi.toNat]?=some g)(he:g.ends[m.end_.toNat]?=some e)(ha:m.pc<=3->1<=e.zj)(h:jO w m v g e=some r):Qu w r.1 m.version.toNat/\LR w r.1 m.version.toNat:=by
 unfold jO at h;rcases zA h with⟨q,h⟩|⟨_,h⟩
 ·obtain rfl:=pz h;exact dX
 rcases zA h with⟨q,h⟩|⟨_,h⟩
 ·obtain rfl:=pz h;exact⟨(GL O O O O O),Nj hv hg he λz=>z⟩
 rcases zA h with⟨q,h⟩|⟨_,h⟩
 ·rcases zq h with h|h
  ·obtain rfl:=pz h;exact⟨(GL O O O O O),Nj hv hg he λz=>z⟩
  ·obtain rfl:=pz h;exact dX
 rcases zA h with⟨q,h⟩|⟨_,h⟩
 ·obtain rfl:=pz h;exact⟨(GL O O O O O),Nj hv hg he λz=>by have:=ha aw;omega⟩
 rcases zq h with h|h
 ·unfold vW at h;rcases zq h with h|h
  ·cases h
  ·obtain⟨x,_,rfl⟩:=pS.1 h;exact dX
 rcases zq h with h|h
 ·obtain rfl:=pz h;exact dX
 ·cases h
def SE(w:Wor)(m:lh)(r:Wor×lh×lD):Prop:=
 (m.pc=0/\r.1={w with current:=w.zd.length,zd:=w.zd++[wJ m.op.config]}/\r.2.1.version=w.current/\r.2.1.pc=1/\r.2.1.done=false)\/
 (m.pc=0/\r.1=w/\r.2.1.done=true)\/
 (m.pc=1/\r.1=w/\r.2.1.version=m.version/\r.2.1.zn=w.zn/\r.2.1.pc=2/\r.2.1.done=false)\/
 (m.pc=2/\r.1={w with zr:=w.zr++[⟨m.version,m.zn,false⟩]}/\r.2.1.done=true)
def VG{w:Wor}{m:lh}{r:Wor×lh×lD}(hd:m.done=false)(h:kU w m=some r):SE w m r:=by
 unfold kU at h;rcases zA h with⟨q,h⟩|⟨_,h⟩
 ·rcases zq h with h|h
  ·obtain rfl:=pz h;exact .inl ⟨q,rfl,rfl,rfl,hd⟩
  ·obtain rfl:=pz h;exact .inr (.inl ⟨q,rfl,rfl⟩)
 rcases zA h with⟨q,h⟩|⟨_,h⟩
 ·obtain rfl:=pz h;exact .inr (.inr (.inl ⟨q,rfl,rfl,rfl,rfl,hd⟩))
 rcases zA h with⟨q,h⟩|⟨_,h⟩
 ·rcases zq h with h|h
  ·cases h
  ·obtain rfl:=pz h;exact .inr (.inr (.inr ⟨q,rfl,rfl⟩))
 ·cases h
def UL{w:Wor}{m:lh}{r:Wor×lh×lD}(h:yA w m=some r):Qu w r.1 0/\LR w r.1 0:=by
 unfold yA at h;rcases zq h with h|h
 ·rcases zq h with h|h
  ·obtain rfl:=pz h;exact dX
  ·obtain⟨x,_,rfl⟩:=pS.1 h;exact dX
 ·cases h
def VA{w:Wor}{m:lh}{r:Wor×lh×lD}(h:xS w m=some r):r.1=w:=by
 unfold xS at h;rcases zq h with h|h
 ·obtain⟨v,_,h⟩:=pN.1 h;obtain⟨x,_,rfl⟩:=pS.1 h
  rfl
 ·cases h
structure Qc(w w':Wor):Prop where
 pins:w'.pins=w.pins
 zn:w'.zn=w.zn
 zr:w'.zr=w.zr
 current:w'.current=w.current
 wC:w'.zd=w.zd
def CE(w:Wor)(m:lh)(r:Wor×lh×lD):Prop:=
 (m.pc=0/\Qc w r.1/\(r.2.1.pc=1/\w.lock=0/\r.2.1.done=false\/r.2.1.done=true))\/
 (m.pc=1/\r.1=w/\r.2.1.zn=w.zn/\r.2.1.pc=2/\r.2.1.i=0/\r.2.1.done=false)\/
 (m.pc=2/\r.1=w/\∃p,w.pins[m.i.toNat]?=some p/\r.2.1=CW w m p)\/
 (m.pc=3/\w.zn=m.zn/\r.1={w with zn:=IntKind.i64.wrap (w.zn+1)}/\w.zn<1000000000000/\r.2.1.zn=IntKind.i64.wrap (w.zn+1)/\r.2.1.pc=4/\r.2.1.done=false)\/
 (3<=m.pc/\m.pc≠5/\m.pc≠6/\Qc w r.1/\(r.2.1.done=true\/r.2.1.done=false/\r.2.1.zn=m.zn/\4<=r.2.1.pc/\(r.2.1.pc=5\/r.2.1.pc=6->r.2.1.pc=5/\r.2.1.k=0/\∃x,w.zr[m.i.toNat]?=some x/\r.2.1.i=m.i/\r.2.1.version=x.version/\x.gone=false/\x.at_+2<=m.zn)))\/
 (m.pc=5/\Qc w r.1/\r.2.1.zn=m.zn/\r.2.1.done=false/\∃v e,w.zd[m.version.toNat]?=some v/\(xJ v)[m.k.toNat]?=some e/\r.2.1=Cd m v e.zj)\/
 (m.pc=6/\∃v x,w.zd[m.version.toNat]?=some v/\w.zr[m.i.toNat]?=some x/\x.version=m.version/\x.gone=false/\r.1={w with zd:=w.zd.set m.version.toNat (Cg v),zr:=w.zr.set m.i.toNat (wb x)}/\r.2.1.zn=m.zn/\r.2.1.pc=4/\r.2.1.done=false)
def LG(w:Wor)(m:lh):Qc w (nM w m).1/\((nM w m).2.1.done=true\/(nM w m).2.1.done=m.done/\(nM w m).2.1.zn=m.zn/\(4<=m.pc->m.pc≠5->m.pc≠6->4<=(nM w m).2.1.pc/\(nM w m).2.1.pc≠5/\(nM w m).2.1.pc≠6)):=by
 unfold nM;split
 ·exact⟨⟨rfl,rfl,rfl,rfl,rfl⟩,.inl O⟩
 ·refine⟨⟨rfl,rfl,rfl,rfl,rfl⟩,.inr ?_⟩;unfold Es;repeat' split
  all_goals exact⟨rfl,rfl,λa b c=>by first|exact⟨a,b,c⟩|exact⟨pF au,pF au,pF au⟩⟩
def JY{w:Wor}{m:lh}{r:Wor×lh×lD}(hd:m.done=false)(h:jA w m=some r):CE w m r:=by
 have q0:∀w:Wor,Qc w w:=λw=>⟨rfl,rfl,rfl,rfl,rfl⟩
 unfold jA at h;rcases zA h with⟨q,h⟩|⟨_,h⟩
 ·obtain rfl:=pz h;split
  ·exact .inl ⟨q,⟨rfl,rfl,rfl,rfl,rfl⟩,.inl ⟨rfl,by assumption,hd⟩⟩
  ·exact .inl ⟨q,q0 w,.inr O⟩
 rcases zA h with⟨q,h⟩|⟨_,h⟩
 ·obtain rfl:=pz h;exact .inr (.inl ⟨q,rfl,rfl,rfl,rfl,hd⟩)
 rcases zA h with⟨q,h⟩|⟨_,h⟩
 ·obtain⟨p,hp,rfl⟩:=pS.1 h;exact .inr (.inr (.inl ⟨q,rfl,p,hp,rfl⟩))
 rcases zA h with⟨q,h⟩|⟨_,h⟩
 ·obtain rfl:=pz h;split
  ·rename_i z;exact .inr (.inr (.inr (.inl ⟨q,z.1,rfl,z.2,rfl,rfl,hd⟩)))
  ·exact .inr (.inr (.inr (.inr (.inl ⟨aw,aw,aw,q0 w,.inr ⟨hd,rfl,by show(4:Int)<=4;decide,λz=>absurd z (by show ¬((4:Int)=5\/(4:Int)=6);decide)⟩⟩))))
 rcases zA h with⟨q,h⟩|⟨_,h⟩
 ·obtain rfl:=pz h;refine .inr (.inr (.inr (.inr (.inl ⟨aw,aw,aw,?_,?_⟩))))
  ·split
   ·exact(LG w (nH m 8 0)).1
   ·exact q0 w
  ·split
   ·rcases(LG w (nH m 8 0)).2 with z|⟨z1,z2,z3⟩
    ·exact .inl z
    ·have z3:=z3 (by show(4:Int)<=8;decide) (by show(8:Int)≠5;decide) (by show(8:Int)≠6;decide);exact .inr ⟨z1.trans hd,z2,z3.1,λy=>by rcases y with y|y;exact absurd y z3.2.1;exact absurd y z3.2.2⟩
   ·rename_i x hx;refine .inr ?_;unfold Dq;by_cases c:x.gone=true\/Go.Lim.Dd x.at_ m.zn=false
    ·rw[pA c];exact⟨hd,rfl,by show 4<=m.pc;omega,λy=>absurd y (by show ¬(m.pc=5\/m.pc=6);omega)⟩
    ·rw[pw c];refine⟨hd,rfl,(pF au),λ_=>⟨(pF au),rfl,x,hx,rfl,rfl,?_,?_⟩⟩
     ·cases z:x.gone with
      |false=>rfl
      |true=>exact absurd (.inl z) c
     ·have:¬Go.Lim.Dd x.at_ m.zn=false:=λz=>c (.inr z)
      unfold Go.Lim.Dd at this;exact dB
 rcases zA h with⟨q,h⟩|⟨_,h⟩
 ·obtain⟨v,hv,h⟩:=pN.1 h;obtain⟨x,hx,rfl⟩:=pS.1 h;refine .inr (.inr (.inr (.inr (.inr (.inl ⟨q,q0 w,?_,?_,v,x,hv,hx,rfl⟩)))))
  ·unfold Cd;repeat' split
   all_goals rfl
  ·unfold Cd;repeat' split
   all_goals exact hd
 rcases zA h with⟨q,h⟩|⟨_,h⟩
 ·obtain⟨v,hv,h⟩:=pN.1 h;obtain⟨x,hx,h⟩:=pN.1 h;rcases zA h with⟨z,h⟩|⟨_,h⟩
  ·obtain rfl:=pz h;exact .inr (.inr (.inr (.inr (.inr (.inr ⟨q,v,x,hv,hx,z.1,z.2,rfl,rfl,rfl,hd⟩)))))
  ·cases h
 rcases zA h with⟨q,h⟩|⟨_,h⟩
 ·obtain rfl:=pz h;refine .inr (.inr (.inr (.inr (.inl ⟨aw,aw,aw,(LG w m).1,?_⟩))));rcases(LG w m).2 with z|⟨z1,z2,z3⟩
  ·exact .inl z
  ·have z3:=z3 aw aw aw;exact .inr ⟨z1.trans hd,z2,z3.1,λy=>by rcases y with y|y;exact absurd y z3.2.1;exact absurd y z3.2.2⟩
 rcases zA h with⟨q,h⟩|⟨_,h⟩
 ·obtain⟨x,hx,rfl⟩:=pS.1 h;refine .inr (.inr (.inr (.inr (.inl ⟨aw,aw,aw,q0 w,.inr ?_⟩))));split
  ·exact⟨hd,rfl,(pF au),λy=>absurd y (by show ¬((10:Int)=5\/(10:Int)=6);decide)⟩
  ·exact⟨hd,rfl,(pF au),λy=>absurd y (by show ¬((8:Int)=5\/(8:Int)=6);decide)⟩
 rcases zA h with⟨q,h⟩|⟨_,h⟩
 ·obtain⟨x,hx,h⟩:=pN.1 h;rcases zq h with h|h
  ·obtain rfl:=pz h;exact .inr (.inr (.inr (.inr (.inl ⟨aw,aw,aw,⟨rfl,rfl,rfl,rfl,rfl⟩,.inr ⟨hd,rfl,(pF au),λy=>absurd y (by show ¬((8:Int)=5\/(8:Int)=6);decide)⟩⟩))))
  ·cases h
 ·cases h
def Ha(x:lW):Prop:=x.on=true/\x.m.op.kind=1
def Co(x:lW):Prop:=x.on=true/\x.m.op.kind=5
def Sw(x:lW):Prop:=x.on=true/\x.m.op.kind=3
def Nil(v:lJ)(n:Nat->Prop):Prop:=∀k,n k->k<(oP v).length->(oP v)[k]?=some 0
structure EB(w:Wor)(X:List lW):Prop where
 h1:∀(t:Nat) (x:lW),X[t]?=some x->Ha x->1<=x.m.pc->0<=x.m.zn/\x.m.zn<=w.zn
 h2:∀(t:Nat) (x:lW),X[t]?=some x->Ha x->2<=x.m.pc->w.pins[t]?=some (x.m.zn+1)
 h3:∀(t:Nat) (x:lW),X[t]?=some x->Ha x->3<=x.m.pc->w.zn<=x.m.zn+1
 c1:∀(c:Nat) (y:lW),X[c]?=some y->Co y->2<=y.m.pc->y.m.zn<=w.zn
 c2:∀(c:Nat) (y:lW),X[c]?=some y->Co y->y.m.pc=2->y.m.zn=w.zn/\∀(t:Nat) (x:lW),X[t]?=some x->Ha x->3<=x.m.pc->(t:Int)<y.m.i->x.m.zn=w.zn
 c3:∀(c:Nat) (y:lW),X[c]?=some y->Co y->y.m.pc=3->∀(t:Nat) (x:lW),X[t]?=some x->Ha x->3<=x.m.pc->x.m.zn=w.zn
 c5:∀(c:Nat) (y:lW),X[c]?=some y->Co y->y.m.pc=5\/y.m.pc=6->∃r,w.zr[y.m.i.toNat]?=some r/\r.version=y.m.version/\r.gone=false/\r.at_+2<=y.m.zn
 c6:∀(c:Nat) (y:lW) (v:lJ),X[c]?=some y->Co y->y.m.pc=5\/y.m.pc=6->w.zd[y.m.version.toNat]?=some v->Nil v λk=>y.m.pc=5->(k:Int)<y.m.k
 l1:∀r∈w.zr,∀(t:Nat) (x:lW),X[t]?=some x->Ha x->4<=x.m.pc->x.m.version=r.version->x.m.zn<=r.at_
 s1:∀(c:Nat) (y:lW),X[c]?=some y->Sw y->y.m.pc=2->∀(t:Nat) (x:lW),X[t]?=some x->Ha x->4<=x.m.pc->x.m.version=y.m.version->x.m.zn<=y.m.zn
 g1:∀r∈w.zr,r.gone=true->r.at_+2<=w.zn/\∀v,w.zd[r.version.toNat]?=some v->Nil v λ_=>True
def ZK(w w':Wor):Prop:=∀r∈w.zr,r.at_+2<=w.zn->∀v',w'.zd[r.version.toNat]?=some v'->∃v,w.zd[r.version.toNat]?=some v/\(oP v').length=(oP v).length/\∀k:Nat,(oP v)[k]?=some 0->(oP v')[k]?=some 0
def ZK.nil{w w':Wor}(z:ZK w w'){r:mw}(hr:r∈w.zr)(ha:r.at_+2<=w.zn){n:Nat->Prop}(h:∀v,w.zd[r.version.toNat]?=some v->Nil v n):∀v',w'.zd[r.version.toNat]?=some v'->Nil v' n:=λv' hv' k hn hk=>by
 obtain⟨v,h1,h2,h3⟩:=z r hr ha v' hv';exact h3 k (h v h1 k hn aw)
def Ar{w w':Wor}{X:List lW}{t:Nat}{x x':lW}(eb:EB w X)(hx:X[t]?=some x)(he:w'.zn=w.zn)(hl:w'.zr=w.zr)(hp:∀t',t'≠t->w'.pins[t']?=w.pins[t']?)(zk:ZK w w')
 (H:Ha x'->(1<=x'.m.pc->0<=x'.m.zn/\x'.m.zn<=w.zn)/\(2<=x'.m.pc->w'.pins[t]?=some (x'.m.zn+1))/\(3<=x'.m.pc->w.zn<=x'.m.zn+1/\∀(c:Nat) (y:lW),c≠t->X[c]?=some y->Co y->(y.m.pc=2->(t:Int)<y.m.i->x'.m.zn=w.zn)/\(y.m.pc=3->x'.m.zn=w.zn))/\
   (4<=x'.m.pc->(∀r∈w.zr,x'.m.version=r.version->x'.m.zn<=r.at_)/\∀(c:Nat) (y:lW),c≠t->X[c]?=some y->Sw y->y.m.pc=2->x'.m.version=y.m.version->x'.m.zn<=y.m.zn))
 (C:Co x'->(2<=x'.m.pc->x'.m.zn<=w.zn)/\(x'.m.pc=2->x'.m.zn=w.zn/\∀(t':Nat) (z:lW),t'≠t->X[t']?=some z->Ha z->3<=z.m.pc->(t':Int)<x'.m.i->z.m.zn=w.zn)/\
   (x'.m.pc=3->∀(t':Nat) (z:lW),t'≠t->X[t']?=some z->Ha z->3<=z.m.pc->z.m.zn=w.zn)/\
   (x'.m.pc=5\/x'.m.pc=6->(∃r,w.zr[x'.m.i.toNat]?=some r/\r.version=x'.m.version/\r.gone=false/\r.at_+2<=x'.m.zn)/\∀v,w'.zd[x'.m.version.toNat]?=some v->Nil v λk=>x'.m.pc=5->(k:Int)<x'.m.k))
 (S:Sw x'->x'.m.pc=2->∀(t':Nat) (z:lW),t'≠t->X[t']?=some z->Ha z->4<=z.m.pc->z.m.version=x'.m.version->z.m.zn<=x'.m.zn):EB w' (X.set t x'):=by
 have lt:=(gZ.1 hx).1;have nt:∀{P:Prop},Ha x'->Co x'->P:=λa b=>absurd (a.2.symm.trans b.2) ar
 have ns:∀{P:Prop},Ha x'->Sw x'->P:=λa b=>absurd (a.2.symm.trans b.2) ar
 have get:∀{c:Nat} {y:lW},(X.set t x')[c]?=some y->(c=t/\y=x')\/(c≠t/\X[c]?=some y):=λh=>by
  rcases jG h with⟨h1,h2,_⟩|⟨h1,h2⟩
  ·exact .inl ⟨h1.symm,h2⟩
  ·exact .inr ⟨λz=>h1 z.symm,h2⟩
 refine⟨λa y h q p=>?_,λa y h q p=>?_,λa y h q p=>?_,λa y h q p=>?_,λa y h q p=>?_,λa y h q p b z hz hq hp3=>?_,λa y h q p=>?_,λa y v h q p hv=>?_,λr hr a y h q p hv=>?_,λa y h q p b z hz hq h4 hv=>?_,λr hr hg=>?_⟩
 ·rw[he];rcases get h with⟨rfl,rfl⟩|⟨_,ha⟩
  ·exact(H q).1 p
  ·exact eb.h1 a y ha q p
 ·rcases get h with⟨rfl,rfl⟩|⟨n,ha⟩
  ·exact(H q).2.1 p
  ·rw[hp a n];exact eb.h2 a y ha q p
 ·rw[he];rcases get h with⟨rfl,rfl⟩|⟨_,ha⟩
  ·exact((H q).2.2.1 p).1
  ·exact eb.h3 a y ha q p
 ·rw[he];rcases get h with⟨rfl,rfl⟩|⟨_,ha⟩
  ·exact(C q).1 p
  ·exact eb.c1 a y ha q p
 ·rw[he];rcases get h with⟨rfl,rfl⟩|⟨n,ha⟩
  ·refine⟨((C q).2.1 p).1,λb z hz hq hp3 hi=>?_⟩;rcases get hz with⟨rfl,rfl⟩|⟨n2,hz⟩
   ·exact nt hq q
   ·exact((C q).2.1 p).2 b z n2 hz hq hp3 hi
  ·refine⟨(eb.c2 a y ha q p).1,λb z hz hq hp3 hi=>?_⟩;rcases get hz with⟨rfl,rfl⟩|⟨n2,hz⟩
   ·exact(((H hq).2.2.1 hp3).2 a y n ha q).1 p hi
   ·exact(eb.c2 a y ha q p).2 b z hz hq hp3 hi
 ·rw[he];rcases get h with⟨rfl,rfl⟩|⟨n,ha⟩
  ·rcases get hz with⟨rfl,rfl⟩|⟨n2,hz⟩
   ·exact nt hq q
   ·exact(C q).2.2.1 p b z n2 hz hq hp3
  ·rcases get hz with⟨rfl,rfl⟩|⟨n2,hz⟩
   ·exact(((H hq).2.2.1 hp3).2 a y n ha q).2 p
   ·exact eb.c3 a y ha q p b z hz hq hp3
 ·rw[hl];rcases get h with⟨rfl,rfl⟩|⟨_,ha⟩
  ·exact((C q).2.2.2 p).1
  ·exact eb.c5 a y ha q p
 ·rcases get h with⟨rfl,rfl⟩|⟨_,ha⟩
  ·exact((C q).2.2.2 p).2 v hv
  ·obtain⟨r,r1,r2,r3,r4⟩:=eb.c5 a y ha q p;have ep:=eb.c1 a y ha q aw;rw[<-r2]at hv;refine zk.nil (pq r1) aw (λv0 h0=>?_) v hv;exact eb.c6 a y v0 ha q p (by rw[<-r2];exact h0)
 ·rw[hl]at hr;rcases get h with⟨rfl,rfl⟩|⟨_,ha⟩
  ·exact((H q).2.2.2 p).1 r hr hv
  ·exact eb.l1 r hr a y ha q p hv
 ·rcases get h with⟨rfl,rfl⟩|⟨n,ha⟩
  ·rcases get hz with⟨rfl,rfl⟩|⟨n2,hz⟩
   ·exact ns hq q
   ·exact S q p b z n2 hz hq h4 hv
  ·rcases get hz with⟨rfl,rfl⟩|⟨n2,hz⟩
   ·exact((H hq).2.2.2 h4).2 a y n ha q p hv
   ·exact eb.s1 a y ha q p b z hz hq h4 hv
 ·rw[hl]at hr;rw[he];obtain⟨z1,z2⟩:=eb.g1 r hr hg;exact⟨z1,λv hv=>zk.nil hr z1 (λv0 h0=>z2 v0 h0) v hv⟩
def vD{w w':Wor}(h:∀r∈w.zr,w'.zd[r.version.toNat]?=w.zd[r.version.toNat]?):ZK w w':=λr hr _ v' hv'=>⟨v',by rw[<-h r hr];exact hv',rfl,λ_ h=>h⟩
def V4{N K:Nat}{w:Wor}{X:List lW}(gi:GI N K w X){c d:Nat}{y z:lW}(h1:X[c]?=some y)(h2:X[d]?=some z)(q1:Co y)(q2:Co z)(p1:1<=y.m.pc)(p2:1<=z.m.pc):c=d:=by
 by_cases e:c=d
 ·exact e
 ·exfalso
  obtain⟨os,hl,hti,hsum⟩:=gi.own
  have own1:∀{c:Nat} {y:lW},X[c]?=some y->Co y->1<=y.m.pc->∃o,os[c]?=some o/\1<=o .lock:=λ{c y} h q p=>by
   obtain⟨o,ho⟩:∃o,os[c]?=some o:=⟨_,pa (by have:=(gZ.1 h).1;omega)⟩;refine⟨o,ho,?_⟩;obtain⟨L,_,_,hh|⟨_,hh⟩⟩:=(hti c y o h ho).open_
   ·have:=hh.1;rw[q.1]at this;cases this
   ·obtain⟨v,g,e,su,_⟩:=hh.lc;rcases hh.own with⟨_,hk⟩|⟨hk,_⟩
    ·rw[hk,jD (oB su.done q.2 (pA p))];simp[qp]
    ·have:=q.2;omega
  obtain⟨o1,g1,g2⟩:=own1 h1 q1 p1;obtain⟨o2,g3,g4⟩:=own1 h2 q2 p2;have s:=O9 (os.map (· Key.lock)) c d e (by rw[pj,g1];rfl) (by rw[pj,g3];rfl);have lk:=(qs.1 gi.st.jn.ground).lock;have hs:=hsum Key.lock;have:Has w Key.lock=w.lock.toNat:=rfl;dsimp only at s;omega
def wrap64{n:Int}(h0: -9223372036854775808<=n)(h1:n<=9223372036854775807):IntKind.i64.wrap n=n:=qi h0 h1
def WN{N K:Nat}{w:Wor}{X:List lW}{t:Nat}{x:lW}{p:lX}(gi:GI N K w X)(hx:X[t]?=some x)(hp:x.ops[x.done]?=some p)(hN:N<=100000000)(hK:K<=1099511627776):∀k,xw (z8 x t p) k<=Has w k:=by
 obtain⟨st,tg,hlen,hops,os,hol,hti,hsum⟩:=gi;have lu:=(gZ.1 hx).1;obtain⟨o,ho⟩:∃o,os[t]?=some o:=⟨_,pa aw⟩;have ti:=hti t x o hx ho;have ow:∀k,o k<=Has w k:=λk=>by rw[hsum k];exact gW
 have po:=hops x (pq hx) p (pq hp)
 obtain⟨x',hx1,hx2,hx3⟩:∃x',x'.m=z8 x t p/\x'.on=true/\TI w t x' o:=by
  cases hon:x.on with
  |true=>exact⟨x,aX,hon,ti⟩
  |false=>exact⟨⟨x.ops,x.done,true,Beg.xC t p x.given,x.given⟩,aX,rfl,Kj st tg aw ti hon hp po hN ow⟩
 obtain⟨s1,s2,s3,_⟩:=K3 st tg hx3 hx2 hN hK ow;rw[hx1]at s3
 exactλk=>rB (s3 k) (ow k)
def GX{x:lW}{t:Int}{o:lX}(hk:o.kind≠2)(hp:1<=(z8 x t o).pc):x.on=true/\z8 x t o=x.m:=by
 cases hon:x.on with
 |true=>exact⟨rfl,aX⟩
 |false=>
  have e:z8 x t o=Beg.xC t o x.given:=aX
  rw[e,vX hk]at hp;exact absurd (show(1:Int)<=0 from hp) ar
def zy9{N K:Nat}{w:Wor}{X:List lW}(gi:GI N K w X){c:Nat}{y:lW}(h:X[c]?=some y)(q:Sw y)(p:1<=y.m.pc):y.m.version≠w.current:=by
 obtain⟨os,hl,hti,hsum⟩:=gi.own;obtain⟨o,ho⟩:∃o,os[c]?=some o:=⟨_,pa (by have:=(gZ.1 h).1;omega)⟩;have le:o (.my y.m.version)<=Has w (.my y.m.version):=by rw[hsum];exact Iq _ c (by rw[pj,ho];rfl)
 obtain⟨L,_,_,hh|⟨_,hh⟩⟩:=(hti c y o h ho).open_
 ·have:=hh.1;rw[q.1]at this;cases this
 ·obtain⟨v,g,e,su,_⟩:=hh.lc;rcases hh.own with⟨_,hk⟩|⟨hk,_⟩
  ·rw[hk,jD (Ds su.done q.2 (pA p))]at le;have z:Has w (.my y.m.version)=if 0<=y.m.version/\y.m.version<w.zd.length/\y.m.version≠w.current/\∀r∈w.zr,r.version≠y.m.version then 1 else 0:=rfl
   rw[z]at le;intro e;rw[pw (λz=>z.2.2.1 e)]at le;simp[qp]at le
  ·have:=q.2;omega
def zzY{N K:Nat}{s:Wor.mS}(gi:GI N K s.1 s.2.1)(eb:EB s.1 s.2.1)(p:Int)(hN:N<=100000000)(hK:K<=1099511627776):EB (yl s p).1 (yl s p).2.1:=by
 rcases jy gi p hN hK with⟨_,e⟩|⟨t,x,o,r,hat,hx,ho,hsu,htm,hst,_,e,gi2⟩
 ·rw[e];exact eb
 ·rw[e];obtain⟨v,g,en,su⟩:=yh hsu;have nt:=vO o gi hx;have no:=C4 gi hx ho;have hl:=(gZ.1 hx).1;have gw:=gi.st.jn;have gr:=qs.1 gw.ground;have gx:(s.2.1.set t (Wor.qq x r.2.1))[t]?=some (Wor.qq x r.2.1):=pC hl;have off:r.2.1.done=true->∀{P:Prop},(Wor.qq x r.2.1).on=true->P:=λd P h=>by rw[Wor.yN d]at h;cases h
  have mm:(Wor.qq x r.2.1).on=true->(Wor.qq x r.2.1).m=r.2.1/\r.2.1.op=o/\r.2.1.done=false:=λh=>by
   have nd:r.2.1.done=false:=by
    cases z:r.2.1.done with
    |false=>rfl
    |true=>exact off z h
   have ho2:(Wor.qq x r.2.1).ops[(Wor.qq x r.2.1).done]?=some o:=by rw[xI nd];exact ho
   have n2:=C4 gi2 gx ho2;have e2:z8 (Wor.qq x r.2.1) t o=r.2.1:=by rw[xI nd];rfl
   rw[e2]at n2;exact⟨by rw[xI nd],n2,nd⟩
  have kind:∀{k:Int},(Wor.qq x r.2.1).on=true->(Wor.qq x r.2.1).m.op.kind=k->o.kind=k:=λh h2=>by
   obtain⟨a,b,_⟩:=mm h;rw[a,b]at h2;exact h2
  have sel:s.2.1[t]?=some x:=hx;have pl:s.2.1.length=s.1.pins.length:=gi.len.symm;have oZ:∀{k:Int} {P:Prop},o.kind=k->∀{j:Int},j≠k->(Wor.qq x r.2.1).on=true/\(Wor.qq x r.2.1).m.op.kind=j->P:=λhk j hj h=>absurd ((kind h.1 h.2).symm.trans hk) hj
  dsimp only;rcases ky su hst with⟨k1,h⟩|⟨k1,h⟩|⟨k1,h⟩|⟨k1,h⟩|⟨k1,h⟩|⟨k1,h⟩
  ·
   rw[no]at k1
   have h0:0<=(z8 x t o).pc:=by
    cases hon:x.on with
    |false=>
     have e1:z8 x t o=Beg.xC t o x.given:=aX
     rw[e1,vX aw];exact p8 _
    |true=>
     have e1:z8 x t o=x.m:=aX
     obtain⟨os,hol,hti,_⟩:=gi.own;obtain⟨ow,how⟩:∃o,os[t]?=some o:=⟨_,pa aw⟩;obtain⟨L,_,_,hh|⟨_,hh⟩⟩:=(hti t x ow hx how).open_
     ·have:=hh.1;rw[hon]at this;cases this
     ·obtain⟨_,_,_,_,lc⟩:=hh.lc;have kx:x.m.op.kind=1:=by rw[<-e1,no];exact k1
      rw[e1];rcases lc with⟨_,lc⟩|⟨k,_⟩|⟨k,_⟩|⟨k,_⟩|⟨k,_⟩|⟨k,_⟩
      ·have:=lc.pc;omega
      all_goals omega
   have ha:1<=(z8 x t o).pc->Ha x/\z8 x t o=x.m:=λq=>by
    obtain⟨a,b⟩:=GX aw q;exact⟨⟨a,by rw[<-b,no];exact k1⟩,b⟩
   have C0:∀{P:Prop},Co (Wor.qq x r.2.1)->P:=λh=>oZ k1 ar h
   have S0:∀{P:Prop},Sw (Wor.qq x r.2.1)->P:=λh=>oZ k1 ar h
   rcases J8 su.done h0 h with⟨q,hw,hm⟩|⟨q,hw,hm⟩|⟨q,hw,hm⟩|⟨q,hw,hv,he,hp4,hd⟩|⟨q1,q2,hv,he,hp4,hd,qu⟩|⟨q,hw,hd⟩
   ·rw[hw];refine Ar eb hx O O (λ_ _=>O) (vD λ_ _=>O) (λhh=>?_) C0 S0;obtain⟨a,_,_⟩:=mm hh.1;rw[a,hm];exact⟨λ_=>⟨gr.zn.1,p8 _⟩,λz=>absurd (show(2:Int)<=1 from z) ar,λz=>absurd (show(3:Int)<=1 from z) ar,λz=>absurd (show(4:Int)<=1 from z) ar⟩
   ·obtain⟨hax,ex⟩:=ha aw;obtain⟨z1,z2⟩:=eb.h1 t x sel hax (by rw[<-ex];omega);rw[ex]at hw hm;have wr:IntKind.i64.wrap (x.m.zn+1)=x.m.zn+1:=wrap64 aw (by have:=gr.zn.2;omega);have th:x.m.zg.toNat=t:=by rw[<-ex,nt,toNat_cast]
    rw[wr,th]at hw;rw[hw];refine Ar eb hx O O (λt' hne=>?_) (vD λ_ _=>O) (λhh=>?_) C0 S0
    ·show(s.1.pins.set t _)[t']?=_;rw[pX (λz=>hne z.symm)]
    ·obtain⟨a,_,_⟩:=mm hh.1;rw[a,hm];refine⟨λ_=>⟨z1,z2⟩,λ_=>?_,λz=>absurd (show(3:Int)<=2 from z) ar,λz=>absurd (show(4:Int)<=2 from z) ar⟩;show(s.1.pins.set t _)[t]?=_;rw[pC aw]
   ·obtain⟨hax,ex⟩:=ha aw;have z1:=eb.h1 t x sel hax (by rw[<-ex];omega);have z2:=eb.h2 t x sel hax (by rw[<-ex];omega);rw[ex]at hm;rw[hw];refine Ar eb hx O O (λ_ _=>O) (vD λ_ _=>O) (λhh=>?_) C0 S0;obtain⟨a,_,_⟩:=mm hh.1;rw[a,hm];dsimp only;by_cases z:s.1.zn=x.m.zn
    ·rw[pA z];exact⟨λ_=>⟨gr.zn.1,p8 _⟩,λ_=>by rw[z2,z],λ_=>⟨aw,λ_ _ _ _ _=>⟨λ_ _=>O,λ_=>O⟩⟩,λz=>absurd z ar⟩
    ·rw[pw z];exact⟨λ_=>⟨gr.zn.1,p8 _⟩,λz=>absurd z ar,λz=>absurd z ar,λz=>absurd z ar⟩
   ·obtain⟨hax,ex⟩:=ha aw;have px:x.m.pc=3:=by rw[<-ex];exact q
    have z1:=eb.h1 t x sel hax aw;have z2:=eb.h2 t x sel hax aw;have z3:=eb.h3 t x sel hax aw;rw[ex]at he;rw[hw];refine Ar eb hx O O (λ_ _=>O) (vD λ_ _=>O) (λhh=>?_) C0 S0;obtain⟨a,_,_⟩:=mm hh.1;rw[a,he,hv];refine⟨λ_=>z1,λ_=>z2,λ_=>⟨z3,λc y hne hc hy=>⟨λy2 hi=>(eb.c2 c y hc hy y2).2 t x sel hax aw hi,λy3=>eb.c3 c y hc hy y3 t x sel hax aw⟩⟩,λ_=>⟨λr' hr' hvr=>?_,λc y hne hc hy y2 hvr=>?_⟩⟩
    ·obtain⟨i,hi⟩:=pJ.1 hr';exact absurd hvr.symm (wi gw hi).2.2.2.2
    ·exact absurd hvr.symm (zy9 gi hc hy aw)
   ·obtain⟨hax,ex⟩:=ha aw;have px:4<=x.m.pc:=by rw[<-ex];exact q1
    have z1:=eb.h1 t x sel hax aw;have z2:=eb.h2 t x sel hax aw;have z3:=eb.h3 t x sel hax aw;rw[ex]at he hv qu;refine Ar eb hx qu.zn qu.zr (λt' _=>by rw[qu.pins]) (λr' hr' hdue v' hv'=>?_) (λhh=>?_) C0 S0
    ·obtain⟨i,hi⟩:=pJ.1 hr';have la:=wi gw hi;have vs:=su.version;rw[ex]at vs
     have ne:r'.version.toNat≠x.m.version.toNat:=λz=>by
      have:=eb.l1 r' hr' t x sel hax px aw;omega
     rw[qu.P1 _ ne]at hv';exact⟨v',hv',rfl,λ_ h=>h⟩
    ·obtain⟨a,_,_⟩:=mm hh.1;rw[a,he,hv];exact⟨λ_=>z1,λ_=>by rw[qu.pins];exact z2,λ_=>⟨z3,λc y hne hc hy=>⟨λy2 hi=>(eb.c2 c y hc hy y2).2 t x sel hax aw hi,λy3=>eb.c3 c y hc hy y3 t x sel hax aw⟩⟩,λ_=>⟨λr' hr' hvr=>eb.l1 r' hr' t x sel hax px hvr,λc y hne hc hy y2 hvr=>eb.s1 c y hc hy y2 t x sel hax px hvr⟩⟩
   ·rw[nt,toNat_cast]at hw;rw[hw];refine Ar eb hx O O (λt' hne=>?_) (vD λ_ _=>O) (λhh=>off hd hh.1) C0 S0;show(s.1.pins.set t _)[t']?=_;rw[pX (λz=>hne z.symm)]
  ·
   rw[no]at k1
   have act:(z8 x t o).pc<=3->1<=en.zj:=λq=>by
    have pd:ph (z8 x t o)=3\/ph (z8 x t o)=4:=by
     by_cases z:(z8 x t o).pc<=2
     ·exact .inl (oy su.done (by rw[no];exact k1) (pA z))
     ·exact .inr (oy su.done (by rw[no];exact k1) (by rw[pw z,pA aw]))
    have le:=WN gi hx ho hN hK (.act (z8 x t o).version (z8 x t o).zi (z8 x t o).end_);have at_:m7 s.1 (z8 x t o) v g en:=su.at_;rw[KT at_]at le
    have one:1<=xw (z8 x t o) (.act (z8 x t o).version (z8 x t o).zi (z8 x t o).end_):=by
     rcases pd with pd|pd <;> (rw[jD pd];simp[qp])
    omega
   obtain⟨qu,zs⟩:=zuN su.mu su.mn su.mM act h;refine Ar eb hx qu.zn qu.zr (λt' _=>by rw[qu.pins]) (λr' hr' hdue v' hv'=>?_) (λh=>oZ k1 ar h) (λh=>oZ k1 ar h) (λh=>oZ k1 ar h);by_cases ne:r'.version.toNat=(z8 x t o).version.toNat
   ·rw[ne]at hv' ⊢;exact⟨v,su.mu,(zs v v' 0 su.mu hv').1,λk=>(zs v v' k su.mu hv').2⟩
   ·rw[qu.P1 _ ne]at hv';exact⟨v',hv',rfl,λ_ h=>h⟩
  ·
   rw[no]at k1;rcases VG su.done h with⟨q,hw,hv,hp,hd⟩|⟨q,hw,hd⟩|⟨q,hw,hv,he,hp,hd⟩|⟨q,hw,hd⟩
   ·rw[hw];refine Ar eb hx O O (λ_ _=>O) (vD λr' hr'=>?_) (λh=>oZ k1 ar h) (λh=>oZ k1 ar h) (λhh p2=>?_)
    ·obtain⟨i,hi⟩:=pJ.1 hr';have la:=wi gw hi;show(s.1.zd++_)[_]?=_;rw[pD aw]
    ·obtain⟨a,_,_⟩:=mm hh.1;rw[a,hp]at p2;exact absurd p2 ar
   ·rw[hw];exact Ar eb hx O O (λ_ _=>O) (vD λ_ _=>O) (λh=>off hd h.1) (λh=>off hd h.1) (λh=>off hd h.1)
   ·rw[hw];refine Ar eb hx O O (λ_ _=>O) (vD λ_ _=>O) (λh=>oZ k1 ar h) (λh=>oZ k1 ar h) (λhh p2 t' z hne hz hq h4 hvr=>?_);obtain⟨a,_,_⟩:=mm hh.1;rw[a,he];exact(eb.h1 t' z hz hq aw).2
   ·obtain⟨onx,ex⟩:=GX aw (show 1<=(z8 x t o).pc by omega);have sx:Sw x:=⟨onx,by rw[<-ex,no];exact k1⟩;have px:x.m.pc=2:=by rw[<-ex];exact q
    rw[ex]at hw;have xo:∀{P:Prop},(Wor.qq x r.2.1).on=true->P:=λh=>off hd h
    have get:∀{c:Nat} {y:lW},(s.2.1.set t (Wor.qq x r.2.1))[c]?=some y->y.on=true->s.2.1[c]?=some y:=λh hon=>by
     rcases jG h with⟨_,rfl,_⟩|⟨_,h2⟩
     ·exact xo hon
     ·exact h2
    rw[hw];refine⟨λa y h q=>eb.h1 a y (get h q.1) q,λa y h q=>eb.h2 a y (get h q.1) q,λa y h q=>eb.h3 a y (get h q.1) q,λa y h q=>eb.c1 a y (get h q.1) q,λa y h q p=>⟨(eb.c2 a y (get h q.1) q p).1,λb z hz hq=>(eb.c2 a y (get h q.1) q p).2 b z (get hz hq.1) hq⟩,λa y h q p b z hz hq=>eb.c3 a y (get h q.1) q p b z (get hz hq.1) hq,λa y h q p=>?_,λa y v h q p hv=>eb.c6 a y v (get h q.1) q p hv,λr' hr' a y h q p hv=>?_,λa y h q p b z hz hq=>eb.s1 a y (get h q.1) q p b z (get hz hq.1) hq,λr' hr' hg=>?_⟩
    ·obtain⟨r0,r1,r2⟩:=eb.c5 a y (get h q.1) q p;exact⟨r0,by show(s.1.zr++_)[_]?=_;rw[pD (gZ.1 r1).1];exact r1,r2⟩
    ·rcases pV.1 (show r'∈s.1.zr++_ from hr') with hr'|hr'
     ·exact eb.l1 r' hr' a y (get h q.1) q p hv
     ·rw[pP]at hr';subst hr';exact eb.s1 t x sel sx px a y (get h q.1) q p hv
    ·rcases pV.1 (show r'∈s.1.zr++_ from hr') with hr'|hr'
     ·exact eb.g1 r' hr' hg
     ·rw[pP]at hr';subst hr';cases hg
  ·
   rw[no]at k1;obtain⟨qu,zs⟩:=UL h;refine Ar eb hx qu.zn qu.zr (λt' _=>by rw[qu.pins]) (λr' hr' hdue v' hv'=>?_) (λh=>oZ k1 ar h) (λh=>oZ k1 ar h) (λh=>oZ k1 ar h);by_cases ne:r'.version.toNat=0
   ·rw[ne]at hv' ⊢;obtain⟨v0,hv0⟩:∃v0,s.1.zd[0]?=some v0:=⟨_,pa (by have:=(gZ.1 hv').1;have:=qu.len;omega)⟩;exact⟨v0,hv0,(zs v0 v' 0 hv0 hv').1,λk=>(zs v0 v' k hv0 hv').2⟩
   ·rw[qu.P1 _ ne]at hv';exact⟨v',hv',rfl,λ_ h=>h⟩
  ·
   rw[no]at k1;have H0:∀{P:Prop},Ha (Wor.qq x r.2.1)->P:=λh=>oZ k1 ar h
   have S0:∀{P:Prop},Sw (Wor.qq x r.2.1)->P:=λh=>oZ k1 ar h
   have co:1<=(z8 x t o).pc->Co x/\z8 x t o=x.m:=λq=>by
    obtain⟨a,b⟩:=GX aw q;exact⟨⟨a,by rw[<-b,no];exact k1⟩,b⟩
   rcases JY su.done h with⟨q,qc,hd⟩|⟨q,hw,he,hp,hi,hd⟩|⟨q,hw,pp,hpp,hm⟩|⟨q,heq,hw,lu,he,hp,hd⟩|⟨q,n5,n6,qc,hd⟩|⟨q,qc,he,hd,v2,e2,hv2,he2,hm⟩|⟨q,v2,x2,hv2,hx2,hxv,hxg,hw,he,hp,hd⟩
   ·refine Ar eb hx qc.zn qc.zr (λt' _=>by rw[qc.pins]) (vD λ_ _=>by rw[qc.wC]) H0 (λhh=>?_) S0;rcases hd with⟨hp,_,_⟩|hd
    ·obtain⟨a,_,_⟩:=mm hh.1;rw[a,hp];exact⟨λz=>absurd z ar,λz=>absurd z ar,λz=>absurd z ar,λz=>absurd z ar⟩
    ·exact off hd hh.1
   ·rw[hw];refine Ar eb hx O O (λ_ _=>O) (vD λ_ _=>O) H0 (λhh=>?_) S0;obtain⟨a,_,_⟩:=mm hh.1;rw[a,hp,he,hi];exact⟨λ_=>p8 _,λ_=>⟨rfl,λt' z _ _ _ _ lu=>absurd lu aw⟩,λz=>absurd z ar,λz=>absurd z ar⟩
   ·obtain⟨cx,ex⟩:=co aw;have px:x.m.pc=2:=by rw[<-ex];exact q
    obtain⟨z1,z2⟩:=eb.c2 t x sel cx px;have i0:=su.i;rw[ex]at hm hpp i0;have il:=(gZ.1 hpp).1;have wr:IntKind.i64.wrap (x.m.i+1)=x.m.i+1:=wrap64 aw (by have:=gr.pins.2;omega)
    have scan:(pp=0\/pp=x.m.zn+1)->∀(t':Nat) (z:lW),s.2.1[t']?=some z->Ha z->3<=z.m.pc->(t':Int)<x.m.i+1->z.m.zn=s.1.zn:=λhp t' z hz hq h3 lu=>by
     by_cases y:(t':Int)<x.m.i
     ·exact z2 t' z hz hq h3 y
     ·have et:t'=x.m.i.toNat:=by omega
      have hp2:=eb.h2 t' z hz hq aw;rw[et,hpp]at hp2;have hp2:=pz hp2;have:=eb.h1 t' z hz hq aw;rcases hp with hp|hp
      ·omega
      ·omega
    rw[hw];refine Ar eb hx O O (λ_ _=>O) (vD λ_ _=>O) H0 (λhh=>?_) S0;obtain⟨a,_,_⟩:=mm hh.1;rw[a,hm];unfold CW;have we:IntKind.i64.wrap (x.m.zn+1)=x.m.zn+1:=wrap64 (by have:=gr.zn.1;omega) (by have:=gr.zn.2;omega);rw[we,wr];by_cases c:pp≠0/\pp≠x.m.zn+1
    ·rw[pA c];exact⟨λ_=>by show x.m.zn<=_;omega,λz=>absurd (show(4:Int)=2 from z) ar,λz=>absurd (show(4:Int)=3 from z) ar,λz=>absurd (show(4:Int)=5\/(4:Int)=6 from z) ar⟩
    ·have hp:pp=0\/pp=x.m.zn+1:=by
      by_cases y:pp=0
      ·exact .inl y
      ·exact .inr (Decidable.of_not_not λz=>c ⟨y,z⟩)
     rw[pw c];by_cases c2:x.m.i+1<(s.1.pins.length:Int)
     ·rw[pA c2];dsimp only;exact⟨λ_=>by omega,λ_=>⟨z1,λt' z _ hz hq h3 lu=>scan hp t' z hz hq h3 lu⟩,λz=>absurd (px.symm.trans z) ar,λz=>by rw[px]at z;exact absurd z ar⟩
     ·rw[pw c2];exact⟨λ_=>by show x.m.zn<=_;omega,λz=>absurd (show(3:Int)=2 from z) ar,λ_ t' z _ hz hq h3=>scan hp t' z hz hq h3 (by have:=(gZ.1 hz).1;omega),λz=>absurd (show(3:Int)=5\/(3:Int)=6 from z) ar⟩
   ·obtain⟨cx,ex⟩:=co aw;have px:x.m.pc=3:=by rw[<-ex];exact q
    have all:=eb.c3 t x sel cx px;have we:IntKind.i64.wrap (s.1.zn+1)=s.1.zn+1:=wrap64 (by have:=gr.zn.1;omega) aw;rw[we]at hw he
    have get:∀{c:Nat} {y:lW},(s.2.1.set t (Wor.qq x r.2.1))[c]?=some y->(c=t/\y=Wor.qq x r.2.1)\/(c≠t/\s.2.1[c]?=some y):=λh=>by
     rcases jG h with⟨h1,h2,_⟩|⟨h1,h2⟩
     ·exact .inl ⟨h1.symm,h2⟩
     ·exact .inr ⟨λz=>h1 z.symm,h2⟩
    have getH:∀{c:Nat} {y:lW},(s.2.1.set t (Wor.qq x r.2.1))[c]?=some y->Ha y->s.2.1[c]?=some y:=λh q=>by
     rcases get h with⟨_,rfl⟩|⟨_,h⟩
     ·exact H0 q
     ·exact h
    have getS:∀{c:Nat} {y:lW},(s.2.1.set t (Wor.qq x r.2.1))[c]?=some y->Sw y->s.2.1[c]?=some y:=λh q=>by
     rcases get h with⟨_,rfl⟩|⟨_,h⟩
     ·exact S0 q
     ·exact h
    have getC:∀{c:Nat} {y:lW},(s.2.1.set t (Wor.qq x r.2.1))[c]?=some y->Co y->2<=y.m.pc->y.m.pc=4/\y.m.zn=s.1.zn+1:=λh q h2=>by
     rcases get h with⟨_,rfl⟩|⟨n,h⟩
     ·obtain⟨a,_,_⟩:=mm q.1;rw[a,hp,he];exact gD
     ·exact absurd (V4 gi h sel q cx aw aw) n
    rw[hw];refine⟨λa y h q p=>?_,λa y h q p=>eb.h2 a y (getH h q) q p,λa y h q p=>?_,λa y h q p=>?_,λa y h q p=>?_,λa y h q p=>?_,λa y h q p=>?_,λa y v h q p=>?_,λr' hr' a y h q p hv=>eb.l1 r' hr' a y (getH h q) q p hv,λa y h q p b z hz hq=>eb.s1 a y (getS h q) q p b z (getH hz hq) hq,λr' hr' hg=>?_⟩
    ·have:=eb.h1 a y (getH h q) q p;exact⟨this.1,by show _<=s.1.zn+1;omega⟩
    ·have:=all a y (getH h q) q p;show s.1.zn+1<=_;omega
    ·show _<=s.1.zn+1;have:=(getC h q p).2;omega
    ·exact gC
    ·exact gC
    ·exact gC
    ·exact gC
    ·have:=eb.g1 r' hr' hg;exact⟨by show _<=s.1.zn+1;omega,this.2⟩
   ·obtain⟨cx,ex⟩:=co aw;have px:3<=x.m.pc:=by rw[<-ex];exact q
    have z1:=eb.c1 t x sel cx aw;rw[ex]at hd;refine Ar eb hx qc.zn qc.zr (λt' _=>by rw[qc.pins]) (vD λ_ _=>by rw[qc.wC]) H0 (λhh=>?_) S0;obtain⟨a,_,nd⟩:=mm hh.1;rcases hd with hd|⟨_,he,h4,hl5⟩
    ·rw[nd]at hd;cases hd
    ·rw[a];refine⟨λ_=>by omega,λz=>by omega,λz=>by omega,λz=>?_⟩;obtain⟨p5,k0,y,y1,y2,y3,y4,y5⟩:=hl5 z;exact⟨⟨y,by rw[y2];exact y1,y3.symm,y4,aw⟩,λv hv k hk _=>by have:=hk p5;omega⟩
   ·obtain⟨cx,ex⟩:=co aw;have px:x.m.pc=5:=by rw[<-ex];exact q
    have z1:=eb.c1 t x sel cx aw;obtain⟨rr,r1,r2,r3,r4⟩:=eb.c5 t x sel cx (.inl px);have k0:=su.k;rw[ex]at he hv2 he2 hm k0;have z6:=eb.c6 t x v2 sel cx (.inl px) hv2;have ev:(oP v2)[x.m.k.toNat]?=some e2.zj:=by unfold oP;rw[pj,he2];rfl
    have kl:=(gZ.1 he2).1
    have oV:(xJ v2).length<=1000000:=by
     have fv:=(gw.my _ v2 hv2).1.oV;have hg:∀g∈v2.zp,g.ends.length<=1000:=λg hg=>by have:=(fv.2 g hg).1;omega
     have:=NT v2.zp hg;unfold xJ;have:=fv.1;omega
    have wr:IntKind.i64.wrap (x.m.k+1)=x.m.k+1:=wrap64 aw aw;refine Ar eb hx qc.zn qc.zr (λt' _=>by rw[qc.pins]) (vD λ_ _=>by rw[qc.wC]) H0 (λhh=>?_) S0;obtain⟨a,_,nd⟩:=mm hh.1;rw[a,hm];unfold Cd;rw[wr];by_cases c:e2.zj≠0
    ·rw[pA c];exact⟨λ_=>z1,λz=>absurd (show(4:Int)=2 from z) ar,λz=>absurd (show(4:Int)=3 from z) ar,λz=>absurd (show(4:Int)=5\/(4:Int)=6 from z) ar⟩
    ·have c0:e2.zj=0:=Decidable.of_not_not c
     have upto:∀k:Nat,(k:Int)<=x.m.k->k<(oP v2).length->(oP v2)[k]?=some 0:=λk hk hl=>by
      by_cases y:(k:Int)<x.m.k
      ·exact z6 k (λ_=>y) hl
      ·have:k=x.m.k.toNat:=by omega
       rw[this,ev,c0]
     have my:∀v,r.1.zd[x.m.version.toNat]?=some v->v=v2:=λv hv=>by
      rw[qc.wC,hv2]at hv;exact(pz hv).symm
     rw[pw c];by_cases c2:x.m.k+1<((xJ v2).length:Int)
     ·rw[pA c2];dsimp only;refine⟨λ_=>z1,λz=>by omega,λz=>by omega,λ_=>⟨⟨rr,r1,r2,r3,r4⟩,λv hv k hk hl=>?_⟩⟩;rw[my v hv]at hl ⊢;exact upto k (by have:=hk px;omega) hl
     ·rw[pw c2];dsimp only;refine⟨λ_=>z1,λz=>absurd z ar,λz=>absurd z ar,λ_=>⟨⟨rr,r1,r2,r3,r4⟩,λv hv k hk hl=>?_⟩⟩;rw[my v hv]at hl ⊢;refine upto k ?_ hl;have:(oP v2).length=(xJ v2).length:=by unfold oP;rw[pB]
      omega
   ·obtain⟨cx,ex⟩:=co aw;have px:x.m.pc=6:=by rw[<-ex];exact q
    have z1:=eb.c1 t x sel cx aw;obtain⟨rr,r1,r2,r3,r4⟩:=eb.c5 t x sel cx (.inr px);rw[ex]at hv2 hx2 hxv hw he;rw[hx2]at r1;obtain rfl:=pz r1;have z6:=eb.c6 t x v2 sel cx (.inr px) hv2
    have get:∀{c:Nat} {y:lW},(s.2.1.set t (Wor.qq x r.2.1))[c]?=some y->(c=t/\y=Wor.qq x r.2.1)\/(c≠t/\s.2.1[c]?=some y):=λh=>by
     rcases jG h with⟨h1,h2,_⟩|⟨h1,h2⟩
     ·exact .inl ⟨h1.symm,h2⟩
     ·exact .inr ⟨λz=>h1 z.symm,h2⟩
    have getH:∀{c:Nat} {y:lW},(s.2.1.set t (Wor.qq x r.2.1))[c]?=some y->Ha y->s.2.1[c]?=some y:=λh q=>by
     rcases get h with⟨_,rfl⟩|⟨_,h⟩
     ·exact H0 q
     ·exact h
    have getS:∀{c:Nat} {y:lW},(s.2.1.set t (Wor.qq x r.2.1))[c]?=some y->Sw y->s.2.1[c]?=some y:=λh q=>by
     rcases get h with⟨_,rfl⟩|⟨_,h⟩
     ·exact S0 q
     ·exact h
    have getC:∀{c:Nat} {y:lW},(s.2.1.set t (Wor.qq x r.2.1))[c]?=some y->Co y->2<=y.m.pc->y.m.pc=4/\y.m.zn=x.m.zn:=λh q h2=>by
     rcases get h with⟨_,rfl⟩|⟨n,h⟩
     ·obtain⟨a,_,_⟩:=mm q.1;rw[a,hp,he];exact gD
     ·exact absurd (V4 gi h sel q cx aw aw) n
    have lim:∀r'∈s.1.zr.set x.m.i.toNat (wb x2),r'∈s.1.zr\/(r'.version=x2.version/\r'.at_=x2.at_):=λr' hr'=>by
     rcases rC hr' with h|rfl
     ·exact .inl h
     ·exact .inr ⟨rfl,rfl⟩
    have rm:=pq hx2;rw[hw];refine⟨λa y h q p=>eb.h1 a y (getH h q) q p,λa y h q p=>eb.h2 a y (getH h q) q p,λa y h q p=>eb.h3 a y (getH h q) q p,λa y h q p=>?_,λa y h q p=>?_,λa y h q p=>?_,λa y h q p=>?_,λa y v h q p=>?_,λr' hr' a y h q p hv=>?_,λa y h q p b z hz hq=>eb.s1 a y (getS h q) q p b z (getH hz hq) hq,λr' hr' hg=>?_⟩
    ·show _<=s.1.zn;have:=(getC h q p).2;omega
    ·exact gC
    ·exact gC
    ·exact gC
    ·exact gC
    ·rcases lim r' hr' with hr'|⟨e1,e2⟩
     ·exact eb.l1 r' hr' a y (getH h q) q p hv
     ·rw[e2];exact eb.l1 x2 rm a y (getH h q) q p (hv.trans e1)
    ·have due:r'.at_+2<=s.1.zn/\∀v,s.1.zd[r'.version.toNat]?=some v->Nil v λ_=>True:=by
      rcases rC (show r'∈s.1.zr.set x.m.i.toNat (wb x2) from hr') with h|rfl
      ·exact eb.g1 r' h hg
      ·refine⟨by show x2.at_+2<=_;omega,λv hv k _ hl=>?_⟩;have hv:s.1.zd[x2.version.toNat]?=some v:=hv;rw[r2,hv2]at hv;obtain rfl:=pz hv;exact z6 k (λz=>absurd (px.symm.trans z) ar) hl
     refine⟨due.1,λv hv=>?_⟩;have hv:(s.1.zd.set x.m.version.toNat (Cg v2))[r'.version.toNat]?=some v:=hv;rcases jG hv with⟨e1,rfl,_⟩|⟨_,hv⟩
     ·exact due.2 v2 (by rw[<-e1];exact hv2)
     ·exact due.2 v hv
  ·
   rw[no]at k1;rw[VA h];exact Ar eb hx O O (λ_ _=>O) (vD λ_ _=>O) (λh=>oZ k1 ar h) (λh=>oZ k1 ar h) (λh=>oZ k1 ar h)
def EV(e:lD):Prop:=e.access=2/\e.cell=12
def FH(e:lD):Prop:=e.access=1/\e.cell=3
structure AV(w:Wor)(m:lh)(v:lJ)(r:Wor×lh×lD):Prop where
 fr:r.2.2.qd=false\/(r.2.2.qd=v.qd/\((m.op.kind=1/\4<=m.pc/\m.pc<=22)\/(m.op.kind=2/\m.pc<=3)))\/(m.op.kind=5/\m.pc=5/\∃v2,w.zd[m.version.toNat]?=some v2/\r.2.2.qd=v2.qd)
 st:EV r.2.2->m.op.kind=5/\m.pc=6/\r.2.2.value=m.version
 ld:FH r.2.2->(m.op.kind=1/\m.pc=3/\r.2.2.value=w.current)\/r.2.1.done=true
def yt{w w':Wor}{m m':lh}{v:lJ}{e:lD}(h1:e.qd=false:=by exact O)(h2:¬(e.access=2/\e.cell=12):=by exact pF au)(h3:¬(e.access=1/\e.cell=3):=by exact pF au):AV w m v (w',m',e):=⟨.inl h1,λz=>absurd z h2,λz=>absurd z h3⟩
def BZ{w w':Wor}{m m':lh}{v:lJ}{e:lD}(h0:(m.op.kind=1/\4<=m.pc/\m.pc<=22)\/(m.op.kind=2/\m.pc<=3))(h1:e.qd=v.qd:=by exact O)(h2:¬(e.access=2/\e.cell=12):=by exact pF au)(h3:¬(e.access=1/\e.cell=3):=by exact pF au):AV w m v (w',m',e):=⟨.inr (.inl ⟨h1,h0⟩),λz=>absurd z h2,λz=>absurd z h3⟩
def D3{α:Type}{w:Wor}{m:lh}{v:lJ}{o:Option α}{f:α->Wor×lh×lD}{r:Wor×lh×lD}(h:o.map f=some r)(hf:∀x,AV w m v (f x)):AV w m v r:=by
 obtain⟨x,_,rfl⟩:=pS.1 h;exact hf x
def Ll{w:Wor}{m:lh}{v:lJ}{f:mj->Wor×lh×lD}{r:Wor×lh×lD}(h:vW w m f=some r)(hf:∀x,AV w m v (f x)):AV w m v r:=by
 unfold vW at h;rcases zq h with h|h
 ·cases h
 ·exact D3 h hf
section
variable {w:Wor} {m:lh} {v:lJ} {g:Gr} {e:En} {r:Wor×lh×lD}
def Ux{k p:Int}(h:xQ w m k p=some r):AV w m v r:=by
 unfold xQ at h;split at h
 ·cases h
 ·split at h
  ·cases h
  ·obtain rfl:=pz h;exact yt
def zuL(k1:m.op.kind=1)(h:zY w m v g e=some r):AV w m v r:=by
 unfold zY at h;rcases zA h with⟨p,h⟩|⟨_,h⟩
 ·unfold AN at h;rcases zq h with h|h
  ·obtain rfl:=pz h;exact yt
  rcases zq h with h|h
  ·obtain rfl:=pz h;exact yt
  rcases zq h with h|h
  ·obtain rfl:=pz h;exact yt
  ·cases h
 rcases zA h with⟨p,h⟩|⟨_,h⟩
 ·obtain rfl:=pz h;exact⟨.inl O,λz=>absurd (show(1:Int)=2 from z.1) ar,λ_=>.inl ⟨k1,p,rfl⟩⟩
 rcases zA h with⟨p,h⟩|⟨_,h⟩
 ·exact Ll h λx=>yt
 rcases zA h with⟨p,h⟩|⟨_,h⟩
 ·refine Ll h λx=>?_
  cases x.drain with
  |true=>exact yt
  |false=>exact yt
 rcases zA h with⟨p,h⟩|⟨_,h⟩
 ·exact D3 h λx=>BZ (.inl ⟨k1,aw,aw⟩)
 rcases zA h with⟨p,h⟩|⟨_,h⟩
 ·obtain rfl:=pz h;exact BZ (.inl ⟨k1,aw,aw⟩)
 rcases zA h with⟨p,h⟩|⟨_,h⟩
 ·exact D3 h λx=>BZ (.inl ⟨k1,aw,aw⟩)
 rcases zA h with⟨p,h⟩|⟨_,h⟩
 ·obtain rfl:=pz h;exact BZ (.inl ⟨k1,aw,aw⟩)
 rcases zA h with⟨p,h⟩|⟨_,h⟩
 ·exact D3 h λx=>BZ (.inl ⟨k1,aw,aw⟩)
 rcases zA h with⟨p,h⟩|⟨_,h⟩
 ·rcases zq h with h|h
  ·obtain rfl:=pz h;exact BZ (.inl ⟨k1,aw,aw⟩)
  ·obtain rfl:=pz h;exact BZ (.inl ⟨k1,aw,aw⟩)
 rcases zA h with⟨p,h⟩|⟨_,h⟩
 ·obtain rfl:=pz h;exact BZ (.inl ⟨k1,aw,aw⟩)
 rcases zq h with h|h
 ·exact Ux h
 rcases zq h with h|h
 ·exact Ux h
 rcases zq h with h|h
 ·exact Ll h λx=>yt
 rcases zq h with h|h
 ·obtain rfl:=pz h;exact yt
 ·cases h
def zuK(k1:m.op.kind=2)(h:jO w m v g e=some r):AV w m v r:=by
 unfold jO at h;rcases zA h with⟨p,h⟩|⟨_,h⟩
 ·obtain rfl:=pz h;exact BZ (.inr ⟨k1,aw⟩)
 rcases zA h with⟨p,h⟩|⟨_,h⟩
 ·obtain rfl:=pz h;exact BZ (.inr ⟨k1,aw⟩)
 rcases zA h with⟨p,h⟩|⟨_,h⟩
 ·rcases zq h with h|h
  ·obtain rfl:=pz h;exact BZ (.inr ⟨k1,aw⟩)
  ·obtain rfl:=pz h;exact BZ (.inr ⟨k1,aw⟩)
 rcases zA h with⟨p,h⟩|⟨_,h⟩
 ·obtain rfl:=pz h;exact BZ (.inr ⟨k1,aw⟩)
 rcases zq h with h|h
 ·exact Ll h λx=>yt
 rcases zq h with h|h
 ·obtain rfl:=pz h;exact yt
 ·cases h
def zz1(h:kU w m=some r):AV w m v r:=by
 unfold kU at h;rcases zq h with h|h
 ·rcases zq h with h|h
  ·obtain rfl:=pz h;exact yt
  ·obtain rfl:=pz h;exact⟨.inl O,λz=>absurd (show(1:Int)=2 from z.1) ar,λ_=>.inr O⟩
 rcases zq h with h|h
 ·obtain rfl:=pz h;exact yt
 rcases zq h with h|h
 ·rcases zq h with h|h
  ·cases h
  ·obtain rfl:=pz h;exact yt
 ·cases h
def zxi(h:yA w m=some r):AV w m v r:=by
 unfold yA at h;rcases zq h with h|h
 ·rcases zq h with h|h
  ·obtain rfl:=pz h;exact yt
  ·exact D3 h λx=>yt
 ·cases h
def QM(w:Wor)(m m0:lh):AV w m0 v (nM w m):=by
 unfold nM;split
 ·exact yt
 ·exact yt
def zrn(k1:m.op.kind=5)(h:jA w m=some r):AV w m v r:=by
 unfold jA at h;rcases zq h with h|h
 ·obtain rfl:=pz h;split
  ·exact yt
  ·exact yt
 rcases zq h with h|h
 ·obtain rfl:=pz h;exact yt
 rcases zq h with h|h
 ·exact D3 h λx=>yt
 rcases zq h with h|h
 ·obtain rfl:=pz h;split
  ·exact yt
  ·exact yt
 rcases zq h with h|h
 ·obtain rfl:=pz h;split
  ·exact QM w _ m
  ·exact yt
 rcases zA h with⟨p,h⟩|⟨_,h⟩
 ·obtain⟨v2,hv,h⟩:=pN.1 h;exact D3 h λx=>⟨.inr (.inr ⟨k1,p,v2,hv,rfl⟩),λz=>absurd (show(1:Int)=2 from z.1) ar,λz=>absurd (show(7:Int)=3 from z.2) ar⟩
 rcases zA h with⟨p,h⟩|⟨_,h⟩
 ·obtain⟨v2,hv2,h⟩:=pN.1 h;obtain⟨x,_,h⟩:=pN.1 h;rcases zq h with h|h
  ·obtain rfl:=pz h;exact⟨.inl O,λ_=>⟨k1,p,rfl⟩,λz=>absurd (show(2:Int)=1 from z.1) ar⟩
  ·cases h
 rcases zq h with h|h
 ·obtain rfl:=pz h;exact QM w m m
 rcases zq h with h|h
 ·exact D3 h λx=>yt
 rcases zq h with h|h
 ·obtain⟨v,_,h⟩:=pN.1 h;rcases zq h with h|h
  ·obtain rfl:=pz h;exact yt
  ·cases h
 ·cases h
def zxj(h:xS w m=some r):AV w m v r:=by
 unfold xS at h;rcases zq h with h|h
 ·obtain⟨v,_,h⟩:=pN.1 h;exact D3 h λx=>yt O (λz=>absurd (show(1:Int)=2 from z.1) ar) (λz=>absurd (show(10:Int)=3 from z.2) ar)
 ·cases h
def YR(su:ja w m v g e)(h:yu w m=some r):AV w m v r:=by
 rcases ky su h with⟨k,h⟩|⟨k,h⟩|⟨_,h⟩|⟨_,h⟩|⟨k,h⟩|⟨_,h⟩
 ·exact zuL k h
 ·exact zuK k h
 ·exact zz1 h
 ·exact zxi h
 ·exact zrn k h
 ·exact zxj h
end
def HV{w:Wor}(gw:xa w){i:Nat}{v:lJ}(hv:w.zd[i]?=some v)(hf:v.qd=true):∃r∈w.zr,r.version=(i:Int)/\r.gone=true:=by
 have h:=(gw.my i v hv).2;rw[hf]at h;exact(wQ w.zr i (wh gw.zr)).1 h.symm
def Y5{m:lh}(h:ph m=6):m.op.kind=5:=by
 unfold ph at h;repeat' split at h
 all_goals first|assumption|omega
structure SF(s:Wor.mS):Prop where
 QF:∀e∈s.2.2,e.qd=false
 fr:∀e∈s.2.2,EV e->0<=e.value/\∃v,s.1.zd[e.value.toNat]?=some v/\v.qd=true
 Rb:∀(a b:Nat) (ea eb:lD),a<b->s.2.2[a]?=some ea->s.2.2[b]?=some eb->EV ea->EV eb->ea.value≠eb.value
 has:∀(j:Nat) (e:lD),s.2.2[j]?=some e->FH e->(∃(k:Nat) (f:lD),j<=k/\s.2.2[k]?=some f/\f.zg=e.zg/\f.done=true)\/∃(t:Nat) (x:lW),e.zg=(t:Int)/\s.2.1[t]?=some x/\Ha x/\4<=x.m.pc/\x.m.version=e.value
 early:∀(i j:Nat) (ei ej:lD),s.2.2[i]?=some ei->EV ei->j<i->s.2.2[j]?=some ej->FH ej->ej.value=ei.value->∃(k:Nat) (f:lD),j<=k/\k<i/\s.2.2[k]?=some f/\f.zg=ej.zg/\f.done=true
def YM{N K:Nat}{s:Wor.mS}(gi:GI N K s.1 s.2.1)(eb:EB s.1 s.2.1)(sf:SF s)(p:Int)(hN:N<=100000000)(hK:K<=1099511627776):SF (yl s p):=by
 rcases jy gi p hN hK with⟨_,e⟩|⟨t,x,o,r,hat,hx,ho,hsu,htm,hst,_,e,gi2⟩
 ·rw[e];exact sf
 ·rw[e];obtain⟨v,g,en,su⟩:=yh hsu;have tl:=w6 su.done hst;have nt:=vO o gi hx;have no:=C4 gi hx ho;have eth:r.2.2.zg=(t:Int):=tl.2.2.trans nt;have hl:=(gZ.1 hx).1;have gw:=gi.st.jn;have ev:=YR su hst;have kp:=Yj gi hx ho hN hK hst
  have held:∀(t':Nat) (z:lW),s.2.1[t']?=some z->Ha z->4<=z.m.pc->∀r'∈s.1.zr,r'.at_+2<=s.1.zn->z.m.version≠r'.version:=λt' z hz hq h4 r' hr' hdue hv=>by
   have:=eb.l1 r' hr' t' z hz hq h4 hv;have:=eb.h3 t' z hz hq aw;omega
  have frk:∀(i:Nat) (v0:lJ),s.1.zd[i]?=some v0->v0.qd=true->∃v1,r.1.zd[i]?=some v1/\v1.qd=true:=λi v0 h0 hf=>by
   obtain⟨v1,hv1⟩:∃v1,r.1.zd[i]?=some v1:=⟨_,pa (by have:=(gZ.1 h0).1;have:=kp.wC;omega)⟩;refine⟨v1,hv1,?_⟩;obtain⟨r0,hr0,e1,e2⟩:=HV gw h0 hf;obtain⟨k,hk⟩:=pJ.1 hr0;obtain⟨r1,hr1⟩:∃r1,r.1.zr[k]?=some r1:=⟨_,pa (by have:=(gZ.1 hk).1;have:=kp.lim;omega)⟩;have gw2:=gi2.st.jn;rw[(gw2.my i v1 hv1).2];refine(wQ r.1.zr i (wh gw2.zr)).2 ⟨r1,pq hr1,(kp.zr k r0 r1 hk hr1).1.trans e1,?_⟩;by_cases lk:xw (z8 x t o) .lock=0
   ·rw[((kp.zr k r0 r1 hk hr1).2.2 lk)];exact e2
   ·
    have k5:(z8 x t o).op.kind=5:=Y5 (Decidable.byContradiction λz=>lk (by unfold xw qp;exact pw z))
    have h:jA s.1 (z8 x t o)=some r:=by
     rcases ky su hst with⟨k,_⟩|⟨k,_⟩|⟨k,_⟩|⟨k,_⟩|⟨_,h⟩|⟨k,_⟩
     all_goals first|exact h|omega
    have lims:r.1.zr=s.1.zr\/∃(i:Nat) (x2:mw),s.1.zr[i]?=some x2/\r.1.zr=s.1.zr.set i (wb x2):=by
     rcases JY su.done h with⟨_,qc,_⟩|⟨_,hw,_⟩|⟨_,hw,_⟩|⟨_,_,hw,_⟩|⟨_,_,_,qc,_⟩|⟨_,qc,_⟩|⟨_,v2,x2,_,hx2,_,_,hw,_⟩
     ·exact .inl qc.zr
     ·rw[hw];exact .inl O
     ·rw[hw];exact .inl O
     ·rw[hw];exact .inl O
     ·exact .inl qc.zr
     ·exact .inl qc.zr
     ·rw[hw];exact .inr ⟨_,x2,hx2,rfl⟩
    rcases lims with q|⟨i2,x2,hx2,q⟩
    ·rw[q,hk]at hr1;cases hr1
     exact e2
    ·rw[q]at hr1;rcases jG hr1 with⟨_,rfl,_⟩|⟨_,hr1⟩
     ·rfl
     ·rw[hk]at hr1;cases hr1
      exact e2
  have frn:EV r.2.2->∃(vi:Nat) (v2:lJ) (x2:mw),r.2.2.value=(vi:Int)/\s.1.zd[vi]?=some v2/\v2.qd=false/\(∃v3,r.1.zd[vi]?=some v3/\v3.qd=true)/\x2∈s.1.zr/\x2.version=(vi:Int)/\x2.at_+2<=s.1.zn:=λhf=>by
   obtain⟨k5,p6,hval⟩:=ev.st hf;rw[no]at k5;obtain⟨onx,ex⟩:=GX (o:=o) (t:=(t:Int)) (x:=x) aw aw;have cx:Co x:=⟨onx,by rw[<-ex,no];exact k5⟩;have px:x.m.pc=6:=by rw[<-ex];exact p6
   obtain⟨rr,r1,r2,r3,r4⟩:=eb.c5 t x hx cx (.inr px);have z1:=eb.c1 t x hx cx aw;have v0:=su.version;rw[ex]at hval v0
   have ce:jA s.1 (z8 x t o)=some r:=by
    rcases ky su hst with⟨k,_⟩|⟨k,_⟩|⟨k,_⟩|⟨k,_⟩|⟨_,h⟩|⟨k,_⟩
    all_goals first|exact h|(rw[no]at k;omega)
   rcases JY su.done ce with⟨q,_⟩|⟨q,_⟩|⟨q,_⟩|⟨q,_⟩|⟨_,_,q,_⟩|⟨q,_⟩|⟨_,v2,x2,hv2,hx2,hxv,hxg,hw,_⟩
   ·omega
   ·omega
   ·omega
   ·omega
   ·omega
   ·omega
   ·rw[ex]at hv2 hx2 hxv hw;rw[hx2]at r1;obtain rfl:=pz r1
    have nf:v2.qd=false:=by
     cases z:v2.qd with
     |false=>rfl
     |true=>
      obtain⟨r0,hr0,e1,e2⟩:=HV gw hv2 z;obtain⟨k,hk⟩:=pJ.1 hr0;have:=wh gw.zr k x.m.i.toNat r0 x2 hk hx2 aw;subst this;rw[hx2]at hk;cases hk
      rw[hxg]at e2;cases e2
    refine⟨x.m.version.toNat,v2,x2,aw,hv2,nf,⟨Cg v2,?_,rfl⟩,pq hx2,aw,aw⟩;rw[hw];exact pC (gZ.1 hv2).1
  refine⟨λe1 h1=>?_,λe1 h1 h2=>?_,λa b ea eb' hab h1 h2 f1 f2=>?_,λj e1 h1 h2=>?_,λi j ei ej h1 h2 hji h3 h4 h5=>?_⟩
  ·
   dsimp only at h1;rcases pV.1 h1 with h1|h1
   ·exact sf.QF e1 h1
   ·rw[pP]at h1;subst h1;show r.2.2.qd=false;rcases ev.fr with q|⟨q,hh⟩|⟨k5,p5,v2,hv2,q⟩
    ·exact q
    ·rw[q];cases z:v.qd with
     |false=>rfl
     |true=>
      exfalso
      obtain⟨r0,hr0,e1,e2⟩:=HV gw su.mu z;obtain⟨d1,d2⟩:=eb.g1 r0 hr0 e2;have v0:=su.version;rcases hh with⟨k1,p1,p2⟩|⟨k2,p3⟩
      ·rw[no]at k1;obtain⟨onx,ex⟩:=GX (o:=o) (t:=(t:Int)) (x:=x) aw aw;rw[ex]at p1 v0 e1;exact held t x hx ⟨onx,by rw[<-ex,no];exact k1⟩ p1 r0 hr0 d1 aw
      ·have pd:ph (z8 x t o)=3\/ph (z8 x t o)=4:=by
        by_cases z:(z8 x t o).pc<=2
        ·exact .inl (oy su.done k2 (pA z))
        ·exact .inr (oy su.done k2 (by rw[pw z,pA aw]))
       have le:=WN gi hx ho hN hK (.act (z8 x t o).version (z8 x t o).zi (z8 x t o).end_);have at_:m7 s.1 (z8 x t o) v g en:=su.at_;rw[KT at_]at le
       have one:1<=xw (z8 x t o) (.act (z8 x t o).version (z8 x t o).zi (z8 x t o).end_):=by
        rcases pd with pd|pd <;> (rw[jD pd];simp[qp])
       obtain⟨pp,p1,_⟩:=Gx v.zp (z8 x t o).zi.toNat (z8 x t o).end_.toNat en 0 su.mn su.mM;have pe:(xJ v)[pp]?=some en:=p1;have ea:(oP v)[pp]?=some en.zj:=by unfold oP;rw[pj,pe];rfl
       have z0:=d2 v (by rw[show r0.version.toNat=(z8 x t o).version.toNat by omega];exact su.mu) pp trivial (gZ.1 ea).1;rw[ea]at z0;have:=pz z0;omega
    ·rw[q];cases z:v2.qd with
     |false=>rfl
     |true=>
      exfalso
      rw[no]at k5;obtain⟨onx,ex⟩:=GX (o:=o) (t:=(t:Int)) (x:=x) aw aw;have cx:Co x:=⟨onx,by rw[<-ex,no];exact k5⟩;rw[ex]at p5 hv2;obtain⟨rr,r1,r2,r3,r4⟩:=eb.c5 t x hx cx (.inl p5);obtain⟨r0,hr0,e1,e2⟩:=HV gw hv2 z;obtain⟨k,hk⟩:=pJ.1 hr0;have la:=wi gw r1;have:=wh gw.zr k x.m.i.toNat r0 rr hk r1 aw;subst this;rw[r1]at hk;cases hk
      rw[r3]at e2;cases e2
  ·dsimp only at h1 ⊢;rcases pV.1 h1 with h1|h1
   ·obtain⟨z1,v0,z2,z3⟩:=sf.fr e1 h1 h2;obtain⟨v1,z4,z5⟩:=frk _ v0 z2 z3;exact⟨z1,v1,z4,z5⟩
   ·rw[pP]at h1;subst h1;obtain⟨vi,v2,x2,z1,z2,z3,⟨v3,z4,z5⟩,_⟩:=frn h2;have zv:(vq r.2.2 x).value=(vi:Int):=z1;rw[zv,toNat_cast];exact⟨aw,v3,z4,z5⟩
  ·dsimp only at h1 h2;rcases xB h2 with⟨l2,h2⟩|⟨rfl,rfl⟩
   ·rcases xB h1 with⟨_,h1⟩|⟨q,_⟩
    ·exact sf.Rb a b ea eb' hab h1 h2 f1 f2
    ·omega
   ·rcases xB h1 with⟨_,h1⟩|⟨q,_⟩
    ·obtain⟨vi,v2,x2,z1,z2,z3,_⟩:=frn f2;obtain⟨y1,v0,y2,y3⟩:=sf.fr ea (pq h1) f1;intro q;have q:ea.value=r.2.2.value:=q;rw[q,z1,toNat_cast,z2]at y2;obtain rfl:=pz y2;rw[z3]at y3;cases y3
    ·omega
  ·dsimp only at h1 ⊢;rcases xB h1 with⟨l1,h1⟩|⟨rfl,rfl⟩
   ·rcases sf.has j e1 h1 h2 with⟨k,f,y1,y2,y3,y4⟩|⟨t',z,y1,y2,y3,y4,y5⟩
    ·exact .inl ⟨k,f,y1,xx _ y2,y3,y4⟩
    ·by_cases q:t=t'
     ·subst q;rw[hx]at y2;obtain rfl:=pz y2;cases dn:r.2.1.done with
      |true=>exact .inl ⟨s.2.2.length,_,aw,yy _ _,by show r.2.2.zg=_;omega,by show r.2.2.done=true;rw[tl.1];exact dn⟩
      |false=>
       refine .inr ⟨t,_,y1,pC hl,?_⟩;have ex:z8 x t o=x.m:=by unfold z8;rw[y3.1];rfl
       have hh:zY s.1 (z8 x t o) v g en=some r:=by
        rcases ky su hst with⟨_,h⟩|⟨k,_⟩|⟨k,_⟩|⟨k,_⟩|⟨k,_⟩|⟨k,_⟩
        ·exact h
        all_goals (rw[ex]at k;have:=y3.2;omega)
       have ho2:(Wor.qq x r.2.1).ops[(Wor.qq x r.2.1).done]?=some o:=by rw[xI dn];exact ho
       have n2:=C4 gi2 (pC hl) ho2;have e2:z8 (Wor.qq x r.2.1) t o=r.2.1:=by rw[xI dn];rfl
       rw[e2]at n2;rw[xI dn];refine⟨⟨rfl,by show r.2.1.op.kind=1;rw[n2,<-no,ex];exact y3.2⟩,?_⟩;show 4<=r.2.1.pc/\r.2.1.version=e1.value;rcases J8 su.done (by rw[ex];omega) hh with⟨q,_⟩|⟨q,_⟩|⟨q,_⟩|⟨q,_⟩|⟨_,_,q3,_,q5,_⟩|⟨_,_,q⟩
       ·rw[ex]at q;omega
       ·rw[ex]at q;omega
       ·rw[ex]at q;omega
       ·rw[ex]at q;omega
       ·exact⟨q5,by rw[q3,ex];exact y5⟩
       ·rw[dn]at q;cases q
     ·exact .inr ⟨t',z,y1,by rw[pX q];exact y2,y3,y4,y5⟩
   ·cases dn:r.2.1.done with
    |true=>exact .inl ⟨s.2.2.length,_,pI _,yy _ _,rfl,by show r.2.2.done=true;rw[tl.1];exact dn⟩
    |false=>
     rcases ev.ld h2 with⟨k1,p3,hv⟩|q
     ·refine .inr ⟨t,_,eth,pC hl,?_⟩
      have hh:zY s.1 (z8 x t o) v g en=some r:=by
       rcases ky su hst with⟨_,h⟩|⟨k,_⟩|⟨k,_⟩|⟨k,_⟩|⟨k,_⟩|⟨k,_⟩
       ·exact h
       all_goals omega
      have ho2:(Wor.qq x r.2.1).ops[(Wor.qq x r.2.1).done]?=some o:=by rw[xI dn];exact ho
      have n2:=C4 gi2 (pC hl) ho2;have e2:z8 (Wor.qq x r.2.1) t o=r.2.1:=by rw[xI dn];rfl
      rw[e2]at n2;rw[xI dn];refine⟨⟨rfl,by show r.2.1.op.kind=1;rw[n2,<-no];exact k1⟩,?_⟩;show 4<=r.2.1.pc/\r.2.1.version=r.2.2.value;rcases J8 su.done aw hh with⟨q,_⟩|⟨q,_⟩|⟨q,_⟩|⟨_,_,q3,_,q5,_⟩|⟨q,_⟩|⟨q,_⟩
      ·omega
      ·omega
      ·omega
      ·exact⟨q5,q3.trans hv.symm⟩
      ·omega
      ·omega
     ·rw[dn]at q;cases q
  ·dsimp only at h1 h3 ⊢;rcases xB h1 with⟨l1,h1⟩|⟨rfl,rfl⟩
   ·rcases xB h3 with⟨_,h3⟩|⟨q,_⟩
    ·obtain⟨k,f,y1,y2,y3,y4⟩:=sf.early i j ei ej h1 h2 hji h3 h4 h5;exact⟨k,f,y1,y2,xx _ y3,y4⟩
    ·omega
   ·rcases xB h3 with⟨_,h3⟩|⟨q,_⟩
    ·obtain⟨vi,v2,x2,z1,z2,z3,_,z4,z5,z6⟩:=frn h2;rcases sf.has j ej h3 h4 with⟨k,f,y1,y2,y3,y4⟩|⟨t',z,y1,y2,y3,y4,y5⟩
     ·exact⟨k,f,y1,(gZ.1 y2).1,xx _ y2,y3,y4⟩
     ·have h5:ej.value=r.2.2.value:=h5;exact absurd (y5.trans (h5.trans (z1.trans z5.symm))) (held t' z y2 y3 y4 x2 z4 z6)
    ·omega
def zxc{w:Wor}(T:List (List lX))(hl:w.zr=[]):EB w (T.map wA):=by
 have offT:∀{t:Nat} {x:lW} {P:Prop},(T.map wA)[t]?=some x->x.on=true->P:=λh hon=>by
  obtain⟨L,_,rfl⟩:=pS.1 ((pj ..).symm.trans h);cases hon
 exact⟨λ_ _ h q=>offT h q.1,λ_ _ h q=>offT h q.1,λ_ _ h q=>offT h q.1,λ_ _ h q=>offT h q.1,λ_ _ h q=>offT h q.1,λ_ _ h q=>offT h q.1,λ_ _ h q=>offT h q.1,λ_ _ _ h q=>offT h q.1,λr hr=>(by rw[hl]at hr;cases hr),λ_ _ h q=>offT h q.1,λr hr=>(by rw[hl]at hr;cases hr)⟩
def Qx{N K:Nat}{s:Wor.mS}(gi:GI N K s.1 s.2.1)(eb:EB s.1 s.2.1)(sf:SF s)(l:List Int):∀k,k<=l.length->N+k<=100000000->K+k<=1099511627776->EB (mY s l k).1 (mY s l k).2.1/\SF (mY s l k)
 |0,_,_,_=>⟨eb,sf⟩
 |k+1,hk,hN,hK=>by
  have ih:=Qx gi eb sf l k aw aw aw;have g:=kB gi l k aw aw aw;rw[xX (pa aw)];exact⟨zzY g ih.1 _ aw aw,YM g ih.1 ih.2 _ aw aw⟩
def zvx{s:Sna}{l:List lH}{n:Int}{w:Wor}(h:nZ s l n=(w,0)):w.zr=[]:=by
 unfold nZ at h;split at h
 ·exact dH
 ·have hw:_=w:=sF Prod.fst h;rw[<-hw]
def UP{s:mb}(ok:kL s)(h:(zK s).2.2=0):EB (qU s).1 (qU s).2.1/\SF (qU s)/\zK s=((qU s).2.2,(qU s).1,0):=by
 have hb:=ku h;obtain⟨q,hn⟩:=jQ hb;obtain⟨_,_,_,p4,_,_⟩:=xg q;have s0:SF (nu s):=⟨λe h=>aS,λe h=>aS,λa b ea eb _ h=>aS,λj e h=>aS,λi j ei ej h=>aS⟩;have z:=Qx (xY ok hb) (zxc s.threads (zvx hn)) s0 s.zP s.zP.length (pI _) aw aw;exact⟨z.1,z.2,cO⟩
end Go.Run
