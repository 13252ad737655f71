import Derived.Test.YtoeaoedlpmohoaaGreatTR
import Derived.Test.YtoeaoedlpmohoaaGreatTR1
set_option linter.all false
set_option maxRecDepth 100000
set_option maxHeartbeats 4000000
namespace Go.Run
open Go.Ab Go.Proofs Tryz Go.Gat Go.Nam Go.Hos Go.Con Go.Sna Go.Pla Go.Ply Go.Wor
open Go.Hy hiding encI
structure Qu(w w':Wor)(i:Nat):Prop where
 pins:w'.pins=w.pins
 zl:w'.zl=w.zl
 zp:w'.zp=w.zp
 current:w'.current=w.current
 len:w'.zd.length=w.zd.length
 J3:∀j,j≠i->w'.zd[j]?=w.zd[j]?
def yo{w w':Wor}{i:Nat}(h1:w'.pins=w.pins)(h2:w'.zl=w.zl)(h3:w'.zp=w.zp)(h4:w'.current=w.current)(h5:w'.zd=w.zd):Qu w w' i:=⟨h1,h2,h3,h4,by rw[h5],λj _=>by rw[h5]⟩
def C3{w w':Wor}{i:Nat}{v':fp}(h1:w'.pins=w.pins)(h2:w'.zl=w.zl)(h3:w'.zp=w.zp)(h4:w'.current=w.current)(h5:w'.zd=w.zd.set i v'):Qu w w' i:=
 ⟨h1,h2,h3,h4,by rw[h5,pU],λj hj=>by rw[h5,gW (λz=>hj z.symm)]⟩
def HE(w:Wor)(m:fi)(r:Wor×fi×fk):Prop:=
 (m.pc=0/\r.1=w/\r.2.1={m with zl:=w.zl,pc:=1})\/
 (m.pc=1/\r.1=nD w m.zf.toNat (IntKind.i64.wrap (m.zl+1))/\r.2.1={m with pc:=2})\/
 (m.pc=2/\r.1=w/\r.2.1={m with zl:=w.zl,pc:=if w.zl=m.zl then 3 else 1})\/
 (m.pc=3/\r.1=w/\r.2.1.version=w.current/\r.2.1.zl=m.zl/\4<=r.2.1.pc/\r.2.1.done=false)\/
 (4<=m.pc/\m.pc<=22/\r.2.1.version=m.version/\r.2.1.zl=m.zl/\4<=r.2.1.pc/\r.2.1.done=false/\Qu w r.1 m.version.toNat)\/
 (m.pc=23/\r.1=nD w m.zf.toNat 0/\r.2.1.done=true)
def o5{w w':Wor}{m m':fi}{e:fk}(h1:4<=m.pc)(h2:m.pc<=22)(h3:m'.version=m.version)(h4:m'.zl=m.zl)(h5:4<=m'.pc)(h6:m'.done=false)(h7:Qu w w' m.version.toNat):HE w m (w',m',e):=.inr (.inr (.inr (.inr (.inl ⟨h1,h2,h3,h4,h5,h6,h7⟩))))
def Gq{α:Type}{w:Wor}{m:fi}{o:Option α}{f:α->Wor×fi×fk}{r:Wor×fi×fk}(h:o.map f=some r)(hf:∀x,HE w m (f x)):HE w m r:=by
 obtain⟨x,_,rfl⟩:=gM.1 h;exact hf x
def JB{w:Wor}{m:fi}{f:fI->Wor×fi×fk}{r:Wor×fi×fk}(h:iU w m f=some r)(hf:∀x,HE w m (f x)):HE w m r:=by
 unfold iU at h;rcases zD h with h|h
 ·cases h
 ·exact Gq h hf
def Ol{w:Wor}{m:fi}{k p:Int}{r:Wor×fi×fk}(h:vH w m k p=some r):Qu w r.1 m.version.toNat/\r.2.1={m with pc:=p}:=by
 unfold vH at h;split at h
 ·cases h
 ·split at h
  ·cases h
  ·obtain rfl:=gp h;exact⟨yo J J J J J,rfl⟩
def Fs{w:Wor}{m:fi}{v:fp}{g:Gr}{e:En}{r:Wor×fi×fk}(hd:m.done=false)(h0:0<=m.pc)(h:qj w m v g e=some r):HE w m r:=by
 have rt:(xd m v).version=m.version/\(xd m v).zl=m.zl/\(4<=m.pc->4<=(xd m v).pc)/\(xd m v).done=m.done:=by
  unfold xd;repeat' split
  all_goals exact⟨rfl,rfl,λh=>by first|exact h|exact gJ au,rfl⟩
 unfold qj at h;rcases zF h with⟨p,h⟩|⟨p,h⟩
 ·unfold Bw at h;rcases zF h with⟨q,h⟩|⟨_,h⟩
  ·obtain rfl:=gp h;exact .inl ⟨q,rfl,rfl⟩
  rcases zF h with⟨q,h⟩|⟨_,h⟩
  ·obtain rfl:=gp h;exact .inr (.inl ⟨q,rfl,rfl⟩)
  rcases zF h with⟨q,h⟩|⟨_,h⟩
  ·obtain rfl:=gp h;exact .inr (.inr (.inl ⟨q,rfl,rfl⟩))
  ·cases h
 rcases zF h with⟨p3,h⟩|⟨p3,h⟩
 ·obtain rfl:=gp h;refine .inr (.inr (.inr (.inl ⟨p3,rfl,?_,?_,?_,?_⟩)))
  ·split <;> rfl
  ·split <;> rfl
  ·split <;> exact(gJ au)
  ·split <;> exact hd
 rcases zF h with⟨q,h⟩|⟨_,h⟩
 ·exact JB h λx=>o5 aw aw J J (gJ au) hd (yo J J J J J)
 rcases zF h with⟨q,h⟩|⟨_,h⟩
 ·refine JB h λx=>o5 aw aw ?_ ?_ ?_ ?_ (yo J J J J J)
  ·split <;> first|rfl|exact rt.1
  ·split <;> first|rfl|exact rt.2.1
  ·split
   ·exact(gJ au)
   ·exact rt.2.2.1 aw
  ·split
   ·exact hd
   ·exact rt.2.2.2.trans hd
 rcases zF h with⟨q,h⟩|⟨_,h⟩
 ·exact Gq h λx=>o5 aw aw J J (gJ au) hd (C3 J J J J J)
 rcases zF h with⟨q,h⟩|⟨_,h⟩
 ·obtain rfl:=gp h;exact o5 aw aw J J (gJ au) hd (yo J J J J J)
 rcases zF h with⟨q,h⟩|⟨_,h⟩
 ·exact Gq h λx=>o5 aw aw J J (gJ au) hd (yo J J J J J)
 rcases zF h with⟨q,h⟩|⟨_,h⟩
 ·obtain rfl:=gp h;refine o5 aw aw ?_ ?_ ?_ ?_ (yo J J J J J)
  ·split <;> rfl
  ·split <;> rfl
  ·split <;> exact(gJ au)
  ·split <;> exact hd
 rcases zF h with⟨q,h⟩|⟨_,h⟩
 ·exact Gq h λx=>o5 aw aw J J (gJ au) hd (yo J J J J J)
 rcases zF h with⟨q,h⟩|⟨_,h⟩
 ·rcases zD h with h|h
  ·obtain rfl:=gp h;exact o5 aw aw J J (gJ au) hd (C3 J J J J J)
  ·obtain rfl:=gp h;exact o5 aw aw J J (gJ au) hd (yo J J J J J)
 rcases zF h with⟨q,h⟩|⟨_,h⟩
 ·obtain rfl:=gp h;exact o5 aw aw J J (gJ au) hd (C3 J J J J J)
 rcases zF h with⟨q,h⟩|⟨_,h⟩
 ·obtain⟨a,b⟩:=Ol h;refine .inr (.inr (.inr (.inr (.inl ⟨aw,aw,?_,?_,?_,?_,a⟩)))) <;> rw[b]
  ·exact(gJ au)
  ·exact hd
 rcases zF h with⟨q,h⟩|⟨_,h⟩
 ·obtain⟨a,b⟩:=Ol h;refine .inr (.inr (.inr (.inr (.inl ⟨aw,aw,?_,?_,?_,?_,a⟩)))) <;> rw[b]
  ·dsimp only;split <;> decide
  ·exact hd
 rcases zF h with⟨q,h⟩|⟨_,h⟩
 ·exact JB h λx=>o5 aw aw J J (gJ au) hd (yo J J J J J)
 rcases zF h with⟨q,h⟩|⟨_,h⟩
 ·obtain rfl:=gp h;exact .inr (.inr (.inr (.inr (.inr ⟨q,rfl,rfl⟩))))
 ·cases h
def lu(v:fp):List Int:=(xc v).map (·.zi)
def CQ:∀(l:List Gr) (i k:Nat) {g:Gr} {e:En} (e':En) (tk:Int),l[i]?=some g->g.ends[k]?=some e->∃p,(l.flatMap (·.ends))[p]?=some e/\((l.set i {g with zu:=tk,ends:=g.ends.set k e'}).flatMap (·.ends))=(l.flatMap (·.ends)).set p e'
 |[],i,k,g,e,e',tk,h,_=>by cases h
 |x::l,0,k,g,e,e',tk,h,h2=>by
  have:x=g:=aq h
  subst this;have lt:=(dW.1 h2).1;refine⟨k,?_,?_⟩
  ·rw[rp,gy lt];exact h2
  ·rw[sb,rp,rp,tp _ _ lt]
 |x::l,i+1,k,g,e,e',tk,h,h2=>by
  obtain⟨p,p1,p2⟩:=CQ l i k e' tk (aq h) h2;refine⟨x.ends.length+p,?_,?_⟩
  ·rw[rp,gG aw,Nat.add_sub_cancel_left];exact p1
  ·rw[uh,rp,rp,p2,sQ _ _ aw,Nat.add_sub_cancel_left]
def GG(w w':Wor)(i:Nat):Prop:=∀(v v':fp) (k:Nat),w.zd[i]?=some v->w'.zd[i]?=some v'->(lu v').length=(lu v).length/\((lu v)[k]?=some 0->(lu v')[k]?=some 0)
def kF{w w':Wor}{i:Nat}(h:w'.zd[i]?=w.zd[i]?):GG w w' i:=λv v' k h1 h2=>by rw[h,h1]at h2;cases h2;exact⟨rfl,λh3=>h3⟩
def HZ{w:Wor}{m:fi}{v:fp}{g:Gr}{e e0:En}{tk hd ac:Int}(hv:w.zd[m.version.toNat]?=some v)(hg:v.zo[m.zg.toNat]?=some g)(he:g.ends[m.end_.toNat]?=some e)(ha:e.zi=0->ac=0):GG w (mU w m v g e0 tk hd ac) m.version.toNat:=λx x' k h1 h2=>by
 rw[hv]at h1;cases h1
 have h2:(w.zd.set m.version.toNat (xq m v g e0 tk hd ac))[m.version.toNat]?=some x':=h2;rw[gk (dW.1 hv).1]at h2;cases h2
 obtain⟨p,p1,p2⟩:=CQ v.zo m.zg.toNat m.end_.toNat (qs e0 hd ac) tk hg he;have e1:xc (xq m v g e0 tk hd ac)=(xc v).set p (qs e0 hd ac):=p2;unfold lu;rw[e1,rj,pU];refine⟨rfl,λh3=>?_⟩;by_cases q:p=k
 ·subst q;have z:(xc v)[p]?=some e:=p1;rw[gf,z]at h3;have h3:e.zi=0:=by simpa using h3
  rw[gk (by rw[gu];exact(dW.1 z).1)];show some (qs e0 hd ac).zi=some 0;rw[show(qs e0 hd ac).zi=ac from J,ha h3]
 ·rw[gW q];exact h3
def V5{w:Wor}{m:fi}{v:fp}{g:Gr}{e:En}{r:Wor×fi×fk}(hv:w.zd[m.version.toNat]?=some v)(hg:v.zo[m.zg.toNat]?=some g)(he:g.ends[m.end_.toNat]?=some e)(ha:m.pc<=3->1<=e.zi)(h:j9 w m v g e=some r):Qu w r.1 m.version.toNat/\GG w r.1 m.version.toNat:=by
 unfold j9 at h;rcases zF h with⟨q,h⟩|⟨_,h⟩
 ·obtain rfl:=gp h;exact dq
 rcases zF h with⟨q,h⟩|⟨_,h⟩
 ·obtain rfl:=gp h;exact⟨(C3 J J J J J),HZ hv hg he λz=>z⟩
 rcases zF h with⟨q,h⟩|⟨_,h⟩
 ·rcases zD h with h|h
  ·obtain rfl:=gp h;exact⟨(C3 J J J J J),HZ hv hg he λz=>z⟩
  ·obtain rfl:=gp h;exact dq
 rcases zF h with⟨q,h⟩|⟨_,h⟩
 ·obtain rfl:=gp h;exact⟨(C3 J J J J J),HZ hv hg he λz=>by have:=ha aw;omega⟩
 rcases zD h with h|h
 ·unfold iU at h;rcases zD h with h|h
  ·cases h
  ·obtain⟨x,_,rfl⟩:=gM.1 h;exact dq
 rcases zD h with h|h
 ·obtain rfl:=gp h;exact dq
 ·cases h
def SE(w:Wor)(m:fi)(r:Wor×fi×fk):Prop:=
 (m.pc=0/\r.1={w with current:=w.zd.length,zd:=w.zd++[nU m.op.config]}/\r.2.1.version=w.current/\r.2.1.pc=1/\r.2.1.done=false)\/
 (m.pc=0/\r.1=w/\r.2.1.done=true)\/
 (m.pc=1/\r.1=w/\r.2.1.version=m.version/\r.2.1.zl=w.zl/\r.2.1.pc=2/\r.2.1.done=false)\/
 (m.pc=2/\r.1={w with zp:=w.zp++[⟨m.version,m.zl,false⟩]}/\r.2.1.done=true)
def OF{w:Wor}{m:fi}{r:Wor×fi×fk}(hd:m.done=false)(h:wy w m=some r):SE w m r:=by
 unfold wy at h;rcases zF h with⟨q,h⟩|⟨_,h⟩
 ·rcases zD h with h|h
  ·obtain rfl:=gp h;exact .inl ⟨q,rfl,rfl,rfl,hd⟩
  ·obtain rfl:=gp h;exact .inr (.inl ⟨q,rfl,rfl⟩)
 rcases zF h with⟨q,h⟩|⟨_,h⟩
 ·obtain rfl:=gp h;exact .inr (.inr (.inl ⟨q,rfl,rfl,rfl,rfl,hd⟩))
 rcases zF h with⟨q,h⟩|⟨_,h⟩
 ·rcases zD h with h|h
  ·cases h
  ·obtain rfl:=gp h;exact .inr (.inr (.inr ⟨q,rfl,rfl⟩))
 ·cases h
def N0{w:Wor}{m:fi}{r:Wor×fi×fk}(h:yX w m=some r):Qu w r.1 0/\GG w r.1 0:=by
 unfold yX at h;rcases zD h with h|h
 ·rcases zD h with h|h
  ·obtain rfl:=gp h;exact dq
  ·obtain⟨x,_,rfl⟩:=gM.1 h;exact dq
 ·cases h
def N9{w:Wor}{m:fi}{r:Wor×fi×fk}(h:yF w m=some r):r.1=w:=by
 unfold yF at h;rcases zD h with h|h
 ·obtain⟨v,_,h⟩:=gO.1 h;obtain⟨x,_,rfl⟩:=gM.1 h
  rfl
 ·cases h
structure Qc(w w':Wor):Prop where
 pins:w'.pins=w.pins
 zl:w'.zl=w.zl
 zp:w'.zp=w.zp
 current:w'.current=w.current
 iW:w'.zd=w.zd
def CE(w:Wor)(m:fi)(r:Wor×fi×fk):Prop:=
 (m.pc=0/\Qc w r.1/\(r.2.1.pc=1/\w.lock=0/\r.2.1.done=false\/r.2.1.done=true))\/
 (m.pc=1/\r.1=w/\r.2.1.zl=w.zl/\r.2.1.pc=2/\r.2.1.i=0/\r.2.1.done=false)\/
 (m.pc=2/\r.1=w/\∃p,w.pins[m.i.toNat]?=some p/\r.2.1=oY w m p)\/
 (m.pc=3/\w.zl=m.zl/\r.1={w with zl:=IntKind.i64.wrap (w.zl+1)}/\w.zl<1000000000000/\r.2.1.zl=IntKind.i64.wrap (w.zl+1)/\r.2.1.pc=4/\r.2.1.done=false)\/
 (3<=m.pc/\m.pc≠5/\m.pc≠6/\Qc w r.1/\(r.2.1.done=true\/r.2.1.done=false/\r.2.1.zl=m.zl/\4<=r.2.1.pc/\(r.2.1.pc=5\/r.2.1.pc=6->r.2.1.pc=5/\r.2.1.k=0/\∃x,w.zp[m.i.toNat]?=some x/\r.2.1.i=m.i/\r.2.1.version=x.version/\x.gone=false/\x.at_+2<=m.zl)))\/
 (m.pc=5/\Qc w r.1/\r.2.1.zl=m.zl/\r.2.1.done=false/\∃v e,w.zd[m.version.toNat]?=some v/\(xc v)[m.k.toNat]?=some e/\r.2.1=oq m v e.zi)\/
 (m.pc=6/\∃v x,w.zd[m.version.toNat]?=some v/\w.zp[m.i.toNat]?=some x/\x.version=m.version/\x.gone=false/\r.1={w with zd:=w.zd.set m.version.toNat (wj v),zp:=w.zp.set m.i.toNat (vL x)}/\r.2.1.zl=m.zl/\r.2.1.pc=4/\r.2.1.done=false)
def GK(w:Wor)(m:fi):Qc w (iX w m).1/\((iX w m).2.1.done=true\/(iX w m).2.1.done=m.done/\(iX w m).2.1.zl=m.zl/\(4<=m.pc->m.pc≠5->m.pc≠6->4<=(iX w m).2.1.pc/\(iX w m).2.1.pc≠5/\(iX w m).2.1.pc≠6)):=by
 unfold iX;split
 ·exact⟨⟨rfl,rfl,rfl,rfl,rfl⟩,.inl J⟩
 ·refine⟨⟨rfl,rfl,rfl,rfl,rfl⟩,.inr ?_⟩;unfold BA;repeat' split
  all_goals exact⟨rfl,rfl,λa b c=>by first|exact⟨a,b,c⟩|exact⟨gJ au,gJ au,gJ au⟩⟩
def Fj{w:Wor}{m:fi}{r:Wor×fi×fk}(hd:m.done=false)(h:jY w m=some r):CE w m r:=by
 have q0:∀w:Wor,Qc w w:=λw=>⟨rfl,rfl,rfl,rfl,rfl⟩
 unfold jY at h;rcases zF h with⟨q,h⟩|⟨_,h⟩
 ·obtain rfl:=gp h;split
  ·exact .inl ⟨q,⟨rfl,rfl,rfl,rfl,rfl⟩,.inl ⟨rfl,by assumption,hd⟩⟩
  ·exact .inl ⟨q,q0 w,.inr J⟩
 rcases zF h with⟨q,h⟩|⟨_,h⟩
 ·obtain rfl:=gp h;exact .inr (.inl ⟨q,rfl,rfl,rfl,rfl,hd⟩)
 rcases zF h with⟨q,h⟩|⟨_,h⟩
 ·obtain⟨p,hp,rfl⟩:=gM.1 h;exact .inr (.inr (.inl ⟨q,rfl,p,hp,rfl⟩))
 rcases zF h with⟨q,h⟩|⟨_,h⟩
 ·obtain rfl:=gp h;split
  ·rename_i z;exact .inr (.inr (.inr (.inl ⟨q,z.1,rfl,z.2,rfl,rfl,hd⟩)))
  ·exact .inr (.inr (.inr (.inr (.inl ⟨aw,aw,aw,q0 w,.inr ⟨hd,rfl,by show(4:Int)<=4;decide,λz=>absurd z (by show ¬((4:Int)=5\/(4:Int)=6);decide)⟩⟩))))
 rcases zF h with⟨q,h⟩|⟨_,h⟩
 ·obtain rfl:=gp h;refine .inr (.inr (.inr (.inr (.inl ⟨aw,aw,aw,?_,?_⟩))))
  ·split
   ·exact(GK w (iI m 8 0)).1
   ·exact q0 w
  ·split
   ·rcases(GK w (iI m 8 0)).2 with z|⟨z1,z2,z3⟩
    ·exact .inl z
    ·have z3:=z3 (by show(4:Int)<=8;decide) (by show(8:Int)≠5;decide) (by show(8:Int)≠6;decide);exact .inr ⟨z1.trans hd,z2,z3.1,λy=>by rcases y with y|y;exact absurd y z3.2.1;exact absurd y z3.2.2⟩
   ·rename_i x hx;refine .inr ?_;unfold Ax;by_cases c:x.gone=true\/Go.Lim.Af x.at_ m.zl=false
    ·rw[gh c];exact⟨hd,rfl,by show 4<=m.pc;omega,λy=>absurd y (by show ¬(m.pc=5\/m.pc=6);omega)⟩
    ·rw[dZ c];refine⟨hd,rfl,(gJ au),λ_=>⟨(gJ au),rfl,x,hx,rfl,rfl,?_,?_⟩⟩
     ·cases z:x.gone with
      |false=>rfl
      |true=>exact absurd (.inl z) c
     ·have:¬Go.Lim.Af x.at_ m.zl=false:=λz=>c (.inr z)
      unfold Go.Lim.Af at this;exact cW
 rcases zF h with⟨q,h⟩|⟨_,h⟩
 ·obtain⟨v,hv,h⟩:=gO.1 h;obtain⟨x,hx,rfl⟩:=gM.1 h;refine .inr (.inr (.inr (.inr (.inr (.inl ⟨q,q0 w,?_,?_,v,x,hv,hx,rfl⟩)))))
  ·unfold oq;repeat' split
   all_goals rfl
  ·unfold oq;repeat' split
   all_goals exact hd
 rcases zF h with⟨q,h⟩|⟨_,h⟩
 ·obtain⟨v,hv,h⟩:=gO.1 h;obtain⟨x,hx,h⟩:=gO.1 h;rcases zF h with⟨z,h⟩|⟨_,h⟩
  ·obtain rfl:=gp h;exact .inr (.inr (.inr (.inr (.inr (.inr ⟨q,v,x,hv,hx,z.1,z.2,rfl,rfl,rfl,hd⟩)))))
  ·cases h
 rcases zF h with⟨q,h⟩|⟨_,h⟩
 ·obtain rfl:=gp h;refine .inr (.inr (.inr (.inr (.inl ⟨aw,aw,aw,(GK w m).1,?_⟩))));rcases(GK w m).2 with z|⟨z1,z2,z3⟩
  ·exact .inl z
  ·have z3:=z3 aw aw aw;exact .inr ⟨z1.trans hd,z2,z3.1,λy=>by rcases y with y|y;exact absurd y z3.2.1;exact absurd y z3.2.2⟩
 rcases zF h with⟨q,h⟩|⟨_,h⟩
 ·obtain⟨x,hx,rfl⟩:=gM.1 h;refine .inr (.inr (.inr (.inr (.inl ⟨aw,aw,aw,q0 w,.inr ?_⟩))));split
  ·exact⟨hd,rfl,(gJ au),λy=>absurd y (by show ¬((10:Int)=5\/(10:Int)=6);decide)⟩
  ·exact⟨hd,rfl,(gJ au),λy=>absurd y (by show ¬((8:Int)=5\/(8:Int)=6);decide)⟩
 rcases zF h with⟨q,h⟩|⟨_,h⟩
 ·obtain⟨x,hx,h⟩:=gO.1 h;rcases zD h with h|h
  ·obtain rfl:=gp h;exact .inr (.inr (.inr (.inr (.inl ⟨aw,aw,aw,⟨rfl,rfl,rfl,rfl,rfl⟩,.inr ⟨hd,rfl,(gJ au),λy=>absurd y (by show ¬((8:Int)=5\/(8:Int)=6);decide)⟩⟩))))
  ·cases h
 ·cases h
def Ha(x:fB):Prop:=x.on=true/\x.m.op.kind=1
def Co(x:fB):Prop:=x.on=true/\x.m.op.kind=5
def Sw(x:fB):Prop:=x.on=true/\x.m.op.kind=3
def Nil(v:fp)(n:Nat->Prop):Prop:=∀k,n k->k<(lu v).length->(lu v)[k]?=some 0
structure EB(w:Wor)(X:List fB):Prop where
 h1:∀(t:Nat) (x:fB),X[t]?=some x->Ha x->1<=x.m.pc->0<=x.m.zl/\x.m.zl<=w.zl
 h2:∀(t:Nat) (x:fB),X[t]?=some x->Ha x->2<=x.m.pc->w.pins[t]?=some (x.m.zl+1)
 h3:∀(t:Nat) (x:fB),X[t]?=some x->Ha x->3<=x.m.pc->w.zl<=x.m.zl+1
 c1:∀(c:Nat) (y:fB),X[c]?=some y->Co y->2<=y.m.pc->y.m.zl<=w.zl
 c2:∀(c:Nat) (y:fB),X[c]?=some y->Co y->y.m.pc=2->y.m.zl=w.zl/\∀(t:Nat) (x:fB),X[t]?=some x->Ha x->3<=x.m.pc->(t:Int)<y.m.i->x.m.zl=w.zl
 c3:∀(c:Nat) (y:fB),X[c]?=some y->Co y->y.m.pc=3->∀(t:Nat) (x:fB),X[t]?=some x->Ha x->3<=x.m.pc->x.m.zl=w.zl
 c5:∀(c:Nat) (y:fB),X[c]?=some y->Co y->y.m.pc=5\/y.m.pc=6->∃r,w.zp[y.m.i.toNat]?=some r/\r.version=y.m.version/\r.gone=false/\r.at_+2<=y.m.zl
 c6:∀(c:Nat) (y:fB) (v:fp),X[c]?=some y->Co y->y.m.pc=5\/y.m.pc=6->w.zd[y.m.version.toNat]?=some v->Nil v λk=>y.m.pc=5->(k:Int)<y.m.k
 l1:∀r∈w.zp,∀(t:Nat) (x:fB),X[t]?=some x->Ha x->4<=x.m.pc->x.m.version=r.version->x.m.zl<=r.at_
 s1:∀(c:Nat) (y:fB),X[c]?=some y->Sw y->y.m.pc=2->∀(t:Nat) (x:fB),X[t]?=some x->Ha x->4<=x.m.pc->x.m.version=y.m.version->x.m.zl<=y.m.zl
 g1:∀r∈w.zp,r.gone=true->r.at_+2<=w.zl/\∀v,w.zd[r.version.toNat]?=some v->Nil v λ_=>True
def ZK(w w':Wor):Prop:=∀r∈w.zp,r.at_+2<=w.zl->∀v',w'.zd[r.version.toNat]?=some v'->∃v,w.zd[r.version.toNat]?=some v/\(lu v').length=(lu v).length/\∀k:Nat,(lu v)[k]?=some 0->(lu v')[k]?=some 0
def ZK.nil{w w':Wor}(z:ZK w w'){r:fH}(hr:r∈w.zp)(ha:r.at_+2<=w.zl){n:Nat->Prop}(h:∀v,w.zd[r.version.toNat]?=some v->Nil v n):∀v',w'.zd[r.version.toNat]?=some v'->Nil v' n:=λv' hv' k hn hk=>by
 obtain⟨v,h1,h2,h3⟩:=z r hr ha v' hv';exact h3 k (h v h1 k hn aw)
def kQ{w w':Wor}{X:List fB}{t:Nat}{x x':fB}(eb:EB w X)(hx:X[t]?=some x)(he:w'.zl=w.zl)(hl:w'.zp=w.zp)(hp:∀t',t'≠t->w'.pins[t']?=w.pins[t']?)(zk:ZK w w')
 (H:Ha x'->(1<=x'.m.pc->0<=x'.m.zl/\x'.m.zl<=w.zl)/\(2<=x'.m.pc->w'.pins[t]?=some (x'.m.zl+1))/\(3<=x'.m.pc->w.zl<=x'.m.zl+1/\∀(c:Nat) (y:fB),c≠t->X[c]?=some y->Co y->(y.m.pc=2->(t:Int)<y.m.i->x'.m.zl=w.zl)/\(y.m.pc=3->x'.m.zl=w.zl))/\
   (4<=x'.m.pc->(∀r∈w.zp,x'.m.version=r.version->x'.m.zl<=r.at_)/\∀(c:Nat) (y:fB),c≠t->X[c]?=some y->Sw y->y.m.pc=2->x'.m.version=y.m.version->x'.m.zl<=y.m.zl))
 (C:Co x'->(2<=x'.m.pc->x'.m.zl<=w.zl)/\(x'.m.pc=2->x'.m.zl=w.zl/\∀(t':Nat) (z:fB),t'≠t->X[t']?=some z->Ha z->3<=z.m.pc->(t':Int)<x'.m.i->z.m.zl=w.zl)/\
   (x'.m.pc=3->∀(t':Nat) (z:fB),t'≠t->X[t']?=some z->Ha z->3<=z.m.pc->z.m.zl=w.zl)/\
   (x'.m.pc=5\/x'.m.pc=6->(∃r,w.zp[x'.m.i.toNat]?=some r/\r.version=x'.m.version/\r.gone=false/\r.at_+2<=x'.m.zl)/\∀v,w'.zd[x'.m.version.toNat]?=some v->Nil v λk=>x'.m.pc=5->(k:Int)<x'.m.k))
 (S:Sw x'->x'.m.pc=2->∀(t':Nat) (z:fB),t'≠t->X[t']?=some z->Ha z->4<=z.m.pc->z.m.version=x'.m.version->z.m.zl<=x'.m.zl):EB w' (X.set t x'):=by
 have lt:=(dW.1 hx).1;have nt:∀{P:Prop},Ha x'->Co x'->P:=λa b=>absurd (a.2.symm.trans b.2) ar
 have ns:∀{P:Prop},Ha x'->Sw x'->P:=λa b=>absurd (a.2.symm.trans b.2) ar
 have get:∀{c:Nat} {y:fB},(X.set t x')[c]?=some y->(c=t/\y=x')\/(c≠t/\X[c]?=some y):=λh=>by
  rcases jy h with⟨h1,h2,_⟩|⟨h1,h2⟩
  ·exact .inl ⟨h1.symm,h2⟩
  ·exact .inr ⟨λz=>h1 z.symm,h2⟩
 refine⟨λa y h q p=>?_,λa y h q p=>?_,λa y h q p=>?_,λa y h q p=>?_,λa y h q p=>?_,λa y h q p b z hz hq hp3=>?_,λa y h q p=>?_,λa y v h q p hv=>?_,λr hr a y h q p hv=>?_,λa y h q p b z hz hq h4 hv=>?_,λr hr hg=>?_⟩
 ·rw[he];rcases get h with⟨rfl,rfl⟩|⟨_,ha⟩
  ·exact(H q).1 p
  ·exact eb.h1 a y ha q p
 ·rcases get h with⟨rfl,rfl⟩|⟨n,ha⟩
  ·exact(H q).2.1 p
  ·rw[hp a n];exact eb.h2 a y ha q p
 ·rw[he];rcases get h with⟨rfl,rfl⟩|⟨_,ha⟩
  ·exact((H q).2.2.1 p).1
  ·exact eb.h3 a y ha q p
 ·rw[he];rcases get h with⟨rfl,rfl⟩|⟨_,ha⟩
  ·exact(C q).1 p
  ·exact eb.c1 a y ha q p
 ·rw[he];rcases get h with⟨rfl,rfl⟩|⟨n,ha⟩
  ·refine⟨((C q).2.1 p).1,λb z hz hq hp3 hi=>?_⟩;rcases get hz with⟨rfl,rfl⟩|⟨n2,hz⟩
   ·exact nt hq q
   ·exact((C q).2.1 p).2 b z n2 hz hq hp3 hi
  ·refine⟨(eb.c2 a y ha q p).1,λb z hz hq hp3 hi=>?_⟩;rcases get hz with⟨rfl,rfl⟩|⟨n2,hz⟩
   ·exact(((H hq).2.2.1 hp3).2 a y n ha q).1 p hi
   ·exact(eb.c2 a y ha q p).2 b z hz hq hp3 hi
 ·rw[he];rcases get h with⟨rfl,rfl⟩|⟨n,ha⟩
  ·rcases get hz with⟨rfl,rfl⟩|⟨n2,hz⟩
   ·exact nt hq q
   ·exact(C q).2.2.1 p b z n2 hz hq hp3
  ·rcases get hz with⟨rfl,rfl⟩|⟨n2,hz⟩
   ·exact(((H hq).2.2.1 hp3).2 a y n ha q).2 p
   ·exact eb.c3 a y ha q p b z hz hq hp3
 ·rw[hl];rcases get h with⟨rfl,rfl⟩|⟨_,ha⟩
  ·exact((C q).2.2.2 p).1
  ·exact eb.c5 a y ha q p
 ·rcases get h with⟨rfl,rfl⟩|⟨_,ha⟩
  ·exact((C q).2.2.2 p).2 v hv
  ·obtain⟨r,r1,r2,r3,r4⟩:=eb.c5 a y ha q p;have ep:=eb.c1 a y ha q aw;rw[<-r2]at hv;refine zk.nil (dY r1) aw (λv0 h0=>?_) v hv;exact eb.c6 a y v0 ha q p (by rw[<-r2];exact h0)
 ·rw[hl]at hr;rcases get h with⟨rfl,rfl⟩|⟨_,ha⟩
  ·exact((H q).2.2.2 p).1 r hr hv
  ·exact eb.l1 r hr a y ha q p hv
 ·rcases get h with⟨rfl,rfl⟩|⟨n,ha⟩
  ·rcases get hz with⟨rfl,rfl⟩|⟨n2,hz⟩
   ·exact ns hq q
   ·exact S q p b z n2 hz hq h4 hv
  ·rcases get hz with⟨rfl,rfl⟩|⟨n2,hz⟩
   ·exact((H hq).2.2.2 h4).2 a y n ha q p hv
   ·exact eb.s1 a y ha q p b z hz hq h4 hv
 ·rw[hl]at hr;rw[he];obtain⟨z1,z2⟩:=eb.g1 r hr hg;exact⟨z1,λv hv=>zk.nil hr z1 (λv0 h0=>z2 v0 h0) v hv⟩
def yH{w w':Wor}(h:∀r∈w.zp,w'.zd[r.version.toNat]?=w.zd[r.version.toNat]?):ZK w w':=λr hr _ v' hv'=>⟨v',by rw[<-h r hr];exact hv',rfl,λ_ h=>h⟩
def OA{N K:Nat}{w:Wor}{X:List fB}(gi:GI N K w X){c d:Nat}{y z:fB}(h1:X[c]?=some y)(h2:X[d]?=some z)(q1:Co y)(q2:Co z)(p1:1<=y.m.pc)(p2:1<=z.m.pc):c=d:=by
 by_cases e:c=d
 ·exact e
 ·exfalso
  obtain⟨os,hl,hti,hsum⟩:=gi.own
  have own1:∀{c:Nat} {y:fB},X[c]?=some y->Co y->1<=y.m.pc->∃o,os[c]?=some o/\1<=o .lock:=λ{c y} h q p=>by
   obtain⟨o,ho⟩:∃o,os[c]?=some o:=⟨_,dX (by have:=(dW.1 h).1;omega)⟩;refine⟨o,ho,?_⟩;obtain⟨L,_,_,hh|⟨_,hh⟩⟩:=(hti c y o h ho).open_
   ·have:=hh.1;rw[q.1]at this;cases this
   ·obtain⟨v,g,e,su,_⟩:=hh.lc;rcases hh.own with⟨_,hk⟩|⟨hk,_⟩
    ·rw[hk,jb (iY su.done q.2 (gh p))];simp[qg]
    ·have:=q.2;omega
  obtain⟨o1,g1,g2⟩:=own1 h1 q1 p1;obtain⟨o2,g3,g4⟩:=own1 h2 q2 p2;have s:=Je (os.map (· Key.lock)) c d e (by rw[gf,g1];rfl) (by rw[gf,g3];rfl);have lk:=(qi.1 gi.st.ji.ground).lock;have hs:=hsum Key.lock;have:Has w Key.lock=w.lock.toNat:=rfl;dsimp only at s;omega
def wrap64{n:Int}(h0: -9223372036854775808<=n)(h1:n<=9223372036854775807):IntKind.i64.wrap n=n:=jx h0 h1
def Pg{N K:Nat}{w:Wor}{X:List fB}{t:Nat}{x:fB}{p:fJ}(gi:GI N K w X)(hx:X[t]?=some x)(hp:x.ops[x.done]?=some p)(hN:N<=100000000)(hK:K<=1099511627776):∀k,j3 (qv x t p) k<=Has w k:=by
 obtain⟨st,tg,hlen,hops,os,hol,hti,hsum⟩:=gi;have fj:=(dW.1 hx).1;obtain⟨o,ho⟩:∃o,os[t]?=some o:=⟨_,dX aw⟩;have ti:=hti t x o hx ho;have ow:∀k,o k<=Has w k:=λk=>by rw[hsum k];exact C4 _ t (by rw[gf,ho];rfl)
 have po:=hops x (dY hx) p (dY hp)
 obtain⟨x',hx1,hx2,hx3⟩:∃x',x'.m=qv x t p/\x'.on=true/\TI w t x' o:=by
  cases hon:x.on with
  |true=>exact⟨x,aW,hon,ti⟩
  |false=>exact⟨⟨x.ops,x.done,true,Beg.xA t p x.given,x.given⟩,aW,rfl,MJ st tg aw ti hon hp po hN ow⟩
 obtain⟨s1,s2,s3,_⟩:=OG st tg hx3 hx2 hN hK ow;rw[hx1]at s3
 exactλk=>pA (s3 k) (ow k)
def Db{x:fB}{t:Int}{o:fJ}(hk:o.kind≠2)(hp:1<=(qv x t o).pc):x.on=true/\qv x t o=x.m:=by
 cases hon:x.on with
 |true=>exact⟨rfl,aW⟩
 |false=>
  have e:qv x t o=Beg.xA t o x.given:=aW
  rw[e,wP hk]at hp;exact absurd (show(1:Int)<=0 from hp) ar
def Y4{N K:Nat}{w:Wor}{X:List fB}(gi:GI N K w X){c:Nat}{y:fB}(h:X[c]?=some y)(q:Sw y)(p:1<=y.m.pc):y.m.version≠w.current:=by
 obtain⟨os,hl,hti,hsum⟩:=gi.own;obtain⟨o,ho⟩:∃o,os[c]?=some o:=⟨_,dX (by have:=(dW.1 h).1;omega)⟩;have le:o (.fM y.m.version)<=Has w (.fM y.m.version):=by rw[hsum];exact C4 _ c (by rw[gf,ho];rfl)
 obtain⟨L,_,_,hh|⟨_,hh⟩⟩:=(hti c y o h ho).open_
 ·have:=hh.1;rw[q.1]at this;cases this
 ·obtain⟨v,g,e,su,_⟩:=hh.lc;rcases hh.own with⟨_,hk⟩|⟨hk,_⟩
  ·rw[hk,jb (Az su.done q.2 (gh p))]at le;have z:Has w (.fM y.m.version)=if 0<=y.m.version/\y.m.version<w.zd.length/\y.m.version≠w.current/\∀r∈w.zp,r.version≠y.m.version then 1 else 0:=rfl
   rw[z]at le;intro e;rw[dZ (λz=>z.2.2.1 e)]at le;simp[qg]at le
  ·have:=q.2;omega
def YR{N K:Nat}{s:Wor.iu}(gi:GI N K s.1 s.2.1)(eb:EB s.1 s.2.1)(p:Int)(hN:N<=100000000)(hK:K<=1099511627776):EB (yw s p).1 (yw s p).2.1:=by
 rcases xi gi p hN hK with⟨_,e⟩|⟨t,x,o,r,hat,hx,ho,hsu,htm,hst,_,e,gi2⟩
 ·rw[e];exact eb
 ·rw[e];obtain⟨v,g,en,su⟩:=x5 hsu;have nt:=ku o gi hx;have no:=Ba gi hx ho;have hl:=(dW.1 hx).1;have gw:=gi.st.ji;have gr:=qi.1 gw.ground;have gx:(s.2.1.set t (Wor.qn x r.2.1))[t]?=some (Wor.qn x r.2.1):=gk hl;have off:r.2.1.done=true->∀{P:Prop},(Wor.qn x r.2.1).on=true->P:=λd P h=>by rw[Wor.DQ d]at h;cases h
  have mm:(Wor.qn x r.2.1).on=true->(Wor.qn x r.2.1).m=r.2.1/\r.2.1.op=o/\r.2.1.done=false:=λh=>by
   have nd:r.2.1.done=false:=by
    cases z:r.2.1.done with
    |false=>rfl
    |true=>exact off z h
   have ho2:(Wor.qn x r.2.1).ops[(Wor.qn x r.2.1).done]?=some o:=by rw[xK nd];exact ho
   have n2:=Ba gi2 gx ho2;have e2:qv (Wor.qn x r.2.1) t o=r.2.1:=by rw[xK nd];rfl
   rw[e2]at n2;exact⟨by rw[xK nd],n2,nd⟩
  have kind:∀{k:Int},(Wor.qn x r.2.1).on=true->(Wor.qn x r.2.1).m.op.kind=k->o.kind=k:=λh h2=>by
   obtain⟨a,b,_⟩:=mm h;rw[a,b]at h2;exact h2
  have sel:s.2.1[t]?=some x:=hx;have pl:s.2.1.length=s.1.pins.length:=gi.len.symm;have lJ:∀{k:Int} {P:Prop},o.kind=k->∀{j:Int},j≠k->(Wor.qn x r.2.1).on=true/\(Wor.qn x r.2.1).m.op.kind=j->P:=λhk j hj h=>absurd ((kind h.1 h.2).symm.trans hk) hj
  dsimp only;rcases B6 su hst with⟨k1,h⟩|⟨k1,h⟩|⟨k1,h⟩|⟨k1,h⟩|⟨k1,h⟩|⟨k1,h⟩
  ·
   rw[no]at k1
   have h0:0<=(qv x t o).pc:=by
    cases hon:x.on with
    |false=>
     have e1:qv x t o=Beg.xA t o x.given:=aW
     rw[e1,wP aw];exact gL _
    |true=>
     have e1:qv x t o=x.m:=aW
     obtain⟨os,hol,hti,_⟩:=gi.own;obtain⟨ow,how⟩:∃o,os[t]?=some o:=⟨_,dX aw⟩;obtain⟨L,_,_,hh|⟨_,hh⟩⟩:=(hti t x ow hx how).open_
     ·have:=hh.1;rw[hon]at this;cases this
     ·obtain⟨_,_,_,_,lc⟩:=hh.lc;have kx:x.m.op.kind=1:=by rw[<-e1,no];exact k1
      rw[e1];rcases lc with⟨_,lc⟩|⟨k,_⟩|⟨k,_⟩|⟨k,_⟩|⟨k,_⟩|⟨k,_⟩
      ·have:=lc.pc;omega
      all_goals omega
   have ha:1<=(qv x t o).pc->Ha x/\qv x t o=x.m:=λq=>by
    obtain⟨a,b⟩:=Db aw q;exact⟨⟨a,by rw[<-b,no];exact k1⟩,b⟩
   have C0:∀{P:Prop},Co (Wor.qn x r.2.1)->P:=λh=>lJ k1 ar h
   have S0:∀{P:Prop},Sw (Wor.qn x r.2.1)->P:=λh=>lJ k1 ar h
   rcases Fs su.done h0 h with⟨q,hw,hm⟩|⟨q,hw,hm⟩|⟨q,hw,hm⟩|⟨q,hw,hv,he,hp4,hd⟩|⟨q1,q2,hv,he,hp4,hd,qu⟩|⟨q,hw,hd⟩
   ·rw[hw];refine kQ eb hx J J (λ_ _=>J) (yH λ_ _=>J) (λhh=>?_) C0 S0;obtain⟨a,_,_⟩:=mm hh.1;rw[a,hm];exact⟨λ_=>⟨gr.zl.1,gL _⟩,λz=>absurd (show(2:Int)<=1 from z) ar,λz=>absurd (show(3:Int)<=1 from z) ar,λz=>absurd (show(4:Int)<=1 from z) ar⟩
   ·obtain⟨hax,ex⟩:=ha aw;obtain⟨z1,z2⟩:=eb.h1 t x sel hax (by rw[<-ex];omega);rw[ex]at hw hm;have wr:IntKind.i64.wrap (x.m.zl+1)=x.m.zl+1:=wrap64 aw (by have:=gr.zl.2;omega);have th:x.m.zf.toNat=t:=by rw[<-ex,nt,toNat_cast]
    rw[wr,th]at hw;rw[hw];refine kQ eb hx J J (λt' hne=>?_) (yH λ_ _=>J) (λhh=>?_) C0 S0
    ·show(s.1.pins.set t _)[t']?=_;rw[gW (λz=>hne z.symm)]
    ·obtain⟨a,_,_⟩:=mm hh.1;rw[a,hm];refine⟨λ_=>⟨z1,z2⟩,λ_=>?_,λz=>absurd (show(3:Int)<=2 from z) ar,λz=>absurd (show(4:Int)<=2 from z) ar⟩;show(s.1.pins.set t _)[t]?=_;rw[gk aw]
   ·obtain⟨hax,ex⟩:=ha aw;have z1:=eb.h1 t x sel hax (by rw[<-ex];omega);have z2:=eb.h2 t x sel hax (by rw[<-ex];omega);rw[ex]at hm;rw[hw];refine kQ eb hx J J (λ_ _=>J) (yH λ_ _=>J) (λhh=>?_) C0 S0;obtain⟨a,_,_⟩:=mm hh.1;rw[a,hm];dsimp only;by_cases z:s.1.zl=x.m.zl
    ·rw[gh z];exact⟨λ_=>⟨gr.zl.1,gL _⟩,λ_=>by rw[z2,z],λ_=>⟨aw,λ_ _ _ _ _=>⟨λ_ _=>J,λ_=>J⟩⟩,λz=>absurd z ar⟩
    ·rw[dZ z];exact⟨λ_=>⟨gr.zl.1,gL _⟩,λz=>absurd z ar,λz=>absurd z ar,λz=>absurd z ar⟩
   ·obtain⟨hax,ex⟩:=ha aw;have px:x.m.pc=3:=by rw[<-ex];exact q
    have z1:=eb.h1 t x sel hax aw;have z2:=eb.h2 t x sel hax aw;have z3:=eb.h3 t x sel hax aw;rw[ex]at he;rw[hw];refine kQ eb hx J J (λ_ _=>J) (yH λ_ _=>J) (λhh=>?_) C0 S0;obtain⟨a,_,_⟩:=mm hh.1;rw[a,he,hv];refine⟨λ_=>z1,λ_=>z2,λ_=>⟨z3,λc y hne hc hy=>⟨λy2 hi=>(eb.c2 c y hc hy y2).2 t x sel hax aw hi,λy3=>eb.c3 c y hc hy y3 t x sel hax aw⟩⟩,λ_=>⟨λr' hr' hvr=>?_,λc y hne hc hy y2 hvr=>?_⟩⟩
    ·obtain⟨i,hi⟩:=gE.1 hr';exact absurd hvr.symm (vP gw hi).2.2.2.2
    ·exact absurd hvr.symm (Y4 gi hc hy aw)
   ·obtain⟨hax,ex⟩:=ha aw;have px:4<=x.m.pc:=by rw[<-ex];exact q1
    have z1:=eb.h1 t x sel hax aw;have z2:=eb.h2 t x sel hax aw;have z3:=eb.h3 t x sel hax aw;rw[ex]at he hv qu;refine kQ eb hx qu.zl qu.zp (λt' _=>by rw[qu.pins]) (λr' hr' hdue v' hv'=>?_) (λhh=>?_) C0 S0
    ·obtain⟨i,hi⟩:=gE.1 hr';have la:=vP gw hi;have vs:=su.version;rw[ex]at vs
     have ne:r'.version.toNat≠x.m.version.toNat:=λz=>by
      have:=eb.l1 r' hr' t x sel hax px aw;omega
     rw[qu.J3 _ ne]at hv';exact⟨v',hv',rfl,λ_ h=>h⟩
    ·obtain⟨a,_,_⟩:=mm hh.1;rw[a,he,hv];exact⟨λ_=>z1,λ_=>by rw[qu.pins];exact z2,λ_=>⟨z3,λc y hne hc hy=>⟨λy2 hi=>(eb.c2 c y hc hy y2).2 t x sel hax aw hi,λy3=>eb.c3 c y hc hy y3 t x sel hax aw⟩⟩,λ_=>⟨λr' hr' hvr=>eb.l1 r' hr' t x sel hax px hvr,λc y hne hc hy y2 hvr=>eb.s1 c y hc hy y2 t x sel hax px hvr⟩⟩
   ·rw[nt,toNat_cast]at hw;rw[hw];refine kQ eb hx J J (λt' hne=>?_) (yH λ_ _=>J) (λhh=>off hd hh.1) C0 S0;show(s.1.pins.set t _)[t']?=_;rw[gW (λz=>hne z.symm)]
  ·
   rw[no]at k1
   have act:(qv x t o).pc<=3->1<=en.zi:=λq=>by
    have pd:ph (qv x t o)=3\/ph (qv x t o)=4:=by
     by_cases z:(qv x t o).pc<=2
     ·exact .inl (iT su.done (by rw[no];exact k1) (gh z))
     ·exact .inr (iT su.done (by rw[no];exact k1) (by rw[dZ z,gh aw]))
    have le:=Pg gi hx ho hN hK (.act (qv x t o).version (qv x t o).zg (qv x t o).end_);have at_:ic s.1 (qv x t o) v g en:=su.at_;rw[F4 at_]at le
    have one:1<=j3 (qv x t o) (.act (qv x t o).version (qv x t o).zg (qv x t o).end_):=by
     rcases pd with pd|pd <;> (rw[jb pd];simp[qg])
    omega
   obtain⟨qu,zs⟩:=V5 su.fN su.fG su.fP act h;refine kQ eb hx qu.zl qu.zp (λt' _=>by rw[qu.pins]) (λr' hr' hdue v' hv'=>?_) (λh=>lJ k1 ar h) (λh=>lJ k1 ar h) (λh=>lJ k1 ar h);by_cases ne:r'.version.toNat=(qv x t o).version.toNat
   ·rw[ne]at hv' ⊢;exact⟨v,su.fN,(zs v v' 0 su.fN hv').1,λk=>(zs v v' k su.fN hv').2⟩
   ·rw[qu.J3 _ ne]at hv';exact⟨v',hv',rfl,λ_ h=>h⟩
  ·
   rw[no]at k1;rcases OF su.done h with⟨q,hw,hv,hp,hd⟩|⟨q,hw,hd⟩|⟨q,hw,hv,he,hp,hd⟩|⟨q,hw,hd⟩
   ·rw[hw];refine kQ eb hx J J (λ_ _=>J) (yH λr' hr'=>?_) (λh=>lJ k1 ar h) (λh=>lJ k1 ar h) (λhh p2=>?_)
    ·obtain⟨i,hi⟩:=gE.1 hr';have la:=vP gw hi;show(s.1.zd++_)[_]?=_;rw[gy aw]
    ·obtain⟨a,_,_⟩:=mm hh.1;rw[a,hp]at p2;exact absurd p2 ar
   ·rw[hw];exact kQ eb hx J J (λ_ _=>J) (yH λ_ _=>J) (λh=>off hd h.1) (λh=>off hd h.1) (λh=>off hd h.1)
   ·rw[hw];refine kQ eb hx J J (λ_ _=>J) (yH λ_ _=>J) (λh=>lJ k1 ar h) (λh=>lJ k1 ar h) (λhh p2 t' z hne hz hq h4 hvr=>?_);obtain⟨a,_,_⟩:=mm hh.1;rw[a,he];exact(eb.h1 t' z hz hq aw).2
   ·obtain⟨onx,ex⟩:=Db aw (show 1<=(qv x t o).pc by omega);have sx:Sw x:=⟨onx,by rw[<-ex,no];exact k1⟩;have px:x.m.pc=2:=by rw[<-ex];exact q
    rw[ex]at hw;have xo:∀{P:Prop},(Wor.qn x r.2.1).on=true->P:=λh=>off hd h
    have get:∀{c:Nat} {y:fB},(s.2.1.set t (Wor.qn x r.2.1))[c]?=some y->y.on=true->s.2.1[c]?=some y:=λh hon=>by
     rcases jy h with⟨_,rfl,_⟩|⟨_,h2⟩
     ·exact xo hon
     ·exact h2
    rw[hw];refine⟨λa y h q=>eb.h1 a y (get h q.1) q,λa y h q=>eb.h2 a y (get h q.1) q,λa y h q=>eb.h3 a y (get h q.1) q,λa y h q=>eb.c1 a y (get h q.1) q,λa y h q p=>⟨(eb.c2 a y (get h q.1) q p).1,λb z hz hq=>(eb.c2 a y (get h q.1) q p).2 b z (get hz hq.1) hq⟩,λa y h q p b z hz hq=>eb.c3 a y (get h q.1) q p b z (get hz hq.1) hq,λa y h q p=>?_,λa y v h q p hv=>eb.c6 a y v (get h q.1) q p hv,λr' hr' a y h q p hv=>?_,λa y h q p b z hz hq=>eb.s1 a y (get h q.1) q p b z (get hz hq.1) hq,λr' hr' hg=>?_⟩
    ·obtain⟨r0,r1,r2⟩:=eb.c5 a y (get h q.1) q p;exact⟨r0,by show(s.1.zp++_)[_]?=_;rw[gy (dW.1 r1).1];exact r1,r2⟩
    ·rcases gY.1 (show r'∈s.1.zp++_ from hr') with hr'|hr'
     ·exact eb.l1 r' hr' a y (get h q.1) q p hv
     ·rw[gX]at hr';subst hr';exact eb.s1 t x sel sx px a y (get h q.1) q p hv
    ·rcases gY.1 (show r'∈s.1.zp++_ from hr') with hr'|hr'
     ·exact eb.g1 r' hr' hg
     ·rw[gX]at hr';subst hr';cases hg
  ·
   rw[no]at k1;obtain⟨qu,zs⟩:=N0 h;refine kQ eb hx qu.zl qu.zp (λt' _=>by rw[qu.pins]) (λr' hr' hdue v' hv'=>?_) (λh=>lJ k1 ar h) (λh=>lJ k1 ar h) (λh=>lJ k1 ar h);by_cases ne:r'.version.toNat=0
   ·rw[ne]at hv' ⊢;obtain⟨v0,hv0⟩:∃v0,s.1.zd[0]?=some v0:=⟨_,dX (by have:=(dW.1 hv').1;have:=qu.len;omega)⟩;exact⟨v0,hv0,(zs v0 v' 0 hv0 hv').1,λk=>(zs v0 v' k hv0 hv').2⟩
   ·rw[qu.J3 _ ne]at hv';exact⟨v',hv',rfl,λ_ h=>h⟩
  ·
   rw[no]at k1;have H0:∀{P:Prop},Ha (Wor.qn x r.2.1)->P:=λh=>lJ k1 ar h
   have S0:∀{P:Prop},Sw (Wor.qn x r.2.1)->P:=λh=>lJ k1 ar h
   have co:1<=(qv x t o).pc->Co x/\qv x t o=x.m:=λq=>by
    obtain⟨a,b⟩:=Db aw q;exact⟨⟨a,by rw[<-b,no];exact k1⟩,b⟩
   rcases Fj su.done h with⟨q,qc,hd⟩|⟨q,hw,he,hp,hi,hd⟩|⟨q,hw,pp,hpp,hm⟩|⟨q,heq,hw,fj,he,hp,hd⟩|⟨q,n5,n6,qc,hd⟩|⟨q,qc,he,hd,v2,e2,hv2,he2,hm⟩|⟨q,v2,x2,hv2,hx2,hxv,hxg,hw,he,hp,hd⟩
   ·refine kQ eb hx qc.zl qc.zp (λt' _=>by rw[qc.pins]) (yH λ_ _=>by rw[qc.iW]) H0 (λhh=>?_) S0;rcases hd with⟨hp,_,_⟩|hd
    ·obtain⟨a,_,_⟩:=mm hh.1;rw[a,hp];exact⟨λz=>absurd z ar,λz=>absurd z ar,λz=>absurd z ar,λz=>absurd z ar⟩
    ·exact off hd hh.1
   ·rw[hw];refine kQ eb hx J J (λ_ _=>J) (yH λ_ _=>J) H0 (λhh=>?_) S0;obtain⟨a,_,_⟩:=mm hh.1;rw[a,hp,he,hi];exact⟨λ_=>gL _,λ_=>⟨rfl,λt' z _ _ _ _ fj=>absurd fj aw⟩,λz=>absurd z ar,λz=>absurd z ar⟩
   ·obtain⟨cx,ex⟩:=co aw;have px:x.m.pc=2:=by rw[<-ex];exact q
    obtain⟨z1,z2⟩:=eb.c2 t x sel cx px;have i0:=su.i;rw[ex]at hm hpp i0;have il:=(dW.1 hpp).1;have wr:IntKind.i64.wrap (x.m.i+1)=x.m.i+1:=wrap64 aw (by have:=gr.pins.2;omega)
    have scan:(pp=0\/pp=x.m.zl+1)->∀(t':Nat) (z:fB),s.2.1[t']?=some z->Ha z->3<=z.m.pc->(t':Int)<x.m.i+1->z.m.zl=s.1.zl:=λhp t' z hz hq h3 fj=>by
     by_cases y:(t':Int)<x.m.i
     ·exact z2 t' z hz hq h3 y
     ·have et:t'=x.m.i.toNat:=by omega
      have hp2:=eb.h2 t' z hz hq aw;rw[et,hpp]at hp2;have hp2:=gp hp2;have:=eb.h1 t' z hz hq aw;rcases hp with hp|hp
      ·omega
      ·omega
    rw[hw];refine kQ eb hx J J (λ_ _=>J) (yH λ_ _=>J) H0 (λhh=>?_) S0;obtain⟨a,_,_⟩:=mm hh.1;rw[a,hm];unfold oY;have we:IntKind.i64.wrap (x.m.zl+1)=x.m.zl+1:=wrap64 (by have:=gr.zl.1;omega) (by have:=gr.zl.2;omega);rw[we,wr];by_cases c:pp≠0/\pp≠x.m.zl+1
    ·rw[gh c];exact⟨λ_=>by show x.m.zl<=_;omega,λz=>absurd (show(4:Int)=2 from z) ar,λz=>absurd (show(4:Int)=3 from z) ar,λz=>absurd (show(4:Int)=5\/(4:Int)=6 from z) ar⟩
    ·have hp:pp=0\/pp=x.m.zl+1:=by
      by_cases y:pp=0
      ·exact .inl y
      ·exact .inr (Decidable.of_not_not λz=>c ⟨y,z⟩)
     rw[dZ c];by_cases c2:x.m.i+1<(s.1.pins.length:Int)
     ·rw[gh c2];dsimp only;exact⟨λ_=>by omega,λ_=>⟨z1,λt' z _ hz hq h3 fj=>scan hp t' z hz hq h3 fj⟩,λz=>absurd (px.symm.trans z) ar,λz=>by rw[px]at z;exact absurd z ar⟩
     ·rw[dZ c2];exact⟨λ_=>by show x.m.zl<=_;omega,λz=>absurd (show(3:Int)=2 from z) ar,λ_ t' z _ hz hq h3=>scan hp t' z hz hq h3 (by have:=(dW.1 hz).1;omega),λz=>absurd (show(3:Int)=5\/(3:Int)=6 from z) ar⟩
   ·obtain⟨cx,ex⟩:=co aw;have px:x.m.pc=3:=by rw[<-ex];exact q
    have all:=eb.c3 t x sel cx px;have we:IntKind.i64.wrap (s.1.zl+1)=s.1.zl+1:=wrap64 (by have:=gr.zl.1;omega) aw;rw[we]at hw he
    have get:∀{c:Nat} {y:fB},(s.2.1.set t (Wor.qn x r.2.1))[c]?=some y->(c=t/\y=Wor.qn x r.2.1)\/(c≠t/\s.2.1[c]?=some y):=λh=>by
     rcases jy h with⟨h1,h2,_⟩|⟨h1,h2⟩
     ·exact .inl ⟨h1.symm,h2⟩
     ·exact .inr ⟨λz=>h1 z.symm,h2⟩
    have getH:∀{c:Nat} {y:fB},(s.2.1.set t (Wor.qn x r.2.1))[c]?=some y->Ha y->s.2.1[c]?=some y:=λh q=>by
     rcases get h with⟨_,rfl⟩|⟨_,h⟩
     ·exact H0 q
     ·exact h
    have getS:∀{c:Nat} {y:fB},(s.2.1.set t (Wor.qn x r.2.1))[c]?=some y->Sw y->s.2.1[c]?=some y:=λh q=>by
     rcases get h with⟨_,rfl⟩|⟨_,h⟩
     ·exact S0 q
     ·exact h
    have getC:∀{c:Nat} {y:fB},(s.2.1.set t (Wor.qn x r.2.1))[c]?=some y->Co y->2<=y.m.pc->y.m.pc=4/\y.m.zl=s.1.zl+1:=λh q h2=>by
     rcases get h with⟨_,rfl⟩|⟨n,h⟩
     ·obtain⟨a,_,_⟩:=mm q.1;rw[a,hp,he];exact dK
     ·exact absurd (OA gi h sel q cx aw aw) n
    rw[hw];refine⟨λa y h q p=>?_,λa y h q p=>eb.h2 a y (getH h q) q p,λa y h q p=>?_,λa y h q p=>?_,λa y h q p=>?_,λa y h q p=>?_,λa y h q p=>?_,λa y v h q p=>?_,λr' hr' a y h q p hv=>eb.l1 r' hr' a y (getH h q) q p hv,λa y h q p b z hz hq=>eb.s1 a y (getS h q) q p b z (getH hz hq) hq,λr' hr' hg=>?_⟩
    ·have:=eb.h1 a y (getH h q) q p;exact⟨this.1,by show _<=s.1.zl+1;omega⟩
    ·have:=all a y (getH h q) q p;show s.1.zl+1<=_;omega
    ·show _<=s.1.zl+1;have:=(getC h q p).2;omega
    ·exact dE
    ·exact dE
    ·exact dE
    ·exact dE
    ·have:=eb.g1 r' hr' hg;exact⟨by show _<=s.1.zl+1;omega,this.2⟩
   ·obtain⟨cx,ex⟩:=co aw;have px:3<=x.m.pc:=by rw[<-ex];exact q
    have z1:=eb.c1 t x sel cx aw;rw[ex]at hd;refine kQ eb hx qc.zl qc.zp (λt' _=>by rw[qc.pins]) (yH λ_ _=>by rw[qc.iW]) H0 (λhh=>?_) S0;obtain⟨a,_,nd⟩:=mm hh.1;rcases hd with hd|⟨_,he,h4,hl5⟩
    ·rw[nd]at hd;cases hd
    ·rw[a];refine⟨λ_=>by omega,λz=>by omega,λz=>by omega,λz=>?_⟩;obtain⟨p5,k0,y,y1,y2,y3,y4,y5⟩:=hl5 z;exact⟨⟨y,by rw[y2];exact y1,y3.symm,y4,aw⟩,λv hv k hk _=>by have:=hk p5;omega⟩
   ·obtain⟨cx,ex⟩:=co aw;have px:x.m.pc=5:=by rw[<-ex];exact q
    have z1:=eb.c1 t x sel cx aw;obtain⟨rr,r1,r2,r3,r4⟩:=eb.c5 t x sel cx (.inl px);have k0:=su.k;rw[ex]at he hv2 he2 hm k0;have z6:=eb.c6 t x v2 sel cx (.inl px) hv2;have ev:(lu v2)[x.m.k.toNat]?=some e2.zi:=by unfold lu;rw[gf,he2];rfl
    have kl:=(dW.1 he2).1
    have lD:(xc v2).length<=1000000:=by
     have fv:=(gw.fM _ v2 hv2).1.lD;have hg:∀g∈v2.zo,g.ends.length<=1000:=λg hg=>by have:=(fv.2 g hg).1;omega
     have:=It v2.zo hg;unfold xc;have:=fv.1;omega
    have wr:IntKind.i64.wrap (x.m.k+1)=x.m.k+1:=wrap64 aw aw;refine kQ eb hx qc.zl qc.zp (λt' _=>by rw[qc.pins]) (yH λ_ _=>by rw[qc.iW]) H0 (λhh=>?_) S0;obtain⟨a,_,nd⟩:=mm hh.1;rw[a,hm];unfold oq;rw[wr];by_cases c:e2.zi≠0
    ·rw[gh c];exact⟨λ_=>z1,λz=>absurd (show(4:Int)=2 from z) ar,λz=>absurd (show(4:Int)=3 from z) ar,λz=>absurd (show(4:Int)=5\/(4:Int)=6 from z) ar⟩
    ·have c0:e2.zi=0:=Decidable.of_not_not c
     have upto:∀k:Nat,(k:Int)<=x.m.k->k<(lu v2).length->(lu v2)[k]?=some 0:=λk hk hl=>by
      by_cases y:(k:Int)<x.m.k
      ·exact z6 k (λ_=>y) hl
      ·have:k=x.m.k.toNat:=by omega
       rw[this,ev,c0]
     have fM:∀v,r.1.zd[x.m.version.toNat]?=some v->v=v2:=λv hv=>by
      rw[qc.iW,hv2]at hv;exact(gp hv).symm
     rw[dZ c];by_cases c2:x.m.k+1<((xc v2).length:Int)
     ·rw[gh c2];dsimp only;refine⟨λ_=>z1,λz=>by omega,λz=>by omega,λ_=>⟨⟨rr,r1,r2,r3,r4⟩,λv hv k hk hl=>?_⟩⟩;rw[fM v hv]at hl ⊢;exact upto k (by have:=hk px;omega) hl
     ·rw[dZ c2];dsimp only;refine⟨λ_=>z1,λz=>absurd z ar,λz=>absurd z ar,λ_=>⟨⟨rr,r1,r2,r3,r4⟩,λv hv k hk hl=>?_⟩⟩;rw[fM v hv]at hl ⊢;refine upto k ?_ hl;have:(lu v2).length=(xc v2).length:=by unfold lu;rw[gu]
      omega
   ·obtain⟨cx,ex⟩:=co aw;have px:x.m.pc=6:=by rw[<-ex];exact q
    have z1:=eb.c1 t x sel cx aw;obtain⟨rr,r1,r2,r3,r4⟩:=eb.c5 t x sel cx (.inr px);rw[ex]at hv2 hx2 hxv hw he;rw[hx2]at r1;obtain rfl:=gp r1;have z6:=eb.c6 t x v2 sel cx (.inr px) hv2
    have get:∀{c:Nat} {y:fB},(s.2.1.set t (Wor.qn x r.2.1))[c]?=some y->(c=t/\y=Wor.qn x r.2.1)\/(c≠t/\s.2.1[c]?=some y):=λh=>by
     rcases jy h with⟨h1,h2,_⟩|⟨h1,h2⟩
     ·exact .inl ⟨h1.symm,h2⟩
     ·exact .inr ⟨λz=>h1 z.symm,h2⟩
    have getH:∀{c:Nat} {y:fB},(s.2.1.set t (Wor.qn x r.2.1))[c]?=some y->Ha y->s.2.1[c]?=some y:=λh q=>by
     rcases get h with⟨_,rfl⟩|⟨_,h⟩
     ·exact H0 q
     ·exact h
    have getS:∀{c:Nat} {y:fB},(s.2.1.set t (Wor.qn x r.2.1))[c]?=some y->Sw y->s.2.1[c]?=some y:=λh q=>by
     rcases get h with⟨_,rfl⟩|⟨_,h⟩
     ·exact S0 q
     ·exact h
    have getC:∀{c:Nat} {y:fB},(s.2.1.set t (Wor.qn x r.2.1))[c]?=some y->Co y->2<=y.m.pc->y.m.pc=4/\y.m.zl=x.m.zl:=λh q h2=>by
     rcases get h with⟨_,rfl⟩|⟨n,h⟩
     ·obtain⟨a,_,_⟩:=mm q.1;rw[a,hp,he];exact dK
     ·exact absurd (OA gi h sel q cx aw aw) n
    have lim:∀r'∈s.1.zp.set x.m.i.toNat (vL x2),r'∈s.1.zp\/(r'.version=x2.version/\r'.at_=x2.at_):=λr' hr'=>by
     rcases pw hr' with h|rfl
     ·exact .inl h
     ·exact .inr ⟨rfl,rfl⟩
    have rm:=dY hx2;rw[hw];refine⟨λa y h q p=>eb.h1 a y (getH h q) q p,λa y h q p=>eb.h2 a y (getH h q) q p,λa y h q p=>eb.h3 a y (getH h q) q p,λa y h q p=>?_,λa y h q p=>?_,λa y h q p=>?_,λa y h q p=>?_,λa y v h q p=>?_,λr' hr' a y h q p hv=>?_,λa y h q p b z hz hq=>eb.s1 a y (getS h q) q p b z (getH hz hq) hq,λr' hr' hg=>?_⟩
    ·show _<=s.1.zl;have:=(getC h q p).2;omega
    ·exact dE
    ·exact dE
    ·exact dE
    ·exact dE
    ·rcases lim r' hr' with hr'|⟨e1,e2⟩
     ·exact eb.l1 r' hr' a y (getH h q) q p hv
     ·rw[e2];exact eb.l1 x2 rm a y (getH h q) q p (hv.trans e1)
    ·have due:r'.at_+2<=s.1.zl/\∀v,s.1.zd[r'.version.toNat]?=some v->Nil v λ_=>True:=by
      rcases pw (show r'∈s.1.zp.set x.m.i.toNat (vL x2) from hr') with h|rfl
      ·exact eb.g1 r' h hg
      ·refine⟨by show x2.at_+2<=_;omega,λv hv k _ hl=>?_⟩;have hv:s.1.zd[x2.version.toNat]?=some v:=hv;rw[r2,hv2]at hv;obtain rfl:=gp hv;exact z6 k (λz=>absurd (px.symm.trans z) ar) hl
     refine⟨due.1,λv hv=>?_⟩;have hv:(s.1.zd.set x.m.version.toNat (wj v2))[r'.version.toNat]?=some v:=hv;rcases jy hv with⟨e1,rfl,_⟩|⟨_,hv⟩
     ·exact due.2 v2 (by rw[<-e1];exact hv2)
     ·exact due.2 v hv
  ·
   rw[no]at k1;rw[N9 h];exact kQ eb hx J J (λ_ _=>J) (yH λ_ _=>J) (λh=>lJ k1 ar h) (λh=>lJ k1 ar h) (λh=>lJ k1 ar h)
def Df(e:fk):Prop:=e.access=2/\e.cell=12
def JX(e:fk):Prop:=e.access=1/\e.cell=3
structure mI(w:Wor)(m:fi)(v:fp)(r:Wor×fi×fk):Prop where
 fr:r.2.2.zW=false\/(r.2.2.zW=v.zW/\((m.op.kind=1/\4<=m.pc/\m.pc<=22)\/(m.op.kind=2/\m.pc<=3)))\/(m.op.kind=5/\m.pc=5/\∃v2,w.zd[m.version.toNat]?=some v2/\r.2.2.zW=v2.zW)
 st:Df r.2.2->m.op.kind=5/\m.pc=6/\r.2.2.value=m.version
 ld:JX r.2.2->(m.op.kind=1/\m.pc=3/\r.2.2.value=w.current)\/r.2.1.done=true
def xM{w w':Wor}{m m':fi}{v:fp}{e:fk}(h1:e.zW=false:=by exact J)(h2:¬(e.access=2/\e.cell=12):=by exact gJ au)(h3:¬(e.access=1/\e.cell=3):=by exact gJ au):mI w m v (w',m',e):=⟨.inl h1,λz=>absurd z h2,λz=>absurd z h3⟩
def nP{w w':Wor}{m m':fi}{v:fp}{e:fk}(h0:(m.op.kind=1/\4<=m.pc/\m.pc<=22)\/(m.op.kind=2/\m.pc<=3))(h1:e.zW=v.zW:=by exact J)(h2:¬(e.access=2/\e.cell=12):=by exact gJ au)(h3:¬(e.access=1/\e.cell=3):=by exact gJ au):mI w m v (w',m',e):=⟨.inr (.inl ⟨h1,h0⟩),λz=>absurd z h2,λz=>absurd z h3⟩
def AX{α:Type}{w:Wor}{m:fi}{v:fp}{o:Option α}{f:α->Wor×fi×fk}{r:Wor×fi×fk}(h:o.map f=some r)(hf:∀x,mI w m v (f x)):mI w m v r:=by
 obtain⟨x,_,rfl⟩:=gM.1 h;exact hf x
def Gi{w:Wor}{m:fi}{v:fp}{f:fI->Wor×fi×fk}{r:Wor×fi×fk}(h:iU w m f=some r)(hf:∀x,mI w m v (f x)):mI w m v r:=by
 unfold iU at h;rcases zD h with h|h
 ·cases h
 ·exact AX h hf
section
variable {w:Wor} {m:fi} {v:fp} {g:Gr} {e:En} {r:Wor×fi×fk}
def N3{k p:Int}(h:vH w m k p=some r):mI w m v r:=by
 unfold vH at h;split at h
 ·cases h
 ·split at h
  ·cases h
  ·obtain rfl:=gp h;exact xM
def V3(k1:m.op.kind=1)(h:qj w m v g e=some r):mI w m v r:=by
 unfold qj at h;rcases zF h with⟨p,h⟩|⟨_,h⟩
 ·unfold Bw at h;rcases zD h with h|h
  ·obtain rfl:=gp h;exact xM
  rcases zD h with h|h
  ·obtain rfl:=gp h;exact xM
  rcases zD h with h|h
  ·obtain rfl:=gp h;exact xM
  ·cases h
 rcases zF h with⟨p,h⟩|⟨_,h⟩
 ·obtain rfl:=gp h;exact⟨.inl J,λz=>absurd (show(1:Int)=2 from z.1) ar,λ_=>.inl ⟨k1,p,rfl⟩⟩
 rcases zF h with⟨p,h⟩|⟨_,h⟩
 ·exact Gi h λx=>xM
 rcases zF h with⟨p,h⟩|⟨_,h⟩
 ·refine Gi h λx=>?_
  cases x.drain with
  |true=>exact xM
  |false=>exact xM
 rcases zF h with⟨p,h⟩|⟨_,h⟩
 ·exact AX h λx=>nP (.inl ⟨k1,aw,aw⟩)
 rcases zF h with⟨p,h⟩|⟨_,h⟩
 ·obtain rfl:=gp h;exact nP (.inl ⟨k1,aw,aw⟩)
 rcases zF h with⟨p,h⟩|⟨_,h⟩
 ·exact AX h λx=>nP (.inl ⟨k1,aw,aw⟩)
 rcases zF h with⟨p,h⟩|⟨_,h⟩
 ·obtain rfl:=gp h;exact nP (.inl ⟨k1,aw,aw⟩)
 rcases zF h with⟨p,h⟩|⟨_,h⟩
 ·exact AX h λx=>nP (.inl ⟨k1,aw,aw⟩)
 rcases zF h with⟨p,h⟩|⟨_,h⟩
 ·rcases zD h with h|h
  ·obtain rfl:=gp h;exact nP (.inl ⟨k1,aw,aw⟩)
  ·obtain rfl:=gp h;exact nP (.inl ⟨k1,aw,aw⟩)
 rcases zF h with⟨p,h⟩|⟨_,h⟩
 ·obtain rfl:=gp h;exact nP (.inl ⟨k1,aw,aw⟩)
 rcases zD h with h|h
 ·exact N3 h
 rcases zD h with h|h
 ·exact N3 h
 rcases zD h with h|h
 ·exact Gi h λx=>xM
 rcases zD h with h|h
 ·obtain rfl:=gp h;exact xM
 ·cases h
def V2(k1:m.op.kind=2)(h:j9 w m v g e=some r):mI w m v r:=by
 unfold j9 at h;rcases zF h with⟨p,h⟩|⟨_,h⟩
 ·obtain rfl:=gp h;exact nP (.inr ⟨k1,aw⟩)
 rcases zF h with⟨p,h⟩|⟨_,h⟩
 ·obtain rfl:=gp h;exact nP (.inr ⟨k1,aw⟩)
 rcases zF h with⟨p,h⟩|⟨_,h⟩
 ·rcases zD h with h|h
  ·obtain rfl:=gp h;exact nP (.inr ⟨k1,aw⟩)
  ·obtain rfl:=gp h;exact nP (.inr ⟨k1,aw⟩)
 rcases zF h with⟨p,h⟩|⟨_,h⟩
 ·obtain rfl:=gp h;exact nP (.inr ⟨k1,aw⟩)
 rcases zD h with h|h
 ·exact Gi h λx=>xM
 rcases zD h with h|h
 ·obtain rfl:=gp h;exact xM
 ·cases h
def YU(h:wy w m=some r):mI w m v r:=by
 unfold wy at h;rcases zD h with h|h
 ·rcases zD h with h|h
  ·obtain rfl:=gp h;exact xM
  ·obtain rfl:=gp h;exact⟨.inl J,λz=>absurd (show(1:Int)=2 from z.1) ar,λ_=>.inr J⟩
 rcases zD h with h|h
 ·obtain rfl:=gp h;exact xM
 rcases zD h with h|h
 ·rcases zD h with h|h
  ·cases h
  ·obtain rfl:=gp h;exact xM
 ·cases h
def Xh(h:yX w m=some r):mI w m v r:=by
 unfold yX at h;rcases zD h with h|h
 ·rcases zD h with h|h
  ·obtain rfl:=gp h;exact xM
  ·exact AX h λx=>xM
 ·cases h
def PG(w:Wor)(m m0:fi):mI w m0 v (iX w m):=by
 unfold iX;split
 ·exact xM
 ·exact xM
def Ud(k1:m.op.kind=5)(h:jY w m=some r):mI w m v r:=by
 unfold jY at h;rcases zD h with h|h
 ·obtain rfl:=gp h;split
  ·exact xM
  ·exact xM
 rcases zD h with h|h
 ·obtain rfl:=gp h;exact xM
 rcases zD h with h|h
 ·exact AX h λx=>xM
 rcases zD h with h|h
 ·obtain rfl:=gp h;split
  ·exact xM
  ·exact xM
 rcases zD h with h|h
 ·obtain rfl:=gp h;split
  ·exact PG w _ m
  ·exact xM
 rcases zF h with⟨p,h⟩|⟨_,h⟩
 ·obtain⟨v2,hv,h⟩:=gO.1 h;exact AX h λx=>⟨.inr (.inr ⟨k1,p,v2,hv,rfl⟩),λz=>absurd (show(1:Int)=2 from z.1) ar,λz=>absurd (show(7:Int)=3 from z.2) ar⟩
 rcases zF h with⟨p,h⟩|⟨_,h⟩
 ·obtain⟨v2,hv2,h⟩:=gO.1 h;obtain⟨x,_,h⟩:=gO.1 h;rcases zD h with h|h
  ·obtain rfl:=gp h;exact⟨.inl J,λ_=>⟨k1,p,rfl⟩,λz=>absurd (show(2:Int)=1 from z.1) ar⟩
  ·cases h
 rcases zD h with h|h
 ·obtain rfl:=gp h;exact PG w m m
 rcases zD h with h|h
 ·exact AX h λx=>xM
 rcases zD h with h|h
 ·obtain⟨v,_,h⟩:=gO.1 h;rcases zD h with h|h
  ·obtain rfl:=gp h;exact xM
  ·cases h
 ·cases h
def Xi(h:yF w m=some r):mI w m v r:=by
 unfold yF at h;rcases zD h with h|h
 ·obtain⟨v,_,h⟩:=gO.1 h;exact AX h λx=>xM J (λz=>absurd (show(1:Int)=2 from z.1) ar) (λz=>absurd (show(10:Int)=3 from z.2) ar)
 ·cases h
def ZL(su:qS w m v g e)(h:vV w m=some r):mI w m v r:=by
 rcases B6 su h with⟨k,h⟩|⟨k,h⟩|⟨_,h⟩|⟨_,h⟩|⟨k,h⟩|⟨_,h⟩
 ·exact V3 k h
 ·exact V2 k h
 ·exact YU h
 ·exact Xh h
 ·exact Ud k h
 ·exact Xi h
end
def w7{w:Wor}(gw:jK w){i:Nat}{v:fp}(hv:w.zd[i]?=some v)(hf:v.zW=true):∃r∈w.zp,r.version=(i:Int)/\r.gone=true:=by
 have h:=(gw.fM i v hv).2;rw[hf]at h;exact(ko w.zp i (vO gw.zp)).1 h.symm
def zya{m:fi}(h:ph m=6):m.op.kind=5:=by
 unfold ph at h;repeat' split at h
 all_goals first|assumption|omega
structure SF(s:Wor.iu):Prop where
 zy8:∀e∈s.2.2,e.zW=false
 fr:∀e∈s.2.2,Df e->0<=e.value/\∃v,s.1.zd[e.value.toNat]?=some v/\v.zW=true
 zzl:∀(a b:Nat) (ea eb:fk),a<b->s.2.2[a]?=some ea->s.2.2[b]?=some eb->Df ea->Df eb->ea.value≠eb.value
 has:∀(j:Nat) (e:fk),s.2.2[j]?=some e->JX e->(∃(k:Nat) (f:fk),j<=k/\s.2.2[k]?=some f/\f.zf=e.zf/\f.done=true)\/∃(t:Nat) (x:fB),e.zf=(t:Int)/\s.2.1[t]?=some x/\Ha x/\4<=x.m.pc/\x.m.version=e.value
 early:∀(i j:Nat) (ei ej:fk),s.2.2[i]?=some ei->Df ei->j<i->s.2.2[j]?=some ej->JX ej->ej.value=ei.value->∃(k:Nat) (f:fk),j<=k/\k<i/\s.2.2[k]?=some f/\f.zf=ej.zf/\f.done=true
def ZH{N K:Nat}{s:Wor.iu}(gi:GI N K s.1 s.2.1)(eb:EB s.1 s.2.1)(sf:SF s)(p:Int)(hN:N<=100000000)(hK:K<=1099511627776):SF (yw s p):=by
 rcases xi gi p hN hK with⟨_,e⟩|⟨t,x,o,r,hat,hx,ho,hsu,htm,hst,_,e,gi2⟩
 ·rw[e];exact sf
 ·rw[e];obtain⟨v,g,en,su⟩:=x5 hsu;have tl:=E9 su.done hst;have nt:=ku o gi hx;have no:=Ba gi hx ho;have eth:r.2.2.zf=(t:Int):=tl.2.2.trans nt;have hl:=(dW.1 hx).1;have gw:=gi.st.ji;have ev:=ZL su hst;have kp:=keep_of gi hx ho hN hK hst
  have held:∀(t':Nat) (z:fB),s.2.1[t']?=some z->Ha z->4<=z.m.pc->∀r'∈s.1.zp,r'.at_+2<=s.1.zl->z.m.version≠r'.version:=λt' z hz hq h4 r' hr' hdue hv=>by
   have:=eb.l1 r' hr' t' z hz hq h4 hv;have:=eb.h3 t' z hz hq aw;omega
  have frk:∀(i:Nat) (v0:fp),s.1.zd[i]?=some v0->v0.zW=true->∃v1,r.1.zd[i]?=some v1/\v1.zW=true:=λi v0 h0 hf=>by
   obtain⟨v1,hv1⟩:∃v1,r.1.zd[i]?=some v1:=⟨_,dX (by have:=(dW.1 h0).1;have:=kp.iW;omega)⟩;refine⟨v1,hv1,?_⟩;obtain⟨r0,hr0,e1,e2⟩:=w7 gw h0 hf;obtain⟨k,hk⟩:=gE.1 hr0;obtain⟨r1,hr1⟩:∃r1,r.1.zp[k]?=some r1:=⟨_,dX (by have:=(dW.1 hk).1;have:=kp.lim;omega)⟩;have gw2:=gi2.st.ji;rw[(gw2.fM i v1 hv1).2];refine(ko r.1.zp i (vO gw2.zp)).2 ⟨r1,dY hr1,(kp.zp k r0 r1 hk hr1).1.trans e1,?_⟩;by_cases lk:j3 (qv x t o) .lock=0
   ·rw[((kp.zp k r0 r1 hk hr1).2.2 lk)];exact e2
   ·
    have k5:(qv x t o).op.kind=5:=zya (Decidable.byContradiction λz=>lk (by unfold j3 qg;exact dZ z))
    have h:jY s.1 (qv x t o)=some r:=by
     rcases B6 su hst with⟨k,_⟩|⟨k,_⟩|⟨k,_⟩|⟨k,_⟩|⟨_,h⟩|⟨k,_⟩
     all_goals first|exact h|omega
    have lims:r.1.zp=s.1.zp\/∃(i:Nat) (x2:fH),s.1.zp[i]?=some x2/\r.1.zp=s.1.zp.set i (vL x2):=by
     rcases Fj su.done h with⟨_,qc,_⟩|⟨_,hw,_⟩|⟨_,hw,_⟩|⟨_,_,hw,_⟩|⟨_,_,_,qc,_⟩|⟨_,qc,_⟩|⟨_,v2,x2,_,hx2,_,_,hw,_⟩
     ·exact .inl qc.zp
     ·rw[hw];exact .inl J
     ·rw[hw];exact .inl J
     ·rw[hw];exact .inl J
     ·exact .inl qc.zp
     ·exact .inl qc.zp
     ·rw[hw];exact .inr ⟨_,x2,hx2,rfl⟩
    rcases lims with q|⟨i2,x2,hx2,q⟩
    ·rw[q,hk]at hr1;cases hr1
     exact e2
    ·rw[q]at hr1;rcases jy hr1 with⟨_,rfl,_⟩|⟨_,hr1⟩
     ·rfl
     ·rw[hk]at hr1;cases hr1
      exact e2
  have frn:Df r.2.2->∃(vi:Nat) (v2:fp) (x2:fH),r.2.2.value=(vi:Int)/\s.1.zd[vi]?=some v2/\v2.zW=false/\(∃v3,r.1.zd[vi]?=some v3/\v3.zW=true)/\x2∈s.1.zp/\x2.version=(vi:Int)/\x2.at_+2<=s.1.zl:=λhf=>by
   obtain⟨k5,p6,hval⟩:=ev.st hf;rw[no]at k5;obtain⟨onx,ex⟩:=Db (o:=o) (t:=(t:Int)) (x:=x) aw aw;have cx:Co x:=⟨onx,by rw[<-ex,no];exact k5⟩;have px:x.m.pc=6:=by rw[<-ex];exact p6
   obtain⟨rr,r1,r2,r3,r4⟩:=eb.c5 t x hx cx (.inr px);have z1:=eb.c1 t x hx cx aw;have v0:=su.version;rw[ex]at hval v0
   have ce:jY s.1 (qv x t o)=some r:=by
    rcases B6 su hst with⟨k,_⟩|⟨k,_⟩|⟨k,_⟩|⟨k,_⟩|⟨_,h⟩|⟨k,_⟩
    all_goals first|exact h|(rw[no]at k;omega)
   rcases Fj su.done ce with⟨q,_⟩|⟨q,_⟩|⟨q,_⟩|⟨q,_⟩|⟨_,_,q,_⟩|⟨q,_⟩|⟨_,v2,x2,hv2,hx2,hxv,hxg,hw,_⟩
   ·omega
   ·omega
   ·omega
   ·omega
   ·omega
   ·omega
   ·rw[ex]at hv2 hx2 hxv hw;rw[hx2]at r1;obtain rfl:=gp r1
    have nf:v2.zW=false:=by
     cases z:v2.zW with
     |false=>rfl
     |true=>
      obtain⟨r0,hr0,e1,e2⟩:=w7 gw hv2 z;obtain⟨k,hk⟩:=gE.1 hr0;have:=vO gw.zp k x.m.i.toNat r0 x2 hk hx2 aw;subst this;rw[hx2]at hk;cases hk
      rw[hxg]at e2;cases e2
    refine⟨x.m.version.toNat,v2,x2,aw,hv2,nf,⟨wj v2,?_,rfl⟩,dY hx2,aw,aw⟩;rw[hw];exact gk (dW.1 hv2).1
  refine⟨λe1 h1=>?_,λe1 h1 h2=>?_,λa b ea eb' hab h1 h2 f1 f2=>?_,λj e1 h1 h2=>?_,λi j ei ej h1 h2 hji h3 h4 h5=>?_⟩
  ·
   dsimp only at h1;rcases gY.1 h1 with h1|h1
   ·exact sf.zy8 e1 h1
   ·rw[gX]at h1;subst h1;show r.2.2.zW=false;rcases ev.fr with q|⟨q,hh⟩|⟨k5,p5,v2,hv2,q⟩
    ·exact q
    ·rw[q];cases z:v.zW with
     |false=>rfl
     |true=>
      exfalso
      obtain⟨r0,hr0,e1,e2⟩:=w7 gw su.fN z;obtain⟨d1,d2⟩:=eb.g1 r0 hr0 e2;have v0:=su.version;rcases hh with⟨k1,p1,p2⟩|⟨k2,p3⟩
      ·rw[no]at k1;obtain⟨onx,ex⟩:=Db (o:=o) (t:=(t:Int)) (x:=x) aw aw;rw[ex]at p1 v0 e1;exact held t x hx ⟨onx,by rw[<-ex,no];exact k1⟩ p1 r0 hr0 d1 aw
      ·have pd:ph (qv x t o)=3\/ph (qv x t o)=4:=by
        by_cases z:(qv x t o).pc<=2
        ·exact .inl (iT su.done k2 (gh z))
        ·exact .inr (iT su.done k2 (by rw[dZ z,gh aw]))
       have le:=Pg gi hx ho hN hK (.act (qv x t o).version (qv x t o).zg (qv x t o).end_);have at_:ic s.1 (qv x t o) v g en:=su.at_;rw[F4 at_]at le
       have one:1<=j3 (qv x t o) (.act (qv x t o).version (qv x t o).zg (qv x t o).end_):=by
        rcases pd with pd|pd <;> (rw[jb pd];simp[qg])
       obtain⟨pp,p1,_⟩:=CQ v.zo (qv x t o).zg.toNat (qv x t o).end_.toNat en 0 su.fG su.fP;have pe:(xc v)[pp]?=some en:=p1;have ea:(lu v)[pp]?=some en.zi:=by unfold lu;rw[gf,pe];rfl
       have z0:=d2 v (by rw[show r0.version.toNat=(qv x t o).version.toNat by omega];exact su.fN) pp trivial (dW.1 ea).1;rw[ea]at z0;have:=gp z0;omega
    ·rw[q];cases z:v2.zW with
     |false=>rfl
     |true=>
      exfalso
      rw[no]at k5;obtain⟨onx,ex⟩:=Db (o:=o) (t:=(t:Int)) (x:=x) aw aw;have cx:Co x:=⟨onx,by rw[<-ex,no];exact k5⟩;rw[ex]at p5 hv2;obtain⟨rr,r1,r2,r3,r4⟩:=eb.c5 t x hx cx (.inl p5);obtain⟨r0,hr0,e1,e2⟩:=w7 gw hv2 z;obtain⟨k,hk⟩:=gE.1 hr0;have la:=vP gw r1;have:=vO gw.zp k x.m.i.toNat r0 rr hk r1 aw;subst this;rw[r1]at hk;cases hk
      rw[r3]at e2;cases e2
  ·dsimp only at h1 ⊢;rcases gY.1 h1 with h1|h1
   ·obtain⟨z1,v0,z2,z3⟩:=sf.fr e1 h1 h2;obtain⟨v1,z4,z5⟩:=frk _ v0 z2 z3;exact⟨z1,v1,z4,z5⟩
   ·rw[gX]at h1;subst h1;obtain⟨vi,v2,x2,z1,z2,z3,⟨v3,z4,z5⟩,_⟩:=frn h2;have zv:(nW r.2.2 x).value=(vi:Int):=z1;rw[zv,toNat_cast];exact⟨aw,v3,z4,z5⟩
  ·dsimp only at h1 h2;rcases ve h2 with⟨l2,h2⟩|⟨rfl,rfl⟩
   ·rcases ve h1 with⟨_,h1⟩|⟨q,_⟩
    ·exact sf.zzl a b ea eb' hab h1 h2 f1 f2
    ·omega
   ·rcases ve h1 with⟨_,h1⟩|⟨q,_⟩
    ·obtain⟨vi,v2,x2,z1,z2,z3,_⟩:=frn f2;obtain⟨y1,v0,y2,y3⟩:=sf.fr ea (dY h1) f1;intro q;have q:ea.value=r.2.2.value:=q;rw[q,z1,toNat_cast,z2]at y2;obtain rfl:=gp y2;rw[z3]at y3;cases y3
    ·omega
  ·dsimp only at h1 ⊢;rcases ve h1 with⟨l1,h1⟩|⟨rfl,rfl⟩
   ·rcases sf.has j e1 h1 h2 with⟨k,f,y1,y2,y3,y4⟩|⟨t',z,y1,y2,y3,y4,y5⟩
    ·exact .inl ⟨k,f,y1,vE _ y2,y3,y4⟩
    ·by_cases q:t=t'
     ·subst q;rw[hx]at y2;obtain rfl:=gp y2;cases dn:r.2.1.done with
      |true=>exact .inl ⟨s.2.2.length,_,aw,CK _ _,by show r.2.2.zf=_;omega,by show r.2.2.done=true;rw[tl.1];exact dn⟩
      |false=>
       refine .inr ⟨t,_,y1,gk hl,?_⟩;have ex:qv x t o=x.m:=by unfold qv;rw[y3.1];rfl
       have hh:qj s.1 (qv x t o) v g en=some r:=by
        rcases B6 su hst with⟨_,h⟩|⟨k,_⟩|⟨k,_⟩|⟨k,_⟩|⟨k,_⟩|⟨k,_⟩
        ·exact h
        all_goals (rw[ex]at k;have:=y3.2;omega)
       have ho2:(Wor.qn x r.2.1).ops[(Wor.qn x r.2.1).done]?=some o:=by rw[xK dn];exact ho
       have n2:=Ba gi2 (gk hl) ho2;have e2:qv (Wor.qn x r.2.1) t o=r.2.1:=by rw[xK dn];rfl
       rw[e2]at n2;rw[xK dn];refine⟨⟨rfl,by show r.2.1.op.kind=1;rw[n2,<-no,ex];exact y3.2⟩,?_⟩;show 4<=r.2.1.pc/\r.2.1.version=e1.value;rcases Fs su.done (by rw[ex];omega) hh with⟨q,_⟩|⟨q,_⟩|⟨q,_⟩|⟨q,_⟩|⟨_,_,q3,_,q5,_⟩|⟨_,_,q⟩
       ·rw[ex]at q;omega
       ·rw[ex]at q;omega
       ·rw[ex]at q;omega
       ·rw[ex]at q;omega
       ·exact⟨q5,by rw[q3,ex];exact y5⟩
       ·rw[dn]at q;cases q
     ·exact .inr ⟨t',z,y1,by rw[gW q];exact y2,y3,y4,y5⟩
   ·cases dn:r.2.1.done with
    |true=>exact .inl ⟨s.2.2.length,_,gC _,CK _ _,rfl,by show r.2.2.done=true;rw[tl.1];exact dn⟩
    |false=>
     rcases ev.ld h2 with⟨k1,p3,hv⟩|q
     ·refine .inr ⟨t,_,eth,gk hl,?_⟩
      have hh:qj s.1 (qv x t o) v g en=some r:=by
       rcases B6 su hst with⟨_,h⟩|⟨k,_⟩|⟨k,_⟩|⟨k,_⟩|⟨k,_⟩|⟨k,_⟩
       ·exact h
       all_goals omega
      have ho2:(Wor.qn x r.2.1).ops[(Wor.qn x r.2.1).done]?=some o:=by rw[xK dn];exact ho
      have n2:=Ba gi2 (gk hl) ho2;have e2:qv (Wor.qn x r.2.1) t o=r.2.1:=by rw[xK dn];rfl
      rw[e2]at n2;rw[xK dn];refine⟨⟨rfl,by show r.2.1.op.kind=1;rw[n2,<-no];exact k1⟩,?_⟩;show 4<=r.2.1.pc/\r.2.1.version=r.2.2.value;rcases Fs su.done aw hh with⟨q,_⟩|⟨q,_⟩|⟨q,_⟩|⟨_,_,q3,_,q5,_⟩|⟨q,_⟩|⟨q,_⟩
      ·omega
      ·omega
      ·omega
      ·exact⟨q5,q3.trans hv.symm⟩
      ·omega
      ·omega
     ·rw[dn]at q;cases q
  ·dsimp only at h1 h3 ⊢;rcases ve h1 with⟨l1,h1⟩|⟨rfl,rfl⟩
   ·rcases ve h3 with⟨_,h3⟩|⟨q,_⟩
    ·obtain⟨k,f,y1,y2,y3,y4⟩:=sf.early i j ei ej h1 h2 hji h3 h4 h5;exact⟨k,f,y1,y2,vE _ y3,y4⟩
    ·omega
   ·rcases ve h3 with⟨_,h3⟩|⟨q,_⟩
    ·obtain⟨vi,v2,x2,z1,z2,z3,_,z4,z5,z6⟩:=frn h2;rcases sf.has j ej h3 h4 with⟨k,f,y1,y2,y3,y4⟩|⟨t',z,y1,y2,y3,y4,y5⟩
     ·exact⟨k,f,y1,(dW.1 y2).1,vE _ y2,y3,y4⟩
     ·have h5:ej.value=r.2.2.value:=h5;exact absurd (y5.trans (h5.trans (z1.trans z5.symm))) (held t' z y2 y3 y4 x2 z4 z6)
    ·omega
def XQ{w:Wor}(T:List (List fJ))(hl:w.zp=[]):EB w (T.map iV):=by
 have offT:∀{t:Nat} {x:fB} {P:Prop},(T.map iV)[t]?=some x->x.on=true->P:=λh hon=>by
  obtain⟨L,_,rfl⟩:=gM.1 ((gf ..).symm.trans h);cases hon
 exact⟨λ_ _ h q=>offT h q.1,λ_ _ h q=>offT h q.1,λ_ _ h q=>offT h q.1,λ_ _ h q=>offT h q.1,λ_ _ h q=>offT h q.1,λ_ _ h q=>offT h q.1,λ_ _ h q=>offT h q.1,λ_ _ _ h q=>offT h q.1,λr hr=>(by rw[hl]at hr;cases hr),λ_ _ h q=>offT h q.1,λr hr=>(by rw[hl]at hr;cases hr)⟩
def PV{N K:Nat}{s:Wor.iu}(gi:GI N K s.1 s.2.1)(eb:EB s.1 s.2.1)(sf:SF s)(l:List Int):∀k,k<=l.length->N+k<=100000000->K+k<=1099511627776->EB (iv s l k).1 (iv s l k).2.1/\SF (iv s l k)
 |0,_,_,_=>⟨eb,sf⟩
 |k+1,hk,hN,hK=>by
  have ih:=PV gi eb sf l k aw aw aw;have g:=AB gi l k aw aw aw;rw[y8 (dX aw)];exact⟨YR g ih.1 _ aw aw,ZH g ih.1 ih.2 _ aw aw⟩
def Vm{s:Sna}{l:List ft}{n:Int}{w:Wor}(h:lx s l n=(w,0)):w.zp=[]:=by
 unfold lx at h;split at h
 ·exact dz
 ·have hw:_=w:=rq Prod.fst h;rw[<-hw]
def Yg{s:fR}(ok:np s)(h:(zY s).2.2=0):EB (xe s).1 (xe s).2.1/\SF (xe s)/\zY s=((xe s).2.2,(xe s).1,0):=by
 have hb:=DS h;obtain⟨q,hn⟩:=xj hb;obtain⟨_,_,_,p4,_,_⟩:=xE q;have s0:SF (iH s):=⟨λe h=>aR,λe h=>aR,λa b ea eb _ h=>aR,λj e h=>aR,λi j ei ej h=>aR⟩;have z:=PV (y9 ok hb) (XQ s.threads (Vm hn)) s0 s.zQ s.zQ.length (gC _) aw aw;exact⟨z.1,z.2,by unfold zY;rw[gh hb]⟩
end Go.Run
