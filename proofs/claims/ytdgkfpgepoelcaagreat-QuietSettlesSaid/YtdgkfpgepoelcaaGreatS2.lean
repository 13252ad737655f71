import Derived.Test.YtdgkfpgepoelcaaGreatSK
import Derived.Test.YtdgkfpgepoelcaaGreatSO
import Derived.Test.YtdgkfpgepoelcaaGreatSZ
set_option linter.all false
set_option maxRecDepth 100000
set_option maxHeartbeats 4000000
namespace Go.Wor
open Go.Ab Go.Proofs Tryz Go.Hy Go.Gat Go.Nam Go.Hos Go.Con Go.Sna
def wm(c:List (List Int)):Bool:=decide (50<c.length) || c.any λr=>decide (50<r.length)
def DP(c:List (List Int))(h1:c.length<4000000000000000000):tc 21 [] [rZ c] (Bo (wm c)) []:=by
 have m1:(c.map zX).length=c.length:=cY ..;refine ab func21 ?_;refine zp.seq (if c.length<=50 then c.length else 0) (λk=>((rZ c)::.za::Bo false::I k::tJ (tJ ([.za,.za,.za,.za])))) (λk=>[]) (λk=>∀j,(h:j<c.length)->j<k->decide (50<c[j].length)=false) ?_ aj (λk hk hr=>?_) (λhr=>?_)
 .exact cC
 .have hk2:c.length<=50:=by split at hk <;> omega
  rw[c7 hk2]at hk;obtain⟨x,hx⟩:∃x,x=c[k]:=⟨_,rfl⟩;have hg:(c.map zX)[k]?=some (zX x):=by rw[cX,cV hk,hx];rfl
  have mh:(x.map u7).length=x.length:=cY ..
  have bad:decide (50<x.length)=true->wm c=true:=λh=>by
   have:(c.any λr=>decide (50<r.length))=true:=dQ.2 ⟨x,au,h⟩;simp[wm,this]
  conv=>whnf
  rw[m1];refine⟨λa1=>?_,λa1=>?_⟩
  rotate_left
  .exact absurd a1 aw
  refine dd ?_;rw[m1];refine⟨λa2=>?_,λa2=>?_⟩
  rotate_left
  .exact absurd a2 aw
  refine zab ?_
  (refine hY hg ?_)
  rw[mh];refine⟨λa3=>?_,λa3=>?_⟩
  .rw[bad (by simp at a3|-;omega)];refine zaO ?_
   exact uI
  refine dd ?_;refine .inl ⟨rfl,?_,λj hj hjk=>?_⟩
  .exact cg
  .by_cases e:j=k
   .subst e;rw[<-hx];simp at a3|-;omega
   .exact cF
 .have fin:wm c=decide ((c.length:Int) > 50):=by
   by_cases hl:c.length<=50
   .rw[c7 hl]at hr
    have h0:(c.any λr=>decide (50<r.length))=false:=by
     rw[dv];intro x hx;obtain⟨i,hi,rfl⟩:=dk.1 hx;simpa using hr i hi hi
    unfold wm;rw[h0,ri];exact decide_eq_decide.2 ah
   .unfold wm;rw[gj ah,gj ah];rfl
  rw[fin];conv=>whnf
  rw[m1];refine⟨λa1=>?_,λa1=>?_⟩
  .have hl:¬c.length<=50:=λhl=>by rw[c7 hl]at a1;simp at a1
   refine dd ?_;rw[m1];refine⟨λa2=>absurd a2 aw,λ_=>dd ?_⟩;refine zaI ?_;rw[m1];refine⟨λa5=>?_,λa5=>?_⟩
   all_goals
    rw[a5];exact cr
  .refine dd ?_;refine zaI ?_;rw[m1];refine⟨λa5=>?_,λa5=>?_⟩
   all_goals
    rw[a5];exact cr
def tM(r:sN):Bool:=decide (100<r.host.length) || decide (100<r.path.length)
def ub(c:List sN):Bool:=decide (50<c.length) || c.any tM
def EB(c:List sN)(h1:c.length<4000000000000000000):tc 53 [] [u1 c] (Bo (ub c)) []:=by
 have m1:(c.map yu).length=c.length:=cY ..;refine ab func53 ?_;refine zp.seq (if c.length<=50 then c.length else 0) (λk=>((u1 c)::.za::Bo false::I k::tJ (tJ (tJ ([.za,.za,.za,.za,.za,.za]))))) (λk=>[]) (λk=>∀j,(h:j<c.length)->j<k->tM c[j]=false) ?_ aj (λk hk hr=>?_) (λhr=>?_)
 .exact cC
 .have hk2:c.length<=50:=by split at hk <;> omega
  rw[c7 hk2]at hk;obtain⟨x,hx⟩:∃x,x=c[k]:=⟨_,rfl⟩;have hg:(c.map yu)[k]?=some (yu x):=by rw[cX,cV hk,hx];rfl
  have bad:tM x=true->ub c=true:=λh=>by
   have:c.any tM=true:=dQ.2 ⟨x,au,h⟩;simp[ub,this]
  conv=>whnf
  rw[m1];refine⟨λa1=>?_,λa1=>?_⟩
  rotate_left
  .exact absurd a1 aw
  refine dd ?_;rw[m1];refine⟨λa2=>?_,λa2=>?_⟩
  rotate_left
  .exact absurd a2 aw
  refine zab ?_
  (refine hY hg ?_)
  refine⟨λb1=>?_,λb1=>?_⟩
  .rw[bad (by simp at b1;simp[tM];omega)];refine zab ?_
   refine zad ?_
   exact uI
  refine dd ?_;(refine hY hg ?_)
  refine⟨λb2=>?_,λb2=>?_⟩
  .rw[bad (by simp at b2;simp[tM];omega)];refine zaO ?_
   exact uI
  refine dd ?_;refine .inl ⟨rfl,?_,λj hj hjk=>?_⟩
  .exact cg
  .by_cases e:j=k
   .subst e;rw[<-hx];simp at b1 b2;simp[tM];omega
   .exact cF
 .have fin:ub c=decide ((c.length:Int) > 50):=by
   by_cases hl:c.length<=50
   .rw[c7 hl]at hr
    have h0:c.any tM=false:=by
     rw[dv];intro x hx;obtain⟨i,hi,rfl⟩:=dk.1 hx;simpa using hr i hi hi
    unfold ub;rw[h0,ri];exact decide_eq_decide.2 ah
   .unfold ub;rw[gj ah,gj ah];rfl
  rw[fin];conv=>whnf
  rw[m1];refine⟨λa1=>?_,λa1=>?_⟩
  .have hl:¬c.length<=50:=λhl=>by rw[c7 hl]at a1;simp at a1
   refine dd ?_;rw[m1];refine⟨λa2=>absurd a2 aw,λ_=>dd ?_⟩;refine zaI ?_;rw[m1];refine⟨λa5=>?_,λa5=>?_⟩
   all_goals
    rw[a5];exact cr
  .refine dd ?_;refine zaI ?_;rw[m1];refine⟨λa5=>?_,λa5=>?_⟩
   all_goals
    rw[a5];exact cr
def tO(c:r7):Bool:=decide (20<c.zG.length) || decide (100<c.name.length)
def xJ(s:Sna):Bool:=decide (20<s.zc.length) || decide (20<s.ze.length) || ub s.rules || s.ze.any tO
def ED(s:Sna)(h1:s.zc.length<4000000000000000000)(h2:s.rules.length<4000000000000000000)(h3:s.ze.length<4000000000000000000):tc 22 [] [.agg (xf s)] (Bo (xJ s)) []:=by
 have m1:(s.zc.map jJ).length=s.zc.length:=cY ..;have m3:(s.ze.map qF).length=s.ze.length:=cY ..;refine ab func22 ?_;rw[m1];(refine⟨λa1=>?_,λa1=>?_⟩);(focus ((have e:xJ s=true:=(by (try simp at a1);simp[xJ];first|omega|exact .inl (.inr a1)));(rw[e]);refine dd ?_;refine hU ?_;exact uI));refine dd ?_
 rw[m3];(refine⟨λa2=>?_,λa2=>?_⟩);(focus ((have e:xJ s=true:=(by (try simp at a2);simp[xJ];first|omega|exact .inl (.inr a2)));(rw[e]);refine dd ?_;refine hU ?_;exact uI));refine dd ?_
 refine af (EB s.rules h2) ?_;(refine⟨λa3=>?_,λa3=>?_⟩);(focus ((have e:xJ s=true:=(by (try simp at a3);simp[xJ];first|omega|exact .inl (.inr a3)));(rw[e]);refine dd ?_;refine hU ?_;exact uI));refine dd ?_
 refine hU ?_
 refine zp.seq s.ze.length (λk=>(.agg (xf s)::.ref 0 [] 3 0 0::Bo false::I k::tJ (jp ([])))) (λk=>[⟨1,64,3,[xf s],0⟩]) (λk=>∀j,(h:j<s.ze.length)->j<k->tO s.ze[j]=false) ?_ aj (λk hk hr=>?_) (λhr=>?_)
 .exact cC
 .obtain⟨x,hx⟩:∃x,x=s.ze[k]:=⟨_,rfl⟩;have hg:(s.ze.map qF)[k]?=some (qF x):=by rw[cX,cV hk,hx];rfl
  have mh:(x.zG.map xe).length=x.zG.length:=cY ..
  have bad:tO x=true->xJ s=true:=λh=>by
   have:s.ze.any tO=true:=dQ.2 ⟨x,au,h⟩;simp[xJ,this]
  conv=>whnf
  rw[m3];refine zar ?_
  rw[mh];refine⟨λb1=>?_,λb1=>?_⟩
  .rw[bad (by simp at b1;simp[tO];omega)];refine zab ?_
   refine zad ?_
   exact uI
  refine dd ?_;(refine hY hg ?_)
  refine⟨λb2=>?_,λb2=>?_⟩
  .rw[bad (by simp at b2;simp[tO];omega)];refine zaO ?_
   exact uI
  refine dd ?_;refine .inl ⟨rfl,?_,λj hj hjk=>?_⟩
  .exact cq
  .by_cases e:j=k
   .subst e;rw[<-hx];simp at b1 b2;simp[tO];omega
   .exact cF
 .have h0:s.ze.any tO=false:=by
   rw[dv];intro x hx;obtain⟨i,hi,rfl⟩:=dk.1 hx;simp[hr i hi hi]
  have e:xJ s=false:=by unfold xJ;simp at a1 a2;rw[a3,h0,dY ah,dY ah];rfl
  rw[e];conv=>whnf
  rw[m3];exact cn
structure Wk(w:Wor):Prop where
 pins:w.pins.length<4000000000000000000
 zd:w.zd.length<4000000000000000000
 zc:w.zc.length<4000000000000000000
 counts:w.counts.length<4000000000000000000
 zi:w.zi.length<4000000000000000000
 fx:∀v∈w.zd,v.snap.zc.length<4000000000000000000/\v.snap.rules.length<4000000000000000000/\v.snap.ze.length<4000000000000000000
 zg:∀v∈w.zd,v.zg.length<4000000000000000000/\∀g∈v.zg,g.ends.length<4000000000000000000
def ue(g:Gr):Bool:=decide (20<g.ends.length)
def s6(v:rL):Bool:=xJ v.snap || decide (20<v.zg.length) || v.zg.any ue
def yL(w:Wor):Bool:=decide (20<w.pins.length) || decide (40<w.zd.length) || decide (40<w.zc.length) || wm w.counts || decide (60<w.zi.length) || w.zd.any s6
def Ft(w:Wor)(hw:Wk w):tc 6 [] [Cw w] (Bo (yL w)) []:=by
 have m1:(w.pins.map Go.Hy.encI).length=w.pins.length:=cY ..;have m2:(w.zd.map zw).length=w.zd.length:=cY ..;have m3:(w.zc.map z1).length=w.zc.length:=cY ..;have m4:(w.counts.map zX).length=w.counts.length:=cY ..;have m5:(w.zi.map zW).length=w.zi.length:=cY ..;have b2:=hw.zd;refine ab func6 ?_;rw[m1];(refine⟨λa1=>?_,λa1=>?_⟩);(focus ((have e:yL w=true:=(by (try simp at a1);simp[yL];first|omega|(rw[a1];simp)));(rw[e]);refine dd ?_;refine hU ?_;exact uI));refine dd ?_
 rw[m2];(refine⟨λa2=>?_,λa2=>?_⟩);(focus ((have e:yL w=true:=(by (try simp at a2);simp[yL];first|omega|(rw[a2];simp)));(rw[e]);refine dd ?_;refine hU ?_;exact uI));refine dd ?_
 rw[m3];(refine⟨λa3=>?_,λa3=>?_⟩);(focus ((have e:yL w=true:=(by (try simp at a3);simp[yL];first|omega|(rw[a3];simp)));(rw[e]);refine dd ?_;refine hU ?_;exact uI));refine dd ?_
 refine af (DP w.counts hw.counts) ?_;(refine⟨λa4=>?_,λa4=>?_⟩);(focus ((have e:yL w=true:=(by (try simp at a4);simp[yL];first|omega|(rw[a4];simp)));(rw[e]);refine dd ?_;refine hU ?_;exact uI));refine dd ?_
 rw[m5];(refine⟨λa5=>?_,λa5=>?_⟩);(focus ((have e:yL w=true:=(by (try simp at a5);simp[yL];first|omega|(rw[a5];simp)));(rw[e]);refine dd ?_;refine hU ?_;exact uI));refine dd ?_
 have eW:yL w=w.zd.any s6:=by
  unfold yL;simp at a1 a2 a3 a5;rw[a4,dY ah,dY ah,dY ah,dY ah]
  rfl
 refine zp.seq w.zd.length (λk=>(Cw w:: .ref 0 [] 8 0 0::Bo false::I k:: .za::tJ (jp (tJ (tJ (tJ ([]))))))) (λk=>[oW w]) (λk=>∀j,(h:j<w.zd.length)->j<k->s6 w.zd[j]=false) ?_ aj (λk hk hr=>?_) (λhr=>?_)
 .exact cC
 .obtain⟨v,hx⟩:∃v,v=w.zd[k]:=⟨_,rfl⟩;have hv:v∈w.zd:=by rw[hx];exact dn hk
  have hg:(w.zd.map zw)[k]?=some (zw v):=by rw[cX,cV hk,hx];rfl
  have mg:(v.zg.map zM).length=v.zg.length:=cY ..
  have bad:s6 v=true->yL w=true:=λh=>by
   rw[eW];exact dQ.2 ⟨v,hv,h⟩
  have bg:=(hw.zg v hv).1;conv=>whnf
  rw[m2];refine zar ?_
  refine af (ED v.snap (hw.fx v hv).1 (hw.fx v hv).2.1 (hw.fx v hv).2.2) ?_;refine⟨λc1=>?_,λc1=>?_⟩
  .rw[bad (by unfold s6;rw[c1];rfl)];refine zab ?_
   refine zad ?_
   exact uI
  refine dd ?_;rw[mg];refine⟨λc2=>?_,λc2=>?_⟩
  .rw[bad (by unfold s6;rw[c1,gj (by simp at c2;omega)];rfl)];refine zaO ?_
   exact uI
  refine dd ?_;refine zp.seq v.zg.length (λj=>(Cw w:: .ref 0 [] 8 0 0::Bo false::I k:: .ref 1 [] 5 0 0::I j:: .za::.za::.za::.za::.za::.za::.za::tJ (jp (tJ (tJ ([])))))) (λj=>[oW w,⟨1,67,5,[zw v],0⟩]) (λj=>∀i,(h:i<v.zg.length)->i<j->ue v.zg[i]=false) ?_ aj (λj hj hrj=>?_) (λhrj=>?_)
  .exact cC
  .obtain⟨g,hxg⟩:∃g,g=v.zg[j]:=⟨_,rfl⟩;have hgg:(v.zg.map zM)[j]?=some (zM g):=by rw[cX,cV hj,hxg];rfl
   have me:(g.ends.map zP).length=g.ends.length:=cY ..
   have badg:ue g=true->yL w=true:=λh=>bad (by
    have:v.zg.any ue=true:=dQ.2 ⟨g,by rw[hxg];exact dn hj,h⟩;unfold s6;rw[this,Bool.or_true])
   conv=>whnf
   rw[mg];refine uF ?_;(refine hY hgg ?_)
   rw[me];refine⟨λc3=>?_,λc3=>?_⟩
   .rw[badg (by simp at c3;simp[ue];omega)];refine zaO ?_
    (try (refine .inr ⟨aj,uH ?_⟩))
    exact uI
   refine dd ?_;refine .inl ⟨rfl,?_,λi hi hij=>?_⟩
   .exact cL
   .by_cases e:i=j
    .subst e;rw[<-hxg];simp at c3;simp[ue];omega
    .exact hrj i hi ah
  .have h0:v.zg.any ue=false:=by
    rw[dv];intro x hx;obtain⟨i,hi,rfl⟩:=dk.1 hx;simp[hrj i hi hi]
   have no:s6 v=false:=by unfold s6;rw[c1,h0,dY (by simp at c2;omega)];rfl
   refine uD ?_;refine .inl ⟨rfl,?_,λi hi hij=>?_⟩
   .exact cq
   .by_cases e:i=k
    .subst e;rw[<-hx];exact no
    .exact hr i hi ah
 .have h0:w.zd.any s6=false:=by
   rw[dv];intro x hx;obtain⟨i,hi,rfl⟩:=dk.1 hx;simp[hr i hi hi]
  rw[eW,h0];conv=>whnf
  rw[m2];exact cn
def Jd(l:List rK)(hl:l.length<4000000000000000000):tc 129 [] [lT l,lT l] (Bo true) []:=by
 have hlm:(l.map jJ).length=l.length:=cY ..;refine ab func129 ?_;refine uG ?_;refine zp.seq l.length (λk=>((lT l)::(lT l)::.za::.za::Bo false::I k::tJ (tJ ([.za,.za,.za,.za])))) (λk=>[]) (λk=>True) ?_ trivial (λk hk hr=>?_) (λhr=>?_)
 .exact cC
 .have hg:(l.map jJ)[k]?=some (jJ l[k]):=by rw[cX,cV hk];rfl
  conv=>whnf
  rw[hlm];refine zas ?_
  (refine hY hg ?_)
  (try (refine⟨an,dd ?_⟩))
  refine uG ?_;exact cv
 .conv=>whnf
  rw[hlm];exact cn
def Ja(l:List Int)(hl:l.length<4000000000000000000):tc 29 [] [lI l,lI l] (Bo true) []:=by
 have hlm:(l.map Go.Hy.encI).length=l.length:=cY ..;refine ab func29 ?_;refine uG ?_;refine zp.seq l.length (λk=>((lI l)::(lI l)::.za::.za::Bo false::I k::tJ (tJ ([.za,.za,.za,.za])))) (λk=>[]) (λk=>True) ?_ trivial (λk hk hr=>?_) (λhr=>?_)
 .exact cC
 .have hg:(l.map Go.Hy.encI)[k]?=some (Go.Hy.encI l[k]):=by rw[cX,cV hk];rfl
  conv=>whnf
  rw[hlm];refine zas ?_
  (refine hY hg ?_)
  (try (refine⟨an,dd ?_⟩))
  refine uG ?_;exact cv
 .conv=>whnf
  rw[hlm];exact cn
def Jb(l:List rP)(hl:l.length<4000000000000000000):tc 31 [] [lR l,lR l] (Bo true) []:=by
 have hlm:(l.map zW).length=l.length:=cY ..;refine ab func31 ?_;refine uG ?_;refine zp.seq l.length (λk=>((lR l)::(lR l)::.za::.za::Bo false::I k::tJ (tJ ([.za,.za,.za,.za])))) (λk=>[]) (λk=>True) ?_ trivial (λk hk hr=>?_) (λhr=>?_)
 .exact cC
 .have hg:(l.map zW)[k]?=some (zW l[k]):=by rw[cX,cV hk];rfl
  conv=>whnf
  rw[hlm];refine zas ?_
  (refine hY hg ?_)
  (try (refine⟨an,dd ?_⟩))
  refine uG ?_;exact cv
 .conv=>whnf
  rw[hlm];exact cn
def Is(l:List (List Int))(hl:l.length<4000000000000000000)(hr:∀r∈l,r.length<4000000000000000000):tc 30 [] [rZ l,rZ l] (Bo true) []:=by
 have hlm:(l.map zX).length=l.length:=cY ..;refine ab func30 ?_;refine uG ?_;refine zp.seq l.length (λk=>((rZ l)::(rZ l)::.za::.za::Bo false::I k::tJ (jp ([.za,.za,.za,.za,.za,.za,.za])))) (λk=>[]) (λk=>True) ?_ trivial (λk hk _=>?_) (λ_=>?_)
 .exact cC
 .obtain⟨x,hx⟩:∃x,x=l[k]:=⟨_,rfl⟩;have hg:(l.map zX)[k]?=some (zX x):=by rw[cX,cV hk,hx];rfl
  have hx1:=hr x uV;have mx:(x.map u7).length=x.length:=cY ..;conv=>whnf
  rw[hlm];refine zas ?_;(refine hY hg ?_);refine uG ?_
  refine zp.seq x.length (λj=>((rZ l)::(rZ l)::.za::.za::Bo false::I k::I j::tJ (jp ([.za,.za,.za,.za,.za,.za])))) (λk=>[]) (λk=>True) ?_ trivial (λj hj _=>?_) (λ_=>?_)
  .exact cC
  .have hu:(x.map u7)[j]?=some (u7 x[j]):=by rw[cX,cV hj];rfl
   conv=>whnf
   (refine hY hg ?_)
   rw[mx];refine zas ?_
   (refine hY hu ?_)
   (refine hY hg ?_)
   (refine hY hu ?_)
   refine uG ?_;exact cv
  .conv=>whnf
   (refine hY hg ?_)
   rw[mx];refine zap ?_
   exact cv
 .conv=>whnf
  rw[hlm];refine zap ?_
  exact uI
def I8(l:List r7)(hl:l.length<4000000000000000000)(hr:∀x∈l,x.zG.length<4000000000000000000):tc 130 [] [lC l,lC l] (Bo true) []:=by
 have hlm:(l.map qF).length=l.length:=cY ..;refine ab func130 ?_;refine uG ?_;refine zp.seq l.length (λk=>(lC l::lC l:: .za::.za::Bo false::I k:: .za::.za::.za::tJ (jp (jp (tJ (tJ ([]))))))) (λk=>[]) (λk=>True) ?_ trivial (λk hk _=>?_) (λ_=>?_)
 .exact cC
 .obtain⟨x,hx⟩:∃x,x=l[k]:=⟨_,rfl⟩;have hg:(l.map qF)[k]?=some (qF x):=by rw[cX,cV hk,hx];rfl
  have hx1:=hr x uV;have mx:(x.zG.map xe).length=x.zG.length:=cY ..;conv=>whnf
  rw[hlm];refine zas ?_;(refine hY hg ?_);refine uG ?_
  (refine hY hg ?_);(refine hY hg ?_);refine uG ?_
  (refine hY hg ?_);(refine hY hg ?_);refine uG ?_
  (refine hY hg ?_);(refine hY hg ?_);refine uG ?_
  refine zp.seq x.zG.length (λj=>(lC l::lC l:: .za::.za::Bo false::I k::I j:: .za::.za::tJ (jp (jp (tJ (tJ ([]))))))) (λk=>[]) (λk=>True) ?_ trivial (λj hj _=>?_) (λ_=>?_)
  .exact cC
  .obtain⟨b,hb⟩:∃b,b=x.zG[j]:=⟨_,rfl⟩;have hu:(x.zG.map xe)[j]?=some (xe b):=by rw[cX,cV hj,hb];rfl
   clear hb
   cases b
   all_goals
    conv=>whnf
    (refine hY hg ?_)
    rw[mx];refine zas ?_
    (refine hY hu ?_)
    (repeat (first|(refine⟨λ_=>?_,?_⟩;rotate_left 1;(focus (intro h;simp at h;done));(refine dd ?_))|(refine⟨?_,λ_=>?_⟩;(focus (intro h;simp at h;done));(refine dd ?_))))
    (refine hY hg ?_)
    (refine hY hu ?_)
    (repeat (first|(refine⟨λ_=>?_,?_⟩;rotate_left 1;(focus (intro h;simp at h;done));(refine dd ?_))|(refine⟨?_,λ_=>?_⟩;(focus (intro h;simp at h;done));(refine dd ?_))))
    exact cv
  .conv=>whnf
   (refine hY hg ?_)
   rw[mx];refine zap ?_
   exact cv
 .conv=>whnf
  rw[hlm];refine zap ?_
  exact uI
def Jc(s:Sna)(h1:s.zc.length<4000000000000000000)(h2:s.rules.length<4000000000000000000)(h3:s.ze.length<4000000000000000000)(h4:∀x∈s.ze,x.zG.length<4000000000000000000):tc 68 [] [.agg (xf s),.agg (xf s)] (Bo true) []:=by
 have hlm:(s.rules.map yu).length=s.rules.length:=cY ..;refine ab func68 ?_;refine af (Jd s.zc h1) ?_;(repeat (first|(refine⟨λ_=>?_,?_⟩;rotate_left 1;(focus (intro h;simp at h;done));(refine dd ?_))|(refine⟨?_,λ_=>?_⟩;(focus (intro h;simp at h;done));(refine dd ?_))))
 refine af (I8 s.ze h3 h4) ?_;(repeat (first|(refine⟨λ_=>?_,?_⟩;rotate_left 1;(focus (intro h;simp at h;done));(refine dd ?_))|(refine⟨?_,λ_=>?_⟩;(focus (intro h;simp at h;done));(refine dd ?_))))
 refine zp.seq s.rules.length (λk=>(.agg (xf s)::.agg (xf s)::.ref 0 [] 3 0 0::.ref 1 [] 3 0 0::Bo false::I k::tJ (jp ([.za])))) (λk=>[⟨1,64,3,[xf s],0⟩,⟨1,64,3,[xf s],0⟩]) (λk=>True) ?_ trivial (λk hk _=>?_) (λ_=>?_)
 .exact cC
 .have hg:(s.rules.map yu)[k]?=some (yu s.rules[k]):=by rw[cX,cV hk];rfl
  conv=>whnf
  rw[hlm];refine zas ?_
  (refine hY hg ?_)
  refine⟨an,dd ?_⟩;refine uG ?_;exact ck
 .conv=>whnf
  rw[hlm];refine zap ?_
  exact uI
def I9{a:En}(ha:a.ok):tc 69 [] [.agg (zP a),.agg (zP a)] (Bo true) []:=by
 have h:=Go.Slp.Ez a a ha ha;rw[show Go.Slp.vU a a=true from by simp[Go.Slp.vU]]at h;exact h
structure nW(s:Sna):Prop where
 zc:s.zc.length<4000000000000000000
 rules:s.rules.length<4000000000000000000
 ze:s.ze.length<4000000000000000000
 zG:∀x∈s.ze,x.zG.length<4000000000000000000
def Je(v:rL)(hs:nW v.snap)(hl:v.zg.length<4000000000000000000)(hg:∀g∈v.zg,g.ends.length<4000000000000000000/\∀e∈g.ends,e.ok):tc 32 [] [Cv v,Cv v] (Bo true) []:=by
 have hlm:(v.zg.map zM).length=v.zg.length:=cY ..;refine ab func32 ?_;refine af (Jc v.snap hs.zc hs.rules hs.ze hs.zG) ?_;(repeat (first|(refine⟨λ_=>?_,?_⟩;rotate_left 1;(focus (intro h;simp at h;done));(refine dd ?_))|(refine⟨?_,λ_=>?_⟩;(focus (intro h;simp at h;done));(refine dd ?_))))
 refine⟨λhf=>?_,λhf=>?_⟩
 all_goals
  refine dd ?_;(first|(refine⟨λ_=>dd ?_,λh=>absurd ((hf).symm.trans h:true=false) aq⟩)|(refine⟨λh=>absurd ((hf).symm.trans h:false=true) aq,λ_=>dd ?_⟩))
  (repeat (first|(refine⟨λ_=>?_,?_⟩;rotate_left 1;(focus (intro h;simp at h;done));(refine dd ?_))|(refine⟨?_,λ_=>?_⟩;(focus (intro h;simp at h;done));(refine dd ?_))))
  refine zp.seq v.zg.length (λk=>(Cv v::Cv v:: .ref 0 [] 5 0 0:: .ref 1 [] 5 0 0::Bo false::I k:: .za::.za::.za::tJ (jp (jp (tJ (tJ ([]))))))) (λk=>[⟨1,67,5,[zw v],0⟩,⟨1,67,5,[zw v],0⟩]) (λk=>True) ?_ trivial (λk hk _=>?_) (λ_=>?_)
  .exact cC
  .obtain⟨g,hx⟩:∃g,g=v.zg[k]:=⟨_,rfl⟩;have hgm:g∈v.zg:=by rw[hx];exact dn hk
   have hgg:(v.zg.map zM)[k]?=some (zM g):=by rw[cX,cV hk,hx];rfl
   have hx1:=(hg g hgm).1;have mx:(g.ends.map zP).length=g.ends.length:=cY ..;conv=>whnf
   rw[hlm];refine uF ?_;refine uE ?_;(refine hY hgg ?_);(refine hY hgg ?_);refine uG ?_
   (refine hY hgg ?_);(refine hY hgg ?_);refine uG ?_
   refine zp.seq g.ends.length (λj=>(Cv v::Cv v:: .ref 0 [] 5 0 0:: .ref 1 [] 5 0 0::Bo false::I k::I j:: .za::.za::tJ (jp (jp (tJ (tJ ([]))))))) (λk=>[⟨1,67,5,[zw v],0⟩,⟨1,67,5,[zw v],0⟩]) (λk=>True) ?_ trivial (λj hj _=>?_) (λ_=>?_)
   .exact cC
   .obtain⟨e,he⟩:∃e,e=g.ends[j]:=⟨_,rfl⟩;have hem:e∈g.ends:=by rw[he];exact dn hj
    have hu:(g.ends.map zP)[j]?=some (zP e):=by rw[cX,cV hj,he];rfl
    conv=>whnf
    (refine hY hgg ?_)
    rw[mx];refine uF ?_;refine zan ?_;(refine hY hgg ?_)
    (refine hY hu ?_)
    (refine hY hgg ?_)
    (refine hY hu ?_)
    refine af (I9 ((hg g hgm).2 e hem)) ?_;(repeat (first|(refine⟨λ_=>?_,?_⟩;rotate_left 1;(focus (intro h;simp at h;done));(refine dd ?_))|(refine⟨?_,λ_=>?_⟩;(focus (intro h;simp at h;done));(refine dd ?_))))
    exact ck
   .conv=>whnf
    (refine hY hgg ?_)
    rw[mx];refine zap ?_
    exact ck
  .conv=>whnf
   rw[hlm];refine zap ?_
   exact uI
structure fQ(w:Wor):Prop where
 wk:Wk w
 fx:∀v∈w.zd,nW v.snap
 ends : ∀v∈w.zd, ∀g∈v.zg, ∀e∈g.ends, e.ok
 counts:∀r∈w.counts,r.length<4000000000000000000
def Jf(w:Wor)(hw:fQ w):tc 10 [] [Cw w,Cw w] (Bo true) []:=by
 have m2:(w.zd.map zw).length=w.zd.length:=cY ..;have m3:(w.zc.map z1).length=w.zc.length:=cY ..;have b2:=hw.wk.zd;have b3:=hw.wk.zc;refine ab func10 ?_;(repeat (first|(refine⟨λ_=>?_,?_⟩;rotate_left 1;(focus (intro h;simp at h;done));(refine dd ?_))|(refine⟨?_,λ_=>?_⟩;(focus (intro h;simp at h;done));(refine dd ?_))))
 refine af (Ja w.pins hw.wk.pins) ?_;(repeat (first|(refine⟨λ_=>?_,?_⟩;rotate_left 1;(focus (intro h;simp at h;done));(refine dd ?_))|(refine⟨?_,λ_=>?_⟩;(focus (intro h;simp at h;done));(refine dd ?_))))
 refine af (Is w.counts hw.wk.counts hw.counts) ?_;(repeat (first|(refine⟨λ_=>?_,?_⟩;rotate_left 1;(focus (intro h;simp at h;done));(refine dd ?_))|(refine⟨?_,λ_=>?_⟩;(focus (intro h;simp at h;done));(refine dd ?_))))
 refine af (Jb w.zi hw.wk.zi) ?_;(repeat (first|(refine⟨λ_=>?_,?_⟩;rotate_left 1;(focus (intro h;simp at h;done));(refine dd ?_))|(refine⟨?_,λ_=>?_⟩;(focus (intro h;simp at h;done));(refine dd ?_))))
 refine zp.seq w.zd.length (λk=>(Cw w::Cw w:: .ref 0 [] 8 0 0:: .ref 1 [] 8 0 0::Bo false::I k:: .za::.za::.za::tJ (jp (jp (tJ (tJ (tJ ([])))))))) (λk=>[oW w,oW w]) (λk=>True) ?_ trivial (λk hk _=>?_) (λ_=>?_)
 .exact cC
 .obtain⟨v,hx⟩:∃v,v=w.zd[k]:=⟨_,rfl⟩;have hv:v∈w.zd:=by rw[hx];exact dn hk
  have hg:(w.zd.map zw)[k]?=some (zw v):=by rw[cX,cV hk,hx];rfl
  conv=>whnf
  rw[m2];refine uF ?_;refine zan ?_;(refine hY hg ?_)
  (refine hY hg ?_)
  refine af (Je v (hw.fx v hv) (hw.wk.zg v hv).1 (λg hg=>⟨(hw.wk.zg v hv).2 g hg,hw.ends v hv g hg⟩)) ?_;(repeat (first|(refine⟨λ_=>?_,?_⟩;rotate_left 1;(focus (intro h;simp at h;done));(refine dd ?_))|(refine⟨?_,λ_=>?_⟩;(focus (intro h;simp at h;done));(refine dd ?_))))
  exact ck
 conv=>whnf
 rw[m2];refine zap ?_
 refine zp.seq w.zc.length (λk=>(Cw w::Cw w:: .ref 0 [] 8 0 0:: .ref 1 [] 8 0 0::Bo false:: .za::I k:: .za::.za::tJ (jp (jp (tJ (tJ (tJ ([])))))))) (λk=>[oW w,oW w]) (λk=>True) ?_ trivial (λk hk _=>?_) (λ_=>?_)
 .exact cC
 .obtain⟨x,hx⟩:∃x,x=w.zc[k]:=⟨_,rfl⟩;have hg:(w.zc.map z1)[k]?=some (z1 x):=by rw[cX,cV hk,hx];rfl
  conv=>whnf
  rw[m3];refine zas ?_
  (refine hY hg ?_)
  refine⟨an,dd ?_⟩;refine uG ?_;exact ck
 .conv=>whnf
  rw[m3];refine zap ?_
  exact uI
end Go.Wor
namespace Go.Hy
open Go.Ab Go.Proofs Tryz
def Ge:zr prog 81 z1 rS.ok:=
 zr.map (zr.struct underlying81 an (zH.cons V (wP) (zH.cons V (zr.bool underlying4) (zH.cons V (zr.int underlying3) (zH.cons V (zr.bool underlying4) (zH.nil _)))))) (λx=>⟨x.1,x.2.1,x.2.2.1,x.2.2.2.1⟩) λx h=>⟨⟨h.1,wf_i64 h.2.2.1⟩,rfl⟩
def FG:zr prog 24 (λl:List rS=>[lL l]) (λl=>(∀x∈l,x.ok)/\l.length*40<=reachBytes):=
 zr.slice (sz:=4) (by_:=40) underlying24 an an aq (λ_=>V) Ge
def Gf:zr prog 126 zW rP.ok:=
 zr.map (zr.struct underlying126 an (zH.cons V (zr.int underlying3) (zH.cons V (zr.int underlying3) (zH.cons V (zr.bool underlying4) (zH.nil _))))) (λx=>⟨x.1,x.2.1,x.2.2.1⟩) λx h=>⟨⟨wf_i64 h.1,wf_i64 h.2.1⟩,rfl⟩
def FH:zr prog 26 (λl:List rP=>[lR l]) (λl=>(∀x∈l,x.ok)/\l.length*24<=reachBytes):=
 zr.slice (sz:=3) (by_:=24) underlying26 an an aq (λ_=>V) Gf
def Hh:zr prog 141 zP En.ok:=
 zr.map (zr.struct underlying141 an (zH.cons V (zr.int underlying54) (zH.cons V BA (zH.cons V (zr.int underlying3) (zH.nil _))))) (λx=>⟨x.1,x.2.1,x.2.2.1⟩) λx h=>⟨⟨wf_u64 h.1,⟨λy hy=>wf_i64 (h.2.1.1 y hy),by have:=h.2.1.2;unfold reachBytes at this;show x.2.1.length<=_;omega⟩,wf_i64 h.2.2.1⟩,rfl⟩
def Gk:zr prog 69 (λl:List En=>[lE l]) (λl=>(∀x∈l,x.ok)/\l.length*40<=reachBytes):=
 zr.slice (sz:=3) (by_:=40) underlying69 an an aq (λ_=>V) Hh
def Gr.okW(g:Gr):Prop:=u64 g.yi/\(∀e∈g.ends,e.ok)/\g.ends.length*40<=reachBytes
def Hk:zr prog 71 zM Gr.okW:=
 zr.map (zr.struct underlying71 an (zH.cons V (zr.int underlying54) (zH.cons V Gk (zH.nil _)))) (λx=>⟨x.1,x.2.1⟩) λx h=>⟨⟨wf_u64 h.1,h.2.1⟩,rfl⟩
def Gl:zr prog 65 (λl:List Gr=>[lG l]) (λl=>(∀x∈l,x.okW)/\l.length*32<=reachBytes):=
 zr.slice (sz:=2) (by_:=32) underlying65 an an aq (λ_=>V) Hk
def sN.okW(r:sN):Prop:=r.host.length<=reachBytes/\r.path.length<=reachBytes
def Gg:zr prog 131 yu sN.okW:=
 zr.map (zr.struct underlying131 an (zH.cons V (zr.int underlying3) (zH.cons V (wP) (zH.cons V (wP) (zH.cons V (zr.int underlying3) (zH.nil _)))))) (λx=>⟨x.1,x.2.1,x.2.2.1,x.2.2.2.1⟩) λx h=>⟨⟨h.2.1,h.2.2.1⟩,rfl⟩
def FI:zr prog 62 (λl:List sN=>[u1 l]) (λl=>(∀x∈l,x.okW)/\l.length*48<=reachBytes):=
 zr.slice (sz:=4) (by_:=48) underlying62 an an aq (λ_=>V) Gg
def Sna.okW(s:Sna):Prop:=((∀x∈s.zc,fu x)/\s.zc.length*16<=reachBytes)/\((∀r∈s.rules,r.okW)/\s.rules.length*48<=reachBytes)/\((∀x∈s.ze,x.ok)/\s.ze.length*56<=reachBytes)
def Gh:zr prog 64 xf Sna.okW:=
 zr.map (zr.struct underlying64 an (zH.cons V HZ (zH.cons V FI (zH.cons V HY (zH.nil _))))) (λx=>⟨x.1,x.2.1,x.2.2.1⟩) λx h=>⟨⟨h.1,h.2.1,h.2.2.1⟩,rfl⟩
def rL.okW(v:rL):Prop:=v.snap.okW/\((∀g∈v.zg,g.okW)/\v.zg.length*32<=reachBytes)
def Gi:zr prog 67 zw rL.okW:=
 zr.map (zr.struct underlying67 an (zH.cons V Gh (zH.cons V Gl (zH.cons V (zr.bool underlying4) (zH.nil _))))) (λx=>⟨x.1,x.2.1,x.2.2.1⟩) λx h=>⟨⟨h.1,h.2.1⟩,by simp[zw]⟩
def FJ:zr prog 23 (λl:List rL=>[lV l]) (λl=>(∀x∈l,x.okW)/\l.length*104<=reachBytes):=
 zr.slice (sz:=5) (by_:=104) underlying23 an an aq (λ_=>V) Gi
def Hm:zr prog 121 (λl:List Int=>[lU l]) (λl=>(∀x∈l,(Lit.int .u64 x).wf=true)/\l.length*8<=reachBytes):=
 zr.slice (sz:=1) (by_:=8) underlying121 an an aq (λ_=>V) (zr.int underlying54)
def Gj:zr prog 25 (λl:List (List Int)=>[rZ l]) (λl=>(∀r∈l,(∀x∈r,(Lit.int .u64 x).wf=true)/\r.length*8<=reachBytes)/\l.length*24<=reachBytes):=
 zr.slice (sz:=1) (by_:=24) underlying25 an an aq (λ_=>V) Hm
structure Wor.okW(w:Wor):Prop where
 pins:w.pins.length*8<=reachBytes
 zd:(∀v∈w.zd,v.okW)/\w.zd.length*104<=reachBytes
 zc:(∀x∈w.zc,x.ok)/\w.zc.length*40<=reachBytes
 counts:(∀r∈w.counts,(∀x∈r,(Lit.int .u64 x).wf=true)/\r.length*8<=reachBytes)/\w.counts.length*24<=reachBytes
 zi:w.zi.length*24<=reachBytes
def Hl:zr prog 28 u9 Wor.okW:=
 zr.map (zr.struct underlying28 an (zH.cons V (zr.int underlying3) (zH.cons V (zr.int underlying3) (zH.cons V (zr.int underlying3) (zH.cons V BA (zH.cons V FJ (zH.cons V FG (zH.cons V Gj (zH.cons V FH (zH.nil _))))))))))
  (λx=>⟨x.1,x.2.1,x.2.2.1,x.2.2.2.1,x.2.2.2.2.1,x.2.2.2.2.2.1,x.2.2.2.2.2.2.1,x.2.2.2.2.2.2.2.1⟩) λx h=>⟨⟨h.2.2.2.1.2,h.2.2.2.2.1,h.2.2.2.2.2.1,h.2.2.2.2.2.2.1,h.2.2.2.2.2.2.2.1.2⟩,rfl⟩
def arg_Wor:kc prog 28 (λx=>.agg (u9 x)) Wor.okW:=zr.GD underlying28 Hl
def ss.okW(o:ss):Prop:=o.ok/\i64 o.d0/\i64 o.d1
end Go.Hy
namespace Go.Wor
open Go.Ab Go.Proofs Tryz Go.Gat Go.Nam Go.Hos Go.Con Go.Sna Go.Pla
open Go.Hy hiding encI
variable{w:Wor}{s:Sna}
def Jl(h:Hy.Wor.okW w):fQ w:=by
 have r:reachBytes<2000000000000000:=aq
 have hv:=h.zd;refine⟨⟨by have:=h.pins;omega,by have:=hv.2;omega,by have:=h.zc.2;omega,by have:=h.counts.2;omega,by have:=h.zi;omega,λv m=>?_,λv m=>?_⟩,λv m=>?_,λv m g hg e he=>?_,λr hr=>by have:=(h.counts.1 r hr).2;omega⟩
 .have s:=(hv.1 v m).1;exact⟨by have:=s.1.2;omega,by have:=s.2.1.2;omega,by have:=s.2.2.2;omega⟩
 .have s:=(hv.1 v m).2;exact⟨by have:=s.2;omega,λg hg=>by have:=(s.1 g hg).2.2;omega⟩
 .have s:=(hv.1 v m).1;exact⟨by have:=s.1.2;omega,by have:=s.2.1.2;omega,by have:=s.2.2.2;omega,λx hx=>by have:=(s.2.2.1 x hx).2;omega⟩
 .exact((hv.1 v m).2.1 g hg).2.1 e he
def lN(h:yL w=false):w.pins.length<=20/\w.zd.length<=40/\w.zc.length<=40/\wm w.counts=false/\w.zi.length<=60/\∀v∈w.zd,s6 v=false:=by
 unfold yL at h;simp only[dW,dz,dv]at h;obtain⟨⟨⟨⟨⟨h1,h2⟩,h3⟩,h4⟩,h5⟩,h6⟩:=h;exact⟨ah,ah,ah,h4,ah,λv hv=>by simpa using h6 v hv⟩
def oP{v:rL}(h:s6 v=false):xJ v.snap=false/\v.zg.length<=20/\∀g∈v.zg,g.ends.length<=20:=by
 unfold s6 at h;simp only[dW,dz,dv]at h;obtain⟨⟨h1,h2⟩,h3⟩:=h;refine⟨h1,ah,λg hg=>?_⟩;have:=h3 g hg;simp[ue]at this;omega
def EC(h:xJ s=false):s.zc.length<=20/\s.ze.length<=20/\s.rules.length<=50/\(∀r∈s.rules,r.host.length<=100/\r.path.length<=100)/\∀x∈s.ze,x.zG.length<=20/\x.name.length<=100:=by
 unfold xJ at h;simp only[dW,dz,dv]at h;obtain⟨⟨⟨h1,h2⟩,h3⟩,h4⟩:=h;unfold ub at h3;simp only[dW,dz,dv]at h3;obtain⟨h5,h6⟩:=h3;refine⟨ah,ah,ah,λr hr=>?_,λx hx=>?_⟩
 .have:=h6 r hr;simp[tM]at this;omega
 .have:=h4 x hx;simp[tO]at this;omega
def Ca(h:s.okW)(hb:xJ s=false):x4 s:=by
 have r:reachBytes<2000000000000000:=aq
 obtain⟨h1,h2,h3,h4,h5⟩:=EC hb;exact⟨⟨ah,λx hx=>by have:=h.1.1 x hx;unfold fu at this;omega⟩,⟨ah,λr hr=>by have:=h4 r hr;omega⟩,⟨ah,λx hx=>by have:=h5 x hx;omega⟩⟩
def Jj(h:Hy.Wor.okW w)(hb:yL w=false):tK 60 w:=by
 obtain⟨b1,b2,b3,b4,b5,b6⟩:=lN hb;refine⟨ah,ah,ah,λv hv=>?_,h.zc.1⟩;have s:=h.zd.1 v hv;exact⟨Ca s.1 (oP (b6 v hv)).1,λg hg=>⟨(s.2.1 g hg).1,(s.2.1 g hg).2.1⟩⟩
def II(h:Hy.Wor.okW w)(hb:yL w=false):so w:=by
 obtain⟨b1,b2,b3,b4,b5,b6⟩:=lN hb;refine⟨ah,⟨ah,λv hv=>?_⟩,⟨ah,h.zc.1⟩,?_,ah⟩
 .have s:=h.zd.1 v hv;have q:=oP (b6 v hv);exact⟨Ca s.1 q.1,ah,λg hg=>⟨by have:=q.2.2 g hg;omega,(s.2.1 g hg).2.1⟩⟩
 .unfold wm at b4;simp only[dW,dz,dv]at b4;exact⟨ah,λr hr=>by have:=b4.2 r hr;simp at this;omega⟩
end Go.Wor
