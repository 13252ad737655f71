import Derived.Test.YtamgiodaflkbhaaGreatTO
import Derived.Test.YtamgiodaflkbhaaGreatTK
import Derived.Test.YtamgiodaflkbhaaGreatT9
set_option linter.all false
set_option maxRecDepth 100000
set_option maxHeartbeats 4000000
namespace Go.Hy
open Go.Ab Go.Proofs Tryz
end Go.Hy
namespace Go.Wor
open Go.Ab Go.Proofs Tryz Go.Hy Go.Gat Go.Nam Go.Hos Go.Con Go.Sna
def oQ(c:List (List Int)):Bool:=decide (50<c.length) || c.any λr=>decide (50<r.length)
def Pk(c:List (List Int))(h1:c.length<4000000000000000000):th 39 [] [ff c] (Bo (oQ c)) []:=by
 have m1:(c.map zA).length=c.length:=gO ..;refine ab func39 ?_;refine zH.seq (if c.length<=50 then c.length else 0) (λk=>((ff c)::.za::Bo false::I k::mK (mK ([.za,.za,.za,.za])))) (λk=>[]) (λk=>∀j,(h:j<c.length)->j<k->decide (50<c[j].length)=false) ?_ ah (λk hk hr=>?_) (λhr=>?_)
 .exact cC
 .have hk2:c.length<=50:=by split at hk <;> omega
  rw[gS hk2]at hk;obtain⟨x,hx⟩:∃x,x=c[k]:=⟨_,rfl⟩;have hg:(c.map zA)[k]?=some (zA x):=by rw[gM,gL hk,hx];rfl
  have mh:(x.map qB).length=x.length:=gO ..
  have bad:decide (50<x.length)=true->oQ c=true:=λh=>by
   have:(c.any λr=>decide (50<r.length))=true:=ri.2 ⟨x,bA,h⟩;simp[oQ,this]
  conv=>whnf
  rw[m1];refine⟨λa1=>?_,λa1=>?_⟩
  rotate_left
  .exact absurd a1 ar
  refine dd ?_;rw[m1];refine⟨λa2=>?_,λa2=>?_⟩
  rotate_left
  .exact absurd a2 ar
  refine zac ?_
  refine zb8 ?_
  rw[mh];refine⟨λa3=>?_,λa3=>?_⟩
  .rw[bad (by simp at a3|-;omega)];refine zbw ?_
   exact uI
  refine dd ?_;refine .inl ⟨rfl,?_,λj hj hjk=>?_⟩
  .exact dm
  .by_cases e:j=k
   .subst e;rw[<-hx];simp at a3|-;omega
   .exact dP
 .have fin:oQ c=decide ((c.length:Int) > 50):=by
   by_cases hl:c.length<=50
   .rw[gS hl]at hr
    have h0:(c.any λr=>decide (50<r.length))=false:=by
     rw[pI];intro x hx;obtain⟨i,hi,rfl⟩:=pz.1 hx;simpa using hr i hi hi
    unfold oQ;rw[h0,uq];exact decide_eq_decide.2 an
   .unfold oQ;rw[rH an,rH an];rfl
  rw[fin];conv=>whnf
  rw[m1];refine⟨λa1=>?_,λa1=>?_⟩
  .have hl:¬c.length<=50:=λhl=>by rw[gS hl]at a1;simp at a1
   refine dd ?_;rw[m1];refine⟨λa2=>absurd a2 ar,λ_=>dd ?_⟩;refine zbD ?_;rw[m1];refine⟨λa5=>?_,λa5=>?_⟩
   all_goals
    rw[a5];exact dg
  .refine dd ?_;refine zbD ?_;rw[m1];refine⟨λa5=>?_,λa5=>?_⟩
   all_goals
    rw[a5];exact dg
def oF(r:fU):Bool:=decide (100<r.host.length) || decide (100<r.path.length)
def Al(c:List fU):Bool:=decide (50<c.length) || c.any oF
def P8(c:List fU)(h1:c.length<4000000000000000000):th 81 [] [vM c] (Bo (Al c)) []:=by
 have m1:(c.map q9).length=c.length:=gO ..;refine ab func81 ?_;refine zH.seq (if c.length<=50 then c.length else 0) (λk=>((vM c)::.za::Bo false::I k::mK (mK (mK ([.za,.za,.za,.za,.za,.za]))))) (λk=>[]) (λk=>∀j,(h:j<c.length)->j<k->oF c[j]=false) ?_ ah (λk hk hr=>?_) (λhr=>?_)
 .exact cC
 .have hk2:c.length<=50:=by split at hk <;> omega
  rw[gS hk2]at hk;obtain⟨x,hx⟩:∃x,x=c[k]:=⟨_,rfl⟩;have hg:(c.map q9)[k]?=some (q9 x):=by rw[gM,gL hk,hx];rfl
  have bad:oF x=true->Al c=true:=λh=>by
   have:c.any oF=true:=ri.2 ⟨x,bA,h⟩;simp[Al,this]
  conv=>whnf
  rw[m1];refine⟨λa1=>?_,λa1=>?_⟩
  rotate_left
  .exact absurd a1 ar
  refine dd ?_;rw[m1];refine⟨λa2=>?_,λa2=>?_⟩
  rotate_left
  .exact absurd a2 ar
  refine zac ?_
  refine zb8 ?_
  refine⟨λb1=>?_,λb1=>?_⟩
  .rw[bad (by simp at b1;simp[oF];omega)];refine zac ?_
   refine zap ?_
   exact uI
  refine dd ?_;refine zb8 ?_
  refine⟨λb2=>?_,λb2=>?_⟩
  .rw[bad (by simp at b2;simp[oF];omega)];refine zbw ?_
   exact uI
  refine dd ?_;refine .inl ⟨rfl,?_,λj hj hjk=>?_⟩
  .exact dm
  .by_cases e:j=k
   .subst e;rw[<-hx];simp at b1 b2;simp[oF];omega
   .exact dP
 .have fin:Al c=decide ((c.length:Int) > 50):=by
   by_cases hl:c.length<=50
   .rw[gS hl]at hr
    have h0:c.any oF=false:=by
     rw[pI];intro x hx;obtain⟨i,hi,rfl⟩:=pz.1 hx;simpa using hr i hi hi
    unfold Al;rw[h0,uq];exact decide_eq_decide.2 an
   .unfold Al;rw[rH an,rH an];rfl
  rw[fin];conv=>whnf
  rw[m1];refine⟨λa1=>?_,λa1=>?_⟩
  .have hl:¬c.length<=50:=λhl=>by rw[gS hl]at a1;simp at a1
   refine dd ?_;rw[m1];refine⟨λa2=>absurd a2 ar,λ_=>dd ?_⟩;refine zbD ?_;rw[m1];refine⟨λa5=>?_,λa5=>?_⟩
   all_goals
    rw[a5];exact dg
  .refine dd ?_;refine zbD ?_;rw[m1];refine⟨λa5=>?_,λa5=>?_⟩
   all_goals
    rw[a5];exact dg
def oV(c:fq):Bool:=decide (20<c.zL.length) || decide (100<c.name.length)
def kC(s:Sna):Bool:=decide (20<s.zc.length) || decide (20<s.zi.length) || Al s.rules || s.zi.any oV
def Qa(s:Sna)(h1:s.zc.length<4000000000000000000)(h2:s.rules.length<4000000000000000000)(h3:s.zi.length<4000000000000000000):th 40 [] [.agg (qP s)] (Bo (kC s)) []:=by
 have m1:(s.zc.map qe).length=s.zc.length:=gO ..;have m3:(s.zi.map jl).length=s.zi.length:=gO ..;refine ab func40 ?_;rw[m1];(refine⟨λa1=>?_,λa1=>?_⟩);(focus ((have e:kC s=true:=(by (try simp at a1);simp[kC];first|omega|exact .inl (.inr a1)));(rw[e]);refine dd ?_;refine td ?_;exact uI));refine dd ?_
 rw[m3];(refine⟨λa2=>?_,λa2=>?_⟩);(focus ((have e:kC s=true:=(by (try simp at a2);simp[kC];first|omega|exact .inl (.inr a2)));(rw[e]);refine dd ?_;refine td ?_;exact uI));refine dd ?_
 refine af (P8 s.rules h2) ?_;(refine⟨λa3=>?_,λa3=>?_⟩);(focus ((have e:kC s=true:=(by (try simp at a3);simp[kC];first|omega|exact .inl (.inr a3)));(rw[e]);refine dd ?_;refine td ?_;exact uI));refine dd ?_
 refine td ?_
 refine zH.seq s.zi.length (λk=>(.agg (qP s)::.ref 0 [] 3 0 0::Bo false::I k::mK (jp ([])))) (λk=>[⟨1,86,3,[qP s],0⟩]) (λk=>∀j,(h:j<s.zi.length)->j<k->oV s.zi[j]=false) ?_ ah (λk hk hr=>?_) (λhr=>?_)
 .exact cC
 .obtain⟨x,hx⟩:∃x,x=s.zi[k]:=⟨_,rfl⟩;have hg:(s.zi.map jl)[k]?=some (jl x):=by rw[gM,gL hk,hx];rfl
  have mh:(x.zL.map yt).length=x.zL.length:=gO ..
  have bad:oV x=true->kC s=true:=λh=>by
   have:s.zi.any oV=true:=ri.2 ⟨x,bA,h⟩;simp[kC,this]
  conv=>whnf
  rw[m3];refine zay ?_
  rw[mh];refine⟨λb1=>?_,λb1=>?_⟩
  .rw[bad (by simp at b1;simp[oV];omega)];refine zac ?_
   refine zap ?_
   exact uI
  refine dd ?_;refine zb8 ?_
  refine⟨λb2=>?_,λb2=>?_⟩
  .rw[bad (by simp at b2;simp[oV];omega)];refine zbw ?_
   exact uI
  refine dd ?_;refine .inl ⟨rfl,?_,λj hj hjk=>?_⟩
  .exact dz
  .by_cases e:j=k
   .subst e;rw[<-hx];simp at b1 b2;simp[oV];omega
   .exact dP
 .have h0:s.zi.any oV=false:=by
   rw[pI];intro x hx;obtain⟨i,hi,rfl⟩:=pz.1 hx;simp[hr i hi hi]
  have e:kC s=false:=by unfold kC;simp at a1 a2;rw[a3,h0,rA an,rA an];rfl
  rw[e];conv=>whnf
  rw[m3];exact dF
structure Wk(w:Wor):Prop where
 pins:w.pins.length<4000000000000000000
 zd:w.zd.length<4000000000000000000
 zc:w.zc.length<4000000000000000000
 counts:w.counts.length<4000000000000000000
 zn:w.zn.length<4000000000000000000
 C2:∀v∈w.zd,v.snap.zc.length<4000000000000000000/\v.snap.rules.length<4000000000000000000/\v.snap.zi.length<4000000000000000000
 zg:∀v∈w.zd,v.zg.length<4000000000000000000/\∀g∈v.zg,g.ends.length<4000000000000000000
def Ax(g:Gr):Bool:=decide (20<g.ends.length)
def mU(v:eX):Bool:=kC v.snap || decide (20<v.zg.length) || v.zg.any Ax
def iC(w:Wor):Bool:=decide (20<w.pins.length) || decide (40<w.zd.length) || decide (40<w.zc.length) || oQ w.counts || decide (60<w.zn.length) || w.zd.any mU
def RC(w:Wor)(hw:Wk w):th 13 [] [Cw w] (Bo (iC w)) []:=by
 have m1:(w.pins.map Go.Hy.encI).length=w.pins.length:=gO ..;have m2:(w.zd.map zt).length=w.zd.length:=gO ..;have m3:(w.zc.map zU).length=w.zc.length:=gO ..;have m4:(w.counts.map zA).length=w.counts.length:=gO ..;have m5:(w.zn.map qh).length=w.zn.length:=gO ..;have b2:=hw.zd;refine ab func13 ?_;rw[m1];(refine⟨λa1=>?_,λa1=>?_⟩);(focus ((have e:iC w=true:=(by (try simp at a1);simp[iC];first|omega|(rw[a1];simp)));(rw[e]);refine dd ?_;refine td ?_;exact uI));refine dd ?_
 rw[m2];(refine⟨λa2=>?_,λa2=>?_⟩);(focus ((have e:iC w=true:=(by (try simp at a2);simp[iC];first|omega|(rw[a2];simp)));(rw[e]);refine dd ?_;refine td ?_;exact uI));refine dd ?_
 rw[m3];(refine⟨λa3=>?_,λa3=>?_⟩);(focus ((have e:iC w=true:=(by (try simp at a3);simp[iC];first|omega|(rw[a3];simp)));(rw[e]);refine dd ?_;refine td ?_;exact uI));refine dd ?_
 refine af (Pk w.counts hw.counts) ?_;(refine⟨λa4=>?_,λa4=>?_⟩);(focus ((have e:iC w=true:=(by (try simp at a4);simp[iC];first|omega|(rw[a4];simp)));(rw[e]);refine dd ?_;refine td ?_;exact uI));refine dd ?_
 rw[m5];(refine⟨λa5=>?_,λa5=>?_⟩);(focus ((have e:iC w=true:=(by (try simp at a5);simp[iC];first|omega|(rw[a5];simp)));(rw[e]);refine dd ?_;refine td ?_;exact uI));refine dd ?_
 have eW:iC w=w.zd.any mU:=by
  unfold iC;simp at a1 a2 a3 a5;rw[a4,rA an,rA an,rA an,rA an]
  rfl
 refine zH.seq w.zd.length (λk=>(Cw w:: .ref 0 [] 8 0 0::Bo false::I k:: .za::mK (jp (mK (mK (mK ([]))))))) (λk=>[oW w]) (λk=>∀j,(h:j<w.zd.length)->j<k->mU w.zd[j]=false) ?_ ah (λk hk hr=>?_) (λhr=>?_)
 .exact cC
 .obtain⟨v,hx⟩:∃v,v=w.zd[k]:=⟨_,rfl⟩;have hv:v∈w.zd:=by rw[hx];exact gz
  have hg:(w.zd.map zt)[k]?=some (zt v):=by rw[gM,gL hk,hx];rfl
  have mg:(v.zg.map zy).length=v.zg.length:=gO ..
  have bad:mU v=true->iC w=true:=λh=>by
   rw[eW];exact ri.2 ⟨v,hv,h⟩
  have bg:=(hw.zg v hv).1;conv=>whnf
  rw[m2];refine zay ?_
  refine af (Qa v.snap (hw.C2 v hv).1 (hw.C2 v hv).2.1 (hw.C2 v hv).2.2) ?_;refine⟨λc1=>?_,λc1=>?_⟩
  .rw[bad (by unfold mU;rw[c1];rfl)];refine zac ?_
   refine zap ?_
   exact uI
  refine dd ?_;rw[mg];refine⟨λc2=>?_,λc2=>?_⟩
  .rw[bad (by unfold mU;rw[c1,rH (by simp at c2;omega)];rfl)];refine zbw ?_
   exact uI
  refine dd ?_;refine zH.seq v.zg.length (λj=>(Cw w:: .ref 0 [] 8 0 0::Bo false::I k:: .ref 1 [] 5 0 0::I j:: .za::.za::.za::.za::.za::.za::.za::mK (jp (mK (mK ([])))))) (λj=>[oW w,⟨1,106,5,[zt v],0⟩]) (λj=>∀i,(h:i<v.zg.length)->i<j->Ax v.zg[i]=false) ?_ ah (λj hj hrj=>?_) (λhrj=>?_)
  .exact cC
  .obtain⟨g,hxg⟩:∃g,g=v.zg[j]:=⟨_,rfl⟩;have hgg:(v.zg.map zy)[j]?=some (zy g):=by rw[gM,gL hj,hxg];rfl
   have me:(g.ends.map zu).length=g.ends.length:=gO ..
   have badg:Ax g=true->iC w=true:=λh=>bad (by
    have:v.zg.any Ax=true:=ri.2 ⟨g,by rw[hxg];exact pH hj,h⟩;unfold mU;rw[this,uf])
   conv=>whnf
   rw[mg];refine uF ?_;refine za7 ?_
   rw[me];refine⟨λc3=>?_,λc3=>?_⟩
   .rw[badg (by simp at c3;simp[Ax];omega)];refine zbw ?_
    (try (refine .inr ⟨ah,uH ?_⟩))
    exact uI
   refine dd ?_;refine .inl ⟨rfl,?_,λi hi hij=>?_⟩
   .exact dH
   .by_cases e:i=j
    .subst e;rw[<-hxg];simp at c3;simp[Ax];omega
    .exact hrj i hi an
  .have h0:v.zg.any Ax=false:=by
    rw[pI];intro x hx;obtain⟨i,hi,rfl⟩:=pz.1 hx;simp[hrj i hi hi]
   have no:mU v=false:=by unfold mU;rw[c1,h0,rA (by simp at c2;omega)];rfl
   refine uD ?_;refine .inl ⟨rfl,?_,λi hi hij=>?_⟩
   .exact dz
   .by_cases e:i=k
    .subst e;rw[<-hx];exact no
    .exact hr i hi an
 .have h0:w.zd.any mU=false:=by
   rw[pI];intro x hx;obtain⟨i,hi,rfl⟩:=pz.1 hx;simp[hr i hi hi]
  rw[eW,h0];conv=>whnf
  rw[m2];exact dF
def Xp(l:List eU)(hl:l.length<4000000000000000000):th 133 [] [lT l,lT l] (Bo true) []:=by
 have hlm:(l.map qe).length=l.length:=gO ..;refine ab func133 ?_;refine uG ?_;refine zH.seq l.length (λk=>((lT l)::(lT l)::.za::.za::Bo false::I k::mK (mK ([.za,.za,.za,.za])))) (λk=>[]) (λk=>True) ?_ trivial (λk hk hr=>?_) (λhr=>?_)
 .exact cC
 .have hg:(l.map qe)[k]?=some (qe l[k]):=by rw[gM,gL hk];rfl
  conv=>whnf
  rw[hlm];refine zaZ ?_
  refine zb8 ?_
  (try (refine⟨ak,dd ?_⟩))
  refine uG ?_;exact dL
 .conv=>whnf
  rw[hlm];exact dF
def Xm(l:List Int)(hl:l.length<4000000000000000000):th 35 [] [lI l,lI l] (Bo true) []:=by
 have hlm:(l.map Go.Hy.encI).length=l.length:=gO ..;refine ab func35 ?_;refine uG ?_;refine zH.seq l.length (λk=>((lI l)::(lI l)::.za::.za::Bo false::I k::mK (mK ([.za,.za,.za,.za])))) (λk=>[]) (λk=>True) ?_ trivial (λk hk hr=>?_) (λhr=>?_)
 .exact cC
 .have hg:(l.map Go.Hy.encI)[k]?=some (Go.Hy.encI l[k]):=by rw[gM,gL hk];rfl
  conv=>whnf
  rw[hlm];refine zaZ ?_
  refine zb8 ?_
  (try (refine⟨ak,dd ?_⟩))
  refine uG ?_;exact dL
 .conv=>whnf
  rw[hlm];exact dF
def Xn(l:List fg)(hl:l.length<4000000000000000000):th 37 [] [lR l,lR l] (Bo true) []:=by
 have hlm:(l.map qh).length=l.length:=gO ..;refine ab func37 ?_;refine uG ?_;refine zH.seq l.length (λk=>((lR l)::(lR l)::.za::.za::Bo false::I k::mK (mK ([.za,.za,.za,.za])))) (λk=>[]) (λk=>True) ?_ trivial (λk hk hr=>?_) (λhr=>?_)
 .exact cC
 .have hg:(l.map qh)[k]?=some (qh l[k]):=by rw[gM,gL hk];rfl
  conv=>whnf
  rw[hlm];refine zaZ ?_
  refine zb8 ?_
  (try (refine⟨ak,dd ?_⟩))
  refine uG ?_;exact dL
 .conv=>whnf
  rw[hlm];exact dF
def WR(l:List (List Int))(hl:l.length<4000000000000000000)(hr:∀r∈l,r.length<4000000000000000000):th 36 [] [ff l,ff l] (Bo true) []:=by
 have hlm:(l.map zA).length=l.length:=gO ..;refine ab func36 ?_;refine uG ?_;refine zH.seq l.length (λk=>((ff l)::(ff l)::.za::.za::Bo false::I k::mK (jp ([.za,.za,.za,.za,.za,.za,.za])))) (λk=>[]) (λk=>True) ?_ trivial (λk hk _=>?_) (λ_=>?_)
 .exact cC
 .obtain⟨x,hx⟩:∃x,x=l[k]:=⟨_,rfl⟩;have hg:(l.map zA)[k]?=some (zA x):=by rw[gM,gL hk,hx];rfl
  have hx1:=hr x uY;have mx:(x.map qB).length=x.length:=gO ..;conv=>whnf
  rw[hlm];refine zaZ ?_;refine zb8 ?_;refine uG ?_
  refine zH.seq x.length (λj=>((ff l)::(ff l)::.za::.za::Bo false::I k::I j::mK (jp ([.za,.za,.za,.za,.za,.za])))) (λk=>[]) (λk=>True) ?_ trivial (λj hj _=>?_) (λ_=>?_)
  .exact cC
  .have hu:(x.map qB)[j]?=some (qB x[j]):=by rw[gM,gL hj];rfl
   conv=>whnf
   refine zb8 ?_
   rw[mx];refine zaZ ?_
   (refine te hu ?_)
   refine zb8 ?_
   (refine te hu ?_)
   refine uG ?_;exact dL
  .conv=>whnf
   refine zb8 ?_
   rw[mx];refine za2 ?_
   exact dL
 .conv=>whnf
  rw[hlm];refine za2 ?_
  exact uI
def X2(l:List fq)(hl:l.length<4000000000000000000)(hr:∀x∈l,x.zL.length<4000000000000000000):th 134 [] [lC l,lC l] (Bo true) []:=by
 have hlm:(l.map jl).length=l.length:=gO ..;refine ab func134 ?_;refine uG ?_;refine zH.seq l.length (λk=>(lC l::lC l:: .za::.za::Bo false::I k:: .za::.za::.za::mK (jp (jp (mK (mK ([]))))))) (λk=>[]) (λk=>True) ?_ trivial (λk hk _=>?_) (λ_=>?_)
 .exact cC
 .obtain⟨x,hx⟩:∃x,x=l[k]:=⟨_,rfl⟩;have hg:(l.map jl)[k]?=some (jl x):=by rw[gM,gL hk,hx];rfl
  have hx1:=hr x uY;have mx:(x.zL.map yt).length=x.zL.length:=gO ..;conv=>whnf
  rw[hlm];refine zaZ ?_;refine zb8 ?_;refine uG ?_
  refine zb8 ?_;refine zb8 ?_;refine uG ?_
  refine zb8 ?_;refine zb8 ?_;refine uG ?_
  refine zb8 ?_;refine zb8 ?_;refine uG ?_
  refine zH.seq x.zL.length (λj=>(lC l::lC l:: .za::.za::Bo false::I k::I j:: .za::.za::mK (jp (jp (mK (mK ([]))))))) (λk=>[]) (λk=>True) ?_ trivial (λj hj _=>?_) (λ_=>?_)
  .exact cC
  .obtain⟨b,hb⟩:∃b,b=x.zL[j]:=⟨_,rfl⟩;have hu:(x.zL.map yt)[j]?=some (yt b):=by rw[gM,gL hj,hb];rfl
   clear hb
   cases b
   all_goals
    conv=>whnf
    refine zb8 ?_
    rw[mx];refine zaZ ?_
    (refine te hu ?_)
    (repeat (first|(refine⟨λ_=>?_,?_⟩;rotate_left 1;(focus (intro h;simp at h;done));(refine dd ?_))|(refine⟨?_,λ_=>?_⟩;(focus (intro h;simp at h;done));(refine dd ?_))))
    refine zb8 ?_
    (refine te hu ?_)
    (repeat (first|(refine⟨λ_=>?_,?_⟩;rotate_left 1;(focus (intro h;simp at h;done));(refine dd ?_))|(refine⟨?_,λ_=>?_⟩;(focus (intro h;simp at h;done));(refine dd ?_))))
    exact dL
  .conv=>whnf
   refine zb8 ?_
   rw[mx];refine za2 ?_
   exact dL
 .conv=>whnf
  rw[hlm];refine za2 ?_
  exact uI
def Xo(s:Sna)(h1:s.zc.length<4000000000000000000)(h2:s.rules.length<4000000000000000000)(h3:s.zi.length<4000000000000000000)(h4:∀x∈s.zi,x.zL.length<4000000000000000000):th 79 [] [.agg (qP s),.agg (qP s)] (Bo true) []:=by
 have hlm:(s.rules.map q9).length=s.rules.length:=gO ..;refine ab func79 ?_;refine af (Xp s.zc h1) ?_;(repeat (first|(refine⟨λ_=>?_,?_⟩;rotate_left 1;(focus (intro h;simp at h;done));(refine dd ?_))|(refine⟨?_,λ_=>?_⟩;(focus (intro h;simp at h;done));(refine dd ?_))))
 refine af (X2 s.zi h3 h4) ?_;(repeat (first|(refine⟨λ_=>?_,?_⟩;rotate_left 1;(focus (intro h;simp at h;done));(refine dd ?_))|(refine⟨?_,λ_=>?_⟩;(focus (intro h;simp at h;done));(refine dd ?_))))
 refine zH.seq s.rules.length (λk=>(.agg (qP s)::.agg (qP s)::.ref 0 [] 3 0 0::.ref 1 [] 3 0 0::Bo false::I k::mK (jp ([.za])))) (λk=>[⟨1,86,3,[qP s],0⟩,⟨1,86,3,[qP s],0⟩]) (λk=>True) ?_ trivial (λk hk _=>?_) (λ_=>?_)
 .exact cC
 .have hg:(s.rules.map q9)[k]?=some (q9 s.rules[k]):=by rw[gM,gL hk];rfl
  conv=>whnf
  rw[hlm];refine zaZ ?_
  refine zb8 ?_
  refine⟨ak,dd ?_⟩;refine uG ?_;exact dU
 .conv=>whnf
  rw[hlm];refine za2 ?_
  exact uI
def X3{a:En}(ha:a.ok):th 80 [] [.agg (zu a),.agg (zu a)] (Bo true) []:=by
 have h:=Go.Slp.Qw a a ha ha;rw[show Go.Slp.Af a a=true from by simp[Go.Slp.Af]]at h;exact h
structure HJ(s:Sna):Prop where
 zc:s.zc.length<4000000000000000000
 rules:s.rules.length<4000000000000000000
 zi:s.zi.length<4000000000000000000
 zL:∀x∈s.zi,x.zL.length<4000000000000000000
def Xq(v:eX)(hs:HJ v.snap)(hl:v.zg.length<4000000000000000000)(hg:∀g∈v.zg,g.ends.length<4000000000000000000/\∀e∈g.ends,e.ok):th 38 [] [Cv v,Cv v] (Bo true) []:=by
 have hlm:(v.zg.map zy).length=v.zg.length:=gO ..;refine ab func38 ?_;refine af (Xo v.snap hs.zc hs.rules hs.zi hs.zL) ?_;(repeat (first|(refine⟨λ_=>?_,?_⟩;rotate_left 1;(focus (intro h;simp at h;done));(refine dd ?_))|(refine⟨?_,λ_=>?_⟩;(focus (intro h;simp at h;done));(refine dd ?_))))
 refine⟨λhf=>?_,λhf=>?_⟩
 all_goals
  refine dd ?_;(first|(refine⟨λ_=>dd ?_,λh=>absurd ((hf).symm.trans h:true=false) aj⟩)|(refine⟨λh=>absurd ((hf).symm.trans h:false=true) aj,λ_=>dd ?_⟩))
  (repeat (first|(refine⟨λ_=>?_,?_⟩;rotate_left 1;(focus (intro h;simp at h;done));(refine dd ?_))|(refine⟨?_,λ_=>?_⟩;(focus (intro h;simp at h;done));(refine dd ?_))))
  refine zH.seq v.zg.length (λk=>(Cv v::Cv v:: .ref 0 [] 5 0 0:: .ref 1 [] 5 0 0::Bo false::I k:: .za::.za::.za::mK (jp (jp (mK (mK ([]))))))) (λk=>[⟨1,106,5,[zt v],0⟩,⟨1,106,5,[zt v],0⟩]) (λk=>True) ?_ trivial (λk hk _=>?_) (λ_=>?_)
  .exact cC
  .obtain⟨g,hx⟩:∃g,g=v.zg[k]:=⟨_,rfl⟩;have hgm:g∈v.zg:=by rw[hx];exact gz
   have hgg:(v.zg.map zy)[k]?=some (zy g):=by rw[gM,gL hk,hx];rfl
   have hx1:=(hg g hgm).1;have mx:(g.ends.map zu).length=g.ends.length:=gO ..;conv=>whnf
   rw[hlm];refine uF ?_;refine uE ?_;refine za7 ?_;refine za7 ?_;refine uG ?_
   refine za7 ?_;refine za7 ?_;refine uG ?_
   refine zH.seq g.ends.length (λj=>(Cv v::Cv v:: .ref 0 [] 5 0 0:: .ref 1 [] 5 0 0::Bo false::I k::I j:: .za::.za::mK (jp (jp (mK (mK ([]))))))) (λk=>[⟨1,106,5,[zt v],0⟩,⟨1,106,5,[zt v],0⟩]) (λk=>True) ?_ trivial (λj hj _=>?_) (λ_=>?_)
   .exact cC
   .obtain⟨e,he⟩:∃e,e=g.ends[j]:=⟨_,rfl⟩;have hem:e∈g.ends:=by rw[he];exact pH hj
    have hu:(g.ends.map zu)[j]?=some (zu e):=by rw[gM,gL hj,he];rfl
    conv=>whnf
    refine za7 ?_
    rw[mx];refine uF ?_;refine zaL ?_;refine za7 ?_
    (refine te hu ?_)
    refine za7 ?_
    (refine te hu ?_)
    refine af (X3 ((hg g hgm).2 e hem)) ?_;(repeat (first|(refine⟨λ_=>?_,?_⟩;rotate_left 1;(focus (intro h;simp at h;done));(refine dd ?_))|(refine⟨?_,λ_=>?_⟩;(focus (intro h;simp at h;done));(refine dd ?_))))
    exact dU
   .conv=>whnf
    refine za7 ?_
    rw[mx];refine za2 ?_
    exact dU
  .conv=>whnf
   rw[hlm];refine za2 ?_
   exact uI
structure B3(w:Wor):Prop where
 wk:Wk w
 C2:∀v∈w.zd,HJ v.snap
 ends : ∀v∈w.zd, ∀g∈v.zg, ∀e∈g.ends, e.ok
 counts:∀r∈w.counts,r.length<4000000000000000000
def Xr(w:Wor)(hw:B3 w):th 12 [] [Cw w,Cw w] (Bo true) []:=by
 have m2:(w.zd.map zt).length=w.zd.length:=gO ..;have m3:(w.zc.map zU).length=w.zc.length:=gO ..;have b2:=hw.wk.zd;have b3:=hw.wk.zc;refine ab func12 ?_;(repeat (first|(refine⟨λ_=>?_,?_⟩;rotate_left 1;(focus (intro h;simp at h;done));(refine dd ?_))|(refine⟨?_,λ_=>?_⟩;(focus (intro h;simp at h;done));(refine dd ?_))))
 refine af (Xm w.pins hw.wk.pins) ?_;(repeat (first|(refine⟨λ_=>?_,?_⟩;rotate_left 1;(focus (intro h;simp at h;done));(refine dd ?_))|(refine⟨?_,λ_=>?_⟩;(focus (intro h;simp at h;done));(refine dd ?_))))
 refine af (WR w.counts hw.wk.counts hw.counts) ?_;(repeat (first|(refine⟨λ_=>?_,?_⟩;rotate_left 1;(focus (intro h;simp at h;done));(refine dd ?_))|(refine⟨?_,λ_=>?_⟩;(focus (intro h;simp at h;done));(refine dd ?_))))
 refine af (Xn w.zn hw.wk.zn) ?_;(repeat (first|(refine⟨λ_=>?_,?_⟩;rotate_left 1;(focus (intro h;simp at h;done));(refine dd ?_))|(refine⟨?_,λ_=>?_⟩;(focus (intro h;simp at h;done));(refine dd ?_))))
 refine zH.seq w.zd.length (λk=>(Cw w::Cw w:: .ref 0 [] 8 0 0:: .ref 1 [] 8 0 0::Bo false::I k:: .za::.za::.za::mK (jp (jp (mK (mK (mK ([])))))))) (λk=>[oW w,oW w]) (λk=>True) ?_ trivial (λk hk _=>?_) (λ_=>?_)
 .exact cC
 .obtain⟨v,hx⟩:∃v,v=w.zd[k]:=⟨_,rfl⟩;have hv:v∈w.zd:=by rw[hx];exact gz
  have hg:(w.zd.map zt)[k]?=some (zt v):=by rw[gM,gL hk,hx];rfl
  conv=>whnf
  rw[m2];refine uF ?_;refine zaL ?_;refine zb8 ?_
  refine zb8 ?_
  refine af (Xq v (hw.C2 v hv) (hw.wk.zg v hv).1 (λg hg=>⟨(hw.wk.zg v hv).2 g hg,hw.ends v hv g hg⟩)) ?_;(repeat (first|(refine⟨λ_=>?_,?_⟩;rotate_left 1;(focus (intro h;simp at h;done));(refine dd ?_))|(refine⟨?_,λ_=>?_⟩;(focus (intro h;simp at h;done));(refine dd ?_))))
  exact dU
 conv=>whnf
 rw[m2];refine za2 ?_
 refine zH.seq w.zc.length (λk=>(Cw w::Cw w:: .ref 0 [] 8 0 0:: .ref 1 [] 8 0 0::Bo false:: .za::I k:: .za::.za::mK (jp (jp (mK (mK (mK ([])))))))) (λk=>[oW w,oW w]) (λk=>True) ?_ trivial (λk hk _=>?_) (λ_=>?_)
 .exact cC
 .obtain⟨x,hx⟩:∃x,x=w.zc[k]:=⟨_,rfl⟩;have hg:(w.zc.map zU)[k]?=some (zU x):=by rw[gM,gL hk,hx];rfl
  conv=>whnf
  rw[m3];refine zaZ ?_
  refine zb8 ?_
  refine⟨ak,dd ?_⟩;refine uG ?_;exact dU
 .conv=>whnf
  rw[m3];refine za2 ?_
  exact uI
end Go.Wor
namespace Go.Run
open Go.Ab Go.Proofs Tryz Go.Gat Go.Nam Go.Hos Go.Con Go.Sna Go.Pla Go.Ply Go.Wor
open Go.Hy hiding encI
def FJ{s:ia}(h:ME s=false):iB s.first=false/\s.threads.length<=20/\s.qT.length<=5000/\∀l∈s.threads,l.length<=40/\∀o∈l,iB o.config=false/\o.host.length<=100/\o.path.length<=100:=by
 unfold ME at h;simp only[rk,pM,Nat.not_lt]at h;obtain⟨⟨⟨h1,h2⟩,h3⟩,h4⟩:=h;refine⟨h1,h2,h3,λl hl=>?_⟩;have q:=pI.1 h4 l hl;unfold MF at q;simp only[rI,pE,not_or,Nat.not_lt]at q;refine⟨q.1,λo ho=>?_⟩;have q2:Hv o=false:=pI.1 (ai q.2) o ho |> λz=>by simpa using z
 unfold Hv at q2;simp only[rk,pM,Nat.not_lt]at q2;exact q2
end Go.Run
