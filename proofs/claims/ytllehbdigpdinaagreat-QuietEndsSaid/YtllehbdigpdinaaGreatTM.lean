import Derived.Test.YtllehbdigpdinaaGreatTL
import Derived.Test.YtllehbdigpdinaaGreatTP
import Derived.Test.YtllehbdigpdinaaGreatTJ
import Derived.Test.YtllehbdigpdinaaGreatShf
set_option linter.all false
set_option maxRecDepth 100000
set_option maxHeartbeats 4000000
namespace Go.Cal
open Go.Ab Go.Proofs Tryz Go.Hy
def zyq(l:List fG):(iH l).1.length<=l.length:=by
 unfold iH;cases h:vZ l l.length with
 |none=>exact pa _
 |some b=>exact(Ic h).2
end Go.Cal
namespace Go.Saf
open Go.Ab Go.Proofs Tryz Go.Hy Go.Pla
variable{t:Int}{i:Nat}{c:List Cal}{es:List iZ}{X:zn}{o:Ob}
abbrev Ce(e:fG):C:=.agg (xv e)
def IW(b:Nat->Bool):Nat->Nat
 |0=>0
 |k+1=>IW b k+if b k then 1 else 0
def Jm(e:fG):Bool:=decide (e.access=2) && decide (e.cell=12)
def BR(l:List fG)(i:Nat):fG:=(l[i]?).getD ⟨0,0,0,0,0,false,0,false,false,false,⟨0,0,0,0,0,0,0,vd⟩⟩
def Uh(l:List fG):Nat:=IW (λi=>(BR l i).qX) l.length
def BH(l:List Int)(x:Int):List Int:=if x∈l then l else l++[x]
def MJ(l:List fG):Nat->List Int
 |0=>[]
 |k+1=>if Jm (BR l k) then BH (MJ l k) (BR l k).value else MJ l k
def TZ(l:List fG)(i:Nat):Bool:=Jm (BR l i) && decide ((BR l i).value∈MJ l i)
def Ui(l:List fG):Nat:=IW (TZ l) l.length
def oA:mS prog 3 qo:=.int underlying3
abbrev Hs:=List (Int×Int×Nat)
variable{h:Hs}{s:Hs×Nat}
def C6(h:Hs)(t:Int):Option Nat:=h.findIdx? λx=>decide (x.1=t)
def zz3(e:fG):Bool:=decide (e.access=1) && decide (e.cell=3)
def I7(h:Hs)(k:Nat)(t v:Int):Hs×Nat:=match C6 h t with
 |some i=>(h.set i (t,v,((h[i]?).getD (0,0,0)).2.2),k)
 |none=>(h++[(t,v,k)],k+1)
def MX(h:Hs)(t:Int):Hs:=match C6 h t with
 |some i=>h.eraseIdx i
 |none=>h
def IH(s:Hs×Nat)(e:fG):Hs×Nat:=if zz3 e then I7 s.1 s.2 e.zf e.value else s
def ID(s:Hs×Nat)(e:fG):Hs×Nat:=if e.done then (MX s.1 e.zf,s.2) else s
def NQ(l:List fG):Nat->Hs×Nat
 |0=>([],0)
 |k+1=>ID (IH (NQ l k) (BR l k)) (BR l k)
def UJ(h:Hs)(v:Int):Bool:=h.any λx=>decide (x.2.1=v)
def UI(l:List fG)(i:Nat):Bool:=Jm (BR l i) && UJ (NQ l i).1 (BR l i).value
def zzV(l:List fG):Nat:=IW (UI l) l.length
structure Ag(h:Hs)(k:Nat):Prop where
 lt:∀x∈h,x.2.2<k
 st:(h.map (·.2.2)).Nodup
 key:(h.map (·.1)).Nodup
def zuP(e:C6 h t=some i):∃x,h[i]?=some x/\x.1=t:=by
 obtain⟨h1,h2,_⟩:=gS.1 e;exact⟨h[i],gk h1,aq h2⟩
def zuO(e:C6 h t=none):∀x∈h,x.1≠t:=λx hx=>by
 unfold C6 at e;rw[gV]at e;simpa using e x hx
def GY{α β:Type}(f:α->β){l:List α}{x y:α}(hx:l[i]?=some x)(he:f y=f x):(l.set i y).map f=l.map f:=by
 apply pC
 intro j;rw[gy,gJ,gy];split
 .rename_i e;subst e;rw[gz (gh.1 hx).1,hx];simp[he]
 .rfl
def Ag.put{k:Nat}(o:Ag h k)(t v:Int):Ag (I7 h k t v).1 (I7 h k t v).2:=by
 unfold I7;cases e:C6 h t with
 |some i=>
  obtain⟨x,hx,hxt⟩:=zuP e;dsimp only;rw[hx];dsimp only[Option.getD_some];refine⟨λy hy=>?_,?_,?_⟩
  .rcases pE hy with h1|rfl
   .exact o.lt y h1
   .exact o.lt x (gu hx)
  .rw[GY (y:=(t,v,x.2.2)) (·.2.2) hx V];exact o.st
  .rw[GY (y:=(t,v,x.2.2)) (·.1) hx hxt.symm];exact o.key
 |none=>
  dsimp only;refine⟨λy hy=>?_,?_,?_⟩
  .rcases pw.1 hy with h1|h1
   .have:=o.lt y h1;omega
   .simp at h1;subst h1;simp
  .rw[pR,uy];refine⟨o.st,aj,?_⟩;intro a ha b hb;simp at hb;subst hb;obtain⟨x,hx,rfl⟩:=gY.1 ha;have:=o.lt x hx;omega
  .rw[pR,uy];refine⟨o.key,aj,?_⟩;intro a ha b hb;simp at hb;subst hb;obtain⟨x,hx,rfl⟩:=gY.1 ha;exact zuO e x hx
def Ag.del{k:Nat}(o:Ag h k)(t:Int):Ag (MX h t) k:=by
 unfold MX;cases e:C6 h t with
 |none=>exact o
 |some i=>
  dsimp only;have hs:=List.eraseIdx_sublist h i;exact⟨λx hx=>o.lt x (hs.subset hx),(hs.map _).nodup o.st,(hs.map _).nodup o.key⟩
def Ag.load(o:Ag s.1 s.2)(e:fG):Ag (IH s e).1 (IH s e).2:=by
 unfold IH;split
 .exact o.put _ _
 .exact o
def Ag.done(o:Ag s.1 s.2)(e:fG):Ag (ID s e).1 (ID s e).2:=by
 unfold ID;split
 .exact o.del _
 .exact o
abbrev Gs:=List (Int×List fN)
variable{g:Gs}
def Bm(g:Gs)(t:Int):Option Nat:=g.findIdx? λx=>decide (x.1=t)
def EZ(g:Gs)(t:Int)(a:fN):Gs:=match Bm g t with
 |some j=>g.set j (t,(((g[j]?).getD (0,[])).2)++[a])
 |none=>g++[(t,[a])]
def x4(x:Cal):Bool:=!decide (x.iv<0)
def jH(c:List Cal)(k:Nat):Cal:=(c[k]?).getD ⟨0,0,0,0,0,⟨0,0,0,0,0,0,0,vd⟩⟩
def gN(c:List Cal):Nat->Gs
 |0=>[]
 |k+1=>if x4 (jH c k) then EZ (gN c k) (jH c k).zf (jH c k).answer else gN c k
def kc(c:List Cal):Nat->Bool
 |0=>true
 |k+1=>kc c k && x4 (jH c k)
def j7(c:List Cal)(t:Int):List fN:=(c.filter λx=>decide (x.zf=t) && x4 x).map (·.answer)
def Bw(g:List fN)(i:Nat):fN:=(g[i]?).getD ⟨0,0,0,0,0,0,0,vd⟩
def DC(g:List fN):List fN:=(qG g).map (Bw g)
def D8{k:Nat}{x:Cal}(h:c[k]?=some x):jH c k=x:=by unfold jH;rw[h];rfl
def K0{j:Nat}(h:Bm g t=some j):∃x,g[j]?=some x/\x.1=t:=by
 obtain⟨h1,h2,_⟩:=gS.1 h;exact⟨g[j],gk h1,aq h2⟩
def QP(h:Bm g t=none):∀x∈g,x.1≠t:=λx hx=>by
 unfold Bm at h;rw[gV]at h;simpa using h x hx
structure TH(c:List Cal)(k:Nat)(g:Gs):Prop where
 key:(g.map (·.1)).Nodup
 val:∀x∈g,x.2=j7 (c.take k) x.1/\x.2≠[]
 all:∀t,j7 (c.take k) t≠[]->∃x∈g,x.1=t
def Yw(c:List Cal)(k:Nat)(hk:k<c.length)(t:Int):j7 (c.take (k+1)) t=j7 (c.take k) t++if (jH c k).zf=t/\x4 (jH c k)=true then [(jH c k).answer] else []:=by
 have hq:c[k]?=some c[k]:=gk hk;rw[D8 hq];unfold j7;rw[fc,hq,sW,pR]
 congr 1
 by_cases h1:c[k].zf=t <;> cases h2:x4 c[k] <;> simp[h1,h2]
def zx4(hk:(g.map (·.1)).Nodup){j:Nat}{x y:Int×List fN}(hi:g[i]?=some x)(hj:g[j]?=some y)(e:x.1=y.1):i=j:=by
 have hil:=(gh.1 hi).1;have hjl:=(gh.1 hj).1;have hst:=List.pairwise_iff_getElem.1 hk;rw[gk hil]at hi;rw[gk hjl]at hj;have hi':=gA hi;have hj':=gA hj;rcases rZ i j with fE|heq|fE
 .exact(hst i j (aq hil) (aq hjl) fE (by simp only[List.getElem_map];rw[hi',hj'];exact e)).elim
 .exact heq
 .exact(hst j i (aq hjl) (aq hil) fE (by simp only[List.getElem_map];rw[hi',hj'];exact e.symm)).elim
def Gg(c:List Cal):∀k,k<=c.length->TH c k (gN c k)
 |0,_=>⟨by simp[gN],by simp[gN],λt h=>by simp[j7]at h⟩
 |k+1,hk=>by
  have ih:=Gg c k aw;have hg:=Yw c k aw;unfold gN;cases he:x4 (jH c k) with
  |false=>
   have hg':∀t,j7 (c.take (k+1)) t=j7 (c.take k) t:=λt=>by rw[hg t,he];simp
   exact⟨ih.key,λx hx=>by rw[hg'];exact ih.val x hx,λt ht=>ih.all t (by rw[<-hg'];exact ht)⟩
  |true=>
   simp only[if_true];rw[he]at hg;simp only[and_true]at hg;unfold EZ;cases hat:Bm (gN c k) (jH c k).zf with
   |some j=>
    obtain⟨x,hx,hxt⟩:=K0 hat;dsimp only;rw[hx];dsimp only[Option.getD_some];have hxm:=gu hx;refine⟨by rw[GY (y:=((jH c k).zf,x.2++[(jH c k).answer])) (·.1) hx hxt.symm];exact ih.key,λy hy=>?_,λt ht=>?_⟩
    .obtain⟨i,hi⟩:=gI.1 hy;rw[gJ]at hi;split at hi
     .rename_i hij;subst hij;split at hi
      .cases hi
       dsimp only;rw[hg,gz V,<-hxt,(ih.val x hxm).1,hxt];exact⟨rfl,aj⟩
      .cases hi
     .rename_i hij;have hne:(jH c k).zf≠y.1:=λe=>hij (zx4 ih.key hx hi (hxt.trans e))
      rw[hg,gp hne,rA];exact ih.val y (gu hi)
    .by_cases e:(jH c k).zf=t
     .exact⟨_,gI.2 ⟨j,by rw[gJ,gz V,gz (gh.1 hx).1]⟩,e⟩
     .rw[hg,gp e,rA]at ht;obtain⟨y,hy,hyt⟩:=ih.all t ht;obtain⟨i,hi⟩:=gI.1 hy;refine⟨y,gI.2 ⟨i,?_⟩,hyt⟩;rw[gJ,gp]
      .exact hi
      .rintro rfl;rw[hx]at hi;cases hi
       exact e (hxt.symm.trans hyt)
   |none=>
    have hno:=QP hat;dsimp only;refine⟨?_,λy hy=>?_,λt ht=>?_⟩
    .rw[pR,uy];refine⟨ih.key,aj,?_⟩;intro a ha b hb;simp at hb;subst hb;obtain⟨x,hx,rfl⟩:=gY.1 ha;exact hno x hx
    .rcases pw.1 hy with hy|hy
     .rw[hg,gp (λe=>hno y hy e.symm),rA];exact ih.val y hy
     .simp at hy;subst hy;dsimp only
      have:j7 (c.take k) (jH c k).zf=[]:=by
       cases hgv:j7 (c.take k) (jH c k).zf with
       |nil=>rfl
       |cons a rest=>
        obtain⟨x,hx,hxt⟩:=ih.all (jH c k).zf (by rw[hgv];simp);exact absurd hxt (hno x hx)
      rw[hg,gz V,this];exact⟨rfl,aj⟩
    .by_cases e:(jH c k).zf=t
     .exact⟨((jH c k).zf,[(jH c k).answer]),aj,e⟩
     .rw[hg,gp e,rA]at ht;obtain⟨y,hy,hyt⟩:=ih.all t ht;exact⟨y,by simp[hy],hyt⟩
def G0{β:Type}(f:Int->List β):∀(A B:List Int),A.Pairwise (· < ·)->B.Pairwise (· < ·)->(∀x∈A,x∈B)->(∀x∈B,x∉A->f x=[])->A.flatMap f=B.flatMap f
 |[],B,_,_,_,h=>by
  rw[List.flatMap_nil]
  symm
  rw[List.flatMap_eq_nil_iff]
  exactλx hx=>h x hx aj
 |a::A,[],_,_,hs,_=>by have:=hs a aj;simp at this
 |a::A,b::B,hA,hB,hs,hz=>by
  have hA':=sX.1 hA;have hB':=sX.1 hB;by_cases e:a=b
  .subst e;rw[sd,sd]
   congr 1
   refine G0 f A B hA'.2 hB'.2 (λx hx=>?_) (λx hx hn=>hz x cp ?_)
   .rcases rJ.1 (hs x cp) with h|h
    .have:=hA'.1 x hx;omega
    .exact h
   .intro hm;rcases rJ.1 hm with h|h
    .have:=hB'.1 x hx;omega
    .exact hn h
  .have haB:a∈B:=by
    rcases rJ.1 (hs a aj) with h|h
    .exact absurd h e
    .exact h
   have hb:b∉a::A:=by
    intro hm;have h1:=hB'.1 a haB;rcases rJ.1 hm with h|h
    .omega
    .have:=hA'.1 b h;omega
   rw[show(b::B).flatMap f=f b++B.flatMap f from sd,hz b aj hb,fA];refine G0 f (a::A) B hA hB'.2 (λx hx=>?_) (λx hx hn=>hz x cp hn);rcases rJ.1 (hs x hx) with h|h
   .exact absurd (h ▸ hx) hb
   .exact h
termination_by A B=>A.length+B.length
def oB(c:List Cal)(more:Int)(first:Bool):Nat->Option Int
 |0=>none
 |k+1=>let t:=(jH c k).zf
  if (first || decide (more<t)) && (match oB c more first k with|none=>true|some b=>decide (t<b)) then some t else oB c more first k
def HL(c:List Cal)(more:Int)(first:Bool):∀k,match oB c more first k with
  |none=>∀j,j<k->¬(first=true\/more<(jH c j).zf)
  |some b=>(first=true\/more<b)/\(∃j,j<k/\(jH c j).zf=b)/\∀j,j<k->(first=true\/more<(jH c j).zf)->b<=(jH c j).zf
 |0=>by simp[oB]
 |k+1=>by
  have ih:=HL c more first k;unfold oB;dsimp only;by_cases hf:(first=true\/more<(jH c k).zf)
  .have hf':(first || decide (more<(jH c k).zf))=true:=by simpa using hf
   rw[hf',u5];cases hb:oB c more first k with
   |none=>
    rw[hb]at ih;dsimp only at ih|-;rw[gz V];dsimp only;refine⟨hf,⟨k,aw,rfl⟩,λj hj hjf=>?_⟩;by_cases e:j=k
    .rw[e];exact gO _
    .exact absurd hjf (ih j aw)
   |some b=>
    rw[hb]at ih;dsimp only at ih|-;obtain⟨h1,⟨j0,h2,h3⟩,h4⟩:=ih;by_cases fE:(jH c k).zf<b
    .rw[gz tR];dsimp only;refine⟨hf,⟨k,aw,rfl⟩,λj hj hjf=>?_⟩;by_cases e:j=k
     .rw[e];exact gO _
     .have:=h4 j aw hjf;omega
    .rw[gp tR];dsimp only;refine⟨h1,⟨j0,aw,h3⟩,λj hj hjf=>?_⟩;by_cases e:j=k
     .rw[e];omega
     .exact h4 j aw hjf
  .have hf':(first || decide (more<(jH c k).zf))=false:=by
    rw[Bool.eq_false_iff];simpa using hf
   rw[hf',fB];simp only[sB,if_false];cases hb:oB c more first k with
   |none=>
    rw[hb]at ih;dsimp only at ih|-;intro j hj;by_cases e:j=k
    .rw[e];exact hf
    .exact ih j aw
   |some b=>
    rw[hb]at ih;dsimp only at ih|-;obtain⟨h1,⟨j0,h2,h3⟩,h4⟩:=ih;refine⟨h1,⟨j0,aw,h3⟩,λj hj hjf=>?_⟩;by_cases e:j=k
    .rw[e]at hjf;exact absurd hjf hf
    .exact h4 j aw hjf
def Gk(c:List Cal)(t:Int):Nat:=((List.range c.length).filter λj=>decide (t<(jH c j).zf)).length
def Rb{t':Int}(h:oB c t false c.length=some t'):Gk c t'<Gk c t:=by
 have hs:=HL c t false c.length;rw[h]at hs;dsimp only at hs;obtain⟨h1,⟨j,h2,h3⟩,_⟩:=hs;have h1:t<t':=aq h1
 have e:((List.range c.length).filter λj=>decide (t'<(jH c j).zf))=((List.range c.length).filter λj=>decide (t<(jH c j).zf)).filter λj=>decide (t'<(jH c j).zf):=by
  rw[List.filter_filter];refine List.filter_congr λi _=>?_
  rw[ui];simp only[gH,gR];constructor
  .intro h;exact⟨h,aw⟩
  .exactλh=>h.1
 unfold Gk;rw[e];refine List.length_filter_lt_length_iff_exists.2 ⟨j,?_,aA⟩;rw[fy];exact⟨rG.2 h2,aA⟩
def vW(c:List Cal)(t:Int):List Int:=match h:oB c t false c.length with
 |none=>[]
 |some t'=>t'::vW c t'
termination_by Gk c t
decreasing_by exact Rb h
def Ja(c:List Cal):List Int:=match oB c 0 true c.length with
 |none=>[]
 |some t=>t::vW c t
def zuq(h:oB c t false c.length=none):vW c t=[]:=by
 rw[vW];split
 .rfl
 .rename_i h';rw[h]at h';cases h'
def zur{t':Int}(h:oB c t false c.length=some t'):vW c t=t'::vW c t':=by
 rw[vW];split
 .rename_i h';rw[h]at h';cases h'
 .rename_i h';rw[h]at h';cases h';rfl
def zus(c:List Cal)(t:Int):(vW c t).Pairwise (· < ·)/\∀x,x∈vW c t↔t<x/\∃j,j<c.length/\(jH c j).zf=x:=by
 generalize hn:Gk c t=n
 induction n using Nat.strongRecOn generalizing t with
 |_ n ih=>
  have hs:=HL c t false c.length;cases h:oB c t false c.length with
  |none=>
   rw[h]at hs;rw[zuq h];refine⟨.nil,λx=>⟨λhx=>by simp at hx,?_⟩⟩;rintro⟨h1,j,h2,h3⟩;exact absurd (.inr (by rw[h3];exact h1)) (hs j h2)
  |some t'=>
   rw[h]at hs;dsimp only at hs;obtain⟨h1,⟨j0,h2,h3⟩,h4⟩:=hs;have h1:t<t':=aq h1
   obtain⟨i1,i2⟩:=ih _ (by rw[<-hn];exact Rb h) t' V;rw[zur h];refine⟨sX.2 ⟨λx hx=>((i2 x).1 hx).1,i1⟩,λx=>?_⟩;rw[rJ,i2 x];constructor
   .rintro(rfl|⟨h5,h6⟩)
    .exact⟨h1,j0,h2,h3⟩
    .exact⟨aw,h6⟩
   .rintro⟨h5,j,h6,h7⟩;have:=h4 j h6 (.inr (by rw[h7];exact h5));rw[h7]at this;by_cases e:x=t'
    .exact .inl e
    .exact .inr ⟨aw,j,h6,h7⟩
def FT(c:List Cal):(Ja c).Pairwise (· < ·)/\∀x,x∈Ja c↔∃j,j<c.length/\(jH c j).zf=x:=by
 have hs:=HL c 0 true c.length;unfold Ja;cases h:oB c 0 true c.length with
 |none=>
  rw[h]at hs;refine⟨.nil,λx=>⟨λhx=>by simp at hx,?_⟩⟩;rintro⟨j,h2,h3⟩;exact absurd (.inl V) (hs j h2)
 |some t'=>
  rw[h]at hs;dsimp only at hs;obtain⟨_,⟨j0,h2,h3⟩,h4⟩:=hs;obtain⟨i1,i2⟩:=zus c t';dsimp only;refine⟨sX.2 ⟨λx hx=>((i2 x).1 hx).1,i1⟩,λx=>?_⟩;rw[rJ,i2 x];constructor
  .rintro(rfl|⟨_,h6⟩)
   .exact⟨j0,h2,h3⟩
   .exact h6
  .rintro⟨j,h6,h7⟩;have:=h4 j h6 (.inl V);rw[h7]at this;by_cases e:x=t'
   .exact .inl e
   .exact .inr ⟨aw,j,h6,h7⟩
def jY(c:List Cal):List Int:=((gN c c.length).map (·.1)).mergeSort λx y=>decide (x<=y)
def y8(c:List Cal):List fN:=(jY c).flatMap λt=>DC (j7 c t)
def Vl(c:List Cal):List fN:=(Ja c).flatMap λt=>DC (j7 c t)
def Xu(c:List Cal):(jY c).Pairwise (· < ·):=by
 have hk:=(Gg c c.length (gG _)).key;have h1:(jY c).Pairwise λx y=>(decide (x<=y))=true:=List.pairwise_mergeSort (by intro a b d;simp;omega) (by intro a b;simp;omega) _
 have h2:(jY c).Nodup:=(List.mergeSort_perm _ _).nodup_iff.2 hk
 exact(h1.and h2).imp λ{a b} ⟨h3,h4⟩=>by
   have:a<=b:=aq h3
   omega
def KM(c:List Cal)(t:Int):t∈jY c↔j7 c t≠[]:=by
 have ok:=Gg c c.length (gG _);unfold jY;rw[(List.mergeSort_perm _ _).mem_iff,gY];constructor
 .rintro⟨x,hx,rfl⟩;have:=ok.val x hx;rw[pI]at this;rw[<-this.1];exact this.2
 .intro h;obtain⟨x,hx,h2⟩:=ok.all t (by rw[pI];exact h);exact⟨x,hx,h2⟩
def zyu(c:List Cal):y8 c=Vl c:=by
 refine G0 _ _ _ (Xu c) (FT c).1 (λt ht=>?_) (λt _ hn=>?_)
 .rw[KM]at ht;rw[(FT c).2];unfold j7 at ht;have:(c.filter λx=>decide (x.zf=t) && x4 x)≠[]:=λe=>ht (by rw[e];rfl)
  obtain⟨x,hx⟩:=List.exists_mem_of_ne_nil _ this;rw[fy]at hx;obtain⟨j,hj⟩:=gI.1 hx.1;refine⟨j,(gh.1 hj).1,?_⟩;rw[D8 hj];have:=hx.2;simp only[gH,gR]at this;exact this.1
 .rw[KM]at hn;have:j7 c t=[]:=by simpa using hn
  rw[this]
  rfl
def MK(l:List Int):List Int:=l.mergeSort λx y=>decide (x<=y)
def zwW(l:List Int):(MK l).length=l.length:=eC l
def Y1(l:List Int)(hl:l.length<4611686018427387904):tj 32 [⟨2,3,1,l.map ly,0⟩] [.sl 0 [] 1 0 l.length false] (.fJ []) [⟨2,3,1,(MK l).map ly,0⟩]:=
 zb.ofRow (xs:=[]) (zs:=l) (zs':=MK l) (zwW l) aj λb cap w hH hb hcap=>by
  refine(Tryz.slices_Sort_int b 0 cap l w hH hb hl).mono ?_;rintro e w' ⟨rfl,n,os,rfl⟩;exact⟨_,rfl,λE _ _ _ _=>.fJ _ _ V aj,n,os,rfl⟩
def OJ:tj 32 [] [.fF 1 0 []] (.fJ []) []:=λw E vs hh hl=>by
 obtain⟨v,hv,hl0⟩:=hl.get (i:=0) V
 obtain⟨a,rfl⟩:∃a,v=.slice a 0 0:=by
  generalize hc:C.fF 1 0 []=c at hl0;cases hl0 with
  |fF o sz rows b off cap us ho hcp hsz hst hL=>
   cases hc
   rcases ho with h|⟨_,h⟩
   .cases h
   .rw[h];exact⟨_,rfl⟩
  |xE o sz ho a=>cases hc;exact⟨a,rfl⟩
  |_=>cases hc
 have hvs:vs= #[.slice a 0 0]:=by
  apply Array.ext'
  have h1:vs.toList.length=1:=by rw[<-hl.1];rfl
  match hvl:vs.toList,h1 with
  |[x],_=>rw[hvl]at hv;simp at hv;rw[hv]
 rw[hvs];refine(Tryz.slices_Sort_int_none a 0 w).mono ?_;rintro e w' ⟨rfl,rfl⟩;exact⟨_,E,rfl,hh,.fJ _ _ V aj,.refl _ _ _⟩
abbrev kN(l:List fN):List (List C):=l.map xx
def xq(g:Gs):List C:=g.mapIdx λj x=>.gl (2*j+2) 13 (kN x.2)
def mF(g:Gs):C:=if g=[] then .fF 1 0 [] else .sl (2*g.length-1) [] 1 0 g.length false
structure Af(g:Gs)(es:List iZ):Prop where
 len:es.length=g.length
 at_:∀(j:Nat) x,g[j]?=some x->∃v,es[j]?=some (x.1,v,j)
structure Ch(g:Gs)(X:zn):Prop where
 len:X.length=2*g.length
 row:∀(j:Nat) x,g[j]?=some x->X[2*j+1]?=some ⟨4,66,13,kN x.2,0⟩
 arr:g≠[]->X[2*g.length-2]?=some ⟨2,3,1,(g.map (·.1)).map ly,0⟩
 flat:qw X=true
 low:∀n,zW n X=true
def Af.find(h:Af g es)(t:Int):y6 es t=Bm g t:=by
 unfold y6 Bm
 have e:es.map (·.1)=g.map (·.1):=by
  apply pC
  intro j;rw[gy,gy];cases hx:g[j]? with
  |none=>
   have:es[j]?=none:=by rw[pW]at hx|-;rw[h.len];exact hx
   rw[this];rfl
  |some x=>obtain⟨v,hv⟩:=h.at_ j x hx;rw[hv];rfl
 have k:∀{α:Type} (l:List (Int×α)),l.findIdx? (λx=>decide (x.1=t))=(l.map (·.1)).findIdx? λy=>decide (y=t):=λl=>by rw[sG];rfl
 rw[k,k,e]
def XE(x:Cal):∀c∈jR x,xm c=true/\zB c=true:=by
 intro c hc;simp[jR,xx,CZ]at hc;rcases hc with h|h|h|h|h|h|h|h|h|h|h|h|h|h|h|h|h|h <;> (subst h;exact⟨rfl,rfl⟩)
def zzd(g:Gs):xH (2*g.length+1) 9 (mF g)=mF g:=by
 unfold mF;split
 .rfl
 .show(if Nat.blt (2*g.length-1) (2*g.length+1) then _ else _)=_;rw[gz];rw[fC];omega
def zuc{n:Nat}{x:Ob}{H:zn}(h1:zW n [x]=true)(h2:zW n H=true):zW n (x::H)=true:=by
 unfold zW at *;exact dz
def zyi(g:Gs)(b:Nat)(es:List iZ):zW (2*g.length+1) [iU b es g.length (xq g)]=true:=by
 unfold zW;simp only[r7,tX,sF]
 have:((xq g).all (je (2*g.length+1) 9))=true:=by
  refine gE.2 λc hc=>?_
  unfold xq at hc;rw[uh]at hc;obtain⟨j,hj,rfl⟩:=hc;simp[je];omega
 rw[this]
 rfl
abbrev Bl(a:List fN):Ob:=⟨4,66,13,kN a,0⟩
abbrev l8(l:List Int):Ob:=⟨2,3,1,l.map ly,0⟩
def zsJ(g:Gs)(j:Nat)(t:Int)(a:List fN)(hj:j<g.length):xq (g.set j (t,a))=(xq g).set j (.gl (2*j+2) 13 (kN a)):=by
 apply pC
 intro i;unfold xq;rw[pF,gJ,gJ,pF];split
 .rename_i e;subst e;simp[hj]
 .rfl
def Af.set{g:Gs}{es:List iZ}(h:Af g es){j:Nat}(hj:j<g.length)(t:Int)(a:List fN)(v:Value):Af (g.set j (t,a)) (es.set j (t,v,j)):=by
 refine⟨by rw[pV,pV,h.len],λi y hy=>?_⟩;rw[gJ]at hy|-;split at hy
 .rename_i e;subst e
  try rw[gz hj]at hy
  cases hy
  exact⟨v,by rw[gz V,gz (by rw[h.len];exact hj)]⟩
 .rename_i e;obtain⟨w,hw⟩:=h.at_ i y hy;exact⟨w,by rw[gp e];exact hw⟩
def Ec(h:qw X=true)(i:Nat)(ho:qw [o]=true):qw (X.set i o)=true:=by
 unfold qw at *;rw[gE] at *;intro x hx;rcases pE hx with h1|rfl
 .exact h x h1
 .exact ho x aj
def R9{n:Nat}(h:zW n X=true)(i:Nat)(ho:zW n [o]=true):zW n (X.set i o)=true:=by
 unfold zW at *;rw[gE] at *;intro x hx;rcases pE hx with h1|rfl
 .exact h x h1
 .exact ho x aj
def Ch.set{g:Gs}{X:zn}(h:Ch g X){j:Nat}{y:Int×List fN}(hy:g[j]?=some y)(a:List fN):Ch (g.set j (y.1,a)) (X.set (2*j+1) (Bl a)):=by
 have hj:=(gh.1 hy).1;have hne:g≠[]:=by rintro rfl;simp at hj
 refine⟨by rw[pV,pV,h.len],λi x hx=>?_,λ_=>?_,Ec h.flat _ V,λn=>R9 (h.low n) _ V⟩
 .rw[gJ]at hx|-;split at hx
  .rename_i e;subst e
   try rw[gz hj]at hx
   cases hx
   rw[gz V,gz (by rw[h.len];omega)]
  .rename_i e;rw[gp aw];exact h.row i x hx
 .rw[pV,gJ,gp aw,GY (y:=(y.1,a)) (·.1) hy V];exact h.arr hne
def zze(g:Gs)(j:Nat)(x:Int×List fN):mF (g.set j x)=mF g:=by
 unfold mF;rw[pV];simp only[List.set_eq_nil_iff]
def Pw(g:Gs)(t:Int)(a:List fN):xq (g++[(t,a)])=xq g++[.gl (2*g.length+2) 13 (kN a)]:=by
 unfold xq;rw[List.mapIdx_append];simp
def Af.push(h:Af g es)(t:Int)(a:List fN)(v:Value):Af (g++[(t,a)]) (es++[(t,v,g.length)]):=by
 refine⟨by simp[h.len],λi y hy=>?_⟩;rw[eJ]at hy|-;rw[h.len];split at hy
 .rename_i e;rw[gz e];exact h.at_ i y hy
 .rename_i e;rw[gp e];cases hi:i-g.length with
  |zero=>
   rw[hi]at hy;cases hy
   exact⟨v,by rw[show i=g.length from aw];rfl⟩
  |succ m=>rw[hi]at hy;cases hy
def Rl{Y:zn}(h:qw X=true)(h2:qw Y=true):qw (X++Y)=true:=by
 unfold qw at *;rw[uj,h,h2];rfl
def zyd{Y:zn}{n:Nat}(h:zW n X=true)(h2:zW n Y=true):zW n (X++Y)=true:=by
 unfold zW at *;rw[uj,h,h2];rfl
def Ch.push{Y:zn}(h:Ch g X)(hY:Y.length=X.length)(hrow:∀i,i≠2*g.length-2->Y[i]?=X[i]?)(iu:qw Y=true)(hlo:∀n,zW n Y=true)(t:Int)(a:List fN):
  Ch (g++[(t,a)]) (Y++[l8 ((g++[(t,a)]).map (·.1)),Bl a]):=by
 have hl:=h.len;have hfa:qw [l8 ((g++[(t,a)]).map (·.1)),Bl a]=true:=rfl;refine⟨by simp[hY,h.len];omega,λi x hx=>?_,λ_=>?_,Rl iu hfa,λn=>zyd (hlo n) V⟩
 .rw[eJ]at hx;split at hx
  .rename_i e;rw[gF aw,hrow _ aw];exact h.row i x hx
  .rename_i e
   have hi:i=g.length:=by
    cases hi:i-g.length with
    |zero=>omega
    |succ m=>rw[hi]at hx;cases hx
   subst hi;rw[rR]at hx;cases hx
   rw[gP aw,show 2*g.length+1-Y.length=1 from aw]
   rfl
 .rw[pz,rP,gP aw,show 2*(g.length+1)-2-Y.length=0 from aw]
  rfl
def KW(c:List Cal)(t:Int):(j7 c t).length<=c.length:=by
 unfold j7;rw[gC];exact List.length_filter_le _ _
def zwO(n:Nat)(l:List Int):zW n [⟨0,3,1,l.map ly,0⟩]=true:=by
 unfold zW;simp only[r7,tX,sF];have:((l.map ly).all λr=>r.all (je n 9))=true:=gE.2 λr hr=>by obtain⟨z,_,rfl⟩:=gY.1 hr;rfl
 rw[this]
 rfl
def zyE(l:List Int):(l.map ly).all (·.all zB)=true:=gE.2 λr hr=>by obtain⟨z,_,rfl⟩:=gY.1 hr;rfl
def Iq(c:List Cal):∀k,(gN c k).length<=k
 |0=>gG _
 |k+1=>by
  have ih:=Iq c k;unfold gN;split
  .unfold EZ;split
   .rw[pV];omega
   .simp;omega
  .omega
def ztP(l:List fG)(c:List Cal)(b:Nat)(hc:c.length<1000000000000)(R:Exit->S->Prop)
 (hR:∀es X,Af (gN c c.length) es->Ch (gN c c.length) X->jb prog 0 (behind 7 ((f13.body).getD .skip)) ⟨(mC l:: .za::.fF 1 0 []::Bo false::Bb c:: .za::.v (.map (some b))::mF (gN c c.length)::Bo (kc c c.length):: .za::.za::.za::.za::.za::tY (jp (jp ([])))),iU b es (gN c c.length).length (xq (gN c c.length))::X⟩ R):
  jb prog 0 (behind 4 ((f13.body).getD .skip)) ⟨(mC l:: .za::.fF 1 0 []::Bo false::Bb c:: .za::.v (.map (some b)):: .za::.za::.za::.za::.za::.za::.za::tY (jp (jp ([])))),[iU b [] 0 []]⟩ R:=by
 have m1:(c.map jR).length=c.length:=gC ..;refine wC (uH ?_);refine zaC ?_;refine zaC ?_;rw[m1];refine qg.UL (λn t1 H1=>∃k es X,k+n=c.length/\Af (gN c k) es/\Ch (gN c k) X/\t1=(mC l:: .za::.fF 1 0 []::Bo false::Bb c:: .za::.v (.map (some b))::mF (gN c k)::Bo (kc c k):: .za::.za::.za::.za::.za::.za::.za::tY (Bb c::I c.length::I k:: .za::.za::.za::tY (jp (tY (tY ([]))))))/\H1=iU b es (gN c k).length (xq (gN c k))::X) c.length ?_ ?_
 .refine⟨_,_,zp.mask [0,2,3,4,6,7,8,24,25,26] _ _,0,[],[],aj,⟨rfl,by simp[gN]⟩,⟨rfl,by simp[gN],by simp[gN],rfl,λ_=>V⟩,rfl,rfl⟩
 rintro n _ _ ⟨k,es,X,hk,hE,hX,rfl,rfl⟩;refine .seq (.n8 ?_);conv=>whnf
 refine⟨λh=>?_,λh=>?_⟩
 rotate_left
 .refine dd ?_;refine .seq (.n8 ?_);conv=>whnf
  refine zaJ ?_
  have ek:k=c.length:=by
    have:¬k<c.length:=aq h
    omega
  subst ek;exact .inl ⟨rfl,_,_,zp.mask [0,2,3,4,6,7,8] _ _,hR es X hE hX⟩
 have fE:k<c.length:=aq h
 have hq:c[k]?=some c[k]:=gk fE;have hat:=D8 hq;generalize c[k]=x at hq hat;have gq:(c.map jR)[k]?=some (jR x):=by rw[gy,hq];rfl
 refine dd ?_;refine .seq (.n8 ?_);conv=>whnf
 refine .seq (.block (.seq (.P0 [_,_] [_,_] V ?_)));conv=>whnf
 refine⟨aw,_,gq,dd ?_⟩;have hl2:(iU b es (gN c k).length (xq (gN c k))::X).length=2*(gN c k).length+1:=by rw[ry,hX.len]
 refine .LJ (row:=jR x) (zero:=jR ⟨0,0,0,0,0,⟨0,0,0,0,0,0,0,vd⟩⟩) V V V V V V au V V V V (by intro h;cases h) rfl (XE x) (rW rfl) (pa _) (by rw[hl2];exact zuc (zyi _ _ _) (hX.low _)) (by rw[hl2];simp only[put,uo,sA,pP,tT,zzd];rfl) ?_;refine .seq (.n8 ?_);conv=>whnf
 refine⟨λh1=>?_,λh1=>?_⟩
 .have he:x4 (jH c k)=false:=by rw[hat];unfold x4;rw[show decide (x.iv<0)=true from h1];rfl
  have eg:gN c (k+1)=gN c k:=by show(if x4 (jH c k) then _ else _)=_;rw[he];rfl
  have ea:kc c (k+1)=false:=by show(kc c k && x4 (jH c k))=false;rw[he,sJ]
  refine dd ?_;refine .n8 (uH ?_);rw[zw aw];refine .inl ⟨rfl,n-1,_,_,aw,zp.mask [0,2,3,4,6,7,8,24,25,26] _ _,k+1,es,X,aw,by rw[eg];exact hE,by rw[eg];exact hX,?_,?_⟩
  .rw[eg,ea];rfl
  .rw[eg]
 have he:x4 (jH c k)=true:=by rw[hat];unfold x4;rw[show decide (x.iv<0)=false from h1];rfl
 have eg:gN c (k+1)=EZ (gN c k) x.zf x.answer:=by show(if x4 (jH c k) then _ else _)=_;rw[he,hat];rfl
 have ea:kc c (k+1)=kc c k:=by show(kc c k && x4 (jH c k))=_;rw[he,sF]
 refine dd ?_;have hce:(xq (gN c k)).length=es.length:=by unfold xq;rw[List.length_mapIdx,hE.len]
 have okG:=Gg c k aw;refine .seq ?_;cases hf:Bm (gN c k) x.zf with
 |some j=>
  obtain⟨y,hy,hyt⟩:=K0 hf;have hyn:=(okG.val y (gu hy)).2;have hjl:=(gh.1 hy).1;have hyl:y.2.length<=k:=by rw[(okG.val y (gu hy)).1];exact pH (KW _ _) (by rw[ua];omega)
  have hcj:(xq (gN c k))[j]?=some (.gl (2*j+2) 13 (kN y.2)):=by unfold xq;rw[pF,hy];rfl
  refine .n8 (uH ?_);refine⟨_,_,fO.ks (id:=0) _ _ _ _ V V V V hce V V V V ((hE.find x.zf).trans hf) hcj,dd ?_⟩;refine⟨λh=>?_,λ_=>?_⟩
  .exfalso
   have:(y.2.length:Int)=0:=aq h
   exact hyn (rF.1 aw)
  refine dd ?_;refine .n8 (uH ?_);refine .inr ⟨⟨[2,5,8],[],false⟩,au,λh=>absurd h ar,_,uH ?_,λt2 H2 h=>h⟩;refine⟨uH ?_,trivial⟩;refine⟨_,_,fO.ks (id:=0) _ _ _ _ V V V V hce V V V V ((hE.find x.zf).trans hf) hcj,dd ?_⟩;refine⟨uH ?_,trivial⟩;have hob:(iU b es (gN c k).length (xq (gN c k))::X)[2*j+2]?=some ⟨4,66,13,kN y.2,0⟩:=by rw[rB];exact hX.row j y hy
  refine(fO.HR _ V _ _ ⟨rfl,rfl,⟨_,rfl,underlying49⟩,rfl,rfl,rfl⟩ V hob V V (.inr V) ay (by show _*104<=_;simp;omega)).lh (dd ?_);refine⟨uH ?_,trivial⟩;obtain⟨v0,hv0⟩:=hE.at_ j y hy;refine jK.zzg (id:=0) _ _ _ _ (.inl V) V V V hce V V ((hE.find x.zf).trans hf) hv0 ?_;intro v;refine dd ?_;refine⟨_,_,.refl _,uH ?_⟩;refine .n8 (uH ?_);rw[zw aw];have eg2:gN c (k+1)=(gN c k).set j (y.1,y.2++[x.answer]):=by rw[eg];unfold EZ;rw[hf];dsimp only;rw[hy,hyt];rfl
  refine .inl ⟨rfl,n-1,_,_,aw,zp.mask [0,2,3,4,6,7,8,24,25,26] _ _,k+1,es.set j (y.1,v,j),X.set (2*j+1) (Bl (y.2++[x.answer])),aw,by rw[eg2];exact hE.set hjl _ _ _,by rw[eg2];exact hX.set hy _,?_,?_⟩
  .rw[eg2,ea,zze];rfl
  .have er:kN (y.2++[x.answer])=kN y.2++[xx x.answer]:=pR;rw[eg2,zsJ _ _ _ _ hjl,pV];simp only[Bl];rw[er]
   rfl
 |none=>
  refine .seq (.n8 ?_);conv=>whnf
  refine⟨_,_,fO.Kr (id:=0) _ _ _ _ V V V V V V V V ((hE.find x.zf).trans hf) (λE=>.xE 1 0 (.inr V)),dd ?_⟩;refine hZ ?_
  refine .cond (b:=true) V (.P0 [] _ V (OK.run V ((fO.MC _ (.inl V)).lh (OK.app [_,_,_] [_,_] ?_))));conv=>whnf
  have eg2:gN c (k+1)=gN c k++[(x.zf,[x.answer])]:=by rw[eg];unfold EZ;rw[hf]
  have hgl:(gN c k).length<=k:=Iq c k
  have hthr:mF (gN c k++[(x.zf,[x.answer])])=.sl (2*(gN c k).length+1) [] 1 0 ((gN c k).length+1) false:=by
   unfold mF;rw[gp aj,pz]
   rfl
  by_cases hg:gN c k=[]
  .have hl0:=hX.len;rw[hg]at hE hX hce hthr eg2 hl0 okG hf|-;have ht:mF []=.fF 1 0 []:=rfl;obtain rfl:X=[]:=rF.1 hl0;have hY:([]:zn).length=([]:zn).length:=rfl;have hrow:∀i:Nat,i≠2*([]:Gs).length-2->([]:zn)[i]?=([]:zn)[i]?:=λ_ _=>rfl
   have iu:qw []=true:=rfl;have hlo:∀n,zW n []=true:=λ_=>rfl
   rw[ht];refine OK.run V ((fO.WS _ V _ _ ⟨rfl,rfl,⟨_,rfl,underlying28⟩,rfl,rfl,rfl⟩ V (.inl V) V aj (by show 0+1<=maxLen;decide) (by show(0+1)*8<=_;decide)).lh ?_);refine OK.run V ((fO.MC _ (.inr V)).lh (OK.nil ?_));have hHl:(iU b es ([]:Gs).length (xq ([]:Gs))::(([]:zn)++[l8 (([]:Gs).map (·.1)++[x.zf])])).length=2*([]:Gs).length+2:=by rw[ry,pz,hY,hX.len];rfl
   refine zay ?_;intro v;refine dd ?_;refine⟨_,_,.refl _,uH ?_⟩;refine .n8 (uH ?_);rw[zw aw];refine .inl ⟨rfl,n-1,_,_,aw,zp.mask [0,2,3,4,6,7,8,24,25,26] _ _,k+1,es++[(x.zf,v,([]:Gs).length)],([]:zn)++[l8 ((([]:Gs)++[(x.zf,[x.answer])]).map (·.1)),Bl [x.answer]],aw,by rw[eg2];exact hE.push _ _ _,by rw[eg2];exact hX.push hY hrow iu hlo _ _,?_,?_⟩
   .rw[eg2,ea,hthr];rfl
   .have e3:(([]:Gs)++[(x.zf,[x.answer])]).length=([]:Gs).length+1:=by simp
    rw[eg2,Pw,e3];have e2:([]:zn)++[l8 ((([]:Gs)++[(x.zf,[x.answer])]).map (·.1)),Bl [x.answer]]=(([]:zn)++[l8 (([]:Gs).map (·.1)++[x.zf])])++[Bl [x.answer]]:=aj
    rw[e2,<-hHl]
    rfl
  .have hpos:0<(gN c k).length:=sg.2 hg;have ht:mF (gN c k)=.sl (2*(gN c k).length-1) [] 1 0 (gN c k).length false:=by unfold mF;rw[gp hg]
   have harr:(iU b es (gN c k).length (xq (gN c k))::X)[2*(gN c k).length-1]?=some (l8 ((gN c k).map (·.1))):=by
    rw[show 2*(gN c k).length-1=(2*(gN c k).length-2)+1 from aw,rB];exact hX.arr hg
   have hkill:jT (iU b es (gN c k).length (xq (gN c k))::X) (2*(gN c k).length-1)=iU b es (gN c k).length (xq (gN c k))::jT X (2*(gN c k).length-2):=by
    rw[show 2*(gN c k).length-1=(2*(gN c k).length-2)+1 from aw]
    rfl
   have hY:(jT X (2*(gN c k).length-2)).length=X.length:=by unfold jT;simp
   have hrow:∀i:Nat,i≠2*(gN c k).length-2->(jT X (2*(gN c k).length-2))[i]?=X[i]?:=λi hi=>by
    rw[yH];cases X[i]? with
    |none=>rfl
    |some o=>rw[gK,gp (Ne.symm hi)]
   have hks:jT X (2*(gN c k).length-2)=X.set (2*(gN c k).length-2) ⟨0,3,1,((gN c k).map (·.1)).map ly,0⟩:=by
    apply pC
    intro i;rw[yH,gJ];have h1:=hX.arr hg;split
    .rename_i e;subst e;rw[gz (gh.1 h1).1,h1];simp
    .rename_i e;cases X[i]? with
     |none=>rfl
     |some o=>simp[e]
   have iu:qw (jT X (2*(gN c k).length-2))=true:=by rw[hks];exact Ec hX.flat _ V
   have hlo:∀n,zW n (jT X (2*(gN c k).length-2))=true:=λn=>by rw[hks];exact R9 (hX.low n) _ (zwO n _)
   rw[ht];refine OK.run V ((fO.XO _ V _ _ ⟨rfl,rfl,⟨_,rfl,underlying28⟩,rfl,rfl,rfl⟩ V harr V V V aj (zyE _) V aj ay bj).lh ?_);refine OK.run V ((fO.MC _ (.inr V)).lh (OK.nil ?_));rw[hkill,hl2];have em:(l8 ((gN c k).map (·.1))).rows++[[C.v (.int .i64 x.zf)]]=((gN c k).map (·.1)++[x.zf]).map ly:=aj
   rw[em];have hHl:(iU b es (gN c k).length (xq (gN c k))::((jT X (2*(gN c k).length-2))++[l8 ((gN c k).map (·.1)++[x.zf])])).length=2*(gN c k).length+2:=by rw[ry,pz,hY,hX.len];rfl
   refine zay ?_;intro v;refine dd ?_;refine⟨_,_,.refl _,uH ?_⟩;refine .n8 (uH ?_);rw[zw aw];refine .inl ⟨rfl,n-1,_,_,aw,zp.mask [0,2,3,4,6,7,8,24,25,26] _ _,k+1,es++[(x.zf,v,(gN c k).length)],(jT X (2*(gN c k).length-2))++[l8 (((gN c k)++[(x.zf,[x.answer])]).map (·.1)),Bl [x.answer]],aw,by rw[eg2];exact hE.push _ _ _,by rw[eg2];exact hX.push hY hrow iu hlo _ _,?_,?_⟩
   .rw[eg2,ea,hthr];rfl
   .have e3:((gN c k)++[(x.zf,[x.answer])]).length=(gN c k).length+1:=by simp
    rw[eg2,Pw,e3];have e2:(jT X (2*(gN c k).length-2))++[l8 (((gN c k)++[(x.zf,[x.answer])]).map (·.1)),Bl [x.answer]]=((jT X (2*(gN c k).length-2))++[l8 ((gN c k).map (·.1)++[x.zf])])++[Bl [x.answer]]:=aj
    rw[e2,<-hHl]
    rfl
def yo(g:Gs):List C:=g.map λx=>.fF 0 13 (kN x.2)
def QM:∀(g:Gs) (f:Nat->Nat),i7 (g.mapIdx λj x=>C.gl (f j) 13 (kN x.2)) (yo g)
 |[],_=>.nil
 |x::g,f=>by
  rw[fi];exact .cons (.gl _ _ _) (QM g λj=>f (j+1))
def ng(c:List Cal)(k:Nat):List fN:=((jY c).take k).flatMap λt=>DC (j7 c t)
def zyD(g:List fN):(DC g).length<=g.length:=by
 unfold DC;rw[gC];exact kZ g _
def PU(c:List Cal)(k:Nat)(t:Int)(h:(jY c)[k]?=some t):ng c (k+1)=ng c k++DC (j7 c t):=by
 unfold ng;rw[fc,h];simp
def RL(c:List Cal):∀k,k<=(jY c).length->(ng c k).length<=k*c.length
 |0,_=>by simp[ng]
 |k+1,hk=>by
  have hq:(jY c)[k]?=some (jY c)[k]:=gk hk;rw[PU c k _ hq,pz];have h1:=RL c k aw;have h2:=zyD (j7 c (jY c)[k]);have h3:=KW c (jY c)[k];rw[Nat.succ_mul];omega
def zvS(c:List Cal):(jY c).length<=c.length:=by
 unfold jY;rw[eC,gC];exact Iq c c.length
def ztQ(c:List Cal)(b:Nat)(es:List iZ)(hc:c.length<=5000)(hE:Af (gN c c.length) es):
  jb prog 0 (behind 8 ((f13.body).getD .skip)) ⟨(.za::.za::.fF 1 0 []::Bo false:: .za::.za::.v (.map (some b))::lI (jY c)::Bo (kc c c.length):: .za::.za::.za::.za::.za::tY (jp (jp ([])))),[iU b es (gN c c.length).length (yo (gN c c.length))]⟩ λex s=>(ex=.ret\/ex=.normal)/\∃s2,zp 0 s s2/\(wa prog f13 s2).map (xH 0 9)=some (.fJ [lA (y8 c),Bo (kc c c.length)]):=by
 have m1:((jY c).map Hy.encI).length=(jY c).length:=gC ..;have hkl:=zvS c;refine(RK.n8 (K:=λex t H=>(ex=.ret\/ex=.normal)/\∃s2,zp 0 ⟨t,H⟩ s2/\(wa prog f13 s2).map (xH 0 9)=some (.fJ [lA (y8 c),Bo (kc c c.length)])) (uH ?_)).out;rw[m1];refine qg.seq (jY c).length (λk=>(.za::.za::.fF 1 0 []::Bo false:: .za::.za::.v (.map (some b)):: .za::Bo (kc c c.length):: .za::.za::.gl 1 13 (kN (ng c k)):: .za::.za::.za::.za::.za::.za::tY (jp (lI (jY c)::I (jY c).length::I k:: .za::tY (tY (tY ([]))))))) (λk=>[iU b es (gN c c.length).length (yo (gN c c.length)),⟨4,66,13,kN (ng c k),0⟩]) (λ_=>True) ?_ trivial (λk hk _=>?_) (λ_=>?_)
 .exact(zp.grow 11 66 13 V (.inl V)).trans (cC)
 .have hq:(jY c)[k]?=some (jY c)[k]:=gk hk;have hkm:=pt hk;generalize (jY c)[k]=t at hq hkm;have gq:((jY c).map Hy.encI)[k]?=some (Hy.encI t):=by rw[gy,hq];rfl
  have okG:=Gg c c.length (gG _);have hgt:j7 c t≠[]:=(KM c t).1 hkm;obtain⟨y0,hy0,hyt0⟩:=okG.all t (by rw[pI];exact hgt);have hce:(yo (gN c c.length)).length=es.length:=by unfold yo;rw[gC,hE.len]
  obtain⟨j0,hf⟩:∃j0,Bm (gN c c.length) t=some j0:=by
   cases hf:Bm (gN c c.length) t with
   |some j=>exact⟨j,rfl⟩
   |none=>exact absurd hyt0 (QP hf y0 hy0)
  obtain⟨y,hy,hyt⟩:=K0 hf;have hyv:=(okG.val y (gu hy)).1;rw[pI,hyt]at hyv;have hcj:(yo (gN c c.length))[j0]?=some (.fF 0 13 (kN y.2)):=by unfold yo;rw[gy,hy];rfl
  rw[hyv]at hcj;have hst:=PU c k t hq;have hol:=RL c k aw;have hgl:=KW c t;have hob:(ng c k).length<=25000000:=pH hol (by have:=eM (show k<=5000 by omega) hc;omega);obtain⟨g,hg⟩:∃g,g=j7 c t:=⟨_,rfl⟩;rw[<-hg]at hcj hst hgl;conv=>whnf
  refine uF ?_;refine⟨aw,_,gq,dd ?_⟩;refine⟨_,_,fO.ks (id:=0) _ _ _ _ V V V V hce V V V V ((hE.find t).trans hf) hcj,dd ?_⟩;refine ah (PL g aw) ?_;have m2:(((qG g).map λ(n:Nat)=>(n:Int)).map Hy.encI).length=(qG g).length:=aj
  have hov:(qG g).length<=g.length:=kZ g _;rw[m2];refine qg.seq (qG g).length (λj=>(.za::.za::.fF 1 0 []::Bo false:: .za::.za::.v (.map (some b)):: .za::Bo (kc c c.length):: .za::.za::.gl 1 13 (kN (ng c k++((qG g).take j).map (Bw g))):: .za::I t:: .za::.za::.za::.za::tY (jp (lI (jY c)::I (jY c).length::I k:: .za::.za::.za::.za::.za::.za::lI ((qG g).map λ(n:Nat)=>(n:Int))::I (qG g).length::I j:: tY (tY ([])))))) (λj=>[iU b es (gN c c.length).length (yo (gN c c.length)),⟨4,66,13,kN (ng c k++((qG g).take j).map (Bw g)),0⟩]) (λ_=>True) ?_ trivial (λj hj _=>?_) (λ_=>?_)
  .rw[tz,tT,rA];exact cC
  .have hqj:(qG g)[j]?=some (qG g)[j]:=gk hj;have hnl:=ky g _ (gG _) _ (pt hj);generalize (qG g)[j]=n at hqj hnl;have gj:(((qG g).map λ(n:Nat)=>(n:Int)).map Hy.encI)[j]?=some (Hy.encI n):=by rw[gy,gy,hqj];rfl
   have hb:g[n]?=some g[n]:=gk hnl;have hat:Bw g n=g[n]:=by unfold Bw;rw[hb];rfl
   generalize g[n]=a at hb hat;have gb:(g.map xx)[n]?=some (xx a):=by rw[gy,hb];rfl
   have htk:((qG g).take (j+1)).map (Bw g)=((qG g).take j).map (Bw g)++[a]:=by rw[fc,hqj,pR];simp[hat]
   have fE:((qG g).take j).length<=5000:=by rw[ua];omega
   conv=>whnf
   refine uF ?_;refine⟨aw,_,gj,dd ?_⟩;refine⟨_,_,fO.ks (id:=0) _ _ _ _ V V V V hce V V V V ((hE.find t).trans hf) hcj,dd ?_⟩;refine⟨aw,_,gb,dd ?_⟩;refine(fO.HR _ V _ _ ⟨rfl,rfl,⟨_,rfl,underlying49⟩,rfl,rfl,rfl⟩ V V V V (.inr V) ay (by show _*104<=_;simp;omega)).lh (dd ?_);rw[zw aw];have er:kN (ng c k++((qG g).take (j+1)).map (Bw g))=kN (ng c k++((qG g).take j).map (Bw g))++[xx a]:=by rw[htk];simp
   refine zaF ?_;rw[er];exact cC
  .conv=>whnf
   refine⟨λh=>absurd h aj,λ_=>dd ?_⟩;refine⟨aj,dd ?_⟩;rw[zw aw];refine zaF ?_;rw[pI];rw[show ng c (k+1)=ng c k++(qG g).map (Bw g) from hst];exact cC
 .conv=>whnf
  refine zaG ?_;have eo:ng c (jY c).length=y8 c:=by unfold ng y8;rw[pI]
  rw[eo];cases kc c c.length <;> exact uI
def Ou(g:Gs):(yo g).all Dd=true:=gE.2 λc hc=>by
 obtain⟨x,_,rfl⟩:=gY.1 hc
 rfl
def Sl(sel:List Nat)(l:List Int):zL sel (l8 l)=l8 l:=by
 unfold zL l8;simp only[rC]
def zyh(ρ:Nat->Nat)(l:List Int):zG ρ (l8 l)=l8 l:=by
 unfold zG l8;simp only[rC]
 first|done|rfl
def ztr(n b k:Nat)(es:List iZ)(g:Gs):zW n [iU b es k (yo g)]=true:=by
 unfold zW;simp only[r7,tX,sF];have:((yo g).all (je n 9))=true:=gE.2 λc hc=>by obtain⟨x,_,rfl⟩:=gY.1 hc;rfl
 rw[this]
 rfl
def zwj(l:List fG)(c:List Cal)(b:Nat)(es:List iZ)(X:zn)(hc:c.length<=5000)(hE:Af (gN c c.length) es)(hX:Ch (gN c c.length) X):
  jb prog 0 (behind 7 ((f13.body).getD .skip)) ⟨(mC l:: .za::.fF 1 0 []::Bo false::Bb c:: .za::.v (.map (some b))::mF (gN c c.length)::Bo (kc c c.length):: .za::.za::.za::.za::.za::tY (jp (jp ([])))),iU b es (gN c c.length).length (xq (gN c c.length))::X⟩ λex s=>(ex=.ret\/ex=.normal)/\∃s2,zp 0 s s2/\(wa prog f13 s2).map (xH 0 9)=some (.fJ [lA (y8 c),Bo (kc c c.length)]):=by
 have ht:=ztQ c b es hc hE;have hgl:=Iq c c.length;by_cases hg:gN c c.length=[]
 .have hk:jY c=[]:=by unfold jY;rw[hg];exact List.mergeSort_nil
  obtain rfl:X=[]:=by
   have:=hX.len;rw[hg]at this;exact rF.1 this
  rw[hk,hg]at ht;rw[hg];refine wC (uH ?_);refine ah OJ ?_;exact .inl ⟨rfl,_,_,(zp.cell 7 V (WC.nil 0 1)).trans (cC),ht⟩
 .have hpos:0<(gN c c.length).length:=sg.2 hg;have e1:mF (gN c c.length)=.sl (2*(gN c c.length).length-1) [] 1 0 (gN c c.length).length false:=by unfold mF;rw[gp hg]
  have w1:=zp.UO (B:=0) 0 (s:=⟨(mC l:: .za::.fF 1 0 []::Bo false::Bb c:: .za::.v (.map (some b))::mF (gN c c.length)::Bo (kc c c.length):: .za::.za::.za::.za::.za::tY (jp (jp ([])))),iU b es (gN c c.length).length (xq (gN c c.length))::X⟩) V V (QM (gN c c.length) λj=>2*j+2)
  have hsel:posOf [0,2*(gN c c.length).length-1] 0 (2*(gN c c.length).length-1)=some 1:=by
   unfold posOf;rw[gp aA];unfold posOf;rw[gz aj]
  have w2:=zp.fL (B:=0) [0,2*(gN c c.length).length-1] [2,3,6,7,8] (mC l:: .za::.fF 1 0 []::Bo false::Bb c:: .za::.v (.map (some b))::mF (gN c c.length)::Bo (kc c c.length):: .za::.za::.za::.za::.za::tY (jp (jp ([])))) (iU b es (gN c c.length).length (yo (gN c c.length))::X) V (by simp[hX.len];omega) (by simp[yw];omega) (by
   have:qw ([iU b es (gN c c.length).length (yo (gN c c.length))]++X)=true:=Rl (by unfold qw;simp[Ou]) hX.flat;exact this)
  have hren:xJ [0,2*(gN c c.length).length-1] (iU b es (gN c c.length).length (yo (gN c c.length))::X)=[iU b es (gN c c.length).length (yo (gN c c.length)),l8 ((gN c c.length).map (·.1))]:=by
   unfold xJ;simp only[pP,tT]
   rw[show(iU b es (gN c c.length).length (yo (gN c c.length))::X)[0]?=some (iU b es (gN c c.length).length (yo (gN c c.length))) from V,show(iU b es (gN c c.length).length (yo (gN c c.length))::X)[2*(gN c c.length).length-1]?=some (l8 ((gN c c.length).map (·.1))) from by
    rw[show 2*(gN c c.length).length-1=(2*(gN c c.length).length-2)+1 from aw,rB];exact hX.arr hg]
   simp only[Option.getD_some];rw[H8 V,Sl]
  have htm:(BA [2,3,6,7,8] 0 (mC l:: .za::.fF 1 0 []::Bo false::Bb c:: .za::.v (.map (some b))::mF (gN c c.length)::Bo (kc c c.length):: .za::.za::.za::.za::.za::tY (jp (jp ([]))))).map (xX [0,2*(gN c c.length).length-1] 9)=(.za::.za::.fF 1 0 []::Bo false:: .za::.za::.v (.map (some b)):: .sl 1 [] 1 0 (gN c c.length).length false::Bo (kc c c.length):: .za::.za::.za::.za::.za::tY (jp (jp ([])))):=by
   rw[e1]
   have e2:xX [0,2*(gN c c.length).length-1] 9 (.sl (2*(gN c c.length).length-1) [] 1 0 (gN c c.length).length false)=.sl 1 [] 1 0 (gN c c.length).length false:=by
    unfold xX;dsimp only;rw[hsel]
   have hm:BA [2,3,6,7,8] 0 (mC l:: .za::.fF 1 0 []::Bo false::Bb c:: .za::.v (.map (some b)):: .sl (2*(gN c c.length).length-1) [] 1 0 (gN c c.length).length false::Bo (kc c c.length):: .za::.za::.za::.za::.za::tY (jp (jp ([]))))=(.za::.za::.fF 1 0 []::Bo false:: .za::.za::.v (.map (some b)):: .sl (2*(gN c c.length).length-1) [] 1 0 (gN c c.length).length false::Bo (kc c c.length):: .za::.za::.za::.za::.za::tY (jp (jp ([])))):=rfl;refine(rq (List.map _) hm).trans ?_;simp only[pP,tT,e2]
   rfl
  rw[hren,htm]at w2;refine .pre (w1.trans w2) (wC ?_);conv=>whnf
  have hlen:((gN c c.length).map (·.1)).length=(gN c c.length).length:=gC ..;have hso:=Y1 ((gN c c.length).map (·.1)) aw;rw[hlen]at hso;refine zX [1] [iU b es (gN c c.length).length (yo (gN c c.length)),l8 (jY c)] (rx:=.fJ []) hso V (by unfold xJ;simp only[pP,tT];exact rq (·::[]) (Sl _ _)) V V V (by unfold qw;simp[Ou]) (by unfold lD;show [_,zG _ (l8 (jY c))]=_;rw[zyh];rfl) V (dd ?_);have hkl:(jY c).length=(gN c c.length).length:=by unfold jY;rw[eC,gC]
  refine .inl ⟨rfl,_,_,?_,ht⟩;exact(zp.JY 7 V V (.inr V) (by simp[hkl]) (λr hr c hc=>by obtain⟨z,_,rfl⟩:=gY.1 hr;simp at hc;subst hc;exact⟨rfl,rfl⟩)).trans (zp.xO 1 hC V V V (ztr _ _ _ _ _) V)
def He(l:List fG)(hl:l.length<=5000):tj 13 [] [mC l] (if (Go.Cal.iH l).2≠0 then .fJ [.fF 1 0 [],Bo false] else .fJ [lA (y8 (Go.Cal.iH l).1),Bo (kc (Go.Cal.iH l).1 (Go.Cal.iH l).1.length)]) []:=by
 have ho:=Go.Cal.QX l aw;have hn:=Go.Cal.zyq l;generalize Go.Cal.iH l=q at *;obtain⟨c,e⟩:=q;dsimp only at hn;refine zb.CC (fn:=f13) func13 V ?_;refine wC (uH ?_);refine zaC ?_;refine ah ho ?_;refine zaC ?_;refine⟨λh1=>?_,λh1=>?_⟩
 .refine dd ?_;have he:e≠0:=by simpa using h1
  rw[gz (show(c,e).2≠0 from he)];exact .inr ⟨aj,.inl V,_,.refl _,rfl⟩
 .refine dd ?_;have he:e=0:=by simpa using h1
  rw[gp (show ¬(c,e).2≠0 from λh=>h he)];refine zaC ?_;intro b;refine dd ?_;exact .inl ⟨rfl,_,_,zp.mask [0,2,3,4,6] _ _,ztP l c b aw _ λes X hE hX=>zwj l c b es X aw hE hX⟩
abbrev AB(s:Int):fN:=⟨1,0,0,0,s,0,0,vd⟩
abbrev yL:fN:=⟨0,0,0,0,0,0,0,vd⟩
abbrev e0:fG:=⟨0,0,1,3,0,false,3,true,false,false,yL⟩
abbrev e1:fG:=⟨1,0,2,12,0,false,3,true,false,true,AB 0⟩
abbrev e2:fG:=⟨0,0,1,0,0,true,0,false,false,false,yL⟩
abbrev e3:fG:=⟨0,0,0,0,0,false,0,false,false,true,AB 1⟩
abbrev e4:fG:=⟨1,1,2,12,0,false,3,true,false,false,yL⟩
abbrev CJ:List fG:=[e0,e1,e2,e3,e4]
abbrev c0:Cal:=⟨0,0,0, -1,3,AB 1⟩
abbrev c1:Cal:=⟨1,0,1, -1,1,AB 0⟩
abbrev c2:Cal:=⟨1,1,4, -1, -1,yL⟩
def Bp:Go.Cal.iH CJ=([c0,c1,c2],0):=by kernel_rfl
def Na:Go.Cal.iH [e0,e1,e2,e3]=([c0,c1],0):=by kernel_rfl
def Nb:Go.Cal.iH [e1,e2]=([],11):=by kernel_rfl
def t0:Uh CJ=1:=by kernel_rfl
def t1:Ui CJ=1:=by kernel_rfl
def t2:zzV CJ=1:=by kernel_rfl
def Vj:y8 [c0,c1,c2]=[AB 1,AB 0]:=by
 have e:jY [c0,c1,c2]=[0,1]:=by
  have h:((gN [c0,c1,c2] [c0,c1,c2].length).map (·.1))=[0,1]:=au
  unfold jY;rw[h];exact eV ar
 unfold y8;rw[e]
 rfl
def Vk:y8 [c0,c1]=[AB 1,AB 0]:=by
 have e:jY [c0,c1]=[0,1]:=by
  have h:((gN [c0,c1] [c0,c1].length).map (·.1))=[0,1]:=au
  unfold jY;rw[h];exact eV ar
 unfold y8;rw[e]
 rfl
def o0:tj 13 [] [mC CJ] (.fJ [lA [AB 1,AB 0],Bo false]) []:=by
 have h:=He CJ ar;rw[Bp,gp ar,show y8 ([c0,c1,c2],(0:Int)).1=_ from Vj]at h;exact h
def o1:tj 13 [] [mC [e0,e1,e2,e3]] (.fJ [lA [AB 1,AB 0],Bo true]) []:=by
 have h:=He [e0,e1,e2,e3] ar;rw[Na,gp ar,show y8 ([c0,c1],(0:Int)).1=_ from Vk]at h;exact h
def o2:tj 13 [] [mC [e1,e2]] (.fJ [.fF 1 0 [],Bo false]) []:=by
 have h:=He [e1,e2] ar;rw[Nb,gz ar]at h;exact h
end Go.Saf
