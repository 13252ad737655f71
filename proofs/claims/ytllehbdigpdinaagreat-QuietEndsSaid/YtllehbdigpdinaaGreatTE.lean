import Derived.Test.YtllehbdigpdinaaGreatTD
import Derived.Test.YtllehbdigpdinaaGreatTC
set_option linter.all false
set_option maxRecDepth 100000
set_option maxHeartbeats 4000000
namespace Go.Con
open Go.Ab Go.Proofs Tryz Go.Hy Go.Gat Go.Nam Go.Hos
variable{f:Nat->Int}
def xr(f:Nat->Int)(n:Nat):Int×Int:=match (List.range n).find? λi=>f i != 0 with
 |some i=>(f i,i)
 |none=>(0,0)
def xj{n k:Nat}{e:Int}(hk:k<n)(hr:∀j,j<k->f j=0)(h:f k=e)(he:e≠0):xr f n=(e,(k:Int)):=by
 unfold xr
 have:(List.range n).find? (λi=>f i != 0)=some k:=by
  rw[List.find?_range_eq_some];exact⟨by simp[h,he],aq hk,λj hj=>by simp[hr j hj]⟩
 rw[this];simp[h]
def KL{n:Nat}(hr:∀j,j<n->f j=0):xr f n=(0,0):=by
 unfold xr
 have:(List.range n).find? (λi=>f i != 0)=none:=by
  rw[List.find?_range_eq_none];intro i hi;simp[hr i hi]
 rw[this]
def Cl(l:List fK)(i:Nat):Int:=match l[i]? with
 |none=>0
 |some s=>if yk s=false then 3 else if (l.take i).any (λx=>x == s) then 4 else 0
def Ad(l:List ij)(i:Nat):Int:=match l[i]? with
 |none=>0
 |some c=>if yk c.name=false then 3 else if B3 (l.take i) c.name then 4 else if c.x9≠1/\c.x9≠2 then 9 else if (decide (1<=c.ye) && decide (c.ye<=4))=false then 10
   else if (decide (1<=(c.zS.length:Int)) && decide ((c.zS.length:Int)<=4))=false then 6 else 0
def BE(a b:oL):Bool:=a.listen == b.listen && a.host == b.host && a.path == b.path
def Bj(c:iq)(i:Nat):Int:=match c.zO[i]? with
 |none=>0
 |some r=>if c.zc.any (λx=>x == r.listen)=false then 5 else if BL r.host=false then 7 else if BD r.path=false then 8 else if B3 c.zo r.zg=false then 5
   else if (c.zO.take i).any (λq=>BE q r) then 4 else 0
def vV(c:iq):Int×Int:=
 if ((decide (1<=(c.zc.length:Int)) && decide ((c.zc.length:Int)<=4))=false\/(decide (1<=(c.zO.length:Int)) && decide ((c.zO.length:Int)<=8))=false)\/(decide (1<=(c.zo.length:Int)) && decide ((c.zo.length:Int)<=4))=false then (6,0) else (0,0)
def jj(c:iq):Int×Int:=
 if (vV c).1≠0 then vV c else if (xr (Cl c.zc) c.zc.length).1≠0 then xr (Cl c.zc) c.zc.length
 else if (xr (Ad c.zo) c.zo.length).1≠0 then xr (Ad c.zo) c.zo.length
 else if (xr (Bj c) c.zO.length).1≠0 then xr (Bj c) c.zO.length else (0,0)
abbrev t2(r:Int×Int):C:=.fJ [I r.1,I r.2]
abbrev Cf(c:iq):C:=.agg (Ae c)
structure ka(c:iq):Prop where
 zc:c.zc.length<1000000000000/\∀s∈c.zc,s.length<4000000000000000000
 zO:c.zO.length<1000000000000/\∀r∈c.zO,r.listen.length<4000000000000000000/\r.host.length<1000000000000000/\r.path.length<1000000000000000/\r.zg.length<4000000000000000000
 zo:c.zo.length<1000000000000/\∀x∈c.zo,x.name.length<4000000000000000000/\x.zS.length<4000000000000000000
structure yn(c:iq):Prop where
 zc:c.zc.length<1000000000000000/\∀s∈c.zc,s.length<4000000000000000000
 zO:c.zO.length<1000000000000000/\∀r∈c.zO,r.listen.length<4000000000000000000/\r.host.length<1000000000000000/\r.path.length<1000000000000000/\r.zg.length<4000000000000000000
 zo:c.zo.length<1000000000000000/\∀x∈c.zo,x.name.length<4000000000000000000/\x.zS.length<4000000000000000000
def ka.k{c:iq}(h:ka c):yn c:=
 ⟨⟨by have:=h.zc.1;omega,h.zc.2⟩,⟨by have:=h.zO.1;omega,λr hr=>by have:=h.zO.2 r hr;omega⟩,⟨by have:=h.zo.1;omega,h.zo.2⟩⟩
def Zr(c:iq)(hc:yn c):tj 120 [] [Cf c] (t2 (vV c)) []:=by
 have m1:(c.zc.map qx).length=c.zc.length:=gC ..;have m2:(c.zO.map lW).length=c.zO.length:=gC ..;have m3:(c.zo.map vo).length=c.zo.length:=gC ..;refine ab func120 ?_;rw[m1];refine ah (yB _ _ _) ?_;refine⟨λh1=>?_,λh1=>?_⟩
 .refine zad ?_
  rw[m2];refine ah (yB _ _ _) ?_;refine⟨λh2=>?_,λh2=>?_⟩
  .refine zad ?_
   rw[m3];refine ah (yB _ _ _) ?_;refine⟨λh3=>?_,λh3=>?_⟩
   .refine zad ?_
    have e:vV c=(0,0):=by unfold vV;rw[gp];simp only[h1,h2,h3];simp
    rw[e];exact uI
   .refine zad ?_
    have e:vV c=(6,0):=by unfold vV;rw[gz (.inr h3)]
    rw[e];exact uI
  .refine zad ?_
   have e:vV c=(6,0):=by unfold vV;rw[gz (.inl (.inr h2))]
   rw[e];exact uI
 .refine zad ?_
  have e:vV c=(6,0):=by unfold vV;rw[gz (.inl (.inl h1))]
  rw[e];exact uI
def Wd(c:iq)(hc:yn c):tj 121 [] [Cf c] (t2 (xr (Cl c.zc) c.zc.length)) []:=by
 have m1:(c.zc.map qx).length=c.zc.length:=gC ..;have hl:=hc.zc.1;refine ab func121 ?_;rw[m1];refine qg.seq c.zc.length (λk=>((Cf c)::.ref 0 [] 3 0 0::I 0::I 0::.za::.za::.za::.za::(lT c.zc)::I c.zc.length::I k::tY (tY ([.za,.za,.za])))) (λk=>[⟨1,220,3,[Ae c],0⟩]) (λk=>∀j,j<k->Cl c.zc j=0) ?_ aj (λk hk hr=>?_) (λhr=>?_)
 .exact cC
 .have hg:(c.zc.map qx)[k]?=some (qx c.zc[k]):=by rw[gy,gk hk];rfl
  have hs:=hc.zc.2 _ (pt hk)
  have he:Cl c.zc k=if yk c.zc[k]=false then 3 else if (c.zc.take k).any (λx=>x == c.zc[k]) then 4 else 0:=by
   unfold Cl;rw[gk hk]
  conv=>whnf
  refine⟨λ_=>dd ?_,λh=>absurd h aA⟩;refine tc hg ?_;refine ah (yv c.zc[k] aw) ?_;refine⟨λh2=>?_,λh2=>?_⟩
  .refine zad ?_
   (refine⟨.inr V,dd ?_⟩);(refine⟨aw,pa _,by rw[m1];omega,dd ?_⟩);(rw[sK,rS,toNat_cast,<-u4])
   refine ah (G8 (c.zc.take k) c.zc[k] aA) ?_;refine⟨λh3=>?_,λh3=>?_⟩
   .refine dd ?_;rw[xj hk hr (by rw[he,gp bP,gz h3]) ar];refine zaJ ?_;exact uI
   .refine dd ?_;refine .inl ⟨rfl,?_,(λj hj=>by (by_cases e:j=k);(subst e;exact(by rw[he,gp bP,gp bU]));(exact hr j aw))⟩;exact du
  .refine zad ?_
   rw[xj hk hr (by rw[he,gz h2]) ar];refine zaJ ?_;exact uI
 .rw[KL hr];exact gf
def V7(c:iq)(hc:yn c):tj 122 [] [Cf c] (t2 (xr (Ad c.zo) c.zo.length)) []:=by
 have m1:(c.zo.map vo).length=c.zo.length:=gC ..;have hl:=hc.zo.1;refine ab func122 ?_;rw[m1];refine qg.seq c.zo.length (λk=>((Cf c)::.ref 0 [] 3 0 0::I 0::I 0::.za::.za::.za::.za::(lC c.zo)::I c.zo.length::I k::tY (jp ([.za,.za,.za,.za])))) (λk=>[⟨1,220,3,[Ae c],0⟩]) (λk=>∀j,j<k->Ad c.zo j=0) ?_ aj (λk hk hr=>?_) (λhr=>?_)
 .exact cC
 .obtain⟨x,hx⟩:∃x,x=c.zo[k]:=⟨_,rfl⟩;have hg:(c.zo.map vo)[k]?=some (vo x):=by rw[gy,gk hk,hx];rfl
  have hs:=hc.zo.2 x tH
  have he:Ad c.zo k=if yk x.name=false then 3 else if B3 (c.zo.take k) x.name then 4 else if x.x9≠1/\x.x9≠2 then 9 else if (decide (1<=x.ye) && decide (x.ye<=4))=false then 10
    else if (decide (1<=(x.zS.length:Int)) && decide ((x.zS.length:Int)<=4))=false then 6 else 0:=by
   unfold Ad;rw[gk hk,hx]
  have mh:(x.zS.map w6).length=x.zS.length:=gC ..;conv=>whnf
  refine⟨λ_=>dd ?_,λh=>absurd h aA⟩;refine tc hg ?_;refine ah (yv x.name aw) ?_;refine⟨λh2=>?_,λh2=>?_⟩
  .refine zad ?_
   refine .inl ⟨⟨false,[2,6,7],[0,1],[]⟩,au,uH ?_⟩;(refine⟨.inr V,dd ?_⟩);(refine⟨aw,pa _,by rw[m1];omega,dd ?_⟩);(rw[sK,rS,toNat_cast,<-u4])
   refine⟨Bo (B3 (c.zo.take k) x.name),λH2=>(O6 (c.zo.take k) x.name aA).frame V H2,dd ?_⟩;refine⟨λh3=>?_,λh3=>?_⟩
   .refine dd ?_;rw[xj hk hr (by rw[he,gp bP,gz h3]) ar];refine zaw ?_
    exact uI
   .have he:=he.trans ((gp bP).trans (gp bU));refine dd ?_;refine⟨λh4=>?_,λh4=>?_⟩
    .have h4:x.x9≠1:=by simpa using h4
     refine dd ?_;refine⟨λh5=>?_,λh5=>?_⟩
     .have h5:x.x9≠2:=by simpa using h5
      refine dd ?_;rw[xj hk hr (by rw[he,gz ⟨h4,h5⟩]) ar];refine zaw ?_
      exact uI
     .have h5:x.x9=2:=by simpa using h5
      have he:=he.trans (gp (λh=>h.2 h5));refine dd ?_;refine ah (yB _ _ _) ?_;(refine⟨λh6=>?_,λh6=>?_⟩);rotate_left;(focus (refine dd ?_;refine hZ ?_;(rw[xj hk hr (by rw[he,gz h6]) ar]);(refine .inr ⟨aj,uH ?_⟩);exact uI));(have he:=he.trans (gp (by simp only[h6];decide)));refine zad ?_;(rw[mh]);refine ah (yB _ _ _) ?_;(refine⟨λh7=>?_,λh7=>?_⟩);rotate_left;(focus (refine dd ?_;refine hZ ?_;(rw[xj hk hr (by rw[he,gz h7]) ar]);(refine .inr ⟨aj,uH ?_⟩);exact uI));(have he:=he.trans (gp (by simp only[h7];decide)));refine zad ?_;(refine .inl ⟨rfl,?_,(λj hj=>by (by_cases e:j=k);(subst e;exact he);(exact hr j aw))⟩);(rw[zw aw]);exact cE 1
    .have h4:x.x9=1:=by simpa using h4
     have he:=he.trans (gp (λh=>h.1 h4));refine dd ?_;refine ah (yB _ _ _) ?_;(refine⟨λh6=>?_,λh6=>?_⟩);rotate_left;(focus (refine dd ?_;refine hZ ?_;(rw[xj hk hr (by rw[he,gz h6]) ar]);(refine .inr ⟨aj,uH ?_⟩);exact uI));(have he:=he.trans (gp (by simp only[h6];decide)));refine zad ?_;(rw[mh]);refine ah (yB _ _ _) ?_;(refine⟨λh7=>?_,λh7=>?_⟩);rotate_left;(focus (refine dd ?_;refine hZ ?_;(rw[xj hk hr (by rw[he,gz h7]) ar]);(refine .inr ⟨aj,uH ?_⟩);exact uI));(have he:=he.trans (gp (by simp only[h7];decide)));refine zad ?_;(refine .inl ⟨rfl,?_,(λj hj=>by (by_cases e:j=k);(subst e;exact he);(exact hr j aw))⟩);(rw[zw aw]);exact cE 1
  .refine zad ?_
   rw[xj hk hr (by rw[he,gz h2]) ar];refine zaJ ?_;exact uI
 .rw[KL hr];exact gf
def WX(c:iq)(hc:yn c):tj 123 [] [Cf c] (t2 (xr (Bj c) c.zO.length)) []:=by
 have m1:(c.zO.map lW).length=c.zO.length:=gC ..;have hl:=hc.zO.1;have hl1:=hc.zc.1;have hl2:=hc.zo.1;refine ab func123 ?_;rw[m1];refine qg.seq c.zO.length (λk=>(Cf c:: .ref 0 [] 3 0 0::I 0::I 0:: .za::.za::.za::.za::.za::.za::lO c.zO::I c.zO.length::I k:: .za::.za::.za::.za::tY (jp (tY ([]))))) (λk=>[⟨1,220,3,[Ae c],0⟩]) (λk=>∀j,j<k->Bj c j=0) ?_ aj (λk hk hr=>?_) (λhr=>?_)
 .exact cC
 .obtain⟨r,hx⟩:∃r,r=c.zO[k]:=⟨_,rfl⟩;have hg:(c.zO.map lW)[k]?=some (lW r):=by rw[gy,gk hk,hx];rfl
  have hs:=hc.zO.2 r tH
  have he:Bj c k=if c.zc.any (λx=>x == r.listen)=false then 5 else if BL r.host=false then 7 else if BD r.path=false then 8 else if B3 c.zo r.zg=false then 5
    else if (c.zO.take k).any (λq=>BE q r) then 4 else 0:=by
   unfold Bj;rw[gk hk,hx]
  have m2:((c.zO.take k).map lW).length=k:=aA
  have hlk:(c.zO.take k).length=k:=aA
  conv=>whnf
  refine zan ?_
  refine ah (G8 c.zc r.listen aw) ?_;refine⟨λh2=>?_,λh2=>?_⟩
  rotate_left
  .refine zad ?_
   rw[xj hk hr (by rw[he,gz h2]) ar];refine zaw ?_
   exact uI
  have he:=he.trans (gp bP);refine zad ?_
  refine ah (JQ r.host aw) ?_;refine⟨λh3=>?_,λh3=>?_⟩
  rotate_left
  .refine zad ?_
   rw[xj hk hr (by rw[he,gz h3]) ar];refine zaw ?_
   exact uI
  have he:=he.trans (gp bU);refine zad ?_
  refine ah (Kj r.path aw) ?_;refine⟨λh4=>?_,λh4=>?_⟩
  rotate_left
  .refine zad ?_
   rw[xj hk hr (by rw[he,gz h4]) ar];refine zaw ?_
   exact uI
  have he:=he.trans (gp (by simp[h4]));refine zad ?_
  refine ah (O6 c.zo r.zg aw) ?_;refine⟨λh5=>?_,λh5=>?_⟩
  rotate_left
  .refine zad ?_
   rw[xj hk hr (by rw[he,gz h5]) ar];refine zaw ?_
   exact uI
  have he:=he.trans (gp ax);refine zad ?_
  (refine⟨.inr V,dd ?_⟩);(refine⟨aw,pa _,by rw[m1];omega,dd ?_⟩);(rw[sK,rS,toNat_cast,<-u4])
  rw[m2];refine qg.seq k (λj=>(Cf c:: .ref 0 [] 3 0 0::I 0::I 0::I k:: .ref 1 [] 4 0 0:: .za::.za::.za::.za::lO c.zO::I c.zO.length::I k:: .za::.za::.za::.za::.za::.za::.za::tY (tY (tY (tY (lO (c.zO.take k)::I k::I j:: .za::.za::tY ([]))))))) (λj=>[⟨1,220,3,[Ae c],0⟩,⟨1,113,4,[[Tx r.listen,Tx r.host,Tx r.path,Tx []]],0⟩]) (λj=>∀i,(h:i<c.zO.length)->i<j->BE c.zO[i] r=false) ?_ aj (λj hj hrj=>?_) (λhrj=>?_)
  .exact cC
  .obtain⟨q,hq⟩:∃q,q=c.zO[j]:=⟨_,rfl⟩;have hgq:((c.zO.take k).map lW)[j]?=some (lW q):=by rw[gy,gk aw,hq,fb];rfl
   conv=>whnf
   refine uF ?_;(refine tc hgq ?_)
   refine⟨au,dd ?_⟩;refine⟨λh6=>?_,λh6=>?_⟩
   .have h6:BE q r=true:=by simp at h6;simp[BE,h6]
    have ha:(c.zO.take k).any (λq=>BE q r)=true:=by
     rw[rh];exact⟨q,by rw[hq,pJ];exact⟨j,aw,fb⟩,h6⟩
    refine dd ?_;rw[xj hk hr (by rw[he,gz ha]) ar];refine zaw ?_
    refine zaJ ?_;exact uI
   .have h6:BE q r=false:=by
     cases hs:BE q r with
     |false=>rfl
     |true=>simp[BE]at hs;simp[hs]at h6
    refine dd ?_;refine .inl ⟨rfl,?_,λi hi hij=>?_⟩
    .rw[zw aw];exact cE 2
    .by_cases e:i=j
     .subst e;rw[<-hq];exact h6
     .exact hrj i hi aw
  .have ha:(c.zO.take k).any (λq=>BE q r)=false:=by
    rw[pq];intro q hq;obtain⟨i,hi,rfl⟩:=pJ.1 hq;rw[fb];simp[hrj i aw aw]
   have he:=he.trans (gp (by simp[ha]));refine uD ?_;refine .inl ⟨rfl,?_,(λj hj=>by (by_cases e:j=k);(subst e;exact he);(exact hr j aw))⟩;exact du
 .rw[KL hr];exact gf
def JU(c:iq)(hc:yn c):tj 81 [] [Cf c] (t2 (jj c)) []:=by
 refine ab func81 ?_;refine .BV 5 (.step ?_);conv=>whnf
 (refine ya (dd ?_))
 refine⟨ar,_,rfl,dd ?_⟩;refine ah (Zr c hc) ?_;refine⟨λh1=>?_,λh1=>?_⟩
 .have e:jj c=vV c:=by unfold jj;rw[gz tG]
  rw[e];refine dd ?_;refine zaw ?_
  exact uI
 have h1:(vV c).1=0:=aq h1
 refine dd ?_;refine .inl ⟨rfl,.step (uH ?_)⟩;(refine ya (dd ?_))
 refine⟨ar,_,rfl,dd ?_⟩;refine ah (Wd c hc) ?_;refine⟨λh2=>?_,λh2=>?_⟩
 .have e:jj c=xr (Cl c.zc) c.zc.length:=by unfold jj;rw[gp aD,gz tS]
  rw[e];refine dd ?_;refine zaw ?_
  exact uI
 have h2:(xr (Cl c.zc) c.zc.length).1=0:=aq h2
 refine dd ?_;refine .inl ⟨rfl,.step (uH ?_)⟩;(refine ya (dd ?_))
 refine⟨ar,_,rfl,dd ?_⟩;refine ah (V7 c hc) ?_;refine⟨λh3=>?_,λh3=>?_⟩
 .have e:jj c=xr (Ad c.zo) c.zo.length:=by unfold jj;rw[gp aD,gp bP,gz (aq h3)]
  rw[e];refine dd ?_;refine zaw ?_
  exact uI
 have h3:(xr (Ad c.zo) c.zo.length).1=0:=aq h3
 refine dd ?_;refine .inl ⟨rfl,.step (uH ?_)⟩;(refine ya (dd ?_))
 refine⟨ar,_,rfl,dd ?_⟩;refine ah (WX c hc) ?_;refine⟨λh4=>?_,λh4=>?_⟩
 .have e:jj c=xr (Bj c) c.zO.length:=by unfold jj;rw[gp aD,gp bP,gp bU,gz (aq h4)]
  rw[e];refine dd ?_;refine zaw ?_
  exact uI
 have h4:(xr (Bj c) c.zO.length).1=0:=aq h4
 refine dd ?_;refine .inl ⟨rfl,.step (uH ?_)⟩;(refine yb (dd ?_))
 refine zaw ?_
 have e:jj c=(0,0):=by unfold jj;rw[gp aD,gp bP,gp bU,gp (by simp[h4])]
 rw[e];exact uI
def check_sound(c:iq)(hc:ka c):tj 81 [] [Cf c] (t2 (jj c)) []:=JU c hc.k
def BG(l:List ij)(s:fK):Int:=match l.findIdx? (λx=>x.name == s) with|some i=>(i:Int)|none=> -1
def Bh(c:ij):Bool:=decide (50<c.zS.length) || decide (100<c.name.length)
def Bi(r:oL):Bool:=decide (100<r.host.length) || decide (100<r.path.length)
def mn(c:iq):Bool:=decide (50<c.zc.length) || decide (50<c.zO.length) || decide (50<c.zo.length) || c.zo.any Bh || c.zO.any Bi
def Ho(c:iq)(h1:c.zc.length<4000000000000000000)(h2:c.zO.length<4000000000000000000)(h3:c.zo.length<4000000000000000000):tj 16 [] [Cf c] (Bo (mn c)) []:=by
 have m1:(c.zc.map qx).length=c.zc.length:=gC ..;have m2:(c.zO.map lW).length=c.zO.length:=gC ..;have m3:(c.zo.map vo).length=c.zo.length:=gC ..;refine ab func16 ?_;rw[m1];(refine⟨λa1=>?_,λa1=>?_⟩);(focus ((have e:mn c=true:=by (simp at a1;simp[mn];omega));(rw[e]);refine dd ?_;refine hZ ?_;exact uI));refine dd ?_
 rw[m2];(refine⟨λa2=>?_,λa2=>?_⟩);(focus ((have e:mn c=true:=by (simp at a2;simp[mn];omega));(rw[e]);refine dd ?_;refine hZ ?_;exact uI));refine dd ?_
 rw[m3];(refine⟨λa3=>?_,λa3=>?_⟩);(focus ((have e:mn c=true:=by (simp at a3;simp[mn];omega));(rw[e]);refine dd ?_;refine hZ ?_;exact uI));refine dd ?_
 simp at a1 a2 a3;refine qg.seq c.zo.length (λk=>(Cf c:: .ref 0 [] 3 0 0::Bo false::I k:: .za::.za::.za::tY (jp (tY (tY (tY ([]))))))) (λk=>[⟨1,26,3,[Ae c],0⟩]) (λk=>∀j,(h:j<c.zo.length)->j<k->Bh c.zo[j]=false) ?_ aj (λk hk hr=>?_) (λhr=>?_)
 .exact cC
 .obtain⟨x,hx⟩:∃x,x=c.zo[k]:=⟨_,rfl⟩;have hg:(c.zo.map vo)[k]?=some (vo x):=by rw[gy,gk hk,hx];rfl
  have mh:(x.zS.map w6).length=x.zS.length:=gC ..
  have bad:Bh x=true->mn c=true:=λh=>by
   have:c.zo.any Bh=true:=rh.2 ⟨x,bV,h⟩;simp[mn,this]
  have no:Bh x=false->∀i,(h:i<c.zo.length)->i<k+1->Bh c.zo[i]=false:=λh6 i hi hij=>by
   by_cases e:i=k
   .subst e;rw[<-hx];exact h6
   .exact hr i hi aw
  conv=>whnf
  rw[m3];refine zan ?_
  rw[mh];refine⟨λb1=>?_,λb1=>?_⟩
  .rw[bad (by simp at b1;simp[Bh];omega)];refine zad ?_
   refine zaw ?_
   exact uI
  refine dd ?_;(refine tc hg ?_)
  refine⟨λb2=>?_,λb2=>?_⟩
  .rw[bad (by simp at b2;simp[Bh];omega)];refine dd ?_;refine zaw ?_
   exact uI
  refine dd ?_;refine .inl ⟨rfl,?_,no (by simp at b1 b2;simp[Bh];omega)⟩;exact du
 .have hno:c.zo.any Bh=false:=by
   rw[pq];intro x hx;obtain⟨i,hi,rfl⟩:=pJ.1 hx;simp[hr i hi hi]
  conv=>whnf
  rw[m3];refine zaG ?_;refine qg.seq c.zO.length (λk=>(Cf c:: .ref 0 [] 3 0 0::Bo false:: .za::I k:: .za::.za::tY (jp (tY (tY (tY ([]))))))) (λk=>[⟨1,26,3,[Ae c],0⟩]) (λk=>∀j,(h:j<c.zO.length)->j<k->Bi c.zO[j]=false) ?_ aj (λk hk hr=>?_) (λhr=>?_)
  .exact cC
  .obtain⟨x,hx⟩:∃x,x=c.zO[k]:=⟨_,rfl⟩;have hg:(c.zO.map lW)[k]?=some (lW x):=by rw[gy,gk hk,hx];rfl
   have bad:Bi x=true->mn c=true:=λh=>by
    have:c.zO.any Bi=true:=rh.2 ⟨x,bV,h⟩;simp[mn,this]
   have no:Bi x=false->∀i,(h:i<c.zO.length)->i<k+1->Bi c.zO[i]=false:=λh6 i hi hij=>by
    by_cases e:i=k
    .subst e;rw[<-hx];exact h6
    .exact hr i hi aw
   conv=>whnf
   rw[m2];refine zan ?_
   refine⟨λb1=>?_,λb1=>?_⟩
   .rw[bad (by simp at b1;simp[Bi];omega)];refine zad ?_
    refine zaw ?_
    exact uI
   refine dd ?_;(refine tc hg ?_)
   refine⟨λb2=>?_,λb2=>?_⟩
   .rw[bad (by simp at b2;simp[Bi];omega)];refine dd ?_;refine zaw ?_
    exact uI
   refine dd ?_;refine .inl ⟨rfl,?_,no (by simp at b1 b2;simp[Bi];omega)⟩;exact du
  .have hno2:c.zO.any Bi=false:=by
    rw[pq];intro x hx;obtain⟨i,hi,rfl⟩:=pJ.1 hx;simp[hr i hi hi]
   conv=>whnf
   rw[m2];refine zaG ?_;have e:mn c=false:=by simp[mn,hno,hno2];omega
   rw[e];exact uI
end Go.Con
