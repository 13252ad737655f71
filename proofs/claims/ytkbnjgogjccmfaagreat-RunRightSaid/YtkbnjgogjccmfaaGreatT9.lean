import Derived.Test.YtkbnjgogjccmfaaGreatT6
import Derived.Test.YtkbnjgogjccmfaaGreatT7
import Derived.Test.YtkbnjgogjccmfaaGreatT8
import Derived.Test.YtkbnjgogjccmfaaGreatT4
import Derived.Test.YtkbnjgogjccmfaaGreatT5
import Derived.Test.YtkbnjgogjccmfaaGreatTF
import Derived.Test.YtkbnjgogjccmfaaGreatT0
import Derived.Test.YtkbnjgogjccmfaaGreatT1
set_option linter.all false
set_option maxRecDepth 100000
set_option maxHeartbeats 4000000
namespace Go.Ply
open Go.Ab Go.Proofs Tryz Go.Hy Go.Wor
def R9 {X:List ej} {t i:Nat} (x:ej) (h:t≠i):vc (X.set t x) i=vc X i:=by
 unfold vc;rw [gJ h]
def PO {X:List ej} {t:Nat} (x:ej) (h:t < X.length):vc (X.set t x) t=x.given:=by
 unfold vc;rw [dS h]
def TC {X:List ej} {t:Nat} {x:ej} (h:X[t]?= some x):vc X t=x.given:=by
 unfold vc;rw [h]
def T9 (X:List ej) (t:Nat) (x:ej):(X.mapIdx (ql 1)).set t (ql 1 t x)=(X.set t x).mapIdx (ql 1):=by
 refine g9 fun i=>?_
 rw [pb,dY,dY,pb,List.length_mapIdx];by_cases h:t=i
 ·subst h;rw [dQ rfl,dQ rfl];split <;> rfl
 ·rw [dN h,dN h]
def Ux {X:List ej} {t:Nat} {x:ej} {o:eD} {w w':Wor} {m':uw} {e:uz} (hx:X[t]?= some x) (ho:x.ops[x.done]?= some o) (hX:X.length<=8) (hgn:x.given.length<=1000) (hdn:x.done<=1000)
  (hp:tn 47 [] [.agg (zJ w),.agg (zD (yA x t o))] (.u1 [.agg (zJ w'),.agg (zD m'),.agg (zR e)]) []):
  tn 19 (mu 1 X) [.ref 0 [] 48 t 0,.agg (zJ w),I t] (.u1 [.agg (zJ w'),.agg (zR (mC e x))]) (mu 1 (X.set t (jw x m'))):=by
 have htl:=(dL.1 hx).1;have ga:=TC hx;have h8:t < 8:=aw
 have res:mu 1 (X.set t (jw x m'))=lj X ⟨1,0,48,(X.mapIdx (ql 1)).set t (ql 1 t (jw x m')),0⟩ (m8 (jw x m').given) [] t:=by
  have g:∀ i,uy (X.set t (jw x m')) i=if t=i then m8 (jw x m').given else uy X i:=fun i=>by
   split
   ·rename_i e;subst e;show uy _ t=_;unfold uy;rw [PO _ htl]
   ·rename_i e;unfold uy;rw [R9 _ e]
  rw [T9];unfold mu;rw [g 0,g 1,g 2,g 3,g 4,g 5,g 6,g 7];rcases eight h8 with rfl | rfl | rfl | rfl | rfl | rfl | rfl | rfl <;> rfl
 rw [TN X h8,res,ga];obtain ⟨ops,dn,on,m,given⟩:=x;cases on
 ·exact V0 h8 X ops dn m given w w' _ m' e o hx hX hgn hdn ho (Beg.ET t o given (by have h:given.length<=1000:=hgn;omega)) hp
 ·exact V1 h8 X ops dn m given w w' m' e hx hX hgn hdn hp
end Go.Ply
namespace Go.Wor
open Go.Ab Go.Proofs Tryz Go.Gat Go.Nam Go.Hos Go.Con Go.Sna Go.Pla Go.Ply
open Go.Hy hiding encI
structure kZ (s:eF):Prop where
 wk:Ez s
 cfg:yT s.first=true->y8 s.first
 Hx:∀ l ∈ s.threads,∀ o ∈ l,xB o.config
 names:∀ x ∈ xd s,x.length<=reachBytes
 ops:∀ l ∈ s.threads,∀ o ∈ l,o.host.length < 1000000000000000∧o.path.length < 1000000000000000∧i64 o.d0∧i64 o.d1∧(o.kind=3->xB o.config)
 zT:∀ p ∈ s.zT,i64 p
def fC (s:eF):fx:=((qj s).1,s.threads.map fT,[])
def xP (s:eF):fx:=fp (fC s) s.zT s.zT.length
def qb (s:eF):List uz × Wor × Int:=if (qj s).2=0 then ((xP s).2.2,(xP s).1,0) else ([],⟨0,0,0,[],[],[],[],[]⟩,(qj s).2)
def jZ {s:eF} (h:(qj s).2=0):fF s=true∧ir (jv s.first).1 (xd s) s.threads.length=((qj s).1,0):=by
 unfold qj at h ⊢;split at h
 ·rename_i q;rw [dQ q];exact ⟨q,by rw [<- h]⟩
 ·exact absurd (show (1:Int)=0 from h) ar
def RO {s:eF} (h:fF s=true):(xd s).length<=600:=by
 obtain ⟨p1,p2,p3,p4,p5,p6⟩:=xn h;have a:=Du [] (kU p1)
 have b:=BU kz 64 s.threads (kE [] s.first) fun l hl o=>by
  have hl2:=(p5 l hl).1;exact Ft o hl2
 have c:xd s=s.threads.foldl kz (kE [] s.first):=rfl;rw [c];simp at a;omega
def AH {s:eF} (ok:kZ s) (h:(qj s).2=0):GI 600 0 (fC s).1 (fC s).2.1:=by
 obtain ⟨q,hn⟩:=jZ h;obtain ⟨p1,p2,p3,p4,p5,p6⟩:=xn q
 exact VE hn (wT (ok.cfg p1)) (RO q) ar ok.names rfl fun l hl o ho=>by
  have a:=ok.ops l hl o ho;exact ⟨(p5 l hl).2 o ho,a.1,a.2.1,a.2.2.1,a.2.2.2.1,a.2.2.2.2⟩
def Bl {s:eF} (ok:kZ s) (h:(qj s).2=0) (k:Nat) (hk:k<=s.zT.length):GI (600+k) k (fp (fC s) s.zT k).1 (fp (fC s) s.zT k).2.1:=by
 obtain ⟨q,_⟩:=jZ h;obtain ⟨_,_,_,p4,_,_⟩:=xn q;have:=AZ (AH ok h) s.zT k hk aw aw
 rwa [gp] at this
def FQ {N K:Nat} {w:Wor} {X:List ej} (gi:GI N K w X) {t:Nat} {x:ej} (hx:X[t]?= some x):x.given.length=x.done∧x.done<=x.ops.length:=by
 obtain ⟨os,hl,hti,_⟩:=gi.own;obtain ⟨o,ho⟩:∃ o,os[t]?= some o:=⟨_,dM (by have:=(dL.1 hx).1;omega)⟩;have ti:=hti t x o hx ho;exact ⟨ti.given,ti.le⟩
def Vl (x:ej) (m:uw):(jw x m).ops=x.ops:=by unfold jw;split <;> rfl
def DX {s:eF} (ok:kZ s) (h:(qj s).2=0):∀ k,k<=s.zT.length->(fp (fC s) s.zT k).2.1.map (·.ops)=s.threads
 | 0,_=>by
  show (s.threads.map fT).map (·.ops)=s.threads;rw [pX];exact List.map_id _
 | k+1,hk=>by
  have ih:=DX ok h k aw;have gi:=Bl ok h k aw;obtain ⟨q,_⟩:=jZ h;obtain ⟨_,_,_,p4,_,_⟩:=xn q;rw [k8 (dM aw)];rcases yB gi s.zT[k] aw aw with ⟨_,e⟩ | ⟨t,x,o,r,_,hx,_,_,_,_,_,e,_⟩
  ·rw [e];exact ih
  ·rw [e];show (List.set _ t (jw x r.2.1)).map (·.ops)=_;rw [pM,Vl,<- ih];exact yD _ _ (by rw [dP,hx];rfl)
def wv (s:eF) (ok:kZ s):tn 7 [] [.agg (qv s)] (.u1 [fV (qb s).1,.agg (zJ (qb s).2.1),I (qb s).2.2]) []:=by
 have hb:=H6 s ok.wk ok.cfg ok.Hx fun _ x hx=>by have:=ok.names x hx;unfold reachBytes at this;omega
 have w:=Rz s (qj s) (fun k=>fp (fC s) s.zT k) hb (fun h=>by
   obtain ⟨q,_⟩:=jZ h;obtain ⟨_,_,p3,p4,_,p6⟩:=xn q;exact ⟨p3,p4,fun p hp=>⟨p6 p hp,ok.zT p hp⟩⟩) rfl fun h k p hp=>by
  have hk:=(dL.1 hp).1;have gi:=Bl ok h k aw;have ao:=DX ok h k aw;obtain ⟨q,_⟩:=jZ h;obtain ⟨_,_,p3,p4,p5,_⟩:=xn q;refine ⟨?_⟩;(try dsimp only)
  rw [k8 hp];rcases yB gi p aw aw with ⟨ha,e⟩ | ⟨t,x,o,r,ht,hx,ho,hsu,htm,hst,_,e,_⟩
  ·exact .inl ⟨ha,e⟩
  ·right
   have tk:=FQ gi hx;have xo:x.ops ∈ s.threads:=by rw [<- ao];exact gG.2 ⟨x,dO hx,rfl⟩
   have xl:=(p5 x.ops xo).1
   have hX:(fp (fC s) s.zT k).2.1.length<=8:=by
    have:=pW List.length ao;rw [dR] at this;omega
   rw [e];exact ⟨t,x,mC r.2.2 x,ht,hx,by show (List.set _ _ _).length=_;rw [rA],rfl,Ux hx ho hX aw aw (Qu hsu gi.st.ty htm aw hst)⟩
 unfold qb;by_cases h:(qj s).2=0
 ·rw [dQ h,dQ h] at w;rw [dQ h];rw [h] at w;exact w
 ·rw [dN h,dN h] at w;rw [dN h];exact w
end Go.Wor
namespace Go.Run
open Go.Ab Go.Proofs Tryz Go.Hy Go.Gat Go.Nam Go.Hos Go.Con
def ng (o:eD):Bool:=ia o.config || (decide (100 < o.host.length) || decide (100 < o.path.length))
def nK (l:List eD):Bool:=decide (40 < l.length) || l.any ng
def iW (s:eF):Bool:=ia s.first || decide (20 < s.threads.length) || decide (5000 < s.zT.length) || s.threads.any nK
structure HJ (s:eF):Prop where
 first:s.first.zd.length < 4000000000000000000∧s.first.zP.length < 4000000000000000000∧s.first.zk.length < 4000000000000000000
 threads:s.threads.length < 4000000000000000000
 ops:∀ l ∈ s.threads,l.length < 4000000000000000000
 cfg:∀ l ∈ s.threads,∀ o ∈ l,o.config.zd.length < 4000000000000000000∧o.config.zP.length < 4000000000000000000∧o.config.zk.length < 4000000000000000000
def Jo (s:eF) (hs:HJ s):tn 8 [] [.agg (qv s)] (Bo (iW s)) []:=by
 have m1:(s.threads.map xi).length=s.threads.length:=dR ..;have m2:(s.zT.map Go.Hy.encI).length=s.zT.length:=dR ..;have hf:=hs.first;have ht:=hs.threads;refine ab func8 ?_;refine ah (Kb s.first hf.1 hf.2.1 hf.2.2) ?_;(refine ⟨fun a1=>?_,fun a1=>?_⟩);(focus ((have e:iW s=true:=(by (try simp at a1);simp [iW];first | omega | (rw [a1];simp)));(rw [e]);refine dd ?_;refine tc ?_;exact uI));refine dd ?_
 rw [m1];(refine ⟨fun a2=>?_,fun a2=>?_⟩);(focus ((have e:iW s=true:=(by (try simp at a2);simp [iW];first | omega | (rw [a2];simp)));(rw [e]);refine dd ?_;refine tc ?_;exact uI));refine dd ?_
 rw [m2];(refine ⟨fun a3=>?_,fun a3=>?_⟩);(focus ((have e:iW s=true:=(by (try simp at a3);simp [iW];first | omega | (rw [a3];simp)));(rw [e]);refine dd ?_;refine tc ?_;exact uI));refine dd ?_
 refine tc ?_
 have eW:iW s=s.threads.any nK:=by
  unfold iW;simp at a2 a3;rw [a1,pL aw,pL aw]
  rfl
 refine zZ.seq s.threads.length (fun k=>(.za::.ref 0 [] 5 0 0::Bo false::I k:: tZ (tZ (tZ (tZ (tZ (tZ (tZ (tZ ([])))))))))) (fun k=>[⟨1,30,5,[qv s],0⟩]) (fun k=>∀ j,(h:j < s.threads.length)->j < k->nK s.threads[j]=false) ?_ aj (fun k hk hr=>?_) (fun hr=>?_)
 ·exact cC
 ·obtain ⟨v,hx⟩:∃ v,v=s.threads[k]:=⟨_,rfl⟩;have hv:v ∈ s.threads:=by rw [hx];exact dH
  have hg:(s.threads.map xi)[k]?= some (xi v):=by rw [dP,dM hk,hx];rfl
  have mg:(v.map vb).length=v.length:=dR ..
  have bad:nK v=true->iW s=true:=fun h=>by
   rw [eW];exact pH.2 ⟨v,hv,h⟩
  have bg:=hs.ops v hv;conv=>whnf
  rw [m1];refine uF ?_;(refine td hg ?_)
  rw [mg];refine ⟨fun c2=>?_,fun c2=>?_⟩
  ·rw [bad (by unfold nK;rw [ru (by simp at c2;omega)];rfl)];refine dd ?_;(refine .inr ⟨aj,uH ?_⟩)
   exact uI
  refine dd ?_;refine zZ.seq v.length (fun j=>(.za::.ref 0 [] 5 0 0::Bo false::I k::I j:: .za::.za::.za::.za::.za::.za::.za::tZ (tZ (tZ (tZ (tZ (tZ (tZ ([]))))))))) (fun j=>[⟨1,30,5,[qv s],0⟩]) (fun j=>∀ i,(h:i < v.length)->i < j->ng v[i]=false) ?_ aj (fun j hj hrj=>?_) (fun hrj=>?_)
  ·exact cC
  ·obtain ⟨o,hxg⟩:∃ o,o=v[j]:=⟨_,rfl⟩;have ho:o ∈ v:=by rw [hxg];exact gQ hj
   have hgg:(v.map vb)[j]?= some (vb o):=by rw [dP,dM hj,hxg];rfl
   have hc:=hs.cfg v hv o ho
   have badg:ng o=true->iW s=true:=fun h=>bad (by
    have:v.any ng=true:=pH.2 ⟨o,ho,h⟩;unfold nK;rw [this,sI])
   conv=>whnf
   (refine td hg ?_)
   rw [mg];refine uF ?_;(refine td hg ?_)
   (refine td hgg ?_)
   refine ah (Kb o.config hc.1 hc.2.1 hc.2.2) ?_;refine ⟨fun c3=>?_,fun c3=>?_⟩
   ·rw [badg (by unfold ng;rw [c3];rfl)];refine dd ?_;refine tc ?_
    (refine .inr ⟨aj,uH ?_⟩)
    (try (refine .inr ⟨aj,uH ?_⟩))
    exact uI
   refine dd ?_;refine ⟨fun c4=>?_,fun c4=>?_⟩
   ·rw [badg (by unfold ng;rw [c3,ru (by simp at c4;omega)];rfl)];refine dd ?_;refine tc ?_
    (refine .inr ⟨aj,uH ?_⟩)
    (try (refine .inr ⟨aj,uH ?_⟩))
    exact uI
   refine dd ?_;refine ⟨fun c5=>?_,fun c5=>?_⟩
   ·rw [badg (by unfold ng;rw [c3,ru (p:=100 < o.path.length) (by simp at c5;omega)];simp)];refine dd ?_;refine tc ?_
    (refine .inr ⟨aj,uH ?_⟩)
    (try (refine .inr ⟨aj,uH ?_⟩))
    exact uI
   refine dd ?_;refine tc ?_
   refine .inl ⟨rfl,?_,fun i hi hij=>?_⟩
   ·exact dt
   ·by_cases e:i=j
    ·subst e;rw [<- hxg];unfold ng;rw [c3,pL (by simp at c4;omega),pL (by simp at c5;omega)]
     rfl
    ·exact hrj i hi aw
  ·have h0:v.any ng=false:=by
    rw [gP];intro x hx;obtain ⟨i,hi,rfl⟩:=pa.1 hx;simp [hrj i hi hi]
   have no:nK v=false:=by unfold nK;rw [h0,pL (by simp at c2;omega)];rfl
   conv=>whnf
   (refine td hg ?_)
   rw [mg];refine ⟨fun h=>absurd h aj,fun _=>dd ?_⟩;refine ⟨aj,uH ?_⟩;refine .inl ⟨rfl,?_,fun i hi hij=>?_⟩
   ·exact dt
   ·by_cases e:i=k
    ·subst e;rw [<- hx];exact no
    ·exact hr i hi aw
 ·have h0:s.threads.any nK=false:=by
   rw [gP];intro x hx;obtain ⟨i,hi,rfl⟩:=pa.1 hx;simp [hr i hi hi]
  rw [eW,h0];conv=>whnf
  rw [m1];exact cZ
def Pr (l:List uz) (hl:l.length < 4000000000000000000):tn 13 [] [fV l,fV l] (Bo true) []:=by
 have m1:(l.map zR).length=l.length:=dR ..;refine ab func13 ?_;refine ⟨fun h=>absurd h aj,fun _=>dd ?_⟩;refine zZ.seq l.length (fun k=>((fV l)::(fV l)::.za::.za::Bo false::I k::tZ (tZ ([.za,.za,.za,.za])))) (fun k=>[]) (fun _=>True) ?_ trivial (fun k hk _=>?_) (fun _=>?_)
 ·exact cC
 ·have hg:(l.map zR)[k]?= some (zR l[k]):=by rw [dP,dM hk];rfl
  conv=>whnf
  rw [m1];refine uF ?_;refine uE ?_;(refine td hg ?_)
  (refine td hg ?_)
  refine ⟨au,dd ?_⟩;refine ⟨fun h=>absurd h aj,fun _=>dd ?_⟩;exact dF
 ·conv=>whnf
  rw [m1];exact cZ
end Go.Run
namespace Go.Run
open Go.Ab Go.Proofs Tryz Go.Gat Go.Nam Go.Hos Go.Con Go.Sna Go.Pla Go.Ply Go.Wor
open Go.Hy hiding encI
abbrev fS:u4:=[105,110]
abbrev oz:eP:=⟨[fS],[⟨fS,[42],[47],[97]⟩],[⟨[97],1,1,[true]⟩]⟩
abbrev mS:eD:=⟨1,fS,[120],[47],0,0,0,⟨[],[],[]⟩⟩
abbrev vi (k:Nat):List Int:=(List.range k).map fun i=>((i / 10:Nat):Int)
abbrev WX (k:Nat):eF:=⟨oz,[[mS,⟨2,[],[],[],0,0,0,⟨[],[],[]⟩⟩,mS],[⟨4,fS,[],[],0,0,0,⟨[],[],[]⟩⟩]],vi k⟩
abbrev j8:eF:=WX 60
def BE (k:Int) (l h p:u4):List C:=[I k,Tx l,Tx h,Tx p,I 0,I 0,I 0,.uv 1 0 [],.uv 1 0 [],.uv 1 0 []]
def Eo:List C:=[.uv 1 1 [[Tx fS]],.uv 1 4 [[Tx fS,Tx [42],Tx [47],Tx [97]]],.uv 1 4 [[Tx [97],I 1,I 1,.uv 1 1 [[Bo true]]]]]
def Bt (p:C):List C:=Eo++[.uv 1 1 [[.uv 1 10 [BE 1 fS [120] [47],BE 2 [] [] [],BE 1 fS [120] [47]]],[.uv 1 10 [BE 4 fS [] []]]],p]
def Pl (k:Nat):vi (k+1)=vi k++[((k / 10:Nat):Int)]:=by
 unfold vi;rw [uo,pB]
 rfl
def ES:tn 21 [] [] (.agg (Bt (lI (vi 60)))) []:=by
 refine ab func21 ?_;refine zZ.seq 60 (fun k=>(.ref 0 [] 5 0 0::.za::.za::.ref 3 [] 5 0 0::I k::tZ (tZ (tZ ([.za,.za,.za,.za,.za]))))) (fun k=>[⟨1,30,5,[[.uv 1 0 [],.uv 1 0 [],.uv 1 0 [],.uv 1 0 [],.uv 1 0 []]],0⟩,⟨1,26,3,[Eo],0⟩,⟨1,67,10,[BE 1 fS [120] [47]],0⟩,⟨1,30,5,[Bt (.gl 4 1 ((vi k).map Go.Hy.encI))],0⟩,⟨4,3,1,(vi k).map Go.Hy.encI,0⟩]) (fun _=>True) ?_ trivial (fun k hk _=>?_) (fun _=>?_)
 ·exact (zo.nv 3 4 3 1 rfl rfl (.inl rfl) rfl rfl).trans (cC)
 ·have mp:((vi k).map Go.Hy.encI).length=k:=by simp
  conv=>whnf
  refine uF ?_;refine ⟨rfl,.inr rfl,by rw [mp];simp [maxLen];omega,by rw [mp];show _ * 8<=_;simp;omega,dd ?_⟩;refine .inl ⟨rfl,?_,trivial⟩
  have e:IntKind.i64.wrap ((k:Int).tdiv 10)=((k / 10:Nat):Int):=by
   have:(k:Int).tdiv 10=((k / 10:Nat):Int):=rfl;rw [this,q9 aw aw]
  have e2:(vi k).map Go.Hy.encI++[[I ((k / 10:Nat):Int)]]=(vi (k+1)).map Go.Hy.encI:=by rw [Pl,pB];rfl
  rw [zu aw,e,e2];exact cC
 ·refine uD ?_;exact uI
def T8 {n:Nat} {w w':Wor} {m m':uw} {t:Int} {o:eD} (hb:tn 46 [] [I t,.agg (vb o),lA []] (.agg (zD m)) []) (hg:ot n w m w' m') (hn:n<=3000):
  tn 22 [] [.agg (zJ w),I t,.agg (vb o),lA []] (.u1 [.agg (zJ w'),.agg (xz m'.answer),I n]) []:=by
 refine ab func22 ?_;refine ah hb ?_;refine zZ.inv (fun i t1 H1=>∃ (k:Nat) (wk:Wor) (mk:uw),k+i=n∧ot i wk mk w' m'∧t1=(.za::.za::.za::.za::.ref 0 [] 8 0 0::.za::.ref 1 [] 10 0 0::.za::.ref 2 [] 8 0 0::.ref 3 [] 13 0 0::I 0::.ref 4 [] 44 0 0::.ref 5 [] 8 0 0::tZ (.za::I k::tZ (tZ (tZ ([])))))∧H1=[⟨1,37,8,[zJ (w)],0⟩,⟨1,67,10,[vb o],0⟩,⟨1,37,8,[[I 0,I 0,I 0,.uv 1 0 [],.uv 1 0 [],.uv 1 0 [],.uv 1 0 [],.uv 1 0 []]],0⟩,⟨1,46,13,[xz ⟨0,0,0,0,0,0,0,⟨0,0,0,0,0,0⟩⟩],0⟩,⟨1,69,44,[zD (mk)],0⟩,⟨1,37,8,[zJ (wk)],0⟩]) n ?_ ?_
 ·exact ⟨_,_,cC,0,w,m,aj,hg,rfl,rfl⟩
 rintro i _ _ ⟨k,wk,mk,hk,hg,rfl,rfl⟩;have hi:1<=i:=by cases hg <;> omega
 conv=>whnf
 refine uF ?_;cases hg with
 | last h he hd=>
  refine ah h ?_;refine ⟨fun h=>absurd h (aq he),fun _=>dd ?_⟩;refine .inl ⟨⟨false,[1],[7],[]⟩,au,uH ?_⟩;refine hZ ?_
  refine ⟨fun _=>dd ?_,fun h=>absurd ((hd).symm.trans h:true=false) ar⟩;refine .inl ⟨⟨false,[2],[4],[]⟩,au,uH ?_⟩;refine hZ ?_
  refine .inr ⟨aj,uH ?_⟩;rw [zu aw,show k+1=n from aw];exact uI
 | more h he hd hg=>
  refine ah h ?_;refine ⟨fun h=>absurd h (aq he),fun _=>dd ?_⟩;refine .inl ⟨⟨false,[1],[7],[]⟩,au,uH ?_⟩;refine hZ ?_
  refine ⟨fun h=>absurd ((hd).symm.trans h:false=true) ar,fun _=>dd ?_⟩;rw [zu aw];exact .inl ⟨rfl,_,_,_,Nat.lt_succ_self _,cE 6,k+1,_,_,aw,hg,rfl,rfl⟩
def Rl {w:Wor} {m m2:uw} {w2:Wor} {e:uz} {t:Int} {o:eD} (hb:tn 46 [] [I t,.agg (vb o),lA []] (.agg (zD m)) []) (h:tn 47 [] [Sw w,Sm m] (Sr w2 m2 e) []) (he:e.access=0):
  tn 22 [] [.agg (zJ w),I t,.agg (vb o),lA []] (.u1 [.agg (zJ w),.agg (xz ⟨0,0,0,0,0,0,0,⟨0,0,0,0,0,0⟩⟩),I 0]) []:=by
 refine ab func22 ?_;refine ah hb ?_;refine od.CX 1 (LoopN.step ?_);conv=>whnf
 refine tc ?_
 refine ah h ?_;refine ⟨fun _=>dd ?_,fun z=>absurd z (by simp [he])⟩;(refine .inr ⟨aj,uH ?_⟩)
 exact uI
def OL (w:Wor) (m:uw) (ok:fe w) (hl:i64 m.listen) (hpc:m.pc=0) (hs:zY w m=false):tn 98 [] [Cw w,Cm m] (.u1 [Cw w,Cm m,Ce Ply.Br]) []:=by
 refine ab func98 ?_;(repeat (first | refine uA ?_ | refine uB ?_))
 refine ah (zO w m ok hl) ?_;refine ⟨fun h=>absurd ((hs).symm.trans h:false=true) ar,fun _=>dd ?_⟩;refine tc ?_
 refine .inl ⟨⟨false,[1],[1],[]⟩,au,uH ?_⟩;refine hZ ?_
 exact uI
abbrev ou:eF:=⟨⟨[],[],[]⟩,[],[]⟩
abbrev o8 (c:eP):eD:=⟨3,[],[],[],0,0,0,c⟩
def Pm {l:List uz} {w b x zw:Wor} {c0 c1 c2 c3:Cal} (hP:tn 7 [] [.agg (Bt (lI (vi 60)))] (.u1 [fV l,.agg (zJ w),I 0]) []) (hl:l.length=30) (hC:tn 11 [] [fV l] (.u1 [At [c0,c1,c2,c3],I 0]) [])
  (hE:tn 7 [] [.agg [.uv 1 0 [],.uv 1 0 [],.uv 1 0 [],.uv 1 0 [],.uv 1 0 []]] (.u1 [fV [],.agg (zJ zw),I 1]) []) (hB:tn 16 [] [.agg (Bt (lI (vi 60)))] (.u1 [.agg (zJ b),I 0]) [])
  (hA:tn 22 [] [.agg (zJ b),I 0,.agg ([I 3,Tx [],Tx [],Tx [],I 0,I 0,I 0]++Eo),.uv 1 0 []] (.u1 [.agg (zJ x),.agg (xz ⟨8,1,0,0,0,0,0,⟨0,0,0,0,0,0⟩⟩),I (3:Nat)]) [])
  (hN:tn 22 [] [.agg (zJ b),I 9,.agg [I 3,Tx [],Tx [],Tx [],I 0,I 0,I 0,.uv 1 0 [],.uv 1 0 [],.uv 1 0 []],.uv 1 0 []] (.u1 [.agg (zJ b),.agg (xz ⟨0,0,0,0,0,0,0,⟨0,0,0,0,0,0⟩⟩),I 0]) [])
  (hH:tn 23 [] [.agg (zJ w)] (I (0:Nat)) []) (k0:c0.answer.kind=1) (k1:c1.answer.kind=10) (t1:c1.zf=1) (k2:c2.answer.kind=6) (k3:c3.answer.kind=5) (hw:w.zd=[⟨fS,true,0,false⟩]) (hb:b.pins.length=2) (hx:x.current=1):
  tn 9 [] [] (Bo true) []:=by
 have ml:(l.map zR).length=30:=(dR ..).trans hl;obtain ⟨w1,w2,w3,w4,w5,w6,w7,w8⟩:=w;have hw:w6=[⟨fS,true,0,false⟩]:=hw;subst hw;obtain ⟨x1,x2,x3,x4,x5,x6,x7,x8⟩:=x;have hx:x2=1:=hx;subst hx;have mb:(b.pins.map Go.Hy.encI).length=2:=(dR ..).trans hb;obtain ⟨d1,d2,d3,d4,d5,⟨a1,a2,a3,a4,a5,a6,a7,a8⟩⟩:=c0;obtain ⟨f1,f2,f3,f4,f5,⟨g1,g2,g3,g4,g5,g6,g7,g8⟩⟩:=c1;obtain ⟨h1,h2,h3,h4,h5,⟨i1,i2,i3,i4,i5,i6,i7,i8⟩⟩:=c2;obtain ⟨j1,j2,j3,j4,j5,⟨p1,p2,p3,p4,p5,p6,p7,p8⟩⟩:=c3;have k0:a1=1:=k0;have k1:g1=10:=k1;have t1:f1=1:=t1;have k2:i1=6:=k2;have k3:p1=5:=k3;subst k0 k1 t1 k2 k3;refine ab func9 ?_;refine ah ES ?_;refine ah hP ?_;refine ah hC ?_;refine ah hE ?_;refine ah ES ?_;refine ah hB ?_;refine .inr ⟨⟨[0,1,4],[2],false⟩,au,fun h=>absurd h ar,fun t1 H1=>(t1=(.za::fV l:: .ref 0 [] 8 0 0::I 0::At [⟨d1,d2,d3,d4,d5,⟨1,a2,a3,a4,a5,a6,a7,a8⟩⟩,⟨1,f2,f3,f4,f5,⟨10,g2,g3,g4,g5,g6,g7,g8⟩⟩,⟨h1,h2,h3,h4,h5,⟨6,i2,i3,i4,i5,i6,i7,i8⟩⟩,⟨j1,j2,j3,j4,j5,⟨5,p2,p3,p4,p5,p6,p7,p8⟩⟩]::I 0:: .za::.za::I 1:: .ref 2 [] 8 0 0::I 0:: .ref 3 [] 8 0 0:: .ref 4 [] 13 0 0::I (3:Nat):: .za::.za::tZ (tZ (tZ (tZ (tZ (tZ (tZ (tZ (tZ (tZ (tZ (tZ (tZ (tZ (tZ (tZ (tZ (tZ (tZ ([]))))))))))))))))))))∧H1=[⟨1,37,8,[zJ ⟨w1,w2,w3,w4,w5,[⟨fS,true,0,false⟩],w7,w8⟩],0⟩,⟨1,37,8,[zJ (zw)],0⟩,⟨1,37,8,[zJ (b)],0⟩,⟨1,37,8,[zJ ⟨x1,1,x3,x4,x5,x6,x7,x8⟩],0⟩,⟨1,46,13,[xz (⟨8,1,0,0,0,0,0,⟨0,0,0,0,0,0⟩⟩)],0⟩])∨(t1=(.za::fV l:: .ref 0 [] 8 0 0::I 0::At [⟨d1,d2,d3,d4,d5,⟨1,a2,a3,a4,a5,a6,a7,a8⟩⟩,⟨1,f2,f3,f4,f5,⟨10,g2,g3,g4,g5,g6,g7,g8⟩⟩,⟨h1,h2,h3,h4,h5,⟨6,i2,i3,i4,i5,i6,i7,i8⟩⟩,⟨j1,j2,j3,j4,j5,⟨5,p2,p3,p4,p5,p6,p7,p8⟩⟩]::I 0:: .za::.za::I 1:: .ref 2 [] 8 0 0::I 0:: .ref 4 [] 8 0 0:: .ref 3 [] 13 0 0::I (3:Nat):: .za::.za::tZ (tZ (tZ (tZ (tZ (tZ (tZ (tZ (tZ (tZ (tZ (tZ (tZ (tZ (tZ (tZ (tZ (tZ (tZ ([]))))))))))))))))))))∧H1=[⟨1,37,8,[zJ ⟨w1,w2,w3,w4,w5,[⟨fS,true,0,false⟩],w7,w8⟩],0⟩,⟨1,37,8,[zJ (zw)],0⟩,⟨1,37,8,[zJ (b)],0⟩,⟨1,46,13,[xz (⟨8,1,0,0,0,0,0,⟨0,0,0,0,0,0⟩⟩)],0⟩,⟨1,37,8,[zJ ⟨x1,1,x3,x4,x5,x6,x7,x8⟩],0⟩]),?_,?_⟩
 ·conv=>whnf
  repeat' (first | (exact trivial) | (refine ⟨rfl,uH ?_⟩) | (refine ⟨_,fun H2 _=>ES.frame rfl H2,uH ?_⟩) | (refine ⟨_,fun H2 _=>(show zb _ _ _ _ _ _ from hA).frame rfl H2,uH ?_⟩) | (exact ⟨_,_,cC,.inl ⟨rfl,rfl⟩⟩) | (exact ⟨_,_,cC,.inr ⟨rfl,rfl⟩⟩) | (refine And.intro ?_ ?_ <;> (conv=>whnf)))
 rintro _ _ (⟨rfl,rfl⟩ | ⟨rfl,rfl⟩)
 ·conv=>whnf
  refine ah hN ?_;(repeat (first | ((refine ya (dd ?_))) | ((refine yb (dd ?_))) | (rw [ml]) | (rw [mb]) | (refine ⟨ar,_,rfl,dd ?_⟩) | (refine ah hH ?_) | (refine ⟨au,dd ?_⟩)))
  exact uI
 ·conv=>whnf
  refine ah hN ?_;(repeat (first | ((refine ya (dd ?_))) | ((refine yb (dd ?_))) | (rw [ml]) | (rw [mb]) | (refine ⟨ar,_,rfl,dd ?_⟩) | (refine ah hH ?_) | (refine ⟨au,dd ?_⟩)))
  exact uI
def oF:kZ j8:=by
 refine ⟨⟨⟨⟨ar,ar⟩,⟨ar,ar⟩,⟨ar,ar⟩⟩,ar,ar,aj⟩,fun _=>⟨⟨ar,ar⟩,⟨ar,ar⟩,⟨ar,ar⟩⟩,?_,?_,?_,?_⟩
 ·intro l hl o ho
  have:o.config=⟨[],[],[]⟩:=by
   have hl:l=[mS,⟨2,[],[],[],0,0,0,⟨[],[],[]⟩⟩,mS]∨l=[⟨4,fS,[],[],0,0,0,⟨[],[],[]⟩⟩]:=aq hl
   rcases hl with rfl | rfl
   ·have ho:o=mS∨o=⟨2,[],[],[],0,0,0,⟨[],[],[]⟩⟩∨o=mS:=by simpa using ho
    rcases ho with rfl | rfl | rfl <;> rfl
   ·have ho:o=⟨4,fS,[],[],0,0,0,⟨[],[],[]⟩⟩:=by simpa using ho
    rw [ho]
  rw [this];exact ⟨⟨ar,ar⟩,⟨ar,ar⟩,⟨ar,ar⟩⟩
 ·intro x hx;have e:xd j8=[fS]:=by kernel_rfl
  rw [e] at hx;rw [gI.1 hx]
  decide
 ·intro l hl o ho;have hl:l=[mS,⟨2,[],[],[],0,0,0,⟨[],[],[]⟩⟩,mS]∨l=[⟨4,fS,[],[],0,0,0,⟨[],[],[]⟩⟩]:=by simpa using hl
  have k:o=mS∨o=⟨2,[],[],[],0,0,0,⟨[],[],[]⟩⟩∨o=⟨4,fS,[],[],0,0,0,⟨[],[],[]⟩⟩:=by
   rcases hl with rfl | rfl
   ·have ho:o=mS∨o=⟨2,[],[],[],0,0,0,⟨[],[],[]⟩⟩∨o=mS:=by simpa using ho
    rcases ho with rfl | rfl | rfl
    ·exact .inl rfl
    ·exact .inr (.inl rfl)
    ·exact .inl rfl
   ·have ho:o=⟨4,fS,[],[],0,0,0,⟨[],[],[]⟩⟩:=by simpa using ho
    exact .inr (.inr ho)
  rcases k with rfl | rfl | rfl
  ·exact ⟨ar,ar,ar,ar,fun h=>absurd h ar⟩
  ·exact ⟨ar,ar,ar,ar,fun h=>absurd h ar⟩
  ·exact ⟨ar,ar,ar,ar,fun h=>absurd h ar⟩
 ·intro p hp;obtain ⟨i,hi,rfl⟩:=gG.1 hp;have:=pG.1 hi;unfold i64;omega
def MT:kZ ou:=by
 refine ⟨⟨⟨⟨ar,ar⟩,⟨ar,ar⟩,⟨ar,ar⟩⟩,ar,ar,ar⟩,fun _=>⟨⟨ar,ar⟩,⟨ar,ar⟩,⟨ar,ar⟩⟩,fun l hl=>(by cases hl),?_,fun l hl=>(by cases hl),fun p hp=>(by cases hp)⟩;intro x hx;have e:xd ou=[]:=au
 rw [e] at hx;cases hx
end Go.Run
