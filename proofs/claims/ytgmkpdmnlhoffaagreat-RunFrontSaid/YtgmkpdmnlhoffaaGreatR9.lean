import Derived.Test.YtgmkpdmnlhoffaaGreatR6
import Derived.Test.YtgmkpdmnlhoffaaGreatR7
import Derived.Test.YtgmkpdmnlhoffaaGreatR8
import Derived.Test.YtgmkpdmnlhoffaaGreatR4
import Derived.Test.YtgmkpdmnlhoffaaGreatR5
import Derived.Test.YtgmkpdmnlhoffaaGreatRF
import Derived.Test.YtgmkpdmnlhoffaaGreatR0
import Derived.Test.YtgmkpdmnlhoffaaGreatR1
set_option linter.all false
set_option maxRecDepth 100000
set_option maxHeartbeats 4000000
namespace Go.Ply
open Go.Ab Go.Proofs Go.Hy Go.Wor
theorem znR {X:List Thr} {t i:Nat} (x:Thr) (h:t≠i):yO (X.set t x) i=yO X i:=by
 unfold yO;rw [List.getElem?_set_ne h]
theorem zlp {X:List Thr} {t:Nat} (x:Thr) (h:t < X.length):yO (X.set t x) t=x.given:=by
 unfold yO;rw [List.getElem?_set_self h]
theorem zpM {X:List Thr} {t:Nat} {x:Thr} (h:X[t]?= some x):yO X t=x.given:=by
 unfold yO;rw [h]
theorem zrb (X:List Thr) (t:Nat) (x:Thr):(X.mapIdx (ql 1)).set t (ql 1 t x)=(X.set t x).mapIdx (ql 1):=by
 refine List.ext_getElem? fun i=>?_
 rw [List.getElem?_mapIdx,List.getElem?_set,List.getElem?_set,List.getElem?_mapIdx,List.length_mapIdx];by_cases h:t=i
 ·subst h;rw [if_pos rfl,if_pos rfl];split <;> rfl
 ·rw [if_neg h,if_neg h]
theorem zqJ {X:List Thr} {t:Nat} {x:Thr} {o:Opn} {w w':Wor} {m':Mac} {e:Eve} (hx:X[t]?= some x) (ho:x.ops[x.done]?= some o) (hX:X.length<=8) (hgn:x.given.length<=1000) (hdn:x.done<=1000)
  (hp:zb Tryz.prog 58 [] [.agg (zJ w),.agg (zD (zga x t o))] (.tup [.agg (zJ w'),.agg (zD m'),.agg (zQ e)]) []):
  zb Tryz.prog 43 (zar 1 X) [.ref 0 [] 48 t 0,.agg (zJ w),I t] (.tup [.agg (zJ w'),.agg (zQ (zky e x))]) (zar 1 (X.set t (xu x m'))):=by
 have htl:=(List.getElem?_eq_some_iff.1 hx).1;have ga:=zpM hx;have h8:t < 8:=by omega
 have res:zar 1 (X.set t (xu x m'))=hp9 X ⟨1,0,48,(X.mapIdx (ql 1)).set t (ql 1 t (xu x m')),0⟩ (zfP (xu x m').given) [] t:=by
  have g:∀ i,gro (X.set t (xu x m')) i=if t=i then zfP (xu x m').given else gro X i:=fun i=>by
   split
   ·rename_i e;subst e;show gro _ t=_;unfold gro;rw [zlp _ htl]
   ·rename_i e;unfold gro;rw [znR _ e]
  rw [zrb];unfold zar;rw [g 0,g 1,g 2,g 3,g 4,g 5,g 6,g 7];rcases eight h8 with rfl | rfl | rfl | rfl | rfl | rfl | rfl | rfl <;> rfl
 rw [zpW X h8,res,ga];obtain ⟨ops,dn,on,m,given⟩:=x;cases on
 ·exact zt7 h8 X ops dn m given w w' _ m' e o hx hX hgn hdn ho (Beg.zaI t o given (by have h:given.length<=1000:=hgn;omega)) hp
 ·exact zt8 h8 X ops dn m given w w' m' e hx hX hgn hdn hp
end Go.Ply
namespace Go.Wor
open Go.Ab Go.Proofs Go.Gat Go.Nam Go.Hos Go.Con Go.Sna Go.Pla Go.Ply
open Go.Hy hiding encI
structure zbP (s:Scr):Prop where
 wk:WkR s
 cfg:wm s.first=true->xf s.first
 zsQ:∀ l ∈ s.threads,∀ o ∈ l,ko o.config
 names:∀ x ∈ xF s,x.length<=reachBytes
 ops:∀ l ∈ s.threads,∀ o ∈ l,o.host.length < 1000000000000∧o.path.length < 1000000000000∧i64 o.d0∧i64 o.d1∧(o.kind=3->xf o.config)
 zY:∀ p ∈ s.zY,i64 p
def s0P (s:Scr):Pst:=((qU s).1,s.threads.map zbi,[])
def zmW (s:Scr):Pst:=atP (s0P s) s.zY s.zY.length
def qM (s:Scr):List Eve × Wor × Int:=if (qU s).2=0 then ((zmW s).2.2,(zmW s).1,0) else ([],⟨0,0,0,[],[],[],[],[]⟩,(qU s).2)
theorem yn {s:Scr} (h:(qU s).2=0):isS s=true∧zck (ji s.first).1 (xF s) s.threads.length=((qU s).1,0):=by
 unfold qU at h ⊢;split at h
 ·rename_i q;rw [if_pos q];exact ⟨q,by rw [<- h]⟩
 ·exact absurd (show (1:Int)=0 from h) (by decide)
theorem zol {s:Scr} (h:isS s=true):(xF s).length<=600:=by
 obtain ⟨p1,p2,p3,p4,p5,p6⟩:=yH h;have a:=zcC [] (ki p1)
 have b:=zaS vN 64 s.threads (kq [] s.first) fun l hl o=>by
  have hl2:=(p5 l hl).1;exact zdz o hl2
 have c:xF s=s.threads.foldl vN (kq [] s.first):=rfl;rw [c];simp at a;omega
theorem zfn {s:Scr} (ok:zbP s) (h:(qU s).2=0):GI 600 0 (s0P s).1 (s0P s).2.1:=by
 obtain ⟨q,hn⟩:=yn h;obtain ⟨p1,p2,p3,p4,p5,p6⟩:=yH q
 exact zs3 hn (k9 (ok.cfg p1)) (zol q) (by decide) ok.names rfl fun l hl o ho=>by
  have a:=ok.ops l hl o ho;exact ⟨(p5 l hl).2 o ho,a.1,a.2.1,a.2.2.1,a.2.2.2.1,a.2.2.2.2⟩
theorem zmP {s:Scr} (ok:zbP s) (h:(qU s).2=0) (k:Nat) (hk:k<=s.zY.length):GI (600+k) k (atP (s0P s) s.zY k).1 (atP (s0P s) s.zY k).2.1:=by
 obtain ⟨q,_⟩:=yn h;obtain ⟨_,_,_,p4,_,_⟩:=yH q;have:=zkP (zfn ok h) s.zY k hk (by omega) (by omega)
 rwa [Nat.zero_add] at this
theorem zqR {N K:Nat} {w:Wor} {X:List Thr} (gi:GI N K w X) {t:Nat} {x:Thr} (hx:X[t]?= some x):x.given.length=x.done∧x.done<=x.ops.length:=by
 obtain ⟨os,hl,hti,_⟩:=gi.own;obtain ⟨o,ho⟩:∃ o,os[t]?= some o:=⟨_,List.getElem?_eq_getElem (by have:=(List.getElem?_eq_some_iff.1 hx).1;omega)⟩;have ti:=hti t x o hx ho;exact ⟨ti.given,ti.le⟩
theorem zrT (x:Thr) (m:Mac):(xu x m).ops=x.ops:=by unfold xu;split <;> rfl
theorem zpn {s:Scr} (ok:zbP s) (h:(qU s).2=0):∀ k,k<=s.zY.length->(atP (s0P s) s.zY k).2.1.map (·.ops)=s.threads
 | 0,_=>by
  show (s.threads.map zbi).map (·.ops)=s.threads;rw [List.map_map];exact List.map_id _
 | k+1,hk=>by
  have ih:=zpn ok h k (by omega);have gi:=zmP ok h k (by omega);obtain ⟨q,_⟩:=yn h;obtain ⟨_,_,_,p4,_,_⟩:=yH q;rw [zcF (List.getElem?_eq_getElem (by omega))];rcases zam gi s.zY[k] (by omega) (by omega) with ⟨_,e⟩ | ⟨t,x,o,r,_,hx,_,_,_,_,_,e,_⟩
  ·rw [e];exact ih
  ·rw [e];show (List.set _ t (xu x r.2.1)).map (·.ops)=_;rw [List.map_set,zrT,<- ih];exact yg _ _ (by rw [List.getElem?_map,hx];rfl)
theorem zan (s:Scr) (ok:zbP s):zb Tryz.prog 17 [] [.agg (qH s)] (.tup [lEv (qM s).1,.agg (zJ (qM s).2.1),I (qM s).2.2]) []:=by
 have hb:=zba s ok.wk ok.cfg ok.zsQ fun _ x hx=>by have:=ok.names x hx;unfold reachBytes at this;omega
 have w:=zoF s (qU s) (fun k=>atP (s0P s) s.zY k) hb (fun h=>by
   obtain ⟨q,_⟩:=yn h;obtain ⟨_,_,p3,p4,_,p6⟩:=yH q;exact ⟨p3,p4,fun p hp=>⟨p6 p hp,ok.zY p hp⟩⟩) rfl fun h k p hp=>by
  have hk:=(List.getElem?_eq_some_iff.1 hp).1;have gi:=zmP ok h k (by omega);have ao:=zpn ok h k (by omega);obtain ⟨q,_⟩:=yn h;obtain ⟨_,_,p3,p4,p5,_⟩:=yH q;refine ⟨?_⟩;(try dsimp only)
  rw [zcF hp];rcases zam gi p (by omega) (by omega) with ⟨ha,e⟩ | ⟨t,x,o,r,ht,hx,ho,hsu,htm,hst,_,e,_⟩
  ·exact .inl ⟨ha,e⟩
  ·right
   have tk:=zqR gi hx;have xo:x.ops ∈ s.threads:=by rw [<- ao];exact List.mem_map.2 ⟨x,List.mem_of_getElem? hx,rfl⟩
   have xl:=(p5 x.ops xo).1
   have hX:(atP (s0P s) s.zY k).2.1.length<=8:=by
    have:=congrArg List.length ao;rw [List.length_map] at this;omega
   rw [e];exact ⟨t,x,zky r.2.2 x,ht,hx,by show (List.set _ _ _).length=_;rw [List.length_set],rfl,zqJ hx ho hX (by omega) (by omega) (zmd hsu gi.st.ty htm (by omega) hst)⟩
 unfold qM;by_cases h:(qU s).2=0
 ·rw [if_pos h,if_pos h] at w;rw [if_pos h];rw [h] at w;exact w
 ·rw [if_neg h,if_neg h] at w;rw [if_neg h];exact w
end Go.Wor
namespace Go.Run
open Go.Ab Go.Proofs Go.Hy Go.Gat Go.Nam Go.Hos Go.Con
def zfo (o:Opn):Bool:=wU o.config || (decide (100 < o.host.length) || decide (100 < o.path.length))
def zgM (l:List Opn):Bool:=decide (40 < l.length) || l.any zfo
def zcG (s:Scr):Bool:=wU s.first || decide (20 < s.threads.length) || decide (5000 < s.zY.length) || s.threads.any zgM
structure WkB (s:Scr):Prop where
 first:s.first.zd.length < 4000000000000000000∧s.first.zP.length < 4000000000000000000∧s.first.zl.length < 4000000000000000000
 threads:s.threads.length < 4000000000000000000
 ops:∀ l ∈ s.threads,l.length < 4000000000000000000
 cfg:∀ l ∈ s.threads,∀ o ∈ l,o.config.zd.length < 4000000000000000000∧o.config.zP.length < 4000000000000000000∧o.config.zl.length < 4000000000000000000
theorem zkT (s:Scr) (hs:WkB s):zb Tryz.prog 16 [] [.agg (qH s)] (Bo (zcG s)) []:=by
 have m1:(s.threads.map yN).length=s.threads.length:=List.length_map ..;have m2:(s.zY.map Go.Hy.encI).length=s.zY.length:=List.length_map ..;have hf:=hs.first;have ht:=hs.threads;refine zb.zp (fn:=Tryz.f16) Tryz.func16 rfl (uH ?_);refine ⟨_,_,(zhe s.first hf.1 hf.2.1 hf.2.2).frame rfl _,dd ?_⟩;(refine ⟨fun a1=>?_,fun a1=>?_⟩);(focus ((have e:zcG s=true:=(by (try simp at a1);simp [zcG];first | omega | (rw [a1];simp)));(rw [e]);refine dd ?_;(repeat refine uC ?_);exact uI));refine dd ?_
 rw [m1];(refine ⟨fun a2=>?_,fun a2=>?_⟩);(focus ((have e:zcG s=true:=(by (try simp at a2);simp [zcG];first | omega | (rw [a2];simp)));(rw [e]);refine dd ?_;(repeat refine uC ?_);exact uI));refine dd ?_
 rw [m2];(refine ⟨fun a3=>?_,fun a3=>?_⟩);(focus ((have e:zcG s=true:=(by (try simp at a3);simp [zcG];first | omega | (rw [a3];simp)));(rw [e]);refine dd ?_;(repeat refine uC ?_);exact uI));refine dd ?_
 (repeat refine uC ?_)
 have eW:zcG s=s.threads.any zgM:=by
  unfold zcG;simp at a2 a3;rw [a1,decide_eq_false (by omega),decide_eq_false (by omega)]
  rfl
 refine qf.seq s.threads.length (fun k=>(.za::.ref 0 [] 5 0 0::Bo false::I k:: tY (tY (tY (tY (tY (tY (tY (tY ([])))))))))) (fun k=>[⟨1,43,5,[qH s],0⟩]) (fun k=>∀ j,(h:j < s.threads.length)->j < k->zgM s.threads[j]=false) ?_ (by simp) (fun k hk hr=>?_) (fun hr=>?_)
 ·exact cC
 ·obtain ⟨v,hx⟩:∃ v,v=s.threads[k]:=⟨_,rfl⟩;have hv:v ∈ s.threads:=by rw [hx];exact List.getElem_mem hk
  have hg:(s.threads.map yN)[k]?= some (yN v):=by rw [List.getElem?_map,List.getElem?_eq_getElem hk,hx];rfl
  have mg:(v.map y5).length=v.length:=List.length_map ..
  have bad:zgM v=true->zcG s=true:=fun h=>by
   rw [eW];exact List.any_eq_true.2 ⟨v,hv,h⟩
  have bg:=hs.ops v hv;conv=>whnf
  rw [m1];refine uF ?_;(refine ⟨by omega,_,by rw [toNat_cast];exact hg,dd ?_⟩)
  rw [mg];refine ⟨fun c2=>?_,fun c2=>?_⟩
  ·rw [bad (by unfold zgM;rw [decide_eq_true (by simp at c2;omega)];rfl)];refine dd ?_;(refine .inr ⟨by simp,uH ?_⟩)
   exact uI
  refine dd ?_;refine qf.seq v.length (fun j=>(.za::.ref 0 [] 5 0 0::Bo false::I k::I j:: .za::.za::.za::.za::.za::.za::.za::tY (tY (tY (tY (tY (tY (tY ([]))))))))) (fun j=>[⟨1,43,5,[qH s],0⟩]) (fun j=>∀ i,(h:i < v.length)->i < j->zfo v[i]=false) ?_ (by simp) (fun j hj hrj=>?_) (fun hrj=>?_)
  ·exact cC
  ·obtain ⟨o,hxg⟩:∃ o,o=v[j]:=⟨_,rfl⟩;have ho:o ∈ v:=by rw [hxg];exact List.getElem_mem hj
   have hgg:(v.map y5)[j]?= some (y5 o):=by rw [List.getElem?_map,List.getElem?_eq_getElem hj,hxg];rfl
   have hc:=hs.cfg v hv o ho
   have badg:zfo o=true->zcG s=true:=fun h=>bad (by
    have:v.any zfo=true:=List.any_eq_true.2 ⟨o,ho,h⟩;unfold zgM;rw [this,Bool.or_true])
   conv=>whnf
   (refine ⟨by omega,_,by rw [toNat_cast];exact hg,dd ?_⟩)
   rw [mg];refine uF ?_;(refine ⟨by omega,_,by rw [toNat_cast];exact hg,dd ?_⟩)
   (refine ⟨by omega,_,by rw [toNat_cast];exact hgg,dd ?_⟩)
   refine ⟨_,_,(zhe o.config hc.1 hc.2.1 hc.2.2).frame rfl _,dd ?_⟩;refine ⟨fun c3=>?_,fun c3=>?_⟩
   ·rw [badg (by unfold zfo;rw [c3];rfl)];refine dd ?_;(repeat refine uC ?_)
    (refine .inr ⟨by simp,uH ?_⟩)
    (try (refine .inr ⟨by simp,uH ?_⟩))
    exact uI
   refine dd ?_;refine ⟨fun c4=>?_,fun c4=>?_⟩
   ·rw [badg (by unfold zfo;rw [c3,decide_eq_true (by simp at c4;omega)];rfl)];refine dd ?_;(repeat refine uC ?_)
    (refine .inr ⟨by simp,uH ?_⟩)
    (try (refine .inr ⟨by simp,uH ?_⟩))
    exact uI
   refine dd ?_;refine ⟨fun c5=>?_,fun c5=>?_⟩
   ·rw [badg (by unfold zfo;rw [c3,decide_eq_true (p:=100 < o.path.length) (by simp at c5;omega)];simp)];refine dd ?_;(repeat refine uC ?_)
    (refine .inr ⟨by simp,uH ?_⟩)
    (try (refine .inr ⟨by simp,uH ?_⟩))
    exact uI
   refine dd ?_;(repeat refine uC ?_)
   refine .inl ⟨rfl,?_,fun i hi hij=>?_⟩
   ·rw [zA (by omega)];exact cE 1
   ·by_cases e:i=j
    ·subst e;rw [<- hxg];unfold zfo;rw [c3,decide_eq_false (by simp at c4;omega),decide_eq_false (by simp at c5;omega)]
     rfl
    ·exact hrj i hi (by omega)
  ·have h0:v.any zfo=false:=by
    rw [List.any_eq_false];intro x hx;obtain ⟨i,hi,rfl⟩:=List.mem_iff_getElem.1 hx;simp [hrj i hi hi]
   have no:zgM v=false:=by unfold zgM;rw [h0,decide_eq_false (by simp at c2;omega)];rfl
   conv=>whnf
   (refine ⟨by omega,_,by rw [toNat_cast];exact hg,dd ?_⟩)
   rw [mg];refine ⟨fun h=>absurd h (by simp),fun _=>dd ?_⟩;refine ⟨by simp,uH ?_⟩;refine .inl ⟨rfl,?_,fun i hi hij=>?_⟩
   ·rw [zA (by omega)];exact cE 1
   ·by_cases e:i=k
    ·subst e;rw [<- hx];exact no
    ·exact hr i hi (by omega)
 ·have h0:s.threads.any zgM=false:=by
   rw [List.any_eq_false];intro x hx;obtain ⟨i,hi,rfl⟩:=List.mem_iff_getElem.1 hx;simp [hr i hi hi]
  rw [eW,h0];conv=>whnf
  rw [m1];refine ⟨fun h=>absurd h (by simp),fun _=>dd ?_⟩;refine ⟨by simp,uH ?_⟩;exact uI
theorem zkb (l:List Eve) (hl:l.length < 4000000000000000000):zb Tryz.prog 22 [] [lEv l,lEv l] (Bo true) []:=by
 have m1:(l.map zQ).length=l.length:=List.length_map ..;refine zb.zp (fn:=Tryz.f22) Tryz.func22 rfl (uH ?_);refine ⟨fun h=>absurd h (by simp),fun _=>dd ?_⟩;refine qf.seq l.length (fun k=>((lEv l)::(lEv l)::.za::.za::Bo false::I k::tY (tY ([.za,.za,.za,.za])))) (fun k=>[]) (fun _=>True) ?_ trivial (fun k hk _=>?_) (fun _=>?_)
 ·exact cC
 ·have hg:(l.map zQ)[k]?= some (zQ l[k]):=by rw [List.getElem?_map,List.getElem?_eq_getElem hk];rfl
  conv=>whnf
  rw [m1];refine uF ?_;refine uE ?_;(refine ⟨by omega,_,by rw [toNat_cast];exact hg,dd ?_⟩)
  (refine ⟨by omega,_,by rw [toNat_cast];exact hg,dd ?_⟩)
  refine ⟨by kernel_rfl,dd ?_⟩;refine ⟨fun h=>absurd h (by simp),fun _=>dd ?_⟩;refine .inl ⟨rfl,?_,trivial⟩;rw [zA (by omega)];exact cC
 ·conv=>whnf
  rw [m1];refine ⟨fun h=>absurd h (by simp),fun _=>dd ?_⟩;refine ⟨by simp,uH ?_⟩;exact uI
end Go.Run
namespace Go.Run
open Go.Ab Go.Proofs Go.Gat Go.Nam Go.Hos Go.Con Go.Sna Go.Pla Go.Ply Go.Wor
open Go.Hy hiding encI
abbrev sIn:Str:=[105,110]
abbrev zh9:Cfg:=⟨[sIn],[⟨sIn,[42],[47],[97]⟩],[⟨[97],1,1,[true]⟩]⟩
abbrev opP:Opn:=⟨1,sIn,[120],[47],0,0,0,⟨[],[],[]⟩⟩
abbrev yS (k:Nat):List Int:=(List.range k).map fun i=>((i / 10:Nat):Int)
abbrev zuq (k:Nat):Scr:=⟨zh9,[[opP,⟨2,[],[],[],0,0,0,⟨[],[],[]⟩⟩,opP],[⟨4,sIn,[],[],0,0,0,⟨[],[],[]⟩⟩]],yS k⟩
abbrev jP:Scr:=zuq 60
def rOp (k:Int) (l h p:Str):List C:=[I k,Tx l,Tx h,Tx p,I 0,I 0,I 0,.lst 1 0 [],.lst 1 0 [],.lst 1 0 []]
def zsb:List C:=[.lst 1 1 [[Tx sIn]],.lst 1 4 [[Tx sIn,Tx [42],Tx [47],Tx [97]]],.lst 1 4 [[Tx [97],I 1,I 1,.lst 1 1 [[Bo true]]]]]
def zoJ (p:C):List C:=zsb++[.lst 1 1 [[.lst 1 10 [rOp 1 sIn [120] [47],rOp 2 [] [] [],rOp 1 sIn [120] [47]]],[.lst 1 10 [rOp 4 sIn [] []]]],p]
theorem zj4 (k:Nat):yS (k+1)=yS k++[((k / 10:Nat):Int)]:=by
 unfold yS;rw [List.range_succ,List.map_append]
 rfl
theorem za7:zb Tryz.prog 55 [] [] (.agg (zoJ (lI (yS 60)))) []:=by
 refine zb.zp (fn:=Tryz.f55) Tryz.func55 rfl (uH ?_);refine qf.seq 60 (fun k=>(.ref 0 [] 5 0 0::.za::.za::.ref 3 [] 5 0 0::I k::tY (tY (tY ([.za,.za,.za,.za,.za]))))) (fun k=>[⟨1,43,5,[[.lst 1 0 [],.lst 1 0 [],.lst 1 0 [],.lst 1 0 [],.lst 1 0 []]],0⟩,⟨1,40,3,[zsb],0⟩,⟨1,51,10,[rOp 1 sIn [120] [47]],0⟩,⟨1,43,5,[zoJ (.gl 4 1 ((yS k).map Go.Hy.encI))],0⟩,⟨4,3,1,(yS k).map Go.Hy.encI,0⟩]) (fun _=>True) ?_ trivial (fun k hk _=>?_) (fun _=>?_)
 ·exact (zo.zbS 3 4 3 1 rfl rfl (.inl rfl) rfl rfl).trans (cC)
 ·have mp:((yS k).map Go.Hy.encI).length=k:=by simp
  conv=>whnf
  refine uF ?_;refine ⟨rfl,.inr rfl,by rw [mp];simp [maxLen];omega,by rw [mp];show _ * 8<=_;simp;omega,dd ?_⟩;refine .inl ⟨rfl,?_,trivial⟩
  have e:IntKind.i64.wrap ((k:Int).tdiv 10)=((k / 10:Nat):Int):=by
   have:(k:Int).tdiv 10=((k / 10:Nat):Int):=rfl;rw [this,q0 (by omega) (by omega)]
  have e2:(yS k).map Go.Hy.encI++[[I ((k / 10:Nat):Int)]]=(yS (k+1)).map Go.Hy.encI:=by rw [zj4,List.map_append];rfl
  rw [zA (by omega),e,e2];exact cC
 ·refine uD ?_;exact uI
theorem zra {n:Nat} {w w':Wor} {m m':Mac} {t:Int} {o:Opn} (hb:zb Tryz.prog 57 [] [I t,.agg (y5 o),lA []] (.agg (zD m)) []) (hg:znq n w m w' m') (hn:n<=3000):
  zb Tryz.prog 24 [] [.agg (zJ w),I t,.agg (y5 o),lA []] (.tup [.agg (zJ w'),.agg (j6 m'.answer),I n]) []:=by
 refine zb.zp (fn:=Tryz.f24) Tryz.func24 rfl (uH ?_);refine ⟨_,_,(hb).frame rfl _,dd ?_⟩;refine qf.inv (fun i t1 H1=>∃ (k:Nat) (wk:Wor) (mk:Mac),k+i=n∧znq i wk mk w' m'∧t1=(.za::.za::.za::.za::.ref 0 [] 8 0 0::.za::.ref 1 [] 10 0 0::.za::.ref 2 [] 8 0 0::.ref 3 [] 13 0 0::I 0::.ref 4 [] 44 0 0::.ref 5 [] 8 0 0::tY (.za::I k::tY (tY (tY ([])))))∧H1=[⟨1,28,8,[zJ (w)],0⟩,⟨1,51,10,[y5 o],0⟩,⟨1,28,8,[[I 0,I 0,I 0,.lst 1 0 [],.lst 1 0 [],.lst 1 0 [],.lst 1 0 [],.lst 1 0 []]],0⟩,⟨1,57,13,[j6 ⟨0,0,0,0,0,0,0,⟨0,0,0,0,0,0⟩⟩],0⟩,⟨1,97,44,[zD (mk)],0⟩,⟨1,28,8,[zJ (wk)],0⟩]) n ?_ ?_
 ·exact ⟨_,_,cC,0,w,m,by simp,hg,rfl,rfl⟩
 rintro i _ _ ⟨k,wk,mk,hk,hg,rfl,rfl⟩;have hi:1<=i:=by cases hg <;> omega
 conv=>whnf
 refine uF ?_;cases hg with
 | last h he hd=>
  refine ⟨_,_,(h).frame rfl _,dd ?_⟩;refine ⟨fun h=>absurd h (by simpa using he),fun _=>dd ?_⟩;refine .inl ⟨⟨false,[1],[7],[]⟩,by kernel_rfl,uH ?_⟩;repeat (refine ⟨rfl,uH ?_⟩)
  refine ⟨fun _=>dd ?_,fun h=>absurd ((hd).symm.trans h:true=false) (by decide)⟩;refine .inl ⟨⟨false,[2],[4],[]⟩,by kernel_rfl,uH ?_⟩;repeat (refine ⟨rfl,uH ?_⟩)
  refine .inr ⟨by simp,uH ?_⟩;rw [zA (by omega),show k+1=n from by omega];exact uI
 | more h he hd hg=>
  refine ⟨_,_,(h).frame rfl _,dd ?_⟩;refine ⟨fun h=>absurd h (by simpa using he),fun _=>dd ?_⟩;refine .inl ⟨⟨false,[1],[7],[]⟩,by kernel_rfl,uH ?_⟩;repeat (refine ⟨rfl,uH ?_⟩)
  refine ⟨fun h=>absurd ((hd).symm.trans h:false=true) (by decide),fun _=>dd ?_⟩;rw [zA (by omega)];exact .inl ⟨rfl,_,_,_,Nat.lt_succ_self _,cE 6,k+1,_,_,by omega,hg,rfl,rfl⟩
theorem znt {w:Wor} {m m2:Mac} {w2:Wor} {e:Eve} {t:Int} {o:Opn} (hb:zb Tryz.prog 57 [] [I t,.agg (y5 o),lA []] (.agg (zD m)) []) (h:zb Tryz.prog 58 [] [Sw w,Sm m] (Sr w2 m2 e) []) (he:e.access=0):
  zb Tryz.prog 24 [] [.agg (zJ w),I t,.agg (y5 o),lA []] (.tup [.agg (zJ w),.agg (j6 ⟨0,0,0,0,0,0,0,⟨0,0,0,0,0,0⟩⟩),I 0]) []:=by
 refine zb.zp (fn:=Tryz.f24) Tryz.func24 rfl (uH ?_);refine ⟨_,_,(hb).frame rfl _,dd ?_⟩;refine zcA.ofN 1 (LoopN.step ?_);conv=>whnf
 (repeat refine uC ?_)
 refine ⟨_,_,(h).frame rfl _,dd ?_⟩;refine ⟨fun _=>dd ?_,fun z=>absurd z (by simp [he])⟩;(refine .inr ⟨by simp,uH ?_⟩)
 exact uI
theorem zi5 (w:Wor) (m:Mac) (ok:OkW w) (hl:i64 m.listen) (hpc:m.pc=0) (hs:zW w m=false):zb Tryz.prog 185 [] [Cw w,Cm m] (.tup [Cw w,Cm m,Ce Ply.znK]) []:=by
 refine zb.zp (fn:=Tryz.f185) Tryz.func185 rfl (uH ?_);(repeat (first | refine uA ?_ | refine uB ?_))
 refine ⟨_,_,(zM w m ok hl).frame rfl _,dd ?_⟩;refine ⟨fun h=>absurd ((hs).symm.trans h:false=true) (by decide),fun _=>dd ?_⟩;(repeat refine uC ?_)
 refine .inl ⟨⟨false,[1],[1],[]⟩,by kernel_rfl,uH ?_⟩;(repeat (refine ⟨rfl,uH ?_⟩))
 exact uI
abbrev ziW:Scr:=⟨⟨[],[],[]⟩,[],[]⟩
abbrev opS (c:Cfg):Opn:=⟨3,[],[],[],0,0,0,c⟩
theorem zj5 {l:List Eve} {w b x zw:Wor} {c0 c1 c2 c3:Cal} (hP:zb Tryz.prog 17 [] [.agg (zoJ (lI (yS 60)))] (.tup [lEv l,.agg (zJ w),I 0]) []) (hl:l.length=30) (hC:zb Tryz.prog 27 [] [lEv l] (.tup [zry [c0,c1,c2,c3],I 0]) [])
  (hE:zb Tryz.prog 17 [] [.agg [.lst 1 0 [],.lst 1 0 [],.lst 1 0 [],.lst 1 0 [],.lst 1 0 []]] (.tup [lEv [],.agg (zJ zw),I 1]) []) (hB:zb Tryz.prog 19 [] [.agg (zoJ (lI (yS 60)))] (.tup [.agg (zJ b),I 0]) [])
  (hA:zb Tryz.prog 24 [] [.agg (zJ b),I 0,.agg ([I 3,Tx [],Tx [],Tx [],I 0,I 0,I 0]++zsb),.lst 1 0 []] (.tup [.agg (zJ x),.agg (j6 ⟨8,1,0,0,0,0,0,⟨0,0,0,0,0,0⟩⟩),I (3:Nat)]) [])
  (hN:zb Tryz.prog 24 [] [.agg (zJ b),I 9,.agg [I 3,Tx [],Tx [],Tx [],I 0,I 0,I 0,.lst 1 0 [],.lst 1 0 [],.lst 1 0 []],.lst 1 0 []] (.tup [.agg (zJ b),.agg (j6 ⟨0,0,0,0,0,0,0,⟨0,0,0,0,0,0⟩⟩),I 0]) [])
  (hH:zb Tryz.prog 56 [] [.agg (zJ w)] (I (0:Nat)) []) (k0:c0.answer.kind=1) (k1:c1.answer.kind=10) (t1:c1.zj=1) (k2:c2.answer.kind=6) (k3:c3.answer.kind=5) (hw:w.zd=[⟨sIn,true,0,false⟩]) (hb:b.pins.length=2) (hx:x.current=1):
  zb Tryz.prog 21 [] [] (Bo true) []:=by
 have ml:(l.map zQ).length=30:=(List.length_map ..).trans hl;obtain ⟨w1,w2,w3,w4,w5,w6,w7,w8⟩:=w;have hw:w6=[⟨sIn,true,0,false⟩]:=hw;subst hw;obtain ⟨x1,x2,x3,x4,x5,x6,x7,x8⟩:=x;have hx:x2=1:=hx;subst hx;have mb:(b.pins.map Go.Hy.encI).length=2:=(List.length_map ..).trans hb;obtain ⟨d1,d2,d3,d4,d5,⟨a1,a2,a3,a4,a5,a6,a7,a8⟩⟩:=c0;obtain ⟨f1,f2,f3,f4,f5,⟨g1,g2,g3,g4,g5,g6,g7,g8⟩⟩:=c1;obtain ⟨h1,h2,h3,h4,h5,⟨i1,i2,i3,i4,i5,i6,i7,i8⟩⟩:=c2;obtain ⟨j1,j2,j3,j4,j5,⟨p1,p2,p3,p4,p5,p6,p7,p8⟩⟩:=c3;have k0:a1=1:=k0;have k1:g1=10:=k1;have t1:f1=1:=t1;have k2:i1=6:=k2;have k3:p1=5:=k3;subst k0 k1 t1 k2 k3;refine zb.zp (fn:=Tryz.f21) Tryz.func21 rfl (uH ?_);refine ⟨_,_,(za7).frame rfl _,dd ?_⟩;refine ⟨_,_,(hP).frame rfl _,dd ?_⟩;refine ⟨_,_,(hC).frame rfl _,dd ?_⟩;refine ⟨_,_,(hE).frame rfl _,dd ?_⟩;refine ⟨_,_,(za7).frame rfl _,dd ?_⟩;refine ⟨_,_,(hB).frame rfl _,dd ?_⟩;refine .inr ⟨⟨[0,1,4],[2],false⟩,by kernel_rfl,fun h=>absurd h (by decide),fun t1 H1=>(t1=(.za::lEv l:: .ref 0 [] 8 0 0::I 0::zry [⟨d1,d2,d3,d4,d5,⟨1,a2,a3,a4,a5,a6,a7,a8⟩⟩,⟨1,f2,f3,f4,f5,⟨10,g2,g3,g4,g5,g6,g7,g8⟩⟩,⟨h1,h2,h3,h4,h5,⟨6,i2,i3,i4,i5,i6,i7,i8⟩⟩,⟨j1,j2,j3,j4,j5,⟨5,p2,p3,p4,p5,p6,p7,p8⟩⟩]::I 0:: .za::.za::I 1:: .ref 2 [] 8 0 0::I 0:: .ref 3 [] 8 0 0:: .ref 4 [] 13 0 0::I (3:Nat):: .za::.za::tY (tY (tY (tY (tY (tY (tY (tY (tY (tY (tY (tY (tY (tY (tY (tY (tY (tY (tY ([]))))))))))))))))))))∧H1=[⟨1,28,8,[zJ ⟨w1,w2,w3,w4,w5,[⟨sIn,true,0,false⟩],w7,w8⟩],0⟩,⟨1,28,8,[zJ (zw)],0⟩,⟨1,28,8,[zJ (b)],0⟩,⟨1,28,8,[zJ ⟨x1,1,x3,x4,x5,x6,x7,x8⟩],0⟩,⟨1,57,13,[j6 (⟨8,1,0,0,0,0,0,⟨0,0,0,0,0,0⟩⟩)],0⟩])∨(t1=(.za::lEv l:: .ref 0 [] 8 0 0::I 0::zry [⟨d1,d2,d3,d4,d5,⟨1,a2,a3,a4,a5,a6,a7,a8⟩⟩,⟨1,f2,f3,f4,f5,⟨10,g2,g3,g4,g5,g6,g7,g8⟩⟩,⟨h1,h2,h3,h4,h5,⟨6,i2,i3,i4,i5,i6,i7,i8⟩⟩,⟨j1,j2,j3,j4,j5,⟨5,p2,p3,p4,p5,p6,p7,p8⟩⟩]::I 0:: .za::.za::I 1:: .ref 2 [] 8 0 0::I 0:: .ref 4 [] 8 0 0:: .ref 3 [] 13 0 0::I (3:Nat):: .za::.za::tY (tY (tY (tY (tY (tY (tY (tY (tY (tY (tY (tY (tY (tY (tY (tY (tY (tY (tY ([]))))))))))))))))))))∧H1=[⟨1,28,8,[zJ ⟨w1,w2,w3,w4,w5,[⟨sIn,true,0,false⟩],w7,w8⟩],0⟩,⟨1,28,8,[zJ (zw)],0⟩,⟨1,28,8,[zJ (b)],0⟩,⟨1,57,13,[j6 (⟨8,1,0,0,0,0,0,⟨0,0,0,0,0,0⟩⟩)],0⟩,⟨1,28,8,[zJ ⟨x1,1,x3,x4,x5,x6,x7,x8⟩],0⟩]),?_,?_⟩
 ·conv=>whnf
  repeat' (first | (exact trivial) | (refine ⟨rfl,uH ?_⟩) | (refine ⟨_,fun H2 _=>za7.frame rfl H2,uH ?_⟩) | (refine ⟨_,fun H2 _=>(show zb _ _ _ _ _ _ from hA).frame rfl H2,uH ?_⟩) | (exact ⟨_,_,cC,.inl ⟨rfl,rfl⟩⟩) | (exact ⟨_,_,cC,.inr ⟨rfl,rfl⟩⟩) | (refine And.intro ?_ ?_ <;> (conv=>whnf)))
 rintro _ _ (⟨rfl,rfl⟩ | ⟨rfl,rfl⟩)
 ·conv=>whnf
  refine ⟨_,_,(hN).frame rfl _,dd ?_⟩;(repeat (first | ((refine ⟨fun _=>dd ?_,fun h=>absurd (h.symm.trans rfl:false=true) (by decide)⟩)) | ((refine ⟨fun h=>absurd (h.symm.trans rfl:true=false) (by decide),fun _=>dd ?_⟩)) | (rw [ml]) | (rw [mb]) | (refine ⟨by decide,_,rfl,dd ?_⟩) | (refine ⟨_,_,(hH).frame rfl _,dd ?_⟩) | (refine ⟨by kernel_rfl,dd ?_⟩)))
  exact uI
 ·conv=>whnf
  refine ⟨_,_,(hN).frame rfl _,dd ?_⟩;(repeat (first | ((refine ⟨fun _=>dd ?_,fun h=>absurd (h.symm.trans rfl:false=true) (by decide)⟩)) | ((refine ⟨fun h=>absurd (h.symm.trans rfl:true=false) (by decide),fun _=>dd ?_⟩)) | (rw [ml]) | (rw [mb]) | (refine ⟨by decide,_,rfl,dd ?_⟩) | (refine ⟨_,_,(hH).frame rfl _,dd ?_⟩) | (refine ⟨by kernel_rfl,dd ?_⟩)))
  exact uI
theorem okP:zbP jP:=by
 refine ⟨⟨⟨⟨by decide,by decide⟩,⟨by decide,by decide⟩,⟨by decide,by decide⟩⟩,by decide,by decide,by simp⟩,fun _=>⟨⟨by decide,by decide⟩,⟨by decide,by decide⟩,⟨by decide,by decide⟩⟩,?_,?_,?_,?_⟩
 ·intro l hl o ho
  have:o.config=⟨[],[],[]⟩:=by
   have hl:l=[opP,⟨2,[],[],[],0,0,0,⟨[],[],[]⟩⟩,opP]∨l=[⟨4,sIn,[],[],0,0,0,⟨[],[],[]⟩⟩]:=by simpa using hl
   rcases hl with rfl | rfl
   ·have ho:o=opP∨o=⟨2,[],[],[],0,0,0,⟨[],[],[]⟩⟩∨o=opP:=by simpa using ho
    rcases ho with rfl | rfl | rfl <;> rfl
   ·have ho:o=⟨4,sIn,[],[],0,0,0,⟨[],[],[]⟩⟩:=by simpa using ho
    rw [ho]
  rw [this];exact ⟨⟨by decide,by decide⟩,⟨by decide,by decide⟩,⟨by decide,by decide⟩⟩
 ·intro x hx;have e:xF jP=[sIn]:=by kernel_rfl
  rw [e] at hx;rw [List.mem_singleton.1 hx]
  decide
 ·intro l hl o ho;have hl:l=[opP,⟨2,[],[],[],0,0,0,⟨[],[],[]⟩⟩,opP]∨l=[⟨4,sIn,[],[],0,0,0,⟨[],[],[]⟩⟩]:=by simpa using hl
  have k:o=opP∨o=⟨2,[],[],[],0,0,0,⟨[],[],[]⟩⟩∨o=⟨4,sIn,[],[],0,0,0,⟨[],[],[]⟩⟩:=by
   rcases hl with rfl | rfl
   ·have ho:o=opP∨o=⟨2,[],[],[],0,0,0,⟨[],[],[]⟩⟩∨o=opP:=by simpa using ho
    rcases ho with rfl | rfl | rfl
    ·exact .inl rfl
    ·exact .inr (.inl rfl)
    ·exact .inl rfl
   ·have ho:o=⟨4,sIn,[],[],0,0,0,⟨[],[],[]⟩⟩:=by simpa using ho
    exact .inr (.inr ho)
  rcases k with rfl | rfl | rfl
  ·exact ⟨by decide,by decide,by decide,by decide,fun h=>absurd h (by decide)⟩
  ·exact ⟨by decide,by decide,by decide,by decide,fun h=>absurd h (by decide)⟩
  ·exact ⟨by decide,by decide,by decide,by decide,fun h=>absurd h (by decide)⟩
 ·intro p hp;obtain ⟨i,hi,rfl⟩:=List.mem_map.1 hp;have:=List.mem_range.1 hi;unfold i64;omega
theorem ok0:zbP ziW:=by
 refine ⟨⟨⟨⟨by decide,by decide⟩,⟨by decide,by decide⟩,⟨by decide,by decide⟩⟩,by decide,by decide,by decide⟩,fun _=>⟨⟨by decide,by decide⟩,⟨by decide,by decide⟩,⟨by decide,by decide⟩⟩,fun l hl=>(by cases hl),?_,fun l hl=>(by cases hl),fun p hp=>(by cases hp)⟩;intro x hx;have e:xF ziW=[]:=by kernel_rfl
 rw [e] at hx;cases hx
end Go.Run
