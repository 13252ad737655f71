import Derived.Test.YtgmkpdmnlhoffaaGreatRO
import Derived.Test.YtgmkpdmnlhoffaaGreatR9
import Derived.Test.YtgmkpdmnlhoffaaGreatRZ
set_option linter.all false
set_option maxRecDepth 100000
set_option maxHeartbeats 4000000
namespace Go.Hy
open Go.Ab Go.Proofs
def Opn.okI (o:Opn):Prop:=o.ok∧i64 o.d0∧i64 o.d1
theorem zoy:qd Tryz.prog 51 y5 Opn.okI:=
 qd.map (qd.struct Tryz.underlying51 (by kernel_rfl) (qW.cons rfl (qd.int Tryz.underlying3) (qW.cons rfl (vB) (qW.cons rfl (vB) (qW.cons rfl (vB) (qW.cons rfl (qd.int Tryz.underlying3) (qW.cons rfl (qd.int Tryz.underlying3) (qW.cons rfl (qd.int Tryz.underlying3) (qW.cons rfl zj0 (qW.nil _)))))))))) (fun x=>⟨x.1,x.2.1,x.2.2.1,x.2.2.2.1,x.2.2.2.2.1,x.2.2.2.2.2.1,x.2.2.2.2.2.2.1,x.2.2.2.2.2.2.2.1⟩) fun x h=>⟨⟨⟨h.2.1,h.2.2.1,h.2.2.2.1,h.2.2.2.2.2.2.2.1⟩,wf_i64 h.2.2.2.2.1,wf_i64 h.2.2.2.2.2.1⟩,by simp [y5]⟩
theorem zqk:qd Tryz.prog 63 (fun l:List Opn=>[lP l]) (fun l=>(∀ x ∈ l,x.okI)∧l.length * 152<=reachBytes):=
 qd.slice (sz:=10) (by_:=152) Tryz.underlying63 (by kernel_rfl) (by kernel_rfl) (by decide) (fun _=>rfl) zoy
theorem zl0:qd Tryz.prog 41 (fun l:List (List Opn)=>[zob l]) (fun l=>(∀ x ∈ l,(∀ o ∈ x,o.okI)∧x.length * 152<=reachBytes)∧l.length * 24<=reachBytes):=
 qd.slice (sz:=1) (by_:=24) Tryz.underlying41 (by kernel_rfl) (by kernel_rfl) (by decide) (fun _=>rfl) zqk
def Scr.okI (s:Scr):Prop:=s.first.ok∧((∀ x ∈ s.threads,(∀ o ∈ x,o.okI)∧x.length * 152<=reachBytes)∧s.threads.length * 24<=reachBytes)∧(∀ p ∈ s.zY,i64 p)∧s.zY.length * 8<=reachBytes
theorem zoz:qd Tryz.prog 43 qH Scr.okI:=
 qd.map (qd.struct Tryz.underlying43 (by kernel_rfl) (qW.cons rfl zj0 (qW.cons rfl zl0 (qW.cons rfl zrO (qW.nil _))))) (fun x=>⟨x.1,x.2.1,x.2.2.1⟩) fun x h=>⟨⟨h.1,h.2.1,fun p hp=>wf_i64 (h.2.2.1.1 p hp),h.2.2.1.2⟩,by simp [qH]⟩
theorem arg_ScrI:zbp Tryz.prog 43 (fun x=>.agg (qH x)) Scr.okI:=qd.znw Tryz.underlying43 zoz
end Go.Hy
namespace Go.Run
open Go.Ab Go.Proofs Go.Gat Go.Nam Go.Hos Go.Con Go.Sna Go.Pla Go.Ply Go.Wor
open Go.Hy hiding encI
abbrev zbh (c:Cfg):Mac:=⟨opS c,0,0,0,0, -1,0,0,0,0,0,0,0,0,0,false,Beg.vR,zbd⟩
def swX (w:Wor) (c:Cfg):Wor:={ w with current:=w.ze.length,ze:=w.ze++[yJ c],zt:=w.zt++[⟨w.current,w.zn,false⟩] }
theorem zmc {N:Nat} {w:Wor} {m:Mac} {v:Ver} {g:Gr} {e:En} {r:Wor × Mac × Eve} (su:qC w m v g e) (t:TyW N w) (tm:TyM m) (hN:N<=100000000) (hk:m.op.kind=3) (h:vP w m=some r):zb Tryz.prog 58 [] [Sw w,Sm m] (Sr r.1 r.2.1 r.2.2) []:=
 zbe hk (zhT su (zgA su) t tm hN hk h)
theorem zqU {c:Cfg} (sc:xf c):TyM (zbh c):=⟨(by decide:i64 (-1)),(by decide:u64 0),(by decide:(-1:Int)<=0∧(0:Int)<=2147483646),by show (0:Nat) < _;decide,by show (0:Nat) < _;decide,(by decide:i64 0),(by decide:i64 0),fun _=>sc,fun _ _=>rfl⟩
theorem zjC {N K:Nat} {w:Wor} {c:Cfg} (st:St N K w) (hc:(qY c).1=0) (sc:xf c) (hN:N+3<=100000000):∃ m',znq 3 w (zbh c) (swX w c) m'∧m'.answer=⟨8,w.ze.length,0,0,0,0,0,⟨0,0,0,0,0,0⟩⟩:=by
 have gw:=st.jj;have gr:=qb.1 gw.ground;have q:wQ c=0:=(wa c).trans hc;obtain ⟨v,g,e,su⟩:=zeO gw (m:=zbh c) ⟨Int.le_refl _,by show (0:Int) < _;have:=gr.pins.1;omega⟩ rfl rfl rfl rfl rfl rfl rfl rfl rfl;have lo:zq5 w (zbh c) v g e:=by constructor <;> dsimp only <;> omega
 obtain ⟨r1,h1,n1⟩:=zgf st su (zqU sc) lo rfl
 have e1:vP w (zbh c)=some ({ w with current:=w.ze.length,ze:=w.ze++[yJ c] },swM (zbh c) w.current w.ze.length,{ evO (zbh c) 6 3 w.ze.length with jq:=true }):=by
  unfold vP;rw [if_pos rfl,if_pos q]
 rw [e1] at h1;obtain rfl:=Option.some.inj h1;rcases n1.go with ⟨hd,_⟩ | ⟨⟨v1,g1,e1',su1,lo1⟩,_⟩
 ·exact nomatch hd
 obtain ⟨r2,h2,n2⟩:=zgf n1.st su1 n1.tm lo1 rfl
 have e2:vP { w with current:=w.ze.length,ze:=w.ze++[yJ c] } (swM (zbh c) w.current w.ze.length)=some ({ w with current:=w.ze.length,ze:=w.ze++[yJ c] },{ swM (zbh c) w.current w.ze.length with zn:=w.zn,pc:=2 },evO (swM (zbh c) w.current w.ze.length) 1 1 w.zn):=by
  unfold vP;rw [if_neg (by show ¬(1:Int)=0;decide),if_pos rfl]
 rw [e2] at h2;obtain rfl:=Option.some.inj h2;rcases n2.go with ⟨hd,_⟩ | ⟨⟨v2,g2,e2',su2,lo2⟩,_⟩
 ·exact nomatch hd
 obtain ⟨r3,h3,n3⟩:=zgf n2.st su2 n2.tm lo2 rfl
 have e3:vP { w with current:=w.ze.length,ze:=w.ze++[yJ c] } { swM (zbh c) w.current w.ze.length with zn:=w.zn,pc:=2 }=some (swX w c,{ { swM (zbh c) w.current w.ze.length with zn:=w.zn,pc:=2 } with done:=true,answer:=zkv { swM (zbh c) w.current w.ze.length with zn:=w.zn,pc:=2 } },{ evO { swM (zbh c) w.current w.ze.length with zn:=w.zn,pc:=2 } 2 11 w.current with done:=true,answer:=zkv { swM (zbh c) w.current w.ze.length with zn:=w.zn,pc:=2 } }):=by
  have h4:=h3;unfold vP at h4 ⊢;rw [if_neg (by show ¬(2:Int)=0;decide),if_neg (by show ¬(2:Int)=1;decide),if_pos rfl] at h4 ⊢;by_cases z:kF { w with current:=w.ze.length,ze:=w.ze++[yJ c] } { swM (zbh c) w.current w.ze.length with zn:=w.zn,pc:=2 }=true
  ·rw [if_pos z] at h4;cases h4
  ·rw [if_neg z]
   rfl
 rw [e3] at h3;obtain rfl:=Option.some.inj h3;exact ⟨_,.more (zmc su st.ty (zqU sc) (by omega) rfl e1) (by show (6:Int)≠0;decide) rfl (.more (zmc su1 n1.st.ty n1.tm (by omega) rfl e2) uW rfl (.last (zmc su2 n2.st.ty n2.tm (by omega) rfl e3) tI rfl)),rfl⟩
theorem zsN:(qU jP).2=0:=by kernel_rfl
abbrev wB:Wor:=(qU jP).1
theorem st0:St 600 0 wB:=(zfn okP zsN).st
theorem hP:zb Tryz.prog 17 [] [.agg (zoJ (lI (yS 60)))] (.tup [lEv (qM jP).1,.agg (zJ (qM jP).2.1),I (qM jP).2.2]) []:=
 Go.Dep.zb.zjm 9 (zan jP okP) (by kernel_rfl) (by kernel_rfl)
theorem hE:zb Tryz.prog 17 [] [.agg [.lst 1 0 [],.lst 1 0 [],.lst 1 0 [],.lst 1 0 [],.lst 1 0 []]] (.tup [lEv (qM ziW).1,.agg (zJ (qM ziW).2.1),I (qM ziW).2.2]) []:=
 Go.Dep.zb.zjm 9 (zan ziW ok0) (by kernel_rfl) (by kernel_rfl)
theorem hB:zb Tryz.prog 19 [] [.agg (zoJ (lI (yS 60)))] (.tup [.agg (zJ wB),I 0]) []:=by
 have h:=zba jP okP.wk okP.cfg okP.zsQ fun _ x hx=>by have:=okP.names x hx;unfold reachBytes at this;omega
 have h0:=zsN;have e:qU jP=(wB,0):=by rw [<- h0]
 rw [e] at h;exact Go.Dep.zb.zjm 9 h (by kernel_rfl) (by kernel_rfl)
theorem smP:xf zh9:=okP.cfg (by kernel_rfl)
theorem hA:zb Tryz.prog 24 [] [.agg (zJ wB),I 0,.agg ([I 3,Tx [],Tx [],Tx [],I 0,I 0,I 0]++zsb),.lst 1 0 []] (.tup [.agg (zJ (swX wB zh9)),.agg (j6 ⟨8,1,0,0,0,0,0,⟨0,0,0,0,0,0⟩⟩),I (3:Nat)]) []:=by
 obtain ⟨m',g,ha⟩:=zjC (c:=zh9) st0 (by kernel_rfl) smP (by decide);have hb:=Beg.zaI 0 (opS zh9) [] (by decide);have em:Beg.xY 0 (opS zh9) []=zbh zh9:=by kernel_rfl
 rw [em] at hb;have h:=zra hb g (by decide);have e1:wB.ze.length=1:=by kernel_rfl
 rw [ha,e1] at h;exact Go.Dep.zb.zjm 9 h (by kernel_rfl) (by kernel_rfl)
abbrev op9:Opn:=⟨3,[],[],[],0,0,0,⟨[],[],[]⟩⟩
theorem hN:zb Tryz.prog 24 [] [.agg (zJ wB),I 9,.agg [I 3,Tx [],Tx [],Tx [],I 0,I 0,I 0,.lst 1 0 [],.lst 1 0 [],.lst 1 0 []],.lst 1 0 []] (.tup [.agg (zJ wB),.agg (j6 ⟨0,0,0,0,0,0,0,⟨0,0,0,0,0,0⟩⟩),I 0]) []:=by
 have hb:=Beg.zaI 9 op9 [] (by decide);have hs:zW wB (Beg.xY 9 op9 [])=false:=by kernel_rfl
 have hl:i64 (Beg.xY 9 op9 []).listen:=by
  have e:(Beg.xY 9 op9 []).listen= -1:=by kernel_rfl
  rw [e]
  decide
 have h:=zbe (by kernel_rfl) (zi5 wB (Beg.xY 9 op9 []) (zda st0.jj st0.ty (by decide)) hl (by kernel_rfl) hs);exact Go.Dep.zb.zjm 9 (znt hb h rfl) (by kernel_rfl) (by kernel_rfl)
theorem hH:zb Tryz.prog 56 [] [.agg (zJ (qM jP).2.1)] (I (0:Nat)) []:=by
 have gi:=zmP okP zsN 60 (Nat.le_of_eq (by kernel_rfl));have e:(atP (s0P jP) jP.zY 60).1=(qM jP).2.1:=by kernel_rfl
 have e0:zbT (qM jP).2.1=0:=by kernel_rfl
 have st:=gi.st;rw [e] at st;have h:=zjF (qM jP).2.1 (zrw st.jj st.ty (by decide));rw [e0] at h;exact h
theorem zdf:zb Tryz.prog 21 [] [] (Bo true) []:=by
 have f1:(qM jP).1.length=30:=by kernel_rfl
 have f2:(qM jP).2.2=0:=by kernel_rfl
 have f3:(Cal.ofV (qM jP).1).2=0:=by kernel_rfl
 have f4:((Cal.ofV (qM jP).1).1.map fun c=>(c.zj,c.answer.kind))=[(0,1),(1,10),(0,6),(0,5)]:=by kernel_rfl
 have f5:(qM jP).2.1.zd=[⟨sIn,true,0,false⟩]:=by kernel_rfl
 have f6:wB.pins.length=2:=by kernel_rfl
 have f7:(qM ziW).1=[]:=by kernel_rfl
 have f8:(qM ziW).2.2=1:=by kernel_rfl
 have f9:(swX wB zh9).current=1:=by kernel_rfl
 have hC:=Cal.zqf (qM jP).1 (by rw [f1];decide);have hP:=hP;have hE:=hE;have hB:=hB;have hA:=hA;have hN:=hN;have hH:=hH;rw [f2] at hP;rw [f7,f8] at hE;generalize swX wB zh9=x at *;generalize wB=b at *;generalize (qM ziW).2.1=zw at *;generalize (qM jP).2.1=w at *;generalize (qM jP).1=l at *;generalize Cal.ofV l=q at *;obtain ⟨cs,er⟩:=q;have f3:er=0:=f3;subst f3;obtain ⟨c0,cs,rfl,g0,f4⟩:=List.map_eq_cons_iff.1 f4;obtain ⟨c1,cs,rfl,g1,f4⟩:=List.map_eq_cons_iff.1 f4;obtain ⟨c2,cs,rfl,g2,f4⟩:=List.map_eq_cons_iff.1 f4;obtain ⟨c3,cs,rfl,g3,f4⟩:=List.map_eq_cons_iff.1 f4;obtain rfl:=List.map_eq_nil_iff.1 f4;have h (a b c d:Int) (h:(a,b)=(c,d)):a=c∧b=d:=by cases h;exact ⟨rfl,rfl⟩
 exact zj5 hP f1 hC hE hB hA hN hH (h _ _ _ _ g0).2 (h _ _ _ _ g1).2 (h _ _ _ _ g1).1 (h _ _ _ _ g2).2 (h _ _ _ _ g3).2 f5 f6 f9
theorem zbE {c:Cfg} (h:wU c=false) (ok:c.ok):xf c:=by
 unfold wU at h;simp only [Bool.or_eq_false_iff,decide_eq_false_iff_not,Nat.not_lt] at h;obtain ⟨⟨⟨⟨h1,h2⟩,h3⟩,h4⟩,h5⟩:=h;obtain ⟨⟨a1,_⟩,⟨a2,_⟩,⟨a3,_⟩⟩:=ok;refine ⟨⟨by omega,fun s hs=>?_⟩,⟨by omega,fun r hr=>?_⟩,⟨by omega,fun x hx=>?_⟩⟩
 ·have:=a1 s hs;unfold zmN reachBytes at this;omega
 ·have q:=List.any_eq_false.1 h5 r hr;unfold zgm at q;simp only [Bool.or_eq_true,decide_eq_true_eq,not_or,Nat.not_lt] at q;have:=a2 r hr;unfold Rou.ok reachBytes at this;omega
 ·have q:=List.any_eq_false.1 h4 x hx;unfold zfu at q;simp only [Bool.or_eq_true,decide_eq_true_eq,not_or,Nat.not_lt] at q;omega
theorem znz {s:Scr} (h:zcG s=false):wU s.first=false∧s.threads.length<=20∧s.zY.length<=5000∧∀ l ∈ s.threads,l.length<=40∧∀ o ∈ l,wU o.config=false∧o.host.length<=100∧o.path.length<=100:=by
 unfold zcG at h;simp only [Bool.or_eq_false_iff,decide_eq_false_iff_not,Nat.not_lt] at h;obtain ⟨⟨⟨h1,h2⟩,h3⟩,h4⟩:=h;refine ⟨h1,h2,h3,fun l hl=>?_⟩;have q:=List.any_eq_false.1 h4 l hl;unfold zgM at q;simp only [Bool.or_eq_true,decide_eq_true_eq,not_or,Nat.not_lt] at q;refine ⟨q.1,fun o ho=>?_⟩;have q2:zfo o=false:=List.any_eq_false.1 (by simpa using q.2) o ho |> fun z=>by simpa using z
 unfold zfo at q2;simp only [Bool.or_eq_false_iff,decide_eq_false_iff_not,Nat.not_lt] at q2;exact q2
theorem zqX {s:Scr} (ok:s.okI):WkB s:=by
 obtain ⟨⟨⟨_,b1⟩,⟨_,b2⟩,⟨_,b3⟩⟩,⟨b4,b5⟩,_,_⟩:=ok;unfold reachBytes at b1 b2 b3 b5;refine ⟨⟨by omega,by omega,by omega⟩,by omega,fun l hl=>?_,fun l hl o ho=>?_⟩
 ·have:=(b4 l hl).2;unfold reachBytes at this;omega
 ·obtain ⟨⟨_,_,_,⟨⟨_,c1⟩,⟨_,c2⟩,⟨_,c3⟩⟩⟩,_⟩:=(b4 l hl).1 o ho;unfold reachBytes at c1 c2 c3;exact ⟨by omega,by omega,by omega⟩
theorem zpc {out:List Str} {n x:Str} (h:x ∈ yW out n):x ∈ out∨x=n:=by
 unfold yW at h;split at h
 ·exact .inl h
 ·simpa using h
theorem zcX {α:Type} {f:List Str->α->List Str} {P:Str->Prop}:∀ (l:List α) (out:List Str),(∀ y ∈ l,∀ o x,(∀ z ∈ o,P z)->x ∈ f o y->P x)->(∀ z ∈ out,P z)->∀ x ∈ l.foldl f out,P x
 | [],_,_,h,x,hx=>h x hx
 | y::l,out,hf,h,x,hx=>zcX l (f out y) (fun y hy=>hf y (List.mem_cons_of_mem _ hy)) (fun z hz=>hf y (List.mem_cons_self ..) out z h hz) x hx
theorem zjV {s:Scr} (ok:s.okI):∀ x ∈ xF s,x.length<=reachBytes:=by
 have cfg:∀ (c:Cfg) (out:List Str),c.ok->(∀ z ∈ out,z.length<=reachBytes)->∀ x ∈ kq out c,x.length<=reachBytes:=fun c out hc ho=>
  zcX c.zd out (fun y hy o x hz hx=>by
   rcases zpc hx with h | rfl
   ·exact hz x h
   ·exact hc.1.1 _ hy) ho
 refine zcX s.threads _ (fun l hl o x hz hx=>?_) (cfg s.first [] ok.1 (by simp));refine zcX l o (fun p hp o x hz hx=>?_) hz x hx;unfold zaB at hx;split at hx
 ·exact cfg p.config o ((ok.2.1.1 l hl).1 p hp).1.2.2.2 hz x hx
 ·exact hz x hx
theorem ztr {s:Scr} (h:zcG s=false) (ok:s.okI):zbP s:=by
 obtain ⟨h1,h2,h3,h4⟩:=znz h;have w:=zqX ok;refine ⟨⟨(zbE h1 ok.1).k,w.threads,w.ops,by omega⟩,fun _=>zbE h1 ok.1,fun l hl o ho=>(zbE ((h4 l hl).2 o ho).1 ((ok.2.1.1 l hl).1 o ho).1.2.2.2).k,zjV ok,fun l hl o ho=>?_,ok.2.2.1⟩;have a:=(h4 l hl).2 o ho;have b:=(ok.2.1.1 l hl).1 o ho;exact ⟨by omega,by omega,b.2.1,b.2.2,fun _=>zbE a.1 b.1.2.2.2⟩
def zaP (s:Scr) (n:Nat):Scr:=⟨s.first,s.threads,s.zY.take n⟩
theorem zrx {s:Scr} (n:Nat) (h:isS s=true):isS (zaP s n)=true:=by
 unfold isS at h ⊢;simp only [Bool.and_eq_true,decide_eq_true_eq,Bool.not_eq_true'] at h ⊢;obtain ⟨⟨⟨⟨⟨h1,h2⟩,h3⟩,h4⟩,h5⟩,h6⟩:=h;refine ⟨⟨⟨⟨⟨h1,h2⟩,h3⟩,?_⟩,h5⟩,?_⟩
 ·show (s.zY.take n).length<=4000;simp;omega
 ·rw [List.any_eq_false] at h6 ⊢
  exact fun x hx=>h6 x (List.mem_of_mem_take hx)
theorem zhd {s:Scr} (n:Nat) (h:(qU s).2=0):qU (zaP s n)=qU s:=by
 obtain ⟨q,e⟩:=yn h;have q2:=zrx n q;unfold qU;rw [if_pos q,if_pos q2]
 rfl
theorem zs6 {s:Scr} (n:Nat) (ok:zbP s):zbP (zaP s n):=
 ⟨⟨ok.wk.first,ok.wk.threads,ok.wk.ops,by have:=ok.wk.zY;show (s.zY.take n).length < _;simp;omega⟩,ok.cfg,ok.zsQ,ok.names,ok.ops,fun p hp=>ok.zY p (List.mem_of_mem_take hp)⟩
theorem zsL {s:Scr} {n:Nat} (h:(qU s).2=0) (hn:n<=s.zY.length):zmW (zaP s n)=atP (s0P s) s.zY n:=by
 have e:s0P (zaP s n)=s0P s:=by unfold s0P;rw [zhd n h];rfl
 unfold zmW;rw [e];unfold atP;show ((s.zY.take n).take (s.zY.take n).length).foldl vE _=_;rw [List.take_length]
theorem zqp (s:Wor.Pst) (p:Int):s.2.2 <+:(vE s p).2.2:=by
 unfold vE;split
 ·unfold goT;split
  ·split
   ·split
    ·exact List.prefix_append _ _
    ·exact List.prefix_refl _
   ·exact List.prefix_refl _
  ·exact List.prefix_refl _
 ·exact List.prefix_refl _
theorem zjy:∀ (l:List Int) (s:Wor.Pst),s.2.2 <+:(l.foldl vE s).2.2
 | [],s=>List.prefix_refl _
 | p::l,s=>(zqp s p).trans (zjy l (vE s p))
theorem zjf {s:Wor.Pst} {l:List Int} {n m:Nat} (h:n<=m):atP s l m=((l.take m).drop n).foldl vE (atP s l n):=by
 unfold atP;rw [<- List.foldl_append]
 congr 1
 have:l.take n=(l.take m).take n:=by rw [List.take_take];congr 1;omega
 rw [this,List.take_append_drop]
theorem zsM {s:Wor.Pst} {l:List Int} {n m:Nat} (h:n<=m):(atP s l n).2.2 <+:(atP s l m).2.2:=by
 rw [zjf h];exact zjy _ _
theorem zkQ {N K:Nat} {s:Wor.Pst} (gi:GI N K s.1 s.2.1) (l:List Int):∀ k,k<=l.length->N+k<=100000000->K+k<=1099511627776->(atP s l k).2.2.length<=s.2.2.length+k∧((atP s l k).2.2.length=s.2.2.length+k∨qx (atP s l k).2.1 (atP s l k).2.1.length=[])
 | 0,_,_,_=>⟨Nat.le_refl _,.inl rfl⟩
 | k+1,hk,hN,hK=>by
  obtain ⟨i1,i2⟩:=zkQ gi l k (by omega) (by omega) (by omega);have g:=zkP gi l k (by omega) (by omega) (by omega);rw [zcF (List.getElem?_eq_getElem (by omega))];rcases zam g l[k] (by omega) (by omega) with ⟨ha,e⟩ | ⟨t,x,o,r,hat,_,_,_,_,_,_,e,_⟩
  ·rw [e];exact ⟨by omega,.inr ha⟩
  ·rcases i2 with i2 | ha
   ·rw [e];have z:((atP s l k).2.2++[zky r.2.2 x]).length=s.2.2.length+(k+1):=by rw [List.length_append,i2];rfl
    exact ⟨Nat.le_of_eq z,.inl z⟩
   ·rw [ha] at hat;exact nomatch hat
theorem znO {s:Scr} (ok:zbP s) (h:(qU s).2=0) {n:Nat} (hn:n<=s.zY.length):
  (qM (zaP s n)).2.2=0∧(qM (zaP s n)).1.length<=(qM s).1.length∧(qM s).1.take (qM (zaP s n)).1.length=(qM (zaP s n)).1∧jH (qM (zaP s n)).2.1∧TyW 5000 (qM (zaP s n)).2.1∧
   ((qM (zaP s n)).1.length=n∨(qM (zaP s n)).1.length=(qM s).1.length)∧(qM s).1.length<=4000:=by
 have hb:(qU (zaP s n)).2=0:=by rw [zhd n h];exact h
 have e1:qM (zaP s n)=((atP (s0P s) s.zY n).2.2,(atP (s0P s) s.zY n).1,0):=by
  unfold qM;rw [if_pos hb,zsL h hn]
 have e2:qM s=((atP (s0P s) s.zY s.zY.length).2.2,(atP (s0P s) s.zY s.zY.length).1,0):=by
  unfold qM;rw [if_pos h]
  rfl
 rw [e1,e2];dsimp only;have gi:=zfn ok h;obtain ⟨q,_⟩:=yn h;obtain ⟨_,_,_,p4,_,_⟩:=yH q;have pre:=zsM (s:=s0P s) (l:=s.zY) hn;have l1:=zkQ gi s.zY n hn (by omega) (by omega);have l2:=zkQ gi s.zY s.zY.length (Nat.le_refl _) (by omega) (by omega);have z:(s0P s).2.2.length=0:=rfl;have g:=(zmP ok h n hn).mono (N':=5000) (K':=n) (by omega) (Nat.le_refl _);refine ⟨rfl,pre.length_le,(List.prefix_iff_eq_take.1 pre).symm,g.st.jj,g.st.ty,?_,by omega⟩;rcases l1.2 with l | ha
 ·exact .inl (by omega)
 ·refine .inr ?_;rw [zjf hn,znM ha]
theorem zqe {s:Scr} (h:(qM s).2.2≠0):(qM s).1=[]∧(qU s).2≠0:=by
 unfold qM at h ⊢;split at h
 ·exact absurd rfl h
 ·rename_i q;rw [if_neg q];exact ⟨rfl,q⟩
theorem zqY {s:Scr} (h:(qM s).2.2=0):(qU s).2=0:=by
 unfold qM at h;split at h
 ·assumption
 ·exact h
theorem front_sound (s:Scr) (n:Int) (hs:s.okI) (hn:i64 n):zb Tryz.prog 7 [] [.agg (qH s),I n] (Bo true) []:=by
 have m1:(s.zY.map Go.Hy.encI).length=s.zY.length:=List.length_map ..;refine zb.zp (fn:=Tryz.f7) Tryz.func7 rfl (uH ?_);refine ⟨_,_,(zkT s (zqX hs)).frame rfl _,dd ?_⟩;refine ⟨fun h0=>?_,fun h0=>?_⟩
 ·refine dd ?_;(repeat refine uC ?_)
  exact uI
 have ok:=ztr h0 hs;refine dd ?_;rw [m1];refine ⟨fun h1=>?_,fun h1=>?_⟩
 ·refine dd ?_;(repeat refine uC ?_)
  exact uI
 have b1:s.zY.length<=1000:=by simp at h1;omega
 refine dd ?_;refine ⟨fun h2=>?_,fun h2=>?_⟩
 ·refine dd ?_;(repeat refine uC ?_)
  exact uI
 have b2:0<=n:=by simp at h2;omega
 refine dd ?_;rw [m1];refine ⟨fun h3=>?_,fun h3=>?_⟩
 ·refine dd ?_;(repeat refine uC ?_)
  exact uI
 have b3:n<=s.zY.length:=by simp at h3;omega
 obtain ⟨k,rfl⟩:∃ k:Nat,n=k:=⟨n.toNat,by omega⟩;refine dd ?_;refine ⟨_,_,(zan s ok).frame rfl _,dd ?_⟩;by_cases hz:(qM s).2.2=0
 ·have hb:=zqY hz;obtain ⟨f1,f2,f3,f4,f5,f6,f7⟩:=znO ok hb (n:=k) (by omega);have hp:=zan (zaP s k) (zs6 k ok);generalize qM s=p at *;generalize qM (zaP s k)=q at *;obtain ⟨l,w,e⟩:=p;obtain ⟨m,x,f⟩:=q;dsimp only at *;subst hz f1;have ml:(l.map zQ).length=l.length:=List.length_map ..;have mm:(m.map zQ).length=m.length:=List.length_map ..;have en:IntKind.i64.wrap (k:Int)=k:=q0 (by omega) (by omega);refine dd ?_;(refine ⟨fun h=>absurd (h.symm.trans rfl:true=false) (by decide),fun _=>dd ?_⟩)
  refine ⟨.inr rfl,dd ?_⟩;refine ⟨by omega,Nat.zero_le _,by rw [m1];omega,dd ?_⟩;rw [List.drop_zero,Nat.sub_zero,toNat_cast,<- List.map_take];refine ⟨_,_,(hp).frame rfl _,dd ?_⟩;(refine ⟨fun h=>absurd (h.symm.trans rfl:true=false) (by decide),fun _=>dd ?_⟩)
  rw [ml,mm];refine ⟨fun h=>absurd h (by simp;omega),fun _=>dd ?_⟩;rw [mm];refine ⟨.inr rfl,dd ?_⟩;refine ⟨by omega,Nat.zero_le _,by rw [ml];omega,dd ?_⟩;rw [List.drop_zero,Nat.sub_zero,toNat_cast,<- List.map_take,f3];refine ⟨_,_,(zkb m (by omega)).frame rfl _,dd ?_⟩;(repeat refine uC ?_)
  refine ⟨_,_,(zdf).frame rfl _,dd ?_⟩;refine ⟨fun _=>dd ?_,fun h=>absurd h (by simp)⟩;refine ⟨_,_,(zb0 x (zda f4 f5 (by decide))).frame rfl _,dd ?_⟩;rw [qe.2 f4];refine ⟨fun _=>dd ?_,fun h=>absurd h (by simp)⟩;rcases f6 with g | g
  ·rw [mm];refine ⟨fun _=>dd ?_,fun h=>absurd h (by simp;omega)⟩;(repeat refine uC ?_)
   exact uI
  ·refine ⟨fun h7=>?_,fun h7=>?_⟩
   ·refine dd ?_;(repeat refine uC ?_)
    exact uI
   ·refine dd ?_;rw [ml,mm];refine ⟨fun _=>dd ?_,fun h=>absurd h (by simp;omega)⟩;(repeat refine uC ?_)
    exact uI
 ·obtain ⟨e1,_⟩:=zqe hz;rw [e1];generalize (qM s).2.2=e at *;generalize (qM s).2.1=w at *;refine dd ?_;refine ⟨fun _=>dd ?_,fun h=>absurd h (by simpa using hz)⟩;refine ⟨_,_,(zdf).frame rfl _,dd ?_⟩;(repeat refine uC ?_)
  exact uI
end Go.Run
