import Derived.Test.YtdbcjcnfaajpjaaGreatRY
import Derived.Test.YtdbcjcnfaajpjaaGreatRZ
import Derived.Test.YtdbcjcnfaajpjaaGreatRV
import Derived.Test.YtdbcjcnfaajpjaaGreatRW
set_option linter.unusedVariables false
set_option linter.unusedSimpArgs false
set_option linter.unusedSectionVars false
set_option maxRecDepth 100000
set_option maxHeartbeats 4000000
namespace Go.Wor
open Go.Ab Go.Proofs Go.Hy Go.Gat Go.Nam Go.Hos Go.Con Go.Sna Go.Pla Go.Dep
abbrev sIn:Str:=[105,110]
abbrev zb6:Sna:=⟨[sIn],[⟨0,[42],[47],0⟩],[⟨[97],1,2,[true]⟩]⟩
abbrev pW (p t h a b n k:Int) (cs:List Int):Wor:=⟨0,0,0,[p],[⟨zb6,[⟨t,[⟨h,[a,b],n⟩]⟩],false⟩],[⟨sIn,false,k,false⟩],[cs],[]⟩
theorem zkV:zd4 zb6 [sIn] 1=(pW 0 0 1 1 (-1) 0 0 [0,0,0,0,0,0],0):=by rfl
theorem smP (p t h a b n k:Int) {cs:List Int} (hc:cs.length=6):qC (pW p t h a b n k cs) where
 pins:=by simp
 zd:=⟨by simp,fun v hv=>by
  rw [List.mem_singleton.1 hv]
  refine ⟨by simp,fun g hg=>?_⟩
  rw [List.mem_singleton.1 hg]
  refine ⟨by simp,fun e he=>?_⟩
  rw [List.mem_singleton.1 he]
  simp⟩
 ze:=by simp
 counts:=⟨by simp,fun r hr=>by rw [List.mem_singleton.1 hr];omega⟩
 zm:=by simp
theorem okP (p t n:Int) {h a b k:Int} {cs:List Int} (hc:cs.length=6) (he:En.ok ⟨h,[a,b],n⟩) (hk:Lis.ok ⟨sIn,false,k,false⟩):OkW (pW p t h a b n k cs) where
 pins:=by simp
 zd:=⟨by simp,fun v hv=>by
  rw [List.mem_singleton.1 hv]
  refine ⟨⟨⟨by simp,fun x hx=>by rw [List.mem_singleton.1 hx];simp⟩,⟨by simp,fun x hx=>by rw [List.mem_singleton.1 hx];simp⟩,⟨by simp,fun x hx=>by rw [List.mem_singleton.1 hx];simp⟩⟩,by simp,fun g hg=>?_⟩
  rw [List.mem_singleton.1 hg]
  refine ⟨by simp,fun e hh=>?_⟩
  rw [List.mem_singleton.1 hh]
  exact he⟩
 ze:=⟨by simp,fun x hx=>by rw [List.mem_singleton.1 hx];exact hk⟩
 counts:=⟨by simp,fun r hr=>by rw [List.mem_singleton.1 hr];omega⟩
 zm:=by simp
theorem znW:vb zb6:=⟨⟨by simp,fun x hx=>by rw [List.mem_singleton.1 hx];simp⟩,⟨by simp,fun x hx=>by rw [List.mem_singleton.1 hx];simp⟩,⟨by simp,fun x hx=>by rw [List.mem_singleton.1 hx];simp⟩⟩
theorem zhE:zb Tryz.prog 21 [] [] (Cw (pW 0 0 1 1 (-1) 0 0 [0,0,0,0,0,0])) []:=by
 refine zb.zp (fn:=Tryz.f21) Tryz.func21 rfl ?_
 conv=>whnf
 refine ⟨_,_,(zb.zdu 9 (zkW zb6 [sIn] 1 znW (by decide)) rfl ?_).frame rfl _,?_⟩
 ·rfl
 rw [zkV]
 refine dd ?_
 exact ⟨.inl rfl,_,.refl _,rfl⟩
end Go.Wor
namespace Go.Wor
open Go.Ab Go.Proofs Go.Hy Go.Gat Go.Nam Go.Hos Go.Con Go.Sna Go.Pla Go.Dep
abbrev oH:Opn:=⟨1,sIn,[120],[47],0,0,0,⟨[],[],[]⟩⟩
abbrev hM (pc ep li sl wd lk:Int) (an:Ans) (dn:Bool):Mac:=⟨oH,0,pc,ep,0,li,0,0,0,sl,wd,lk,0,0,0,dn,an,wL⟩
abbrev an0:Ans:=vN 0
abbrev c0:List Int:=[0,0,0,0,0,0]
theorem enP {h a b n:Int} (h1:u64 h) (h2:i64 a) (h3:i64 b) (h4:i64 n):En.ok ⟨h,[a,b],n⟩:=⟨h1,⟨fun x hx=>by
 rcases List.mem_cons.1 hx with rfl | hx
 ·exact h2
 ·rw [List.mem_singleton.1 hx];exact h3,by simp⟩,h4⟩
theorem liP {k:Int} (h:i64 k):Lis.ok ⟨sIn,false,k,false⟩:=⟨by unfold reachBytes;simp,h⟩
abbrev anR:Ans:=vN 1
abbrev eP (h a b n:Int):En:=⟨h,[a,b],n⟩
abbrev gP (t h a b n:Int):Gr:=⟨t,[eP h a b n]⟩
abbrev vP (t h a b n:Int):Ver:=⟨zb6,[gP t h a b n],false⟩
theorem okR {pc ep li sl wd lk:Int} {an:Ans} {dn:Bool} {t h a b n:Int}:OkR (hM pc ep li sl wd lk an dn) (vP t h a b n) where
 small:=⟨by simp,by simp,fun r hr=>by rw [List.mem_singleton.1 hr];constructor <;> decide⟩
 host:=(by decide:([120]:Str).length < 1000000000000)
 path:=(by decide:([47]:Str).length < 1000000000000)
 d0:=(by decide:i64 0)
 d1:=(by decide:i64 0)
 zpn:=fun _=>⟨(by decide:0<=(vJ zb6 sIn [120] [47]).1),⟨[97],1,2,[true]⟩,rfl,by decide⟩
theorem zpo:jt 14 (pW 0 0 1 1 (-1) 0 0 c0) (hM 0 0 (-1) 0 0 0 an0 false) (pW 0 1 4294967298 1 (-1) 1 1 [1,1,0,0,0,0]) (hM 23 0 0 0 1 1 anR true):=by
 (refine .more (zW rfl (j5 (by decide) (by decide) (zaG _ _ (smP _ _ _ _ _ _ _ rfl) (okP _ _ _ rfl (enP (by decide) (by decide) (by decide) (by decide)) (liP (by decide))) (by decide) rfl rfl))) (by decide) rfl ?_);(show jt _ (pW 0 0 1 1 (-1) 0 0 c0) (hM 1 0 (-1) 0 0 0 an0 false) _ _)
 (refine .more (zW rfl (j5 (by decide) (by decide) (zaH _ _ (smP _ _ _ _ _ _ _ rfl) (okP _ _ _ rfl (enP (by decide) (by decide) (by decide) (by decide)) (liP (by decide))) (by decide) rfl rfl))) (by decide) rfl ?_);(show jt _ (pW 1 0 1 1 (-1) 0 0 c0) (hM 2 0 (-1) 0 0 0 an0 false) _ _)
 (refine .more (zW rfl (j5 (by decide) (by decide) (zaI _ _ (smP _ _ _ _ _ _ _ rfl) (okP _ _ _ rfl (enP (by decide) (by decide) (by decide) (by decide)) (liP (by decide))) (by decide) rfl rfl))) (by decide) rfl ?_);(show jt _ (pW 1 0 1 1 (-1) 0 0 c0) (hM 3 0 (-1) 0 0 0 an0 false) _ _)
 (refine .more (zW rfl (zdM (smP _ _ _ _ _ _ _ rfl) (okP _ _ _ rfl (enP (by decide) (by decide) (by decide) (by decide)) (liP (by decide))) (by decide) rfl rfl (x3 _ _ (by decide)))) (by decide) rfl ?_);(show jt _ (pW 1 0 1 1 (-1) 0 0 c0) (hM 4 0 0 0 0 0 an0 false) _ _)
 (refine .more (zW rfl (zdN (smP _ _ _ _ _ _ _ rfl) (okP _ _ _ rfl (enP (by decide) (by decide) (by decide) (by decide)) (liP (by decide))) (by decide) rfl rfl (by decide) (by rfl) (Go.Wor.wj (pW 1 0 1 1 (-1) 0 0 c0) (hM 4 0 0 0 0 0 an0 false) ⟨sIn,false,0,false⟩ (by decide) rfl))) (by decide) rfl ?_);(show jt _ (pW 1 0 1 1 (-1) 0 1 c0) (hM 5 0 0 0 0 0 an0 false) _ _)
 have h5:=yK (pW 1 0 1 1 (-1) 0 1 c0) (hM 5 0 0 0 0 0 an0 false) (vP 0 1 1 (-1) 0) ⟨by decide,rfl⟩ okR (l:=⟨sIn,false,1,false⟩) (by decide) rfl
 (refine .more (zW rfl (zdO (smP _ _ _ _ _ _ _ rfl) (okP _ _ _ rfl (enP (by decide) (by decide) (by decide) (by decide)) (liP (by decide))) (by decide) rfl rfl (by decide) h5)) (by decide) rfl ?_);(show jt _ (pW 1 0 1 1 (-1) 0 1 c0) (hM 6 0 0 0 0 0 an0 false) _ _)
 (refine .more (zW rfl (zdP (smP _ _ _ _ _ _ _ rfl) (okP _ _ _ rfl (enP (by decide) (by decide) (by decide) (by decide)) (liP (by decide))) (by decide) rfl rfl ⟨⟨⟨by decide,rfl⟩,by decide,rfl⟩,by decide,rfl⟩ (by decide) (kL (pW 1 0 1 1 (-1) 0 1 c0) (hM 6 0 0 0 0 0 an0 false) (vP 0 1 1 (-1) 0) (gP 0 1 1 (-1) 0) (eP 1 1 (-1) 0) ⟨[97],1,2,[true]⟩ (AtE.ln ⟨⟨⟨by decide,rfl⟩,by decide,rfl⟩,by decide,rfl⟩) rfl (by decide) (by decide)))) (by decide) rfl ?_);(show jt _ (pW 1 1 1 1 (-1) 0 1 c0) (hM 9 0 0 0 0 0 an0 false) _ _)
 (refine .more (zW rfl (zbc (smP _ _ _ _ _ _ _ rfl) (okP _ _ _ rfl (enP (by decide) (by decide) (by decide) (by decide)) (liP (by decide))) (by decide) rfl rfl (vm (pW 1 1 1 1 (-1) 0 1 c0) (hM 9 0 0 0 0 0 an0 false) (vP 1 1 1 (-1) 0) (gP 1 1 1 (-1) 0) (eP 1 1 (-1) 0) ⟨⟨⟨by decide,rfl⟩,by decide,rfl⟩,by decide,rfl⟩ (by decide) (by decide)))) (by decide) rfl ?_);(show jt _ (pW 1 1 1 1 (-1) 0 1 c0) (hM 10 0 0 0 1 0 an0 false) _ _)
 (refine .more (zW rfl (zbS (smP _ _ _ _ _ _ _ rfl) (okP _ _ _ rfl (enP (by decide) (by decide) (by decide) (by decide)) (liP (by decide))) (by decide) rfl rfl (vn (pW 1 1 1 1 (-1) 0 1 c0) (hM 10 0 0 0 1 0 an0 false) (vP 1 1 1 (-1) 0) (gP 1 1 1 (-1) 0) (eP 1 1 (-1) 0) ⟨⟨⟨by decide,rfl⟩,by decide,rfl⟩,by decide,rfl⟩ (x:=1) (by decide) rfl))) (by decide) rfl ?_);(show jt _ (pW 1 1 1 1 (-1) 0 1 c0) (hM 11 0 0 0 1 1 an0 false) _ _)
 (refine .more (zW rfl (w5 (smP _ _ _ _ _ _ _ rfl) (okP _ _ _ rfl (enP (by decide) (by decide) (by decide) (by decide)) (liP (by decide))) (by decide) rfl rfl ⟨⟨⟨by decide,rfl⟩,by decide,rfl⟩,by decide,rfl⟩ (by decide) (yf (pW 1 1 1 1 (-1) 0 1 c0) (hM 11 0 0 0 1 1 an0 false) (vP 1 1 1 (-1) 0) (gP 1 1 1 (-1) 0) (eP 1 1 (-1) 0) (AtE.ln ⟨⟨⟨by decide,rfl⟩,by decide,rfl⟩,by decide,rfl⟩) (by decide) (by decide) (by decide) rfl))) (by decide) rfl ?_);(show jt _ (pW 1 1 4294967298 1 (-1) 0 1 c0) (hM 12 0 0 0 1 1 an0 false) _ _)
 (refine .more (zW rfl (zbT (smP _ _ _ _ _ _ _ rfl) (okP _ _ _ rfl (enP (by decide) (by decide) (by decide) (by decide)) (liP (by decide))) (by decide) rfl rfl ⟨⟨⟨by decide,rfl⟩,by decide,rfl⟩,by decide,rfl⟩ (by decide) (ks (pW 1 1 4294967298 1 (-1) 0 1 c0) (hM 12 0 0 0 1 1 an0 false) (vP 1 4294967298 1 (-1) 0) (gP 1 4294967298 1 (-1) 0) (eP 4294967298 1 (-1) 0) (AtE.ln ⟨⟨⟨by decide,rfl⟩,by decide,rfl⟩,by decide,rfl⟩)))) (by decide) rfl ?_);(show jt _ (pW 1 1 4294967298 1 (-1) 1 1 c0) (hM 20 0 0 0 1 1 anR false) _ _)
 (refine .more (zW rfl (zbU (smP _ _ _ _ _ _ _ rfl) (okP _ _ _ rfl (enP (by decide) (by decide) (by decide) (by decide)) (liP (by decide))) (by decide) rfl rfl (by decide) (by rfl) (by decide) (by rfl) (yI (pW 1 1 4294967298 1 (-1) 1 1 c0) (hM 20 0 0 0 1 1 anR false) c0 0 1 rfl (by decide) (by rfl) (by rfl)))) (by decide) rfl ?_);(show jt _ (pW 1 1 4294967298 1 (-1) 1 1 [0,1,0,0,0,0]) (hM 21 0 0 0 1 1 anR false) _ _)
 (refine .more (zW rfl (zbV (smP _ _ _ _ _ _ _ rfl) (okP _ _ _ rfl (enP (by decide) (by decide) (by decide) (by decide)) (liP (by decide))) (by decide) rfl rfl (by decide) (by rfl) (by decide) (by rfl) (vc (pW 1 1 4294967298 1 (-1) 1 1 [0,1,0,0,0,0]) (hM 21 0 0 0 1 1 anR false) [0,1,0,0,0,0] 0 (by decide) (by rfl) (by rfl)))) (by decide) rfl ?_);(show jt _ (pW 1 1 4294967298 1 (-1) 1 1 [1,1,0,0,0,0]) (hM 23 0 0 0 1 1 anR false) _ _)
 exact .last (zW rfl (zbW (smP _ _ _ _ _ _ _ rfl) (okP _ _ _ rfl (enP (by decide) (by decide) (by decide) (by decide)) (liP (by decide))) (by decide) rfl rfl (wP (pW 1 1 4294967298 1 (-1) 1 1 [1,1,0,0,0,0]) (hM 23 0 0 0 1 1 anR false) (smP _ _ _ _ _ _ _ rfl) (okP _ _ _ rfl (enP (by decide) (by decide) (by decide) (by decide)) (liP (by decide))) (by decide) (by rfl)))) (by decide) rfl
end Go.Wor
namespace Go.Wor
open Go.Ab Go.Proofs Go.Hy Go.Gat Go.Nam Go.Hos Go.Con Go.Sna Go.Pla Go.Dep
abbrev cA:List Int:=[1,1,0,0,0,0]
abbrev anS:Ans:=⟨1,0,0,0,1,0,0,wL⟩
theorem zpp:jt 14 (pW 0 1 4294967298 1 (-1) 1 1 cA) (hM 0 0 (-1) 0 0 0 an0 false) (pW 0 2 8589934592 1 (-1) 2 2 [2,2,0,0,0,0]) (hM 23 0 0 1 4294967298 (-1) anS true):=by
 (refine .more (zW rfl (j5 (by decide) (by decide) (zaG _ _ (smP _ _ _ _ _ _ _ rfl) (okP _ _ _ rfl (enP (by decide) (by decide) (by decide) (by decide)) (liP (by decide))) (by decide) rfl rfl))) (by decide) rfl ?_);(show jt _ (pW 0 1 4294967298 1 (-1) 1 1 cA) (hM 1 0 (-1) 0 0 0 an0 false) _ _)
 (refine .more (zW rfl (j5 (by decide) (by decide) (zaH _ _ (smP _ _ _ _ _ _ _ rfl) (okP _ _ _ rfl (enP (by decide) (by decide) (by decide) (by decide)) (liP (by decide))) (by decide) rfl rfl))) (by decide) rfl ?_);(show jt _ (pW 1 1 4294967298 1 (-1) 1 1 cA) (hM 2 0 (-1) 0 0 0 an0 false) _ _)
 (refine .more (zW rfl (j5 (by decide) (by decide) (zaI _ _ (smP _ _ _ _ _ _ _ rfl) (okP _ _ _ rfl (enP (by decide) (by decide) (by decide) (by decide)) (liP (by decide))) (by decide) rfl rfl))) (by decide) rfl ?_);(show jt _ (pW 1 1 4294967298 1 (-1) 1 1 cA) (hM 3 0 (-1) 0 0 0 an0 false) _ _)
 (refine .more (zW rfl (zdM (smP _ _ _ _ _ _ _ rfl) (okP _ _ _ rfl (enP (by decide) (by decide) (by decide) (by decide)) (liP (by decide))) (by decide) rfl rfl (x3 _ _ (by decide)))) (by decide) rfl ?_);(show jt _ (pW 1 1 4294967298 1 (-1) 1 1 cA) (hM 4 0 0 0 0 0 an0 false) _ _)
 (refine .more (zW rfl (zdN (smP _ _ _ _ _ _ _ rfl) (okP _ _ _ rfl (enP (by decide) (by decide) (by decide) (by decide)) (liP (by decide))) (by decide) rfl rfl (by decide) (by rfl) (Go.Wor.wj (pW 1 1 4294967298 1 (-1) 1 1 cA) (hM 4 0 0 0 0 0 an0 false) ⟨sIn,false,1,false⟩ (by decide) rfl))) (by decide) rfl ?_);(show jt _ (pW 1 1 4294967298 1 (-1) 1 2 cA) (hM 5 0 0 0 0 0 an0 false) _ _)
 have h5:=yK (pW 1 1 4294967298 1 (-1) 1 2 cA) (hM 5 0 0 0 0 0 an0 false) (vP 1 4294967298 1 (-1) 1) ⟨by decide,rfl⟩ okR (l:=⟨sIn,false,2,false⟩) (by decide) rfl
 (refine .more (zW rfl (zdO (smP _ _ _ _ _ _ _ rfl) (okP _ _ _ rfl (enP (by decide) (by decide) (by decide) (by decide)) (liP (by decide))) (by decide) rfl rfl (by decide) h5)) (by decide) rfl ?_);(show jt _ (pW 1 1 4294967298 1 (-1) 1 2 cA) (hM 6 0 0 0 0 0 an0 false) _ _)
 (refine .more (zW rfl (zdP (smP _ _ _ _ _ _ _ rfl) (okP _ _ _ rfl (enP (by decide) (by decide) (by decide) (by decide)) (liP (by decide))) (by decide) rfl rfl ⟨⟨⟨by decide,rfl⟩,by decide,rfl⟩,by decide,rfl⟩ (by decide) (kL (pW 1 1 4294967298 1 (-1) 1 2 cA) (hM 6 0 0 0 0 0 an0 false) (vP 1 4294967298 1 (-1) 1) (gP 1 4294967298 1 (-1) 1) (eP 4294967298 1 (-1) 1) ⟨[97],1,2,[true]⟩ (AtE.ln ⟨⟨⟨by decide,rfl⟩,by decide,rfl⟩,by decide,rfl⟩) rfl (by decide) (by decide)))) (by decide) rfl ?_);(show jt _ (pW 1 2 4294967298 1 (-1) 1 2 cA) (hM 9 0 0 0 0 0 an0 false) _ _)
 (refine .more (zW rfl (zbc (smP _ _ _ _ _ _ _ rfl) (okP _ _ _ rfl (enP (by decide) (by decide) (by decide) (by decide)) (liP (by decide))) (by decide) rfl rfl (vm (pW 1 2 4294967298 1 (-1) 1 2 cA) (hM 9 0 0 0 0 0 an0 false) (vP 2 4294967298 1 (-1) 1) (gP 2 4294967298 1 (-1) 1) (eP 4294967298 1 (-1) 1) ⟨⟨⟨by decide,rfl⟩,by decide,rfl⟩,by decide,rfl⟩ (by decide) (by decide)))) (by decide) rfl ?_);(show jt _ (pW 1 2 4294967298 1 (-1) 1 2 cA) (hM 10 0 0 1 4294967298 0 an0 false) _ _)
 (refine .more (zW rfl (zbS (smP _ _ _ _ _ _ _ rfl) (okP _ _ _ rfl (enP (by decide) (by decide) (by decide) (by decide)) (liP (by decide))) (by decide) rfl rfl (vn (pW 1 2 4294967298 1 (-1) 1 2 cA) (hM 10 0 0 1 4294967298 0 an0 false) (vP 2 4294967298 1 (-1) 1) (gP 2 4294967298 1 (-1) 1) (eP 4294967298 1 (-1) 1) ⟨⟨⟨by decide,rfl⟩,by decide,rfl⟩,by decide,rfl⟩ (x:= -1) (by decide) rfl))) (by decide) rfl ?_);(show jt _ (pW 1 2 4294967298 1 (-1) 1 2 cA) (hM 11 0 0 1 4294967298 (-1) an0 false) _ _)
 (refine .more (zW rfl (w5 (smP _ _ _ _ _ _ _ rfl) (okP _ _ _ rfl (enP (by decide) (by decide) (by decide) (by decide)) (liP (by decide))) (by decide) rfl rfl ⟨⟨⟨by decide,rfl⟩,by decide,rfl⟩,by decide,rfl⟩ (by decide) (yf (pW 1 2 4294967298 1 (-1) 1 2 cA) (hM 11 0 0 1 4294967298 (-1) an0 false) (vP 2 4294967298 1 (-1) 1) (gP 2 4294967298 1 (-1) 1) (eP 4294967298 1 (-1) 1) (AtE.ln ⟨⟨⟨by decide,rfl⟩,by decide,rfl⟩,by decide,rfl⟩) (by decide) (by decide) (by decide) rfl))) (by decide) rfl ?_);(show jt _ (pW 1 2 8589934592 1 (-1) 1 2 cA) (hM 12 0 0 1 4294967298 (-1) an0 false) _ _)
 (refine .more (zW rfl (zbT (smP _ _ _ _ _ _ _ rfl) (okP _ _ _ rfl (enP (by decide) (by decide) (by decide) (by decide)) (liP (by decide))) (by decide) rfl rfl ⟨⟨⟨by decide,rfl⟩,by decide,rfl⟩,by decide,rfl⟩ (by decide) (ks (pW 1 2 8589934592 1 (-1) 1 2 cA) (hM 12 0 0 1 4294967298 (-1) an0 false) (vP 2 8589934592 1 (-1) 1) (gP 2 8589934592 1 (-1) 1) (eP 8589934592 1 (-1) 1) (AtE.ln ⟨⟨⟨by decide,rfl⟩,by decide,rfl⟩,by decide,rfl⟩)))) (by decide) rfl ?_);(show jt _ (pW 1 2 8589934592 1 (-1) 2 2 cA) (hM 20 0 0 1 4294967298 (-1) anS false) _ _)
 (refine .more (zW rfl (zbU (smP _ _ _ _ _ _ _ rfl) (okP _ _ _ rfl (enP (by decide) (by decide) (by decide) (by decide)) (liP (by decide))) (by decide) rfl rfl (by decide) (by rfl) (by decide) (by rfl) (yI (pW 1 2 8589934592 1 (-1) 2 2 cA) (hM 20 0 0 1 4294967298 (-1) anS false) cA 1 1 rfl (by decide) (by rfl) (by rfl)))) (by decide) rfl ?_);(show jt _ (pW 1 2 8589934592 1 (-1) 2 2 [1,2,0,0,0,0]) (hM 21 0 0 1 4294967298 (-1) anS false) _ _)
 (refine .more (zW rfl (zbV (smP _ _ _ _ _ _ _ rfl) (okP _ _ _ rfl (enP (by decide) (by decide) (by decide) (by decide)) (liP (by decide))) (by decide) rfl rfl (by decide) (by rfl) (by decide) (by rfl) (vc (pW 1 2 8589934592 1 (-1) 2 2 [1,2,0,0,0,0]) (hM 21 0 0 1 4294967298 (-1) anS false) [1,2,0,0,0,0] 1 (by decide) (by rfl) (by rfl)))) (by decide) rfl ?_);(show jt _ (pW 1 2 8589934592 1 (-1) 2 2 [2,2,0,0,0,0]) (hM 23 0 0 1 4294967298 (-1) anS false) _ _)
 exact .last (zW rfl (zbW (smP _ _ _ _ _ _ _ rfl) (okP _ _ _ rfl (enP (by decide) (by decide) (by decide) (by decide)) (liP (by decide))) (by decide) rfl rfl (wP (pW 1 2 8589934592 1 (-1) 2 2 [2,2,0,0,0,0]) (hM 23 0 0 1 4294967298 (-1) anS false) (smP _ _ _ _ _ _ _ rfl) (okP _ _ _ rfl (enP (by decide) (by decide) (by decide) (by decide)) (liP (by decide))) (by decide) (by rfl)))) (by decide) rfl
end Go.Wor
namespace Go.Wor
open Go.Ab Go.Proofs Go.Hy Go.Gat Go.Nam Go.Hos Go.Con Go.Sna Go.Pla Go.Dep
abbrev oF:Opn:=⟨2,[],[],[],0,0,1,⟨[],[],[]⟩⟩
abbrev fM (pc wd:Int) (an:Ans) (dn:Bool):Mac:=⟨oF,0,pc,0,0,0,0,0,0,1,wd,0,0,0,0,dn,an,wL⟩
abbrev anF:Ans:=⟨6,0,0,0,1,0,0,wL⟩
theorem zpq:jt 5 (pW 0 2 8589934592 1 (-1) 2 2 [2,2,0,0,0,0]) (fM 0 0 an0 false) (pW 0 2 12884901890 1 (-1) 1 1 [2,2,0,0,0,0]) (fM 4 8589934592 anF true):=by
 (refine .more (xq rfl (zdB (pW 0 2 8589934592 1 (-1) 2 2 [2,2,0,0,0,0]) (fM 0 0 an0 false) (vP 2 8589934592 1 (-1) 2) (gP 2 8589934592 1 (-1) 2) (eP 8589934592 1 (-1) 2) (smP _ _ _ _ _ _ _ rfl) (okP _ _ _ rfl (enP (by decide) (by decide) (by decide) (by decide)) (liP (by decide))) (by decide) rfl rfl ⟨⟨⟨by decide,rfl⟩,by decide,rfl⟩,by decide,rfl⟩ (by decide) (by decide))) (by decide) rfl ?_);(show jt _ (pW 0 2 8589934592 1 (-1) 2 2 [2,2,0,0,0,0]) (fM 1 8589934592 an0 false) _ _)
 (refine .more (xq rfl (zdC (pW 0 2 8589934592 1 (-1) 2 2 [2,2,0,0,0,0]) (fM 1 8589934592 an0 false) (vP 2 8589934592 1 (-1) 2) (gP 2 8589934592 1 (-1) 2) (eP 8589934592 1 (-1) 2) (smP _ _ _ _ _ _ _ rfl) (okP _ _ _ rfl (enP (by decide) (by decide) (by decide) (by decide)) (liP (by decide))) (by decide) rfl rfl ⟨⟨⟨by decide,rfl⟩,by decide,rfl⟩,by decide,rfl⟩ (by decide) (by decide) (by decide) (by decide) (by decide) rfl rfl rfl)) (by decide) rfl ?_);(show jt _ (pW 0 2 8589934592 1 (-1) 2 2 [2,2,0,0,0,0]) (fM 2 8589934592 an0 false) _ _)
 (refine .more (xq rfl (zdD (pW 0 2 8589934592 1 (-1) 2 2 [2,2,0,0,0,0]) (fM 2 8589934592 an0 false) (vP 2 8589934592 1 (-1) 2) (gP 2 8589934592 1 (-1) 2) (eP 8589934592 1 (-1) 2) (smP _ _ _ _ _ _ _ rfl) (okP _ _ _ rfl (enP (by decide) (by decide) (by decide) (by decide)) (liP (by decide))) (by decide) rfl rfl ⟨⟨⟨by decide,rfl⟩,by decide,rfl⟩,by decide,rfl⟩ (by decide) (by decide) (by decide) rfl (by decide) (by decide) rfl rfl rfl)) (by decide) rfl ?_);(show jt _ (pW 0 2 12884901890 1 (-1) 2 2 [2,2,0,0,0,0]) (fM 3 8589934592 an0 false) _ _)
 (refine .more (xq rfl (zdE (pW 0 2 12884901890 1 (-1) 2 2 [2,2,0,0,0,0]) (fM 3 8589934592 an0 false) (vP 2 12884901890 1 (-1) 2) (gP 2 12884901890 1 (-1) 2) (eP 12884901890 1 (-1) 2) (smP _ _ _ _ _ _ _ rfl) (okP _ _ _ rfl (enP (by decide) (by decide) (by decide) (by decide)) (liP (by decide))) (by decide) rfl rfl ⟨⟨⟨by decide,rfl⟩,by decide,rfl⟩,by decide,rfl⟩ (by decide) (by decide) (by decide) rfl rfl rfl)) (by decide) rfl ?_);(show jt _ (pW 0 2 12884901890 1 (-1) 1 2 [2,2,0,0,0,0]) (fM 4 8589934592 an0 false) _ _)
 exact .last (xq rfl (zdF (pW 0 2 12884901890 1 (-1) 1 2 [2,2,0,0,0,0]) (fM 4 8589934592 an0 false) (vP 2 12884901890 1 (-1) 1) (gP 2 12884901890 1 (-1) 1) (eP 12884901890 1 (-1) 1) ⟨sIn,false,2,false⟩ (smP _ _ _ _ _ _ _ rfl) (okP _ _ _ rfl (enP (by decide) (by decide) (by decide) (by decide)) (liP (by decide))) (by decide) rfl rfl ⟨⟨⟨by decide,rfl⟩,by decide,rfl⟩,by decide,rfl⟩ (by decide) (by decide) (by decide) rfl)) (by decide) rfl
abbrev nM (an:Ans) (dn:Bool):Mac:=⟨oF,0,9,0,0, -1,0,0,0,0,0,0,0,0,0,dn,an,wL⟩
abbrev WF:Wor:=pW 0 2 12884901890 1 (-1) 1 1 [2,2,0,0,0,0]
theorem zpr:jt 1 WF (nM an0 false) WF (nM (vN 7) true):=
 .last (xq rfl (zdG WF (nM an0 false) (vP 2 12884901890 1 (-1) 1) (gP 2 12884901890 1 (-1) 1) (eP 12884901890 1 (-1) 1) (smP _ _ _ _ _ _ _ rfl) (okP _ _ _ rfl (enP (by decide) (by decide) (by decide) (by decide)) (liP (by decide))) (by decide) rfl rfl ⟨⟨⟨by decide,rfl⟩,by decide,rfl⟩,by decide,rfl⟩ (by decide) (by decide))) (by decide) rfl
abbrev oS:Opn:=⟨6,[],[],[],0,0,0,⟨[],[],[]⟩⟩
abbrev sM (i k:Int) (dn:Bool) (an:Ans) (x:Six):Mac:=⟨oS,0,0,0,0, -1,0,0,0,0,0,0,i,k,0,dn,an,x⟩
abbrev r2:List Int:=[2,2,0,0,0,0]
theorem zps:jt 6 WF (sM 0 0 false an0 wL) WF (sM 1 0 true ⟨13,0,0,0,0,0,0,⟨2,2,0,0,0,0⟩⟩ ⟨2,2,0,0,0,0⟩):=by
 (refine .more (xr rfl (xp WF (sM 0 0 false an0 wL) r2 (2) (smP _ _ _ _ _ _ _ rfl) (okP _ _ _ rfl (enP (by decide) (by decide) (by decide) (by decide)) (liP (by decide))) (by decide) rfl rfl rfl ⟨by decide,rfl,by decide,by decide,rfl⟩ rfl)) (by decide) rfl ?_);(show jt _ WF (sM 0 1 false an0 ⟨2,0,0,0,0,0⟩) _ _)
 (refine .more (xr rfl (xp WF (sM 0 1 false an0 ⟨2,0,0,0,0,0⟩) r2 (2) (smP _ _ _ _ _ _ _ rfl) (okP _ _ _ rfl (enP (by decide) (by decide) (by decide) (by decide)) (liP (by decide))) (by decide) rfl rfl rfl ⟨by decide,rfl,by decide,by decide,rfl⟩ rfl)) (by decide) rfl ?_);(show jt _ WF (sM 0 2 false an0 ⟨2,2,0,0,0,0⟩) _ _)
 (refine .more (xr rfl (xp WF (sM 0 2 false an0 ⟨2,2,0,0,0,0⟩) r2 (0) (smP _ _ _ _ _ _ _ rfl) (okP _ _ _ rfl (enP (by decide) (by decide) (by decide) (by decide)) (liP (by decide))) (by decide) rfl rfl rfl ⟨by decide,rfl,by decide,by decide,rfl⟩ rfl)) (by decide) rfl ?_);(show jt _ WF (sM 0 3 false an0 ⟨2,2,0,0,0,0⟩) _ _)
 (refine .more (xr rfl (xp WF (sM 0 3 false an0 ⟨2,2,0,0,0,0⟩) r2 (0) (smP _ _ _ _ _ _ _ rfl) (okP _ _ _ rfl (enP (by decide) (by decide) (by decide) (by decide)) (liP (by decide))) (by decide) rfl rfl rfl ⟨by decide,rfl,by decide,by decide,rfl⟩ rfl)) (by decide) rfl ?_);(show jt _ WF (sM 0 4 false an0 ⟨2,2,0,0,0,0⟩) _ _)
 (refine .more (xr rfl (xp WF (sM 0 4 false an0 ⟨2,2,0,0,0,0⟩) r2 (0) (smP _ _ _ _ _ _ _ rfl) (okP _ _ _ rfl (enP (by decide) (by decide) (by decide) (by decide)) (liP (by decide))) (by decide) rfl rfl rfl ⟨by decide,rfl,by decide,by decide,rfl⟩ rfl)) (by decide) rfl ?_);(show jt _ WF (sM 0 5 false an0 ⟨2,2,0,0,0,0⟩) _ _)
 exact .last (xr rfl (xp WF (sM 0 5 false an0 ⟨2,2,0,0,0,0⟩) r2 0 (smP _ _ _ _ _ _ _ rfl) (okP _ _ _ rfl (enP (by decide) (by decide) (by decide) (by decide)) (liP (by decide))) (by decide) rfl rfl rfl ⟨by decide,rfl,by decide,by decide,rfl⟩ rfl)) (by decide) rfl
end Go.Wor
namespace Go.Wor
open Go.Ab Go.Proofs Go.Hy Go.Gat Go.Nam Go.Hos Go.Con Go.Sna Go.Pla Go.Dep
abbrev eW:En:=⟨12884901890,[1, -1],1⟩
theorem zn4:eW.ok:=enP (by decide) (by decide) (by decide) (by decide)
theorem ziQ:zb Tryz.prog 20 [] [Cw WF] (I 1) []:=by
 refine zb.zp (fn:=Tryz.f20) Tryz.func20 rfl ?_
 conv=>whnf
 refine k7.ofN 2 (LoopN.step ?_)
 conv=>whnf
 (repeat ((first | apply ya | apply yb);refine dd ?_))
 refine ⟨by decide,_,rfl,?_⟩
 refine dd ?_
 refine k7.ofN 2 (LoopN.step ?_)
 conv=>whnf
 (repeat ((first | apply ya | apply yb);refine dd ?_))
 refine ⟨by decide,_,rfl,?_⟩
 refine dd ?_
 refine k7.ofN 2 (LoopN.step ?_)
 conv=>whnf
 (repeat ((first | apply ya | apply yb);refine dd ?_))
 refine ⟨by decide,_,rfl,?_⟩
 refine dd ?_
 refine ⟨_,_,(Slp.kC eW zn4).frame rfl _,?_⟩;refine dd ?_
 refine ⟨_,_,(Slp.kf eW zn4).frame rfl _,?_⟩;refine dd ?_
 refine ⟨fun _=>?_,fun h=>absurd h (by decide)⟩
 refine dd ?_
 refine .inl ⟨rfl,LoopN.step ?_⟩
 conv=>whnf
 refine ⟨fun h=>absurd h (by decide),fun _=>?_⟩
 refine dd ?_
 refine .inr ⟨by simp,?_⟩
 conv=>whnf
 refine .inl ⟨rfl,LoopN.step ?_⟩
 conv=>whnf
 refine ⟨fun h=>absurd h (by decide),fun _=>?_⟩
 refine dd ?_
 refine .inr ⟨by simp,?_⟩
 conv=>whnf
 refine .inl ⟨rfl,LoopN.step ?_⟩
 conv=>whnf
 refine ⟨fun h=>absurd h (by decide),fun _=>?_⟩
 refine dd ?_
 refine .inr ⟨by simp,?_⟩
 conv=>whnf
 exact ⟨.inl rfl,_,.refl _,rfl⟩
end Go.Wor
namespace Go.Wor
open Go.Ab Go.Proofs Go.Hy Go.Gat Go.Nam Go.Hos Go.Con Go.Sna Go.Pla Go.Dep
abbrev W1:Wor:=pW 0 1 4294967298 1 (-1) 1 1 cA
theorem zoo:zb Tryz.prog 8 [] [I 0,.agg [I 1,Tx sIn,Tx [120],Tx [47],I 0,I 0,I 0,.lst 1 0 [],.lst 1 0 [],.lst 1 0 []],.lst 1 0 []] (Cm (hM 0 0 (-1) 0 0 0 an0 false)) []:=
 zb.zdu 9 (Beg.xQ 0 oH [] (by decide)) rfl rfl
abbrev W2:Wor:=pW 0 2 8589934592 1 (-1) 2 2 [2,2,0,0,0,0]
theorem zop:zb Tryz.prog 8 [] [I 0,.agg [I 1,Tx sIn,Tx [120],Tx [47],I 0,I 0,I 0,.lst 1 0 [],.lst 1 0 [],.lst 1 0 []],.lst 1 13 [qT anR]] (Cm (hM 0 0 (-1) 0 0 0 an0 false)) []:=
 zb.zdu 9 (Beg.xQ 0 oH [anR] (by decide)) rfl rfl
theorem zoq:zb Tryz.prog 8 [] [I 0,.agg [I 2,Tx [],Tx [],Tx [],I 0,I 0,I 1,.lst 1 0 [],.lst 1 0 [],.lst 1 0 []],.lst 1 13 [qT anR,qT anS]] (Cm (fM 0 0 an0 false)) []:=
 zb.zdu 9 (Beg.xQ 0 oF [anR,anS] (by decide)) rfl rfl
theorem zor:zb Tryz.prog 8 [] [I 0,.agg [I 2,Tx [],Tx [],Tx [],I 0,I 0,I 1,.lst 1 0 [],.lst 1 0 [],.lst 1 0 []],.lst 0 13 [qT anR,qT anS,qT anF]] (Cm (nM an0 false)) []:=
 zb.zdu 9 (Beg.xQ 0 oF [anR,anS,anF] (by decide)) rfl rfl
abbrev anT:Ans:=⟨13,0,0,0,0,0,0,⟨2,2,0,0,0,0⟩⟩
theorem zos:zb Tryz.prog 8 [] [I 0,.agg [I 6,Tx [],Tx [],Tx [],I 0,I 0,I 0,.lst 1 0 [],.lst 1 0 [],.lst 1 0 []],.lst 1 0 []] (Cm (sM 0 0 false an0 wL)) []:=
 zb.zdu 9 (Beg.xQ 0 oS [] (by decide)) rfl rfl
theorem zpy:zb Tryz.prog 11 [] [.lst 0 13 [qT anR,qT anS,qT anF]] (lI [0]) []:=zd7 [anR,anS,anF] (by decide)
theorem zoY:zb Tryz.prog 10 [] [lI [0],.lst 1 1 [[I 0]]] (Bo true) []:=zb.zdu 9 (Slp.zhL [0] [0] (by decide) (by decide)) rfl rfl
theorem jr:zb Tryz.prog 6 [] [] (Bo true) []:=by
 refine zb.zp (fn:=Tryz.f6) Tryz.func6 rfl ?_
 conv=>whnf
 refine .inr ⟨⟨[0,1,2,3],[0],true⟩,by kernel_rfl,fun _=>rfl,fun t H=>t=[Bo false,.ref 0 [] 10 0 0,.ref 1 [] 8 0 0,.ref 2 [] 13 0 0,Bo true,.za,.za,.za,.za,.za,.za,.za,.za,.za,.za,.za,.za,.za,.za,.za,.za,.za,.za,.za,.za,.za,.za,.za,.za,.za,.za,.za,.za,.za,.za,.za,.za,.za,.za,.za,.za,.za,.za,.za,.za,.za,.za,.za,.za,.za,.za,.za,.za,.za,.za,.za,.za,.za,.za,.za,.za,.za,.za,.za,.za,.za,.za,.za,.za,.za,.za,.za,.za,.za,.za,.za,.za,.za,.za,.za,.za,.za,.za,.za,.za,.za,.za,.za,.za,.za,.za,.za,.za,.za,.za,.za,.za,.za,.za,.za,.za,.za,.za,.za,.za,.za,.za,.za,.za,.za,.za,.za,.za,.za,.za,.za,.za,.za,.za,.za]∧H=[⟨1,28,10,[[I 1,Tx sIn,Tx [120],Tx [47],I 0,I 0,I 0,.lst 1 0 [],.lst 1 0 [],.lst 1 0 []]],0⟩,⟨1,48,8,[zQ (W1)],0⟩,⟨1,35,13,[qT (anR)],0⟩],?_,?_⟩
 ·conv=>whnf
  refine ⟨_,zb.blind [] (zhE) rfl rfl rfl rfl rfl rfl rfl (fun _=>rfl) (fun _=>rfl),?_⟩;(conv=>whnf)
  refine ⟨_,zb.blind [] (zoo) rfl rfl rfl rfl rfl rfl rfl (fun _=>rfl) (fun _=>rfl),?_⟩;(conv=>whnf)
  refine ⟨_,zb.blind [] (xP zpo (by decide)) rfl rfl rfl rfl rfl rfl rfl (fun _=>rfl) (fun _=>rfl),?_⟩;(conv=>whnf)
  repeat' (first | (exact trivial) | (refine ⟨rfl,?_⟩;(conv=>whnf)) | (refine ⟨fun _=>?_,fun h=>absurd h (by decide)⟩;(conv=>whnf)) | (exact ⟨_,_,zt.ren [0,1,2] [0,1,2,3,4] _ _ rfl rfl rfl rfl,rfl,rfl⟩) | (exact ⟨_,_,zt.ren [0,2,1] [0,1,2,3,4] _ _ rfl rfl rfl rfl,rfl,rfl⟩) | (refine And.intro ?_ ?_ <;> (conv=>whnf)))
 rintro _ _ ⟨rfl,rfl⟩
 conv=>whnf
 refine .inr ⟨⟨[0,1,2,4,5],[0,1,2],true⟩,by kernel_rfl,fun _=>rfl,fun t H=>t=[Bo false,.ref 0 [] 10 0 0,.ref 1 [] 8 0 0,.ref 2 [] 13 0 0,Bo true,.ref 3 [] 8 0 0,.ref 4 [] 13 0 0,Bo true,.za,.za,.za,.za,.za,.za,.za,.za,.za,.za,.za,.za,.za,.za,.za,.za,.za,.za,.za,.za,.za,.za,.za,.za,.za,.za,.za,.za,.za,.za,.za,.za,.za,.za,.za,.za,.za,.za,.za,.za,.za,.za,.za,.za,.za,.za,.za,.za,.za,.za,.za,.za,.za,.za,.za,.za,.za,.za,.za,.za,.za,.za,.za,.za,.za,.za,.za,.za,.za,.za,.za,.za,.za,.za,.za,.za,.za,.za,.za,.za,.za,.za,.za,.za,.za,.za,.za,.za,.za,.za,.za,.za,.za,.za,.za,.za,.za,.za,.za,.za,.za,.za,.za,.za,.za,.za,.za,.za,.za,.za,.za,.za]∧H=[⟨1,28,10,[[I 1,Tx sIn,Tx [120],Tx [47],I 0,I 0,I 0,.lst 1 0 [],.lst 1 0 [],.lst 1 0 []]],0⟩,⟨1,48,8,[zQ (W1)],0⟩,⟨1,35,13,[qT (anR)],0⟩,⟨1,48,8,[zQ (W2)],0⟩,⟨1,35,13,[qT (anS)],0⟩],?_,?_⟩
 ·conv=>whnf
  refine ⟨_,zb.blind [] (zop) rfl rfl rfl rfl rfl rfl rfl (fun _=>rfl) (fun _=>rfl),?_⟩;(conv=>whnf)
  refine ⟨_,zb.blind [] (xP zpp (by decide)) rfl rfl rfl rfl rfl rfl rfl (fun _=>rfl) (fun _=>rfl),?_⟩;(conv=>whnf)
  repeat' (first | (exact trivial) | (refine ⟨rfl,?_⟩;(conv=>whnf)) | (refine ⟨fun _=>?_,fun h=>absurd h (by decide)⟩;(conv=>whnf)) | (exact ⟨_,_,zt.ren [0,1,2,3,4] [0,1,2,3,4,5,6,7] _ _ rfl rfl rfl rfl,rfl,rfl⟩) | (exact ⟨_,_,zt.ren [0,1,2,4,3] [0,1,2,3,4,5,6,7] _ _ rfl rfl rfl rfl,rfl,rfl⟩) | (refine And.intro ?_ ?_ <;> (conv=>whnf)))
 rintro _ _ ⟨rfl,rfl⟩
 conv=>whnf
 refine .inr ⟨⟨[0,3,4],[0,1,2,3,4],true⟩,by kernel_rfl,fun _=>rfl,fun t H=>t=[Bo false,.ref 0 [] 10 0 0,.ref 1 [] 8 0 0,.ref 2 [] 13 0 0,Bo true,.ref 3 [] 8 0 0,.ref 4 [] 13 0 0,Bo true,.lst 1 13 [qT anR,qT anS],.ref 5 [] 8 0 0,.ref 6 [] 13 0 0,Bo true,.za,.za,.za,.za,.za,.za,.za,.za,.za,.za,.za,.za,.za,.za,.za,.za,.za,.za,.za,.za,.za,.za,.za,.za,.za,.za,.za,.za,.za,.za,.za,.za,.za,.za,.za,.za,.za,.za,.za,.za,.za,.za,.za,.za,.za,.za,.za,.za,.za,.za,.za,.za,.za,.za,.za,.za,.za,.za,.za,.za,.za,.za,.za,.za,.za,.za,.za,.za,.za,.za,.za,.za,.za,.za,.za,.za,.za,.za,.za,.za,.za,.za,.za,.za,.za,.za,.za,.za,.za,.za,.za,.za,.za,.za,.za,.za,.za,.za,.za,.za,.za,.za,.za,.za,.za,.za,.za,.za]∧H=[⟨1,28,10,[[I 1,Tx sIn,Tx [120],Tx [47],I 0,I 0,I 0,.lst 1 0 [],.lst 1 0 [],.lst 1 0 []]],0⟩,⟨1,48,8,[zQ (W1)],0⟩,⟨1,35,13,[qT (anR)],0⟩,⟨1,48,8,[zQ (W2)],0⟩,⟨1,35,13,[qT (anS)],0⟩,⟨1,48,8,[zQ (WF)],0⟩,⟨1,35,13,[qT (anF)],0⟩],?_,?_⟩
 ·conv=>whnf
  refine ⟨_,zb.blind [] (zoq) rfl rfl rfl rfl rfl rfl rfl (fun _=>rfl) (fun _=>rfl),?_⟩;(conv=>whnf)
  refine ⟨_,zb.blind [] (xP zpq (by decide)) rfl rfl rfl rfl rfl rfl rfl (fun _=>rfl) (fun _=>rfl),?_⟩;(conv=>whnf)
  repeat' (first | (exact trivial) | (refine ⟨rfl,?_⟩;(conv=>whnf)) | (refine ⟨fun _=>?_,fun h=>absurd h (by decide)⟩;(conv=>whnf)) | (exact ⟨_,_,zt.ren [0,1,2,3,4,5,6] [0,1,2,3,4,5,6,7,8,9,10,11] _ _ rfl rfl rfl rfl,rfl,rfl⟩) | (exact ⟨_,_,zt.ren [0,1,2,3,4,6,5] [0,1,2,3,4,5,6,7,8,9,10,11] _ _ rfl rfl rfl rfl,rfl,rfl⟩) | (refine And.intro ?_ ?_ <;> (conv=>whnf)))
 rintro _ _ ⟨rfl,rfl⟩
 conv=>whnf
 refine .inl ⟨.inr rfl,.inr rfl,by decide,by decide,?_⟩
 refine dd ?_
 refine .inr ⟨⟨[0,3,4],[0,1,2,3,4,5,6],true⟩,by kernel_rfl,fun _=>rfl,fun t H=>t=[Bo false,.ref 0 [] 10 0 0,.ref 1 [] 8 0 0,.ref 2 [] 13 0 0,Bo true,.ref 3 [] 8 0 0,.ref 4 [] 13 0 0,Bo true,.gl 7 13 [qT anR,qT anS,qT anF],.ref 5 [] 8 0 0,.ref 6 [] 13 0 0,Bo true,.ref 8 [] 8 0 0,.ref 9 [] 13 0 0,Bo true,.za,.za,.za,.za,.za,.za,.za,.za,.za,.za,.za,.za,.za,.za,.za,.za,.za,.za,.za,.za,.za,.za,.za,.za,.za,.za,.za,.za,.za,.za,.za,.za,.za,.za,.za,.za,.za,.za,.za,.za,.za,.za,.za,.za,.za,.za,.za,.za,.za,.za,.za,.za,.za,.za,.za,.za,.za,.za,.za,.za,.za,.za,.za,.za,.za,.za,.za,.za,.za,.za,.za,.za,.za,.za,.za,.za,.za,.za,.za,.za,.za,.za,.za,.za,.za,.za,.za,.za,.za,.za,.za,.za,.za,.za,.za,.za,.za,.za,.za,.za,.za,.za,.za,.za,.za]∧H=[⟨1,28,10,[[I 1,Tx sIn,Tx [120],Tx [47],I 0,I 0,I 0,.lst 1 0 [],.lst 1 0 [],.lst 1 0 []]],0⟩,⟨1,48,8,[zQ (W1)],0⟩,⟨1,35,13,[qT (anR)],0⟩,⟨1,48,8,[zQ (W2)],0⟩,⟨1,35,13,[qT (anS)],0⟩,⟨1,48,8,[zQ (WF)],0⟩,⟨1,35,13,[qT (anF)],0⟩,⟨4,35,13,[qT anR,qT anS,qT anF],0⟩,⟨1,48,8,[zQ (WF)],0⟩,⟨1,35,13,[qT (vN 7)],0⟩],?_,?_⟩
 ·conv=>whnf
  refine ⟨_,zb.blind [] (zor) rfl rfl rfl rfl rfl rfl rfl (fun _=>rfl) (fun _=>rfl),?_⟩;(conv=>whnf)
  refine ⟨_,zb.blind [] (xP zpr (by decide)) rfl rfl rfl rfl rfl rfl rfl (fun _=>rfl) (fun _=>rfl),?_⟩;(conv=>whnf)
  repeat' (first | (exact trivial) | (refine ⟨rfl,?_⟩;(conv=>whnf)) | (refine ⟨fun _=>?_,fun h=>absurd h (by decide)⟩;(conv=>whnf)) | (exact ⟨_,_,zt.ren [0,1,2,3,4,5,6,7,8,9] [0,1,2,3,4,5,6,7,8,9,10,11,12,13,14] _ _ rfl rfl rfl rfl,rfl,rfl⟩) | (exact ⟨_,_,zt.ren [0,1,2,3,4,5,6,7,9,8] [0,1,2,3,4,5,6,7,8,9,10,11,12,13,14] _ _ rfl rfl rfl rfl,rfl,rfl⟩) | (refine And.intro ?_ ?_ <;> (conv=>whnf)))
 rintro _ _ ⟨rfl,rfl⟩
 conv=>whnf
 refine .inr ⟨⟨[0,2,3],[0,1,2,3,4,5,6],true⟩,by kernel_rfl,fun _=>rfl,fun t H=>t=[Bo false,.ref 0 [] 10 0 0,.ref 1 [] 8 0 0,.ref 2 [] 13 0 0,Bo true,.ref 3 [] 8 0 0,.ref 4 [] 13 0 0,Bo true,.gl 7 13 [qT anR,qT anS,qT anF],.ref 5 [] 8 0 0,.ref 6 [] 13 0 0,Bo true,.ref 8 [] 8 0 0,.ref 9 [] 13 0 0,Bo true,.ref 10 [] 8 0 0,.ref 11 [] 13 0 0,Bo true,.za,.za,.za,.za,.za,.za,.za,.za,.za,.za,.za,.za,.za,.za,.za,.za,.za,.za,.za,.za,.za,.za,.za,.za,.za,.za,.za,.za,.za,.za,.za,.za,.za,.za,.za,.za,.za,.za,.za,.za,.za,.za,.za,.za,.za,.za,.za,.za,.za,.za,.za,.za,.za,.za,.za,.za,.za,.za,.za,.za,.za,.za,.za,.za,.za,.za,.za,.za,.za,.za,.za,.za,.za,.za,.za,.za,.za,.za,.za,.za,.za,.za,.za,.za,.za,.za,.za,.za,.za,.za,.za,.za,.za,.za,.za,.za,.za,.za,.za,.za,.za,.za]∧H=[⟨1,28,10,[[I 1,Tx sIn,Tx [120],Tx [47],I 0,I 0,I 0,.lst 1 0 [],.lst 1 0 [],.lst 1 0 []]],0⟩,⟨1,48,8,[zQ (W1)],0⟩,⟨1,35,13,[qT (anR)],0⟩,⟨1,48,8,[zQ (W2)],0⟩,⟨1,35,13,[qT (anS)],0⟩,⟨1,48,8,[zQ (WF)],0⟩,⟨1,35,13,[qT (anF)],0⟩,⟨4,35,13,[qT anR,qT anS,qT anF],0⟩,⟨1,48,8,[zQ (WF)],0⟩,⟨1,35,13,[qT (vN 7)],0⟩,⟨1,48,8,[zQ (WF)],0⟩,⟨1,35,13,[qT (anT)],0⟩],?_,?_⟩
 ·conv=>whnf
  refine ⟨_,zb.blind [] (zos) rfl rfl rfl rfl rfl rfl rfl (fun _=>rfl) (fun _=>rfl),?_⟩;(conv=>whnf)
  refine ⟨_,zb.blind [] (xP zps (by decide)) rfl rfl rfl rfl rfl rfl rfl (fun _=>rfl) (fun _=>rfl),?_⟩;(conv=>whnf)
  repeat' (first | (exact trivial) | (refine ⟨rfl,?_⟩;(conv=>whnf)) | (refine ⟨fun _=>?_,fun h=>absurd h (by decide)⟩;(conv=>whnf)) | (exact ⟨_,_,zt.ren [0,1,2,3,4,5,6,7,8,9,10,11] [0,1,2,3,4,5,6,7,8,9,10,11,12,13,14,15,16,17] _ _ rfl rfl rfl rfl,rfl,rfl⟩) | (exact ⟨_,_,zt.ren [0,1,2,3,4,5,6,7,8,9,11,10] [0,1,2,3,4,5,6,7,8,9,10,11,12,13,14,15,16,17] _ _ rfl rfl rfl rfl,rfl,rfl⟩) | (refine And.intro ?_ ?_ <;> (conv=>whnf)))
 rintro _ _ ⟨rfl,rfl⟩
 conv=>whnf
 (repeat (first | (refine ⟨fun _=>?_,fun h=>absurd h (by decide)⟩;refine dd ?_) | (refine ⟨by kernel_rfl,?_⟩;refine dd ?_) | (refine ⟨by decide,by decide,?_⟩;refine dd ?_)))
 refine ⟨_,_,(ziQ).frame rfl _,?_⟩;refine dd ?_
 (repeat (first | (refine ⟨fun _=>?_,fun h=>absurd h (by decide)⟩;refine dd ?_) | (refine ⟨by kernel_rfl,?_⟩;refine dd ?_)))
 refine ⟨_,_,(zpy).frame rfl _,?_⟩;refine dd ?_
 refine ⟨_,_,(zoY).frame rfl _,?_⟩;refine dd ?_
 (repeat ((first | apply ya | apply yb);refine dd ?_))
 exact ⟨.inl rfl,_,.refl _,rfl⟩
end Go.Wor
