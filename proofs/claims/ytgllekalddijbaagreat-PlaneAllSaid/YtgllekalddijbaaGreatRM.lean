import Derived.Test.YtgllekalddijbaaGreatRY
import Derived.Test.YtgllekalddijbaaGreatRZ
import Derived.Test.YtgllekalddijbaaGreatRV
import Derived.Test.YtgllekalddijbaaGreatRW
set_option linter.unusedVariables false
set_option linter.unusedSimpArgs false
set_option linter.unusedSectionVars false
set_option maxRecDepth 100000
set_option maxHeartbeats 4000000
namespace Go.Wor
open Go.Ab Go.Proofs Go.Hy Go.Gat Go.Nam Go.Hos Go.Con Go.Sna Go.Pla Go.Dep
abbrev sIn:Str:=[105,110]
abbrev zbF:Sna:=⟨[sIn],[⟨0,[42],[47],0⟩],[⟨[97],1,2,[true]⟩]⟩
abbrev pW (p t h a b n k:Int) (cs:List Int):Wor:=⟨0,0,0,[p],[⟨zbF,[⟨t,[⟨h,[a,b],n⟩]⟩],false⟩],[⟨sIn,false,k,false⟩],[cs],[]⟩
theorem zjO:zdz zbF [sIn] 1=(pW 0 0 1 1 (-1) 0 0 [0,0,0,0,0,0],0):=by rfl
theorem smP (p t h a b n k:Int) {cs:List Int} (hc:cs.length=6):ja (pW p t h a b n k cs) where
 pins:=by simp
 zd:=⟨by simp,fun v hv=>by
  rw [List.mem_singleton.1 hv]
  refine ⟨by simp,fun g hg=>?_⟩
  rw [List.mem_singleton.1 hg]
  refine ⟨by simp,fun e he=>?_⟩
  rw [List.mem_singleton.1 he]
  simp⟩
 ze:=by simp
 counts:=⟨by simp,fun r hr=>by rw [List.mem_singleton.1 hr];omega⟩
 zt:=by simp
theorem okP (p t n:Int) {h a b k:Int} {cs:List Int} (hc:cs.length=6) (he:En.ok ⟨h,[a,b],n⟩) (hk:Lis.ok ⟨sIn,false,k,false⟩):OkW (pW p t h a b n k cs) where
 pins:=by simp
 zd:=⟨by simp,fun v hv=>by
  rw [List.mem_singleton.1 hv]
  refine ⟨⟨⟨by simp,fun x hx=>by rw [List.mem_singleton.1 hx];simp⟩,⟨by simp,fun x hx=>by rw [List.mem_singleton.1 hx];simp⟩,⟨by simp,fun x hx=>by rw [List.mem_singleton.1 hx];simp⟩⟩,by simp,fun g hg=>?_⟩
  rw [List.mem_singleton.1 hg]
  refine ⟨by simp,fun e hh=>?_⟩
  rw [List.mem_singleton.1 hh]
  exact he⟩
 ze:=⟨by simp,fun x hx=>by rw [List.mem_singleton.1 hx];exact hk⟩
 counts:=⟨by simp,fun r hr=>by rw [List.mem_singleton.1 hr];omega⟩
 zt:=by simp
theorem zmI:vm zbF:=⟨⟨by simp,fun x hx=>by rw [List.mem_singleton.1 hx];simp⟩,⟨by simp,fun x hx=>by rw [List.mem_singleton.1 hx];simp⟩,⟨by simp,fun x hx=>by rw [List.mem_singleton.1 hx];simp⟩⟩
theorem zgC:zc Tryz.prog 51 [] [] (Cw (pW 0 0 1 1 (-1) 0 0 [0,0,0,0,0,0])) []:=by
 refine zc.zr (fn:=Tryz.f51) Tryz.func51 rfl ?_
 conv=>whnf
 refine ⟨_,_,(zc.zc1 9 (zjP zbF [sIn] 1 zmI (by decide)) rfl ?_).frame rfl _,?_⟩
 ·rfl
 rw [zjO]
 refine dd ?_
 exact ⟨.inl rfl,_,.refl _,rfl⟩
end Go.Wor
namespace Go.Wor
open Go.Ab Go.Proofs Go.Hy Go.Gat Go.Nam Go.Hos Go.Con Go.Sna Go.Pla Go.Dep
abbrev oH:Opn:=⟨1,sIn,[120],[47],0,0,0,⟨[],[],[]⟩⟩
abbrev hM (pc ep li sl wd lk:Int) (an:Ans) (dn:Bool):Mac:=⟨oH,0,pc,ep,0,li,0,0,0,sl,wd,lk,0,0,0,dn,an,wg⟩
abbrev an0:Ans:=zcn 0
abbrev c0:List Int:=[0,0,0,0,0,0]
theorem enP {h a b n:Int} (h1:u64 h) (h2:i64 a) (h3:i64 b) (h4:i64 n):En.ok ⟨h,[a,b],n⟩:=⟨h1,⟨fun x hx=>by
 rcases List.mem_cons.1 hx with rfl | hx
 ·exact h2
 ·rw [List.mem_singleton.1 hx];exact h3,by simp⟩,h4⟩
theorem liP {k:Int} (h:i64 k):Lis.ok ⟨sIn,false,k,false⟩:=⟨by unfold reachBytes;simp,h⟩
abbrev anR:Ans:=zcn 1
abbrev eP (h a b n:Int):En:=⟨h,[a,b],n⟩
abbrev gP (t h a b n:Int):Gr:=⟨t,[eP h a b n]⟩
abbrev vP (t h a b n:Int):Ver:=⟨zbF,[gP t h a b n],false⟩
theorem okR {pc ep li sl wd lk:Int} {an:Ans} {dn:Bool} {t h a b n:Int}:OkR (hM pc ep li sl wd lk an dn) (vP t h a b n) where
 small:=⟨by simp,by simp,fun r hr=>by rw [List.mem_singleton.1 hr];constructor <;> decide⟩
 host:=(by decide:([120]:Str).length < 1000000000000)
 path:=(by decide:([47]:Str).length < 1000000000000)
 d0:=(by decide:i64 0)
 d1:=(by decide:i64 0)
 zn2:=fun _=>⟨(by decide:0<=(vp zbF sIn [120] [47]).1),⟨[97],1,2,[true]⟩,rfl,by decide⟩
theorem zn3:jg 14 (pW 0 0 1 1 (-1) 0 0 c0) (hM 0 0 (-1) 0 0 0 an0 false) (pW 0 1 4294967298 1 (-1) 1 1 [1,1,0,0,0,0]) (hM 23 0 0 0 1 1 anR true):=by
 (refine .more (zS rfl (jV (by decide) (by decide) (zaj _ _ (smP _ _ _ _ _ _ _ rfl) (okP _ _ _ rfl (enP (by decide) (by decide) (by decide) (by decide)) (liP (by decide))) (by decide) rfl rfl))) (by decide) rfl ?_);(show jg _ (pW 0 0 1 1 (-1) 0 0 c0) (hM 1 0 (-1) 0 0 0 an0 false) _ _)
 (refine .more (zS rfl (jV (by decide) (by decide) (zak _ _ (smP _ _ _ _ _ _ _ rfl) (okP _ _ _ rfl (enP (by decide) (by decide) (by decide) (by decide)) (liP (by decide))) (by decide) rfl rfl))) (by decide) rfl ?_);(show jg _ (pW 1 0 1 1 (-1) 0 0 c0) (hM 2 0 (-1) 0 0 0 an0 false) _ _)
 (refine .more (zS rfl (jV (by decide) (by decide) (zal _ _ (smP _ _ _ _ _ _ _ rfl) (okP _ _ _ rfl (enP (by decide) (by decide) (by decide) (by decide)) (liP (by decide))) (by decide) rfl rfl))) (by decide) rfl ?_);(show jg _ (pW 1 0 1 1 (-1) 0 0 c0) (hM 3 0 (-1) 0 0 0 an0 false) _ _)
 (refine .more (zS rfl (zdh (smP _ _ _ _ _ _ _ rfl) (okP _ _ _ rfl (enP (by decide) (by decide) (by decide) (by decide)) (liP (by decide))) (by decide) rfl rfl (xN _ _ (by decide)))) (by decide) rfl ?_);(show jg _ (pW 1 0 1 1 (-1) 0 0 c0) (hM 4 0 0 0 0 0 an0 false) _ _)
 (refine .more (zS rfl (zdi (smP _ _ _ _ _ _ _ rfl) (okP _ _ _ rfl (enP (by decide) (by decide) (by decide) (by decide)) (liP (by decide))) (by decide) rfl rfl (by decide) (by rfl) (Go.Wor.kR (pW 1 0 1 1 (-1) 0 0 c0) (hM 4 0 0 0 0 0 an0 false) ⟨sIn,false,0,false⟩ (by decide) rfl))) (by decide) rfl ?_);(show jg _ (pW 1 0 1 1 (-1) 0 1 c0) (hM 5 0 0 0 0 0 an0 false) _ _)
 have h5:=yv (pW 1 0 1 1 (-1) 0 1 c0) (hM 5 0 0 0 0 0 an0 false) (vP 0 1 1 (-1) 0) ⟨by decide,rfl⟩ okR (l:=⟨sIn,false,1,false⟩) (by decide) rfl
 (refine .more (zS rfl (zdj (smP _ _ _ _ _ _ _ rfl) (okP _ _ _ rfl (enP (by decide) (by decide) (by decide) (by decide)) (liP (by decide))) (by decide) rfl rfl (by decide) h5)) (by decide) rfl ?_);(show jg _ (pW 1 0 1 1 (-1) 0 1 c0) (hM 6 0 0 0 0 0 an0 false) _ _)
 (refine .more (zS rfl (zdk (smP _ _ _ _ _ _ _ rfl) (okP _ _ _ rfl (enP (by decide) (by decide) (by decide) (by decide)) (liP (by decide))) (by decide) rfl rfl ⟨⟨⟨by decide,rfl⟩,by decide,rfl⟩,by decide,rfl⟩ (by decide) (kn (pW 1 0 1 1 (-1) 0 1 c0) (hM 6 0 0 0 0 0 an0 false) (vP 0 1 1 (-1) 0) (gP 0 1 1 (-1) 0) (eP 1 1 (-1) 0) ⟨[97],1,2,[true]⟩ (AtE.ln ⟨⟨⟨by decide,rfl⟩,by decide,rfl⟩,by decide,rfl⟩) rfl (by decide) (by decide)))) (by decide) rfl ?_);(show jg _ (pW 1 1 1 1 (-1) 0 1 c0) (hM 9 0 0 0 0 0 an0 false) _ _)
 (refine .more (zS rfl (zaQ (smP _ _ _ _ _ _ _ rfl) (okP _ _ _ rfl (enP (by decide) (by decide) (by decide) (by decide)) (liP (by decide))) (by decide) rfl rfl (yZ (pW 1 1 1 1 (-1) 0 1 c0) (hM 9 0 0 0 0 0 an0 false) (vP 1 1 1 (-1) 0) (gP 1 1 1 (-1) 0) (eP 1 1 (-1) 0) ⟨⟨⟨by decide,rfl⟩,by decide,rfl⟩,by decide,rfl⟩ (by decide) (by decide)))) (by decide) rfl ?_);(show jg _ (pW 1 1 1 1 (-1) 0 1 c0) (hM 10 0 0 0 1 0 an0 false) _ _)
 (refine .more (zS rfl (zbr (smP _ _ _ _ _ _ _ rfl) (okP _ _ _ rfl (enP (by decide) (by decide) (by decide) (by decide)) (liP (by decide))) (by decide) rfl rfl (y0 (pW 1 1 1 1 (-1) 0 1 c0) (hM 10 0 0 0 1 0 an0 false) (vP 1 1 1 (-1) 0) (gP 1 1 1 (-1) 0) (eP 1 1 (-1) 0) ⟨⟨⟨by decide,rfl⟩,by decide,rfl⟩,by decide,rfl⟩ (x:=1) (by decide) rfl))) (by decide) rfl ?_);(show jg _ (pW 1 1 1 1 (-1) 0 1 c0) (hM 11 0 0 0 1 1 an0 false) _ _)
 (refine .more (zS rfl (wD (smP _ _ _ _ _ _ _ rfl) (okP _ _ _ rfl (enP (by decide) (by decide) (by decide) (by decide)) (liP (by decide))) (by decide) rfl rfl ⟨⟨⟨by decide,rfl⟩,by decide,rfl⟩,by decide,rfl⟩ (by decide) (xV (pW 1 1 1 1 (-1) 0 1 c0) (hM 11 0 0 0 1 1 an0 false) (vP 1 1 1 (-1) 0) (gP 1 1 1 (-1) 0) (eP 1 1 (-1) 0) (AtE.ln ⟨⟨⟨by decide,rfl⟩,by decide,rfl⟩,by decide,rfl⟩) (by decide) (by decide) (by decide) rfl))) (by decide) rfl ?_);(show jg _ (pW 1 1 4294967298 1 (-1) 0 1 c0) (hM 12 0 0 0 1 1 an0 false) _ _)
 (refine .more (zS rfl (zbs (smP _ _ _ _ _ _ _ rfl) (okP _ _ _ rfl (enP (by decide) (by decide) (by decide) (by decide)) (liP (by decide))) (by decide) rfl rfl ⟨⟨⟨by decide,rfl⟩,by decide,rfl⟩,by decide,rfl⟩ (by decide) (vW (pW 1 1 4294967298 1 (-1) 0 1 c0) (hM 12 0 0 0 1 1 an0 false) (vP 1 4294967298 1 (-1) 0) (gP 1 4294967298 1 (-1) 0) (eP 4294967298 1 (-1) 0) (AtE.ln ⟨⟨⟨by decide,rfl⟩,by decide,rfl⟩,by decide,rfl⟩)))) (by decide) rfl ?_);(show jg _ (pW 1 1 4294967298 1 (-1) 1 1 c0) (hM 20 0 0 0 1 1 anR false) _ _)
 (refine .more (zS rfl (zbt (smP _ _ _ _ _ _ _ rfl) (okP _ _ _ rfl (enP (by decide) (by decide) (by decide) (by decide)) (liP (by decide))) (by decide) rfl rfl (by decide) (by rfl) (by decide) (by rfl) (yt (pW 1 1 4294967298 1 (-1) 1 1 c0) (hM 20 0 0 0 1 1 anR false) c0 0 1 rfl (by decide) (by rfl) (by rfl)))) (by decide) rfl ?_);(show jg _ (pW 1 1 4294967298 1 (-1) 1 1 [0,1,0,0,0,0]) (hM 21 0 0 0 1 1 anR false) _ _)
 (refine .more (zS rfl (zbu (smP _ _ _ _ _ _ _ rfl) (okP _ _ _ rfl (enP (by decide) (by decide) (by decide) (by decide)) (liP (by decide))) (by decide) rfl rfl (by decide) (by rfl) (by decide) (by rfl) (yR (pW 1 1 4294967298 1 (-1) 1 1 [0,1,0,0,0,0]) (hM 21 0 0 0 1 1 anR false) [0,1,0,0,0,0] 0 (by decide) (by rfl) (by rfl)))) (by decide) rfl ?_);(show jg _ (pW 1 1 4294967298 1 (-1) 1 1 [1,1,0,0,0,0]) (hM 23 0 0 0 1 1 anR false) _ _)
 exact .last (zS rfl (zbv (smP _ _ _ _ _ _ _ rfl) (okP _ _ _ rfl (enP (by decide) (by decide) (by decide) (by decide)) (liP (by decide))) (by decide) rfl rfl (wo (pW 1 1 4294967298 1 (-1) 1 1 [1,1,0,0,0,0]) (hM 23 0 0 0 1 1 anR false) (smP _ _ _ _ _ _ _ rfl) (okP _ _ _ rfl (enP (by decide) (by decide) (by decide) (by decide)) (liP (by decide))) (by decide) (by rfl)))) (by decide) rfl
end Go.Wor
namespace Go.Wor
open Go.Ab Go.Proofs Go.Hy Go.Gat Go.Nam Go.Hos Go.Con Go.Sna Go.Pla Go.Dep
abbrev cA:List Int:=[1,1,0,0,0,0]
abbrev anS:Ans:=⟨1,0,0,0,1,0,0,wg⟩
theorem zn4:jg 14 (pW 0 1 4294967298 1 (-1) 1 1 cA) (hM 0 0 (-1) 0 0 0 an0 false) (pW 0 2 8589934592 1 (-1) 2 2 [2,2,0,0,0,0]) (hM 23 0 0 1 4294967298 (-1) anS true):=by
 (refine .more (zS rfl (jV (by decide) (by decide) (zaj _ _ (smP _ _ _ _ _ _ _ rfl) (okP _ _ _ rfl (enP (by decide) (by decide) (by decide) (by decide)) (liP (by decide))) (by decide) rfl rfl))) (by decide) rfl ?_);(show jg _ (pW 0 1 4294967298 1 (-1) 1 1 cA) (hM 1 0 (-1) 0 0 0 an0 false) _ _)
 (refine .more (zS rfl (jV (by decide) (by decide) (zak _ _ (smP _ _ _ _ _ _ _ rfl) (okP _ _ _ rfl (enP (by decide) (by decide) (by decide) (by decide)) (liP (by decide))) (by decide) rfl rfl))) (by decide) rfl ?_);(show jg _ (pW 1 1 4294967298 1 (-1) 1 1 cA) (hM 2 0 (-1) 0 0 0 an0 false) _ _)
 (refine .more (zS rfl (jV (by decide) (by decide) (zal _ _ (smP _ _ _ _ _ _ _ rfl) (okP _ _ _ rfl (enP (by decide) (by decide) (by decide) (by decide)) (liP (by decide))) (by decide) rfl rfl))) (by decide) rfl ?_);(show jg _ (pW 1 1 4294967298 1 (-1) 1 1 cA) (hM 3 0 (-1) 0 0 0 an0 false) _ _)
 (refine .more (zS rfl (zdh (smP _ _ _ _ _ _ _ rfl) (okP _ _ _ rfl (enP (by decide) (by decide) (by decide) (by decide)) (liP (by decide))) (by decide) rfl rfl (xN _ _ (by decide)))) (by decide) rfl ?_);(show jg _ (pW 1 1 4294967298 1 (-1) 1 1 cA) (hM 4 0 0 0 0 0 an0 false) _ _)
 (refine .more (zS rfl (zdi (smP _ _ _ _ _ _ _ rfl) (okP _ _ _ rfl (enP (by decide) (by decide) (by decide) (by decide)) (liP (by decide))) (by decide) rfl rfl (by decide) (by rfl) (Go.Wor.kR (pW 1 1 4294967298 1 (-1) 1 1 cA) (hM 4 0 0 0 0 0 an0 false) ⟨sIn,false,1,false⟩ (by decide) rfl))) (by decide) rfl ?_);(show jg _ (pW 1 1 4294967298 1 (-1) 1 2 cA) (hM 5 0 0 0 0 0 an0 false) _ _)
 have h5:=yv (pW 1 1 4294967298 1 (-1) 1 2 cA) (hM 5 0 0 0 0 0 an0 false) (vP 1 4294967298 1 (-1) 1) ⟨by decide,rfl⟩ okR (l:=⟨sIn,false,2,false⟩) (by decide) rfl
 (refine .more (zS rfl (zdj (smP _ _ _ _ _ _ _ rfl) (okP _ _ _ rfl (enP (by decide) (by decide) (by decide) (by decide)) (liP (by decide))) (by decide) rfl rfl (by decide) h5)) (by decide) rfl ?_);(show jg _ (pW 1 1 4294967298 1 (-1) 1 2 cA) (hM 6 0 0 0 0 0 an0 false) _ _)
 (refine .more (zS rfl (zdk (smP _ _ _ _ _ _ _ rfl) (okP _ _ _ rfl (enP (by decide) (by decide) (by decide) (by decide)) (liP (by decide))) (by decide) rfl rfl ⟨⟨⟨by decide,rfl⟩,by decide,rfl⟩,by decide,rfl⟩ (by decide) (kn (pW 1 1 4294967298 1 (-1) 1 2 cA) (hM 6 0 0 0 0 0 an0 false) (vP 1 4294967298 1 (-1) 1) (gP 1 4294967298 1 (-1) 1) (eP 4294967298 1 (-1) 1) ⟨[97],1,2,[true]⟩ (AtE.ln ⟨⟨⟨by decide,rfl⟩,by decide,rfl⟩,by decide,rfl⟩) rfl (by decide) (by decide)))) (by decide) rfl ?_);(show jg _ (pW 1 2 4294967298 1 (-1) 1 2 cA) (hM 9 0 0 0 0 0 an0 false) _ _)
 (refine .more (zS rfl (zaQ (smP _ _ _ _ _ _ _ rfl) (okP _ _ _ rfl (enP (by decide) (by decide) (by decide) (by decide)) (liP (by decide))) (by decide) rfl rfl (yZ (pW 1 2 4294967298 1 (-1) 1 2 cA) (hM 9 0 0 0 0 0 an0 false) (vP 2 4294967298 1 (-1) 1) (gP 2 4294967298 1 (-1) 1) (eP 4294967298 1 (-1) 1) ⟨⟨⟨by decide,rfl⟩,by decide,rfl⟩,by decide,rfl⟩ (by decide) (by decide)))) (by decide) rfl ?_);(show jg _ (pW 1 2 4294967298 1 (-1) 1 2 cA) (hM 10 0 0 1 4294967298 0 an0 false) _ _)
 (refine .more (zS rfl (zbr (smP _ _ _ _ _ _ _ rfl) (okP _ _ _ rfl (enP (by decide) (by decide) (by decide) (by decide)) (liP (by decide))) (by decide) rfl rfl (y0 (pW 1 2 4294967298 1 (-1) 1 2 cA) (hM 10 0 0 1 4294967298 0 an0 false) (vP 2 4294967298 1 (-1) 1) (gP 2 4294967298 1 (-1) 1) (eP 4294967298 1 (-1) 1) ⟨⟨⟨by decide,rfl⟩,by decide,rfl⟩,by decide,rfl⟩ (x:= -1) (by decide) rfl))) (by decide) rfl ?_);(show jg _ (pW 1 2 4294967298 1 (-1) 1 2 cA) (hM 11 0 0 1 4294967298 (-1) an0 false) _ _)
 (refine .more (zS rfl (wD (smP _ _ _ _ _ _ _ rfl) (okP _ _ _ rfl (enP (by decide) (by decide) (by decide) (by decide)) (liP (by decide))) (by decide) rfl rfl ⟨⟨⟨by decide,rfl⟩,by decide,rfl⟩,by decide,rfl⟩ (by decide) (xV (pW 1 2 4294967298 1 (-1) 1 2 cA) (hM 11 0 0 1 4294967298 (-1) an0 false) (vP 2 4294967298 1 (-1) 1) (gP 2 4294967298 1 (-1) 1) (eP 4294967298 1 (-1) 1) (AtE.ln ⟨⟨⟨by decide,rfl⟩,by decide,rfl⟩,by decide,rfl⟩) (by decide) (by decide) (by decide) rfl))) (by decide) rfl ?_);(show jg _ (pW 1 2 8589934592 1 (-1) 1 2 cA) (hM 12 0 0 1 4294967298 (-1) an0 false) _ _)
 (refine .more (zS rfl (zbs (smP _ _ _ _ _ _ _ rfl) (okP _ _ _ rfl (enP (by decide) (by decide) (by decide) (by decide)) (liP (by decide))) (by decide) rfl rfl ⟨⟨⟨by decide,rfl⟩,by decide,rfl⟩,by decide,rfl⟩ (by decide) (vW (pW 1 2 8589934592 1 (-1) 1 2 cA) (hM 12 0 0 1 4294967298 (-1) an0 false) (vP 2 8589934592 1 (-1) 1) (gP 2 8589934592 1 (-1) 1) (eP 8589934592 1 (-1) 1) (AtE.ln ⟨⟨⟨by decide,rfl⟩,by decide,rfl⟩,by decide,rfl⟩)))) (by decide) rfl ?_);(show jg _ (pW 1 2 8589934592 1 (-1) 2 2 cA) (hM 20 0 0 1 4294967298 (-1) anS false) _ _)
 (refine .more (zS rfl (zbt (smP _ _ _ _ _ _ _ rfl) (okP _ _ _ rfl (enP (by decide) (by decide) (by decide) (by decide)) (liP (by decide))) (by decide) rfl rfl (by decide) (by rfl) (by decide) (by rfl) (yt (pW 1 2 8589934592 1 (-1) 2 2 cA) (hM 20 0 0 1 4294967298 (-1) anS false) cA 1 1 rfl (by decide) (by rfl) (by rfl)))) (by decide) rfl ?_);(show jg _ (pW 1 2 8589934592 1 (-1) 2 2 [1,2,0,0,0,0]) (hM 21 0 0 1 4294967298 (-1) anS false) _ _)
 (refine .more (zS rfl (zbu (smP _ _ _ _ _ _ _ rfl) (okP _ _ _ rfl (enP (by decide) (by decide) (by decide) (by decide)) (liP (by decide))) (by decide) rfl rfl (by decide) (by rfl) (by decide) (by rfl) (yR (pW 1 2 8589934592 1 (-1) 2 2 [1,2,0,0,0,0]) (hM 21 0 0 1 4294967298 (-1) anS false) [1,2,0,0,0,0] 1 (by decide) (by rfl) (by rfl)))) (by decide) rfl ?_);(show jg _ (pW 1 2 8589934592 1 (-1) 2 2 [2,2,0,0,0,0]) (hM 23 0 0 1 4294967298 (-1) anS false) _ _)
 exact .last (zS rfl (zbv (smP _ _ _ _ _ _ _ rfl) (okP _ _ _ rfl (enP (by decide) (by decide) (by decide) (by decide)) (liP (by decide))) (by decide) rfl rfl (wo (pW 1 2 8589934592 1 (-1) 2 2 [2,2,0,0,0,0]) (hM 23 0 0 1 4294967298 (-1) anS false) (smP _ _ _ _ _ _ _ rfl) (okP _ _ _ rfl (enP (by decide) (by decide) (by decide) (by decide)) (liP (by decide))) (by decide) (by rfl)))) (by decide) rfl
end Go.Wor
namespace Go.Wor
open Go.Ab Go.Proofs Go.Hy Go.Gat Go.Nam Go.Hos Go.Con Go.Sna Go.Pla Go.Dep
abbrev oF:Opn:=⟨2,[],[],[],0,0,1,⟨[],[],[]⟩⟩
abbrev fM (pc wd:Int) (an:Ans) (dn:Bool):Mac:=⟨oF,0,pc,0,0,0,0,0,0,1,wd,0,0,0,0,dn,an,wg⟩
abbrev anF:Ans:=⟨6,0,0,0,1,0,0,wg⟩
theorem zn5:jg 5 (pW 0 2 8589934592 1 (-1) 2 2 [2,2,0,0,0,0]) (fM 0 0 an0 false) (pW 0 2 12884901890 1 (-1) 1 1 [2,2,0,0,0,0]) (fM 4 8589934592 anF true):=by
 (refine .more (xi rfl (zc6 (pW 0 2 8589934592 1 (-1) 2 2 [2,2,0,0,0,0]) (fM 0 0 an0 false) (vP 2 8589934592 1 (-1) 2) (gP 2 8589934592 1 (-1) 2) (eP 8589934592 1 (-1) 2) (smP _ _ _ _ _ _ _ rfl) (okP _ _ _ rfl (enP (by decide) (by decide) (by decide) (by decide)) (liP (by decide))) (by decide) rfl rfl ⟨⟨⟨by decide,rfl⟩,by decide,rfl⟩,by decide,rfl⟩ (by decide) (by decide))) (by decide) rfl ?_);(show jg _ (pW 0 2 8589934592 1 (-1) 2 2 [2,2,0,0,0,0]) (fM 1 8589934592 an0 false) _ _)
 (refine .more (xi rfl (zc7 (pW 0 2 8589934592 1 (-1) 2 2 [2,2,0,0,0,0]) (fM 1 8589934592 an0 false) (vP 2 8589934592 1 (-1) 2) (gP 2 8589934592 1 (-1) 2) (eP 8589934592 1 (-1) 2) (smP _ _ _ _ _ _ _ rfl) (okP _ _ _ rfl (enP (by decide) (by decide) (by decide) (by decide)) (liP (by decide))) (by decide) rfl rfl ⟨⟨⟨by decide,rfl⟩,by decide,rfl⟩,by decide,rfl⟩ (by decide) (by decide) (by decide) (by decide) (by decide) rfl rfl rfl)) (by decide) rfl ?_);(show jg _ (pW 0 2 8589934592 1 (-1) 2 2 [2,2,0,0,0,0]) (fM 2 8589934592 an0 false) _ _)
 (refine .more (xi rfl (zc8 (pW 0 2 8589934592 1 (-1) 2 2 [2,2,0,0,0,0]) (fM 2 8589934592 an0 false) (vP 2 8589934592 1 (-1) 2) (gP 2 8589934592 1 (-1) 2) (eP 8589934592 1 (-1) 2) (smP _ _ _ _ _ _ _ rfl) (okP _ _ _ rfl (enP (by decide) (by decide) (by decide) (by decide)) (liP (by decide))) (by decide) rfl rfl ⟨⟨⟨by decide,rfl⟩,by decide,rfl⟩,by decide,rfl⟩ (by decide) (by decide) (by decide) rfl (by decide) (by decide) rfl rfl rfl)) (by decide) rfl ?_);(show jg _ (pW 0 2 12884901890 1 (-1) 2 2 [2,2,0,0,0,0]) (fM 3 8589934592 an0 false) _ _)
 (refine .more (xi rfl (zc9 (pW 0 2 12884901890 1 (-1) 2 2 [2,2,0,0,0,0]) (fM 3 8589934592 an0 false) (vP 2 12884901890 1 (-1) 2) (gP 2 12884901890 1 (-1) 2) (eP 12884901890 1 (-1) 2) (smP _ _ _ _ _ _ _ rfl) (okP _ _ _ rfl (enP (by decide) (by decide) (by decide) (by decide)) (liP (by decide))) (by decide) rfl rfl ⟨⟨⟨by decide,rfl⟩,by decide,rfl⟩,by decide,rfl⟩ (by decide) (by decide) (by decide) rfl rfl rfl)) (by decide) rfl ?_);(show jg _ (pW 0 2 12884901890 1 (-1) 1 2 [2,2,0,0,0,0]) (fM 4 8589934592 an0 false) _ _)
 exact .last (xi rfl (zda (pW 0 2 12884901890 1 (-1) 1 2 [2,2,0,0,0,0]) (fM 4 8589934592 an0 false) (vP 2 12884901890 1 (-1) 1) (gP 2 12884901890 1 (-1) 1) (eP 12884901890 1 (-1) 1) ⟨sIn,false,2,false⟩ (smP _ _ _ _ _ _ _ rfl) (okP _ _ _ rfl (enP (by decide) (by decide) (by decide) (by decide)) (liP (by decide))) (by decide) rfl rfl ⟨⟨⟨by decide,rfl⟩,by decide,rfl⟩,by decide,rfl⟩ (by decide) (by decide) (by decide) rfl)) (by decide) rfl
abbrev nM (an:Ans) (dn:Bool):Mac:=⟨oF,0,9,0,0, -1,0,0,0,0,0,0,0,0,0,dn,an,wg⟩
abbrev WF:Wor:=pW 0 2 12884901890 1 (-1) 1 1 [2,2,0,0,0,0]
theorem zn6:jg 1 WF (nM an0 false) WF (nM (zcn 7) true):=
 .last (xi rfl (zdb WF (nM an0 false) (vP 2 12884901890 1 (-1) 1) (gP 2 12884901890 1 (-1) 1) (eP 12884901890 1 (-1) 1) (smP _ _ _ _ _ _ _ rfl) (okP _ _ _ rfl (enP (by decide) (by decide) (by decide) (by decide)) (liP (by decide))) (by decide) rfl rfl ⟨⟨⟨by decide,rfl⟩,by decide,rfl⟩,by decide,rfl⟩ (by decide) (by decide))) (by decide) rfl
abbrev oS:Opn:=⟨6,[],[],[],0,0,0,⟨[],[],[]⟩⟩
abbrev sM (i k:Int) (dn:Bool) (an:Ans) (x:Six):Mac:=⟨oS,0,0,0,0, -1,0,0,0,0,0,0,i,k,0,dn,an,x⟩
abbrev r2:List Int:=[2,2,0,0,0,0]
theorem zn7:jg 6 WF (sM 0 0 false an0 wg) WF (sM 1 0 true ⟨13,0,0,0,0,0,0,⟨2,2,0,0,0,0⟩⟩ ⟨2,2,0,0,0,0⟩):=by
 (refine .more (xJ rfl (xI WF (sM 0 0 false an0 wg) r2 (2) (smP _ _ _ _ _ _ _ rfl) (okP _ _ _ rfl (enP (by decide) (by decide) (by decide) (by decide)) (liP (by decide))) (by decide) rfl rfl rfl ⟨by decide,rfl,by decide,by decide,rfl⟩ rfl)) (by decide) rfl ?_);(show jg _ WF (sM 0 1 false an0 ⟨2,0,0,0,0,0⟩) _ _)
 (refine .more (xJ rfl (xI WF (sM 0 1 false an0 ⟨2,0,0,0,0,0⟩) r2 (2) (smP _ _ _ _ _ _ _ rfl) (okP _ _ _ rfl (enP (by decide) (by decide) (by decide) (by decide)) (liP (by decide))) (by decide) rfl rfl rfl ⟨by decide,rfl,by decide,by decide,rfl⟩ rfl)) (by decide) rfl ?_);(show jg _ WF (sM 0 2 false an0 ⟨2,2,0,0,0,0⟩) _ _)
 (refine .more (xJ rfl (xI WF (sM 0 2 false an0 ⟨2,2,0,0,0,0⟩) r2 (0) (smP _ _ _ _ _ _ _ rfl) (okP _ _ _ rfl (enP (by decide) (by decide) (by decide) (by decide)) (liP (by decide))) (by decide) rfl rfl rfl ⟨by decide,rfl,by decide,by decide,rfl⟩ rfl)) (by decide) rfl ?_);(show jg _ WF (sM 0 3 false an0 ⟨2,2,0,0,0,0⟩) _ _)
 (refine .more (xJ rfl (xI WF (sM 0 3 false an0 ⟨2,2,0,0,0,0⟩) r2 (0) (smP _ _ _ _ _ _ _ rfl) (okP _ _ _ rfl (enP (by decide) (by decide) (by decide) (by decide)) (liP (by decide))) (by decide) rfl rfl rfl ⟨by decide,rfl,by decide,by decide,rfl⟩ rfl)) (by decide) rfl ?_);(show jg _ WF (sM 0 4 false an0 ⟨2,2,0,0,0,0⟩) _ _)
 (refine .more (xJ rfl (xI WF (sM 0 4 false an0 ⟨2,2,0,0,0,0⟩) r2 (0) (smP _ _ _ _ _ _ _ rfl) (okP _ _ _ rfl (enP (by decide) (by decide) (by decide) (by decide)) (liP (by decide))) (by decide) rfl rfl rfl ⟨by decide,rfl,by decide,by decide,rfl⟩ rfl)) (by decide) rfl ?_);(show jg _ WF (sM 0 5 false an0 ⟨2,2,0,0,0,0⟩) _ _)
 exact .last (xJ rfl (xI WF (sM 0 5 false an0 ⟨2,2,0,0,0,0⟩) r2 0 (smP _ _ _ _ _ _ _ rfl) (okP _ _ _ rfl (enP (by decide) (by decide) (by decide) (by decide)) (liP (by decide))) (by decide) rfl rfl rfl ⟨by decide,rfl,by decide,by decide,rfl⟩ rfl)) (by decide) rfl
end Go.Wor
namespace Go.Wor
open Go.Ab Go.Proofs Go.Hy Go.Gat Go.Nam Go.Hos Go.Con Go.Sna Go.Pla Go.Dep
abbrev eW:En:=⟨12884901890,[1, -1],1⟩
theorem zmT:eW.ok:=enP (by decide) (by decide) (by decide) (by decide)
theorem zhI:zc Tryz.prog 21 [] [Cw WF] (I 1) []:=by
 refine zc.zr (fn:=Tryz.f21) Tryz.func21 rfl ?_
 conv=>whnf
 refine kI.ofN 2 (LoopN.step ?_)
 conv=>whnf
 (repeat ((first | apply ya | apply yb);refine dd ?_))
 refine ⟨by decide,_,rfl,?_⟩
 refine dd ?_
 refine kI.ofN 2 (LoopN.step ?_)
 conv=>whnf
 (repeat ((first | apply ya | apply yb);refine dd ?_))
 refine ⟨by decide,_,rfl,?_⟩
 refine dd ?_
 refine kI.ofN 2 (LoopN.step ?_)
 conv=>whnf
 (repeat ((first | apply ya | apply yb);refine dd ?_))
 refine ⟨by decide,_,rfl,?_⟩
 refine dd ?_
 refine ⟨_,_,(Slp.kc eW zmT).frame rfl _,?_⟩;refine dd ?_
 refine ⟨_,_,(Slp.yX eW zmT).frame rfl _,?_⟩;refine dd ?_
 refine ⟨fun _=>?_,fun h=>absurd h (by decide)⟩
 refine dd ?_
 refine .inl ⟨rfl,LoopN.step ?_⟩
 conv=>whnf
 refine ⟨fun h=>absurd h (by decide),fun _=>?_⟩
 refine dd ?_
 refine .inr ⟨by simp,?_⟩
 conv=>whnf
 refine .inl ⟨rfl,LoopN.step ?_⟩
 conv=>whnf
 refine ⟨fun h=>absurd h (by decide),fun _=>?_⟩
 refine dd ?_
 refine .inr ⟨by simp,?_⟩
 conv=>whnf
 refine .inl ⟨rfl,LoopN.step ?_⟩
 conv=>whnf
 refine ⟨fun h=>absurd h (by decide),fun _=>?_⟩
 refine dd ?_
 refine .inr ⟨by simp,?_⟩
 conv=>whnf
 exact ⟨.inl rfl,_,.refl _,rfl⟩
end Go.Wor
namespace Go.Wor
open Go.Ab Go.Proofs Go.Hy Go.Gat Go.Nam Go.Hos Go.Con Go.Sna Go.Pla Go.Dep
abbrev W1:Wor:=pW 0 1 4294967298 1 (-1) 1 1 cA
theorem zm7:zc Tryz.prog 18 [] [I 0,.agg [I 1,Tx sIn,Tx [120],Tx [47],I 0,I 0,I 0,.lst 1 0 [],.lst 1 0 [],.lst 1 0 []],.lst 1 0 []] (Cm (hM 0 0 (-1) 0 0 0 an0 false)) []:=
 zc.zc1 9 (Beg.jP 0 oH [] (by decide)) rfl rfl
abbrev W2:Wor:=pW 0 2 8589934592 1 (-1) 2 2 [2,2,0,0,0,0]
theorem zm8:zc Tryz.prog 18 [] [I 0,.agg [I 1,Tx sIn,Tx [120],Tx [47],I 0,I 0,I 0,.lst 1 0 [],.lst 1 0 [],.lst 1 0 []],.lst 1 13 [qq anR]] (Cm (hM 0 0 (-1) 0 0 0 an0 false)) []:=
 zc.zc1 9 (Beg.jP 0 oH [anR] (by decide)) rfl rfl
theorem zm9:zc Tryz.prog 18 [] [I 0,.agg [I 2,Tx [],Tx [],Tx [],I 0,I 0,I 1,.lst 1 0 [],.lst 1 0 [],.lst 1 0 []],.lst 1 13 [qq anR,qq anS]] (Cm (fM 0 0 an0 false)) []:=
 zc.zc1 9 (Beg.jP 0 oF [anR,anS] (by decide)) rfl rfl
theorem zna:zc Tryz.prog 18 [] [I 0,.agg [I 2,Tx [],Tx [],Tx [],I 0,I 0,I 1,.lst 1 0 [],.lst 1 0 [],.lst 1 0 []],.lst 0 13 [qq anR,qq anS,qq anF]] (Cm (nM an0 false)) []:=
 zc.zc1 9 (Beg.jP 0 oF [anR,anS,anF] (by decide)) rfl rfl
abbrev anT:Ans:=⟨13,0,0,0,0,0,0,⟨2,2,0,0,0,0⟩⟩
theorem znb:zc Tryz.prog 18 [] [I 0,.agg [I 6,Tx [],Tx [],Tx [],I 0,I 0,I 0,.lst 1 0 [],.lst 1 0 [],.lst 1 0 []],.lst 1 0 []] (Cm (sM 0 0 false an0 wg)) []:=
 zc.zc1 9 (Beg.jP 0 oS [] (by decide)) rfl rfl
theorem zoj:zc Tryz.prog 22 [] [.lst 0 13 [qq anR,qq anS,qq anF]] (lI [0]) []:=kj [anR,anS,anF] (by decide)
theorem znF:zc Tryz.prog 52 [] [lI [0],.lst 1 1 [[I 0]]] (Bo true) []:=zc.zc1 9 (Slp.zgI [0] [0] (by decide) (by decide)) rfl rfl
theorem jy:zc Tryz.prog 19 [] [] (Bo true) []:=by
 refine zc.zr (fn:=Tryz.f19) Tryz.func19 rfl ?_
 conv=>whnf
 refine .inr ⟨⟨[0,1,2,3],[0],true⟩,by kernel_rfl,fun _=>rfl,fun t H=>t=(Bo false:: .ref 0 [] 10 0 0:: .ref 1 [] 8 0 0:: .ref 2 [] 13 0 0::Bo true:: .za::.za::.za::.za::.za::.za::.za::.za::.za::.za::.za::.za::.za::.za::.za::.za::.za::.za::.za::.za::.za::.za::.za::.za::.za::.za::.za::.za::.za::.za::.za::.za::.za::.za::.za::.za::.za::.za::.za::.za::.za::.za::.za::.za::.za::.za::.za::.za::.za::.za::.za::.za::.za::.za::.za::.za::.za::.za::.za::.za::.za::.za::.za::.za::.za::.za::.za::.za::.za::.za::.za::.za::.za::.za::.za::.za::.za::.za::.za::.za::.za::.za::.za::.za::.za::.za::.za::.za::.za::.za::.za::.za::.za::.za::.za::.za::.za::.za::.za::.za::.za::.za::.za::.za::.za::.za::.za::.za::.za::.za::.za::.za::.za::.za::.za::[])∧H=[⟨1,35,10,[[I 1,Tx sIn,Tx [120],Tx [47],I 0,I 0,I 0,.lst 1 0 [],.lst 1 0 [],.lst 1 0 []]],0⟩,⟨1,28,8,[z5 (W1)],0⟩,⟨1,41,13,[qq (anR)],0⟩],?_,?_⟩
 ·conv=>whnf
  refine ⟨_,zc.blind [] (zgC) rfl rfl rfl rfl rfl rfl rfl (fun _=>rfl) (fun _=>rfl),?_⟩;(conv=>whnf)
  refine ⟨_,zc.blind [] (zm7) rfl rfl rfl rfl rfl rfl rfl (fun _=>rfl) (fun _=>rfl),?_⟩;(conv=>whnf)
  refine ⟨_,zc.blind [] (xa zn3 (by decide)) rfl rfl rfl rfl rfl rfl rfl (fun _=>rfl) (fun _=>rfl),?_⟩;(conv=>whnf)
  repeat' (first | (exact trivial) | (refine ⟨rfl,?_⟩;(conv=>whnf)) | (refine ⟨fun _=>?_,fun h=>absurd h (by decide)⟩;(conv=>whnf)) | (exact ⟨_,_,zq.ren [0,1,2] [0,1,2,3,4] _ _ rfl rfl rfl rfl,rfl,rfl⟩) | (exact ⟨_,_,zq.ren [0,2,1] [0,1,2,3,4] _ _ rfl rfl rfl rfl,rfl,rfl⟩) | (refine And.intro ?_ ?_ <;> (conv=>whnf)))
 rintro _ _ ⟨rfl,rfl⟩
 conv=>whnf
 refine .inr ⟨⟨[0,1,2,4,5],[0,1,2],true⟩,by kernel_rfl,fun _=>rfl,fun t H=>t=(Bo false:: .ref 0 [] 10 0 0:: .ref 1 [] 8 0 0:: .ref 2 [] 13 0 0::Bo true:: .ref 3 [] 8 0 0:: .ref 4 [] 13 0 0::Bo true:: .za::.za::.za::.za::.za::.za::.za::.za::.za::.za::.za::.za::.za::.za::.za::.za::.za::.za::.za::.za::.za::.za::.za::.za::.za::.za::.za::.za::.za::.za::.za::.za::.za::.za::.za::.za::.za::.za::.za::.za::.za::.za::.za::.za::.za::.za::.za::.za::.za::.za::.za::.za::.za::.za::.za::.za::.za::.za::.za::.za::.za::.za::.za::.za::.za::.za::.za::.za::.za::.za::.za::.za::.za::.za::.za::.za::.za::.za::.za::.za::.za::.za::.za::.za::.za::.za::.za::.za::.za::.za::.za::.za::.za::.za::.za::.za::.za::.za::.za::.za::.za::.za::.za::.za::.za::.za::.za::.za::.za::.za::.za::.za::[])∧H=[⟨1,35,10,[[I 1,Tx sIn,Tx [120],Tx [47],I 0,I 0,I 0,.lst 1 0 [],.lst 1 0 [],.lst 1 0 []]],0⟩,⟨1,28,8,[z5 (W1)],0⟩,⟨1,41,13,[qq (anR)],0⟩,⟨1,28,8,[z5 (W2)],0⟩,⟨1,41,13,[qq (anS)],0⟩],?_,?_⟩
 ·conv=>whnf
  refine ⟨_,zc.blind [] (zm8) rfl rfl rfl rfl rfl rfl rfl (fun _=>rfl) (fun _=>rfl),?_⟩;(conv=>whnf)
  refine ⟨_,zc.blind [] (xa zn4 (by decide)) rfl rfl rfl rfl rfl rfl rfl (fun _=>rfl) (fun _=>rfl),?_⟩;(conv=>whnf)
  repeat' (first | (exact trivial) | (refine ⟨rfl,?_⟩;(conv=>whnf)) | (refine ⟨fun _=>?_,fun h=>absurd h (by decide)⟩;(conv=>whnf)) | (exact ⟨_,_,zq.ren [0,1,2,3,4] [0,1,2,3,4,5,6,7] _ _ rfl rfl rfl rfl,rfl,rfl⟩) | (exact ⟨_,_,zq.ren [0,1,2,4,3] [0,1,2,3,4,5,6,7] _ _ rfl rfl rfl rfl,rfl,rfl⟩) | (refine And.intro ?_ ?_ <;> (conv=>whnf)))
 rintro _ _ ⟨rfl,rfl⟩
 conv=>whnf
 refine .inr ⟨⟨[0,3,4],[0,1,2,3,4],true⟩,by kernel_rfl,fun _=>rfl,fun t H=>t=(Bo false:: .ref 0 [] 10 0 0:: .ref 1 [] 8 0 0:: .ref 2 [] 13 0 0::Bo true:: .ref 3 [] 8 0 0:: .ref 4 [] 13 0 0::Bo true:: .lst 1 13 [qq anR,qq anS]:: .ref 5 [] 8 0 0:: .ref 6 [] 13 0 0::Bo true:: .za::.za::.za::.za::.za::.za::.za::.za::.za::.za::.za::.za::.za::.za::.za::.za::.za::.za::.za::.za::.za::.za::.za::.za::.za::.za::.za::.za::.za::.za::.za::.za::.za::.za::.za::.za::.za::.za::.za::.za::.za::.za::.za::.za::.za::.za::.za::.za::.za::.za::.za::.za::.za::.za::.za::.za::.za::.za::.za::.za::.za::.za::.za::.za::.za::.za::.za::.za::.za::.za::.za::.za::.za::.za::.za::.za::.za::.za::.za::.za::.za::.za::.za::.za::.za::.za::.za::.za::.za::.za::.za::.za::.za::.za::.za::.za::.za::.za::.za::.za::.za::.za::.za::.za::.za::.za::.za::.za::[])∧H=[⟨1,35,10,[[I 1,Tx sIn,Tx [120],Tx [47],I 0,I 0,I 0,.lst 1 0 [],.lst 1 0 [],.lst 1 0 []]],0⟩,⟨1,28,8,[z5 (W1)],0⟩,⟨1,41,13,[qq (anR)],0⟩,⟨1,28,8,[z5 (W2)],0⟩,⟨1,41,13,[qq (anS)],0⟩,⟨1,28,8,[z5 (WF)],0⟩,⟨1,41,13,[qq (anF)],0⟩],?_,?_⟩
 ·conv=>whnf
  refine ⟨_,zc.blind [] (zm9) rfl rfl rfl rfl rfl rfl rfl (fun _=>rfl) (fun _=>rfl),?_⟩;(conv=>whnf)
  refine ⟨_,zc.blind [] (xa zn5 (by decide)) rfl rfl rfl rfl rfl rfl rfl (fun _=>rfl) (fun _=>rfl),?_⟩;(conv=>whnf)
  repeat' (first | (exact trivial) | (refine ⟨rfl,?_⟩;(conv=>whnf)) | (refine ⟨fun _=>?_,fun h=>absurd h (by decide)⟩;(conv=>whnf)) | (exact ⟨_,_,zq.ren [0,1,2,3,4,5,6] [0,1,2,3,4,5,6,7,8,9,10,11] _ _ rfl rfl rfl rfl,rfl,rfl⟩) | (exact ⟨_,_,zq.ren [0,1,2,3,4,6,5] [0,1,2,3,4,5,6,7,8,9,10,11] _ _ rfl rfl rfl rfl,rfl,rfl⟩) | (refine And.intro ?_ ?_ <;> (conv=>whnf)))
 rintro _ _ ⟨rfl,rfl⟩
 conv=>whnf
 refine .inl ⟨.inr rfl,.inr rfl,by decide,by decide,?_⟩
 refine dd ?_
 refine .inr ⟨⟨[0,3,4],[0,1,2,3,4,5,6],true⟩,by kernel_rfl,fun _=>rfl,fun t H=>t=(Bo false:: .ref 0 [] 10 0 0:: .ref 1 [] 8 0 0:: .ref 2 [] 13 0 0::Bo true:: .ref 3 [] 8 0 0:: .ref 4 [] 13 0 0::Bo true:: .gl 7 13 [qq anR,qq anS,qq anF]:: .ref 5 [] 8 0 0:: .ref 6 [] 13 0 0::Bo true:: .ref 8 [] 8 0 0:: .ref 9 [] 13 0 0::Bo true:: .za::.za::.za::.za::.za::.za::.za::.za::.za::.za::.za::.za::.za::.za::.za::.za::.za::.za::.za::.za::.za::.za::.za::.za::.za::.za::.za::.za::.za::.za::.za::.za::.za::.za::.za::.za::.za::.za::.za::.za::.za::.za::.za::.za::.za::.za::.za::.za::.za::.za::.za::.za::.za::.za::.za::.za::.za::.za::.za::.za::.za::.za::.za::.za::.za::.za::.za::.za::.za::.za::.za::.za::.za::.za::.za::.za::.za::.za::.za::.za::.za::.za::.za::.za::.za::.za::.za::.za::.za::.za::.za::.za::.za::.za::.za::.za::.za::.za::.za::.za::.za::.za::.za::.za::.za::[])∧H=[⟨1,35,10,[[I 1,Tx sIn,Tx [120],Tx [47],I 0,I 0,I 0,.lst 1 0 [],.lst 1 0 [],.lst 1 0 []]],0⟩,⟨1,28,8,[z5 (W1)],0⟩,⟨1,41,13,[qq (anR)],0⟩,⟨1,28,8,[z5 (W2)],0⟩,⟨1,41,13,[qq (anS)],0⟩,⟨1,28,8,[z5 (WF)],0⟩,⟨1,41,13,[qq (anF)],0⟩,⟨4,41,13,[qq anR,qq anS,qq anF],0⟩,⟨1,28,8,[z5 (WF)],0⟩,⟨1,41,13,[qq (zcn 7)],0⟩],?_,?_⟩
 ·conv=>whnf
  refine ⟨_,zc.blind [] (zna) rfl rfl rfl rfl rfl rfl rfl (fun _=>rfl) (fun _=>rfl),?_⟩;(conv=>whnf)
  refine ⟨_,zc.blind [] (xa zn6 (by decide)) rfl rfl rfl rfl rfl rfl rfl (fun _=>rfl) (fun _=>rfl),?_⟩;(conv=>whnf)
  repeat' (first | (exact trivial) | (refine ⟨rfl,?_⟩;(conv=>whnf)) | (refine ⟨fun _=>?_,fun h=>absurd h (by decide)⟩;(conv=>whnf)) | (exact ⟨_,_,zq.ren [0,1,2,3,4,5,6,7,8,9] [0,1,2,3,4,5,6,7,8,9,10,11,12,13,14] _ _ rfl rfl rfl rfl,rfl,rfl⟩) | (exact ⟨_,_,zq.ren [0,1,2,3,4,5,6,7,9,8] [0,1,2,3,4,5,6,7,8,9,10,11,12,13,14] _ _ rfl rfl rfl rfl,rfl,rfl⟩) | (refine And.intro ?_ ?_ <;> (conv=>whnf)))
 rintro _ _ ⟨rfl,rfl⟩
 conv=>whnf
 refine .inr ⟨⟨[0,2,3],[0,1,2,3,4,5,6],true⟩,by kernel_rfl,fun _=>rfl,fun t H=>t=(Bo false:: .ref 0 [] 10 0 0:: .ref 1 [] 8 0 0:: .ref 2 [] 13 0 0::Bo true:: .ref 3 [] 8 0 0:: .ref 4 [] 13 0 0::Bo true:: .gl 7 13 [qq anR,qq anS,qq anF]:: .ref 5 [] 8 0 0:: .ref 6 [] 13 0 0::Bo true:: .ref 8 [] 8 0 0:: .ref 9 [] 13 0 0::Bo true:: .ref 10 [] 8 0 0:: .ref 11 [] 13 0 0::Bo true:: .za::.za::.za::.za::.za::.za::.za::.za::.za::.za::.za::.za::.za::.za::.za::.za::.za::.za::.za::.za::.za::.za::.za::.za::.za::.za::.za::.za::.za::.za::.za::.za::.za::.za::.za::.za::.za::.za::.za::.za::.za::.za::.za::.za::.za::.za::.za::.za::.za::.za::.za::.za::.za::.za::.za::.za::.za::.za::.za::.za::.za::.za::.za::.za::.za::.za::.za::.za::.za::.za::.za::.za::.za::.za::.za::.za::.za::.za::.za::.za::.za::.za::.za::.za::.za::.za::.za::.za::.za::.za::.za::.za::.za::.za::.za::.za::.za::.za::.za::.za::.za::.za::[])∧H=[⟨1,35,10,[[I 1,Tx sIn,Tx [120],Tx [47],I 0,I 0,I 0,.lst 1 0 [],.lst 1 0 [],.lst 1 0 []]],0⟩,⟨1,28,8,[z5 (W1)],0⟩,⟨1,41,13,[qq (anR)],0⟩,⟨1,28,8,[z5 (W2)],0⟩,⟨1,41,13,[qq (anS)],0⟩,⟨1,28,8,[z5 (WF)],0⟩,⟨1,41,13,[qq (anF)],0⟩,⟨4,41,13,[qq anR,qq anS,qq anF],0⟩,⟨1,28,8,[z5 (WF)],0⟩,⟨1,41,13,[qq (zcn 7)],0⟩,⟨1,28,8,[z5 (WF)],0⟩,⟨1,41,13,[qq (anT)],0⟩],?_,?_⟩
 ·conv=>whnf
  refine ⟨_,zc.blind [] (znb) rfl rfl rfl rfl rfl rfl rfl (fun _=>rfl) (fun _=>rfl),?_⟩;(conv=>whnf)
  refine ⟨_,zc.blind [] (xa zn7 (by decide)) rfl rfl rfl rfl rfl rfl rfl (fun _=>rfl) (fun _=>rfl),?_⟩;(conv=>whnf)
  repeat' (first | (exact trivial) | (refine ⟨rfl,?_⟩;(conv=>whnf)) | (refine ⟨fun _=>?_,fun h=>absurd h (by decide)⟩;(conv=>whnf)) | (exact ⟨_,_,zq.ren [0,1,2,3,4,5,6,7,8,9,10,11] [0,1,2,3,4,5,6,7,8,9,10,11,12,13,14,15,16,17] _ _ rfl rfl rfl rfl,rfl,rfl⟩) | (exact ⟨_,_,zq.ren [0,1,2,3,4,5,6,7,8,9,11,10] [0,1,2,3,4,5,6,7,8,9,10,11,12,13,14,15,16,17] _ _ rfl rfl rfl rfl,rfl,rfl⟩) | (refine And.intro ?_ ?_ <;> (conv=>whnf)))
 rintro _ _ ⟨rfl,rfl⟩
 conv=>whnf
 (repeat (first | (refine ⟨fun _=>?_,fun h=>absurd h (by decide)⟩;refine dd ?_) | (refine ⟨by kernel_rfl,?_⟩;refine dd ?_) | (refine ⟨by decide,by decide,?_⟩;refine dd ?_)))
 refine ⟨_,_,(zhI).frame rfl _,?_⟩;refine dd ?_
 (repeat (first | (refine ⟨fun _=>?_,fun h=>absurd h (by decide)⟩;refine dd ?_) | (refine ⟨by kernel_rfl,?_⟩;refine dd ?_)))
 refine ⟨_,_,(zoj).frame rfl _,?_⟩;refine dd ?_
 refine ⟨_,_,(znF).frame rfl _,?_⟩;refine dd ?_
 (repeat ((first | apply ya | apply yb);refine dd ?_))
 exact ⟨.inl rfl,_,.refl _,rfl⟩
end Go.Wor
