/- Layer 10 (calls): CallsGo, walked. -/
import Derived.Test.YtbndjpkncgfpiaaSrtH
import Derived.Test.YtbndjpkncgfpiaaCalL
namespace Go.Srt
open Go.Ab Go.Proofs Go.Hy Go.Cal
set_option linter.unusedVariables false
set_option linter.unusedSimpArgs false
set_option maxRecDepth 100000
set_option maxHeartbeats 4000000

/-- Of two calls the first one begins sooner, and has ended by then if they are of one thread. -/
def Pr (a b : Cal) : Prop := a.from_ < b.from_ ∧ (a.thread = b.thread → 0 ≤ a.to_ ∧ a.to_ < b.from_)

theorem begin_idle {b b' : Bk} (hb : Inv b) {e : Eve} {i : Int} (hi : 0 ≤ i) (he : e.begin_ = true) (h : eventV b i e = some b') : ∀ c ∈ b.l, c.thread = e.thread → 0 ≤ c.to_ := by
  have h1 := (event_same hb hi (e := e)).1
  rw [h] at h1
  unfold refE at h1
  rw [if_pos he] at h1
  split at h1
  · cases h1
  · rename_i h2
    intro c hc ht
    simp only [Bool.or_eq_true, not_or] at h2
    have h3 : busyV b.l e.thread = false := by simpa using h2.2
    unfold busyV at h3
    rw [List.any_eq_false] at h3
    have := h3 c hc
    simp [ht] at this
    omega

theorem mark_from (e : Eve) (i : Int) (c : Cal) : (markC e i c).from_ = c.from_ := by
  unfold markC
  cases e.point <;> cases e.done <;> rfl

theorem pairs (l : List Eve) : ∀ {k : Nat} {b : Bk}, bkAt l k = some b → b.l.Pairwise Pr
  | 0, b, h => by cases h; exact .nil
  | k + 1, b, h => by
    have h0 := h
    simp only [bkAt] at h
    cases h1 : bkAt l k with
    | none => rw [h1] at h; cases h
    | some b0 =>
      rw [h1] at h
      have ih := pairs l h1
      have hok := (bk_count l h1).ok
      cases h5 : l[k]? with
      | none => rw [h5] at h; cases h
      | some e =>
        rw [h5] at h
        have hi := (at_same l k).2 b0 h1
        have hev : eventV b0 (k : Int) e = some b := h
        obtain ⟨n, c, hc, ht, hl⟩ := event_step hi (by omega) hev
        have hw : (withNew b0 (k : Int) e).Pairwise Pr := by
          unfold withNew
          split
          · rename_i he
            have hidle := begin_idle hi (by omega) he hev
            refine List.pairwise_append.2 ⟨ih, by simp, fun c' hc' d hd => ?_⟩
            obtain rfl := List.mem_singleton.1 hd
            have h6 := hok c' hc'
            refine ⟨h6.from0.2, fun h7 => ?_⟩
            have h8 := hidle c' hc' h7
            have := h6.to0
            exact ⟨h8, by show c'.to_ < (k : Int); omega⟩
          · exact ih
        rw [hl]
        rw [List.pairwise_iff_getElem] at hw ⊢
        have hn := (List.getElem?_eq_some_iff.1 hc).1
        have hcn : (withNew b0 (k : Int) e)[n] = c := (List.getElem?_eq_some_iff.1 hc).2
        intro i j h6 h7 hij
        rw [List.length_set] at h6 h7
        have hp := hw i j h6 h7 hij
        rw [List.getElem_set, List.getElem_set]
        by_cases e1 : n = i
        · subst e1
          rw [if_pos rfl, if_neg (by omega)]
          rw [hcn] at hp
          refine ⟨by rw [mark_from]; exact hp.1, fun h8 => ?_⟩
          rw [(mark_thread e _ c).1] at h8
          have := (hp.2 h8).1
          omega
        · rw [if_neg e1]
          by_cases e2 : n = j
          · subst e2
            rw [if_pos rfl]
            rw [hcn] at hp
            refine ⟨by rw [mark_from]; exact hp.1, fun h8 => ?_⟩
            rw [(mark_thread e _ c).1] at h8
            rw [mark_from]
            exact hp.2 h8
          · rw [if_neg e2]; exact hp

theorem go_key {cs : List Cal} {N : Int} (hok : ∀ c ∈ cs, CalOk N c) {i k : Nat} (hk : k < i) (hi : i < (ordV cs).length) : ∃ x y : Int, (ordV cs)[i]? = some x ∧ (ordV cs)[k]? = some y ∧ 0 ≤ x ∧ 0 ≤ y ∧ ∃ a b : Cal, cs[x.toNat]? = some a ∧ cs[y.toNat]? = some b ∧ aheadV a b = false := by
  have h1 := ordV_perm cs
  have mem : ∀ j (h : j < (ordV cs).length), 0 ≤ (ordV cs)[j] ∧ (ordV cs)[j].toNat < cs.length ∧ ptV cs (ordV cs)[j] ≠ -1 := fun j h => by
    have := idx_mem (h1.mem_iff.1 (List.getElem_mem h))
    omega
  obtain ⟨x0, x1, x2⟩ := mem i hi
  obtain ⟨y0, y1, y2⟩ := mem k (by omega)
  have hle := (List.pairwise_iff_getElem.1 (ordV_sd cs) k i (by omega) hi hk).le
  refine ⟨(ordV cs)[i], (ordV cs)[k], List.getElem?_eq_getElem hi, List.getElem?_eq_getElem (by omega), x0, y0, _, _, List.getElem?_eq_getElem x1, List.getElem?_eq_getElem y1, ?_⟩
  have ox := hok _ (List.getElem_mem x1)
  have oy := hok _ (List.getElem_mem y1)
  unfold ptV at hle x2 y2
  rw [List.getElem?_eq_getElem x1] at hle x2
  rw [List.getElem?_eq_getElem y1] at hle y2
  simp only [Option.map_some, Option.getD_some] at hle x2 y2
  obtain ⟨a1, a2, a3, a4⟩ := ox
  obtain ⟨b1, b2, b3, b4⟩ := oy
  unfold aheadV
  rw [Bool.and_eq_false_iff]
  by_cases h : (cs[(ordV cs)[i].toNat]).to_ = -1
  · left; simp [h]
  · right; simp; omega


theorem callsGoL_sound (l : List Eve) (hl : l.length < 900000000000) : SoundAt Try.prog 4 [] [lEv l] (Bo true) [] := by
  have ho := of_sound l hl
  have hlm : (l.map encEv).length = l.length := List.length_map ..
  have key : (Cal.ofV l).2 = 0 → (∀ c ∈ (Cal.ofV l).1, CalOk (l.length : Int) c) ∧ (Cal.ofV l).1.Pairwise Pr ∧ (Cal.ofV l).1.length ≤ l.length := fun h => by
    unfold Cal.ofV at h ⊢
    cases hb : bkAt l l.length with
    | none => rw [hb] at h; cases h
    | some b => exact ⟨(bk_count l hb).ok, pairs l hb, (bkAt_ok hb).2⟩
  generalize Cal.ofV l = q at *
  obtain ⟨cs, er⟩ := q
  dsimp only at key
  have hcm : (cs.map encCal).length = cs.length := List.length_map ..
  refine SoundAt.of_wpA1 (fn := Try.f4) Try.func4 rfl ?_
  conv => whnf
  refine ⟨_, _, (ho).frame rfl _, ?_⟩; (conv => whnf); (try (refine ⟨(rfl : (_ : Heap) = _), ?_⟩; (conv => whnf)))
  refine ⟨fun h1 => ?_, fun h1 => ?_⟩
  · (conv => whnf); (try (refine ⟨(rfl : (_ : Heap) = _), ?_⟩; (conv => whnf)))
    (repeat (first | (refine ⟨fun _ => ?_, fun h => absurd h (by decide)⟩; (conv => whnf); (try (refine ⟨(rfl : (_ : Heap) = _), ?_⟩; (conv => whnf)))) | (refine ⟨fun h => absurd h (by decide), fun _ => ?_⟩; (conv => whnf); (try (refine ⟨(rfl : (_ : Heap) = _), ?_⟩; (conv => whnf))))))
    refine ⟨_, _, (traced).frame rfl _, ?_⟩; (conv => whnf); (try (refine ⟨(rfl : (_ : Heap) = _), ?_⟩; (conv => whnf))); (repeat (first | (refine ⟨fun _ => ?_, fun h => absurd h (by decide)⟩; (conv => whnf); (try (refine ⟨(rfl : (_ : Heap) = _), ?_⟩; (conv => whnf)))) | (refine ⟨fun h => absurd h (by decide), fun _ => ?_⟩; (conv => whnf); (try (refine ⟨(rfl : (_ : Heap) = _), ?_⟩; (conv => whnf)))))); exact ⟨.inl rfl, _, .refl _, rfl⟩
  · (conv => whnf); (try (refine ⟨(rfl : (_ : Heap) = _), ?_⟩; (conv => whnf)))
    refine ⟨fun h2 => ?_, fun h2 => ?_⟩
    · (conv => whnf); (try (refine ⟨(rfl : (_ : Heap) = _), ?_⟩; (conv => whnf)))
      refine ⟨_, _, (traced).frame rfl _, ?_⟩; (conv => whnf); (try (refine ⟨(rfl : (_ : Heap) = _), ?_⟩; (conv => whnf))); (repeat (first | (refine ⟨fun _ => ?_, fun h => absurd h (by decide)⟩; (conv => whnf); (try (refine ⟨(rfl : (_ : Heap) = _), ?_⟩; (conv => whnf)))) | (refine ⟨fun h => absurd h (by decide), fun _ => ?_⟩; (conv => whnf); (try (refine ⟨(rfl : (_ : Heap) = _), ?_⟩; (conv => whnf)))))); exact ⟨.inl rfl, _, .refl _, rfl⟩
    · have he : er = 0 := by simpa using h2
      subst he
      obtain ⟨k1, k2, k3⟩ := key rfl
      have hl3 : l.length ≤ 300 := by rw [hlm] at h1; simp at h1; omega
      have hol : ((ordV cs).map encI).length = (ordV cs).length := List.length_map ..
      have hoc : (ordV cs).length ≤ cs.length := by rw [(ordV_perm cs).length_eq]; exact idx_len _
      (conv => whnf); (try (refine ⟨(rfl : (_ : Heap) = _), ?_⟩; (conv => whnf)))
      refine ⟨_, _, (order_sound cs (by omega)).frame rfl _, ?_⟩; (conv => whnf); (try (refine ⟨(rfl : (_ : Heap) = _), ?_⟩; (conv => whnf)))
      refine Loops.seq (ordV cs).length (fun i => [lEv l, .junk, Bo false, lCal cs, .junk, lI (ordV cs), I i, .junk, .junk, .junk, .junk, .junk, .junk, .junk, .junk, .junk, .junk, .junk, .junk, .junk, .junk, .junk, .junk, .junk, .junk, .junk, .junk, .junk, .junk, .junk, .junk, .junk, .junk, .junk, .junk, .junk, .junk, .junk, .junk, .junk, .junk, .junk, .junk, .junk, .junk, .junk, .junk, .junk, .junk, .junk, .junk, .junk, .junk, .junk, .junk, .junk, .junk, .junk, .junk, .junk, .junk, .junk, .junk, .junk, .junk, .junk, .junk, .junk, .junk, .junk, .junk, .junk, .junk, .junk, .junk, .junk, .junk, .junk, .junk, .junk, .junk, .junk, .junk, .junk, .junk, .junk, .junk, .junk, .junk, .junk, .junk, .junk, .junk, .junk, .junk, .junk, .junk, .junk, .junk, .junk, .junk, .junk, .junk, .junk, .junk, .junk, .junk, .junk, .junk, .junk, .junk, .junk, .junk, .junk, .junk, .junk, .junk, .junk, .junk, .junk, .junk, .junk, .junk, .junk, .junk, .junk, .junk, .junk, .junk, .junk, .junk]) (fun k => []) (fun k => True) ?_ trivial (fun i hi hr => ?_) (fun hr => ?_)
      · exact Weak.cov (by (conv => whnf); (repeat (refine ⟨rfl, ?_⟩; (conv => whnf))); exact trivial)
      · conv => whnf
        refine ⟨fun _ => ?_, fun h => absurd h (by rw [hol]; simp; omega)⟩
        (conv => whnf); (try (refine ⟨(rfl : (_ : Heap) = _), ?_⟩; (conv => whnf)))
        refine Loops.seq i (fun k => [lEv l, .junk, Bo false, lCal cs, .junk, lI (ordV cs), I i, I k, .junk, .junk, .junk, .junk, .junk, .junk, .junk, .junk, .junk, .junk, .junk, .junk, .junk, .junk, .junk, .junk, .junk, .junk, .junk, .junk, .junk, .junk, .junk, .junk, .junk, .junk, .junk, .junk, .junk, .junk, .junk, .junk, .junk, .junk, .junk, .junk, .junk, .junk, .junk, .junk, .junk, .junk, .junk, .junk, .junk, .junk, .junk, .junk, .junk, .junk, .junk, .junk, .junk, .junk, .junk, .junk, .junk, .junk, .junk, .junk, .junk, .junk, .junk, .junk, .junk, .junk, .junk, .junk, .junk, .junk, .junk, .junk, .junk, .junk, .junk, .junk, .junk, .junk, .junk, .junk, .junk, .junk, .junk, .junk, .junk, .junk, .junk, .junk, .junk, .junk, .junk, .junk, .junk, .junk, .junk, .junk, .junk, .junk, .junk, .junk, .junk, .junk, .junk, .junk, .junk, .junk, .junk, .junk, .junk, .junk, .junk, .junk, .junk, .junk, .junk, .junk, .junk, .junk, .junk, .junk, .junk, .junk, .junk]) (fun k => []) (fun k => True) ?_ trivial (fun k hk hr => ?_) (fun hr => ?_)
        · exact Weak.cov (by (conv => whnf); (repeat (refine ⟨rfl, ?_⟩; (conv => whnf))); exact trivial)
        · obtain ⟨x, y, gx, gy, x0, y0, a, b, ga, gb, hab⟩ := go_key k1 hk hi
          have gx' : ((ordV cs).map encI)[i]? = some (encI x) := by rw [List.getElem?_map, gx]; rfl
          have gy' : ((ordV cs).map encI)[k]? = some (encI y) := by rw [List.getElem?_map, gy]; rfl
          have ga' : (cs.map encCal)[x.toNat]? = some (encCal a) := by rw [List.getElem?_map, ga]; rfl
          have gb' : (cs.map encCal)[y.toNat]? = some (encCal b) := by rw [List.getElem?_map, gb]; rfl
          have x1 := (List.getElem?_eq_some_iff.1 ga).1
          have y1 := (List.getElem?_eq_some_iff.1 gb).1
          conv => whnf
          refine ⟨fun _ => ?_, fun h => absurd h (by simp; omega)⟩
          (conv => whnf); (try (refine ⟨(rfl : (_ : Heap) = _), ?_⟩; (conv => whnf)))
          refine ⟨⟨false, [3, 9, 18, 25, 35, 37, 42, 44, 45], []⟩, by kernel_rfl, ?_⟩; (conv => whnf)
          refine ⟨by omega, _, by rw [toNat_cast]; exact gx', ?_⟩
          (conv => whnf); (try (refine ⟨(rfl : (_ : Heap) = _), ?_⟩; (conv => whnf)))
          refine ⟨fun h => absurd h (by simp; omega), fun _ => ?_⟩
          (conv => whnf); (try (refine ⟨(rfl : (_ : Heap) = _), ?_⟩; (conv => whnf)))
          refine ⟨by omega, _, by rw [toNat_cast]; exact gx', ?_⟩
          (conv => whnf); (try (refine ⟨(rfl : (_ : Heap) = _), ?_⟩; (conv => whnf)))
          refine ⟨fun h => absurd h (by rw [hcm]; simp; omega), fun _ => ?_⟩
          (conv => whnf); (try (refine ⟨(rfl : (_ : Heap) = _), ?_⟩; (conv => whnf)))
          refine ⟨by omega, _, by rw [toNat_cast]; exact gy', ?_⟩
          (conv => whnf); (try (refine ⟨(rfl : (_ : Heap) = _), ?_⟩; (conv => whnf)))
          refine ⟨fun h => absurd h (by simp; omega), fun _ => ?_⟩
          (conv => whnf); (try (refine ⟨(rfl : (_ : Heap) = _), ?_⟩; (conv => whnf)))
          refine ⟨by omega, _, by rw [toNat_cast]; exact gy', ?_⟩
          (conv => whnf); (try (refine ⟨(rfl : (_ : Heap) = _), ?_⟩; (conv => whnf)))
          refine ⟨fun h => absurd h (by rw [hcm]; simp; omega), fun _ => ?_⟩
          (conv => whnf); (try (refine ⟨(rfl : (_ : Heap) = _), ?_⟩; (conv => whnf)))
          refine ⟨by omega, _, by rw [toNat_cast]; exact gx', ?_⟩
          (conv => whnf); (try (refine ⟨(rfl : (_ : Heap) = _), ?_⟩; (conv => whnf)))
          refine ⟨x0, _, ga', ?_⟩
          (conv => whnf); (try (refine ⟨(rfl : (_ : Heap) = _), ?_⟩; (conv => whnf)))
          refine ⟨by omega, _, by rw [toNat_cast]; exact gy', ?_⟩
          (conv => whnf); (try (refine ⟨(rfl : (_ : Heap) = _), ?_⟩; (conv => whnf)))
          refine ⟨y0, _, gb', ?_⟩
          (conv => whnf); (try (refine ⟨(rfl : (_ : Heap) = _), ?_⟩; (conv => whnf)))
          refine ⟨Bo (aheadV a b), fun H2 => (ahead_sound a b).frame rfl H2, ?_⟩
          (conv => whnf); (try (refine ⟨(rfl : (_ : Heap) = _), ?_⟩; (conv => whnf)))
          refine ⟨fun h => absurd ((hab).symm.trans h : false = true) (by decide), fun _ => ?_⟩; (conv => whnf); (try (refine ⟨(rfl : (_ : Heap) = _), ?_⟩; (conv => whnf)))
          refine .inl ⟨rfl, ?_, trivial⟩
          rw [i64_nat (by omega)]
          exact Weak.covD 0 (by (conv => whnf); (repeat (refine ⟨rfl, ?_⟩; (conv => whnf))); exact trivial) rfl rfl rfl rfl rfl
        · conv => whnf
          refine ⟨fun h => absurd h (by simp), fun _ => ?_⟩
          (conv => whnf); (try (refine ⟨(rfl : (_ : Heap) = _), ?_⟩; (conv => whnf)))
          refine ⟨by simp, ?_⟩
          conv => whnf
          refine .inl ⟨rfl, ?_, trivial⟩
          rw [i64_nat (by omega)]
          exact Weak.covD 0 (by (conv => whnf); (repeat (refine ⟨rfl, ?_⟩; (conv => whnf))); exact trivial) rfl rfl rfl rfl rfl
      · conv => whnf
        refine ⟨fun h => absurd h (by rw [hol]; simp), fun _ => ?_⟩
        (conv => whnf); (try (refine ⟨(rfl : (_ : Heap) = _), ?_⟩; (conv => whnf)))
        refine ⟨by simp, ?_⟩
        conv => whnf
        refine Loops.seq cs.length (fun i => [lEv l, .junk, Bo false, lCal cs, .junk, .junk, .junk, .junk, I i, .junk, .junk, .junk, .junk, .junk, .junk, .junk, .junk, .junk, .junk, .junk, .junk, .junk, .junk, .junk, .junk, .junk, .junk, .junk, .junk, .junk, .junk, .junk, .junk, .junk, .junk, .junk, .junk, .junk, .junk, .junk, .junk, .junk, .junk, .junk, .junk, .junk, .junk, .junk, .junk, .junk, .junk, .junk, .junk, .junk, .junk, .junk, .junk, .junk, .junk, .junk, .junk, .junk, .junk, .junk, .junk, .junk, .junk, .junk, .junk, .junk, .junk, .junk, .junk, .junk, .junk, .junk, .junk, .junk, .junk, .junk, .junk, .junk, .junk, .junk, .junk, .junk, .junk, .junk, .junk, .junk, .junk, .junk, .junk, .junk, .junk, .junk, .junk, .junk, .junk, .junk, .junk, .junk, .junk, .junk, .junk, .junk, .junk, .junk, .junk, .junk, .junk, .junk, .junk, .junk, .junk, .junk, .junk, .junk, .junk, .junk, .junk, .junk, .junk, .junk, .junk, .junk, .junk, .junk, .junk, .junk, .junk]) (fun k => []) (fun k => True) ?_ trivial (fun i hi hr => ?_) (fun hr => ?_)
        · exact Weak.cov (by (conv => whnf); (repeat (refine ⟨rfl, ?_⟩; (conv => whnf))); exact trivial)
        · conv => whnf
          refine ⟨fun _ => ?_, fun h => absurd h (by rw [hcm]; simp; omega)⟩
          (conv => whnf); (try (refine ⟨(rfl : (_ : Heap) = _), ?_⟩; (conv => whnf)))
          refine Loops.seq i (fun k => [lEv l, .junk, Bo false, lCal cs, .junk, .junk, .junk, .junk, I i, I k, .junk, .junk, .junk, .junk, .junk, .junk, .junk, .junk, .junk, .junk, .junk, .junk, .junk, .junk, .junk, .junk, .junk, .junk, .junk, .junk, .junk, .junk, .junk, .junk, .junk, .junk, .junk, .junk, .junk, .junk, .junk, .junk, .junk, .junk, .junk, .junk, .junk, .junk, .junk, .junk, .junk, .junk, .junk, .junk, .junk, .junk, .junk, .junk, .junk, .junk, .junk, .junk, .junk, .junk, .junk, .junk, .junk, .junk, .junk, .junk, .junk, .junk, .junk, .junk, .junk, .junk, .junk, .junk, .junk, .junk, .junk, .junk, .junk, .junk, .junk, .junk, .junk, .junk, .junk, .junk, .junk, .junk, .junk, .junk, .junk, .junk, .junk, .junk, .junk, .junk, .junk, .junk, .junk, .junk, .junk, .junk, .junk, .junk, .junk, .junk, .junk, .junk, .junk, .junk, .junk, .junk, .junk, .junk, .junk, .junk, .junk, .junk, .junk, .junk, .junk, .junk, .junk, .junk, .junk, .junk, .junk]) (fun k => []) (fun k => True) ?_ trivial (fun k hk hr => ?_) (fun hr => ?_)
          · exact Weak.cov (by (conv => whnf); (repeat (refine ⟨rfl, ?_⟩; (conv => whnf))); exact trivial)
          · have hpr := List.pairwise_iff_getElem.1 k2 k i (by omega) hi hk
            obtain ⟨a, ea⟩ : ∃ a, a = cs[k] := ⟨_, rfl⟩
            obtain ⟨b, eb⟩ : ∃ b, b = cs[i] := ⟨_, rfl⟩
            have ga' : (cs.map encCal)[k]? = some (encCal a) := by rw [List.getElem?_map, List.getElem?_eq_getElem (by omega), ea]; rfl
            have gb' : (cs.map encCal)[i]? = some (encCal b) := by rw [List.getElem?_map, List.getElem?_eq_getElem hi, eb]; rfl
            rw [← ea, ← eb] at hpr
            conv => whnf
            refine ⟨fun _ => ?_, fun h => absurd h (by simp; omega)⟩
            (conv => whnf); (try (refine ⟨(rfl : (_ : Heap) = _), ?_⟩; (conv => whnf)))
            refine ⟨⟨false, [4, 9, 15, 19, 20, 28, 33], []⟩, by kernel_rfl, ?_⟩; (conv => whnf)
            refine ⟨by omega, _, by rw [toNat_cast]; exact ga', ?_⟩
            (conv => whnf); (try (refine ⟨(rfl : (_ : Heap) = _), ?_⟩; (conv => whnf)))
            refine ⟨by omega, _, by rw [toNat_cast]; exact gb', ?_⟩
            (conv => whnf); (try (refine ⟨(rfl : (_ : Heap) = _), ?_⟩; (conv => whnf)))
            refine ⟨fun hth => ?_, fun hth => ?_⟩
            · have hth : a.thread = b.thread := by simpa using hth
              have hp2 := hpr.2 hth
              have hab : aheadV a b = true := by
                unfold aheadV
                rw [Bool.and_eq_true]
                exact ⟨by simp; omega, by simpa using hp2.2⟩
              (conv => whnf); (try (refine ⟨(rfl : (_ : Heap) = _), ?_⟩; (conv => whnf)))
              refine ⟨by omega, _, by rw [toNat_cast]; exact ga', ?_⟩
              (conv => whnf); (try (refine ⟨(rfl : (_ : Heap) = _), ?_⟩; (conv => whnf)))
              refine ⟨by omega, _, by rw [toNat_cast]; exact gb', ?_⟩
              (conv => whnf); (try (refine ⟨(rfl : (_ : Heap) = _), ?_⟩; (conv => whnf)))
              refine ⟨Bo (aheadV a b), fun H2 => (ahead_sound a b).frame rfl H2, ?_⟩
              (conv => whnf); (try (refine ⟨(rfl : (_ : Heap) = _), ?_⟩; (conv => whnf)))
              refine ⟨fun _ => ?_, fun h => absurd ((hab).symm.trans h : true = false) (by decide)⟩; (conv => whnf); (try (refine ⟨(rfl : (_ : Heap) = _), ?_⟩; (conv => whnf)))
              (try (repeat (first | (refine ⟨fun _ => ?_, fun h => absurd h (by decide)⟩; (conv => whnf); (try (refine ⟨(rfl : (_ : Heap) = _), ?_⟩; (conv => whnf)))) | (refine ⟨fun h => absurd h (by decide), fun _ => ?_⟩; (conv => whnf); (try (refine ⟨(rfl : (_ : Heap) = _), ?_⟩; (conv => whnf)))))))
              refine ⟨by omega, _, by rw [toNat_cast]; exact ga', ?_⟩
              (conv => whnf); (try (refine ⟨(rfl : (_ : Heap) = _), ?_⟩; (conv => whnf)))
              refine ⟨by omega, _, by rw [toNat_cast]; exact gb', ?_⟩
              (conv => whnf); (try (refine ⟨(rfl : (_ : Heap) = _), ?_⟩; (conv => whnf)))
              refine ⟨fun h => absurd h (by simp; exact hpr.1), fun _ => ?_⟩
              (conv => whnf); (try (refine ⟨(rfl : (_ : Heap) = _), ?_⟩; (conv => whnf)))
              refine .inl ⟨rfl, ?_, trivial⟩
              rw [i64_nat (by omega)]
              exact Weak.covD 0 (by (conv => whnf); (repeat (refine ⟨rfl, ?_⟩; (conv => whnf))); exact trivial) rfl rfl rfl rfl rfl
            · (conv => whnf); (try (refine ⟨(rfl : (_ : Heap) = _), ?_⟩; (conv => whnf)))
              refine ⟨by omega, _, by rw [toNat_cast]; exact ga', ?_⟩
              (conv => whnf); (try (refine ⟨(rfl : (_ : Heap) = _), ?_⟩; (conv => whnf)))
              refine ⟨by omega, _, by rw [toNat_cast]; exact gb', ?_⟩
              (conv => whnf); (try (refine ⟨(rfl : (_ : Heap) = _), ?_⟩; (conv => whnf)))
              refine ⟨fun h => absurd h (by simp; exact hpr.1), fun _ => ?_⟩
              (conv => whnf); (try (refine ⟨(rfl : (_ : Heap) = _), ?_⟩; (conv => whnf)))
              refine .inl ⟨rfl, ?_, trivial⟩
              rw [i64_nat (by omega)]
              exact Weak.covD 0 (by (conv => whnf); (repeat (refine ⟨rfl, ?_⟩; (conv => whnf))); exact trivial) rfl rfl rfl rfl rfl
          · conv => whnf
            refine ⟨fun h => absurd h (by simp), fun _ => ?_⟩
            (conv => whnf); (try (refine ⟨(rfl : (_ : Heap) = _), ?_⟩; (conv => whnf)))
            refine ⟨by simp, ?_⟩
            conv => whnf
            refine .inl ⟨rfl, ?_, trivial⟩
            rw [i64_nat (by omega)]
            exact Weak.covD 0 (by (conv => whnf); (repeat (refine ⟨rfl, ?_⟩; (conv => whnf))); exact trivial) rfl rfl rfl rfl rfl
        · conv => whnf
          refine ⟨fun h => absurd h (by rw [hcm]; simp), fun _ => ?_⟩
          (conv => whnf); (try (refine ⟨(rfl : (_ : Heap) = _), ?_⟩; (conv => whnf)))
          refine ⟨by simp, ?_⟩
          conv => whnf
          refine ⟨_, _, (traced).frame rfl _, ?_⟩; (conv => whnf); (try (refine ⟨(rfl : (_ : Heap) = _), ?_⟩; (conv => whnf))); (repeat (first | (refine ⟨fun _ => ?_, fun h => absurd h (by decide)⟩; (conv => whnf); (try (refine ⟨(rfl : (_ : Heap) = _), ?_⟩; (conv => whnf)))) | (refine ⟨fun h => absurd h (by decide), fun _ => ?_⟩; (conv => whnf); (try (refine ⟨(rfl : (_ : Heap) = _), ?_⟩; (conv => whnf)))))); exact ⟨.inl rfl, _, .refl _, rfl⟩
end Go.Srt
