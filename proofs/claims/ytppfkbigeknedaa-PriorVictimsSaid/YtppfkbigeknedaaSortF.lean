/- slices.SortStableFunc of pods, by hand: the whole sort, up to a permutation; the comparing closure. -/
import Derived.Test.YtppfkbigeknedaaSortP
import Derived.StillTailTactics
namespace Go.Proofs.Ytppfkbigeknedaa.Q
open Go.Shelf Go.RowKit Go.Lib Go.Sort
set_option linter.unusedVariables false
set_option linter.unusedSimpArgs false
set_option maxRecDepth 100000
def cmpI (a b : Int) : Int := if a < b then -1 else if b < a then 1 else 0
set_option maxHeartbeats 4000000 in
theorem cmp_nan (a : Int) (w : World) : Calls Try.prog 124 #[.int .i64 a] w fun e w' => e = .returned (.bool false) ∧ w' = w := by
  have h : (a != a) = false := by simp
  go_enter Try.func124, Try.ntmps124
  go_wp2
  go_ret
  exact ⟨rfl, rfl⟩
set_option maxHeartbeats 4000000 in
theorem cmp_int (a b : Int) (w : World) : Calls Try.prog 96 #[.int .i64 a, .int .i64 b] w fun e w' => e = .returned (.int .i64 (cmpI a b)) ∧ w' = w := by
  by_cases h1 : a < b
  · rw [show cmpI a b = -1 by unfold cmpI; rw [if_pos h1]]
    go_enter Try.func96, Try.ntmps96
    go_wp2_with (go_at_call 124; refine (cmp_nan _ _).mono ?_; rintro e w' ⟨rfl, rfl⟩)
    go_ret
    exact ⟨rfl, rfl⟩
  · by_cases h2 : b < a
    · have h3 : a > b := h2
      rw [show cmpI a b = 1 by unfold cmpI; rw [if_neg h1, if_pos h2]]
      go_enter Try.func96, Try.ntmps96
      go_wp2_with (go_at_call 124; refine (cmp_nan _ _).mono ?_; rintro e w' ⟨rfl, rfl⟩)
      go_ret
      exact ⟨rfl, rfl⟩
    · have h3 : ¬ a > b := h2
      rw [show cmpI a b = 0 by unfold cmpI; rw [if_neg h1, if_neg h2]]
      go_enter Try.func96, Try.ntmps96
      go_wp2_with (go_at_call 124; refine (cmp_nan _ _).mono ?_; rintro e w' ⟨rfl, rfl⟩)
      go_ret
      exact ⟨rfl, rfl⟩
def orI (x y : Int) : Int := if x = 0 then y else x
set_option maxHeartbeats 4000000 in
theorem cmp_or (B c : Nat) (x y : Int) (w : World) (h0 : w.cell? ⟨B, 0, none⟩ = some (.int .i64 x)) (h1 : w.cell? ⟨B, 1, none⟩ = some (.int .i64 y)) :
    Calls Try.prog 95 #[.slice (some ⟨B, 0, none⟩) 2 c] w fun e w' => e = .returned (.int .i64 (orI x y)) ∧ w' = w := by
  by_cases hx : x = 0
  · have hx1 : (x != 0) = false := by simp [hx]
    by_cases hy : y = 0
    · have hy1 : (y != 0) = false := by simp [hy]
      rw [show orI x y = 0 by unfold orI; rw [if_pos hx, hy]]
      clear hx hy
      go_enter Try.func95, Try.ntmps95
      go_wp2
      go_loop [5, 8] (fun v5 v8 => ∃ k : Nat, k ≤ 2 ∧ v8 = .int .i64 k) (fun _ v8 => 2 - (intOf v8).toNat)
      case atStart => exact ⟨0, by omega, rfl⟩
      case round =>
        obtain ⟨k, hk, rfl⟩ := hrel
        rcases (show k = 0 ∨ k = 1 ∨ k = 2 by omega) with rfl | rfl | rfl
        · go_wp2
          go_round
          case rel => exact ⟨1, by omega, rfl⟩
          case measure => simp [intOf]
        · go_wp2
          go_round
          case rel => exact ⟨2, by omega, rfl⟩
          case measure => simp [intOf]
        · go_wp2
          go_ret
          exact ⟨rfl, rfl⟩
    · have hy1 : (y != 0) = true := by simp [hy]
      rw [show orI x y = y by unfold orI; rw [if_pos hx]]
      clear hx hy
      go_enter Try.func95, Try.ntmps95
      go_wp2
      go_loop [5, 8] (fun v5 v8 => ∃ k : Nat, k ≤ 1 ∧ v8 = .int .i64 k) (fun _ v8 => 2 - (intOf v8).toNat)
      case atStart => exact ⟨0, by omega, rfl⟩
      case round =>
        obtain ⟨k, hk, rfl⟩ := hrel
        rcases (show k = 0 ∨ k = 1 by omega) with rfl | rfl
        · go_wp2
          go_round
          case rel => exact ⟨1, by omega, rfl⟩
          case measure => simp [intOf]
        · go_wp2
          go_ret
          exact ⟨rfl, rfl⟩
  · have hx1 : (x != 0) = true := by simp [hx]
    rw [show orI x y = x by unfold orI; rw [if_neg hx]]
    clear hx
    go_enter Try.func95, Try.ntmps95
    go_wp2
    go_loop [5, 8] (fun v5 v8 => v8 = .int .i64 0) (fun _ v8 => 2 - (intOf v8).toNat)
    case atStart => rfl
    case round =>
      obtain rfl := hrel
      go_wp2
      go_ret
      exact ⟨rfl, rfl⟩
def cmpPods (x y : S70) : Int := orI (cmpI x.f2 y.f2) (cmpI x.f0 y.f0)
set_option maxHeartbeats 4000000 in
theorem cmp_closure (x y : S70) (W : World) : Calls Try.prog 94 #[.agg (encP x).toArray, .agg (encP y).toArray] W fun e w' => e = .returned (.int .i64 (cmpPods x y)) ∧ ∃ q os', w' = grow (W.drewN q) os' := by
  unfold cmpPods
  have H1 := fun W' => cmp_int x.f2 y.f2 W'
  have H2 := fun W' => cmp_int x.f0 y.f0 W'
  generalize cmpI x.f2 y.f2 = p at H1 ⊢
  generalize cmpI x.f0 y.f0 = q at H2 ⊢
  have K1 : Hid _ := H1
  have K2 : Hid _ := H2
  clear H1 H2
  show Calls Try.prog 94 #[.agg #[.int .i64 x.f0, .int .i64 x.f1, .int .i64 x.f2, .int .u64 x.f3.f0, .int .u64 x.f3.f1, .int .u64 x.f3.f2, .int .u64 x.f3.f3, .int .i64 x.f4], .agg #[.int .i64 y.f0, .int .i64 y.f1, .int .i64 y.f2, .int .u64 y.f3.f0, .int .u64 y.f3.f1, .int .u64 y.f3.f2, .int .u64 y.f3.f3, .int .i64 y.f4]] W _
  go_enter Try.func94, Try.ntmps94
  go_wp2_with fail
  obtain ⟨W1, hW1⟩ : ∃ W1, (W.alloc (.cells #[.int .i64 x.f0, .int .i64 x.f1, .int .i64 x.f2, .int .u64 x.f3.f0, .int .u64 x.f3.f1, .int .u64 x.f3.f2, .int .u64 x.f3.f3, .int .i64 x.f4] 70)).alloc (.cells #[.int .i64 y.f0, .int .i64 y.f1, .int .i64 y.f2, .int .u64 y.f3.f0, .int .u64 y.f3.f1, .int .u64 y.f3.f2, .int .u64 y.f3.f3, .int .i64 y.f4] 70) = W1 := ⟨_, rfl⟩
  have l1 : W1.drew.cell? ⟨W.heap.size, 2, none⟩ = some (.int .i64 x.f2) := by rw [← hW1]; simp
  have l2 : W1.drew.cell? ⟨W.heap.size, 0, none⟩ = some (.int .i64 x.f0) := by rw [← hW1]; simp
  have l3 : W1.drew.cell? ⟨W.heap.size + 1, 2, none⟩ = some (.int .i64 y.f2) := by rw [← hW1]; simp
  have l4 : W1.drew.cell? ⟨W.heap.size + 1, 0, none⟩ = some (.int .i64 y.f0) := by rw [← hW1]; simp
  have hG : ∃ os', W1 = grow W os' := ⟨_, by rw [← hW1, alloc_eq_grow, alloc_eq_grow, grow_grow]⟩
  rw [hW1]
  have HG : Hid _ := hG
  clear hW1 hG
  refine wp_region_still_tail 10 (by kernel_rfl) (by kernel_rfl) ?_
  simp only [List.take_succ_cons, List.take_zero, List.drop_succ_cons, List.drop_zero]
  change wpStill _ _ W1.drew _ _ _
  generalize W1.drew = W2 at l1 l2 l3 l4 ⊢
  iterate 4 still_step
  still_call (K1.out _)
  iterate 4 still_step
  still_call (K2.out _)
  refine wpStill_nil ?_
  clear l1 l2 l3 l4
  go_wp2_with (go_at_call 95; refine (cmp_or _ _ p q _ (by simp) (by simp)).mono ?_; rintro e w' ⟨rfl, rfl⟩)
  go_ret
  obtain ⟨os1, h1⟩ := HG.out
  exact ⟨rfl, 1, _, by rw [h1, alloc_eq_grow, grow_grow]; rfl⟩
theorem cmpLays94 (blk size : Nat) (w : World) : CmpLays Try.prog 94 #[] encP 8 cmpPods blk 0 size w := fun _ _ _ _ x y => cmp_closure x y _
theorem eg94 : ∀ args w, (callFunc 94 args).run Try.prog w = .ok (.enter 94 args) w := enters_of Try.func94 (by kernel_rfl) rfl
def stA (lt : S70 → S70 → Bool) (n : Nat) : Nat → Nat → Array S70 → Array S70
  | 0, a, d => insertionSort lt d a n
  | k + 1, a, d => if a + 20 ≤ n then stA lt n k (a + 20) (insertionSort lt d a (a + 20)) else insertionSort lt d a n
def stB (lt : S70 → S70 → Bool) (n bs : Nat) : Nat → Nat → Array S70 → Array S70
  | 0, _, d => d
  | k + 1, a, d => if a + 2 * bs ≤ n then stB lt n bs k (a + 2 * bs) (symM lt (2 * bs) a (a + bs) (a + 2 * bs) d) else if a + bs < n then symM lt (n - a) a (a + bs) n d else d
def stC (lt : S70 → S70 → Bool) (n : Nat) : Nat → Nat → Array S70 → Array S70
  | 0, _, d => d
  | k + 1, bs, d => if bs < n then stC lt n k (2 * bs) (stB lt n bs n 0 d) else d
theorem stA_last {lt : S70 → S70 → Bool} {n k a : Nat} {d : Array S70} (h : ¬ a + 20 ≤ n) : stA lt n k a d = insertionSort lt d a n := by
  cases k with
  | zero => rfl
  | succ k => rw [stA, if_neg h]
theorem stB_last {lt : S70 → S70 → Bool} {n bs k a : Nat} {d : Array S70} (h : ¬ a + 2 * bs ≤ n) (h2 : ¬ a + bs < n) : stB lt n bs k a d = d := by
  cases k with
  | zero => rfl
  | succ k => rw [stB, if_neg h, if_neg h2]
theorem stC_last {lt : S70 → S70 → Bool} {n k bs : Nat} {d : Array S70} (h : ¬ bs < n) : stC lt n k bs d = d := by
  cases k with
  | zero => rfl
  | succ k => rw [stC, if_neg h]
/-- What SortStableFunc makes of pods. -/
def stableP (d : Array S70) : Array S70 := stC (ltOf cmpPods) d.size d.size 20 (stA (ltOf cmpPods) d.size d.size 0 d)
theorem pm_stA (lt : S70 → S70 → Bool) (n : Nat) : ∀ (k a : Nat) (d : Array S70), n = d.size → Pm d (stA lt n k a d)
  | 0, a, d, h => pm_ins _ _ _ _ (by omega)
  | k + 1, a, d, h => by
    rw [stA]
    split
    · have h1 := pm_ins lt d a (a + 20) (by omega)
      exact h1.trans (pm_stA lt n k _ _ (by rw [h1.1]; exact h))
    · exact pm_ins _ _ _ _ (by omega)
theorem pm_stB (lt : S70 → S70 → Bool) (n bs : Nat) (hb : 0 < bs) : ∀ (k a : Nat) (d : Array S70), n = d.size → Pm d (stB lt n bs k a d)
  | 0, _, d, _ => Pm.refl d
  | k + 1, a, d, h => by
    rw [stB]
    split
    · have h1 := pm_symM lt (2 * bs) a (a + bs) (a + 2 * bs) d (by omega) (by omega) (by omega)
      exact h1.trans (pm_stB lt n bs hb k _ _ (by rw [h1.1]; exact h))
    split
    · exact pm_symM lt _ _ _ _ _ (by omega) (by omega) (by omega)
    · exact Pm.refl d
theorem pm_stC (lt : S70 → S70 → Bool) (n : Nat) : ∀ (k bs : Nat) (d : Array S70), 0 < bs → n = d.size → Pm d (stC lt n k bs d)
  | 0, _, d, _, _ => Pm.refl d
  | k + 1, bs, d, hb, h => by
    rw [stC]
    split
    · have h1 := pm_stB lt n bs hb n 0 d h
      exact h1.trans (pm_stC lt n k _ _ (by omega) (by rw [h1.1]; exact h))
    · exact Pm.refl d
theorem pm_stable (d : Array S70) : Pm d (stableP d) := by
  have h1 := pm_stA (ltOf cmpPods) d.size d.size 0 d rfl
  exact h1.trans (pm_stC _ _ _ _ _ (by omega) h1.1.symm)
section
variable (w : World) (blk cap : Nat)
theorem symMerge_pod : ∀ (kk a m b m0 : Nat) (os : Array Obj) (d dk : Array S70), HoldsK encP 8 w blk 0 d → blk < w.heap.size → dk.size = d.size → a < m → m < b → b ≤ d.size → d.size < 4611686018427387904 → b - a ≤ kk →
    Calls Try.prog 140 #[.slice (some ⟨blk, 0, none⟩) d.size cap, .int .i64 a, .int .i64 m, .int .i64 b, .func (.func 94) #[] #[]] (sortWorldK encP 8 w blk 0 m0 dk os) fun e w' =>
      e = .returned (.tuple #[]) ∧ ∃ n os', w' = sortWorldK encP 8 w blk 0 n (symM (ltOf cmpPods) kk a m b dk) os'
  | 0, a, m, b, m0, os, d, dk, hH, hblk, hs, h1, h2, h3, hsz, hk => by omega
  | kk + 1, a, m, b, m0, os, d, dk, hH, hblk, hs, h1, h2, h3, hsz, hk => by
    by_cases c1 : m - a = 1
    · exact symMerge_one w blk cap 94 #[] cmpPods eg94 kk a m b d m0 os (cmpLays94 _ _ _) hH hblk dk hs c1 h2 h3 hsz
    by_cases c2 : b - m = 1
    · exact symMerge_last w blk cap 94 #[] cmpPods eg94 kk a m b d m0 os (cmpLays94 _ _ _) hH hblk dk hs h1 c1 c2 h3 hsz
    exact symMerge_gen w blk cap 94 #[] cmpPods eg94 kk a m b d m0 os (cmpLays94 _ _ _) hH hblk dk hs h1 c1 h2 c2 h3 hsz hk (fun a m b m0 os dk hs h1 h2 h3 h4 => symMerge_pod kk a m b m0 os d dk hH hblk hs h1 h2 h3 hsz h4)
theorem ins_pod (a b m0 : Nat) (os : Array Obj) (d dk : Array S70) (hH : HoldsK encP 8 w blk 0 d) (hblk : blk < w.heap.size) (hs : dk.size = d.size) (hab : a ≤ b) (hb : b ≤ d.size) (hsz : d.size < 4611686018427387904) :
    Calls Try.prog 139 #[.slice (some ⟨blk, 0, none⟩) d.size cap, .int .i64 a, .int .i64 b, .func (.func 94) #[] #[]] (sortWorldK encP 8 w blk 0 m0 dk os) fun e w' =>
      e = .returned (.tuple #[]) ∧ ∃ n os', w' = sortWorldK encP 8 w blk 0 n (insertionSort (ltOf cmpPods) dk a b) os' := by
  have hH2 := holdsK_sortWorldK_c encP 8 w blk 0 d dk m0 os hH hblk hs
  have h := AnyQ.insertionSortCmpFunc insL 8 Try.isAgg70 Try.sizeOf70 encP (fun _ => rfl) encP_one cmpPods 94 #[] blk 0 cap a b dk _ eg94 (cmpLays94 _ _ _) hH2 (Nat.lt_of_lt_of_le hblk (size_sortWorldK_c encP 8 w blk 0 m0 dk os)) hab (by omega) (by omega)
  rw [hs] at h
  refine Calls.mono (show Calls Try.prog 139 _ _ _ from h) ?_
  rintro e w' ⟨rfl, n, os', rfl⟩
  refine ⟨rfl, m0 + n, os ++ os', ?_⟩
  exact grow_step_growK encP 8 w os os' m0 n blk 0 dk _ hblk (pm_ins _ _ _ _ (by omega)).1
theorem insAt (A B : Int) (a b : Nat) (hA : A = a) (hB : B = b) {Q : Ending → World → Prop} {W : World} {v c : Value} (h : Calls Try.prog 139 #[v, .int .i64 a, .int .i64 b, c] W Q) : Calls Try.prog 139 #[v, .int .i64 A, .int .i64 B, c] W Q := by subst hA hB; exact h
set_option maxHeartbeats 8000000 in
theorem stable_pod (d : Array S70) (hH : HoldsK encP 8 w blk 0 d) (hblk : blk < w.heap.size) (hsz : d.size < 1000000000000) :
    Calls Try.prog 123 #[.slice (some ⟨blk, 0, none⟩) d.size cap, .int .i64 d.size, .func (.func 94) #[] #[]] w fun e w' =>
      e = .returned (.tuple #[]) ∧ ∃ n os, w' = sortWorldK encP 8 w blk 0 n (stableP d) os := by
  have HST : Hid (w = sortWorldK encP 8 w blk 0 0 d #[]) := by show w = _; unfold sortWorldK; rw [grow_empty]; exact (putRowK_self encP 8 w blk 0 d hH).symm
  have HH : Hid (HoldsK encP 8 w blk 0 d) := hH
  have HF : Hid (stC (ltOf cmpPods) d.size d.size 20 (stA (ltOf cmpPods) d.size d.size 0 d) = stableP d) := rfl
  rw [← HF.out]
  clear hH HF
  go_enter Try.func123, Try.ntmps123
  go_wp2
  go_loopg [7, 8] d.size (fun g1 va vb wr => ∃ (a n : Nat) (dk : Array S70) (os : Array Obj), va = .int .i64 a ∧ vb = .int .i64 ((a + 20 : Nat) : Int) ∧ a ≤ d.size ∧ d.size - a ≤ g1 ∧ wr = sortWorldK encP 8 w blk 0 n dk os ∧ Hid (Pm d dk) ∧ Hid (stA (ltOf cmpPods) d.size g1 a dk = stA (ltOf cmpPods) d.size d.size 0 d))
  case atStart => exact ⟨0, 0, d, #[], rfl, rfl, by omega, by omega, HST.out, Pm.refl d, rfl⟩
  case round =>
    obtain ⟨a, n, dk, os, rfl, rfl, ha, hg1, rfl, HP, HO⟩ := hrel
    by_cases hlt : a + 20 ≤ d.size
    · obtain ⟨g, rfl⟩ : ∃ g, gk = g + 1 := ⟨gk - 1, by omega⟩
      have hltz : ((a + 20 : Nat) : Int) ≤ (d.size : Int) := by omega
      have HO2 : Hid (stA (ltOf cmpPods) d.size g (a + 20) (insertionSort (ltOf cmpPods) dk a (a + 20)) = stA (ltOf cmpPods) d.size d.size 0 d) := by show _ = _; rw [← HO.out, stA, if_pos hlt]
      clear HO
      go_wp2_with fail
      refine (insAt _ _ a (a + 20) rfl rfl (ins_pod w blk cap a (a + 20) n os d dk HH.out hblk HP.out.1 (by omega) hlt (by omega))).mono ?_
      rintro e w1 ⟨rfl, n1, os1, rfl⟩
      go_wp2
      go_roundg g
      case measure => omega
      case rel => exact ⟨a + 20, n1, _, os1, rfl, by go_num, by omega, by omega, rfl, HP.out.trans (pm_ins _ _ _ _ (by rw [HP.out.1]; omega)), HO2⟩
    · have hltz : ¬ ((a + 20 : Nat) : Int) ≤ (d.size : Int) := by omega
      have HO2 : Hid (insertionSort (ltOf cmpPods) dk a d.size = stA (ltOf cmpPods) d.size d.size 0 d) := by show _ = _; rw [← HO.out, stA_last hlt]
      clear HO
      go_wp2_with fail
      refine (insAt _ _ a d.size rfl rfl (ins_pod w blk cap a d.size n os d dk HH.out hblk HP.out.1 ha (by omega) (by omega))).mono ?_
      rintro e w1 ⟨rfl, n1, os1, rfl⟩
      have HP1 : Hid (Pm d (insertionSort (ltOf cmpPods) dk a d.size)) := HP.out.trans (pm_ins _ _ _ _ (by rw [HP.out.1]; omega))
      have hO2 := HO2.out
      generalize insertionSort (ltOf cmpPods) dk a d.size = dk1 at HP1 hO2 ⊢
      have HD1 : Hid (dk1 = stA (ltOf cmpPods) d.size d.size 0 d) := hO2
      clear HP hltz hlt hg1 ha HO2 hO2
      go_wp2
      go_loopg [6, 7, 8, 9] d.size (fun g2 vs va vb vm wr => ∃ (bs n : Nat) (dk : Array S70) (os : Array Obj), vs = .int .i64 bs ∧ 20 ≤ bs ∧ bs ≤ 2 * d.size + 20 ∧ d.size - bs ≤ g2 ∧ wr = sortWorldK encP 8 w blk 0 n dk os ∧ Hid (Pm d dk) ∧ Hid (stC (ltOf cmpPods) d.size g2 bs dk = stC (ltOf cmpPods) d.size d.size 20 dk1))
      case atStart => exact ⟨20, n1, dk1, os1, rfl, by omega, by omega, by omega, rfl, HP1, rfl⟩
      case round =>
        obtain ⟨bs, n2, dk2, os2, rfl, hb1, hb3, hg2, rfl, HP2, HO⟩ := hrel
        by_cases hb2 : bs < d.size
        · have hbz : (bs : Int) < (d.size : Int) := by omega
          obtain ⟨g, rfl⟩ : ∃ g, gk = g + 1 := ⟨gk - 1, by omega⟩
          have HO2 : Hid (stC (ltOf cmpPods) d.size g (2 * bs) (stB (ltOf cmpPods) d.size bs d.size 0 dk2) = stC (ltOf cmpPods) d.size d.size 20 dk1) := by show _ = _; rw [← HO.out, stC, if_pos hb2]
          clear HO
          go_wp2
          go_loopg [7, 8] d.size (fun g3 va vb wr => ∃ (a n : Nat) (dk : Array S70) (os : Array Obj), va = .int .i64 a ∧ vb = .int .i64 ((a + 2 * bs : Nat) : Int) ∧ a ≤ d.size ∧ d.size - a ≤ g3 ∧ wr = sortWorldK encP 8 w blk 0 n dk os ∧ Hid (Pm d dk) ∧ Hid (stB (ltOf cmpPods) d.size bs g3 a dk = stB (ltOf cmpPods) d.size bs d.size 0 dk2))
          case atStart => exact ⟨0, n2, dk2, os2, rfl, by go_num, by omega, by omega, rfl, HP2, rfl⟩
          case round =>
            obtain ⟨a, n, dk, os, rfl, rfl, ha, hg3, rfl, HP, HQ⟩ := hrel
            by_cases hlt : a + 2 * bs ≤ d.size
            · have hltz : ((a + 2 * bs : Nat) : Int) ≤ (d.size : Int) := by omega
              obtain ⟨g4, rfl⟩ : ∃ g, gk = g + 1 := ⟨gk - 1, by omega⟩
              have HQ2 : Hid (stB (ltOf cmpPods) d.size bs g4 (a + 2 * bs) (symM (ltOf cmpPods) (2 * bs) a (a + bs) (a + 2 * bs) dk) = stB (ltOf cmpPods) d.size bs d.size 0 dk2) := by show _ = _; rw [← HQ.out, stB, if_pos hlt]
              clear HQ
              go_wp2_with fail
              refine (symAt _ _ _ a (a + bs) (a + 2 * bs) (by omega) (by omega) (by omega) (symMerge_pod w blk cap (2 * bs) a (a + bs) (a + 2 * bs) n os d dk HH.out hblk HP.out.1 (by omega) (by omega) hlt (by omega) (by omega))).mono ?_
              rintro e w1 ⟨rfl, n3, os3, rfl⟩
              go_wp2
              go_roundg g4
              case measure => omega
              case rel => exact ⟨a + 2 * bs, n3, _, os3, rfl, by go_num, by omega, by omega, rfl, HP.out.trans (pm_symM _ _ _ _ _ _ (by omega) (by omega) (by rw [HP.out.1]; omega)), HQ2⟩
            · have hltz : ¬ ((a + 2 * bs : Nat) : Int) ≤ (d.size : Int) := by omega
              by_cases hm : a + bs < d.size
              · have hmz : (a : Int) + (bs : Int) < (d.size : Int) := by omega
                have HQ2 : Hid (symM (ltOf cmpPods) (d.size - a) a (a + bs) d.size dk = stB (ltOf cmpPods) d.size bs d.size 0 dk2) := by
                  show _ = _
                  obtain ⟨g5, hg5⟩ : ∃ g, gk = g + 1 := ⟨gk - 1, by omega⟩
                  rw [← HQ.out, hg5, stB, if_neg hlt, if_pos hm]
                clear HQ
                go_wp2_with fail
                refine (symAt _ _ _ a (a + bs) d.size (by omega) (by omega) (by omega) (symMerge_pod w blk cap (d.size - a) a (a + bs) d.size n os d dk HH.out hblk HP.out.1 (by omega) (by omega) (by omega) (by omega) (Nat.le_refl _))).mono ?_
                rintro e w1 ⟨rfl, n3, os3, rfl⟩
                go_wp2
                go_roundg g
                case measure => omega
                case rel => exact ⟨2 * bs, n3, _, os3, by go_num, by omega, by omega, by omega, rfl, HP.out.trans (pm_symM _ _ _ _ _ _ (by omega) (by omega) (by rw [HP.out.1]; omega)), by rw [HQ2.out]; exact HO2⟩
              · have hmz : ¬ (a : Int) + (bs : Int) < (d.size : Int) := by omega
                have HQ2 : Hid (dk = stB (ltOf cmpPods) d.size bs d.size 0 dk2) := by
                  show _ = _
                  rw [← HQ.out, stB_last hlt hm]
                clear HQ
                go_wp2
                go_roundg g
                case measure => omega
                case rel => exact ⟨2 * bs, n, dk, os, by go_num, by omega, by omega, by omega, rfl, HP, by show _ = _; rw [HQ2.out]; exact HO2.out⟩
        · have hbz : ¬ (bs : Int) < (d.size : Int) := by omega
          have HO2 : Hid (dk2 = stC (ltOf cmpPods) d.size d.size 20 dk1) := by show _ = _; rw [← HO.out, stC_last hb2]
          clear HO
          go_wp2
          go_end0
          exact ⟨rfl, n2, os2, by rw [← HD1.out, ← HO2.out]⟩
set_option maxHeartbeats 8000000 in
theorem sortStable_pod (d : Array S70) (hH : HoldsK encP 8 w blk 0 d) (hblk : blk < w.heap.size) (hsz : d.size < 1000000000000) :
    Calls Try.prog 93 #[.slice (some ⟨blk, 0, none⟩) d.size cap, .func (.func 94) #[] #[]] w fun e w' =>
      e = .returned (.tuple #[]) ∧ ∃ n os, w' = sortWorldK encP 8 w blk 0 n (stableP d) os := by
  have h := stable_pod w blk cap d hH hblk hsz
  generalize stableP d = dS at h ⊢
  clear hH
  go_enter Try.func93, Try.ntmps93
  go_wp2_with fail
  refine h.mono ?_
  rintro e w1 ⟨rfl, n, os, rfl⟩
  clear h
  go_wp2
  go_end0
  exact ⟨rfl, n, os, rfl⟩
end
end Go.Proofs.Ytppfkbigeknedaa.Q
