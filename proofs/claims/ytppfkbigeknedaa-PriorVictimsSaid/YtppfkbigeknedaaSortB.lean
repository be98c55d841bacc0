/- rotateCmpFunc and symMergeCmpFunc of pods, by hand. -/
import Derived.Test.YtppfkbigeknedaaSort
namespace Go.Proofs.Ytppfkbigeknedaa.Q
open Go.Shelf Go.RowKit Go.Lib Go.Sort
set_option linter.unusedVariables false
set_option linter.unusedSimpArgs false
set_option maxRecDepth 100000
def rotF (m : Nat) : Nat → Nat → Nat → Array S70 → Array S70
  | 0, _, _, d => d
  | k + 1, i, j, d => if i = j then swr (m - i) m i 0 d else if j < i then rotF m k (i - j) j (swr (m - i) m j 0 d) else rotF m k i (j - i) (swr (m - i) (m + j - i) i 0 d)
theorem rotF_size (m : Nat) : ∀ (k i j : Nat) (d : Array S70), (rotF m k i j d).size = d.size
  | 0, _, _, _ => rfl
  | k + 1, i, j, d => by
    unfold rotF
    split
    · exact swr_size _ _ _ _ _
    split
    · rw [rotF_size m k, swr_size]
    · rw [rotF_size m k, swr_size]
theorem rotF_eq {m k i j : Nat} {d : Array S70} (h : i = j) : rotF m (k + 1) i j d = swr (m - i) m i 0 d := by rw [rotF, if_pos h]
theorem rotF_gt {m k i j : Nat} {d : Array S70} (h : ¬ i = j) (h2 : j < i) : rotF m (k + 1) i j d = rotF m k (i - j) j (swr (m - i) m j 0 d) := by rw [rotF, if_neg h, if_pos h2]
theorem rotF_lt {m k i j : Nat} {d : Array S70} (h : ¬ i = j) (h2 : ¬ j < i) : rotF m (k + 1) i j d = rotF m k i (j - i) (swr (m - i) (m + j - i) i 0 d) := by rw [rotF, if_neg h, if_neg h2]
section
variable (w : World) (blk cap : Nat)
theorem swapRange_at (cmp : Value) (A B N : Int) (a b n : Nat) (hA : A = a) (hB : B = b) (hN : N = n) (d : Array S70) (m0 : Nat) (os : Array Obj) (hH : HoldsK encP 8 w blk 0 d) (hblk : blk < w.heap.size) (dk : Array S70) (hs : dk.size = d.size) (ha : a + n ≤ d.size) (hb : b + n ≤ d.size) (hsz : d.size < 4611686018427387904) :
    Calls Try.prog 167 #[.slice (some ⟨blk, 0, none⟩) d.size cap, .int .i64 A, .int .i64 B, .int .i64 N, cmp] (sortWorldK encP 8 w blk 0 m0 dk os) fun e w' =>
      e = .returned (.tuple #[]) ∧ ∃ m, w' = sortWorldK encP 8 w blk 0 m (swr a b n 0 dk) os := by
  subst hA hB hN
  exact swapRange_pod w blk cap cmp a b n d m0 os hH hblk dk hs ha hb hsz
set_option maxHeartbeats 4000000 in
theorem rotate_pod (cmp : Value) (a m b : Nat) (d : Array S70) (m0 : Nat) (os : Array Obj) (hH : HoldsK encP 8 w blk 0 d) (hblk : blk < w.heap.size) (dk : Array S70) (hs : dk.size = d.size) (ham : a < m) (hmb : m < b) (hb : b ≤ d.size) (hsz : d.size < 4611686018427387904) :
    Calls Try.prog 152 #[.slice (some ⟨blk, 0, none⟩) d.size cap, .int .i64 a, .int .i64 m, .int .i64 b, cmp] (sortWorldK encP 8 w blk 0 m0 dk os) fun e w' =>
      e = .returned (.tuple #[]) ∧ ∃ n, w' = sortWorldK encP 8 w blk 0 n (rotF m (b - a) (m - a) (b - m) dk) os := by
  have HH : Hid (HoldsK encP 8 w blk 0 d) := hH
  have HSZ : Hid (dk.size = d.size) := hs
  clear hH hs
  have mixed : Try.prog.follows .mixedOrders = true := by kernel_rfl
  go_enter Try.func152, Try.ntmps152
  go_wp2
  go_loopg [10, 11] (b - a) (fun g1 vi vj wr => ∃ (i j n : Nat) (dj : Array S70), vi = .int .i64 i ∧ vj = .int .i64 j ∧ 1 ≤ i ∧ 1 ≤ j ∧ i ≤ m ∧ m + j ≤ d.size ∧ i + j ≤ g1 ∧ Hid (dj.size = d.size) ∧ wr = sortWorldK encP 8 w blk 0 n dj os ∧ Hid (rotF m g1 i j dj = rotF m (b - a) (m - a) (b - m) dk))
  case atStart => exact ⟨m - a, b - m, m0, dk, by congr 1; omega, by congr 1; omega, by omega, by omega, by omega, by omega, by omega, HSZ, rfl, rfl⟩
  case round =>
    obtain ⟨i, j, n, dj, rfl, rfl, hi1, hj1, him, hmj, hg1, HSJ, rfl, HO⟩ := hrel
    obtain ⟨g, rfl⟩ : ∃ g, gk = g + 1 := ⟨gk - 1, by omega⟩
    by_cases hne : i = j
    · have hb1 : ((i : Int) != (j : Int)) = false := by simp [hne]
      have hO := HO.out
      rw [rotF_eq hne] at hO
      have HO2 : Hid _ := hO
      clear hO HO
      have HNE : Hid (i = j) := hne
      clear hne
      go_wp2_with fail
      refine (swapRange_at w blk cap cmp _ _ _ (m - i) m i (by omega) rfl rfl d n os HH.out hblk dj HSJ.out (by omega) (by have := HNE.out; omega) hsz).mono ?_
      rintro e w1 ⟨rfl, n1, rfl⟩
      go_wp2
      go_end0
      exact ⟨rfl, n1, by rw [← HO2.out]⟩
    · have hb1 : ((i : Int) != (j : Int)) = true := by simp; omega
      by_cases hlt : j < i
      · have hO := HO.out
        rw [rotF_gt hne hlt] at hO
        have HO2 : Hid _ := hO
        clear hO HO
        have hltz : (j : Int) < (i : Int) := by omega
        go_wp2_with fail
        refine (swapRange_at w blk cap cmp _ _ _ (m - i) m j (by omega) rfl rfl d n os HH.out hblk dj HSJ.out (by omega) (by omega) hsz).mono ?_
        rintro e w1 ⟨rfl, n1, rfl⟩
        go_wp2
        go_roundg g
        case measure => omega
        case rel => exact ⟨i - j, j, n1, _, by congr 1; omega, rfl, by omega, by omega, by omega, by omega, by omega, (by show _ = _; rw [swr_size]; exact HSJ.out), rfl, HO2⟩
      · have hO := HO.out
        rw [rotF_lt hne hlt] at hO
        have HO2 : Hid _ := hO
        clear hO HO
        have hltz : ¬ (j : Int) < (i : Int) := by omega
        go_wp2_with fail
        refine (swapRange_at w blk cap cmp _ _ _ (m - i) (m + j - i) i (by omega) (by omega) rfl d n os HH.out hblk dj HSJ.out (by omega) (by omega) hsz).mono ?_
        rintro e w1 ⟨rfl, n1, rfl⟩
        go_wp2
        go_roundg g
        case measure => omega
        case rel => exact ⟨i, j - i, n1, _, rfl, by congr 1; omega, by omega, by omega, by omega, by omega, by omega, (by show _ = _; rw [swr_size]; exact HSJ.out), rfl, HO2⟩
end
end Go.Proofs.Ytppfkbigeknedaa.Q
