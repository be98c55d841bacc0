/- symMergeCmpFunc of pods, by hand: every case. -/
import Derived.Test.YtppfkbigeknedaaSortD
namespace Go.Proofs.Ytppfkbigeknedaa.Q
open Go.Shelf Go.RowKit Go.Lib Go.Sort
set_option linter.unusedVariables false
set_option linter.unusedSimpArgs false
set_option maxRecDepth 100000
theorem symM_size (lt : S70 → S70 → Bool) : ∀ (k a m b : Nat) (d : Array S70), (symM lt k a m b d).size = d.size
  | 0, _, _, _, _ => rfl
  | k + 1, a, m, b, d => by
    have ih := symM_size lt k
    unfold symM
    split
    · exact swUp_size _ _ _
    split
    · exact swDn_size _ _ _
    · dsimp only
      repeat' (first | rfl | split | rw [ih] | rw [rotF_size])
/-- What symMerge does behind its search: s where it ended. -/
def symT (lt : S70 → S70 → Bool) (k a m b mid s : Nat) (d : Array S70) : Array S70 :=
  let e := mid + m - s
  let d1 := if s < m ∧ m < e then rotF m (e - s) (m - s) (e - m) d else d
  let d2 := if a < s ∧ s < mid then symM lt k a s mid d1 else d1
  if mid < e ∧ e < b then symM lt k mid e b d2 else d2
section
variable (w : World) (blk cap : Nat) (g : Nat) (cb : Array Value) (cf : S70 → S70 → Int)
theorem symAt (A M B : Int) (a m b : Nat) (hA : A = a) (hM : M = m) (hB : B = b) {Q : Ending → World → Prop} {W : World} {v c : Value} (h : Calls Try.prog 140 #[v, .int .i64 a, .int .i64 m, .int .i64 b, c] W Q) : Calls Try.prog 140 #[v, .int .i64 A, .int .i64 M, .int .i64 B, c] W Q := by subst hA hM hB; exact h
theorem rotAt (A M B : Int) (a m b : Nat) (hA : A = a) (hM : M = m) (hB : B = b) {Q : Ending → World → Prop} {W : World} {v c : Value} (h : Calls Try.prog 152 #[v, .int .i64 a, .int .i64 m, .int .i64 b, c] W Q) : Calls Try.prog 152 #[v, .int .i64 A, .int .i64 M, .int .i64 B, c] W Q := by subst hA hM hB; exact h
set_option maxHeartbeats 4000000 in
theorem symMerge_gen (eg : ∀ args w, (callFunc g args).run Try.prog w = .ok (.enter g args) w) (kk a m b : Nat) (d : Array S70) (m0 : Nat) (os : Array Obj) (hcmp : CmpLays Try.prog g cb encP 8 cf blk 0 d.size w) (hH : HoldsK encP 8 w blk 0 d) (hblk : blk < w.heap.size) (dk : Array S70) (hs : dk.size = d.size) (ham : a < m) (ham1 : m - a ≠ 1) (hmb : m < b) (hmb1 : b - m ≠ 1) (hb : b ≤ d.size) (hsz : d.size < 4611686018427387904) (hk : b - a ≤ kk + 1)
    (ih : ∀ (a m b m0 : Nat) (os : Array Obj) (dk : Array S70), dk.size = d.size → a < m → m < b → b ≤ d.size → b - a ≤ kk → Calls Try.prog 140 #[.slice (some ⟨blk, 0, none⟩) d.size cap, .int .i64 a, .int .i64 m, .int .i64 b, .func (.func g) #[] cb] (sortWorldK encP 8 w blk 0 m0 dk os) fun e w' =>
      e = .returned (.tuple #[]) ∧ ∃ n os', w' = sortWorldK encP 8 w blk 0 n (symM (ltOf cf) kk a m b dk) os') :
    Calls Try.prog 140 #[.slice (some ⟨blk, 0, none⟩) d.size cap, .int .i64 a, .int .i64 m, .int .i64 b, .func (.func g) #[] cb] (sortWorldK encP 8 w blk 0 m0 dk os) fun e w' =>
      e = .returned (.tuple #[]) ∧ ∃ n os', w' = sortWorldK encP 8 w blk 0 n (symM (ltOf cf) (kk + 1) a m b dk) os' := by
  obtain ⟨mid, hmid⟩ : ∃ mid : Nat, mid = (a + b) / 2 := ⟨_, rfl⟩
  obtain ⟨s0, r0, hsr, hs0⟩ : ∃ s0 r0 : Nat, (s0 = (if mid < m then mid + m - b else a) ∧ r0 = (if mid < m then mid else m)) ∧ (mid < m ∧ s0 = mid + m - b ∧ r0 = mid ∨ ¬ mid < m ∧ s0 = a ∧ r0 = m) := by
    by_cases h : mid < m
    · exact ⟨mid + m - b, mid, ⟨by rw [if_pos h], by rw [if_pos h]⟩, Or.inl ⟨h, rfl, rfl⟩⟩
    · exact ⟨a, m, ⟨by rw [if_neg h], by rw [if_neg h]⟩, Or.inr ⟨h, rfl, rfl⟩⟩
  obtain ⟨pp, hpp⟩ : ∃ p : Nat → Bool, p = fun c => !ltOf cf dk[mid + m - 1 - c]! dk[c]! := ⟨_, rfl⟩
  have HS : Hid (symT (ltOf cf) kk a m b mid (bsF pp (r0 - s0) s0 r0) dk = symM (ltOf cf) (kk + 1) a m b dk) := by
    show _ = _
    rw [symM, if_neg ham1, if_neg hmb1, ← hmid, hpp, hsr.1, hsr.2]
    rfl
  rw [← HS.out]
  clear HS hsr
  have HPP : Hid _ := hpp
  clear hpp
  have HC : Hid (CmpLays Try.prog g cb encP 8 cf blk 0 d.size w) := hcmp
  have HH : Hid (HoldsK encP 8 w blk 0 d) := hH
  have HSZ : Hid (dk.size = d.size) := hs
  have IH : Hid _ := ih
  clear hcmp hH hs ih
  have mixed : Try.prog.follows .mixedOrders = true := by kernel_rfl
  have hone : ((m : Int) - (a : Int) == 1) = false := by simp; omega
  have hone2 : ((b : Int) - (m : Int) == 1) = false := by simp; omega
  have HMID : Hid (mid = (a + b) / 2) := hmid
  have hm1 : a < mid := by omega
  have hm2 : mid < b := by omega
  have hm3 : mid + m - a ≤ b ∨ mid < m := by omega
  clear ham1 hmb1 hmid
  have hA : ∀ x y : Int, x = y → Value.int .i64 x = Value.int .i64 y := fun x y e => by rw [e]
  have HA : Hid _ := hA
  clear hA
  have HR : Hid (s0 ≤ r0 ∧ r0 ≤ mid ∧ r0 ≤ m ∧ a ≤ s0 ∧ mid + m ≤ s0 + b ∧ (mid < m ∨ m ≤ mid)) := by have := HMID.out; refine ⟨?_, ?_, ?_, ?_, ?_, ?_⟩ <;> omega
  have H23 : Hid _ := hs0
  rcases hs0 with ⟨h1, h2, h3⟩ | ⟨h1, h2, h3⟩
  all_goals
    have hmid := HMID.out
    have hrr := HR.out
    obtain ⟨hr1, hr2, hr3, hr4, hr5, -⟩ := hrr
    have hz0 : (((a : Int) + (b : Int)) / 2 < (m : Int)) = (mid < m) := by rw [eq_iff_iff]; omega
    have hz : ((a : Int) + (b : Int)) / 2 < (m : Int) ∨ ¬ ((a : Int) + (b : Int)) / 2 < (m : Int) := by omega
    have hms : ((a : Int) + (b : Int)) / 2 = (mid : Int) := by omega
    have HMS : Hid _ := hms
    clear hz hms hmid h2 h3
    first | (have hzz : ((a : Int) + (b : Int)) / 2 < (m : Int) := by rw [HMS.out]; omega) | (have hzz : ¬ ((a : Int) + (b : Int)) / 2 < (m : Int) := by rw [HMS.out]; omega)
    clear hz0
    go_enter Try.func140, Try.ntmps140
    go_wp2_with fail
    rw [HMS.out]
    clear hzz
    go_loopg [20, 21] (r0 - s0) (fun g1 vi vj wr => ∃ (i j n : Nat) (os' : Array Obj), vi = .int .i64 i ∧ vj = .int .i64 j ∧ s0 ≤ i ∧ i ≤ j ∧ j ≤ r0 ∧ j - i ≤ g1 ∧ wr = sortWorldK encP 8 w blk 0 n dk os' ∧ Hid (bsF pp g1 i j = bsF pp (r0 - s0) s0 r0))
    case atStart => exact ⟨s0, r0, m0, os, HA.out _ _ (by have := H23.out; have := HMID.out; omega), HA.out _ _ (by have := H23.out; have := HMID.out; omega), by omega, by omega, by omega, by omega, rfl, rfl⟩
    case round =>
      obtain ⟨i, j, n, os', rfl, rfl, hi1, hij, hj1, hg1, rfl, HO⟩ := hrel
      by_cases hlt : i < j
      · have hltz : (i : Int) < (j : Int) := by omega
        obtain ⟨g2, rfl⟩ : ∃ g2, gk = g2 + 1 := ⟨gk - 1, by omega⟩
        go_wp2_with fail
        obtain ⟨h, hh⟩ : ∃ h : Nat, h = (i + j) / 2 := ⟨_, rfl⟩
        have e : ((i : Int) + (j : Int)) / 2 = (h : Int) := by omega
        rw [e]
        have hhi : i ≤ h := by omega
        have hhj : h < j := by omega
        have HHH : Hid (h = (i + j) / 2) := hh
        clear e hh
        obtain ⟨q, hq⟩ : ∃ q : Nat, q = mid + m - 1 - h := ⟨_, rfl⟩
        have q1 : (h : Int) < (d.size : Int) := by omega
        have q2 : (mid : Int) + (m : Int) - 1 - (h : Int) < (d.size : Int) := by omega
        have q3 : (0 : Int) ≤ (mid : Int) + (m : Int) - 1 - (h : Int) := by omega
        have q4 : ((mid : Int) + (m : Int) - 1 - (h : Int)).toNat = q := by omega
        have q5 : q < d.size := by omega
        have q7 : (h : Int) ≤ (mid : Int) + (m : Int) - 1 := by omega
        have q6 : IntKind.i64.wrap ((mid : Int) + (m : Int) - 1 - (h : Int)) = (mid : Int) + (m : Int) - 1 - (h : Int) := by rw [IntKind.wrap_i64]; omega
        have HQ : Hid _ := hq
        clear hq
        obtain ⟨xq, hxq⟩ : ∃ x, dk[q]! = x := ⟨_, rfl⟩
        obtain ⟨xh, hxh⟩ : ∃ x, dk[h]! = x := ⟨_, rfl⟩
        have hcls : ∀ n' os2, grow ((sortWorldK encP 8 w blk 0 n dk os').drewN n') os2 = sortWorldK encP 8 w blk 0 (n + n') dk (os' ++ os2) := fun n' os2 => sortWorldK_grown_c encP 8 w blk 0 n n' dk os' os2
        have hHc : ∀ n' os2, HoldsK encP 8 (grow ((sortWorldK encP 8 w blk 0 n dk os').drewN n') os2) blk 0 dk := fun n' os2 => by rw [hcls]; exact holdsK_sortWorldK_c encP 8 w blk 0 d dk _ _ HH.out hblk HSZ.out
        have lxq := fun n' os2 => (cells8 (hHc n' os2) (i := q) (by rw [HSZ.out]; omega) hxq).1
        have lxq0 := fun n' os2 => (lxq n' os2).1
        have lxq1 := fun n' os2 => (lxq n' os2).2.1
        have lxq2 := fun n' os2 => (lxq n' os2).2.2.1
        have lxq3 := fun n' os2 => (lxq n' os2).2.2.2.1
        have lxq4 := fun n' os2 => (lxq n' os2).2.2.2.2.1
        have lxq5 := fun n' os2 => (lxq n' os2).2.2.2.2.2.1
        have lxq6 := fun n' os2 => (lxq n' os2).2.2.2.2.2.2.1
        have lxq7 := fun n' os2 => (lxq n' os2).2.2.2.2.2.2.2
        clear lxq
        have lxh := fun n' os2 => (cells8 (hHc n' os2) (i := h) (by rw [HSZ.out]; omega) hxh).1
        have lxh0 := fun n' os2 => (lxh n' os2).1
        have lxh1 := fun n' os2 => (lxh n' os2).2.1
        have lxh2 := fun n' os2 => (lxh n' os2).2.2.1
        have lxh3 := fun n' os2 => (lxh n' os2).2.2.2.1
        have lxh4 := fun n' os2 => (lxh n' os2).2.2.2.2.1
        have lxh5 := fun n' os2 => (lxh n' os2).2.2.2.2.2.1
        have lxh6 := fun n' os2 => (lxh n' os2).2.2.2.2.2.2.1
        have lxh7 := fun n' os2 => (lxh n' os2).2.2.2.2.2.2.2
        clear lxh
        have hcg : ∀ n' os2, Calls Try.prog g (#[.agg #[.int .i64 xq.f0, .int .i64 xq.f1, .int .i64 xq.f2, .int .u64 xq.f3.f0, .int .u64 xq.f3.f1, .int .u64 xq.f3.f2, .int .u64 xq.f3.f3, .int .i64 xq.f4], .agg #[.int .i64 xh.f0, .int .i64 xh.f1, .int .i64 xh.f2, .int .u64 xh.f3.f0, .int .u64 xh.f3.f1, .int .u64 xh.f3.f2, .int .u64 xh.f3.f3, .int .i64 xh.f4]] ++ cb) (grow ((sortWorldK encP 8 w blk 0 n dk os').drewN n') os2) fun e w' => e = .returned (.int .i64 (cf xq xh)) ∧ ∃ q os3, w' = grow ((grow ((sortWorldK encP 8 w blk 0 n dk os').drewN n') os2).drewN q) os3 := fun n' os2 => by
          rw [hcls]; exact HC.out _ _ dk HSZ.out xq xh
        have CLS : Hid _ := hcls
        clear hcls hHc
        have HX : Hid (dk[q]! = xq) := hxq
        have HY : Hid (dk[h]! = xh) := hxh
        clear hxq hxh
        generalize hwq : sortWorldK encP 8 w blk 0 n dk os' = wq at lxq0 lxq1 lxq2 lxq3 lxq4 lxq5 lxq6 lxq7 lxh0 lxh1 lxh2 lxh3 lxh4 lxh5 lxh6 lxh7 hcg CLS ⊢
        have HWQ : Hid _ := hwq
        clear hwq
        by_cases hlv : cf xq xh < 0
        · have HLT : Hid (ltOf cf dk[q]! dk[h]! = true) := by show _ = _; rw [HX.out, HY.out]; exact decide_eq_true hlv
          have hlz : decide (cf xq xh < 0) = true := decide_eq_true hlv
          go_wp2_with fail
          go_quiet_grown (first | (go_at_fn g; refine Calls.grown_of (hcg _ _)))
          clear lxq0 lxq1 lxq2 lxq3 lxq4 lxq5 lxq6 lxq7 lxh0 lxh1 lxh2 lxh3 lxh4 lxh5 lxh6 lxh7 hcg
          go_wp2
          go_roundg g2
          case measure => omega
          case rel => exact ⟨i, h, n + nq, os' ++ osq, rfl, rfl, by omega, by omega, by omega, by omega, CLS.out nq osq, by show _ = _; rw [← HO.out, bsF_no hlt (by rw [← HHH.out, HPP.out]; have := HLT.out; rw [HQ.out] at this; simp [this]), HHH.out]⟩
        · have HLT : Hid (ltOf cf dk[q]! dk[h]! = false) := by show _ = _; rw [HX.out, HY.out]; exact decide_eq_false hlv
          have hlz : decide (cf xq xh < 0) = false := decide_eq_false hlv
          go_wp2_with fail
          go_quiet_grown (first | (go_at_fn g; refine Calls.grown_of (hcg _ _)))
          clear lxq0 lxq1 lxq2 lxq3 lxq4 lxq5 lxq6 lxq7 lxh0 lxh1 lxh2 lxh3 lxh4 lxh5 lxh6 lxh7 hcg
          go_wp2
          go_roundg g2
          case measure => omega
          case rel => exact ⟨h + 1, j, n + nq, os' ++ osq, by go_num, rfl, by omega, by omega, by omega, by omega, CLS.out nq osq, by show _ = _; rw [← HO.out, bsF_yes hlt (by rw [← HHH.out, HPP.out]; have := HLT.out; rw [HQ.out] at this; simp [this]), HHH.out]⟩
      · have hltz : ¬ (i : Int) < (j : Int) := by omega
        have HI : Hid (i = bsF pp (r0 - s0) s0 r0) := by show _ = _; rw [← HO.out, bsF_done hlt]
        clear HO
        have hir : i ≤ r0 := by omega
        by_cases c0a : i < m
        · by_cases c0b : m < mid + m - i
          · first
              | omega
              | (have z0a : (i : Int) < (m : Int) := by omega
                 have z0b : (m : Int) < (mid : Int) + (m : Int) - (i : Int) := by omega
                 go_wp2_with fail
                 refine (rotAt _ _ _ i m (mid + m - i) (by omega) (by omega) (by omega) (rotate_pod w blk cap _ i m (mid + m - i) d _ _ HH.out hblk _ HSZ.out (by omega) (by omega) (by omega) hsz)).mono ?_
                 rintro e w1 ⟨rfl, n2, rfl⟩
                 by_cases c1a : a < i
                 · by_cases c1b : i < mid
                   · first
                       | omega
                       | (have z1a : (a : Int) < (i : Int) := by omega
                          have z1b : (i : Int) < (mid : Int) := by omega
                          go_wp2_with fail
                          refine (symAt _ _ _ a i mid (by omega) (by omega) (by omega) (IH.out a i mid _ _ _ ((rotF_size _ _ _ _ _).trans HSZ.out) (by omega) (by omega) (by omega) (by omega))).mono ?_
                          rintro e w1 ⟨rfl, n3, os3, rfl⟩
                          by_cases c2a : mid < mid + m - i
                          · by_cases c2b : mid + m - i < b
                            · first
                                | omega
                                | (have z2a : (mid : Int) < (mid : Int) + (m : Int) - (i : Int) := by omega
                                   have z2b : (mid : Int) + (m : Int) - (i : Int) < (b : Int) := by omega
                                   go_wp2_with fail
                                   refine (symAt _ _ _ mid (mid + m - i) b (by omega) (by omega) (by omega) (IH.out mid (mid + m - i) b _ _ _ ((symM_size _ _ _ _ _ _).trans ((rotF_size _ _ _ _ _).trans HSZ.out)) (by omega) (by omega) (by omega) (by omega))).mono ?_
                                   rintro e w1 ⟨rfl, n4, os4, rfl⟩
                                   go_wp2
                                   go_end0
                                   refine ⟨rfl, n4, os4, ?_⟩
                                   rw [← HI.out, symT]
                                   try dsimp only
                                   rw [if_pos (show (mid < mid + m - i ∧ mid + m - i < b) by omega)]
                                   rw [if_pos (show (a < i ∧ i < mid) by omega)]
                                   rw [if_pos (show (i < m ∧ m < mid + m - i) by omega)])
                            · first
                                | omega
                                | (have z2a : (mid : Int) < (mid : Int) + (m : Int) - (i : Int) := by omega
                                   have z2b : ¬ (mid : Int) + (m : Int) - (i : Int) < (b : Int) := by omega
                                   go_wp2
                                   go_end0
                                   refine ⟨rfl, n3, os3, ?_⟩
                                   rw [← HI.out, symT]
                                   try dsimp only
                                   rw [if_neg (show ¬ (mid < mid + m - i ∧ mid + m - i < b) by omega)]
                                   rw [if_pos (show (a < i ∧ i < mid) by omega)]
                                   rw [if_pos (show (i < m ∧ m < mid + m - i) by omega)])
                          · first
                              | omega
                              | (have z2a : ¬ (mid : Int) < (mid : Int) + (m : Int) - (i : Int) := by omega
                                 go_wp2
                                 go_end0
                                 refine ⟨rfl, n3, os3, ?_⟩
                                 rw [← HI.out, symT]
                                 try dsimp only
                                 rw [if_neg (show ¬ (mid < mid + m - i ∧ mid + m - i < b) by omega)]
                                 rw [if_pos (show (a < i ∧ i < mid) by omega)]
                                 rw [if_pos (show (i < m ∧ m < mid + m - i) by omega)]))
                   · first
                       | omega
                       | (have z1a : (a : Int) < (i : Int) := by omega
                          have z1b : ¬ (i : Int) < (mid : Int) := by omega
                          by_cases c2a : mid < mid + m - i
                          · by_cases c2b : mid + m - i < b
                            · first
                                | omega
                                | (have z2a : (mid : Int) < (mid : Int) + (m : Int) - (i : Int) := by omega
                                   have z2b : (mid : Int) + (m : Int) - (i : Int) < (b : Int) := by omega
                                   go_wp2_with fail
                                   refine (symAt _ _ _ mid (mid + m - i) b (by omega) (by omega) (by omega) (IH.out mid (mid + m - i) b _ _ _ ((rotF_size _ _ _ _ _).trans HSZ.out) (by omega) (by omega) (by omega) (by omega))).mono ?_
                                   rintro e w1 ⟨rfl, n4, os4, rfl⟩
                                   go_wp2
                                   go_end0
                                   refine ⟨rfl, n4, os4, ?_⟩
                                   rw [← HI.out, symT]
                                   try dsimp only
                                   rw [if_pos (show (mid < mid + m - i ∧ mid + m - i < b) by omega)]
                                   rw [if_neg (show ¬ (a < i ∧ i < mid) by omega)]
                                   rw [if_pos (show (i < m ∧ m < mid + m - i) by omega)])
                            · first
                                | omega
                                | (have z2a : (mid : Int) < (mid : Int) + (m : Int) - (i : Int) := by omega
                                   have z2b : ¬ (mid : Int) + (m : Int) - (i : Int) < (b : Int) := by omega
                                   go_wp2
                                   go_end0
                                   refine ⟨rfl, n2, os', ?_⟩
                                   rw [← HI.out, symT]
                                   try dsimp only
                                   rw [if_neg (show ¬ (mid < mid + m - i ∧ mid + m - i < b) by omega)]
                                   rw [if_neg (show ¬ (a < i ∧ i < mid) by omega)]
                                   rw [if_pos (show (i < m ∧ m < mid + m - i) by omega)])
                          · first
                              | omega
                              | (have z2a : ¬ (mid : Int) < (mid : Int) + (m : Int) - (i : Int) := by omega
                                 go_wp2
                                 go_end0
                                 refine ⟨rfl, n2, os', ?_⟩
                                 rw [← HI.out, symT]
                                 try dsimp only
                                 rw [if_neg (show ¬ (mid < mid + m - i ∧ mid + m - i < b) by omega)]
                                 rw [if_neg (show ¬ (a < i ∧ i < mid) by omega)]
                                 rw [if_pos (show (i < m ∧ m < mid + m - i) by omega)]))
                 · first
                     | omega
                     | (have z1a : ¬ (a : Int) < (i : Int) := by omega
                        by_cases c2a : mid < mid + m - i
                        · by_cases c2b : mid + m - i < b
                          · first
                              | omega
                              | (have z2a : (mid : Int) < (mid : Int) + (m : Int) - (i : Int) := by omega
                                 have z2b : (mid : Int) + (m : Int) - (i : Int) < (b : Int) := by omega
                                 go_wp2_with fail
                                 refine (symAt _ _ _ mid (mid + m - i) b (by omega) (by omega) (by omega) (IH.out mid (mid + m - i) b _ _ _ ((rotF_size _ _ _ _ _).trans HSZ.out) (by omega) (by omega) (by omega) (by omega))).mono ?_
                                 rintro e w1 ⟨rfl, n4, os4, rfl⟩
                                 go_wp2
                                 go_end0
                                 refine ⟨rfl, n4, os4, ?_⟩
                                 rw [← HI.out, symT]
                                 try dsimp only
                                 rw [if_pos (show (mid < mid + m - i ∧ mid + m - i < b) by omega)]
                                 rw [if_neg (show ¬ (a < i ∧ i < mid) by omega)]
                                 rw [if_pos (show (i < m ∧ m < mid + m - i) by omega)])
                          · first
                              | omega
                              | (have z2a : (mid : Int) < (mid : Int) + (m : Int) - (i : Int) := by omega
                                 have z2b : ¬ (mid : Int) + (m : Int) - (i : Int) < (b : Int) := by omega
                                 go_wp2
                                 go_end0
                                 refine ⟨rfl, n2, os', ?_⟩
                                 rw [← HI.out, symT]
                                 try dsimp only
                                 rw [if_neg (show ¬ (mid < mid + m - i ∧ mid + m - i < b) by omega)]
                                 rw [if_neg (show ¬ (a < i ∧ i < mid) by omega)]
                                 rw [if_pos (show (i < m ∧ m < mid + m - i) by omega)])
                        · first
                            | omega
                            | (have z2a : ¬ (mid : Int) < (mid : Int) + (m : Int) - (i : Int) := by omega
                               go_wp2
                               go_end0
                               refine ⟨rfl, n2, os', ?_⟩
                               rw [← HI.out, symT]
                               try dsimp only
                               rw [if_neg (show ¬ (mid < mid + m - i ∧ mid + m - i < b) by omega)]
                               rw [if_neg (show ¬ (a < i ∧ i < mid) by omega)]
                               rw [if_pos (show (i < m ∧ m < mid + m - i) by omega)])))
          · first
              | omega
              | (have z0a : (i : Int) < (m : Int) := by omega
                 have z0b : ¬ (m : Int) < (mid : Int) + (m : Int) - (i : Int) := by omega
                 by_cases c1a : a < i
                 · by_cases c1b : i < mid
                   · first
                       | omega
                       | (have z1a : (a : Int) < (i : Int) := by omega
                          have z1b : (i : Int) < (mid : Int) := by omega
                          go_wp2_with fail
                          refine (symAt _ _ _ a i mid (by omega) (by omega) (by omega) (IH.out a i mid _ _ _ HSZ.out (by omega) (by omega) (by omega) (by omega))).mono ?_
                          rintro e w1 ⟨rfl, n3, os3, rfl⟩
                          by_cases c2a : mid < mid + m - i
                          · by_cases c2b : mid + m - i < b
                            · first
                                | omega
                                | (have z2a : (mid : Int) < (mid : Int) + (m : Int) - (i : Int) := by omega
                                   have z2b : (mid : Int) + (m : Int) - (i : Int) < (b : Int) := by omega
                                   go_wp2_with fail
                                   refine (symAt _ _ _ mid (mid + m - i) b (by omega) (by omega) (by omega) (IH.out mid (mid + m - i) b _ _ _ ((symM_size _ _ _ _ _ _).trans HSZ.out) (by omega) (by omega) (by omega) (by omega))).mono ?_
                                   rintro e w1 ⟨rfl, n4, os4, rfl⟩
                                   go_wp2
                                   go_end0
                                   refine ⟨rfl, n4, os4, ?_⟩
                                   rw [← HI.out, symT]
                                   try dsimp only
                                   rw [if_pos (show (mid < mid + m - i ∧ mid + m - i < b) by omega)]
                                   rw [if_pos (show (a < i ∧ i < mid) by omega)]
                                   rw [if_neg (show ¬ (i < m ∧ m < mid + m - i) by omega)])
                            · first
                                | omega
                                | (have z2a : (mid : Int) < (mid : Int) + (m : Int) - (i : Int) := by omega
                                   have z2b : ¬ (mid : Int) + (m : Int) - (i : Int) < (b : Int) := by omega
                                   go_wp2
                                   go_end0
                                   refine ⟨rfl, n3, os3, ?_⟩
                                   rw [← HI.out, symT]
                                   try dsimp only
                                   rw [if_neg (show ¬ (mid < mid + m - i ∧ mid + m - i < b) by omega)]
                                   rw [if_pos (show (a < i ∧ i < mid) by omega)]
                                   rw [if_neg (show ¬ (i < m ∧ m < mid + m - i) by omega)])
                          · first
                              | omega
                              | (have z2a : ¬ (mid : Int) < (mid : Int) + (m : Int) - (i : Int) := by omega
                                 go_wp2
                                 go_end0
                                 refine ⟨rfl, n3, os3, ?_⟩
                                 rw [← HI.out, symT]
                                 try dsimp only
                                 rw [if_neg (show ¬ (mid < mid + m - i ∧ mid + m - i < b) by omega)]
                                 rw [if_pos (show (a < i ∧ i < mid) by omega)]
                                 rw [if_neg (show ¬ (i < m ∧ m < mid + m - i) by omega)]))
                   · first
                       | omega
                       | (have z1a : (a : Int) < (i : Int) := by omega
                          have z1b : ¬ (i : Int) < (mid : Int) := by omega
                          by_cases c2a : mid < mid + m - i
                          · by_cases c2b : mid + m - i < b
                            · first
                                | omega
                                | (have z2a : (mid : Int) < (mid : Int) + (m : Int) - (i : Int) := by omega
                                   have z2b : (mid : Int) + (m : Int) - (i : Int) < (b : Int) := by omega
                                   go_wp2_with fail
                                   refine (symAt _ _ _ mid (mid + m - i) b (by omega) (by omega) (by omega) (IH.out mid (mid + m - i) b _ _ _ HSZ.out (by omega) (by omega) (by omega) (by omega))).mono ?_
                                   rintro e w1 ⟨rfl, n4, os4, rfl⟩
                                   go_wp2
                                   go_end0
                                   refine ⟨rfl, n4, os4, ?_⟩
                                   rw [← HI.out, symT]
                                   try dsimp only
                                   rw [if_pos (show (mid < mid + m - i ∧ mid + m - i < b) by omega)]
                                   rw [if_neg (show ¬ (a < i ∧ i < mid) by omega)]
                                   rw [if_neg (show ¬ (i < m ∧ m < mid + m - i) by omega)])
                            · first
                                | omega
                                | (have z2a : (mid : Int) < (mid : Int) + (m : Int) - (i : Int) := by omega
                                   have z2b : ¬ (mid : Int) + (m : Int) - (i : Int) < (b : Int) := by omega
                                   go_wp2
                                   go_end0
                                   refine ⟨rfl, n, os', ?_⟩
                                   rw [← HI.out, symT]
                                   try dsimp only
                                   rw [if_neg (show ¬ (mid < mid + m - i ∧ mid + m - i < b) by omega)]
                                   rw [if_neg (show ¬ (a < i ∧ i < mid) by omega)]
                                   rw [if_neg (show ¬ (i < m ∧ m < mid + m - i) by omega)])
                          · first
                              | omega
                              | (have z2a : ¬ (mid : Int) < (mid : Int) + (m : Int) - (i : Int) := by omega
                                 go_wp2
                                 go_end0
                                 refine ⟨rfl, n, os', ?_⟩
                                 rw [← HI.out, symT]
                                 try dsimp only
                                 rw [if_neg (show ¬ (mid < mid + m - i ∧ mid + m - i < b) by omega)]
                                 rw [if_neg (show ¬ (a < i ∧ i < mid) by omega)]
                                 rw [if_neg (show ¬ (i < m ∧ m < mid + m - i) by omega)]))
                 · first
                     | omega
                     | (have z1a : ¬ (a : Int) < (i : Int) := by omega
                        by_cases c2a : mid < mid + m - i
                        · by_cases c2b : mid + m - i < b
                          · first
                              | omega
                              | (have z2a : (mid : Int) < (mid : Int) + (m : Int) - (i : Int) := by omega
                                 have z2b : (mid : Int) + (m : Int) - (i : Int) < (b : Int) := by omega
                                 go_wp2_with fail
                                 refine (symAt _ _ _ mid (mid + m - i) b (by omega) (by omega) (by omega) (IH.out mid (mid + m - i) b _ _ _ HSZ.out (by omega) (by omega) (by omega) (by omega))).mono ?_
                                 rintro e w1 ⟨rfl, n4, os4, rfl⟩
                                 go_wp2
                                 go_end0
                                 refine ⟨rfl, n4, os4, ?_⟩
                                 rw [← HI.out, symT]
                                 try dsimp only
                                 rw [if_pos (show (mid < mid + m - i ∧ mid + m - i < b) by omega)]
                                 rw [if_neg (show ¬ (a < i ∧ i < mid) by omega)]
                                 rw [if_neg (show ¬ (i < m ∧ m < mid + m - i) by omega)])
                          · first
                              | omega
                              | (have z2a : (mid : Int) < (mid : Int) + (m : Int) - (i : Int) := by omega
                                 have z2b : ¬ (mid : Int) + (m : Int) - (i : Int) < (b : Int) := by omega
                                 go_wp2
                                 go_end0
                                 refine ⟨rfl, n, os', ?_⟩
                                 rw [← HI.out, symT]
                                 try dsimp only
                                 rw [if_neg (show ¬ (mid < mid + m - i ∧ mid + m - i < b) by omega)]
                                 rw [if_neg (show ¬ (a < i ∧ i < mid) by omega)]
                                 rw [if_neg (show ¬ (i < m ∧ m < mid + m - i) by omega)])
                        · first
                            | omega
                            | (have z2a : ¬ (mid : Int) < (mid : Int) + (m : Int) - (i : Int) := by omega
                               go_wp2
                               go_end0
                               refine ⟨rfl, n, os', ?_⟩
                               rw [← HI.out, symT]
                               try dsimp only
                               rw [if_neg (show ¬ (mid < mid + m - i ∧ mid + m - i < b) by omega)]
                               rw [if_neg (show ¬ (a < i ∧ i < mid) by omega)]
                               rw [if_neg (show ¬ (i < m ∧ m < mid + m - i) by omega)])))
        · first
            | omega
            | (have z0a : ¬ (i : Int) < (m : Int) := by omega
               by_cases c1a : a < i
               · by_cases c1b : i < mid
                 · first
                     | omega
                     | (have z1a : (a : Int) < (i : Int) := by omega
                        have z1b : (i : Int) < (mid : Int) := by omega
                        go_wp2_with fail
                        refine (symAt _ _ _ a i mid (by omega) (by omega) (by omega) (IH.out a i mid _ _ _ HSZ.out (by omega) (by omega) (by omega) (by omega))).mono ?_
                        rintro e w1 ⟨rfl, n3, os3, rfl⟩
                        by_cases c2a : mid < mid + m - i
                        · by_cases c2b : mid + m - i < b
                          · first
                              | omega
                              | (have z2a : (mid : Int) < (mid : Int) + (m : Int) - (i : Int) := by omega
                                 have z2b : (mid : Int) + (m : Int) - (i : Int) < (b : Int) := by omega
                                 go_wp2_with fail
                                 refine (symAt _ _ _ mid (mid + m - i) b (by omega) (by omega) (by omega) (IH.out mid (mid + m - i) b _ _ _ ((symM_size _ _ _ _ _ _).trans HSZ.out) (by omega) (by omega) (by omega) (by omega))).mono ?_
                                 rintro e w1 ⟨rfl, n4, os4, rfl⟩
                                 go_wp2
                                 go_end0
                                 refine ⟨rfl, n4, os4, ?_⟩
                                 rw [← HI.out, symT]
                                 try dsimp only
                                 rw [if_pos (show (mid < mid + m - i ∧ mid + m - i < b) by omega)]
                                 rw [if_pos (show (a < i ∧ i < mid) by omega)]
                                 rw [if_neg (show ¬ (i < m ∧ m < mid + m - i) by omega)])
                          · first
                              | omega
                              | (have z2a : (mid : Int) < (mid : Int) + (m : Int) - (i : Int) := by omega
                                 have z2b : ¬ (mid : Int) + (m : Int) - (i : Int) < (b : Int) := by omega
                                 go_wp2
                                 go_end0
                                 refine ⟨rfl, n3, os3, ?_⟩
                                 rw [← HI.out, symT]
                                 try dsimp only
                                 rw [if_neg (show ¬ (mid < mid + m - i ∧ mid + m - i < b) by omega)]
                                 rw [if_pos (show (a < i ∧ i < mid) by omega)]
                                 rw [if_neg (show ¬ (i < m ∧ m < mid + m - i) by omega)])
                        · first
                            | omega
                            | (have z2a : ¬ (mid : Int) < (mid : Int) + (m : Int) - (i : Int) := by omega
                               go_wp2
                               go_end0
                               refine ⟨rfl, n3, os3, ?_⟩
                               rw [← HI.out, symT]
                               try dsimp only
                               rw [if_neg (show ¬ (mid < mid + m - i ∧ mid + m - i < b) by omega)]
                               rw [if_pos (show (a < i ∧ i < mid) by omega)]
                               rw [if_neg (show ¬ (i < m ∧ m < mid + m - i) by omega)]))
                 · first
                     | omega
                     | (have z1a : (a : Int) < (i : Int) := by omega
                        have z1b : ¬ (i : Int) < (mid : Int) := by omega
                        by_cases c2a : mid < mid + m - i
                        · by_cases c2b : mid + m - i < b
                          · first
                              | omega
                              | (have z2a : (mid : Int) < (mid : Int) + (m : Int) - (i : Int) := by omega
                                 have z2b : (mid : Int) + (m : Int) - (i : Int) < (b : Int) := by omega
                                 go_wp2_with fail
                                 refine (symAt _ _ _ mid (mid + m - i) b (by omega) (by omega) (by omega) (IH.out mid (mid + m - i) b _ _ _ HSZ.out (by omega) (by omega) (by omega) (by omega))).mono ?_
                                 rintro e w1 ⟨rfl, n4, os4, rfl⟩
                                 go_wp2
                                 go_end0
                                 refine ⟨rfl, n4, os4, ?_⟩
                                 rw [← HI.out, symT]
                                 try dsimp only
                                 rw [if_pos (show (mid < mid + m - i ∧ mid + m - i < b) by omega)]
                                 rw [if_neg (show ¬ (a < i ∧ i < mid) by omega)]
                                 rw [if_neg (show ¬ (i < m ∧ m < mid + m - i) by omega)])
                          · first
                              | omega
                              | (have z2a : (mid : Int) < (mid : Int) + (m : Int) - (i : Int) := by omega
                                 have z2b : ¬ (mid : Int) + (m : Int) - (i : Int) < (b : Int) := by omega
                                 go_wp2
                                 go_end0
                                 refine ⟨rfl, n, os', ?_⟩
                                 rw [← HI.out, symT]
                                 try dsimp only
                                 rw [if_neg (show ¬ (mid < mid + m - i ∧ mid + m - i < b) by omega)]
                                 rw [if_neg (show ¬ (a < i ∧ i < mid) by omega)]
                                 rw [if_neg (show ¬ (i < m ∧ m < mid + m - i) by omega)])
                        · first
                            | omega
                            | (have z2a : ¬ (mid : Int) < (mid : Int) + (m : Int) - (i : Int) := by omega
                               go_wp2
                               go_end0
                               refine ⟨rfl, n, os', ?_⟩
                               rw [← HI.out, symT]
                               try dsimp only
                               rw [if_neg (show ¬ (mid < mid + m - i ∧ mid + m - i < b) by omega)]
                               rw [if_neg (show ¬ (a < i ∧ i < mid) by omega)]
                               rw [if_neg (show ¬ (i < m ∧ m < mid + m - i) by omega)]))
               · first
                   | omega
                   | (have z1a : ¬ (a : Int) < (i : Int) := by omega
                      by_cases c2a : mid < mid + m - i
                      · by_cases c2b : mid + m - i < b
                        · first
                            | omega
                            | (have z2a : (mid : Int) < (mid : Int) + (m : Int) - (i : Int) := by omega
                               have z2b : (mid : Int) + (m : Int) - (i : Int) < (b : Int) := by omega
                               go_wp2_with fail
                               refine (symAt _ _ _ mid (mid + m - i) b (by omega) (by omega) (by omega) (IH.out mid (mid + m - i) b _ _ _ HSZ.out (by omega) (by omega) (by omega) (by omega))).mono ?_
                               rintro e w1 ⟨rfl, n4, os4, rfl⟩
                               go_wp2
                               go_end0
                               refine ⟨rfl, n4, os4, ?_⟩
                               rw [← HI.out, symT]
                               try dsimp only
                               rw [if_pos (show (mid < mid + m - i ∧ mid + m - i < b) by omega)]
                               rw [if_neg (show ¬ (a < i ∧ i < mid) by omega)]
                               rw [if_neg (show ¬ (i < m ∧ m < mid + m - i) by omega)])
                        · first
                            | omega
                            | (have z2a : (mid : Int) < (mid : Int) + (m : Int) - (i : Int) := by omega
                               have z2b : ¬ (mid : Int) + (m : Int) - (i : Int) < (b : Int) := by omega
                               go_wp2
                               go_end0
                               refine ⟨rfl, n, os', ?_⟩
                               rw [← HI.out, symT]
                               try dsimp only
                               rw [if_neg (show ¬ (mid < mid + m - i ∧ mid + m - i < b) by omega)]
                               rw [if_neg (show ¬ (a < i ∧ i < mid) by omega)]
                               rw [if_neg (show ¬ (i < m ∧ m < mid + m - i) by omega)])
                      · first
                          | omega
                          | (have z2a : ¬ (mid : Int) < (mid : Int) + (m : Int) - (i : Int) := by omega
                             go_wp2
                             go_end0
                             refine ⟨rfl, n, os', ?_⟩
                             rw [← HI.out, symT]
                             try dsimp only
                             rw [if_neg (show ¬ (mid < mid + m - i ∧ mid + m - i < b) by omega)]
                             rw [if_neg (show ¬ (a < i ∧ i < mid) by omega)]
                             rw [if_neg (show ¬ (i < m ∧ m < mid + m - i) by omega)])))
end
end Go.Proofs.Ytppfkbigeknedaa.Q
