/- symMergeCmpFunc of pods, by hand: where the second part is one element. -/
import Derived.Test.YtppfkbigeknedaaSortC
namespace Go.Proofs.Ytppfkbigeknedaa.Q
open Go.Shelf Go.RowKit Go.Lib Go.Sort
set_option linter.unusedVariables false
set_option linter.unusedSimpArgs false
set_option maxRecDepth 100000
section
variable (w : World) (blk cap : Nat) (g : Nat) (cb : Array Value) (cf : S70 → S70 → Int)
set_option maxHeartbeats 4000000 in
theorem symMerge_last (eg : ∀ args w, (callFunc g args).run Try.prog w = .ok (.enter g args) w) (kk a m b : Nat) (d : Array S70) (m0 : Nat) (os : Array Obj) (hcmp : CmpLays Try.prog g cb encP 8 cf blk 0 d.size w) (hH : HoldsK encP 8 w blk 0 d) (hblk : blk < w.heap.size) (dk : Array S70) (hs : dk.size = d.size) (ham : a < m) (ham1 : m - a ≠ 1) (hmb : b - m = 1) (hb : b ≤ d.size) (hsz : d.size < 4611686018427387904) :
    Calls Try.prog 140 #[.slice (some ⟨blk, 0, none⟩) d.size cap, .int .i64 a, .int .i64 m, .int .i64 b, .func (.func g) #[] cb] (sortWorldK encP 8 w blk 0 m0 dk os) fun e w' =>
      e = .returned (.tuple #[]) ∧ ∃ n os', w' = sortWorldK encP 8 w blk 0 n (symM (ltOf cf) (kk + 1) a m b dk) os' := by
  have HS : Hid (swDn (m - bsF (fun h => !ltOf cf dk[m]! dk[h]!) (m - a) a m) m dk = symM (ltOf cf) (kk + 1) a m b dk) := by show _ = _; rw [symM, if_neg ham1, if_pos hmb]
  rw [← HS.out]
  clear HS
  have HC : Hid (CmpLays Try.prog g cb encP 8 cf blk 0 d.size w) := hcmp
  have HH : Hid (HoldsK encP 8 w blk 0 d) := hH
  have HSZ : Hid (dk.size = d.size) := hs
  clear hcmp hH hs
  have mixed : Try.prog.follows .mixedOrders = true := by kernel_rfl
  have hone : ((m : Int) - (a : Int) == 1) = false := by simp; omega
  have hone2 : ((b : Int) - (m : Int) == 1) = true := by simp; omega
  have hmb' : m < b := by omega
  clear ham1 hmb
  obtain ⟨pp, hpp⟩ : ∃ p : Nat → Bool, p = fun h => !ltOf cf dk[m]! dk[h]! := ⟨_, rfl⟩
  rw [← hpp]
  have HPP : Hid _ := hpp
  clear hpp
  go_enter Try.func140, Try.ntmps140
  go_wp2
  go_loopg [14, 15] (m - a) (fun g1 vi vj wr => ∃ (i j n : Nat) (os' : Array Obj), vi = .int .i64 i ∧ vj = .int .i64 j ∧ a ≤ i ∧ i ≤ j ∧ j ≤ m ∧ j - i ≤ g1 ∧ wr = sortWorldK encP 8 w blk 0 n dk os' ∧ Hid (bsF pp g1 i j = bsF pp (m - a) a m))
  case atStart => exact ⟨a, m, m0, os, rfl, rfl, by omega, by omega, by omega, by omega, rfl, rfl⟩
  case round =>
    obtain ⟨i, j, n, os', rfl, rfl, hi1, hij, hj1, hg1, rfl, HO⟩ := hrel
    by_cases hlt : i < j
    · have hltz : (i : Int) < (j : Int) := by omega
      obtain ⟨g2, rfl⟩ : ∃ g2, gk = g2 + 1 := ⟨gk - 1, by omega⟩
      go_wp2_with fail
      obtain ⟨h, hh⟩ : ∃ h : Nat, h = (i + j) / 2 := ⟨_, rfl⟩
      have e : ((i : Int) + (j : Int)) / 2 = (h : Int) := by omega
      rw [e]
      have hhi : i ≤ h := by omega
      have hhj : h < j := by omega
      have HHH : Hid (h = (i + j) / 2) := hh
      clear e hh
      have q1 : (h : Int) < (d.size : Int) := by omega
      have q2 : (m : Int) < (d.size : Int) := by omega
      obtain ⟨xm, hxm⟩ : ∃ x, dk[m]! = x := ⟨_, rfl⟩
      obtain ⟨xh, hxh⟩ : ∃ x, dk[h]! = x := ⟨_, rfl⟩
      have hcls : ∀ n' os2, grow ((sortWorldK encP 8 w blk 0 n dk os').drewN n') os2 = sortWorldK encP 8 w blk 0 (n + n') dk (os' ++ os2) := fun n' os2 => sortWorldK_grown_c encP 8 w blk 0 n n' dk os' os2
      have hHc : ∀ n' os2, HoldsK encP 8 (grow ((sortWorldK encP 8 w blk 0 n dk os').drewN n') os2) blk 0 dk := fun n' os2 => by rw [hcls]; exact holdsK_sortWorldK_c encP 8 w blk 0 d dk _ _ HH.out hblk HSZ.out
      have lxm := fun n' os2 => (cells8 (hHc n' os2) (i := m) (by rw [HSZ.out]; omega) hxm).1
      have lxm0 := fun n' os2 => (lxm n' os2).1
      have lxm1 := fun n' os2 => (lxm n' os2).2.1
      have lxm2 := fun n' os2 => (lxm n' os2).2.2.1
      have lxm3 := fun n' os2 => (lxm n' os2).2.2.2.1
      have lxm4 := fun n' os2 => (lxm n' os2).2.2.2.2.1
      have lxm5 := fun n' os2 => (lxm n' os2).2.2.2.2.2.1
      have lxm6 := fun n' os2 => (lxm n' os2).2.2.2.2.2.2.1
      have lxm7 := fun n' os2 => (lxm n' os2).2.2.2.2.2.2.2
      clear lxm
      have lxh := fun n' os2 => (cells8 (hHc n' os2) (i := h) (by rw [HSZ.out]; omega) hxh).1
      have lxh0 := fun n' os2 => (lxh n' os2).1
      have lxh1 := fun n' os2 => (lxh n' os2).2.1
      have lxh2 := fun n' os2 => (lxh n' os2).2.2.1
      have lxh3 := fun n' os2 => (lxh n' os2).2.2.2.1
      have lxh4 := fun n' os2 => (lxh n' os2).2.2.2.2.1
      have lxh5 := fun n' os2 => (lxh n' os2).2.2.2.2.2.1
      have lxh6 := fun n' os2 => (lxh n' os2).2.2.2.2.2.2.1
      have lxh7 := fun n' os2 => (lxh n' os2).2.2.2.2.2.2.2
      clear lxh
      have hcg : ∀ n' os2, Calls Try.prog g (#[.agg #[.int .i64 xm.f0, .int .i64 xm.f1, .int .i64 xm.f2, .int .u64 xm.f3.f0, .int .u64 xm.f3.f1, .int .u64 xm.f3.f2, .int .u64 xm.f3.f3, .int .i64 xm.f4], .agg #[.int .i64 xh.f0, .int .i64 xh.f1, .int .i64 xh.f2, .int .u64 xh.f3.f0, .int .u64 xh.f3.f1, .int .u64 xh.f3.f2, .int .u64 xh.f3.f3, .int .i64 xh.f4]] ++ cb) (grow ((sortWorldK encP 8 w blk 0 n dk os').drewN n') os2) fun e w' => e = .returned (.int .i64 (cf xm xh)) ∧ ∃ q os3, w' = grow ((grow ((sortWorldK encP 8 w blk 0 n dk os').drewN n') os2).drewN q) os3 := fun n' os2 => by
        rw [hcls]; exact HC.out _ _ dk HSZ.out xm xh
      have CLS : Hid _ := hcls
      clear hcls hHc
      have HX : Hid (dk[m]! = xm) := hxm
      have HY : Hid (dk[h]! = xh) := hxh
      clear hxm hxh
      generalize hwq : sortWorldK encP 8 w blk 0 n dk os' = wq at lxm0 lxm1 lxm2 lxm3 lxm4 lxm5 lxm6 lxm7 lxh0 lxh1 lxh2 lxh3 lxh4 lxh5 lxh6 lxh7 hcg CLS ⊢
      have HWQ : Hid _ := hwq
      clear hwq
      by_cases hlv : cf xm xh < 0
      · have HLT : Hid (ltOf cf dk[m]! dk[h]! = true) := by show _ = _; rw [HX.out, HY.out]; exact decide_eq_true hlv
        have hlz : decide (cf xm xh < 0) = true := decide_eq_true hlv
        go_wp2_with fail
        go_quiet_grown (first | (go_at_fn g; refine Calls.grown_of (hcg _ _)))
        clear lxm0 lxm1 lxm2 lxm3 lxm4 lxm5 lxm6 lxm7 lxh0 lxh1 lxh2 lxh3 lxh4 lxh5 lxh6 lxh7 hcg
        go_wp2
        go_roundg g2
        case measure => omega
        case rel => exact ⟨i, h, n + nq, os' ++ osq, rfl, rfl, by omega, by omega, by omega, by omega, CLS.out nq osq, by show _ = _; rw [← HO.out, bsF_no hlt (by rw [← HHH.out, HPP.out]; simp [HLT.out]), HHH.out]⟩
      · have HLT : Hid (ltOf cf dk[m]! dk[h]! = false) := by show _ = _; rw [HX.out, HY.out]; exact decide_eq_false hlv
        have hlz : decide (cf xm xh < 0) = false := decide_eq_false hlv
        go_wp2_with fail
        go_quiet_grown (first | (go_at_fn g; refine Calls.grown_of (hcg _ _)))
        clear lxm0 lxm1 lxm2 lxm3 lxm4 lxm5 lxm6 lxm7 lxh0 lxh1 lxh2 lxh3 lxh4 lxh5 lxh6 lxh7 hcg
        go_wp2
        go_roundg g2
        case measure => omega
        case rel => exact ⟨h + 1, j, n + nq, os' ++ osq, by go_num, rfl, by omega, by omega, by omega, by omega, CLS.out nq osq, by show _ = _; rw [← HO.out, bsF_yes hlt (by rw [← HHH.out, HPP.out]; simp [HLT.out]), HHH.out]⟩
    · have hltz : ¬ (i : Int) < (j : Int) := by omega
      have HI : Hid (i = bsF pp (m - a) a m) := by show _ = _; rw [← HO.out, bsF_done hlt]
      clear HO
      have him : i ≤ m := by omega
      go_wp2
      go_loopg [17] (m - i) (fun g1 vk wr => ∃ (k n : Nat) (dj : Array S70), vk = .int .i64 k ∧ i ≤ k ∧ k ≤ m ∧ k - i ≤ g1 ∧ Hid (dj.size = d.size) ∧ wr = sortWorldK encP 8 w blk 0 n dj os' ∧ Hid (swDn (k - i) k dj = swDn (m - i) m dk))
      case atStart => exact ⟨m, n, dk, rfl, by omega, by omega, by omega, HSZ, rfl, rfl⟩
      case round =>
        obtain ⟨k, n2, dj, rfl, hik, hkm, hg2, HSJ, rfl, HO⟩ := hrel
        by_cases hk : i < k
        · have hkz : (i : Int) < (k : Int) := by omega
          have j1 : (k : Int) < (d.size : Int) := by omega
          have j2 : (k : Int) - 1 < (d.size : Int) := by omega
          have p2 : (0 : Int) ≤ (k : Int) - 1 := by omega
          have p3 : (1 : Int) ≤ (k : Int) := by omega
          obtain ⟨k1, hk1⟩ : ∃ k1 : Nat, k1 = k - 1 := ⟨_, rfl⟩
          have e2 : ((k : Int) - 1).toNat = k1 := by omega
          have hkd : k1 < d.size := by omega
          have hkd0 : k < d.size := by omega
          obtain ⟨xa, hxa⟩ : ∃ x, dj[k]! = x := ⟨_, rfl⟩
          obtain ⟨xb, hxb⟩ : ∃ x, dj[k1]! = x := ⟨_, rfl⟩
          have hHd := holdsK_sortWorldK_c encP 8 w blk 0 d dj n2 os' HH.out hblk HSJ.out
          have HSW : Hid (((sortWorldK encP 8 w blk 0 n2 dj os').drew.setCells blk ((k) * 8) (encP xb)).setCells blk ((k1) * 8) (encP xa) = sortWorldK encP 8 w blk 0 (n2 + 1) (swp dj (k) (k1)) os') := by
            show _ = _
            rw [← hxa, ← hxb]
            have := sortWorldK_swp_c encP 8 w blk 0 encP_len n2 dj os' hblk (k) (k1) (by rw [HSJ.out]; omega) (by rw [HSJ.out]; omega)
            simpa using this
          generalize hwq : sortWorldK encP 8 w blk 0 n2 dj os' = wq at hHd HSW ⊢
          obtain ⟨⟨la0, la1, la2, la3, la4, la5, la6, la7⟩, fa0, fa1, fa2, fa3, fa4, fa5, fa6, fa7⟩ := cells8 hHd (i := k) (by rw [HSJ.out]; omega) hxa
          obtain ⟨⟨lb0, lb1, lb2, lb3, lb4, lb5, lb6, lb7⟩, fb0, fb1, fb2, fb3, fb4, fb5, fb6, fb7⟩ := cells8 hHd (i := k1) (by rw [HSJ.out]; omega) hxb
          have hsd := HSJ.out
          obtain ⟨w0, w1, w2, w3, w4, w5, w6, w7, ⟨lb0', lb1', lb2', lb3', lb4', lb5', lb6', lb7'⟩, fb0', fb1', fb2', fb3', fb4', fb5', fb6', fb7'⟩ := after8 hHd ((k) * 8) xb (by rw [size_flatK]; omega) ((k1) * 8) (by rw [size_flatK]; omega)
          clear hHd hsd
          have HWQ : Hid _ := hwq
          clear hwq
          have HXA : Hid _ := hxa
          have HXB : Hid _ := hxb
          clear hxa hxb
          have HK1 : Hid _ := hk1
          clear hk1
          go_wp2
          go_big_region
          all_goals go_wp2
          have hk1 := HK1.out
          go_roundg (k - 1 - i)
          case measure => omega
          case rel => exact ⟨k - 1, n2 + 1, swp dj k k1, (by show Value.int .i64 ((k : Int) - 1) = _; rw [show (k : Int) - 1 = ((k - 1 : Nat) : Int) by omega]), by omega, by omega, by omega, (by show _ = _; rw [size_swp]; exact HSJ.out), (set16 _ _ _ _ _ _).trans HSW.out, (by show _ = _; rw [← HO.out, show k - i = (k - 1 - i) + 1 by omega, swDn, hk1])⟩
        · have hkz : ¬ (i : Int) < (k : Int) := by omega
          go_wp2
          refine bodyPost_ret (results_none rfl _ _ _) rfl ?_
          exact ⟨rfl, n2, os', by rw [← HI.out, ← HO.out, show k - i = 0 by omega, swDn]⟩
end
end Go.Proofs.Ytppfkbigeknedaa.Q
