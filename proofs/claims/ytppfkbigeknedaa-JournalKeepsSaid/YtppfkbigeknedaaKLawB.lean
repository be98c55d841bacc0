/- the walk of DiskBegins, merged -/
import Derived.Test.YtppfkbigeknedaaKDD
import Derived.Lib.SlBytesConst
namespace Go.Proofs.Ytppfkbigeknedaa.Q
open Go.RowKit Go.Proofs.YtppfkbigeknedaaW.PrintWords Go.Proofs.YtppfkbigeknedaaW.PrintLast Go.Proofs.YtppfkbigeknedaaW.PrintMore
set_option linter.unusedVariables false
set_option linter.unusedSimpArgs false
set_option maxRecDepth 100000
attribute [local go_sem] eqe_ii eqe_nn eqe_ni eqe_nni
theorem IsD.below {base g : Nat} {W W1 : World} {xs : List Int} {room : Int} {down : Bool} {v : Value} (h : IsD base g W xs room down v) (hb : Below W.heap.size W W1) : IsD base g W1 xs room down v :=
  ⟨blk_below h.1 hb, h.2.1, Kd.R_below h.2.2.1 hb, h.2.2.2⟩
theorem cellM (W : World) (cs : Array Value) (t : TypeId) (fr : Nat × Nat) (j : Nat) : (W.alloc (.cells cs t fr)).cell? ⟨W.heap.size, j, none⟩ = cs[j]? := by
  have : (W.alloc (.cells cs t fr)).heap[W.heap.size]? = some (.cells cs t fr) := by
    show (W.heap.push (.cells cs t fr))[W.heap.size]? = _
    simp
  unfold World.cell?
  rw [this]
  rfl
theorem C_lit2 (W : World) (x y : Int) (fr : Nat × Nat) : Kd.C (Kd.int .u8) (W.alloc (.cells #[.int .u8 x, .int .u8 y] 5 fr)) (some ⟨W.heap.size, 0, none⟩) 2 [x, y] := by
  refine ⟨rfl, by omega, fun _ => ⟨_, rfl, fun j p hp => ⟨[.int .u8 p], rfl, rfl, fun i u hu => ?_⟩⟩⟩
  have hi : i = 0 := by have := (List.getElem?_eq_some_iff.1 hu).1; simp at this; omega
  subst hi
  simp at hu
  subst hu
  have ea : (⟨W.heap.size, 0, none⟩ : Addr).add (j * (Kd.int .u8).sz + 0) = ⟨W.heap.size, j, none⟩ := by
    show (⟨W.heap.size, 0, none⟩ : Addr).add (j * 1 + 0) = _
    rw [Nat.mul_one, Nat.add_zero, add_at, Nat.zero_add]
  rw [ea, cellM]
  match j, hp with
  | 0, hp => exact (by simpa using hp)
  | 1, hp => exact (by simpa using hp)
theorem dApp1 : dApp [] [97, 98] 3 false = (none, [97, 98]) := by decide
theorem dApp2 : dApp [97, 98] [99, 100] 3 false = (some 6, [97, 98]) := by decide
set_option maxHeartbeats 8000000 in
theorem law21_up (w : World) : Calls Try.prog 34 #[] w fun e w' => e = .returned (.bool true) ∧ Below w.heap.size w w' := by
  have hn := fun W => disk_new 3 W (by omega) (by omega)
  have hcv : ∀ (W : World) (a b : Value), (convert 46 46 (.slice (some ⟨W.heap.size, 0, none⟩) 2 2)).run Try.prog (W.alloc (.cells #[a, b] 5)) = .ok (.slice (some ⟨W.heap.size, 0, none⟩) 2 2) (W.alloc (.cells #[a, b] 5 (2, 3))) := fun W a b => Go.Lib.run_convert_bytes_const W 46 5 #[a, b] 2 2 Try.underlying46 (by kernel_rfl)
  go_enter Try.func34, Try.ntmps34
  go_wp2_with (first
    | (go_at_call 35; refine (hn _).mono ?_; rintro e w1 ⟨g, rfl, hd, hb⟩; have HD := Aside0.mk hd; have HB := Aside0.mk hb; clear hd hb hn)
    | (go_at_call 36; first
        | (have hc := disk_append (c := 2) (HD.out.below (below_alloc (Below.refl _ _) _)) (C_lit2 _ 97 98 (2, 3)); simp only [dApp1, errW_none] at hc; refine hc.mono ?_; clear hc; rintro e w3 ⟨v3, rfl, hd, hb, hk, ho⟩; have HD3 := Aside0.mk hd; have HB3 := Aside0.mk hb; clear hd hb hk ho HD)
        | (have hc := disk_append (c := 2) (HD3.out.below (below_alloc (Below.refl _ _) _)) (C_lit2 _ 99 100 (2, 3)); simp only [dApp2, errW_some] at hc; refine hc.mono ?_; clear hc; rintro e w5 ⟨v5, rfl, hd, hb, hk, ho⟩; have HD5 := Aside0.mk hd; have HB5 := Aside0.mk hb; clear hd hb hk ho HD3))
    | (go_at_call 37; refine (disk_bytes HD5.out).mono ?_; rintro e w6 ⟨v6, rfl, hr, hb⟩; obtain ⟨A6, c6, rfl⟩ := Kd.R_slice hr; have HR6 := Aside0.mk hr; have HB6 := Aside0.mk hb; have hs7 : (convert 46 9 (.slice A6 2 c6)).run Try.prog w6 = .ok (.string { data := #[97, 98] }) w6 := Kd.C_string (P := Try.prog) (src := 46) (dst := 9) (e := 5) (c := c6) Try.underlying46 (by kernel_rfl) (by kernel_rfl) (Kd.R_reads' hr).2.2; clear hr hb)
    | (go_at_call 80; refine (disk_room (HD5.out.below HB6.out)).mono ?_; rintro e w7 ⟨rfl, n7, rfl⟩))
  go_ret
  have b2 := (below_alloc HB.out (.cells #[.int .u8 97, .int .u8 98] 5 (2, 3))).trans HB3.out
  have b3 := (below_alloc b2 (.cells #[.int .u8 99, .int .u8 100] 5 (2, 3))).trans HB5.out
  exact ⟨rfl, pw_below_drewN (below_then b3 b3.size HB6.out) _⟩
end Go.Proofs.Ytppfkbigeknedaa.Q
namespace Go.Proofs.Ytppfkbigeknedaa.Q
open Go.RowKit Go.Proofs.YtppfkbigeknedaaW.PrintWords Go.Proofs.YtppfkbigeknedaaW.PrintLast Go.Proofs.YtppfkbigeknedaaW.PrintMore
set_option linter.unusedVariables false
set_option linter.unusedSimpArgs false
set_option maxRecDepth 100000
attribute [local go_sem] eqe_ii eqe_nn eqe_ni eqe_nni
theorem R_kept_own {e base : Nat} {ok S : Nat → Prop} {W W2 : World} {v : Value} {xs : List Int} (h : Kd.R (Kd.int .u8) e W base ok v xs) (hk : Kept W W2 S) (hne : ∀ k, v.ownBlock = some k → ¬ S k) : Kd.R (Kd.int .u8) e W2 base ok v xs :=
  Kd.R_mono (Kd.R_kept (Kd.R_tight2 rfl h) hk (fun k hk => hne k hk.1.symm)) (fun k hk => hk.2)
theorem IsD.kept {base g : Nat} {W W1 : World} {S : Nat → Prop} {xs : List Int} {room : Int} {down : Bool} {v : Value} (h : IsD base g W xs room down v) (hk : Kept W W1 S) (hg : ¬ S g) (hv : ∀ k, v.ownBlock = some k → ¬ S k) : IsD base g W1 xs room down v :=
  ⟨blk_kept h.1 hk hg, h.2.1, R_kept_own h.2.2.1 hk hv, h.2.2.2⟩
theorem dTear_pre (xs ys : List Int) (room : Int) (n : Int) : ∃ zs, (dTear xs ys room false n).2.1 = xs ++ zs := by
  unfold dTear
  rw [if_neg (by simp)]
  split
  · exact ⟨[], by simp⟩
  split
  · exact ⟨[], by simp⟩
  · exact ⟨_, rfl⟩
def dunnagelaw21_DiskBegins.f (a0 : Int) (l1 l2 : List Int) (a3 : Int) : Option Bool := some true
set_option maxHeartbeats 8000000 in
theorem begins_bad (a0 : Int) (A1 : Option Addr) (c1 : Nat) (l1 : List Int) (A2 : Option Addr) (c2 : Nat) (l2 : List Int) (a3 : Int) (w : World) (h : a0 < 1 ∨ 65536 < a0) :
    Calls Try.prog 7 #[.int .i64 a0, .slice A1 l1.length c1, .slice A2 l2.length c2, .int .i64 a3] w fun e w' => e = .returned (.bool true) ∧ Below w.heap.size w w' := by
  have hn := fun W => disk_new_bad a0 W h
  have HN := Aside0.mk hn
  clear hn h
  go_enter Try.func7, Try.ntmps7
  go_wp2_with fail
  refine (law21_up _).mono ?_
  rintro e w1 ⟨rfl, hb1⟩
  have HB1 := Aside0.mk hb1
  clear hb1
  go_wp2_with fail
  refine (HN.out _).mono ?_
  rintro e w2 ⟨rfl, hb2⟩
  have HB2 := Aside0.mk hb2
  clear hb2
  go_wp2
  repeat (go_quiet (fail); try go_wp2)
  go_ret
  exact ⟨rfl, below_then HB1.out (below_size HB1.out) HB2.out⟩
set_option maxHeartbeats 8000000 in
theorem begins_long (a0 : Int) (A1 : Option Addr) (c1 : Nat) (l1 : List Int) (A2 : Option Addr) (c2 : Nat) (l2 : List Int) (a3 : Int) (w : World) (h1 : 1 ≤ a0) (h2 : a0 ≤ 65536) (hl : 1000 < l1.length ∨ 1000 < l2.length) :
    Calls Try.prog 7 #[.int .i64 a0, .slice A1 l1.length c1, .slice A2 l2.length c2, .int .i64 a3] w fun e w' => e = .returned (.bool true) ∧ Below w.heap.size w w' := by
  have HN := Aside0.mk (fun W => disk_new a0 W h1 h2)
  clear h1 h2
  by_cases h3 : 1000 < l1.length
  · have hd : decide ((1000 : Int) < (l1.length : Int)) = true := by simpa using (by omega : (1000 : Int) < (l1.length : Int))
    clear hl h3
    go_enter Try.func7, Try.ntmps7
    go_wp2_with fail
    refine (law21_up _).mono ?_
    rintro e w1 ⟨rfl, hb1⟩
    have HB1 := Aside0.mk hb1
    clear hb1
    go_wp2_with fail
    refine (HN.out _).mono ?_
    rintro e w2 ⟨g, rfl, hd2, hb2⟩
    have HB2 := Aside0.mk hb2
    clear hb2 hd2
    go_wp2
    repeat (go_quiet (fail); try go_wp2)
    go_ret
    exact ⟨rfl, below_then HB1.out (below_size HB1.out) HB2.out⟩
  · have hd : decide ((1000 : Int) < (l1.length : Int)) = false := by simpa using (by omega : ¬ (1000 : Int) < (l1.length : Int))
    have hd2 : decide ((1000 : Int) < (l2.length : Int)) = true := by simpa using (by omega : (1000 : Int) < (l2.length : Int))
    clear hl h3
    go_enter Try.func7, Try.ntmps7
    go_wp2_with fail
    refine (law21_up _).mono ?_
    rintro e w1 ⟨rfl, hb1⟩
    have HB1 := Aside0.mk hb1
    clear hb1
    go_wp2_with fail
    refine (HN.out _).mono ?_
    rintro e w2 ⟨g, rfl, hd2, hb2⟩
    have HB2 := Aside0.mk hb2
    clear hb2 hd2
    go_wp2
    repeat (go_quiet (fail); try go_wp2)
    go_ret
    exact ⟨rfl, below_then HB1.out (below_size HB1.out) HB2.out⟩
set_option maxHeartbeats 8000000 in
theorem begins_main (a0 : Int) (A1 : Option Addr) (c1 : Nat) (l1 : List Int) (A2 : Option Addr) (c2 : Nat) (l2 : List Int) (a3 : Int) (w : World) (h1 : 1 ≤ a0) (h2 : a0 ≤ 65536) (h3 : l1.length ≤ 1000) (h4 : l2.length ≤ 1000)
    (hr1 : Kd.C (Kd.int .u8) w A1 l1.length l1) (hr2 : Kd.C (Kd.int .u8) w A2 l2.length l2) (hc2 : l2.length ≤ c2) :
    Calls Try.prog 7 #[.int .i64 a0, .slice A1 l1.length c1, .slice A2 l2.length c2, .int .i64 a3] w fun e w' => e = .returned (.bool true) ∧ Below w.heap.size w w' := by
  have HN := Aside0.mk (fun W => disk_new a0 W h1 h2)
  have HR1 := Aside0.mk hr1
  have HR2 := Aside0.mk hr2
  have HC2 := Aside0.mk hc2
  have H2 := Aside0.mk h2
  have hd : decide ((1000 : Int) < (l1.length : Int)) = false := by simpa using (by omega : ¬ (1000 : Int) < (l1.length : Int))
  have hd2 : decide ((1000 : Int) < (l2.length : Int)) = false := by simpa using (by omega : ¬ (1000 : Int) < (l2.length : Int))
  clear h1 h2 h3 h4 hr1 hr2 hc2
  go_enter Try.func7, Try.ntmps7
  go_wp2_with fail
  refine (law21_up _).mono ?_
  rintro e w1 ⟨rfl, hb1⟩
  have HB1 := Aside0.mk hb1
  clear hb1
  go_wp2_with fail
  refine (HN.out _).mono ?_
  rintro e w2 ⟨g, rfl, hd2, hb2⟩
  have HD2 := Aside0.mk hd2
  have HB2 := Aside0.mk (below_then HB1.out (below_size HB1.out) hb2)
  have HG := Aside0.mk (Nat.le_trans (below_size HB1.out) hd2.2.1)
  have HW1 := Aside0.mk (below_size HB1.out)
  clear hb2 hd2 HB1 HN
  go_wp2_with fail
  refine (disk_append (c := c1) HD2.out (Kd.C_below HR1.out HB2.out)).mono ?_
  rintro e w3 ⟨v3, rfl, hd3, hb3, -, -⟩
  obtain ⟨xs, hxs⟩ : ∃ xs, (dApp [] l1 a0 false).2 = xs := ⟨_, rfl⟩
  rw [hxs] at hd3
  obtain ⟨er, her⟩ : ∃ er, errW (dApp [] l1 a0 false).1 = er := ⟨_, rfl⟩
  rw [her]
  clear hxs her
  have HD3 := Aside0.mk hd3
  have HB3 := Aside0.mk (hb3)
  clear hd3 hb3
  go_wp2_with fail
  refine (disk_bytes HD3.out).mono ?_
  rintro e w4 ⟨v4, rfl, hr4, hb4⟩
  obtain ⟨A4, c4, rfl⟩ := Kd.R_slice hr4
  have HR4 := Aside0.mk hr4
  have HD4 := Aside0.mk (HD3.out.below hb4)
  have HB4 := Aside0.mk hb4
  clear hr4 hb4
  go_wp2_with fail
  refine (disk_bytes HD4.out).mono ?_
  rintro e w5 ⟨v5, rfl, hr5, hb5⟩
  obtain ⟨A5, c5, rfl⟩ := Kd.R_slice hr5
  have HR5 := Aside0.mk hr5
  have HD5 := Aside0.mk (HD4.out.below hb5)
  have HX5 := Aside0.mk (Kd.R_below HR4.out hb5)
  have HB5 := Aside0.mk hb5
  have hlen : (xs.length : Int) ≤ 65536 := by have := HD3.out.2.2.2.1; have := H2.out; omega
  have HL := Aside0.mk hlen
  clear hr5 hb5 hlen
  go_wp2
  go_loopw [14] (fun v14 w' => ∃ i : Nat, v14 = .int .i64 i ∧ i ≤ xs.length ∧ Aside0 (∃ ys, ys.length = xs.length ∧ Kd.R (Kd.int .u8) 5 w' w4.heap.size (fun _ => True) (.slice A5 xs.length c5) ys) ∧ Aside0 (Kept w5 w' (fun k => (Value.slice A5 xs.length c5).ownBlock = some k)) ∧ Aside0 (Below w4.heap.size w4 w')) (fun v14 _ => xs.length - (intOf v14).toNat)
  case atStart => exact ⟨0, rfl, by omega, ⟨xs, rfl, HR5.out⟩, ⟨Kept.refl _ _⟩, HB5⟩
  case round =>
    obtain ⟨i, rfl, hi, HY, HK, HB⟩ := hrel
    have HI := Aside0.mk hi
    clear hi
    have hlx : (xs.length : Int) ≤ 65536 := HL.out
    by_cases hlt : (i : Int) < (xs.length : Int)
    · have hlb : decide ((i : Int) < (xs.length : Int)) = true := decide_eq_true hlt
      obtain ⟨ys, hys⟩ := HY.out
      obtain ⟨g5, c5', e5⟩ : ∃ g5 c, (Value.slice A5 xs.length c5) = .slice (some ⟨g5, 0, none⟩) xs.length c := by
        obtain ⟨g, c, e, _⟩ := Kd.R_form hys.2 (by omega)
        exact ⟨g, c, by rw [e, hys.1]⟩
      injection e5 with e51 _ e52
      subst e51 e52
      have hcell := Kd.R_celln (0 : Int) hys.2 (i : Int) (by omega) (by omega)
      have hput := fun u => Kd.R_putn hys.2 (i : Int) u
      have hys1 := hys.1
      have HP := Aside0.mk hput
      have HY1 := Aside0.mk hys1
      obtain ⟨u0, hu0⟩ : ∃ u0, rdOf 0 ys (i : Int) = u0 := ⟨_, rfl⟩
      rw [hu0] at hcell
      simp only [Int.toNat_natCast] at hcell
      obtain ⟨hce, hfz⟩ := hcell
      have hgb : w4.heap.size ≤ g5 := by
        have := Kd.R_base hys.2 g5 (by simp [Value.ownBlock])
        exact this
      have HGB := Aside0.mk hgb
      clear hput hu0 hys hgb hys1
      go_wp2
      go_roundw
      case measure => simp [intOf]; omega
      case rel =>
        refine ⟨i + 1, by go_num, by omega, ⟨ys.set i ((u0 + 1) % 256), by rw [List.length_set]; exact HY1.out, HP.out _⟩, ⟨kept_set HK.out _ _ rfl⟩, ⟨HB.out.setCell HGB.out _⟩⟩
    · have hlb : decide ((i : Int) < (xs.length : Int)) = false := decide_eq_false hlt
      obtain ⟨ys, hys⟩ := HY.out
      clear HY
      have hv3 : ∀ k, v3.ownBlock = some k → k < w3.heap.size := Kd.R_lt HD3.out.2.2.1
      have hg3 : g < w3.heap.size := blk_lt HD3.out.1
      have hS : ∀ k, (Value.slice A5 xs.length c5).ownBlock = some k → w4.heap.size ≤ k := Kd.R_base HR5.out
      have h34 := below_size HB4.out
      have HD6 := Aside0.mk (HD5.out.kept HK.out (fun hk => by have := hS g hk; omega) (fun k hk hk2 => by have := hS k hk2; have := hv3 k hk; omega))
      have HX6 := Aside0.mk (R_kept_own HX5.out HK.out (fun k hk hk2 => by have := hS k hk2; have := Kd.R_lt HR4.out k hk; omega))
      have hw1 := HW1.out
      have hw3 : w1.heap.size ≤ w3.heap.size := by have := HD3.out.2.1; omega
      have hbw := Aside0.mk (((HB2.out.trans (HB3.out.mono hw1)).trans (HB4.out.mono (by omega))).trans (HB.out.mono (by omega)))
      have HVG := Aside0.mk (And.intro hv3 hg3)
      clear hS h34 hv3 hg3 hw3 hw1 hys hlx
      go_wp2_with fail
      refine (disk_tear HD6.out (Kd.C_below HR2.out hbw.out) HC2.out).mono ?_
      rintro e w7 ⟨v7, rfl, hd7, hb7, hk7, -⟩
      obtain ⟨zs, hzs⟩ := dTear_pre xs l2 a0 a3
      rw [hzs] at hd7
      obtain ⟨zz, hzz, hpre, hle⟩ : ∃ zz, xs ++ zs = zz ∧ zz.take xs.length = xs ∧ xs.length ≤ zz.length := ⟨_, rfl, by simp, by simp⟩
      rw [hzz] at hd7
      have HPRE := Aside0.mk hpre
      have HLE := Aside0.mk hle
      clear hzz hpre hle
      obtain ⟨er2, her2⟩ : ∃ er2, errW (dTear xs l2 a0 false a3).1 = er2 := ⟨_, rfl⟩
      obtain ⟨dn, hdn⟩ : ∃ dn, (dTear xs l2 a0 false a3).2.2 = dn := ⟨_, rfl⟩
      rw [her2]
      rw [hdn] at hd7
      clear hzs her2 hdn
      have HD7 := Aside0.mk hd7
      have HX7 := Aside0.mk (R_kept_own HX6.out hk7 (fun k hk hk2 => by
        have h1 := Kd.R_base HX6.out k hk
        rcases hk2 with e | e
        · have := HVG.out.2; omega
        · have := HVG.out.1 k e; omega))
      have HB7 := Aside0.mk (hbw.out.trans (hb7.mono HW1.out))
      clear hd7 hb7 hk7
      go_wp2_with fail
      refine (disk_bytes HD7.out).mono ?_
      rintro e w8 ⟨v8, rfl, hr8, hb8⟩
      obtain ⟨A8, c8, rfl⟩ := Kd.R_slice hr8
      have hc8 := Kd.R_reads' hr8
      have hx8 := Kd.R_reads' (Kd.R_below HX7.out hb8)
      have hs1 : ∀ n, (convert 46 9 (.slice A8 xs.length c8)).run Try.prog (w8.drewN n) = .ok (.string (strOfNums xs)) (w8.drewN n) := fun n => Kd.C_string (P := Try.prog) (src := 46) (dst := 9) (e := 5) (c := c8) Try.underlying46 (by kernel_rfl) (by kernel_rfl) (Kd.C_drewN (by have := C_take hc8.2.2 xs.length HLE.out; rwa [HPRE.out] at this) n)
      have hs2 : ∀ n, (convert 46 9 (.slice A4 xs.length c4)).run Try.prog (w8.drewN n) = .ok (.string (strOfNums xs)) (w8.drewN n) := fun n => Kd.C_string (P := Try.prog) (src := 46) (dst := 9) (e := 5) (c := c4) Try.underlying46 (by kernel_rfl) (by kernel_rfl) (Kd.C_drewN hx8.2.2 n)
      have hlc : (xs.length : Int) ≤ (c8 : Int) := by have := hc8.2.1; have := HLE.out; omega
      have hlz : (xs.length : Int) ≤ (zz.length : Int) := by have := HLE.out; omega
      have hlz2 : decide ((xs.length : Int) ≤ (zz.length : Int)) = true := decide_eq_true hlz
      have HB8 := Aside0.mk (HB7.out.trans (hb8.mono HB7.out.size))
      clear hr8 hb8 hc8 hx8
      go_wp2
      go_quiet (fail)
      go_wp2
      go_ret
      exact ⟨rfl, pw_below_drewN HB8.out _⟩
theorem dunnagelaw21_DiskBegins.calls (a0 : Int) (A1 : Option Addr) (c1 : Nat) (l1 : List Int) (A2 : Option Addr) (c2 : Nat) (l2 : List Int) (a3 : Int) (r : Bool) (w : World) (hr1 : Kd.C (Kd.int .u8) w A1 l1.length l1) (hc1 : l1.length ≤ c1) (hr2 : Kd.C (Kd.int .u8) w A2 l2.length l2) (hc2 : l2.length ≤ c2) (h : dunnagelaw21_DiskBegins.f a0 l1 l2 a3 = some r) :
    Calls Try.prog 7 #[.int .i64 a0, .slice A1 l1.length c1, .slice A2 l2.length c2, .int .i64 a3] w fun e w' => e = .returned (.bool r) ∧ Below w.heap.size w w' := by
  obtain rfl := Option.some.inj h
  by_cases g : a0 < 1 ∨ 65536 < a0
  · exact begins_bad a0 A1 c1 l1 A2 c2 l2 a3 w g
  by_cases g2 : 1000 < l1.length ∨ 1000 < l2.length
  · exact begins_long a0 A1 c1 l1 A2 c2 l2 a3 w (by omega) (by omega) g2
  · exact begins_main a0 A1 c1 l1 A2 c2 l2 a3 w (by omega) (by omega) (by omega) (by omega) hr1 hr2 hc2
end Go.Proofs.Ytppfkbigeknedaa.Q
