/- The walk of JournalPlays, by hand: the long way. -/
import Derived.Test.YtppfkbigeknedaaVPlaysA
namespace Go.Proofs.Ytppfkbigeknedaa.Q
open Go.RowKit Go.Proofs.YtppfkbigeknedaaW.PrintWords Go.Proofs.YtppfkbigeknedaaW.PrintLast Go.Proofs.YtppfkbigeknedaaW.PrintMore
set_option linter.unusedVariables false
set_option linter.unusedSimpArgs false
set_option maxRecDepth 100000
attribute [local go_sem] eqe_ii eqe_nn eqe_ni eqe_nni
theorem dApp_zero (l : List Int) (a0 : Int) : (dApp [] l a0 false).2 = if (l.length : Int) ≤ a0 then l else [] := by
  unfold dApp
  by_cases h : (l.length : Int) ≤ a0
  · rw [if_pos h, if_neg (by simp), if_neg (by simp; omega)]; rfl
  · rw [if_neg h, if_neg (by simp), if_pos (by simp; omega)]
theorem len_if {l xs : List Int} {p : Prop} [Decidable p] {n : Nat} (h : l.length ≤ n) (hx : (if p then l else []) = xs) : xs.length ≤ n := by
  subst hx
  split
  · exact h
  · exact Nat.zero_le _
theorem pick_calls (a : Int) (W : World) : Calls Try.prog 52 #[.int .i64 a, .int .i64 3] W fun e w' => ∃ r, e = .returned (.int .i64 r) ∧ Below W.heap.size W w' := by
  have h : ∃ r, dunnagelaw22_pick.f a 3 = some r := by
    unfold dunnagelaw22_pick.f
    split
    · exact ⟨_, if_neg (by decide)⟩
    · exact ⟨_, if_neg (by decide)⟩
  obtain ⟨r, hr⟩ := h
  refine (dunnagelaw22_pick.calls a 3 r W hr).mono ?_
  rintro e w' ⟨he, hb⟩
  exact ⟨r, he, hb.below⟩
theorem far_m {base gd gj gm : Nat} {W W1 : World} {xs : List Int} {room : Int} {down : Bool} {es : List S60} {vd vj : Value} {cells : Array Value} (hd : IsD base gd W xs room down vd) (hj : IsJ base gj W gd es vj) (hm : W.heap[gm]? = some (.cells cells 81 (0, 0))) (hk : Kept W W1 (fun k => k = gm)) :
    IsD base gd W1 xs room down vd ∧ IsJ base gj W1 gd es vj := by
  refine ⟨hd.kept hk ?_ ?_, hj.kept hk ?_ ?_⟩
  · rintro rfl
    have := blk_ty hd.1 hm
    revert this; decide
  · rintro k hk1 rfl
    exact Kd.R_ne hd.2.2.1 hm (by decide) hk1.symm
  · rintro rfl
    have := blk_ty hj.1 hm
    revert this; decide
  · rintro k rfl cells q hc
    have := blk_ty hc hm; subst this; decide
set_option maxHeartbeats 8000000 in
theorem plays_main (a0 : Int) (A1 : Option Addr) (c1 : Nat) (l1 : List Int) (A2 : Option Addr) (c2 : Nat) (l2 : List S83) (w : World) (h1 : 1 ≤ a0) (h2 : a0 ≤ 5000) (h3 : l1.length ≤ 5000) (h4 : l2.length ≤ 40)
    (hr1 : Kd.C (Kd.int .u8) w A1 l1.length l1) (hb1 : Bytes l1) (hr2 : Kd.C k83 w A2 l2.length l2) (hc1 : l1.length ≤ c1) :
    Calls Try.prog 13 #[.int .i64 a0, .slice A1 l1.length c1, .slice A2 l2.length c2] w fun e w' => e = .returned (.bool true) ∧ Below w.heap.size w w' := by
  have HN := Aside0.mk (fun W => disk_new a0 W h1 (by omega))
  have d1 : decide ((5000 : Int) < a0) = false := decide_eq_false (by omega)
  have d2 : decide ((5000 : Int) < (l1.length : Int)) = false := decide_eq_false (by omega)
  have d3 : decide ((40 : Int) < (l2.length : Int)) = false := decide_eq_false (by omega)
  have HR1 := Aside0.mk hr1
  have HR2 := Aside0.mk hr2
  have HBY := Aside0.mk hb1
  have H1 := Aside0.mk h1
  have H2 := Aside0.mk h2
  have H3 := Aside0.mk h3
  have H4 := Aside0.mk h4
  clear h1 h2 h3 h4 hr1 hr2 hb1
  go_enter Try.func13, Try.ntmps13
  go_wp2_with fail
  refine (law22_up _).mono ?_
  rintro e w1 ⟨rfl, hb1⟩
  have HB1 := Aside0.mk hb1
  clear hb1
  go_wp2_with fail
  refine (HN.out _).mono ?_
  rintro e w2 ⟨gd, rfl, hd2, hb2⟩
  have HD2 := Aside0.mk (show IsD w.heap.size gd w2 [] a0 false (.slice none 0 0) from ⟨hd2.1, Nat.le_trans (below_size HB1.out) hd2.2.1, Kd.R_lower hd2.2.2.1 (below_size HB1.out), hd2.2.2.2⟩)
  have HB2 := Aside0.mk (below_then HB1.out (below_size HB1.out) hb2)
  clear hb2 hd2 HB1 HN
  go_wp2_with fail
  refine (disk_append (c := c1) HD2.out (Kd.C_below HR1.out HB2.out)).mono ?_
  rintro e w3 ⟨v3, rfl, hd3, hb3, -, -⟩
  rw [dApp_zero] at hd3
  obtain ⟨xs, hxs⟩ : ∃ xs, (if (l1.length : Int) ≤ a0 then l1 else []) = xs := ⟨_, rfl⟩
  rw [hxs] at hd3
  have HXS := Aside0.mk hxs
  have HBX := Aside0.mk (show Bytes xs from by rw [← hxs]; split; exact HBY.out; intro y hy; cases hy)
  obtain ⟨er, her⟩ : ∃ er, errW (dApp [] l1 a0 false).1 = er := ⟨_, rfl⟩
  rw [her]
  clear hxs her
  have HD3 := Aside0.mk hd3
  have HB3 := Aside0.mk (HB2.out.trans hb3)
  clear hd3 hb3
  go_wp2_with fail
  refine (open_calls HD3.out HBX.out).mono ?_
  rintro e w4 ⟨gj, vj, vd4, rfl, hd4, hj4, hb4, hk4, -⟩
  have HD4 := Aside0.mk hd4
  have HJ4 := Aside0.mk (show IsJ w.heap.size gj w4 gd (readAll xs).1 vj from ⟨hj4.1, Nat.le_trans HB3.out.size hj4.2.1, Kd.R_lower hj4.2.2 HB3.out.size⟩)
  have HB4 := Aside0.mk (HB3.out.trans hb4)
  clear hd4 hj4 hb4 hk4
  have HCB := Aside0.mk (Kd.C_below HR1.out HB4.out)
  have h0 := HB4.out.size
  have HS4 := Aside0.mk h0
  clear h0
  have HW5 := Aside0.mk (blk_new w4 (.cells #[.string ⟨#[]⟩, .int .i64 a0, .bool false, .slice none 0 0] 81))
  have HB5 := Aside0.mk (show Below w4.heap.size w4 (w4.alloc (.cells #[.string ⟨#[]⟩, .int .i64 a0, .bool false, .slice none 0 0] 81)) from below_alloc (Below.refl _ _) _)
  go_upto_if 64 with fail
  generalize w4.alloc (.cells #[.string ⟨#[]⟩, .int .i64 a0, .bool false, .slice none 0 0] 81) = w5 at HB5 HW5 ⊢
  obtain ⟨gm, hgm⟩ : ∃ gm, w4.heap.size = gm := ⟨_, rfl⟩
  have HGM := Aside0.mk (show w.heap.size ≤ gm from by have := HS4.out; omega)
  have HD5 := Aside0.mk (HD4.out.below2 HB5.out)
  have HJ5 := Aside0.mk (HJ4.out.below HB5.out)
  have HB6 := Aside0.mk (HB4.out.trans (HB5.out.mono HS4.out))
  have HC5 := Aside0.mk (Kd.C_below HR1.out HB6.out)
  rw [hgm] at HW5 ⊢
  clear hgm HB5 HD4 HJ4 HB4 HB3 HD3 HB2 HD2 HS4
  go_cut [] (fun wc => Aside0 (IsM w w.heap.size gm wc (strOfNums xs) a0 false [] (fun _ => True) (.slice none 0 0)) ∧ Aside0 (IsD w.heap.size gd wc (xs.take (readAll xs).2) a0 false vd4) ∧ Aside0 (IsJ w.heap.size gj wc gd (readAll xs).1 vj) ∧ Aside0 (Below w.heap.size w wc))
  case first =>
    obtain ⟨m0, m1, m2, m3, mf0, mf2, mf3⟩ := cellM4 HW5.out
    by_cases hle : (l1.length : Int) ≤ a0
    case pos =>
      have hlb : decide ((l1.length : Int) ≤ a0) = true := decide_eq_true hle
      have kc := Kd.C_string (P := Try.prog) Try.underlying46 Try.underlying5 Try.underlying9 HC5.out (c := c1)
      have hx : xs = l1 := by rw [← HXS.out, if_pos hle]
      have HX := Aside0.mk hx
      clear hx m1 m2 m3 mf2 mf3
      go_wp2
      go_meet
      case rel =>
        have h := far_m HD5.out HJ5.out HW5.out ((Kept.refl w5 (fun k => k = gm)).setCell (p := ⟨gm, 0, none⟩) (Or.inl rfl) (.string (strOfNums l1)))
        refine ⟨⟨?_, HGM.out, Kd.R_nil _ _ _ _ _⟩, ⟨h.1⟩, ⟨h.2⟩, ⟨HB6.out.setCell (p := ⟨gm, 0, none⟩) HGM.out (.string (strOfNums l1))⟩⟩
        rw [HX.out]
        exact blk_put HW5.out 0 _ rfl
    case neg =>
      have hlb : decide ((l1.length : Int) ≤ a0) = false := decide_eq_false hle
      have hx : xs = [] := by rw [← HXS.out, if_neg hle]
      have HX := Aside0.mk hx
      clear hx m0 m1 m2 m3 mf0 mf2 mf3
      go_wp2
      go_meet
      case rel =>
        refine ⟨⟨?_, HGM.out, Kd.R_nil _ _ _ _ _⟩, HD5, HJ5, HB6⟩
        rw [HX.out]
        exact HW5.out
  case rest =>
    clear HW5 HD5 HJ5 HB6 HC5 HR1
    obtain ⟨HM5, HD5, HJ5, HB5⟩ := hcut
    have HSX := Aside0.mk (show xs.length ≤ 5000 from len_if H3.out HXS.out)
    go_wp2_with fail
    refine (mopen_calls HM5.out HBX.out (by have := HSX.out; omega)).mono ?_
    rintro e w6 ⟨rfl, ⟨vm, hm6⟩, hb6, hk6⟩
    have HY6 := Aside0.mk (Sys.opened2 HD5.out HJ5.out HB5.out HM5.out hm6 hb6 hk6)
    have HG6 := Aside0.mk (good_open HBX.out)
    clear hm6 hb6 hk6 HM5 HB5 HD5 HJ5
    go_wp2
    go_loopw [10, 13] (fun v10 v13 w' => ∃ (i gj : Nat), v13 = .int .i64 i ∧ v10 = .pointer (some ⟨gj, 0, none⟩) ∧ i ≤ l2.length ∧ Aside0 (∃ xs down es vd vj vm, Sys w gd gj gm w' xs a0 down es vd vj vm ∧ Good xs es)) (fun v10 v13 _ => l2.length - (intOf v13).toNat)
    case atStart => exact ⟨0, gj, rfl, rfl, Nat.zero_le _, ⟨_, _, _, _, _, _, HY6.out, HG6.out⟩⟩
    case round =>
      clear HY6 HG6
      obtain ⟨i, gj', rfl, rfl, hi, HS⟩ := hrel
      by_cases hlt : (i : Int) < (l2.length : Int)
      case neg =>
        have hlb2 : decide ((i : Int) < (l2.length : Int)) = false := decide_eq_false hlt
        obtain ⟨xs2, down2, es2, vd2, vj2, vm2, hsys, hgood⟩ := HS.out
        have HY8 := Aside0.mk hsys
        have HG8 := Aside0.mk hgood
        clear hsys hgood HS
        obtain ⟨Am, cm, rfl⟩ := Kd.R_slice HY8.out.2.2.1.2.2
        have HSZ := Aside0.mk (show xs2.length ≤ 5000 from by have h1 := HY8.out.1.2.2.2.1; have h2 := H2.out; omega)
        obtain ⟨X, hX⟩ : ∃ X, strOfNums xs2 = X := ⟨_, rfl⟩
        have HXS2 := Aside0.mk hX
        go_wp2_with fail
        have HY9 := Aside0.mk (HY8.out.below (below_drew (Below.refl _ _)))
        clear HY8
        have SK := Aside0.mk (fun (w' : World) (hb : Below wr.drew.heap.size wr.drew w') => let z := cellM4 (HY9.out.2.2.1.below hb).1; (⟨by rw [← hX]; exact z.1, z.2.2.2.1⟩ : (fun w' => w'.cell? ⟨gm, 0, none⟩ = some (.string X) ∧ w'.cell? ⟨gm, 3, none⟩ = some (.slice Am es2.length cm)) w'))
        refine start_ (n := 21) (S := fun w' => w'.cell? ⟨gm, 0, none⟩ = some (.string X) ∧ w'.cell? ⟨gm, 3, none⟩ = some (.slice Am es2.length cm)) (ds := []) #[false, false, false, false, false, false, false, false, false, false, false, false, false, false, false, false, false, false, false, false, false] (by kernel_rfl) rfl rfl (SK.out _ (Below.refl _ _)) (fun hHeld => ?_)
        clear hX
        have HBX := Aside0.mk (Below.refl wr.drew.heap.size wr.drew)
        generalize wr.drew = w9 at HY9 SK HBX hHeld ⊢
        refine pure_ (i := 0) (N := some 152) (v := ?_) (a' := ?_) #[true, false, false, false, false, false, false, false, false, false, false, false, false, false, false, false, false, false, false, false, false] rfl rfl (by kernel_rfl) (fun _ _ _ h => h) (Or.inl ⟨by rfl, ?_⟩) ?_ ?_
        rotate_left
        · intro w'
          go_simp
          with_reducible rfl
        rotate_left
        · simp only [Act.put, List.setIfInBounds_toArray, List.set_cons_zero, List.set_cons_succ, i64_w, i32_w]
          rfl
        refine pure_ (i := 1) (N := some 153) (v := ?_) (a' := ?_) #[true, true, false, false, false, false, false, false, false, false, false, false, false, false, false, false, false, false, false, false, false] rfl rfl (by kernel_rfl) (fun _ _ _ h => h) (Or.inl ⟨by rfl, ?_⟩) ?_ ?_
        rotate_left
        · intro w'
          go_simp
          with_reducible rfl
        rotate_left
        · simp only [Act.put, List.setIfInBounds_toArray, List.set_cons_zero, List.set_cons_succ, i64_w, i32_w]
          rfl
        refine pure_ (i := 2) (N := some 154) (v := ?_) (a' := ?_) #[true, true, true, false, false, false, false, false, false, false, false, false, false, false, false, false, false, false, false, false, false] rfl rfl (by kernel_rfl) (fun _ _ _ h => h) (Or.inl ⟨by rfl, ?_⟩) ?_ ?_
        rotate_left
        · intro w'
          go_simp
          with_reducible rfl
        rotate_left
        · simp only [Act.put, List.setIfInBounds_toArray, List.set_cons_zero, List.set_cons_succ, i64_w, i32_w]
          rfl
        refine pure_ (i := 5) (N := some 157) (v := ?_) (a' := ?_) #[true, true, true, false, false, true, false, false, false, false, false, false, false, false, false, false, false, false, false, false, false] rfl rfl (by kernel_rfl) (fun _ _ _ h => h) (Or.inl ⟨by rfl, ?_⟩) ?_ ?_
        rotate_left
        · intro w'
          go_simp
          with_reducible rfl
        rotate_left
        · simp only [Act.put, List.setIfInBounds_toArray, List.set_cons_zero, List.set_cons_succ, i64_w, i32_w]
          rfl
        refine pure_ (i := 6) (N := some 158) (v := ?_) (a' := ?_) #[true, true, true, false, false, true, true, false, false, false, false, false, false, false, false, false, false, false, false, false, false] rfl rfl (by kernel_rfl) (fun _ _ _ h => h) (Or.inl ⟨by rfl, ?_⟩) ?_ ?_
        rotate_left
        · intro w'
          go_simp
          with_reducible rfl
        rotate_left
        · simp only [Act.put, List.setIfInBounds_toArray, List.set_cons_zero, List.set_cons_succ, i64_w, i32_w]
          rfl
        refine pure_ (i := 7) (N := some 159) (v := ?_) (a' := ?_) #[true, true, true, false, false, true, true, true, false, false, false, false, false, false, false, false, false, false, false, false, false] rfl rfl (by kernel_rfl) (fun _ _ _ h => h) (Or.inl ⟨by rfl, ?_⟩) ?_ ?_
        rotate_left
        · intro w'
          go_simp
          with_reducible rfl
        rotate_left
        · simp only [Act.put, List.setIfInBounds_toArray, List.set_cons_zero, List.set_cons_succ, i64_w, i32_w]
          rfl
        refine take_ (i := 8) (N := some 160) (v := ?_) (a' := ?_) #[true, true, true, false, false, true, true, true, true, false, false, false, false, false, false, false, false, false, false, false, false] rfl rfl (by kernel_rfl) (fun _ _ _ h => h) (Or.inl ⟨by rfl, ?_⟩) hHeld ?_ ?_
        rotate_left
        · intro w' hS
          obtain ⟨s0, s1⟩ := hS
          go_simp
          with_reducible rfl
        rotate_left
        · simp only [Act.put, List.setIfInBounds_toArray, List.set_cons_zero, List.set_cons_succ, i64_w, i32_w]
          rfl
        refine one_ (i := 3) (N := some 155) #[true, true, true, true, false, true, true, true, true, false, false, false, false, false, false, false, false, false, false, false, false] rfl rfl (by kernel_rfl) (by decide) (fun K hK => ?_)
        refine goes_ Try.func37 (by kernel_rfl) rfl #[.pointer (some ⟨gd, 0, none⟩)] (by rfl) rfl rfl (by (try simp only [List.map_toArray, List.map_cons, List.map_nil]); first | done | rfl) ?_
        refine (disk_bytes HY9.out.1).mono ?_
        rintro e w10 ⟨v10, rfl, hr10, hb⟩
        obtain ⟨A10, c10, rfl⟩ := Kd.R_slice hr10
        have HC10 := Aside0.mk (Kd.R_reads' hr10).2.2
        have HY10 := Aside0.mk (HY9.out.below hb)
        have HBN := Aside0.mk (HBX.out.trans (hb.mono HBX.out.size))
        refine ⟨_, rfl, ?_⟩
        refine hK.out _ _ (SK.out _ HBN.out) (fun hHeld => ?_)
        clear hK K HBX hb hr10 HY9
        have HBX := HBN
        clear HBN
        refine norm_ (a' := ?_) ?_ ?_
        rotate_left
        · show Act.put _ (some 155) _ = _
          simp only [Act.put, List.setIfInBounds_toArray, List.set_cons_zero, List.set_cons_succ, i64_w, i32_w]
          rfl
        refine one_ (i := 4) (N := some 156) #[true, true, true, true, true, true, true, true, true, false, false, false, false, false, false, false, false, false, false, false, false] rfl rfl (by kernel_rfl) (by decide) (fun K hK => ?_)
        have kc := Kd.C_string (P := Try.prog) Try.underlying46 Try.underlying5 Try.underlying9 HC10.out (c := c10)
        rw [HXS2.out] at kc
        refine value_ (w1 := w10) (v := .string X) (by rfl) rfl (by go_simp) ?_
        refine hK.out _ _ (SK.out _ HBX.out) (fun hHeld => ?_)
        clear hK K kc
        refine norm_ (a' := ?_) ?_ ?_
        rotate_left
        · show Act.put _ (some 156) _ = _
          simp only [Act.put, List.setIfInBounds_toArray, List.set_cons_zero, List.set_cons_succ, i64_w, i32_w]
          rfl
        refine pure_ (i := 9) (N := some 161) (v := ?_) (a' := ?_) #[true, true, true, true, true, true, true, true, true, true, false, false, false, false, false, false, false, false, false, false, false] rfl rfl (by kernel_rfl) (fun _ _ _ h => h) (Or.inl ⟨by rfl, ?_⟩) ?_ ?_
        rotate_left
        · intro w'
          go_simp
          with_reducible rfl
        rotate_left
        · simp only [Act.put, List.setIfInBounds_toArray, List.set_cons_zero, List.set_cons_succ, i64_w, i32_w]
          rfl
        refine pure_ (i := 10) (N := some 162) (v := ?_) (a' := ?_) #[true, true, true, true, true, true, true, true, true, true, true, false, false, false, false, false, false, false, false, false, false] rfl rfl (by kernel_rfl) (fun _ _ _ h => h) (Or.inl ⟨by rfl, ?_⟩) ?_ ?_
        rotate_left
        · intro w'
          go_simp
          with_reducible rfl
        rotate_left
        · simp only [Act.put, List.setIfInBounds_toArray, List.set_cons_zero, List.set_cons_succ, i64_w, i32_w]
          rfl
        refine pure_ (i := 11) (N := some 163) (v := ?_) (a' := ?_) #[true, true, true, true, true, true, true, true, true, true, true, true, false, false, false, false, false, false, false, false, false] rfl rfl (by kernel_rfl) (fun _ _ _ h => h) (Or.inl ⟨by rfl, ?_⟩) ?_ ?_
        rotate_left
        · intro w'
          go_simp
          with_reducible rfl
        rotate_left
        · simp only [Act.put, List.setIfInBounds_toArray, List.set_cons_zero, List.set_cons_succ, i64_w, i32_w]
          rfl
        refine pure_ (i := 12) (N := some 164) (v := ?_) (a' := ?_) #[true, true, true, true, true, true, true, true, true, true, true, true, true, false, false, false, false, false, false, false, false] rfl rfl (by kernel_rfl) (fun _ _ _ h => h) (Or.inl ⟨by rfl, ?_⟩) ?_ ?_
        rotate_left
        · intro w'
          go_simp
          with_reducible rfl
        rotate_left
        · simp only [Act.put, List.setIfInBounds_toArray, List.set_cons_zero, List.set_cons_succ, i64_w, i32_w]
          rfl
        refine pure_ (i := 14) (N := some 166) (v := ?_) (a' := ?_) #[true, true, true, true, true, true, true, true, true, true, true, true, true, false, true, false, false, false, false, false, false] rfl rfl (by kernel_rfl) (fun _ _ _ h => h) (Or.inl ⟨by rfl, ?_⟩) ?_ ?_
        rotate_left
        · intro w'
          go_simp
          with_reducible rfl
        rotate_left
        · simp only [Act.put, List.setIfInBounds_toArray, List.set_cons_zero, List.set_cons_succ, i64_w, i32_w]
          rfl
        refine pure_ (i := 15) (N := some 167) (v := ?_) (a' := ?_) #[true, true, true, true, true, true, true, true, true, true, true, true, true, false, true, true, false, false, false, false, false] rfl rfl (by kernel_rfl) (fun _ _ _ h => h) (Or.inl ⟨by rfl, ?_⟩) ?_ ?_
        rotate_left
        · intro w'
          go_simp
          with_reducible rfl
        rotate_left
        · simp only [Act.put, List.setIfInBounds_toArray, List.set_cons_zero, List.set_cons_succ, i64_w, i32_w]
          rfl
        refine pure_ (i := 16) (N := some 168) (v := ?_) (a' := ?_) #[true, true, true, true, true, true, true, true, true, true, true, true, true, false, true, true, true, false, false, false, false] rfl rfl (by kernel_rfl) (fun _ _ _ h => h) (Or.inl ⟨by rfl, ?_⟩) ?_ ?_
        rotate_left
        · intro w'
          go_simp
          with_reducible rfl
        rotate_left
        · simp only [Act.put, List.setIfInBounds_toArray, List.set_cons_zero, List.set_cons_succ, i64_w, i32_w]
          rfl
        refine take_ (i := 17) (N := some 169) (v := ?_) (a' := ?_) #[true, true, true, true, true, true, true, true, true, true, true, true, true, false, true, true, true, true, false, false, false] rfl rfl (by kernel_rfl) (fun _ _ _ h => h) (Or.inl ⟨by rfl, ?_⟩) hHeld ?_ ?_
        rotate_left
        · intro w' hS
          obtain ⟨s0, s1⟩ := hS
          go_simp
          with_reducible rfl
        rotate_left
        · simp only [Act.put, List.setIfInBounds_toArray, List.set_cons_zero, List.set_cons_succ, i64_w, i32_w]
          rfl
        refine one_ (i := 13) (N := some 165) #[true, true, true, true, true, true, true, true, true, true, true, true, true, true, true, true, true, true, false, false, false] rfl rfl (by kernel_rfl) (by decide) (fun K hK => ?_)
        refine goes_ Try.func58 (by kernel_rfl) rfl #[.pointer (some ⟨gj', 0, none⟩)] (by rfl) rfl rfl (by (try simp only [List.map_toArray, List.map_cons, List.map_nil]); first | done | rfl) ?_
        refine (entries_calls HY10.out.2.1 (by have h1 := HG8.out.2.1; have h2 := HSZ.out; omega) (fun e he => by have h1 := HG8.out.2.2 e he; omega)).mono ?_
        rintro e w11 ⟨A11, c11, rfl, hc11, hC11, hb⟩
        have HC11 := Aside0.mk hC11
        have HL11 := Aside0.mk hc11
        have HY11 := Aside0.mk (HY10.out.below hb)
        have HBN := Aside0.mk (HBX.out.trans (hb.mono HBX.out.size))
        refine ⟨_, rfl, ?_⟩
        refine hK.out _ _ (SK.out _ HBN.out) (fun hHeld => ?_)
        clear hK K HBX hb hc11 hC11 HY10 HC10
        have HBX := HBN
        clear HBN
        refine norm_ (a' := ?_) ?_ ?_
        rotate_left
        · show Act.put _ (some 165) _ = _
          simp only [Act.put, List.setIfInBounds_toArray, List.set_cons_zero, List.set_cons_succ, i64_w, i32_w]
          rfl
        refine one_ (i := 18) (N := some 170) #[true, true, true, true, true, true, true, true, true, true, true, true, true, true, true, true, true, true, true, false, false] rfl rfl (by kernel_rfl) (by decide) (fun K hK => ?_)
        refine goes_ Try.func57 (by kernel_rfl) rfl #[.slice A11 es2.length c11, .slice Am es2.length cm] (by rfl) rfl rfl (by (try simp only [List.map_toArray, List.map_cons, List.map_nil]); first | done | rfl) ?_
        have hrm := Kd.R_reads' HY11.out.2.2.1.2.2
        refine (same_calls HC11.out HL11.out (kor_C hrm.2.2 HY11.out.2.2.2) hrm.2.1 (by have h1 := HG8.out.2.1; have h2 := HSZ.out; omega) (fun e he => by have h1 := HG8.out.2.2 e he; omega)).mono ?_
        rintro e w12 ⟨rfl, hb⟩
        have HY12 := Aside0.mk (HY11.out.below hb)
        have HBN := Aside0.mk (HBX.out.trans (hb.mono HBX.out.size))
        refine ⟨_, rfl, ?_⟩
        refine hK.out _ _ (SK.out _ HBN.out) (fun hHeld => ?_)
        clear hK K HBX hb hrm HC11 HL11 HY11 SK
        have HBX := HBN
        clear HBN
        refine norm_ (a' := ?_) ?_ ?_
        rotate_left
        · show Act.put _ (some 170) _ = _
          simp only [Act.put, List.setIfInBounds_toArray, List.set_cons_zero, List.set_cons_succ, i64_w, i32_w]
          rfl
        refine pure_ (i := 19) (N := some 171) (v := ?_) (a' := ?_) #[true, true, true, true, true, true, true, true, true, true, true, true, true, true, true, true, true, true, true, true, false] rfl rfl (by kernel_rfl) (fun _ _ _ h => h) (Or.inl ⟨by rfl, ?_⟩) ?_ ?_
        rotate_left
        · intro w'
          go_simp
          with_reducible rfl
        rotate_left
        · simp only [Act.put, List.setIfInBounds_toArray, List.set_cons_zero, List.set_cons_succ, i64_w, i32_w]
          rfl
        refine pure_ (i := 20) (N := some 6) (v := ?_) (a' := ?_) #[true, true, true, true, true, true, true, true, true, true, true, true, true, true, true, true, true, true, true, true, true] rfl rfl (by kernel_rfl) (fun _ _ _ h => h) (Or.inl ⟨by rfl, ?_⟩) ?_ ?_
        rotate_left
        · intro w'
          go_simp
          with_reducible rfl
        rotate_left
        · simp only [Act.put, List.setIfInBounds_toArray, List.set_cons_zero, List.set_cons_succ, i64_w, i32_w]
          rfl
        refine done_ (by kernel_rfl) ?_
        go_wp2
        go_ret
        exact ⟨rfl, HY12.out.2.2.2⟩
      case pos =>
        have hlb2 : decide ((i : Int) < (l2.length : Int)) = true := decide_eq_true hlt
        have HLT := Aside0.mk hlt
        obtain ⟨xs1, down1, es1, vd1, vj1, vm1, hsys, hgood⟩ := HS.out
        obtain ⟨ad, A4, c4, rfl, z0, z1, z2, z3, z4, hc4, hm4⟩ := at_T83 HR2.out (i : Int) (by omega) (by omega)
        have HSY := Aside0.mk hsys
        have HGO := Aside0.mk hgood
        have HC4 := Aside0.mk hc4
        have HM4 := Aside0.mk hm4
        obtain ⟨⟨f0, f1, ⟨ea, eb, em⟩⟩, hel⟩ : ∃ x, rd_T83 l2 (i : Int) = x := ⟨_, rfl⟩
        rw [hel] at z0 z1 z2 z3 z4 HC4 HM4
        simp only [Int.toNat_natCast] at z0 z1 z2 z3 z4 HC4 HM4
        replace z0 := hsys.2.2.2.cell (World.block_lt_of_cell? _ _ z0) |>.trans z0
        replace z1 := hsys.2.2.2.cell (World.block_lt_of_cell? _ _ z1) |>.trans z1
        replace z2 := hsys.2.2.2.cell (World.block_lt_of_cell? _ _ z2) |>.trans z2
        replace z3 := hsys.2.2.2.cell (World.block_lt_of_cell? _ _ z3) |>.trans z3
        replace z4 := hsys.2.2.2.cell (World.block_lt_of_cell? _ _ z4) |>.trans z4
        clear HS hsys hgood hc4 hm4 hel
        by_cases hml : (100 : Int) < (em.length : Int)
        · have hmb : decide ((100 : Int) < (em.length : Int)) = true := decide_eq_true hml
          go_wp2
          go_ret
          exact ⟨rfl, HSY.out.2.2.2.trans ((below_alloc (Below.refl _ _) _).mono HSY.out.2.2.2.size)⟩
        · have hmb : decide ((100 : Int) < (em.length : Int)) = false := decide_eq_false hml
          have HML := Aside0.mk hml
          go_wp2_with fail
          refine (pick_calls f0 _).mono ?_
          rintro e w7 ⟨r, rfl, hb7⟩
          have hal : Below wr.heap.size wr (wr.alloc (.cells #[.int .i64 f0, .int .i64 f1, .int .i64 ea, .int .i64 eb, .slice A4 em.length c4] 83)) := below_alloc (Below.refl _ _) _
          have HY7 := Aside0.mk ((HSY.out.below hal).below hb7)
          have HX7 := Aside0.mk (blk_below (blk_new wr (.cells #[.int .i64 f0, .int .i64 f1, .int .i64 ea, .int .i64 eb, .slice A4 em.length c4] 83)) hb7)
          obtain ⟨gb, hgb⟩ : ∃ gb, wr.heap.size = gb := ⟨_, rfl⟩
          rw [hgb] at HX7 ⊢
          clear hal hb7 hgb HSY z0 z1 z2 z3 z4 hml hmb
          have y0 := blk_cell HX7.out
          have x0 := (y0 0).trans (rfl : _ = some (Value.int .i64 f0))
          have x1 := (y0 1).trans (rfl : _ = some (Value.int .i64 f1))
          have x2 := (y0 2).trans (rfl : _ = some (Value.int .i64 ea))
          have x3 := (y0 3).trans (rfl : _ = some (Value.int .i64 eb))
          have x4 := (y0 4).trans (rfl : _ = some (Value.slice A4 em.length c4))
          clear y0
          go_upto_block 2 with fail
          go_cut [10] (fun v10 wc => ∃ gj2 : Nat, v10 = .pointer (some ⟨gj2, 0, none⟩) ∧ Aside0 (∃ xs down es vd vj vm, Sys w gd gj2 gm wc xs a0 down es vd vj vm ∧ Good xs es))
          case first =>
            by_cases hr0 : r = 0
            · subst hr0
              go_wp2_with fail
              have hes : es1.length ≤ 100000 := by have h1 := HY7.out.1.2.2.2.1; have h2 := H2.out; have h3 := HGO.out.2.1; omega
              have hem : em.length ≤ 100 := by have := HML.out; omega
              refine (japp_calls HY7.out.1 HY7.out.2.1 HM4.out HY7.out.2.2.2 HC4.out hem hes).mono ?_
              intro e w8 hp
              obtain ⟨vd8, vj8, rfl, hd8, hj8, hm8, hb8, -, hx8⟩ := HY7.out.mid hp
              have HD8 := Aside0.mk hd8
              have HJ8 := Aside0.mk hj8
              have HM8 := Aside0.mk hm8
              have HB8 := Aside0.mk hb8
              have HX8 := Aside0.mk (hx8 gb _ HX7.out)
              have HJM := Aside0.mk (jm_app xs1 a0 down1 es1 ea eb em 0)
              have HG8 := Aside0.mk (good_app HGO.out a0 down1 ea eb em hem)
              have HES := Aside0.mk hes
              have HXL := Aside0.mk (show xs1.length ≤ 100000 from by have h1 := HY7.out.1.2.2.2.1; have h2 := H2.out; omega)
              clear hp hd8 hj8 hm8 hb8 hx8 HY7 HX7 hes hem x0 x1 x2 x3 x4
              obtain ⟨⟨r8, xs8, es8⟩, h8⟩ : ∃ p, jApp xs1 a0 down1 es1 ea eb em = p := ⟨_, rfl⟩
              rw [h8] at HD8 HJ8 HJM HG8 ⊢
              simp only at HD8 HJ8 HJM HG8 ⊢
              clear h8
              go_wp2_with fail
              have bal : Below w8.heap.size w8 w8.drew := below_drew (Below.refl _ _)
              have HD9 := Aside0.mk (HD8.out.below2 bal)
              have HJ9 := Aside0.mk (HJ8.out.below bal)
              have HM9 := Aside0.mk (HM8.out.below bal)
              have HB9 := Aside0.mk (below_drew HB8.out)
              have HX9 := Aside0.mk (blk_below HX8.out bal)
              clear bal HD8 HJ8 HM8 HB8 HX8
              have SK := Aside0.mk (fun (w' : World) (hb : Below w8.drew.heap.size w8.drew w') => let hy := blk_below HX9.out hb; (⟨(blk_cell hy 2).trans rfl, (blk_cell hy 3).trans rfl, (blk_cell hy 4).trans rfl⟩ : (fun w' => w'.cell? ⟨gb, 2, none⟩ = some (.int .i64 ea) ∧ w'.cell? ⟨gb, 3, none⟩ = some (.int .i64 eb) ∧ w'.cell? ⟨gb, 4, none⟩ = some (.slice A4 em.length c4)) w'))
              refine start_ (n := 7) (S := fun w' => w'.cell? ⟨gb, 2, none⟩ = some (.int .i64 ea) ∧ w'.cell? ⟨gb, 3, none⟩ = some (.int .i64 eb) ∧ w'.cell? ⟨gb, 4, none⟩ = some (.slice A4 em.length c4)) (ds := [5]) #[false, false, false, false, false, false, false] (by kernel_rfl) rfl rfl (SK.out _ (Below.refl _ _)) (fun hHeld => ?_)
              generalize w8.drew = w9 at HD9 HJ9 HM9 HB9 HX9 SK hHeld ⊢
              refine pure_ (i := 0) (N := some 110) (v := ?_) (a' := ?_) #[true, false, false, false, false, false, false] rfl rfl (by kernel_rfl) (fun _ _ _ h => h) (Or.inl ⟨by rfl, ?_⟩) ?_ ?_
              rotate_left
              · intro w'
                go_simp
                with_reducible rfl
              rotate_left
              · simp only [Act.put, List.setIfInBounds_toArray, List.set_cons_zero, List.set_cons_succ, i64_w, i32_w]
                rfl
              refine pure_ (i := 2) (N := some 112) (v := ?_) (a' := ?_) #[true, false, true, false, false, false, false] rfl rfl (by kernel_rfl) (fun _ _ _ h => h) (Or.inl ⟨by rfl, ?_⟩) ?_ ?_
              rotate_left
              · intro w'
                go_simp
                with_reducible rfl
              rotate_left
              · simp only [Act.put, List.setIfInBounds_toArray, List.set_cons_zero, List.set_cons_succ, i64_w, i32_w]
                rfl
              refine pure_ (i := 3) (N := some 113) (v := ?_) (a' := ?_) #[true, false, true, true, false, false, false] rfl rfl (by kernel_rfl) (fun _ _ _ h => h) (Or.inl ⟨by rfl, ?_⟩) ?_ ?_
              rotate_left
              · intro w'
                go_simp
                with_reducible rfl
              rotate_left
              · simp only [Act.put, List.setIfInBounds_toArray, List.set_cons_zero, List.set_cons_succ, i64_w, i32_w]
                rfl
              refine take_ (i := 4) (N := some 114) (v := ?_) (a' := ?_) #[true, false, true, true, true, false, false] rfl rfl (by kernel_rfl) (fun _ _ _ h => h) (Or.inl ⟨by rfl, ?_⟩) hHeld ?_ ?_
              rotate_left
              · intro w' hS
                obtain ⟨s0, s1, s2⟩ := hS
                go_simp
                with_reducible rfl
              rotate_left
              · simp only [Act.put, List.setIfInBounds_toArray, List.set_cons_zero, List.set_cons_succ, i64_w, i32_w]
                rfl
              refine one_ (i := 1) (N := some 111) #[true, true, true, true, true, false, false] rfl rfl (by kernel_rfl) (by decide) (fun K hK => ?_)
              refine goes_ Try.func54 (by kernel_rfl) rfl #[errW r8] (by rfl) rfl rfl (by (try simp only [List.map_toArray, List.map_cons, List.map_nil]); first | done | rfl) ?_
              refine (code_calls _ r8 HJM.out.1).mono ?_
              rintro e w10 ⟨rfl, hb⟩
              have HD10 := Aside0.mk (HD9.out.below2 hb)
              have HJ10 := Aside0.mk (HJ9.out.below hb)
              have HM10 := Aside0.mk (HM9.out.below hb)
              have HB10 := Aside0.mk (HB9.out.trans (hb.mono HB9.out.size))
              refine ⟨_, rfl, ?_⟩
              refine hK.out _ _ (SK.out _ hb) (fun hHeld => ?_)
              clear hK K hb HD9 HJ9 HM9 HB9 HX9 SK
              refine norm_ (a' := ?_) ?_ ?_
              rotate_left
              · show Act.put _ (some 111) _ = _
                simp only [Act.put, List.setIfInBounds_toArray, List.set_cons_zero, List.set_cons_succ, i64_w, i32_w]
                rfl
              refine last_ (i := 5) (N := some 115) #[true, true, true, true, true, true, false] rfl rfl (by kernel_rfl) (by decide) (fun K hK => ?_)
              refine goes_ Try.func55 (by kernel_rfl) rfl #[.pointer (some ⟨gm, 0, none⟩), .agg #[.int .i64 ea, .int .i64 eb, .slice A4 em.length c4], .int .i64 0, .bool false] (by rfl) rfl rfl (by (try simp only [List.map_toArray, List.map_cons, List.map_nil]); first | done | rfl) ?_
              refine (mapp_calls 0 false HM10.out HM4.out HC4.out HB10.out HXL.out ⟨by have := H1.out; omega, by have := H2.out; omega⟩ HES.out (fun k hk he => by have := Kd.R_lt HJ10.out.2.2 k he.symm; omega)).mono ?_
              intro e w11 hp
              rw [HJM.out.2] at hp
              obtain ⟨vm11, rfl, hsys, -⟩ := Sys.fin HD10.out HJ10.out HB10.out HM10.out hp
              have HY11 := Aside0.mk hsys
              refine ⟨_, rfl, ?_⟩
              refine hK.out _ _ ?_
              clear hK K hp hsys HD10 HJ10 HM10 HB10
              refine norm_ (a' := ?_) ?_ ?_
              rotate_left
              · show Act.put _ (some 115) _ = _
                simp only [Act.put, List.setIfInBounds_toArray, List.set_cons_zero, List.set_cons_succ, i64_w, i32_w]
                rfl
              generalize r8.getD 0 = rc
              refine pure_ (i := 6) (N := some 116) (v := ?_) (a' := ?_) #[true, true, true, true, true, true, true] rfl rfl (by kernel_rfl) (fun _ _ _ h => h) (Or.inl ⟨by rfl, ?_⟩) ?_ ?_
              rotate_left
              · intro w'
                go_simp
                with_reducible rfl
              rotate_left
              · simp only [Act.put, List.setIfInBounds_toArray, List.set_cons_zero, List.set_cons_succ, i64_w, i32_w]
                rfl
              refine done_ (by kernel_rfl) ?_
              go_wp2
              go_meet
              case rel => exact ⟨gj', rfl, ⟨_, _, _, _, _, _, HY11.out, HG8.out⟩⟩
            by_cases hr1 : r = 1
            · subst hr1
              go_wp2_with fail
              have hes : es1.length ≤ 100000 := by have h1 := HY7.out.1.2.2.2.1; have h2 := H2.out; have h3 := HGO.out.2.1; omega
              refine (jtear_calls f1 HY7.out.1 HY7.out.2.1 HM4.out HY7.out.2.2.2 HC4.out).mono ?_
              intro e w8 hp
              obtain ⟨vd8, vj8, rfl, hd8, hj8, hm8, hb8, -, hx8⟩ := HY7.out.mid hp
              have HD8 := Aside0.mk hd8
              have HJ8 := Aside0.mk hj8
              have HM8 := Aside0.mk hm8
              have HB8 := Aside0.mk hb8
              have HX8 := Aside0.mk (hx8 gb _ HX7.out)
              have HJM := Aside0.mk (jm_tear xs1 a0 down1 es1 ea eb em f1)
              have HG8 := Aside0.mk (good_tear HGO.out a0 down1 ea eb em f1)
              have HES := Aside0.mk hes
              have HXL := Aside0.mk (show xs1.length ≤ 100000 from by have h1 := HY7.out.1.2.2.2.1; have h2 := H2.out; omega)
              clear hp hd8 hj8 hm8 hb8 hx8 HY7 HX7 hes x0 x1 x2 x3 x4
              obtain ⟨⟨r8, xs8, down8⟩, h8⟩ : ∃ p, jTear xs1 a0 down1 ea eb em f1 = p := ⟨_, rfl⟩
              rw [h8] at HD8 HJM HG8 ⊢
              simp only at HD8 HJM HG8 ⊢
              clear h8
              go_wp2_with fail
              have bal : Below w8.heap.size w8 w8.drew := below_drew (Below.refl _ _)
              have HD9 := Aside0.mk (HD8.out.below2 bal)
              have HJ9 := Aside0.mk (HJ8.out.below bal)
              have HM9 := Aside0.mk (HM8.out.below bal)
              have HB9 := Aside0.mk (below_drew HB8.out)
              have HX9 := Aside0.mk (blk_below HX8.out bal)
              clear bal HD8 HJ8 HM8 HB8 HX8
              have SK := Aside0.mk (fun (w' : World) (hb : Below w8.drew.heap.size w8.drew w') => let hy := blk_below HX9.out hb; (⟨(blk_cell hy 1).trans rfl, (blk_cell hy 2).trans rfl, (blk_cell hy 3).trans rfl, (blk_cell hy 4).trans rfl⟩ : (fun w' => w'.cell? ⟨gb, 1, none⟩ = some (.int .i64 f1) ∧ w'.cell? ⟨gb, 2, none⟩ = some (.int .i64 ea) ∧ w'.cell? ⟨gb, 3, none⟩ = some (.int .i64 eb) ∧ w'.cell? ⟨gb, 4, none⟩ = some (.slice A4 em.length c4)) w'))
              refine start_ (n := 9) (S := fun w' => w'.cell? ⟨gb, 1, none⟩ = some (.int .i64 f1) ∧ w'.cell? ⟨gb, 2, none⟩ = some (.int .i64 ea) ∧ w'.cell? ⟨gb, 3, none⟩ = some (.int .i64 eb) ∧ w'.cell? ⟨gb, 4, none⟩ = some (.slice A4 em.length c4)) (ds := [7]) #[false, false, false, false, false, false, false, false, false] (by kernel_rfl) rfl rfl (SK.out _ (Below.refl _ _)) (fun hHeld => ?_)
              generalize w8.drew = w9 at HD9 HJ9 HM9 HB9 HX9 SK hHeld ⊢
              refine pure_ (i := 0) (N := some 125) (v := ?_) (a' := ?_) #[true, false, false, false, false, false, false, false, false] rfl rfl (by kernel_rfl) (fun _ _ _ h => h) (Or.inl ⟨by rfl, ?_⟩) ?_ ?_
              rotate_left
              · intro w'
                go_simp
                with_reducible rfl
              rotate_left
              · simp only [Act.put, List.setIfInBounds_toArray, List.set_cons_zero, List.set_cons_succ, i64_w, i32_w]
                rfl
              refine pure_ (i := 2) (N := some 127) (v := ?_) (a' := ?_) #[true, false, true, false, false, false, false, false, false] rfl rfl (by kernel_rfl) (fun _ _ _ h => h) (Or.inl ⟨by rfl, ?_⟩) ?_ ?_
              rotate_left
              · intro w'
                go_simp
                with_reducible rfl
              rotate_left
              · simp only [Act.put, List.setIfInBounds_toArray, List.set_cons_zero, List.set_cons_succ, i64_w, i32_w]
                rfl
              refine pure_ (i := 3) (N := some 128) (v := ?_) (a' := ?_) #[true, false, true, true, false, false, false, false, false] rfl rfl (by kernel_rfl) (fun _ _ _ h => h) (Or.inl ⟨by rfl, ?_⟩) ?_ ?_
              rotate_left
              · intro w'
                go_simp
                with_reducible rfl
              rotate_left
              · simp only [Act.put, List.setIfInBounds_toArray, List.set_cons_zero, List.set_cons_succ, i64_w, i32_w]
                rfl
              refine take_ (i := 4) (N := some 129) (v := ?_) (a' := ?_) #[true, false, true, true, true, false, false, false, false] rfl rfl (by kernel_rfl) (fun _ _ _ h => h) (Or.inl ⟨by rfl, ?_⟩) hHeld ?_ ?_
              rotate_left
              · intro w' hS
                obtain ⟨s3, s0, s1, s2⟩ := hS
                go_simp
                with_reducible rfl
              rotate_left
              · simp only [Act.put, List.setIfInBounds_toArray, List.set_cons_zero, List.set_cons_succ, i64_w, i32_w]
                rfl
              refine pure_ (i := 5) (N := some 130) (v := ?_) (a' := ?_) #[true, false, true, true, true, true, false, false, false] rfl rfl (by kernel_rfl) (fun _ _ _ h => h) (Or.inl ⟨by rfl, ?_⟩) ?_ ?_
              rotate_left
              · intro w'
                go_simp
                with_reducible rfl
              rotate_left
              · simp only [Act.put, List.setIfInBounds_toArray, List.set_cons_zero, List.set_cons_succ, i64_w, i32_w]
                rfl
              refine take_ (i := 6) (N := some 131) (v := ?_) (a' := ?_) #[true, false, true, true, true, true, true, false, false] rfl rfl (by kernel_rfl) (fun _ _ _ h => h) (Or.inl ⟨by rfl, ?_⟩) hHeld ?_ ?_
              rotate_left
              · intro w' hS
                obtain ⟨s3, s0, s1, s2⟩ := hS
                go_simp
                with_reducible rfl
              rotate_left
              · simp only [Act.put, List.setIfInBounds_toArray, List.set_cons_zero, List.set_cons_succ, i64_w, i32_w]
                rfl
              refine one_ (i := 1) (N := some 126) #[true, true, true, true, true, true, true, false, false] rfl rfl (by kernel_rfl) (by decide) (fun K hK => ?_)
              refine goes_ Try.func54 (by kernel_rfl) rfl #[errW r8] (by rfl) rfl rfl (by (try simp only [List.map_toArray, List.map_cons, List.map_nil]); first | done | rfl) ?_
              refine (code_calls _ r8 HJM.out.1).mono ?_
              rintro e w10 ⟨rfl, hb⟩
              have HD10 := Aside0.mk (HD9.out.below2 hb)
              have HJ10 := Aside0.mk (HJ9.out.below hb)
              have HM10 := Aside0.mk (HM9.out.below hb)
              have HB10 := Aside0.mk (HB9.out.trans (hb.mono HB9.out.size))
              refine ⟨_, rfl, ?_⟩
              refine hK.out _ _ (SK.out _ hb) (fun hHeld => ?_)
              clear hK K hb HD9 HJ9 HM9 HB9 HX9 SK
              refine norm_ (a' := ?_) ?_ ?_
              rotate_left
              · show Act.put _ (some 126) _ = _
                simp only [Act.put, List.setIfInBounds_toArray, List.set_cons_zero, List.set_cons_succ, i64_w, i32_w]
                rfl
              refine last_ (i := 7) (N := some 132) #[true, true, true, true, true, true, true, true, false] rfl rfl (by kernel_rfl) (by decide) (fun K hK => ?_)
              refine goes_ Try.func55 (by kernel_rfl) rfl #[.pointer (some ⟨gm, 0, none⟩), .agg #[.int .i64 ea, .int .i64 eb, .slice A4 em.length c4], .int .i64 f1, .bool true] (by rfl) rfl rfl (by (try simp only [List.map_toArray, List.map_cons, List.map_nil]); first | done | rfl) ?_
              refine (mapp_calls f1 true HM10.out HM4.out HC4.out HB10.out HXL.out ⟨by have := H1.out; omega, by have := H2.out; omega⟩ HES.out (fun k hk he => by have := Kd.R_lt HJ10.out.2.2 k he.symm; omega)).mono ?_
              intro e w11 hp
              rw [HJM.out.2] at hp
              obtain ⟨vm11, rfl, hsys, -⟩ := Sys.fin HD10.out HJ10.out HB10.out HM10.out hp
              have HY11 := Aside0.mk hsys
              refine ⟨_, rfl, ?_⟩
              refine hK.out _ _ ?_
              clear hK K hp hsys HD10 HJ10 HM10 HB10
              refine norm_ (a' := ?_) ?_ ?_
              rotate_left
              · show Act.put _ (some 132) _ = _
                simp only [Act.put, List.setIfInBounds_toArray, List.set_cons_zero, List.set_cons_succ, i64_w, i32_w]
                rfl
              generalize r8.getD 0 = rc
              refine pure_ (i := 8) (N := some 133) (v := ?_) (a' := ?_) #[true, true, true, true, true, true, true, true, true] rfl rfl (by kernel_rfl) (fun _ _ _ h => h) (Or.inl ⟨by rfl, ?_⟩) ?_ ?_
              rotate_left
              · intro w'
                go_simp
                with_reducible rfl
              rotate_left
              · simp only [Act.put, List.setIfInBounds_toArray, List.set_cons_zero, List.set_cons_succ, i64_w, i32_w]
                rfl
              refine done_ (by kernel_rfl) ?_
              go_wp2
              go_meet
              case rel => exact ⟨gj', rfl, ⟨_, _, _, _, _, _, HY11.out, HG8.out⟩⟩
            · go_wp2_with fail
              have hxl : xs1.length ≤ 100000 := by have h1 := HY7.out.1.2.2.2.1; have h2 := H2.out; omega
              have HXL := Aside0.mk hxl
              clear hxl
              refine (open_calls HY7.out.1 HGO.out.1).mono ?_
              rintro e w8 ⟨gj8, vj8, vd8, rfl, hd8, hj8, hb8, hk8, -⟩
              have HO8 := Aside0.mk (Sys.opened HY7.out.1 HY7.out.2.2.1 HY7.out.2.2.2 hd8 hj8 hb8 hk8)
              have HD8 := Aside0.mk hd8
              clear hd8 hj8 hb8 hk8 HY7 x0 x1 x2 x3 x4 HX7
              go_wp2_with fail
              refine (mopen_calls HO8.out.2.1 HGO.out.1 HXL.out).mono ?_
              rintro e w9 ⟨rfl, ⟨vm9, hm9⟩, hb9, hk9⟩
              have HY9 := Aside0.mk (Sys.opened2 HD8.out HO8.out.1 HO8.out.2.2 HO8.out.2.1 hm9 hb9 hk9)
              have HG9 := Aside0.mk (good_open HGO.out.1)
              clear hm9 hb9 hk9 HO8 HD8 HGO
              go_wp2
              go_meet
              case rel => exact ⟨gj8, rfl, ⟨_, _, _, _, _, _, HY9.out, HG9.out⟩⟩
          case rest =>
            obtain ⟨gj2, rfl, HS2⟩ := hcut
            obtain ⟨xs2, down2, es2, vd2, vj2, vm2, hsys, hgood⟩ := HS2.out
            have HY8 := Aside0.mk hsys
            have HG8 := Aside0.mk hgood
            clear hsys hgood HS2 HY7 HX7 x0 x1 x2 x3 x4 HGO HM4 HC4 HML
            obtain ⟨Am, cm, rfl⟩ := Kd.R_slice HY8.out.2.2.1.2.2
            have HSZ := Aside0.mk (show xs2.length ≤ 5000 from by have h1 := HY8.out.1.2.2.2.1; have h2 := H2.out; omega)
            obtain ⟨X, hX⟩ : ∃ X, strOfNums xs2 = X := ⟨_, rfl⟩
            have HXS2 := Aside0.mk hX
            go_wp2_with fail
            have HY9 := Aside0.mk (HY8.out.below (below_drew (Below.refl _ _)))
            clear HY8
            have SK := Aside0.mk (fun (w' : World) (hb : Below wc.drew.heap.size wc.drew w') => let z := cellM4 (HY9.out.2.2.1.below hb).1; (⟨by rw [← hX]; exact z.1, z.2.2.2.1⟩ : (fun w' => w'.cell? ⟨gm, 0, none⟩ = some (.string X) ∧ w'.cell? ⟨gm, 3, none⟩ = some (.slice Am es2.length cm)) w'))
            refine start_ (n := 18) (S := fun w' => w'.cell? ⟨gm, 0, none⟩ = some (.string X) ∧ w'.cell? ⟨gm, 3, none⟩ = some (.slice Am es2.length cm)) (ds := []) #[false, false, false, false, false, false, false, false, false, false, false, false, false, false, false, false, false, false] (by kernel_rfl) rfl rfl (SK.out _ (Below.refl _ _)) (fun hHeld => ?_)
            clear hX
            have HBX := Aside0.mk (Below.refl wc.drew.heap.size wc.drew)
            generalize wc.drew = w9 at HY9 SK HBX hHeld ⊢
            refine pure_ (i := 0) (N := some 134) (v := ?_) (a' := ?_) #[true, false, false, false, false, false, false, false, false, false, false, false, false, false, false, false, false, false] rfl rfl (by kernel_rfl) (fun _ _ _ h => h) (Or.inl ⟨by rfl, ?_⟩) ?_ ?_
            rotate_left
            · intro w'
              go_simp
              with_reducible rfl
            rotate_left
            · simp only [Act.put, List.setIfInBounds_toArray, List.set_cons_zero, List.set_cons_succ, i64_w, i32_w]
              rfl
            refine pure_ (i := 3) (N := some 137) (v := ?_) (a' := ?_) #[true, false, false, true, false, false, false, false, false, false, false, false, false, false, false, false, false, false] rfl rfl (by kernel_rfl) (fun _ _ _ h => h) (Or.inl ⟨by rfl, ?_⟩) ?_ ?_
            rotate_left
            · intro w'
              go_simp
              with_reducible rfl
            rotate_left
            · simp only [Act.put, List.setIfInBounds_toArray, List.set_cons_zero, List.set_cons_succ, i64_w, i32_w]
              rfl
            refine pure_ (i := 4) (N := some 138) (v := ?_) (a' := ?_) #[true, false, false, true, true, false, false, false, false, false, false, false, false, false, false, false, false, false] rfl rfl (by kernel_rfl) (fun _ _ _ h => h) (Or.inl ⟨by rfl, ?_⟩) ?_ ?_
            rotate_left
            · intro w'
              go_simp
              with_reducible rfl
            rotate_left
            · simp only [Act.put, List.setIfInBounds_toArray, List.set_cons_zero, List.set_cons_succ, i64_w, i32_w]
              rfl
            refine pure_ (i := 5) (N := some 139) (v := ?_) (a' := ?_) #[true, false, false, true, true, true, false, false, false, false, false, false, false, false, false, false, false, false] rfl rfl (by kernel_rfl) (fun _ _ _ h => h) (Or.inl ⟨by rfl, ?_⟩) ?_ ?_
            rotate_left
            · intro w'
              go_simp
              with_reducible rfl
            rotate_left
            · simp only [Act.put, List.setIfInBounds_toArray, List.set_cons_zero, List.set_cons_succ, i64_w, i32_w]
              rfl
            refine take_ (i := 6) (N := some 140) (v := ?_) (a' := ?_) #[true, false, false, true, true, true, true, false, false, false, false, false, false, false, false, false, false, false] rfl rfl (by kernel_rfl) (fun _ _ _ h => h) (Or.inl ⟨by rfl, ?_⟩) hHeld ?_ ?_
            rotate_left
            · intro w' hS
              obtain ⟨s0, s1⟩ := hS
              go_simp
              with_reducible rfl
            rotate_left
            · simp only [Act.put, List.setIfInBounds_toArray, List.set_cons_zero, List.set_cons_succ, i64_w, i32_w]
              rfl
            refine one_ (i := 1) (N := some 135) #[true, true, false, true, true, true, true, false, false, false, false, false, false, false, false, false, false, false] rfl rfl (by kernel_rfl) (by decide) (fun K hK => ?_)
            refine goes_ Try.func37 (by kernel_rfl) rfl #[.pointer (some ⟨gd, 0, none⟩)] (by rfl) rfl rfl (by (try simp only [List.map_toArray, List.map_cons, List.map_nil]); first | done | rfl) ?_
            refine (disk_bytes HY9.out.1).mono ?_
            rintro e w10 ⟨v10, rfl, hr10, hb⟩
            obtain ⟨A10, c10, rfl⟩ := Kd.R_slice hr10
            have HC10 := Aside0.mk (Kd.R_reads' hr10).2.2
            have HY10 := Aside0.mk (HY9.out.below hb)
            have HBN := Aside0.mk (HBX.out.trans (hb.mono HBX.out.size))
            refine ⟨_, rfl, ?_⟩
            refine hK.out _ _ (SK.out _ HBN.out) (fun hHeld => ?_)
            clear hK K HBX hb hr10 HY9
            have HBX := HBN
            clear HBN
            refine norm_ (a' := ?_) ?_ ?_
            rotate_left
            · show Act.put _ (some 135) _ = _
              simp only [Act.put, List.setIfInBounds_toArray, List.set_cons_zero, List.set_cons_succ, i64_w, i32_w]
              rfl
            refine one_ (i := 2) (N := some 136) #[true, true, true, true, true, true, true, false, false, false, false, false, false, false, false, false, false, false] rfl rfl (by kernel_rfl) (by decide) (fun K hK => ?_)
            have kc := Kd.C_string (P := Try.prog) Try.underlying46 Try.underlying5 Try.underlying9 HC10.out (c := c10)
            rw [HXS2.out] at kc
            refine value_ (w1 := w10) (v := .string X) (by rfl) rfl (by go_simp) ?_
            refine hK.out _ _ (SK.out _ HBX.out) (fun hHeld => ?_)
            clear hK K kc
            refine norm_ (a' := ?_) ?_ ?_
            rotate_left
            · show Act.put _ (some 136) _ = _
              simp only [Act.put, List.setIfInBounds_toArray, List.set_cons_zero, List.set_cons_succ, i64_w, i32_w]
              rfl
            refine pure_ (i := 7) (N := some 141) (v := ?_) (a' := ?_) #[true, true, true, true, true, true, true, true, false, false, false, false, false, false, false, false, false, false] rfl rfl (by kernel_rfl) (fun _ _ _ h => h) (Or.inl ⟨by rfl, ?_⟩) ?_ ?_
            rotate_left
            · intro w'
              go_simp
              with_reducible rfl
            rotate_left
            · simp only [Act.put, List.setIfInBounds_toArray, List.set_cons_zero, List.set_cons_succ, i64_w, i32_w]
              rfl
            refine pure_ (i := 8) (N := some 142) (v := ?_) (a' := ?_) #[true, true, true, true, true, true, true, true, true, false, false, false, false, false, false, false, false, false] rfl rfl (by kernel_rfl) (fun _ _ _ h => h) (Or.inl ⟨by rfl, ?_⟩) ?_ ?_
            rotate_left
            · intro w'
              go_simp
              with_reducible rfl
            rotate_left
            · simp only [Act.put, List.setIfInBounds_toArray, List.set_cons_zero, List.set_cons_succ, i64_w, i32_w]
              rfl
            refine pure_ (i := 9) (N := some 143) (v := ?_) (a' := ?_) #[true, true, true, true, true, true, true, true, true, true, false, false, false, false, false, false, false, false] rfl rfl (by kernel_rfl) (fun _ _ _ h => h) (Or.inl ⟨by rfl, ?_⟩) ?_ ?_
            rotate_left
            · intro w'
              go_simp
              with_reducible rfl
            rotate_left
            · simp only [Act.put, List.setIfInBounds_toArray, List.set_cons_zero, List.set_cons_succ, i64_w, i32_w]
              rfl
            refine pure_ (i := 11) (N := some 145) (v := ?_) (a' := ?_) #[true, true, true, true, true, true, true, true, true, true, false, true, false, false, false, false, false, false] rfl rfl (by kernel_rfl) (fun _ _ _ h => h) (Or.inl ⟨by rfl, ?_⟩) ?_ ?_
            rotate_left
            · intro w'
              go_simp
              with_reducible rfl
            rotate_left
            · simp only [Act.put, List.setIfInBounds_toArray, List.set_cons_zero, List.set_cons_succ, i64_w, i32_w]
              rfl
            refine pure_ (i := 12) (N := some 146) (v := ?_) (a' := ?_) #[true, true, true, true, true, true, true, true, true, true, false, true, true, false, false, false, false, false] rfl rfl (by kernel_rfl) (fun _ _ _ h => h) (Or.inl ⟨by rfl, ?_⟩) ?_ ?_
            rotate_left
            · intro w'
              go_simp
              with_reducible rfl
            rotate_left
            · simp only [Act.put, List.setIfInBounds_toArray, List.set_cons_zero, List.set_cons_succ, i64_w, i32_w]
              rfl
            refine pure_ (i := 13) (N := some 147) (v := ?_) (a' := ?_) #[true, true, true, true, true, true, true, true, true, true, false, true, true, true, false, false, false, false] rfl rfl (by kernel_rfl) (fun _ _ _ h => h) (Or.inl ⟨by rfl, ?_⟩) ?_ ?_
            rotate_left
            · intro w'
              go_simp
              with_reducible rfl
            rotate_left
            · simp only [Act.put, List.setIfInBounds_toArray, List.set_cons_zero, List.set_cons_succ, i64_w, i32_w]
              rfl
            refine take_ (i := 14) (N := some 148) (v := ?_) (a' := ?_) #[true, true, true, true, true, true, true, true, true, true, false, true, true, true, true, false, false, false] rfl rfl (by kernel_rfl) (fun _ _ _ h => h) (Or.inl ⟨by rfl, ?_⟩) hHeld ?_ ?_
            rotate_left
            · intro w' hS
              obtain ⟨s0, s1⟩ := hS
              go_simp
              with_reducible rfl
            rotate_left
            · simp only [Act.put, List.setIfInBounds_toArray, List.set_cons_zero, List.set_cons_succ, i64_w, i32_w]
              rfl
            refine one_ (i := 10) (N := some 144) #[true, true, true, true, true, true, true, true, true, true, true, true, true, true, true, false, false, false] rfl rfl (by kernel_rfl) (by decide) (fun K hK => ?_)
            refine goes_ Try.func58 (by kernel_rfl) rfl #[.pointer (some ⟨gj2, 0, none⟩)] (by rfl) rfl rfl (by (try simp only [List.map_toArray, List.map_cons, List.map_nil]); first | done | rfl) ?_
            refine (entries_calls HY10.out.2.1 (by have h1 := HG8.out.2.1; have h2 := HSZ.out; omega) (fun e he => by have h1 := HG8.out.2.2 e he; omega)).mono ?_
            rintro e w11 ⟨A11, c11, rfl, hc11, hC11, hb⟩
            have HC11 := Aside0.mk hC11
            have HL11 := Aside0.mk hc11
            have HY11 := Aside0.mk (HY10.out.below hb)
            have HBN := Aside0.mk (HBX.out.trans (hb.mono HBX.out.size))
            refine ⟨_, rfl, ?_⟩
            refine hK.out _ _ (SK.out _ HBN.out) (fun hHeld => ?_)
            clear hK K HBX hb hc11 hC11 HY10 HC10
            have HBX := HBN
            clear HBN
            refine norm_ (a' := ?_) ?_ ?_
            rotate_left
            · show Act.put _ (some 144) _ = _
              simp only [Act.put, List.setIfInBounds_toArray, List.set_cons_zero, List.set_cons_succ, i64_w, i32_w]
              rfl
            refine one_ (i := 15) (N := some 149) #[true, true, true, true, true, true, true, true, true, true, true, true, true, true, true, true, false, false] rfl rfl (by kernel_rfl) (by decide) (fun K hK => ?_)
            refine goes_ Try.func57 (by kernel_rfl) rfl #[.slice A11 es2.length c11, .slice Am es2.length cm] (by rfl) rfl rfl (by (try simp only [List.map_toArray, List.map_cons, List.map_nil]); first | done | rfl) ?_
            have hrm := Kd.R_reads' HY11.out.2.2.1.2.2
            refine (same_calls HC11.out HL11.out (kor_C hrm.2.2 HY11.out.2.2.2) hrm.2.1 (by have h1 := HG8.out.2.1; have h2 := HSZ.out; omega) (fun e he => by have h1 := HG8.out.2.2 e he; omega)).mono ?_
            rintro e w12 ⟨rfl, hb⟩
            have HY12 := Aside0.mk (HY11.out.below hb)
            have HBN := Aside0.mk (HBX.out.trans (hb.mono HBX.out.size))
            refine ⟨_, rfl, ?_⟩
            refine hK.out _ _ (SK.out _ HBN.out) (fun hHeld => ?_)
            clear hK K HBX hb hrm HC11 HL11 HY11 SK
            have HBX := HBN
            clear HBN
            refine norm_ (a' := ?_) ?_ ?_
            rotate_left
            · show Act.put _ (some 149) _ = _
              simp only [Act.put, List.setIfInBounds_toArray, List.set_cons_zero, List.set_cons_succ, i64_w, i32_w]
              rfl
            refine pure_ (i := 16) (N := some 150) (v := ?_) (a' := ?_) #[true, true, true, true, true, true, true, true, true, true, true, true, true, true, true, true, true, false] rfl rfl (by kernel_rfl) (fun _ _ _ h => h) (Or.inl ⟨by rfl, ?_⟩) ?_ ?_
            rotate_left
            · intro w'
              go_simp
              with_reducible rfl
            rotate_left
            · simp only [Act.put, List.setIfInBounds_toArray, List.set_cons_zero, List.set_cons_succ, i64_w, i32_w]
              rfl
            refine pure_ (i := 17) (N := some 151) (v := ?_) (a' := ?_) #[true, true, true, true, true, true, true, true, true, true, true, true, true, true, true, true, true, true] rfl rfl (by kernel_rfl) (fun _ _ _ h => h) (Or.inl ⟨by rfl, ?_⟩) ?_ ?_
            rotate_left
            · intro w'
              go_simp
              with_reducible rfl
            rotate_left
            · simp only [Act.put, List.setIfInBounds_toArray, List.set_cons_zero, List.set_cons_succ, i64_w, i32_w]
              rfl
            refine done_ (by kernel_rfl) ?_
            go_wp2
            go_roundw
            case measure =>
              have hlt := HLT.out
              have h4 := H4.out
              rw [w64_next i l2.length (by omega) (by omega)]
              simp [intOf]; omega
            case rel => exact ⟨i + 1, gj2, by rw [w64_next i l2.length (by have hlt := HLT.out; omega) (by have h4 := H4.out; omega)], rfl, by have hlt := HLT.out; omega, ⟨_, _, _, _, _, _, HY12.out, HG8.out⟩⟩
end Go.Proofs.Ytppfkbigeknedaa.Q
