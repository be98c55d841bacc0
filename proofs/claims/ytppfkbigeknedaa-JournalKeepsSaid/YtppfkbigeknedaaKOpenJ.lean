/- journal.Open, by hand. -/
import Derived.Test.YtppfkbigeknedaaKFirst
import Derived.Test.YtppfkbigeknedaaKDD
namespace Go.Proofs.Ytppfkbigeknedaa.Q
open Go.RowKit Go.Proofs.YtppfkbigeknedaaW.PrintWords Go.Proofs.YtppfkbigeknedaaW.PrintLast Go.Proofs.YtppfkbigeknedaaW.PrintMore
set_option linter.unusedVariables false
set_option linter.unusedSimpArgs false
set_option maxRecDepth 100000
attribute [local go_sem] eqe_ii eqe_nn eqe_ni eqe_nni
def IsJ (base gj : Nat) (W : World) (gd : Nat) (es : List S60) (v : Value) : Prop :=
  W.heap[gj]? = some (.cells #[.pointer (some ⟨gd, 0, none⟩), v] 140 (0, 0)) ∧ base ≤ gj ∧ k60.R 60 W base (fun _ => True) v es
theorem cellJ {W : World} {gj gd : Nat} {v : Value} (hb : W.heap[gj]? = some (.cells #[.pointer (some ⟨gd, 0, none⟩), v] 140 (0, 0))) : W.cell? ⟨gj, 0, none⟩ = some (.pointer (some ⟨gd, 0, none⟩)) ∧ W.cell? ⟨gj, 1, none⟩ = some v ∧ W.frozen? ⟨gj, 1, none⟩ = false :=
  ⟨(blk_cell hb 0).trans rfl, (blk_cell hb 1).trans rfl, blk_frozen hb 1⟩
theorem IsJ.below {base gj gd : Nat} {W W1 : World} {es : List S60} {v : Value} (h : IsJ base gj W gd es v) (hb : Below W.heap.size W W1) : IsJ base gj W1 gd es v :=
  ⟨blk_below h.1 hb, h.2.1, Kd.R_below h.2.2 hb⟩
theorem IsD.below2 {base g : Nat} {W W1 : World} {xs : List Int} {room : Int} {down : Bool} {v : Value} (h : IsD base g W xs room down v) (hb : Below W.heap.size W W1) : IsD base g W1 xs room down v :=
  ⟨blk_below h.1 hb, h.2.1, Kd.R_below h.2.2.1 hb, h.2.2.2⟩
theorem readAll_step (b : List Int) (f : Nat) (e : S60) (n : Nat) (h : fRes b = (e, n)) (hn : n ≠ 0) : readF (f + 1) b = (e :: (readF f (b.drop n)).1, n + (readF f (b.drop n)).2) ∧ firstL b = some (e, n) := by
  have h2 : firstL b = some (e, n) := by
    unfold fRes at h
    cases hf : firstL b with
    | none => rw [hf] at h; simp at h; exact absurd h.2.symm hn
    | some p => rw [hf] at h; simp at h; rw [h]
  refine ⟨?_, h2⟩
  simp only [readF, h2]
theorem readAll_stop (b : List Int) (hb : Bytes b) (f : Nat) (h : (fRes b).2 = 0) : readF f b = ([], 0) := by
  have h2 : firstL b = none := by
    unfold fRes at h
    cases hf : firstL b with
    | none => rfl
    | some p => rw [hf] at h; have := first_bounds b hb p.1 p.2 hf; simp at h; omega
  cases f with
  | zero => rfl
  | succ f => simp only [readF, h2]
set_option maxHeartbeats 1600000 in
theorem open_calls {base gd : Nat} {W : World} {xs : List Int} {room : Int} {down : Bool} {v : Value} (h : IsD base gd W xs room down v) (hby : Bytes xs) :
    Calls Try.prog 50 #[.pointer (some ⟨gd, 0, none⟩)] W fun e w' => ∃ gj vj v', e = .returned (.tuple #[.pointer (some ⟨gj, 0, none⟩), .nilIface]) ∧ IsD base gd w' (xs.take (readAll xs).2) room false v' ∧ IsJ W.heap.size gj w' gd (readAll xs).1 vj ∧
      Below base W w' ∧ Kept W w' (fun k => k = gd) ∧ v'.ownBlock = v.ownBlock := by
  have HU := Aside0.mk (disk_up h)
  have HD0 := Aside0.mk h
  have HBY := Aside0.mk hby
  have hgl := blk_lt h.1
  have HGL := Aside0.mk hgl
  have hxl : xs.length ≤ 65536 := by have := h.2.2.2.1; have := h.2.2.2.2.2; omega
  have HXL := Aside0.mk hxl
  clear h hby hgl hxl
  go_enter Try.func50, Try.ntmps50
  go_wp2_with fail
  refine HU.out.mono ?_
  rintro e w1 ⟨rfl, hd1, hb1, hk1⟩
  have HD1 := Aside0.mk hd1
  have HB1 := Aside0.mk hb1
  have HK1 := Aside0.mk hk1
  clear hd1 hb1 hk1 HU HD0
  go_wp2_with (first | ((with_reducible refine gate_dst (N := 17) rfl ?_); refine box_event ?hg (N := 17) ?hd (cs := #[.pointer (some ⟨gd, 0, none⟩), .slice none 0 0]) (t := 140) ?hr ?_; (case hd => rfl); (case hg => rfl); (case hr => first | (go_simp; done) | (go_simp; rfl)); intro gj hg w2 hbox hb; have HG := Aside0.mk hg; have HBX := Aside0.mk hbox; have HB2 := Aside0.mk hb; clear hg hbox hb))
  have HD2 := Aside0.mk (HD1.out.below2 HB2.out)
  have HJ2 := Aside0.mk (show IsJ W.heap.size gj w2 gd [] (.slice none 0 0) from ⟨HBX.out, by rw [HG.out]; exact HK1.out.1, Kd.R_nil _ _ _ _ _⟩)
  have HK2 := Aside0.mk (HK1.out.below HB2.out)
  have HBb := Aside0.mk (HB1.out.trans (HB2.out.mono (Nat.le_trans HD1.out.2.1 (Nat.le_of_lt (blk_lt HD1.out.1)))))
  clear HB1 HK1 HB2 HBX HD1
  refine (disk_bytes HD2.out).mono ?_
  rintro e w3 ⟨v3, rfl, hr3, hb3⟩
  obtain ⟨A3, c3, rfl⟩ := Kd.R_slice hr3
  have HR3 := Aside0.mk hr3
  have HD3 := Aside0.mk (HD2.out.below2 hb3)
  have HJ3 := Aside0.mk (HJ2.out.below hb3)
  have HK3 := Aside0.mk (HK2.out.below hb3)
  have HB3 := Aside0.mk (HBb.out.trans (hb3.mono (Nat.le_trans HD2.out.2.1 (Nat.le_of_lt (blk_lt HD2.out.1)))))
  have HS2 := Aside0.mk (show W.heap.size ≤ w2.heap.size from HK2.out.1)
  have HS3 := Aside0.mk (show W.heap.size ≤ w3.heap.size from HK3.out.1)
  clear hr3 hb3 HD2 HJ2 HK2 HBb
  go_wp2
  go_loopw [6] (fun v6 w' => ∃ (a f : Nat) (acc : List S60) (vj : Value), v6 = .int .i64 (a : Int) ∧ a ≤ xs.length ∧ Aside0 (xs.length - a ≤ f) ∧ Aside0 (acc.length ≤ a) ∧ Aside0 (readAll xs = (acc ++ (readF f (xs.drop a)).1, a + (readF f (xs.drop a)).2)) ∧
    Aside0 (IsD base gd w' xs room false v) ∧ Aside0 (IsJ W.heap.size gj w' gd acc vj) ∧ Aside0 (Kd.R (Kd.int .u8) 5 w' W.heap.size (fun _ => True) (.slice A3 xs.length c3) xs) ∧ Aside0 (Below base W w') ∧ Aside0 (Kept W w' (fun k => k = gd))) (fun v6 _ => xs.length - (intOf v6).toNat)
  case atStart => exact ⟨0, xs.length, [], _, rfl, Nat.zero_le _, ⟨Nat.sub_le _ _⟩, ⟨Nat.le_refl _⟩, ⟨by simp [readAll]⟩, HD3, HJ3, ⟨Kd.R_lower HR3.out HS2.out⟩, HB3, HK3⟩
  case round =>
    have HCC := Aside0.mk (Kd.R_reads' HR3.out).2.1
    clear HR3 HD3 HJ3 HB3 HK3
    obtain ⟨a, f, acc, vj, rfl, ha, HF, HAC, HRA, HD, HJ, HC, HB, HK⟩ := hrel
    obtain ⟨Aj, cj, rfl⟩ := Kd.R_slice HJ.out.2.2
    obtain ⟨A', hcut, hcl, hcC⟩ := cut_u8 A3 c3 xs a ha HCC.out
    have hdl : (xs.drop a).length = xs.length - a := List.length_drop
    have hby := HBY.out.drop a
    obtain ⟨b2, hb2⟩ : ∃ b2, xs.drop a = b2 := ⟨_, rfl⟩
    have hra := HRA.out
    rw [hb2] at hcut hcl hcC hdl hby hra
    have HB2 := Aside0.mk hb2
    have HCALL := Aside0.mk (fun (w' : World) (hw : Kd.C (Kd.int .u8) w' A3 xs.length xs) => first_calls (c := c3 - a) (hcC w' hw) hcl hby (by rw [hdl]; have := HXL.out; omega))
    have HBY2 := Aside0.mk hby
    have HDL := Aside0.mk hdl
    have HRA2 := Aside0.mk hra
    clear hcl hcC hdl hby hb2 hra HRA
    obtain ⟨fr, hfr⟩ : ∃ fr, fRes b2 = fr := ⟨_, rfl⟩
    rw [hfr] at HCALL
    have HFR := Aside0.mk hfr
    clear hfr
    obtain ⟨fe, fn⟩ := fr
    go_wp2_with fail
    refine (HCALL.out _ (Kd.R_reads' HC.out).2.2).mono ?_
    rintro e w4 ⟨v4, rfl, hv4, hb4⟩
    obtain ⟨A4, c4, rfl⟩ := Kd.R_slice hv4
    simp only at hv4 ⊢
    have hws : W.heap.size ≤ wr.heap.size := HK.out.1
    have HV4 := Aside0.mk (Kd.R_lower (base' := W.heap.size) hv4 hws)
    have hbs : base ≤ wr.heap.size := Nat.le_trans HD.out.2.1 (Nat.le_of_lt (blk_lt HD.out.1))
    have HD4 := Aside0.mk (HD.out.below2 hb4)
    have HJ4 := Aside0.mk (HJ.out.below hb4)
    have HC4 := Aside0.mk (Kd.R_below HC.out hb4)
    have HB4 := Aside0.mk (HB.out.trans (hb4.mono hbs))
    have HK4 := Aside0.mk (HK.out.below hb4)
    clear hv4 hb4 HCALL HD HJ HC HB HK hws hbs
    by_cases h0 : fn = 0
    · have hra := HRA2.out
      rw [readAll_stop b2 HBY2.out f (by rw [HFR.out]; exact h0), List.append_nil, Nat.add_zero] at hra
      have HRA3 := Aside0.mk hra
      have hfn : ((fn : Int) == 0) = true := by rw [h0]; rfl
      have HD5 := Aside0.mk (HD4.out.below2 (below_alloc (Below.refl _ _) (.cells #[.int .i64 fe.f0, .int .i64 fe.f1, .slice A4 fe.f2.length c4] 60)))
      have HJ5 := Aside0.mk (HJ4.out.below (below_alloc (Below.refl _ _) (.cells #[.int .i64 fe.f0, .int .i64 fe.f1, .slice A4 fe.f2.length c4] 60)))
      have hbs : base ≤ w4.heap.size := Nat.le_trans HD4.out.2.1 (Nat.le_of_lt (blk_lt HD4.out.1))
      have HB5 := Aside0.mk (HB4.out.trans ((below_alloc (Below.refl w4.heap.size w4) (.cells #[.int .i64 fe.f0, .int .i64 fe.f1, .slice A4 fe.f2.length c4] 60)).mono hbs))
      have HK5 := Aside0.mk (HK4.out.below (below_alloc (Below.refl w4.heap.size w4) (.cells #[.int .i64 fe.f0, .int .i64 fe.f1, .slice A4 fe.f2.length c4] 60)))
      clear hra hbs HD4 HJ4 HC4 HB4 HK4 HV4 HRA2
      go_wp2_with fail
      refine (disk_trim HD5.out a ha).mono ?_
      rintro e w6 ⟨v6, rfl, hd6, hb6, hk6, ho6⟩
      have hneJ : gj ≠ gd := fun e => by
        have h1 := HJ5.out.1
        have h2 := HD5.out.1
        rw [e, h2] at h1
        simp at h1
      have HJ6 := Aside0.mk (show IsJ W.heap.size gj w6 gd acc (.slice Aj acc.length cj) from ⟨blk_kept HJ5.out.1 hk6 hneJ, HJ5.out.2.1, Kd.R_mono (Kd.R_kept (Kd.R_types HJ5.out.2.2 HD5.out.1 (by decide)) hk6 (fun k hk => hk.2)) (fun _ _ => trivial)⟩)
      have HD6 := Aside0.mk hd6
      have HB6 := Aside0.mk (HB5.out.trans hb6)
      have HK6 := Aside0.mk (HK5.out.then_ hk6 (fun k hk => Or.inl hk))
      have HO6 := Aside0.mk ho6
      clear hd6 hb6 hk6 ho6 HD5 HJ5 HB5 HK5
      go_wp2
      go_ret2
      rw [HRA3.out]
      exact ⟨gj, _, v6, rfl, HD6.out, HJ6.out, HB6.out, HK6.out, HO6.out⟩
    · have hfn : ((fn : Int) == 0) = false := beq_eq_false_iff_ne.mpr (by omega)
      have hf1 : ∃ f', f = f' + 1 := by
        refine ⟨f - 1, ?_⟩
        cases f with
        | zero =>
          have h1 := HF.out
          have h2 := HDL.out
          have h3 : b2 = [] := List.eq_nil_of_length_eq_zero (by omega)
          have h4 := HFR.out
          rw [h3] at h4
          simp [fRes, firstL, oneG] at h4
          omega
        | succ f => rfl
      obtain ⟨f', rfl⟩ := hf1
      have hst := readAll_step b2 f' fe fn HFR.out h0
      have hfb := first_bounds b2 HBY2.out fe fn hst.2
      have hra := HRA2.out
      rw [hst.1, ← HB2.out, List.drop_drop] at hra
      have HRA3 := Aside0.mk (show readAll xs = ((acc ++ [fe]) ++ (readF f' (xs.drop (a + fn))).1, (a + fn) + (readF f' (xs.drop (a + fn))).2) by rw [hra]; simp [Nat.add_assoc])
      have hdl := HDL.out
      have hA2 : a + fn ≤ xs.length := by omega
      have HF2 := Aside0.mk (show xs.length - (a + fn) ≤ f' by have := HF.out; omega)
      have HAC2 := Aside0.mk (show (acc ++ [fe]).length ≤ a + fn by have := HAC.out; simp; omega)
      have HAL := Aside0.mk (show (acc.length + 1) * 40 ≤ 140737488355328 by have := HAC.out; have := HXL.out; omega)
      have hwa : wrap64 ((a : Int) + (fn : Int)) = ((a + fn : Nat) : Int) := wA a fn (by have := HXL.out; omega)
      have h1n : 1 ≤ fn := hfb.1
      clear hst hfb hra hdl HRA2 HFR HB2
      go_wp2_with fail
      have HV5 := Aside0.mk (Kd.R_drew (Kd.R_alloc HV4.out (.cells #[.int .i64 fe.f0, .int .i64 fe.f1, .slice A4 fe.f2.length c4] 60)))
      have bal : Below w4.heap.size w4 (w4.alloc (.cells #[.int .i64 fe.f0, .int .i64 fe.f1, .slice A4 fe.f2.length c4] 60)).drew := below_drew (below_alloc (Below.refl _ _) _)
      have HY5 := Aside0.mk (show (w4.alloc (.cells #[.int .i64 fe.f0, .int .i64 fe.f1, .slice A4 fe.f2.length c4] 60)).drew.heap[w4.heap.size]? = some (.cells #[.int .i64 fe.f0, .int .i64 fe.f1, .slice A4 fe.f2.length c4] 60 (0, 0)) from cell60 w4 fe.f0 fe.f1 _)
      have HD5 := Aside0.mk (HD4.out.below2 bal)
      have HJ5 := Aside0.mk (HJ4.out.below bal)
      have HC5 := Aside0.mk (Kd.R_below HC4.out bal)
      have HLT := Aside0.mk (Kd.R_lt HJ4.out.2.2)
      have hbs : base ≤ w4.heap.size := Nat.le_trans HD4.out.2.1 (Nat.le_of_lt (blk_lt HD4.out.1))
      have HB5 := Aside0.mk (HB4.out.trans (bal.mono hbs))
      have HK5 := Aside0.mk (HK4.out.below bal)
      clear bal hbs HV4 HD4 HJ4 HC4 HB4 HK4
      have hS0 := cellJ HJ5.out.1
      have hS1 := And.intro ((blk_cell HY5.out 0).trans (rfl : _ = some (Value.int .i64 fe.f0))) (And.intro ((blk_cell HY5.out 1).trans (rfl : _ = some (Value.int .i64 fe.f1))) ((blk_cell HY5.out 2).trans (rfl : _ = some (Value.slice A4 fe.f2.length c4))))
      refine start_ (n := 15) (S := fun w' => w'.cell? ⟨gj, 1, none⟩ = some (.slice Aj acc.length cj) ∧ w'.cell? ⟨w4.heap.size, 0, none⟩ = some (.int .i64 fe.f0) ∧ w'.cell? ⟨w4.heap.size, 1, none⟩ = some (.int .i64 fe.f1) ∧ w'.cell? ⟨w4.heap.size, 2, none⟩ = some (.slice A4 fe.f2.length c4)) (ds := [13]) #[false, false, false, false, false, false, false, false, false, false, false, false, false, false, false] (by kernel_rfl) rfl rfl ⟨hS0.2.1, hS1⟩ (fun hHeld => ?_)
      clear hS0 hS1
      generalize (w4.alloc (.cells #[.int .i64 fe.f0, .int .i64 fe.f1, .slice A4 fe.f2.length c4] 60)).drew = w5 at HV5 HY5 HD5 HJ5 HC5 HB5 HK5 hHeld ⊢
      generalize w4.heap.size = ge at HY5 hHeld HLT ⊢
      refine pure_ (i := 0) (N := some 29) (v := ?_) (a' := ?_) #[true, false, false, false, false, false, false, false, false, false, false, false, false, false, false] rfl rfl (by kernel_rfl) (fun _ _ _ h => h) (Or.inl ⟨by rfl, ?_⟩) ?_ ?_
      rotate_left
      · intro w'
        go_simp
        with_reducible rfl
      rotate_left
      · simp only [Act.put, List.setIfInBounds_toArray, List.set_cons_zero, List.set_cons_succ, i64_w, i32_w]
        rfl
      refine pure_ (i := 1) (N := some 30) (v := ?_) (a' := ?_) #[true, true, false, false, false, false, false, false, false, false, false, false, false, false, false] rfl rfl (by kernel_rfl) (fun _ _ _ h => h) (Or.inl ⟨by rfl, ?_⟩) ?_ ?_
      rotate_left
      · intro w'
        go_simp
        with_reducible rfl
      rotate_left
      · simp only [Act.put, List.setIfInBounds_toArray, List.set_cons_zero, List.set_cons_succ, i64_w, i32_w]
        rfl
      refine pure_ (i := 2) (N := some 31) (v := ?_) (a' := ?_) #[true, true, true, false, false, false, false, false, false, false, false, false, false, false, false] rfl rfl (by kernel_rfl) (fun _ _ _ h => h) (Or.inl ⟨by rfl, ?_⟩) ?_ ?_
      rotate_left
      · intro w'
        go_simp
        with_reducible rfl
      rotate_left
      · simp only [Act.put, List.setIfInBounds_toArray, List.set_cons_zero, List.set_cons_succ, i64_w, i32_w]
        rfl
      refine pure_ (i := 3) (N := some 32) (v := ?_) (a' := ?_) #[true, true, true, true, false, false, false, false, false, false, false, false, false, false, false] rfl rfl (by kernel_rfl) (fun _ _ _ h => h) (Or.inl ⟨by rfl, ?_⟩) ?_ ?_
      rotate_left
      · intro w'
        go_simp
        with_reducible rfl
      rotate_left
      · simp only [Act.put, List.setIfInBounds_toArray, List.set_cons_zero, List.set_cons_succ, i64_w, i32_w]
        rfl
      refine pure_ (i := 8) (N := some 37) (v := ?_) (a' := ?_) #[true, true, true, true, false, false, false, false, true, false, false, false, false, false, false] rfl rfl (by kernel_rfl) (fun _ _ _ h => h) (Or.inl ⟨by rfl, ?_⟩) ?_ ?_
      rotate_left
      · intro w'
        go_simp
        with_reducible rfl
      rotate_left
      · simp only [Act.put, List.setIfInBounds_toArray, List.set_cons_zero, List.set_cons_succ, i64_w, i32_w]
        rfl
      refine pure_ (i := 9) (N := some 38) (v := ?_) (a' := ?_) #[true, true, true, true, false, false, false, false, true, true, false, false, false, false, false] rfl rfl (by kernel_rfl) (fun _ _ _ h => h) (Or.inl ⟨by rfl, ?_⟩) ?_ ?_
      rotate_left
      · intro w'
        go_simp
        with_reducible rfl
      rotate_left
      · simp only [Act.put, List.setIfInBounds_toArray, List.set_cons_zero, List.set_cons_succ, i64_w, i32_w]
        rfl
      refine pure_ (i := 10) (N := some 39) (v := ?_) (a' := ?_) #[true, true, true, true, false, false, false, false, true, true, true, false, false, false, false] rfl rfl (by kernel_rfl) (fun _ _ _ h => h) (Or.inl ⟨by rfl, ?_⟩) ?_ ?_
      rotate_left
      · intro w'
        go_simp
        with_reducible rfl
      rotate_left
      · simp only [Act.put, List.setIfInBounds_toArray, List.set_cons_zero, List.set_cons_succ, i64_w, i32_w]
        rfl
      refine take_ (i := 4) (N := some 33) (v := ?_) (a' := ?_) #[true, true, true, true, true, false, false, false, true, true, true, false, false, false, false] rfl rfl (by kernel_rfl) (fun _ _ _ h => h) (Or.inl ⟨by rfl, ?_⟩) hHeld ?_ ?_
      rotate_left
      · intro w' hS
        obtain ⟨s0, s1, s2, s3⟩ := hS
        go_simp
        with_reducible rfl
      rotate_left
      · simp only [Act.put, List.setIfInBounds_toArray, List.set_cons_zero, List.set_cons_succ, i64_w, i32_w]
        rfl
      refine take_ (i := 5) (N := some 34) (v := ?_) (a' := ?_) #[true, true, true, true, true, true, false, false, true, true, true, false, false, false, false] rfl rfl (by kernel_rfl) (fun _ _ _ h => h) (Or.inl ⟨by rfl, ?_⟩) hHeld ?_ ?_
      rotate_left
      · intro w' hS
        obtain ⟨s0, s1, s2, s3⟩ := hS
        go_simp
        with_reducible rfl
      rotate_left
      · simp only [Act.put, List.setIfInBounds_toArray, List.set_cons_zero, List.set_cons_succ, i64_w, i32_w]
        rfl
      refine one_ (i := 6) (N := some 35) #[true, true, true, true, true, true, true, false, true, true, true, false, false, false, false] rfl rfl (by kernel_rfl) (by decide) (fun K hK => ?_)
      refine value_ (w1 := ?_) (v := ?_) (by rfl) rfl ?_ ?_
      rotate_left 2
      · go_simp
        constructor
        · rfl
        · rfl
      have bal : Below w5.heap.size w5 (w5.alloc (.cells #[.int .i64 fe.f0, .int .i64 fe.f1, .slice A4 fe.f2.length c4] 60)) := below_alloc (Below.refl _ _) _
      have hS0 := cellJ (blk_below HJ5.out.1 bal)
      have hy := blk_below HY5.out bal
      have hS1 := And.intro ((blk_cell hy 0).trans (rfl : _ = some (Value.int .i64 fe.f0))) (And.intro ((blk_cell hy 1).trans (rfl : _ = some (Value.int .i64 fe.f1))) ((blk_cell hy 2).trans (rfl : _ = some (Value.slice A4 fe.f2.length c4))))
      refine hK.out _ _ ⟨hS0.2.1, hS1⟩ (fun hHeld => ?_)
      clear hK K bal hS0 hS1 hy
      refine norm_ (a' := ?_) ?_ ?_
      rotate_left
      · show Act.put _ (some 35) _ = _
        simp only [Act.put, List.setIfInBounds_toArray, List.set_cons_zero, List.set_cons_succ, i64_w, i32_w]
        rfl
      refine one_ (i := 7) (N := some 36) #[true, true, true, true, true, true, true, true, true, true, true, false, false, false, false] rfl rfl (by kernel_rfl) (by decide) (fun K hK => ?_)
      refine Kd.R_append_step k60 (w0 := w5) W.heap.size (by rfl) (.tmp 33) (.tmp 35) 79 60 (.agg #[.int .i64 0, .int .i64 0, .slice none 0 0]) 40 rfl Try.underlying79 info60 rfl (by decide) (by omega) (.slice Aj acc.length cj) acc fe [.int .i64 fe.f0, .int .i64 fe.f1, .slice A4 fe.f2.length c4] (fun _ => True) (fun k => True ∧ some k ≠ (Value.slice Aj acc.length cj).ownBlock) rfl rfl ?aP (fun _ hk => hk) (fun _ _ => trivial) HJ5.out.2.2 (Below.refl _ _) HK5.out.1 HAL.out ?_
      (case aP => exact k60_mkM _ _ _ fe (Kd.R_apartR HV5.out HJ5.out.2.2 (by decide)))
      intro v1 w1 ho hb hg hat
      obtain ⟨A6, c6, rfl⟩ := Kd.R_slice ho
      have hneJ := Kd.R_ne HJ5.out.2.2 HJ5.out.1 (by decide)
      have hneD := Kd.R_ne HJ5.out.2.2 HD5.out.1 (by decide)
      have HJB := Aside0.mk (blk_grown HJ5.out.1 hg hneJ)
      have HO6 := Aside0.mk ho
      have HD6 := Aside0.mk (show IsD base gd w1 xs room false v from ⟨blk_grown HD5.out.1 hg hneD, HD5.out.2.1, Kd.R_over HD5.out.2.2.1 HJ5.out.2.2 (by decide) hg, HD5.out.2.2.2⟩)
      have hk6 : Kept w5 w1 (fun k => W.heap.size ≤ k) := Kept.of_grown hg (Kept.refl _ _) (fun k hk => Or.inl (Kd.R_base HJ5.out.2.2 k hk))
      have HK6 := Aside0.mk (HK5.out.then_ hk6 (fun k hk => Or.inr hk))
      have HB6 := Aside0.mk (HB5.out.trans (hb.mono (Nat.le_trans HD5.out.2.1 (Nat.le_of_lt HGL.out))))
      have hS0 := cellJ HJB.out
      have HC6 := Aside0.mk (Kd.R_over HC5.out HJ5.out.2.2 (by decide) hg)
      have hy := blk_grown HY5.out hg (fun e => absurd (HLT.out _ e.symm) (Nat.lt_irrefl _))
      have hS1 := And.intro ((blk_cell hy 0).trans (rfl : _ = some (Value.int .i64 fe.f0))) (And.intro ((blk_cell hy 1).trans (rfl : _ = some (Value.int .i64 fe.f1))) ((blk_cell hy 2).trans (rfl : _ = some (Value.slice A4 fe.f2.length c4))))
      refine hK.out _ _ ⟨hS0.2.1, hS1⟩ (fun hHeld => ?_)
      clear hK K ho hb hg hat hneJ hneD hk6 hy hS1
      refine norm_ (a' := ?_) ?_ ?_
      rotate_left
      · show Act.put _ (some 36) _ = _
        simp only [Act.put, List.setIfInBounds_toArray, List.set_cons_zero, List.set_cons_succ, i64_w, i32_w]
        rfl
      refine pure_ (i := 11) (N := some 40) (v := ?_) (a' := ?_) #[true, true, true, true, true, true, true, true, true, true, true, true, false, false, false] rfl rfl (by kernel_rfl) (fun _ _ _ h => h) (Or.inl ⟨by rfl, ?_⟩) ?_ ?_
      rotate_left
      · intro w'
        go_simp
        with_reducible rfl
      rotate_left
      · simp only [Act.put, List.setIfInBounds_toArray, List.set_cons_zero, List.set_cons_succ, i64_w, i32_w]
        rfl
      refine pure_ (i := 12) (N := some 41) (v := ?_) (a' := ?_) #[true, true, true, true, true, true, true, true, true, true, true, true, true, false, false] rfl rfl (by kernel_rfl) (fun _ _ _ h => h) (Or.inl ⟨by rfl, ?_⟩) ?_ ?_
      rotate_left
      · intro w'
        go_simp
        with_reducible rfl
      rotate_left
      · simp only [Act.put, List.setIfInBounds_toArray, List.set_cons_zero, List.set_cons_succ, i64_w, i32_w]
        rfl
      refine last_ (i := 13) (N := none) #[true, true, true, true, true, true, true, true, true, true, true, true, true, true, false] rfl rfl (by kernel_rfl) (by decide) (fun K hK => ?_)
      have e1 := hS0.2.1
      have g1 := hS0.2.2
      refine skip_ (w1 := ?_) (by rfl) rfl ?_ ?_
      rotate_left
      · go_simp
        rfl
      refine hK.out _ _ ?_
      clear hK K
      refine pure_ (i := 14) (N := some 6) (v := ?_) (a' := ?_) #[true, true, true, true, true, true, true, true, true, true, true, true, true, true, true] rfl rfl (by kernel_rfl) (fun _ _ _ h => h) (Or.inl ⟨by rfl, ?_⟩) ?_ ?_
      rotate_left
      · intro w'
        go_simp
        with_reducible rfl
      rotate_left
      · simp only [Act.put, List.setIfInBounds_toArray, List.set_cons_zero, List.set_cons_succ, i64_w, i32_w]
        rfl
      refine done_ (by kernel_rfl) ?_
      try go_wp2
      go_roundw
      case measure => simp [intOf]; omega
      case rel =>
        have hne : gd ≠ gj := fun e => by
          have h1 := HJB.out
          have h2 := HD6.out.1
          rw [e, h1] at h2
          simp at h2
        refine ⟨a + fn, f', acc ++ [fe], .slice A6 (acc.length + 1) c6, by go_num, hA2, HF2, HAC2, HRA3, ⟨?_⟩, ⟨?_⟩, ⟨Kd.R_set HC6.out HJB.out (by decide) 1 _⟩, ⟨HB6.out.setCell (Nat.le_trans HD6.out.2.1 (Nat.le_trans (Nat.le_of_lt HGL.out) HJ5.out.2.1)) _⟩, ⟨HK6.out.setCell (p := ⟨gj, 1, none⟩) (Or.inr HJ5.out.2.1) _⟩⟩
        · exact ⟨blk_far HD6.out.1 hne _, HD6.out.2.1, Kd.R_set HD6.out.2.2.1 HJB.out (by decide) 1 _, HD6.out.2.2.2⟩
        · have ho := HO6.out
          rw [List.length_append, List.length_singleton] at ho
          exact ⟨blk_put (cs := #[.pointer (some ⟨gd, 0, none⟩), .slice Aj acc.length cj]) HJB.out 1 _ rfl, HJ5.out.2.1, Kd.R_set ho HJB.out (by decide) 1 _⟩
end Go.Proofs.Ytppfkbigeknedaa.Q
