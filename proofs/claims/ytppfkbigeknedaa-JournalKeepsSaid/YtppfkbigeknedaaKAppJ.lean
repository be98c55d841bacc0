/- journal.Journal: Append and Tear, by hand. -/
import Derived.Test.YtppfkbigeknedaaKOpenJ
import Derived.Test.YtppfkbigeknedaaKQapiMove
namespace Go.Proofs.Ytppfkbigeknedaa.Q
open Go.RowKit Go.Proofs.YtppfkbigeknedaaW.PrintWords Go.Proofs.YtppfkbigeknedaaW.PrintLast Go.Proofs.YtppfkbigeknedaaW.PrintMore
set_option linter.unusedVariables false
set_option linter.unusedSimpArgs false
set_option maxRecDepth 100000
attribute [local go_sem] eqe_ii eqe_nn eqe_ni eqe_nni
def jApp (xs : List Int) (room : Int) (down : Bool) (es : List S60) (a b : Int) (m : List S130) : Option Int × List Int × List S60 :=
  if entryL a b m = [] then (some 1, xs, es) else ((dApp xs (recordL a b m) room down).1, (dApp xs (recordL a b m) room down).2, if (dApp xs (recordL a b m) room down).1 = none then es ++ [⟨a, b, m⟩] else es)
def JW (gd gj : Nat) (vd vj : Value) (k : Nat) : Prop := (k = gd ∨ vd.ownBlock = some k) ∨ (k = gj ∨ vj.ownBlock = some k)
def AppPost (base gd gj : Nat) (W : World) (room : Int) (down : Bool) (r : Option Int) (xs : List Int) (es : List S60) (vd vj : Value) (e : Ending) (w' : World) : Prop :=
  ∃ vd' vj', e = .returned (errW r) ∧ IsD base gd w' xs room down vd' ∧ IsJ base gj w' gd es vj' ∧ Below base W w' ∧ Kept W w' (JW gd gj vd vj) ∧ (vj'.ownBlock = vj.ownBlock ∨ ∃ k, vj'.ownBlock = some k ∧ W.heap.size ≤ k)
theorem bytes_bad {W : World} {A : Option Addr} {c : Nat} {a b : Int} {m : List S130} (hr : Kd.C k130 W A m.length m) (hc : m.length ≤ c) (h : entryL a b m = []) :
    Calls Try.prog 43 #[.agg #[.int .i64 a, .int .i64 b, .slice A m.length c]] W fun e w' => ∃ v, e = .returned (.tuple #[v, .iface 66 (.int .i64 1)]) ∧ Below W.heap.size W w' := by
  have hev := bytes_ev a b m
  rw [if_pos h] at hev
  obtain ⟨k, hk⟩ := hev.rounds
  refine (journal_Bytes.calls k a b A c m [] (some 1) W hr hc hk).mono ?_
  rintro e w' ⟨v, rfl, _, hb⟩
  exact ⟨v, by rw [errW_some], hb⟩
theorem bytes_ok {W : World} {A : Option Addr} {c : Nat} {a b : Int} {m : List S130} (hr : Kd.C k130 W A m.length m) (hc : m.length ≤ c) (h : entryL a b m ≠ []) :
    Calls Try.prog 43 #[.agg #[.int .i64 a, .int .i64 b, .slice A m.length c]] W fun e w' => ∃ v, e = .returned (.tuple #[v, .nilIface]) ∧ Kd.R (Kd.int .u8) 5 w' W.heap.size (fun _ => True) v (recordL a b m) ∧ Below W.heap.size W w' := by
  have hev := bytes_ev a b m
  rw [if_neg h] at hev
  obtain ⟨k, hk⟩ := hev.rounds
  refine (journal_Bytes.calls k a b A c m (recordL a b m) none W hr hc hk).mono ?_
  rintro e w' ⟨v, rfl, hv, hb⟩
  exact ⟨v, by rw [errW_none], hv, hb⟩
theorem R60_kept {base : Nat} {W W1 : World} {es : List S60} {v : Value} {S ok : Nat → Prop} (h : k60.R 60 W base ok v es) (hk : Kept W W1 S) (hS : ∀ k, S k → ∀ cells q, W.heap[k]? = some (.cells cells q (0, 0)) → q ≠ 60 ∧ q ≠ 130) : k60.R 60 W1 base ok v es := by
  refine Kd.R_mono (Kd.R_kept (Kd.R_bound h) hk ?_) (fun k hk => hk.1)
  rintro k ⟨_, _, _, q, hq, cells, hc⟩ hs
  have := hS k hs cells q hc
  simp only [k60, Kd.iso, Kd.pair, Kd.int, Kd.scalar, Kd.slice, k130, List.nil_append, List.append_nil, List.mem_cons, List.not_mem_nil, or_false] at hq
  rcases hq with rfl | rfl
  · exact this.1 rfl
  · exact this.2 rfl
theorem IsJ.kept {base gj gd : Nat} {W W1 : World} {es : List S60} {v : Value} {S : Nat → Prop} (h : IsJ base gj W gd es v) (hk : Kept W W1 S) (hg : ¬ S gj) (hS : ∀ k, S k → ∀ cells q, W.heap[k]? = some (.cells cells q (0, 0)) → q ≠ 60 ∧ q ≠ 130) : IsJ base gj W1 gd es v :=
  ⟨blk_kept h.1 hk hg, h.2.1, R60_kept h.2.2 hk hS⟩
theorem IsD.types {base g : Nat} {W : World} {xs : List Int} {room : Int} {down : Bool} {v : Value} (h : IsD base g W xs room down v) : ∀ k, (k = g ∨ v.ownBlock = some k) → ∀ cells q, W.heap[k]? = some (.cells cells q (0, 0)) → q ≠ 60 ∧ q ≠ 130 ∧ q ≠ 140 := by
  rintro k (rfl | hk) cells q hc
  · rw [h.1] at hc
    injection hc with hc
    injection hc with _ hc
    subst hc
    decide
  · obtain ⟨inner, ho⟩ := Kd.R_own h.2.2.1
    obtain ⟨cells', hc'⟩ := own_typed ho k hk
    rw [hc'] at hc
    injection hc with hc
    injection hc with _ hc
    subst hc
    decide
set_option maxHeartbeats 1600000 in
theorem japp_bad {base gd gj : Nat} {W : World} {xs : List Int} {room : Int} {down : Bool} {es : List S60} {vd vj : Value} {A : Option Addr} {c : Nat} {a b : Int} {m : List S130}
    (hD : IsD base gd W xs room down vd) (hJ : IsJ base gj W gd es vj) (hr : Kd.C k130 W A m.length m) (hc : m.length ≤ c) (he : entryL a b m = []) :
    Calls Try.prog 53 #[.pointer (some ⟨gj, 0, none⟩), .agg #[.int .i64 a, .int .i64 b, .slice A m.length c]] W fun e w' => e = .returned (errW (some 1)) ∧ Below W.heap.size W w' := by
  have HB := Aside0.mk (bytes_bad (Kd.C_alloc hr (.cells #[.int .i64 a, .int .i64 b, .slice A m.length c] 60)) hc he)
  clear hD hJ hr hc he
  go_enter Try.func53, Try.ntmps53
  go_wp2_with fail
  refine HB.out.mono ?_
  rintro e w1 ⟨v, rfl, hb⟩
  have HB1 := Aside0.mk (below_then (below_alloc (Below.refl W.heap.size W) (.cells #[.int .i64 a, .int .i64 b, .slice A m.length c] 60)) (by simp) hb)
  clear hb
  go_wp2
  go_ret
  exact ⟨by simp [errW_some], HB1.out⟩
set_option maxHeartbeats 1600000 in
theorem japp_ok {gd gj : Nat} {w0 W : World} {xs : List Int} {room : Int} {down : Bool} {es : List S60} {vd vj : Value} {A : Option Addr} {c : Nat} {a b : Int} {m : List S130}
    (hD : IsD w0.heap.size gd W xs room down vd) (hJ : IsJ w0.heap.size gj W gd es vj) (hr : Kd.C k130 w0 A m.length m) (h0 : Below w0.heap.size w0 W) (hc : m.length ≤ c) (hm : m.length ≤ 100) (he : entryL a b m ≠ []) (hes : es.length ≤ 100000) :
    Calls Try.prog 53 #[.pointer (some ⟨gj, 0, none⟩), .agg #[.int .i64 a, .int .i64 b, .slice A m.length c]] W (AppPost w0.heap.size gd gj W room down (jApp xs room down es a b m).1 (jApp xs room down es a b m).2.1 (jApp xs room down es a b m).2.2 vd vj) := by
  unfold jApp
  rw [if_neg he]
  have HB := Aside0.mk (bytes_ok (Kd.C_alloc (Kd.C_below hr h0) (.cells #[.int .i64 a, .int .i64 b, .slice A m.length c] 60)) hc he)
  have HR := Aside0.mk (fun (w' : World) (hw : Below w0.heap.size W w') => Kd.C_below hr (h0.trans hw))
  have HJR := Aside0.mk (show k60.R 60 W w0.heap.size (fun k => k < W.heap.size) vj es from Kd.R_mono (Kd.R_bound hJ.2.2) (fun k hk => hk.2.2.1))
  have HC := Aside0.mk hc
  have HES := Aside0.mk hes
  have HM := Aside0.mk hm
  have HD := Aside0.mk hD
  have HJ := Aside0.mk hJ
  have happ := fun (w' : World) (v' : Value) (y : Value) (A' : Option Addr) (m' c' : Nat) (h1 : IsD w0.heap.size gd w' xs room down vd) (h2 : Kd.C (Kd.int .u8) w' A' m' (recordL a b m)) => disk_append (c := c') h1 h2
  obtain ⟨q1, hq1⟩ : ∃ p, (dApp xs (recordL a b m) room down).1 = p := ⟨_, rfl⟩
  obtain ⟨q2, hq2⟩ : ∃ p, (dApp xs (recordL a b m) room down).2 = p := ⟨_, rfl⟩
  rw [hq1, hq2]
  rw [hq1, hq2] at happ
  obtain ⟨q3, hq3⟩ : ∃ p, (if q1 = none then es ++ [(⟨a, b, m⟩ : S60)] else es) = p := ⟨_, rfl⟩
  rw [hq3]
  have HQ3 := Aside0.mk hq3
  have HAPP := Aside0.mk happ
  have hgd := blk_lt hD.1
  have HGD := Aside0.mk hgd
  obtain ⟨Aj, cj, rfl⟩ := Kd.R_slice hJ.2.2
  clear hD hJ hr hc he hes hm happ hq1 hq2 hq3 hgd
  go_enter Try.func53, Try.ntmps53
  go_wp2_with fail
  refine HB.out.mono ?_
  rintro e w2 ⟨v2, rfl, hv2, hb2⟩
  obtain ⟨A2, c2, rfl⟩ := Kd.R_slice hv2
  have bal : Below W.heap.size W w2 := below_then (below_alloc (Below.refl W.heap.size W) (.cells #[.int .i64 a, .int .i64 b, .slice A m.length c] 60)) (by simp) hb2
  have HY2 := Aside0.mk (blk_below (cell60 W a b (.slice A m.length c)) hb2)
  have HV2 := Aside0.mk (Kd.R_lower (base' := W.heap.size) hv2 (by simp))
  have HD2 := Aside0.mk (HD.out.below2 bal)
  have HJ2 := Aside0.mk (HJ.out.below bal)
  have HJR2 := Aside0.mk (Kd.R_below HJR.out bal)
  have HB2 := Aside0.mk bal
  have HLT := Aside0.mk (Kd.R_lt HJ.out.2.2)
  have HVL := Aside0.mk (Kd.R_lt HD.out.2.2.1)
  obtain ⟨j0, j1, jf⟩ := cellJ HJ2.out.1
  clear hv2 hb2 bal HB HD HJ HJR
  go_wp2_with fail
  refine (HAPP.out w2 vd vd A2 _ c2 HD2.out (Kd.R_reads' HV2.out).2.2).mono ?_
  rintro e w4 ⟨vd4, rfl, hd4, hb4, hk4, ho4⟩
  have hnj : ¬ (gj = gd ∨ vd.ownBlock = some gj) := fun hs => by
    have := HD2.out.types gj hs _ _ HJ2.out.1
    exact this.2.2 rfl
  have HJ4 := Aside0.mk (HJ2.out.kept hk4 hnj (fun k hk cells q hc => ⟨(HD2.out.types k hk cells q hc).1, (HD2.out.types k hk cells q hc).2.1⟩))
  have HD4 := Aside0.mk hd4
  have hbW : w0.heap.size ≤ W.heap.size := Nat.le_trans HD2.out.2.1 (Nat.le_of_lt HGD.out)
  have HB4 := Aside0.mk ((HB2.out.mono hbW).trans hb4)
  have HK4 := Aside0.mk ((Kept.of_below HB2.out (JW gd gj vd (.slice Aj es.length cj))).then_ hk4 (fun k hk => Or.inl (Or.inl hk)))
  have hy4 := blk_kept HY2.out hk4 (fun hs => by
    rcases hs with hs | hs
    · have := HGD.out; omega
    · have := HVL.out _ hs; omega)
  have HY4 := Aside0.mk hy4
  have HC4 := Aside0.mk (HR.out _ HB4.out)
  have HJR4 := Aside0.mk (R60_kept HJR2.out hk4 (fun k hk cells q hc => ⟨(HD2.out.types k hk cells q hc).1, (HD2.out.types k hk cells q hc).2.1⟩))
  clear hd4 hb4 hnj hk4 ho4 HD2 HJ2 HB2 HV2 HY2 HR HJR2 hbW hy4 HAPP j0 j1 jf
  cases q1 with
  | some cc =>
    rw [errW_some]
    go_wp2
    go_ret
    exact ⟨vd4, _, by rw [errW_some]; rfl, HD4.out, by rw [← HQ3.out, if_neg (by simp)]; exact HJ4.out, HB4.out, HK4.out, Or.inl rfl⟩
  | none =>
    rw [errW_none]
    have hr5 : Kd.C k130 w4 A m.length m := HC4.out
    have z0 : w4.cell? ⟨W.heap.size, 0, none⟩ = some (.int .i64 a) := (blk_cell HY4.out 0).trans rfl
    have z1 : w4.cell? ⟨W.heap.size, 1, none⟩ = some (.int .i64 b) := (blk_cell HY4.out 1).trans rfl
    have z2 : w4.cell? ⟨W.heap.size, 2, none⟩ = some (.slice A m.length c) := (blk_cell HY4.out 2).trans rfl
    have hf : api_Move.f m = some m := by unfold api_Move.f; rw [if_pos (by have := HM.out; omega)]
    have HCL := Aside0.mk (api_Move.calls A c m m w4 hr5 HC.out hf)
    clear hr5 hf
    go_wp2_with fail
    refine HCL.out.mono ?_
    rintro e w5 ⟨v5, rfl, hv5, hb5⟩
    obtain ⟨A7, c7, rfl⟩ := Kd.R_slice hv5
    have hs4 : W.heap.size ≤ w4.heap.size := HK4.out.1
    have hb4s : w0.heap.size ≤ w4.heap.size := Nat.le_trans HD4.out.2.1 (Nat.le_of_lt (blk_lt HD4.out.1))
    have hy5 := blk_below HY4.out hb5
    have x0 : w5.cell? ⟨W.heap.size, 0, none⟩ = some (.int .i64 a) := (blk_cell hy5 0).trans rfl
    have x1 : w5.cell? ⟨W.heap.size, 1, none⟩ = some (.int .i64 b) := (blk_cell hy5 1).trans rfl
    have x2 : w5.cell? ⟨W.heap.size, 2, none⟩ = some (.slice A m.length c) := (blk_cell hy5 2).trans rfl
    have g2 := blk_frozen hy5 2
    have hneJ : gj ≠ W.heap.size := fun e => by
      have h1 := HJ4.out.1
      rw [e, HY4.out] at h1
      simp at h1
    have hneD : gd ≠ W.heap.size := fun e => by have := HGD.out; omega
    have HV7 := Aside0.mk (Kd.R_mono (Kd.R_far (p := ⟨W.heap.size, 2, none⟩) (Kd.R_types (Kd.R_lower (base' := w0.heap.size) hv5 hb4s) hy5 (by decide)) (fun k hk => hk.2) (.slice A7 m.length c7)) (ok' := fun _ => True) (fun _ _ => trivial))
    have HY7 := Aside0.mk (blk_put (cs := #[.int .i64 a, .int .i64 b, .slice A m.length c]) hy5 2 (.slice A7 m.length c7) rfl)
    have hj5 := HJ4.out.below hb5
    have hd5 := HD4.out.below2 hb5
    have HJ7 := Aside0.mk (show IsJ w0.heap.size gj (w5.setCell ⟨W.heap.size, 2, none⟩ (.slice A7 m.length c7)) gd es (.slice Aj es.length cj) from ⟨blk_far hj5.1 hneJ _, hj5.2.1, Kd.R_mono (Kd.R_far (p := ⟨W.heap.size, 2, none⟩) (Kd.R_below HJR4.out hb5) (fun k hk => Nat.ne_of_lt hk) _) (fun _ _ => trivial)⟩)
    have HD7 := Aside0.mk (show IsD w0.heap.size gd (w5.setCell ⟨W.heap.size, 2, none⟩ (.slice A7 m.length c7)) q2 room down vd4 from ⟨blk_far hd5.1 hneD _, hd5.2.1, Kd.R_set hd5.2.2.1 hy5 (by decide) 2 _, hd5.2.2.2⟩)
    have HB7 := Aside0.mk ((HB4.out.trans (hb5.mono hb4s)).setCell (p := ⟨W.heap.size, 2, none⟩) (Nat.le_trans HD4.out.2.1 (Nat.le_of_lt HGD.out)) (.slice A7 m.length c7))
    have HK7 := Aside0.mk ((HK4.out.below hb5).setCell (p := ⟨W.heap.size, 2, none⟩) (Or.inr (Nat.le_refl _)) (.slice A7 m.length c7))
    have HS7 := Aside0.mk (show W.heap.size ≤ (w5.setCell ⟨W.heap.size, 2, none⟩ (.slice A7 m.length c7)).heap.size from HK7.out.1)
    clear hs4 hb4s hy5 hneJ hneD hj5 hd5 hb5 hv5 HCL HD4 HJ4 HB4 HK4 HY4 HC4
    clear z0 z1 z2
    go_wp2_with fail
    generalize hw7 : w5.setCell ⟨W.heap.size, 2, none⟩ (.slice A7 m.length c7) = w7 at HV7 HY7 HJ7 HD7 HB7 HK7 HS7 ⊢
    clear hw7 x0 x1 x2 g2 HJR4
    have bal : Below w7.heap.size w7 w7.drew := below_drew (Below.refl _ _)
    have HV8 := Aside0.mk (Kd.R_drew HV7.out)
    have HY8 := Aside0.mk (show w7.drew.heap[W.heap.size]? = some (.cells #[.int .i64 a, .int .i64 b, .slice A7 m.length c7] 60 (0, 0)) from blk_drew HY7.out)
    have HD8 := Aside0.mk (HD7.out.below2 bal)
    have HJ8 := Aside0.mk (HJ7.out.below bal)
    have HB8 := Aside0.mk (below_drew1 HB7.out)
    have HK8 := Aside0.mk (HK7.out.drew)
    have HS8 := Aside0.mk (show W.heap.size ≤ w7.drew.heap.size from HS7.out)
    clear bal HV7 HY7 HD7 HJ7 HB7 HK7 HS7
    have hS0 := cellJ HJ8.out.1
    have hS1 := And.intro ((blk_cell HY8.out 0).trans (rfl : _ = some (Value.int .i64 a))) (And.intro ((blk_cell HY8.out 1).trans (rfl : _ = some (Value.int .i64 b))) ((blk_cell HY8.out 2).trans (rfl : _ = some (Value.slice A7 m.length c7))))
    refine start_ (n := 11) (S := fun w' => w'.cell? ⟨gj, 1, none⟩ = some (.slice Aj es.length cj) ∧ w'.cell? ⟨W.heap.size, 0, none⟩ = some (.int .i64 a) ∧ w'.cell? ⟨W.heap.size, 1, none⟩ = some (.int .i64 b) ∧ w'.cell? ⟨W.heap.size, 2, none⟩ = some (.slice A7 m.length c7)) (ds := [10]) #[false, false, false, false, false, false, false, false, false, false, false] (by kernel_rfl) rfl rfl ⟨hS0.2.1, hS1⟩ (fun hHeld => ?_)
    clear hS0 hS1
    generalize w7.drew = w8 at HV8 HY8 HD8 HJ8 HB8 HK8 HS8 hHeld ⊢
    refine pure_ (i := 0) (N := some 29) (v := ?_) (a' := ?_) #[true, false, false, false, false, false, false, false, false, false, false] rfl rfl (by kernel_rfl) (fun _ _ _ h => h) (Or.inl ⟨by rfl, ?_⟩) ?_ ?_
    rotate_left
    · intro w'
      go_simp
      with_reducible rfl
    rotate_left
    · simp only [Act.put, List.setIfInBounds_toArray, List.set_cons_zero, List.set_cons_succ, i64_w, i32_w]
      rfl
    refine pure_ (i := 1) (N := some 30) (v := ?_) (a' := ?_) #[true, true, false, false, false, false, false, false, false, false, false] rfl rfl (by kernel_rfl) (fun _ _ _ h => h) (Or.inl ⟨by rfl, ?_⟩) ?_ ?_
    rotate_left
    · intro w'
      go_simp
      with_reducible rfl
    rotate_left
    · simp only [Act.put, List.setIfInBounds_toArray, List.set_cons_zero, List.set_cons_succ, i64_w, i32_w]
      rfl
    refine pure_ (i := 2) (N := some 31) (v := ?_) (a' := ?_) #[true, true, true, false, false, false, false, false, false, false, false] rfl rfl (by kernel_rfl) (fun _ _ _ h => h) (Or.inl ⟨by rfl, ?_⟩) ?_ ?_
    rotate_left
    · intro w'
      go_simp
      with_reducible rfl
    rotate_left
    · simp only [Act.put, List.setIfInBounds_toArray, List.set_cons_zero, List.set_cons_succ, i64_w, i32_w]
      rfl
    refine pure_ (i := 3) (N := some 32) (v := ?_) (a' := ?_) #[true, true, true, true, false, false, false, false, false, false, false] rfl rfl (by kernel_rfl) (fun _ _ _ h => h) (Or.inl ⟨by rfl, ?_⟩) ?_ ?_
    rotate_left
    · intro w'
      go_simp
      with_reducible rfl
    rotate_left
    · simp only [Act.put, List.setIfInBounds_toArray, List.set_cons_zero, List.set_cons_succ, i64_w, i32_w]
      rfl
    refine take_ (i := 4) (N := some 33) (v := ?_) (a' := ?_) #[true, true, true, true, true, false, false, false, false, false, false] rfl rfl (by kernel_rfl) (fun _ _ _ h => h) (Or.inl ⟨by rfl, ?_⟩) hHeld ?_ ?_
    rotate_left
    · intro w' hS
      obtain ⟨s0, s1, s2, s3⟩ := hS
      go_simp
      with_reducible rfl
    rotate_left
    · simp only [Act.put, List.setIfInBounds_toArray, List.set_cons_zero, List.set_cons_succ, i64_w, i32_w]
      rfl
    refine take_ (i := 5) (N := some 34) (v := ?_) (a' := ?_) #[true, true, true, true, true, true, false, false, false, false, false] rfl rfl (by kernel_rfl) (fun _ _ _ h => h) (Or.inl ⟨by rfl, ?_⟩) hHeld ?_ ?_
    rotate_left
    · intro w' hS
      obtain ⟨s0, s1, s2, s3⟩ := hS
      go_simp
      with_reducible rfl
    rotate_left
    · simp only [Act.put, List.setIfInBounds_toArray, List.set_cons_zero, List.set_cons_succ, i64_w, i32_w]
      rfl
    refine one_ (i := 6) (N := some 35) #[true, true, true, true, true, true, true, false, false, false, false] rfl rfl (by kernel_rfl) (by decide) (fun K hK => ?_)
    refine value_ (w1 := ?_) (v := ?_) (by rfl) rfl ?_ ?_
    rotate_left 2
    · go_simp
      constructor
      · rfl
      · rfl
    have bal : Below w8.heap.size w8 (w8.alloc (.cells #[.int .i64 a, .int .i64 b, .slice A7 m.length c7] 60)) := below_alloc (Below.refl _ _) _
    have hS0 := cellJ (blk_below HJ8.out.1 bal)
    have hy := blk_below HY8.out bal
    have hS1 := And.intro ((blk_cell hy 0).trans (rfl : _ = some (Value.int .i64 a))) (And.intro ((blk_cell hy 1).trans (rfl : _ = some (Value.int .i64 b))) ((blk_cell hy 2).trans (rfl : _ = some (Value.slice A7 m.length c7))))
    refine hK.out _ _ ⟨hS0.2.1, hS1⟩ (fun hHeld => ?_)
    clear hK K bal hS0 hS1 hy
    refine norm_ (a' := ?_) ?_ ?_
    rotate_left
    · show Act.put _ (some 35) _ = _
      simp only [Act.put, List.setIfInBounds_toArray, List.set_cons_zero, List.set_cons_succ, i64_w, i32_w]
      rfl
    refine one_ (i := 7) (N := some 36) #[true, true, true, true, true, true, true, true, false, false, false] rfl rfl (by kernel_rfl) (by decide) (fun K hK => ?_)
    refine Kd.R_append_step k60 (w0 := w8) w0.heap.size (by rfl) (.tmp 33) (.tmp 35) 79 60 (.agg #[.int .i64 0, .int .i64 0, .slice none 0 0]) 40 rfl Try.underlying79 info60 rfl (by decide) (by omega) (.slice Aj es.length cj) es (⟨a, b, m⟩ : S60) [.int .i64 a, .int .i64 b, .slice A7 m.length c7] (fun _ => True) (fun k => True ∧ some k ≠ (Value.slice Aj es.length cj).ownBlock) rfl rfl ?aP (fun _ hk => hk) (fun _ _ => trivial) HJ8.out.2.2 (Below.refl _ _) ?aS ?aL ?_
    (case aP => exact k60_mkM _ _ _ (⟨a, b, m⟩ : S60) (Kd.R_apartR HV8.out HJ8.out.2.2 (by decide)))
    (case aS => exact Nat.le_trans HD8.out.2.1 (Nat.le_of_lt (blk_lt HD8.out.1)))
    (case aL => have := HES.out; omega)
    intro v1 w1 ho hb hg hat
    obtain ⟨A9, c9, rfl⟩ := Kd.R_slice ho
    have hneJ := Kd.R_ne HJ8.out.2.2 HJ8.out.1 (by decide)
    have hneD := Kd.R_ne HJ8.out.2.2 HD8.out.1 (by decide)
    have HJB := Aside0.mk (blk_grown HJ8.out.1 hg hneJ)
    have HO9 := Aside0.mk ho
    have HAT := Aside0.mk hat
    have HD9 := Aside0.mk (show IsD w0.heap.size gd w1 q2 room down vd4 from ⟨blk_grown HD8.out.1 hg hneD, HD8.out.2.1, Kd.R_over HD8.out.2.2.1 HJ8.out.2.2 (by decide) hg, HD8.out.2.2.2⟩)
    have HK9 := Aside0.mk (Kept.of_grown hg HK8.out (fun k hk => Or.inl (Or.inr (Or.inr hk))))
    have HB9 := Aside0.mk (HB8.out.trans hb)
    have HB9 := Aside0.mk (HB8.out.trans hb)
    have hy := blk_grown HY8.out hg (fun e => absurd (HLT.out _ e.symm) (Nat.lt_irrefl _))
    have hS0 := cellJ HJB.out
    have hS1 := And.intro ((blk_cell hy 0).trans (rfl : _ = some (Value.int .i64 a))) (And.intro ((blk_cell hy 1).trans (rfl : _ = some (Value.int .i64 b))) ((blk_cell hy 2).trans (rfl : _ = some (Value.slice A7 m.length c7))))
    refine hK.out _ _ ⟨hS0.2.1, hS1⟩ (fun hHeld => ?_)
    clear hK K ho hb hg hat hneJ hneD hy hS1
    refine norm_ (a' := ?_) ?_ ?_
    rotate_left
    · show Act.put _ (some 36) _ = _
      simp only [Act.put, List.setIfInBounds_toArray, List.set_cons_zero, List.set_cons_succ, i64_w, i32_w]
      rfl
    refine pure_ (i := 8) (N := some 37) (v := ?_) (a' := ?_) #[true, true, true, true, true, true, true, true, true, false, false] rfl rfl (by kernel_rfl) (fun _ _ _ h => h) (Or.inl ⟨by rfl, ?_⟩) ?_ ?_
    rotate_left
    · intro w'
      go_simp
      with_reducible rfl
    rotate_left
    · simp only [Act.put, List.setIfInBounds_toArray, List.set_cons_zero, List.set_cons_succ, i64_w, i32_w]
      rfl
    refine pure_ (i := 9) (N := some 38) (v := ?_) (a' := ?_) #[true, true, true, true, true, true, true, true, true, true, false] rfl rfl (by kernel_rfl) (fun _ _ _ h => h) (Or.inl ⟨by rfl, ?_⟩) ?_ ?_
    rotate_left
    · intro w'
      go_simp
      with_reducible rfl
    rotate_left
    · simp only [Act.put, List.setIfInBounds_toArray, List.set_cons_zero, List.set_cons_succ, i64_w, i32_w]
      rfl
    refine last_ (i := 10) (N := none) #[true, true, true, true, true, true, true, true, true, true, true] rfl rfl (by kernel_rfl) (by decide) (fun K hK => ?_)
    have e1 := hS0.2.1
    have g1 := hS0.2.2
    refine skip_ (w1 := ?_) (by rfl) rfl ?_ ?_
    rotate_left
    · go_simp
      rfl
    refine hK.out _ _ ?_
    clear hK K
    refine done_ (by kernel_rfl) ?_
    try go_wp2
    go_ret
    have hne : gd ≠ gj := fun e => by
      have h1 := HJB.out
      have h2 := HD9.out.1
      rw [e, h1] at h2
      simp at h2
    refine ⟨vd4, .slice A9 (es.length + 1) c9, by simp [errW_none], ⟨blk_far HD9.out.1 hne _, HD9.out.2.1, Kd.R_set HD9.out.2.2.1 HJB.out (by decide) 1 _, HD9.out.2.2.2⟩, ?_, HB9.out.setCell HJ8.out.2.1 _, HK9.out.setCell (p := ⟨gj, 1, none⟩) (Or.inl (Or.inr (Or.inl rfl))) _, ?_⟩
    · have ho := HO9.out
      rw [List.length_append, List.length_singleton] at ho
      rw [← HQ3.out, if_pos trivial]
      exact ⟨blk_put (cs := #[.pointer (some ⟨gd, 0, none⟩), .slice Aj es.length cj]) HJB.out 1 _ rfl, HJ8.out.2.1, Kd.R_set ho HJB.out (by decide) 1 _⟩
    · have hat := HAT.out
      rw [List.length_append, List.length_singleton] at hat
      rcases hat with h | ⟨k, hk, hle⟩
      · exact Or.inl h
      · exact Or.inr ⟨k, hk, Nat.le_trans HS8.out hle⟩
theorem japp_calls {gd gj : Nat} {w0 W : World} {xs : List Int} {room : Int} {down : Bool} {es : List S60} {vd vj : Value} {A : Option Addr} {c : Nat} {a b : Int} {m : List S130}
    (hD : IsD w0.heap.size gd W xs room down vd) (hJ : IsJ w0.heap.size gj W gd es vj) (hr : Kd.C k130 w0 A m.length m) (h0 : Below w0.heap.size w0 W) (hc : m.length ≤ c) (hm : m.length ≤ 100) (hes : es.length ≤ 100000) :
    Calls Try.prog 53 #[.pointer (some ⟨gj, 0, none⟩), .agg #[.int .i64 a, .int .i64 b, .slice A m.length c]] W (AppPost w0.heap.size gd gj W room down (jApp xs room down es a b m).1 (jApp xs room down es a b m).2.1 (jApp xs room down es a b m).2.2 vd vj) := by
  by_cases he : entryL a b m = []
  · refine (japp_bad hD hJ (Kd.C_below hr h0) hc he).mono ?_
    rintro e w1 ⟨rfl, hb⟩
    unfold jApp
    rw [if_pos he]
    exact ⟨vd, vj, rfl, hD.below2 hb, hJ.below hb, hb.mono (Nat.le_trans hD.2.1 (Nat.le_of_lt (blk_lt hD.1))), Kept.of_below hb _, Or.inl rfl⟩
  · exact japp_ok hD hJ hr h0 hc hm he hes
end Go.Proofs.Ytppfkbigeknedaa.Q
