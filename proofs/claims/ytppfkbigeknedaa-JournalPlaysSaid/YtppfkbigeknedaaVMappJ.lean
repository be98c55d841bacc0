/- dunnageref22.Journal.Append, by hand. -/
import Derived.Test.YtppfkbigeknedaaVRefJ
namespace Go.Proofs.Ytppfkbigeknedaa.Q
open Go.RowKit Go.Proofs.YtppfkbigeknedaaW.PrintWords Go.Proofs.YtppfkbigeknedaaW.PrintLast Go.Proofs.YtppfkbigeknedaaW.PrintMore
set_option linter.unusedVariables false
set_option linter.unusedSimpArgs false
set_option maxRecDepth 100000
attribute [local go_sem] eqe_ii eqe_nn eqe_ni eqe_nni
def mApp (xs : List Int) (room : Int) (down : Bool) (es : List S60) (a b : Int) (m : List S130) (n : Int) (torn : Bool) : Int × List Int × Bool × List S60 :=
  if entryL a b m = [] then (1, xs, down, es)
  else if down = true then (7, xs, down, es)
  else if room - (xs.length : Int) < ((recordL a b m).length : Int) then (6, xs, down, es)
  else if torn = true then (0, xs ++ (recordL a b m).take (cutN n (recordL a b m).length).toNat, true, es)
  else (0, xs ++ recordL a b m, down, es ++ [⟨a, b, m⟩])
def MappPost (w0 : World) (gm : Nat) (W : World) (room : Int) (ok : Nat → Prop) (r : Int × List Int × Bool × List S60) (e : Ending) (w' : World) : Prop :=
  ∃ v', e = .returned (.int .i64 r.1) ∧ IsM w0 w0.heap.size gm w' (strOfNums r.2.1) room r.2.2.1 r.2.2.2 ok v' ∧ Below w0.heap.size W w' ∧ Kept W w' (fun k => k = gm)
theorem rec_calls {W : World} {A : Option Addr} {c : Nat} {a b : Int} {m : List S130} (hr : Kd.C k130 W A m.length m) (hc : m.length ≤ c) :
    Calls Try.prog 44 #[.agg #[.int .i64 a, .int .i64 b, .slice A m.length c]] W fun e w' => (entryL a b m = [] → e = .returned (.tuple #[.string ⟨#[]⟩, .bool false])) ∧ (entryL a b m ≠ [] → e = .returned (.tuple #[.string (strOfNums (recordL a b m)), .bool true])) ∧ Below W.heap.size W w' := by
  have hev := record_ev a b m
  obtain ⟨k, hk⟩ := hev.rounds
  by_cases h : entryL a b m = []
  · rw [if_pos h] at hk
    refine (dunnageref22_Record.calls k a b A c m _ _ W hr hc hk).mono ?_
    rintro e w' ⟨rfl, hb⟩
    exact ⟨fun _ => rfl, fun hn => absurd h hn, hb⟩
  · rw [if_neg h] at hk
    refine (dunnageref22_Record.calls k a b A c m _ _ W hr hc hk).mono ?_
    rintro e w' ⟨rfl, hb⟩
    exact ⟨fun hn => absurd hn h, fun _ => rfl, hb⟩
set_option maxHeartbeats 1600000 in
theorem mapp_bad {gm : Nat} {w0 W : World} {xs : List Int} {room : Int} {down : Bool} {es : List S60} {ok : Nat → Prop} {v : Value} {A : Option Addr} {c : Nat} {a b : Int} {m : List S130} {n : Int} {torn : Bool}
    (h : IsM w0 w0.heap.size gm W (strOfNums xs) room down es ok v) (hr : Kd.C k130 w0 A m.length m) (hc : m.length ≤ c) (h0 : Below w0.heap.size w0 W) (he : entryL a b m = []) :
    Calls Try.prog 55 #[.pointer (some ⟨gm, 0, none⟩), .agg #[.int .i64 a, .int .i64 b, .slice A m.length c], .int .i64 n, .bool torn] W fun e w' => e = .returned (.int .i64 1) ∧ Below W.heap.size W w' := by
  have HR := Aside0.mk (rec_calls (a := a) (b := b) (Kd.C_alloc (Kd.C_below hr h0) (.cells #[.int .i64 a, .int .i64 b, .slice A m.length c] 60)) hc)
  have HE := Aside0.mk he
  clear h hr hc h0 he
  go_enter Try.func55, Try.ntmps55
  go_wp2_with fail
  refine HR.out.mono ?_
  rintro e w1 ⟨he, -, hb⟩
  obtain rfl := he HE.out
  have HB1 := Aside0.mk (below_then (below_alloc (Below.refl W.heap.size W) (.cells #[.int .i64 a, .int .i64 b, .slice A m.length c] 60)) (by simp) hb)
  clear hb HR he
  go_wp2
  go_ret
  exact ⟨rfl, HB1.out⟩
set_option maxHeartbeats 1600000 in
theorem mapp_down {gm : Nat} {w0 W : World} {xs : List Int} {room : Int} {es : List S60} {ok : Nat → Prop} {v : Value} {A : Option Addr} {c : Nat} {a b : Int} {m : List S130} {n : Int} {torn : Bool}
    (h : IsM w0 w0.heap.size gm W (strOfNums xs) room true es ok v) (hr : Kd.C k130 w0 A m.length m) (hc : m.length ≤ c) (h0 : Below w0.heap.size w0 W) (he : entryL a b m ≠ []) :
    Calls Try.prog 55 #[.pointer (some ⟨gm, 0, none⟩), .agg #[.int .i64 a, .int .i64 b, .slice A m.length c], .int .i64 n, .bool torn] W fun e w' => e = .returned (.int .i64 7) ∧ Below W.heap.size W w' := by
  have HR := Aside0.mk (rec_calls (a := a) (b := b) (Kd.C_alloc (Kd.C_below hr h0) (.cells #[.int .i64 a, .int .i64 b, .slice A m.length c] 60)) hc)
  have HE := Aside0.mk he
  have HM := Aside0.mk h
  clear h hr hc h0 he
  go_enter Try.func55, Try.ntmps55
  go_wp2_with fail
  refine HR.out.mono ?_
  rintro e w1 ⟨-, he, hb⟩
  obtain rfl := he HE.out
  have hb1 := below_then (below_alloc (Below.refl W.heap.size W) (.cells #[.int .i64 a, .int .i64 b, .slice A m.length c] 60)) (by simp) hb
  obtain ⟨c0, c1, c2, c3, -⟩ := cellM4 (HM.out.below hb1).1
  have HB1 := Aside0.mk hb1
  clear hb HR he hb1
  go_wp2
  go_ret
  exact ⟨rfl, HB1.out⟩
set_option maxHeartbeats 1600000 in
theorem mapp_big {gm : Nat} {w0 W : World} {xs : List Int} {room : Int} {es : List S60} {ok : Nat → Prop} {v : Value} {A : Option Addr} {c : Nat} {a b : Int} {m : List S130} {n : Int} {torn : Bool}
    (h : IsM w0 w0.heap.size gm W (strOfNums xs) room false es ok v) (hr : Kd.C k130 w0 A m.length m) (hc : m.length ≤ c) (h0 : Below w0.heap.size w0 W) (he : entryL a b m ≠ [])
    (hl : xs.length ≤ 100000) (hroom : 0 ≤ room ∧ room ≤ 100000) (hbig : room - (xs.length : Int) < ((recordL a b m).length : Int)) :
    Calls Try.prog 55 #[.pointer (some ⟨gm, 0, none⟩), .agg #[.int .i64 a, .int .i64 b, .slice A m.length c], .int .i64 n, .bool torn] W fun e w' => e = .returned (.int .i64 6) ∧ Below W.heap.size W w' := by
  have HR := Aside0.mk (rec_calls (a := a) (b := b) (Kd.C_alloc (Kd.C_below hr h0) (.cells #[.int .i64 a, .int .i64 b, .slice A m.length c] 60)) hc)
  have HE := Aside0.mk he
  have HM := Aside0.mk h
  clear h hr hc h0 he
  go_enter Try.func55, Try.ntmps55
  go_wp2_with fail
  refine HR.out.mono ?_
  rintro e w1 ⟨-, he, hb⟩
  obtain rfl := he HE.out
  have hb1 := below_then (below_alloc (Below.refl W.heap.size W) (.cells #[.int .i64 a, .int .i64 b, .slice A m.length c] 60)) (by simp) hb
  obtain ⟨c0, c1, c2, c3, -⟩ := cellM4 (HM.out.below hb1).1
  have HB1 := Aside0.mk hb1
  obtain ⟨R, hR⟩ : ∃ R, strOfNums (recordL a b m) = R := ⟨_, rfl⟩
  have hs1 : R.size = (recordL a b m).length := by rw [← hR]; exact strOfNums_size _
  obtain ⟨X, hX⟩ : ∃ X, strOfNums xs = X := ⟨_, rfl⟩
  have hs2 : X.size = xs.length := by rw [← hX]; exact strOfNums_size _
  have hw : wrap64 (room - (X.size : Int)) = room - (X.size : Int) := by unfold wrap64; omega
  have hd : decide (wrap64 (room - (X.size : Int)) < (R.size : Int)) = true := decide_eq_true (by rw [hw, hs1, hs2]; exact hbig)
  have hd1 : wrap64 (room - (X.size : Int)) < (R.size : Int) := by rw [hw, hs1, hs2]; exact hbig
  clear hw
  rw [hX] at c0
  rw [hR]
  clear hb HR he hb1 hX hR hs1 hs2 hbig HM
  go_wp2
  have HB1 := Aside0.mk (below_drew HB1.out)
  refine wp_region_still_tail 12 (by kernel_rfl) (by kernel_rfl) ?_
  simp only [List.take_succ_cons, List.take_zero, List.drop_succ_cons, List.drop_zero]
  change wpStill _ _ w1.drew (fun a' => wpList _ _ _ _ a' w1.drew) _ _
  replace c0 : w1.drew.cell? ⟨gm, 0, none⟩ = some (.string X) := c0
  replace c1 : w1.drew.cell? ⟨gm, 1, none⟩ = some (.int .i64 room) := c1
  replace c2 : w1.drew.cell? ⟨gm, 2, none⟩ = some (.bool false) := c2
  replace c3 : w1.drew.cell? ⟨gm, 3, none⟩ = some v := c3
  generalize w1.drew = w2 at c0 c1 c2 c3 HB1 ⊢
  iterate 12 still_step
  refine wpStill_nil ?_
  go_wp2
  go_ret
  exact ⟨rfl, HB1.out⟩
set_option maxHeartbeats 1600000 in
theorem mapp_new {gm : Nat} {w0 W : World} {xs : List Int} {room : Int} {es : List S60} {ok : Nat → Prop} {v : Value} {A : Option Addr} {c : Nat} {a b : Int} {m : List S130} {n : Int}
    (h : IsM w0 w0.heap.size gm W (strOfNums xs) room false es ok v) (hr : Kd.C k130 w0 A m.length m) (hc : m.length ≤ c) (h0 : Below w0.heap.size w0 W) (he : entryL a b m ≠ [])
    (hl : xs.length ≤ 100000) (hroom : 0 ≤ room ∧ room ≤ 100000) (hfit : ((recordL a b m).length : Int) ≤ room - (xs.length : Int)) (hes : es.length ≤ 100000) (hok : ∀ k, W.heap.size ≤ k → ok k) :
    Calls Try.prog 55 #[.pointer (some ⟨gm, 0, none⟩), .agg #[.int .i64 a, .int .i64 b, .slice A m.length c], .int .i64 n, .bool false] W (MappPost w0 gm W room ok (0, xs ++ recordL a b m, false, es ++ [⟨a, b, m⟩])) := by
  have HR0 := Aside0.mk hr
  have HC0 := Aside0.mk hc
  have HW0 := Aside0.mk h0
  have HOK := Aside0.mk hok
  have HAP := Aside0.mk (strOf_append xs (recordL a b m))
  have HR := Aside0.mk (rec_calls (a := a) (b := b) (Kd.C_alloc (Kd.C_below hr h0) (.cells #[.int .i64 a, .int .i64 b, .slice A m.length c] 60)) hc)
  have HE := Aside0.mk he
  obtain ⟨Am, cm, rfl⟩ := Kd.R_slice h.2.2
  have HM := Aside0.mk h
  have HGM := Aside0.mk (blk_lt h.1)
  clear h hr hc h0 he hok
  go_enter Try.func55, Try.ntmps55
  go_wp2_with fail
  refine HR.out.mono ?_
  rintro e w1 ⟨-, he, hb⟩
  obtain rfl := he HE.out
  have hb1 := below_then (below_alloc (Below.refl W.heap.size W) (.cells #[.int .i64 a, .int .i64 b, .slice A m.length c] 60)) (by simp) hb
  obtain ⟨c0, c1, c2, c3, f0, f2, f3⟩ := cellM4 (HM.out.below hb1).1
  have HB1 := Aside0.mk hb1
  obtain ⟨R, hR⟩ : ∃ R, strOfNums (recordL a b m) = R := ⟨_, rfl⟩
  have hs1 : R.size = (recordL a b m).length := by rw [← hR]; exact strOfNums_size _
  obtain ⟨X, hX⟩ : ∃ X, strOfNums xs = X := ⟨_, rfl⟩
  have hs2 : X.size = xs.length := by rw [← hX]; exact strOfNums_size _
  have hw : wrap64 (room - (X.size : Int)) = room - (X.size : Int) := by unfold wrap64; omega
  have hd : decide (wrap64 (room - (X.size : Int)) < (R.size : Int)) = false := decide_eq_false (by rw [hw, hs1, hs2]; omega)
  have hd1 : ¬ (room - (X.size : Int) < (R.size : Int)) := by rw [hs1, hs2]; omega
  have hd2 : decide (room - (X.size : Int) < (R.size : Int)) = false := decide_eq_false hd1
  rw [hX, hR] at HAP
  have hsum : (X.size : Int) + R.size ≤ 100000 := by omega
  have HM1 := Aside0.mk (HM.out.below hb1)
  have HY1 := Aside0.mk (blk_below (blk_new W (.cells #[.int .i64 a, .int .i64 b, .slice A m.length c] 60)) hb)
  rw [hX] at c0 HM1
  rw [hR]
  clear hb HR he hb1 hs1 hs2 hfit HM
  go_wp2
  have HB1 := Aside0.mk (below_drew HB1.out)
  refine wp_region_still_tail 12 (by kernel_rfl) (by kernel_rfl) ?_
  simp only [List.take_succ_cons, List.take_zero, List.drop_succ_cons, List.drop_zero]
  change wpStill _ _ w1.drew (fun a' => wpList _ _ _ _ a' w1.drew) _ _
  replace c0 : w1.drew.cell? ⟨gm, 0, none⟩ = some (.string X) := c0
  replace c1 : w1.drew.cell? ⟨gm, 1, none⟩ = some (.int .i64 room) := c1
  replace c2 : w1.drew.cell? ⟨gm, 2, none⟩ = some (.bool false) := c2
  replace c3 : w1.drew.cell? ⟨gm, 3, none⟩ = some (.slice Am es.length cm) := c3
  replace f0 : w1.drew.frozen? ⟨gm, 0, none⟩ = false := f0
  have HM2 := Aside0.mk (HM1.out.below (below_drew (Below.refl _ _)))
  have HY2 := Aside0.mk (blk_drew HY1.out)
  clear f2 f3 HM1 HY1
  generalize w1.drew = w2 at c0 c1 c2 c3 f0 HB1 HM2 HY2 ⊢
  iterate 12 still_step
  refine wpStill_nil ?_
  go_wp2
  have HM3 := Aside0.mk (show IsM w0 w0.heap.size gm (w2.setCell ⟨gm, 0, none⟩ (.string (X ++ R))) (X ++ R) room false es ok (.slice Am es.length cm) from ⟨blk_put HM2.out.1 0 _ rfl, HM2.out.2.1, Kd.R_set HM2.out.2.2 HM2.out.1 (show ∀ q, q ∈ 60 :: k60.E → q ≠ 81 from by decide) 0 _⟩)
  have HY3 := Aside0.mk (blk_far (p := ⟨gm, 0, none⟩) HY2.out (show W.heap.size ≠ gm from fun e => by have := HGM.out; omega) (.string (X ++ R)))
  have HB3 := Aside0.mk ((HB1.out.mono HW0.out.size).setCell (p := ⟨gm, 0, none⟩) HM2.out.2.1 (.string (X ++ R)))
  have HK3 := Aside0.mk ((Kept.of_below HB1.out (fun k => k = gm)).setCell (p := ⟨gm, 0, none⟩) (Or.inl rfl) (.string (X ++ R)))
  have HZ3 := Aside0.mk (show W.heap.size ≤ (w2.setCell ⟨gm, 0, none⟩ (.string (X ++ R))).heap.size from by have := HB1.out.size; simpa [World.setCell] using this)
  generalize w2.setCell ⟨gm, 0, none⟩ (.string (X ++ R)) = w3 at HM3 HY3 HB3 HK3 HZ3 ⊢
  clear HM2 HY2 HB1 c0 c1 c2 c3 f0
  have bal : Below w3.heap.size w3 w3.drew := below_drew (Below.refl _ _)
  have HM4 := Aside0.mk (HM3.out.below bal)
  have HY4 := Aside0.mk (blk_below HY3.out bal)
  have HB4 := Aside0.mk (below_drew HB3.out)
  have HK4 := Aside0.mk HK3.out.drew
  have HZ4 := Aside0.mk (show W.heap.size ≤ w3.drew.heap.size from HZ3.out)
  clear bal HM3 HY3 HB3 HK3 HZ3
  have SK := Aside0.mk (fun (w' : World) (hb : Below w3.drew.heap.size w3.drew w') => let z := cellM4 (HM4.out.below hb).1; let hy := blk_below HY4.out hb; (⟨⟨z.2.2.2.1, z.2.2.2.2.2.2⟩, (blk_cell hy 0).trans rfl, (blk_cell hy 1).trans rfl, (blk_cell hy 2).trans rfl⟩ : (fun w' => (w'.cell? ⟨gm, 3, none⟩ = some (.slice Am es.length cm) ∧ w'.frozen? ⟨gm, 3, none⟩ = false) ∧ w'.cell? ⟨W.heap.size, 0, none⟩ = some (.int .i64 a) ∧ w'.cell? ⟨W.heap.size, 1, none⟩ = some (.int .i64 b) ∧ w'.cell? ⟨W.heap.size, 2, none⟩ = some (.slice A m.length c)) w'))
  have HBX := Aside0.mk (Below.refl w3.drew.heap.size w3.drew)
  refine start_ (n := 13) (S := fun w' => (w'.cell? ⟨gm, 3, none⟩ = some (.slice Am es.length cm) ∧ w'.frozen? ⟨gm, 3, none⟩ = false) ∧ w'.cell? ⟨W.heap.size, 0, none⟩ = some (.int .i64 a) ∧ w'.cell? ⟨W.heap.size, 1, none⟩ = some (.int .i64 b) ∧ w'.cell? ⟨W.heap.size, 2, none⟩ = some (.slice A m.length c)) (ds := [12]) #[false, false, false, false, false, false, false, false, false, false, false, false, false] (by kernel_rfl) rfl rfl (SK.out _ HBX.out) (fun hHeld => ?_)
  generalize w3.drew = w4 at HM4 HY4 HB4 HK4 HZ4 SK HBX hHeld ⊢
  have HBW := Aside0.mk (show w0.heap.size ≤ w4.heap.size from Nat.le_trans HW0.out.size HZ4.out)
  have HOK4 := Aside0.mk (fun k (hk : w4.heap.size ≤ k) => HOK.out k (Nat.le_trans HZ4.out hk))
  have hok4 : (kor k60 w0).R 60 w4 w0.heap.size (fun k => ok k ∧ k < w4.heap.size) (.slice Am es.length cm) es := Kd.R_mono (Kd.R_bound HM4.out.2.2) (fun k hk => ⟨hk.1, hk.2.2.1⟩)
  obtain ⟨A1, c1, e1, hl1, hrr⟩ := OwnRow.reads hok4.2
  injection e1 with e11 _ e12
  subst e11 e12
  have HRR := Aside0.mk hrr
  clear hok4 hl1 hrr
  refine pure_ (i := 0) (N := some 46) (v := ?_) (a' := ?_) #[true, false, false, false, false, false, false, false, false, false, false, false, false] rfl rfl (by kernel_rfl) (fun _ _ _ h => h) (Or.inl ⟨by rfl, ?_⟩) ?_ ?_
  rotate_left
  · intro w'
    go_simp
    with_reducible rfl
  rotate_left
  · simp only [Act.put, List.setIfInBounds_toArray, List.set_cons_zero, List.set_cons_succ, i64_w, i32_w]
    rfl
  refine pure_ (i := 2) (N := some 48) (v := ?_) (a' := ?_) #[true, false, true, false, false, false, false, false, false, false, false, false, false] rfl rfl (by kernel_rfl) (fun _ _ _ h => h) (Or.inl ⟨by rfl, ?_⟩) ?_ ?_
  rotate_left
  · intro w'
    go_simp
    with_reducible rfl
  rotate_left
  · simp only [Act.put, List.setIfInBounds_toArray, List.set_cons_zero, List.set_cons_succ, i64_w, i32_w]
    rfl
  refine pure_ (i := 3) (N := some 49) (v := ?_) (a' := ?_) #[true, false, true, true, false, false, false, false, false, false, false, false, false] rfl rfl (by kernel_rfl) (fun _ _ _ h => h) (Or.inl ⟨by rfl, ?_⟩) ?_ ?_
  rotate_left
  · intro w'
    go_simp
    with_reducible rfl
  rotate_left
  · simp only [Act.put, List.setIfInBounds_toArray, List.set_cons_zero, List.set_cons_succ, i64_w, i32_w]
    rfl
  refine pure_ (i := 4) (N := some 50) (v := ?_) (a' := ?_) #[true, false, true, true, true, false, false, false, false, false, false, false, false] rfl rfl (by kernel_rfl) (fun _ _ _ h => h) (Or.inl ⟨by rfl, ?_⟩) ?_ ?_
  rotate_left
  · intro w'
    go_simp
    with_reducible rfl
  rotate_left
  · simp only [Act.put, List.setIfInBounds_toArray, List.set_cons_zero, List.set_cons_succ, i64_w, i32_w]
    rfl
  refine take_ (i := 5) (N := some 51) (v := ?_) (a' := ?_) #[true, false, true, true, true, true, false, false, false, false, false, false, false] rfl rfl (by kernel_rfl) (fun _ _ _ h => h) (Or.inl ⟨by rfl, ?_⟩) hHeld ?_ ?_
  rotate_left
  · intro w' hS
    obtain ⟨⟨s0, -⟩, -, -, -⟩ := hS
    go_simp
    with_reducible rfl
  rotate_left
  · simp only [Act.put, List.setIfInBounds_toArray, List.set_cons_zero, List.set_cons_succ, i64_w, i32_w]
    rfl
  refine take_ (i := 7) (N := some 53) (v := ?_) (a' := ?_) #[true, false, true, true, true, true, false, true, false, false, false, false, false] rfl rfl (by kernel_rfl) (fun _ _ _ h => h) (Or.inl ⟨by rfl, ?_⟩) hHeld ?_ ?_
  rotate_left
  · intro w' hS
    obtain ⟨-, s1, s2, s3⟩ := hS
    go_simp
    with_reducible rfl
  rotate_left
  · simp only [Act.put, List.setIfInBounds_toArray, List.set_cons_zero, List.set_cons_succ, i64_w, i32_w]
    rfl
  refine join_ (σ := Value × Value × Value) 4 #[true, true, true, true, true, true, true, true, true, false, false, false, false] (fun s_ => [(47, s_.1), (52, s_.2.1), (54, s_.2.2)]) (fun (s_ : Value × Value × Value) (w' : World) => Aside0 ((kor k60 w0).R 60 w' w0.heap.size ok s_.2.1 es) ∧ Aside0 (Below w4.heap.size w4 w') ∧ Aside0 (∀ k, s_.2.1.ownBlock = some k → w4.heap.size ≤ k) ∧ ∃ g, Aside0 ((kor k60 w0).R 60 w' w0.heap.size (fun k => k = g) s_.2.2 [(⟨a, b, m⟩ : S60)]) ∧ Aside0 (w4.heap.size ≤ g ∧ s_.2.2.ownBlock = some g ∧ s_.2.1.ownBlock ≠ some g)) ?_ ?_
  rotate_left
  · intro hCont
    refine two_ (i := 1) (j := 8) (Ni := some 47) (Nj := some 54) #[true, true, true, true, true, true, false, true, false, false, false, false, false] #[true, false, true, true, true, true, false, true, true, false, false, false, false] rfl rfl rfl rfl (by kernel_rfl) (by decide) (by decide) (fun K hK => ?_) (fun K hK => ?_)
    · skip
      refine Kd.R_lit_step (kor k60 w0) (w0 := w4) w0.heap.size 60 ?hg (N := 47) ?hd (xs := ([] : List S60)) (inner := []) (ok := ok) (okp := ok) ?hr ?hp (fun _ hk => hk) (HOK4.out _ HBX.out.size) (HBX.out.mono HBW.out) (Nat.le_trans HBW.out HBX.out.size) (by simp) ?_
      (case hd => rfl)
      (case hg => rfl)
      (case hr => first | (go_simp; done) | (go_simp; rfl))
      (case hp => exact Reps.none _ _)
      intro v47 wA ho hb hg hnew
      have HR1 := Aside0.mk ho
      have HO1 := Aside0.mk (show ∀ k, v47.ownBlock = some k → w4.heap.size ≤ k from fun k hk => by obtain ⟨b_, h1, h2⟩ := hnew; rw [h1] at hk; injection hk with hk; have := HBX.out.size; omega)
      have HBN := Aside0.mk (pw_below_grown HBX.out _ HBX.out.size hg (fun k hk => by simp at hk))
      clear HBX
      have HBX := HBN
      clear HBN
      refine hK.out _ _ (SK.out _ HBX.out) (fun hHeld => ?_)
      clear hK K ho hb hg hnew
      refine norm_ (a' := ?_) ?_ ?_
      rotate_left
      · show Act.put _ (some 47) _ = _
        simp only [Act.put, List.setIfInBounds_toArray, List.set_cons_zero, List.set_cons_succ, i64_w, i32_w]
        rfl
      refine two_ (i := 6) (j := 8) (Ni := some 52) (Nj := some 54) #[true, true, true, true, true, true, true, true, false, false, false, false, false] #[true, true, true, true, true, true, false, true, true, false, false, false, false] rfl rfl rfl rfl (by kernel_rfl) (by decide) (by decide) (fun K hK => ?_) (fun K hK => ?_)
      · skip
        refine Kd.R_append_rows_step (kor k60 w0) (Rr := (kor k60 w0).M wA w0.heap.size (fun k => ok k ∧ k < w4.heap.size)) (w0 := w4) w0.heap.size (by rfl) (.tmp 47) (.tmp 51) 79 60 (.agg #[.int .i64 0, .int .i64 0, .slice none 0 0]) 40 rfl Try.underlying79 info60 rfl (show 0 < k60.sz from by decide) (by omega) v47 [] es Am es.length cm ok (fun k => ok k ∧ k < w4.heap.size) rfl rfl HR1.out ?aR (fun _ _ h => h) ?aK ?aF (HBX.out.mono HBW.out) (Nat.le_trans HBW.out HBX.out.size) ?aL ?_
        (case aR => exact ReadsRow.imp_ HRR.out HBX.out (fun _ _ hp => Kd.M_below ((kor k60 w0).M_mono (fun k hk => hk.1) hp) HBX.out))
        (case aK => exact fun k hk => ⟨hk.1, fun e => by have := HO1.out k e.symm; omega⟩)
        (case aF => exact fun k hk => HOK4.out k (Nat.le_trans HBX.out.size hk))
        (case aL => simp; omega)
        intro v52 wB ho hb hg hat
        rw [List.nil_append] at ho
        have HRN := Aside0.mk ho
        have HON := Aside0.mk (show ∀ k, v52.ownBlock = some k → w4.heap.size ≤ k from fun k hk => by
          rcases hat with h | ⟨b_, h1, h2⟩
          · exact HO1.out k (h.symm.trans hk)
          · rw [h1] at hk; injection hk with hk; have := HBX.out.size; omega)
        have HBN := Aside0.mk (pw_below_grown HBX.out _ HBX.out.size hg (fun k hk => HO1.out k hk))
        clear HBX
        have HBX := HBN
        clear HBN
        clear HR1 HO1
        have HR1 := HRN
        have HO1 := HON
        clear HRN HON
        refine hK.out _ _ (SK.out _ HBX.out) (fun hHeld => ?_)
        clear hK K ho hb hg hat
        refine norm_ (a' := ?_) ?_ ?_
        rotate_left
        · show Act.put _ (some 52) _ = _
          simp only [Act.put, List.setIfInBounds_toArray, List.set_cons_zero, List.set_cons_succ, i64_w, i32_w]
          rfl
        refine one_ (i := 8) (N := some 54) #[true, true, true, true, true, true, true, true, true, false, false, false, false] rfl rfl (by kernel_rfl) (by decide) (fun K hK => ?_)
        refine Kd.R_lit_step (kor k60 w0) (w0 := w4) w0.heap.size 60 ?hg (N := 54) ?hd (xs := [(⟨a, b, m⟩ : S60)]) (inner := [.int .i64 a, .int .i64 b, .slice A m.length c]) (ok := fun k => k = wB.heap.size) (okp := fun _ => False) ?hr ?hp (fun _ hk => hk.elim) rfl (HBX.out.mono HBW.out) (Nat.le_trans HBW.out HBX.out.size) (by simp) ?_
        (case hd => rfl)
        (case hg => rfl)
        (case hr => first | (go_simp; done) | (go_simp; rfl))
        (case hp => exact (Reps.none _ _).snoc (Or.inr (k60_mk w0 (⟨a, b, m⟩ : S60) HC0.out HR0.out)) rfl)
        intro v54 wC ho hb hg hnew
        obtain ⟨g, hgw⟩ : ∃ g, wB.heap.size = g := ⟨_, rfl⟩
        have HG := Aside0.mk (show w4.heap.size ≤ g ∧ v54.ownBlock = some g from by
          obtain ⟨b_, h1, h2⟩ := hnew
          have h3 := ho.1 b_ h1
          have := HBX.out.size
          exact ⟨by omega, by rw [h1, h3, hgw]⟩)
        have HD1 := Aside0.mk (show v52.ownBlock ≠ some g from fun hk => by have := Kd.R_lt HR1.out g hk; omega)
        have HRN := Aside0.mk (Kd.R_grown HR1.out hg (fun k _ => by simp))
        clear HR1
        have HR1 := HRN
        clear HRN
        rw [hgw] at ho
        have HL := Aside0.mk ho
        have HBN := Aside0.mk (pw_below_grown HBX.out _ HBX.out.size hg (fun k hk => by simp at hk))
        clear HBX
        have HBX := HBN
        clear HBN
        refine hK.out _ _ (SK.out _ HBX.out) (fun hHeld => ?_)
        clear hK K ho hb hg hnew
        refine norm_ (a' := ?_) ?_ ?_
        rotate_left
        · show Act.put _ (some 54) _ = _
          simp only [Act.put, List.setIfInBounds_toArray, List.set_cons_zero, List.set_cons_succ, i64_w, i32_w]
          rfl
        clear hgw
        exact norm_ (by simp only [putAll, Act.put, List.setIfInBounds_toArray, List.set_cons_zero, List.set_cons_succ]) (hCont (v47, v52, v54) _ ⟨HR1, HBX, HO1, g, HL, ⟨HG.out.1, HG.out.2, HD1.out⟩⟩)
      · skip
        refine Kd.R_lit_step (kor k60 w0) (w0 := w4) w0.heap.size 60 ?hg (N := 54) ?hd (xs := [(⟨a, b, m⟩ : S60)]) (inner := [.int .i64 a, .int .i64 b, .slice A m.length c]) (ok := fun k => k = wA.heap.size) (okp := fun _ => False) ?hr ?hp (fun _ hk => hk.elim) rfl (HBX.out.mono HBW.out) (Nat.le_trans HBW.out HBX.out.size) (by simp) ?_
        (case hd => rfl)
        (case hg => rfl)
        (case hr => first | (go_simp; done) | (go_simp; rfl))
        (case hp => exact (Reps.none _ _).snoc (Or.inr (k60_mk w0 (⟨a, b, m⟩ : S60) HC0.out HR0.out)) rfl)
        intro v54 wB ho hb hg hnew
        obtain ⟨g, hgw⟩ : ∃ g, wA.heap.size = g := ⟨_, rfl⟩
        have HG := Aside0.mk (show w4.heap.size ≤ g ∧ v54.ownBlock = some g from by
          obtain ⟨b_, h1, h2⟩ := hnew
          have h3 := ho.1 b_ h1
          have := HBX.out.size
          exact ⟨by omega, by rw [h1, h3, hgw]⟩)
        have HD1 := Aside0.mk (show v47.ownBlock ≠ some g from fun hk => by have := Kd.R_lt HR1.out g hk; omega)
        have HRN := Aside0.mk (Kd.R_grown HR1.out hg (fun k _ => by simp))
        clear HR1
        have HR1 := HRN
        clear HRN
        rw [hgw] at ho
        have HL := Aside0.mk ho
        have HBN := Aside0.mk (pw_below_grown HBX.out _ HBX.out.size hg (fun k hk => by simp at hk))
        clear HBX
        have HBX := HBN
        clear HBN
        refine hK.out _ _ (SK.out _ HBX.out) (fun hHeld => ?_)
        clear hK K ho hb hg hnew
        refine norm_ (a' := ?_) ?_ ?_
        rotate_left
        · show Act.put _ (some 54) _ = _
          simp only [Act.put, List.setIfInBounds_toArray, List.set_cons_zero, List.set_cons_succ, i64_w, i32_w]
          rfl
        clear hgw
        refine one_ (i := 6) (N := some 52) #[true, true, true, true, true, true, true, true, true, false, false, false, false] rfl rfl (by kernel_rfl) (by decide) (fun K hK => ?_)
        refine Kd.R_append_rows_step (kor k60 w0) (Rr := (kor k60 w0).M wB w0.heap.size (fun k => ok k ∧ k < w4.heap.size)) (w0 := w4) w0.heap.size (by rfl) (.tmp 47) (.tmp 51) 79 60 (.agg #[.int .i64 0, .int .i64 0, .slice none 0 0]) 40 rfl Try.underlying79 info60 rfl (show 0 < k60.sz from by decide) (by omega) v47 [] es Am es.length cm ok (fun k => ok k ∧ k < w4.heap.size) rfl rfl HR1.out ?aR (fun _ _ h => h) ?aK ?aF (HBX.out.mono HBW.out) (Nat.le_trans HBW.out HBX.out.size) ?aL ?_
        (case aR => exact ReadsRow.imp_ HRR.out HBX.out (fun _ _ hp => Kd.M_below ((kor k60 w0).M_mono (fun k hk => hk.1) hp) HBX.out))
        (case aK => exact fun k hk => ⟨hk.1, fun e => by have := HO1.out k e.symm; omega⟩)
        (case aF => exact fun k hk => HOK4.out k (Nat.le_trans HBX.out.size hk))
        (case aL => simp; omega)
        intro v52 wC ho hb hg hat
        rw [List.nil_append] at ho
        have HRN := Aside0.mk ho
        have HON := Aside0.mk (show ∀ k, v52.ownBlock = some k → w4.heap.size ≤ k from fun k hk => by
          rcases hat with h | ⟨b_, h1, h2⟩
          · exact HO1.out k (h.symm.trans hk)
          · rw [h1] at hk; injection hk with hk; have := HBX.out.size; omega)
        have HDN := Aside0.mk (show v52.ownBlock ≠ some g from fun hk => by
          rcases hat with h | ⟨b_, h1, h2⟩
          · exact HD1.out (h.symm.trans hk)
          · rw [h1] at hk; injection hk with hk; have := Kd.R_lt HL.out g HG.out.2; omega)
        have HLN := Aside0.mk (Kd.R_grown HL.out hg (fun k hk e => HD1.out (by rw [← e, hk])))
        clear HL HD1
        have HL := HLN
        have HD1 := HDN
        clear HLN HDN
        have HBN := Aside0.mk (pw_below_grown HBX.out _ HBX.out.size hg (fun k hk => HO1.out k hk))
        clear HBX
        have HBX := HBN
        clear HBN
        clear HR1 HO1
        have HR1 := HRN
        have HO1 := HON
        clear HRN HON
        refine hK.out _ _ (SK.out _ HBX.out) (fun hHeld => ?_)
        clear hK K ho hb hg hat
        refine norm_ (a' := ?_) ?_ ?_
        rotate_left
        · show Act.put _ (some 52) _ = _
          simp only [Act.put, List.setIfInBounds_toArray, List.set_cons_zero, List.set_cons_succ, i64_w, i32_w]
          rfl
        exact norm_ (by simp only [putAll, Act.put, List.setIfInBounds_toArray, List.set_cons_zero, List.set_cons_succ]) (hCont (v47, v52, v54) _ ⟨HR1, HBX, HO1, g, HL, ⟨HG.out.1, HG.out.2, HD1.out⟩⟩)
    · skip
      refine Kd.R_lit_step (kor k60 w0) (w0 := w4) w0.heap.size 60 ?hg (N := 54) ?hd (xs := [(⟨a, b, m⟩ : S60)]) (inner := [.int .i64 a, .int .i64 b, .slice A m.length c]) (ok := fun k => k = w4.heap.size) (okp := fun _ => False) ?hr ?hp (fun _ hk => hk.elim) rfl (HBX.out.mono HBW.out) (Nat.le_trans HBW.out HBX.out.size) (by simp) ?_
      (case hd => rfl)
      (case hg => rfl)
      (case hr => first | (go_simp; done) | (go_simp; rfl))
      (case hp => exact (Reps.none _ _).snoc (Or.inr (k60_mk w0 (⟨a, b, m⟩ : S60) HC0.out HR0.out)) rfl)
      intro v54 wA ho hb hg hnew
      obtain ⟨g, hgw⟩ : ∃ g, w4.heap.size = g := ⟨_, rfl⟩
      have HG := Aside0.mk (show w4.heap.size ≤ g ∧ v54.ownBlock = some g from by
        obtain ⟨b_, h1, h2⟩ := hnew
        have h3 := ho.1 b_ h1
        have := HBX.out.size
        exact ⟨by omega, by rw [h1, h3, hgw]⟩)
      rw [hgw] at ho
      have HL := Aside0.mk ho
      have HBN := Aside0.mk (pw_below_grown HBX.out _ HBX.out.size hg (fun k hk => by simp at hk))
      clear HBX
      have HBX := HBN
      clear HBN
      refine hK.out _ _ (SK.out _ HBX.out) (fun hHeld => ?_)
      clear hK K ho hb hg hnew
      refine norm_ (a' := ?_) ?_ ?_
      rotate_left
      · show Act.put _ (some 54) _ = _
        simp only [Act.put, List.setIfInBounds_toArray, List.set_cons_zero, List.set_cons_succ, i64_w, i32_w]
        rfl
      clear hgw
      refine one_ (i := 1) (N := some 47) #[true, true, true, true, true, true, false, true, true, false, false, false, false] rfl rfl (by kernel_rfl) (by decide) (fun K hK => ?_)
      refine Kd.R_lit_step (kor k60 w0) (w0 := w4) w0.heap.size 60 ?hg (N := 47) ?hd (xs := ([] : List S60)) (inner := []) (ok := ok) (okp := ok) ?hr ?hp (fun _ hk => hk) (HOK4.out _ HBX.out.size) (HBX.out.mono HBW.out) (Nat.le_trans HBW.out HBX.out.size) (by simp) ?_
      (case hd => rfl)
      (case hg => rfl)
      (case hr => first | (go_simp; done) | (go_simp; rfl))
      (case hp => exact Reps.none _ _)
      intro v47 wB ho hb hg hnew
      have HR1 := Aside0.mk ho
      have HO1 := Aside0.mk (show ∀ k, v47.ownBlock = some k → w4.heap.size ≤ k from fun k hk => by obtain ⟨b_, h1, h2⟩ := hnew; rw [h1] at hk; injection hk with hk; have := HBX.out.size; omega)
      have HD1 := Aside0.mk (show v47.ownBlock ≠ some g from fun hk => by obtain ⟨b_, h1, h2⟩ := hnew; rw [h1] at hk; injection hk with hk; have := Kd.R_lt HL.out g HG.out.2; omega)
      have HLN := Aside0.mk (Kd.R_grown HL.out hg (fun k _ => by simp))
      clear HL
      have HL := HLN
      clear HLN
      have HBN := Aside0.mk (pw_below_grown HBX.out _ HBX.out.size hg (fun k hk => by simp at hk))
      clear HBX
      have HBX := HBN
      clear HBN
      refine hK.out _ _ (SK.out _ HBX.out) (fun hHeld => ?_)
      clear hK K ho hb hg hnew
      refine norm_ (a' := ?_) ?_ ?_
      rotate_left
      · show Act.put _ (some 47) _ = _
        simp only [Act.put, List.setIfInBounds_toArray, List.set_cons_zero, List.set_cons_succ, i64_w, i32_w]
        rfl
      refine one_ (i := 6) (N := some 52) #[true, true, true, true, true, true, true, true, true, false, false, false, false] rfl rfl (by kernel_rfl) (by decide) (fun K hK => ?_)
      refine Kd.R_append_rows_step (kor k60 w0) (Rr := (kor k60 w0).M wB w0.heap.size (fun k => ok k ∧ k < w4.heap.size)) (w0 := w4) w0.heap.size (by rfl) (.tmp 47) (.tmp 51) 79 60 (.agg #[.int .i64 0, .int .i64 0, .slice none 0 0]) 40 rfl Try.underlying79 info60 rfl (show 0 < k60.sz from by decide) (by omega) v47 [] es Am es.length cm ok (fun k => ok k ∧ k < w4.heap.size) rfl rfl HR1.out ?aR (fun _ _ h => h) ?aK ?aF (HBX.out.mono HBW.out) (Nat.le_trans HBW.out HBX.out.size) ?aL ?_
      (case aR => exact ReadsRow.imp_ HRR.out HBX.out (fun _ _ hp => Kd.M_below ((kor k60 w0).M_mono (fun k hk => hk.1) hp) HBX.out))
      (case aK => exact fun k hk => ⟨hk.1, fun e => by have := HO1.out k e.symm; omega⟩)
      (case aF => exact fun k hk => HOK4.out k (Nat.le_trans HBX.out.size hk))
      (case aL => simp; omega)
      intro v52 wC ho hb hg hat
      rw [List.nil_append] at ho
      have HRN := Aside0.mk ho
      have HON := Aside0.mk (show ∀ k, v52.ownBlock = some k → w4.heap.size ≤ k from fun k hk => by
        rcases hat with h | ⟨b_, h1, h2⟩
        · exact HO1.out k (h.symm.trans hk)
        · rw [h1] at hk; injection hk with hk; have := HBX.out.size; omega)
      have HDN := Aside0.mk (show v52.ownBlock ≠ some g from fun hk => by
        rcases hat with h | ⟨b_, h1, h2⟩
        · exact HD1.out (h.symm.trans hk)
        · rw [h1] at hk; injection hk with hk; have := Kd.R_lt HL.out g HG.out.2; omega)
      have HLN := Aside0.mk (Kd.R_grown HL.out hg (fun k hk e => HD1.out (by rw [← e, hk])))
      clear HL HD1
      have HL := HLN
      have HD1 := HDN
      clear HLN HDN
      have HBN := Aside0.mk (pw_below_grown HBX.out _ HBX.out.size hg (fun k hk => HO1.out k hk))
      clear HBX
      have HBX := HBN
      clear HBN
      clear HR1 HO1
      have HR1 := HRN
      have HO1 := HON
      clear HRN HON
      refine hK.out _ _ (SK.out _ HBX.out) (fun hHeld => ?_)
      clear hK K ho hb hg hat
      refine norm_ (a' := ?_) ?_ ?_
      rotate_left
      · show Act.put _ (some 52) _ = _
        simp only [Act.put, List.setIfInBounds_toArray, List.set_cons_zero, List.set_cons_succ, i64_w, i32_w]
        rfl
      exact norm_ (by simp only [putAll, Act.put, List.setIfInBounds_toArray, List.set_cons_zero, List.set_cons_succ]) (hCont (v47, v52, v54) _ ⟨HR1, HBX, HO1, g, HL, ⟨HG.out.1, HG.out.2, HD1.out⟩⟩)
  clear HBX
  rintro ⟨v47, v52, v54⟩ w5 ⟨HR1, HBX, HO1, g, HL, HG⟩
  simp only [putAll, Act.put, List.setIfInBounds_toArray, List.set_cons_zero, List.set_cons_succ] at HR1 HO1 HL HG ⊢
  obtain ⟨A5, c5, e5, hl5, hr5⟩ := OwnRow.reads HL.out.2
  have hHeld := SK.out _ HBX.out
  refine one_ (i := 9) (N := some 55) #[true, true, true, true, true, true, true, true, true, true, false, false, false] rfl rfl (by kernel_rfl) (by decide) (fun K hK => ?_)
  refine Kd.R_append_rows_step (kor k60 w0) (w0 := w4) w0.heap.size (by rfl) (.tmp 52) (.tmp 54) 79 60 (.agg #[.int .i64 0, .int .i64 0, .slice none 0 0]) 40 rfl Try.underlying79 info60 rfl (show 0 < k60.sz from by decide) (by omega) v52 es [(⟨a, b, m⟩ : S60)] A5 1 c5 ok (fun _ => False) rfl e5 HR1.out hr5 ?aM (fun _ hk => hk.elim) ?aF (HBX.out.mono HBW.out) (Nat.le_trans HBW.out HBX.out.size) ?aL ?_
  (case aM => exact fun _ _ hp => (kor k60 w0).M_mono (fun k hk => hk.2 (by rw [hk.1, HG.out.2.1])) hp)
  (case aF => exact fun k hk => HOK4.out k (Nat.le_trans HBX.out.size hk))
  (case aL => omega)
  intro v55 w6 ho hb hg hat
  obtain ⟨A9, c9, hv9⟩ := Kd.R_slice ho
  obtain ⟨n9, hn9⟩ : ∃ n_, (es ++ [(⟨a, b, m⟩ : S60)]).length = n_ := ⟨_, rfl⟩
  rw [hn9] at hv9
  subst hv9
  clear hn9
  have HR9 := Aside0.mk ho
  have HBN := Aside0.mk (pw_below_grown HBX.out _ HBX.out.size hg (fun k hk => HO1.out k hk))
  clear HBX
  have HBX := HBN
  clear HBN HR1 HO1 HL HG
  refine hK.out _ _ (SK.out _ HBX.out) (fun hHeld => ?_)
  clear hK K ho hb hg hat hl5 hr5 e5
  refine norm_ (a' := ?_) ?_ ?_
  rotate_left
  · show Act.put _ (some 55) _ = _
    simp only [Act.put, List.setIfInBounds_toArray, List.set_cons_zero, List.set_cons_succ, i64_w, i32_w]
    rfl
  refine pure_ (i := 10) (N := some 56) (v := ?_) (a' := ?_) #[true, true, true, true, true, true, true, true, true, true, true, false, false] rfl rfl (by kernel_rfl) (fun _ _ _ h => h) (Or.inl ⟨by rfl, ?_⟩) ?_ ?_
  rotate_left
  · intro w'
    go_simp
    with_reducible rfl
  rotate_left
  · simp only [Act.put, List.setIfInBounds_toArray, List.set_cons_zero, List.set_cons_succ, i64_w, i32_w]
    rfl
  refine pure_ (i := 11) (N := some 57) (v := ?_) (a' := ?_) #[true, true, true, true, true, true, true, true, true, true, true, true, false] rfl rfl (by kernel_rfl) (fun _ _ _ h => h) (Or.inl ⟨by rfl, ?_⟩) ?_ ?_
  rotate_left
  · intro w'
    go_simp
    with_reducible rfl
  rotate_left
  · simp only [Act.put, List.setIfInBounds_toArray, List.set_cons_zero, List.set_cons_succ, i64_w, i32_w]
    rfl
  refine last_ (i := 12) (N := none) #[true, true, true, true, true, true, true, true, true, true, true, true, true] rfl rfl (by kernel_rfl) (by decide) (fun K hK => ?_)
  have e1 := hHeld.1.1
  have g1 := hHeld.1.2
  refine skip_ (w1 := ?_) (by rfl) rfl ?_ ?_
  rotate_left
  · go_simp
    rfl
  refine hK.out _ _ ?_
  clear hK K
  refine done_ (by kernel_rfl) ?_
  try go_wp2
  go_ret
  have hM6 := HM4.out.below HBX.out
  have hap := HAP.out
  refine ⟨.slice A9 n9 c9, rfl, ⟨?_, HM4.out.2.1, Kd.R_set HR9.out hM6.1 (show ∀ q, q ∈ 60 :: k60.E → q ≠ 81 from by decide) 3 _⟩, (HB4.out.trans (HBX.out.mono HBW.out)).setCell (p := ⟨gm, 3, none⟩) HM4.out.2.1 _, ((HK4.out.below HBX.out).setCell (p := ⟨gm, 3, none⟩) (Or.inl rfl) _)⟩
  rw [hap]
  exact blk_put (cs := #[.string (X ++ R), .int .i64 room, .bool false, (.slice Am es.length cm)]) hM6.1 3 _ rfl
set_option maxHeartbeats 1600000 in
theorem mapp_torn {gm : Nat} {w0 W : World} {xs : List Int} {room : Int} {es : List S60} {ok : Nat → Prop} {v : Value} {A : Option Addr} {c : Nat} {a b : Int} {m : List S130} {n : Int}
    (h : IsM w0 w0.heap.size gm W (strOfNums xs) room false es ok v) (hr : Kd.C k130 w0 A m.length m) (hc : m.length ≤ c) (h0 : Below w0.heap.size w0 W) (he : entryL a b m ≠ [])
    (hl : xs.length ≤ 100000) (hroom : 0 ≤ room ∧ room ≤ 100000) (hfit : ((recordL a b m).length : Int) ≤ room - (xs.length : Int)) (hes : es.length ≤ 100000) (hok : ∀ k, W.heap.size ≤ k → ok k) :
    Calls Try.prog 55 #[.pointer (some ⟨gm, 0, none⟩), .agg #[.int .i64 a, .int .i64 b, .slice A m.length c], .int .i64 n, .bool true] W (MappPost w0 gm W room ok (0, xs ++ (recordL a b m).take (cutN n (recordL a b m).length).toNat, true, es)) := by
  have HR0 := Aside0.mk hr
  have HC0 := Aside0.mk hc
  have HW0 := Aside0.mk h0
  have HOK := Aside0.mk hok
  have HAP := Aside0.mk (strOf_append xs ((recordL a b m).take (cutN n (recordL a b m).length).toNat))
  have HTK := Aside0.mk (fun k hk => strOf_take (recordL a b m) k hk)
  have HR := Aside0.mk (rec_calls (a := a) (b := b) (Kd.C_alloc (Kd.C_below hr h0) (.cells #[.int .i64 a, .int .i64 b, .slice A m.length c] 60)) hc)
  have HE := Aside0.mk he
  obtain ⟨Am, cm, rfl⟩ := Kd.R_slice h.2.2
  have HM := Aside0.mk h
  have HGM := Aside0.mk (blk_lt h.1)
  clear h hr hc h0 he hok
  go_enter Try.func55, Try.ntmps55
  go_wp2_with fail
  refine HR.out.mono ?_
  rintro e w1 ⟨-, he, hb⟩
  obtain rfl := he HE.out
  have hb1 := below_then (below_alloc (Below.refl W.heap.size W) (.cells #[.int .i64 a, .int .i64 b, .slice A m.length c] 60)) (by simp) hb
  obtain ⟨c0, c1, c2, c3, f0, f2, f3⟩ := cellM4 (HM.out.below hb1).1
  have HB1 := Aside0.mk hb1
  obtain ⟨R, hR⟩ : ∃ R, strOfNums (recordL a b m) = R := ⟨_, rfl⟩
  have hs1 : R.size = (recordL a b m).length := by rw [← hR]; exact strOfNums_size _
  obtain ⟨X, hX⟩ : ∃ X, strOfNums xs = X := ⟨_, rfl⟩
  have hs2 : X.size = xs.length := by rw [← hX]; exact strOfNums_size _
  have hw : wrap64 (room - (X.size : Int)) = room - (X.size : Int) := by unfold wrap64; omega
  have hd : decide (wrap64 (room - (X.size : Int)) < (R.size : Int)) = false := decide_eq_false (by rw [hw, hs1, hs2]; omega)
  have hd1 : ¬ (room - (X.size : Int) < (R.size : Int)) := by rw [hs1, hs2]; omega
  have hd2 : decide (room - (X.size : Int) < (R.size : Int)) = false := decide_eq_false hd1
  rw [hX] at HAP
  rw [hR] at HTK
  have hsum : (X.size : Int) + R.size ≤ 100000 := by omega
  have HM1 := Aside0.mk (HM.out.below hb1)
  have HY1 := Aside0.mk (blk_below (blk_new W (.cells #[.int .i64 a, .int .i64 b, .slice A m.length c] 60)) hb)
  rw [hX] at c0 HM1
  rw [hR]
  obtain ⟨len, hlen⟩ : ∃ len, (recordL a b m).length = len := ⟨_, rfl⟩
  rw [hlen] at HAP HTK hs1 ⊢
  obtain ⟨n1, hn1⟩ : ∃ n1 : Nat, (n1 : Int) = cutN n len ∧ n1 ≤ len := ⟨(cutN n len).toNat, by unfold cutN; split <;> (try split) <;> omega, by unfold cutN; split <;> (try split) <;> omega⟩
  have hst := HTK.out n1 hn1.2
  rw [← hn1.1, Int.toNat_natCast] at HAP ⊢
  rw [← hst] at HAP
  have HS1 := Aside0.mk hs1
  have HLEN := Aside0.mk hlen
  have HN0 := Aside0.mk hn1
  clear hb HR he hb1 hs1 hs2 hfit HM HTK hst hR hX hlen hn1
  go_wp2
  have HB1 := Aside0.mk (below_drew HB1.out)
  refine wp_region_still_tail 12 (by kernel_rfl) (by kernel_rfl) ?_
  simp only [List.take_succ_cons, List.take_zero, List.drop_succ_cons, List.drop_zero]
  change wpStill _ _ w1.drew (fun a' => wpList _ _ _ _ a' w1.drew) _ _
  replace c0 : w1.drew.cell? ⟨gm, 0, none⟩ = some (.string X) := c0
  replace c1 : w1.drew.cell? ⟨gm, 1, none⟩ = some (.int .i64 room) := c1
  replace c2 : w1.drew.cell? ⟨gm, 2, none⟩ = some (.bool false) := c2
  replace c3 : w1.drew.cell? ⟨gm, 3, none⟩ = some (.slice Am es.length cm) := c3
  replace f0 : w1.drew.frozen? ⟨gm, 0, none⟩ = false := f0
  replace f2 : w1.drew.frozen? ⟨gm, 2, none⟩ = false := f2
  have HM2 := Aside0.mk (HM1.out.below (below_drew (Below.refl _ _)))
  have HY2 := Aside0.mk (blk_drew HY1.out)
  clear f3 HM1 HY1
  generalize w1.drew = w2 at c0 c1 c2 c3 f0 f2 HB1 HM2 HY2 ⊢
  iterate 12 still_step
  refine wpStill_nil ?_
  have hn1 := HN0.out
  have hs1 := HS1.out
  have hn2 : n1 ≤ R.size := by have := hn1.2; omega
  have hn3 : (n1 : Int) ≤ (R.size : Int) := by omega
  have key : (n < 0 ∧ n1 = 0) ∨ (n = (n1 : Int)) ∨ ((R.size : Int) < n ∧ n1 = R.size) := by
    have h1 := hn1.1
    unfold cutN at h1
    split at h1
    · by_cases h : n < 0
      · exact Or.inl ⟨h, by omega⟩
      · exact Or.inr (Or.inl (by omega))
    · split at h1
      · exact Or.inr (Or.inl (by omega))
      · exact Or.inr (Or.inr ⟨by omega, by omega⟩)
  clear hn1 hs1
  rcases key with ⟨h1, rfl⟩ | rfl | ⟨h1, rfl⟩
  · have d1 : decide (n < 0) = true := decide_eq_true h1
    have h2 : ¬ ((R.size : Int) < 0) := by omega
    go_wp2
    have HM3 := Aside0.mk (HM2.out.below (below_drew (Below.refl _ _)))
    have HB3 := Aside0.mk (below_drew HB1.out)
    refine wp_region_still_tail 11 (by kernel_rfl) (by kernel_rfl) ?_
    simp only [List.take_succ_cons, List.take_zero, List.drop_succ_cons, List.drop_zero]
    change wpStill _ _ w2.drew (fun a' => wpList _ _ _ _ a' w2.drew) _ _
    replace c0 : w2.drew.cell? ⟨gm, 0, none⟩ = some (.string X) := c0
    replace c2 : w2.drew.cell? ⟨gm, 2, none⟩ = some (.bool false) := c2
    replace f0 : w2.drew.frozen? ⟨gm, 0, none⟩ = false := f0
    replace f2 : w2.drew.frozen? ⟨gm, 2, none⟩ = false := f2
    have hnm : ¬ (9223372036854775807 < X.size) := by omega
    clear c1 c3 HM2 HY2 HB1
    generalize w2.drew = w3 at c0 c2 f0 f2 HM3 HB3 ⊢
    iterate 11 still_step
    refine wpStill_nil ?_
    go_wp2
    go_ret
    have hap : strOfNums (xs ++ List.take (cutN n (recordL a b m).length).toNat (recordL a b m)) = X := by
      have h0 := HAP.out
      have h1 := HN0.out.1
      rw [HLEN.out, ← h1, Int.toNat_natCast, h0]
      simp
    exact ⟨_, rfl, ⟨by rw [hap]; exact blk_put (cs := #[.string X, .int .i64 room, .bool false, .slice Am es.length cm]) (blk_put (cs := #[.string X, .int .i64 room, .bool false, .slice Am es.length cm]) HM3.out.1 0 _ rfl) 2 _ rfl, HM3.out.2.1, Kd.R_set (Kd.R_set HM3.out.2.2 HM3.out.1 (show ∀ q, q ∈ 60 :: k60.E → q ≠ 81 from by decide) 0 _) (blk_put (cs := #[.string X, .int .i64 room, .bool false, .slice Am es.length cm]) HM3.out.1 0 (.string X) rfl) (show ∀ q, q ∈ 60 :: k60.E → q ≠ 81 from by decide) 2 _⟩, ((HB3.out.mono HW0.out.size).setCell (p := ⟨gm, 0, none⟩) HM3.out.2.1 _).setCell (p := ⟨gm, 2, none⟩) HM3.out.2.1 _, ((Kept.of_below HB3.out (fun k => k = gm)).setCell (p := ⟨gm, 0, none⟩) (Or.inl rfl) _).setCell (p := ⟨gm, 2, none⟩) (Or.inl rfl) _⟩
  · have h2 : ¬ ((n1 : Int) < 0) := by omega
    have h3 : ¬ ((R.size : Int) < (n1 : Int)) := by omega
    go_wp2
    have HM3 := Aside0.mk (HM2.out.below (below_drew (Below.refl _ _)))
    have HB3 := Aside0.mk (below_drew HB1.out)
    refine wp_region_still_tail 11 (by kernel_rfl) (by kernel_rfl) ?_
    simp only [List.take_succ_cons, List.take_zero, List.drop_succ_cons, List.drop_zero]
    change wpStill _ _ w2.drew (fun a' => wpList _ _ _ _ a' w2.drew) _ _
    replace c0 : w2.drew.cell? ⟨gm, 0, none⟩ = some (.string X) := c0
    replace c2 : w2.drew.cell? ⟨gm, 2, none⟩ = some (.bool false) := c2
    replace f0 : w2.drew.frozen? ⟨gm, 0, none⟩ = false := f0
    replace f2 : w2.drew.frozen? ⟨gm, 2, none⟩ = false := f2
    have hnm : ¬ (9223372036854775807 < X.size + n1) := by omega
    clear c1 c3 HM2 HY2 HB1
    generalize w2.drew = w3 at c0 c2 f0 f2 HM3 HB3 ⊢
    iterate 11 still_step
    refine wpStill_nil ?_
    go_wp2
    go_ret
    have hap : strOfNums (xs ++ List.take (cutN (n1 : Int) (recordL a b m).length).toNat (recordL a b m)) = (X ++ R.extract 0 n1) := by
      have h0 := HAP.out
      have h1 := HN0.out.1
      rw [HLEN.out, ← h1, Int.toNat_natCast, h0]
    exact ⟨_, rfl, ⟨by rw [hap]; exact blk_put (cs := #[.string (X ++ R.extract 0 n1), .int .i64 room, .bool false, .slice Am es.length cm]) (blk_put (cs := #[.string X, .int .i64 room, .bool false, .slice Am es.length cm]) HM3.out.1 0 _ rfl) 2 _ rfl, HM3.out.2.1, Kd.R_set (Kd.R_set HM3.out.2.2 HM3.out.1 (show ∀ q, q ∈ 60 :: k60.E → q ≠ 81 from by decide) 0 _) (blk_put (cs := #[.string X, .int .i64 room, .bool false, .slice Am es.length cm]) HM3.out.1 0 (.string (X ++ R.extract 0 n1)) rfl) (show ∀ q, q ∈ 60 :: k60.E → q ≠ 81 from by decide) 2 _⟩, ((HB3.out.mono HW0.out.size).setCell (p := ⟨gm, 0, none⟩) HM3.out.2.1 _).setCell (p := ⟨gm, 2, none⟩) HM3.out.2.1 _, ((Kept.of_below HB3.out (fun k => k = gm)).setCell (p := ⟨gm, 0, none⟩) (Or.inl rfl) _).setCell (p := ⟨gm, 2, none⟩) (Or.inl rfl) _⟩
  · have h2 : ¬ (n < 0) := by omega
    go_wp2
    have HM3 := Aside0.mk (HM2.out.below (below_drew (Below.refl _ _)))
    have HB3 := Aside0.mk (below_drew HB1.out)
    refine wp_region_still_tail 11 (by kernel_rfl) (by kernel_rfl) ?_
    simp only [List.take_succ_cons, List.take_zero, List.drop_succ_cons, List.drop_zero]
    change wpStill _ _ w2.drew (fun a' => wpList _ _ _ _ a' w2.drew) _ _
    replace c0 : w2.drew.cell? ⟨gm, 0, none⟩ = some (.string X) := c0
    replace c2 : w2.drew.cell? ⟨gm, 2, none⟩ = some (.bool false) := c2
    replace f0 : w2.drew.frozen? ⟨gm, 0, none⟩ = false := f0
    replace f2 : w2.drew.frozen? ⟨gm, 2, none⟩ = false := f2
    have hnm : ¬ (9223372036854775807 < X.size + R.size) := by omega
    clear c1 c3 HM2 HY2 HB1
    generalize w2.drew = w3 at c0 c2 f0 f2 HM3 HB3 ⊢
    iterate 11 still_step
    refine wpStill_nil ?_
    go_wp2
    go_ret
    have hap : strOfNums (xs ++ List.take (cutN n (recordL a b m).length).toNat (recordL a b m)) = (X ++ R) := by
      have h0 := HAP.out
      have h1 := HN0.out.1
      rw [HLEN.out, ← h1, Int.toNat_natCast, h0]
      simp
    exact ⟨_, rfl, ⟨by rw [hap]; exact blk_put (cs := #[.string (X ++ R), .int .i64 room, .bool false, .slice Am es.length cm]) (blk_put (cs := #[.string X, .int .i64 room, .bool false, .slice Am es.length cm]) HM3.out.1 0 _ rfl) 2 _ rfl, HM3.out.2.1, Kd.R_set (Kd.R_set HM3.out.2.2 HM3.out.1 (show ∀ q, q ∈ 60 :: k60.E → q ≠ 81 from by decide) 0 _) (blk_put (cs := #[.string X, .int .i64 room, .bool false, .slice Am es.length cm]) HM3.out.1 0 (.string (X ++ R)) rfl) (show ∀ q, q ∈ 60 :: k60.E → q ≠ 81 from by decide) 2 _⟩, ((HB3.out.mono HW0.out.size).setCell (p := ⟨gm, 0, none⟩) HM3.out.2.1 _).setCell (p := ⟨gm, 2, none⟩) HM3.out.2.1 _, ((Kept.of_below HB3.out (fun k => k = gm)).setCell (p := ⟨gm, 0, none⟩) (Or.inl rfl) _).setCell (p := ⟨gm, 2, none⟩) (Or.inl rfl) _⟩
theorem mapp_calls {gm : Nat} {w0 W : World} {xs : List Int} {room : Int} {down : Bool} {es : List S60} {ok : Nat → Prop} {v : Value} {A : Option Addr} {c : Nat} {a b : Int} {m : List S130} (n : Int) (torn : Bool)
    (h : IsM w0 w0.heap.size gm W (strOfNums xs) room down es ok v) (hr : Kd.C k130 w0 A m.length m) (hc : m.length ≤ c) (h0 : Below w0.heap.size w0 W)
    (hl : xs.length ≤ 100000) (hroom : 0 ≤ room ∧ room ≤ 100000) (hes : es.length ≤ 100000) (hok : ∀ k, W.heap.size ≤ k → ok k) :
    Calls Try.prog 55 #[.pointer (some ⟨gm, 0, none⟩), .agg #[.int .i64 a, .int .i64 b, .slice A m.length c], .int .i64 n, .bool torn] W (MappPost w0 gm W room ok (mApp xs room down es a b m n torn)) := by
  have low : ∀ (r : Int) (e : Ending) (w' : World), (e = .returned (.int .i64 r) ∧ Below W.heap.size W w') → MappPost w0 gm W room ok (r, xs, down, es) e w' := by
    rintro r e w' ⟨rfl, hb⟩
    exact ⟨v, rfl, h.below hb, hb.mono h0.size, Kept.of_below hb _⟩
  unfold mApp
  by_cases h1 : entryL a b m = []
  · rw [if_pos h1]
    exact (mapp_bad h hr hc h0 h1).mono (low 1)
  rw [if_neg h1]
  cases down with
  | true =>
    rw [if_pos rfl]
    exact (mapp_down h hr hc h0 h1).mono (low 7)
  | false =>
    rw [if_neg (by simp)]
    by_cases h2 : room - (xs.length : Int) < ((recordL a b m).length : Int)
    · rw [if_pos h2]
      exact (mapp_big h hr hc h0 h1 hl hroom h2).mono (low 6)
    · rw [if_neg h2]
      cases torn with
      | true =>
        rw [if_pos rfl]
        exact mapp_torn h hr hc h0 h1 hl hroom (by omega) hes hok
      | false =>
        rw [if_neg (by simp)]
        exact mapp_new h hr hc h0 h1 hl hroom (by omega) hes hok
end Go.Proofs.Ytppfkbigeknedaa.Q
