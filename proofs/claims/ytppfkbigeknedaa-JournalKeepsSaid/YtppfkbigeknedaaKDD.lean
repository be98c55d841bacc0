/- the disk, merged -/
import Derived.Test.YtppfkbigeknedaaKQ0
namespace Go.Proofs.Ytppfkbigeknedaa.Q
open Go.RowKit Go.Proofs.YtppfkbigeknedaaW.PrintWords Go.Proofs.YtppfkbigeknedaaW.PrintLast Go.Proofs.YtppfkbigeknedaaW.PrintMore
set_option linter.unusedVariables false
set_option linter.unusedSimpArgs false
set_option maxRecDepth 100000
attribute [local go_sem] eqe_ii eqe_nn eqe_ni eqe_nni
def IsD (base g : Nat) (W : World) (xs : List Int) (room : Int) (down : Bool) (v : Value) : Prop :=
  W.heap[g]? = some (.cells #[v, .int .i64 room, .bool down] 121 (0, 0)) ∧ base ≤ g ∧ Kd.R (Kd.int .u8) 5 W base (fun k => k ≠ g) v xs ∧ (xs.length : Int) ≤ room ∧ 1 ≤ room ∧ room ≤ 65536
theorem cellD {W : World} {g : Nat} {v : Value} {room : Int} {down : Bool} (hb : W.heap[g]? = some (.cells #[v, .int .i64 room, .bool down] 121 (0, 0))) : W.cell? ⟨g, 0, none⟩ = some v ∧ W.cell? ⟨g, 1, none⟩ = some (.int .i64 room) ∧ W.cell? ⟨g, 2, none⟩ = some (.bool down) :=
  ⟨(blk_cell hb 0).trans rfl, (blk_cell hb 1).trans rfl, (blk_cell hb 2).trans rfl⟩
theorem cellD_any {W : World} {g : Nat} {v : Value} {room : Int} {down : Bool} (hb : W.heap[g]? = some (.cells #[v, .int .i64 room, .bool down] 121 (0, 0))) : W.cell? ⟨g, 0, none⟩ = some v ∧ True := ⟨(blk_cell hb 0).trans rfl, trivial⟩
set_option maxHeartbeats 8000000 in
theorem disk_room {base g : Nat} {W : World} {xs : List Int} {room : Int} {down : Bool} {v : Value} (h : IsD base g W xs room down v) :
    Calls Try.prog 80 #[.pointer (some ⟨g, 0, none⟩)] W fun e w' => e = .returned (.int .i64 (room - xs.length)) ∧ ∃ n, w' = W.drewN n := by
  obtain ⟨hb, hg, hr, hl, h1, h2⟩ := h
  obtain ⟨A, c, rfl⟩ := Kd.R_slice hr
  obtain ⟨c0, c1, c2⟩ := cellD hb
  have HX : wrap64 (room - (xs.length : Int)) = room - xs.length := by unfold wrap64; omega
  clear hb hr
  go_enter Try.func80, Try.ntmps80
  go_wp2
  repeat (go_quiet (fail); try go_wp2)
  go_ret
  refine ⟨?_, ⟨_, rfl⟩⟩
  first | rfl | (simp only [wrap64_eq]; rw [HX]) | (rw [HX]) | (simp [HX]; done) | trace_state
set_option maxHeartbeats 8000000 in
theorem disk_new_bad (n : Int) (w : World) (h : n < 1 ∨ 65536 < n) :
    Calls Try.prog 35 #[.int .i64 n] w fun e w' => e = .returned (.tuple #[.pointer none, .iface 66 (.int .i64 1)]) ∧ Below w.heap.size w w' := by
  by_cases hn : n < 1
  · go_enter Try.func35, Try.ntmps35
    go_wp2
    go_ret2
    exact ⟨rfl, by repeat (first | (with_reducible first | apply below_alloc | apply pw_below_drewN | apply below_drew1 | exact Below.refl _ _))⟩
  · have hm : 65536 < n := by omega
    go_enter Try.func35, Try.ntmps35
    go_wp2
    go_ret2
    exact ⟨rfl, by repeat (first | (with_reducible first | apply below_alloc | apply pw_below_drewN | apply below_drew1 | exact Below.refl _ _))⟩
set_option maxHeartbeats 8000000 in
theorem disk_new (n : Int) (w : World) (h1 : 1 ≤ n) (h2 : n ≤ 65536) :
    Calls Try.prog 35 #[.int .i64 n] w fun e w' => ∃ g, e = .returned (.tuple #[.pointer (some ⟨g, 0, none⟩), .nilIface]) ∧ IsD w.heap.size g w' [] n false (.slice none 0 0) ∧ Below w.heap.size w w' := by
  have hn : ¬ n < 1 := by omega
  have hm : ¬ 65536 < n := by omega
  go_enter Try.func35, Try.ntmps35
  go_wp2_with (first | ((with_reducible refine gate_dst (N := 13) rfl ?_); refine box_event ?hg (N := 13) ?hd (cs := #[.slice none 0 0, .int .i64 n, .bool false]) (t := 121) ?hr ?_; (case hd => rfl); (case hg => rfl); (case hr => first | (go_simp; done) | (go_simp; rfl)); intro gb101 hg w9 hbox hb; have HG := Aside0.mk hg; have HBX := Aside0.mk hbox; have HB := Aside0.mk hb; clear hg hbox hb))
  go_ret2
  refine ⟨gb101, rfl, ⟨HBX.out, by rw [HG.out]; exact Nat.le_refl _, Kd.R_nil _ _ _ _ _, by simp; omega, h1, h2⟩, HB.out⟩
set_option maxHeartbeats 8000000 in
theorem clone_u8 {W : World} {A : Option Addr} {m c : Nat} {ys : List Int} (h : Kd.C (Kd.int .u8) W A m ys) (hm : m ≤ 65536) :
    Calls Try.prog 81 #[.slice A m c] W fun e w' => ∃ v, e = .returned v ∧ Kd.R (Kd.int .u8) 5 w' W.heap.size (fun _ => True) v ys ∧ Below W.heap.size W w' := by
  have HR := Aside0.mk h
  have hm' := Aside0.mk hm
  clear h hm
  cases A with
  | none =>
    have he : ∀ w : World, (binOp .eql 46 (.slice none m c) (.slice none 0 0)).run Try.prog w = .ok (.bool true) w := fun _ => rfl
    go_enter Try.func81, Try.ntmps81
    go_wp2
    go_ret
    have h := HR.out
    have : ys = [] := by
      have := h.1
      cases ys with
      | nil => rfl
      | cons y l => obtain ⟨ad, h1, _⟩ := h.2.2 (by simp at this; omega); cases h1
    subst this
    exact ⟨_, rfl, Kd.R_nil _ _ _ _ _, by repeat (first | (with_reducible first | apply below_alloc | apply pw_below_drewN | apply below_drew1 | exact Below.refl _ _))⟩
  | some ad =>
    have he : ∀ w : World, (binOp .eql 46 (.slice (some ad) m c) (.slice none 0 0)).run Try.prog w = .ok (.bool false) w := fun _ => rfl
    go_enter Try.func81, Try.ntmps81
    go_wp2_with (first
      | ((with_reducible refine gate_dst (N := 5) rfl ?_); refine Kd.R_lit (Kd.int .u8) (w0 := W) W.heap.size 5 ?hg (N := 5) ?hd (xs := ([] : List Int)) (inner := []) (ok := fun _ => True) (okp := fun _ => True) ?hr ?hp (fun _ hk => hk) trivial (Below.refl _ _) (Nat.le_refl _) (by simp) ?_; (case hd => rfl); (case hg => rfl); (case hr => first | (go_simp; done) | (go_simp; rfl)); (case hp => exact Reps.none _ _); intro v1 w1 ho hb hg_ hnew_; have HO := Aside0.mk ho; have HB := Aside0.mk hb; clear ho hb hg_ hnew_)
      | ((with_reducible refine gate_builtin (b := .append) (xs := #[.tmp 5, .tmp 6]) rfl ?_); at_builtin; refine Kd.R_append_rows (Kd.int .u8) (w0 := W) W.heap.size rfl (.tmp 5) (.tmp 6) 46 5 (.int .u8 0) 1 rfl Try.underlying46 info5 rfl (by decide) (by omega) v1 [] ys (some ad) m c (fun _ => True) (fun _ => False) rfl rfl ?aO ?aR (fun _ _ h => h) (fun _ h => h.elim) ?aF ?aB ?aS ?aL ?_; (case aR => exact Kd.C_below HR.out HB.out); (case aB => exact HB.out); (case aF => exact fun _ _ => trivial); (case aO => exact HO.out); (case aS => exact below_size HB.out); (case aL => have := hm'.out; simp; omega); intro v2 w2 ho hb hg hat; have HO2 := Aside0.mk ho; have HB2 := Aside0.mk hb; clear ho hb hg hat))
    go_ret
    exact ⟨_, rfl, HO2.out, HB2.out⟩
theorem IsD.drewN {base g : Nat} {W : World} {xs : List Int} {room : Int} {down : Bool} {v : Value} (h : IsD base g W xs room down v) (n : Nat) : IsD base g (W.drewN n) xs room down v :=
  ⟨h.1, h.2.1, Kd.R_drewN h.2.2.1 n, h.2.2.2⟩
theorem kept_set {W w1 : World} {S : Nat → Prop} (h : Kept W w1 S) (p : Addr) (u : Value) (hp : S p.block) : Kept W (w1.setCell p u) S :=
  ⟨Nat.le_trans h.1 (Nat.le_of_eq (World.size_setCell _ _ _).symm), fun i hi hn => (Below.heap_setCell w1 p u i (fun e => hn (e ▸ hp))).trans (h.2 i hi hn)⟩
theorem kept_drewN (W : World) (n : Nat) (S : Nat → Prop) : Kept W (W.drewN n) S := ⟨Nat.le_refl _, fun _ _ _ => rfl⟩
def dApp (xs ys : List Int) (room : Int) (down : Bool) : Option Int × List Int :=
  if down = true then (some 7, xs) else if room - xs.length < ys.length then (some 6, xs) else (none, xs ++ ys)
set_option maxHeartbeats 8000000 in
theorem disk_append {base g : Nat} {W : World} {xs ys : List Int} {room : Int} {down : Bool} {v : Value} {A : Option Addr} {m c : Nat} (h : IsD base g W xs room down v) (hy : Kd.C (Kd.int .u8) W A m ys) :
    Calls Try.prog 36 #[.pointer (some ⟨g, 0, none⟩), .slice A m c] W fun e w' => ∃ v', e = .returned (errW (dApp xs ys room down).1) ∧ IsD base g w' (dApp xs ys room down).2 room down v' ∧
      Below base W w' ∧ Kept W w' (fun k => k = g ∨ v.ownBlock = some k) ∧ (v'.ownBlock = v.ownBlock ∨ ∃ b, v'.ownBlock = some b ∧ W.heap.size ≤ b) := by
  have H := Aside0.mk h
  have HY := Aside0.mk hy
  have hm : ys.length = m := hy.1
  obtain ⟨hb, hg, hr, hl, h1, h2⟩ := h
  obtain ⟨B, d, rfl⟩ := Kd.R_slice hr
  obtain ⟨c0, c1, c2⟩ := cellD hb
  have f0 := blk_frozen hb 0
  have HB0 := Aside0.mk hb
  have HR0 := Aside0.mk hr
  have HG0 := Aside0.mk hg
  have HL := Aside0.mk hl
  have H2 := Aside0.mk h2
  clear hb hr hl h2 h1 hg hy
  cases down with
  | true =>
    go_enter Try.func36, Try.ntmps36
    go_wp2
    go_ret
    exact ⟨_, rfl, H.out, Below.refl _ _, Kept.refl _ _, Or.inl rfl⟩
  | false =>
    by_cases hf : room - xs.length < (m : Int)
    · have he : dApp xs ys room false = (some 6, xs) := by unfold dApp; rw [if_neg (by simp), if_pos (by rw [hm]; exact hf)]
      rw [he]
      have HE := Aside0.mk he
      clear he
      go_enter Try.func36, Try.ntmps36
      go_wp2_with (go_at_call 80; refine (disk_room H.out).mono ?_; rintro e w' ⟨rfl, n, rfl⟩)
      go_ret
      exact ⟨_, rfl, H.out.drewN n, pw_below_drewN (Below.refl _ _) _, kept_drewN _ _ _, Or.inl rfl⟩
    · have he : dApp xs ys room false = (none, xs ++ ys) := by unfold dApp; rw [if_neg (by simp), if_neg (by rw [hm]; exact hf)]
      rw [he]
      have HE := Aside0.mk he
      have HF := Aside0.mk hf
      have hne : some g ≠ (Value.slice B xs.length d).ownBlock := fun e => HR0.out.1 g e.symm rfl
      have hlt : g < W.heap.size := blk_lt HB0.out
      clear he
      go_enter Try.func36, Try.ntmps36
      go_wp2_with (first
        | (go_at_call 80; refine (disk_room H.out).mono ?_; rintro e w' ⟨rfl, n, rfl⟩)
        | ((with_reducible refine gate_builtin (b := .append) (xs := #[.tmp 22, .tmp 23]) rfl ?_); at_builtin; refine Kd.R_append_rows (Kd.int .u8) (w0 := W) base rfl (.tmp 22) (.tmp 23) 46 5 (.int .u8 0) 1 rfl Try.underlying46 info5 rfl (by decide) (by omega) (.slice B xs.length d) xs ys A m c (fun k => k ≠ g) (fun _ => False) rfl rfl ?aO ?aR (fun _ _ h => h) (fun _ h => h.elim) ?aF ?aB ?aS ?aL ?_; (case aR => exact Kd.C_drewN HY.out _); (case aB => exact pw_below_drewN (Below.refl _ _) _); (case aF => intro k hk e; subst e; exact absurd hlt (Nat.not_lt.2 hk)); (case aO => exact Kd.R_drewN HR0.out _); (case aS => exact Nat.le_of_lt (Nat.lt_of_le_of_lt HG0.out hlt)); (case aL => have := H2.out; have := HF.out; omega); intro v1 w1 ho hb hg hat; obtain ⟨A1, d1, rfl⟩ := Kd.R_slice ho; have HO := Aside0.mk ho; have HB := Aside0.mk hb; have HGW := Aside0.mk hg; have HAT := Aside0.mk hat; have hb1 := blk_grown (blk_drewN HB0.out n) hg hne; have e0 := (cellD_any hb1).1; have g0 := blk_frozen hb1 0; have HB1 := Aside0.mk hb1; clear ho hb hg hat hb1))


      go_ret
      refine ⟨_, rfl, ?_, ?_, ?_, HAT.out⟩
      · have el : (xs ++ ys).length = xs.length + m := by simp [hm]
        refine ⟨?_, HG0.out, Kd.R_far HO.out (fun k hk => hk) _, ?_, ?_, H2.out⟩
        · rw [el]; exact blk_put (cs := #[.slice B xs.length d, .int .i64 room, .bool false]) HB1.out 0 _ rfl
        · have := HF.out; simp; omega
        · exact H.out.2.2.2.2.1
      · exact HB.out.setCell HG0.out _
      · exact kept_set (Kept.of_grown HGW.out (kept_drewN _ _ _) (fun k hk => Or.inl (Or.inr hk))) _ _ (Or.inl rfl)
set_option maxHeartbeats 8000000 in
theorem disk_bytes {base g : Nat} {W : World} {xs : List Int} {room : Int} {down : Bool} {v : Value} (h : IsD base g W xs room down v) :
    Calls Try.prog 37 #[.pointer (some ⟨g, 0, none⟩)] W fun e w' => ∃ v2, e = .returned v2 ∧ Kd.R (Kd.int .u8) 5 w' W.heap.size (fun _ => True) v2 xs ∧ Below W.heap.size W w' := by
  have H := Aside0.mk h
  obtain ⟨hb, hg, hr, hl, h1, h2⟩ := h
  obtain ⟨B, d, rfl⟩ := Kd.R_slice hr
  obtain ⟨c0, c1, c2⟩ := cellD hb
  have HC := Aside0.mk (clone_u8 (c := d) (Kd.R_reads' hr).2.2 (by omega))
  clear hb hr hl h1 h2 hg c1 c2
  go_enter Try.func37, Try.ntmps37
  go_wp2_with (go_at_call 81; refine HC.out.mono ?_; rintro e w' ⟨v2, rfl, hr2, hb2⟩)
  go_ret
  exact ⟨_, rfl, by assumption, by assumption⟩
def dTear (xs ys : List Int) (room : Int) (down : Bool) (n : Int) : Option Int × List Int × Bool :=
  if down = true then (some 7, xs, down) else if room - xs.length < ys.length then (some 6, xs, down) else if n < 0 ∨ (ys.length : Int) < n then (some 1, xs, down) else (none, xs ++ ys.take n.toNat, true)
theorem C_take {W : World} {A : Option Addr} {m : Nat} {ys : List Int} (h : Kd.C (Kd.int .u8) W A m ys) (n : Nat) (hn : n ≤ m) : Kd.C (Kd.int .u8) W A n (ys.take n) := by
  obtain ⟨h1, h2, h3⟩ := h
  refine ⟨by simp; omega, by omega, fun h0 => ?_⟩
  obtain ⟨ad, ha, hc⟩ := h3 (by omega)
  refine ⟨ad, ha, fun j p hj => hc j p ?_⟩
  rw [List.getElem?_take] at hj
  split at hj
  · exact hj
  · cases hj
set_option maxHeartbeats 8000000 in
theorem disk_tear {base g : Nat} {W : World} {xs ys : List Int} {room : Int} {down : Bool} {v : Value} {A : Option Addr} {m c : Nat} {n : Int} (h : IsD base g W xs room down v) (hy : Kd.C (Kd.int .u8) W A m ys) (hmc : m ≤ c) :
    Calls Try.prog 38 #[.pointer (some ⟨g, 0, none⟩), .slice A m c, .int .i64 n] W fun e w' => ∃ v', e = .returned (errW (dTear xs ys room down n).1) ∧ IsD base g w' (dTear xs ys room down n).2.1 room (dTear xs ys room down n).2.2 v' ∧
      Below base W w' ∧ Kept W w' (fun k => k = g ∨ v.ownBlock = some k) ∧ (v'.ownBlock = v.ownBlock ∨ ∃ b, v'.ownBlock = some b ∧ W.heap.size ≤ b) := by
  have H := Aside0.mk h
  have HY := Aside0.mk hy
  have hm : ys.length = m := hy.1
  obtain ⟨hb, hg, hr, hl, h1, h2⟩ := h
  obtain ⟨B, d, rfl⟩ := Kd.R_slice hr
  obtain ⟨c0, c1, c2⟩ := cellD hb
  have f0 := blk_frozen hb 0
  have HB0 := Aside0.mk hb
  have HR0 := Aside0.mk hr
  have HG0 := Aside0.mk hg
  have HL := Aside0.mk hl
  have H2 := Aside0.mk h2
  clear hb hr hl h2 h1 hg hy
  cases down with
  | true =>
    go_enter Try.func38, Try.ntmps38
    go_wp2
    go_ret
    exact ⟨_, rfl, H.out, Below.refl _ _, Kept.refl _ _, Or.inl rfl⟩
  | false =>
    by_cases hf : room - xs.length < (m : Int)
    · have he : dTear xs ys room false n = (some 6, xs, false) := by unfold dTear; rw [if_neg (by simp), if_pos (by rw [hm]; exact hf)]
      rw [he]
      have HE := Aside0.mk he
      clear he
      go_enter Try.func38, Try.ntmps38
      go_wp2_with (go_at_call 80; refine (disk_room H.out).mono ?_; rintro e w' ⟨rfl, n, rfl⟩)
      go_ret
      exact ⟨_, rfl, H.out.drewN _, pw_below_drewN (Below.refl _ _) _, kept_drewN _ _ _, Or.inl rfl⟩
    · by_cases hn0 : n < 0
      · have he : dTear xs ys room false n = (some 1, xs, false) := by unfold dTear; rw [if_neg (by simp), if_neg (by rw [hm]; exact hf), if_pos (Or.inl hn0)]
        rw [he]
        have HE := Aside0.mk he
        clear he
        go_enter Try.func38, Try.ntmps38
        go_wp2_with (go_at_call 80; refine (disk_room H.out).mono ?_; rintro e w' ⟨rfl, n, rfl⟩)
        go_ret
        exact ⟨_, rfl, H.out.drewN _, pw_below_drewN (Below.refl _ _) _, kept_drewN _ _ _, Or.inl rfl⟩
      by_cases hn1 : (m : Int) < n
      · have he : dTear xs ys room false n = (some 1, xs, false) := by unfold dTear; rw [if_neg (by simp), if_neg (by rw [hm]; exact hf), if_pos (Or.inr (by rw [hm]; exact hn1))]
        rw [he]
        have HE := Aside0.mk he
        clear he
        go_enter Try.func38, Try.ntmps38
        go_wp2_with (go_at_call 80; refine (disk_room H.out).mono ?_; rintro e w' ⟨rfl, n, rfl⟩)
        go_ret
        exact ⟨_, rfl, H.out.drewN _, pw_below_drewN (Below.refl _ _) _, kept_drewN _ _ _, Or.inl rfl⟩
      have he : dTear xs ys room false n = (none, xs ++ ys.take n.toNat, true) := by unfold dTear; rw [if_neg (by simp), if_neg (by rw [hm]; exact hf), if_neg (by rw [hm]; omega)]
      rw [he]
      have HE := Aside0.mk he
      have HF := Aside0.mk hf
      have hne : some g ≠ (Value.slice B xs.length d).ownBlock := fun e => HR0.out.1 g e.symm rfl
      have hlt : g < W.heap.size := blk_lt HB0.out
      clear he
      go_enter Try.func38, Try.ntmps38
      go_wp2_with (go_at_call 80; refine (disk_room H.out).mono ?_; rintro e w' ⟨rfl, n1, rfl⟩)
      have HNC := Aside0.mk (show n ≤ (c : Int) by omega)
      refine start_ (n := 16) (S := fun w' => w'.cell? ⟨g, 0, none⟩ = some (.slice B xs.length d)) (ds := [12, 15]) #[false, false, false, false, false, false, false, false, false, false, false, false, false, false, false, false] (by kernel_rfl) rfl rfl c0 (fun hHeld => ?_)
      refine pure_ (i := 0) (N := some 30) (v := ?_) (a' := ?_) #[true, false, false, false, false, false, false, false, false, false, false, false, false, false, false, false] rfl rfl (by kernel_rfl) (fun _ _ _ h => h) (Or.inl ⟨by rfl, ?_⟩) ?_ ?_
      rotate_left
      · intro w'
        go_simp
        first | with_reducible rfl | (rw [if_pos HNC.out])
      rotate_left
      · simp only [Act.put, List.setIfInBounds_toArray, List.set_cons_zero, List.set_cons_succ, i64_w, i32_w]
        rfl
      refine pure_ (i := 1) (N := some 31) (v := ?_) (a' := ?_) #[true, true, false, false, false, false, false, false, false, false, false, false, false, false, false, false] rfl rfl (by kernel_rfl) (fun _ _ _ h => h) (Or.inl ⟨by rfl, ?_⟩) ?_ ?_
      rotate_left
      · intro w'
        go_simp
        first | with_reducible rfl | (rw [if_pos HNC.out])
      rotate_left
      · simp only [Act.put, List.setIfInBounds_toArray, List.set_cons_zero, List.set_cons_succ, i64_w, i32_w]
        rfl
      refine pure_ (i := 2) (N := some 32) (v := ?_) (a' := ?_) #[true, true, true, false, false, false, false, false, false, false, false, false, false, false, false, false] rfl rfl (by kernel_rfl) (fun _ _ _ h => h) (Or.inl ⟨by rfl, ?_⟩) ?_ ?_
      rotate_left
      · intro w'
        go_simp
        first | with_reducible rfl | (rw [if_pos HNC.out])
      rotate_left
      · simp only [Act.put, List.setIfInBounds_toArray, List.set_cons_zero, List.set_cons_succ, i64_w, i32_w]
        rfl
      refine pure_ (i := 3) (N := some 33) (v := ?_) (a' := ?_) #[true, true, true, true, false, false, false, false, false, false, false, false, false, false, false, false] rfl rfl (by kernel_rfl) (fun _ _ _ h => h) (Or.inl ⟨by rfl, ?_⟩) ?_ ?_
      rotate_left
      · intro w'
        go_simp
        first | with_reducible rfl | (rw [if_pos HNC.out])
      rotate_left
      · simp only [Act.put, List.setIfInBounds_toArray, List.set_cons_zero, List.set_cons_succ, i64_w, i32_w]
        rfl
      refine pure_ (i := 4) (N := some 34) (v := ?_) (a' := ?_) #[true, true, true, true, true, false, false, false, false, false, false, false, false, false, false, false] rfl rfl (by kernel_rfl) (fun _ _ _ h => h) (Or.inl ⟨by rfl, ?_⟩) ?_ ?_
      rotate_left
      · intro w'
        go_simp
        first | with_reducible rfl | (rw [if_pos HNC.out])
      rotate_left
      · simp only [Act.put, List.setIfInBounds_toArray, List.set_cons_zero, List.set_cons_succ, i64_w, i32_w]
        rfl
      refine pure_ (i := 6) (N := some 36) (v := ?_) (a' := ?_) #[true, true, true, true, true, false, true, false, false, false, false, false, false, false, false, false] rfl rfl (by kernel_rfl) (fun _ _ _ h => h) (Or.inl ⟨by rfl, ?_⟩) ?_ ?_
      rotate_left
      · intro w'
        go_simp
        first | with_reducible rfl | (rw [if_pos HNC.out])
      rotate_left
      · simp only [Act.put, List.setIfInBounds_toArray, List.set_cons_zero, List.set_cons_succ, i64_w, i32_w]
        rfl
      refine pure_ (i := 7) (N := some 37) (v := ?_) (a' := ?_) #[true, true, true, true, true, false, true, true, false, false, false, false, false, false, false, false] rfl rfl (by kernel_rfl) (fun _ _ _ h => h) (Or.inl ⟨by rfl, ?_⟩) ?_ ?_
      rotate_left
      · intro w'
        go_simp
        first | with_reducible rfl | (rw [if_pos HNC.out])
      rotate_left
      · simp only [Act.put, List.setIfInBounds_toArray, List.set_cons_zero, List.set_cons_succ, i64_w, i32_w]
        rfl
      refine pure_ (i := 8) (N := some 38) (v := ?_) (a' := ?_) #[true, true, true, true, true, false, true, true, true, false, false, false, false, false, false, false] rfl rfl (by kernel_rfl) (fun _ _ _ h => h) (Or.inl ⟨by rfl, ?_⟩) ?_ ?_
      rotate_left
      · intro w'
        go_simp
        first | with_reducible rfl | (rw [if_pos HNC.out])
      rotate_left
      · simp only [Act.put, List.setIfInBounds_toArray, List.set_cons_zero, List.set_cons_succ, i64_w, i32_w]
        rfl
      refine take_ (i := 5) (N := some 35) (v := ?_) (a' := ?_) #[true, true, true, true, true, true, true, true, true, false, false, false, false, false, false, false] rfl rfl (by kernel_rfl) (fun _ _ _ h => h) (Or.inl ⟨by rfl, ?_⟩) hHeld ?_ ?_
      rotate_left
      · intro w' s0
        go_simp
        with_reducible rfl
      rotate_left
      · simp only [Act.put, List.setIfInBounds_toArray, List.set_cons_zero, List.set_cons_succ, i64_w, i32_w]
        rfl
      refine one_ (i := 9) (N := some 39) #[true, true, true, true, true, true, true, true, true, true, false, false, false, false, false, false] rfl rfl (by kernel_rfl) (by decide) (fun K hK => ?_)
      refine Kd.R_append_rows_step (Kd.int .u8) (w0 := W) base (by rfl) (.tmp 35) (.tmp 38) 46 5 (.int .u8 0) 1 rfl Try.underlying46 info5 rfl (by decide) (by omega) (.slice B xs.length d) xs (ys.take n.toNat) A n.toNat c (fun k => k ≠ g) (fun _ => False) rfl rfl ?aO ?aR (fun _ _ h => h) (fun _ h => h.elim) ?aF ?aB ?aS ?aL ?_
      (case aR => ((with_reducible repeat (first | refine Kd.C_drewN ?_ _ | refine Kd.C_drew ?_)); exact C_take HY.out n.toNat (by omega)))
      (case aB => ((with_reducible repeat (first | refine pw_below_drewN ?_ _ | refine below_drew1 ?_)); exact Below.refl _ _))
      (case aF => intro k hk e; subst e; exact absurd hlt (Nat.not_lt.2 hk))
      (case aO => ((with_reducible repeat (first | apply Kd.R_drewN | apply Kd.R_drew)); exact HR0.out))
      (case aS => exact Nat.le_of_lt (Nat.lt_of_le_of_lt HG0.out hlt))
      (case aL => have := H2.out; have := HF.out; omega)
      intro v1 w1 ho hb hg hat
      obtain ⟨A1, d1, rfl⟩ := Kd.R_slice ho
      have HO := Aside0.mk ho
      have HB := Aside0.mk hb
      have HGW := Aside0.mk hg
      have HAT := Aside0.mk hat
      have hb1 := blk_grown (by (with_reducible repeat (first | refine blk_drewN ?_ _ | refine blk_drew ?_)); exact HB0.out) hg hne
      have HB1 := Aside0.mk hb1
      refine hK.out _ _ (cellD hb1).1 (fun hHeld => ?_)
      clear ho hb hg hat hb1 hK K
      refine norm_ (a' := ?_) ?_ ?_
      rotate_left
      · simp only [Act.put, List.setIfInBounds_toArray, List.set_cons_zero, List.set_cons_succ, i64_w, i32_w]
        rfl
      refine pure_ (i := 10) (N := some 40) (v := ?_) (a' := ?_) #[true, true, true, true, true, true, true, true, true, true, true, false, false, false, false, false] rfl rfl (by kernel_rfl) (fun _ _ _ h => h) (Or.inl ⟨by rfl, ?_⟩) ?_ ?_
      rotate_left
      · intro w'
        go_simp
        first | with_reducible rfl | (rw [if_pos HNC.out])
      rotate_left
      · simp only [Act.put, List.setIfInBounds_toArray, List.set_cons_zero, List.set_cons_succ, i64_w, i32_w]
        rfl
      refine pure_ (i := 11) (N := some 41) (v := ?_) (a' := ?_) #[true, true, true, true, true, true, true, true, true, true, true, true, false, false, false, false] rfl rfl (by kernel_rfl) (fun _ _ _ h => h) (Or.inl ⟨by rfl, ?_⟩) ?_ ?_
      rotate_left
      · intro w'
        go_simp
        first | with_reducible rfl | (rw [if_pos HNC.out])
      rotate_left
      · simp only [Act.put, List.setIfInBounds_toArray, List.set_cons_zero, List.set_cons_succ, i64_w, i32_w]
        rfl
      refine last_ (i := 12) (N := none) #[true, true, true, true, true, true, true, true, true, true, true, true, true, false, false, false] rfl rfl (by kernel_rfl) (by decide) (fun K hK => ?_)
      have e0 := (cellD HB1.out).1
      have g0 := blk_frozen HB1.out 0
      refine skip_ (w1 := ?_) (by rfl) rfl ?_ ?_
      rotate_left
      · go_simp
        rfl
      refine hK.out _ _ ?_
      clear hK K e0 g0
      have HB2 := Aside0.mk (blk_put (cs := #[.slice B xs.length d, .int .i64 room, .bool false]) HB1.out 0 (.slice A1 (xs.length + n.toNat) d1) rfl)
      have el : (xs ++ ys.take n.toNat).length = xs.length + n.toNat := by simp; omega
      refine pure_ (i := 13) (N := some 42) (v := ?_) (a' := ?_) #[true, true, true, true, true, true, true, true, true, true, true, true, true, true, false, false] rfl rfl (by kernel_rfl) (fun _ _ _ h => h) (Or.inl ⟨by rfl, ?_⟩) ?_ ?_
      rotate_left
      · intro w'
        go_simp
        first | with_reducible rfl | (rw [if_pos HNC.out])
      rotate_left
      · simp only [Act.put, List.setIfInBounds_toArray, List.set_cons_zero, List.set_cons_succ, i64_w, i32_w]
        rfl
      refine pure_ (i := 14) (N := some 43) (v := ?_) (a' := ?_) #[true, true, true, true, true, true, true, true, true, true, true, true, true, true, true, false] rfl rfl (by kernel_rfl) (fun _ _ _ h => h) (Or.inl ⟨by rfl, ?_⟩) ?_ ?_
      rotate_left
      · intro w'
        go_simp
        first | with_reducible rfl | (rw [if_pos HNC.out])
      rotate_left
      · simp only [Act.put, List.setIfInBounds_toArray, List.set_cons_zero, List.set_cons_succ, i64_w, i32_w]
        rfl
      refine last_ (i := 15) (N := none) #[true, true, true, true, true, true, true, true, true, true, true, true, true, true, true, true] rfl rfl (by kernel_rfl) (by decide) (fun K hK => ?_)
      have e2 := (cellD HB1.out).2.2
      have g2 := blk_frozen HB1.out 2
      refine skip_ (w1 := ?_) (by rfl) rfl ?_ ?_
      rotate_left
      · go_simp
        rfl
      refine hK.out _ _ ?_
      clear hK K e2 g2
      refine done_ (by kernel_rfl) ?_
      try go_wp2
      go_ret
      refine ⟨.slice A1 (xs ++ ys.take n.toNat).length d1, rfl, ⟨?_, HG0.out, ?_, ?_, H.out.2.2.2.2.1, H2.out⟩, ?_, ?_, HAT.out⟩
      · rw [el]
        exact blk_put (cs := #[.slice A1 (xs.length + n.toNat) d1, .int .i64 room, .bool false]) HB2.out 2 (.bool true) rfl
      · exact Kd.R_far (Kd.R_far HO.out (fun k hk => hk) _) (fun k hk => hk) _
      · rw [el]
        have := HF.out
        omega
      · exact (HB.out.setCell HG0.out _).setCell HG0.out _
      · have k0 : Kept W (W.drewN n1).drew (fun k => k = g ∨ (Value.slice B xs.length d).ownBlock = some k) := Kept.drew (Kept.drewN (Kept.refl W _) n1)
        have k1 := Kept.of_grown HGW.out k0 (fun k hk => Or.inl (Or.inr hk))
        exact Kept.setCell (Kept.setCell k1 (p := ⟨g, 0, none⟩) (Or.inl (Or.inl rfl)) _) (p := ⟨g, 2, none⟩) (Or.inl (Or.inl rfl)) _
end Go.Proofs.Ytppfkbigeknedaa.Q
namespace Go.Proofs.Ytppfkbigeknedaa.Q
open Go.RowKit Go.Proofs.YtppfkbigeknedaaW.PrintWords Go.Proofs.YtppfkbigeknedaaW.PrintLast Go.Proofs.YtppfkbigeknedaaW.PrintMore
set_option linter.unusedVariables false
set_option linter.unusedSimpArgs false
set_option maxRecDepth 100000
attribute [local go_sem] eqe_ii eqe_nn eqe_ni eqe_nni
set_option maxHeartbeats 1600000 in
theorem disk_up {base g : Nat} {W : World} {xs : List Int} {room : Int} {down : Bool} {v : Value} (h : IsD base g W xs room down v) :
    Calls Try.prog 97 #[.pointer (some ⟨g, 0, none⟩)] W fun e w' => e = .returned (.tuple #[]) ∧ IsD base g w' xs room false v ∧ Below base W w' ∧ Kept W w' (fun k => k = g) := by
  have H := Aside0.mk h
  obtain ⟨c0, c1, c2⟩ := cellD h.1
  have f2 := blk_frozen h.1 2
  clear h
  go_enter Try.func97, Try.ntmps97
  go_wp2
  refine bodyPost_end (results_none rfl _ _ _) rfl ⟨rfl, ⟨?_, H.out.2.1, Kd.R_far H.out.2.2.1 (fun k hk => hk) _, H.out.2.2.2⟩, (Below.refl _ _).setCell H.out.2.1 _, Kept.setCell (p := ⟨g, 2, none⟩) (Kept.refl W (fun k => k = g)) (Or.inl rfl) _⟩
  exact blk_put (cs := #[v, .int .i64 room, .bool down]) H.out.1 2 _ rfl
set_option maxHeartbeats 1600000 in
theorem disk_trim {base g : Nat} {W : World} {xs : List Int} {room : Int} {v : Value} (h : IsD base g W xs room false v) (n : Nat) (hn : n ≤ xs.length) :
    Calls Try.prog 99 #[.pointer (some ⟨g, 0, none⟩), .int .i64 (n : Int)] W fun e w' => ∃ v', e = .returned .nilIface ∧ IsD base g w' (xs.take n) room false v' ∧ Below base W w' ∧ Kept W w' (fun k => k = g) ∧ v'.ownBlock = v.ownBlock := by
  have H := Aside0.mk h
  obtain ⟨A, c, rfl⟩ := Kd.R_slice h.2.2.1
  obtain ⟨c0, c1, c2⟩ := cellD h.1
  have f0 := blk_frozen h.1 0
  have hrd := Kd.R_reads' h.2.2.1
  obtain ⟨i5, hi5, hz⟩ := Option.map_eq_some_iff.1 info5
  have hcut := cut_to (P := Try.prog) 46 5 .i64 Try.underlying46 hi5 A xs.length c (n : Int) (by omega) (by omega) hrd.2.1
  have hle : ¬ ((xs.length : Int) < (n : Int)) := by omega
  have hd : decide ((xs.length : Int) < (n : Int)) = false := decide_eq_false hle
  have hd2 : decide (xs.length < n) = false := decide_eq_false (by omega)
  have h0 : ¬ ((n : Int) < 0) := by omega
  clear h hrd hz hi5
  go_enter Try.func99, Try.ntmps99
  go_wp2
  go_ret
  refine ⟨rfl, .slice A n c, ⟨?_, H.out.2.1, Kd.R_far (Kd.R_take H.out.2.2.1 hn) (fun k hk => hk) _, ?_, H.out.2.2.2.2⟩, (Below.refl _ _).setCell H.out.2.1 _, Kept.setCell (p := ⟨g, 0, none⟩) (Kept.refl W (fun k => k = g)) (Or.inl rfl) _, ?_⟩
  · exact blk_put (cs := #[.slice A xs.length c, .int .i64 room, .bool false]) H.out.1 0 _ rfl
  · have := H.out.2.2.2.1
    rw [List.length_take]
    omega
  · cases A <;> rfl
end Go.Proofs.Ytppfkbigeknedaa.Q
