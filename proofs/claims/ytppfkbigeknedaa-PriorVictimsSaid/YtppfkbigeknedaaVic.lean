/- prior.Victims, by hand. -/
import Derived.Test.YtppfkbigeknedaaDel
import Derived.Test.YtppfkbigeknedaaQstatePod
import Derived.Test.YtppfkbigeknedaaQapiPod91
namespace Go.Proofs.Ytppfkbigeknedaa.Q
open Go.Shelf Go.RowKit Go.Lib Go.Proofs.YtppfkbigeknedaaW.PrintWords Go.Proofs.YtppfkbigeknedaaW.PrintLast Go.Proofs.YtppfkbigeknedaaW.PrintMore
open Go.Sort hiding Below
set_option linter.unusedVariables false
set_option linter.unusedSimpArgs false
set_option maxRecDepth 100000
attribute [local go_sem] eqe_ii eqe_nn eqe_ni eqe_nni
/-- A row of pods of the call's own, to be written in place. -/
def PR (base : Nat) (W : World) (v : Value) (xs : List S70) : Prop :=
  ∃ A cap, v = .slice A xs.length cap ∧ xs.length < 1000000000000 ∧ (xs = [] ∨ ∃ blk, A = some ⟨blk, 0, none⟩ ∧ base ≤ blk ∧ blk < W.heap.size ∧ xs.length ≤ cap ∧ HoldsK encP 8 W blk 0 xs.toArray)
theorem PR.of_R {W : World} {base : Nat} {ok : Nat → Prop} {v : Value} {xs : List S70} (h : Kd.R k70 70 W base ok v xs) (hl : xs.length < 1000000000000) : PR base W v xs := by
  rcases holds_of_R h with ⟨rfl, rfl⟩ | ⟨blk, cap, rfl, h1, h2, h3, _, h4⟩
  · exact ⟨none, 0, rfl, hl, Or.inl rfl⟩
  · exact ⟨_, cap, rfl, hl, Or.inr ⟨blk, rfl, h1, h2, h3, h4⟩⟩
theorem PR.reads {W : World} {base : Nat} {v : Value} {xs : List S70} (h : PR base W v xs) : ∃ A cap, v = .slice A xs.length cap ∧ Kd.C k70 W A xs.length xs := by
  obtain ⟨A, cap, rfl, hl, h⟩ := h
  refine ⟨A, cap, rfl, ?_⟩
  rcases h with rfl | ⟨blk, rfl, _, _, _, h⟩
  · exact ⟨rfl, by simp, fun h => absurd h (by simp)⟩
  · have := c_of_holds h (by simp; omega)
    simpa using this
set_option maxHeartbeats 8000000 in
theorem delete_nil (g : Nat) (lb : Array Value) (eg : ∀ args w, (callFunc g args).run Try.prog w = .ok (.enter g args) w) (A : Option Addr) (cap : Nat) (w : World) :
    Calls Try.prog 90 #[.slice A 0 cap, .func (.func g) #[] lb] w fun e w' => e = .returned (.slice A 0 cap) ∧ Below w.heap.size w w' := by
  have hI := indexFunc_pod g lb (fun _ => true) eg [] A cap w ⟨rfl, by simp, fun h => absurd h (by simp)⟩ (fun W x hx => absurd hx (by simp))
  have HI := Aside0.mk hI
  clear hI
  go_enter Try.func90, Try.ntmps90
  go_wp2_with (go_at_call 122; refine HI.out.mono ?_; rintro e w' ⟨rfl, hb⟩; have HB := Aside0.mk hb; clear hb; simp only [idxP])
  go_ret
  exact ⟨rfl, HB.out⟩
theorem delete_any (g : Nat) (lb : Array Value) (p : S70 → Bool) (eg : ∀ args w, (callFunc g args).run Try.prog w = .ok (.enter g args) w) (base : Nat) (w : World) (v : Value) (xs : List S70) (h : PR base w v xs) (hbase : base ≤ w.heap.size)
    (hp : ∀ W x, x ∈ xs → Below base w W → Calls Try.prog g (#[podV x] ++ lb) W fun e w' => e = .returned (.bool (p x)) ∧ Below W.heap.size W w') :
    Calls Try.prog 90 #[v, .func (.func g) #[] lb] w fun e w' => ∃ v', e = .returned v' ∧ PR base w' v' (xs.filter fun x => !p x) ∧ Below base w w' := by
  obtain ⟨A, cap, rfl, hl, h⟩ := h
  rcases h with rfl | ⟨blk, rfl, h1, h2, h3, h4⟩
  · exact (delete_nil g lb eg A cap w).mono (by rintro e w' ⟨rfl, hb⟩; exact ⟨_, rfl, ⟨A, cap, rfl, by simp, Or.inl rfl⟩, hb.mono hbase⟩)
  · have hd := deleteFunc_pod g lb p eg blk cap xs.toArray w h4 h2 (by simpa using hl) (by simpa using h3) (fun W x hx hb => hp W x (by simpa using hx) (hb.mono h1))
    refine Calls.mono (show Calls Try.prog 90 #[.slice (some ⟨blk, 0, none⟩) xs.length cap, .func (.func g) #[] lb] w _ from by simpa using hd) ?_
    rintro e w' ⟨rfl, hh, hb⟩
    have hle : (xs.filter fun x => !p x).length ≤ xs.length := List.length_filter_le _ _
    exact ⟨_, rfl, ⟨_, cap, rfl, by omega, Or.inr ⟨blk, rfl, h1, Nat.lt_of_lt_of_le h2 hb.size, by omega, by simpa using hh⟩⟩, hb.mono h1⟩
set_option maxHeartbeats 8000000 in
theorem ins_nil (A : Option Addr) (cap : Nat) (c : Value) (w : World) : Calls Try.prog 139 #[.slice A 0 cap, .int .i64 0, .int .i64 0, c] w fun e w' => e = .returned (.tuple #[]) ∧ w' = w := by
  go_enter Try.func139, Try.ntmps139
  go_wp2
  go_loop [8] (fun v8 => v8 = .int .i64 1) (fun _ => 0)
  case atStart => rfl
  case round =>
    obtain rfl := hrel
    go_wp2
    go_end0
    exact ⟨rfl, rfl⟩
set_option maxHeartbeats 8000000 in
theorem stable_nil (A : Option Addr) (cap : Nat) (c : Value) (w : World) : Calls Try.prog 123 #[.slice A 0 cap, .int .i64 0, c] w fun e w' => e = .returned (.tuple #[]) ∧ w' = w := by
  go_enter Try.func123, Try.ntmps123
  go_wp2
  go_loop [7, 8] (fun v7 v8 => v7 = .int .i64 0 ∧ v8 = .int .i64 20) (fun _ _ => 0)
  case atStart => exact ⟨rfl, rfl⟩
  case round =>
    obtain ⟨rfl, rfl⟩ := hrel
    go_wp2_with (go_at_call 139; refine (ins_nil _ _ _ _).mono ?_; rintro e w' ⟨rfl, rfl⟩)
    go_loop [6] (fun v6 => v6 = .int .i64 20) (fun _ => 0)
    case atStart => rfl
    case round =>
      obtain rfl := hrel
      go_wp2
      go_end0
      exact ⟨rfl, rfl⟩
set_option maxHeartbeats 8000000 in
theorem sort_nil (A : Option Addr) (cap : Nat) (c : Value) (w : World) : Calls Try.prog 93 #[.slice A 0 cap, c] w fun e w' => e = .returned (.tuple #[]) ∧ w' = w := by
  go_enter Try.func93, Try.ntmps93
  go_wp2_with (go_at_call 123; refine (stable_nil _ _ _ _).mono ?_; rintro e w' ⟨rfl, rfl⟩)
  go_end0
  exact ⟨rfl, rfl⟩
theorem below_grow {B : Nat} (W : World) (os : Array Obj) (hB : B ≤ W.heap.size) : Below B W (grow W os) := ⟨rfl, rfl, rfl, by simp, fun k hk => heap_grow_old W os (by omega)⟩
theorem below_putRow {B : Nat} (W : World) (blk n : Nat) (d : Array S70) (hB : B ≤ blk) : Below B W (putRowK encP 8 (Sort.ahead W n) blk 0 d) :=
  ⟨rfl, rfl, rfl, by rw [size_putRowK]; exact Nat.le_refl _, fun k hk => by
    show ((Sort.ahead W n).heap.modify blk _)[k]? = _
    rw [Array.getElem?_modify, if_neg (by omega)]; rfl⟩
theorem sort_any (base : Nat) (w : World) (v : Value) (xs : List S70) (h : PR base w v xs) :
    Calls Try.prog 93 #[v, .func (.func 94) #[] #[]] w fun e w' => e = .returned (.tuple #[]) ∧ PR base w' v (stableP xs.toArray).toList ∧ Below base w w' := by
  obtain ⟨A, cap, rfl, hl, h⟩ := h
  have hs : (stableP xs.toArray).toList.length = xs.length := by have := (pm_stable xs.toArray).1; simpa using this
  rcases h with rfl | ⟨blk, rfl, h1, h2, h3, h4⟩
  · exact (sort_nil A cap _ w).mono (by
      rintro e w' ⟨rfl, rfl⟩
      refine ⟨rfl, ⟨A, cap, by rw [hs], by rw [hs]; exact hl, Or.inl (List.eq_nil_of_length_eq_zero hs)⟩, Below.refl _ _⟩)
  · have hd := sortStable_pod w blk cap xs.toArray h4 h2 (by simpa using hl)
    refine Calls.mono (show Calls Try.prog 93 #[.slice (some ⟨blk, 0, none⟩) xs.length cap, .func (.func 94) #[] #[]] w _ from by simpa using hd) ?_
    rintro e w' ⟨rfl, n, os, rfl⟩
    have hH := holdsK_sortWorldK_c encP 8 w blk 0 xs.toArray (stableP xs.toArray) n os h4 h2 (pm_stable _).1
    refine ⟨rfl, ⟨_, cap, by rw [hs], by rw [hs]; exact hl, Or.inr ⟨blk, rfl, h1, Nat.lt_of_lt_of_le h2 (size_sortWorldK_c encP 8 w blk 0 n _ os), by rw [hs]; exact h3, by simpa using hH⟩⟩, ?_⟩
    unfold sortWorldK
    exact (below_putRow w blk n _ h1).trans (below_grow _ _ (by rw [size_putRowK]; show base ≤ w.heap.size; omega))
def vicP (node prio : Int) (q : S70) : Bool := q.f4 != node || decide (prio ≤ q.f2)
set_option maxHeartbeats 8000000 in
theorem vic_closure (W : World) (x : S70) (Bp Bn : Nat) (node prio : Int) (hn : W.cell? ⟨Bn, 0, none⟩ = some (.int .i64 node)) (hp : W.cell? ⟨Bp, 2, none⟩ = some (.int .i64 prio)) :
    Calls Try.prog 92 #[podV x, .pointer (some ⟨Bn, 0, none⟩), .pointer (some ⟨Bp, 0, none⟩)] W fun e w' => e = .returned (.bool (vicP node prio x)) ∧ Below W.heap.size W w' := by
  have hlt : Bn < W.heap.size := World.block_lt_of_cell? W _ hn
  have hlt2 : Bp < W.heap.size := World.block_lt_of_cell? W _ hp
  have hne : Bn ≠ W.heap.size := by omega
  have hne2 : Bp ≠ W.heap.size := by omega
  unfold podV
  by_cases h1 : x.f4 = node
  · have hb1 : (x.f4 != node) = false := by simp [h1]
    have hv : vicP node prio x = decide (prio ≤ x.f2) := by unfold vicP; rw [hb1]; rfl
    rw [hv]
    clear hv h1
    go_enter Try.func92, Try.ntmps92
    go_wp2
    repeat (go_quiet (fail); try go_wp2)
    all_goals
      go_ret
      refine ⟨?_, ?_⟩
      · simp_all
      repeat (first | (with_reducible first | apply below_alloc | apply pw_below_drewN | apply below_drew1 | exact Below.refl _ _))
  · have hb1 : (x.f4 != node) = true := by simp [h1]
    have hv : vicP node prio x = true := by unfold vicP; rw [hb1]; rfl
    rw [hv]
    clear hv h1
    go_enter Try.func92, Try.ntmps92
    go_wp2
    repeat (go_quiet (fail); try go_wp2)
    go_ret
    refine ⟨rfl, ?_⟩
    repeat (first | (with_reducible first | apply below_alloc | apply pw_below_drewN | apply below_drew1 | exact Below.refl _ _))
def vicF (l0_0 : List S70) (a0_1 a0_2 a1 a2 : Int) : Option (List Int) := (state_Pod.f l0_0 a0_1 a0_2 a1).bind fun t => if t.2.2.2.2.2.2.2.2 = true then (if a2 = 0 then some [] else if l0_0.length < 1000000000000 then some ((stableP (l0_0.filter fun q => !vicP a2 t.2.2.1 q).toArray).toList.map fun q => q.f0) else none) else some []
theorem vic_box {w w1 : World} {v a b c : Value} (hb : Below ((w.alloc (.cells #[v, a, b] 26)).alloc (.cells #[c] 3)).heap.size ((w.alloc (.cells #[v, a, b] 26)).alloc (.cells #[c] 3)) w1) :
    w1.cell? ⟨w.heap.size + 1, 0, none⟩ = some c ∧ w1.cell? ⟨w.heap.size, 0, none⟩ = some v ∧ w.heap.size + 2 ≤ w1.heap.size := by
  refine ⟨?_, ?_, Nat.le_trans (by simp) hb.size⟩
  · rw [hb.cell (p := ⟨w.heap.size + 1, 0, none⟩) (by simp)]; simp
  · rw [hb.cell (p := ⟨w.heap.size, 0, none⟩) (by simp; omega)]; simp
set_option maxHeartbeats 8000000 in
theorem vic_calls (A0_0 : Option Addr) (c0_0 : Nat) (l0_0 : List (S70)) (a0_1 : Int) (a0_2 : Int) (a1 : Int) (a2 : Int) (r : List Int) (w : World) (hr0_0 : Kd.C k70 w A0_0 l0_0.length l0_0) (hc0_0 : l0_0.length ≤ c0_0) (h : vicF l0_0 a0_1 a0_2 a1 a2 = some r) :
    Calls Try.prog 48 #[.agg #[.slice A0_0 l0_0.length c0_0, .int .i64 a0_1, .int .i64 a0_2], .int .i64 a1, .int .i64 a2] w fun e w' => ∃ v0_ : Value, e = .returned (v0_) ∧ Kd.R (Kd.int .i64) 3 w' w.heap.size (fun _ => True) v0_ r ∧ Below w.heap.size w w' := by
  unfold vicF at h
  obtain ⟨⟨t1, t2, t3, t4, t5, t6, t7, t8, t9⟩, h1, hh⟩ := Option.bind_eq_some_iff.1 h
  clear h
  have h : (if t9 = true then (if a2 = 0 then some [] else if l0_0.length < 1000000000000 then some ((stableP (l0_0.filter fun q => !vicP a2 t3 q).toArray).toList.map fun q => q.f0) else none) else some []) = some r := hh
  clear hh
  have HR := Aside0.mk hr0_0
  have HC := Aside0.mk hc0_0
  have H1 := Aside0.mk h1
  clear hr0_0 hc0_0 h1
  cases ht9 : t9 with
  | false =>
    rw [ht9, if_neg (by simp)] at h
    obtain rfl := Option.some.inj h
    subst ht9
    clear h
    go_enter Try.func48, Try.ntmps48
    go_wp2_with (go_at_call 89; refine (state_Pod.calls A0_0 c0_0 l0_0 a0_1 a0_2 a1 t1 t2 t3 t4 t5 t6 t7 t8 false _ (Kd.C_alloc (Kd.C_alloc HR.out _) _) HC.out H1.out).mono ?_; rintro e w1 ⟨rfl, hb⟩; have HB := Aside0.mk (below_step (below_alloc (below_alloc (Below.refl _ _) _) _) hb); clear hb)
    go_ret
    exact ⟨_, rfl, Kd.R_nil _ _ _ _ _, by repeat (first | exact HB.out | (with_reducible first | apply below_alloc | apply pw_below_drewN | apply below_drew1 | refine Below.setCell ?_ (by have := HB.out.size; simp; omega) _))⟩
  | true =>
    rw [ht9, if_pos rfl] at h
    subst ht9
    by_cases h2 : a2 = 0
    · rw [if_pos h2] at h
      obtain rfl := Option.some.inj h
      have h20 : (a2 == 0) = true := by simp [h2]
      clear h h2
      go_enter Try.func48, Try.ntmps48
      go_wp2_with fail
      refine (state_Pod.calls A0_0 c0_0 l0_0 a0_1 a0_2 a1 t1 t2 t3 t4 t5 t6 t7 t8 true _ (Kd.C_alloc (Kd.C_alloc HR.out _) _) HC.out H1.out).mono ?_
      rintro e w1 ⟨rfl, hb⟩
      have HB := Aside0.mk (below_step (below_alloc (below_alloc (Below.refl _ _) _) _) hb)
      obtain ⟨hc5, hc4, hz⟩ := vic_box hb
      have hc5' := Lib.cell?_alloc_some (.cells #[.int .i64 t1, .int .i64 t2, .int .i64 t3, .int .u64 t4, .int .u64 t5, .int .u64 t6, .int .u64 t7, .int .i64 t8] 70) hc5
      have hc4' := Lib.cell?_alloc_some (.cells #[.int .i64 t1, .int .i64 t2, .int .i64 t3, .int .u64 t4, .int .u64 t5, .int .u64 t6, .int .u64 t7, .int .i64 t8] 70) hc4
      clear hb
      go_wp2
      go_ret
      exact ⟨_, rfl, Kd.R_nil _ _ _ _ _, by repeat (first | exact HB.out | (with_reducible first | apply below_alloc | apply pw_below_drewN | apply below_drew1 | refine Below.setCell ?_ (by have := HB.out.size; simp; omega) _))⟩
    · rw [if_neg h2] at h
      by_cases h3 : l0_0.length < 1000000000000
      case neg => rw [if_neg h3] at h; cases h
      rw [if_pos h3] at h
      obtain rfl := Option.some.inj h
      have h20 : (a2 == 0) = false := by simp [h2]
      have H3 := Aside0.mk h3
      clear h h2 h3
      go_enter Try.func48, Try.ntmps48
      go_wp2_with fail
      refine (state_Pod.calls A0_0 c0_0 l0_0 a0_1 a0_2 a1 t1 t2 t3 t4 t5 t6 t7 t8 true _ (Kd.C_alloc (Kd.C_alloc HR.out _) _) HC.out H1.out).mono ?_
      rintro e w1 ⟨rfl, hb⟩
      have HB := Aside0.mk (below_step (below_alloc (below_alloc (Below.refl _ _) _) _) hb)
      obtain ⟨hc5, hc4, hz⟩ := vic_box hb
      have hc5' := Lib.cell?_alloc_some (.cells #[.int .i64 t1, .int .i64 t2, .int .i64 t3, .int .u64 t4, .int .u64 t5, .int .u64 t6, .int .u64 t7, .int .i64 t8] 70) hc5
      have hc4' := Lib.cell?_alloc_some (.cells #[.int .i64 t1, .int .i64 t2, .int .i64 t3, .int .u64 t4, .int .u64 t5, .int .u64 t6, .int .u64 t7, .int .i64 t8] 70) hc4
      clear hb
      have hp3 : (w1.alloc (.cells #[.int .i64 t1, .int .i64 t2, .int .i64 t3, .int .u64 t4, .int .u64 t5, .int .u64 t6, .int .u64 t7, .int .i64 t8] 70)).cell? ⟨w1.heap.size, 2, none⟩ = some (.int .i64 t3) := by simp
      have HB2 := Aside0.mk (below_alloc HB.out (.cells #[.int .i64 t1, .int .i64 t2, .int .i64 t3, .int .u64 t4, .int .u64 t5, .int .u64 t6, .int .u64 t7, .int .i64 t8] 70))
      go_wp2_with fail
      refine (api_Pod_91.calls A0_0 c0_0 l0_0 l0_0 _ (Kd.C_below HR.out HB2.out) HC.out (by unfold api_Pod_91.f; rw [if_pos (by have := H3.out; omega)])).mono ?_
      rintro e w3 ⟨v3, rfl, hr3, hb3⟩
      have HB3 := Aside0.mk (below_then HB2.out (below_size HB2.out) hb3)
      have HPR := Aside0.mk (PR.of_R hr3 H3.out)
      have HC5 := Aside0.mk ((hb3.cell (p := ⟨w.heap.size + 1, 0, none⟩) (by simp; omega)).trans hc5')
      have HC3 := Aside0.mk ((hb3.cell (p := ⟨w1.heap.size, 2, none⟩) (by simp)).trans hp3)
      have HZ3 := Aside0.mk hb3.size
      clear hr3 hb3 hc5 hc4 hc5' hc4' hp3
      generalize hW2 : w1.alloc (.cells #[.int .i64 t1, .int .i64 t2, .int .i64 t3, .int .u64 t4, .int .u64 t5, .int .u64 t6, .int .u64 t7, .int .i64 t8] 70) = W2 at *
      have hW2s : W2.heap.size = w1.heap.size + 1 := by rw [← hW2]; simp
      clear hW2
      have HW2s := Aside0.mk hW2s
      clear hW2s
      go_wp2_with fail
      refine (delete_any 92 #[.pointer (some ⟨w.heap.size + 1, 0, none⟩), .pointer (some ⟨w1.heap.size, 0, none⟩)] (vicP a2 t3) (enters_of Try.func92 (by kernel_rfl) rfl) W2.heap.size w3 v3 l0_0 HPR.out HZ3.out (fun W x _ hb => vic_closure W x w1.heap.size (w.heap.size + 1) a2 t3 ((hb.cell (p := ⟨w.heap.size + 1, 0, none⟩) (show w.heap.size + 1 < W2.heap.size by have := HW2s.out; omega)).trans HC5.out) ((hb.cell (p := ⟨w1.heap.size, 2, none⟩) (show w1.heap.size < W2.heap.size by have := HW2s.out; omega)).trans HC3.out))).mono ?_
      rintro e w4 ⟨v4, rfl, hr4, hb4⟩
      have HB4 := Aside0.mk (HB3.out.trans (hb4.mono (by have := HW2s.out; omega)))
      have HPR4 := Aside0.mk hr4
      clear hr4 hb4
      go_wp2_with fail
      refine (sort_any W2.heap.size w4 v4 _ HPR4.out).mono ?_
      rintro e w5 ⟨rfl, hr5, hb5⟩
      have HB5 := Aside0.mk (HB4.out.trans (hb5.mono (by have := HW2s.out; omega)))
      have hlen : (stableP (l0_0.filter fun q => !vicP a2 t3 q).toArray).toList.length < 1000000000000 := by obtain ⟨_, _, _, h, _⟩ := hr5; exact h
      obtain ⟨A5, c5, rfl, hc5⟩ := hr5.reads
      generalize hls : (stableP (l0_0.filter fun q => !vicP a2 t3 q).toArray).toList = ls at hlen hc5 ⊢
      have HLS := Aside0.mk hls
      clear hls
      have HK5 := Aside0.mk hc5
      have HL5 := Aside0.mk hlen
      clear hr5 hb5 hc5 hlen HPR4 HZ3 HC3 HC5 HPR
      go_wp2
      go_loopw [10, 12, 34] (fun v10 v12 v34 wr => ∃ i : Nat, v34 = .int .i64 i ∧ i ≤ ls.length ∧ Aside0 (Kd.R (Kd.int .i64) 3 wr w5.heap.size (fun _ => True) v10 ((ls.take i).map fun q => q.f0)) ∧ Aside0 (Below w5.heap.size w5 wr)) (fun _ _ v34 _ => ls.length - (intOf v34).toNat)
      case atStart => exact ⟨0, rfl, by omega, ⟨Kd.R_nil _ _ _ _ _⟩, ⟨Below.refl _ _⟩⟩
      case round =>
        obtain ⟨i, rfl, hi, HO, HBr⟩ := hrel
        have hmx : ls.length ≤ 9223372036854775807 := HK5.out.2.1
        by_cases hlt : i < ls.length
        · have hlb : decide ((i : Int) < (ls.length : Int)) = true := decide_eq_true (by omega)
          have hp0 : 0 ≤ (i : Int) := by omega
          have hq0 : (i : Int) < (ls.length : Int) := by omega
          obtain ⟨ad, e, h0, h1, h2, h3, h4, h5, h6, h7⟩ := at_T70 HK5.out (i : Int) hp0 hq0
          cases e
          obtain ⟨x, hx⟩ : ∃ x, rd_T70 ls (i : Int) = x := ⟨_, rfl⟩
          rw [hx] at h0 h1 h2 h3 h4 h5 h6 h7
          simp only [Int.toNat_natCast] at h0 h1 h2 h3 h4 h5 h6 h7
          replace h0 := (HBr.out.cell (World.block_lt_of_cell? w5 _ h0)).trans h0
          replace h1 := (HBr.out.cell (World.block_lt_of_cell? w5 _ h1)).trans h1
          replace h2 := (HBr.out.cell (World.block_lt_of_cell? w5 _ h2)).trans h2
          replace h3 := (HBr.out.cell (World.block_lt_of_cell? w5 _ h3)).trans h3
          replace h4 := (HBr.out.cell (World.block_lt_of_cell? w5 _ h4)).trans h4
          replace h5 := (HBr.out.cell (World.block_lt_of_cell? w5 _ h5)).trans h5
          replace h6 := (HBr.out.cell (World.block_lt_of_cell? w5 _ h6)).trans h6
          replace h7 := (HBr.out.cell (World.block_lt_of_cell? w5 _ h7)).trans h7
          have hd : (ls.take (i + 1)).map (fun q => q.f0) = (ls.take i).map (fun q => q.f0) ++ [x.f0] := by
            rw [List.take_succ_eq_append_getElem hlt, List.map_append, ← hx]
            simp [rd_T70, List.getD_eq_getElem?_getD, List.getElem?_eq_getElem hlt]
          have HD := Aside0.mk hd
          have HLI := Aside0.mk (show ((ls.take i).map fun q => q.f0).length = i by simp; omega)
          clear hd hx
          obtain ⟨os, hos⟩ : ∃ os, (ls.take i).map (fun q => q.f0) = os := ⟨_, rfl⟩
          rw [hos] at HO HLI HD
          have HOS := Aside0.mk hos
          clear hos
          go_wp2_with (first | ((with_reducible refine gate_builtin (b := .append) (xs := #[.tmp 38, .tmp 41]) rfl ?_); at_builtin; refine Kd.R_append (Kd.int .i64) (w0 := w5) w5.heap.size rfl (.tmp 38) (.tmp 41) 71 3 (.int .i64 0) 8 rfl Try.underlying71 info3 rfl (by decide) (by omega) u10 os x.f0 [.int .i64 x.f0] (fun _ => True) (fun _ => False) rfl (by first | (go_simp; done) | (go_simp; rfl)) ?aP (fun _ hk => hk.elim) ?aF ?aO ?aB ?aS ?aL ?_; (case aP => exact rfl); (case aB => exact (by repeat (first | (with_reducible first | exact HBr.out | apply below_alloc | apply pw_below_drewN | apply below_drew1) | exact HBr.out))); (case aF => exact (fun _ _ => trivial)); (case aO => exact (by (with_reducible repeat (first | apply Kd.R_alloc | apply Kd.R_drewN | apply Kd.R_drew)); exact HO.out)); (case aS => exact (below_size (by repeat (first | (with_reducible first | exact HBr.out | apply below_alloc | apply pw_below_drewN | apply below_drew1) | exact HBr.out)))); (case aL => rw [HLI.out]; have := HL5.out; omega); intro v1 w6 ho hb hg hat; have HO2 := Aside0.mk ho; have HB6 := Aside0.mk hb; clear ho hb hg hat))
          go_roundw
          case measure => simp [intOf]; omega
          case rel => exact ⟨i + 1, by go_num, by omega, ⟨by rw [HD.out]; exact HO2.out⟩, HB6⟩
        · have hlb : decide ((i : Int) < (ls.length : Int)) = false := decide_eq_false (by omega)
          have hge : ¬ i < ls.length := hlt
          go_wp2
          go_ret
          obtain rfl : i = ls.length := by omega
          refine ⟨_, rfl, Kd.R_lower (by have := HO.out; rw [List.take_of_length_le (Nat.le_refl _)] at this; rw [HLS.out]; exact this) (below_size HB5.out), below_then HB5.out (below_size HB5.out) HBr.out⟩
end Go.Proofs.Ytppfkbigeknedaa.Q
