/- victim.Makes, by hand. -/
import Derived.Test.YtppfkbigeknedaaVVictims
import Derived.Test.YtppfkbigeknedaaVQroomRest
import Derived.Test.YtppfkbigeknedaaVQvecFits
import Derived.Test.YtppfkbigeknedaaVQvictimrequest
import Derived.Deep.RegionHeld3
namespace Go.Proofs.Ytppfkbigeknedaa.Q
open Go.Shelf Go.RowKit Go.Lib Go.Proofs.YtppfkbigeknedaaW.PrintWords Go.Proofs.YtppfkbigeknedaaW.PrintLast Go.Proofs.YtppfkbigeknedaaW.PrintMore
open Go.Sort hiding Below
set_option linter.unusedVariables false
set_option linter.unusedSimpArgs false
set_option maxRecDepth 100000
attribute [local go_sem] eqe_ii eqe_nn eqe_ni eqe_nni
def idxI (v : Int) : List Int → Int → Int
  | [], _ => -1
  | x :: l, i => if v = x then i else idxI v l (i + 1)
set_option maxHeartbeats 8000000 in
theorem index_int (xs : List Int) (v : Int) (A : Option Addr) (c : Nat) (w : World) (hC : Kd.C (Kd.int .i64) w A xs.length xs) :
    Calls Try.prog 129 #[.slice A xs.length c, .int .i64 v] w fun e w' => e = .returned (.int .i64 (idxI v xs 0)) ∧ w' = w := by
  have HC := Aside0.mk hC
  clear hC
  go_enter Try.func129, Try.ntmps129
  go_wp2
  go_loop [5, 8] (fun v5 v8 => ∃ i : Nat, v8 = .int .i64 i ∧ i ≤ xs.length ∧ Aside0 (idxI v xs 0 = idxI v (xs.drop i) i)) (fun _ v8 => xs.length - (intOf v8).toNat)
  case atStart => exact ⟨0, rfl, by omega, ⟨rfl⟩⟩
  case round =>
    obtain ⟨i, rfl, hi, HI⟩ := hrel
    have hmx : xs.length ≤ 9223372036854775807 := HC.out.2.1
    by_cases hlt : i < xs.length
    · have hlb : decide ((i : Int) < (xs.length : Int)) = true := decide_eq_true (by omega)
      have hp0 : 0 ≤ (i : Int) := by omega
      have hq0 : (i : Int) < (xs.length : Int) := by omega
      obtain ⟨ad, e, h0⟩ := Kd.at_int HC.out (i : Int) hp0 hq0
      cases e
      obtain ⟨x, hx⟩ : ∃ x, rd xs (i : Int) = x := ⟨_, rfl⟩
      rw [hx] at h0
      simp only [Int.toNat_natCast] at h0
      have hd : xs.drop i = x :: xs.drop (i + 1) := by
        rw [← hx, List.drop_eq_getElem_cons hlt]
        simp [rd, List.getD_eq_getElem?_getD, List.getElem?_eq_getElem hlt]
      have HD := Aside0.mk hd
      clear hd hx
      by_cases hv : v = x
      · have hb : (v == x) = true := by simp [hv]
        have HV := Aside0.mk hv
        clear hv
        go_wp2
        go_ret
        exact ⟨by rw [HI.out, HD.out]; simp only [idxI]; rw [if_pos HV.out]; rfl, rfl⟩
      · have hb : (v == x) = false := by simp [hv]
        have HV := Aside0.mk hv
        clear hv
        go_wp2
        go_round
        case measure => simp [intOf]; omega
        case rel => exact ⟨i + 1, by go_num, by omega, ⟨by rw [HI.out, HD.out]; simp only [idxI]; rw [if_neg HV.out]; rfl⟩⟩
    · have hlb : decide ((i : Int) < (xs.length : Int)) = false := decide_eq_false (by omega)
      go_wp2
      go_ret
      have he : i = xs.length := by omega
      subst he
      exact ⟨by rw [HI.out]; simp [idxI], rfl⟩
theorem idxI_any (v : Int) : ∀ (xs : List Int) (i : Int), 0 ≤ i → decide (0 ≤ idxI v xs i) = xs.any (fun x => x == v)
  | [], i, _ => by simp [idxI]
  | x :: l, i, h => by
    rw [List.any_cons]
    by_cases hv : v = x
    · have e : idxI v (x :: l) i = i := if_pos hv
      rw [e]; simp [hv, h]
    · have e : idxI v (x :: l) i = idxI v l (i + 1) := if_neg hv
      rw [e, idxI_any v l (i + 1) (by omega)]
      have : (x == v) = false := by simp; exact fun e => hv e.symm
      rw [this, Bool.false_or]
set_option maxHeartbeats 8000000 in
theorem contains_int (xs : List Int) (v : Int) (A : Option Addr) (c : Nat) (w : World) (hC : Kd.C (Kd.int .i64) w A xs.length xs) :
    Calls Try.prog 109 #[.slice A xs.length c, .int .i64 v] w fun e w' => e = .returned (.bool (xs.any fun x => x == v)) ∧ w' = w := by
  have hI := index_int xs v A c w hC
  rw [← idxI_any v xs 0 (Int.le_refl _)]
  generalize idxI v xs 0 = r at hI ⊢
  have HI := Aside0.mk hI
  clear hI hC
  go_enter Try.func109, Try.ntmps109
  go_wp2_with (go_at_call 129; refine HI.out.mono ?_; rintro e w' ⟨rfl, rfl⟩)
  repeat (go_quiet (fail); try go_wp2)
  go_ret
  exact ⟨rfl, rfl⟩
def goneP (node : Int) (L : List Int) (q : S70) : Bool := q.f4 == node && L.any (fun x => x == q.f0)
set_option maxHeartbeats 8000000 in
theorem gone_closure (W : World) (x : S70) (Bn Bl : Nat) (node : Int) (L : List Int) (A : Option Addr) (c : Nat) (hn : W.cell? ⟨Bn, 0, none⟩ = some (.int .i64 node)) (hl : W.cell? ⟨Bl, 0, none⟩ = some (.slice A L.length c)) (hC : Kd.C (Kd.int .i64) W A L.length L) :
    Calls Try.prog 108 #[podV x, .pointer (some ⟨Bn, 0, none⟩), .pointer (some ⟨Bl, 0, none⟩)] W fun e w' => e = .returned (.bool (goneP node L x)) ∧ Below W.heap.size W w' := by
  have hlt : Bn < W.heap.size := World.block_lt_of_cell? W _ hn
  have hlt2 : Bl < W.heap.size := World.block_lt_of_cell? W _ hl
  have hne : Bn ≠ W.heap.size := by omega
  have hne2 : Bl ≠ W.heap.size := by omega
  have HC := Aside0.mk hC
  clear hC
  unfold podV
  by_cases h1 : x.f4 = node
  · have hb1 : (x.f4 == node) = true := by simp [h1]
    have hv : goneP node L x = L.any (fun y => y == x.f0) := by unfold goneP; rw [hb1]; rfl
    rw [hv]
    clear hv h1
    have hk := fun W' (h : Kd.C (Kd.int .i64) W' A L.length L) => contains_int L x.f0 A c W' h
    generalize (L.any fun y => y == x.f0) = r at hk ⊢
    have HK := Aside0.mk hk
    clear hk
    go_enter Try.func108, Try.ntmps108
    go_wp2_with (go_at_call 109; refine (HK.out _ (Kd.C_alloc HC.out _)).mono ?_; rintro e w' ⟨rfl, rfl⟩)
    go_ret
    refine ⟨rfl, ?_⟩
    repeat (first | (with_reducible first | apply below_alloc | apply pw_below_drewN | apply below_drew1 | exact Below.refl _ _))
  · have hb1 : (x.f4 == node) = false := by simp [h1]
    have hv : goneP node L x = false := by unfold goneP; rw [hb1]; rfl
    rw [hv]
    clear hv h1
    go_enter Try.func108, Try.ntmps108
    go_wp2
    repeat (go_quiet (fail); try go_wp2)
    go_ret
    refine ⟨rfl, ?_⟩
    repeat (first | (with_reducible first | apply below_alloc | apply pw_below_drewN | apply below_drew1 | exact Below.refl _ _))
theorem cellA (W : World) (cs : Array Value) (t : TypeId) (j : Nat) : (W.alloc (.cells cs t)).cell? ⟨W.heap.size, j, none⟩ = cs[j]? := by
  have : (W.alloc (.cells cs t)).heap[W.heap.size]? = some (.cells cs t) := by
    show (W.heap.push (.cells cs t))[W.heap.size]? = _
    simp
  unfold World.cell?
  rw [this]
  rfl
def Box5 (W : World) (b : Nat) (s0 s1 s2 x0 x1 x2 t0 t1 t2 nd l : Value) : Prop :=
  b + 5 ≤ W.heap.size ∧ (W.cell? ⟨b, 0, none⟩ = some s0 ∧ W.cell? ⟨b, 1, none⟩ = some s1 ∧ W.cell? ⟨b, 2, none⟩ = some s2) ∧ (W.cell? ⟨b + 1, 0, none⟩ = some x0 ∧ W.cell? ⟨b + 1, 1, none⟩ = some x1 ∧ W.cell? ⟨b + 1, 2, none⟩ = some x2) ∧
  (W.cell? ⟨b + 1 + 1, 0, none⟩ = some t0 ∧ W.cell? ⟨b + 1 + 1, 1, none⟩ = some t1 ∧ W.cell? ⟨b + 1 + 1, 2, none⟩ = some t2) ∧ W.cell? ⟨b + 1 + 1 + 1, 0, none⟩ = some nd ∧ W.cell? ⟨b + 1 + 1 + 1 + 1, 0, none⟩ = some l
theorem Box5.below {W W1 : World} {b B : Nat} {s0 s1 s2 x0 x1 x2 t0 t1 t2 nd l : Value} (h : Box5 W b s0 s1 s2 x0 x1 x2 t0 t1 t2 nd l) (hb : Below B W W1) (hB : b + 5 ≤ B) : Box5 W1 b s0 s1 s2 x0 x1 x2 t0 t1 t2 nd l := by
  obtain ⟨h0, ⟨a0, a1, a2⟩, ⟨b0, b1, b2⟩, ⟨c0, c1, c2⟩, d0, e0⟩ := h
  have k : ∀ q o v, q < b + 5 → W.cell? ⟨q, o, none⟩ = some v → W1.cell? ⟨q, o, none⟩ = some v := fun q o v hq hv => (hb.cell (p := ⟨q, o, none⟩) (show q < B by omega)).trans hv
  exact ⟨Nat.le_trans h0 hb.size, ⟨k _ _ _ (by omega) a0, k _ _ _ (by omega) a1, k _ _ _ (by omega) a2⟩, ⟨k _ _ _ (by omega) b0, k _ _ _ (by omega) b1, k _ _ _ (by omega) b2⟩, ⟨k _ _ _ (by omega) c0, k _ _ _ (by omega) c1, k _ _ _ (by omega) c2⟩, k _ _ _ (by omega) d0, k _ _ _ (by omega) e0⟩
def boxW (w : World) (s0 s1 s2 x0 x1 x2 t0 t1 t2 nd l : Value) : World := ((((w.alloc (.cells #[s0, s1, s2] 96)).alloc (.cells #[x0, x1, x2] 99)).alloc (.cells #[t0, t1, t2] 26)).alloc (.cells #[nd] 3)).alloc (.cells #[l] 71)
theorem box5 (w : World) (s0 s1 s2 x0 x1 x2 t0 t1 t2 nd l : Value) : Box5 (boxW w s0 s1 s2 x0 x1 x2 t0 t1 t2 nd l) w.heap.size s0 s1 s2 x0 x1 x2 t0 t1 t2 nd l := by
  obtain ⟨w1, h1⟩ : ∃ w1, w1 = w.alloc (.cells #[s0, s1, s2] 96) := ⟨_, rfl⟩
  obtain ⟨w2, h2⟩ : ∃ w2, w2 = w1.alloc (.cells #[x0, x1, x2] 99) := ⟨_, rfl⟩
  obtain ⟨w3, h3⟩ : ∃ w3, w3 = w2.alloc (.cells #[t0, t1, t2] 26) := ⟨_, rfl⟩
  obtain ⟨w4, h4⟩ : ∃ w4, w4 = w3.alloc (.cells #[nd] 3) := ⟨_, rfl⟩
  have e : boxW w s0 s1 s2 x0 x1 x2 t0 t1 t2 nd l = w4.alloc (.cells #[l] 71) := by rw [h4, h3, h2, h1]; rfl
  rw [e]
  have z1 : w1.heap.size = w.heap.size + 1 := by rw [h1]; simp
  have z2 : w2.heap.size = w.heap.size + 1 + 1 := by rw [h2]; simp [z1]
  have z3 : w3.heap.size = w.heap.size + 1 + 1 + 1 := by rw [h3]; simp [z2]
  have z4 : w4.heap.size = w.heap.size + 1 + 1 + 1 + 1 := by rw [h4]; simp [z3]
  have c1 : ∀ j, w1.cell? ⟨w.heap.size, j, none⟩ = #[s0, s1, s2][j]? := fun j => by rw [h1]; exact cellA _ _ _ _
  have c2 : ∀ j, w2.cell? ⟨w.heap.size + 1, j, none⟩ = #[x0, x1, x2][j]? := fun j => by rw [h2, ← z1]; exact cellA _ _ _ _
  have c3 : ∀ j, w3.cell? ⟨w.heap.size + 1 + 1, j, none⟩ = #[t0, t1, t2][j]? := fun j => by rw [h3, ← z2]; exact cellA _ _ _ _
  have c4 : ∀ j, w4.cell? ⟨w.heap.size + 1 + 1 + 1, j, none⟩ = #[nd][j]? := fun j => by rw [h4, ← z3]; exact cellA _ _ _ _
  have c5 : ∀ j, (w4.alloc (.cells #[l] 71)).cell? ⟨w.heap.size + 1 + 1 + 1 + 1, j, none⟩ = #[l][j]? := fun j => by rw [← z4]; exact cellA _ _ _ _
  have u2 : ∀ {a v}, w1.cell? a = some v → w2.cell? a = some v := fun h => by rw [h2]; exact Lib.cell?_alloc_some _ h
  have u3 : ∀ {a v}, w2.cell? a = some v → w3.cell? a = some v := fun h => by rw [h3]; exact Lib.cell?_alloc_some _ h
  have u4 : ∀ {a v}, w3.cell? a = some v → w4.cell? a = some v := fun h => by rw [h4]; exact Lib.cell?_alloc_some _ h
  have u5 : ∀ {a v}, w4.cell? a = some v → (w4.alloc (.cells #[l] 71)).cell? a = some v := fun h => Lib.cell?_alloc_some _ h
  exact ⟨by simp [z4], ⟨u5 (u4 (u3 (u2 (c1 0)))), u5 (u4 (u3 (u2 (c1 1)))), u5 (u4 (u3 (u2 (c1 2))))⟩, ⟨u5 (u4 (u3 (c2 0))), u5 (u4 (u3 (c2 1))), u5 (u4 (u3 (c2 2)))⟩, ⟨u5 (u4 (c3 0)), u5 (u4 (c3 1)), u5 (u4 (c3 2))⟩, u5 (c4 0), c5 0⟩
theorem below_boxW (w : World) (s0 s1 s2 x0 x1 x2 t0 t1 t2 nd l : Value) : Below w.heap.size w (boxW w s0 s1 s2 x0 x1 x2 t0 t1 t2 nd l) :=
  below_alloc (below_alloc (below_alloc (below_alloc (below_alloc (Below.refl _ _) _) _) _) _) _
def PodAt (W : World) (g : Nat) (t1 t2 t3 t4 t5 t6 t7 t8 : Int) : Prop :=
  W.cell? ⟨g, 0, none⟩ = some (.int .i64 t1) ∧ W.cell? ⟨g, 1, none⟩ = some (.int .i64 t2) ∧ W.cell? ⟨g, 2, none⟩ = some (.int .i64 t3) ∧ W.cell? ⟨g, 3, none⟩ = some (.int .u64 t4) ∧ W.cell? ⟨g, 4, none⟩ = some (.int .u64 t5) ∧ W.cell? ⟨g, 5, none⟩ = some (.int .u64 t6) ∧ W.cell? ⟨g, 6, none⟩ = some (.int .u64 t7) ∧ W.cell? ⟨g, 7, none⟩ = some (.int .i64 t8)
theorem podAt (w : World) (t1 t2 t3 t4 t5 t6 t7 t8 : Int) : PodAt (w.alloc (.cells #[.int .i64 t1, .int .i64 t2, .int .i64 t3, .int .u64 t4, .int .u64 t5, .int .u64 t6, .int .u64 t7, .int .i64 t8] 70)) w.heap.size t1 t2 t3 t4 t5 t6 t7 t8 :=
  ⟨cellA _ _ _ 0, cellA _ _ _ 1, cellA _ _ _ 2, cellA _ _ _ 3, cellA _ _ _ 4, cellA _ _ _ 5, cellA _ _ _ 6, cellA _ _ _ 7⟩
def VecAt (W : World) (g : Nat) (r1 r2 r3 r4 : Int) : Prop :=
  (W.cell? ⟨g, 0, none⟩ = some (.int .u64 r1) ∧ W.cell? ⟨g, 1, none⟩ = some (.int .u64 r2) ∧ W.cell? ⟨g, 2, none⟩ = some (.int .u64 r3) ∧ W.cell? ⟨g, 3, none⟩ = some (.int .u64 r4)) ∧ W.frozen? ⟨g, 0, none⟩ = false ∧ W.frozen? ⟨g, 1, none⟩ = false ∧ W.frozen? ⟨g, 2, none⟩ = false ∧ W.frozen? ⟨g, 3, none⟩ = false
theorem VecAt.block {W W1 : World} {g : Nat} {r1 r2 r3 r4 : Int} (h : VecAt W g r1 r2 r3 r4) (hb : W1.heap[g]? = W.heap[g]?) : VecAt W1 g r1 r2 r3 r4 := by
  have c : ∀ j, W1.cell? ⟨g, j, none⟩ = W.cell? ⟨g, j, none⟩ := fun j => World.cell?_of_block (w := W) hb
  have f : ∀ j, W1.frozen? ⟨g, j, none⟩ = W.frozen? ⟨g, j, none⟩ := fun j => World.frozen?_of_block (w := W) hb
  unfold VecAt
  rw [c, c, c, c, f, f, f, f]
  exact h
theorem vecAt (w : World) (r1 r2 r3 r4 : Int) : VecAt (w.alloc (.cells #[.int .u64 r1, .int .u64 r2, .int .u64 r3, .int .u64 r4] 33)) w.heap.size r1 r2 r3 r4 := by
  have hh : (w.alloc (.cells #[.int .u64 r1, .int .u64 r2, .int .u64 r3, .int .u64 r4] 33)).heap[w.heap.size]? = some (.cells #[.int .u64 r1, .int .u64 r2, .int .u64 r3, .int .u64 r4] 33) := by
    show (w.heap.push _)[w.heap.size]? = _
    simp
  exact ⟨⟨cellA _ _ _ 0, cellA _ _ _ 1, cellA _ _ _ 2, cellA _ _ _ 3⟩, blk_frozen hh 0, blk_frozen hh 1, blk_frozen hh 2, blk_frozen hh 3⟩
theorem vec_set {W : World} {g : Nat} {a b c d : Int} (h : VecAt W g a b c d) (r1 r2 r3 r4 : Int) : VecAt ((((W.setCell ⟨g, 0, none⟩ (.int .u64 r1)).setCell ⟨g, 1, none⟩ (.int .u64 r2)).setCell ⟨g, 2, none⟩ (.int .u64 r3)).setCell ⟨g, 3, none⟩ (.int .u64 r4)) g r1 r2 r3 r4 := by
  obtain ⟨⟨h0, h1, h2, h3⟩, f0, f1, f2, f3⟩ := h
  refine ⟨⟨?_, ?_, ?_, ?_⟩, ?_, ?_, ?_, ?_⟩ <;> simp [go_sem, h0, h1, h2, h3, f0, f1, f2, f3]
theorem PodAt.below {W W1 : World} {g B : Nat} {t1 t2 t3 t4 t5 t6 t7 t8 : Int} (h : PodAt W g t1 t2 t3 t4 t5 t6 t7 t8) (hb : Below B W W1) (hB : g < B) : PodAt W1 g t1 t2 t3 t4 t5 t6 t7 t8 := by
  obtain ⟨h1, h2, h3, h4, h5, h6, h7, h8⟩ := h
  have k : ∀ o v, W.cell? ⟨g, o, none⟩ = some v → W1.cell? ⟨g, o, none⟩ = some v := fun o v hv => (hb.cell (p := ⟨g, o, none⟩) hB).trans hv
  exact ⟨k _ _ h1, k _ _ h2, k _ _ h3, k _ _ h4, k _ _ h5, k _ _ h6, k _ _ h7, k _ _ h8⟩
theorem PR.lower {W : World} {base base' : Nat} {v : Value} {xs : List S70} (h : PR base W v xs) (hb : base' ≤ base) : PR base' W v xs := by
  obtain ⟨A, cap, rfl, hl, hc, h⟩ := h
  refine ⟨A, cap, rfl, hl, hc, ?_⟩
  rcases h with h | ⟨blk, rfl, h1, h⟩
  · exact Or.inl h
  · exact Or.inr ⟨blk, rfl, Nat.le_trans hb h1, h⟩
def makesF (k : Nat) (l0_0 : List (S150)) (l0_1 : List (S260)) (l0_2 : List (S70)) (l1_0 : List (S185)) (a1_1 : Int) (a1_2 : Int) (l2_0 : List (S70)) (a2_1 : Int) (a2_2 : Int) (a3 : Int) (a4 : Int) (l5 : List (Int)) : Option (Bool) :=
  (state_Pod.f l2_0 a2_1 a2_2 a3).bind fun t => if t.2.2.2.2.2.2.2.2 = true then (if l2_0.length < 1000000000000 then ((room_Rest.f k l0_0 l0_1 l0_2 (l2_0.filter fun q => !goneP a4 l5 q) 0 0 a4).bind fun r => if r.2.2.2.2.isNone = true then ((victim_request.f k l1_0 a1_1 a1_2 t.1 t.2.1 t.2.2.1 t.2.2.2.1 t.2.2.2.2.1 t.2.2.2.2.2.1 t.2.2.2.2.2.2.1 t.2.2.2.2.2.2.2.1).bind fun v => vec_Fits.f v.1 v.2.1 v.2.2.1 v.2.2.2 r.1 r.2.1 r.2.2.1 r.2.2.2.1) else some false) else none) else some false
theorem makes_mono (k : Nat) (a0 a1 a2 a3 a4 a5 a6 a7 a8 a9 a10 a11) : LeO (makesF k a0 a1 a2 a3 a4 a5 a6 a7 a8 a9 a10 a11) (makesF (k + 1) a0 a1 a2 a3 a4 a5 a6 a7 a8 a9 a10 a11) := by
  intro r h
  unfold makesF at *
  obtain ⟨t, h1, h⟩ := Option.bind_eq_some_iff.1 h
  refine Option.bind_eq_some_iff.2 ⟨t, h1, ?_⟩
  by_cases c1 : t.2.2.2.2.2.2.2.2 = true
  · rw [if_pos c1] at h ⊢
    by_cases c2 : a6.length < 1000000000000
    · rw [if_pos c2] at h ⊢
      obtain ⟨u, h2, h⟩ := Option.bind_eq_some_iff.1 h
      refine Option.bind_eq_some_iff.2 ⟨u, room_Rest.mono _ _ _ _ _ _ _ _ _ h2, ?_⟩
      by_cases c3 : u.2.2.2.2.isNone = true
      · rw [if_pos c3] at h ⊢
        obtain ⟨v, h3, h⟩ := Option.bind_eq_some_iff.1 h
        exact Option.bind_eq_some_iff.2 ⟨v, victim_request.mono _ _ _ _ _ _ _ _ _ _ _ _ _ h3, h⟩
      · rw [if_neg c3] at h ⊢; exact h
    · rw [if_neg c2] at h; cases h
  · rw [if_neg c1] at h ⊢; exact h
set_option maxHeartbeats 8000000 in
theorem makes_calls (k : Nat) (A0_0 : Option Addr) (c0_0 : Nat) (l0_0 : List (S150)) (A0_1 : Option Addr) (c0_1 : Nat) (l0_1 : List (S260)) (A0_2 : Option Addr) (c0_2 : Nat) (l0_2 : List (S70)) (A1_0 : Option Addr) (c1_0 : Nat) (l1_0 : List (S185)) (a1_1 : Int) (a1_2 : Int) (A2_0 : Option Addr) (c2_0 : Nat) (l2_0 : List (S70)) (a2_1 : Int) (a2_2 : Int) (a3 : Int) (a4 : Int) (A5 : Option Addr) (c5 : Nat) (l5 : List (Int)) (r : Bool) (w : World)
    (hr0_0 : Kd.C k150 w A0_0 l0_0.length l0_0) (hc0_0 : l0_0.length ≤ c0_0) (hr0_1 : Kd.C k260 w A0_1 l0_1.length l0_1) (hc0_1 : l0_1.length ≤ c0_1) (hr0_2 : Kd.C k70 w A0_2 l0_2.length l0_2) (hc0_2 : l0_2.length ≤ c0_2) (hr1_0 : Kd.C k185 w A1_0 l1_0.length l1_0) (hc1_0 : l1_0.length ≤ c1_0) (hr2_0 : Kd.C k70 w A2_0 l2_0.length l2_0) (hc2_0 : l2_0.length ≤ c2_0) (hr5 : Kd.C (Kd.int .i64) w A5 l5.length l5) (hc5 : l5.length ≤ c5)
    (h : makesF k l0_0 l0_1 l0_2 l1_0 a1_1 a1_2 l2_0 a2_1 a2_2 a3 a4 l5 = some r) :
    Calls Try.prog 62 #[.agg #[.slice A0_0 l0_0.length c0_0, .slice A0_1 l0_1.length c0_1, .slice A0_2 l0_2.length c0_2], .agg #[.slice A1_0 l1_0.length c1_0, .int .i64 a1_1, .int .i64 a1_2], .agg #[.slice A2_0 l2_0.length c2_0, .int .i64 a2_1, .int .i64 a2_2], .int .i64 a3, .int .i64 a4, .slice A5 l5.length c5] w fun e w' => e = .returned (.bool r) ∧ Below w.heap.size w w' := by
  unfold makesF at h
  obtain ⟨⟨t1, t2, t3, t4, t5, t6, t7, t8, t9⟩, h1, hh⟩ := Option.bind_eq_some_iff.1 h
  clear h
  have h : (if t9 = true then (if l2_0.length < 1000000000000 then ((room_Rest.f k l0_0 l0_1 l0_2 (l2_0.filter fun q => !goneP a4 l5 q) 0 0 a4).bind fun r => if r.2.2.2.2.isNone = true then ((victim_request.f k l1_0 a1_1 a1_2 t1 t2 t3 t4 t5 t6 t7 t8).bind fun v => vec_Fits.f v.1 v.2.1 v.2.2.1 v.2.2.2 r.1 r.2.1 r.2.2.1 r.2.2.2.1) else some false) else none) else some false) = some r := hh
  clear hh
  have HR00 := Aside0.mk hr0_0
  have HR01 := Aside0.mk hr0_1
  have HR02 := Aside0.mk hr0_2
  have HR10 := Aside0.mk hr1_0
  have HR20 := Aside0.mk hr2_0
  have HR5 := Aside0.mk hr5
  have HC00 := Aside0.mk hc0_0
  have HC01 := Aside0.mk hc0_1
  have HC02 := Aside0.mk hc0_2
  have HC10 := Aside0.mk hc1_0
  have HC20 := Aside0.mk hc2_0
  have H1 := Aside0.mk h1
  clear hr0_0 hr0_1 hr0_2 hr1_0 hr2_0 hr5 hc0_0 hc0_1 hc0_2 hc1_0 hc2_0 hc5 h1
  cases ht9 : t9 with
  | false =>
    rw [ht9, if_neg (by simp)] at h
    obtain rfl := Option.some.inj h
    subst ht9
    clear h
    go_enter Try.func62, Try.ntmps62
    go_wp2_with fail
    change Calls Try.prog 89 _ (boxW w (.slice A0_0 l0_0.length c0_0) (.slice A0_1 l0_1.length c0_1) (.slice A0_2 l0_2.length c0_2) (.slice A1_0 l1_0.length c1_0) (.int .i64 a1_1) (.int .i64 a1_2) (.slice A2_0 l2_0.length c2_0) (.int .i64 a2_1) (.int .i64 a2_2) (.int .i64 a4) (.slice A5 l5.length c5)) _
    have HB0 := Aside0.mk (below_boxW w (.slice A0_0 l0_0.length c0_0) (.slice A0_1 l0_1.length c0_1) (.slice A0_2 l0_2.length c0_2) (.slice A1_0 l1_0.length c1_0) (.int .i64 a1_1) (.int .i64 a1_2) (.slice A2_0 l2_0.length c2_0) (.int .i64 a2_1) (.int .i64 a2_2) (.int .i64 a4) (.slice A5 l5.length c5))
    refine (state_Pod.calls A2_0 c2_0 l2_0 a2_1 a2_2 a3 t1 t2 t3 t4 t5 t6 t7 t8 false _ (Kd.C_below HR20.out HB0.out) HC20.out H1.out).mono ?_
    rintro e w1 ⟨rfl, hb⟩
    have HB := Aside0.mk (below_step HB0.out hb)
    clear hb
    go_wp2
    go_ret
    exact ⟨rfl, by repeat (first | exact HB.out | (with_reducible first | apply below_alloc | apply pw_below_drewN | apply below_drew1 | refine Below.setCell ?_ (by have := HB.out.size; simp; omega) _))⟩
  | true =>
    rw [ht9, if_pos rfl] at h
    subst ht9
    by_cases h3 : l2_0.length < 1000000000000
    case neg => rw [if_neg h3] at h; cases h
    rw [if_pos h3] at h
    obtain ⟨⟨r1, r2, r3, r4, r5⟩, h2, hh⟩ := Option.bind_eq_some_iff.1 h
    clear h
    have h : (if r5.isNone = true then ((victim_request.f k l1_0 a1_1 a1_2 t1 t2 t3 t4 t5 t6 t7 t8).bind fun v => vec_Fits.f v.1 v.2.1 v.2.2.1 v.2.2.2 r1 r2 r3 r4) else some false) = some r := hh
    clear hh
    have H2 := Aside0.mk h2
    have H3 := Aside0.mk h3
    have HH := Aside0.mk h
    clear h h2 h3
    go_enter Try.func62, Try.ntmps62
    go_wp2_with fail
    change Calls Try.prog 89 _ (boxW w (.slice A0_0 l0_0.length c0_0) (.slice A0_1 l0_1.length c0_1) (.slice A0_2 l0_2.length c0_2) (.slice A1_0 l1_0.length c1_0) (.int .i64 a1_1) (.int .i64 a1_2) (.slice A2_0 l2_0.length c2_0) (.int .i64 a2_1) (.int .i64 a2_2) (.int .i64 a4) (.slice A5 l5.length c5)) _
    have HB0 := Aside0.mk (below_boxW w (.slice A0_0 l0_0.length c0_0) (.slice A0_1 l0_1.length c0_1) (.slice A0_2 l0_2.length c0_2) (.slice A1_0 l1_0.length c1_0) (.int .i64 a1_1) (.int .i64 a1_2) (.slice A2_0 l2_0.length c2_0) (.int .i64 a2_1) (.int .i64 a2_2) (.int .i64 a4) (.slice A5 l5.length c5))
    have HX0 := Aside0.mk (box5 w (.slice A0_0 l0_0.length c0_0) (.slice A0_1 l0_1.length c0_1) (.slice A0_2 l0_2.length c0_2) (.slice A1_0 l1_0.length c1_0) (.int .i64 a1_1) (.int .i64 a1_2) (.slice A2_0 l2_0.length c2_0) (.int .i64 a2_1) (.int .i64 a2_2) (.int .i64 a4) (.slice A5 l5.length c5))
    generalize boxW w (.slice A0_0 l0_0.length c0_0) (.slice A0_1 l0_1.length c0_1) (.slice A0_2 l0_2.length c0_2) (.slice A1_0 l1_0.length c1_0) (.int .i64 a1_1) (.int .i64 a1_2) (.slice A2_0 l2_0.length c2_0) (.int .i64 a2_1) (.int .i64 a2_2) (.int .i64 a4) (.slice A5 l5.length c5) = W0 at HB0 HX0 ⊢
    refine (state_Pod.calls A2_0 c2_0 l2_0 a2_1 a2_2 a3 t1 t2 t3 t4 t5 t6 t7 t8 true _ (Kd.C_below HR20.out HB0.out) HC20.out H1.out).mono ?_
    rintro e w1 ⟨rfl, hb⟩
    have HB := Aside0.mk (below_step HB0.out hb)
    have HX := Aside0.mk (HX0.out.below hb HX0.out.1)
    clear hb HB0 HX0
    go_wp2
    have HB2 := Aside0.mk (below_alloc HB.out (.cells #[.int .i64 t1, .int .i64 t2, .int .i64 t3, .int .u64 t4, .int .u64 t5, .int .u64 t6, .int .u64 t7, .int .i64 t8] 70))
    have HX2 := Aside0.mk (HX.out.below (below_alloc (Below.refl _ _) (.cells #[.int .i64 t1, .int .i64 t2, .int .i64 t3, .int .u64 t4, .int .u64 t5, .int .u64 t6, .int .u64 t7, .int .i64 t8] 70)) HX.out.1)
    have HP2 := Aside0.mk (podAt w1 t1 t2 t3 t4 t5 t6 t7 t8)
    have HZ2 := Aside0.mk (show w.heap.size + 5 ≤ w1.heap.size from HX.out.1)
    have hz : (w1.alloc (.cells #[.int .i64 t1, .int .i64 t2, .int .i64 t3, .int .u64 t4, .int .u64 t5, .int .u64 t6, .int .u64 t7, .int .i64 t8] 70)).heap.size = w1.heap.size + 1 := by simp
    generalize w1.alloc (.cells #[.int .i64 t1, .int .i64 t2, .int .i64 t3, .int .u64 t4, .int .u64 t5, .int .u64 t6, .int .u64 t7, .int .i64 t8] 70) = W2 at HB2 HX2 HP2 hz ⊢
    generalize w1.heap.size = gp at HP2 HZ2 hz ⊢
    have HG2 := Aside0.mk hz
    clear hz HB HX
    go_cut [16, 17] (fun v16 v17 wc => ∃ g, v16 = .pointer (some ⟨g, 0, none⟩) ∧ v17 = errW r5 ∧ Aside0 (VecAt wc g r1 r2 r3 r4) ∧ Aside0 (Box5 wc w.heap.size (.slice A0_0 l0_0.length c0_0) (.slice A0_1 l0_1.length c0_1) (.slice A0_2 l0_2.length c0_2) (.slice A1_0 l1_0.length c1_0) (.int .i64 a1_1) (.int .i64 a1_2) (.slice A2_0 l2_0.length c2_0) (.int .i64 a2_1) (.int .i64 a2_2) (.int .i64 a4) (.slice A5 l5.length c5)) ∧ Aside0 (PodAt wc gp t1 t2 t3 t4 t5 t6 t7 t8) ∧ Aside0 (Below w.heap.size w wc))
    case first =>
      have SK := Aside0.mk (fun W' (hb : Below W2.heap.size W2 W') => let hx := HX2.out.below hb HX2.out.1; (⟨hx.2.1.1, hx.2.1.2.1, hx.2.1.2.2, hx.2.2.2.1.1, hx.2.2.2.2.1⟩ : W'.cell? ⟨w.heap.size, 0, none⟩ = some (.slice A0_0 l0_0.length c0_0) ∧ W'.cell? ⟨w.heap.size, 1, none⟩ = some (.slice A0_1 l0_1.length c0_1) ∧ W'.cell? ⟨w.heap.size, 2, none⟩ = some (.slice A0_2 l0_2.length c0_2) ∧ W'.cell? ⟨w.heap.size + 1 + 1, 0, none⟩ = some (.slice A2_0 l2_0.length c2_0) ∧ W'.cell? ⟨w.heap.size + 1 + 1 + 1, 0, none⟩ = some (.int .i64 a4)))
      have HB20 := Aside0.mk (below_drew1 (Below.refl W2.heap.size W2))
      have mixed : Try.prog.follows .mixedOrders = true := by kernel_rfl
      go_region_held3 (fun W' => W'.cell? ⟨w.heap.size, 0, none⟩ = some (.slice A0_0 l0_0.length c0_0) ∧ W'.cell? ⟨w.heap.size, 1, none⟩ = some (.slice A0_1 l0_1.length c0_1) ∧ W'.cell? ⟨w.heap.size, 2, none⟩ = some (.slice A0_2 l0_2.length c0_2) ∧ W'.cell? ⟨w.heap.size + 1 + 1, 0, none⟩ = some (.slice A2_0 l2_0.length c2_0) ∧ W'.cell? ⟨w.heap.size + 1 + 1 + 1, 0, none⟩ = some (.int .i64 a4))
        (exact SK.out _ (by repeat (first | (with_reducible first | exact HB36.out | exact HB33.out | exact HB31.out | exact HB20.out | apply below_alloc | apply pw_below_drewN | apply below_drew1 | refine Below.setCell ?_ (by first | exact HB33.out.size | exact HB31.out.size | exact Nat.le_refl _) _ | exact Below.refl _ _))))
        ((first
          | (go_at_call 91; refine (api_Pod_91.calls A2_0 c2_0 l2_0 l2_0 _ (Kd.C_below HR20.out (HB2.out.trans ((show Below W2.heap.size W2 _ from by repeat (first | (with_reducible first | exact HB36.out | exact HB33.out | exact HB31.out | exact HB20.out | apply below_alloc | apply pw_below_drewN | apply below_drew1 | refine Below.setCell ?_ (by first | exact HB33.out.size | exact HB31.out.size | exact Nat.le_refl _) _ | exact Below.refl _ _))).mono (show w.heap.size ≤ W2.heap.size from HB2.out.size)))) HC20.out (by unfold api_Pod_91.f; rw [if_pos (by have := H3.out; omega)])).mono ?_; rintro e w31 ⟨v31, rfl, hr, hb⟩; have HPR31 := Aside0.mk (PR.of_R hr H3.out); have HOW31 := Aside0.mk HPR31.out.own; have HPL31 := Aside0.mk (HPR31.out.lower (base' := W2.heap.size) (show Below W2.heap.size W2 _ from by repeat (first | (with_reducible first | exact HB36.out | exact HB33.out | exact HB31.out | exact HB20.out | apply below_alloc | apply pw_below_drewN | apply below_drew1 | refine Below.setCell ?_ (by first | exact HB33.out.size | exact HB31.out.size | exact Nat.le_refl _) _ | exact Below.refl _ _))).size); (first | (have HZ31 : Aside0 (VecAt w31 W2.heap.size 0 0 0 0) := Aside0.mk ((vecAt W2.drew 0 0 0 0).block (hb.block _ (by simp)))) | skip); have HB31 := Aside0.mk (below_step (show Below W2.heap.size W2 _ from by repeat (first | (with_reducible first | exact HB36.out | exact HB33.out | exact HB31.out | exact HB20.out | apply below_alloc | apply pw_below_drewN | apply below_drew1 | refine Below.setCell ?_ (by first | exact HB33.out.size | exact HB31.out.size | exact Nat.le_refl _) _ | exact Below.refl _ _))) hb); clear hr hb HPR31)
          | (go_at_call 90; refine (delete_any 108 #[.pointer (some ⟨w.heap.size + 1 + 1 + 1, 0, none⟩), .pointer (some ⟨w.heap.size + 1 + 1 + 1 + 1, 0, none⟩)] (goneP a4 l5) (enters_of Try.func108 (by kernel_rfl) rfl) W2.heap.size _ v31 l2_0 (by first | exact HPL31.out | exact HPL31.out.alloc _) (show Below W2.heap.size W2 _ from by repeat (first | (with_reducible first | exact HB36.out | exact HB33.out | exact HB31.out | exact HB20.out | apply below_alloc | apply pw_below_drewN | apply below_drew1 | refine Below.setCell ?_ (by first | exact HB33.out.size | exact HB31.out.size | exact Nat.le_refl _) _ | exact Below.refl _ _))).size (fun W x _ hb => gone_closure W x (w.heap.size + 1 + 1 + 1) (w.heap.size + 1 + 1 + 1 + 1) a4 l5 A5 c5 (HX2.out.below ((show Below W2.heap.size W2 _ from by repeat (first | (with_reducible first | exact HB36.out | exact HB33.out | exact HB31.out | exact HB20.out | apply below_alloc | apply pw_below_drewN | apply below_drew1 | refine Below.setCell ?_ (by first | exact HB33.out.size | exact HB31.out.size | exact Nat.le_refl _) _ | exact Below.refl _ _))).trans hb) HX2.out.1).2.2.2.2.1 (HX2.out.below ((show Below W2.heap.size W2 _ from by repeat (first | (with_reducible first | exact HB36.out | exact HB33.out | exact HB31.out | exact HB20.out | apply below_alloc | apply pw_below_drewN | apply below_drew1 | refine Below.setCell ?_ (by first | exact HB33.out.size | exact HB31.out.size | exact Nat.le_refl _) _ | exact Below.refl _ _))).trans hb) HX2.out.1).2.2.2.2.2 (Kd.C_below HR5.out (HB2.out.trans (((show Below W2.heap.size W2 _ from by repeat (first | (with_reducible first | exact HB36.out | exact HB33.out | exact HB31.out | exact HB20.out | apply below_alloc | apply pw_below_drewN | apply below_drew1 | refine Below.setCell ?_ (by first | exact HB33.out.size | exact HB31.out.size | exact Nat.le_refl _) _ | exact Below.refl _ _))).trans hb).mono (show w.heap.size ≤ W2.heap.size from HB2.out.size)))))).mono ?_; rintro e w33 ⟨v33, rfl, hr, hb, ho⟩; have HPR33 := Aside0.mk hr; (first | (have HZ33 := Aside0.mk (HZ31.out.block (ho W2.heap.size (World.block_lt_of_cell? _ _ HZ31.out.1.1) (fun e => absurd (HOW31.out _ e.symm).1 (by simp))))) | (have HZ33 := Aside0.mk ((vecAt w31 0 0 0 0).block (ho w31.heap.size (by simp) (fun e => absurd (HOW31.out _ e.symm).2 (by simp))))) | skip); have HB33 := Aside0.mk ((show Below W2.heap.size W2 _ from by repeat (first | (with_reducible first | exact HB36.out | exact HB33.out | exact HB31.out | exact HB20.out | apply below_alloc | apply pw_below_drewN | apply below_drew1 | refine Below.setCell ?_ (by first | exact HB33.out.size | exact HB31.out.size | exact Nat.le_refl _) _ | exact Below.refl _ _))).trans hb); obtain ⟨A33, c33, rfl, hc33, hk33⟩ := hr.reads; have HC33 := Aside0.mk hc33; have HK33 := Aside0.mk hk33; clear hr hb ho hc33 hk33)
          | (go_at_call 72; refine (room_Rest.calls k A0_0 c0_0 l0_0 A0_1 c0_1 l0_1 A0_2 c0_2 l0_2 A33 c33 _ 0 0 a4 r1 r2 r3 r4 r5 _ (Kd.C_below HR00.out (HB2.out.trans ((show Below W2.heap.size W2 _ from by repeat (first | (with_reducible first | exact HB36.out | exact HB33.out | exact HB31.out | exact HB20.out | apply below_alloc | apply pw_below_drewN | apply below_drew1 | refine Below.setCell ?_ (by first | exact HB33.out.size | exact HB31.out.size | exact Nat.le_refl _) _ | exact Below.refl _ _))).mono (show w.heap.size ≤ W2.heap.size from HB2.out.size)))) HC00.out (Kd.C_below HR01.out (HB2.out.trans ((show Below W2.heap.size W2 _ from by repeat (first | (with_reducible first | exact HB36.out | exact HB33.out | exact HB31.out | exact HB20.out | apply below_alloc | apply pw_below_drewN | apply below_drew1 | refine Below.setCell ?_ (by first | exact HB33.out.size | exact HB31.out.size | exact Nat.le_refl _) _ | exact Below.refl _ _))).mono (show w.heap.size ≤ W2.heap.size from HB2.out.size)))) HC01.out (Kd.C_below HR02.out (HB2.out.trans ((show Below W2.heap.size W2 _ from by repeat (first | (with_reducible first | exact HB36.out | exact HB33.out | exact HB31.out | exact HB20.out | apply below_alloc | apply pw_below_drewN | apply below_drew1 | refine Below.setCell ?_ (by first | exact HB33.out.size | exact HB31.out.size | exact Nat.le_refl _) _ | exact Below.refl _ _))).mono (show w.heap.size ≤ W2.heap.size from HB2.out.size)))) HC02.out (by first | exact HK33.out | exact Kd.C_alloc HK33.out _) HC33.out H2.out).mono ?_; rintro e w36 ⟨rfl, hb⟩; (first | (have HZ36 := Aside0.mk (HZ33.out.block (hb.block _ (World.block_lt_of_cell? _ _ HZ33.out.1.1)))) | (have HZ36 := Aside0.mk ((vecAt w33 0 0 0 0).block (hb.block _ (by simp)))) | skip); have HB36 := Aside0.mk (below_step (show Below W2.heap.size W2 _ from by repeat (first | (with_reducible first | exact HB36.out | exact HB33.out | exact HB31.out | exact HB20.out | apply below_alloc | apply pw_below_drewN | apply below_drew1 | refine Below.setCell ?_ (by first | exact HB33.out.size | exact HB31.out.size | exact Nat.le_refl _) _ | exact Below.refl _ _))) hb); (first | obtain ⟨⟨z0, z1, z2, z3⟩, y0, y1, y2, y3⟩ := HZ36.out | obtain ⟨⟨z0, z1, z2, z3⟩, y0, y1, y2, y3⟩ := vecAt w36 0 0 0 0); clear hb)))
      all_goals
        try go_wp2
        go_meet
        case rel =>
          refine ⟨_, rfl, rfl, ⟨by first | exact vec_set HZ36.out _ _ _ _ | exact vecAt w36 _ _ _ _ | exact vec_set (vecAt w36 0 0 0 0) _ _ _ _⟩, ?_⟩
          refine (fun (hf : Below W2.heap.size W2 _) => ⟨⟨HX2.out.below hf HX2.out.1⟩, ⟨HP2.out.below hf (by have := HG2.out; omega)⟩, ⟨HB2.out.trans (hf.mono HB2.out.size)⟩⟩) ?_
          repeat (first | (with_reducible first | exact HB36.out | apply below_alloc | apply pw_below_drewN | apply below_drew1 | refine Below.setCell ?_ (by first | exact HB33.out.size | exact HB31.out.size | exact HB36.out.size | exact Nat.le_refl _) _))
    case rest =>
      obtain ⟨g, rfl, rfl, HV, HXc, HPc, HBc⟩ := hcut
      have mixed : Try.prog.follows .mixedOrders = true := by kernel_rfl
      have SK := Aside0.mk (fun W' (hb : Below wc.heap.size wc W') => let hx := HXc.out.below hb HXc.out.1; let hp := HPc.out.below hb (World.block_lt_of_cell? _ _ HPc.out.1); let hv := HV.out.block (hb.block _ (World.block_lt_of_cell? _ _ HV.out.1.1)); (⟨hx.2.2.1.1, hx.2.2.1.2.1, hx.2.2.1.2.2, hp.1, hp.2.1, hp.2.2.1, hp.2.2.2.1, hp.2.2.2.2.1, hp.2.2.2.2.2.1, hp.2.2.2.2.2.2.1, hp.2.2.2.2.2.2.2, hv.1.1, hv.1.2.1, hv.1.2.2.1, hv.1.2.2.2⟩ : W'.cell? ⟨w.heap.size + 1, 0, none⟩ = some (.slice A1_0 l1_0.length c1_0) ∧ W'.cell? ⟨w.heap.size + 1, 1, none⟩ = some (.int .i64 a1_1) ∧ W'.cell? ⟨w.heap.size + 1, 2, none⟩ = some (.int .i64 a1_2) ∧ W'.cell? ⟨gp, 0, none⟩ = some (.int .i64 t1) ∧ W'.cell? ⟨gp, 1, none⟩ = some (.int .i64 t2) ∧ W'.cell? ⟨gp, 2, none⟩ = some (.int .i64 t3) ∧ W'.cell? ⟨gp, 3, none⟩ = some (.int .u64 t4) ∧ W'.cell? ⟨gp, 4, none⟩ = some (.int .u64 t5) ∧ W'.cell? ⟨gp, 5, none⟩ = some (.int .u64 t6) ∧ W'.cell? ⟨gp, 6, none⟩ = some (.int .u64 t7) ∧ W'.cell? ⟨gp, 7, none⟩ = some (.int .i64 t8) ∧ W'.cell? ⟨g, 0, none⟩ = some (.int .u64 r1) ∧ W'.cell? ⟨g, 1, none⟩ = some (.int .u64 r2) ∧ W'.cell? ⟨g, 2, none⟩ = some (.int .u64 r3) ∧ W'.cell? ⟨g, 3, none⟩ = some (.int .u64 r4)))
      cases hr5 : r5 with
      | some c =>
        have h := HH.out
        rw [hr5, if_neg (by simp)] at h
        obtain rfl := Option.some.inj h
        clear h
        go_wp2
        rw [errW_some]
        repeat (go_quiet (fail); try go_wp2)
        go_ret
        exact ⟨rfl, by repeat (first | exact HBc.out | (with_reducible first | apply below_alloc | apply pw_below_drewN | apply below_drew1))⟩
      | none =>
        have h := HH.out
        rw [hr5, if_pos (by rfl)] at h
        obtain ⟨⟨v1, v2, v3, v4⟩, h4, h5⟩ := Option.bind_eq_some_iff.1 h
        have h6 : vec_Fits.f v1 v2 v3 v4 r1 r2 r3 r4 = some r := h5
        have H4 := Aside0.mk h4
        have H6 := Aside0.mk h6
        clear h h4 h5 h6
        go_wp2
        rw [errW_none]
        go_region_held3 (fun W' => W'.cell? ⟨w.heap.size + 1, 0, none⟩ = some (.slice A1_0 l1_0.length c1_0) ∧ W'.cell? ⟨w.heap.size + 1, 1, none⟩ = some (.int .i64 a1_1) ∧ W'.cell? ⟨w.heap.size + 1, 2, none⟩ = some (.int .i64 a1_2) ∧ W'.cell? ⟨gp, 0, none⟩ = some (.int .i64 t1) ∧ W'.cell? ⟨gp, 1, none⟩ = some (.int .i64 t2) ∧ W'.cell? ⟨gp, 2, none⟩ = some (.int .i64 t3) ∧ W'.cell? ⟨gp, 3, none⟩ = some (.int .u64 t4) ∧ W'.cell? ⟨gp, 4, none⟩ = some (.int .u64 t5) ∧ W'.cell? ⟨gp, 5, none⟩ = some (.int .u64 t6) ∧ W'.cell? ⟨gp, 6, none⟩ = some (.int .u64 t7) ∧ W'.cell? ⟨gp, 7, none⟩ = some (.int .i64 t8) ∧ W'.cell? ⟨g, 0, none⟩ = some (.int .u64 r1) ∧ W'.cell? ⟨g, 1, none⟩ = some (.int .u64 r2) ∧ W'.cell? ⟨g, 2, none⟩ = some (.int .u64 r3) ∧ W'.cell? ⟨g, 3, none⟩ = some (.int .u64 r4))
          (exact SK.out _ (show Below wc.heap.size wc _ from by repeat (first | (with_reducible first | exact HB44.out | exact HB46.out | apply below_alloc | apply pw_below_drewN | apply below_drew1 | exact Below.refl _ _))))
          ((first
            | (go_at_call 110; refine (victim_request.calls k A1_0 c1_0 l1_0 a1_1 a1_2 t1 t2 t3 t4 t5 t6 t7 t8 v1 v2 v3 v4 _ (Kd.C_below HR10.out (HBc.out.trans ((show Below wc.heap.size wc _ from by repeat (first | (with_reducible first | exact HB44.out | exact HB46.out | apply below_alloc | apply pw_below_drewN | apply below_drew1 | exact Below.refl _ _))).mono HBc.out.size))) HC10.out H4.out).mono ?_; rintro e w44 ⟨rfl, hb⟩; have HB44 := Aside0.mk (below_step (show Below wc.heap.size wc _ from by repeat (first | (with_reducible first | exact HB44.out | exact HB46.out | apply below_alloc | apply pw_below_drewN | apply below_drew1 | exact Below.refl _ _))) hb); clear hb)
            | (go_at_call 32; refine (vec_Fits.calls v1 v2 v3 v4 r1 r2 r3 r4 r _ H6.out).mono ?_; rintro e w46 ⟨rfl, hb⟩; have HB46 := Aside0.mk (below_step (show Below wc.heap.size wc _ from by repeat (first | (with_reducible first | exact HB44.out | exact HB46.out | apply below_alloc | apply pw_below_drewN | apply below_drew1 | exact Below.refl _ _))) hb); clear hb)))
        all_goals
          try go_wp2
          go_ret
          exact ⟨rfl, HBc.out.trans ((show Below wc.heap.size wc _ from by repeat (first | (with_reducible first | exact HB44.out | exact HB46.out | apply below_alloc | apply pw_below_drewN | apply below_drew1 | exact Below.refl _ _))).mono HBc.out.size)⟩
end Go.Proofs.Ytppfkbigeknedaa.Q
