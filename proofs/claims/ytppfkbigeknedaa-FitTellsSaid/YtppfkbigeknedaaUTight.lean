/- fit.sorted, fit.Tighter, dunnageref14.down, dunnageref14.Tighter, by hand. -/
import Derived.Test.YtppfkbigeknedaaUQslicesCompareuint64uint64
import Derived.Shelf.SlSortCmp.Insertion
namespace Go.Proofs.Ytppfkbigeknedaa.Q
open Go.Shelf Go.RowKit Go.Lib Go.Proofs.YtppfkbigeknedaaW.PrintWords Go.Proofs.YtppfkbigeknedaaW.PrintLast Go.Proofs.YtppfkbigeknedaaW.PrintMore
open Go.Sort hiding Below
set_option linter.unusedVariables false
set_option linter.unusedSimpArgs false
set_option maxRecDepth 100000
attribute [local go_sem] eqe_ii eqe_nn eqe_ni eqe_nni
def fourRen : Ren := ⟨fun x => if x = 20 then 157 else x, fun x => if x = 22 then 112 else if x = 24 then 31 else if x = 25 then 188 else x, fun x => x⟩
theorem fourL : SlLaysF.n20 Try.prog fourRen := {
  mixed := by kernel_rfl
  f20 := ⟨Try.f157.name, by decide, Try.func157.trans (by kernel_rfl)⟩
  t0 := by kernel_rfl
  a0 := fun w => by kernel_rfl
  z0 := fun w => by kernel_rfl
  v0 := fun w => by kernel_rfl
  t3 := by kernel_rfl
  a3 := fun w => by kernel_rfl
  z3 := fun w => by kernel_rfl
  v3 := fun w => by kernel_rfl
  t4 := by kernel_rfl
  a4 := fun w => by kernel_rfl
  z4 := fun w => by kernel_rfl
  v4 := fun w => by kernel_rfl
  t22 := by kernel_rfl
  a22 := fun w => by kernel_rfl
  z22 := fun w => by kernel_rfl
  v22 := fun w => by kernel_rfl
  a24 := fun w => by kernel_rfl
  z24 := fun w => by kernel_rfl
  t25 := by kernel_rfl
  a25 := fun w => by kernel_rfl
  z25 := fun w => by kernel_rfl
  v25 := fun w => by kernel_rfl }
def cmpF (x y : Int) : Int := if y < x then -1 else if x < y then 1 else 0
theorem cmpF_eq (x y : Int) : cmp_Compare_uint64.f y x = some (cmpF x y) := by
  unfold cmp_Compare_uint64.f cmpF cmp_isNaN_uint64.f
  simp
  repeat (first | rfl | split)
theorem len4 (w : World) : Calls Try.prog 149 #[.int .u64 4] w fun e w' => (∃ l : Int, e = .returned (.int .i64 l)) ∧ w' = w := by
  go_enter Try.func149, Try.ntmps149
  go_wp2
  go_ret
  exact ⟨⟨_, rfl⟩, rfl⟩
theorem desc1 (x y : Int) (w : World) : Calls Try.prog 133 #[.int .u64 x, .int .u64 y] w fun e w' => e = .returned (.int .i64 (cmpF x y)) ∧ ∃ n, w' = w.drewN n := by
  have hc := fun W => (cmp_Compare_uint64.calls y x (cmpF x y) W (cmpF_eq x y)).mono (fun e w' (h : _ ∧ Drawn0 W w') => (⟨h.1, h.2.out⟩ : _ ∧ ∃ m, w' = W.drewN m))
  go_enter Try.func133, Try.ntmps133
  go_wp2_with (go_at_call 131; refine (hc _).mono ?_; rintro e w' ⟨rfl, ⟨n, rfl⟩⟩)
  go_ret
  exact ⟨rfl, _, rfl⟩
def encU (x : Int) : Value := .int .u64 x
theorem encU_one : OneCell encU := fun _ => rfl
def srt (d : Array Int) : Array Int := Sort.insertionSort (ltOf cmpF) d 0 4
theorem desc_reads (blk off n : Nat) (w : World) : CmpReads Try.prog 133 #[] encU cmpF blk off n w := fun m os dk _ x y => desc1 x y _
set_option maxHeartbeats 4000000 in
theorem ins4 (blk cap : Nat) (d : Array Int) (hd : d.size = 4) (w : World) (hH : Holds encU w blk 0 d) :
    Calls Try.prog 157 #[.slice (some ⟨blk, 0, none⟩) 4 cap, .int .i64 0, .int .i64 4, .func (.func 133) #[] #[]] w fun e w' => e = .returned (.tuple #[]) ∧ ∃ n, w' = (putRow encU w blk 0 (srt d)).drewN n := by
  have h := Any.insertionSortCmpFunc_one fourL encU encU_one cmpF 133 #[] blk 0 cap 0 4 d w (enters_of Try.func133 (by kernel_rfl) rfl) (desc_reads blk 0 _ w) hH (by omega) (by omega) (by omega)
  rw [hd] at h
  exact h
set_option maxHeartbeats 4000000 in
theorem pdq4 (blk cap : Nat) (d : Array Int) (hd : d.size = 4) (lim : Int) (w : World) (hH : Holds encU w blk 0 d) :
    Calls Try.prog 148 #[.slice (some ⟨blk, 0, none⟩) 4 cap, .int .i64 0, .int .i64 4, .int .i64 lim, .func (.func 133) #[] #[]] w fun e w' => e = .returned (.tuple #[]) ∧ ∃ n, w' = (putRow encU w blk 0 (srt d)).drewN n := by
  have hi := ins4 blk cap d hd w hH
  clear hH
  go_enter Try.func148, Try.ntmps148
  go_wp2
  refine wp_loop_rounds 1 ?_
  rw [rounds_succ]
  go_wp2_with (go_at_call 157; refine hi.mono ?_; rintro e w' ⟨rfl, n, rfl⟩)
  (try simp only [Exit.inBlock, Exit.then]); refine bodyPost_ret (results_none rfl _ _ _) rfl ?_
  exact ⟨rfl, n, rfl⟩
set_option maxHeartbeats 4000000 in
theorem sortf4 (blk cap : Nat) (d : Array Int) (hd : d.size = 4) (w : World) (hH : Holds encU w blk 0 d) :
    Calls Try.prog 132 #[.slice (some ⟨blk, 0, none⟩) 4 cap, .func (.func 133) #[] #[]] w fun e w' => e = .returned (.tuple #[]) ∧ ∃ n, w' = (putRow encU w blk 0 (srt d)).drewN n := by
  have hp := fun lim => pdq4 blk cap d hd lim w hH
  clear hH
  go_enter Try.func132, Try.ntmps132
  go_wp2_with (first | (go_at_call 149; refine (len4 _).mono ?_; rintro e w' ⟨⟨l, rfl⟩, rfl⟩) | (go_at_call 148; refine (hp _).mono ?_; rintro e w' ⟨rfl, n, rfl⟩))
  go_end0
  exact ⟨rfl, n, rfl⟩
theorem holds_box (w : World) (a0 a1 a2 a3 : Int) : Holds encU (w.alloc (.cells #[.int .u64 a0, .int .u64 a1, .int .u64 a2, .int .u64 a3] 33)) w.heap.size 0 #[a0, a1, a2, a3] := by
  intro j hj
  have : j = 0 ∨ j = 1 ∨ j = 2 ∨ j = 3 := by have : j < 4 := hj; omega
  rcases this with rfl | rfl | rfl | rfl <;> exact ⟨by simp [go_sem, encU], by simp [go_sem]⟩
theorem holds_C {W : World} {blk : Nat} {d : Array Int} (h : Holds encU W blk 0 d) (hd : d.size = 4) : Kd.C (Kd.int .u64) W (some ⟨blk, 0, none⟩) 4 d.toList := by
  refine ⟨by simp [hd], by omega, fun _ => ⟨_, rfl, fun j p hp => ?_⟩⟩
  have hj : j < d.size := by
    have := (List.getElem?_eq_some_iff.1 hp).1
    simpa using this
  have hx : d[j]! = p := by
    rw [Array.getElem?_toList] at hp
    rw [getElem!_pos d j hj]
    have := Array.getElem?_eq_getElem hj
    rw [this] at hp
    exact Option.some.inj hp
  refine ⟨[.int .u64 p], rfl, rfl, fun i u hu => ?_⟩
  have h1 := (h j hj).1
  rw [hx] at h1
  cases i with
  | zero =>
    obtain rfl : Value.int .u64 p = u := by simpa using hu
    have e : (⟨blk, 0, none⟩ : Addr).add (j * (Kd.int .u64).sz + 0) = ⟨blk, 0 + j, none⟩ := by
      show (⟨blk, 0, none⟩ : Addr).add (j * 1 + 0) = _
      rw [Nat.mul_one, Nat.add_zero]
      simp [go_sem]
    rw [e]
    exact h1
  | succ i => simp at hu
theorem below_putRowU {B : Nat} (W : World) (blk n : Nat) (d : Array Int) (hB : B ≤ blk) : Below B W ((putRow encU W blk 0 d).drewN n) :=
  ⟨rfl, rfl, rfl, by show W.heap.size ≤ (putRow encU W blk 0 d).heap.size; rw [size_putRow]; exact Nat.le_refl _, fun k hk => by
    show ((W).heap.modify blk _)[k]? = _
    rw [Array.getElem?_modify, if_neg (by omega)]⟩
theorem cmpF_swo : SWO (ltOf cmpF) := by
  have e : ∀ x y, ltOf cmpF x y = decide (y < x) := fun x y => by
    unfold ltOf cmpF
    split
    · rename_i h; simp [h]
    · rename_i h; split <;> simp [h]
  constructor <;> simp only [e] <;> intros <;> simp_all <;> omega
theorem srt_holds (d : Array Int) (hd : d.size = 4) : PermIn 0 4 d (srt d) ∧ SortedIn (ltOf cmpF) 0 4 (srt d) :=
  insertionSort_holds (lt := ltOf cmpF) cmpF_swo d 0 4 (by omega) (by omega)
theorem srt_size (d : Array Int) (hd : d.size = 4) : (srt d).size = 4 := (srt_holds d hd).1.1.trans hd
set_option maxHeartbeats 4000000 in
theorem sorted_calls (a0 a1 a2 a3 : Int) (w : World) :
    Calls Try.prog 112 #[.agg #[.int .u64 a0, .int .u64 a1, .int .u64 a2, .int .u64 a3]] w fun e w' => ∃ A, e = .returned (.slice A 4 4) ∧ Kd.C (Kd.int .u64) w' A 4 (srt #[a0, a1, a2, a3]).toList ∧ Below w.heap.size w w' := by
  have hs := sortf4 w.heap.size 4 #[a0, a1, a2, a3] rfl (w.alloc (.cells #[.int .u64 a0, .int .u64 a1, .int .u64 a2, .int .u64 a3] 33)) (holds_box w a0 a1 a2 a3)
  have hr := Aside0.mk (fun n => (fun j hj => holds_putRow encU (w.alloc (.cells #[.int .u64 a0, .int .u64 a1, .int .u64 a2, .int .u64 a3] 33)) w.heap.size 0 #[a0, a1, a2, a3] (srt #[a0, a1, a2, a3]) (holds_box w a0 a1 a2 a3) (srt_size _ rfl) j hj : Holds encU ((putRow encU (w.alloc (.cells #[.int .u64 a0, .int .u64 a1, .int .u64 a2, .int .u64 a3] 33)) w.heap.size 0 (srt #[a0, a1, a2, a3])).drewN n) w.heap.size 0 (srt #[a0, a1, a2, a3])))
  have hb := Aside0.mk (fun n => (below_alloc (Below.refl w.heap.size w) (.cells #[.int .u64 a0, .int .u64 a1, .int .u64 a2, .int .u64 a3] 33)).trans (below_putRowU (B := w.heap.size) (w.alloc (.cells #[.int .u64 a0, .int .u64 a1, .int .u64 a2, .int .u64 a3] 33)) w.heap.size n (srt #[a0, a1, a2, a3]) (Nat.le_refl _)))
  go_enter Try.func112, Try.ntmps112
  go_wp2_with (go_at_call 132; refine hs.mono ?_; rintro e w' ⟨rfl, n, rfl⟩)
  go_ret
  exact ⟨_, rfl, holds_C (hr.out n) (srt_size _ rfl), hb.out n⟩
def c4 (x0 x1 x2 x3 y0 y1 y2 y3 : Int) : Int :=
  if cmpF y0 x0 = 0 then if cmpF y1 x1 = 0 then if cmpF y2 x2 = 0 then if cmpF y3 x3 = 0 then 0 else cmpF y3 x3 else cmpF y2 x2 else cmpF y1 x1 else cmpF y0 x0
theorem w64s (k : Int) (h : 0 ≤ k) (h2 : k < 100) : wrap64 k = k := by unfold wrap64; omega
theorem compare4 (x0 x1 x2 x3 y0 y1 y2 y3 : Int) : slices_Compare_uint64_uint64.f 5 [x0, x1, x2, x3] [y0, y1, y2, y3] = some (c4 x0 x1 x2 x3 y0 y1 y2 y3) := by
  unfold slices_Compare_uint64_uint64.f c4
  simp [slices_Compare_uint64_uint64.l0, rd, cmpF_eq, w64s 1 (by omega) (by omega), w64s 2 (by omega) (by omega), w64s 3 (by omega) (by omega), w64s 4 (by omega) (by omega)]
  repeat (first | rfl | split)
theorem four_of {l : List Int} (h : l.length = 4) : ∃ x0 x1 x2 x3, l = [x0, x1, x2, x3] := by
  match l, h with
  | [x0, x1, x2, x3], _ => exact ⟨_, _, _, _, rfl⟩
theorem cmp4_calls (A B : Option Addr) (x0 x1 x2 x3 y0 y1 y2 y3 : Int) (w : World) (hA : Kd.C (Kd.int .u64) w A 4 [x0, x1, x2, x3]) (hB : Kd.C (Kd.int .u64) w B 4 [y0, y1, y2, y3]) :
    Calls Try.prog 111 #[.slice A 4 4, .slice B 4 4] w fun e w' => e = .returned (.int .i64 (c4 x0 x1 x2 x3 y0 y1 y2 y3)) ∧ ∃ n, w' = w.drewN n :=
  (slices_Compare_uint64_uint64.calls 5 A 4 [x0, x1, x2, x3] B 4 [y0, y1, y2, y3] _ w hA (Nat.le_refl _) hB (Nat.le_refl _) (compare4 ..)).mono (fun e w' h => ⟨h.1, h.2.out⟩)
def tightL (l m : List Int) : Bool := match l, m with
  | [x0, x1, x2, x3], [y0, y1, y2, y3] => decide (c4 x0 x1 x2 x3 y0 y1 y2 y3 < 0)
  | _, _ => false
def tightF (a0 a1 a2 a3 b0 b1 b2 b3 : Int) : Bool := tightL (srt #[a0, a1, a2, a3]).toList (srt #[b0, b1, b2, b3]).toList
set_option maxHeartbeats 8000000 in
theorem tight_calls (a0 a1 a2 a3 b0 b1 b2 b3 : Int) (w : World) :
    Calls Try.prog 64 #[.agg #[.int .u64 a0, .int .u64 a1, .int .u64 a2, .int .u64 a3], .agg #[.int .u64 b0, .int .u64 b1, .int .u64 b2, .int .u64 b3]] w fun e w' => e = .returned (.bool (tightF a0 a1 a2 a3 b0 b1 b2 b3)) ∧ Below w.heap.size w w' := by
  have ca := sorted_calls a0 a1 a2 a3
  have cb := sorted_calls b0 b1 b2 b3
  have HT : tightF a0 a1 a2 a3 b0 b1 b2 b3 = tightL (srt #[a0, a1, a2, a3]).toList (srt #[b0, b1, b2, b3]).toList := rfl
  obtain ⟨x0, x1, x2, x3, ex⟩ := four_of (l := (srt #[a0, a1, a2, a3]).toList) (by rw [Array.length_toList]; exact srt_size _ rfl)
  obtain ⟨y0, y1, y2, y3, ey⟩ := four_of (l := (srt #[b0, b1, b2, b3]).toList) (by rw [Array.length_toList]; exact srt_size _ rfl)
  rw [ex, ey] at HT
  rw [ex] at ca
  rw [ey] at cb
  have HT := Aside0.mk (HT : _ = decide (c4 x0 x1 x2 x3 y0 y1 y2 y3 < 0))
  clear ex ey
  go_enter Try.func64, Try.ntmps64
  go_wp2_with fail
  have HB2 := Aside0.mk (below_alloc (below_alloc (Below.refl w.heap.size w) (.cells #[.int .u64 a0, .int .u64 a1, .int .u64 a2, .int .u64 a3] 33)) (.cells #[.int .u64 b0, .int .u64 b1, .int .u64 b2, .int .u64 b3] 33))
  have HS2 := Aside0.mk (show (fun W' : World => W'.cell? ⟨w.heap.size, 0, none⟩ = some (.int .u64 a0) ∧ W'.cell? ⟨w.heap.size, 1, none⟩ = some (.int .u64 a1) ∧ W'.cell? ⟨w.heap.size, 2, none⟩ = some (.int .u64 a2) ∧ W'.cell? ⟨w.heap.size, 3, none⟩ = some (.int .u64 a3) ∧ W'.cell? ⟨w.heap.size + 1, 0, none⟩ = some (.int .u64 b0) ∧ W'.cell? ⟨w.heap.size + 1, 1, none⟩ = some (.int .u64 b1) ∧ W'.cell? ⟨w.heap.size + 1, 2, none⟩ = some (.int .u64 b2) ∧ W'.cell? ⟨w.heap.size + 1, 3, none⟩ = some (.int .u64 b3)) ((w.alloc (.cells #[.int .u64 a0, .int .u64 a1, .int .u64 a2, .int .u64 a3] 33)).alloc (.cells #[.int .u64 b0, .int .u64 b1, .int .u64 b2, .int .u64 b3] 33)) from by simp [go_sem])
  have HZ2 : ((w.alloc (.cells #[.int .u64 a0, .int .u64 a1, .int .u64 a2, .int .u64 a3] 33)).alloc (.cells #[.int .u64 b0, .int .u64 b1, .int .u64 b2, .int .u64 b3] 33)).heap.size = w.heap.size + 2 := by simp
  generalize (w.alloc (.cells #[.int .u64 a0, .int .u64 a1, .int .u64 a2, .int .u64 a3] 33)).alloc (.cells #[.int .u64 b0, .int .u64 b1, .int .u64 b2, .int .u64 b3] 33) = W2 at HB2 HS2 HZ2 ⊢
  have HZ2 := Aside0.mk HZ2
  have SK := Aside0.mk (fun W' (hb : Below W2.heap.size W2 W') => (by
    have h := HS2.out
    have e : ∀ o, W'.cell? ⟨w.heap.size, o, none⟩ = W2.cell? ⟨w.heap.size, o, none⟩ := fun o => hb.cell (p := ⟨w.heap.size, o, none⟩) (by show w.heap.size < _; have := HZ2.out; omega)
    have e' : ∀ o, W'.cell? ⟨w.heap.size + 1, o, none⟩ = W2.cell? ⟨w.heap.size + 1, o, none⟩ := fun o => hb.cell (p := ⟨w.heap.size + 1, o, none⟩) (by show w.heap.size + 1 < _; have := HZ2.out; omega)
    simp only [e, e']
    exact h : W'.cell? ⟨w.heap.size, 0, none⟩ = some (.int .u64 a0) ∧ W'.cell? ⟨w.heap.size, 1, none⟩ = some (.int .u64 a1) ∧ W'.cell? ⟨w.heap.size, 2, none⟩ = some (.int .u64 a2) ∧ W'.cell? ⟨w.heap.size, 3, none⟩ = some (.int .u64 a3) ∧ W'.cell? ⟨w.heap.size + 1, 0, none⟩ = some (.int .u64 b0) ∧ W'.cell? ⟨w.heap.size + 1, 1, none⟩ = some (.int .u64 b1) ∧ W'.cell? ⟨w.heap.size + 1, 2, none⟩ = some (.int .u64 b2) ∧ W'.cell? ⟨w.heap.size + 1, 3, none⟩ = some (.int .u64 b3)))
  have HB20 := Aside0.mk (below_drew1 (Below.refl W2.heap.size W2))
  clear HS2
  have mixed : Try.prog.follows .mixedOrders = true := by kernel_rfl
  go_region_held3 (fun W' => W'.cell? ⟨w.heap.size, 0, none⟩ = some (.int .u64 a0) ∧ W'.cell? ⟨w.heap.size, 1, none⟩ = some (.int .u64 a1) ∧ W'.cell? ⟨w.heap.size, 2, none⟩ = some (.int .u64 a2) ∧ W'.cell? ⟨w.heap.size, 3, none⟩ = some (.int .u64 a3) ∧ W'.cell? ⟨w.heap.size + 1, 0, none⟩ = some (.int .u64 b0) ∧ W'.cell? ⟨w.heap.size + 1, 1, none⟩ = some (.int .u64 b1) ∧ W'.cell? ⟨w.heap.size + 1, 2, none⟩ = some (.int .u64 b2) ∧ W'.cell? ⟨w.heap.size + 1, 3, none⟩ = some (.int .u64 b3))
    (exact SK.out _ (by repeat (first | (with_reducible first | exact HB33.out | exact HB31.out | exact HB20.out | apply below_alloc | apply pw_below_drewN | apply below_drew1 | exact Below.refl _ _))))
    ((first
      | (go_at_call 112; first
          | (refine (ca _).mono ?_; rintro e w31 ⟨A31, rfl, hC, hb⟩; have HC31 := Aside0.mk hC; have HB31 := Aside0.mk (show Below W2.heap.size W2 w31 from Below.trans (by repeat (first | (with_reducible first | exact HB33.out | exact HB31.out | exact HB20.out | apply below_alloc | apply pw_below_drewN | apply below_drew1 | exact Below.refl _ _))) (hb.mono (Below.size (by repeat (first | (with_reducible first | exact HB33.out | exact HB31.out | exact HB20.out | apply below_alloc | apply pw_below_drewN | apply below_drew1 | exact Below.refl _ _)))))); clear hC hb)
          | (refine (cb _).mono ?_; rintro e w33 ⟨A33, rfl, hC, hb⟩; have HC33 := Aside0.mk hC; have HD33 := Aside0.mk hb; have HB33 := Aside0.mk (show Below W2.heap.size W2 w33 from Below.trans (by repeat (first | (with_reducible first | exact HB33.out | exact HB31.out | exact HB20.out | apply below_alloc | apply pw_below_drewN | apply below_drew1 | exact Below.refl _ _))) (hb.mono (Below.size (by repeat (first | (with_reducible first | exact HB33.out | exact HB31.out | exact HB20.out | apply below_alloc | apply pw_below_drewN | apply below_drew1 | exact Below.refl _ _)))))); clear hC hb))
      | (go_at_call 111; refine (cmp4_calls A31 A33 x0 x1 x2 x3 y0 y1 y2 y3 _ (Kd.C_below HC31.out (by repeat (first | (with_reducible first | exact HD33.out | apply pw_below_drewN | apply below_drew1 | exact Below.refl _ _)))) (Kd.C_below HC33.out (by repeat (first | (with_reducible first | apply pw_below_drewN | apply below_drew1 | exact Below.refl _ _))))).mono ?_; rintro e w' ⟨rfl, n, rfl⟩)))
  all_goals
    try go_wp2
    go_ret
    exact ⟨by rw [HT.out]; rfl, HB2.out.trans ((show Below W2.heap.size W2 _ from (by repeat (first | (with_reducible first | exact HB33.out | exact HB31.out | exact HB20.out | apply below_alloc | apply pw_below_drewN | apply below_drew1 | exact Below.refl _ _)))).mono HB2.out.size)⟩
end Go.Proofs.Ytppfkbigeknedaa.Q
