/- JournalKeeps: together, the long way, merged -/
import Derived.Test.YtppfkbigeknedaaKRL
import Derived.Test.YtppfkbigeknedaaKPlaysA
namespace Go.Proofs.Ytppfkbigeknedaa.Q
open Go.RowKit Go.Proofs.YtppfkbigeknedaaW.PrintWords Go.Proofs.YtppfkbigeknedaaW.PrintLast Go.Proofs.YtppfkbigeknedaaW.PrintMore
set_option linter.unusedVariables false
set_option linter.unusedSimpArgs false
set_option maxRecDepth 100000
attribute [local go_sem] eqe_ii eqe_nn eqe_ni eqe_nni
def kat {α : Type} (d : Kd α) (w0 : World) : Kd α where
  sz := d.sz
  E := []
  K _ x cs := d.K w0 x cs
  M _ _ _ x cs := d.K w0 x cs
  K_len h := d.K_len h
  K_one h := d.K_one h
  K_below _ h := h
  K_of_M h := h
  M_mono _ h := h
  M_bound h := h
  M_move _ h := h
  M_lower _ h := h
theorem kat_C {α : Type} {d : Kd α} {w0 w : World} {A : Option Addr} {n : Nat} {xs : List α} (h : (kat d w0).C w A n xs) (hb : Below w0.heap.size w0 w) : d.C w A n xs :=
  ReadsRow.imp_ (w1 := w) h (Below.refl _ _) (fun _ _ hp => d.K_below hb hp)
theorem kat_kept {α : Type} {d : Kd α} {w0 : World} {e base : Nat} {ok S : Nat → Prop} {W W2 : World} {v : Value} {xs : List α} (h : (kat d w0).R e W base ok v xs) (hk : Kept W W2 S) (hne : ∀ k, v.ownBlock = some k → ¬ S k) : (kat d w0).R e W2 base ok v xs :=
  Kd.R_mono (Kd.R_kept (Kd.R_tight2 rfl h) hk (fun k hk => hne k hk.1.symm)) (fun k hk => hk.2)
theorem R60_tight {base : Nat} {W : World} {es : List S60} {v : Value} {ok : Nat → Prop} (h : k60.R 60 W base ok v es) : k60.R 60 W base (fun k => ok k ∧ (v.ownBlock = some k ∨ ∃ cells, W.heap[k]? = some (.cells cells 130 (0, 0)))) v es := by
  obtain ⟨h0, inner, ho, hr⟩ := h
  refine ⟨fun k hk => ⟨h0 k hk, Or.inl hk⟩, inner, ho, hr.imp_ (fun _ _ hp => k60.M_mono (fun k hk => ?_) (k60.M_bound hp))⟩
  obtain ⟨⟨h1, h2⟩, _, _, q, hq, hc⟩ := hk
  refine ⟨⟨h1, Or.inr ?_⟩, h2⟩
  simp only [k60, Kd.iso, Kd.pair, Kd.int, Kd.scalar, Kd.slice, k130, List.nil_append, List.append_nil, List.mem_cons, List.not_mem_nil, or_false] at hq
  subst hq
  exact hc
def KSys (w0 : World) (gd gj gx : Nat) (W : World) (X : Array Value) (xs : List Int) (room : Int) (down : Bool) (es ws : List S60) (vd vj vw : Value) : Prop :=
  IsD w0.heap.size gd W xs room down vd ∧ IsJ w0.heap.size gj W gd es vj ∧ (kat k60 w0).R 60 W w0.heap.size (fun _ => True) vw ws ∧ Below w0.heap.size w0 W ∧ W.heap[gx]? = some (.cells X 60 (0, 0)) ∧ (∀ k, vw.ownBlock = some k → vj.ownBlock ≠ some k ∧ k ≠ gx) ∧ vj.ownBlock ≠ some gx
theorem KSys.below {w0 : World} {gd gj gx : Nat} {W W1 : World} {X : Array Value} {xs : List Int} {room : Int} {down : Bool} {es ws : List S60} {vd vj vw : Value} (h : KSys w0 gd gj gx W X xs room down es ws vd vj vw) (hb : Below W.heap.size W W1) : KSys w0 gd gj gx W1 X xs room down es ws vd vj vw :=
  ⟨h.1.below2 hb, h.2.1.below hb, Kd.R_below h.2.2.1 hb, h.2.2.2.1.trans (hb.mono h.2.2.2.1.size), blk_below h.2.2.2.2.1 hb, h.2.2.2.2.2⟩
theorem KSys.mid {w0 : World} {gd gj gx : Nat} {W w1 : World} {X : Array Value} {xs xs' : List Int} {room : Int} {down down' : Bool} {es es' ws : List S60} {vd vj vw : Value} {r : Option Int} {e : Ending}
    (h : KSys w0 gd gj gx W X xs room down es ws vd vj vw) (ha : AppPost w0.heap.size gd gj W room down' r xs' es' vd vj e w1) :
    ∃ vd' vj', e = .returned (errW r) ∧ KSys w0 gd gj gx w1 X xs' room down' es' ws vd' vj' vw := by
  obtain ⟨vd', vj', he, hd, hj, hb, hk, hv⟩ := ha
  obtain ⟨h1, h2, h3, h4, h5, h6, h7⟩ := h
  have hty : ∀ k, JW gd gj vd vj k → some k ≠ vj.ownBlock → ∀ cells q, W.heap[k]? = some (.cells cells q (0, 0)) → q ≠ 60 := by
    rintro k (hk | rfl | hk) hne cells q hc
    · rcases hk with rfl | hk
      · have := blk_ty hc h1.1; subst this; decide
      · obtain ⟨inner, ho⟩ := Kd.R_own h1.2.2.1
        obtain ⟨cells', hc'⟩ := own_typed ho k hk
        have := blk_ty hc hc'; subst this; decide
    · have := blk_ty hc h2.1; subst this; decide
    · exact absurd hk.symm hne
  have hnew : ∀ k, k < W.heap.size → vj.ownBlock ≠ some k → vj'.ownBlock ≠ some k := by
    intro k hk hne
    rcases hv with hv | ⟨b, hb1, hb2⟩
    · rw [hv]; exact hne
    · rw [hb1]; intro hx; injection hx with hx; omega
  refine ⟨vd', vj', he, hd, hj, kat_kept h3 hk ?_, h4.trans hb, blk_kept h5 hk (fun hs => hty gx hs (fun e => h7 e.symm) _ _ h5 rfl), fun k hk => ⟨hnew k (Kd.R_lt h3 k hk) (h6 k hk).1, (h6 k hk).2⟩, hnew gx (blk_lt h5) h7⟩
  intro k hk1 hs
  obtain ⟨inner, ho⟩ := Kd.R_own h3
  obtain ⟨cells', hc'⟩ := own_typed ho k hk1
  exact hty k hs (fun e => (h6 k hk1).1 e.symm) _ _ hc' rfl
theorem KSys.want {w0 : World} {gd gj gx : Nat} {W w1 : World} {X : Array Value} {xs : List Int} {room : Int} {down : Bool} {es ws ws' : List S60} {vd vj vw v1 : Value}
    (h : KSys w0 gd gj gx W X xs room down es ws vd vj vw) (ho : (kat k60 w0).R 60 w1 w0.heap.size (fun _ => True) v1 ws') (hb : Below w0.heap.size w0 w1) (hg : W.grownBy w1 vw.ownBlock) (hat : v1.ownBlock = vw.ownBlock ∨ ∃ b, v1.ownBlock = some b ∧ W.heap.size ≤ b) :
    KSys w0 gd gj gx w1 X xs room down es ws' vd vj v1 := by
  obtain ⟨h1, h2, h3, h4, h5, h6, h7⟩ := h
  have hgx : some gx ≠ vw.ownBlock := fun e => (h6 gx e.symm).2 rfl
  refine ⟨⟨blk_grown h1.1 hg (Kd.R_ne h3 h1.1 (by decide)), h1.2.1, Kd.R_over h1.2.2.1 h3 (by decide) hg, h1.2.2.2⟩, ⟨blk_grown h2.1 hg (Kd.R_ne h3 h2.1 (by decide)), h2.2.1, ?_⟩, ho, hb, blk_grown h5 hg hgx, ?_, h7⟩
  · refine Kd.R_mono (Kd.R_grown (R60_tight h2.2.2) hg ?_) (fun k hk => hk.1)
    rintro k ⟨_, hk | ⟨cells, hc⟩⟩ he
    · exact (h6 k he.symm).1 hk
    · obtain ⟨inner, hw⟩ := Kd.R_own h3
      obtain ⟨cells', hc'⟩ := own_typed hw k he.symm
      have := blk_ty hc hc'
      revert this; decide
  · intro k hk
    rcases hat with hat | ⟨b, hb1, hb2⟩
    · exact h6 k (hat.symm.trans hk)
    · rw [hb1] at hk
      injection hk with hk
      have hj := Kd.R_lt h2.2.2
      have hx := blk_lt h5
      refine ⟨fun e => ?_, ?_⟩
      · have := hj k e; omega
      · omega
theorem want_opened {w0 : World} {gd : Nat} {W w1 : World} {xs ys : List Int} {room : Int} {down : Bool} {ws : List S60} {vd vw : Value} (hd : IsD w0.heap.size gd W xs room down vd) (hw : (kat k60 w0).R 60 W w0.heap.size (fun _ => True) vw ws) (hk : Kept W w1 (fun k => k = gd)) : (kat k60 w0).R 60 w1 w0.heap.size (fun _ => True) vw ws :=
  kat_kept hw hk (fun k hk1 hk2 => Kd.R_ne hw hd.1 (by decide) (hk2 ▸ hk1.symm))
theorem bytes_len {W : World} {A : Option Addr} {c : Nat} {a b : Int} {m : List S130} (hr : Kd.C k130 W A m.length m) (hc : m.length ≤ c) :
    Calls Try.prog 43 #[.agg #[.int .i64 a, .int .i64 b, .slice A m.length c]] W fun e w' => ∃ A' c' er, e = .returned (.tuple #[.slice A' (lenB a b m) c', er]) ∧ Below W.heap.size W w' := by
  have hev := bytes_ev a b m
  unfold lenB
  by_cases h : entryL a b m = []
  · rw [if_pos h] at hev ⊢
    obtain ⟨k, hk⟩ := hev.rounds
    refine (journal_Bytes.calls k a b A c m [] (some 1) W hr hc hk).mono ?_
    rintro e w' ⟨v, rfl, hv, hb⟩
    obtain ⟨A', c', rfl⟩ := Kd.R_slice hv
    exact ⟨A', c', _, rfl, hb⟩
  · rw [if_neg h] at hev ⊢
    obtain ⟨k, hk⟩ := hev.rounds
    refine (journal_Bytes.calls k a b A c m (recordL a b m) none W hr hc hk).mono ?_
    rintro e w' ⟨v, rfl, hv, hb⟩
    obtain ⟨A', c', rfl⟩ := Kd.R_slice hv
    exact ⟨A', c', _, rfl, hb⟩
end Go.Proofs.Ytppfkbigeknedaa.Q
namespace Go.Proofs.Ytppfkbigeknedaa.Q
open Go.RowKit Go.Proofs.YtppfkbigeknedaaW.PrintWords Go.Proofs.YtppfkbigeknedaaW.PrintLast Go.Proofs.YtppfkbigeknedaaW.PrintMore
set_option linter.unusedVariables false
set_option linter.unusedSimpArgs false
set_option maxRecDepth 100000
attribute [local go_sem] eqe_ii eqe_nn eqe_ni eqe_nni
set_option maxHeartbeats 8000000 in
theorem keeps_main (a0 : Int) (A1 : Option Addr) (c1 : Nat) (l1 : List S60) (ea eb : Int) (A2 : Option Addr) (c2 : Nat) (m : List S130) (n : Int) (w : World) (h1 : 1 ≤ a0) (h2 : a0 ≤ 5000) (h3 : l1.length ≤ 40) (h4 : m.length ≤ 100)
    (hr1 : Kd.C k60 w A1 l1.length l1) (hr2 : Kd.C k130 w A2 m.length m) (hc2 : m.length ≤ c2) :
    Calls Try.prog 14 #[.int .i64 a0, .slice A1 l1.length c1, .agg #[.int .i64 ea, .int .i64 eb, .slice A2 m.length c2], .int .i64 n] w fun e w' => e = .returned (.bool true) ∧ Below w.heap.size w w' := by
  have HN := Aside0.mk (fun W => disk_new a0 W h1 (by omega))
  have d1 : decide ((5000 : Int) < a0) = false := decide_eq_false (by omega)
  have d2 : decide ((40 : Int) < (l1.length : Int)) = false := decide_eq_false (by omega)
  have d3 : decide ((100 : Int) < (m.length : Int)) = false := decide_eq_false (by omega)
  have HB0 := Aside0.mk (below_alloc (Below.refl w.heap.size w) (.cells #[.int .i64 ea, .int .i64 eb, .slice A2 m.length c2] 60))
  have HR1 := Aside0.mk hr1
  have HR2 := Aside0.mk hr2
  have HC2 := Aside0.mk hc2
  have H2 := Aside0.mk h2
  have H3 := Aside0.mk h3
  have H4 := Aside0.mk h4
  clear h1 h2 h3 h4 hr1 hr2 hc2
  go_enter Try.func14, Try.ntmps14
  go_wp2_with fail
  refine (law22_up _).mono ?_
  rintro e w1 ⟨rfl, hb1⟩
  have HB1 := Aside0.mk (below_then HB0.out HB0.out.size hb1)
  have HX1 := Aside0.mk (blk_below (blk_new w (.cells #[.int .i64 ea, .int .i64 eb, .slice A2 m.length c2] 60)) hb1)
  obtain ⟨gx, hgx⟩ : ∃ gx, w.heap.size = gx := ⟨_, rfl⟩
  have HGX := Aside0.mk hgx
  rw [hgx] at HX1 ⊢
  clear hb1 HB0 hgx
  go_wp2_with fail
  refine (HN.out _).mono ?_
  rintro e w2 ⟨gd, rfl, hd2, hb2⟩
  have HD2 := Aside0.mk (show IsD w.heap.size gd w2 [] a0 false (.slice none 0 0) from ⟨hd2.1, Nat.le_trans (below_size HB1.out) hd2.2.1, Kd.R_lower hd2.2.2.1 (below_size HB1.out), hd2.2.2.2⟩)
  have HB2 := Aside0.mk (below_then HB1.out (below_size HB1.out) hb2)
  have HX2 := Aside0.mk (blk_below HX1.out hb2)
  have x2 := (blk_cell HX2.out 2).trans (rfl : _ = some (Value.slice A2 m.length c2))
  clear hb2 hd2 HB1 HX1 HN
  go_wp2_with fail
  refine (open_calls HD2.out (show Bytes [] from fun y hy => by cases hy)).mono ?_
  rintro e w3 ⟨gj, vj, vd, rfl, hd3, hj3, hb3, hk3, -⟩
  have HK3 := Aside0.mk (show KSys w gd gj gx w3 #[.int .i64 ea, .int .i64 eb, .slice A2 m.length c2] (recs []) a0 false [] [] vd vj (.slice none 0 0) from by
    have hgx := HGX.out
    refine ⟨hd3, ⟨hj3.1, Nat.le_trans HB2.out.size hj3.2.1, Kd.R_lower hj3.2.2 HB2.out.size⟩, Kd.R_nil _ _ _ _ _, HB2.out.trans hb3, blk_kept HX2.out hk3 (fun e => ?_), fun k hk => by simp [Value.ownBlock] at hk, fun e => ?_⟩
    · have := blk_ty HX2.out (e ▸ HD2.out.1)
      revert this; decide
    · have h1 := Kd.R_base hj3.2.2 gx e
      have h2 := blk_lt HX2.out
      omega)
  clear hd3 hj3 hb3 hk3 HD2 HX2 x2 HB2
  go_wp2
  go_loopw [14, 15] (fun v14 v15 w' => ∃ (i : Nat), v15 = .int .i64 i ∧ i ≤ l1.length ∧ Aside0 (∃ es vd vj, KSys w gd gj gx w' #[.int .i64 ea, .int .i64 eb, .slice A2 m.length c2] (recs es) a0 false es es vd vj v14 ∧ (∀ e ∈ es, okE e) ∧ es.length ≤ i)) (fun v14 v15 _ => l1.length - (intOf v15).toNat)
  case atStart => exact ⟨0, rfl, Nat.zero_le _, ⟨[], _, _, HK3.out, (fun e he => by cases he), Nat.le_refl _⟩⟩
  case round =>
    obtain ⟨i, rfl, hi, HS⟩ := hrel
    obtain ⟨es, vd1, vj1, hsys, hok, hes⟩ := HS.out
    have HY := Aside0.mk hsys
    have HOK := Aside0.mk hok
    have HES := Aside0.mk hes
    obtain ⟨Aw, cw, rfl⟩ := Kd.R_slice hsys.2.2.1
    clear HK3 hsys hok hes HS
    by_cases hlt : (i : Int) < (l1.length : Int)
    case neg =>
      have hlb : decide ((i : Int) < (l1.length : Int)) = false := decide_eq_false hlt
      have HCX := Aside0.mk ((Kd.C_below HR2.out HY.out.2.2.2.1))
      obtain ⟨q0, q1, q2⟩ : wr.cell? ⟨gx, 0, none⟩ = some (.int .i64 ea) ∧ wr.cell? ⟨gx, 1, none⟩ = some (.int .i64 eb) ∧ wr.cell? ⟨gx, 2, none⟩ = some (.slice A2 m.length c2) := ⟨(blk_cell HY.out.2.2.2.2.1 0).trans rfl, (blk_cell HY.out.2.2.2.2.1 1).trans rfl, (blk_cell HY.out.2.2.2.2.1 2).trans rfl⟩
      go_wp2_with fail
      refine (bytes_len HCX.out HC2.out).mono ?_
      rintro e w4 ⟨Ab, cb, er, rfl, hb4⟩
      have HY4 := Aside0.mk (HY.out.below hb4)
      obtain ⟨lb, hlb4⟩ : ∃ lb, lenB ea eb m = lb := ⟨_, rfl⟩
      have HLB := Aside0.mk hlb4
      rw [hlb4]
      clear hb4 hlb4 HY HCX q0 q1 q2
      obtain ⟨q0, q1, q2⟩ : w4.cell? ⟨gx, 0, none⟩ = some (.int .i64 ea) ∧ w4.cell? ⟨gx, 1, none⟩ = some (.int .i64 eb) ∧ w4.cell? ⟨gx, 2, none⟩ = some (.slice A2 m.length c2) := ⟨(blk_cell HY4.out.2.2.2.2.1 0).trans rfl, (blk_cell HY4.out.2.2.2.2.1 1).trans rfl, (blk_cell HY4.out.2.2.2.2.1 2).trans rfl⟩
      go_wp2_with fail
      refine (jtear_calls n HY4.out.1 HY4.out.2.1 HR2.out HY4.out.2.2.2.1 HC2.out).mono ?_
      intro e w5 hp
      obtain ⟨t5, ht5, hft5, hbt5, hok5⟩ := tear_recs es HOK.out a0 ea eb m n
      rw [ht5] at hp
      obtain ⟨vd5, vj5, rfl, hs5⟩ := HY4.out.mid hp
      have HFT := Aside0.mk hft5
      have HBT := Aside0.mk hbt5
      have HOK5 := Aside0.mk hok5
      clear hp ht5 hft5 hbt5 hok5 HY4 q0 q1 q2
      obtain ⟨⟨r5, xs5, down5⟩, h5⟩ : ∃ p, jTear (recs es) a0 false ea eb m n = p := ⟨_, rfl⟩
      rw [h5] at hs5 HOK5 ⊢
      simp only at hs5 HOK5 ⊢
      have HY5 := Aside0.mk hs5
      clear hs5 h5
      go_upto_region 19 with fail
      go_cut [107] (fun v107 wc => v107 = .bool (decide (r5 = none ∧ (lb : Int) ≤ n)) ∧ wc = w5)
      case first =>
        cases r5 with
        | some c =>
          rw [errW_some]
          go_wp2
          repeat (go_quiet (fail); try go_wp2)
          go_meet
          case rel => exact ⟨by simp, rfl⟩
        | none =>
          rw [errW_none]
          by_cases hn : (lb : Int) ≤ n
          · have hnb : decide ((lb : Int) ≤ n) = true := decide_eq_true hn
            go_wp2
            repeat (go_quiet (fail); try go_wp2)
            go_meet
            case rel => exact ⟨by simp [hn], rfl⟩
          · have hnb : decide ((lb : Int) ≤ n) = false := decide_eq_false hn
            go_wp2
            repeat (go_quiet (fail); try go_wp2)
            go_meet
            case rel => exact ⟨by simp [hn], rfl⟩
      case rest =>
        obtain ⟨rfl, rfl⟩ := hcut
        obtain ⟨q0, q1, q2⟩ : wc.cell? ⟨gx, 0, none⟩ = some (.int .i64 ea) ∧ wc.cell? ⟨gx, 1, none⟩ = some (.int .i64 eb) ∧ wc.cell? ⟨gx, 2, none⟩ = some (.slice A2 m.length c2) := ⟨(blk_cell HY5.out.2.2.2.2.1 0).trans rfl, (blk_cell HY5.out.2.2.2.2.1 1).trans rfl, (blk_cell HY5.out.2.2.2.2.1 2).trans rfl⟩
        obtain ⟨ws, hws⟩ : ∃ ws, wantT es r5 ea eb m n = ws := ⟨_, rfl⟩
        have HWS := Aside0.mk hws
        rw [hws] at HY5 HOK5
        clear hws
        have HWL := Aside0.mk (show ws.length ≤ 41 from by
          have h1 := HES.out
          have h2 := H3.out
          rw [← HWS.out]
          unfold wantT
          split
          · simp; omega
          · omega)
        obtain ⟨bp, hbp⟩ : ∃ bp, decide (r5 = none ∧ (lb : Int) ≤ n) = bp := ⟨_, rfl⟩
        have HBP := Aside0.mk hbp
        rw [hbp]
        clear hbp
        go_upto_if 107 with fail
        go_cut [14] (fun v14 wc => ∃ A c, v14 = .slice A ws.length c ∧ Aside0 (KSys w gd gj gx wc #[.int .i64 ea, .int .i64 eb, .slice A2 m.length c2] (recs ws ++ t5) a0 down5 es ws vd5 vj5 v14))
        case first =>
          cases bp with
          | true =>
            have hP := of_decide_eq_true HBP.out
            have hw : es ++ [⟨ea, eb, m⟩] = ws := by rw [← HWS.out]; unfold wantT; rw [HLB.out, if_pos hP]
            have HW := Aside0.mk hw
            clear hw hP
            go_wp2_with (first | ((with_reducible refine gate_builtin (b := .append) (xs := #[.tmp 108, .tmp 110]) rfl ?_); at_builtin; refine Kd.R_append (kat k60 w) (w0 := w) w.heap.size rfl (.tmp 108) (.tmp 110) 79 60 (.agg #[.int .i64 0, .int .i64 0, .slice none 0 0]) 40 rfl Try.underlying79 info60 rfl (show 0 < k60.sz from by decide) (by omega) (.slice Aw es.length cw) es (⟨ea, eb, m⟩ : S60) [.int .i64 ea, .int .i64 eb, .slice A2 m.length c2] (fun _ => True) (fun _ => False) rfl rfl ?aP (fun _ hk => hk.elim) ?aF ?aO ?aB ?aS ?aL ?_; (case aP => exact k60_mk w (⟨ea, eb, m⟩ : S60) HC2.out HR2.out); (case aB => exact HY5.out.2.2.2.1); (case aF => exact fun _ _ => trivial); (case aO => exact HY5.out.2.2.1); (case aS => exact below_size HY5.out.2.2.2.1); (case aL => have := HES.out; have := H3.out; omega); intro v1 w6 ho hb hg hat; have HY6 := Aside0.mk (HY5.out.want ho hb hg hat); clear ho hb hg hat))
            go_meet
            case rel =>
              have h := HY6.out
              rw [HW.out] at h
              obtain ⟨Av, cv, rfl⟩ := Kd.R_slice h.2.2.1
              exact ⟨Av, cv, rfl, ⟨h⟩⟩
          | false =>
            have hP := of_decide_eq_false HBP.out
            have hw : es = ws := by rw [← HWS.out]; unfold wantT; rw [HLB.out, if_neg hP]
            have HW := Aside0.mk hw
            clear hw hP
            go_wp2
            go_meet
            case rel =>
              have h := HY5.out
              rw [← HW.out] at h
              rw [← HW.out]
              exact ⟨Aw, cw, rfl, ⟨h⟩⟩
        case rest =>
          clear HY5 q0 q1 q2 hlb hlt hi
          obtain ⟨Av, cv, rfl, HY6⟩ := hcut
          go_wp2
          go_loopw [20] (fun v20 w' => ∃ k : Nat, v20 = .int .i64 k ∧ k ≤ 2 ∧ Aside0 (∃ t down vd, IsD w.heap.size gd w' (recs ws ++ t) a0 down vd ∧ firstL t = none ∧ Bytes t) ∧ Aside0 ((kat k60 w).R 60 w' w.heap.size (fun _ => True) (.slice Av ws.length cv) ws) ∧ Aside0 (Below w.heap.size w w')) (fun v20 _ => 2 - (intOf v20).toNat)
          case atStart => exact ⟨0, rfl, by omega, ⟨_, _, _, HY6.out.1, HFT.out, HBT.out⟩, ⟨HY6.out.2.2.1⟩, ⟨HY6.out.2.2.2.1⟩⟩
          case round =>
            clear HY6 HFT HBT
            obtain ⟨k, rfl, hk, HD, HW, HB⟩ := hrel
            by_cases hk2 : (k : Int) < 2
            · have hkb : decide ((k : Int) < 2) = true := decide_eq_true hk2
              have HKT := Aside0.mk hk2
              obtain ⟨t, down, vd6, hd6, hft, hbt⟩ := HD.out
              have HD6 := Aside0.mk hd6
              have HOP := Aside0.mk (open_recs HOK5.out hft)
              have HBY := Aside0.mk ((recs_bytes ws).append hbt)
              clear HD hd6 hft hbt
              go_wp2_with fail
              refine (open_calls HD6.out HBY.out).mono ?_
              rintro e w7 ⟨gk, vk, vd7, rfl, hd7, hj7, hb7, hk7, -⟩
              rw [HOP.out.2] at hd7
              rw [HOP.out.1] at hj7
              have HW7 := Aside0.mk (want_opened (ys := recs ws) HD6.out HW.out hk7)
              have HD7 := Aside0.mk hd7
              have HJ7 := Aside0.mk (show IsJ w.heap.size gk w7 gd ws vk from ⟨hj7.1, Nat.le_trans HB.out.size hj7.2.1, Kd.R_lower hj7.2.2 HB.out.size⟩)
              have HB7 := Aside0.mk (HB.out.trans hb7)
              clear hd7 hj7 hb7 hk7 HD6 HW HB HOP HBY
              go_wp2_with fail
              refine (entries_calls HJ7.out (by have := HWL.out; omega) (fun e he => by have := okE_moves (HOK5.out e he); omega)).mono ?_
              rintro e w8 ⟨A8, c8, rfl, hc8, hC8, hb8⟩
              have HC8 := Aside0.mk hC8
              have HL8 := Aside0.mk hc8
              have HW8 := Aside0.mk (Kd.R_below HW7.out hb8)
              have HD8 := Aside0.mk (HD7.out.below2 hb8)
              have HB8 := Aside0.mk (HB7.out.trans (hb8.mono HB7.out.size))
              clear hc8 hC8 hb8 HW7 HD7 HB7 HJ7
              go_wp2_with fail
              have hrm := Kd.R_reads' HW8.out
              refine (same_calls HC8.out HL8.out (kat_C hrm.2.2 HB8.out) hrm.2.1 (by have := HWL.out; omega) (fun e he => by have := okE_moves (HOK5.out e he); omega)).mono ?_
              rintro e w9 ⟨rfl, hb9⟩
              have HW9 := Aside0.mk (Kd.R_below HW8.out hb9)
              have HD9 := Aside0.mk (HD8.out.below2 hb9)
              have HB9 := Aside0.mk (HB8.out.trans (hb9.mono HB8.out.size))
              clear hb9 hrm HW8 HD8 HB8 HC8 HL8
              go_wp2
              go_roundw
              case measure =>
                have hlt := HKT.out
                simp [intOf]; omega
              case rel => exact ⟨k + 1, by simp, by have hlt := HKT.out; omega, ⟨[], _, _, by rw [List.append_nil]; exact HD9.out, first_nil, fun y hy => by cases hy⟩, HW9, HB9⟩
            · have hkb : decide ((k : Int) < 2) = false := decide_eq_false hk2
              clear HD
              go_wp2
              go_ret
              exact ⟨rfl, HB.out⟩
    case pos =>
      have hlb : decide ((i : Int) < (l1.length : Int)) = true := decide_eq_true hlt
      have HLT := Aside0.mk hlt
      obtain ⟨ad, A4, c4, rfl, z0, z1, z2, hc4, hm4⟩ := at_T60 HR1.out (i : Int) (by omega) (by omega)
      have HM4 := Aside0.mk hm4
      have HC4 := Aside0.mk hc4
      obtain ⟨⟨fa, fb, fm⟩, hel⟩ : ∃ x, rd_T60 l1 (i : Int) = x := ⟨_, rfl⟩
      rw [hel] at z0 z1 z2 HM4 HC4
      simp only [Int.toNat_natCast] at z0 z1 z2 HM4 HC4
      have Z0 := Aside0.mk z0
      have Z1 := Aside0.mk z1
      have Z2 := Aside0.mk z2
      replace z0 := HY.out.2.2.2.1.cell (World.block_lt_of_cell? _ _ z0) |>.trans z0
      replace z1 := HY.out.2.2.2.1.cell (World.block_lt_of_cell? _ _ z1) |>.trans z1
      replace z2 := HY.out.2.2.2.1.cell (World.block_lt_of_cell? _ _ z2) |>.trans z2
      clear hm4 hc4 hel
      by_cases hml : (100 : Int) < (fm.length : Int)
      · have hmb : decide ((100 : Int) < (fm.length : Int)) = true := decide_eq_true hml
        go_wp2
        go_ret
        exact ⟨rfl, HY.out.2.2.2.1⟩
      · have hmb : decide ((100 : Int) < (fm.length : Int)) = false := decide_eq_false hml
        have HML := Aside0.mk hml
        go_wp2_with fail
        refine (japp_calls HY.out.1 HY.out.2.1 HM4.out HY.out.2.2.2.1 HC4.out (by have := HML.out; omega) (by have := HES.out; have := H3.out; omega)).mono ?_
        intro e w5 hp
        obtain ⟨r, hr, hr1, -⟩ := app_recs es a0 fa fb fm
        rw [hr] at hp
        obtain ⟨vd5, vj5, rfl, hs5⟩ := HY.out.mid hp
        clear hr hp HY z0 z1 z2 hml hmb
        cases r with
        | some c =>
          rw [errW_some]
          have HY5 := Aside0.mk hs5
          simp only [reduceCtorEq, if_false] at HY5
          clear hs5 hr1
          go_wp2
          go_roundw
          case measure =>
            have hlt := HLT.out
            have h4 := H3.out
            rw [w64_next i l1.length (by omega) (by omega)]
            simp [intOf]; omega
          case rel => exact ⟨i + 1, by rw [w64_next i l1.length (by have hlt := HLT.out; omega) (by have h4 := H3.out; omega)], by have hlt := HLT.out; omega, ⟨es, _, _, HY5.out, HOK.out, by have := HES.out; omega⟩⟩
        | none =>
          rw [errW_none]
          have HY5 := Aside0.mk hs5
          simp only [if_true] at HY5
          have HEN := Aside0.mk (hr1 rfl)
          have z0 := HY5.out.2.2.2.1.cell (World.block_lt_of_cell? _ _ Z0.out) |>.trans Z0.out
          have z1 := HY5.out.2.2.2.1.cell (World.block_lt_of_cell? _ _ Z1.out) |>.trans Z1.out
          have z2 := HY5.out.2.2.2.1.cell (World.block_lt_of_cell? _ _ Z2.out) |>.trans Z2.out
          clear hs5 hr1
          go_wp2_with (first | ((with_reducible refine gate_builtin (b := .append) (xs := #[.tmp 84, .tmp 89]) rfl ?_); at_builtin; refine Kd.R_append (kat k60 w) (w0 := w) w.heap.size rfl (.tmp 84) (.tmp 89) 79 60 (.agg #[.int .i64 0, .int .i64 0, .slice none 0 0]) 40 rfl Try.underlying79 info60 rfl (show 0 < k60.sz from by decide) (by omega) (.slice Aw es.length cw) es (⟨fa, fb, fm⟩ : S60) [.int .i64 fa, .int .i64 fb, .slice A4 fm.length c4] (fun _ => True) (fun _ => False) rfl rfl ?aP (fun _ hk => hk.elim) ?aF ?aO ?aB ?aS ?aL ?_; (case aP => exact k60_mk w (⟨fa, fb, fm⟩ : S60) HC4.out HM4.out); (case aB => exact HY5.out.2.2.2.1); (case aF => exact fun _ _ => trivial); (case aO => exact HY5.out.2.2.1); (case aS => exact below_size HY5.out.2.2.2.1); (case aL => have := HES.out; have := H3.out; omega); intro v1 w6 ho hb hg hat; have HY6 := Aside0.mk (HY5.out.want ho hb hg hat); clear ho hb hg hat))
          go_roundw
          case measure =>
            have hlt := HLT.out
            have h4 := H3.out
            rw [w64_next i l1.length (by omega) (by omega)]
            simp [intOf]; omega
          case rel => exact ⟨i + 1, by rw [w64_next i l1.length (by have hlt := HLT.out; omega) (by have h4 := H3.out; omega)], by have hlt := HLT.out; omega, ⟨es ++ [⟨fa, fb, fm⟩], _, _, HY6.out, fun e he => by
            rcases List.mem_append.1 he with he | he
            · exact HOK.out e he
            · rw [List.mem_singleton] at he; subst he; exact HEN.out, by have := HES.out; simp; omega⟩⟩
end Go.Proofs.Ytppfkbigeknedaa.Q
