-- Printed by our own driver (wip/tools/myprint.py). Not trusted: Lean checks it.
import Derived.Test.YthehkmpameeofaaP0
import Derived.Test.YthehkmpameeofaaPScoreCueWrong
namespace Go.Proofs.Ythehkmpameeofaa.P
open Go.RowKit Go.Proofs.YthehkmpameeofaaW.PrintWords Go.Proofs.YthehkmpameeofaaW.PrintLast Go.Proofs.YthehkmpameeofaaW.PrintMore
attribute [local go_sem] max2_int min2_int max_two min_two max_three min_three max_four min_four   -- for this text's walks alone
set_option linter.unusedVariables false
set_option linter.unusedSimpArgs false

/-! ### slices_IndexFunc_Cue_Cue_at_score_Cue_wrong: function 74 -/
def slices_IndexFunc_Cue_Cue_at_score_Cue_wrong.l0 : Nat → List (S45) → Int → Int → Option (Int)
  | 0, _, _, _ => none
  | k + 1, x0, x7, x8 => if x8 < x7 then (if 0 ≤ x8 then (if x8 < (x0.length : Int) then ((score_Cue_wrong.f ((rd_T45 x0 x8).f0) ((rd_T45 x0 x8).f1)).bind fun t126 => (if t126 = true then (some x8) else (slices_IndexFunc_Cue_Cue_at_score_Cue_wrong.l0 k x0 x7 (wrap64 (x8 + 1))))) else (none)) else (none)) else (some (-1))
def slices_IndexFunc_Cue_Cue_at_score_Cue_wrong.f (k : Nat) (l0 : List (S45))  : Option (Int) := slices_IndexFunc_Cue_Cue_at_score_Cue_wrong.l0 k l0 (l0.length : Int) 0
theorem slices_IndexFunc_Cue_Cue_at_score_Cue_wrong.mono_l : ∀ k, (∀ y0 y1 y2, LeO (slices_IndexFunc_Cue_Cue_at_score_Cue_wrong.l0 k y0 y1 y2) (slices_IndexFunc_Cue_Cue_at_score_Cue_wrong.l0 (k + 1) y0 y1 y2))
  | 0 => fun _ _ _ r h => by simp [slices_IndexFunc_Cue_Cue_at_score_Cue_wrong.l0] at h
  | k + 1 => by
    have ih0 := slices_IndexFunc_Cue_Cue_at_score_Cue_wrong.mono_l k
    · intro y0 y1 y2
      unfold slices_IndexFunc_Cue_Cue_at_score_Cue_wrong.l0
      repeat' first
      | (with_reducible exact ih0 _ _ _)
      | (with_reducible exact LeO.refl _)
      | (with_reducible exact LeO.none _)
      | (with_reducible refine LeO.ite ?_ ?_)
      | (with_reducible refine LeO.bind ?_ (fun _ => ?_))
      | exact ih0 _ _ _
      | exact LeO.none _
      | refine LeO.ite ?_ ?_
      | refine LeO.bind ?_ (fun _ => ?_)
theorem slices_IndexFunc_Cue_Cue_at_score_Cue_wrong.mono : ∀ a0 k, LeO (slices_IndexFunc_Cue_Cue_at_score_Cue_wrong.f k a0) (slices_IndexFunc_Cue_Cue_at_score_Cue_wrong.f (k + 1) a0) := by
  intro a0 k
  have ih0 := slices_IndexFunc_Cue_Cue_at_score_Cue_wrong.mono_l k
  unfold slices_IndexFunc_Cue_Cue_at_score_Cue_wrong.f
  repeat' first
      | (with_reducible exact ih0 _ _ _)
      | (with_reducible exact LeO.refl _)
      | (with_reducible exact LeO.none _)
      | (with_reducible refine LeO.ite ?_ ?_)
      | (with_reducible refine LeO.bind ?_ (fun _ => ?_))
      | exact ih0 _ _ _
      | exact LeO.none _
      | refine LeO.ite ?_ ?_
      | refine LeO.bind ?_ (fun _ => ?_)
set_option maxHeartbeats 8000000 in
set_option maxRecDepth 100000 in
theorem slices_IndexFunc_Cue_Cue_at_score_Cue_wrong.calls (k : Nat) (A0 : Option Addr) (c0 : Nat) (l0 : List (S45))  (r : Int) (w : World) (hr0 : Kd.C k45 w A0 l0.length l0) (hc0 : l0.length ≤ c0) (h : slices_IndexFunc_Cue_Cue_at_score_Cue_wrong.f k l0 = some r) :
    Calls Try.prog 74 #[.slice A0 l0.length c0, .func (.func 52) #[] #[]] w fun e w' => e = .returned (.int .i64 r) ∧ Below w.heap.size w w' := by
  have hu45 := Try.underlying45
  have HR0 := Aside0.mk hr0
  have HC0 := Aside0.mk hc0
  clear hr0 hc0
  have HB := Aside0.mk (Below.refl w.heap.size w)
  have H : (slices_IndexFunc_Cue_Cue_at_score_Cue_wrong.l0 k l0 (l0.length : Int) 0) = some r := h
  clear h
  have H' := Aside0.mk H
  clear H
  go_enter Try.func74, Try.ntmps74
  go_wp2
  go_loopg [8] k (fun kq v8 w' => ∃ (x8_1 : Int), v8 = .int .i64 x8_1 ∧ Aside0 (slices_IndexFunc_Cue_Cue_at_score_Cue_wrong.l0 kq l0 (l0.length : Int) x8_1 = some r) ∧ Aside0 (kq ≤ k) ∧ Aside0 (Below w.heap.size w w'))
  case atStart => exact ⟨(0), (by first | rfl | (simp; done) | (simp [*]; done)), H', ⟨Nat.le_refl _⟩, ⟨by repeat (first | (with_reducible first | exact HB.out | apply below_alloc | apply pw_below_drewN | apply below_drew1) | exact HB.out)⟩⟩
  case round =>
    clear H'
    try clear p2
    obtain ⟨x8_1, rfl, HA, HK1, HB⟩ := hrel
    cases gk with
    | zero => exact absurd HA.out (by simp [slices_IndexFunc_Cue_Cue_at_score_Cue_wrong.l0])
    | succ k1 =>
      have H := HA.out
      clear HA
      simp only [slices_IndexFunc_Cue_Cue_at_score_Cue_wrong.l0] at H
      by_cases c3 : x8_1 < (l0.length : Int)
      · rw [if_pos c3] at H
        have c3b0 : decide (x8_1 < (l0.length : Int)) = true := decide_eq_true c3
        clear c3
        by_cases c4 : 0 ≤ x8_1
        · rw [if_pos c4] at H
          have c4b0 : decide (0 ≤ x8_1) = true := decide_eq_true c4
          clear c4
          by_cases c5 : x8_1 < (l0.length : Int)
          · rw [if_pos c5] at H
            have c5b0 : decide (x8_1 < (l0.length : Int)) = true := decide_eq_true c5
            clear c5
            replace H := Option.bind_eq_some_iff.mp H
            obtain ⟨t126, A60, H⟩ := H
            replace H : (if t126 = true then (some x8_1) else (slices_IndexFunc_Cue_Cue_at_score_Cue_wrong.l0 k1 l0 (l0.length : Int) (wrap64 (x8_1 + 1)))) = some r := H
            have A6 := Aside0.mk A60
            clear A60
            by_cases c7 : t126 = true
            · subst c7
              have H1 : (some x8_1) = some r := by rw [if_pos rfl] at H; exact H
              clear H
              have H := H1
              clear H1
              obtain rfl := Option.some.inj H
              have p125 : 0 ≤ (x8_1 : Int) := of_decide_eq_true (by first | (with_reducible assumption) | assumption)
              have q125 : x8_1 < (l0.length : Int) := of_decide_eq_true (by first | (with_reducible assumption) | assumption)
              obtain ⟨ad125, e125, hx125_0, hx125_1⟩ := at_T45 HR0.out x8_1 p125 q125
              cases e125
              replace hx125_0 := (HB.out.cell (World.block_lt_of_cell? w _ hx125_0)).trans hx125_0
              replace hx125_1 := (HB.out.cell (World.block_lt_of_cell? w _ hx125_1)).trans hx125_1
              replace p125 := eq_true p125
              replace q125 := eq_true q125
              go_wp2_with (first | (go_at_call 52; (with_reducible refine (score_Cue_wrong.calls ((rd_T45 l0 x8_1).f0) ((rd_T45 l0 x8_1).f1) true _ A6.out).mono ?_); rintro e w8 ⟨rfl, hb⟩; have n0_ := Aside0.mk (below_step (by repeat (first | (with_reducible first | exact HB.out | apply below_alloc | apply pw_below_drewN | apply below_drew1) | exact HB.out)) hb); clear HB; have HB := n0_; clear n0_; (try clear hb); (try clear hb2); (try clear hk); (try clear hi)))
              go_ret
              exact ⟨by first | rfl | (simp [errW_none, errW_some] <;> rfl) | (simp [*, errW_none, errW_some] <;> rfl), by repeat (first | (with_reducible first | exact HB.out | apply below_alloc | apply pw_below_drewN | apply below_drew1) | exact HB.out)⟩
            · replace c7 := Bool.eq_false_iff.mpr c7
              subst c7
              have H1 : (slices_IndexFunc_Cue_Cue_at_score_Cue_wrong.l0 k1 l0 (l0.length : Int) (wrap64 (x8_1 + 1))) = some r := by rw [if_neg (show ¬ (false = true) by decide)] at H; exact H
              clear H
              have H := H1
              clear H1
              have H' := Aside0.mk H
              clear H
              have p125 : 0 ≤ (x8_1 : Int) := of_decide_eq_true (by first | (with_reducible assumption) | assumption)
              have q125 : x8_1 < (l0.length : Int) := of_decide_eq_true (by first | (with_reducible assumption) | assumption)
              obtain ⟨ad125, e125, hx125_0, hx125_1⟩ := at_T45 HR0.out x8_1 p125 q125
              cases e125
              replace hx125_0 := (HB.out.cell (World.block_lt_of_cell? w _ hx125_0)).trans hx125_0
              replace hx125_1 := (HB.out.cell (World.block_lt_of_cell? w _ hx125_1)).trans hx125_1
              replace p125 := eq_true p125
              replace q125 := eq_true q125
              go_wp2_with (first | (go_at_call 52; (with_reducible refine (score_Cue_wrong.calls ((rd_T45 l0 x8_1).f0) ((rd_T45 l0 x8_1).f1) false _ A6.out).mono ?_); rintro e w9 ⟨rfl, hb⟩; have n0_ := Aside0.mk (below_step (by repeat (first | (with_reducible first | exact HB.out | apply below_alloc | apply pw_below_drewN | apply below_drew1) | exact HB.out)) hb); clear HB; have HB := n0_; clear n0_; (try clear hb); (try clear hb2); (try clear hk); (try clear hi)))
              go_roundg k1
              case measure => have := HK1.out; omega
              case rel => exact ⟨(wrap64 (x8_1 + 1)), (by first | rfl | (simp; done) | (simp [*]; done)), H', ⟨by have := HK1.out; omega⟩, ⟨by repeat (first | (with_reducible first | exact HB.out | apply below_alloc | apply pw_below_drewN | apply below_drew1) | exact HB.out)⟩⟩
          · rw [if_neg c5] at H
            exact absurd H (by simp)
        · rw [if_neg c4] at H
          exact absurd H (by simp)
      · rw [if_neg c3] at H
        have c3b0 : decide (x8_1 < (l0.length : Int)) = false := decide_eq_false c3
        clear c3
        obtain rfl := Option.some.inj H
        go_wp2
        go_ret
        exact ⟨by first | rfl | (simp [errW_none, errW_some] <;> rfl) | (simp [*, errW_none, errW_some] <;> rfl), by repeat (first | (with_reducible first | exact HB.out | apply below_alloc | apply pw_below_drewN | apply below_drew1) | exact HB.out)⟩

end Go.Proofs.Ythehkmpameeofaa.P
