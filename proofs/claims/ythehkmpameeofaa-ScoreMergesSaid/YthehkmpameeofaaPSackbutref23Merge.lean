-- Printed by our own driver (wip/tools/myprint.py). Not trusted: Lean checks it.
import Derived.Test.YthehkmpameeofaaP0
namespace Go.Proofs.Ythehkmpameeofaa.P
open Go.RowKit Go.Proofs.YthehkmpameeofaaW.PrintWords Go.Proofs.YthehkmpameeofaaW.PrintLast Go.Proofs.YthehkmpameeofaaW.PrintMore
attribute [local go_sem] max2_int min2_int max_two min_two max_three min_three max_four min_four   -- for this text's walks alone
set_option linter.unusedVariables false
set_option linter.unusedSimpArgs false

/-! ### sackbutref23_Merge: function 11 -/
mutual
def sackbutref23_Merge.l0 : Nat → List (S58) → List (S58) → List (S58) → Option ((List (S58)))
  | 0, _, _, _ => none
  | k + 1, x0, x1, x5 => if (x0.length : Int) > 0 then (sackbutref23_Merge.j1 k x0 x1 x5 true) else (sackbutref23_Merge.j1 k x0 x1 x5 (decide ((x1.length : Int) > 0)))
def sackbutref23_Merge.j1 : Nat → List (S58) → List (S58) → List (S58) → Bool → Option ((List (S58)))
  | 0, _, _, _, _ => none
  | k + 1, x0, x1, x5, x13 => if x13 = true then (if (x1.length : Int) = 0 then (sackbutref23_Merge.j2 k x0 x1 x5 true) else (if (x0.length : Int) > 0 then (if 0 < (x0.length : Int) then (if 0 < (x1.length : Int) then (sackbutref23_Merge.j2 k x0 x1 x5 (decide (((rd_T58 x0 0).f0) ≤ ((rd_T58 x1 0).f0)))) else (none)) else (none)) else (sackbutref23_Merge.j2 k x0 x1 x5 false))) else (some x5)
def sackbutref23_Merge.j2 : Nat → List (S58) → List (S58) → List (S58) → Bool → Option ((List (S58)))
  | 0, _, _, _, _ => none
  | k + 1, x0, x1, x5, x32 => if x32 = true then (if (x1.length : Int) > 0 then (if 0 < (x1.length : Int) then (if 0 < (x0.length : Int) then (if ((rd_T58 x1 0).f0) = ((rd_T58 x0 0).f0) then (if 1 ≤ (x1.length : Int) then (if x5.length < 5864062014805 then (if 1 ≤ (x0.length : Int) then (sackbutref23_Merge.l0 k (x0.drop 1) (x1.drop 1) (x5 ++ [(⟨(rd_T58 x0 0).f0, (rd_T58 x0 0).f1⟩ : S58)])) else (none)) else (none)) else (none)) else (if x5.length < 5864062014805 then (if 1 ≤ (x0.length : Int) then (sackbutref23_Merge.l0 k (x0.drop 1) x1 (x5 ++ [(⟨(rd_T58 x0 0).f0, (rd_T58 x0 0).f1⟩ : S58)])) else (none)) else (none))) else (none)) else (none)) else (if 0 < (x0.length : Int) then (if x5.length < 5864062014805 then (if 1 ≤ (x0.length : Int) then (sackbutref23_Merge.l0 k (x0.drop 1) x1 (x5 ++ [(⟨(rd_T58 x0 0).f0, (rd_T58 x0 0).f1⟩ : S58)])) else (none)) else (none)) else (none))) else (if 0 < (x1.length : Int) then (if x5.length < 5864062014805 then (if 1 ≤ (x1.length : Int) then (sackbutref23_Merge.l0 k x0 (x1.drop 1) (x5 ++ [(⟨(rd_T58 x1 0).f0, (rd_T58 x1 0).f1⟩ : S58)])) else (none)) else (none)) else (none))
end
def sackbutref23_Merge.f (k : Nat) (l0 : List (S58)) (l1 : List (S58)) : Option ((List (S58))) := sackbutref23_Merge.l0 k l0 l1 ([] : List (S58))
theorem sackbutref23_Merge.mono_l : ∀ k, (∀ y0 y1 y2, LeO (sackbutref23_Merge.l0 k y0 y1 y2) (sackbutref23_Merge.l0 (k + 1) y0 y1 y2)) ∧ (∀ y0 y1 y2 y3, LeO (sackbutref23_Merge.j1 k y0 y1 y2 y3) (sackbutref23_Merge.j1 (k + 1) y0 y1 y2 y3)) ∧ (∀ y0 y1 y2 y3, LeO (sackbutref23_Merge.j2 k y0 y1 y2 y3) (sackbutref23_Merge.j2 (k + 1) y0 y1 y2 y3))
  | 0 => ⟨fun _ _ _ r h => by simp [sackbutref23_Merge.l0] at h, fun _ _ _ _ r h => by simp [sackbutref23_Merge.j1] at h, fun _ _ _ _ r h => by simp [sackbutref23_Merge.j2] at h⟩
  | k + 1 => by
    obtain ⟨ih0, ih1, ih2⟩ := sackbutref23_Merge.mono_l k
    refine ⟨?_, ?_, ?_⟩
    · intro y0 y1 y2
      unfold sackbutref23_Merge.l0
      repeat' first
      | (with_reducible exact ih0 _ _ _)
      | (with_reducible exact ih1 _ _ _ _)
      | (with_reducible exact ih2 _ _ _ _)
      | (with_reducible exact LeO.refl _)
      | (with_reducible exact LeO.none _)
      | (with_reducible refine LeO.ite ?_ ?_)
      | (with_reducible refine LeO.bind ?_ (fun _ => ?_))
      | exact ih0 _ _ _
      | exact ih1 _ _ _ _
      | exact ih2 _ _ _ _
      | exact LeO.none _
      | refine LeO.ite ?_ ?_
      | refine LeO.bind ?_ (fun _ => ?_)
    · intro y0 y1 y2 y3
      unfold sackbutref23_Merge.j1
      repeat' first
      | (with_reducible exact ih0 _ _ _)
      | (with_reducible exact ih1 _ _ _ _)
      | (with_reducible exact ih2 _ _ _ _)
      | (with_reducible exact LeO.refl _)
      | (with_reducible exact LeO.none _)
      | (with_reducible refine LeO.ite ?_ ?_)
      | (with_reducible refine LeO.bind ?_ (fun _ => ?_))
      | exact ih0 _ _ _
      | exact ih1 _ _ _ _
      | exact ih2 _ _ _ _
      | exact LeO.none _
      | refine LeO.ite ?_ ?_
      | refine LeO.bind ?_ (fun _ => ?_)
    · intro y0 y1 y2 y3
      unfold sackbutref23_Merge.j2
      repeat' first
      | (with_reducible exact ih0 _ _ _)
      | (with_reducible exact ih1 _ _ _ _)
      | (with_reducible exact ih2 _ _ _ _)
      | (with_reducible exact LeO.refl _)
      | (with_reducible exact LeO.none _)
      | (with_reducible refine LeO.ite ?_ ?_)
      | (with_reducible refine LeO.bind ?_ (fun _ => ?_))
      | exact ih0 _ _ _
      | exact ih1 _ _ _ _
      | exact ih2 _ _ _ _
      | exact LeO.none _
      | refine LeO.ite ?_ ?_
      | refine LeO.bind ?_ (fun _ => ?_)
theorem sackbutref23_Merge.mono : ∀ a0 a1 k, LeO (sackbutref23_Merge.f k a0 a1) (sackbutref23_Merge.f (k + 1) a0 a1) := by
  intro a0 a1 k
  obtain ⟨ih0, ih1, ih2⟩ := sackbutref23_Merge.mono_l k
  unfold sackbutref23_Merge.f
  repeat' first
      | (with_reducible exact ih0 _ _ _)
      | (with_reducible exact ih1 _ _ _ _)
      | (with_reducible exact ih2 _ _ _ _)
      | (with_reducible exact LeO.refl _)
      | (with_reducible exact LeO.none _)
      | (with_reducible refine LeO.ite ?_ ?_)
      | (with_reducible refine LeO.bind ?_ (fun _ => ?_))
      | exact ih0 _ _ _
      | exact ih1 _ _ _ _
      | exact ih2 _ _ _ _
      | exact LeO.none _
      | refine LeO.ite ?_ ?_
      | refine LeO.bind ?_ (fun _ => ?_)
set_option maxHeartbeats 8000000 in
set_option maxRecDepth 100000 in
theorem sackbutref23_Merge.calls (k : Nat) (P0_ : Nat → Prop) (A0 : Option Addr) (c0 : Nat) (l0 : List (S58)) (P1_ : Nat → Prop) (A1 : Option Addr) (c1 : Nat) (l1 : List (S58)) (r : List (S58)) (w : World) (hs0 : Kd.V k58 58 w w.heap.size (fun k_ => P0_ k_) (.slice A0 l0.length c0) l0) (hs1 : Kd.V k58 58 w w.heap.size (fun k_ => P1_ k_) (.slice A1 l1.length c1) l1) (h : sackbutref23_Merge.f k l0 l1 = some r) :
    Calls Try.prog 11 #[.slice A0 l0.length c0, .slice A1 l1.length c1] w fun e w' => ∃ v0_ : Value, e = .returned (v0_) ∧ Kd.R k58 58 w' w.heap.size (fun k_ => (w.heap.size ≤ k_)) v0_ r ∧ Below w.heap.size w w' := by
  have hu58 := Try.underlying58
  have HO0 := Aside0.mk (show Kd.V k58 58 w w.heap.size (fun k_ => ((P0_ k_ ∨ P1_ k_) ∨ w.heap.size ≤ k_)) (.slice A0 l0.length c0) l0 from Kd.V_mono hs0 (fun k_ hk => .inl (.inl hk)))
  have HO1 := Aside0.mk (show Kd.V k58 58 w w.heap.size (fun k_ => ((P0_ k_ ∨ P1_ k_) ∨ w.heap.size ≤ k_)) (.slice A1 l1.length c1) l1 from Kd.V_mono hs1 (fun k_ hk => .inl (.inr hk)))
  have HB := Aside0.mk (Below.refl w.heap.size w)
  have H : (sackbutref23_Merge.l0 k l0 l1 ([] : List (S58))) = some r := h
  clear h
  have H' := Aside0.mk H
  clear H
  go_enter Try.func11, Try.ntmps11
  go_wp2
  repeat (go_quiet (fail); try go_wp2)
  go_loopg [0, 1, 5] k (fun kq v0 v1 v5 w' => ∃ (x0_1 : List (S58)) (x1_1 : List (S58)) (x5_1 : List (S58)), Aside0 (sackbutref23_Merge.l0 kq x0_1 x1_1 x5_1 = some r) ∧ Aside0 (kq ≤ k) ∧ Aside0 (Kd.V k58 58 w' w.heap.size (fun k_ => ((P0_ k_ ∨ P1_ k_) ∨ w.heap.size ≤ k_) ∧ some k_ ≠ (v5 : Value).ownBlock) v0 x0_1) ∧ Aside0 (Kd.V k58 58 w' w.heap.size (fun k_ => ((P0_ k_ ∨ P1_ k_) ∨ w.heap.size ≤ k_) ∧ some k_ ≠ (v5 : Value).ownBlock) v1 x1_1) ∧ Aside0 (Kd.R k58 58 w' w.heap.size (fun k_ => (w.heap.size ≤ k_)) v5 x5_1) ∧ Aside0 (Below w.heap.size w w'))
  case atStart => exact ⟨(l0), (l1), (([] : List (S58))), H', ⟨Nat.le_refl _⟩, ⟨by (with_reducible repeat (first | apply Kd.V_alloc | apply Kd.V_drewN | apply Kd.V_drew)); exact Kd.V_mono HO0.out (fun _ hk => ⟨hk, (by simp [Value.ownBlock])⟩)⟩, ⟨by (with_reducible repeat (first | apply Kd.V_alloc | apply Kd.V_drewN | apply Kd.V_drew)); exact Kd.V_mono HO1.out (fun _ hk => ⟨hk, (by simp [Value.ownBlock])⟩)⟩, ⟨by first | exact Kd.R_nil _ _ _ _ _ | exact Kd.N_nil _ _ _ _ _ | exact Kd.V_nil _ _ _ _ _ | exact Kd.Q_nil _ _ _ _ _ | exact Kd.S_nil _ _ _ _ _⟩, ⟨by repeat (first | (with_reducible first | exact HB.out | apply below_alloc | apply pw_below_drewN | apply below_drew1) | exact HB.out)⟩⟩
  case round =>
    clear H'
    try clear c1
    try clear p2
    obtain ⟨x0_1, x1_1, x5_1, HA, HK1, HO_0, HO_1, HO_5, HB⟩ := hrel
    cases gk with
    | zero => exact absurd HA.out (by simp [sackbutref23_Merge.l0])
    | succ k1 =>
      have H := HA.out
      clear HA
      simp only [sackbutref23_Merge.l0] at H
      have HC3 := Aside0.mk H
      clear H
      go_upto_region 2 with (fail)
      repeat (go_quiet (fail); go_upto_region 2 with (fail))
      go_cut [13] (fun v13 wc => ∃ (kq : Nat) (x13_2 : Bool), v13 = .bool x13_2 ∧ Aside0 (sackbutref23_Merge.j1 kq x0_1 x1_1 x5_1 x13_2 = some r) ∧ Aside0 (kq ≤ k1) ∧ Aside0 (Kd.V k58 58 wc w.heap.size (fun k_ => ((P0_ k_ ∨ P1_ k_) ∨ w.heap.size ≤ k_) ∧ some k_ ≠ (u5 : Value).ownBlock) u0 x0_1) ∧ Aside0 (Kd.V k58 58 wc w.heap.size (fun k_ => ((P0_ k_ ∨ P1_ k_) ∨ w.heap.size ≤ k_) ∧ some k_ ≠ (u5 : Value).ownBlock) u1 x1_1) ∧ Aside0 (Kd.R k58 58 wc w.heap.size (fun k_ => (w.heap.size ≤ k_)) u5 x5_1) ∧ Aside0 (Below w.heap.size w wc))
      case first =>
        have H := HC3.out
        clear HC3
        by_cases c4 : (x0_1.length : Int) > 0
        · rw [if_pos c4] at H
          have c4b0 : decide (0 < (x0_1.length : Int)) = true := decide_eq_true c4
          have c4b1 : decide (0 < x0_1.length) = true := decide_eq_true (by omega)
          clear c4
          (first | rw [c4b0] | (simp only [i64_w, i32_w]; rw [c4b0]) | skip)
          have H' := Aside0.mk H
          clear H
          obtain ⟨Ao5, co5, eo5⟩ := Kd.V_slice HO_0.out
          subst eo5
          go_wp2
          repeat (go_quiet (fail); try go_wp2)
          go_meet
          case rel => exact ⟨_, (true), (by first | rfl | (simp; done) | (simp [*]; done)), H', ⟨by have := HK1.out; first | omega | exact Nat.le_refl _⟩, ⟨by (with_reducible repeat (first | apply Kd.V_alloc | apply Kd.V_drewN | apply Kd.V_drew)); exact HO_0.out⟩, ⟨by (with_reducible repeat (first | apply Kd.V_alloc | apply Kd.V_drewN | apply Kd.V_drew)); exact HO_1.out⟩, ⟨by (with_reducible repeat (first | apply Kd.R_alloc | apply Kd.R_drewN | apply Kd.R_drew)); exact HO_5.out⟩, ⟨by repeat (first | (with_reducible first | exact HB.out | apply below_alloc | apply pw_below_drewN | apply below_drew1) | exact HB.out)⟩⟩
        · rw [if_neg c4] at H
          have c4b0 : decide (0 < (x0_1.length : Int)) = false := decide_eq_false c4
          have c4b1 : decide (0 < x0_1.length) = false := decide_eq_false (by omega)
          clear c4
          (first | rw [c4b0] | (simp only [i64_w, i32_w]; rw [c4b0]) | skip)
          have H' := Aside0.mk H
          clear H
          obtain ⟨Ao6, co6, eo6⟩ := Kd.V_slice HO_0.out
          subst eo6
          obtain ⟨Ao7, co7, eo7⟩ := Kd.V_slice HO_1.out
          subst eo7
          go_wp2
          repeat (go_quiet (fail); try go_wp2)
          go_meet
          case rel => exact ⟨_, (decide ((x1_1.length : Int) > 0)), (by first | rfl | (simp; done) | (simp [*]; done)), H', ⟨by have := HK1.out; first | omega | exact Nat.le_refl _⟩, ⟨by (with_reducible repeat (first | apply Kd.V_alloc | apply Kd.V_drewN | apply Kd.V_drew)); exact HO_0.out⟩, ⟨by (with_reducible repeat (first | apply Kd.V_alloc | apply Kd.V_drewN | apply Kd.V_drew)); exact HO_1.out⟩, ⟨by (with_reducible repeat (first | apply Kd.R_alloc | apply Kd.R_drewN | apply Kd.R_drew)); exact HO_5.out⟩, ⟨by repeat (first | (with_reducible first | exact HB.out | apply below_alloc | apply pw_below_drewN | apply below_drew1) | exact HB.out)⟩⟩
      case rest =>
        clear HC3
        try clear c1
        try clear p2
        try clear c4
        try clear c4b0
        try clear c4b1
        try clear p2
        obtain ⟨kq, x13_2, rfl, HA, HJ2, HO_0, HO_1, HO_5, HB⟩ := hcut
        cases kq with
        | zero => exact absurd HA.out (by simp [sackbutref23_Merge.j1])
        | succ kj2 =>
          have H := HA.out
          clear HA
          simp only [sackbutref23_Merge.j1] at H
          by_cases c8 : x13_2 = true
          · subst c8
            have H1 : (if (x1_1.length : Int) = 0 then (sackbutref23_Merge.j2 kj2 x0_1 x1_1 x5_1 true) else (if (x0_1.length : Int) > 0 then (if 0 < (x0_1.length : Int) then (if 0 < (x1_1.length : Int) then (sackbutref23_Merge.j2 kj2 x0_1 x1_1 x5_1 (decide (((rd_T58 x0_1 0).f0) ≤ ((rd_T58 x1_1 0).f0)))) else (none)) else (none)) else (sackbutref23_Merge.j2 kj2 x0_1 x1_1 x5_1 false))) = some r := by rw [if_pos rfl] at H; exact H
            clear H
            have H := H1
            clear H1
            have HC9 := Aside0.mk H
            clear H
            go_upto_region 3 with (fail)
            repeat (go_quiet (fail); go_upto_region 3 with (fail))
            go_cut [32] (fun v32 wc => ∃ (kq : Nat) (x32_8 : Bool), v32 = .bool x32_8 ∧ Aside0 (sackbutref23_Merge.j2 kq x0_1 x1_1 x5_1 x32_8 = some r) ∧ Aside0 (kq ≤ kj2) ∧ Aside0 (Kd.V k58 58 wc w.heap.size (fun k_ => ((P0_ k_ ∨ P1_ k_) ∨ w.heap.size ≤ k_) ∧ some k_ ≠ (u5 : Value).ownBlock) u0 x0_1) ∧ Aside0 (Kd.V k58 58 wc w.heap.size (fun k_ => ((P0_ k_ ∨ P1_ k_) ∨ w.heap.size ≤ k_) ∧ some k_ ≠ (u5 : Value).ownBlock) u1 x1_1) ∧ Aside0 (Kd.R k58 58 wc w.heap.size (fun k_ => (w.heap.size ≤ k_)) u5 x5_1) ∧ Aside0 (Below w.heap.size w wc))
            case first =>
              have H := HC9.out
              clear HC9
              by_cases c10 : (x1_1.length : Int) = 0
              · rw [if_pos c10] at H
                have c10b0 : ((x1_1.length : Int) == 0) = true := beq_iff_eq.mpr c10
                have c10b1 : ((x1_1.length : Int) != 0) = false := bne_eq_false_iff_eq.mpr c10
                clear c10
                (first | rw [c10b0] | (simp only [i64_w, i32_w]; rw [c10b0]) | skip)
                have H' := Aside0.mk H
                clear H
                obtain ⟨Ao11, co11, eo11⟩ := Kd.V_slice HO_1.out
                subst eo11
                go_wp2
                repeat (go_quiet (fail); try go_wp2)
                go_meet
                case rel => exact ⟨_, (true), (by first | rfl | (simp; done) | (simp [*]; done)), H', ⟨by have := HK1.out; have := HJ2.out; first | omega | exact Nat.le_refl _⟩, ⟨by (with_reducible repeat (first | apply Kd.V_alloc | apply Kd.V_drewN | apply Kd.V_drew)); exact HO_0.out⟩, ⟨by (with_reducible repeat (first | apply Kd.V_alloc | apply Kd.V_drewN | apply Kd.V_drew)); exact HO_1.out⟩, ⟨by (with_reducible repeat (first | apply Kd.R_alloc | apply Kd.R_drewN | apply Kd.R_drew)); exact HO_5.out⟩, ⟨by repeat (first | (with_reducible first | exact HB.out | apply below_alloc | apply pw_below_drewN | apply below_drew1) | exact HB.out)⟩⟩
              · rw [if_neg c10] at H
                have c10b0 : ((x1_1.length : Int) == 0) = false := beq_eq_false_iff_ne.mpr c10
                have c10b1 : ((x1_1.length : Int) != 0) = true := bne_iff_ne.mpr c10
                have c10b2 : ¬ (x1_1 = []) := fun h_ => c10 (by rw [h_]; rfl)
                (first | rw [c10b0] | (simp only [i64_w, i32_w]; rw [c10b0]) | skip)
                by_cases c12 : (x0_1.length : Int) > 0
                · rw [if_pos c12] at H
                  have c12b0 : decide (0 < (x0_1.length : Int)) = true := decide_eq_true c12
                  have c12b1 : decide (0 < x0_1.length) = true := decide_eq_true (by omega)
                  clear c12
                  by_cases c13 : 0 < (x0_1.length : Int)
                  · rw [if_pos c13] at H
                    have c13b0 : decide (0 < (x0_1.length : Int)) = true := decide_eq_true c13
                    have c13b1 : decide (0 < x0_1.length) = true := decide_eq_true (by omega)
                    clear c13
                    by_cases c14 : 0 < (x1_1.length : Int)
                    · rw [if_pos c14] at H
                      have c14b0 : decide (0 < (x1_1.length : Int)) = true := decide_eq_true c14
                      have c14b1 : decide (0 < x1_1.length) = true := decide_eq_true (by omega)
                      clear c14
                      have H' := Aside0.mk H
                      clear H
                      obtain ⟨Ao15, co15, eo15⟩ := Kd.V_slice HO_1.out
                      subst eo15
                      obtain ⟨Ao16, co16, eo16⟩ := Kd.V_slice HO_0.out
                      subst eo16
                      have p142 : 0 ≤ (0 : Int) := (by omega)
                      have q142 : 0 < (x0_1.length : Int) := of_decide_eq_true (by first | (with_reducible assumption) | assumption)
                      obtain ⟨ad142, e142, hx142_0, hx142_1⟩ := at_T58 (Kd.V_reads' HO_0.out).2.2 0 p142 q142
                      cases e142
                      have qi142 : (0 < x0_1.length) = True := eq_true (by omega)
                      (try rw [show ((0 : Int)).toNat = 0 from rfl] at hx142_0)
                      (try rw [show 0 * 2 = 0 from rfl] at hx142_0)
                      (try rw [Addr.add_zero'] at hx142_0)
                      (try rw [show ((0 : Int)).toNat = 0 from rfl] at hx142_1)
                      (try rw [show 0 * 2 = 0 from rfl] at hx142_1)
                      (try rw [Addr.add_zero'] at hx142_1)
                      replace p142 := eq_true p142
                      replace q142 := eq_true q142
                      have p143 : 0 ≤ (0 : Int) := (by omega)
                      have q143 : 0 < (x1_1.length : Int) := of_decide_eq_true (by first | (with_reducible assumption) | assumption)
                      obtain ⟨ad143, e143, hx143_0, hx143_1⟩ := at_T58 (Kd.V_reads' HO_1.out).2.2 0 p143 q143
                      cases e143
                      have qi143 : (0 < x1_1.length) = True := eq_true (by omega)
                      (try rw [show ((0 : Int)).toNat = 0 from rfl] at hx143_0)
                      (try rw [show 0 * 2 = 0 from rfl] at hx143_0)
                      (try rw [Addr.add_zero'] at hx143_0)
                      (try rw [show ((0 : Int)).toNat = 0 from rfl] at hx143_1)
                      (try rw [show 0 * 2 = 0 from rfl] at hx143_1)
                      (try rw [Addr.add_zero'] at hx143_1)
                      replace p143 := eq_true p143
                      replace q143 := eq_true q143
                      go_wp2
                      repeat (go_quiet (fail); try go_wp2)
                      go_meet
                      case rel => exact ⟨_, (decide (((rd_T58 x0_1 0).f0) ≤ ((rd_T58 x1_1 0).f0))), (by first | rfl | (simp; done) | (simp [*]; done)), H', ⟨by have := HK1.out; have := HJ2.out; first | omega | exact Nat.le_refl _⟩, ⟨by (with_reducible repeat (first | apply Kd.V_alloc | apply Kd.V_drewN | apply Kd.V_drew)); exact HO_0.out⟩, ⟨by (with_reducible repeat (first | apply Kd.V_alloc | apply Kd.V_drewN | apply Kd.V_drew)); exact HO_1.out⟩, ⟨by (with_reducible repeat (first | apply Kd.R_alloc | apply Kd.R_drewN | apply Kd.R_drew)); exact HO_5.out⟩, ⟨by repeat (first | (with_reducible first | exact HB.out | apply below_alloc | apply pw_below_drewN | apply below_drew1) | exact HB.out)⟩⟩
                    · rw [if_neg c14] at H
                      exact absurd H (by simp)
                  · rw [if_neg c13] at H
                    exact absurd H (by simp)
                · rw [if_neg c12] at H
                  have c12b0 : decide (0 < (x0_1.length : Int)) = false := decide_eq_false c12
                  have c12b1 : decide (0 < x0_1.length) = false := decide_eq_false (by omega)
                  clear c12
                  have H' := Aside0.mk H
                  clear H
                  obtain ⟨Ao17, co17, eo17⟩ := Kd.V_slice HO_1.out
                  subst eo17
                  obtain ⟨Ao18, co18, eo18⟩ := Kd.V_slice HO_0.out
                  subst eo18
                  go_wp2
                  repeat (go_quiet (fail); try go_wp2)
                  go_meet
                  case rel => exact ⟨_, (false), (by first | rfl | (simp; done) | (simp [*]; done)), H', ⟨by have := HK1.out; have := HJ2.out; first | omega | exact Nat.le_refl _⟩, ⟨by (with_reducible repeat (first | apply Kd.V_alloc | apply Kd.V_drewN | apply Kd.V_drew)); exact HO_0.out⟩, ⟨by (with_reducible repeat (first | apply Kd.V_alloc | apply Kd.V_drewN | apply Kd.V_drew)); exact HO_1.out⟩, ⟨by (with_reducible repeat (first | apply Kd.R_alloc | apply Kd.R_drewN | apply Kd.R_drew)); exact HO_5.out⟩, ⟨by repeat (first | (with_reducible first | exact HB.out | apply below_alloc | apply pw_below_drewN | apply below_drew1) | exact HB.out)⟩⟩
            case rest =>
              clear HC9
              try clear c1
              try clear p1
              try clear q1
              try clear hx1
              try clear qi1
              try clear p2
              try clear c4
              try clear c4b0
              try clear c4b1
              try clear c8
              try clear c10
              try clear c10b0
              try clear c10b1
              try clear c10b2
              try clear c11
              try clear c12
              try clear c12b0
              try clear c12b1
              try clear c13
              try clear c13b0
              try clear c13b1
              try clear c14
              try clear c14b0
              try clear c14b1
              try clear p14
              try clear q14
              try clear hx14
              try clear qi14
              try clear hx142_0
              try clear hx142_1
              try clear hx143_0
              try clear hx143_1
              try clear p142
              try clear p143
              try clear p2
              try clear q142
              try clear q143
              obtain ⟨kq, x32_8, rfl, HA, HJ8, HO_0, HO_1, HO_5, HB⟩ := hcut
              cases kq with
              | zero => exact absurd HA.out (by simp [sackbutref23_Merge.j2])
              | succ kj8 =>
                have H := HA.out
                clear HA
                simp only [sackbutref23_Merge.j2] at H
                by_cases c19 : x32_8 = true
                · subst c19
                  have H1 : (if (x1_1.length : Int) > 0 then (if 0 < (x1_1.length : Int) then (if 0 < (x0_1.length : Int) then (if ((rd_T58 x1_1 0).f0) = ((rd_T58 x0_1 0).f0) then (if 1 ≤ (x1_1.length : Int) then (if x5_1.length < 5864062014805 then (if 1 ≤ (x0_1.length : Int) then (sackbutref23_Merge.l0 kj8 (x0_1.drop 1) (x1_1.drop 1) (x5_1 ++ [(⟨(rd_T58 x0_1 0).f0, (rd_T58 x0_1 0).f1⟩ : S58)])) else (none)) else (none)) else (none)) else (if x5_1.length < 5864062014805 then (if 1 ≤ (x0_1.length : Int) then (sackbutref23_Merge.l0 kj8 (x0_1.drop 1) x1_1 (x5_1 ++ [(⟨(rd_T58 x0_1 0).f0, (rd_T58 x0_1 0).f1⟩ : S58)])) else (none)) else (none))) else (none)) else (none)) else (if 0 < (x0_1.length : Int) then (if x5_1.length < 5864062014805 then (if 1 ≤ (x0_1.length : Int) then (sackbutref23_Merge.l0 kj8 (x0_1.drop 1) x1_1 (x5_1 ++ [(⟨(rd_T58 x0_1 0).f0, (rd_T58 x0_1 0).f1⟩ : S58)])) else (none)) else (none)) else (none))) = some r := by rw [if_pos rfl] at H; exact H
                  clear H
                  have H := H1
                  clear H1
                  by_cases c20 : (x1_1.length : Int) > 0
                  · rw [if_pos c20] at H
                    have c20b0 : decide (0 < (x1_1.length : Int)) = true := decide_eq_true c20
                    have c20b1 : decide (0 < x1_1.length) = true := decide_eq_true (by omega)
                    clear c20
                    by_cases c21 : 0 < (x1_1.length : Int)
                    · rw [if_pos c21] at H
                      have c21b0 : decide (0 < (x1_1.length : Int)) = true := decide_eq_true c21
                      have c21b1 : decide (0 < x1_1.length) = true := decide_eq_true (by omega)
                      clear c21
                      by_cases c22 : 0 < (x0_1.length : Int)
                      · rw [if_pos c22] at H
                        have c22b0 : decide (0 < (x0_1.length : Int)) = true := decide_eq_true c22
                        have c22b1 : decide (0 < x0_1.length) = true := decide_eq_true (by omega)
                        clear c22
                        by_cases c23 : ((rd_T58 x1_1 0).f0) = ((rd_T58 x0_1 0).f0)
                        · rw [if_pos c23] at H
                          have c23b0 : (((rd_T58 x1_1 0).f0) == ((rd_T58 x0_1 0).f0)) = true := beq_iff_eq.mpr c23
                          have c23b1 : (((rd_T58 x1_1 0).f0) != ((rd_T58 x0_1 0).f0)) = false := bne_eq_false_iff_eq.mpr c23
                          clear c23
                          by_cases c24 : 1 ≤ (x1_1.length : Int)
                          · rw [if_pos c24] at H
                            have c24b0 := eq_true c24
                            have c24b1 : decide (1 ≤ (x1_1.length : Int)) = true := decide_eq_true c24
                            clear c24
                            obtain ⟨y146, hy146⟩ : ∃ y_ : List (S58), y_ = (x1_1.drop 1) := ⟨_, rfl⟩
                            replace H : (if x5_1.length < 5864062014805 then (if 1 ≤ (x0_1.length : Int) then (sackbutref23_Merge.l0 kj8 (x0_1.drop 1) y146 (x5_1 ++ [(⟨(rd_T58 x0_1 0).f0, (rd_T58 x0_1 0).f1⟩ : S58)])) else (none)) else (none)) = some r := by first | (rw [hy146]; with_reducible exact H) | (have H2_ := (Option.bind_some _ _).symm.trans H; rw [hy146]; with_reducible exact H2_) | (have H2_ := (Option.bind_some _ _).symm.trans H; with_reducible exact H2_) | with_reducible exact H | (rw [hy146]; exact H) | exact H
                            have Ny146 := Aside0.mk hy146
                            clear hy146
                            by_cases c25 : x5_1.length < 5864062014805
                            · rw [if_pos c25] at H
                              have LMc25 := Aside0.mk c25
                              clear c25
                              obtain ⟨y152, hy152⟩ : ∃ y_ : List (S58), y_ = (x5_1 ++ [(⟨(rd_T58 x0_1 0).f0, (rd_T58 x0_1 0).f1⟩ : S58)]) := ⟨_, rfl⟩
                              replace H : (if 1 ≤ (x0_1.length : Int) then (sackbutref23_Merge.l0 kj8 (x0_1.drop 1) y146 y152) else (none)) = some r := by first | (rw [hy152]; with_reducible exact H) | (have H2_ := (Option.bind_some _ _).symm.trans H; rw [hy152]; with_reducible exact H2_) | (have H2_ := (Option.bind_some _ _).symm.trans H; with_reducible exact H2_) | with_reducible exact H | (rw [hy152]; exact H) | exact H
                              have Ny152 := Aside0.mk hy152
                              clear hy152
                              by_cases c26 : 1 ≤ (x0_1.length : Int)
                              · rw [if_pos c26] at H
                                have c26b0 := eq_true c26
                                have c26b1 : decide (1 ≤ (x0_1.length : Int)) = true := decide_eq_true c26
                                clear c26
                                obtain ⟨y155, hy155⟩ : ∃ y_ : List (S58), y_ = (x0_1.drop 1) := ⟨_, rfl⟩
                                replace H : (sackbutref23_Merge.l0 kj8 y155 y146 y152) = some r := by first | (rw [hy155]; with_reducible exact H) | (have H2_ := (Option.bind_some _ _).symm.trans H; rw [hy155]; with_reducible exact H2_) | (have H2_ := (Option.bind_some _ _).symm.trans H; with_reducible exact H2_) | with_reducible exact H | (rw [hy155]; exact H) | exact H
                                have Ny155 := Aside0.mk hy155
                                clear hy155
                                have H' := Aside0.mk H
                                clear H
                                obtain ⟨Ao27, co27, eo27⟩ := Kd.V_slice HO_1.out
                                subst eo27
                                have p144 : 0 ≤ (0 : Int) := (by omega)
                                have q144 : 0 < (x1_1.length : Int) := of_decide_eq_true (by first | (with_reducible assumption) | assumption)
                                obtain ⟨ad144, e144, hx144_0, hx144_1⟩ := at_T58 (Kd.V_reads' HO_1.out).2.2 0 p144 q144
                                cases e144
                                have qi144 : (0 < x1_1.length) = True := eq_true (by omega)
                                (try rw [show ((0 : Int)).toNat = 0 from rfl] at hx144_0)
                                (try rw [show 0 * 2 = 0 from rfl] at hx144_0)
                                (try rw [Addr.add_zero'] at hx144_0)
                                (try rw [show ((0 : Int)).toNat = 0 from rfl] at hx144_1)
                                (try rw [show 0 * 2 = 0 from rfl] at hx144_1)
                                (try rw [Addr.add_zero'] at hx144_1)
                                replace p144 := eq_true p144
                                replace q144 := eq_true q144
                                obtain ⟨Ao28, co28, eo28⟩ := Kd.V_slice HO_0.out
                                subst eo28
                                have p145 : 0 ≤ (0 : Int) := (by omega)
                                have q145 : 0 < (x0_1.length : Int) := of_decide_eq_true (by first | (with_reducible assumption) | assumption)
                                obtain ⟨ad145, e145, hx145_0, hx145_1⟩ := at_T58 (Kd.V_reads' HO_0.out).2.2 0 p145 q145
                                cases e145
                                have qi145 : (0 < x0_1.length) = True := eq_true (by omega)
                                (try rw [show ((0 : Int)).toNat = 0 from rfl] at hx145_0)
                                (try rw [show 0 * 2 = 0 from rfl] at hx145_0)
                                (try rw [Addr.add_zero'] at hx145_0)
                                (try rw [show ((0 : Int)).toNat = 0 from rfl] at hx145_1)
                                (try rw [show 0 * 2 = 0 from rfl] at hx145_1)
                                (try rw [Addr.add_zero'] at hx145_1)
                                replace p145 := eq_true p145
                                replace q145 := eq_true q145
                                have q29 : (1 : Int) ≤ ((x1_1.length : Int) : Int) := of_decide_eq_true (by first | (with_reducible assumption) | assumption)
                                obtain ⟨i029, hi029, _, hsz29, _⟩ := info_parts info58
                                have hroom29 : x1_1.length ≤ co27 := (Kd.V_reads' HO_1.out).2.1
                                have hC29 : Kd.F k58 _ _ (some ad144) x1_1.length x1_1 := (Kd.V_at (base := w.heap.size) HO_1.out).2.2
                                have hcut29 := cut_from (P := Try.prog) 29 58 .i64 Try.underlying29 hi029 2 hsz29 (some ad144) x1_1.length co27 1 (by omega) q29
                                have hr29 := Kd.F_cut (m := (1 : Int).toNat) (c := co27) hC29 (by omega) hroom29
                                obtain ⟨A29, hA29⟩ : ∃ A1, A1 = (if co27 = (1 : Int).toNat then (some ad144) else ((some ad144) : Option Addr).map (·.add ((1 : Int).toNat * 2))) := ⟨_, rfl⟩
                                obtain ⟨c29, hc29⟩ : ∃ c1, c1 = co27 - (1 : Int).toNat := ⟨_, rfl⟩
                                have hy29 : y146.length = x1_1.length - (1 : Int).toNat := (by rw [Ny146.out, List.length_drop] <;> omega)
                                rw [show (x1_1).drop (1 : Int).toNat = y146 from Ny146.out.symm] at hr29
                                replace hr29 : Kd.F k58 _ _ A29 y146.length y146 := (by rw [hA29]; exact hr29)
                                rw [← hy29, ← hA29, ← hc29] at hcut29
                                have HO150 := Aside0.mk (show Kd.V k58 58 _ w.heap.size _ (.slice A29 y146.length c29) y146 from Kd.V_mk (by rw [hy29, hc29]; exact Nat.sub_le_sub_right hroom29 _) hr29)
                                have HC150 := Aside0.mk (show y146.length ≤ c29 from by rw [hy29, hc29]; exact Nat.sub_le_sub_right hroom29 _)
                                clear hr29 hC29 hroom29 hi029 hsz29 hc29
                                have KY29 := Aside0.mk hy29
                                have KA29 := Aside0.mk hA29
                                clear hy29 hA29
                                replace q29 := eq_true q29
                                have p151 : 0 ≤ (0 : Int) := (by omega)
                                have q151 : 0 < (x0_1.length : Int) := of_decide_eq_true (by first | (with_reducible assumption) | assumption)
                                obtain ⟨ad151, e151, hx151_0, hx151_1⟩ := at_T58 (Kd.V_reads' HO_0.out).2.2 0 p151 q151
                                obtain rfl : ad145 = ad151 := (by injection e151)
                                have qi151 : (0 < x0_1.length) = True := eq_true (by omega)
                                (try rw [show ((0 : Int)).toNat = 0 from rfl] at hx151_0)
                                (try rw [show 0 * 2 = 0 from rfl] at hx151_0)
                                (try rw [Addr.add_zero'] at hx151_0)
                                (try rw [show ((0 : Int)).toNat = 0 from rfl] at hx151_1)
                                (try rw [show 0 * 2 = 0 from rfl] at hx151_1)
                                (try rw [Addr.add_zero'] at hx151_1)
                                replace p151 := eq_true p151
                                replace q151 := eq_true q151
                                go_wp2_with (first | ((with_reducible refine gate_builtin (b := .append) (xs := #[.tmp 49, .tmp 53]) rfl ?_); (try (refine gate_guard (by rfl) ?_; dsimp only)); at_builtin; refine Kd.R_append k58 (w0 := w) w.heap.size rfl (.tmp 49) (.tmp 53) 29 58 (.agg #[(.int .i64 0), (.string ⟨#[]⟩)]) 24 rfl Try.underlying29 info58 rfl (by decide) (by omega) u5 x5_1 (⟨(rd_T58 x0_1 0).f0, (rd_T58 x0_1 0).f1⟩ : S58) [.int .i64 ((rd_T58 x0_1 0).f0), .string ((rd_T58 x0_1 0).f1)] (fun k_ => (w.heap.size ≤ k_)) (fun _ => False) rfl rfl ?aP (fun _ hk => hk.elim) ?aF ?aO ?aB ?aS ?aL ?_; (case aP => exact k58_mkM _ _ _ (⟨(rd_T58 x0_1 0).f0, (rd_T58 x0_1 0).f1⟩ : S58)); (case aB => exact (by repeat (first | (with_reducible first | exact HB.out | apply below_alloc | apply pw_below_drewN | apply below_drew1) | exact HB.out))); (case aF => exact (fun k_ hk => (Nat.le_trans (below_size (by repeat (first | (with_reducible first | exact HB.out | apply below_alloc | apply pw_below_drewN | apply below_drew1) | exact HB.out))) hk))); (case aO => exact (by (with_reducible repeat (first | apply Kd.R_alloc | apply Kd.R_drewN | apply Kd.R_drew)); exact HO_5.out)); (case aS => exact (below_size (by repeat (first | (with_reducible first | exact HB.out | apply below_alloc | apply pw_below_drewN | apply below_drew1) | exact HB.out)))); (case aL => have := LMc25.out; omega); intro v153 w30 ho hb hg hat; rw [← Ny152.out] at ho; have n0_ := Aside0.mk (Kd.V_afterv (ok := (fun k_ => ((P0_ k_ ∨ P1_ k_) ∨ w.heap.size ≤ k_))) (by (with_reducible repeat (first | apply Kd.V_alloc | apply Kd.V_drewN | apply Kd.V_drew)); exact HO_0.out) hg hat); have n1_ := Aside0.mk (Kd.V_afterv (ok := (fun k_ => ((P0_ k_ ∨ P1_ k_) ∨ w.heap.size ≤ k_))) (by (with_reducible repeat (first | apply Kd.V_alloc | apply Kd.V_drewN | apply Kd.V_drew)); exact HO_1.out) hg hat); have n2_ := Aside0.mk (Kd.V_afterv (ok := (fun k_ => ((P0_ k_ ∨ P1_ k_) ∨ w.heap.size ≤ k_))) (by (with_reducible repeat (first | apply Kd.V_alloc | apply Kd.V_drewN | apply Kd.V_drew)); exact HO150.out) hg hat); have n3_ := Aside0.mk (hb); have n4_ := Aside0.mk (ho); clear HO_0; clear HO_1; clear HO150; clear HB; clear HO_5; have HO_0 := n0_; have HO_1 := n1_; have HO150 := n2_; have HB := n3_; have HO154 := n4_; clear n0_ n1_ n2_ n3_ n4_; clear ho hb hg hat; have q31 : (1 : Int) ≤ ((x0_1.length : Int) : Int) := of_decide_eq_true (by first | (with_reducible assumption) | assumption); obtain ⟨i031, hi031, _, hsz31, _⟩ := info_parts info58; have hroom31 : x0_1.length ≤ co28 := (Kd.V_reads' HO_0.out).2.1; have hC31 : Kd.F k58 _ _ (some ad145) x0_1.length x0_1 := (Kd.V_at (base := w.heap.size) HO_0.out).2.2; have hcut31 := cut_from (P := Try.prog) 29 58 .i64 Try.underlying29 hi031 2 hsz31 (some ad145) x0_1.length co28 1 (by omega) q31; have hr31 := Kd.F_cut (m := (1 : Int).toNat) (c := co28) hC31 (by omega) hroom31; obtain ⟨A31, hA31⟩ : ∃ A1, A1 = (if co28 = (1 : Int).toNat then (some ad145) else ((some ad145) : Option Addr).map (·.add ((1 : Int).toNat * 2))) := ⟨_, rfl⟩; obtain ⟨c31, hc31⟩ : ∃ c1, c1 = co28 - (1 : Int).toNat := ⟨_, rfl⟩; have hy31 : y155.length = x0_1.length - (1 : Int).toNat := (by rw [Ny155.out, List.length_drop] <;> omega); rw [show (x0_1).drop (1 : Int).toNat = y155 from Ny155.out.symm] at hr31; replace hr31 : Kd.F k58 _ _ A31 y155.length y155 := (by rw [hA31]; exact hr31); rw [← hy31, ← hA31, ← hc31] at hcut31; have HO159 := Aside0.mk (show Kd.V k58 58 _ w.heap.size _ (.slice A31 y155.length c31) y155 from Kd.V_mk (by rw [hy31, hc31]; exact Nat.sub_le_sub_right hroom31 _) hr31); have HC159 := Aside0.mk (show y155.length ≤ c31 from by rw [hy31, hc31]; exact Nat.sub_le_sub_right hroom31 _); clear hr31 hC31 hroom31 hi031 hsz31 hc31; have KY31 := Aside0.mk hy31; have KA31 := Aside0.mk hA31; clear hy31 hA31; replace q31 := eq_true q31))
                                repeat (go_quiet (first | ((with_reducible refine gate_builtin (b := .append) (xs := #[.tmp 49, .tmp 53]) rfl ?_); (try (refine gate_guard (by rfl) ?_; dsimp only)); at_builtin; refine Kd.R_append k58 (w0 := w) w.heap.size rfl (.tmp 49) (.tmp 53) 29 58 (.agg #[(.int .i64 0), (.string ⟨#[]⟩)]) 24 rfl Try.underlying29 info58 rfl (by decide) (by omega) u5 x5_1 (⟨(rd_T58 x0_1 0).f0, (rd_T58 x0_1 0).f1⟩ : S58) [.int .i64 ((rd_T58 x0_1 0).f0), .string ((rd_T58 x0_1 0).f1)] (fun k_ => (w.heap.size ≤ k_)) (fun _ => False) rfl rfl ?aP (fun _ hk => hk.elim) ?aF ?aO ?aB ?aS ?aL ?_; (case aP => exact k58_mkM _ _ _ (⟨(rd_T58 x0_1 0).f0, (rd_T58 x0_1 0).f1⟩ : S58)); (case aB => exact (by repeat (first | (with_reducible first | exact HB.out | apply below_alloc | apply pw_below_drewN | apply below_drew1) | exact HB.out))); (case aF => exact (fun k_ hk => (Nat.le_trans (below_size (by repeat (first | (with_reducible first | exact HB.out | apply below_alloc | apply pw_below_drewN | apply below_drew1) | exact HB.out))) hk))); (case aO => exact (by (with_reducible repeat (first | apply Kd.R_alloc | apply Kd.R_drewN | apply Kd.R_drew)); exact HO_5.out)); (case aS => exact (below_size (by repeat (first | (with_reducible first | exact HB.out | apply below_alloc | apply pw_below_drewN | apply below_drew1) | exact HB.out)))); (case aL => have := LMc25.out; omega); intro v153 w30 ho hb hg hat; rw [← Ny152.out] at ho; have n0_ := Aside0.mk (Kd.V_afterv (ok := (fun k_ => ((P0_ k_ ∨ P1_ k_) ∨ w.heap.size ≤ k_))) (by (with_reducible repeat (first | apply Kd.V_alloc | apply Kd.V_drewN | apply Kd.V_drew)); exact HO_0.out) hg hat); have n1_ := Aside0.mk (Kd.V_afterv (ok := (fun k_ => ((P0_ k_ ∨ P1_ k_) ∨ w.heap.size ≤ k_))) (by (with_reducible repeat (first | apply Kd.V_alloc | apply Kd.V_drewN | apply Kd.V_drew)); exact HO_1.out) hg hat); have n2_ := Aside0.mk (Kd.V_afterv (ok := (fun k_ => ((P0_ k_ ∨ P1_ k_) ∨ w.heap.size ≤ k_))) (by (with_reducible repeat (first | apply Kd.V_alloc | apply Kd.V_drewN | apply Kd.V_drew)); exact HO150.out) hg hat); have n3_ := Aside0.mk (hb); have n4_ := Aside0.mk (ho); clear HO_0; clear HO_1; clear HO150; clear HB; clear HO_5; have HO_0 := n0_; have HO_1 := n1_; have HO150 := n2_; have HB := n3_; have HO154 := n4_; clear n0_ n1_ n2_ n3_ n4_; clear ho hb hg hat; have q31 : (1 : Int) ≤ ((x0_1.length : Int) : Int) := of_decide_eq_true (by first | (with_reducible assumption) | assumption); obtain ⟨i031, hi031, _, hsz31, _⟩ := info_parts info58; have hroom31 : x0_1.length ≤ co28 := (Kd.V_reads' HO_0.out).2.1; have hC31 : Kd.F k58 _ _ (some ad145) x0_1.length x0_1 := (Kd.V_at (base := w.heap.size) HO_0.out).2.2; have hcut31 := cut_from (P := Try.prog) 29 58 .i64 Try.underlying29 hi031 2 hsz31 (some ad145) x0_1.length co28 1 (by omega) q31; have hr31 := Kd.F_cut (m := (1 : Int).toNat) (c := co28) hC31 (by omega) hroom31; obtain ⟨A31, hA31⟩ : ∃ A1, A1 = (if co28 = (1 : Int).toNat then (some ad145) else ((some ad145) : Option Addr).map (·.add ((1 : Int).toNat * 2))) := ⟨_, rfl⟩; obtain ⟨c31, hc31⟩ : ∃ c1, c1 = co28 - (1 : Int).toNat := ⟨_, rfl⟩; have hy31 : y155.length = x0_1.length - (1 : Int).toNat := (by rw [Ny155.out, List.length_drop] <;> omega); rw [show (x0_1).drop (1 : Int).toNat = y155 from Ny155.out.symm] at hr31; replace hr31 : Kd.F k58 _ _ A31 y155.length y155 := (by rw [hA31]; exact hr31); rw [← hy31, ← hA31, ← hc31] at hcut31; have HO159 := Aside0.mk (show Kd.V k58 58 _ w.heap.size _ (.slice A31 y155.length c31) y155 from Kd.V_mk (by rw [hy31, hc31]; exact Nat.sub_le_sub_right hroom31 _) hr31); have HC159 := Aside0.mk (show y155.length ≤ c31 from by rw [hy31, hc31]; exact Nat.sub_le_sub_right hroom31 _); clear hr31 hC31 hroom31 hi031 hsz31 hc31; have KY31 := Aside0.mk hy31; have KA31 := Aside0.mk hA31; clear hy31 hA31; replace q31 := eq_true q31)); try go_wp2_with (first | ((with_reducible refine gate_builtin (b := .append) (xs := #[.tmp 49, .tmp 53]) rfl ?_); (try (refine gate_guard (by rfl) ?_; dsimp only)); at_builtin; refine Kd.R_append k58 (w0 := w) w.heap.size rfl (.tmp 49) (.tmp 53) 29 58 (.agg #[(.int .i64 0), (.string ⟨#[]⟩)]) 24 rfl Try.underlying29 info58 rfl (by decide) (by omega) u5 x5_1 (⟨(rd_T58 x0_1 0).f0, (rd_T58 x0_1 0).f1⟩ : S58) [.int .i64 ((rd_T58 x0_1 0).f0), .string ((rd_T58 x0_1 0).f1)] (fun k_ => (w.heap.size ≤ k_)) (fun _ => False) rfl rfl ?aP (fun _ hk => hk.elim) ?aF ?aO ?aB ?aS ?aL ?_; (case aP => exact k58_mkM _ _ _ (⟨(rd_T58 x0_1 0).f0, (rd_T58 x0_1 0).f1⟩ : S58)); (case aB => exact (by repeat (first | (with_reducible first | exact HB.out | apply below_alloc | apply pw_below_drewN | apply below_drew1) | exact HB.out))); (case aF => exact (fun k_ hk => (Nat.le_trans (below_size (by repeat (first | (with_reducible first | exact HB.out | apply below_alloc | apply pw_below_drewN | apply below_drew1) | exact HB.out))) hk))); (case aO => exact (by (with_reducible repeat (first | apply Kd.R_alloc | apply Kd.R_drewN | apply Kd.R_drew)); exact HO_5.out)); (case aS => exact (below_size (by repeat (first | (with_reducible first | exact HB.out | apply below_alloc | apply pw_below_drewN | apply below_drew1) | exact HB.out)))); (case aL => have := LMc25.out; omega); intro v153 w30 ho hb hg hat; rw [← Ny152.out] at ho; have n0_ := Aside0.mk (Kd.V_afterv (ok := (fun k_ => ((P0_ k_ ∨ P1_ k_) ∨ w.heap.size ≤ k_))) (by (with_reducible repeat (first | apply Kd.V_alloc | apply Kd.V_drewN | apply Kd.V_drew)); exact HO_0.out) hg hat); have n1_ := Aside0.mk (Kd.V_afterv (ok := (fun k_ => ((P0_ k_ ∨ P1_ k_) ∨ w.heap.size ≤ k_))) (by (with_reducible repeat (first | apply Kd.V_alloc | apply Kd.V_drewN | apply Kd.V_drew)); exact HO_1.out) hg hat); have n2_ := Aside0.mk (Kd.V_afterv (ok := (fun k_ => ((P0_ k_ ∨ P1_ k_) ∨ w.heap.size ≤ k_))) (by (with_reducible repeat (first | apply Kd.V_alloc | apply Kd.V_drewN | apply Kd.V_drew)); exact HO150.out) hg hat); have n3_ := Aside0.mk (hb); have n4_ := Aside0.mk (ho); clear HO_0; clear HO_1; clear HO150; clear HB; clear HO_5; have HO_0 := n0_; have HO_1 := n1_; have HO150 := n2_; have HB := n3_; have HO154 := n4_; clear n0_ n1_ n2_ n3_ n4_; clear ho hb hg hat; have q31 : (1 : Int) ≤ ((x0_1.length : Int) : Int) := of_decide_eq_true (by first | (with_reducible assumption) | assumption); obtain ⟨i031, hi031, _, hsz31, _⟩ := info_parts info58; have hroom31 : x0_1.length ≤ co28 := (Kd.V_reads' HO_0.out).2.1; have hC31 : Kd.F k58 _ _ (some ad145) x0_1.length x0_1 := (Kd.V_at (base := w.heap.size) HO_0.out).2.2; have hcut31 := cut_from (P := Try.prog) 29 58 .i64 Try.underlying29 hi031 2 hsz31 (some ad145) x0_1.length co28 1 (by omega) q31; have hr31 := Kd.F_cut (m := (1 : Int).toNat) (c := co28) hC31 (by omega) hroom31; obtain ⟨A31, hA31⟩ : ∃ A1, A1 = (if co28 = (1 : Int).toNat then (some ad145) else ((some ad145) : Option Addr).map (·.add ((1 : Int).toNat * 2))) := ⟨_, rfl⟩; obtain ⟨c31, hc31⟩ : ∃ c1, c1 = co28 - (1 : Int).toNat := ⟨_, rfl⟩; have hy31 : y155.length = x0_1.length - (1 : Int).toNat := (by rw [Ny155.out, List.length_drop] <;> omega); rw [show (x0_1).drop (1 : Int).toNat = y155 from Ny155.out.symm] at hr31; replace hr31 : Kd.F k58 _ _ A31 y155.length y155 := (by rw [hA31]; exact hr31); rw [← hy31, ← hA31, ← hc31] at hcut31; have HO159 := Aside0.mk (show Kd.V k58 58 _ w.heap.size _ (.slice A31 y155.length c31) y155 from Kd.V_mk (by rw [hy31, hc31]; exact Nat.sub_le_sub_right hroom31 _) hr31); have HC159 := Aside0.mk (show y155.length ≤ c31 from by rw [hy31, hc31]; exact Nat.sub_le_sub_right hroom31 _); clear hr31 hC31 hroom31 hi031 hsz31 hc31; have KY31 := Aside0.mk hy31; have KA31 := Aside0.mk hA31; clear hy31 hA31; replace q31 := eq_true q31)))
                                go_roundg kj8
                                case measure => have := HK1.out; have := HJ2.out; have := HJ8.out; omega
                                case rel => exact ⟨(y155), (y146), (y152), H', ⟨by have := HK1.out; have := HJ2.out; have := HJ8.out; omega⟩, ⟨by (with_reducible repeat (first | apply Kd.V_alloc | apply Kd.V_drewN | apply Kd.V_drew)); exact HO159.out⟩, ⟨by (with_reducible repeat (first | apply Kd.V_alloc | apply Kd.V_drewN | apply Kd.V_drew)); exact HO150.out⟩, ⟨by (with_reducible repeat (first | apply Kd.R_alloc | apply Kd.R_drewN | apply Kd.R_drew)); exact HO154.out⟩, ⟨by repeat (first | (with_reducible first | exact HB.out | apply below_alloc | apply pw_below_drewN | apply below_drew1) | exact HB.out)⟩⟩
                              · rw [if_neg c26] at H
                                exact absurd H (by simp)
                            · rw [if_neg c25] at H
                              exact absurd H (by simp)
                          · rw [if_neg c24] at H
                            exact absurd H (by simp)
                        · rw [if_neg c23] at H
                          have c23b0 : (((rd_T58 x1_1 0).f0) == ((rd_T58 x0_1 0).f0)) = false := beq_eq_false_iff_ne.mpr c23
                          have c23b1 : (((rd_T58 x1_1 0).f0) != ((rd_T58 x0_1 0).f0)) = true := bne_iff_ne.mpr c23
                          by_cases c32 : x5_1.length < 5864062014805
                          · rw [if_pos c32] at H
                            have LMc32 := Aside0.mk c32
                            clear c32
                            obtain ⟨y161, hy161⟩ : ∃ y_ : List (S58), y_ = (x5_1 ++ [(⟨(rd_T58 x0_1 0).f0, (rd_T58 x0_1 0).f1⟩ : S58)]) := ⟨_, rfl⟩
                            replace H : (if 1 ≤ (x0_1.length : Int) then (sackbutref23_Merge.l0 kj8 (x0_1.drop 1) x1_1 y161) else (none)) = some r := by first | (rw [hy161]; with_reducible exact H) | (have H2_ := (Option.bind_some _ _).symm.trans H; rw [hy161]; with_reducible exact H2_) | (have H2_ := (Option.bind_some _ _).symm.trans H; with_reducible exact H2_) | with_reducible exact H | (rw [hy161]; exact H) | exact H
                            have Ny161 := Aside0.mk hy161
                            clear hy161
                            by_cases c33 : 1 ≤ (x0_1.length : Int)
                            · rw [if_pos c33] at H
                              have c33b0 := eq_true c33
                              have c33b1 : decide (1 ≤ (x0_1.length : Int)) = true := decide_eq_true c33
                              clear c33
                              obtain ⟨y164, hy164⟩ : ∃ y_ : List (S58), y_ = (x0_1.drop 1) := ⟨_, rfl⟩
                              replace H : (sackbutref23_Merge.l0 kj8 y164 x1_1 y161) = some r := by first | (rw [hy164]; with_reducible exact H) | (have H2_ := (Option.bind_some _ _).symm.trans H; rw [hy164]; with_reducible exact H2_) | (have H2_ := (Option.bind_some _ _).symm.trans H; with_reducible exact H2_) | with_reducible exact H | (rw [hy164]; exact H) | exact H
                              have Ny164 := Aside0.mk hy164
                              clear hy164
                              have H' := Aside0.mk H
                              clear H
                              obtain ⟨Ao34, co34, eo34⟩ := Kd.V_slice HO_1.out
                              subst eo34
                              have p144 : 0 ≤ (0 : Int) := (by omega)
                              have q144 : 0 < (x1_1.length : Int) := of_decide_eq_true (by first | (with_reducible assumption) | assumption)
                              obtain ⟨ad144, e144, hx144_0, hx144_1⟩ := at_T58 (Kd.V_reads' HO_1.out).2.2 0 p144 q144
                              cases e144
                              have qi144 : (0 < x1_1.length) = True := eq_true (by omega)
                              (try rw [show ((0 : Int)).toNat = 0 from rfl] at hx144_0)
                              (try rw [show 0 * 2 = 0 from rfl] at hx144_0)
                              (try rw [Addr.add_zero'] at hx144_0)
                              (try rw [show ((0 : Int)).toNat = 0 from rfl] at hx144_1)
                              (try rw [show 0 * 2 = 0 from rfl] at hx144_1)
                              (try rw [Addr.add_zero'] at hx144_1)
                              replace p144 := eq_true p144
                              replace q144 := eq_true q144
                              obtain ⟨Ao35, co35, eo35⟩ := Kd.V_slice HO_0.out
                              subst eo35
                              have p145 : 0 ≤ (0 : Int) := (by omega)
                              have q145 : 0 < (x0_1.length : Int) := of_decide_eq_true (by first | (with_reducible assumption) | assumption)
                              obtain ⟨ad145, e145, hx145_0, hx145_1⟩ := at_T58 (Kd.V_reads' HO_0.out).2.2 0 p145 q145
                              cases e145
                              have qi145 : (0 < x0_1.length) = True := eq_true (by omega)
                              (try rw [show ((0 : Int)).toNat = 0 from rfl] at hx145_0)
                              (try rw [show 0 * 2 = 0 from rfl] at hx145_0)
                              (try rw [Addr.add_zero'] at hx145_0)
                              (try rw [show ((0 : Int)).toNat = 0 from rfl] at hx145_1)
                              (try rw [show 0 * 2 = 0 from rfl] at hx145_1)
                              (try rw [Addr.add_zero'] at hx145_1)
                              replace p145 := eq_true p145
                              replace q145 := eq_true q145
                              have p160 : 0 ≤ (0 : Int) := (by omega)
                              have q160 : 0 < (x0_1.length : Int) := of_decide_eq_true (by first | (with_reducible assumption) | assumption)
                              obtain ⟨ad160, e160, hx160_0, hx160_1⟩ := at_T58 (Kd.V_reads' HO_0.out).2.2 0 p160 q160
                              obtain rfl : ad145 = ad160 := (by injection e160)
                              have qi160 : (0 < x0_1.length) = True := eq_true (by omega)
                              (try rw [show ((0 : Int)).toNat = 0 from rfl] at hx160_0)
                              (try rw [show 0 * 2 = 0 from rfl] at hx160_0)
                              (try rw [Addr.add_zero'] at hx160_0)
                              (try rw [show ((0 : Int)).toNat = 0 from rfl] at hx160_1)
                              (try rw [show 0 * 2 = 0 from rfl] at hx160_1)
                              (try rw [Addr.add_zero'] at hx160_1)
                              replace p160 := eq_true p160
                              replace q160 := eq_true q160
                              go_wp2_with (first | ((with_reducible refine gate_builtin (b := .append) (xs := #[.tmp 49, .tmp 53]) rfl ?_); (try (refine gate_guard (by rfl) ?_; dsimp only)); at_builtin; refine Kd.R_append k58 (w0 := w) w.heap.size rfl (.tmp 49) (.tmp 53) 29 58 (.agg #[(.int .i64 0), (.string ⟨#[]⟩)]) 24 rfl Try.underlying29 info58 rfl (by decide) (by omega) u5 x5_1 (⟨(rd_T58 x0_1 0).f0, (rd_T58 x0_1 0).f1⟩ : S58) [.int .i64 ((rd_T58 x0_1 0).f0), .string ((rd_T58 x0_1 0).f1)] (fun k_ => (w.heap.size ≤ k_)) (fun _ => False) rfl rfl ?aP (fun _ hk => hk.elim) ?aF ?aO ?aB ?aS ?aL ?_; (case aP => exact k58_mkM _ _ _ (⟨(rd_T58 x0_1 0).f0, (rd_T58 x0_1 0).f1⟩ : S58)); (case aB => exact (by repeat (first | (with_reducible first | exact HB.out | apply below_alloc | apply pw_below_drewN | apply below_drew1) | exact HB.out))); (case aF => exact (fun k_ hk => (Nat.le_trans (below_size (by repeat (first | (with_reducible first | exact HB.out | apply below_alloc | apply pw_below_drewN | apply below_drew1) | exact HB.out))) hk))); (case aO => exact (by (with_reducible repeat (first | apply Kd.R_alloc | apply Kd.R_drewN | apply Kd.R_drew)); exact HO_5.out)); (case aS => exact (below_size (by repeat (first | (with_reducible first | exact HB.out | apply below_alloc | apply pw_below_drewN | apply below_drew1) | exact HB.out)))); (case aL => have := LMc32.out; omega); intro v162 w36 ho hb hg hat; rw [← Ny161.out] at ho; have n0_ := Aside0.mk (Kd.V_afterv (ok := (fun k_ => ((P0_ k_ ∨ P1_ k_) ∨ w.heap.size ≤ k_))) (by (with_reducible repeat (first | apply Kd.V_alloc | apply Kd.V_drewN | apply Kd.V_drew)); exact HO_0.out) hg hat); have n1_ := Aside0.mk (Kd.V_afterv (ok := (fun k_ => ((P0_ k_ ∨ P1_ k_) ∨ w.heap.size ≤ k_))) (by (with_reducible repeat (first | apply Kd.V_alloc | apply Kd.V_drewN | apply Kd.V_drew)); exact HO_1.out) hg hat); have n2_ := Aside0.mk (hb); have n3_ := Aside0.mk (ho); clear HO_0; clear HO_1; clear HB; clear HO_5; have HO_0 := n0_; have HO_1 := n1_; have HB := n2_; have HO163 := n3_; clear n0_ n1_ n2_ n3_; clear ho hb hg hat; have q37 : (1 : Int) ≤ ((x0_1.length : Int) : Int) := of_decide_eq_true (by first | (with_reducible assumption) | assumption); obtain ⟨i037, hi037, _, hsz37, _⟩ := info_parts info58; have hroom37 : x0_1.length ≤ co35 := (Kd.V_reads' HO_0.out).2.1; have hC37 : Kd.F k58 _ _ (some ad145) x0_1.length x0_1 := (Kd.V_at (base := w.heap.size) HO_0.out).2.2; have hcut37 := cut_from (P := Try.prog) 29 58 .i64 Try.underlying29 hi037 2 hsz37 (some ad145) x0_1.length co35 1 (by omega) q37; have hr37 := Kd.F_cut (m := (1 : Int).toNat) (c := co35) hC37 (by omega) hroom37; obtain ⟨A37, hA37⟩ : ∃ A1, A1 = (if co35 = (1 : Int).toNat then (some ad145) else ((some ad145) : Option Addr).map (·.add ((1 : Int).toNat * 2))) := ⟨_, rfl⟩; obtain ⟨c37, hc37⟩ : ∃ c1, c1 = co35 - (1 : Int).toNat := ⟨_, rfl⟩; have hy37 : y164.length = x0_1.length - (1 : Int).toNat := (by rw [Ny164.out, List.length_drop] <;> omega); rw [show (x0_1).drop (1 : Int).toNat = y164 from Ny164.out.symm] at hr37; replace hr37 : Kd.F k58 _ _ A37 y164.length y164 := (by rw [hA37]; exact hr37); rw [← hy37, ← hA37, ← hc37] at hcut37; have HO168 := Aside0.mk (show Kd.V k58 58 _ w.heap.size _ (.slice A37 y164.length c37) y164 from Kd.V_mk (by rw [hy37, hc37]; exact Nat.sub_le_sub_right hroom37 _) hr37); have HC168 := Aside0.mk (show y164.length ≤ c37 from by rw [hy37, hc37]; exact Nat.sub_le_sub_right hroom37 _); clear hr37 hC37 hroom37 hi037 hsz37 hc37; have KY37 := Aside0.mk hy37; have KA37 := Aside0.mk hA37; clear hy37 hA37; replace q37 := eq_true q37))
                              repeat (go_quiet (first | ((with_reducible refine gate_builtin (b := .append) (xs := #[.tmp 49, .tmp 53]) rfl ?_); (try (refine gate_guard (by rfl) ?_; dsimp only)); at_builtin; refine Kd.R_append k58 (w0 := w) w.heap.size rfl (.tmp 49) (.tmp 53) 29 58 (.agg #[(.int .i64 0), (.string ⟨#[]⟩)]) 24 rfl Try.underlying29 info58 rfl (by decide) (by omega) u5 x5_1 (⟨(rd_T58 x0_1 0).f0, (rd_T58 x0_1 0).f1⟩ : S58) [.int .i64 ((rd_T58 x0_1 0).f0), .string ((rd_T58 x0_1 0).f1)] (fun k_ => (w.heap.size ≤ k_)) (fun _ => False) rfl rfl ?aP (fun _ hk => hk.elim) ?aF ?aO ?aB ?aS ?aL ?_; (case aP => exact k58_mkM _ _ _ (⟨(rd_T58 x0_1 0).f0, (rd_T58 x0_1 0).f1⟩ : S58)); (case aB => exact (by repeat (first | (with_reducible first | exact HB.out | apply below_alloc | apply pw_below_drewN | apply below_drew1) | exact HB.out))); (case aF => exact (fun k_ hk => (Nat.le_trans (below_size (by repeat (first | (with_reducible first | exact HB.out | apply below_alloc | apply pw_below_drewN | apply below_drew1) | exact HB.out))) hk))); (case aO => exact (by (with_reducible repeat (first | apply Kd.R_alloc | apply Kd.R_drewN | apply Kd.R_drew)); exact HO_5.out)); (case aS => exact (below_size (by repeat (first | (with_reducible first | exact HB.out | apply below_alloc | apply pw_below_drewN | apply below_drew1) | exact HB.out)))); (case aL => have := LMc32.out; omega); intro v162 w36 ho hb hg hat; rw [← Ny161.out] at ho; have n0_ := Aside0.mk (Kd.V_afterv (ok := (fun k_ => ((P0_ k_ ∨ P1_ k_) ∨ w.heap.size ≤ k_))) (by (with_reducible repeat (first | apply Kd.V_alloc | apply Kd.V_drewN | apply Kd.V_drew)); exact HO_0.out) hg hat); have n1_ := Aside0.mk (Kd.V_afterv (ok := (fun k_ => ((P0_ k_ ∨ P1_ k_) ∨ w.heap.size ≤ k_))) (by (with_reducible repeat (first | apply Kd.V_alloc | apply Kd.V_drewN | apply Kd.V_drew)); exact HO_1.out) hg hat); have n2_ := Aside0.mk (hb); have n3_ := Aside0.mk (ho); clear HO_0; clear HO_1; clear HB; clear HO_5; have HO_0 := n0_; have HO_1 := n1_; have HB := n2_; have HO163 := n3_; clear n0_ n1_ n2_ n3_; clear ho hb hg hat; have q37 : (1 : Int) ≤ ((x0_1.length : Int) : Int) := of_decide_eq_true (by first | (with_reducible assumption) | assumption); obtain ⟨i037, hi037, _, hsz37, _⟩ := info_parts info58; have hroom37 : x0_1.length ≤ co35 := (Kd.V_reads' HO_0.out).2.1; have hC37 : Kd.F k58 _ _ (some ad145) x0_1.length x0_1 := (Kd.V_at (base := w.heap.size) HO_0.out).2.2; have hcut37 := cut_from (P := Try.prog) 29 58 .i64 Try.underlying29 hi037 2 hsz37 (some ad145) x0_1.length co35 1 (by omega) q37; have hr37 := Kd.F_cut (m := (1 : Int).toNat) (c := co35) hC37 (by omega) hroom37; obtain ⟨A37, hA37⟩ : ∃ A1, A1 = (if co35 = (1 : Int).toNat then (some ad145) else ((some ad145) : Option Addr).map (·.add ((1 : Int).toNat * 2))) := ⟨_, rfl⟩; obtain ⟨c37, hc37⟩ : ∃ c1, c1 = co35 - (1 : Int).toNat := ⟨_, rfl⟩; have hy37 : y164.length = x0_1.length - (1 : Int).toNat := (by rw [Ny164.out, List.length_drop] <;> omega); rw [show (x0_1).drop (1 : Int).toNat = y164 from Ny164.out.symm] at hr37; replace hr37 : Kd.F k58 _ _ A37 y164.length y164 := (by rw [hA37]; exact hr37); rw [← hy37, ← hA37, ← hc37] at hcut37; have HO168 := Aside0.mk (show Kd.V k58 58 _ w.heap.size _ (.slice A37 y164.length c37) y164 from Kd.V_mk (by rw [hy37, hc37]; exact Nat.sub_le_sub_right hroom37 _) hr37); have HC168 := Aside0.mk (show y164.length ≤ c37 from by rw [hy37, hc37]; exact Nat.sub_le_sub_right hroom37 _); clear hr37 hC37 hroom37 hi037 hsz37 hc37; have KY37 := Aside0.mk hy37; have KA37 := Aside0.mk hA37; clear hy37 hA37; replace q37 := eq_true q37)); try go_wp2_with (first | ((with_reducible refine gate_builtin (b := .append) (xs := #[.tmp 49, .tmp 53]) rfl ?_); (try (refine gate_guard (by rfl) ?_; dsimp only)); at_builtin; refine Kd.R_append k58 (w0 := w) w.heap.size rfl (.tmp 49) (.tmp 53) 29 58 (.agg #[(.int .i64 0), (.string ⟨#[]⟩)]) 24 rfl Try.underlying29 info58 rfl (by decide) (by omega) u5 x5_1 (⟨(rd_T58 x0_1 0).f0, (rd_T58 x0_1 0).f1⟩ : S58) [.int .i64 ((rd_T58 x0_1 0).f0), .string ((rd_T58 x0_1 0).f1)] (fun k_ => (w.heap.size ≤ k_)) (fun _ => False) rfl rfl ?aP (fun _ hk => hk.elim) ?aF ?aO ?aB ?aS ?aL ?_; (case aP => exact k58_mkM _ _ _ (⟨(rd_T58 x0_1 0).f0, (rd_T58 x0_1 0).f1⟩ : S58)); (case aB => exact (by repeat (first | (with_reducible first | exact HB.out | apply below_alloc | apply pw_below_drewN | apply below_drew1) | exact HB.out))); (case aF => exact (fun k_ hk => (Nat.le_trans (below_size (by repeat (first | (with_reducible first | exact HB.out | apply below_alloc | apply pw_below_drewN | apply below_drew1) | exact HB.out))) hk))); (case aO => exact (by (with_reducible repeat (first | apply Kd.R_alloc | apply Kd.R_drewN | apply Kd.R_drew)); exact HO_5.out)); (case aS => exact (below_size (by repeat (first | (with_reducible first | exact HB.out | apply below_alloc | apply pw_below_drewN | apply below_drew1) | exact HB.out)))); (case aL => have := LMc32.out; omega); intro v162 w36 ho hb hg hat; rw [← Ny161.out] at ho; have n0_ := Aside0.mk (Kd.V_afterv (ok := (fun k_ => ((P0_ k_ ∨ P1_ k_) ∨ w.heap.size ≤ k_))) (by (with_reducible repeat (first | apply Kd.V_alloc | apply Kd.V_drewN | apply Kd.V_drew)); exact HO_0.out) hg hat); have n1_ := Aside0.mk (Kd.V_afterv (ok := (fun k_ => ((P0_ k_ ∨ P1_ k_) ∨ w.heap.size ≤ k_))) (by (with_reducible repeat (first | apply Kd.V_alloc | apply Kd.V_drewN | apply Kd.V_drew)); exact HO_1.out) hg hat); have n2_ := Aside0.mk (hb); have n3_ := Aside0.mk (ho); clear HO_0; clear HO_1; clear HB; clear HO_5; have HO_0 := n0_; have HO_1 := n1_; have HB := n2_; have HO163 := n3_; clear n0_ n1_ n2_ n3_; clear ho hb hg hat; have q37 : (1 : Int) ≤ ((x0_1.length : Int) : Int) := of_decide_eq_true (by first | (with_reducible assumption) | assumption); obtain ⟨i037, hi037, _, hsz37, _⟩ := info_parts info58; have hroom37 : x0_1.length ≤ co35 := (Kd.V_reads' HO_0.out).2.1; have hC37 : Kd.F k58 _ _ (some ad145) x0_1.length x0_1 := (Kd.V_at (base := w.heap.size) HO_0.out).2.2; have hcut37 := cut_from (P := Try.prog) 29 58 .i64 Try.underlying29 hi037 2 hsz37 (some ad145) x0_1.length co35 1 (by omega) q37; have hr37 := Kd.F_cut (m := (1 : Int).toNat) (c := co35) hC37 (by omega) hroom37; obtain ⟨A37, hA37⟩ : ∃ A1, A1 = (if co35 = (1 : Int).toNat then (some ad145) else ((some ad145) : Option Addr).map (·.add ((1 : Int).toNat * 2))) := ⟨_, rfl⟩; obtain ⟨c37, hc37⟩ : ∃ c1, c1 = co35 - (1 : Int).toNat := ⟨_, rfl⟩; have hy37 : y164.length = x0_1.length - (1 : Int).toNat := (by rw [Ny164.out, List.length_drop] <;> omega); rw [show (x0_1).drop (1 : Int).toNat = y164 from Ny164.out.symm] at hr37; replace hr37 : Kd.F k58 _ _ A37 y164.length y164 := (by rw [hA37]; exact hr37); rw [← hy37, ← hA37, ← hc37] at hcut37; have HO168 := Aside0.mk (show Kd.V k58 58 _ w.heap.size _ (.slice A37 y164.length c37) y164 from Kd.V_mk (by rw [hy37, hc37]; exact Nat.sub_le_sub_right hroom37 _) hr37); have HC168 := Aside0.mk (show y164.length ≤ c37 from by rw [hy37, hc37]; exact Nat.sub_le_sub_right hroom37 _); clear hr37 hC37 hroom37 hi037 hsz37 hc37; have KY37 := Aside0.mk hy37; have KA37 := Aside0.mk hA37; clear hy37 hA37; replace q37 := eq_true q37)))
                              go_roundg kj8
                              case measure => have := HK1.out; have := HJ2.out; have := HJ8.out; omega
                              case rel => exact ⟨(y164), (x1_1), (y161), H', ⟨by have := HK1.out; have := HJ2.out; have := HJ8.out; omega⟩, ⟨by (with_reducible repeat (first | apply Kd.V_alloc | apply Kd.V_drewN | apply Kd.V_drew)); exact HO168.out⟩, ⟨by (with_reducible repeat (first | apply Kd.V_alloc | apply Kd.V_drewN | apply Kd.V_drew)); exact HO_1.out⟩, ⟨by (with_reducible repeat (first | apply Kd.R_alloc | apply Kd.R_drewN | apply Kd.R_drew)); exact HO163.out⟩, ⟨by repeat (first | (with_reducible first | exact HB.out | apply below_alloc | apply pw_below_drewN | apply below_drew1) | exact HB.out)⟩⟩
                            · rw [if_neg c33] at H
                              exact absurd H (by simp)
                          · rw [if_neg c32] at H
                            exact absurd H (by simp)
                      · rw [if_neg c22] at H
                        exact absurd H (by simp)
                    · rw [if_neg c21] at H
                      exact absurd H (by simp)
                  · rw [if_neg c20] at H
                    have c20b0 : decide (0 < (x1_1.length : Int)) = false := decide_eq_false c20
                    have c20b1 : decide (0 < x1_1.length) = false := decide_eq_false (by omega)
                    clear c20
                    by_cases c38 : 0 < (x0_1.length : Int)
                    · rw [if_pos c38] at H
                      have c38b0 : decide (0 < (x0_1.length : Int)) = true := decide_eq_true c38
                      have c38b1 : decide (0 < x0_1.length) = true := decide_eq_true (by omega)
                      clear c38
                      by_cases c39 : x5_1.length < 5864062014805
                      · rw [if_pos c39] at H
                        have LMc39 := Aside0.mk c39
                        clear c39
                        obtain ⟨y170, hy170⟩ : ∃ y_ : List (S58), y_ = (x5_1 ++ [(⟨(rd_T58 x0_1 0).f0, (rd_T58 x0_1 0).f1⟩ : S58)]) := ⟨_, rfl⟩
                        replace H : (if 1 ≤ (x0_1.length : Int) then (sackbutref23_Merge.l0 kj8 (x0_1.drop 1) x1_1 y170) else (none)) = some r := by first | (rw [hy170]; with_reducible exact H) | (have H2_ := (Option.bind_some _ _).symm.trans H; rw [hy170]; with_reducible exact H2_) | (have H2_ := (Option.bind_some _ _).symm.trans H; with_reducible exact H2_) | with_reducible exact H | (rw [hy170]; exact H) | exact H
                        have Ny170 := Aside0.mk hy170
                        clear hy170
                        by_cases c40 : 1 ≤ (x0_1.length : Int)
                        · rw [if_pos c40] at H
                          have c40b0 := eq_true c40
                          have c40b1 : decide (1 ≤ (x0_1.length : Int)) = true := decide_eq_true c40
                          clear c40
                          obtain ⟨y173, hy173⟩ : ∃ y_ : List (S58), y_ = (x0_1.drop 1) := ⟨_, rfl⟩
                          replace H : (sackbutref23_Merge.l0 kj8 y173 x1_1 y170) = some r := by first | (rw [hy173]; with_reducible exact H) | (have H2_ := (Option.bind_some _ _).symm.trans H; rw [hy173]; with_reducible exact H2_) | (have H2_ := (Option.bind_some _ _).symm.trans H; with_reducible exact H2_) | with_reducible exact H | (rw [hy173]; exact H) | exact H
                          have Ny173 := Aside0.mk hy173
                          clear hy173
                          have H' := Aside0.mk H
                          clear H
                          obtain ⟨Ao41, co41, eo41⟩ := Kd.V_slice HO_1.out
                          subst eo41
                          obtain ⟨Ao42, co42, eo42⟩ := Kd.V_slice HO_0.out
                          subst eo42
                          have p169 : 0 ≤ (0 : Int) := (by omega)
                          have q169 : 0 < (x0_1.length : Int) := of_decide_eq_true (by first | (with_reducible assumption) | assumption)
                          obtain ⟨ad169, e169, hx169_0, hx169_1⟩ := at_T58 (Kd.V_reads' HO_0.out).2.2 0 p169 q169
                          cases e169
                          have qi169 : (0 < x0_1.length) = True := eq_true (by omega)
                          (try rw [show ((0 : Int)).toNat = 0 from rfl] at hx169_0)
                          (try rw [show 0 * 2 = 0 from rfl] at hx169_0)
                          (try rw [Addr.add_zero'] at hx169_0)
                          (try rw [show ((0 : Int)).toNat = 0 from rfl] at hx169_1)
                          (try rw [show 0 * 2 = 0 from rfl] at hx169_1)
                          (try rw [Addr.add_zero'] at hx169_1)
                          replace p169 := eq_true p169
                          replace q169 := eq_true q169
                          go_wp2_with (first | ((with_reducible refine gate_builtin (b := .append) (xs := #[.tmp 49, .tmp 53]) rfl ?_); (try (refine gate_guard (by rfl) ?_; dsimp only)); at_builtin; refine Kd.R_append k58 (w0 := w) w.heap.size rfl (.tmp 49) (.tmp 53) 29 58 (.agg #[(.int .i64 0), (.string ⟨#[]⟩)]) 24 rfl Try.underlying29 info58 rfl (by decide) (by omega) u5 x5_1 (⟨(rd_T58 x0_1 0).f0, (rd_T58 x0_1 0).f1⟩ : S58) [.int .i64 ((rd_T58 x0_1 0).f0), .string ((rd_T58 x0_1 0).f1)] (fun k_ => (w.heap.size ≤ k_)) (fun _ => False) rfl rfl ?aP (fun _ hk => hk.elim) ?aF ?aO ?aB ?aS ?aL ?_; (case aP => exact k58_mkM _ _ _ (⟨(rd_T58 x0_1 0).f0, (rd_T58 x0_1 0).f1⟩ : S58)); (case aB => exact (by repeat (first | (with_reducible first | exact HB.out | apply below_alloc | apply pw_below_drewN | apply below_drew1) | exact HB.out))); (case aF => exact (fun k_ hk => (Nat.le_trans (below_size (by repeat (first | (with_reducible first | exact HB.out | apply below_alloc | apply pw_below_drewN | apply below_drew1) | exact HB.out))) hk))); (case aO => exact (by (with_reducible repeat (first | apply Kd.R_alloc | apply Kd.R_drewN | apply Kd.R_drew)); exact HO_5.out)); (case aS => exact (below_size (by repeat (first | (with_reducible first | exact HB.out | apply below_alloc | apply pw_below_drewN | apply below_drew1) | exact HB.out)))); (case aL => have := LMc39.out; omega); intro v171 w43 ho hb hg hat; rw [← Ny170.out] at ho; have n0_ := Aside0.mk (Kd.V_afterv (ok := (fun k_ => ((P0_ k_ ∨ P1_ k_) ∨ w.heap.size ≤ k_))) (by (with_reducible repeat (first | apply Kd.V_alloc | apply Kd.V_drewN | apply Kd.V_drew)); exact HO_0.out) hg hat); have n1_ := Aside0.mk (Kd.V_afterv (ok := (fun k_ => ((P0_ k_ ∨ P1_ k_) ∨ w.heap.size ≤ k_))) (by (with_reducible repeat (first | apply Kd.V_alloc | apply Kd.V_drewN | apply Kd.V_drew)); exact HO_1.out) hg hat); have n2_ := Aside0.mk (hb); have n3_ := Aside0.mk (ho); clear HO_0; clear HO_1; clear HB; clear HO_5; have HO_0 := n0_; have HO_1 := n1_; have HB := n2_; have HO172 := n3_; clear n0_ n1_ n2_ n3_; clear ho hb hg hat; have q44 : (1 : Int) ≤ ((x0_1.length : Int) : Int) := of_decide_eq_true (by first | (with_reducible assumption) | assumption); obtain ⟨i044, hi044, _, hsz44, _⟩ := info_parts info58; have hroom44 : x0_1.length ≤ co42 := (Kd.V_reads' HO_0.out).2.1; have hC44 : Kd.F k58 _ _ (some ad169) x0_1.length x0_1 := (Kd.V_at (base := w.heap.size) HO_0.out).2.2; have hcut44 := cut_from (P := Try.prog) 29 58 .i64 Try.underlying29 hi044 2 hsz44 (some ad169) x0_1.length co42 1 (by omega) q44; have hr44 := Kd.F_cut (m := (1 : Int).toNat) (c := co42) hC44 (by omega) hroom44; obtain ⟨A44, hA44⟩ : ∃ A1, A1 = (if co42 = (1 : Int).toNat then (some ad169) else ((some ad169) : Option Addr).map (·.add ((1 : Int).toNat * 2))) := ⟨_, rfl⟩; obtain ⟨c44, hc44⟩ : ∃ c1, c1 = co42 - (1 : Int).toNat := ⟨_, rfl⟩; have hy44 : y173.length = x0_1.length - (1 : Int).toNat := (by rw [Ny173.out, List.length_drop] <;> omega); rw [show (x0_1).drop (1 : Int).toNat = y173 from Ny173.out.symm] at hr44; replace hr44 : Kd.F k58 _ _ A44 y173.length y173 := (by rw [hA44]; exact hr44); rw [← hy44, ← hA44, ← hc44] at hcut44; have HO177 := Aside0.mk (show Kd.V k58 58 _ w.heap.size _ (.slice A44 y173.length c44) y173 from Kd.V_mk (by rw [hy44, hc44]; exact Nat.sub_le_sub_right hroom44 _) hr44); have HC177 := Aside0.mk (show y173.length ≤ c44 from by rw [hy44, hc44]; exact Nat.sub_le_sub_right hroom44 _); clear hr44 hC44 hroom44 hi044 hsz44 hc44; have KY44 := Aside0.mk hy44; have KA44 := Aside0.mk hA44; clear hy44 hA44; replace q44 := eq_true q44))
                          repeat (go_quiet (first | ((with_reducible refine gate_builtin (b := .append) (xs := #[.tmp 49, .tmp 53]) rfl ?_); (try (refine gate_guard (by rfl) ?_; dsimp only)); at_builtin; refine Kd.R_append k58 (w0 := w) w.heap.size rfl (.tmp 49) (.tmp 53) 29 58 (.agg #[(.int .i64 0), (.string ⟨#[]⟩)]) 24 rfl Try.underlying29 info58 rfl (by decide) (by omega) u5 x5_1 (⟨(rd_T58 x0_1 0).f0, (rd_T58 x0_1 0).f1⟩ : S58) [.int .i64 ((rd_T58 x0_1 0).f0), .string ((rd_T58 x0_1 0).f1)] (fun k_ => (w.heap.size ≤ k_)) (fun _ => False) rfl rfl ?aP (fun _ hk => hk.elim) ?aF ?aO ?aB ?aS ?aL ?_; (case aP => exact k58_mkM _ _ _ (⟨(rd_T58 x0_1 0).f0, (rd_T58 x0_1 0).f1⟩ : S58)); (case aB => exact (by repeat (first | (with_reducible first | exact HB.out | apply below_alloc | apply pw_below_drewN | apply below_drew1) | exact HB.out))); (case aF => exact (fun k_ hk => (Nat.le_trans (below_size (by repeat (first | (with_reducible first | exact HB.out | apply below_alloc | apply pw_below_drewN | apply below_drew1) | exact HB.out))) hk))); (case aO => exact (by (with_reducible repeat (first | apply Kd.R_alloc | apply Kd.R_drewN | apply Kd.R_drew)); exact HO_5.out)); (case aS => exact (below_size (by repeat (first | (with_reducible first | exact HB.out | apply below_alloc | apply pw_below_drewN | apply below_drew1) | exact HB.out)))); (case aL => have := LMc39.out; omega); intro v171 w43 ho hb hg hat; rw [← Ny170.out] at ho; have n0_ := Aside0.mk (Kd.V_afterv (ok := (fun k_ => ((P0_ k_ ∨ P1_ k_) ∨ w.heap.size ≤ k_))) (by (with_reducible repeat (first | apply Kd.V_alloc | apply Kd.V_drewN | apply Kd.V_drew)); exact HO_0.out) hg hat); have n1_ := Aside0.mk (Kd.V_afterv (ok := (fun k_ => ((P0_ k_ ∨ P1_ k_) ∨ w.heap.size ≤ k_))) (by (with_reducible repeat (first | apply Kd.V_alloc | apply Kd.V_drewN | apply Kd.V_drew)); exact HO_1.out) hg hat); have n2_ := Aside0.mk (hb); have n3_ := Aside0.mk (ho); clear HO_0; clear HO_1; clear HB; clear HO_5; have HO_0 := n0_; have HO_1 := n1_; have HB := n2_; have HO172 := n3_; clear n0_ n1_ n2_ n3_; clear ho hb hg hat; have q44 : (1 : Int) ≤ ((x0_1.length : Int) : Int) := of_decide_eq_true (by first | (with_reducible assumption) | assumption); obtain ⟨i044, hi044, _, hsz44, _⟩ := info_parts info58; have hroom44 : x0_1.length ≤ co42 := (Kd.V_reads' HO_0.out).2.1; have hC44 : Kd.F k58 _ _ (some ad169) x0_1.length x0_1 := (Kd.V_at (base := w.heap.size) HO_0.out).2.2; have hcut44 := cut_from (P := Try.prog) 29 58 .i64 Try.underlying29 hi044 2 hsz44 (some ad169) x0_1.length co42 1 (by omega) q44; have hr44 := Kd.F_cut (m := (1 : Int).toNat) (c := co42) hC44 (by omega) hroom44; obtain ⟨A44, hA44⟩ : ∃ A1, A1 = (if co42 = (1 : Int).toNat then (some ad169) else ((some ad169) : Option Addr).map (·.add ((1 : Int).toNat * 2))) := ⟨_, rfl⟩; obtain ⟨c44, hc44⟩ : ∃ c1, c1 = co42 - (1 : Int).toNat := ⟨_, rfl⟩; have hy44 : y173.length = x0_1.length - (1 : Int).toNat := (by rw [Ny173.out, List.length_drop] <;> omega); rw [show (x0_1).drop (1 : Int).toNat = y173 from Ny173.out.symm] at hr44; replace hr44 : Kd.F k58 _ _ A44 y173.length y173 := (by rw [hA44]; exact hr44); rw [← hy44, ← hA44, ← hc44] at hcut44; have HO177 := Aside0.mk (show Kd.V k58 58 _ w.heap.size _ (.slice A44 y173.length c44) y173 from Kd.V_mk (by rw [hy44, hc44]; exact Nat.sub_le_sub_right hroom44 _) hr44); have HC177 := Aside0.mk (show y173.length ≤ c44 from by rw [hy44, hc44]; exact Nat.sub_le_sub_right hroom44 _); clear hr44 hC44 hroom44 hi044 hsz44 hc44; have KY44 := Aside0.mk hy44; have KA44 := Aside0.mk hA44; clear hy44 hA44; replace q44 := eq_true q44)); try go_wp2_with (first | ((with_reducible refine gate_builtin (b := .append) (xs := #[.tmp 49, .tmp 53]) rfl ?_); (try (refine gate_guard (by rfl) ?_; dsimp only)); at_builtin; refine Kd.R_append k58 (w0 := w) w.heap.size rfl (.tmp 49) (.tmp 53) 29 58 (.agg #[(.int .i64 0), (.string ⟨#[]⟩)]) 24 rfl Try.underlying29 info58 rfl (by decide) (by omega) u5 x5_1 (⟨(rd_T58 x0_1 0).f0, (rd_T58 x0_1 0).f1⟩ : S58) [.int .i64 ((rd_T58 x0_1 0).f0), .string ((rd_T58 x0_1 0).f1)] (fun k_ => (w.heap.size ≤ k_)) (fun _ => False) rfl rfl ?aP (fun _ hk => hk.elim) ?aF ?aO ?aB ?aS ?aL ?_; (case aP => exact k58_mkM _ _ _ (⟨(rd_T58 x0_1 0).f0, (rd_T58 x0_1 0).f1⟩ : S58)); (case aB => exact (by repeat (first | (with_reducible first | exact HB.out | apply below_alloc | apply pw_below_drewN | apply below_drew1) | exact HB.out))); (case aF => exact (fun k_ hk => (Nat.le_trans (below_size (by repeat (first | (with_reducible first | exact HB.out | apply below_alloc | apply pw_below_drewN | apply below_drew1) | exact HB.out))) hk))); (case aO => exact (by (with_reducible repeat (first | apply Kd.R_alloc | apply Kd.R_drewN | apply Kd.R_drew)); exact HO_5.out)); (case aS => exact (below_size (by repeat (first | (with_reducible first | exact HB.out | apply below_alloc | apply pw_below_drewN | apply below_drew1) | exact HB.out)))); (case aL => have := LMc39.out; omega); intro v171 w43 ho hb hg hat; rw [← Ny170.out] at ho; have n0_ := Aside0.mk (Kd.V_afterv (ok := (fun k_ => ((P0_ k_ ∨ P1_ k_) ∨ w.heap.size ≤ k_))) (by (with_reducible repeat (first | apply Kd.V_alloc | apply Kd.V_drewN | apply Kd.V_drew)); exact HO_0.out) hg hat); have n1_ := Aside0.mk (Kd.V_afterv (ok := (fun k_ => ((P0_ k_ ∨ P1_ k_) ∨ w.heap.size ≤ k_))) (by (with_reducible repeat (first | apply Kd.V_alloc | apply Kd.V_drewN | apply Kd.V_drew)); exact HO_1.out) hg hat); have n2_ := Aside0.mk (hb); have n3_ := Aside0.mk (ho); clear HO_0; clear HO_1; clear HB; clear HO_5; have HO_0 := n0_; have HO_1 := n1_; have HB := n2_; have HO172 := n3_; clear n0_ n1_ n2_ n3_; clear ho hb hg hat; have q44 : (1 : Int) ≤ ((x0_1.length : Int) : Int) := of_decide_eq_true (by first | (with_reducible assumption) | assumption); obtain ⟨i044, hi044, _, hsz44, _⟩ := info_parts info58; have hroom44 : x0_1.length ≤ co42 := (Kd.V_reads' HO_0.out).2.1; have hC44 : Kd.F k58 _ _ (some ad169) x0_1.length x0_1 := (Kd.V_at (base := w.heap.size) HO_0.out).2.2; have hcut44 := cut_from (P := Try.prog) 29 58 .i64 Try.underlying29 hi044 2 hsz44 (some ad169) x0_1.length co42 1 (by omega) q44; have hr44 := Kd.F_cut (m := (1 : Int).toNat) (c := co42) hC44 (by omega) hroom44; obtain ⟨A44, hA44⟩ : ∃ A1, A1 = (if co42 = (1 : Int).toNat then (some ad169) else ((some ad169) : Option Addr).map (·.add ((1 : Int).toNat * 2))) := ⟨_, rfl⟩; obtain ⟨c44, hc44⟩ : ∃ c1, c1 = co42 - (1 : Int).toNat := ⟨_, rfl⟩; have hy44 : y173.length = x0_1.length - (1 : Int).toNat := (by rw [Ny173.out, List.length_drop] <;> omega); rw [show (x0_1).drop (1 : Int).toNat = y173 from Ny173.out.symm] at hr44; replace hr44 : Kd.F k58 _ _ A44 y173.length y173 := (by rw [hA44]; exact hr44); rw [← hy44, ← hA44, ← hc44] at hcut44; have HO177 := Aside0.mk (show Kd.V k58 58 _ w.heap.size _ (.slice A44 y173.length c44) y173 from Kd.V_mk (by rw [hy44, hc44]; exact Nat.sub_le_sub_right hroom44 _) hr44); have HC177 := Aside0.mk (show y173.length ≤ c44 from by rw [hy44, hc44]; exact Nat.sub_le_sub_right hroom44 _); clear hr44 hC44 hroom44 hi044 hsz44 hc44; have KY44 := Aside0.mk hy44; have KA44 := Aside0.mk hA44; clear hy44 hA44; replace q44 := eq_true q44)))
                          go_roundg kj8
                          case measure => have := HK1.out; have := HJ2.out; have := HJ8.out; omega
                          case rel => exact ⟨(y173), (x1_1), (y170), H', ⟨by have := HK1.out; have := HJ2.out; have := HJ8.out; omega⟩, ⟨by (with_reducible repeat (first | apply Kd.V_alloc | apply Kd.V_drewN | apply Kd.V_drew)); exact HO177.out⟩, ⟨by (with_reducible repeat (first | apply Kd.V_alloc | apply Kd.V_drewN | apply Kd.V_drew)); exact HO_1.out⟩, ⟨by (with_reducible repeat (first | apply Kd.R_alloc | apply Kd.R_drewN | apply Kd.R_drew)); exact HO172.out⟩, ⟨by repeat (first | (with_reducible first | exact HB.out | apply below_alloc | apply pw_below_drewN | apply below_drew1) | exact HB.out)⟩⟩
                        · rw [if_neg c40] at H
                          exact absurd H (by simp)
                      · rw [if_neg c39] at H
                        exact absurd H (by simp)
                    · rw [if_neg c38] at H
                      exact absurd H (by simp)
                · replace c19 := Bool.eq_false_iff.mpr c19
                  subst c19
                  have H1 : (if 0 < (x1_1.length : Int) then (if x5_1.length < 5864062014805 then (if 1 ≤ (x1_1.length : Int) then (sackbutref23_Merge.l0 kj8 x0_1 (x1_1.drop 1) (x5_1 ++ [(⟨(rd_T58 x1_1 0).f0, (rd_T58 x1_1 0).f1⟩ : S58)])) else (none)) else (none)) else (none)) = some r := by rw [if_neg (show ¬ (false = true) by decide)] at H; exact H
                  clear H
                  have H := H1
                  clear H1
                  by_cases c45 : 0 < (x1_1.length : Int)
                  · rw [if_pos c45] at H
                    have c45b0 : decide (0 < (x1_1.length : Int)) = true := decide_eq_true c45
                    have c45b1 : decide (0 < x1_1.length) = true := decide_eq_true (by omega)
                    clear c45
                    by_cases c46 : x5_1.length < 5864062014805
                    · rw [if_pos c46] at H
                      have LMc46 := Aside0.mk c46
                      clear c46
                      obtain ⟨y179, hy179⟩ : ∃ y_ : List (S58), y_ = (x5_1 ++ [(⟨(rd_T58 x1_1 0).f0, (rd_T58 x1_1 0).f1⟩ : S58)]) := ⟨_, rfl⟩
                      replace H : (if 1 ≤ (x1_1.length : Int) then (sackbutref23_Merge.l0 kj8 x0_1 (x1_1.drop 1) y179) else (none)) = some r := by first | (rw [hy179]; with_reducible exact H) | (have H2_ := (Option.bind_some _ _).symm.trans H; rw [hy179]; with_reducible exact H2_) | (have H2_ := (Option.bind_some _ _).symm.trans H; with_reducible exact H2_) | with_reducible exact H | (rw [hy179]; exact H) | exact H
                      have Ny179 := Aside0.mk hy179
                      clear hy179
                      by_cases c47 : 1 ≤ (x1_1.length : Int)
                      · rw [if_pos c47] at H
                        have c47b0 := eq_true c47
                        have c47b1 : decide (1 ≤ (x1_1.length : Int)) = true := decide_eq_true c47
                        clear c47
                        obtain ⟨y182, hy182⟩ : ∃ y_ : List (S58), y_ = (x1_1.drop 1) := ⟨_, rfl⟩
                        replace H : (sackbutref23_Merge.l0 kj8 x0_1 y182 y179) = some r := by first | (rw [hy182]; with_reducible exact H) | (have H2_ := (Option.bind_some _ _).symm.trans H; rw [hy182]; with_reducible exact H2_) | (have H2_ := (Option.bind_some _ _).symm.trans H; with_reducible exact H2_) | with_reducible exact H | (rw [hy182]; exact H) | exact H
                        have Ny182 := Aside0.mk hy182
                        clear hy182
                        have H' := Aside0.mk H
                        clear H
                        obtain ⟨Ao48, co48, eo48⟩ := Kd.V_slice HO_1.out
                        subst eo48
                        have p178 : 0 ≤ (0 : Int) := (by omega)
                        have q178 : 0 < (x1_1.length : Int) := of_decide_eq_true (by first | (with_reducible assumption) | assumption)
                        obtain ⟨ad178, e178, hx178_0, hx178_1⟩ := at_T58 (Kd.V_reads' HO_1.out).2.2 0 p178 q178
                        cases e178
                        have qi178 : (0 < x1_1.length) = True := eq_true (by omega)
                        (try rw [show ((0 : Int)).toNat = 0 from rfl] at hx178_0)
                        (try rw [show 0 * 2 = 0 from rfl] at hx178_0)
                        (try rw [Addr.add_zero'] at hx178_0)
                        (try rw [show ((0 : Int)).toNat = 0 from rfl] at hx178_1)
                        (try rw [show 0 * 2 = 0 from rfl] at hx178_1)
                        (try rw [Addr.add_zero'] at hx178_1)
                        replace p178 := eq_true p178
                        replace q178 := eq_true q178
                        go_wp2_with (first | ((with_reducible refine gate_builtin (b := .append) (xs := #[.tmp 57, .tmp 61]) rfl ?_); (try (refine gate_guard (by rfl) ?_; dsimp only)); at_builtin; refine Kd.R_append k58 (w0 := w) w.heap.size rfl (.tmp 57) (.tmp 61) 29 58 (.agg #[(.int .i64 0), (.string ⟨#[]⟩)]) 24 rfl Try.underlying29 info58 rfl (by decide) (by omega) u5 x5_1 (⟨(rd_T58 x1_1 0).f0, (rd_T58 x1_1 0).f1⟩ : S58) [.int .i64 ((rd_T58 x1_1 0).f0), .string ((rd_T58 x1_1 0).f1)] (fun k_ => (w.heap.size ≤ k_)) (fun _ => False) rfl rfl ?aP (fun _ hk => hk.elim) ?aF ?aO ?aB ?aS ?aL ?_; (case aP => exact k58_mkM _ _ _ (⟨(rd_T58 x1_1 0).f0, (rd_T58 x1_1 0).f1⟩ : S58)); (case aB => exact (by repeat (first | (with_reducible first | exact HB.out | apply below_alloc | apply pw_below_drewN | apply below_drew1) | exact HB.out))); (case aF => exact (fun k_ hk => (Nat.le_trans (below_size (by repeat (first | (with_reducible first | exact HB.out | apply below_alloc | apply pw_below_drewN | apply below_drew1) | exact HB.out))) hk))); (case aO => exact (by (with_reducible repeat (first | apply Kd.R_alloc | apply Kd.R_drewN | apply Kd.R_drew)); exact HO_5.out)); (case aS => exact (below_size (by repeat (first | (with_reducible first | exact HB.out | apply below_alloc | apply pw_below_drewN | apply below_drew1) | exact HB.out)))); (case aL => have := LMc46.out; omega); intro v180 w49 ho hb hg hat; rw [← Ny179.out] at ho; have n0_ := Aside0.mk (Kd.V_afterv (ok := (fun k_ => ((P0_ k_ ∨ P1_ k_) ∨ w.heap.size ≤ k_))) (by (with_reducible repeat (first | apply Kd.V_alloc | apply Kd.V_drewN | apply Kd.V_drew)); exact HO_0.out) hg hat); have n1_ := Aside0.mk (Kd.V_afterv (ok := (fun k_ => ((P0_ k_ ∨ P1_ k_) ∨ w.heap.size ≤ k_))) (by (with_reducible repeat (first | apply Kd.V_alloc | apply Kd.V_drewN | apply Kd.V_drew)); exact HO_1.out) hg hat); have n2_ := Aside0.mk (hb); have n3_ := Aside0.mk (ho); clear HO_0; clear HO_1; clear HB; clear HO_5; have HO_0 := n0_; have HO_1 := n1_; have HB := n2_; have HO181 := n3_; clear n0_ n1_ n2_ n3_; clear ho hb hg hat; have q50 : (1 : Int) ≤ ((x1_1.length : Int) : Int) := of_decide_eq_true (by first | (with_reducible assumption) | assumption); obtain ⟨i050, hi050, _, hsz50, _⟩ := info_parts info58; have hroom50 : x1_1.length ≤ co48 := (Kd.V_reads' HO_1.out).2.1; have hC50 : Kd.F k58 _ _ (some ad178) x1_1.length x1_1 := (Kd.V_at (base := w.heap.size) HO_1.out).2.2; have hcut50 := cut_from (P := Try.prog) 29 58 .i64 Try.underlying29 hi050 2 hsz50 (some ad178) x1_1.length co48 1 (by omega) q50; have hr50 := Kd.F_cut (m := (1 : Int).toNat) (c := co48) hC50 (by omega) hroom50; obtain ⟨A50, hA50⟩ : ∃ A1, A1 = (if co48 = (1 : Int).toNat then (some ad178) else ((some ad178) : Option Addr).map (·.add ((1 : Int).toNat * 2))) := ⟨_, rfl⟩; obtain ⟨c50, hc50⟩ : ∃ c1, c1 = co48 - (1 : Int).toNat := ⟨_, rfl⟩; have hy50 : y182.length = x1_1.length - (1 : Int).toNat := (by rw [Ny182.out, List.length_drop] <;> omega); rw [show (x1_1).drop (1 : Int).toNat = y182 from Ny182.out.symm] at hr50; replace hr50 : Kd.F k58 _ _ A50 y182.length y182 := (by rw [hA50]; exact hr50); rw [← hy50, ← hA50, ← hc50] at hcut50; have HO186 := Aside0.mk (show Kd.V k58 58 _ w.heap.size _ (.slice A50 y182.length c50) y182 from Kd.V_mk (by rw [hy50, hc50]; exact Nat.sub_le_sub_right hroom50 _) hr50); have HC186 := Aside0.mk (show y182.length ≤ c50 from by rw [hy50, hc50]; exact Nat.sub_le_sub_right hroom50 _); clear hr50 hC50 hroom50 hi050 hsz50 hc50; have KY50 := Aside0.mk hy50; have KA50 := Aside0.mk hA50; clear hy50 hA50; replace q50 := eq_true q50))
                        repeat (go_quiet (first | ((with_reducible refine gate_builtin (b := .append) (xs := #[.tmp 57, .tmp 61]) rfl ?_); (try (refine gate_guard (by rfl) ?_; dsimp only)); at_builtin; refine Kd.R_append k58 (w0 := w) w.heap.size rfl (.tmp 57) (.tmp 61) 29 58 (.agg #[(.int .i64 0), (.string ⟨#[]⟩)]) 24 rfl Try.underlying29 info58 rfl (by decide) (by omega) u5 x5_1 (⟨(rd_T58 x1_1 0).f0, (rd_T58 x1_1 0).f1⟩ : S58) [.int .i64 ((rd_T58 x1_1 0).f0), .string ((rd_T58 x1_1 0).f1)] (fun k_ => (w.heap.size ≤ k_)) (fun _ => False) rfl rfl ?aP (fun _ hk => hk.elim) ?aF ?aO ?aB ?aS ?aL ?_; (case aP => exact k58_mkM _ _ _ (⟨(rd_T58 x1_1 0).f0, (rd_T58 x1_1 0).f1⟩ : S58)); (case aB => exact (by repeat (first | (with_reducible first | exact HB.out | apply below_alloc | apply pw_below_drewN | apply below_drew1) | exact HB.out))); (case aF => exact (fun k_ hk => (Nat.le_trans (below_size (by repeat (first | (with_reducible first | exact HB.out | apply below_alloc | apply pw_below_drewN | apply below_drew1) | exact HB.out))) hk))); (case aO => exact (by (with_reducible repeat (first | apply Kd.R_alloc | apply Kd.R_drewN | apply Kd.R_drew)); exact HO_5.out)); (case aS => exact (below_size (by repeat (first | (with_reducible first | exact HB.out | apply below_alloc | apply pw_below_drewN | apply below_drew1) | exact HB.out)))); (case aL => have := LMc46.out; omega); intro v180 w49 ho hb hg hat; rw [← Ny179.out] at ho; have n0_ := Aside0.mk (Kd.V_afterv (ok := (fun k_ => ((P0_ k_ ∨ P1_ k_) ∨ w.heap.size ≤ k_))) (by (with_reducible repeat (first | apply Kd.V_alloc | apply Kd.V_drewN | apply Kd.V_drew)); exact HO_0.out) hg hat); have n1_ := Aside0.mk (Kd.V_afterv (ok := (fun k_ => ((P0_ k_ ∨ P1_ k_) ∨ w.heap.size ≤ k_))) (by (with_reducible repeat (first | apply Kd.V_alloc | apply Kd.V_drewN | apply Kd.V_drew)); exact HO_1.out) hg hat); have n2_ := Aside0.mk (hb); have n3_ := Aside0.mk (ho); clear HO_0; clear HO_1; clear HB; clear HO_5; have HO_0 := n0_; have HO_1 := n1_; have HB := n2_; have HO181 := n3_; clear n0_ n1_ n2_ n3_; clear ho hb hg hat; have q50 : (1 : Int) ≤ ((x1_1.length : Int) : Int) := of_decide_eq_true (by first | (with_reducible assumption) | assumption); obtain ⟨i050, hi050, _, hsz50, _⟩ := info_parts info58; have hroom50 : x1_1.length ≤ co48 := (Kd.V_reads' HO_1.out).2.1; have hC50 : Kd.F k58 _ _ (some ad178) x1_1.length x1_1 := (Kd.V_at (base := w.heap.size) HO_1.out).2.2; have hcut50 := cut_from (P := Try.prog) 29 58 .i64 Try.underlying29 hi050 2 hsz50 (some ad178) x1_1.length co48 1 (by omega) q50; have hr50 := Kd.F_cut (m := (1 : Int).toNat) (c := co48) hC50 (by omega) hroom50; obtain ⟨A50, hA50⟩ : ∃ A1, A1 = (if co48 = (1 : Int).toNat then (some ad178) else ((some ad178) : Option Addr).map (·.add ((1 : Int).toNat * 2))) := ⟨_, rfl⟩; obtain ⟨c50, hc50⟩ : ∃ c1, c1 = co48 - (1 : Int).toNat := ⟨_, rfl⟩; have hy50 : y182.length = x1_1.length - (1 : Int).toNat := (by rw [Ny182.out, List.length_drop] <;> omega); rw [show (x1_1).drop (1 : Int).toNat = y182 from Ny182.out.symm] at hr50; replace hr50 : Kd.F k58 _ _ A50 y182.length y182 := (by rw [hA50]; exact hr50); rw [← hy50, ← hA50, ← hc50] at hcut50; have HO186 := Aside0.mk (show Kd.V k58 58 _ w.heap.size _ (.slice A50 y182.length c50) y182 from Kd.V_mk (by rw [hy50, hc50]; exact Nat.sub_le_sub_right hroom50 _) hr50); have HC186 := Aside0.mk (show y182.length ≤ c50 from by rw [hy50, hc50]; exact Nat.sub_le_sub_right hroom50 _); clear hr50 hC50 hroom50 hi050 hsz50 hc50; have KY50 := Aside0.mk hy50; have KA50 := Aside0.mk hA50; clear hy50 hA50; replace q50 := eq_true q50)); try go_wp2_with (first | ((with_reducible refine gate_builtin (b := .append) (xs := #[.tmp 57, .tmp 61]) rfl ?_); (try (refine gate_guard (by rfl) ?_; dsimp only)); at_builtin; refine Kd.R_append k58 (w0 := w) w.heap.size rfl (.tmp 57) (.tmp 61) 29 58 (.agg #[(.int .i64 0), (.string ⟨#[]⟩)]) 24 rfl Try.underlying29 info58 rfl (by decide) (by omega) u5 x5_1 (⟨(rd_T58 x1_1 0).f0, (rd_T58 x1_1 0).f1⟩ : S58) [.int .i64 ((rd_T58 x1_1 0).f0), .string ((rd_T58 x1_1 0).f1)] (fun k_ => (w.heap.size ≤ k_)) (fun _ => False) rfl rfl ?aP (fun _ hk => hk.elim) ?aF ?aO ?aB ?aS ?aL ?_; (case aP => exact k58_mkM _ _ _ (⟨(rd_T58 x1_1 0).f0, (rd_T58 x1_1 0).f1⟩ : S58)); (case aB => exact (by repeat (first | (with_reducible first | exact HB.out | apply below_alloc | apply pw_below_drewN | apply below_drew1) | exact HB.out))); (case aF => exact (fun k_ hk => (Nat.le_trans (below_size (by repeat (first | (with_reducible first | exact HB.out | apply below_alloc | apply pw_below_drewN | apply below_drew1) | exact HB.out))) hk))); (case aO => exact (by (with_reducible repeat (first | apply Kd.R_alloc | apply Kd.R_drewN | apply Kd.R_drew)); exact HO_5.out)); (case aS => exact (below_size (by repeat (first | (with_reducible first | exact HB.out | apply below_alloc | apply pw_below_drewN | apply below_drew1) | exact HB.out)))); (case aL => have := LMc46.out; omega); intro v180 w49 ho hb hg hat; rw [← Ny179.out] at ho; have n0_ := Aside0.mk (Kd.V_afterv (ok := (fun k_ => ((P0_ k_ ∨ P1_ k_) ∨ w.heap.size ≤ k_))) (by (with_reducible repeat (first | apply Kd.V_alloc | apply Kd.V_drewN | apply Kd.V_drew)); exact HO_0.out) hg hat); have n1_ := Aside0.mk (Kd.V_afterv (ok := (fun k_ => ((P0_ k_ ∨ P1_ k_) ∨ w.heap.size ≤ k_))) (by (with_reducible repeat (first | apply Kd.V_alloc | apply Kd.V_drewN | apply Kd.V_drew)); exact HO_1.out) hg hat); have n2_ := Aside0.mk (hb); have n3_ := Aside0.mk (ho); clear HO_0; clear HO_1; clear HB; clear HO_5; have HO_0 := n0_; have HO_1 := n1_; have HB := n2_; have HO181 := n3_; clear n0_ n1_ n2_ n3_; clear ho hb hg hat; have q50 : (1 : Int) ≤ ((x1_1.length : Int) : Int) := of_decide_eq_true (by first | (with_reducible assumption) | assumption); obtain ⟨i050, hi050, _, hsz50, _⟩ := info_parts info58; have hroom50 : x1_1.length ≤ co48 := (Kd.V_reads' HO_1.out).2.1; have hC50 : Kd.F k58 _ _ (some ad178) x1_1.length x1_1 := (Kd.V_at (base := w.heap.size) HO_1.out).2.2; have hcut50 := cut_from (P := Try.prog) 29 58 .i64 Try.underlying29 hi050 2 hsz50 (some ad178) x1_1.length co48 1 (by omega) q50; have hr50 := Kd.F_cut (m := (1 : Int).toNat) (c := co48) hC50 (by omega) hroom50; obtain ⟨A50, hA50⟩ : ∃ A1, A1 = (if co48 = (1 : Int).toNat then (some ad178) else ((some ad178) : Option Addr).map (·.add ((1 : Int).toNat * 2))) := ⟨_, rfl⟩; obtain ⟨c50, hc50⟩ : ∃ c1, c1 = co48 - (1 : Int).toNat := ⟨_, rfl⟩; have hy50 : y182.length = x1_1.length - (1 : Int).toNat := (by rw [Ny182.out, List.length_drop] <;> omega); rw [show (x1_1).drop (1 : Int).toNat = y182 from Ny182.out.symm] at hr50; replace hr50 : Kd.F k58 _ _ A50 y182.length y182 := (by rw [hA50]; exact hr50); rw [← hy50, ← hA50, ← hc50] at hcut50; have HO186 := Aside0.mk (show Kd.V k58 58 _ w.heap.size _ (.slice A50 y182.length c50) y182 from Kd.V_mk (by rw [hy50, hc50]; exact Nat.sub_le_sub_right hroom50 _) hr50); have HC186 := Aside0.mk (show y182.length ≤ c50 from by rw [hy50, hc50]; exact Nat.sub_le_sub_right hroom50 _); clear hr50 hC50 hroom50 hi050 hsz50 hc50; have KY50 := Aside0.mk hy50; have KA50 := Aside0.mk hA50; clear hy50 hA50; replace q50 := eq_true q50)))
                        go_roundg kj8
                        case measure => have := HK1.out; have := HJ2.out; have := HJ8.out; omega
                        case rel => exact ⟨(x0_1), (y182), (y179), H', ⟨by have := HK1.out; have := HJ2.out; have := HJ8.out; omega⟩, ⟨by (with_reducible repeat (first | apply Kd.V_alloc | apply Kd.V_drewN | apply Kd.V_drew)); exact HO_0.out⟩, ⟨by (with_reducible repeat (first | apply Kd.V_alloc | apply Kd.V_drewN | apply Kd.V_drew)); exact HO186.out⟩, ⟨by (with_reducible repeat (first | apply Kd.R_alloc | apply Kd.R_drewN | apply Kd.R_drew)); exact HO181.out⟩, ⟨by repeat (first | (with_reducible first | exact HB.out | apply below_alloc | apply pw_below_drewN | apply below_drew1) | exact HB.out)⟩⟩
                      · rw [if_neg c47] at H
                        exact absurd H (by simp)
                    · rw [if_neg c46] at H
                      exact absurd H (by simp)
                  · rw [if_neg c45] at H
                    exact absurd H (by simp)
          · replace c8 := Bool.eq_false_iff.mpr c8
            subst c8
            have H1 : (some x5_1) = some r := by rw [if_neg (show ¬ (false = true) by decide)] at H; exact H
            clear H
            have H := H1
            clear H1
            obtain rfl := Option.some.inj H
            go_wp2
            repeat (go_quiet (fail); try go_wp2)
            go_ret
            exact ⟨_, by first | rfl | (simp [errW_none, errW_some] <;> rfl) | (simp [*, errW_none, errW_some] <;> rfl), by (with_reducible repeat (first | apply Kd.R_alloc | apply Kd.R_drewN | apply Kd.R_drew)); exact HO_5.out, by repeat (first | (with_reducible first | exact HB.out | apply below_alloc | apply pw_below_drewN | apply below_drew1) | exact HB.out)⟩

end Go.Proofs.Ythehkmpameeofaa.P
