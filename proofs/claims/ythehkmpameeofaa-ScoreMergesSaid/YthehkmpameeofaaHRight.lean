/- score: a cue's letters: the walk over its name. -/
import Derived.Test.YthehkmpameeofaaP0
import Derived.Laws.RangeAny
import Derived.Laws.RangeString
namespace Go.Proofs.Ythehkmpameeofaa.P
open Go.RowKit Go.Proofs.YthehkmpameeofaaW.PrintWords Go.Proofs.YthehkmpameeofaaW.PrintLast Go.Proofs.YthehkmpameeofaaW.PrintMore
set_option linter.unusedVariables false
set_option linter.unusedSimpArgs false

/-- May a number be a letter's? -/
def letB (c : Int) : Bool := (decide (c ≥ 97) && decide (c ≤ 122)) || ((decide (c ≥ 48) && decide (c ≤ 57)) || decide (c = 45))
def score_letter.f (a0 : Int) : Option Bool := some (letB a0)
set_option maxHeartbeats 8000000 in
set_option maxRecDepth 100000 in
theorem score_letter.calls (a0 : Int) (r : Bool) (w : World) (h : score_letter.f a0 = some r) :
    Calls Try.prog 94 #[.int .i32 a0] w fun e w' => e = .returned (.bool r) ∧ Drawn0 w w' := by
  obtain rfl := Option.some.inj h
  unfold letB
  by_cases h1 : a0 ≥ 97
  · by_cases h2 : a0 ≤ 122
    · have b1 : decide (97 ≤ a0) = true := decide_eq_true h1
      have b2 : decide (a0 ≤ 122) = true := decide_eq_true h2
      clear h1 h2
      go_enter Try.func94, Try.ntmps94
      go_wp2
      go_ret
      exact ⟨by simp [*], Drawn0.refl _⟩
    · have b1 : decide (97 ≤ a0) = true := decide_eq_true h1
      have b2 : decide (a0 ≤ 122) = false := decide_eq_false h2
      have b3 : decide (48 ≤ a0) = true := decide_eq_true (by omega)
      have b4 : decide (a0 ≤ 57) = false := decide_eq_false (by omega)
      have b5 : (a0 == 45) = false := beq_eq_false_iff_ne.mpr (by omega)
      have b6 : decide (a0 = 45) = false := decide_eq_false (by omega)
      clear h1 h2
      go_enter Try.func94, Try.ntmps94
      go_wp2
      go_ret
      exact ⟨by simp [*], Drawn0.refl _⟩
  · have b1 : decide (97 ≤ a0) = false := decide_eq_false h1
    by_cases h3 : a0 ≥ 48
    · by_cases h4 : a0 ≤ 57
      · have b3 : decide (48 ≤ a0) = true := decide_eq_true h3
        have b4 : decide (a0 ≤ 57) = true := decide_eq_true h4
        clear h1 h3 h4
        go_enter Try.func94, Try.ntmps94
        go_wp2
        go_ret
        exact ⟨by simp [*], Drawn0.refl _⟩
      · have b3 : decide (48 ≤ a0) = true := decide_eq_true h3
        have b4 : decide (a0 ≤ 57) = false := decide_eq_false h4
        have b5 : (a0 == 45) = false := beq_eq_false_iff_ne.mpr (by omega)
        have b6 : decide (a0 = 45) = false := decide_eq_false (by omega)
        clear h1 h3 h4
        go_enter Try.func94, Try.ntmps94
        go_wp2
        go_ret
        exact ⟨by simp [*], Drawn0.refl _⟩
    · have b3 : decide (48 ≤ a0) = false := decide_eq_false h3
      clear h1 h3
      by_cases h5 : a0 = 45
      · subst h5
        go_enter Try.func94, Try.ntmps94
        go_wp2
        go_ret
        exact ⟨by simp, Drawn0.refl _⟩
      · have b5 : (a0 == 45) = false := beq_eq_false_iff_ne.mpr h5
        have b6 : decide (a0 = 45) = false := decide_eq_false h5
        clear h5
        go_enter Try.func94, Try.ntmps94
        go_wp2
        go_ret
        exact ⟨by simp [*], Drawn0.refl _⟩
theorem letB_high (c : Int) (h : 128 ≤ c) : letB c = false := by
  unfold letB
  simp only [decide_eq_false (show ¬ c ≤ 122 by omega), decide_eq_false (show ¬ c ≤ 57 by omega), decide_eq_false (show ¬ c = 45 by omega), Bool.and_false, Bool.or_false]

/-- Are all bytes from a place on letters? -/
def letsFrom (s : ByteArray) (i : Nat) : Bool := (s.data.toList.drop i).all fun x => letB (x.toNat : Int)
theorem letsFrom_end (s : ByteArray) (i : Nat) (h : ¬ i < s.size) : letsFrom s i = true := by
  unfold letsFrom
  rw [List.drop_of_length_le (by rw [data_length]; omega)]
  rfl
theorem letsFrom_step (s : ByteArray) (i : Nat) (h : i < s.size) : letsFrom s i = (letB ((s[i]'h).toNat : Int) && letsFrom s (i + 1)) := by
  unfold letsFrom
  have hl : i < s.data.toList.length := by rw [data_length]; exact h
  rw [List.drop_eq_getElem_cons hl]
  simp only [List.all_cons]
  rfl
def rightB (n : Int) (s : ByteArray) : Bool := letsFrom s 0 && (decide (n ≥ 0) && decide (n ≤ 1048576) && !s.toList.isEmpty && decide ((s.size : Int) ≤ 24))
def score_Cue_right.f (a0_0 : Int) (a0_1 : ByteArray) : Option Bool := some (rightB a0_0 a0_1)
theorem decode_ne (s : ByteArray) (pos : Nat) (h : pos < s.size) (b : Bool) (hb : letB ((Utf8.decode s pos).1 : Int) = b) : (b = false → letsFrom s pos = false) ∧ (b = true → (Utf8.decode s pos).2 = 1 ∧ letsFrom s pos = letsFrom s (pos + 1)) := by
  by_cases ha : (s[pos]'h).toNat < 128
  · rw [decode_ascii s pos h ha] at hb
    rw [decode_ascii s pos h ha, letsFrom_step s pos h]
    constructor
    · intro e; rw [e] at hb; simp only at hb; rw [hb]; rfl
    · intro e; rw [e] at hb; simp only at hb; rw [hb]; exact ⟨rfl, rfl⟩
  · have hd := decode_high s pos h (by omega)
    have hf := letB_high ((Utf8.decode s pos).1 : Int) (by omega)
    have hf2 := letB_high ((s[pos]'h).toNat : Int) (by omega)
    rw [letsFrom_step s pos h, hf2]
    refine ⟨fun _ => rfl, fun e => ?_⟩
    rw [e, hf] at hb
    cases hb
theorem isEmpty_data (s : ByteArray) : s.toList.isEmpty = s.data.toList.isEmpty := by rw [ByteArray.toList_eq]
theorem iter_drewN (w : World) (s : ByteArray) (p n : Nat) : (w.iter s p).drewN n = (w.drewN n).iter s p := rfl
theorem alloc_drewN_size (w : World) (o : Obj) (n : Nat) : ((w.alloc o).drewN n).heap.size = w.heap.size + 1 := by
  show (w.heap.push o).size = _
  exact Array.size_push _
theorem box2_0 (w : World) (x y : Value) (t n : Nat) (s : ByteArray) (p : Nat) : (((w.alloc (Obj.cells #[x, y] t)).drewN n).iter s p).cell? ⟨w.heap.size, 0, none⟩ = some x := by
  refine (pw_cell_below (below_alloc (pw_below_drewN (Below.refl _ _) n) _) ?_)
  exact (blk_cell (blk_new w _) 0).trans rfl
theorem box2_1 (w : World) (x y : Value) (t n : Nat) (s : ByteArray) (p : Nat) : (((w.alloc (Obj.cells #[x, y] t)).drewN n).iter s p).cell? ⟨w.heap.size, 1, none⟩ = some y := by
  refine (pw_cell_below (below_alloc (pw_below_drewN (Below.refl _ _) n) _) ?_)
  exact (blk_cell (blk_new w _) 1).trans rfl
theorem drewN_size (w : World) (n : Nat) : (w.drewN n).heap.size = w.heap.size := rfl
set_option maxHeartbeats 8000000 in
set_option maxRecDepth 100000 in
theorem score_Cue_right.calls (a0_0 : Int) (a0_1 : ByteArray) (r : Bool) (w : World) (h : score_Cue_right.f a0_0 a0_1 = some r) :
    Calls Try.prog 75 #[.agg #[.int .i64 a0_0, .string a0_1]] w fun e w' => e = .returned (.bool r) ∧ Below w.heap.size w w' := by
  have H := Aside0.mk (Option.some.inj h)
  clear h
  go_enter Try.func75, Try.ntmps75
  go_wp2
  go_loopg [4] (a0_1.size) (fun gk v4 wr => ∃ pos n : Nat, gk = a0_1.size - pos ∧ Aside0 (letsFrom a0_1 0 = letsFrom a0_1 pos) ∧ wr = (((w.alloc (Obj.cells #[Value.int IntKind.i64 a0_0, Value.string a0_1] 45)).drewN n).iter a0_1 pos))
  case atStart => exact ⟨0, 0, rfl, ⟨rfl⟩, rfl⟩
  case round =>
    obtain ⟨pos, n, hgk, HL, rfl⟩ := hrel
    have HG := Aside0.mk hgk
    clear hgk
    by_cases hlt : pos < a0_1.size
    · have hdec := decode_ne a0_1 pos hlt _ rfl
      have hnext := run_next_any (P := Try.prog) ((w.alloc (Obj.cells #[Value.int IntKind.i64 a0_0, Value.string a0_1] 45)).drewN n) a0_1 pos 0 hlt
      rw [alloc_drewN_size] at hnext
      cases hb : letB ((Utf8.decode a0_1 pos).1 : Int) with
      | false =>
        have h1 := hdec.1 hb
        have hr : r = false := by
          rw [← H.out]; unfold rightB; rw [HL.out, h1]; rfl
        subst hr
        have hc := fun W => score_letter.calls ((Utf8.decode a0_1 pos).1 : Int) false W (by unfold score_letter.f; rw [hb])
        have HC := Aside0.mk hc
        clear hc hdec h1 hb
        go_wp2_with (go_at_call 94; refine (HC.out _).mono ?_; rintro e w' ⟨rfl, ⟨nd, rfl⟩⟩)
        go_ret
        exact ⟨rfl, by repeat (first | exact Below.refl _ _ | apply pw_below_drewN | apply below_alloc)⟩
      | true =>
        obtain ⟨h1, h2⟩ := hdec.2 hb
        rw [h1] at hnext
        have hc := fun W => score_letter.calls ((Utf8.decode a0_1 pos).1 : Int) true W (by unfold score_letter.f; rw [hb])
        have HC := Aside0.mk hc
        have HL2 := Aside0.mk (HL.out.trans h2)
        clear hc hdec h1 h2 hb HL
        go_wp2_with (go_at_call 94; refine (HC.out _).mono ?_; rintro e w' ⟨rfl, ⟨nd, rfl⟩⟩)
        go_roundg (a0_1.size - (pos + 1))
        case measure => have := HG.out; omega
        case rel => exact ⟨pos + 1, n + nd, rfl, HL2, by rw [iter_drewN, World.drewN_drewN]⟩
    · have hnext := run_next_end (P := Try.prog) ((w.alloc (Obj.cells #[Value.int IntKind.i64 a0_0, Value.string a0_1] 45)).drewN n) a0_1 pos 0 hlt
      rw [alloc_drewN_size] at hnext
      have hb : Below w.heap.size w (((w.alloc (Obj.cells #[Value.int IntKind.i64 a0_0, Value.string a0_1] 45)).drewN n).iter a0_1 pos) := below_alloc (pw_below_drewN (below_alloc (Below.refl _ _) _) _) _
      have HB := Aside0.mk hb
      clear hb
      have hr : r = (decide (a0_0 ≥ 0) && decide (a0_0 ≤ 1048576) && !a0_1.toList.isEmpty && decide ((a0_1.size : Int) ≤ 24)) := by
        rw [← H.out]; unfold rightB; rw [HL.out, letsFrom_end a0_1 pos hlt, Bool.true_and]
      have HR := Aside0.mk hr
      clear hr H HL hlt HG
      have hcell0 : (((w.alloc (Obj.cells #[Value.int IntKind.i64 a0_0, Value.string a0_1] 45)).drewN n).iter a0_1 pos).cell? ⟨w.heap.size, 0, none⟩ = some (.int .i64 a0_0) := box2_0 _ _ _ _ _ _ _
      have hcell1 : (((w.alloc (Obj.cells #[Value.int IntKind.i64 a0_0, Value.string a0_1] 45)).drewN n).iter a0_1 pos).cell? ⟨w.heap.size, 1, none⟩ = some (.string a0_1) := box2_1 _ _ _ _ _ _ _
      go_wp2
      all_goals
        go_ret
        refine ⟨?_, HB.out⟩
        rw [HR.out]
        first
        | (simp [*]; done)
        | (simp [*]; intros; omega)
end Go.Proofs.Ythehkmpameeofaa.P
