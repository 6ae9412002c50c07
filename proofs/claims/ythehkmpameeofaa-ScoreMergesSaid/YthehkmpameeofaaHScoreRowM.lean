/- The law ScoreMerges answers true whatever three scores' cues it is given, and they read as they did. Nothing is asked of the input. -/
import Derived.Test.YthehkmpameeofaaRows
import Derived.Test.YthehkmpameeofaaHScoreMergesM
import Derived.WalkKit
import Derived.ProofKit
import Derived.OpenShut
import Derived.ShutString
import Derived.ChangeOld
import Derived.Below
import Derived.SizedLaws
import Derived.Deep.SlicePairs
namespace Go.Proofs.Ythehkmpameeofaa.scoreMerges
open Go.ChangeShapes Go.WideShapes Go.ChangeAt Go.RowKit
open Go.Proofs.Ythehkmpameeofaa.P Go.Proofs.YthehkmpameeofaaW.PrintWords
set_option linter.unusedVariables false
theorem own : ownKnob Try.prog.godebug = none := by kernel_rfl
theorem laidOut : laidOutB Try.prog = true := by kernel_rfl
theorem open_cues {H : Type} {enc : TypeId × Value → H} {W : World} {base : Nat} {spare : Nat → Bool} {held : Bool} {fuel : Nat} {a : Option Addr} {len cap : Nat} {x : DataW H × List MemPlace}
    (h : DataW.trod enc Try.prog W base spare held fuel 22 (Value.slice a len cap).cells.toList = some x) : ∃ l : List Hp.TC, l.length = len ∧ len ≤ cap ∧ Kd.C k45 W a l.length l := by
  rcases Go.Deep.open_slice_pairs Try.underlying22 Try.underlying45 (by kernel_rfl) rfl rfl (by kernel_rfl) (by kernel_rfl) h with ⟨hcs, _⟩ | ⟨ad, n, c, m, k, V0, V1, D0, D1, P0, P1, hcs, _, hl, hm, hmm, _, hx⟩
  · simp [Value.cells] at hcs
    obtain ⟨rfl, rfl, rfl⟩ := hcs
    exact ⟨[], rfl, Nat.le_refl _, rfl, by simp, fun hp => by simp at hp⟩
  · simp [Value.cells] at hcs
    obtain ⟨rfl, rfl, rfl⟩ := hcs
    have hnm : len ≤ m := by rw [hmm]; split <;> omega
    have each : ∀ i, i < len → ∃ p : Hp.TC, W.cell? (ad.add (i * 2)) = some (.int .i64 p.f0) ∧ W.cell? (ad.add (i * 2 + 1)) = some (.string p.f1) := by
      intro i hi
      obtain ⟨h0, h1, h2, h3⟩ := hx i (by omega)
      obtain ⟨q0, e0, _⟩ := DataW.trod_int (k := .i64) Try.underlying3 h2
      obtain ⟨q1, e1, _⟩ := DataW.trod_string Try.underlying9 h3
      simp only [List.cons.injEq, and_true] at e0 e1
      exact ⟨⟨q0, q1⟩, by rw [h0, e0], by rw [h1, e1]⟩
    obtain ⟨p, hp⟩ := Go.Deep.choose_lt each
    have hlen : ((List.range len).map p).length = len := by simp
    refine ⟨(List.range len).map p, hlen, hl, rfl, ?_, fun _ => ⟨ad, rfl, fun j q hq => ?_⟩⟩
    · rw [hlen]; unfold maxLen at hm; omega
    · have hj : j < len := by
        have := (List.getElem?_eq_some_iff.1 hq).1
        rwa [hlen] at this
      have hq2 : q = p j := by simpa [hj] using hq.symm
      subst hq2
      refine ⟨[.int .i64 (p j).f0, .string (p j).f1], rfl, k45_mk _ _, fun i u hu => ?_⟩
      match i with
      | 0 => obtain rfl := Option.some.inj hu; exact (hp j hj).1
      | 1 => obtain rfl := Option.some.inj hu; exact (hp j hj).2
      | i + 2 => cases hu
set_option maxRecDepth 100000 in
theorem lifted (os : Os) (started : os.Started) (H : Type) (enc : TypeId × Value → H) :
    ReturnsInHanded {} Try.checked os 3 .any (Rows.scoreMergesSpec.pre6 enc Try.prog Try.f3 Rows.scoreMergesRow.domain false) (Rows.scoreMergesSpec.post enc Try.prog Try.f3 false true false false) := by
  refine returnsInHanded_of_change (C := Try.checked) own started (by kernel_rfl) Try.func3
    (ChangeSpec.witness6 (enc := enc) (C := Try.checked) false ⟨#[], #[.slice none 0 0, .slice none 0 0, .slice none 0 0], []⟩ 8 (by kernel_rfl) (by kernel_rfl) (by kernel_rfl) (by kernel_rfl)) ?_
  intro W base args ds gs before hval0 hW hcnd _
  have hval : ∀ (j : Nat) t v, Try.f3.params[j]? = some t → args[j]? = some v → Value.okWide Try.prog W .any base t v := hval0
  have hW' := hW
  obtain ⟨p, q, hA0, hV, rfl, hfz, hnd⟩ := hW
  have hA : DataW.TrodAll enc Try.prog W 0 (fun _ => true) true Try.f3.params.toList args.toList ds p := hA0
  rw [Try.params3] at hA hval
  obtain ⟨v0, vs0, d0, ds0, p0, q0, hargs, rfl, rfl, h0, r0⟩ := trodAll_cons hA
  obtain ⟨v1, vs1, d1, ds1, p1, q1, rfl, rfl, rfl, h1, r1⟩ := trodAll_cons r0
  obtain ⟨v2, vs2, d2, ds2, p2, q2, rfl, rfl, rfl, h2, r2⟩ := trodAll_cons r1
  obtain ⟨rfl, rfl, rfl⟩ := trodAll_nil r2
  obtain rfl : args = #[v0, v1, v2] := by cases args; simp_all
  obtain ⟨rfl, rfl⟩ := trodVars_none hV
  obtain ⟨a0, n0, c0, rfl⟩ := okWide_slice Try.underlying22 (hval 0 22 v0 rfl rfl)
  obtain ⟨a1, n1, c1, rfl⟩ := okWide_slice Try.underlying22 (hval 1 22 v1 rfl rfl)
  obtain ⟨a2, n2, c2, rfl⟩ := okWide_slice Try.underlying22 (hval 2 22 v2 rfl rfl)
  have lt0 : ∀ x ∈ p0, x.block < W.heap.size := by obtain ⟨m, hm⟩ := h0; exact DataW.trod_lt m _ _ _ hm
  have lt1 : ∀ x ∈ p1, x.block < W.heap.size := by obtain ⟨m, hm⟩ := h1; exact DataW.trod_lt m _ _ _ hm
  have lt2 : ∀ x ∈ p2, x.block < W.heap.size := by obtain ⟨m, hm⟩ := h2; exact DataW.trod_lt m _ _ _ hm
  obtain ⟨l0, e0, g0, k0⟩ := open_cues h0.choose_spec
  obtain ⟨l1, e1, g1, k1⟩ := open_cues h1.choose_spec
  obtain ⟨l2, e2, g2, k2⟩ := open_cues h2.choose_spec
  subst e0 e1 e2
  clear hA0 hval0
  refine (Hp.ScoreMerges_calls W a0 a1 a2 c0 c1 c2 l0 l1 l2 k0 g0 k1 g1 k2 g2).mono fun e W' ⟨he, bel⟩ => ?_
  subst he
  exact ⟨_, rfl, _, _, _, [], _, [], hW', trodAll_mk1 (shut_bool Try.underlying4 _), (trodAll_cons_mk (Below.trod laidOut (by kernel_rfl) (of_decide_eq_true (by kernel_rfl)) h0 bel lt0) (trodAll_cons_mk (Below.trod laidOut (by kernel_rfl) (of_decide_eq_true (by kernel_rfl)) h1 bel lt1) (trodAll_cons_mk (Below.trod laidOut (by kernel_rfl) (of_decide_eq_true (by kernel_rfl)) h2 bel lt2) trodAll_mk0))), rfl, bel.frame _, fun h => by cases h⟩
theorem over : Rows.scoreMergesRow.holds Try.pinned (OpenSpec.ofChange Rows.scoreMergesSpec) :=
  OpenClaim.holds_of_wide 3 Try.f3 rfl rfl rfl rfl rfl rfl rfl ⟨rfl, rfl, rfl, rfl, rfl⟩ rfl rfl rfl rfl rfl (by kernel_rfl) Try.func3 (by kernel_rfl)
    (of_decide_eq_true (by kernel_rfl)) (by unfold Func.isWrapper; first | (rw [if_pos (by decide +kernel)]; kernel_rfl) | (rw [if_neg (by decide +kernel)]; exact ⟨rfl, rfl⟩))
    (fun os started H enc _ => lifted os started H enc)
theorem proved : Rows.ScoreMergesSaid := over
#print axioms proved
end Go.Proofs.Ythehkmpameeofaa.scoreMerges
namespace Go.Proofs.Ythehkmpameeofaa
/-- The row, under a short name, for the claim. -/
theorem scoreMerges_holds : Rows.ScoreMergesSaid := scoreMerges.proved
end Go.Proofs.Ythehkmpameeofaa
