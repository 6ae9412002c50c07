/- sackbutlaw23: ScoreMerges: the walk of the law. -/
import Derived.Test.YthehkmpameeofaaMScore
namespace Go.Proofs.Ythehkmpameeofaa.P
open Go.RowKit Go.Proofs.YthehkmpameeofaaW.PrintWords Go.Proofs.YthehkmpameeofaaW.PrintLast Go.Proofs.YthehkmpameeofaaW.PrintMore
set_option linter.unusedVariables false
set_option linter.unusedSimpArgs false
namespace Hp
theorem rows2 (W : World) {A0 A1 : Option Addr} {c0 c1 : Nat} {l0 l1 : List TC} (h0 : Kd.C k45 W A0 l0.length l0) (g0 : l0.length ≤ c0) (h1 : Kd.C k45 W A1 l1.length l1) (g1 : l1.length ≤ c1) :
    Kd.C (Kd.slice 45 k45) (W.alloc (.cells #[.slice A0 l0.length c0, .slice A1 l1.length c1] 22)) (some ⟨W.heap.size, 0, none⟩) [l0, l1].length [l0, l1] := by
  refine ⟨rfl, by simp, fun _ => ⟨_, rfl, fun j p hj => ?_⟩⟩
  have hcell := fun i => blk_cell (blk_new W (.cells #[.slice A0 l0.length c0, .slice A1 l1.length c1] 22)) i
  match j with
  | 0 =>
    obtain rfl := Option.some.inj hj
    refine ⟨[.slice A0 l0.length c0], rfl, ⟨A0, c0, rfl, g0, Kd.C_alloc h0 _⟩, ?_⟩
    intro i u hu
    match i with
    | 0 => obtain rfl := Option.some.inj hu; exact (hcell 0).trans rfl
    | i + 1 => cases hu
  | 1 =>
    obtain rfl := Option.some.inj hj
    refine ⟨[.slice A1 l1.length c1], rfl, ⟨A1, c1, rfl, g1, Kd.C_alloc h1 _⟩, ?_⟩
    intro i u hu
    match i with
    | 0 => obtain rfl := Option.some.inj hu; exact (hcell 1).trans rfl
    | i + 1 => cases hu
  | j + 2 => cases hj
theorem rows3 (W : World) {A0 A1 A2 : Option Addr} {c0 c1 c2 : Nat} {l0 l1 l2 : List TC} (h0 : Kd.C k45 W A0 l0.length l0) (g0 : l0.length ≤ c0) (h1 : Kd.C k45 W A1 l1.length l1) (g1 : l1.length ≤ c1) (h2 : Kd.C k45 W A2 l2.length l2) (g2 : l2.length ≤ c2) :
    Kd.C (Kd.slice 45 k45) (W.alloc (.cells #[.slice A0 l0.length c0, .slice A1 l1.length c1, .slice A2 l2.length c2] 22)) (some ⟨W.heap.size, 0, none⟩) [l0, l1, l2].length [l0, l1, l2] := by
  refine ⟨rfl, by simp, fun _ => ⟨_, rfl, fun j p hj => ?_⟩⟩
  have hcell := fun i => blk_cell (blk_new W (.cells #[.slice A0 l0.length c0, .slice A1 l1.length c1, .slice A2 l2.length c2] 22)) i
  match j with
  | 0 =>
    obtain rfl := Option.some.inj hj
    refine ⟨[.slice A0 l0.length c0], rfl, ⟨A0, c0, rfl, g0, Kd.C_alloc h0 _⟩, ?_⟩
    intro i u hu
    match i with
    | 0 => obtain rfl := Option.some.inj hu; exact (hcell 0).trans rfl
    | i + 1 => cases hu
  | 1 =>
    obtain rfl := Option.some.inj hj
    refine ⟨[.slice A1 l1.length c1], rfl, ⟨A1, c1, rfl, g1, Kd.C_alloc h1 _⟩, ?_⟩
    intro i u hu
    match i with
    | 0 => obtain rfl := Option.some.inj hu; exact (hcell 1).trans rfl
    | i + 1 => cases hu
  | 2 =>
    obtain rfl := Option.some.inj hj
    refine ⟨[.slice A2 l2.length c2], rfl, ⟨A2, c2, rfl, g2, Kd.C_alloc h2 _⟩, ?_⟩
    intro i u hu
    match i with
    | 0 => obtain rfl := Option.some.inj hu; exact (hcell 2).trans rfl
    | i + 1 => cases hu
  | j + 3 => cases hj
set_option maxHeartbeats 8000000 in
set_option maxRecDepth 100000 in
theorem ScoreMerges_calls (w : World) (A0 A1 A2 : Option Addr) (c0 c1 c2 : Nat) (l0 l1 l2 : List TC) (h0 : Kd.C k45 w A0 l0.length l0) (g0 : l0.length ≤ c0) (h1 : Kd.C k45 w A1 l1.length l1) (g1 : l1.length ≤ c1) (h2 : Kd.C k45 w A2 l2.length l2) (g2 : l2.length ≤ c2) :
    Calls Try.prog 3 #[.slice A0 l0.length c0, .slice A1 l1.length c1, .slice A2 l2.length c2] w fun e w' => e = .returned (.bool true) ∧ Below w.heap.size w w' := by
  obtain ⟨b0, f0, q0⟩ := few_val l0 h0.2.1
  obtain ⟨b1, f1, q1⟩ := few_val l1 h1.2.1
  obtain ⟨b2, f2, q2⟩ := few_val l2 h2.2.1
  have HB0 := Aside0.mk (Below.refl w.heap.size w)
  have L0 := Aside0.mk h0
  have HC0 := Aside0.mk g0
  have HF0 := Aside0.mk f0
  have L1 := Aside0.mk h1
  have HC1 := Aside0.mk g1
  have HF1 := Aside0.mk f1
  have L2 := Aside0.mk h2
  have HC2 := Aside0.mk g2
  have HF2 := Aside0.mk f2
  clear h0 h1 h2 g0 g1 g2 f0 f1 f2
  have q := And.intro q0 (And.intro q1 q2)
  clear q0 q1 q2
  have QQ := Aside0.mk q
  clear q
  cases b0 with
  | false =>
    go_enter Try.func3, Try.ntmps3
    go_wp2_with fail
    refine (sackbutlaw23_awake.calls 100 true _ awake_val).mono ?_
    rintro e W1 ⟨rfl, hb⟩
    have HB1 : Aside0 (Below w.heap.size w W1) := ⟨below_then (by repeat (first | (with_reducible first | exact HB0.out | apply below_alloc | apply pw_below_drewN | apply below_drew1) | exact HB0.out)) (below_size (by repeat (first | (with_reducible first | exact HB0.out | apply below_alloc | apply pw_below_drewN | apply below_drew1) | exact HB0.out))) hb⟩
    have L01 : Aside0 (Kd.C k45 W1 A0 l0.length l0) := ⟨Kd.C_below (by repeat (first | exact L0.out | apply Kd.C_alloc | apply Kd.C_drewN | apply Kd.C_drew)) hb⟩
    clear L0
    have L11 : Aside0 (Kd.C k45 W1 A1 l1.length l1) := ⟨Kd.C_below (by repeat (first | exact L1.out | apply Kd.C_alloc | apply Kd.C_drewN | apply Kd.C_drew)) hb⟩
    clear L1
    have L21 : Aside0 (Kd.C k45 W1 A2 l2.length l2) := ⟨Kd.C_below (by repeat (first | exact L2.out | apply Kd.C_alloc | apply Kd.C_drewN | apply Kd.C_drew)) hb⟩
    clear L2
    clear HB0
    clear hb
    go_wp2_with fail
    refine (sackbutlaw23_few.calls (l0.length + 1) A0 c0 l0 false _ (by repeat (first | exact L01.out | apply Kd.C_alloc | apply Kd.C_drewN | apply Kd.C_drew)) HC0.out HF0.out).mono ?_
    rintro e W2 ⟨rfl, hb⟩
    have HB2 : Aside0 (Below w.heap.size w W2) := ⟨below_then (by repeat (first | (with_reducible first | exact HB1.out | apply below_alloc | apply pw_below_drewN | apply below_drew1) | exact HB1.out)) (below_size (by repeat (first | (with_reducible first | exact HB1.out | apply below_alloc | apply pw_below_drewN | apply below_drew1) | exact HB1.out))) hb⟩
    have L02 : Aside0 (Kd.C k45 W2 A0 l0.length l0) := ⟨Kd.C_below (by repeat (first | exact L01.out | apply Kd.C_alloc | apply Kd.C_drewN | apply Kd.C_drew)) hb⟩
    clear L01
    have L12 : Aside0 (Kd.C k45 W2 A1 l1.length l1) := ⟨Kd.C_below (by repeat (first | exact L11.out | apply Kd.C_alloc | apply Kd.C_drewN | apply Kd.C_drew)) hb⟩
    clear L11
    have L22 : Aside0 (Kd.C k45 W2 A2 l2.length l2) := ⟨Kd.C_below (by repeat (first | exact L21.out | apply Kd.C_alloc | apply Kd.C_drewN | apply Kd.C_drew)) hb⟩
    clear L21
    clear HB1
    clear hb
    go_wp2_with fail
    refine (sackbutlaw23_awake.calls 100 true _ awake_val).mono ?_
    rintro e W3 ⟨rfl, hb⟩
    have HB3 : Aside0 (Below w.heap.size w W3) := ⟨below_then (by repeat (first | (with_reducible first | exact HB2.out | apply below_alloc | apply pw_below_drewN | apply below_drew1) | exact HB2.out)) (below_size (by repeat (first | (with_reducible first | exact HB2.out | apply below_alloc | apply pw_below_drewN | apply below_drew1) | exact HB2.out))) hb⟩
    have L03 : Aside0 (Kd.C k45 W3 A0 l0.length l0) := ⟨Kd.C_below (by repeat (first | exact L02.out | apply Kd.C_alloc | apply Kd.C_drewN | apply Kd.C_drew)) hb⟩
    clear L02
    have L13 : Aside0 (Kd.C k45 W3 A1 l1.length l1) := ⟨Kd.C_below (by repeat (first | exact L12.out | apply Kd.C_alloc | apply Kd.C_drewN | apply Kd.C_drew)) hb⟩
    clear L12
    have L23 : Aside0 (Kd.C k45 W3 A2 l2.length l2) := ⟨Kd.C_below (by repeat (first | exact L22.out | apply Kd.C_alloc | apply Kd.C_drewN | apply Kd.C_drew)) hb⟩
    clear L22
    clear HB2
    clear hb
    go_wp2
    go_ret
    first | exact ⟨rfl, (by repeat (first | (with_reducible first | exact HB3.out | apply below_alloc | apply pw_below_drewN | apply below_drew1) | exact HB3.out))⟩ | exact ⟨by simp, (by repeat (first | (with_reducible first | exact HB3.out | apply below_alloc | apply pw_below_drewN | apply below_drew1) | exact HB3.out))⟩
  | true =>
    cases b1 with
    | false =>
      go_enter Try.func3, Try.ntmps3
      go_wp2_with fail
      refine (sackbutlaw23_awake.calls 100 true _ awake_val).mono ?_
      rintro e W1 ⟨rfl, hb⟩
      have HB1 : Aside0 (Below w.heap.size w W1) := ⟨below_then (by repeat (first | (with_reducible first | exact HB0.out | apply below_alloc | apply pw_below_drewN | apply below_drew1) | exact HB0.out)) (below_size (by repeat (first | (with_reducible first | exact HB0.out | apply below_alloc | apply pw_below_drewN | apply below_drew1) | exact HB0.out))) hb⟩
      have L01 : Aside0 (Kd.C k45 W1 A0 l0.length l0) := ⟨Kd.C_below (by repeat (first | exact L0.out | apply Kd.C_alloc | apply Kd.C_drewN | apply Kd.C_drew)) hb⟩
      clear L0
      have L11 : Aside0 (Kd.C k45 W1 A1 l1.length l1) := ⟨Kd.C_below (by repeat (first | exact L1.out | apply Kd.C_alloc | apply Kd.C_drewN | apply Kd.C_drew)) hb⟩
      clear L1
      have L21 : Aside0 (Kd.C k45 W1 A2 l2.length l2) := ⟨Kd.C_below (by repeat (first | exact L2.out | apply Kd.C_alloc | apply Kd.C_drewN | apply Kd.C_drew)) hb⟩
      clear L2
      clear HB0
      clear hb
      go_wp2_with fail
      refine (sackbutlaw23_few.calls (l0.length + 1) A0 c0 l0 true _ (by repeat (first | exact L01.out | apply Kd.C_alloc | apply Kd.C_drewN | apply Kd.C_drew)) HC0.out HF0.out).mono ?_
      rintro e W2 ⟨rfl, hb⟩
      have HB2 : Aside0 (Below w.heap.size w W2) := ⟨below_then (by repeat (first | (with_reducible first | exact HB1.out | apply below_alloc | apply pw_below_drewN | apply below_drew1) | exact HB1.out)) (below_size (by repeat (first | (with_reducible first | exact HB1.out | apply below_alloc | apply pw_below_drewN | apply below_drew1) | exact HB1.out))) hb⟩
      have L02 : Aside0 (Kd.C k45 W2 A0 l0.length l0) := ⟨Kd.C_below (by repeat (first | exact L01.out | apply Kd.C_alloc | apply Kd.C_drewN | apply Kd.C_drew)) hb⟩
      clear L01
      have L12 : Aside0 (Kd.C k45 W2 A1 l1.length l1) := ⟨Kd.C_below (by repeat (first | exact L11.out | apply Kd.C_alloc | apply Kd.C_drewN | apply Kd.C_drew)) hb⟩
      clear L11
      have L22 : Aside0 (Kd.C k45 W2 A2 l2.length l2) := ⟨Kd.C_below (by repeat (first | exact L21.out | apply Kd.C_alloc | apply Kd.C_drewN | apply Kd.C_drew)) hb⟩
      clear L21
      clear HB1
      clear hb
      go_wp2_with fail
      refine (sackbutlaw23_few.calls (l1.length + 1) A1 c1 l1 false _ (by repeat (first | exact L12.out | apply Kd.C_alloc | apply Kd.C_drewN | apply Kd.C_drew)) HC1.out HF1.out).mono ?_
      rintro e W3 ⟨rfl, hb⟩
      have HB3 : Aside0 (Below w.heap.size w W3) := ⟨below_then (by repeat (first | (with_reducible first | exact HB2.out | apply below_alloc | apply pw_below_drewN | apply below_drew1) | exact HB2.out)) (below_size (by repeat (first | (with_reducible first | exact HB2.out | apply below_alloc | apply pw_below_drewN | apply below_drew1) | exact HB2.out))) hb⟩
      have L03 : Aside0 (Kd.C k45 W3 A0 l0.length l0) := ⟨Kd.C_below (by repeat (first | exact L02.out | apply Kd.C_alloc | apply Kd.C_drewN | apply Kd.C_drew)) hb⟩
      clear L02
      have L13 : Aside0 (Kd.C k45 W3 A1 l1.length l1) := ⟨Kd.C_below (by repeat (first | exact L12.out | apply Kd.C_alloc | apply Kd.C_drewN | apply Kd.C_drew)) hb⟩
      clear L12
      have L23 : Aside0 (Kd.C k45 W3 A2 l2.length l2) := ⟨Kd.C_below (by repeat (first | exact L22.out | apply Kd.C_alloc | apply Kd.C_drewN | apply Kd.C_drew)) hb⟩
      clear L22
      clear HB2
      clear hb
      go_wp2_with fail
      refine (sackbutlaw23_awake.calls 100 true _ awake_val).mono ?_
      rintro e W4 ⟨rfl, hb⟩
      have HB4 : Aside0 (Below w.heap.size w W4) := ⟨below_then (by repeat (first | (with_reducible first | exact HB3.out | apply below_alloc | apply pw_below_drewN | apply below_drew1) | exact HB3.out)) (below_size (by repeat (first | (with_reducible first | exact HB3.out | apply below_alloc | apply pw_below_drewN | apply below_drew1) | exact HB3.out))) hb⟩
      have L04 : Aside0 (Kd.C k45 W4 A0 l0.length l0) := ⟨Kd.C_below (by repeat (first | exact L03.out | apply Kd.C_alloc | apply Kd.C_drewN | apply Kd.C_drew)) hb⟩
      clear L03
      have L14 : Aside0 (Kd.C k45 W4 A1 l1.length l1) := ⟨Kd.C_below (by repeat (first | exact L13.out | apply Kd.C_alloc | apply Kd.C_drewN | apply Kd.C_drew)) hb⟩
      clear L13
      have L24 : Aside0 (Kd.C k45 W4 A2 l2.length l2) := ⟨Kd.C_below (by repeat (first | exact L23.out | apply Kd.C_alloc | apply Kd.C_drewN | apply Kd.C_drew)) hb⟩
      clear L23
      clear HB3
      clear hb
      go_wp2
      go_ret
      first | exact ⟨rfl, (by repeat (first | (with_reducible first | exact HB4.out | apply below_alloc | apply pw_below_drewN | apply below_drew1) | exact HB4.out))⟩ | exact ⟨by simp, (by repeat (first | (with_reducible first | exact HB4.out | apply below_alloc | apply pw_below_drewN | apply below_drew1) | exact HB4.out))⟩
    | true =>
      cases b2 with
      | false =>
        go_enter Try.func3, Try.ntmps3
        go_wp2_with fail
        refine (sackbutlaw23_awake.calls 100 true _ awake_val).mono ?_
        rintro e W1 ⟨rfl, hb⟩
        have HB1 : Aside0 (Below w.heap.size w W1) := ⟨below_then (by repeat (first | (with_reducible first | exact HB0.out | apply below_alloc | apply pw_below_drewN | apply below_drew1) | exact HB0.out)) (below_size (by repeat (first | (with_reducible first | exact HB0.out | apply below_alloc | apply pw_below_drewN | apply below_drew1) | exact HB0.out))) hb⟩
        have L01 : Aside0 (Kd.C k45 W1 A0 l0.length l0) := ⟨Kd.C_below (by repeat (first | exact L0.out | apply Kd.C_alloc | apply Kd.C_drewN | apply Kd.C_drew)) hb⟩
        clear L0
        have L11 : Aside0 (Kd.C k45 W1 A1 l1.length l1) := ⟨Kd.C_below (by repeat (first | exact L1.out | apply Kd.C_alloc | apply Kd.C_drewN | apply Kd.C_drew)) hb⟩
        clear L1
        have L21 : Aside0 (Kd.C k45 W1 A2 l2.length l2) := ⟨Kd.C_below (by repeat (first | exact L2.out | apply Kd.C_alloc | apply Kd.C_drewN | apply Kd.C_drew)) hb⟩
        clear L2
        clear HB0
        clear hb
        go_wp2_with fail
        refine (sackbutlaw23_few.calls (l0.length + 1) A0 c0 l0 true _ (by repeat (first | exact L01.out | apply Kd.C_alloc | apply Kd.C_drewN | apply Kd.C_drew)) HC0.out HF0.out).mono ?_
        rintro e W2 ⟨rfl, hb⟩
        have HB2 : Aside0 (Below w.heap.size w W2) := ⟨below_then (by repeat (first | (with_reducible first | exact HB1.out | apply below_alloc | apply pw_below_drewN | apply below_drew1) | exact HB1.out)) (below_size (by repeat (first | (with_reducible first | exact HB1.out | apply below_alloc | apply pw_below_drewN | apply below_drew1) | exact HB1.out))) hb⟩
        have L02 : Aside0 (Kd.C k45 W2 A0 l0.length l0) := ⟨Kd.C_below (by repeat (first | exact L01.out | apply Kd.C_alloc | apply Kd.C_drewN | apply Kd.C_drew)) hb⟩
        clear L01
        have L12 : Aside0 (Kd.C k45 W2 A1 l1.length l1) := ⟨Kd.C_below (by repeat (first | exact L11.out | apply Kd.C_alloc | apply Kd.C_drewN | apply Kd.C_drew)) hb⟩
        clear L11
        have L22 : Aside0 (Kd.C k45 W2 A2 l2.length l2) := ⟨Kd.C_below (by repeat (first | exact L21.out | apply Kd.C_alloc | apply Kd.C_drewN | apply Kd.C_drew)) hb⟩
        clear L21
        clear HB1
        clear hb
        go_wp2_with fail
        refine (sackbutlaw23_few.calls (l1.length + 1) A1 c1 l1 true _ (by repeat (first | exact L12.out | apply Kd.C_alloc | apply Kd.C_drewN | apply Kd.C_drew)) HC1.out HF1.out).mono ?_
        rintro e W3 ⟨rfl, hb⟩
        have HB3 : Aside0 (Below w.heap.size w W3) := ⟨below_then (by repeat (first | (with_reducible first | exact HB2.out | apply below_alloc | apply pw_below_drewN | apply below_drew1) | exact HB2.out)) (below_size (by repeat (first | (with_reducible first | exact HB2.out | apply below_alloc | apply pw_below_drewN | apply below_drew1) | exact HB2.out))) hb⟩
        have L03 : Aside0 (Kd.C k45 W3 A0 l0.length l0) := ⟨Kd.C_below (by repeat (first | exact L02.out | apply Kd.C_alloc | apply Kd.C_drewN | apply Kd.C_drew)) hb⟩
        clear L02
        have L13 : Aside0 (Kd.C k45 W3 A1 l1.length l1) := ⟨Kd.C_below (by repeat (first | exact L12.out | apply Kd.C_alloc | apply Kd.C_drewN | apply Kd.C_drew)) hb⟩
        clear L12
        have L23 : Aside0 (Kd.C k45 W3 A2 l2.length l2) := ⟨Kd.C_below (by repeat (first | exact L22.out | apply Kd.C_alloc | apply Kd.C_drewN | apply Kd.C_drew)) hb⟩
        clear L22
        clear HB2
        clear hb
        go_wp2_with fail
        refine (sackbutlaw23_few.calls (l2.length + 1) A2 c2 l2 false _ (by repeat (first | exact L23.out | apply Kd.C_alloc | apply Kd.C_drewN | apply Kd.C_drew)) HC2.out HF2.out).mono ?_
        rintro e W4 ⟨rfl, hb⟩
        have HB4 : Aside0 (Below w.heap.size w W4) := ⟨below_then (by repeat (first | (with_reducible first | exact HB3.out | apply below_alloc | apply pw_below_drewN | apply below_drew1) | exact HB3.out)) (below_size (by repeat (first | (with_reducible first | exact HB3.out | apply below_alloc | apply pw_below_drewN | apply below_drew1) | exact HB3.out))) hb⟩
        have L04 : Aside0 (Kd.C k45 W4 A0 l0.length l0) := ⟨Kd.C_below (by repeat (first | exact L03.out | apply Kd.C_alloc | apply Kd.C_drewN | apply Kd.C_drew)) hb⟩
        clear L03
        have L14 : Aside0 (Kd.C k45 W4 A1 l1.length l1) := ⟨Kd.C_below (by repeat (first | exact L13.out | apply Kd.C_alloc | apply Kd.C_drewN | apply Kd.C_drew)) hb⟩
        clear L13
        have L24 : Aside0 (Kd.C k45 W4 A2 l2.length l2) := ⟨Kd.C_below (by repeat (first | exact L23.out | apply Kd.C_alloc | apply Kd.C_drewN | apply Kd.C_drew)) hb⟩
        clear L23
        clear HB3
        clear hb
        go_wp2_with fail
        refine (sackbutlaw23_awake.calls 100 true _ awake_val).mono ?_
        rintro e W5 ⟨rfl, hb⟩
        have HB5 : Aside0 (Below w.heap.size w W5) := ⟨below_then (by repeat (first | (with_reducible first | exact HB4.out | apply below_alloc | apply pw_below_drewN | apply below_drew1) | exact HB4.out)) (below_size (by repeat (first | (with_reducible first | exact HB4.out | apply below_alloc | apply pw_below_drewN | apply below_drew1) | exact HB4.out))) hb⟩
        have L05 : Aside0 (Kd.C k45 W5 A0 l0.length l0) := ⟨Kd.C_below (by repeat (first | exact L04.out | apply Kd.C_alloc | apply Kd.C_drewN | apply Kd.C_drew)) hb⟩
        clear L04
        have L15 : Aside0 (Kd.C k45 W5 A1 l1.length l1) := ⟨Kd.C_below (by repeat (first | exact L14.out | apply Kd.C_alloc | apply Kd.C_drewN | apply Kd.C_drew)) hb⟩
        clear L14
        have L25 : Aside0 (Kd.C k45 W5 A2 l2.length l2) := ⟨Kd.C_below (by repeat (first | exact L24.out | apply Kd.C_alloc | apply Kd.C_drewN | apply Kd.C_drew)) hb⟩
        clear L24
        clear HB4
        clear hb
        go_wp2
        go_ret
        first | exact ⟨rfl, (by repeat (first | (with_reducible first | exact HB5.out | apply below_alloc | apply pw_below_drewN | apply below_drew1) | exact HB5.out))⟩ | exact ⟨by simp, (by repeat (first | (with_reducible first | exact HB5.out | apply below_alloc | apply pw_below_drewN | apply below_drew1) | exact HB5.out))⟩
      | true =>
        have SZ0 := Aside0.mk (QQ.out.1 rfl).2
        have SZ1 := Aside0.mk (QQ.out.2.1 rfl).2
        have SZ2 := Aside0.mk (QQ.out.2.2 rfl).2
        have LEN : Aside0 (l0.length ≤ 130 ∧ l1.length ≤ 130 ∧ l2.length ≤ 130 ∧ (M2T l0 l1).length ≤ 260 ∧ (M2T (M2T l0 l1) l2).length ≤ 390) := ⟨by
          have := (QQ.out.1 rfl).1
          have := (QQ.out.2.1 rfl).1
          have := (QQ.out.2.2 rfl).1
          have := m2_len l0 l1
          have := m2_len (M2T l0 l1) l2
          omega⟩
        clear QQ
        cases hg0 : goodB l0 with
        | false =>
          have G0 := Aside0.mk hg0
          clear hg0
          have Mm : Aside0 (mergeF [l0, l1] = ([], 2)) := ⟨merge_bad _ (by simp [G0.out])⟩
          have Mn : Aside0 (mergeF [l0, l1, l2] = ([], 2)) := ⟨merge_bad _ (by simp [G0.out])⟩
          go_enter Try.func3, Try.ntmps3
          go_wp2_with fail
          refine (sackbutlaw23_awake.calls 100 true _ awake_val).mono ?_
          rintro e W1 ⟨rfl, hb⟩
          have HB1 : Aside0 (Below w.heap.size w W1) := ⟨below_then (by repeat (first | (with_reducible first | exact HB0.out | apply below_alloc | apply pw_below_drewN | apply below_drew1) | exact HB0.out)) (below_size (by repeat (first | (with_reducible first | exact HB0.out | apply below_alloc | apply pw_below_drewN | apply below_drew1) | exact HB0.out))) hb⟩
          have L01 : Aside0 (Kd.C k45 W1 A0 l0.length l0) := ⟨Kd.C_below (by repeat (first | exact L0.out | apply Kd.C_alloc | apply Kd.C_drewN | apply Kd.C_drew)) hb⟩
          clear L0
          have L11 : Aside0 (Kd.C k45 W1 A1 l1.length l1) := ⟨Kd.C_below (by repeat (first | exact L1.out | apply Kd.C_alloc | apply Kd.C_drewN | apply Kd.C_drew)) hb⟩
          clear L1
          have L21 : Aside0 (Kd.C k45 W1 A2 l2.length l2) := ⟨Kd.C_below (by repeat (first | exact L2.out | apply Kd.C_alloc | apply Kd.C_drewN | apply Kd.C_drew)) hb⟩
          clear L2
          clear HB0
          clear hb
          go_wp2_with fail
          refine (sackbutlaw23_few.calls (l0.length + 1) A0 c0 l0 true _ (by repeat (first | exact L01.out | apply Kd.C_alloc | apply Kd.C_drewN | apply Kd.C_drew)) HC0.out HF0.out).mono ?_
          rintro e W2 ⟨rfl, hb⟩
          have HB2 : Aside0 (Below w.heap.size w W2) := ⟨below_then (by repeat (first | (with_reducible first | exact HB1.out | apply below_alloc | apply pw_below_drewN | apply below_drew1) | exact HB1.out)) (below_size (by repeat (first | (with_reducible first | exact HB1.out | apply below_alloc | apply pw_below_drewN | apply below_drew1) | exact HB1.out))) hb⟩
          have L02 : Aside0 (Kd.C k45 W2 A0 l0.length l0) := ⟨Kd.C_below (by repeat (first | exact L01.out | apply Kd.C_alloc | apply Kd.C_drewN | apply Kd.C_drew)) hb⟩
          clear L01
          have L12 : Aside0 (Kd.C k45 W2 A1 l1.length l1) := ⟨Kd.C_below (by repeat (first | exact L11.out | apply Kd.C_alloc | apply Kd.C_drewN | apply Kd.C_drew)) hb⟩
          clear L11
          have L22 : Aside0 (Kd.C k45 W2 A2 l2.length l2) := ⟨Kd.C_below (by repeat (first | exact L21.out | apply Kd.C_alloc | apply Kd.C_drewN | apply Kd.C_drew)) hb⟩
          clear L21
          clear HB1
          clear hb
          go_wp2_with fail
          refine (sackbutlaw23_few.calls (l1.length + 1) A1 c1 l1 true _ (by repeat (first | exact L12.out | apply Kd.C_alloc | apply Kd.C_drewN | apply Kd.C_drew)) HC1.out HF1.out).mono ?_
          rintro e W3 ⟨rfl, hb⟩
          have HB3 : Aside0 (Below w.heap.size w W3) := ⟨below_then (by repeat (first | (with_reducible first | exact HB2.out | apply below_alloc | apply pw_below_drewN | apply below_drew1) | exact HB2.out)) (below_size (by repeat (first | (with_reducible first | exact HB2.out | apply below_alloc | apply pw_below_drewN | apply below_drew1) | exact HB2.out))) hb⟩
          have L03 : Aside0 (Kd.C k45 W3 A0 l0.length l0) := ⟨Kd.C_below (by repeat (first | exact L02.out | apply Kd.C_alloc | apply Kd.C_drewN | apply Kd.C_drew)) hb⟩
          clear L02
          have L13 : Aside0 (Kd.C k45 W3 A1 l1.length l1) := ⟨Kd.C_below (by repeat (first | exact L12.out | apply Kd.C_alloc | apply Kd.C_drewN | apply Kd.C_drew)) hb⟩
          clear L12
          have L23 : Aside0 (Kd.C k45 W3 A2 l2.length l2) := ⟨Kd.C_below (by repeat (first | exact L22.out | apply Kd.C_alloc | apply Kd.C_drewN | apply Kd.C_drew)) hb⟩
          clear L22
          clear HB2
          clear hb
          go_wp2_with fail
          refine (sackbutlaw23_few.calls (l2.length + 1) A2 c2 l2 true _ (by repeat (first | exact L23.out | apply Kd.C_alloc | apply Kd.C_drewN | apply Kd.C_drew)) HC2.out HF2.out).mono ?_
          rintro e W4 ⟨rfl, hb⟩
          have HB4 : Aside0 (Below w.heap.size w W4) := ⟨below_then (by repeat (first | (with_reducible first | exact HB3.out | apply below_alloc | apply pw_below_drewN | apply below_drew1) | exact HB3.out)) (below_size (by repeat (first | (with_reducible first | exact HB3.out | apply below_alloc | apply pw_below_drewN | apply below_drew1) | exact HB3.out))) hb⟩
          have L04 : Aside0 (Kd.C k45 W4 A0 l0.length l0) := ⟨Kd.C_below (by repeat (first | exact L03.out | apply Kd.C_alloc | apply Kd.C_drewN | apply Kd.C_drew)) hb⟩
          clear L03
          have L14 : Aside0 (Kd.C k45 W4 A1 l1.length l1) := ⟨Kd.C_below (by repeat (first | exact L13.out | apply Kd.C_alloc | apply Kd.C_drewN | apply Kd.C_drew)) hb⟩
          clear L13
          have L24 : Aside0 (Kd.C k45 W4 A2 l2.length l2) := ⟨Kd.C_below (by repeat (first | exact L23.out | apply Kd.C_alloc | apply Kd.C_drewN | apply Kd.C_drew)) hb⟩
          clear L23
          clear HB3
          clear hb
          go_wp2_with fail
          refine (Merge_calls _ _ _ [l0, l1] (rows2 _ (by repeat (first | exact L04.out | apply Kd.C_alloc | apply Kd.C_drewN | apply Kd.C_drew)) HC0.out (by repeat (first | exact L14.out | apply Kd.C_alloc | apply Kd.C_drewN | apply Kd.C_drew)) HC1.out) (Nat.le_refl _) (by simp)).mono ?_
          rintro e W5 ⟨vm, rfl, hr, hb⟩
          have HB5 : Aside0 (Below w.heap.size w W5) := ⟨below_then (by repeat (first | (with_reducible first | exact HB4.out | apply below_alloc | apply pw_below_drewN | apply below_drew1) | exact HB4.out)) (below_size (by repeat (first | (with_reducible first | exact HB4.out | apply below_alloc | apply pw_below_drewN | apply below_drew1) | exact HB4.out))) hb⟩
          have L05 : Aside0 (Kd.C k45 W5 A0 l0.length l0) := ⟨Kd.C_below (by repeat (first | exact L04.out | apply Kd.C_alloc | apply Kd.C_drewN | apply Kd.C_drew)) hb⟩
          clear L04
          have L15 : Aside0 (Kd.C k45 W5 A1 l1.length l1) := ⟨Kd.C_below (by repeat (first | exact L14.out | apply Kd.C_alloc | apply Kd.C_drewN | apply Kd.C_drew)) hb⟩
          clear L14
          have L25 : Aside0 (Kd.C k45 W5 A2 l2.length l2) := ⟨Kd.C_below (by repeat (first | exact L24.out | apply Kd.C_alloc | apply Kd.C_drewN | apply Kd.C_drew)) hb⟩
          clear L24
          clear HB4
          rw [Mm.out] at hr ⊢
          obtain ⟨Am, cm, rfl, hle, hC⟩ := Kd.R_reads hr
          have Qm := Aside0.mk hC
          have Qmc := Aside0.mk hle
          clear hr hle hC hb
          go_wp2_with fail
          refine (Merge_calls _ _ _ [l0, l1, l2] (rows3 _ (by repeat (first | exact L05.out | apply Kd.C_alloc | apply Kd.C_drewN | apply Kd.C_drew)) HC0.out (by repeat (first | exact L15.out | apply Kd.C_alloc | apply Kd.C_drewN | apply Kd.C_drew)) HC1.out (by repeat (first | exact L25.out | apply Kd.C_alloc | apply Kd.C_drewN | apply Kd.C_drew)) HC2.out) (Nat.le_refl _) (by simp)).mono ?_
          rintro e W6 ⟨vn, rfl, hr, hb⟩
          have HB6 : Aside0 (Below w.heap.size w W6) := ⟨below_then (by repeat (first | (with_reducible first | exact HB5.out | apply below_alloc | apply pw_below_drewN | apply below_drew1) | exact HB5.out)) (below_size (by repeat (first | (with_reducible first | exact HB5.out | apply below_alloc | apply pw_below_drewN | apply below_drew1) | exact HB5.out))) hb⟩
          have L06 : Aside0 (Kd.C k45 W6 A0 l0.length l0) := ⟨Kd.C_below (by repeat (first | exact L05.out | apply Kd.C_alloc | apply Kd.C_drewN | apply Kd.C_drew)) hb⟩
          clear L05
          have L16 : Aside0 (Kd.C k45 W6 A1 l1.length l1) := ⟨Kd.C_below (by repeat (first | exact L15.out | apply Kd.C_alloc | apply Kd.C_drewN | apply Kd.C_drew)) hb⟩
          clear L15
          have L26 : Aside0 (Kd.C k45 W6 A2 l2.length l2) := ⟨Kd.C_below (by repeat (first | exact L25.out | apply Kd.C_alloc | apply Kd.C_drewN | apply Kd.C_drew)) hb⟩
          clear L25
          have Qm6 : Aside0 (Kd.C k45 W6 Am ([] : List TC).length ([] : List TC)) := ⟨Kd.C_below (by repeat (first | exact Qm.out | apply Kd.C_alloc | apply Kd.C_drewN | apply Kd.C_drew)) hb⟩
          clear Qm
          clear HB5
          rw [Mn.out] at hr ⊢
          obtain ⟨An, cn, rfl, hle, hC⟩ := Kd.R_reads hr
          have Qn := Aside0.mk hC
          have Qnc := Aside0.mk hle
          clear hr hle hC hb
          go_wp2_with fail
          refine (sackbutlaw23_ref.calls 1001 A0 c0 l0 (Rm l0) _ (by repeat (first | exact L06.out | apply Kd.C_alloc | apply Kd.C_drewN | apply Kd.C_drew)) HC0.out (ref_val l0 (by have := LEN.out; omega))).mono ?_
          rintro e W7 ⟨va, rfl, hr, hb⟩
          have HB7 : Aside0 (Below w.heap.size w W7) := ⟨below_then (by repeat (first | (with_reducible first | exact HB6.out | apply below_alloc | apply pw_below_drewN | apply below_drew1) | exact HB6.out)) (below_size (by repeat (first | (with_reducible first | exact HB6.out | apply below_alloc | apply pw_below_drewN | apply below_drew1) | exact HB6.out))) hb⟩
          have L07 : Aside0 (Kd.C k45 W7 A0 l0.length l0) := ⟨Kd.C_below (by repeat (first | exact L06.out | apply Kd.C_alloc | apply Kd.C_drewN | apply Kd.C_drew)) hb⟩
          clear L06
          have L17 : Aside0 (Kd.C k45 W7 A1 l1.length l1) := ⟨Kd.C_below (by repeat (first | exact L16.out | apply Kd.C_alloc | apply Kd.C_drewN | apply Kd.C_drew)) hb⟩
          clear L16
          have L27 : Aside0 (Kd.C k45 W7 A2 l2.length l2) := ⟨Kd.C_below (by repeat (first | exact L26.out | apply Kd.C_alloc | apply Kd.C_drewN | apply Kd.C_drew)) hb⟩
          clear L26
          have Qm7 : Aside0 (Kd.C k45 W7 Am ([] : List TC).length ([] : List TC)) := ⟨Kd.C_below (by repeat (first | exact Qm6.out | apply Kd.C_alloc | apply Kd.C_drewN | apply Kd.C_drew)) hb⟩
          clear Qm6
          have Qn7 : Aside0 (Kd.C k45 W7 An ([] : List TC).length ([] : List TC)) := ⟨Kd.C_below (by repeat (first | exact Qn.out | apply Kd.C_alloc | apply Kd.C_drewN | apply Kd.C_drew)) hb⟩
          clear Qn
          clear HB6
          have Qav := Aside0.mk (Kd.R_V (base' := w.heap.size) (Kd.R_mono (ok' := fun _ => True) hr (fun _ _ => trivial)))
          obtain ⟨Aa, ca, rfl, hle, hC⟩ := Kd.R_reads hr
          have Qa := Aside0.mk hC
          have Qac := Aside0.mk hle
          clear hr hle hC hb
          go_wp2_with fail
          refine (sackbutref23_Good.calls 2000 Aa ca (Rm l0) (goodB l0) _ (by repeat (first | exact Qa.out | apply Kd.C_alloc | apply Kd.C_drewN | apply Kd.C_drew)) Qac.out (good_ref l0 (by have := LEN.out; omega) SZ0.out)).mono ?_
          rintro e W8 ⟨rfl, hb⟩
          have HB8 : Aside0 (Below w.heap.size w W8) := ⟨below_then (by repeat (first | (with_reducible first | exact HB7.out | apply below_alloc | apply pw_below_drewN | apply below_drew1) | exact HB7.out)) (below_size (by repeat (first | (with_reducible first | exact HB7.out | apply below_alloc | apply pw_below_drewN | apply below_drew1) | exact HB7.out))) hb⟩
          have L08 : Aside0 (Kd.C k45 W8 A0 l0.length l0) := ⟨Kd.C_below (by repeat (first | exact L07.out | apply Kd.C_alloc | apply Kd.C_drewN | apply Kd.C_drew)) hb⟩
          clear L07
          have L18 : Aside0 (Kd.C k45 W8 A1 l1.length l1) := ⟨Kd.C_below (by repeat (first | exact L17.out | apply Kd.C_alloc | apply Kd.C_drewN | apply Kd.C_drew)) hb⟩
          clear L17
          have L28 : Aside0 (Kd.C k45 W8 A2 l2.length l2) := ⟨Kd.C_below (by repeat (first | exact L27.out | apply Kd.C_alloc | apply Kd.C_drewN | apply Kd.C_drew)) hb⟩
          clear L27
          have Qm8 : Aside0 (Kd.C k45 W8 Am ([] : List TC).length ([] : List TC)) := ⟨Kd.C_below (by repeat (first | exact Qm7.out | apply Kd.C_alloc | apply Kd.C_drewN | apply Kd.C_drew)) hb⟩
          clear Qm7
          have Qn8 : Aside0 (Kd.C k45 W8 An ([] : List TC).length ([] : List TC)) := ⟨Kd.C_below (by repeat (first | exact Qn7.out | apply Kd.C_alloc | apply Kd.C_drewN | apply Kd.C_drew)) hb⟩
          clear Qn7
          have Qa8 : Aside0 (Kd.C k58 W8 Aa (Rm l0).length (Rm l0)) := ⟨Kd.C_below (by repeat (first | exact Qa.out | apply Kd.C_alloc | apply Kd.C_drewN | apply Kd.C_drew)) hb⟩
          have Qav8 : Aside0 (Kd.V k58 58 W8 w.heap.size (fun _ => True) (.slice Aa (Rm l0).length ca) (Rm l0)) := ⟨Kd.V_below (by repeat (first | exact Qav.out | apply Kd.V_alloc | apply Kd.V_drewN | apply Kd.V_drew)) hb⟩
          clear Qa Qav
          clear HB7
          clear hb
          rw [G0.out]
          go_wp2
          go_ret
          first | exact ⟨rfl, (by repeat (first | (with_reducible first | exact HB8.out | apply below_alloc | apply pw_below_drewN | apply below_drew1) | exact HB8.out))⟩ | exact ⟨by simp, (by repeat (first | (with_reducible first | exact HB8.out | apply below_alloc | apply pw_below_drewN | apply below_drew1) | exact HB8.out))⟩
        | true =>
          have G0 := Aside0.mk hg0
          clear hg0
          cases hg1 : goodB l1 with
          | false =>
            have G1 := Aside0.mk hg1
            clear hg1
            have Mm : Aside0 (mergeF [l0, l1] = ([], 2)) := ⟨merge_bad _ (by simp [G0.out, G1.out])⟩
            have Mn : Aside0 (mergeF [l0, l1, l2] = ([], 2)) := ⟨merge_bad _ (by simp [G0.out, G1.out])⟩
            go_enter Try.func3, Try.ntmps3
            go_wp2_with fail
            refine (sackbutlaw23_awake.calls 100 true _ awake_val).mono ?_
            rintro e W1 ⟨rfl, hb⟩
            have HB1 : Aside0 (Below w.heap.size w W1) := ⟨below_then (by repeat (first | (with_reducible first | exact HB0.out | apply below_alloc | apply pw_below_drewN | apply below_drew1) | exact HB0.out)) (below_size (by repeat (first | (with_reducible first | exact HB0.out | apply below_alloc | apply pw_below_drewN | apply below_drew1) | exact HB0.out))) hb⟩
            have L01 : Aside0 (Kd.C k45 W1 A0 l0.length l0) := ⟨Kd.C_below (by repeat (first | exact L0.out | apply Kd.C_alloc | apply Kd.C_drewN | apply Kd.C_drew)) hb⟩
            clear L0
            have L11 : Aside0 (Kd.C k45 W1 A1 l1.length l1) := ⟨Kd.C_below (by repeat (first | exact L1.out | apply Kd.C_alloc | apply Kd.C_drewN | apply Kd.C_drew)) hb⟩
            clear L1
            have L21 : Aside0 (Kd.C k45 W1 A2 l2.length l2) := ⟨Kd.C_below (by repeat (first | exact L2.out | apply Kd.C_alloc | apply Kd.C_drewN | apply Kd.C_drew)) hb⟩
            clear L2
            clear HB0
            clear hb
            go_wp2_with fail
            refine (sackbutlaw23_few.calls (l0.length + 1) A0 c0 l0 true _ (by repeat (first | exact L01.out | apply Kd.C_alloc | apply Kd.C_drewN | apply Kd.C_drew)) HC0.out HF0.out).mono ?_
            rintro e W2 ⟨rfl, hb⟩
            have HB2 : Aside0 (Below w.heap.size w W2) := ⟨below_then (by repeat (first | (with_reducible first | exact HB1.out | apply below_alloc | apply pw_below_drewN | apply below_drew1) | exact HB1.out)) (below_size (by repeat (first | (with_reducible first | exact HB1.out | apply below_alloc | apply pw_below_drewN | apply below_drew1) | exact HB1.out))) hb⟩
            have L02 : Aside0 (Kd.C k45 W2 A0 l0.length l0) := ⟨Kd.C_below (by repeat (first | exact L01.out | apply Kd.C_alloc | apply Kd.C_drewN | apply Kd.C_drew)) hb⟩
            clear L01
            have L12 : Aside0 (Kd.C k45 W2 A1 l1.length l1) := ⟨Kd.C_below (by repeat (first | exact L11.out | apply Kd.C_alloc | apply Kd.C_drewN | apply Kd.C_drew)) hb⟩
            clear L11
            have L22 : Aside0 (Kd.C k45 W2 A2 l2.length l2) := ⟨Kd.C_below (by repeat (first | exact L21.out | apply Kd.C_alloc | apply Kd.C_drewN | apply Kd.C_drew)) hb⟩
            clear L21
            clear HB1
            clear hb
            go_wp2_with fail
            refine (sackbutlaw23_few.calls (l1.length + 1) A1 c1 l1 true _ (by repeat (first | exact L12.out | apply Kd.C_alloc | apply Kd.C_drewN | apply Kd.C_drew)) HC1.out HF1.out).mono ?_
            rintro e W3 ⟨rfl, hb⟩
            have HB3 : Aside0 (Below w.heap.size w W3) := ⟨below_then (by repeat (first | (with_reducible first | exact HB2.out | apply below_alloc | apply pw_below_drewN | apply below_drew1) | exact HB2.out)) (below_size (by repeat (first | (with_reducible first | exact HB2.out | apply below_alloc | apply pw_below_drewN | apply below_drew1) | exact HB2.out))) hb⟩
            have L03 : Aside0 (Kd.C k45 W3 A0 l0.length l0) := ⟨Kd.C_below (by repeat (first | exact L02.out | apply Kd.C_alloc | apply Kd.C_drewN | apply Kd.C_drew)) hb⟩
            clear L02
            have L13 : Aside0 (Kd.C k45 W3 A1 l1.length l1) := ⟨Kd.C_below (by repeat (first | exact L12.out | apply Kd.C_alloc | apply Kd.C_drewN | apply Kd.C_drew)) hb⟩
            clear L12
            have L23 : Aside0 (Kd.C k45 W3 A2 l2.length l2) := ⟨Kd.C_below (by repeat (first | exact L22.out | apply Kd.C_alloc | apply Kd.C_drewN | apply Kd.C_drew)) hb⟩
            clear L22
            clear HB2
            clear hb
            go_wp2_with fail
            refine (sackbutlaw23_few.calls (l2.length + 1) A2 c2 l2 true _ (by repeat (first | exact L23.out | apply Kd.C_alloc | apply Kd.C_drewN | apply Kd.C_drew)) HC2.out HF2.out).mono ?_
            rintro e W4 ⟨rfl, hb⟩
            have HB4 : Aside0 (Below w.heap.size w W4) := ⟨below_then (by repeat (first | (with_reducible first | exact HB3.out | apply below_alloc | apply pw_below_drewN | apply below_drew1) | exact HB3.out)) (below_size (by repeat (first | (with_reducible first | exact HB3.out | apply below_alloc | apply pw_below_drewN | apply below_drew1) | exact HB3.out))) hb⟩
            have L04 : Aside0 (Kd.C k45 W4 A0 l0.length l0) := ⟨Kd.C_below (by repeat (first | exact L03.out | apply Kd.C_alloc | apply Kd.C_drewN | apply Kd.C_drew)) hb⟩
            clear L03
            have L14 : Aside0 (Kd.C k45 W4 A1 l1.length l1) := ⟨Kd.C_below (by repeat (first | exact L13.out | apply Kd.C_alloc | apply Kd.C_drewN | apply Kd.C_drew)) hb⟩
            clear L13
            have L24 : Aside0 (Kd.C k45 W4 A2 l2.length l2) := ⟨Kd.C_below (by repeat (first | exact L23.out | apply Kd.C_alloc | apply Kd.C_drewN | apply Kd.C_drew)) hb⟩
            clear L23
            clear HB3
            clear hb
            go_wp2_with fail
            refine (Merge_calls _ _ _ [l0, l1] (rows2 _ (by repeat (first | exact L04.out | apply Kd.C_alloc | apply Kd.C_drewN | apply Kd.C_drew)) HC0.out (by repeat (first | exact L14.out | apply Kd.C_alloc | apply Kd.C_drewN | apply Kd.C_drew)) HC1.out) (Nat.le_refl _) (by simp)).mono ?_
            rintro e W5 ⟨vm, rfl, hr, hb⟩
            have HB5 : Aside0 (Below w.heap.size w W5) := ⟨below_then (by repeat (first | (with_reducible first | exact HB4.out | apply below_alloc | apply pw_below_drewN | apply below_drew1) | exact HB4.out)) (below_size (by repeat (first | (with_reducible first | exact HB4.out | apply below_alloc | apply pw_below_drewN | apply below_drew1) | exact HB4.out))) hb⟩
            have L05 : Aside0 (Kd.C k45 W5 A0 l0.length l0) := ⟨Kd.C_below (by repeat (first | exact L04.out | apply Kd.C_alloc | apply Kd.C_drewN | apply Kd.C_drew)) hb⟩
            clear L04
            have L15 : Aside0 (Kd.C k45 W5 A1 l1.length l1) := ⟨Kd.C_below (by repeat (first | exact L14.out | apply Kd.C_alloc | apply Kd.C_drewN | apply Kd.C_drew)) hb⟩
            clear L14
            have L25 : Aside0 (Kd.C k45 W5 A2 l2.length l2) := ⟨Kd.C_below (by repeat (first | exact L24.out | apply Kd.C_alloc | apply Kd.C_drewN | apply Kd.C_drew)) hb⟩
            clear L24
            clear HB4
            rw [Mm.out] at hr ⊢
            obtain ⟨Am, cm, rfl, hle, hC⟩ := Kd.R_reads hr
            have Qm := Aside0.mk hC
            have Qmc := Aside0.mk hle
            clear hr hle hC hb
            go_wp2_with fail
            refine (Merge_calls _ _ _ [l0, l1, l2] (rows3 _ (by repeat (first | exact L05.out | apply Kd.C_alloc | apply Kd.C_drewN | apply Kd.C_drew)) HC0.out (by repeat (first | exact L15.out | apply Kd.C_alloc | apply Kd.C_drewN | apply Kd.C_drew)) HC1.out (by repeat (first | exact L25.out | apply Kd.C_alloc | apply Kd.C_drewN | apply Kd.C_drew)) HC2.out) (Nat.le_refl _) (by simp)).mono ?_
            rintro e W6 ⟨vn, rfl, hr, hb⟩
            have HB6 : Aside0 (Below w.heap.size w W6) := ⟨below_then (by repeat (first | (with_reducible first | exact HB5.out | apply below_alloc | apply pw_below_drewN | apply below_drew1) | exact HB5.out)) (below_size (by repeat (first | (with_reducible first | exact HB5.out | apply below_alloc | apply pw_below_drewN | apply below_drew1) | exact HB5.out))) hb⟩
            have L06 : Aside0 (Kd.C k45 W6 A0 l0.length l0) := ⟨Kd.C_below (by repeat (first | exact L05.out | apply Kd.C_alloc | apply Kd.C_drewN | apply Kd.C_drew)) hb⟩
            clear L05
            have L16 : Aside0 (Kd.C k45 W6 A1 l1.length l1) := ⟨Kd.C_below (by repeat (first | exact L15.out | apply Kd.C_alloc | apply Kd.C_drewN | apply Kd.C_drew)) hb⟩
            clear L15
            have L26 : Aside0 (Kd.C k45 W6 A2 l2.length l2) := ⟨Kd.C_below (by repeat (first | exact L25.out | apply Kd.C_alloc | apply Kd.C_drewN | apply Kd.C_drew)) hb⟩
            clear L25
            have Qm6 : Aside0 (Kd.C k45 W6 Am ([] : List TC).length ([] : List TC)) := ⟨Kd.C_below (by repeat (first | exact Qm.out | apply Kd.C_alloc | apply Kd.C_drewN | apply Kd.C_drew)) hb⟩
            clear Qm
            clear HB5
            rw [Mn.out] at hr ⊢
            obtain ⟨An, cn, rfl, hle, hC⟩ := Kd.R_reads hr
            have Qn := Aside0.mk hC
            have Qnc := Aside0.mk hle
            clear hr hle hC hb
            go_wp2_with fail
            refine (sackbutlaw23_ref.calls 1001 A0 c0 l0 (Rm l0) _ (by repeat (first | exact L06.out | apply Kd.C_alloc | apply Kd.C_drewN | apply Kd.C_drew)) HC0.out (ref_val l0 (by have := LEN.out; omega))).mono ?_
            rintro e W7 ⟨va, rfl, hr, hb⟩
            have HB7 : Aside0 (Below w.heap.size w W7) := ⟨below_then (by repeat (first | (with_reducible first | exact HB6.out | apply below_alloc | apply pw_below_drewN | apply below_drew1) | exact HB6.out)) (below_size (by repeat (first | (with_reducible first | exact HB6.out | apply below_alloc | apply pw_below_drewN | apply below_drew1) | exact HB6.out))) hb⟩
            have L07 : Aside0 (Kd.C k45 W7 A0 l0.length l0) := ⟨Kd.C_below (by repeat (first | exact L06.out | apply Kd.C_alloc | apply Kd.C_drewN | apply Kd.C_drew)) hb⟩
            clear L06
            have L17 : Aside0 (Kd.C k45 W7 A1 l1.length l1) := ⟨Kd.C_below (by repeat (first | exact L16.out | apply Kd.C_alloc | apply Kd.C_drewN | apply Kd.C_drew)) hb⟩
            clear L16
            have L27 : Aside0 (Kd.C k45 W7 A2 l2.length l2) := ⟨Kd.C_below (by repeat (first | exact L26.out | apply Kd.C_alloc | apply Kd.C_drewN | apply Kd.C_drew)) hb⟩
            clear L26
            have Qm7 : Aside0 (Kd.C k45 W7 Am ([] : List TC).length ([] : List TC)) := ⟨Kd.C_below (by repeat (first | exact Qm6.out | apply Kd.C_alloc | apply Kd.C_drewN | apply Kd.C_drew)) hb⟩
            clear Qm6
            have Qn7 : Aside0 (Kd.C k45 W7 An ([] : List TC).length ([] : List TC)) := ⟨Kd.C_below (by repeat (first | exact Qn.out | apply Kd.C_alloc | apply Kd.C_drewN | apply Kd.C_drew)) hb⟩
            clear Qn
            clear HB6
            have Qav := Aside0.mk (Kd.R_V (base' := w.heap.size) (Kd.R_mono (ok' := fun _ => True) hr (fun _ _ => trivial)))
            obtain ⟨Aa, ca, rfl, hle, hC⟩ := Kd.R_reads hr
            have Qa := Aside0.mk hC
            have Qac := Aside0.mk hle
            clear hr hle hC hb
            go_wp2_with fail
            refine (sackbutref23_Good.calls 2000 Aa ca (Rm l0) (goodB l0) _ (by repeat (first | exact Qa.out | apply Kd.C_alloc | apply Kd.C_drewN | apply Kd.C_drew)) Qac.out (good_ref l0 (by have := LEN.out; omega) SZ0.out)).mono ?_
            rintro e W8 ⟨rfl, hb⟩
            have HB8 : Aside0 (Below w.heap.size w W8) := ⟨below_then (by repeat (first | (with_reducible first | exact HB7.out | apply below_alloc | apply pw_below_drewN | apply below_drew1) | exact HB7.out)) (below_size (by repeat (first | (with_reducible first | exact HB7.out | apply below_alloc | apply pw_below_drewN | apply below_drew1) | exact HB7.out))) hb⟩
            have L08 : Aside0 (Kd.C k45 W8 A0 l0.length l0) := ⟨Kd.C_below (by repeat (first | exact L07.out | apply Kd.C_alloc | apply Kd.C_drewN | apply Kd.C_drew)) hb⟩
            clear L07
            have L18 : Aside0 (Kd.C k45 W8 A1 l1.length l1) := ⟨Kd.C_below (by repeat (first | exact L17.out | apply Kd.C_alloc | apply Kd.C_drewN | apply Kd.C_drew)) hb⟩
            clear L17
            have L28 : Aside0 (Kd.C k45 W8 A2 l2.length l2) := ⟨Kd.C_below (by repeat (first | exact L27.out | apply Kd.C_alloc | apply Kd.C_drewN | apply Kd.C_drew)) hb⟩
            clear L27
            have Qm8 : Aside0 (Kd.C k45 W8 Am ([] : List TC).length ([] : List TC)) := ⟨Kd.C_below (by repeat (first | exact Qm7.out | apply Kd.C_alloc | apply Kd.C_drewN | apply Kd.C_drew)) hb⟩
            clear Qm7
            have Qn8 : Aside0 (Kd.C k45 W8 An ([] : List TC).length ([] : List TC)) := ⟨Kd.C_below (by repeat (first | exact Qn7.out | apply Kd.C_alloc | apply Kd.C_drewN | apply Kd.C_drew)) hb⟩
            clear Qn7
            have Qa8 : Aside0 (Kd.C k58 W8 Aa (Rm l0).length (Rm l0)) := ⟨Kd.C_below (by repeat (first | exact Qa.out | apply Kd.C_alloc | apply Kd.C_drewN | apply Kd.C_drew)) hb⟩
            have Qav8 : Aside0 (Kd.V k58 58 W8 w.heap.size (fun _ => True) (.slice Aa (Rm l0).length ca) (Rm l0)) := ⟨Kd.V_below (by repeat (first | exact Qav.out | apply Kd.V_alloc | apply Kd.V_drewN | apply Kd.V_drew)) hb⟩
            clear Qa Qav
            clear HB7
            clear hb
            rw [G0.out]
            go_wp2_with fail
            refine (sackbutlaw23_ref.calls 1001 A1 c1 l1 (Rm l1) _ (by repeat (first | exact L18.out | apply Kd.C_alloc | apply Kd.C_drewN | apply Kd.C_drew)) HC1.out (ref_val l1 (by have := LEN.out; omega))).mono ?_
            rintro e W9 ⟨vb, rfl, hr, hb⟩
            have HB9 : Aside0 (Below w.heap.size w W9) := ⟨below_then (by repeat (first | (with_reducible first | exact HB8.out | apply below_alloc | apply pw_below_drewN | apply below_drew1) | exact HB8.out)) (below_size (by repeat (first | (with_reducible first | exact HB8.out | apply below_alloc | apply pw_below_drewN | apply below_drew1) | exact HB8.out))) hb⟩
            have L09 : Aside0 (Kd.C k45 W9 A0 l0.length l0) := ⟨Kd.C_below (by repeat (first | exact L08.out | apply Kd.C_alloc | apply Kd.C_drewN | apply Kd.C_drew)) hb⟩
            clear L08
            have L19 : Aside0 (Kd.C k45 W9 A1 l1.length l1) := ⟨Kd.C_below (by repeat (first | exact L18.out | apply Kd.C_alloc | apply Kd.C_drewN | apply Kd.C_drew)) hb⟩
            clear L18
            have L29 : Aside0 (Kd.C k45 W9 A2 l2.length l2) := ⟨Kd.C_below (by repeat (first | exact L28.out | apply Kd.C_alloc | apply Kd.C_drewN | apply Kd.C_drew)) hb⟩
            clear L28
            have Qm9 : Aside0 (Kd.C k45 W9 Am ([] : List TC).length ([] : List TC)) := ⟨Kd.C_below (by repeat (first | exact Qm8.out | apply Kd.C_alloc | apply Kd.C_drewN | apply Kd.C_drew)) hb⟩
            clear Qm8
            have Qn9 : Aside0 (Kd.C k45 W9 An ([] : List TC).length ([] : List TC)) := ⟨Kd.C_below (by repeat (first | exact Qn8.out | apply Kd.C_alloc | apply Kd.C_drewN | apply Kd.C_drew)) hb⟩
            clear Qn8
            have Qa9 : Aside0 (Kd.C k58 W9 Aa (Rm l0).length (Rm l0)) := ⟨Kd.C_below (by repeat (first | exact Qa8.out | apply Kd.C_alloc | apply Kd.C_drewN | apply Kd.C_drew)) hb⟩
            have Qav9 : Aside0 (Kd.V k58 58 W9 w.heap.size (fun _ => True) (.slice Aa (Rm l0).length ca) (Rm l0)) := ⟨Kd.V_below (by repeat (first | exact Qav8.out | apply Kd.V_alloc | apply Kd.V_drewN | apply Kd.V_drew)) hb⟩
            clear Qa8 Qav8
            clear HB8
            have Qbv := Aside0.mk (Kd.R_V (base' := w.heap.size) (Kd.R_mono (ok' := fun _ => True) hr (fun _ _ => trivial)))
            obtain ⟨Ab, cb, rfl, hle, hC⟩ := Kd.R_reads hr
            have Qb := Aside0.mk hC
            have Qbc := Aside0.mk hle
            clear hr hle hC hb
            go_wp2_with fail
            refine (sackbutref23_Good.calls 2000 Ab cb (Rm l1) (goodB l1) _ (by repeat (first | exact Qb.out | apply Kd.C_alloc | apply Kd.C_drewN | apply Kd.C_drew)) Qbc.out (good_ref l1 (by have := LEN.out; omega) SZ1.out)).mono ?_
            rintro e W10 ⟨rfl, hb⟩
            have HB10 : Aside0 (Below w.heap.size w W10) := ⟨below_then (by repeat (first | (with_reducible first | exact HB9.out | apply below_alloc | apply pw_below_drewN | apply below_drew1) | exact HB9.out)) (below_size (by repeat (first | (with_reducible first | exact HB9.out | apply below_alloc | apply pw_below_drewN | apply below_drew1) | exact HB9.out))) hb⟩
            have L010 : Aside0 (Kd.C k45 W10 A0 l0.length l0) := ⟨Kd.C_below (by repeat (first | exact L09.out | apply Kd.C_alloc | apply Kd.C_drewN | apply Kd.C_drew)) hb⟩
            clear L09
            have L110 : Aside0 (Kd.C k45 W10 A1 l1.length l1) := ⟨Kd.C_below (by repeat (first | exact L19.out | apply Kd.C_alloc | apply Kd.C_drewN | apply Kd.C_drew)) hb⟩
            clear L19
            have L210 : Aside0 (Kd.C k45 W10 A2 l2.length l2) := ⟨Kd.C_below (by repeat (first | exact L29.out | apply Kd.C_alloc | apply Kd.C_drewN | apply Kd.C_drew)) hb⟩
            clear L29
            have Qm10 : Aside0 (Kd.C k45 W10 Am ([] : List TC).length ([] : List TC)) := ⟨Kd.C_below (by repeat (first | exact Qm9.out | apply Kd.C_alloc | apply Kd.C_drewN | apply Kd.C_drew)) hb⟩
            clear Qm9
            have Qn10 : Aside0 (Kd.C k45 W10 An ([] : List TC).length ([] : List TC)) := ⟨Kd.C_below (by repeat (first | exact Qn9.out | apply Kd.C_alloc | apply Kd.C_drewN | apply Kd.C_drew)) hb⟩
            clear Qn9
            have Qa10 : Aside0 (Kd.C k58 W10 Aa (Rm l0).length (Rm l0)) := ⟨Kd.C_below (by repeat (first | exact Qa9.out | apply Kd.C_alloc | apply Kd.C_drewN | apply Kd.C_drew)) hb⟩
            have Qav10 : Aside0 (Kd.V k58 58 W10 w.heap.size (fun _ => True) (.slice Aa (Rm l0).length ca) (Rm l0)) := ⟨Kd.V_below (by repeat (first | exact Qav9.out | apply Kd.V_alloc | apply Kd.V_drewN | apply Kd.V_drew)) hb⟩
            clear Qa9 Qav9
            have Qb10 : Aside0 (Kd.C k58 W10 Ab (Rm l1).length (Rm l1)) := ⟨Kd.C_below (by repeat (first | exact Qb.out | apply Kd.C_alloc | apply Kd.C_drewN | apply Kd.C_drew)) hb⟩
            have Qbv10 : Aside0 (Kd.V k58 58 W10 w.heap.size (fun _ => True) (.slice Ab (Rm l1).length cb) (Rm l1)) := ⟨Kd.V_below (by repeat (first | exact Qbv.out | apply Kd.V_alloc | apply Kd.V_drewN | apply Kd.V_drew)) hb⟩
            clear Qb Qbv
            clear HB9
            clear hb
            rw [G1.out]
            go_wp2
            go_ret
            first | exact ⟨rfl, (by repeat (first | (with_reducible first | exact HB10.out | apply below_alloc | apply pw_below_drewN | apply below_drew1) | exact HB10.out))⟩ | exact ⟨by simp, (by repeat (first | (with_reducible first | exact HB10.out | apply below_alloc | apply pw_below_drewN | apply below_drew1) | exact HB10.out))⟩
          | true =>
            have G1 := Aside0.mk hg1
            clear hg1
            by_cases hu : 100 < (M2T l0 l1).length
            · have Mm : Aside0 (mergeF [l0, l1] = ([], 15)) := ⟨(merge_two l0 l1 G0.out G1.out).trans (if_pos hu)⟩
              have du1 : decide (100 < (Rm (M2T l0 l1)).length) = true := by rw [rm_len]; exact decide_eq_true hu
              have du2 : decide (100 < ((Rm (M2T l0 l1)).length : Int)) = true := by rw [rm_len]; exact decide_eq_true (by omega)
              have du3 : decide ((Rm (M2T l0 l1)).length ≤ 100) = false := by rw [rm_len]; exact decide_eq_false (by omega)
              have du4 : decide (((Rm (M2T l0 l1)).length : Int) ≤ 100) = false := by rw [rm_len]; exact decide_eq_false (by omega)
              clear hu
              cases hg2 : goodB l2 with
              | false =>
                have G2 := Aside0.mk hg2
                have Mn : Aside0 (mergeF [l0, l1, l2] = ([], 2)) := ⟨merge_bad _ (by simp [hg2])⟩
                clear hg2
                go_enter Try.func3, Try.ntmps3
                go_wp2_with fail
                refine (sackbutlaw23_awake.calls 100 true _ awake_val).mono ?_
                rintro e W1 ⟨rfl, hb⟩
                have HB1 : Aside0 (Below w.heap.size w W1) := ⟨below_then (by repeat (first | (with_reducible first | exact HB0.out | apply below_alloc | apply pw_below_drewN | apply below_drew1) | exact HB0.out)) (below_size (by repeat (first | (with_reducible first | exact HB0.out | apply below_alloc | apply pw_below_drewN | apply below_drew1) | exact HB0.out))) hb⟩
                have L01 : Aside0 (Kd.C k45 W1 A0 l0.length l0) := ⟨Kd.C_below (by repeat (first | exact L0.out | apply Kd.C_alloc | apply Kd.C_drewN | apply Kd.C_drew)) hb⟩
                clear L0
                have L11 : Aside0 (Kd.C k45 W1 A1 l1.length l1) := ⟨Kd.C_below (by repeat (first | exact L1.out | apply Kd.C_alloc | apply Kd.C_drewN | apply Kd.C_drew)) hb⟩
                clear L1
                have L21 : Aside0 (Kd.C k45 W1 A2 l2.length l2) := ⟨Kd.C_below (by repeat (first | exact L2.out | apply Kd.C_alloc | apply Kd.C_drewN | apply Kd.C_drew)) hb⟩
                clear L2
                clear HB0
                clear hb
                go_wp2_with fail
                refine (sackbutlaw23_few.calls (l0.length + 1) A0 c0 l0 true _ (by repeat (first | exact L01.out | apply Kd.C_alloc | apply Kd.C_drewN | apply Kd.C_drew)) HC0.out HF0.out).mono ?_
                rintro e W2 ⟨rfl, hb⟩
                have HB2 : Aside0 (Below w.heap.size w W2) := ⟨below_then (by repeat (first | (with_reducible first | exact HB1.out | apply below_alloc | apply pw_below_drewN | apply below_drew1) | exact HB1.out)) (below_size (by repeat (first | (with_reducible first | exact HB1.out | apply below_alloc | apply pw_below_drewN | apply below_drew1) | exact HB1.out))) hb⟩
                have L02 : Aside0 (Kd.C k45 W2 A0 l0.length l0) := ⟨Kd.C_below (by repeat (first | exact L01.out | apply Kd.C_alloc | apply Kd.C_drewN | apply Kd.C_drew)) hb⟩
                clear L01
                have L12 : Aside0 (Kd.C k45 W2 A1 l1.length l1) := ⟨Kd.C_below (by repeat (first | exact L11.out | apply Kd.C_alloc | apply Kd.C_drewN | apply Kd.C_drew)) hb⟩
                clear L11
                have L22 : Aside0 (Kd.C k45 W2 A2 l2.length l2) := ⟨Kd.C_below (by repeat (first | exact L21.out | apply Kd.C_alloc | apply Kd.C_drewN | apply Kd.C_drew)) hb⟩
                clear L21
                clear HB1
                clear hb
                go_wp2_with fail
                refine (sackbutlaw23_few.calls (l1.length + 1) A1 c1 l1 true _ (by repeat (first | exact L12.out | apply Kd.C_alloc | apply Kd.C_drewN | apply Kd.C_drew)) HC1.out HF1.out).mono ?_
                rintro e W3 ⟨rfl, hb⟩
                have HB3 : Aside0 (Below w.heap.size w W3) := ⟨below_then (by repeat (first | (with_reducible first | exact HB2.out | apply below_alloc | apply pw_below_drewN | apply below_drew1) | exact HB2.out)) (below_size (by repeat (first | (with_reducible first | exact HB2.out | apply below_alloc | apply pw_below_drewN | apply below_drew1) | exact HB2.out))) hb⟩
                have L03 : Aside0 (Kd.C k45 W3 A0 l0.length l0) := ⟨Kd.C_below (by repeat (first | exact L02.out | apply Kd.C_alloc | apply Kd.C_drewN | apply Kd.C_drew)) hb⟩
                clear L02
                have L13 : Aside0 (Kd.C k45 W3 A1 l1.length l1) := ⟨Kd.C_below (by repeat (first | exact L12.out | apply Kd.C_alloc | apply Kd.C_drewN | apply Kd.C_drew)) hb⟩
                clear L12
                have L23 : Aside0 (Kd.C k45 W3 A2 l2.length l2) := ⟨Kd.C_below (by repeat (first | exact L22.out | apply Kd.C_alloc | apply Kd.C_drewN | apply Kd.C_drew)) hb⟩
                clear L22
                clear HB2
                clear hb
                go_wp2_with fail
                refine (sackbutlaw23_few.calls (l2.length + 1) A2 c2 l2 true _ (by repeat (first | exact L23.out | apply Kd.C_alloc | apply Kd.C_drewN | apply Kd.C_drew)) HC2.out HF2.out).mono ?_
                rintro e W4 ⟨rfl, hb⟩
                have HB4 : Aside0 (Below w.heap.size w W4) := ⟨below_then (by repeat (first | (with_reducible first | exact HB3.out | apply below_alloc | apply pw_below_drewN | apply below_drew1) | exact HB3.out)) (below_size (by repeat (first | (with_reducible first | exact HB3.out | apply below_alloc | apply pw_below_drewN | apply below_drew1) | exact HB3.out))) hb⟩
                have L04 : Aside0 (Kd.C k45 W4 A0 l0.length l0) := ⟨Kd.C_below (by repeat (first | exact L03.out | apply Kd.C_alloc | apply Kd.C_drewN | apply Kd.C_drew)) hb⟩
                clear L03
                have L14 : Aside0 (Kd.C k45 W4 A1 l1.length l1) := ⟨Kd.C_below (by repeat (first | exact L13.out | apply Kd.C_alloc | apply Kd.C_drewN | apply Kd.C_drew)) hb⟩
                clear L13
                have L24 : Aside0 (Kd.C k45 W4 A2 l2.length l2) := ⟨Kd.C_below (by repeat (first | exact L23.out | apply Kd.C_alloc | apply Kd.C_drewN | apply Kd.C_drew)) hb⟩
                clear L23
                clear HB3
                clear hb
                go_wp2_with fail
                refine (Merge_calls _ _ _ [l0, l1] (rows2 _ (by repeat (first | exact L04.out | apply Kd.C_alloc | apply Kd.C_drewN | apply Kd.C_drew)) HC0.out (by repeat (first | exact L14.out | apply Kd.C_alloc | apply Kd.C_drewN | apply Kd.C_drew)) HC1.out) (Nat.le_refl _) (by simp)).mono ?_
                rintro e W5 ⟨vm, rfl, hr, hb⟩
                have HB5 : Aside0 (Below w.heap.size w W5) := ⟨below_then (by repeat (first | (with_reducible first | exact HB4.out | apply below_alloc | apply pw_below_drewN | apply below_drew1) | exact HB4.out)) (below_size (by repeat (first | (with_reducible first | exact HB4.out | apply below_alloc | apply pw_below_drewN | apply below_drew1) | exact HB4.out))) hb⟩
                have L05 : Aside0 (Kd.C k45 W5 A0 l0.length l0) := ⟨Kd.C_below (by repeat (first | exact L04.out | apply Kd.C_alloc | apply Kd.C_drewN | apply Kd.C_drew)) hb⟩
                clear L04
                have L15 : Aside0 (Kd.C k45 W5 A1 l1.length l1) := ⟨Kd.C_below (by repeat (first | exact L14.out | apply Kd.C_alloc | apply Kd.C_drewN | apply Kd.C_drew)) hb⟩
                clear L14
                have L25 : Aside0 (Kd.C k45 W5 A2 l2.length l2) := ⟨Kd.C_below (by repeat (first | exact L24.out | apply Kd.C_alloc | apply Kd.C_drewN | apply Kd.C_drew)) hb⟩
                clear L24
                clear HB4
                rw [Mm.out] at hr ⊢
                obtain ⟨Am, cm, rfl, hle, hC⟩ := Kd.R_reads hr
                have Qm := Aside0.mk hC
                have Qmc := Aside0.mk hle
                clear hr hle hC hb
                go_wp2_with fail
                refine (Merge_calls _ _ _ [l0, l1, l2] (rows3 _ (by repeat (first | exact L05.out | apply Kd.C_alloc | apply Kd.C_drewN | apply Kd.C_drew)) HC0.out (by repeat (first | exact L15.out | apply Kd.C_alloc | apply Kd.C_drewN | apply Kd.C_drew)) HC1.out (by repeat (first | exact L25.out | apply Kd.C_alloc | apply Kd.C_drewN | apply Kd.C_drew)) HC2.out) (Nat.le_refl _) (by simp)).mono ?_
                rintro e W6 ⟨vn, rfl, hr, hb⟩
                have HB6 : Aside0 (Below w.heap.size w W6) := ⟨below_then (by repeat (first | (with_reducible first | exact HB5.out | apply below_alloc | apply pw_below_drewN | apply below_drew1) | exact HB5.out)) (below_size (by repeat (first | (with_reducible first | exact HB5.out | apply below_alloc | apply pw_below_drewN | apply below_drew1) | exact HB5.out))) hb⟩
                have L06 : Aside0 (Kd.C k45 W6 A0 l0.length l0) := ⟨Kd.C_below (by repeat (first | exact L05.out | apply Kd.C_alloc | apply Kd.C_drewN | apply Kd.C_drew)) hb⟩
                clear L05
                have L16 : Aside0 (Kd.C k45 W6 A1 l1.length l1) := ⟨Kd.C_below (by repeat (first | exact L15.out | apply Kd.C_alloc | apply Kd.C_drewN | apply Kd.C_drew)) hb⟩
                clear L15
                have L26 : Aside0 (Kd.C k45 W6 A2 l2.length l2) := ⟨Kd.C_below (by repeat (first | exact L25.out | apply Kd.C_alloc | apply Kd.C_drewN | apply Kd.C_drew)) hb⟩
                clear L25
                have Qm6 : Aside0 (Kd.C k45 W6 Am ([] : List TC).length ([] : List TC)) := ⟨Kd.C_below (by repeat (first | exact Qm.out | apply Kd.C_alloc | apply Kd.C_drewN | apply Kd.C_drew)) hb⟩
                clear Qm
                clear HB5
                rw [Mn.out] at hr ⊢
                obtain ⟨An, cn, rfl, hle, hC⟩ := Kd.R_reads hr
                have Qn := Aside0.mk hC
                have Qnc := Aside0.mk hle
                clear hr hle hC hb
                clear Qm6
                clear Qn
                go_wp2_with fail
                refine (sackbutlaw23_ref.calls 1001 A0 c0 l0 (Rm l0) _ (by repeat (first | exact L06.out | apply Kd.C_alloc | apply Kd.C_drewN | apply Kd.C_drew)) HC0.out (ref_val l0 (by have := LEN.out; omega))).mono ?_
                rintro e W7 ⟨va, rfl, hr, hb⟩
                have HB7 : Aside0 (Below w.heap.size w W7) := ⟨below_then (by repeat (first | (with_reducible first | exact HB6.out | apply below_alloc | apply pw_below_drewN | apply below_drew1) | exact HB6.out)) (below_size (by repeat (first | (with_reducible first | exact HB6.out | apply below_alloc | apply pw_below_drewN | apply below_drew1) | exact HB6.out))) hb⟩
                have L07 : Aside0 (Kd.C k45 W7 A0 l0.length l0) := ⟨Kd.C_below (by repeat (first | exact L06.out | apply Kd.C_alloc | apply Kd.C_drewN | apply Kd.C_drew)) hb⟩
                clear L06
                have L17 : Aside0 (Kd.C k45 W7 A1 l1.length l1) := ⟨Kd.C_below (by repeat (first | exact L16.out | apply Kd.C_alloc | apply Kd.C_drewN | apply Kd.C_drew)) hb⟩
                clear L16
                have L27 : Aside0 (Kd.C k45 W7 A2 l2.length l2) := ⟨Kd.C_below (by repeat (first | exact L26.out | apply Kd.C_alloc | apply Kd.C_drewN | apply Kd.C_drew)) hb⟩
                clear L26
                clear HB6
                have Qav := Aside0.mk (Kd.R_V (base' := w.heap.size) (Kd.R_mono (ok' := fun _ => True) hr (fun _ _ => trivial)))
                obtain ⟨Aa, ca, rfl, hle, hC⟩ := Kd.R_reads hr
                have Qa := Aside0.mk hC
                have Qac := Aside0.mk hle
                clear hr hle hC hb
                go_wp2_with fail
                refine (sackbutref23_Good.calls 2000 Aa ca (Rm l0) (goodB l0) _ (by repeat (first | exact Qa.out | apply Kd.C_alloc | apply Kd.C_drewN | apply Kd.C_drew)) Qac.out (good_ref l0 (by have := LEN.out; omega) SZ0.out)).mono ?_
                rintro e W8 ⟨rfl, hb⟩
                have HB8 : Aside0 (Below w.heap.size w W8) := ⟨below_then (by repeat (first | (with_reducible first | exact HB7.out | apply below_alloc | apply pw_below_drewN | apply below_drew1) | exact HB7.out)) (below_size (by repeat (first | (with_reducible first | exact HB7.out | apply below_alloc | apply pw_below_drewN | apply below_drew1) | exact HB7.out))) hb⟩
                have L08 : Aside0 (Kd.C k45 W8 A0 l0.length l0) := ⟨Kd.C_below (by repeat (first | exact L07.out | apply Kd.C_alloc | apply Kd.C_drewN | apply Kd.C_drew)) hb⟩
                clear L07
                have L18 : Aside0 (Kd.C k45 W8 A1 l1.length l1) := ⟨Kd.C_below (by repeat (first | exact L17.out | apply Kd.C_alloc | apply Kd.C_drewN | apply Kd.C_drew)) hb⟩
                clear L17
                have L28 : Aside0 (Kd.C k45 W8 A2 l2.length l2) := ⟨Kd.C_below (by repeat (first | exact L27.out | apply Kd.C_alloc | apply Kd.C_drewN | apply Kd.C_drew)) hb⟩
                clear L27
                have Qa8 : Aside0 (Kd.C k58 W8 Aa (Rm l0).length (Rm l0)) := ⟨Kd.C_below (by repeat (first | exact Qa.out | apply Kd.C_alloc | apply Kd.C_drewN | apply Kd.C_drew)) hb⟩
                have Qav8 : Aside0 (Kd.V k58 58 W8 w.heap.size (fun _ => True) (.slice Aa (Rm l0).length ca) (Rm l0)) := ⟨Kd.V_below (by repeat (first | exact Qav.out | apply Kd.V_alloc | apply Kd.V_drewN | apply Kd.V_drew)) hb⟩
                clear Qa Qav
                clear HB7
                clear hb
                rw [G0.out]
                clear Qa8 Qav8
                go_wp2_with fail
                refine (sackbutlaw23_ref.calls 1001 A1 c1 l1 (Rm l1) _ (by repeat (first | exact L18.out | apply Kd.C_alloc | apply Kd.C_drewN | apply Kd.C_drew)) HC1.out (ref_val l1 (by have := LEN.out; omega))).mono ?_
                rintro e W9 ⟨vb, rfl, hr, hb⟩
                have HB9 : Aside0 (Below w.heap.size w W9) := ⟨below_then (by repeat (first | (with_reducible first | exact HB8.out | apply below_alloc | apply pw_below_drewN | apply below_drew1) | exact HB8.out)) (below_size (by repeat (first | (with_reducible first | exact HB8.out | apply below_alloc | apply pw_below_drewN | apply below_drew1) | exact HB8.out))) hb⟩
                have L09 : Aside0 (Kd.C k45 W9 A0 l0.length l0) := ⟨Kd.C_below (by repeat (first | exact L08.out | apply Kd.C_alloc | apply Kd.C_drewN | apply Kd.C_drew)) hb⟩
                clear L08
                have L19 : Aside0 (Kd.C k45 W9 A1 l1.length l1) := ⟨Kd.C_below (by repeat (first | exact L18.out | apply Kd.C_alloc | apply Kd.C_drewN | apply Kd.C_drew)) hb⟩
                clear L18
                have L29 : Aside0 (Kd.C k45 W9 A2 l2.length l2) := ⟨Kd.C_below (by repeat (first | exact L28.out | apply Kd.C_alloc | apply Kd.C_drewN | apply Kd.C_drew)) hb⟩
                clear L28
                clear HB8
                have Qbv := Aside0.mk (Kd.R_V (base' := w.heap.size) (Kd.R_mono (ok' := fun _ => True) hr (fun _ _ => trivial)))
                obtain ⟨Ab, cb, rfl, hle, hC⟩ := Kd.R_reads hr
                have Qb := Aside0.mk hC
                have Qbc := Aside0.mk hle
                clear hr hle hC hb
                go_wp2_with fail
                refine (sackbutref23_Good.calls 2000 Ab cb (Rm l1) (goodB l1) _ (by repeat (first | exact Qb.out | apply Kd.C_alloc | apply Kd.C_drewN | apply Kd.C_drew)) Qbc.out (good_ref l1 (by have := LEN.out; omega) SZ1.out)).mono ?_
                rintro e W10 ⟨rfl, hb⟩
                have HB10 : Aside0 (Below w.heap.size w W10) := ⟨below_then (by repeat (first | (with_reducible first | exact HB9.out | apply below_alloc | apply pw_below_drewN | apply below_drew1) | exact HB9.out)) (below_size (by repeat (first | (with_reducible first | exact HB9.out | apply below_alloc | apply pw_below_drewN | apply below_drew1) | exact HB9.out))) hb⟩
                have L010 : Aside0 (Kd.C k45 W10 A0 l0.length l0) := ⟨Kd.C_below (by repeat (first | exact L09.out | apply Kd.C_alloc | apply Kd.C_drewN | apply Kd.C_drew)) hb⟩
                clear L09
                have L110 : Aside0 (Kd.C k45 W10 A1 l1.length l1) := ⟨Kd.C_below (by repeat (first | exact L19.out | apply Kd.C_alloc | apply Kd.C_drewN | apply Kd.C_drew)) hb⟩
                clear L19
                have L210 : Aside0 (Kd.C k45 W10 A2 l2.length l2) := ⟨Kd.C_below (by repeat (first | exact L29.out | apply Kd.C_alloc | apply Kd.C_drewN | apply Kd.C_drew)) hb⟩
                clear L29
                have Qb10 : Aside0 (Kd.C k58 W10 Ab (Rm l1).length (Rm l1)) := ⟨Kd.C_below (by repeat (first | exact Qb.out | apply Kd.C_alloc | apply Kd.C_drewN | apply Kd.C_drew)) hb⟩
                have Qbv10 : Aside0 (Kd.V k58 58 W10 w.heap.size (fun _ => True) (.slice Ab (Rm l1).length cb) (Rm l1)) := ⟨Kd.V_below (by repeat (first | exact Qbv.out | apply Kd.V_alloc | apply Kd.V_drewN | apply Kd.V_drew)) hb⟩
                clear Qb Qbv
                clear HB9
                clear hb
                rw [G1.out]
                clear Qb10 Qbv10
                go_wp2_with fail
                refine (sackbutlaw23_ref.calls 1001 A0 c0 l0 (Rm l0) _ (by repeat (first | exact L010.out | apply Kd.C_alloc | apply Kd.C_drewN | apply Kd.C_drew)) HC0.out (ref_val l0 (by have := LEN.out; omega))).mono ?_
                rintro e W11 ⟨vc, rfl, hr, hb⟩
                have HB11 : Aside0 (Below w.heap.size w W11) := ⟨below_then (by repeat (first | (with_reducible first | exact HB10.out | apply below_alloc | apply pw_below_drewN | apply below_drew1) | exact HB10.out)) (below_size (by repeat (first | (with_reducible first | exact HB10.out | apply below_alloc | apply pw_below_drewN | apply below_drew1) | exact HB10.out))) hb⟩
                have L011 : Aside0 (Kd.C k45 W11 A0 l0.length l0) := ⟨Kd.C_below (by repeat (first | exact L010.out | apply Kd.C_alloc | apply Kd.C_drewN | apply Kd.C_drew)) hb⟩
                clear L010
                have L111 : Aside0 (Kd.C k45 W11 A1 l1.length l1) := ⟨Kd.C_below (by repeat (first | exact L110.out | apply Kd.C_alloc | apply Kd.C_drewN | apply Kd.C_drew)) hb⟩
                clear L110
                have L211 : Aside0 (Kd.C k45 W11 A2 l2.length l2) := ⟨Kd.C_below (by repeat (first | exact L210.out | apply Kd.C_alloc | apply Kd.C_drewN | apply Kd.C_drew)) hb⟩
                clear L210
                clear HB10
                have Qcv := Aside0.mk (Kd.R_V (base' := w.heap.size) (Kd.R_mono (ok' := fun _ => True) hr (fun _ _ => trivial)))
                obtain ⟨Ac, cc, rfl, hle, hC⟩ := Kd.R_reads hr
                have Qc := Aside0.mk hC
                have Qcc := Aside0.mk hle
                clear hr hle hC hb
                go_wp2_with fail
                refine (sackbutlaw23_ref.calls 1001 A1 c1 l1 (Rm l1) _ (by repeat (first | exact L111.out | apply Kd.C_alloc | apply Kd.C_drewN | apply Kd.C_drew)) HC1.out (ref_val l1 (by have := LEN.out; omega))).mono ?_
                rintro e W12 ⟨vd, rfl, hr, hb⟩
                have HB12 : Aside0 (Below w.heap.size w W12) := ⟨below_then (by repeat (first | (with_reducible first | exact HB11.out | apply below_alloc | apply pw_below_drewN | apply below_drew1) | exact HB11.out)) (below_size (by repeat (first | (with_reducible first | exact HB11.out | apply below_alloc | apply pw_below_drewN | apply below_drew1) | exact HB11.out))) hb⟩
                have L012 : Aside0 (Kd.C k45 W12 A0 l0.length l0) := ⟨Kd.C_below (by repeat (first | exact L011.out | apply Kd.C_alloc | apply Kd.C_drewN | apply Kd.C_drew)) hb⟩
                clear L011
                have L112 : Aside0 (Kd.C k45 W12 A1 l1.length l1) := ⟨Kd.C_below (by repeat (first | exact L111.out | apply Kd.C_alloc | apply Kd.C_drewN | apply Kd.C_drew)) hb⟩
                clear L111
                have L212 : Aside0 (Kd.C k45 W12 A2 l2.length l2) := ⟨Kd.C_below (by repeat (first | exact L211.out | apply Kd.C_alloc | apply Kd.C_drewN | apply Kd.C_drew)) hb⟩
                clear L211
                have Qc12 : Aside0 (Kd.C k58 W12 Ac (Rm l0).length (Rm l0)) := ⟨Kd.C_below (by repeat (first | exact Qc.out | apply Kd.C_alloc | apply Kd.C_drewN | apply Kd.C_drew)) hb⟩
                have Qcv12 : Aside0 (Kd.V k58 58 W12 w.heap.size (fun _ => True) (.slice Ac (Rm l0).length cc) (Rm l0)) := ⟨Kd.V_below (by repeat (first | exact Qcv.out | apply Kd.V_alloc | apply Kd.V_drewN | apply Kd.V_drew)) hb⟩
                clear Qc Qcv
                clear HB11
                have Qdv := Aside0.mk (Kd.R_V (base' := w.heap.size) (Kd.R_mono (ok' := fun _ => True) hr (fun _ _ => trivial)))
                obtain ⟨Ad, cd, rfl, hle, hC⟩ := Kd.R_reads hr
                have Qd := Aside0.mk hC
                have Qdc := Aside0.mk hle
                clear hr hle hC hb
                go_wp2_with fail
                refine (sackbutref23_Merge.calls 4000 (fun _ => True) Ac cc (Rm l0) (fun _ => True) Ad cd (Rm l1) (Rm (M2T l0 l1)) _ (by repeat (first | exact Qcv12.out | apply Kd.V_alloc | apply Kd.V_drewN | apply Kd.V_drew)) (by repeat (first | exact Qdv.out | apply Kd.V_alloc | apply Kd.V_drewN | apply Kd.V_drew)) (merge_ref l0 l1 (by have := LEN.out; have := m2_len l0 l1; omega))).mono ?_
                rintro e W13 ⟨vu, rfl, hr, hb⟩
                have HB13 : Aside0 (Below w.heap.size w W13) := ⟨below_then (by repeat (first | (with_reducible first | exact HB12.out | apply below_alloc | apply pw_below_drewN | apply below_drew1) | exact HB12.out)) (below_size (by repeat (first | (with_reducible first | exact HB12.out | apply below_alloc | apply pw_below_drewN | apply below_drew1) | exact HB12.out))) hb⟩
                have L013 : Aside0 (Kd.C k45 W13 A0 l0.length l0) := ⟨Kd.C_below (by repeat (first | exact L012.out | apply Kd.C_alloc | apply Kd.C_drewN | apply Kd.C_drew)) hb⟩
                clear L012
                have L113 : Aside0 (Kd.C k45 W13 A1 l1.length l1) := ⟨Kd.C_below (by repeat (first | exact L112.out | apply Kd.C_alloc | apply Kd.C_drewN | apply Kd.C_drew)) hb⟩
                clear L112
                have L213 : Aside0 (Kd.C k45 W13 A2 l2.length l2) := ⟨Kd.C_below (by repeat (first | exact L212.out | apply Kd.C_alloc | apply Kd.C_drewN | apply Kd.C_drew)) hb⟩
                clear L212
                have Qc13 : Aside0 (Kd.C k58 W13 Ac (Rm l0).length (Rm l0)) := ⟨Kd.C_below (by repeat (first | exact Qc12.out | apply Kd.C_alloc | apply Kd.C_drewN | apply Kd.C_drew)) hb⟩
                have Qcv13 : Aside0 (Kd.V k58 58 W13 w.heap.size (fun _ => True) (.slice Ac (Rm l0).length cc) (Rm l0)) := ⟨Kd.V_below (by repeat (first | exact Qcv12.out | apply Kd.V_alloc | apply Kd.V_drewN | apply Kd.V_drew)) hb⟩
                clear Qc12 Qcv12
                have Qd13 : Aside0 (Kd.C k58 W13 Ad (Rm l1).length (Rm l1)) := ⟨Kd.C_below (by repeat (first | exact Qd.out | apply Kd.C_alloc | apply Kd.C_drewN | apply Kd.C_drew)) hb⟩
                have Qdv13 : Aside0 (Kd.V k58 58 W13 w.heap.size (fun _ => True) (.slice Ad (Rm l1).length cd) (Rm l1)) := ⟨Kd.V_below (by repeat (first | exact Qdv.out | apply Kd.V_alloc | apply Kd.V_drewN | apply Kd.V_drew)) hb⟩
                clear Qd Qdv
                clear HB12
                have Quv := Aside0.mk (Kd.R_V (base' := w.heap.size) (Kd.R_mono (ok' := fun _ => True) hr (fun _ _ => trivial)))
                obtain ⟨Au, cu, rfl, hle, hC⟩ := Kd.R_reads hr
                have Qu := Aside0.mk hC
                have Quc := Aside0.mk hle
                clear hr hle hC hb
                clear Qc13 Qcv13
                clear Qd13 Qdv13
                go_wp2_with fail
                refine (sackbutlaw23_ref.calls 1001 A2 c2 l2 (Rm l2) _ (by repeat (first | exact L213.out | apply Kd.C_alloc | apply Kd.C_drewN | apply Kd.C_drew)) HC2.out (ref_val l2 (by have := LEN.out; omega))).mono ?_
                rintro e W14 ⟨ve, rfl, hr, hb⟩
                have HB14 : Aside0 (Below w.heap.size w W14) := ⟨below_then (by repeat (first | (with_reducible first | exact HB13.out | apply below_alloc | apply pw_below_drewN | apply below_drew1) | exact HB13.out)) (below_size (by repeat (first | (with_reducible first | exact HB13.out | apply below_alloc | apply pw_below_drewN | apply below_drew1) | exact HB13.out))) hb⟩
                have L014 : Aside0 (Kd.C k45 W14 A0 l0.length l0) := ⟨Kd.C_below (by repeat (first | exact L013.out | apply Kd.C_alloc | apply Kd.C_drewN | apply Kd.C_drew)) hb⟩
                clear L013
                have L114 : Aside0 (Kd.C k45 W14 A1 l1.length l1) := ⟨Kd.C_below (by repeat (first | exact L113.out | apply Kd.C_alloc | apply Kd.C_drewN | apply Kd.C_drew)) hb⟩
                clear L113
                have L214 : Aside0 (Kd.C k45 W14 A2 l2.length l2) := ⟨Kd.C_below (by repeat (first | exact L213.out | apply Kd.C_alloc | apply Kd.C_drewN | apply Kd.C_drew)) hb⟩
                clear L213
                have Qu14 : Aside0 (Kd.C k58 W14 Au (Rm (M2T l0 l1)).length (Rm (M2T l0 l1))) := ⟨Kd.C_below (by repeat (first | exact Qu.out | apply Kd.C_alloc | apply Kd.C_drewN | apply Kd.C_drew)) hb⟩
                have Quv14 : Aside0 (Kd.V k58 58 W14 w.heap.size (fun _ => True) (.slice Au (Rm (M2T l0 l1)).length cu) (Rm (M2T l0 l1))) := ⟨Kd.V_below (by repeat (first | exact Quv.out | apply Kd.V_alloc | apply Kd.V_drewN | apply Kd.V_drew)) hb⟩
                clear Qu Quv
                clear HB13
                have Qev := Aside0.mk (Kd.R_V (base' := w.heap.size) (Kd.R_mono (ok' := fun _ => True) hr (fun _ _ => trivial)))
                obtain ⟨Ae, ce, rfl, hle, hC⟩ := Kd.R_reads hr
                have Qe := Aside0.mk hC
                have Qec := Aside0.mk hle
                clear hr hle hC hb
                go_wp2_with fail
                refine (sackbutref23_Good.calls 2000 Ae ce (Rm l2) (goodB l2) _ (by repeat (first | exact Qe.out | apply Kd.C_alloc | apply Kd.C_drewN | apply Kd.C_drew)) Qec.out (good_ref l2 (by have := LEN.out; omega) SZ2.out)).mono ?_
                rintro e W15 ⟨rfl, hb⟩
                have HB15 : Aside0 (Below w.heap.size w W15) := ⟨below_then (by repeat (first | (with_reducible first | exact HB14.out | apply below_alloc | apply pw_below_drewN | apply below_drew1) | exact HB14.out)) (below_size (by repeat (first | (with_reducible first | exact HB14.out | apply below_alloc | apply pw_below_drewN | apply below_drew1) | exact HB14.out))) hb⟩
                have L015 : Aside0 (Kd.C k45 W15 A0 l0.length l0) := ⟨Kd.C_below (by repeat (first | exact L014.out | apply Kd.C_alloc | apply Kd.C_drewN | apply Kd.C_drew)) hb⟩
                clear L014
                have L115 : Aside0 (Kd.C k45 W15 A1 l1.length l1) := ⟨Kd.C_below (by repeat (first | exact L114.out | apply Kd.C_alloc | apply Kd.C_drewN | apply Kd.C_drew)) hb⟩
                clear L114
                have L215 : Aside0 (Kd.C k45 W15 A2 l2.length l2) := ⟨Kd.C_below (by repeat (first | exact L214.out | apply Kd.C_alloc | apply Kd.C_drewN | apply Kd.C_drew)) hb⟩
                clear L214
                have Qu15 : Aside0 (Kd.C k58 W15 Au (Rm (M2T l0 l1)).length (Rm (M2T l0 l1))) := ⟨Kd.C_below (by repeat (first | exact Qu14.out | apply Kd.C_alloc | apply Kd.C_drewN | apply Kd.C_drew)) hb⟩
                have Quv15 : Aside0 (Kd.V k58 58 W15 w.heap.size (fun _ => True) (.slice Au (Rm (M2T l0 l1)).length cu) (Rm (M2T l0 l1))) := ⟨Kd.V_below (by repeat (first | exact Quv14.out | apply Kd.V_alloc | apply Kd.V_drewN | apply Kd.V_drew)) hb⟩
                clear Qu14 Quv14
                have Qe15 : Aside0 (Kd.C k58 W15 Ae (Rm l2).length (Rm l2)) := ⟨Kd.C_below (by repeat (first | exact Qe.out | apply Kd.C_alloc | apply Kd.C_drewN | apply Kd.C_drew)) hb⟩
                have Qev15 : Aside0 (Kd.V k58 58 W15 w.heap.size (fun _ => True) (.slice Ae (Rm l2).length ce) (Rm l2)) := ⟨Kd.V_below (by repeat (first | exact Qev.out | apply Kd.V_alloc | apply Kd.V_drewN | apply Kd.V_drew)) hb⟩
                clear Qe Qev
                clear HB14
                clear hb
                rw [G2.out]
                clear Qe15 Qev15
                go_wp2
                go_ret
                first | exact ⟨rfl, (by repeat (first | (with_reducible first | exact HB15.out | apply below_alloc | apply pw_below_drewN | apply below_drew1) | exact HB15.out))⟩ | exact ⟨by simp, (by repeat (first | (with_reducible first | exact HB15.out | apply below_alloc | apply pw_below_drewN | apply below_drew1) | exact HB15.out))⟩
              | true =>
                have G2 := Aside0.mk hg2
                clear hg2
                by_cases hx : 100 < (M2T (M2T l0 l1) l2).length
                · have Mn : Aside0 (mergeF [l0, l1, l2] = ([], 15)) := ⟨(merge_three l0 l1 l2 G0.out G1.out G2.out).trans (if_pos hx)⟩
                  have dx1 : decide (100 < (Rm (M2T (M2T l0 l1) l2)).length) = true := by rw [rm_len]; exact decide_eq_true hx
                  have dx2 : decide (100 < ((Rm (M2T (M2T l0 l1) l2)).length : Int)) = true := by rw [rm_len]; exact decide_eq_true (by omega)
                  have dx3 : decide ((Rm (M2T (M2T l0 l1) l2)).length ≤ 100) = false := by rw [rm_len]; exact decide_eq_false (by omega)
                  have dx4 : decide (((Rm (M2T (M2T l0 l1) l2)).length : Int) ≤ 100) = false := by rw [rm_len]; exact decide_eq_false (by omega)
                  clear hx
                  go_enter Try.func3, Try.ntmps3
                  go_wp2_with fail
                  refine (sackbutlaw23_awake.calls 100 true _ awake_val).mono ?_
                  rintro e W1 ⟨rfl, hb⟩
                  have HB1 : Aside0 (Below w.heap.size w W1) := ⟨below_then (by repeat (first | (with_reducible first | exact HB0.out | apply below_alloc | apply pw_below_drewN | apply below_drew1) | exact HB0.out)) (below_size (by repeat (first | (with_reducible first | exact HB0.out | apply below_alloc | apply pw_below_drewN | apply below_drew1) | exact HB0.out))) hb⟩
                  have L01 : Aside0 (Kd.C k45 W1 A0 l0.length l0) := ⟨Kd.C_below (by repeat (first | exact L0.out | apply Kd.C_alloc | apply Kd.C_drewN | apply Kd.C_drew)) hb⟩
                  clear L0
                  have L11 : Aside0 (Kd.C k45 W1 A1 l1.length l1) := ⟨Kd.C_below (by repeat (first | exact L1.out | apply Kd.C_alloc | apply Kd.C_drewN | apply Kd.C_drew)) hb⟩
                  clear L1
                  have L21 : Aside0 (Kd.C k45 W1 A2 l2.length l2) := ⟨Kd.C_below (by repeat (first | exact L2.out | apply Kd.C_alloc | apply Kd.C_drewN | apply Kd.C_drew)) hb⟩
                  clear L2
                  clear HB0
                  clear hb
                  go_wp2_with fail
                  refine (sackbutlaw23_few.calls (l0.length + 1) A0 c0 l0 true _ (by repeat (first | exact L01.out | apply Kd.C_alloc | apply Kd.C_drewN | apply Kd.C_drew)) HC0.out HF0.out).mono ?_
                  rintro e W2 ⟨rfl, hb⟩
                  have HB2 : Aside0 (Below w.heap.size w W2) := ⟨below_then (by repeat (first | (with_reducible first | exact HB1.out | apply below_alloc | apply pw_below_drewN | apply below_drew1) | exact HB1.out)) (below_size (by repeat (first | (with_reducible first | exact HB1.out | apply below_alloc | apply pw_below_drewN | apply below_drew1) | exact HB1.out))) hb⟩
                  have L02 : Aside0 (Kd.C k45 W2 A0 l0.length l0) := ⟨Kd.C_below (by repeat (first | exact L01.out | apply Kd.C_alloc | apply Kd.C_drewN | apply Kd.C_drew)) hb⟩
                  clear L01
                  have L12 : Aside0 (Kd.C k45 W2 A1 l1.length l1) := ⟨Kd.C_below (by repeat (first | exact L11.out | apply Kd.C_alloc | apply Kd.C_drewN | apply Kd.C_drew)) hb⟩
                  clear L11
                  have L22 : Aside0 (Kd.C k45 W2 A2 l2.length l2) := ⟨Kd.C_below (by repeat (first | exact L21.out | apply Kd.C_alloc | apply Kd.C_drewN | apply Kd.C_drew)) hb⟩
                  clear L21
                  clear HB1
                  clear hb
                  go_wp2_with fail
                  refine (sackbutlaw23_few.calls (l1.length + 1) A1 c1 l1 true _ (by repeat (first | exact L12.out | apply Kd.C_alloc | apply Kd.C_drewN | apply Kd.C_drew)) HC1.out HF1.out).mono ?_
                  rintro e W3 ⟨rfl, hb⟩
                  have HB3 : Aside0 (Below w.heap.size w W3) := ⟨below_then (by repeat (first | (with_reducible first | exact HB2.out | apply below_alloc | apply pw_below_drewN | apply below_drew1) | exact HB2.out)) (below_size (by repeat (first | (with_reducible first | exact HB2.out | apply below_alloc | apply pw_below_drewN | apply below_drew1) | exact HB2.out))) hb⟩
                  have L03 : Aside0 (Kd.C k45 W3 A0 l0.length l0) := ⟨Kd.C_below (by repeat (first | exact L02.out | apply Kd.C_alloc | apply Kd.C_drewN | apply Kd.C_drew)) hb⟩
                  clear L02
                  have L13 : Aside0 (Kd.C k45 W3 A1 l1.length l1) := ⟨Kd.C_below (by repeat (first | exact L12.out | apply Kd.C_alloc | apply Kd.C_drewN | apply Kd.C_drew)) hb⟩
                  clear L12
                  have L23 : Aside0 (Kd.C k45 W3 A2 l2.length l2) := ⟨Kd.C_below (by repeat (first | exact L22.out | apply Kd.C_alloc | apply Kd.C_drewN | apply Kd.C_drew)) hb⟩
                  clear L22
                  clear HB2
                  clear hb
                  go_wp2_with fail
                  refine (sackbutlaw23_few.calls (l2.length + 1) A2 c2 l2 true _ (by repeat (first | exact L23.out | apply Kd.C_alloc | apply Kd.C_drewN | apply Kd.C_drew)) HC2.out HF2.out).mono ?_
                  rintro e W4 ⟨rfl, hb⟩
                  have HB4 : Aside0 (Below w.heap.size w W4) := ⟨below_then (by repeat (first | (with_reducible first | exact HB3.out | apply below_alloc | apply pw_below_drewN | apply below_drew1) | exact HB3.out)) (below_size (by repeat (first | (with_reducible first | exact HB3.out | apply below_alloc | apply pw_below_drewN | apply below_drew1) | exact HB3.out))) hb⟩
                  have L04 : Aside0 (Kd.C k45 W4 A0 l0.length l0) := ⟨Kd.C_below (by repeat (first | exact L03.out | apply Kd.C_alloc | apply Kd.C_drewN | apply Kd.C_drew)) hb⟩
                  clear L03
                  have L14 : Aside0 (Kd.C k45 W4 A1 l1.length l1) := ⟨Kd.C_below (by repeat (first | exact L13.out | apply Kd.C_alloc | apply Kd.C_drewN | apply Kd.C_drew)) hb⟩
                  clear L13
                  have L24 : Aside0 (Kd.C k45 W4 A2 l2.length l2) := ⟨Kd.C_below (by repeat (first | exact L23.out | apply Kd.C_alloc | apply Kd.C_drewN | apply Kd.C_drew)) hb⟩
                  clear L23
                  clear HB3
                  clear hb
                  go_wp2_with fail
                  refine (Merge_calls _ _ _ [l0, l1] (rows2 _ (by repeat (first | exact L04.out | apply Kd.C_alloc | apply Kd.C_drewN | apply Kd.C_drew)) HC0.out (by repeat (first | exact L14.out | apply Kd.C_alloc | apply Kd.C_drewN | apply Kd.C_drew)) HC1.out) (Nat.le_refl _) (by simp)).mono ?_
                  rintro e W5 ⟨vm, rfl, hr, hb⟩
                  have HB5 : Aside0 (Below w.heap.size w W5) := ⟨below_then (by repeat (first | (with_reducible first | exact HB4.out | apply below_alloc | apply pw_below_drewN | apply below_drew1) | exact HB4.out)) (below_size (by repeat (first | (with_reducible first | exact HB4.out | apply below_alloc | apply pw_below_drewN | apply below_drew1) | exact HB4.out))) hb⟩
                  have L05 : Aside0 (Kd.C k45 W5 A0 l0.length l0) := ⟨Kd.C_below (by repeat (first | exact L04.out | apply Kd.C_alloc | apply Kd.C_drewN | apply Kd.C_drew)) hb⟩
                  clear L04
                  have L15 : Aside0 (Kd.C k45 W5 A1 l1.length l1) := ⟨Kd.C_below (by repeat (first | exact L14.out | apply Kd.C_alloc | apply Kd.C_drewN | apply Kd.C_drew)) hb⟩
                  clear L14
                  have L25 : Aside0 (Kd.C k45 W5 A2 l2.length l2) := ⟨Kd.C_below (by repeat (first | exact L24.out | apply Kd.C_alloc | apply Kd.C_drewN | apply Kd.C_drew)) hb⟩
                  clear L24
                  clear HB4
                  rw [Mm.out] at hr ⊢
                  obtain ⟨Am, cm, rfl, hle, hC⟩ := Kd.R_reads hr
                  have Qm := Aside0.mk hC
                  have Qmc := Aside0.mk hle
                  clear hr hle hC hb
                  go_wp2_with fail
                  refine (Merge_calls _ _ _ [l0, l1, l2] (rows3 _ (by repeat (first | exact L05.out | apply Kd.C_alloc | apply Kd.C_drewN | apply Kd.C_drew)) HC0.out (by repeat (first | exact L15.out | apply Kd.C_alloc | apply Kd.C_drewN | apply Kd.C_drew)) HC1.out (by repeat (first | exact L25.out | apply Kd.C_alloc | apply Kd.C_drewN | apply Kd.C_drew)) HC2.out) (Nat.le_refl _) (by simp)).mono ?_
                  rintro e W6 ⟨vn, rfl, hr, hb⟩
                  have HB6 : Aside0 (Below w.heap.size w W6) := ⟨below_then (by repeat (first | (with_reducible first | exact HB5.out | apply below_alloc | apply pw_below_drewN | apply below_drew1) | exact HB5.out)) (below_size (by repeat (first | (with_reducible first | exact HB5.out | apply below_alloc | apply pw_below_drewN | apply below_drew1) | exact HB5.out))) hb⟩
                  have L06 : Aside0 (Kd.C k45 W6 A0 l0.length l0) := ⟨Kd.C_below (by repeat (first | exact L05.out | apply Kd.C_alloc | apply Kd.C_drewN | apply Kd.C_drew)) hb⟩
                  clear L05
                  have L16 : Aside0 (Kd.C k45 W6 A1 l1.length l1) := ⟨Kd.C_below (by repeat (first | exact L15.out | apply Kd.C_alloc | apply Kd.C_drewN | apply Kd.C_drew)) hb⟩
                  clear L15
                  have L26 : Aside0 (Kd.C k45 W6 A2 l2.length l2) := ⟨Kd.C_below (by repeat (first | exact L25.out | apply Kd.C_alloc | apply Kd.C_drewN | apply Kd.C_drew)) hb⟩
                  clear L25
                  have Qm6 : Aside0 (Kd.C k45 W6 Am ([] : List TC).length ([] : List TC)) := ⟨Kd.C_below (by repeat (first | exact Qm.out | apply Kd.C_alloc | apply Kd.C_drewN | apply Kd.C_drew)) hb⟩
                  clear Qm
                  clear HB5
                  rw [Mn.out] at hr ⊢
                  obtain ⟨An, cn, rfl, hle, hC⟩ := Kd.R_reads hr
                  have Qn := Aside0.mk hC
                  have Qnc := Aside0.mk hle
                  clear hr hle hC hb
                  clear Qm6
                  clear Qn
                  go_wp2_with fail
                  refine (sackbutlaw23_ref.calls 1001 A0 c0 l0 (Rm l0) _ (by repeat (first | exact L06.out | apply Kd.C_alloc | apply Kd.C_drewN | apply Kd.C_drew)) HC0.out (ref_val l0 (by have := LEN.out; omega))).mono ?_
                  rintro e W7 ⟨va, rfl, hr, hb⟩
                  have HB7 : Aside0 (Below w.heap.size w W7) := ⟨below_then (by repeat (first | (with_reducible first | exact HB6.out | apply below_alloc | apply pw_below_drewN | apply below_drew1) | exact HB6.out)) (below_size (by repeat (first | (with_reducible first | exact HB6.out | apply below_alloc | apply pw_below_drewN | apply below_drew1) | exact HB6.out))) hb⟩
                  have L07 : Aside0 (Kd.C k45 W7 A0 l0.length l0) := ⟨Kd.C_below (by repeat (first | exact L06.out | apply Kd.C_alloc | apply Kd.C_drewN | apply Kd.C_drew)) hb⟩
                  clear L06
                  have L17 : Aside0 (Kd.C k45 W7 A1 l1.length l1) := ⟨Kd.C_below (by repeat (first | exact L16.out | apply Kd.C_alloc | apply Kd.C_drewN | apply Kd.C_drew)) hb⟩
                  clear L16
                  have L27 : Aside0 (Kd.C k45 W7 A2 l2.length l2) := ⟨Kd.C_below (by repeat (first | exact L26.out | apply Kd.C_alloc | apply Kd.C_drewN | apply Kd.C_drew)) hb⟩
                  clear L26
                  clear HB6
                  have Qav := Aside0.mk (Kd.R_V (base' := w.heap.size) (Kd.R_mono (ok' := fun _ => True) hr (fun _ _ => trivial)))
                  obtain ⟨Aa, ca, rfl, hle, hC⟩ := Kd.R_reads hr
                  have Qa := Aside0.mk hC
                  have Qac := Aside0.mk hle
                  clear hr hle hC hb
                  go_wp2_with fail
                  refine (sackbutref23_Good.calls 2000 Aa ca (Rm l0) (goodB l0) _ (by repeat (first | exact Qa.out | apply Kd.C_alloc | apply Kd.C_drewN | apply Kd.C_drew)) Qac.out (good_ref l0 (by have := LEN.out; omega) SZ0.out)).mono ?_
                  rintro e W8 ⟨rfl, hb⟩
                  have HB8 : Aside0 (Below w.heap.size w W8) := ⟨below_then (by repeat (first | (with_reducible first | exact HB7.out | apply below_alloc | apply pw_below_drewN | apply below_drew1) | exact HB7.out)) (below_size (by repeat (first | (with_reducible first | exact HB7.out | apply below_alloc | apply pw_below_drewN | apply below_drew1) | exact HB7.out))) hb⟩
                  have L08 : Aside0 (Kd.C k45 W8 A0 l0.length l0) := ⟨Kd.C_below (by repeat (first | exact L07.out | apply Kd.C_alloc | apply Kd.C_drewN | apply Kd.C_drew)) hb⟩
                  clear L07
                  have L18 : Aside0 (Kd.C k45 W8 A1 l1.length l1) := ⟨Kd.C_below (by repeat (first | exact L17.out | apply Kd.C_alloc | apply Kd.C_drewN | apply Kd.C_drew)) hb⟩
                  clear L17
                  have L28 : Aside0 (Kd.C k45 W8 A2 l2.length l2) := ⟨Kd.C_below (by repeat (first | exact L27.out | apply Kd.C_alloc | apply Kd.C_drewN | apply Kd.C_drew)) hb⟩
                  clear L27
                  have Qa8 : Aside0 (Kd.C k58 W8 Aa (Rm l0).length (Rm l0)) := ⟨Kd.C_below (by repeat (first | exact Qa.out | apply Kd.C_alloc | apply Kd.C_drewN | apply Kd.C_drew)) hb⟩
                  have Qav8 : Aside0 (Kd.V k58 58 W8 w.heap.size (fun _ => True) (.slice Aa (Rm l0).length ca) (Rm l0)) := ⟨Kd.V_below (by repeat (first | exact Qav.out | apply Kd.V_alloc | apply Kd.V_drewN | apply Kd.V_drew)) hb⟩
                  clear Qa Qav
                  clear HB7
                  clear hb
                  rw [G0.out]
                  clear Qa8 Qav8
                  go_wp2_with fail
                  refine (sackbutlaw23_ref.calls 1001 A1 c1 l1 (Rm l1) _ (by repeat (first | exact L18.out | apply Kd.C_alloc | apply Kd.C_drewN | apply Kd.C_drew)) HC1.out (ref_val l1 (by have := LEN.out; omega))).mono ?_
                  rintro e W9 ⟨vb, rfl, hr, hb⟩
                  have HB9 : Aside0 (Below w.heap.size w W9) := ⟨below_then (by repeat (first | (with_reducible first | exact HB8.out | apply below_alloc | apply pw_below_drewN | apply below_drew1) | exact HB8.out)) (below_size (by repeat (first | (with_reducible first | exact HB8.out | apply below_alloc | apply pw_below_drewN | apply below_drew1) | exact HB8.out))) hb⟩
                  have L09 : Aside0 (Kd.C k45 W9 A0 l0.length l0) := ⟨Kd.C_below (by repeat (first | exact L08.out | apply Kd.C_alloc | apply Kd.C_drewN | apply Kd.C_drew)) hb⟩
                  clear L08
                  have L19 : Aside0 (Kd.C k45 W9 A1 l1.length l1) := ⟨Kd.C_below (by repeat (first | exact L18.out | apply Kd.C_alloc | apply Kd.C_drewN | apply Kd.C_drew)) hb⟩
                  clear L18
                  have L29 : Aside0 (Kd.C k45 W9 A2 l2.length l2) := ⟨Kd.C_below (by repeat (first | exact L28.out | apply Kd.C_alloc | apply Kd.C_drewN | apply Kd.C_drew)) hb⟩
                  clear L28
                  clear HB8
                  have Qbv := Aside0.mk (Kd.R_V (base' := w.heap.size) (Kd.R_mono (ok' := fun _ => True) hr (fun _ _ => trivial)))
                  obtain ⟨Ab, cb, rfl, hle, hC⟩ := Kd.R_reads hr
                  have Qb := Aside0.mk hC
                  have Qbc := Aside0.mk hle
                  clear hr hle hC hb
                  go_wp2_with fail
                  refine (sackbutref23_Good.calls 2000 Ab cb (Rm l1) (goodB l1) _ (by repeat (first | exact Qb.out | apply Kd.C_alloc | apply Kd.C_drewN | apply Kd.C_drew)) Qbc.out (good_ref l1 (by have := LEN.out; omega) SZ1.out)).mono ?_
                  rintro e W10 ⟨rfl, hb⟩
                  have HB10 : Aside0 (Below w.heap.size w W10) := ⟨below_then (by repeat (first | (with_reducible first | exact HB9.out | apply below_alloc | apply pw_below_drewN | apply below_drew1) | exact HB9.out)) (below_size (by repeat (first | (with_reducible first | exact HB9.out | apply below_alloc | apply pw_below_drewN | apply below_drew1) | exact HB9.out))) hb⟩
                  have L010 : Aside0 (Kd.C k45 W10 A0 l0.length l0) := ⟨Kd.C_below (by repeat (first | exact L09.out | apply Kd.C_alloc | apply Kd.C_drewN | apply Kd.C_drew)) hb⟩
                  clear L09
                  have L110 : Aside0 (Kd.C k45 W10 A1 l1.length l1) := ⟨Kd.C_below (by repeat (first | exact L19.out | apply Kd.C_alloc | apply Kd.C_drewN | apply Kd.C_drew)) hb⟩
                  clear L19
                  have L210 : Aside0 (Kd.C k45 W10 A2 l2.length l2) := ⟨Kd.C_below (by repeat (first | exact L29.out | apply Kd.C_alloc | apply Kd.C_drewN | apply Kd.C_drew)) hb⟩
                  clear L29
                  have Qb10 : Aside0 (Kd.C k58 W10 Ab (Rm l1).length (Rm l1)) := ⟨Kd.C_below (by repeat (first | exact Qb.out | apply Kd.C_alloc | apply Kd.C_drewN | apply Kd.C_drew)) hb⟩
                  have Qbv10 : Aside0 (Kd.V k58 58 W10 w.heap.size (fun _ => True) (.slice Ab (Rm l1).length cb) (Rm l1)) := ⟨Kd.V_below (by repeat (first | exact Qbv.out | apply Kd.V_alloc | apply Kd.V_drewN | apply Kd.V_drew)) hb⟩
                  clear Qb Qbv
                  clear HB9
                  clear hb
                  rw [G1.out]
                  clear Qb10 Qbv10
                  go_wp2_with fail
                  refine (sackbutlaw23_ref.calls 1001 A0 c0 l0 (Rm l0) _ (by repeat (first | exact L010.out | apply Kd.C_alloc | apply Kd.C_drewN | apply Kd.C_drew)) HC0.out (ref_val l0 (by have := LEN.out; omega))).mono ?_
                  rintro e W11 ⟨vc, rfl, hr, hb⟩
                  have HB11 : Aside0 (Below w.heap.size w W11) := ⟨below_then (by repeat (first | (with_reducible first | exact HB10.out | apply below_alloc | apply pw_below_drewN | apply below_drew1) | exact HB10.out)) (below_size (by repeat (first | (with_reducible first | exact HB10.out | apply below_alloc | apply pw_below_drewN | apply below_drew1) | exact HB10.out))) hb⟩
                  have L011 : Aside0 (Kd.C k45 W11 A0 l0.length l0) := ⟨Kd.C_below (by repeat (first | exact L010.out | apply Kd.C_alloc | apply Kd.C_drewN | apply Kd.C_drew)) hb⟩
                  clear L010
                  have L111 : Aside0 (Kd.C k45 W11 A1 l1.length l1) := ⟨Kd.C_below (by repeat (first | exact L110.out | apply Kd.C_alloc | apply Kd.C_drewN | apply Kd.C_drew)) hb⟩
                  clear L110
                  have L211 : Aside0 (Kd.C k45 W11 A2 l2.length l2) := ⟨Kd.C_below (by repeat (first | exact L210.out | apply Kd.C_alloc | apply Kd.C_drewN | apply Kd.C_drew)) hb⟩
                  clear L210
                  clear HB10
                  have Qcv := Aside0.mk (Kd.R_V (base' := w.heap.size) (Kd.R_mono (ok' := fun _ => True) hr (fun _ _ => trivial)))
                  obtain ⟨Ac, cc, rfl, hle, hC⟩ := Kd.R_reads hr
                  have Qc := Aside0.mk hC
                  have Qcc := Aside0.mk hle
                  clear hr hle hC hb
                  go_wp2_with fail
                  refine (sackbutlaw23_ref.calls 1001 A1 c1 l1 (Rm l1) _ (by repeat (first | exact L111.out | apply Kd.C_alloc | apply Kd.C_drewN | apply Kd.C_drew)) HC1.out (ref_val l1 (by have := LEN.out; omega))).mono ?_
                  rintro e W12 ⟨vd, rfl, hr, hb⟩
                  have HB12 : Aside0 (Below w.heap.size w W12) := ⟨below_then (by repeat (first | (with_reducible first | exact HB11.out | apply below_alloc | apply pw_below_drewN | apply below_drew1) | exact HB11.out)) (below_size (by repeat (first | (with_reducible first | exact HB11.out | apply below_alloc | apply pw_below_drewN | apply below_drew1) | exact HB11.out))) hb⟩
                  have L012 : Aside0 (Kd.C k45 W12 A0 l0.length l0) := ⟨Kd.C_below (by repeat (first | exact L011.out | apply Kd.C_alloc | apply Kd.C_drewN | apply Kd.C_drew)) hb⟩
                  clear L011
                  have L112 : Aside0 (Kd.C k45 W12 A1 l1.length l1) := ⟨Kd.C_below (by repeat (first | exact L111.out | apply Kd.C_alloc | apply Kd.C_drewN | apply Kd.C_drew)) hb⟩
                  clear L111
                  have L212 : Aside0 (Kd.C k45 W12 A2 l2.length l2) := ⟨Kd.C_below (by repeat (first | exact L211.out | apply Kd.C_alloc | apply Kd.C_drewN | apply Kd.C_drew)) hb⟩
                  clear L211
                  have Qc12 : Aside0 (Kd.C k58 W12 Ac (Rm l0).length (Rm l0)) := ⟨Kd.C_below (by repeat (first | exact Qc.out | apply Kd.C_alloc | apply Kd.C_drewN | apply Kd.C_drew)) hb⟩
                  have Qcv12 : Aside0 (Kd.V k58 58 W12 w.heap.size (fun _ => True) (.slice Ac (Rm l0).length cc) (Rm l0)) := ⟨Kd.V_below (by repeat (first | exact Qcv.out | apply Kd.V_alloc | apply Kd.V_drewN | apply Kd.V_drew)) hb⟩
                  clear Qc Qcv
                  clear HB11
                  have Qdv := Aside0.mk (Kd.R_V (base' := w.heap.size) (Kd.R_mono (ok' := fun _ => True) hr (fun _ _ => trivial)))
                  obtain ⟨Ad, cd, rfl, hle, hC⟩ := Kd.R_reads hr
                  have Qd := Aside0.mk hC
                  have Qdc := Aside0.mk hle
                  clear hr hle hC hb
                  go_wp2_with fail
                  refine (sackbutref23_Merge.calls 4000 (fun _ => True) Ac cc (Rm l0) (fun _ => True) Ad cd (Rm l1) (Rm (M2T l0 l1)) _ (by repeat (first | exact Qcv12.out | apply Kd.V_alloc | apply Kd.V_drewN | apply Kd.V_drew)) (by repeat (first | exact Qdv.out | apply Kd.V_alloc | apply Kd.V_drewN | apply Kd.V_drew)) (merge_ref l0 l1 (by have := LEN.out; have := m2_len l0 l1; omega))).mono ?_
                  rintro e W13 ⟨vu, rfl, hr, hb⟩
                  have HB13 : Aside0 (Below w.heap.size w W13) := ⟨below_then (by repeat (first | (with_reducible first | exact HB12.out | apply below_alloc | apply pw_below_drewN | apply below_drew1) | exact HB12.out)) (below_size (by repeat (first | (with_reducible first | exact HB12.out | apply below_alloc | apply pw_below_drewN | apply below_drew1) | exact HB12.out))) hb⟩
                  have L013 : Aside0 (Kd.C k45 W13 A0 l0.length l0) := ⟨Kd.C_below (by repeat (first | exact L012.out | apply Kd.C_alloc | apply Kd.C_drewN | apply Kd.C_drew)) hb⟩
                  clear L012
                  have L113 : Aside0 (Kd.C k45 W13 A1 l1.length l1) := ⟨Kd.C_below (by repeat (first | exact L112.out | apply Kd.C_alloc | apply Kd.C_drewN | apply Kd.C_drew)) hb⟩
                  clear L112
                  have L213 : Aside0 (Kd.C k45 W13 A2 l2.length l2) := ⟨Kd.C_below (by repeat (first | exact L212.out | apply Kd.C_alloc | apply Kd.C_drewN | apply Kd.C_drew)) hb⟩
                  clear L212
                  have Qc13 : Aside0 (Kd.C k58 W13 Ac (Rm l0).length (Rm l0)) := ⟨Kd.C_below (by repeat (first | exact Qc12.out | apply Kd.C_alloc | apply Kd.C_drewN | apply Kd.C_drew)) hb⟩
                  have Qcv13 : Aside0 (Kd.V k58 58 W13 w.heap.size (fun _ => True) (.slice Ac (Rm l0).length cc) (Rm l0)) := ⟨Kd.V_below (by repeat (first | exact Qcv12.out | apply Kd.V_alloc | apply Kd.V_drewN | apply Kd.V_drew)) hb⟩
                  clear Qc12 Qcv12
                  have Qd13 : Aside0 (Kd.C k58 W13 Ad (Rm l1).length (Rm l1)) := ⟨Kd.C_below (by repeat (first | exact Qd.out | apply Kd.C_alloc | apply Kd.C_drewN | apply Kd.C_drew)) hb⟩
                  have Qdv13 : Aside0 (Kd.V k58 58 W13 w.heap.size (fun _ => True) (.slice Ad (Rm l1).length cd) (Rm l1)) := ⟨Kd.V_below (by repeat (first | exact Qdv.out | apply Kd.V_alloc | apply Kd.V_drewN | apply Kd.V_drew)) hb⟩
                  clear Qd Qdv
                  clear HB12
                  have Quv := Aside0.mk (Kd.R_V (base' := w.heap.size) (Kd.R_mono (ok' := fun _ => True) hr (fun _ _ => trivial)))
                  obtain ⟨Au, cu, rfl, hle, hC⟩ := Kd.R_reads hr
                  have Qu := Aside0.mk hC
                  have Quc := Aside0.mk hle
                  clear hr hle hC hb
                  clear Qc13 Qcv13
                  clear Qd13 Qdv13
                  go_wp2_with fail
                  refine (sackbutlaw23_ref.calls 1001 A2 c2 l2 (Rm l2) _ (by repeat (first | exact L213.out | apply Kd.C_alloc | apply Kd.C_drewN | apply Kd.C_drew)) HC2.out (ref_val l2 (by have := LEN.out; omega))).mono ?_
                  rintro e W14 ⟨ve, rfl, hr, hb⟩
                  have HB14 : Aside0 (Below w.heap.size w W14) := ⟨below_then (by repeat (first | (with_reducible first | exact HB13.out | apply below_alloc | apply pw_below_drewN | apply below_drew1) | exact HB13.out)) (below_size (by repeat (first | (with_reducible first | exact HB13.out | apply below_alloc | apply pw_below_drewN | apply below_drew1) | exact HB13.out))) hb⟩
                  have L014 : Aside0 (Kd.C k45 W14 A0 l0.length l0) := ⟨Kd.C_below (by repeat (first | exact L013.out | apply Kd.C_alloc | apply Kd.C_drewN | apply Kd.C_drew)) hb⟩
                  clear L013
                  have L114 : Aside0 (Kd.C k45 W14 A1 l1.length l1) := ⟨Kd.C_below (by repeat (first | exact L113.out | apply Kd.C_alloc | apply Kd.C_drewN | apply Kd.C_drew)) hb⟩
                  clear L113
                  have L214 : Aside0 (Kd.C k45 W14 A2 l2.length l2) := ⟨Kd.C_below (by repeat (first | exact L213.out | apply Kd.C_alloc | apply Kd.C_drewN | apply Kd.C_drew)) hb⟩
                  clear L213
                  have Qu14 : Aside0 (Kd.C k58 W14 Au (Rm (M2T l0 l1)).length (Rm (M2T l0 l1))) := ⟨Kd.C_below (by repeat (first | exact Qu.out | apply Kd.C_alloc | apply Kd.C_drewN | apply Kd.C_drew)) hb⟩
                  have Quv14 : Aside0 (Kd.V k58 58 W14 w.heap.size (fun _ => True) (.slice Au (Rm (M2T l0 l1)).length cu) (Rm (M2T l0 l1))) := ⟨Kd.V_below (by repeat (first | exact Quv.out | apply Kd.V_alloc | apply Kd.V_drewN | apply Kd.V_drew)) hb⟩
                  clear Qu Quv
                  clear HB13
                  have Qev := Aside0.mk (Kd.R_V (base' := w.heap.size) (Kd.R_mono (ok' := fun _ => True) hr (fun _ _ => trivial)))
                  obtain ⟨Ae, ce, rfl, hle, hC⟩ := Kd.R_reads hr
                  have Qe := Aside0.mk hC
                  have Qec := Aside0.mk hle
                  clear hr hle hC hb
                  go_wp2_with fail
                  refine (sackbutref23_Good.calls 2000 Ae ce (Rm l2) (goodB l2) _ (by repeat (first | exact Qe.out | apply Kd.C_alloc | apply Kd.C_drewN | apply Kd.C_drew)) Qec.out (good_ref l2 (by have := LEN.out; omega) SZ2.out)).mono ?_
                  rintro e W15 ⟨rfl, hb⟩
                  have HB15 : Aside0 (Below w.heap.size w W15) := ⟨below_then (by repeat (first | (with_reducible first | exact HB14.out | apply below_alloc | apply pw_below_drewN | apply below_drew1) | exact HB14.out)) (below_size (by repeat (first | (with_reducible first | exact HB14.out | apply below_alloc | apply pw_below_drewN | apply below_drew1) | exact HB14.out))) hb⟩
                  have L015 : Aside0 (Kd.C k45 W15 A0 l0.length l0) := ⟨Kd.C_below (by repeat (first | exact L014.out | apply Kd.C_alloc | apply Kd.C_drewN | apply Kd.C_drew)) hb⟩
                  clear L014
                  have L115 : Aside0 (Kd.C k45 W15 A1 l1.length l1) := ⟨Kd.C_below (by repeat (first | exact L114.out | apply Kd.C_alloc | apply Kd.C_drewN | apply Kd.C_drew)) hb⟩
                  clear L114
                  have L215 : Aside0 (Kd.C k45 W15 A2 l2.length l2) := ⟨Kd.C_below (by repeat (first | exact L214.out | apply Kd.C_alloc | apply Kd.C_drewN | apply Kd.C_drew)) hb⟩
                  clear L214
                  have Qu15 : Aside0 (Kd.C k58 W15 Au (Rm (M2T l0 l1)).length (Rm (M2T l0 l1))) := ⟨Kd.C_below (by repeat (first | exact Qu14.out | apply Kd.C_alloc | apply Kd.C_drewN | apply Kd.C_drew)) hb⟩
                  have Quv15 : Aside0 (Kd.V k58 58 W15 w.heap.size (fun _ => True) (.slice Au (Rm (M2T l0 l1)).length cu) (Rm (M2T l0 l1))) := ⟨Kd.V_below (by repeat (first | exact Quv14.out | apply Kd.V_alloc | apply Kd.V_drewN | apply Kd.V_drew)) hb⟩
                  clear Qu14 Quv14
                  have Qe15 : Aside0 (Kd.C k58 W15 Ae (Rm l2).length (Rm l2)) := ⟨Kd.C_below (by repeat (first | exact Qe.out | apply Kd.C_alloc | apply Kd.C_drewN | apply Kd.C_drew)) hb⟩
                  have Qev15 : Aside0 (Kd.V k58 58 W15 w.heap.size (fun _ => True) (.slice Ae (Rm l2).length ce) (Rm l2)) := ⟨Kd.V_below (by repeat (first | exact Qev.out | apply Kd.V_alloc | apply Kd.V_drewN | apply Kd.V_drew)) hb⟩
                  clear Qe Qev
                  clear HB14
                  clear hb
                  rw [G2.out]
                  clear Qe15 Qev15
                  go_wp2_with fail
                  refine (sackbutlaw23_ref.calls 1001 A2 c2 l2 (Rm l2) _ (by repeat (first | exact L215.out | apply Kd.C_alloc | apply Kd.C_drewN | apply Kd.C_drew)) HC2.out (ref_val l2 (by have := LEN.out; omega))).mono ?_
                  rintro e W16 ⟨vf, rfl, hr, hb⟩
                  have HB16 : Aside0 (Below w.heap.size w W16) := ⟨below_then (by repeat (first | (with_reducible first | exact HB15.out | apply below_alloc | apply pw_below_drewN | apply below_drew1) | exact HB15.out)) (below_size (by repeat (first | (with_reducible first | exact HB15.out | apply below_alloc | apply pw_below_drewN | apply below_drew1) | exact HB15.out))) hb⟩
                  have L016 : Aside0 (Kd.C k45 W16 A0 l0.length l0) := ⟨Kd.C_below (by repeat (first | exact L015.out | apply Kd.C_alloc | apply Kd.C_drewN | apply Kd.C_drew)) hb⟩
                  clear L015
                  have L116 : Aside0 (Kd.C k45 W16 A1 l1.length l1) := ⟨Kd.C_below (by repeat (first | exact L115.out | apply Kd.C_alloc | apply Kd.C_drewN | apply Kd.C_drew)) hb⟩
                  clear L115
                  have L216 : Aside0 (Kd.C k45 W16 A2 l2.length l2) := ⟨Kd.C_below (by repeat (first | exact L215.out | apply Kd.C_alloc | apply Kd.C_drewN | apply Kd.C_drew)) hb⟩
                  clear L215
                  have Qu16 : Aside0 (Kd.C k58 W16 Au (Rm (M2T l0 l1)).length (Rm (M2T l0 l1))) := ⟨Kd.C_below (by repeat (first | exact Qu15.out | apply Kd.C_alloc | apply Kd.C_drewN | apply Kd.C_drew)) hb⟩
                  have Quv16 : Aside0 (Kd.V k58 58 W16 w.heap.size (fun _ => True) (.slice Au (Rm (M2T l0 l1)).length cu) (Rm (M2T l0 l1))) := ⟨Kd.V_below (by repeat (first | exact Quv15.out | apply Kd.V_alloc | apply Kd.V_drewN | apply Kd.V_drew)) hb⟩
                  clear Qu15 Quv15
                  clear HB15
                  have Qfv := Aside0.mk (Kd.R_V (base' := w.heap.size) (Kd.R_mono (ok' := fun _ => True) hr (fun _ _ => trivial)))
                  obtain ⟨Af, cf, rfl, hle, hC⟩ := Kd.R_reads hr
                  have Qf := Aside0.mk hC
                  have Qfc := Aside0.mk hle
                  clear hr hle hC hb
                  go_wp2_with fail
                  refine (sackbutref23_Merge.calls 4000 (fun _ => True) Au cu (Rm (M2T l0 l1)) (fun _ => True) Af cf (Rm l2) (Rm (M2T (M2T l0 l1) l2)) _ (by repeat (first | exact Quv16.out | apply Kd.V_alloc | apply Kd.V_drewN | apply Kd.V_drew)) (by repeat (first | exact Qfv.out | apply Kd.V_alloc | apply Kd.V_drewN | apply Kd.V_drew)) (merge_ref (M2T l0 l1) l2 (by have := LEN.out; have := m2_len l0 l1; omega))).mono ?_
                  rintro e W17 ⟨vx, rfl, hr, hb⟩
                  have HB17 : Aside0 (Below w.heap.size w W17) := ⟨below_then (by repeat (first | (with_reducible first | exact HB16.out | apply below_alloc | apply pw_below_drewN | apply below_drew1) | exact HB16.out)) (below_size (by repeat (first | (with_reducible first | exact HB16.out | apply below_alloc | apply pw_below_drewN | apply below_drew1) | exact HB16.out))) hb⟩
                  have L017 : Aside0 (Kd.C k45 W17 A0 l0.length l0) := ⟨Kd.C_below (by repeat (first | exact L016.out | apply Kd.C_alloc | apply Kd.C_drewN | apply Kd.C_drew)) hb⟩
                  clear L016
                  have L117 : Aside0 (Kd.C k45 W17 A1 l1.length l1) := ⟨Kd.C_below (by repeat (first | exact L116.out | apply Kd.C_alloc | apply Kd.C_drewN | apply Kd.C_drew)) hb⟩
                  clear L116
                  have L217 : Aside0 (Kd.C k45 W17 A2 l2.length l2) := ⟨Kd.C_below (by repeat (first | exact L216.out | apply Kd.C_alloc | apply Kd.C_drewN | apply Kd.C_drew)) hb⟩
                  clear L216
                  have Qu17 : Aside0 (Kd.C k58 W17 Au (Rm (M2T l0 l1)).length (Rm (M2T l0 l1))) := ⟨Kd.C_below (by repeat (first | exact Qu16.out | apply Kd.C_alloc | apply Kd.C_drewN | apply Kd.C_drew)) hb⟩
                  have Quv17 : Aside0 (Kd.V k58 58 W17 w.heap.size (fun _ => True) (.slice Au (Rm (M2T l0 l1)).length cu) (Rm (M2T l0 l1))) := ⟨Kd.V_below (by repeat (first | exact Quv16.out | apply Kd.V_alloc | apply Kd.V_drewN | apply Kd.V_drew)) hb⟩
                  clear Qu16 Quv16
                  have Qf17 : Aside0 (Kd.C k58 W17 Af (Rm l2).length (Rm l2)) := ⟨Kd.C_below (by repeat (first | exact Qf.out | apply Kd.C_alloc | apply Kd.C_drewN | apply Kd.C_drew)) hb⟩
                  have Qfv17 : Aside0 (Kd.V k58 58 W17 w.heap.size (fun _ => True) (.slice Af (Rm l2).length cf) (Rm l2)) := ⟨Kd.V_below (by repeat (first | exact Qfv.out | apply Kd.V_alloc | apply Kd.V_drewN | apply Kd.V_drew)) hb⟩
                  clear Qf Qfv
                  clear HB16
                  have Qxv := Aside0.mk (Kd.R_V (base' := w.heap.size) (Kd.R_mono (ok' := fun _ => True) hr (fun _ _ => trivial)))
                  obtain ⟨Ax, cx, rfl, hle, hC⟩ := Kd.R_reads hr
                  have Qx := Aside0.mk hC
                  have Qxc := Aside0.mk hle
                  clear hr hle hC hb
                  go_wp2
                  go_ret
                  first | exact ⟨rfl, (by repeat (first | (with_reducible first | exact HB17.out | apply below_alloc | apply pw_below_drewN | apply below_drew1) | exact HB17.out))⟩ | exact ⟨by simp, (by repeat (first | (with_reducible first | exact HB17.out | apply below_alloc | apply pw_below_drewN | apply below_drew1) | exact HB17.out))⟩
                · have Mn : Aside0 (mergeF [l0, l1, l2] = ((M2T (M2T l0 l1) l2), 0)) := ⟨(merge_three l0 l1 l2 G0.out G1.out G2.out).trans (if_neg hx)⟩
                  have dx1 : decide (100 < (Rm (M2T (M2T l0 l1) l2)).length) = false := by rw [rm_len]; exact decide_eq_false hx
                  have dx2 : decide (100 < ((Rm (M2T (M2T l0 l1) l2)).length : Int)) = false := by rw [rm_len]; exact decide_eq_false (by omega)
                  have dx3 : decide ((Rm (M2T (M2T l0 l1) l2)).length ≤ 100) = true := by rw [rm_len]; exact decide_eq_true (by omega)
                  have dx4 : decide (((Rm (M2T (M2T l0 l1) l2)).length : Int) ≤ 100) = true := by rw [rm_len]; exact decide_eq_true (by omega)
                  clear hx
                  go_enter Try.func3, Try.ntmps3
                  go_wp2_with fail
                  refine (sackbutlaw23_awake.calls 100 true _ awake_val).mono ?_
                  rintro e W1 ⟨rfl, hb⟩
                  have HB1 : Aside0 (Below w.heap.size w W1) := ⟨below_then (by repeat (first | (with_reducible first | exact HB0.out | apply below_alloc | apply pw_below_drewN | apply below_drew1) | exact HB0.out)) (below_size (by repeat (first | (with_reducible first | exact HB0.out | apply below_alloc | apply pw_below_drewN | apply below_drew1) | exact HB0.out))) hb⟩
                  have L01 : Aside0 (Kd.C k45 W1 A0 l0.length l0) := ⟨Kd.C_below (by repeat (first | exact L0.out | apply Kd.C_alloc | apply Kd.C_drewN | apply Kd.C_drew)) hb⟩
                  clear L0
                  have L11 : Aside0 (Kd.C k45 W1 A1 l1.length l1) := ⟨Kd.C_below (by repeat (first | exact L1.out | apply Kd.C_alloc | apply Kd.C_drewN | apply Kd.C_drew)) hb⟩
                  clear L1
                  have L21 : Aside0 (Kd.C k45 W1 A2 l2.length l2) := ⟨Kd.C_below (by repeat (first | exact L2.out | apply Kd.C_alloc | apply Kd.C_drewN | apply Kd.C_drew)) hb⟩
                  clear L2
                  clear HB0
                  clear hb
                  go_wp2_with fail
                  refine (sackbutlaw23_few.calls (l0.length + 1) A0 c0 l0 true _ (by repeat (first | exact L01.out | apply Kd.C_alloc | apply Kd.C_drewN | apply Kd.C_drew)) HC0.out HF0.out).mono ?_
                  rintro e W2 ⟨rfl, hb⟩
                  have HB2 : Aside0 (Below w.heap.size w W2) := ⟨below_then (by repeat (first | (with_reducible first | exact HB1.out | apply below_alloc | apply pw_below_drewN | apply below_drew1) | exact HB1.out)) (below_size (by repeat (first | (with_reducible first | exact HB1.out | apply below_alloc | apply pw_below_drewN | apply below_drew1) | exact HB1.out))) hb⟩
                  have L02 : Aside0 (Kd.C k45 W2 A0 l0.length l0) := ⟨Kd.C_below (by repeat (first | exact L01.out | apply Kd.C_alloc | apply Kd.C_drewN | apply Kd.C_drew)) hb⟩
                  clear L01
                  have L12 : Aside0 (Kd.C k45 W2 A1 l1.length l1) := ⟨Kd.C_below (by repeat (first | exact L11.out | apply Kd.C_alloc | apply Kd.C_drewN | apply Kd.C_drew)) hb⟩
                  clear L11
                  have L22 : Aside0 (Kd.C k45 W2 A2 l2.length l2) := ⟨Kd.C_below (by repeat (first | exact L21.out | apply Kd.C_alloc | apply Kd.C_drewN | apply Kd.C_drew)) hb⟩
                  clear L21
                  clear HB1
                  clear hb
                  go_wp2_with fail
                  refine (sackbutlaw23_few.calls (l1.length + 1) A1 c1 l1 true _ (by repeat (first | exact L12.out | apply Kd.C_alloc | apply Kd.C_drewN | apply Kd.C_drew)) HC1.out HF1.out).mono ?_
                  rintro e W3 ⟨rfl, hb⟩
                  have HB3 : Aside0 (Below w.heap.size w W3) := ⟨below_then (by repeat (first | (with_reducible first | exact HB2.out | apply below_alloc | apply pw_below_drewN | apply below_drew1) | exact HB2.out)) (below_size (by repeat (first | (with_reducible first | exact HB2.out | apply below_alloc | apply pw_below_drewN | apply below_drew1) | exact HB2.out))) hb⟩
                  have L03 : Aside0 (Kd.C k45 W3 A0 l0.length l0) := ⟨Kd.C_below (by repeat (first | exact L02.out | apply Kd.C_alloc | apply Kd.C_drewN | apply Kd.C_drew)) hb⟩
                  clear L02
                  have L13 : Aside0 (Kd.C k45 W3 A1 l1.length l1) := ⟨Kd.C_below (by repeat (first | exact L12.out | apply Kd.C_alloc | apply Kd.C_drewN | apply Kd.C_drew)) hb⟩
                  clear L12
                  have L23 : Aside0 (Kd.C k45 W3 A2 l2.length l2) := ⟨Kd.C_below (by repeat (first | exact L22.out | apply Kd.C_alloc | apply Kd.C_drewN | apply Kd.C_drew)) hb⟩
                  clear L22
                  clear HB2
                  clear hb
                  go_wp2_with fail
                  refine (sackbutlaw23_few.calls (l2.length + 1) A2 c2 l2 true _ (by repeat (first | exact L23.out | apply Kd.C_alloc | apply Kd.C_drewN | apply Kd.C_drew)) HC2.out HF2.out).mono ?_
                  rintro e W4 ⟨rfl, hb⟩
                  have HB4 : Aside0 (Below w.heap.size w W4) := ⟨below_then (by repeat (first | (with_reducible first | exact HB3.out | apply below_alloc | apply pw_below_drewN | apply below_drew1) | exact HB3.out)) (below_size (by repeat (first | (with_reducible first | exact HB3.out | apply below_alloc | apply pw_below_drewN | apply below_drew1) | exact HB3.out))) hb⟩
                  have L04 : Aside0 (Kd.C k45 W4 A0 l0.length l0) := ⟨Kd.C_below (by repeat (first | exact L03.out | apply Kd.C_alloc | apply Kd.C_drewN | apply Kd.C_drew)) hb⟩
                  clear L03
                  have L14 : Aside0 (Kd.C k45 W4 A1 l1.length l1) := ⟨Kd.C_below (by repeat (first | exact L13.out | apply Kd.C_alloc | apply Kd.C_drewN | apply Kd.C_drew)) hb⟩
                  clear L13
                  have L24 : Aside0 (Kd.C k45 W4 A2 l2.length l2) := ⟨Kd.C_below (by repeat (first | exact L23.out | apply Kd.C_alloc | apply Kd.C_drewN | apply Kd.C_drew)) hb⟩
                  clear L23
                  clear HB3
                  clear hb
                  go_wp2_with fail
                  refine (Merge_calls _ _ _ [l0, l1] (rows2 _ (by repeat (first | exact L04.out | apply Kd.C_alloc | apply Kd.C_drewN | apply Kd.C_drew)) HC0.out (by repeat (first | exact L14.out | apply Kd.C_alloc | apply Kd.C_drewN | apply Kd.C_drew)) HC1.out) (Nat.le_refl _) (by simp)).mono ?_
                  rintro e W5 ⟨vm, rfl, hr, hb⟩
                  have HB5 : Aside0 (Below w.heap.size w W5) := ⟨below_then (by repeat (first | (with_reducible first | exact HB4.out | apply below_alloc | apply pw_below_drewN | apply below_drew1) | exact HB4.out)) (below_size (by repeat (first | (with_reducible first | exact HB4.out | apply below_alloc | apply pw_below_drewN | apply below_drew1) | exact HB4.out))) hb⟩
                  have L05 : Aside0 (Kd.C k45 W5 A0 l0.length l0) := ⟨Kd.C_below (by repeat (first | exact L04.out | apply Kd.C_alloc | apply Kd.C_drewN | apply Kd.C_drew)) hb⟩
                  clear L04
                  have L15 : Aside0 (Kd.C k45 W5 A1 l1.length l1) := ⟨Kd.C_below (by repeat (first | exact L14.out | apply Kd.C_alloc | apply Kd.C_drewN | apply Kd.C_drew)) hb⟩
                  clear L14
                  have L25 : Aside0 (Kd.C k45 W5 A2 l2.length l2) := ⟨Kd.C_below (by repeat (first | exact L24.out | apply Kd.C_alloc | apply Kd.C_drewN | apply Kd.C_drew)) hb⟩
                  clear L24
                  clear HB4
                  rw [Mm.out] at hr ⊢
                  obtain ⟨Am, cm, rfl, hle, hC⟩ := Kd.R_reads hr
                  have Qm := Aside0.mk hC
                  have Qmc := Aside0.mk hle
                  clear hr hle hC hb
                  go_wp2_with fail
                  refine (Merge_calls _ _ _ [l0, l1, l2] (rows3 _ (by repeat (first | exact L05.out | apply Kd.C_alloc | apply Kd.C_drewN | apply Kd.C_drew)) HC0.out (by repeat (first | exact L15.out | apply Kd.C_alloc | apply Kd.C_drewN | apply Kd.C_drew)) HC1.out (by repeat (first | exact L25.out | apply Kd.C_alloc | apply Kd.C_drewN | apply Kd.C_drew)) HC2.out) (Nat.le_refl _) (by simp)).mono ?_
                  rintro e W6 ⟨vn, rfl, hr, hb⟩
                  have HB6 : Aside0 (Below w.heap.size w W6) := ⟨below_then (by repeat (first | (with_reducible first | exact HB5.out | apply below_alloc | apply pw_below_drewN | apply below_drew1) | exact HB5.out)) (below_size (by repeat (first | (with_reducible first | exact HB5.out | apply below_alloc | apply pw_below_drewN | apply below_drew1) | exact HB5.out))) hb⟩
                  have L06 : Aside0 (Kd.C k45 W6 A0 l0.length l0) := ⟨Kd.C_below (by repeat (first | exact L05.out | apply Kd.C_alloc | apply Kd.C_drewN | apply Kd.C_drew)) hb⟩
                  clear L05
                  have L16 : Aside0 (Kd.C k45 W6 A1 l1.length l1) := ⟨Kd.C_below (by repeat (first | exact L15.out | apply Kd.C_alloc | apply Kd.C_drewN | apply Kd.C_drew)) hb⟩
                  clear L15
                  have L26 : Aside0 (Kd.C k45 W6 A2 l2.length l2) := ⟨Kd.C_below (by repeat (first | exact L25.out | apply Kd.C_alloc | apply Kd.C_drewN | apply Kd.C_drew)) hb⟩
                  clear L25
                  have Qm6 : Aside0 (Kd.C k45 W6 Am ([] : List TC).length ([] : List TC)) := ⟨Kd.C_below (by repeat (first | exact Qm.out | apply Kd.C_alloc | apply Kd.C_drewN | apply Kd.C_drew)) hb⟩
                  clear Qm
                  clear HB5
                  rw [Mn.out] at hr ⊢
                  obtain ⟨An, cn, rfl, hle, hC⟩ := Kd.R_reads hr
                  have Qn := Aside0.mk hC
                  have Qnc := Aside0.mk hle
                  clear hr hle hC hb
                  clear Qm6
                  go_wp2_with fail
                  refine (sackbutlaw23_ref.calls 1001 A0 c0 l0 (Rm l0) _ (by repeat (first | exact L06.out | apply Kd.C_alloc | apply Kd.C_drewN | apply Kd.C_drew)) HC0.out (ref_val l0 (by have := LEN.out; omega))).mono ?_
                  rintro e W7 ⟨va, rfl, hr, hb⟩
                  have HB7 : Aside0 (Below w.heap.size w W7) := ⟨below_then (by repeat (first | (with_reducible first | exact HB6.out | apply below_alloc | apply pw_below_drewN | apply below_drew1) | exact HB6.out)) (below_size (by repeat (first | (with_reducible first | exact HB6.out | apply below_alloc | apply pw_below_drewN | apply below_drew1) | exact HB6.out))) hb⟩
                  have L07 : Aside0 (Kd.C k45 W7 A0 l0.length l0) := ⟨Kd.C_below (by repeat (first | exact L06.out | apply Kd.C_alloc | apply Kd.C_drewN | apply Kd.C_drew)) hb⟩
                  clear L06
                  have L17 : Aside0 (Kd.C k45 W7 A1 l1.length l1) := ⟨Kd.C_below (by repeat (first | exact L16.out | apply Kd.C_alloc | apply Kd.C_drewN | apply Kd.C_drew)) hb⟩
                  clear L16
                  have L27 : Aside0 (Kd.C k45 W7 A2 l2.length l2) := ⟨Kd.C_below (by repeat (first | exact L26.out | apply Kd.C_alloc | apply Kd.C_drewN | apply Kd.C_drew)) hb⟩
                  clear L26
                  have Qn7 : Aside0 (Kd.C k45 W7 An (M2T (M2T l0 l1) l2).length (M2T (M2T l0 l1) l2)) := ⟨Kd.C_below (by repeat (first | exact Qn.out | apply Kd.C_alloc | apply Kd.C_drewN | apply Kd.C_drew)) hb⟩
                  clear Qn
                  clear HB6
                  have Qav := Aside0.mk (Kd.R_V (base' := w.heap.size) (Kd.R_mono (ok' := fun _ => True) hr (fun _ _ => trivial)))
                  obtain ⟨Aa, ca, rfl, hle, hC⟩ := Kd.R_reads hr
                  have Qa := Aside0.mk hC
                  have Qac := Aside0.mk hle
                  clear hr hle hC hb
                  go_wp2_with fail
                  refine (sackbutref23_Good.calls 2000 Aa ca (Rm l0) (goodB l0) _ (by repeat (first | exact Qa.out | apply Kd.C_alloc | apply Kd.C_drewN | apply Kd.C_drew)) Qac.out (good_ref l0 (by have := LEN.out; omega) SZ0.out)).mono ?_
                  rintro e W8 ⟨rfl, hb⟩
                  have HB8 : Aside0 (Below w.heap.size w W8) := ⟨below_then (by repeat (first | (with_reducible first | exact HB7.out | apply below_alloc | apply pw_below_drewN | apply below_drew1) | exact HB7.out)) (below_size (by repeat (first | (with_reducible first | exact HB7.out | apply below_alloc | apply pw_below_drewN | apply below_drew1) | exact HB7.out))) hb⟩
                  have L08 : Aside0 (Kd.C k45 W8 A0 l0.length l0) := ⟨Kd.C_below (by repeat (first | exact L07.out | apply Kd.C_alloc | apply Kd.C_drewN | apply Kd.C_drew)) hb⟩
                  clear L07
                  have L18 : Aside0 (Kd.C k45 W8 A1 l1.length l1) := ⟨Kd.C_below (by repeat (first | exact L17.out | apply Kd.C_alloc | apply Kd.C_drewN | apply Kd.C_drew)) hb⟩
                  clear L17
                  have L28 : Aside0 (Kd.C k45 W8 A2 l2.length l2) := ⟨Kd.C_below (by repeat (first | exact L27.out | apply Kd.C_alloc | apply Kd.C_drewN | apply Kd.C_drew)) hb⟩
                  clear L27
                  have Qn8 : Aside0 (Kd.C k45 W8 An (M2T (M2T l0 l1) l2).length (M2T (M2T l0 l1) l2)) := ⟨Kd.C_below (by repeat (first | exact Qn7.out | apply Kd.C_alloc | apply Kd.C_drewN | apply Kd.C_drew)) hb⟩
                  clear Qn7
                  have Qa8 : Aside0 (Kd.C k58 W8 Aa (Rm l0).length (Rm l0)) := ⟨Kd.C_below (by repeat (first | exact Qa.out | apply Kd.C_alloc | apply Kd.C_drewN | apply Kd.C_drew)) hb⟩
                  have Qav8 : Aside0 (Kd.V k58 58 W8 w.heap.size (fun _ => True) (.slice Aa (Rm l0).length ca) (Rm l0)) := ⟨Kd.V_below (by repeat (first | exact Qav.out | apply Kd.V_alloc | apply Kd.V_drewN | apply Kd.V_drew)) hb⟩
                  clear Qa Qav
                  clear HB7
                  clear hb
                  rw [G0.out]
                  clear Qa8 Qav8
                  go_wp2_with fail
                  refine (sackbutlaw23_ref.calls 1001 A1 c1 l1 (Rm l1) _ (by repeat (first | exact L18.out | apply Kd.C_alloc | apply Kd.C_drewN | apply Kd.C_drew)) HC1.out (ref_val l1 (by have := LEN.out; omega))).mono ?_
                  rintro e W9 ⟨vb, rfl, hr, hb⟩
                  have HB9 : Aside0 (Below w.heap.size w W9) := ⟨below_then (by repeat (first | (with_reducible first | exact HB8.out | apply below_alloc | apply pw_below_drewN | apply below_drew1) | exact HB8.out)) (below_size (by repeat (first | (with_reducible first | exact HB8.out | apply below_alloc | apply pw_below_drewN | apply below_drew1) | exact HB8.out))) hb⟩
                  have L09 : Aside0 (Kd.C k45 W9 A0 l0.length l0) := ⟨Kd.C_below (by repeat (first | exact L08.out | apply Kd.C_alloc | apply Kd.C_drewN | apply Kd.C_drew)) hb⟩
                  clear L08
                  have L19 : Aside0 (Kd.C k45 W9 A1 l1.length l1) := ⟨Kd.C_below (by repeat (first | exact L18.out | apply Kd.C_alloc | apply Kd.C_drewN | apply Kd.C_drew)) hb⟩
                  clear L18
                  have L29 : Aside0 (Kd.C k45 W9 A2 l2.length l2) := ⟨Kd.C_below (by repeat (first | exact L28.out | apply Kd.C_alloc | apply Kd.C_drewN | apply Kd.C_drew)) hb⟩
                  clear L28
                  have Qn9 : Aside0 (Kd.C k45 W9 An (M2T (M2T l0 l1) l2).length (M2T (M2T l0 l1) l2)) := ⟨Kd.C_below (by repeat (first | exact Qn8.out | apply Kd.C_alloc | apply Kd.C_drewN | apply Kd.C_drew)) hb⟩
                  clear Qn8
                  clear HB8
                  have Qbv := Aside0.mk (Kd.R_V (base' := w.heap.size) (Kd.R_mono (ok' := fun _ => True) hr (fun _ _ => trivial)))
                  obtain ⟨Ab, cb, rfl, hle, hC⟩ := Kd.R_reads hr
                  have Qb := Aside0.mk hC
                  have Qbc := Aside0.mk hle
                  clear hr hle hC hb
                  go_wp2_with fail
                  refine (sackbutref23_Good.calls 2000 Ab cb (Rm l1) (goodB l1) _ (by repeat (first | exact Qb.out | apply Kd.C_alloc | apply Kd.C_drewN | apply Kd.C_drew)) Qbc.out (good_ref l1 (by have := LEN.out; omega) SZ1.out)).mono ?_
                  rintro e W10 ⟨rfl, hb⟩
                  have HB10 : Aside0 (Below w.heap.size w W10) := ⟨below_then (by repeat (first | (with_reducible first | exact HB9.out | apply below_alloc | apply pw_below_drewN | apply below_drew1) | exact HB9.out)) (below_size (by repeat (first | (with_reducible first | exact HB9.out | apply below_alloc | apply pw_below_drewN | apply below_drew1) | exact HB9.out))) hb⟩
                  have L010 : Aside0 (Kd.C k45 W10 A0 l0.length l0) := ⟨Kd.C_below (by repeat (first | exact L09.out | apply Kd.C_alloc | apply Kd.C_drewN | apply Kd.C_drew)) hb⟩
                  clear L09
                  have L110 : Aside0 (Kd.C k45 W10 A1 l1.length l1) := ⟨Kd.C_below (by repeat (first | exact L19.out | apply Kd.C_alloc | apply Kd.C_drewN | apply Kd.C_drew)) hb⟩
                  clear L19
                  have L210 : Aside0 (Kd.C k45 W10 A2 l2.length l2) := ⟨Kd.C_below (by repeat (first | exact L29.out | apply Kd.C_alloc | apply Kd.C_drewN | apply Kd.C_drew)) hb⟩
                  clear L29
                  have Qn10 : Aside0 (Kd.C k45 W10 An (M2T (M2T l0 l1) l2).length (M2T (M2T l0 l1) l2)) := ⟨Kd.C_below (by repeat (first | exact Qn9.out | apply Kd.C_alloc | apply Kd.C_drewN | apply Kd.C_drew)) hb⟩
                  clear Qn9
                  have Qb10 : Aside0 (Kd.C k58 W10 Ab (Rm l1).length (Rm l1)) := ⟨Kd.C_below (by repeat (first | exact Qb.out | apply Kd.C_alloc | apply Kd.C_drewN | apply Kd.C_drew)) hb⟩
                  have Qbv10 : Aside0 (Kd.V k58 58 W10 w.heap.size (fun _ => True) (.slice Ab (Rm l1).length cb) (Rm l1)) := ⟨Kd.V_below (by repeat (first | exact Qbv.out | apply Kd.V_alloc | apply Kd.V_drewN | apply Kd.V_drew)) hb⟩
                  clear Qb Qbv
                  clear HB9
                  clear hb
                  rw [G1.out]
                  clear Qb10 Qbv10
                  go_wp2_with fail
                  refine (sackbutlaw23_ref.calls 1001 A0 c0 l0 (Rm l0) _ (by repeat (first | exact L010.out | apply Kd.C_alloc | apply Kd.C_drewN | apply Kd.C_drew)) HC0.out (ref_val l0 (by have := LEN.out; omega))).mono ?_
                  rintro e W11 ⟨vc, rfl, hr, hb⟩
                  have HB11 : Aside0 (Below w.heap.size w W11) := ⟨below_then (by repeat (first | (with_reducible first | exact HB10.out | apply below_alloc | apply pw_below_drewN | apply below_drew1) | exact HB10.out)) (below_size (by repeat (first | (with_reducible first | exact HB10.out | apply below_alloc | apply pw_below_drewN | apply below_drew1) | exact HB10.out))) hb⟩
                  have L011 : Aside0 (Kd.C k45 W11 A0 l0.length l0) := ⟨Kd.C_below (by repeat (first | exact L010.out | apply Kd.C_alloc | apply Kd.C_drewN | apply Kd.C_drew)) hb⟩
                  clear L010
                  have L111 : Aside0 (Kd.C k45 W11 A1 l1.length l1) := ⟨Kd.C_below (by repeat (first | exact L110.out | apply Kd.C_alloc | apply Kd.C_drewN | apply Kd.C_drew)) hb⟩
                  clear L110
                  have L211 : Aside0 (Kd.C k45 W11 A2 l2.length l2) := ⟨Kd.C_below (by repeat (first | exact L210.out | apply Kd.C_alloc | apply Kd.C_drewN | apply Kd.C_drew)) hb⟩
                  clear L210
                  have Qn11 : Aside0 (Kd.C k45 W11 An (M2T (M2T l0 l1) l2).length (M2T (M2T l0 l1) l2)) := ⟨Kd.C_below (by repeat (first | exact Qn10.out | apply Kd.C_alloc | apply Kd.C_drewN | apply Kd.C_drew)) hb⟩
                  clear Qn10
                  clear HB10
                  have Qcv := Aside0.mk (Kd.R_V (base' := w.heap.size) (Kd.R_mono (ok' := fun _ => True) hr (fun _ _ => trivial)))
                  obtain ⟨Ac, cc, rfl, hle, hC⟩ := Kd.R_reads hr
                  have Qc := Aside0.mk hC
                  have Qcc := Aside0.mk hle
                  clear hr hle hC hb
                  go_wp2_with fail
                  refine (sackbutlaw23_ref.calls 1001 A1 c1 l1 (Rm l1) _ (by repeat (first | exact L111.out | apply Kd.C_alloc | apply Kd.C_drewN | apply Kd.C_drew)) HC1.out (ref_val l1 (by have := LEN.out; omega))).mono ?_
                  rintro e W12 ⟨vd, rfl, hr, hb⟩
                  have HB12 : Aside0 (Below w.heap.size w W12) := ⟨below_then (by repeat (first | (with_reducible first | exact HB11.out | apply below_alloc | apply pw_below_drewN | apply below_drew1) | exact HB11.out)) (below_size (by repeat (first | (with_reducible first | exact HB11.out | apply below_alloc | apply pw_below_drewN | apply below_drew1) | exact HB11.out))) hb⟩
                  have L012 : Aside0 (Kd.C k45 W12 A0 l0.length l0) := ⟨Kd.C_below (by repeat (first | exact L011.out | apply Kd.C_alloc | apply Kd.C_drewN | apply Kd.C_drew)) hb⟩
                  clear L011
                  have L112 : Aside0 (Kd.C k45 W12 A1 l1.length l1) := ⟨Kd.C_below (by repeat (first | exact L111.out | apply Kd.C_alloc | apply Kd.C_drewN | apply Kd.C_drew)) hb⟩
                  clear L111
                  have L212 : Aside0 (Kd.C k45 W12 A2 l2.length l2) := ⟨Kd.C_below (by repeat (first | exact L211.out | apply Kd.C_alloc | apply Kd.C_drewN | apply Kd.C_drew)) hb⟩
                  clear L211
                  have Qn12 : Aside0 (Kd.C k45 W12 An (M2T (M2T l0 l1) l2).length (M2T (M2T l0 l1) l2)) := ⟨Kd.C_below (by repeat (first | exact Qn11.out | apply Kd.C_alloc | apply Kd.C_drewN | apply Kd.C_drew)) hb⟩
                  clear Qn11
                  have Qc12 : Aside0 (Kd.C k58 W12 Ac (Rm l0).length (Rm l0)) := ⟨Kd.C_below (by repeat (first | exact Qc.out | apply Kd.C_alloc | apply Kd.C_drewN | apply Kd.C_drew)) hb⟩
                  have Qcv12 : Aside0 (Kd.V k58 58 W12 w.heap.size (fun _ => True) (.slice Ac (Rm l0).length cc) (Rm l0)) := ⟨Kd.V_below (by repeat (first | exact Qcv.out | apply Kd.V_alloc | apply Kd.V_drewN | apply Kd.V_drew)) hb⟩
                  clear Qc Qcv
                  clear HB11
                  have Qdv := Aside0.mk (Kd.R_V (base' := w.heap.size) (Kd.R_mono (ok' := fun _ => True) hr (fun _ _ => trivial)))
                  obtain ⟨Ad, cd, rfl, hle, hC⟩ := Kd.R_reads hr
                  have Qd := Aside0.mk hC
                  have Qdc := Aside0.mk hle
                  clear hr hle hC hb
                  go_wp2_with fail
                  refine (sackbutref23_Merge.calls 4000 (fun _ => True) Ac cc (Rm l0) (fun _ => True) Ad cd (Rm l1) (Rm (M2T l0 l1)) _ (by repeat (first | exact Qcv12.out | apply Kd.V_alloc | apply Kd.V_drewN | apply Kd.V_drew)) (by repeat (first | exact Qdv.out | apply Kd.V_alloc | apply Kd.V_drewN | apply Kd.V_drew)) (merge_ref l0 l1 (by have := LEN.out; have := m2_len l0 l1; omega))).mono ?_
                  rintro e W13 ⟨vu, rfl, hr, hb⟩
                  have HB13 : Aside0 (Below w.heap.size w W13) := ⟨below_then (by repeat (first | (with_reducible first | exact HB12.out | apply below_alloc | apply pw_below_drewN | apply below_drew1) | exact HB12.out)) (below_size (by repeat (first | (with_reducible first | exact HB12.out | apply below_alloc | apply pw_below_drewN | apply below_drew1) | exact HB12.out))) hb⟩
                  have L013 : Aside0 (Kd.C k45 W13 A0 l0.length l0) := ⟨Kd.C_below (by repeat (first | exact L012.out | apply Kd.C_alloc | apply Kd.C_drewN | apply Kd.C_drew)) hb⟩
                  clear L012
                  have L113 : Aside0 (Kd.C k45 W13 A1 l1.length l1) := ⟨Kd.C_below (by repeat (first | exact L112.out | apply Kd.C_alloc | apply Kd.C_drewN | apply Kd.C_drew)) hb⟩
                  clear L112
                  have L213 : Aside0 (Kd.C k45 W13 A2 l2.length l2) := ⟨Kd.C_below (by repeat (first | exact L212.out | apply Kd.C_alloc | apply Kd.C_drewN | apply Kd.C_drew)) hb⟩
                  clear L212
                  have Qn13 : Aside0 (Kd.C k45 W13 An (M2T (M2T l0 l1) l2).length (M2T (M2T l0 l1) l2)) := ⟨Kd.C_below (by repeat (first | exact Qn12.out | apply Kd.C_alloc | apply Kd.C_drewN | apply Kd.C_drew)) hb⟩
                  clear Qn12
                  have Qc13 : Aside0 (Kd.C k58 W13 Ac (Rm l0).length (Rm l0)) := ⟨Kd.C_below (by repeat (first | exact Qc12.out | apply Kd.C_alloc | apply Kd.C_drewN | apply Kd.C_drew)) hb⟩
                  have Qcv13 : Aside0 (Kd.V k58 58 W13 w.heap.size (fun _ => True) (.slice Ac (Rm l0).length cc) (Rm l0)) := ⟨Kd.V_below (by repeat (first | exact Qcv12.out | apply Kd.V_alloc | apply Kd.V_drewN | apply Kd.V_drew)) hb⟩
                  clear Qc12 Qcv12
                  have Qd13 : Aside0 (Kd.C k58 W13 Ad (Rm l1).length (Rm l1)) := ⟨Kd.C_below (by repeat (first | exact Qd.out | apply Kd.C_alloc | apply Kd.C_drewN | apply Kd.C_drew)) hb⟩
                  have Qdv13 : Aside0 (Kd.V k58 58 W13 w.heap.size (fun _ => True) (.slice Ad (Rm l1).length cd) (Rm l1)) := ⟨Kd.V_below (by repeat (first | exact Qdv.out | apply Kd.V_alloc | apply Kd.V_drewN | apply Kd.V_drew)) hb⟩
                  clear Qd Qdv
                  clear HB12
                  have Quv := Aside0.mk (Kd.R_V (base' := w.heap.size) (Kd.R_mono (ok' := fun _ => True) hr (fun _ _ => trivial)))
                  obtain ⟨Au, cu, rfl, hle, hC⟩ := Kd.R_reads hr
                  have Qu := Aside0.mk hC
                  have Quc := Aside0.mk hle
                  clear hr hle hC hb
                  clear Qc13 Qcv13
                  clear Qd13 Qdv13
                  go_wp2_with fail
                  refine (sackbutlaw23_ref.calls 1001 A2 c2 l2 (Rm l2) _ (by repeat (first | exact L213.out | apply Kd.C_alloc | apply Kd.C_drewN | apply Kd.C_drew)) HC2.out (ref_val l2 (by have := LEN.out; omega))).mono ?_
                  rintro e W14 ⟨ve, rfl, hr, hb⟩
                  have HB14 : Aside0 (Below w.heap.size w W14) := ⟨below_then (by repeat (first | (with_reducible first | exact HB13.out | apply below_alloc | apply pw_below_drewN | apply below_drew1) | exact HB13.out)) (below_size (by repeat (first | (with_reducible first | exact HB13.out | apply below_alloc | apply pw_below_drewN | apply below_drew1) | exact HB13.out))) hb⟩
                  have L014 : Aside0 (Kd.C k45 W14 A0 l0.length l0) := ⟨Kd.C_below (by repeat (first | exact L013.out | apply Kd.C_alloc | apply Kd.C_drewN | apply Kd.C_drew)) hb⟩
                  clear L013
                  have L114 : Aside0 (Kd.C k45 W14 A1 l1.length l1) := ⟨Kd.C_below (by repeat (first | exact L113.out | apply Kd.C_alloc | apply Kd.C_drewN | apply Kd.C_drew)) hb⟩
                  clear L113
                  have L214 : Aside0 (Kd.C k45 W14 A2 l2.length l2) := ⟨Kd.C_below (by repeat (first | exact L213.out | apply Kd.C_alloc | apply Kd.C_drewN | apply Kd.C_drew)) hb⟩
                  clear L213
                  have Qn14 : Aside0 (Kd.C k45 W14 An (M2T (M2T l0 l1) l2).length (M2T (M2T l0 l1) l2)) := ⟨Kd.C_below (by repeat (first | exact Qn13.out | apply Kd.C_alloc | apply Kd.C_drewN | apply Kd.C_drew)) hb⟩
                  clear Qn13
                  have Qu14 : Aside0 (Kd.C k58 W14 Au (Rm (M2T l0 l1)).length (Rm (M2T l0 l1))) := ⟨Kd.C_below (by repeat (first | exact Qu.out | apply Kd.C_alloc | apply Kd.C_drewN | apply Kd.C_drew)) hb⟩
                  have Quv14 : Aside0 (Kd.V k58 58 W14 w.heap.size (fun _ => True) (.slice Au (Rm (M2T l0 l1)).length cu) (Rm (M2T l0 l1))) := ⟨Kd.V_below (by repeat (first | exact Quv.out | apply Kd.V_alloc | apply Kd.V_drewN | apply Kd.V_drew)) hb⟩
                  clear Qu Quv
                  clear HB13
                  have Qev := Aside0.mk (Kd.R_V (base' := w.heap.size) (Kd.R_mono (ok' := fun _ => True) hr (fun _ _ => trivial)))
                  obtain ⟨Ae, ce, rfl, hle, hC⟩ := Kd.R_reads hr
                  have Qe := Aside0.mk hC
                  have Qec := Aside0.mk hle
                  clear hr hle hC hb
                  go_wp2_with fail
                  refine (sackbutref23_Good.calls 2000 Ae ce (Rm l2) (goodB l2) _ (by repeat (first | exact Qe.out | apply Kd.C_alloc | apply Kd.C_drewN | apply Kd.C_drew)) Qec.out (good_ref l2 (by have := LEN.out; omega) SZ2.out)).mono ?_
                  rintro e W15 ⟨rfl, hb⟩
                  have HB15 : Aside0 (Below w.heap.size w W15) := ⟨below_then (by repeat (first | (with_reducible first | exact HB14.out | apply below_alloc | apply pw_below_drewN | apply below_drew1) | exact HB14.out)) (below_size (by repeat (first | (with_reducible first | exact HB14.out | apply below_alloc | apply pw_below_drewN | apply below_drew1) | exact HB14.out))) hb⟩
                  have L015 : Aside0 (Kd.C k45 W15 A0 l0.length l0) := ⟨Kd.C_below (by repeat (first | exact L014.out | apply Kd.C_alloc | apply Kd.C_drewN | apply Kd.C_drew)) hb⟩
                  clear L014
                  have L115 : Aside0 (Kd.C k45 W15 A1 l1.length l1) := ⟨Kd.C_below (by repeat (first | exact L114.out | apply Kd.C_alloc | apply Kd.C_drewN | apply Kd.C_drew)) hb⟩
                  clear L114
                  have L215 : Aside0 (Kd.C k45 W15 A2 l2.length l2) := ⟨Kd.C_below (by repeat (first | exact L214.out | apply Kd.C_alloc | apply Kd.C_drewN | apply Kd.C_drew)) hb⟩
                  clear L214
                  have Qn15 : Aside0 (Kd.C k45 W15 An (M2T (M2T l0 l1) l2).length (M2T (M2T l0 l1) l2)) := ⟨Kd.C_below (by repeat (first | exact Qn14.out | apply Kd.C_alloc | apply Kd.C_drewN | apply Kd.C_drew)) hb⟩
                  clear Qn14
                  have Qu15 : Aside0 (Kd.C k58 W15 Au (Rm (M2T l0 l1)).length (Rm (M2T l0 l1))) := ⟨Kd.C_below (by repeat (first | exact Qu14.out | apply Kd.C_alloc | apply Kd.C_drewN | apply Kd.C_drew)) hb⟩
                  have Quv15 : Aside0 (Kd.V k58 58 W15 w.heap.size (fun _ => True) (.slice Au (Rm (M2T l0 l1)).length cu) (Rm (M2T l0 l1))) := ⟨Kd.V_below (by repeat (first | exact Quv14.out | apply Kd.V_alloc | apply Kd.V_drewN | apply Kd.V_drew)) hb⟩
                  clear Qu14 Quv14
                  have Qe15 : Aside0 (Kd.C k58 W15 Ae (Rm l2).length (Rm l2)) := ⟨Kd.C_below (by repeat (first | exact Qe.out | apply Kd.C_alloc | apply Kd.C_drewN | apply Kd.C_drew)) hb⟩
                  have Qev15 : Aside0 (Kd.V k58 58 W15 w.heap.size (fun _ => True) (.slice Ae (Rm l2).length ce) (Rm l2)) := ⟨Kd.V_below (by repeat (first | exact Qev.out | apply Kd.V_alloc | apply Kd.V_drewN | apply Kd.V_drew)) hb⟩
                  clear Qe Qev
                  clear HB14
                  clear hb
                  rw [G2.out]
                  clear Qe15 Qev15
                  go_wp2_with fail
                  refine (sackbutlaw23_ref.calls 1001 A2 c2 l2 (Rm l2) _ (by repeat (first | exact L215.out | apply Kd.C_alloc | apply Kd.C_drewN | apply Kd.C_drew)) HC2.out (ref_val l2 (by have := LEN.out; omega))).mono ?_
                  rintro e W16 ⟨vf, rfl, hr, hb⟩
                  have HB16 : Aside0 (Below w.heap.size w W16) := ⟨below_then (by repeat (first | (with_reducible first | exact HB15.out | apply below_alloc | apply pw_below_drewN | apply below_drew1) | exact HB15.out)) (below_size (by repeat (first | (with_reducible first | exact HB15.out | apply below_alloc | apply pw_below_drewN | apply below_drew1) | exact HB15.out))) hb⟩
                  have L016 : Aside0 (Kd.C k45 W16 A0 l0.length l0) := ⟨Kd.C_below (by repeat (first | exact L015.out | apply Kd.C_alloc | apply Kd.C_drewN | apply Kd.C_drew)) hb⟩
                  clear L015
                  have L116 : Aside0 (Kd.C k45 W16 A1 l1.length l1) := ⟨Kd.C_below (by repeat (first | exact L115.out | apply Kd.C_alloc | apply Kd.C_drewN | apply Kd.C_drew)) hb⟩
                  clear L115
                  have L216 : Aside0 (Kd.C k45 W16 A2 l2.length l2) := ⟨Kd.C_below (by repeat (first | exact L215.out | apply Kd.C_alloc | apply Kd.C_drewN | apply Kd.C_drew)) hb⟩
                  clear L215
                  have Qn16 : Aside0 (Kd.C k45 W16 An (M2T (M2T l0 l1) l2).length (M2T (M2T l0 l1) l2)) := ⟨Kd.C_below (by repeat (first | exact Qn15.out | apply Kd.C_alloc | apply Kd.C_drewN | apply Kd.C_drew)) hb⟩
                  clear Qn15
                  have Qu16 : Aside0 (Kd.C k58 W16 Au (Rm (M2T l0 l1)).length (Rm (M2T l0 l1))) := ⟨Kd.C_below (by repeat (first | exact Qu15.out | apply Kd.C_alloc | apply Kd.C_drewN | apply Kd.C_drew)) hb⟩
                  have Quv16 : Aside0 (Kd.V k58 58 W16 w.heap.size (fun _ => True) (.slice Au (Rm (M2T l0 l1)).length cu) (Rm (M2T l0 l1))) := ⟨Kd.V_below (by repeat (first | exact Quv15.out | apply Kd.V_alloc | apply Kd.V_drewN | apply Kd.V_drew)) hb⟩
                  clear Qu15 Quv15
                  clear HB15
                  have Qfv := Aside0.mk (Kd.R_V (base' := w.heap.size) (Kd.R_mono (ok' := fun _ => True) hr (fun _ _ => trivial)))
                  obtain ⟨Af, cf, rfl, hle, hC⟩ := Kd.R_reads hr
                  have Qf := Aside0.mk hC
                  have Qfc := Aside0.mk hle
                  clear hr hle hC hb
                  go_wp2_with fail
                  refine (sackbutref23_Merge.calls 4000 (fun _ => True) Au cu (Rm (M2T l0 l1)) (fun _ => True) Af cf (Rm l2) (Rm (M2T (M2T l0 l1) l2)) _ (by repeat (first | exact Quv16.out | apply Kd.V_alloc | apply Kd.V_drewN | apply Kd.V_drew)) (by repeat (first | exact Qfv.out | apply Kd.V_alloc | apply Kd.V_drewN | apply Kd.V_drew)) (merge_ref (M2T l0 l1) l2 (by have := LEN.out; have := m2_len l0 l1; omega))).mono ?_
                  rintro e W17 ⟨vx, rfl, hr, hb⟩
                  have HB17 : Aside0 (Below w.heap.size w W17) := ⟨below_then (by repeat (first | (with_reducible first | exact HB16.out | apply below_alloc | apply pw_below_drewN | apply below_drew1) | exact HB16.out)) (below_size (by repeat (first | (with_reducible first | exact HB16.out | apply below_alloc | apply pw_below_drewN | apply below_drew1) | exact HB16.out))) hb⟩
                  have L017 : Aside0 (Kd.C k45 W17 A0 l0.length l0) := ⟨Kd.C_below (by repeat (first | exact L016.out | apply Kd.C_alloc | apply Kd.C_drewN | apply Kd.C_drew)) hb⟩
                  clear L016
                  have L117 : Aside0 (Kd.C k45 W17 A1 l1.length l1) := ⟨Kd.C_below (by repeat (first | exact L116.out | apply Kd.C_alloc | apply Kd.C_drewN | apply Kd.C_drew)) hb⟩
                  clear L116
                  have L217 : Aside0 (Kd.C k45 W17 A2 l2.length l2) := ⟨Kd.C_below (by repeat (first | exact L216.out | apply Kd.C_alloc | apply Kd.C_drewN | apply Kd.C_drew)) hb⟩
                  clear L216
                  have Qn17 : Aside0 (Kd.C k45 W17 An (M2T (M2T l0 l1) l2).length (M2T (M2T l0 l1) l2)) := ⟨Kd.C_below (by repeat (first | exact Qn16.out | apply Kd.C_alloc | apply Kd.C_drewN | apply Kd.C_drew)) hb⟩
                  clear Qn16
                  have Qu17 : Aside0 (Kd.C k58 W17 Au (Rm (M2T l0 l1)).length (Rm (M2T l0 l1))) := ⟨Kd.C_below (by repeat (first | exact Qu16.out | apply Kd.C_alloc | apply Kd.C_drewN | apply Kd.C_drew)) hb⟩
                  have Quv17 : Aside0 (Kd.V k58 58 W17 w.heap.size (fun _ => True) (.slice Au (Rm (M2T l0 l1)).length cu) (Rm (M2T l0 l1))) := ⟨Kd.V_below (by repeat (first | exact Quv16.out | apply Kd.V_alloc | apply Kd.V_drewN | apply Kd.V_drew)) hb⟩
                  clear Qu16 Quv16
                  have Qf17 : Aside0 (Kd.C k58 W17 Af (Rm l2).length (Rm l2)) := ⟨Kd.C_below (by repeat (first | exact Qf.out | apply Kd.C_alloc | apply Kd.C_drewN | apply Kd.C_drew)) hb⟩
                  have Qfv17 : Aside0 (Kd.V k58 58 W17 w.heap.size (fun _ => True) (.slice Af (Rm l2).length cf) (Rm l2)) := ⟨Kd.V_below (by repeat (first | exact Qfv.out | apply Kd.V_alloc | apply Kd.V_drewN | apply Kd.V_drew)) hb⟩
                  clear Qf Qfv
                  clear HB16
                  have Qxv := Aside0.mk (Kd.R_V (base' := w.heap.size) (Kd.R_mono (ok' := fun _ => True) hr (fun _ _ => trivial)))
                  obtain ⟨Ax, cx, rfl, hle, hC⟩ := Kd.R_reads hr
                  have Qx := Aside0.mk hC
                  have Qxc := Aside0.mk hle
                  clear hr hle hC hb
                  go_wp2_with fail
                  refine (sackbutlaw23_same.calls 1001 An cn (M2T (M2T l0 l1) l2) Ax cx (Rm (M2T (M2T l0 l1) l2)) true _ (by repeat (first | exact Qn17.out | apply Kd.C_alloc | apply Kd.C_drewN | apply Kd.C_drew)) Qnc.out (by repeat (first | exact Qx.out | apply Kd.C_alloc | apply Kd.C_drewN | apply Kd.C_drew)) Qxc.out (same_val (M2T (M2T l0 l1) l2) (by have := LEN.out; omega))).mono ?_
                  rintro e W18 ⟨rfl, ⟨nd, rfl⟩⟩
                  go_wp2
                  go_ret
                  first | exact ⟨rfl, (by repeat (first | (with_reducible first | exact HB17.out | apply below_alloc | apply pw_below_drewN | apply below_drew1) | exact HB17.out))⟩ | exact ⟨by simp, (by repeat (first | (with_reducible first | exact HB17.out | apply below_alloc | apply pw_below_drewN | apply below_drew1) | exact HB17.out))⟩
            · have Mm : Aside0 (mergeF [l0, l1] = ((M2T l0 l1), 0)) := ⟨(merge_two l0 l1 G0.out G1.out).trans (if_neg hu)⟩
              have du1 : decide (100 < (Rm (M2T l0 l1)).length) = false := by rw [rm_len]; exact decide_eq_false hu
              have du2 : decide (100 < ((Rm (M2T l0 l1)).length : Int)) = false := by rw [rm_len]; exact decide_eq_false (by omega)
              have du3 : decide ((Rm (M2T l0 l1)).length ≤ 100) = true := by rw [rm_len]; exact decide_eq_true (by omega)
              have du4 : decide (((Rm (M2T l0 l1)).length : Int) ≤ 100) = true := by rw [rm_len]; exact decide_eq_true (by omega)
              clear hu
              cases hg2 : goodB l2 with
              | false =>
                have G2 := Aside0.mk hg2
                have Mn : Aside0 (mergeF [l0, l1, l2] = ([], 2)) := ⟨merge_bad _ (by simp [hg2])⟩
                clear hg2
                go_enter Try.func3, Try.ntmps3
                go_wp2_with fail
                refine (sackbutlaw23_awake.calls 100 true _ awake_val).mono ?_
                rintro e W1 ⟨rfl, hb⟩
                have HB1 : Aside0 (Below w.heap.size w W1) := ⟨below_then (by repeat (first | (with_reducible first | exact HB0.out | apply below_alloc | apply pw_below_drewN | apply below_drew1) | exact HB0.out)) (below_size (by repeat (first | (with_reducible first | exact HB0.out | apply below_alloc | apply pw_below_drewN | apply below_drew1) | exact HB0.out))) hb⟩
                have L01 : Aside0 (Kd.C k45 W1 A0 l0.length l0) := ⟨Kd.C_below (by repeat (first | exact L0.out | apply Kd.C_alloc | apply Kd.C_drewN | apply Kd.C_drew)) hb⟩
                clear L0
                have L11 : Aside0 (Kd.C k45 W1 A1 l1.length l1) := ⟨Kd.C_below (by repeat (first | exact L1.out | apply Kd.C_alloc | apply Kd.C_drewN | apply Kd.C_drew)) hb⟩
                clear L1
                have L21 : Aside0 (Kd.C k45 W1 A2 l2.length l2) := ⟨Kd.C_below (by repeat (first | exact L2.out | apply Kd.C_alloc | apply Kd.C_drewN | apply Kd.C_drew)) hb⟩
                clear L2
                clear HB0
                clear hb
                go_wp2_with fail
                refine (sackbutlaw23_few.calls (l0.length + 1) A0 c0 l0 true _ (by repeat (first | exact L01.out | apply Kd.C_alloc | apply Kd.C_drewN | apply Kd.C_drew)) HC0.out HF0.out).mono ?_
                rintro e W2 ⟨rfl, hb⟩
                have HB2 : Aside0 (Below w.heap.size w W2) := ⟨below_then (by repeat (first | (with_reducible first | exact HB1.out | apply below_alloc | apply pw_below_drewN | apply below_drew1) | exact HB1.out)) (below_size (by repeat (first | (with_reducible first | exact HB1.out | apply below_alloc | apply pw_below_drewN | apply below_drew1) | exact HB1.out))) hb⟩
                have L02 : Aside0 (Kd.C k45 W2 A0 l0.length l0) := ⟨Kd.C_below (by repeat (first | exact L01.out | apply Kd.C_alloc | apply Kd.C_drewN | apply Kd.C_drew)) hb⟩
                clear L01
                have L12 : Aside0 (Kd.C k45 W2 A1 l1.length l1) := ⟨Kd.C_below (by repeat (first | exact L11.out | apply Kd.C_alloc | apply Kd.C_drewN | apply Kd.C_drew)) hb⟩
                clear L11
                have L22 : Aside0 (Kd.C k45 W2 A2 l2.length l2) := ⟨Kd.C_below (by repeat (first | exact L21.out | apply Kd.C_alloc | apply Kd.C_drewN | apply Kd.C_drew)) hb⟩
                clear L21
                clear HB1
                clear hb
                go_wp2_with fail
                refine (sackbutlaw23_few.calls (l1.length + 1) A1 c1 l1 true _ (by repeat (first | exact L12.out | apply Kd.C_alloc | apply Kd.C_drewN | apply Kd.C_drew)) HC1.out HF1.out).mono ?_
                rintro e W3 ⟨rfl, hb⟩
                have HB3 : Aside0 (Below w.heap.size w W3) := ⟨below_then (by repeat (first | (with_reducible first | exact HB2.out | apply below_alloc | apply pw_below_drewN | apply below_drew1) | exact HB2.out)) (below_size (by repeat (first | (with_reducible first | exact HB2.out | apply below_alloc | apply pw_below_drewN | apply below_drew1) | exact HB2.out))) hb⟩
                have L03 : Aside0 (Kd.C k45 W3 A0 l0.length l0) := ⟨Kd.C_below (by repeat (first | exact L02.out | apply Kd.C_alloc | apply Kd.C_drewN | apply Kd.C_drew)) hb⟩
                clear L02
                have L13 : Aside0 (Kd.C k45 W3 A1 l1.length l1) := ⟨Kd.C_below (by repeat (first | exact L12.out | apply Kd.C_alloc | apply Kd.C_drewN | apply Kd.C_drew)) hb⟩
                clear L12
                have L23 : Aside0 (Kd.C k45 W3 A2 l2.length l2) := ⟨Kd.C_below (by repeat (first | exact L22.out | apply Kd.C_alloc | apply Kd.C_drewN | apply Kd.C_drew)) hb⟩
                clear L22
                clear HB2
                clear hb
                go_wp2_with fail
                refine (sackbutlaw23_few.calls (l2.length + 1) A2 c2 l2 true _ (by repeat (first | exact L23.out | apply Kd.C_alloc | apply Kd.C_drewN | apply Kd.C_drew)) HC2.out HF2.out).mono ?_
                rintro e W4 ⟨rfl, hb⟩
                have HB4 : Aside0 (Below w.heap.size w W4) := ⟨below_then (by repeat (first | (with_reducible first | exact HB3.out | apply below_alloc | apply pw_below_drewN | apply below_drew1) | exact HB3.out)) (below_size (by repeat (first | (with_reducible first | exact HB3.out | apply below_alloc | apply pw_below_drewN | apply below_drew1) | exact HB3.out))) hb⟩
                have L04 : Aside0 (Kd.C k45 W4 A0 l0.length l0) := ⟨Kd.C_below (by repeat (first | exact L03.out | apply Kd.C_alloc | apply Kd.C_drewN | apply Kd.C_drew)) hb⟩
                clear L03
                have L14 : Aside0 (Kd.C k45 W4 A1 l1.length l1) := ⟨Kd.C_below (by repeat (first | exact L13.out | apply Kd.C_alloc | apply Kd.C_drewN | apply Kd.C_drew)) hb⟩
                clear L13
                have L24 : Aside0 (Kd.C k45 W4 A2 l2.length l2) := ⟨Kd.C_below (by repeat (first | exact L23.out | apply Kd.C_alloc | apply Kd.C_drewN | apply Kd.C_drew)) hb⟩
                clear L23
                clear HB3
                clear hb
                go_wp2_with fail
                refine (Merge_calls _ _ _ [l0, l1] (rows2 _ (by repeat (first | exact L04.out | apply Kd.C_alloc | apply Kd.C_drewN | apply Kd.C_drew)) HC0.out (by repeat (first | exact L14.out | apply Kd.C_alloc | apply Kd.C_drewN | apply Kd.C_drew)) HC1.out) (Nat.le_refl _) (by simp)).mono ?_
                rintro e W5 ⟨vm, rfl, hr, hb⟩
                have HB5 : Aside0 (Below w.heap.size w W5) := ⟨below_then (by repeat (first | (with_reducible first | exact HB4.out | apply below_alloc | apply pw_below_drewN | apply below_drew1) | exact HB4.out)) (below_size (by repeat (first | (with_reducible first | exact HB4.out | apply below_alloc | apply pw_below_drewN | apply below_drew1) | exact HB4.out))) hb⟩
                have L05 : Aside0 (Kd.C k45 W5 A0 l0.length l0) := ⟨Kd.C_below (by repeat (first | exact L04.out | apply Kd.C_alloc | apply Kd.C_drewN | apply Kd.C_drew)) hb⟩
                clear L04
                have L15 : Aside0 (Kd.C k45 W5 A1 l1.length l1) := ⟨Kd.C_below (by repeat (first | exact L14.out | apply Kd.C_alloc | apply Kd.C_drewN | apply Kd.C_drew)) hb⟩
                clear L14
                have L25 : Aside0 (Kd.C k45 W5 A2 l2.length l2) := ⟨Kd.C_below (by repeat (first | exact L24.out | apply Kd.C_alloc | apply Kd.C_drewN | apply Kd.C_drew)) hb⟩
                clear L24
                clear HB4
                rw [Mm.out] at hr ⊢
                obtain ⟨Am, cm, rfl, hle, hC⟩ := Kd.R_reads hr
                have Qm := Aside0.mk hC
                have Qmc := Aside0.mk hle
                clear hr hle hC hb
                go_wp2_with fail
                refine (Merge_calls _ _ _ [l0, l1, l2] (rows3 _ (by repeat (first | exact L05.out | apply Kd.C_alloc | apply Kd.C_drewN | apply Kd.C_drew)) HC0.out (by repeat (first | exact L15.out | apply Kd.C_alloc | apply Kd.C_drewN | apply Kd.C_drew)) HC1.out (by repeat (first | exact L25.out | apply Kd.C_alloc | apply Kd.C_drewN | apply Kd.C_drew)) HC2.out) (Nat.le_refl _) (by simp)).mono ?_
                rintro e W6 ⟨vn, rfl, hr, hb⟩
                have HB6 : Aside0 (Below w.heap.size w W6) := ⟨below_then (by repeat (first | (with_reducible first | exact HB5.out | apply below_alloc | apply pw_below_drewN | apply below_drew1) | exact HB5.out)) (below_size (by repeat (first | (with_reducible first | exact HB5.out | apply below_alloc | apply pw_below_drewN | apply below_drew1) | exact HB5.out))) hb⟩
                have L06 : Aside0 (Kd.C k45 W6 A0 l0.length l0) := ⟨Kd.C_below (by repeat (first | exact L05.out | apply Kd.C_alloc | apply Kd.C_drewN | apply Kd.C_drew)) hb⟩
                clear L05
                have L16 : Aside0 (Kd.C k45 W6 A1 l1.length l1) := ⟨Kd.C_below (by repeat (first | exact L15.out | apply Kd.C_alloc | apply Kd.C_drewN | apply Kd.C_drew)) hb⟩
                clear L15
                have L26 : Aside0 (Kd.C k45 W6 A2 l2.length l2) := ⟨Kd.C_below (by repeat (first | exact L25.out | apply Kd.C_alloc | apply Kd.C_drewN | apply Kd.C_drew)) hb⟩
                clear L25
                have Qm6 : Aside0 (Kd.C k45 W6 Am (M2T l0 l1).length (M2T l0 l1)) := ⟨Kd.C_below (by repeat (first | exact Qm.out | apply Kd.C_alloc | apply Kd.C_drewN | apply Kd.C_drew)) hb⟩
                clear Qm
                clear HB5
                rw [Mn.out] at hr ⊢
                obtain ⟨An, cn, rfl, hle, hC⟩ := Kd.R_reads hr
                have Qn := Aside0.mk hC
                have Qnc := Aside0.mk hle
                clear hr hle hC hb
                clear Qn
                go_wp2_with fail
                refine (sackbutlaw23_ref.calls 1001 A0 c0 l0 (Rm l0) _ (by repeat (first | exact L06.out | apply Kd.C_alloc | apply Kd.C_drewN | apply Kd.C_drew)) HC0.out (ref_val l0 (by have := LEN.out; omega))).mono ?_
                rintro e W7 ⟨va, rfl, hr, hb⟩
                have HB7 : Aside0 (Below w.heap.size w W7) := ⟨below_then (by repeat (first | (with_reducible first | exact HB6.out | apply below_alloc | apply pw_below_drewN | apply below_drew1) | exact HB6.out)) (below_size (by repeat (first | (with_reducible first | exact HB6.out | apply below_alloc | apply pw_below_drewN | apply below_drew1) | exact HB6.out))) hb⟩
                have L07 : Aside0 (Kd.C k45 W7 A0 l0.length l0) := ⟨Kd.C_below (by repeat (first | exact L06.out | apply Kd.C_alloc | apply Kd.C_drewN | apply Kd.C_drew)) hb⟩
                clear L06
                have L17 : Aside0 (Kd.C k45 W7 A1 l1.length l1) := ⟨Kd.C_below (by repeat (first | exact L16.out | apply Kd.C_alloc | apply Kd.C_drewN | apply Kd.C_drew)) hb⟩
                clear L16
                have L27 : Aside0 (Kd.C k45 W7 A2 l2.length l2) := ⟨Kd.C_below (by repeat (first | exact L26.out | apply Kd.C_alloc | apply Kd.C_drewN | apply Kd.C_drew)) hb⟩
                clear L26
                have Qm7 : Aside0 (Kd.C k45 W7 Am (M2T l0 l1).length (M2T l0 l1)) := ⟨Kd.C_below (by repeat (first | exact Qm6.out | apply Kd.C_alloc | apply Kd.C_drewN | apply Kd.C_drew)) hb⟩
                clear Qm6
                clear HB6
                have Qav := Aside0.mk (Kd.R_V (base' := w.heap.size) (Kd.R_mono (ok' := fun _ => True) hr (fun _ _ => trivial)))
                obtain ⟨Aa, ca, rfl, hle, hC⟩ := Kd.R_reads hr
                have Qa := Aside0.mk hC
                have Qac := Aside0.mk hle
                clear hr hle hC hb
                go_wp2_with fail
                refine (sackbutref23_Good.calls 2000 Aa ca (Rm l0) (goodB l0) _ (by repeat (first | exact Qa.out | apply Kd.C_alloc | apply Kd.C_drewN | apply Kd.C_drew)) Qac.out (good_ref l0 (by have := LEN.out; omega) SZ0.out)).mono ?_
                rintro e W8 ⟨rfl, hb⟩
                have HB8 : Aside0 (Below w.heap.size w W8) := ⟨below_then (by repeat (first | (with_reducible first | exact HB7.out | apply below_alloc | apply pw_below_drewN | apply below_drew1) | exact HB7.out)) (below_size (by repeat (first | (with_reducible first | exact HB7.out | apply below_alloc | apply pw_below_drewN | apply below_drew1) | exact HB7.out))) hb⟩
                have L08 : Aside0 (Kd.C k45 W8 A0 l0.length l0) := ⟨Kd.C_below (by repeat (first | exact L07.out | apply Kd.C_alloc | apply Kd.C_drewN | apply Kd.C_drew)) hb⟩
                clear L07
                have L18 : Aside0 (Kd.C k45 W8 A1 l1.length l1) := ⟨Kd.C_below (by repeat (first | exact L17.out | apply Kd.C_alloc | apply Kd.C_drewN | apply Kd.C_drew)) hb⟩
                clear L17
                have L28 : Aside0 (Kd.C k45 W8 A2 l2.length l2) := ⟨Kd.C_below (by repeat (first | exact L27.out | apply Kd.C_alloc | apply Kd.C_drewN | apply Kd.C_drew)) hb⟩
                clear L27
                have Qm8 : Aside0 (Kd.C k45 W8 Am (M2T l0 l1).length (M2T l0 l1)) := ⟨Kd.C_below (by repeat (first | exact Qm7.out | apply Kd.C_alloc | apply Kd.C_drewN | apply Kd.C_drew)) hb⟩
                clear Qm7
                have Qa8 : Aside0 (Kd.C k58 W8 Aa (Rm l0).length (Rm l0)) := ⟨Kd.C_below (by repeat (first | exact Qa.out | apply Kd.C_alloc | apply Kd.C_drewN | apply Kd.C_drew)) hb⟩
                have Qav8 : Aside0 (Kd.V k58 58 W8 w.heap.size (fun _ => True) (.slice Aa (Rm l0).length ca) (Rm l0)) := ⟨Kd.V_below (by repeat (first | exact Qav.out | apply Kd.V_alloc | apply Kd.V_drewN | apply Kd.V_drew)) hb⟩
                clear Qa Qav
                clear HB7
                clear hb
                rw [G0.out]
                clear Qa8 Qav8
                go_wp2_with fail
                refine (sackbutlaw23_ref.calls 1001 A1 c1 l1 (Rm l1) _ (by repeat (first | exact L18.out | apply Kd.C_alloc | apply Kd.C_drewN | apply Kd.C_drew)) HC1.out (ref_val l1 (by have := LEN.out; omega))).mono ?_
                rintro e W9 ⟨vb, rfl, hr, hb⟩
                have HB9 : Aside0 (Below w.heap.size w W9) := ⟨below_then (by repeat (first | (with_reducible first | exact HB8.out | apply below_alloc | apply pw_below_drewN | apply below_drew1) | exact HB8.out)) (below_size (by repeat (first | (with_reducible first | exact HB8.out | apply below_alloc | apply pw_below_drewN | apply below_drew1) | exact HB8.out))) hb⟩
                have L09 : Aside0 (Kd.C k45 W9 A0 l0.length l0) := ⟨Kd.C_below (by repeat (first | exact L08.out | apply Kd.C_alloc | apply Kd.C_drewN | apply Kd.C_drew)) hb⟩
                clear L08
                have L19 : Aside0 (Kd.C k45 W9 A1 l1.length l1) := ⟨Kd.C_below (by repeat (first | exact L18.out | apply Kd.C_alloc | apply Kd.C_drewN | apply Kd.C_drew)) hb⟩
                clear L18
                have L29 : Aside0 (Kd.C k45 W9 A2 l2.length l2) := ⟨Kd.C_below (by repeat (first | exact L28.out | apply Kd.C_alloc | apply Kd.C_drewN | apply Kd.C_drew)) hb⟩
                clear L28
                have Qm9 : Aside0 (Kd.C k45 W9 Am (M2T l0 l1).length (M2T l0 l1)) := ⟨Kd.C_below (by repeat (first | exact Qm8.out | apply Kd.C_alloc | apply Kd.C_drewN | apply Kd.C_drew)) hb⟩
                clear Qm8
                clear HB8
                have Qbv := Aside0.mk (Kd.R_V (base' := w.heap.size) (Kd.R_mono (ok' := fun _ => True) hr (fun _ _ => trivial)))
                obtain ⟨Ab, cb, rfl, hle, hC⟩ := Kd.R_reads hr
                have Qb := Aside0.mk hC
                have Qbc := Aside0.mk hle
                clear hr hle hC hb
                go_wp2_with fail
                refine (sackbutref23_Good.calls 2000 Ab cb (Rm l1) (goodB l1) _ (by repeat (first | exact Qb.out | apply Kd.C_alloc | apply Kd.C_drewN | apply Kd.C_drew)) Qbc.out (good_ref l1 (by have := LEN.out; omega) SZ1.out)).mono ?_
                rintro e W10 ⟨rfl, hb⟩
                have HB10 : Aside0 (Below w.heap.size w W10) := ⟨below_then (by repeat (first | (with_reducible first | exact HB9.out | apply below_alloc | apply pw_below_drewN | apply below_drew1) | exact HB9.out)) (below_size (by repeat (first | (with_reducible first | exact HB9.out | apply below_alloc | apply pw_below_drewN | apply below_drew1) | exact HB9.out))) hb⟩
                have L010 : Aside0 (Kd.C k45 W10 A0 l0.length l0) := ⟨Kd.C_below (by repeat (first | exact L09.out | apply Kd.C_alloc | apply Kd.C_drewN | apply Kd.C_drew)) hb⟩
                clear L09
                have L110 : Aside0 (Kd.C k45 W10 A1 l1.length l1) := ⟨Kd.C_below (by repeat (first | exact L19.out | apply Kd.C_alloc | apply Kd.C_drewN | apply Kd.C_drew)) hb⟩
                clear L19
                have L210 : Aside0 (Kd.C k45 W10 A2 l2.length l2) := ⟨Kd.C_below (by repeat (first | exact L29.out | apply Kd.C_alloc | apply Kd.C_drewN | apply Kd.C_drew)) hb⟩
                clear L29
                have Qm10 : Aside0 (Kd.C k45 W10 Am (M2T l0 l1).length (M2T l0 l1)) := ⟨Kd.C_below (by repeat (first | exact Qm9.out | apply Kd.C_alloc | apply Kd.C_drewN | apply Kd.C_drew)) hb⟩
                clear Qm9
                have Qb10 : Aside0 (Kd.C k58 W10 Ab (Rm l1).length (Rm l1)) := ⟨Kd.C_below (by repeat (first | exact Qb.out | apply Kd.C_alloc | apply Kd.C_drewN | apply Kd.C_drew)) hb⟩
                have Qbv10 : Aside0 (Kd.V k58 58 W10 w.heap.size (fun _ => True) (.slice Ab (Rm l1).length cb) (Rm l1)) := ⟨Kd.V_below (by repeat (first | exact Qbv.out | apply Kd.V_alloc | apply Kd.V_drewN | apply Kd.V_drew)) hb⟩
                clear Qb Qbv
                clear HB9
                clear hb
                rw [G1.out]
                clear Qb10 Qbv10
                go_wp2_with fail
                refine (sackbutlaw23_ref.calls 1001 A0 c0 l0 (Rm l0) _ (by repeat (first | exact L010.out | apply Kd.C_alloc | apply Kd.C_drewN | apply Kd.C_drew)) HC0.out (ref_val l0 (by have := LEN.out; omega))).mono ?_
                rintro e W11 ⟨vc, rfl, hr, hb⟩
                have HB11 : Aside0 (Below w.heap.size w W11) := ⟨below_then (by repeat (first | (with_reducible first | exact HB10.out | apply below_alloc | apply pw_below_drewN | apply below_drew1) | exact HB10.out)) (below_size (by repeat (first | (with_reducible first | exact HB10.out | apply below_alloc | apply pw_below_drewN | apply below_drew1) | exact HB10.out))) hb⟩
                have L011 : Aside0 (Kd.C k45 W11 A0 l0.length l0) := ⟨Kd.C_below (by repeat (first | exact L010.out | apply Kd.C_alloc | apply Kd.C_drewN | apply Kd.C_drew)) hb⟩
                clear L010
                have L111 : Aside0 (Kd.C k45 W11 A1 l1.length l1) := ⟨Kd.C_below (by repeat (first | exact L110.out | apply Kd.C_alloc | apply Kd.C_drewN | apply Kd.C_drew)) hb⟩
                clear L110
                have L211 : Aside0 (Kd.C k45 W11 A2 l2.length l2) := ⟨Kd.C_below (by repeat (first | exact L210.out | apply Kd.C_alloc | apply Kd.C_drewN | apply Kd.C_drew)) hb⟩
                clear L210
                have Qm11 : Aside0 (Kd.C k45 W11 Am (M2T l0 l1).length (M2T l0 l1)) := ⟨Kd.C_below (by repeat (first | exact Qm10.out | apply Kd.C_alloc | apply Kd.C_drewN | apply Kd.C_drew)) hb⟩
                clear Qm10
                clear HB10
                have Qcv := Aside0.mk (Kd.R_V (base' := w.heap.size) (Kd.R_mono (ok' := fun _ => True) hr (fun _ _ => trivial)))
                obtain ⟨Ac, cc, rfl, hle, hC⟩ := Kd.R_reads hr
                have Qc := Aside0.mk hC
                have Qcc := Aside0.mk hle
                clear hr hle hC hb
                go_wp2_with fail
                refine (sackbutlaw23_ref.calls 1001 A1 c1 l1 (Rm l1) _ (by repeat (first | exact L111.out | apply Kd.C_alloc | apply Kd.C_drewN | apply Kd.C_drew)) HC1.out (ref_val l1 (by have := LEN.out; omega))).mono ?_
                rintro e W12 ⟨vd, rfl, hr, hb⟩
                have HB12 : Aside0 (Below w.heap.size w W12) := ⟨below_then (by repeat (first | (with_reducible first | exact HB11.out | apply below_alloc | apply pw_below_drewN | apply below_drew1) | exact HB11.out)) (below_size (by repeat (first | (with_reducible first | exact HB11.out | apply below_alloc | apply pw_below_drewN | apply below_drew1) | exact HB11.out))) hb⟩
                have L012 : Aside0 (Kd.C k45 W12 A0 l0.length l0) := ⟨Kd.C_below (by repeat (first | exact L011.out | apply Kd.C_alloc | apply Kd.C_drewN | apply Kd.C_drew)) hb⟩
                clear L011
                have L112 : Aside0 (Kd.C k45 W12 A1 l1.length l1) := ⟨Kd.C_below (by repeat (first | exact L111.out | apply Kd.C_alloc | apply Kd.C_drewN | apply Kd.C_drew)) hb⟩
                clear L111
                have L212 : Aside0 (Kd.C k45 W12 A2 l2.length l2) := ⟨Kd.C_below (by repeat (first | exact L211.out | apply Kd.C_alloc | apply Kd.C_drewN | apply Kd.C_drew)) hb⟩
                clear L211
                have Qm12 : Aside0 (Kd.C k45 W12 Am (M2T l0 l1).length (M2T l0 l1)) := ⟨Kd.C_below (by repeat (first | exact Qm11.out | apply Kd.C_alloc | apply Kd.C_drewN | apply Kd.C_drew)) hb⟩
                clear Qm11
                have Qc12 : Aside0 (Kd.C k58 W12 Ac (Rm l0).length (Rm l0)) := ⟨Kd.C_below (by repeat (first | exact Qc.out | apply Kd.C_alloc | apply Kd.C_drewN | apply Kd.C_drew)) hb⟩
                have Qcv12 : Aside0 (Kd.V k58 58 W12 w.heap.size (fun _ => True) (.slice Ac (Rm l0).length cc) (Rm l0)) := ⟨Kd.V_below (by repeat (first | exact Qcv.out | apply Kd.V_alloc | apply Kd.V_drewN | apply Kd.V_drew)) hb⟩
                clear Qc Qcv
                clear HB11
                have Qdv := Aside0.mk (Kd.R_V (base' := w.heap.size) (Kd.R_mono (ok' := fun _ => True) hr (fun _ _ => trivial)))
                obtain ⟨Ad, cd, rfl, hle, hC⟩ := Kd.R_reads hr
                have Qd := Aside0.mk hC
                have Qdc := Aside0.mk hle
                clear hr hle hC hb
                go_wp2_with fail
                refine (sackbutref23_Merge.calls 4000 (fun _ => True) Ac cc (Rm l0) (fun _ => True) Ad cd (Rm l1) (Rm (M2T l0 l1)) _ (by repeat (first | exact Qcv12.out | apply Kd.V_alloc | apply Kd.V_drewN | apply Kd.V_drew)) (by repeat (first | exact Qdv.out | apply Kd.V_alloc | apply Kd.V_drewN | apply Kd.V_drew)) (merge_ref l0 l1 (by have := LEN.out; have := m2_len l0 l1; omega))).mono ?_
                rintro e W13 ⟨vu, rfl, hr, hb⟩
                have HB13 : Aside0 (Below w.heap.size w W13) := ⟨below_then (by repeat (first | (with_reducible first | exact HB12.out | apply below_alloc | apply pw_below_drewN | apply below_drew1) | exact HB12.out)) (below_size (by repeat (first | (with_reducible first | exact HB12.out | apply below_alloc | apply pw_below_drewN | apply below_drew1) | exact HB12.out))) hb⟩
                have L013 : Aside0 (Kd.C k45 W13 A0 l0.length l0) := ⟨Kd.C_below (by repeat (first | exact L012.out | apply Kd.C_alloc | apply Kd.C_drewN | apply Kd.C_drew)) hb⟩
                clear L012
                have L113 : Aside0 (Kd.C k45 W13 A1 l1.length l1) := ⟨Kd.C_below (by repeat (first | exact L112.out | apply Kd.C_alloc | apply Kd.C_drewN | apply Kd.C_drew)) hb⟩
                clear L112
                have L213 : Aside0 (Kd.C k45 W13 A2 l2.length l2) := ⟨Kd.C_below (by repeat (first | exact L212.out | apply Kd.C_alloc | apply Kd.C_drewN | apply Kd.C_drew)) hb⟩
                clear L212
                have Qm13 : Aside0 (Kd.C k45 W13 Am (M2T l0 l1).length (M2T l0 l1)) := ⟨Kd.C_below (by repeat (first | exact Qm12.out | apply Kd.C_alloc | apply Kd.C_drewN | apply Kd.C_drew)) hb⟩
                clear Qm12
                have Qc13 : Aside0 (Kd.C k58 W13 Ac (Rm l0).length (Rm l0)) := ⟨Kd.C_below (by repeat (first | exact Qc12.out | apply Kd.C_alloc | apply Kd.C_drewN | apply Kd.C_drew)) hb⟩
                have Qcv13 : Aside0 (Kd.V k58 58 W13 w.heap.size (fun _ => True) (.slice Ac (Rm l0).length cc) (Rm l0)) := ⟨Kd.V_below (by repeat (first | exact Qcv12.out | apply Kd.V_alloc | apply Kd.V_drewN | apply Kd.V_drew)) hb⟩
                clear Qc12 Qcv12
                have Qd13 : Aside0 (Kd.C k58 W13 Ad (Rm l1).length (Rm l1)) := ⟨Kd.C_below (by repeat (first | exact Qd.out | apply Kd.C_alloc | apply Kd.C_drewN | apply Kd.C_drew)) hb⟩
                have Qdv13 : Aside0 (Kd.V k58 58 W13 w.heap.size (fun _ => True) (.slice Ad (Rm l1).length cd) (Rm l1)) := ⟨Kd.V_below (by repeat (first | exact Qdv.out | apply Kd.V_alloc | apply Kd.V_drewN | apply Kd.V_drew)) hb⟩
                clear Qd Qdv
                clear HB12
                have Quv := Aside0.mk (Kd.R_V (base' := w.heap.size) (Kd.R_mono (ok' := fun _ => True) hr (fun _ _ => trivial)))
                obtain ⟨Au, cu, rfl, hle, hC⟩ := Kd.R_reads hr
                have Qu := Aside0.mk hC
                have Quc := Aside0.mk hle
                clear hr hle hC hb
                clear Qc13 Qcv13
                clear Qd13 Qdv13
                go_wp2_with fail
                refine (sackbutlaw23_same.calls 1001 Am cm (M2T l0 l1) Au cu (Rm (M2T l0 l1)) true _ (by repeat (first | exact Qm13.out | apply Kd.C_alloc | apply Kd.C_drewN | apply Kd.C_drew)) Qmc.out (by repeat (first | exact Qu.out | apply Kd.C_alloc | apply Kd.C_drewN | apply Kd.C_drew)) Quc.out (same_val (M2T l0 l1) (by have := LEN.out; omega))).mono ?_
                rintro e W14 ⟨rfl, ⟨nd, rfl⟩⟩
                clear Qm13
                go_wp2_with fail
                refine (sackbutlaw23_ref.calls 1001 A2 c2 l2 (Rm l2) _ (by repeat (first | exact L213.out | apply Kd.C_alloc | apply Kd.C_drewN | apply Kd.C_drew)) HC2.out (ref_val l2 (by have := LEN.out; omega))).mono ?_
                rintro e W15 ⟨ve, rfl, hr, hb⟩
                have HB15 : Aside0 (Below w.heap.size w W15) := ⟨below_then (by repeat (first | (with_reducible first | exact HB13.out | apply below_alloc | apply pw_below_drewN | apply below_drew1) | exact HB13.out)) (below_size (by repeat (first | (with_reducible first | exact HB13.out | apply below_alloc | apply pw_below_drewN | apply below_drew1) | exact HB13.out))) hb⟩
                have L015 : Aside0 (Kd.C k45 W15 A0 l0.length l0) := ⟨Kd.C_below (by repeat (first | exact L013.out | apply Kd.C_alloc | apply Kd.C_drewN | apply Kd.C_drew)) hb⟩
                clear L013
                have L115 : Aside0 (Kd.C k45 W15 A1 l1.length l1) := ⟨Kd.C_below (by repeat (first | exact L113.out | apply Kd.C_alloc | apply Kd.C_drewN | apply Kd.C_drew)) hb⟩
                clear L113
                have L215 : Aside0 (Kd.C k45 W15 A2 l2.length l2) := ⟨Kd.C_below (by repeat (first | exact L213.out | apply Kd.C_alloc | apply Kd.C_drewN | apply Kd.C_drew)) hb⟩
                clear L213
                have Qu15 : Aside0 (Kd.C k58 W15 Au (Rm (M2T l0 l1)).length (Rm (M2T l0 l1))) := ⟨Kd.C_below (by repeat (first | exact Qu.out | apply Kd.C_alloc | apply Kd.C_drewN | apply Kd.C_drew)) hb⟩
                have Quv15 : Aside0 (Kd.V k58 58 W15 w.heap.size (fun _ => True) (.slice Au (Rm (M2T l0 l1)).length cu) (Rm (M2T l0 l1))) := ⟨Kd.V_below (by repeat (first | exact Quv.out | apply Kd.V_alloc | apply Kd.V_drewN | apply Kd.V_drew)) hb⟩
                clear Qu Quv
                clear HB13
                have Qev := Aside0.mk (Kd.R_V (base' := w.heap.size) (Kd.R_mono (ok' := fun _ => True) hr (fun _ _ => trivial)))
                obtain ⟨Ae, ce, rfl, hle, hC⟩ := Kd.R_reads hr
                have Qe := Aside0.mk hC
                have Qec := Aside0.mk hle
                clear hr hle hC hb
                go_wp2_with fail
                refine (sackbutref23_Good.calls 2000 Ae ce (Rm l2) (goodB l2) _ (by repeat (first | exact Qe.out | apply Kd.C_alloc | apply Kd.C_drewN | apply Kd.C_drew)) Qec.out (good_ref l2 (by have := LEN.out; omega) SZ2.out)).mono ?_
                rintro e W16 ⟨rfl, hb⟩
                have HB16 : Aside0 (Below w.heap.size w W16) := ⟨below_then (by repeat (first | (with_reducible first | exact HB15.out | apply below_alloc | apply pw_below_drewN | apply below_drew1) | exact HB15.out)) (below_size (by repeat (first | (with_reducible first | exact HB15.out | apply below_alloc | apply pw_below_drewN | apply below_drew1) | exact HB15.out))) hb⟩
                have L016 : Aside0 (Kd.C k45 W16 A0 l0.length l0) := ⟨Kd.C_below (by repeat (first | exact L015.out | apply Kd.C_alloc | apply Kd.C_drewN | apply Kd.C_drew)) hb⟩
                clear L015
                have L116 : Aside0 (Kd.C k45 W16 A1 l1.length l1) := ⟨Kd.C_below (by repeat (first | exact L115.out | apply Kd.C_alloc | apply Kd.C_drewN | apply Kd.C_drew)) hb⟩
                clear L115
                have L216 : Aside0 (Kd.C k45 W16 A2 l2.length l2) := ⟨Kd.C_below (by repeat (first | exact L215.out | apply Kd.C_alloc | apply Kd.C_drewN | apply Kd.C_drew)) hb⟩
                clear L215
                have Qu16 : Aside0 (Kd.C k58 W16 Au (Rm (M2T l0 l1)).length (Rm (M2T l0 l1))) := ⟨Kd.C_below (by repeat (first | exact Qu15.out | apply Kd.C_alloc | apply Kd.C_drewN | apply Kd.C_drew)) hb⟩
                have Quv16 : Aside0 (Kd.V k58 58 W16 w.heap.size (fun _ => True) (.slice Au (Rm (M2T l0 l1)).length cu) (Rm (M2T l0 l1))) := ⟨Kd.V_below (by repeat (first | exact Quv15.out | apply Kd.V_alloc | apply Kd.V_drewN | apply Kd.V_drew)) hb⟩
                clear Qu15 Quv15
                have Qe16 : Aside0 (Kd.C k58 W16 Ae (Rm l2).length (Rm l2)) := ⟨Kd.C_below (by repeat (first | exact Qe.out | apply Kd.C_alloc | apply Kd.C_drewN | apply Kd.C_drew)) hb⟩
                have Qev16 : Aside0 (Kd.V k58 58 W16 w.heap.size (fun _ => True) (.slice Ae (Rm l2).length ce) (Rm l2)) := ⟨Kd.V_below (by repeat (first | exact Qev.out | apply Kd.V_alloc | apply Kd.V_drewN | apply Kd.V_drew)) hb⟩
                clear Qe Qev
                clear HB15
                clear hb
                rw [G2.out]
                clear Qe16 Qev16
                go_wp2
                go_ret
                first | exact ⟨rfl, (by repeat (first | (with_reducible first | exact HB16.out | apply below_alloc | apply pw_below_drewN | apply below_drew1) | exact HB16.out))⟩ | exact ⟨by simp, (by repeat (first | (with_reducible first | exact HB16.out | apply below_alloc | apply pw_below_drewN | apply below_drew1) | exact HB16.out))⟩
              | true =>
                have G2 := Aside0.mk hg2
                clear hg2
                by_cases hx : 100 < (M2T (M2T l0 l1) l2).length
                · have Mn : Aside0 (mergeF [l0, l1, l2] = ([], 15)) := ⟨(merge_three l0 l1 l2 G0.out G1.out G2.out).trans (if_pos hx)⟩
                  have dx1 : decide (100 < (Rm (M2T (M2T l0 l1) l2)).length) = true := by rw [rm_len]; exact decide_eq_true hx
                  have dx2 : decide (100 < ((Rm (M2T (M2T l0 l1) l2)).length : Int)) = true := by rw [rm_len]; exact decide_eq_true (by omega)
                  have dx3 : decide ((Rm (M2T (M2T l0 l1) l2)).length ≤ 100) = false := by rw [rm_len]; exact decide_eq_false (by omega)
                  have dx4 : decide (((Rm (M2T (M2T l0 l1) l2)).length : Int) ≤ 100) = false := by rw [rm_len]; exact decide_eq_false (by omega)
                  clear hx
                  go_enter Try.func3, Try.ntmps3
                  go_wp2_with fail
                  refine (sackbutlaw23_awake.calls 100 true _ awake_val).mono ?_
                  rintro e W1 ⟨rfl, hb⟩
                  have HB1 : Aside0 (Below w.heap.size w W1) := ⟨below_then (by repeat (first | (with_reducible first | exact HB0.out | apply below_alloc | apply pw_below_drewN | apply below_drew1) | exact HB0.out)) (below_size (by repeat (first | (with_reducible first | exact HB0.out | apply below_alloc | apply pw_below_drewN | apply below_drew1) | exact HB0.out))) hb⟩
                  have L01 : Aside0 (Kd.C k45 W1 A0 l0.length l0) := ⟨Kd.C_below (by repeat (first | exact L0.out | apply Kd.C_alloc | apply Kd.C_drewN | apply Kd.C_drew)) hb⟩
                  clear L0
                  have L11 : Aside0 (Kd.C k45 W1 A1 l1.length l1) := ⟨Kd.C_below (by repeat (first | exact L1.out | apply Kd.C_alloc | apply Kd.C_drewN | apply Kd.C_drew)) hb⟩
                  clear L1
                  have L21 : Aside0 (Kd.C k45 W1 A2 l2.length l2) := ⟨Kd.C_below (by repeat (first | exact L2.out | apply Kd.C_alloc | apply Kd.C_drewN | apply Kd.C_drew)) hb⟩
                  clear L2
                  clear HB0
                  clear hb
                  go_wp2_with fail
                  refine (sackbutlaw23_few.calls (l0.length + 1) A0 c0 l0 true _ (by repeat (first | exact L01.out | apply Kd.C_alloc | apply Kd.C_drewN | apply Kd.C_drew)) HC0.out HF0.out).mono ?_
                  rintro e W2 ⟨rfl, hb⟩
                  have HB2 : Aside0 (Below w.heap.size w W2) := ⟨below_then (by repeat (first | (with_reducible first | exact HB1.out | apply below_alloc | apply pw_below_drewN | apply below_drew1) | exact HB1.out)) (below_size (by repeat (first | (with_reducible first | exact HB1.out | apply below_alloc | apply pw_below_drewN | apply below_drew1) | exact HB1.out))) hb⟩
                  have L02 : Aside0 (Kd.C k45 W2 A0 l0.length l0) := ⟨Kd.C_below (by repeat (first | exact L01.out | apply Kd.C_alloc | apply Kd.C_drewN | apply Kd.C_drew)) hb⟩
                  clear L01
                  have L12 : Aside0 (Kd.C k45 W2 A1 l1.length l1) := ⟨Kd.C_below (by repeat (first | exact L11.out | apply Kd.C_alloc | apply Kd.C_drewN | apply Kd.C_drew)) hb⟩
                  clear L11
                  have L22 : Aside0 (Kd.C k45 W2 A2 l2.length l2) := ⟨Kd.C_below (by repeat (first | exact L21.out | apply Kd.C_alloc | apply Kd.C_drewN | apply Kd.C_drew)) hb⟩
                  clear L21
                  clear HB1
                  clear hb
                  go_wp2_with fail
                  refine (sackbutlaw23_few.calls (l1.length + 1) A1 c1 l1 true _ (by repeat (first | exact L12.out | apply Kd.C_alloc | apply Kd.C_drewN | apply Kd.C_drew)) HC1.out HF1.out).mono ?_
                  rintro e W3 ⟨rfl, hb⟩
                  have HB3 : Aside0 (Below w.heap.size w W3) := ⟨below_then (by repeat (first | (with_reducible first | exact HB2.out | apply below_alloc | apply pw_below_drewN | apply below_drew1) | exact HB2.out)) (below_size (by repeat (first | (with_reducible first | exact HB2.out | apply below_alloc | apply pw_below_drewN | apply below_drew1) | exact HB2.out))) hb⟩
                  have L03 : Aside0 (Kd.C k45 W3 A0 l0.length l0) := ⟨Kd.C_below (by repeat (first | exact L02.out | apply Kd.C_alloc | apply Kd.C_drewN | apply Kd.C_drew)) hb⟩
                  clear L02
                  have L13 : Aside0 (Kd.C k45 W3 A1 l1.length l1) := ⟨Kd.C_below (by repeat (first | exact L12.out | apply Kd.C_alloc | apply Kd.C_drewN | apply Kd.C_drew)) hb⟩
                  clear L12
                  have L23 : Aside0 (Kd.C k45 W3 A2 l2.length l2) := ⟨Kd.C_below (by repeat (first | exact L22.out | apply Kd.C_alloc | apply Kd.C_drewN | apply Kd.C_drew)) hb⟩
                  clear L22
                  clear HB2
                  clear hb
                  go_wp2_with fail
                  refine (sackbutlaw23_few.calls (l2.length + 1) A2 c2 l2 true _ (by repeat (first | exact L23.out | apply Kd.C_alloc | apply Kd.C_drewN | apply Kd.C_drew)) HC2.out HF2.out).mono ?_
                  rintro e W4 ⟨rfl, hb⟩
                  have HB4 : Aside0 (Below w.heap.size w W4) := ⟨below_then (by repeat (first | (with_reducible first | exact HB3.out | apply below_alloc | apply pw_below_drewN | apply below_drew1) | exact HB3.out)) (below_size (by repeat (first | (with_reducible first | exact HB3.out | apply below_alloc | apply pw_below_drewN | apply below_drew1) | exact HB3.out))) hb⟩
                  have L04 : Aside0 (Kd.C k45 W4 A0 l0.length l0) := ⟨Kd.C_below (by repeat (first | exact L03.out | apply Kd.C_alloc | apply Kd.C_drewN | apply Kd.C_drew)) hb⟩
                  clear L03
                  have L14 : Aside0 (Kd.C k45 W4 A1 l1.length l1) := ⟨Kd.C_below (by repeat (first | exact L13.out | apply Kd.C_alloc | apply Kd.C_drewN | apply Kd.C_drew)) hb⟩
                  clear L13
                  have L24 : Aside0 (Kd.C k45 W4 A2 l2.length l2) := ⟨Kd.C_below (by repeat (first | exact L23.out | apply Kd.C_alloc | apply Kd.C_drewN | apply Kd.C_drew)) hb⟩
                  clear L23
                  clear HB3
                  clear hb
                  go_wp2_with fail
                  refine (Merge_calls _ _ _ [l0, l1] (rows2 _ (by repeat (first | exact L04.out | apply Kd.C_alloc | apply Kd.C_drewN | apply Kd.C_drew)) HC0.out (by repeat (first | exact L14.out | apply Kd.C_alloc | apply Kd.C_drewN | apply Kd.C_drew)) HC1.out) (Nat.le_refl _) (by simp)).mono ?_
                  rintro e W5 ⟨vm, rfl, hr, hb⟩
                  have HB5 : Aside0 (Below w.heap.size w W5) := ⟨below_then (by repeat (first | (with_reducible first | exact HB4.out | apply below_alloc | apply pw_below_drewN | apply below_drew1) | exact HB4.out)) (below_size (by repeat (first | (with_reducible first | exact HB4.out | apply below_alloc | apply pw_below_drewN | apply below_drew1) | exact HB4.out))) hb⟩
                  have L05 : Aside0 (Kd.C k45 W5 A0 l0.length l0) := ⟨Kd.C_below (by repeat (first | exact L04.out | apply Kd.C_alloc | apply Kd.C_drewN | apply Kd.C_drew)) hb⟩
                  clear L04
                  have L15 : Aside0 (Kd.C k45 W5 A1 l1.length l1) := ⟨Kd.C_below (by repeat (first | exact L14.out | apply Kd.C_alloc | apply Kd.C_drewN | apply Kd.C_drew)) hb⟩
                  clear L14
                  have L25 : Aside0 (Kd.C k45 W5 A2 l2.length l2) := ⟨Kd.C_below (by repeat (first | exact L24.out | apply Kd.C_alloc | apply Kd.C_drewN | apply Kd.C_drew)) hb⟩
                  clear L24
                  clear HB4
                  rw [Mm.out] at hr ⊢
                  obtain ⟨Am, cm, rfl, hle, hC⟩ := Kd.R_reads hr
                  have Qm := Aside0.mk hC
                  have Qmc := Aside0.mk hle
                  clear hr hle hC hb
                  go_wp2_with fail
                  refine (Merge_calls _ _ _ [l0, l1, l2] (rows3 _ (by repeat (first | exact L05.out | apply Kd.C_alloc | apply Kd.C_drewN | apply Kd.C_drew)) HC0.out (by repeat (first | exact L15.out | apply Kd.C_alloc | apply Kd.C_drewN | apply Kd.C_drew)) HC1.out (by repeat (first | exact L25.out | apply Kd.C_alloc | apply Kd.C_drewN | apply Kd.C_drew)) HC2.out) (Nat.le_refl _) (by simp)).mono ?_
                  rintro e W6 ⟨vn, rfl, hr, hb⟩
                  have HB6 : Aside0 (Below w.heap.size w W6) := ⟨below_then (by repeat (first | (with_reducible first | exact HB5.out | apply below_alloc | apply pw_below_drewN | apply below_drew1) | exact HB5.out)) (below_size (by repeat (first | (with_reducible first | exact HB5.out | apply below_alloc | apply pw_below_drewN | apply below_drew1) | exact HB5.out))) hb⟩
                  have L06 : Aside0 (Kd.C k45 W6 A0 l0.length l0) := ⟨Kd.C_below (by repeat (first | exact L05.out | apply Kd.C_alloc | apply Kd.C_drewN | apply Kd.C_drew)) hb⟩
                  clear L05
                  have L16 : Aside0 (Kd.C k45 W6 A1 l1.length l1) := ⟨Kd.C_below (by repeat (first | exact L15.out | apply Kd.C_alloc | apply Kd.C_drewN | apply Kd.C_drew)) hb⟩
                  clear L15
                  have L26 : Aside0 (Kd.C k45 W6 A2 l2.length l2) := ⟨Kd.C_below (by repeat (first | exact L25.out | apply Kd.C_alloc | apply Kd.C_drewN | apply Kd.C_drew)) hb⟩
                  clear L25
                  have Qm6 : Aside0 (Kd.C k45 W6 Am (M2T l0 l1).length (M2T l0 l1)) := ⟨Kd.C_below (by repeat (first | exact Qm.out | apply Kd.C_alloc | apply Kd.C_drewN | apply Kd.C_drew)) hb⟩
                  clear Qm
                  clear HB5
                  rw [Mn.out] at hr ⊢
                  obtain ⟨An, cn, rfl, hle, hC⟩ := Kd.R_reads hr
                  have Qn := Aside0.mk hC
                  have Qnc := Aside0.mk hle
                  clear hr hle hC hb
                  clear Qn
                  go_wp2_with fail
                  refine (sackbutlaw23_ref.calls 1001 A0 c0 l0 (Rm l0) _ (by repeat (first | exact L06.out | apply Kd.C_alloc | apply Kd.C_drewN | apply Kd.C_drew)) HC0.out (ref_val l0 (by have := LEN.out; omega))).mono ?_
                  rintro e W7 ⟨va, rfl, hr, hb⟩
                  have HB7 : Aside0 (Below w.heap.size w W7) := ⟨below_then (by repeat (first | (with_reducible first | exact HB6.out | apply below_alloc | apply pw_below_drewN | apply below_drew1) | exact HB6.out)) (below_size (by repeat (first | (with_reducible first | exact HB6.out | apply below_alloc | apply pw_below_drewN | apply below_drew1) | exact HB6.out))) hb⟩
                  have L07 : Aside0 (Kd.C k45 W7 A0 l0.length l0) := ⟨Kd.C_below (by repeat (first | exact L06.out | apply Kd.C_alloc | apply Kd.C_drewN | apply Kd.C_drew)) hb⟩
                  clear L06
                  have L17 : Aside0 (Kd.C k45 W7 A1 l1.length l1) := ⟨Kd.C_below (by repeat (first | exact L16.out | apply Kd.C_alloc | apply Kd.C_drewN | apply Kd.C_drew)) hb⟩
                  clear L16
                  have L27 : Aside0 (Kd.C k45 W7 A2 l2.length l2) := ⟨Kd.C_below (by repeat (first | exact L26.out | apply Kd.C_alloc | apply Kd.C_drewN | apply Kd.C_drew)) hb⟩
                  clear L26
                  have Qm7 : Aside0 (Kd.C k45 W7 Am (M2T l0 l1).length (M2T l0 l1)) := ⟨Kd.C_below (by repeat (first | exact Qm6.out | apply Kd.C_alloc | apply Kd.C_drewN | apply Kd.C_drew)) hb⟩
                  clear Qm6
                  clear HB6
                  have Qav := Aside0.mk (Kd.R_V (base' := w.heap.size) (Kd.R_mono (ok' := fun _ => True) hr (fun _ _ => trivial)))
                  obtain ⟨Aa, ca, rfl, hle, hC⟩ := Kd.R_reads hr
                  have Qa := Aside0.mk hC
                  have Qac := Aside0.mk hle
                  clear hr hle hC hb
                  go_wp2_with fail
                  refine (sackbutref23_Good.calls 2000 Aa ca (Rm l0) (goodB l0) _ (by repeat (first | exact Qa.out | apply Kd.C_alloc | apply Kd.C_drewN | apply Kd.C_drew)) Qac.out (good_ref l0 (by have := LEN.out; omega) SZ0.out)).mono ?_
                  rintro e W8 ⟨rfl, hb⟩
                  have HB8 : Aside0 (Below w.heap.size w W8) := ⟨below_then (by repeat (first | (with_reducible first | exact HB7.out | apply below_alloc | apply pw_below_drewN | apply below_drew1) | exact HB7.out)) (below_size (by repeat (first | (with_reducible first | exact HB7.out | apply below_alloc | apply pw_below_drewN | apply below_drew1) | exact HB7.out))) hb⟩
                  have L08 : Aside0 (Kd.C k45 W8 A0 l0.length l0) := ⟨Kd.C_below (by repeat (first | exact L07.out | apply Kd.C_alloc | apply Kd.C_drewN | apply Kd.C_drew)) hb⟩
                  clear L07
                  have L18 : Aside0 (Kd.C k45 W8 A1 l1.length l1) := ⟨Kd.C_below (by repeat (first | exact L17.out | apply Kd.C_alloc | apply Kd.C_drewN | apply Kd.C_drew)) hb⟩
                  clear L17
                  have L28 : Aside0 (Kd.C k45 W8 A2 l2.length l2) := ⟨Kd.C_below (by repeat (first | exact L27.out | apply Kd.C_alloc | apply Kd.C_drewN | apply Kd.C_drew)) hb⟩
                  clear L27
                  have Qm8 : Aside0 (Kd.C k45 W8 Am (M2T l0 l1).length (M2T l0 l1)) := ⟨Kd.C_below (by repeat (first | exact Qm7.out | apply Kd.C_alloc | apply Kd.C_drewN | apply Kd.C_drew)) hb⟩
                  clear Qm7
                  have Qa8 : Aside0 (Kd.C k58 W8 Aa (Rm l0).length (Rm l0)) := ⟨Kd.C_below (by repeat (first | exact Qa.out | apply Kd.C_alloc | apply Kd.C_drewN | apply Kd.C_drew)) hb⟩
                  have Qav8 : Aside0 (Kd.V k58 58 W8 w.heap.size (fun _ => True) (.slice Aa (Rm l0).length ca) (Rm l0)) := ⟨Kd.V_below (by repeat (first | exact Qav.out | apply Kd.V_alloc | apply Kd.V_drewN | apply Kd.V_drew)) hb⟩
                  clear Qa Qav
                  clear HB7
                  clear hb
                  rw [G0.out]
                  clear Qa8 Qav8
                  go_wp2_with fail
                  refine (sackbutlaw23_ref.calls 1001 A1 c1 l1 (Rm l1) _ (by repeat (first | exact L18.out | apply Kd.C_alloc | apply Kd.C_drewN | apply Kd.C_drew)) HC1.out (ref_val l1 (by have := LEN.out; omega))).mono ?_
                  rintro e W9 ⟨vb, rfl, hr, hb⟩
                  have HB9 : Aside0 (Below w.heap.size w W9) := ⟨below_then (by repeat (first | (with_reducible first | exact HB8.out | apply below_alloc | apply pw_below_drewN | apply below_drew1) | exact HB8.out)) (below_size (by repeat (first | (with_reducible first | exact HB8.out | apply below_alloc | apply pw_below_drewN | apply below_drew1) | exact HB8.out))) hb⟩
                  have L09 : Aside0 (Kd.C k45 W9 A0 l0.length l0) := ⟨Kd.C_below (by repeat (first | exact L08.out | apply Kd.C_alloc | apply Kd.C_drewN | apply Kd.C_drew)) hb⟩
                  clear L08
                  have L19 : Aside0 (Kd.C k45 W9 A1 l1.length l1) := ⟨Kd.C_below (by repeat (first | exact L18.out | apply Kd.C_alloc | apply Kd.C_drewN | apply Kd.C_drew)) hb⟩
                  clear L18
                  have L29 : Aside0 (Kd.C k45 W9 A2 l2.length l2) := ⟨Kd.C_below (by repeat (first | exact L28.out | apply Kd.C_alloc | apply Kd.C_drewN | apply Kd.C_drew)) hb⟩
                  clear L28
                  have Qm9 : Aside0 (Kd.C k45 W9 Am (M2T l0 l1).length (M2T l0 l1)) := ⟨Kd.C_below (by repeat (first | exact Qm8.out | apply Kd.C_alloc | apply Kd.C_drewN | apply Kd.C_drew)) hb⟩
                  clear Qm8
                  clear HB8
                  have Qbv := Aside0.mk (Kd.R_V (base' := w.heap.size) (Kd.R_mono (ok' := fun _ => True) hr (fun _ _ => trivial)))
                  obtain ⟨Ab, cb, rfl, hle, hC⟩ := Kd.R_reads hr
                  have Qb := Aside0.mk hC
                  have Qbc := Aside0.mk hle
                  clear hr hle hC hb
                  go_wp2_with fail
                  refine (sackbutref23_Good.calls 2000 Ab cb (Rm l1) (goodB l1) _ (by repeat (first | exact Qb.out | apply Kd.C_alloc | apply Kd.C_drewN | apply Kd.C_drew)) Qbc.out (good_ref l1 (by have := LEN.out; omega) SZ1.out)).mono ?_
                  rintro e W10 ⟨rfl, hb⟩
                  have HB10 : Aside0 (Below w.heap.size w W10) := ⟨below_then (by repeat (first | (with_reducible first | exact HB9.out | apply below_alloc | apply pw_below_drewN | apply below_drew1) | exact HB9.out)) (below_size (by repeat (first | (with_reducible first | exact HB9.out | apply below_alloc | apply pw_below_drewN | apply below_drew1) | exact HB9.out))) hb⟩
                  have L010 : Aside0 (Kd.C k45 W10 A0 l0.length l0) := ⟨Kd.C_below (by repeat (first | exact L09.out | apply Kd.C_alloc | apply Kd.C_drewN | apply Kd.C_drew)) hb⟩
                  clear L09
                  have L110 : Aside0 (Kd.C k45 W10 A1 l1.length l1) := ⟨Kd.C_below (by repeat (first | exact L19.out | apply Kd.C_alloc | apply Kd.C_drewN | apply Kd.C_drew)) hb⟩
                  clear L19
                  have L210 : Aside0 (Kd.C k45 W10 A2 l2.length l2) := ⟨Kd.C_below (by repeat (first | exact L29.out | apply Kd.C_alloc | apply Kd.C_drewN | apply Kd.C_drew)) hb⟩
                  clear L29
                  have Qm10 : Aside0 (Kd.C k45 W10 Am (M2T l0 l1).length (M2T l0 l1)) := ⟨Kd.C_below (by repeat (first | exact Qm9.out | apply Kd.C_alloc | apply Kd.C_drewN | apply Kd.C_drew)) hb⟩
                  clear Qm9
                  have Qb10 : Aside0 (Kd.C k58 W10 Ab (Rm l1).length (Rm l1)) := ⟨Kd.C_below (by repeat (first | exact Qb.out | apply Kd.C_alloc | apply Kd.C_drewN | apply Kd.C_drew)) hb⟩
                  have Qbv10 : Aside0 (Kd.V k58 58 W10 w.heap.size (fun _ => True) (.slice Ab (Rm l1).length cb) (Rm l1)) := ⟨Kd.V_below (by repeat (first | exact Qbv.out | apply Kd.V_alloc | apply Kd.V_drewN | apply Kd.V_drew)) hb⟩
                  clear Qb Qbv
                  clear HB9
                  clear hb
                  rw [G1.out]
                  clear Qb10 Qbv10
                  go_wp2_with fail
                  refine (sackbutlaw23_ref.calls 1001 A0 c0 l0 (Rm l0) _ (by repeat (first | exact L010.out | apply Kd.C_alloc | apply Kd.C_drewN | apply Kd.C_drew)) HC0.out (ref_val l0 (by have := LEN.out; omega))).mono ?_
                  rintro e W11 ⟨vc, rfl, hr, hb⟩
                  have HB11 : Aside0 (Below w.heap.size w W11) := ⟨below_then (by repeat (first | (with_reducible first | exact HB10.out | apply below_alloc | apply pw_below_drewN | apply below_drew1) | exact HB10.out)) (below_size (by repeat (first | (with_reducible first | exact HB10.out | apply below_alloc | apply pw_below_drewN | apply below_drew1) | exact HB10.out))) hb⟩
                  have L011 : Aside0 (Kd.C k45 W11 A0 l0.length l0) := ⟨Kd.C_below (by repeat (first | exact L010.out | apply Kd.C_alloc | apply Kd.C_drewN | apply Kd.C_drew)) hb⟩
                  clear L010
                  have L111 : Aside0 (Kd.C k45 W11 A1 l1.length l1) := ⟨Kd.C_below (by repeat (first | exact L110.out | apply Kd.C_alloc | apply Kd.C_drewN | apply Kd.C_drew)) hb⟩
                  clear L110
                  have L211 : Aside0 (Kd.C k45 W11 A2 l2.length l2) := ⟨Kd.C_below (by repeat (first | exact L210.out | apply Kd.C_alloc | apply Kd.C_drewN | apply Kd.C_drew)) hb⟩
                  clear L210
                  have Qm11 : Aside0 (Kd.C k45 W11 Am (M2T l0 l1).length (M2T l0 l1)) := ⟨Kd.C_below (by repeat (first | exact Qm10.out | apply Kd.C_alloc | apply Kd.C_drewN | apply Kd.C_drew)) hb⟩
                  clear Qm10
                  clear HB10
                  have Qcv := Aside0.mk (Kd.R_V (base' := w.heap.size) (Kd.R_mono (ok' := fun _ => True) hr (fun _ _ => trivial)))
                  obtain ⟨Ac, cc, rfl, hle, hC⟩ := Kd.R_reads hr
                  have Qc := Aside0.mk hC
                  have Qcc := Aside0.mk hle
                  clear hr hle hC hb
                  go_wp2_with fail
                  refine (sackbutlaw23_ref.calls 1001 A1 c1 l1 (Rm l1) _ (by repeat (first | exact L111.out | apply Kd.C_alloc | apply Kd.C_drewN | apply Kd.C_drew)) HC1.out (ref_val l1 (by have := LEN.out; omega))).mono ?_
                  rintro e W12 ⟨vd, rfl, hr, hb⟩
                  have HB12 : Aside0 (Below w.heap.size w W12) := ⟨below_then (by repeat (first | (with_reducible first | exact HB11.out | apply below_alloc | apply pw_below_drewN | apply below_drew1) | exact HB11.out)) (below_size (by repeat (first | (with_reducible first | exact HB11.out | apply below_alloc | apply pw_below_drewN | apply below_drew1) | exact HB11.out))) hb⟩
                  have L012 : Aside0 (Kd.C k45 W12 A0 l0.length l0) := ⟨Kd.C_below (by repeat (first | exact L011.out | apply Kd.C_alloc | apply Kd.C_drewN | apply Kd.C_drew)) hb⟩
                  clear L011
                  have L112 : Aside0 (Kd.C k45 W12 A1 l1.length l1) := ⟨Kd.C_below (by repeat (first | exact L111.out | apply Kd.C_alloc | apply Kd.C_drewN | apply Kd.C_drew)) hb⟩
                  clear L111
                  have L212 : Aside0 (Kd.C k45 W12 A2 l2.length l2) := ⟨Kd.C_below (by repeat (first | exact L211.out | apply Kd.C_alloc | apply Kd.C_drewN | apply Kd.C_drew)) hb⟩
                  clear L211
                  have Qm12 : Aside0 (Kd.C k45 W12 Am (M2T l0 l1).length (M2T l0 l1)) := ⟨Kd.C_below (by repeat (first | exact Qm11.out | apply Kd.C_alloc | apply Kd.C_drewN | apply Kd.C_drew)) hb⟩
                  clear Qm11
                  have Qc12 : Aside0 (Kd.C k58 W12 Ac (Rm l0).length (Rm l0)) := ⟨Kd.C_below (by repeat (first | exact Qc.out | apply Kd.C_alloc | apply Kd.C_drewN | apply Kd.C_drew)) hb⟩
                  have Qcv12 : Aside0 (Kd.V k58 58 W12 w.heap.size (fun _ => True) (.slice Ac (Rm l0).length cc) (Rm l0)) := ⟨Kd.V_below (by repeat (first | exact Qcv.out | apply Kd.V_alloc | apply Kd.V_drewN | apply Kd.V_drew)) hb⟩
                  clear Qc Qcv
                  clear HB11
                  have Qdv := Aside0.mk (Kd.R_V (base' := w.heap.size) (Kd.R_mono (ok' := fun _ => True) hr (fun _ _ => trivial)))
                  obtain ⟨Ad, cd, rfl, hle, hC⟩ := Kd.R_reads hr
                  have Qd := Aside0.mk hC
                  have Qdc := Aside0.mk hle
                  clear hr hle hC hb
                  go_wp2_with fail
                  refine (sackbutref23_Merge.calls 4000 (fun _ => True) Ac cc (Rm l0) (fun _ => True) Ad cd (Rm l1) (Rm (M2T l0 l1)) _ (by repeat (first | exact Qcv12.out | apply Kd.V_alloc | apply Kd.V_drewN | apply Kd.V_drew)) (by repeat (first | exact Qdv.out | apply Kd.V_alloc | apply Kd.V_drewN | apply Kd.V_drew)) (merge_ref l0 l1 (by have := LEN.out; have := m2_len l0 l1; omega))).mono ?_
                  rintro e W13 ⟨vu, rfl, hr, hb⟩
                  have HB13 : Aside0 (Below w.heap.size w W13) := ⟨below_then (by repeat (first | (with_reducible first | exact HB12.out | apply below_alloc | apply pw_below_drewN | apply below_drew1) | exact HB12.out)) (below_size (by repeat (first | (with_reducible first | exact HB12.out | apply below_alloc | apply pw_below_drewN | apply below_drew1) | exact HB12.out))) hb⟩
                  have L013 : Aside0 (Kd.C k45 W13 A0 l0.length l0) := ⟨Kd.C_below (by repeat (first | exact L012.out | apply Kd.C_alloc | apply Kd.C_drewN | apply Kd.C_drew)) hb⟩
                  clear L012
                  have L113 : Aside0 (Kd.C k45 W13 A1 l1.length l1) := ⟨Kd.C_below (by repeat (first | exact L112.out | apply Kd.C_alloc | apply Kd.C_drewN | apply Kd.C_drew)) hb⟩
                  clear L112
                  have L213 : Aside0 (Kd.C k45 W13 A2 l2.length l2) := ⟨Kd.C_below (by repeat (first | exact L212.out | apply Kd.C_alloc | apply Kd.C_drewN | apply Kd.C_drew)) hb⟩
                  clear L212
                  have Qm13 : Aside0 (Kd.C k45 W13 Am (M2T l0 l1).length (M2T l0 l1)) := ⟨Kd.C_below (by repeat (first | exact Qm12.out | apply Kd.C_alloc | apply Kd.C_drewN | apply Kd.C_drew)) hb⟩
                  clear Qm12
                  have Qc13 : Aside0 (Kd.C k58 W13 Ac (Rm l0).length (Rm l0)) := ⟨Kd.C_below (by repeat (first | exact Qc12.out | apply Kd.C_alloc | apply Kd.C_drewN | apply Kd.C_drew)) hb⟩
                  have Qcv13 : Aside0 (Kd.V k58 58 W13 w.heap.size (fun _ => True) (.slice Ac (Rm l0).length cc) (Rm l0)) := ⟨Kd.V_below (by repeat (first | exact Qcv12.out | apply Kd.V_alloc | apply Kd.V_drewN | apply Kd.V_drew)) hb⟩
                  clear Qc12 Qcv12
                  have Qd13 : Aside0 (Kd.C k58 W13 Ad (Rm l1).length (Rm l1)) := ⟨Kd.C_below (by repeat (first | exact Qd.out | apply Kd.C_alloc | apply Kd.C_drewN | apply Kd.C_drew)) hb⟩
                  have Qdv13 : Aside0 (Kd.V k58 58 W13 w.heap.size (fun _ => True) (.slice Ad (Rm l1).length cd) (Rm l1)) := ⟨Kd.V_below (by repeat (first | exact Qdv.out | apply Kd.V_alloc | apply Kd.V_drewN | apply Kd.V_drew)) hb⟩
                  clear Qd Qdv
                  clear HB12
                  have Quv := Aside0.mk (Kd.R_V (base' := w.heap.size) (Kd.R_mono (ok' := fun _ => True) hr (fun _ _ => trivial)))
                  obtain ⟨Au, cu, rfl, hle, hC⟩ := Kd.R_reads hr
                  have Qu := Aside0.mk hC
                  have Quc := Aside0.mk hle
                  clear hr hle hC hb
                  clear Qc13 Qcv13
                  clear Qd13 Qdv13
                  go_wp2_with fail
                  refine (sackbutlaw23_same.calls 1001 Am cm (M2T l0 l1) Au cu (Rm (M2T l0 l1)) true _ (by repeat (first | exact Qm13.out | apply Kd.C_alloc | apply Kd.C_drewN | apply Kd.C_drew)) Qmc.out (by repeat (first | exact Qu.out | apply Kd.C_alloc | apply Kd.C_drewN | apply Kd.C_drew)) Quc.out (same_val (M2T l0 l1) (by have := LEN.out; omega))).mono ?_
                  rintro e W14 ⟨rfl, ⟨nd, rfl⟩⟩
                  clear Qm13
                  go_wp2_with fail
                  refine (sackbutlaw23_ref.calls 1001 A2 c2 l2 (Rm l2) _ (by repeat (first | exact L213.out | apply Kd.C_alloc | apply Kd.C_drewN | apply Kd.C_drew)) HC2.out (ref_val l2 (by have := LEN.out; omega))).mono ?_
                  rintro e W15 ⟨ve, rfl, hr, hb⟩
                  have HB15 : Aside0 (Below w.heap.size w W15) := ⟨below_then (by repeat (first | (with_reducible first | exact HB13.out | apply below_alloc | apply pw_below_drewN | apply below_drew1) | exact HB13.out)) (below_size (by repeat (first | (with_reducible first | exact HB13.out | apply below_alloc | apply pw_below_drewN | apply below_drew1) | exact HB13.out))) hb⟩
                  have L015 : Aside0 (Kd.C k45 W15 A0 l0.length l0) := ⟨Kd.C_below (by repeat (first | exact L013.out | apply Kd.C_alloc | apply Kd.C_drewN | apply Kd.C_drew)) hb⟩
                  clear L013
                  have L115 : Aside0 (Kd.C k45 W15 A1 l1.length l1) := ⟨Kd.C_below (by repeat (first | exact L113.out | apply Kd.C_alloc | apply Kd.C_drewN | apply Kd.C_drew)) hb⟩
                  clear L113
                  have L215 : Aside0 (Kd.C k45 W15 A2 l2.length l2) := ⟨Kd.C_below (by repeat (first | exact L213.out | apply Kd.C_alloc | apply Kd.C_drewN | apply Kd.C_drew)) hb⟩
                  clear L213
                  have Qu15 : Aside0 (Kd.C k58 W15 Au (Rm (M2T l0 l1)).length (Rm (M2T l0 l1))) := ⟨Kd.C_below (by repeat (first | exact Qu.out | apply Kd.C_alloc | apply Kd.C_drewN | apply Kd.C_drew)) hb⟩
                  have Quv15 : Aside0 (Kd.V k58 58 W15 w.heap.size (fun _ => True) (.slice Au (Rm (M2T l0 l1)).length cu) (Rm (M2T l0 l1))) := ⟨Kd.V_below (by repeat (first | exact Quv.out | apply Kd.V_alloc | apply Kd.V_drewN | apply Kd.V_drew)) hb⟩
                  clear Qu Quv
                  clear HB13
                  have Qev := Aside0.mk (Kd.R_V (base' := w.heap.size) (Kd.R_mono (ok' := fun _ => True) hr (fun _ _ => trivial)))
                  obtain ⟨Ae, ce, rfl, hle, hC⟩ := Kd.R_reads hr
                  have Qe := Aside0.mk hC
                  have Qec := Aside0.mk hle
                  clear hr hle hC hb
                  go_wp2_with fail
                  refine (sackbutref23_Good.calls 2000 Ae ce (Rm l2) (goodB l2) _ (by repeat (first | exact Qe.out | apply Kd.C_alloc | apply Kd.C_drewN | apply Kd.C_drew)) Qec.out (good_ref l2 (by have := LEN.out; omega) SZ2.out)).mono ?_
                  rintro e W16 ⟨rfl, hb⟩
                  have HB16 : Aside0 (Below w.heap.size w W16) := ⟨below_then (by repeat (first | (with_reducible first | exact HB15.out | apply below_alloc | apply pw_below_drewN | apply below_drew1) | exact HB15.out)) (below_size (by repeat (first | (with_reducible first | exact HB15.out | apply below_alloc | apply pw_below_drewN | apply below_drew1) | exact HB15.out))) hb⟩
                  have L016 : Aside0 (Kd.C k45 W16 A0 l0.length l0) := ⟨Kd.C_below (by repeat (first | exact L015.out | apply Kd.C_alloc | apply Kd.C_drewN | apply Kd.C_drew)) hb⟩
                  clear L015
                  have L116 : Aside0 (Kd.C k45 W16 A1 l1.length l1) := ⟨Kd.C_below (by repeat (first | exact L115.out | apply Kd.C_alloc | apply Kd.C_drewN | apply Kd.C_drew)) hb⟩
                  clear L115
                  have L216 : Aside0 (Kd.C k45 W16 A2 l2.length l2) := ⟨Kd.C_below (by repeat (first | exact L215.out | apply Kd.C_alloc | apply Kd.C_drewN | apply Kd.C_drew)) hb⟩
                  clear L215
                  have Qu16 : Aside0 (Kd.C k58 W16 Au (Rm (M2T l0 l1)).length (Rm (M2T l0 l1))) := ⟨Kd.C_below (by repeat (first | exact Qu15.out | apply Kd.C_alloc | apply Kd.C_drewN | apply Kd.C_drew)) hb⟩
                  have Quv16 : Aside0 (Kd.V k58 58 W16 w.heap.size (fun _ => True) (.slice Au (Rm (M2T l0 l1)).length cu) (Rm (M2T l0 l1))) := ⟨Kd.V_below (by repeat (first | exact Quv15.out | apply Kd.V_alloc | apply Kd.V_drewN | apply Kd.V_drew)) hb⟩
                  clear Qu15 Quv15
                  have Qe16 : Aside0 (Kd.C k58 W16 Ae (Rm l2).length (Rm l2)) := ⟨Kd.C_below (by repeat (first | exact Qe.out | apply Kd.C_alloc | apply Kd.C_drewN | apply Kd.C_drew)) hb⟩
                  have Qev16 : Aside0 (Kd.V k58 58 W16 w.heap.size (fun _ => True) (.slice Ae (Rm l2).length ce) (Rm l2)) := ⟨Kd.V_below (by repeat (first | exact Qev.out | apply Kd.V_alloc | apply Kd.V_drewN | apply Kd.V_drew)) hb⟩
                  clear Qe Qev
                  clear HB15
                  clear hb
                  rw [G2.out]
                  clear Qe16 Qev16
                  go_wp2_with fail
                  refine (sackbutlaw23_ref.calls 1001 A2 c2 l2 (Rm l2) _ (by repeat (first | exact L216.out | apply Kd.C_alloc | apply Kd.C_drewN | apply Kd.C_drew)) HC2.out (ref_val l2 (by have := LEN.out; omega))).mono ?_
                  rintro e W17 ⟨vf, rfl, hr, hb⟩
                  have HB17 : Aside0 (Below w.heap.size w W17) := ⟨below_then (by repeat (first | (with_reducible first | exact HB16.out | apply below_alloc | apply pw_below_drewN | apply below_drew1) | exact HB16.out)) (below_size (by repeat (first | (with_reducible first | exact HB16.out | apply below_alloc | apply pw_below_drewN | apply below_drew1) | exact HB16.out))) hb⟩
                  have L017 : Aside0 (Kd.C k45 W17 A0 l0.length l0) := ⟨Kd.C_below (by repeat (first | exact L016.out | apply Kd.C_alloc | apply Kd.C_drewN | apply Kd.C_drew)) hb⟩
                  clear L016
                  have L117 : Aside0 (Kd.C k45 W17 A1 l1.length l1) := ⟨Kd.C_below (by repeat (first | exact L116.out | apply Kd.C_alloc | apply Kd.C_drewN | apply Kd.C_drew)) hb⟩
                  clear L116
                  have L217 : Aside0 (Kd.C k45 W17 A2 l2.length l2) := ⟨Kd.C_below (by repeat (first | exact L216.out | apply Kd.C_alloc | apply Kd.C_drewN | apply Kd.C_drew)) hb⟩
                  clear L216
                  have Qu17 : Aside0 (Kd.C k58 W17 Au (Rm (M2T l0 l1)).length (Rm (M2T l0 l1))) := ⟨Kd.C_below (by repeat (first | exact Qu16.out | apply Kd.C_alloc | apply Kd.C_drewN | apply Kd.C_drew)) hb⟩
                  have Quv17 : Aside0 (Kd.V k58 58 W17 w.heap.size (fun _ => True) (.slice Au (Rm (M2T l0 l1)).length cu) (Rm (M2T l0 l1))) := ⟨Kd.V_below (by repeat (first | exact Quv16.out | apply Kd.V_alloc | apply Kd.V_drewN | apply Kd.V_drew)) hb⟩
                  clear Qu16 Quv16
                  clear HB16
                  have Qfv := Aside0.mk (Kd.R_V (base' := w.heap.size) (Kd.R_mono (ok' := fun _ => True) hr (fun _ _ => trivial)))
                  obtain ⟨Af, cf, rfl, hle, hC⟩ := Kd.R_reads hr
                  have Qf := Aside0.mk hC
                  have Qfc := Aside0.mk hle
                  clear hr hle hC hb
                  go_wp2_with fail
                  refine (sackbutref23_Merge.calls 4000 (fun _ => True) Au cu (Rm (M2T l0 l1)) (fun _ => True) Af cf (Rm l2) (Rm (M2T (M2T l0 l1) l2)) _ (by repeat (first | exact Quv17.out | apply Kd.V_alloc | apply Kd.V_drewN | apply Kd.V_drew)) (by repeat (first | exact Qfv.out | apply Kd.V_alloc | apply Kd.V_drewN | apply Kd.V_drew)) (merge_ref (M2T l0 l1) l2 (by have := LEN.out; have := m2_len l0 l1; omega))).mono ?_
                  rintro e W18 ⟨vx, rfl, hr, hb⟩
                  have HB18 : Aside0 (Below w.heap.size w W18) := ⟨below_then (by repeat (first | (with_reducible first | exact HB17.out | apply below_alloc | apply pw_below_drewN | apply below_drew1) | exact HB17.out)) (below_size (by repeat (first | (with_reducible first | exact HB17.out | apply below_alloc | apply pw_below_drewN | apply below_drew1) | exact HB17.out))) hb⟩
                  have L018 : Aside0 (Kd.C k45 W18 A0 l0.length l0) := ⟨Kd.C_below (by repeat (first | exact L017.out | apply Kd.C_alloc | apply Kd.C_drewN | apply Kd.C_drew)) hb⟩
                  clear L017
                  have L118 : Aside0 (Kd.C k45 W18 A1 l1.length l1) := ⟨Kd.C_below (by repeat (first | exact L117.out | apply Kd.C_alloc | apply Kd.C_drewN | apply Kd.C_drew)) hb⟩
                  clear L117
                  have L218 : Aside0 (Kd.C k45 W18 A2 l2.length l2) := ⟨Kd.C_below (by repeat (first | exact L217.out | apply Kd.C_alloc | apply Kd.C_drewN | apply Kd.C_drew)) hb⟩
                  clear L217
                  have Qu18 : Aside0 (Kd.C k58 W18 Au (Rm (M2T l0 l1)).length (Rm (M2T l0 l1))) := ⟨Kd.C_below (by repeat (first | exact Qu17.out | apply Kd.C_alloc | apply Kd.C_drewN | apply Kd.C_drew)) hb⟩
                  have Quv18 : Aside0 (Kd.V k58 58 W18 w.heap.size (fun _ => True) (.slice Au (Rm (M2T l0 l1)).length cu) (Rm (M2T l0 l1))) := ⟨Kd.V_below (by repeat (first | exact Quv17.out | apply Kd.V_alloc | apply Kd.V_drewN | apply Kd.V_drew)) hb⟩
                  clear Qu17 Quv17
                  have Qf18 : Aside0 (Kd.C k58 W18 Af (Rm l2).length (Rm l2)) := ⟨Kd.C_below (by repeat (first | exact Qf.out | apply Kd.C_alloc | apply Kd.C_drewN | apply Kd.C_drew)) hb⟩
                  have Qfv18 : Aside0 (Kd.V k58 58 W18 w.heap.size (fun _ => True) (.slice Af (Rm l2).length cf) (Rm l2)) := ⟨Kd.V_below (by repeat (first | exact Qfv.out | apply Kd.V_alloc | apply Kd.V_drewN | apply Kd.V_drew)) hb⟩
                  clear Qf Qfv
                  clear HB17
                  have Qxv := Aside0.mk (Kd.R_V (base' := w.heap.size) (Kd.R_mono (ok' := fun _ => True) hr (fun _ _ => trivial)))
                  obtain ⟨Ax, cx, rfl, hle, hC⟩ := Kd.R_reads hr
                  have Qx := Aside0.mk hC
                  have Qxc := Aside0.mk hle
                  clear hr hle hC hb
                  go_wp2
                  go_ret
                  first | exact ⟨rfl, (by repeat (first | (with_reducible first | exact HB18.out | apply below_alloc | apply pw_below_drewN | apply below_drew1) | exact HB18.out))⟩ | exact ⟨by simp, (by repeat (first | (with_reducible first | exact HB18.out | apply below_alloc | apply pw_below_drewN | apply below_drew1) | exact HB18.out))⟩
                · have Mn : Aside0 (mergeF [l0, l1, l2] = ((M2T (M2T l0 l1) l2), 0)) := ⟨(merge_three l0 l1 l2 G0.out G1.out G2.out).trans (if_neg hx)⟩
                  have dx1 : decide (100 < (Rm (M2T (M2T l0 l1) l2)).length) = false := by rw [rm_len]; exact decide_eq_false hx
                  have dx2 : decide (100 < ((Rm (M2T (M2T l0 l1) l2)).length : Int)) = false := by rw [rm_len]; exact decide_eq_false (by omega)
                  have dx3 : decide ((Rm (M2T (M2T l0 l1) l2)).length ≤ 100) = true := by rw [rm_len]; exact decide_eq_true (by omega)
                  have dx4 : decide (((Rm (M2T (M2T l0 l1) l2)).length : Int) ≤ 100) = true := by rw [rm_len]; exact decide_eq_true (by omega)
                  clear hx
                  go_enter Try.func3, Try.ntmps3
                  go_wp2_with fail
                  refine (sackbutlaw23_awake.calls 100 true _ awake_val).mono ?_
                  rintro e W1 ⟨rfl, hb⟩
                  have HB1 : Aside0 (Below w.heap.size w W1) := ⟨below_then (by repeat (first | (with_reducible first | exact HB0.out | apply below_alloc | apply pw_below_drewN | apply below_drew1) | exact HB0.out)) (below_size (by repeat (first | (with_reducible first | exact HB0.out | apply below_alloc | apply pw_below_drewN | apply below_drew1) | exact HB0.out))) hb⟩
                  have L01 : Aside0 (Kd.C k45 W1 A0 l0.length l0) := ⟨Kd.C_below (by repeat (first | exact L0.out | apply Kd.C_alloc | apply Kd.C_drewN | apply Kd.C_drew)) hb⟩
                  clear L0
                  have L11 : Aside0 (Kd.C k45 W1 A1 l1.length l1) := ⟨Kd.C_below (by repeat (first | exact L1.out | apply Kd.C_alloc | apply Kd.C_drewN | apply Kd.C_drew)) hb⟩
                  clear L1
                  have L21 : Aside0 (Kd.C k45 W1 A2 l2.length l2) := ⟨Kd.C_below (by repeat (first | exact L2.out | apply Kd.C_alloc | apply Kd.C_drewN | apply Kd.C_drew)) hb⟩
                  clear L2
                  clear HB0
                  clear hb
                  go_wp2_with fail
                  refine (sackbutlaw23_few.calls (l0.length + 1) A0 c0 l0 true _ (by repeat (first | exact L01.out | apply Kd.C_alloc | apply Kd.C_drewN | apply Kd.C_drew)) HC0.out HF0.out).mono ?_
                  rintro e W2 ⟨rfl, hb⟩
                  have HB2 : Aside0 (Below w.heap.size w W2) := ⟨below_then (by repeat (first | (with_reducible first | exact HB1.out | apply below_alloc | apply pw_below_drewN | apply below_drew1) | exact HB1.out)) (below_size (by repeat (first | (with_reducible first | exact HB1.out | apply below_alloc | apply pw_below_drewN | apply below_drew1) | exact HB1.out))) hb⟩
                  have L02 : Aside0 (Kd.C k45 W2 A0 l0.length l0) := ⟨Kd.C_below (by repeat (first | exact L01.out | apply Kd.C_alloc | apply Kd.C_drewN | apply Kd.C_drew)) hb⟩
                  clear L01
                  have L12 : Aside0 (Kd.C k45 W2 A1 l1.length l1) := ⟨Kd.C_below (by repeat (first | exact L11.out | apply Kd.C_alloc | apply Kd.C_drewN | apply Kd.C_drew)) hb⟩
                  clear L11
                  have L22 : Aside0 (Kd.C k45 W2 A2 l2.length l2) := ⟨Kd.C_below (by repeat (first | exact L21.out | apply Kd.C_alloc | apply Kd.C_drewN | apply Kd.C_drew)) hb⟩
                  clear L21
                  clear HB1
                  clear hb
                  go_wp2_with fail
                  refine (sackbutlaw23_few.calls (l1.length + 1) A1 c1 l1 true _ (by repeat (first | exact L12.out | apply Kd.C_alloc | apply Kd.C_drewN | apply Kd.C_drew)) HC1.out HF1.out).mono ?_
                  rintro e W3 ⟨rfl, hb⟩
                  have HB3 : Aside0 (Below w.heap.size w W3) := ⟨below_then (by repeat (first | (with_reducible first | exact HB2.out | apply below_alloc | apply pw_below_drewN | apply below_drew1) | exact HB2.out)) (below_size (by repeat (first | (with_reducible first | exact HB2.out | apply below_alloc | apply pw_below_drewN | apply below_drew1) | exact HB2.out))) hb⟩
                  have L03 : Aside0 (Kd.C k45 W3 A0 l0.length l0) := ⟨Kd.C_below (by repeat (first | exact L02.out | apply Kd.C_alloc | apply Kd.C_drewN | apply Kd.C_drew)) hb⟩
                  clear L02
                  have L13 : Aside0 (Kd.C k45 W3 A1 l1.length l1) := ⟨Kd.C_below (by repeat (first | exact L12.out | apply Kd.C_alloc | apply Kd.C_drewN | apply Kd.C_drew)) hb⟩
                  clear L12
                  have L23 : Aside0 (Kd.C k45 W3 A2 l2.length l2) := ⟨Kd.C_below (by repeat (first | exact L22.out | apply Kd.C_alloc | apply Kd.C_drewN | apply Kd.C_drew)) hb⟩
                  clear L22
                  clear HB2
                  clear hb
                  go_wp2_with fail
                  refine (sackbutlaw23_few.calls (l2.length + 1) A2 c2 l2 true _ (by repeat (first | exact L23.out | apply Kd.C_alloc | apply Kd.C_drewN | apply Kd.C_drew)) HC2.out HF2.out).mono ?_
                  rintro e W4 ⟨rfl, hb⟩
                  have HB4 : Aside0 (Below w.heap.size w W4) := ⟨below_then (by repeat (first | (with_reducible first | exact HB3.out | apply below_alloc | apply pw_below_drewN | apply below_drew1) | exact HB3.out)) (below_size (by repeat (first | (with_reducible first | exact HB3.out | apply below_alloc | apply pw_below_drewN | apply below_drew1) | exact HB3.out))) hb⟩
                  have L04 : Aside0 (Kd.C k45 W4 A0 l0.length l0) := ⟨Kd.C_below (by repeat (first | exact L03.out | apply Kd.C_alloc | apply Kd.C_drewN | apply Kd.C_drew)) hb⟩
                  clear L03
                  have L14 : Aside0 (Kd.C k45 W4 A1 l1.length l1) := ⟨Kd.C_below (by repeat (first | exact L13.out | apply Kd.C_alloc | apply Kd.C_drewN | apply Kd.C_drew)) hb⟩
                  clear L13
                  have L24 : Aside0 (Kd.C k45 W4 A2 l2.length l2) := ⟨Kd.C_below (by repeat (first | exact L23.out | apply Kd.C_alloc | apply Kd.C_drewN | apply Kd.C_drew)) hb⟩
                  clear L23
                  clear HB3
                  clear hb
                  go_wp2_with fail
                  refine (Merge_calls _ _ _ [l0, l1] (rows2 _ (by repeat (first | exact L04.out | apply Kd.C_alloc | apply Kd.C_drewN | apply Kd.C_drew)) HC0.out (by repeat (first | exact L14.out | apply Kd.C_alloc | apply Kd.C_drewN | apply Kd.C_drew)) HC1.out) (Nat.le_refl _) (by simp)).mono ?_
                  rintro e W5 ⟨vm, rfl, hr, hb⟩
                  have HB5 : Aside0 (Below w.heap.size w W5) := ⟨below_then (by repeat (first | (with_reducible first | exact HB4.out | apply below_alloc | apply pw_below_drewN | apply below_drew1) | exact HB4.out)) (below_size (by repeat (first | (with_reducible first | exact HB4.out | apply below_alloc | apply pw_below_drewN | apply below_drew1) | exact HB4.out))) hb⟩
                  have L05 : Aside0 (Kd.C k45 W5 A0 l0.length l0) := ⟨Kd.C_below (by repeat (first | exact L04.out | apply Kd.C_alloc | apply Kd.C_drewN | apply Kd.C_drew)) hb⟩
                  clear L04
                  have L15 : Aside0 (Kd.C k45 W5 A1 l1.length l1) := ⟨Kd.C_below (by repeat (first | exact L14.out | apply Kd.C_alloc | apply Kd.C_drewN | apply Kd.C_drew)) hb⟩
                  clear L14
                  have L25 : Aside0 (Kd.C k45 W5 A2 l2.length l2) := ⟨Kd.C_below (by repeat (first | exact L24.out | apply Kd.C_alloc | apply Kd.C_drewN | apply Kd.C_drew)) hb⟩
                  clear L24
                  clear HB4
                  rw [Mm.out] at hr ⊢
                  obtain ⟨Am, cm, rfl, hle, hC⟩ := Kd.R_reads hr
                  have Qm := Aside0.mk hC
                  have Qmc := Aside0.mk hle
                  clear hr hle hC hb
                  go_wp2_with fail
                  refine (Merge_calls _ _ _ [l0, l1, l2] (rows3 _ (by repeat (first | exact L05.out | apply Kd.C_alloc | apply Kd.C_drewN | apply Kd.C_drew)) HC0.out (by repeat (first | exact L15.out | apply Kd.C_alloc | apply Kd.C_drewN | apply Kd.C_drew)) HC1.out (by repeat (first | exact L25.out | apply Kd.C_alloc | apply Kd.C_drewN | apply Kd.C_drew)) HC2.out) (Nat.le_refl _) (by simp)).mono ?_
                  rintro e W6 ⟨vn, rfl, hr, hb⟩
                  have HB6 : Aside0 (Below w.heap.size w W6) := ⟨below_then (by repeat (first | (with_reducible first | exact HB5.out | apply below_alloc | apply pw_below_drewN | apply below_drew1) | exact HB5.out)) (below_size (by repeat (first | (with_reducible first | exact HB5.out | apply below_alloc | apply pw_below_drewN | apply below_drew1) | exact HB5.out))) hb⟩
                  have L06 : Aside0 (Kd.C k45 W6 A0 l0.length l0) := ⟨Kd.C_below (by repeat (first | exact L05.out | apply Kd.C_alloc | apply Kd.C_drewN | apply Kd.C_drew)) hb⟩
                  clear L05
                  have L16 : Aside0 (Kd.C k45 W6 A1 l1.length l1) := ⟨Kd.C_below (by repeat (first | exact L15.out | apply Kd.C_alloc | apply Kd.C_drewN | apply Kd.C_drew)) hb⟩
                  clear L15
                  have L26 : Aside0 (Kd.C k45 W6 A2 l2.length l2) := ⟨Kd.C_below (by repeat (first | exact L25.out | apply Kd.C_alloc | apply Kd.C_drewN | apply Kd.C_drew)) hb⟩
                  clear L25
                  have Qm6 : Aside0 (Kd.C k45 W6 Am (M2T l0 l1).length (M2T l0 l1)) := ⟨Kd.C_below (by repeat (first | exact Qm.out | apply Kd.C_alloc | apply Kd.C_drewN | apply Kd.C_drew)) hb⟩
                  clear Qm
                  clear HB5
                  rw [Mn.out] at hr ⊢
                  obtain ⟨An, cn, rfl, hle, hC⟩ := Kd.R_reads hr
                  have Qn := Aside0.mk hC
                  have Qnc := Aside0.mk hle
                  clear hr hle hC hb
                  go_wp2_with fail
                  refine (sackbutlaw23_ref.calls 1001 A0 c0 l0 (Rm l0) _ (by repeat (first | exact L06.out | apply Kd.C_alloc | apply Kd.C_drewN | apply Kd.C_drew)) HC0.out (ref_val l0 (by have := LEN.out; omega))).mono ?_
                  rintro e W7 ⟨va, rfl, hr, hb⟩
                  have HB7 : Aside0 (Below w.heap.size w W7) := ⟨below_then (by repeat (first | (with_reducible first | exact HB6.out | apply below_alloc | apply pw_below_drewN | apply below_drew1) | exact HB6.out)) (below_size (by repeat (first | (with_reducible first | exact HB6.out | apply below_alloc | apply pw_below_drewN | apply below_drew1) | exact HB6.out))) hb⟩
                  have L07 : Aside0 (Kd.C k45 W7 A0 l0.length l0) := ⟨Kd.C_below (by repeat (first | exact L06.out | apply Kd.C_alloc | apply Kd.C_drewN | apply Kd.C_drew)) hb⟩
                  clear L06
                  have L17 : Aside0 (Kd.C k45 W7 A1 l1.length l1) := ⟨Kd.C_below (by repeat (first | exact L16.out | apply Kd.C_alloc | apply Kd.C_drewN | apply Kd.C_drew)) hb⟩
                  clear L16
                  have L27 : Aside0 (Kd.C k45 W7 A2 l2.length l2) := ⟨Kd.C_below (by repeat (first | exact L26.out | apply Kd.C_alloc | apply Kd.C_drewN | apply Kd.C_drew)) hb⟩
                  clear L26
                  have Qm7 : Aside0 (Kd.C k45 W7 Am (M2T l0 l1).length (M2T l0 l1)) := ⟨Kd.C_below (by repeat (first | exact Qm6.out | apply Kd.C_alloc | apply Kd.C_drewN | apply Kd.C_drew)) hb⟩
                  clear Qm6
                  have Qn7 : Aside0 (Kd.C k45 W7 An (M2T (M2T l0 l1) l2).length (M2T (M2T l0 l1) l2)) := ⟨Kd.C_below (by repeat (first | exact Qn.out | apply Kd.C_alloc | apply Kd.C_drewN | apply Kd.C_drew)) hb⟩
                  clear Qn
                  clear HB6
                  have Qav := Aside0.mk (Kd.R_V (base' := w.heap.size) (Kd.R_mono (ok' := fun _ => True) hr (fun _ _ => trivial)))
                  obtain ⟨Aa, ca, rfl, hle, hC⟩ := Kd.R_reads hr
                  have Qa := Aside0.mk hC
                  have Qac := Aside0.mk hle
                  clear hr hle hC hb
                  go_wp2_with fail
                  refine (sackbutref23_Good.calls 2000 Aa ca (Rm l0) (goodB l0) _ (by repeat (first | exact Qa.out | apply Kd.C_alloc | apply Kd.C_drewN | apply Kd.C_drew)) Qac.out (good_ref l0 (by have := LEN.out; omega) SZ0.out)).mono ?_
                  rintro e W8 ⟨rfl, hb⟩
                  have HB8 : Aside0 (Below w.heap.size w W8) := ⟨below_then (by repeat (first | (with_reducible first | exact HB7.out | apply below_alloc | apply pw_below_drewN | apply below_drew1) | exact HB7.out)) (below_size (by repeat (first | (with_reducible first | exact HB7.out | apply below_alloc | apply pw_below_drewN | apply below_drew1) | exact HB7.out))) hb⟩
                  have L08 : Aside0 (Kd.C k45 W8 A0 l0.length l0) := ⟨Kd.C_below (by repeat (first | exact L07.out | apply Kd.C_alloc | apply Kd.C_drewN | apply Kd.C_drew)) hb⟩
                  clear L07
                  have L18 : Aside0 (Kd.C k45 W8 A1 l1.length l1) := ⟨Kd.C_below (by repeat (first | exact L17.out | apply Kd.C_alloc | apply Kd.C_drewN | apply Kd.C_drew)) hb⟩
                  clear L17
                  have L28 : Aside0 (Kd.C k45 W8 A2 l2.length l2) := ⟨Kd.C_below (by repeat (first | exact L27.out | apply Kd.C_alloc | apply Kd.C_drewN | apply Kd.C_drew)) hb⟩
                  clear L27
                  have Qm8 : Aside0 (Kd.C k45 W8 Am (M2T l0 l1).length (M2T l0 l1)) := ⟨Kd.C_below (by repeat (first | exact Qm7.out | apply Kd.C_alloc | apply Kd.C_drewN | apply Kd.C_drew)) hb⟩
                  clear Qm7
                  have Qn8 : Aside0 (Kd.C k45 W8 An (M2T (M2T l0 l1) l2).length (M2T (M2T l0 l1) l2)) := ⟨Kd.C_below (by repeat (first | exact Qn7.out | apply Kd.C_alloc | apply Kd.C_drewN | apply Kd.C_drew)) hb⟩
                  clear Qn7
                  have Qa8 : Aside0 (Kd.C k58 W8 Aa (Rm l0).length (Rm l0)) := ⟨Kd.C_below (by repeat (first | exact Qa.out | apply Kd.C_alloc | apply Kd.C_drewN | apply Kd.C_drew)) hb⟩
                  have Qav8 : Aside0 (Kd.V k58 58 W8 w.heap.size (fun _ => True) (.slice Aa (Rm l0).length ca) (Rm l0)) := ⟨Kd.V_below (by repeat (first | exact Qav.out | apply Kd.V_alloc | apply Kd.V_drewN | apply Kd.V_drew)) hb⟩
                  clear Qa Qav
                  clear HB7
                  clear hb
                  rw [G0.out]
                  clear Qa8 Qav8
                  go_wp2_with fail
                  refine (sackbutlaw23_ref.calls 1001 A1 c1 l1 (Rm l1) _ (by repeat (first | exact L18.out | apply Kd.C_alloc | apply Kd.C_drewN | apply Kd.C_drew)) HC1.out (ref_val l1 (by have := LEN.out; omega))).mono ?_
                  rintro e W9 ⟨vb, rfl, hr, hb⟩
                  have HB9 : Aside0 (Below w.heap.size w W9) := ⟨below_then (by repeat (first | (with_reducible first | exact HB8.out | apply below_alloc | apply pw_below_drewN | apply below_drew1) | exact HB8.out)) (below_size (by repeat (first | (with_reducible first | exact HB8.out | apply below_alloc | apply pw_below_drewN | apply below_drew1) | exact HB8.out))) hb⟩
                  have L09 : Aside0 (Kd.C k45 W9 A0 l0.length l0) := ⟨Kd.C_below (by repeat (first | exact L08.out | apply Kd.C_alloc | apply Kd.C_drewN | apply Kd.C_drew)) hb⟩
                  clear L08
                  have L19 : Aside0 (Kd.C k45 W9 A1 l1.length l1) := ⟨Kd.C_below (by repeat (first | exact L18.out | apply Kd.C_alloc | apply Kd.C_drewN | apply Kd.C_drew)) hb⟩
                  clear L18
                  have L29 : Aside0 (Kd.C k45 W9 A2 l2.length l2) := ⟨Kd.C_below (by repeat (first | exact L28.out | apply Kd.C_alloc | apply Kd.C_drewN | apply Kd.C_drew)) hb⟩
                  clear L28
                  have Qm9 : Aside0 (Kd.C k45 W9 Am (M2T l0 l1).length (M2T l0 l1)) := ⟨Kd.C_below (by repeat (first | exact Qm8.out | apply Kd.C_alloc | apply Kd.C_drewN | apply Kd.C_drew)) hb⟩
                  clear Qm8
                  have Qn9 : Aside0 (Kd.C k45 W9 An (M2T (M2T l0 l1) l2).length (M2T (M2T l0 l1) l2)) := ⟨Kd.C_below (by repeat (first | exact Qn8.out | apply Kd.C_alloc | apply Kd.C_drewN | apply Kd.C_drew)) hb⟩
                  clear Qn8
                  clear HB8
                  have Qbv := Aside0.mk (Kd.R_V (base' := w.heap.size) (Kd.R_mono (ok' := fun _ => True) hr (fun _ _ => trivial)))
                  obtain ⟨Ab, cb, rfl, hle, hC⟩ := Kd.R_reads hr
                  have Qb := Aside0.mk hC
                  have Qbc := Aside0.mk hle
                  clear hr hle hC hb
                  go_wp2_with fail
                  refine (sackbutref23_Good.calls 2000 Ab cb (Rm l1) (goodB l1) _ (by repeat (first | exact Qb.out | apply Kd.C_alloc | apply Kd.C_drewN | apply Kd.C_drew)) Qbc.out (good_ref l1 (by have := LEN.out; omega) SZ1.out)).mono ?_
                  rintro e W10 ⟨rfl, hb⟩
                  have HB10 : Aside0 (Below w.heap.size w W10) := ⟨below_then (by repeat (first | (with_reducible first | exact HB9.out | apply below_alloc | apply pw_below_drewN | apply below_drew1) | exact HB9.out)) (below_size (by repeat (first | (with_reducible first | exact HB9.out | apply below_alloc | apply pw_below_drewN | apply below_drew1) | exact HB9.out))) hb⟩
                  have L010 : Aside0 (Kd.C k45 W10 A0 l0.length l0) := ⟨Kd.C_below (by repeat (first | exact L09.out | apply Kd.C_alloc | apply Kd.C_drewN | apply Kd.C_drew)) hb⟩
                  clear L09
                  have L110 : Aside0 (Kd.C k45 W10 A1 l1.length l1) := ⟨Kd.C_below (by repeat (first | exact L19.out | apply Kd.C_alloc | apply Kd.C_drewN | apply Kd.C_drew)) hb⟩
                  clear L19
                  have L210 : Aside0 (Kd.C k45 W10 A2 l2.length l2) := ⟨Kd.C_below (by repeat (first | exact L29.out | apply Kd.C_alloc | apply Kd.C_drewN | apply Kd.C_drew)) hb⟩
                  clear L29
                  have Qm10 : Aside0 (Kd.C k45 W10 Am (M2T l0 l1).length (M2T l0 l1)) := ⟨Kd.C_below (by repeat (first | exact Qm9.out | apply Kd.C_alloc | apply Kd.C_drewN | apply Kd.C_drew)) hb⟩
                  clear Qm9
                  have Qn10 : Aside0 (Kd.C k45 W10 An (M2T (M2T l0 l1) l2).length (M2T (M2T l0 l1) l2)) := ⟨Kd.C_below (by repeat (first | exact Qn9.out | apply Kd.C_alloc | apply Kd.C_drewN | apply Kd.C_drew)) hb⟩
                  clear Qn9
                  have Qb10 : Aside0 (Kd.C k58 W10 Ab (Rm l1).length (Rm l1)) := ⟨Kd.C_below (by repeat (first | exact Qb.out | apply Kd.C_alloc | apply Kd.C_drewN | apply Kd.C_drew)) hb⟩
                  have Qbv10 : Aside0 (Kd.V k58 58 W10 w.heap.size (fun _ => True) (.slice Ab (Rm l1).length cb) (Rm l1)) := ⟨Kd.V_below (by repeat (first | exact Qbv.out | apply Kd.V_alloc | apply Kd.V_drewN | apply Kd.V_drew)) hb⟩
                  clear Qb Qbv
                  clear HB9
                  clear hb
                  rw [G1.out]
                  clear Qb10 Qbv10
                  go_wp2_with fail
                  refine (sackbutlaw23_ref.calls 1001 A0 c0 l0 (Rm l0) _ (by repeat (first | exact L010.out | apply Kd.C_alloc | apply Kd.C_drewN | apply Kd.C_drew)) HC0.out (ref_val l0 (by have := LEN.out; omega))).mono ?_
                  rintro e W11 ⟨vc, rfl, hr, hb⟩
                  have HB11 : Aside0 (Below w.heap.size w W11) := ⟨below_then (by repeat (first | (with_reducible first | exact HB10.out | apply below_alloc | apply pw_below_drewN | apply below_drew1) | exact HB10.out)) (below_size (by repeat (first | (with_reducible first | exact HB10.out | apply below_alloc | apply pw_below_drewN | apply below_drew1) | exact HB10.out))) hb⟩
                  have L011 : Aside0 (Kd.C k45 W11 A0 l0.length l0) := ⟨Kd.C_below (by repeat (first | exact L010.out | apply Kd.C_alloc | apply Kd.C_drewN | apply Kd.C_drew)) hb⟩
                  clear L010
                  have L111 : Aside0 (Kd.C k45 W11 A1 l1.length l1) := ⟨Kd.C_below (by repeat (first | exact L110.out | apply Kd.C_alloc | apply Kd.C_drewN | apply Kd.C_drew)) hb⟩
                  clear L110
                  have L211 : Aside0 (Kd.C k45 W11 A2 l2.length l2) := ⟨Kd.C_below (by repeat (first | exact L210.out | apply Kd.C_alloc | apply Kd.C_drewN | apply Kd.C_drew)) hb⟩
                  clear L210
                  have Qm11 : Aside0 (Kd.C k45 W11 Am (M2T l0 l1).length (M2T l0 l1)) := ⟨Kd.C_below (by repeat (first | exact Qm10.out | apply Kd.C_alloc | apply Kd.C_drewN | apply Kd.C_drew)) hb⟩
                  clear Qm10
                  have Qn11 : Aside0 (Kd.C k45 W11 An (M2T (M2T l0 l1) l2).length (M2T (M2T l0 l1) l2)) := ⟨Kd.C_below (by repeat (first | exact Qn10.out | apply Kd.C_alloc | apply Kd.C_drewN | apply Kd.C_drew)) hb⟩
                  clear Qn10
                  clear HB10
                  have Qcv := Aside0.mk (Kd.R_V (base' := w.heap.size) (Kd.R_mono (ok' := fun _ => True) hr (fun _ _ => trivial)))
                  obtain ⟨Ac, cc, rfl, hle, hC⟩ := Kd.R_reads hr
                  have Qc := Aside0.mk hC
                  have Qcc := Aside0.mk hle
                  clear hr hle hC hb
                  go_wp2_with fail
                  refine (sackbutlaw23_ref.calls 1001 A1 c1 l1 (Rm l1) _ (by repeat (first | exact L111.out | apply Kd.C_alloc | apply Kd.C_drewN | apply Kd.C_drew)) HC1.out (ref_val l1 (by have := LEN.out; omega))).mono ?_
                  rintro e W12 ⟨vd, rfl, hr, hb⟩
                  have HB12 : Aside0 (Below w.heap.size w W12) := ⟨below_then (by repeat (first | (with_reducible first | exact HB11.out | apply below_alloc | apply pw_below_drewN | apply below_drew1) | exact HB11.out)) (below_size (by repeat (first | (with_reducible first | exact HB11.out | apply below_alloc | apply pw_below_drewN | apply below_drew1) | exact HB11.out))) hb⟩
                  have L012 : Aside0 (Kd.C k45 W12 A0 l0.length l0) := ⟨Kd.C_below (by repeat (first | exact L011.out | apply Kd.C_alloc | apply Kd.C_drewN | apply Kd.C_drew)) hb⟩
                  clear L011
                  have L112 : Aside0 (Kd.C k45 W12 A1 l1.length l1) := ⟨Kd.C_below (by repeat (first | exact L111.out | apply Kd.C_alloc | apply Kd.C_drewN | apply Kd.C_drew)) hb⟩
                  clear L111
                  have L212 : Aside0 (Kd.C k45 W12 A2 l2.length l2) := ⟨Kd.C_below (by repeat (first | exact L211.out | apply Kd.C_alloc | apply Kd.C_drewN | apply Kd.C_drew)) hb⟩
                  clear L211
                  have Qm12 : Aside0 (Kd.C k45 W12 Am (M2T l0 l1).length (M2T l0 l1)) := ⟨Kd.C_below (by repeat (first | exact Qm11.out | apply Kd.C_alloc | apply Kd.C_drewN | apply Kd.C_drew)) hb⟩
                  clear Qm11
                  have Qn12 : Aside0 (Kd.C k45 W12 An (M2T (M2T l0 l1) l2).length (M2T (M2T l0 l1) l2)) := ⟨Kd.C_below (by repeat (first | exact Qn11.out | apply Kd.C_alloc | apply Kd.C_drewN | apply Kd.C_drew)) hb⟩
                  clear Qn11
                  have Qc12 : Aside0 (Kd.C k58 W12 Ac (Rm l0).length (Rm l0)) := ⟨Kd.C_below (by repeat (first | exact Qc.out | apply Kd.C_alloc | apply Kd.C_drewN | apply Kd.C_drew)) hb⟩
                  have Qcv12 : Aside0 (Kd.V k58 58 W12 w.heap.size (fun _ => True) (.slice Ac (Rm l0).length cc) (Rm l0)) := ⟨Kd.V_below (by repeat (first | exact Qcv.out | apply Kd.V_alloc | apply Kd.V_drewN | apply Kd.V_drew)) hb⟩
                  clear Qc Qcv
                  clear HB11
                  have Qdv := Aside0.mk (Kd.R_V (base' := w.heap.size) (Kd.R_mono (ok' := fun _ => True) hr (fun _ _ => trivial)))
                  obtain ⟨Ad, cd, rfl, hle, hC⟩ := Kd.R_reads hr
                  have Qd := Aside0.mk hC
                  have Qdc := Aside0.mk hle
                  clear hr hle hC hb
                  go_wp2_with fail
                  refine (sackbutref23_Merge.calls 4000 (fun _ => True) Ac cc (Rm l0) (fun _ => True) Ad cd (Rm l1) (Rm (M2T l0 l1)) _ (by repeat (first | exact Qcv12.out | apply Kd.V_alloc | apply Kd.V_drewN | apply Kd.V_drew)) (by repeat (first | exact Qdv.out | apply Kd.V_alloc | apply Kd.V_drewN | apply Kd.V_drew)) (merge_ref l0 l1 (by have := LEN.out; have := m2_len l0 l1; omega))).mono ?_
                  rintro e W13 ⟨vu, rfl, hr, hb⟩
                  have HB13 : Aside0 (Below w.heap.size w W13) := ⟨below_then (by repeat (first | (with_reducible first | exact HB12.out | apply below_alloc | apply pw_below_drewN | apply below_drew1) | exact HB12.out)) (below_size (by repeat (first | (with_reducible first | exact HB12.out | apply below_alloc | apply pw_below_drewN | apply below_drew1) | exact HB12.out))) hb⟩
                  have L013 : Aside0 (Kd.C k45 W13 A0 l0.length l0) := ⟨Kd.C_below (by repeat (first | exact L012.out | apply Kd.C_alloc | apply Kd.C_drewN | apply Kd.C_drew)) hb⟩
                  clear L012
                  have L113 : Aside0 (Kd.C k45 W13 A1 l1.length l1) := ⟨Kd.C_below (by repeat (first | exact L112.out | apply Kd.C_alloc | apply Kd.C_drewN | apply Kd.C_drew)) hb⟩
                  clear L112
                  have L213 : Aside0 (Kd.C k45 W13 A2 l2.length l2) := ⟨Kd.C_below (by repeat (first | exact L212.out | apply Kd.C_alloc | apply Kd.C_drewN | apply Kd.C_drew)) hb⟩
                  clear L212
                  have Qm13 : Aside0 (Kd.C k45 W13 Am (M2T l0 l1).length (M2T l0 l1)) := ⟨Kd.C_below (by repeat (first | exact Qm12.out | apply Kd.C_alloc | apply Kd.C_drewN | apply Kd.C_drew)) hb⟩
                  clear Qm12
                  have Qn13 : Aside0 (Kd.C k45 W13 An (M2T (M2T l0 l1) l2).length (M2T (M2T l0 l1) l2)) := ⟨Kd.C_below (by repeat (first | exact Qn12.out | apply Kd.C_alloc | apply Kd.C_drewN | apply Kd.C_drew)) hb⟩
                  clear Qn12
                  have Qc13 : Aside0 (Kd.C k58 W13 Ac (Rm l0).length (Rm l0)) := ⟨Kd.C_below (by repeat (first | exact Qc12.out | apply Kd.C_alloc | apply Kd.C_drewN | apply Kd.C_drew)) hb⟩
                  have Qcv13 : Aside0 (Kd.V k58 58 W13 w.heap.size (fun _ => True) (.slice Ac (Rm l0).length cc) (Rm l0)) := ⟨Kd.V_below (by repeat (first | exact Qcv12.out | apply Kd.V_alloc | apply Kd.V_drewN | apply Kd.V_drew)) hb⟩
                  clear Qc12 Qcv12
                  have Qd13 : Aside0 (Kd.C k58 W13 Ad (Rm l1).length (Rm l1)) := ⟨Kd.C_below (by repeat (first | exact Qd.out | apply Kd.C_alloc | apply Kd.C_drewN | apply Kd.C_drew)) hb⟩
                  have Qdv13 : Aside0 (Kd.V k58 58 W13 w.heap.size (fun _ => True) (.slice Ad (Rm l1).length cd) (Rm l1)) := ⟨Kd.V_below (by repeat (first | exact Qdv.out | apply Kd.V_alloc | apply Kd.V_drewN | apply Kd.V_drew)) hb⟩
                  clear Qd Qdv
                  clear HB12
                  have Quv := Aside0.mk (Kd.R_V (base' := w.heap.size) (Kd.R_mono (ok' := fun _ => True) hr (fun _ _ => trivial)))
                  obtain ⟨Au, cu, rfl, hle, hC⟩ := Kd.R_reads hr
                  have Qu := Aside0.mk hC
                  have Quc := Aside0.mk hle
                  clear hr hle hC hb
                  clear Qc13 Qcv13
                  clear Qd13 Qdv13
                  go_wp2_with fail
                  refine (sackbutlaw23_same.calls 1001 Am cm (M2T l0 l1) Au cu (Rm (M2T l0 l1)) true _ (by repeat (first | exact Qm13.out | apply Kd.C_alloc | apply Kd.C_drewN | apply Kd.C_drew)) Qmc.out (by repeat (first | exact Qu.out | apply Kd.C_alloc | apply Kd.C_drewN | apply Kd.C_drew)) Quc.out (same_val (M2T l0 l1) (by have := LEN.out; omega))).mono ?_
                  rintro e W14 ⟨rfl, ⟨nd, rfl⟩⟩
                  clear Qm13
                  go_wp2_with fail
                  refine (sackbutlaw23_ref.calls 1001 A2 c2 l2 (Rm l2) _ (by repeat (first | exact L213.out | apply Kd.C_alloc | apply Kd.C_drewN | apply Kd.C_drew)) HC2.out (ref_val l2 (by have := LEN.out; omega))).mono ?_
                  rintro e W15 ⟨ve, rfl, hr, hb⟩
                  have HB15 : Aside0 (Below w.heap.size w W15) := ⟨below_then (by repeat (first | (with_reducible first | exact HB13.out | apply below_alloc | apply pw_below_drewN | apply below_drew1) | exact HB13.out)) (below_size (by repeat (first | (with_reducible first | exact HB13.out | apply below_alloc | apply pw_below_drewN | apply below_drew1) | exact HB13.out))) hb⟩
                  have L015 : Aside0 (Kd.C k45 W15 A0 l0.length l0) := ⟨Kd.C_below (by repeat (first | exact L013.out | apply Kd.C_alloc | apply Kd.C_drewN | apply Kd.C_drew)) hb⟩
                  clear L013
                  have L115 : Aside0 (Kd.C k45 W15 A1 l1.length l1) := ⟨Kd.C_below (by repeat (first | exact L113.out | apply Kd.C_alloc | apply Kd.C_drewN | apply Kd.C_drew)) hb⟩
                  clear L113
                  have L215 : Aside0 (Kd.C k45 W15 A2 l2.length l2) := ⟨Kd.C_below (by repeat (first | exact L213.out | apply Kd.C_alloc | apply Kd.C_drewN | apply Kd.C_drew)) hb⟩
                  clear L213
                  have Qn15 : Aside0 (Kd.C k45 W15 An (M2T (M2T l0 l1) l2).length (M2T (M2T l0 l1) l2)) := ⟨Kd.C_below (by repeat (first | exact Qn13.out | apply Kd.C_alloc | apply Kd.C_drewN | apply Kd.C_drew)) hb⟩
                  clear Qn13
                  have Qu15 : Aside0 (Kd.C k58 W15 Au (Rm (M2T l0 l1)).length (Rm (M2T l0 l1))) := ⟨Kd.C_below (by repeat (first | exact Qu.out | apply Kd.C_alloc | apply Kd.C_drewN | apply Kd.C_drew)) hb⟩
                  have Quv15 : Aside0 (Kd.V k58 58 W15 w.heap.size (fun _ => True) (.slice Au (Rm (M2T l0 l1)).length cu) (Rm (M2T l0 l1))) := ⟨Kd.V_below (by repeat (first | exact Quv.out | apply Kd.V_alloc | apply Kd.V_drewN | apply Kd.V_drew)) hb⟩
                  clear Qu Quv
                  clear HB13
                  have Qev := Aside0.mk (Kd.R_V (base' := w.heap.size) (Kd.R_mono (ok' := fun _ => True) hr (fun _ _ => trivial)))
                  obtain ⟨Ae, ce, rfl, hle, hC⟩ := Kd.R_reads hr
                  have Qe := Aside0.mk hC
                  have Qec := Aside0.mk hle
                  clear hr hle hC hb
                  go_wp2_with fail
                  refine (sackbutref23_Good.calls 2000 Ae ce (Rm l2) (goodB l2) _ (by repeat (first | exact Qe.out | apply Kd.C_alloc | apply Kd.C_drewN | apply Kd.C_drew)) Qec.out (good_ref l2 (by have := LEN.out; omega) SZ2.out)).mono ?_
                  rintro e W16 ⟨rfl, hb⟩
                  have HB16 : Aside0 (Below w.heap.size w W16) := ⟨below_then (by repeat (first | (with_reducible first | exact HB15.out | apply below_alloc | apply pw_below_drewN | apply below_drew1) | exact HB15.out)) (below_size (by repeat (first | (with_reducible first | exact HB15.out | apply below_alloc | apply pw_below_drewN | apply below_drew1) | exact HB15.out))) hb⟩
                  have L016 : Aside0 (Kd.C k45 W16 A0 l0.length l0) := ⟨Kd.C_below (by repeat (first | exact L015.out | apply Kd.C_alloc | apply Kd.C_drewN | apply Kd.C_drew)) hb⟩
                  clear L015
                  have L116 : Aside0 (Kd.C k45 W16 A1 l1.length l1) := ⟨Kd.C_below (by repeat (first | exact L115.out | apply Kd.C_alloc | apply Kd.C_drewN | apply Kd.C_drew)) hb⟩
                  clear L115
                  have L216 : Aside0 (Kd.C k45 W16 A2 l2.length l2) := ⟨Kd.C_below (by repeat (first | exact L215.out | apply Kd.C_alloc | apply Kd.C_drewN | apply Kd.C_drew)) hb⟩
                  clear L215
                  have Qn16 : Aside0 (Kd.C k45 W16 An (M2T (M2T l0 l1) l2).length (M2T (M2T l0 l1) l2)) := ⟨Kd.C_below (by repeat (first | exact Qn15.out | apply Kd.C_alloc | apply Kd.C_drewN | apply Kd.C_drew)) hb⟩
                  clear Qn15
                  have Qu16 : Aside0 (Kd.C k58 W16 Au (Rm (M2T l0 l1)).length (Rm (M2T l0 l1))) := ⟨Kd.C_below (by repeat (first | exact Qu15.out | apply Kd.C_alloc | apply Kd.C_drewN | apply Kd.C_drew)) hb⟩
                  have Quv16 : Aside0 (Kd.V k58 58 W16 w.heap.size (fun _ => True) (.slice Au (Rm (M2T l0 l1)).length cu) (Rm (M2T l0 l1))) := ⟨Kd.V_below (by repeat (first | exact Quv15.out | apply Kd.V_alloc | apply Kd.V_drewN | apply Kd.V_drew)) hb⟩
                  clear Qu15 Quv15
                  have Qe16 : Aside0 (Kd.C k58 W16 Ae (Rm l2).length (Rm l2)) := ⟨Kd.C_below (by repeat (first | exact Qe.out | apply Kd.C_alloc | apply Kd.C_drewN | apply Kd.C_drew)) hb⟩
                  have Qev16 : Aside0 (Kd.V k58 58 W16 w.heap.size (fun _ => True) (.slice Ae (Rm l2).length ce) (Rm l2)) := ⟨Kd.V_below (by repeat (first | exact Qev.out | apply Kd.V_alloc | apply Kd.V_drewN | apply Kd.V_drew)) hb⟩
                  clear Qe Qev
                  clear HB15
                  clear hb
                  rw [G2.out]
                  clear Qe16 Qev16
                  go_wp2_with fail
                  refine (sackbutlaw23_ref.calls 1001 A2 c2 l2 (Rm l2) _ (by repeat (first | exact L216.out | apply Kd.C_alloc | apply Kd.C_drewN | apply Kd.C_drew)) HC2.out (ref_val l2 (by have := LEN.out; omega))).mono ?_
                  rintro e W17 ⟨vf, rfl, hr, hb⟩
                  have HB17 : Aside0 (Below w.heap.size w W17) := ⟨below_then (by repeat (first | (with_reducible first | exact HB16.out | apply below_alloc | apply pw_below_drewN | apply below_drew1) | exact HB16.out)) (below_size (by repeat (first | (with_reducible first | exact HB16.out | apply below_alloc | apply pw_below_drewN | apply below_drew1) | exact HB16.out))) hb⟩
                  have L017 : Aside0 (Kd.C k45 W17 A0 l0.length l0) := ⟨Kd.C_below (by repeat (first | exact L016.out | apply Kd.C_alloc | apply Kd.C_drewN | apply Kd.C_drew)) hb⟩
                  clear L016
                  have L117 : Aside0 (Kd.C k45 W17 A1 l1.length l1) := ⟨Kd.C_below (by repeat (first | exact L116.out | apply Kd.C_alloc | apply Kd.C_drewN | apply Kd.C_drew)) hb⟩
                  clear L116
                  have L217 : Aside0 (Kd.C k45 W17 A2 l2.length l2) := ⟨Kd.C_below (by repeat (first | exact L216.out | apply Kd.C_alloc | apply Kd.C_drewN | apply Kd.C_drew)) hb⟩
                  clear L216
                  have Qn17 : Aside0 (Kd.C k45 W17 An (M2T (M2T l0 l1) l2).length (M2T (M2T l0 l1) l2)) := ⟨Kd.C_below (by repeat (first | exact Qn16.out | apply Kd.C_alloc | apply Kd.C_drewN | apply Kd.C_drew)) hb⟩
                  clear Qn16
                  have Qu17 : Aside0 (Kd.C k58 W17 Au (Rm (M2T l0 l1)).length (Rm (M2T l0 l1))) := ⟨Kd.C_below (by repeat (first | exact Qu16.out | apply Kd.C_alloc | apply Kd.C_drewN | apply Kd.C_drew)) hb⟩
                  have Quv17 : Aside0 (Kd.V k58 58 W17 w.heap.size (fun _ => True) (.slice Au (Rm (M2T l0 l1)).length cu) (Rm (M2T l0 l1))) := ⟨Kd.V_below (by repeat (first | exact Quv16.out | apply Kd.V_alloc | apply Kd.V_drewN | apply Kd.V_drew)) hb⟩
                  clear Qu16 Quv16
                  clear HB16
                  have Qfv := Aside0.mk (Kd.R_V (base' := w.heap.size) (Kd.R_mono (ok' := fun _ => True) hr (fun _ _ => trivial)))
                  obtain ⟨Af, cf, rfl, hle, hC⟩ := Kd.R_reads hr
                  have Qf := Aside0.mk hC
                  have Qfc := Aside0.mk hle
                  clear hr hle hC hb
                  go_wp2_with fail
                  refine (sackbutref23_Merge.calls 4000 (fun _ => True) Au cu (Rm (M2T l0 l1)) (fun _ => True) Af cf (Rm l2) (Rm (M2T (M2T l0 l1) l2)) _ (by repeat (first | exact Quv17.out | apply Kd.V_alloc | apply Kd.V_drewN | apply Kd.V_drew)) (by repeat (first | exact Qfv.out | apply Kd.V_alloc | apply Kd.V_drewN | apply Kd.V_drew)) (merge_ref (M2T l0 l1) l2 (by have := LEN.out; have := m2_len l0 l1; omega))).mono ?_
                  rintro e W18 ⟨vx, rfl, hr, hb⟩
                  have HB18 : Aside0 (Below w.heap.size w W18) := ⟨below_then (by repeat (first | (with_reducible first | exact HB17.out | apply below_alloc | apply pw_below_drewN | apply below_drew1) | exact HB17.out)) (below_size (by repeat (first | (with_reducible first | exact HB17.out | apply below_alloc | apply pw_below_drewN | apply below_drew1) | exact HB17.out))) hb⟩
                  have L018 : Aside0 (Kd.C k45 W18 A0 l0.length l0) := ⟨Kd.C_below (by repeat (first | exact L017.out | apply Kd.C_alloc | apply Kd.C_drewN | apply Kd.C_drew)) hb⟩
                  clear L017
                  have L118 : Aside0 (Kd.C k45 W18 A1 l1.length l1) := ⟨Kd.C_below (by repeat (first | exact L117.out | apply Kd.C_alloc | apply Kd.C_drewN | apply Kd.C_drew)) hb⟩
                  clear L117
                  have L218 : Aside0 (Kd.C k45 W18 A2 l2.length l2) := ⟨Kd.C_below (by repeat (first | exact L217.out | apply Kd.C_alloc | apply Kd.C_drewN | apply Kd.C_drew)) hb⟩
                  clear L217
                  have Qn18 : Aside0 (Kd.C k45 W18 An (M2T (M2T l0 l1) l2).length (M2T (M2T l0 l1) l2)) := ⟨Kd.C_below (by repeat (first | exact Qn17.out | apply Kd.C_alloc | apply Kd.C_drewN | apply Kd.C_drew)) hb⟩
                  clear Qn17
                  have Qu18 : Aside0 (Kd.C k58 W18 Au (Rm (M2T l0 l1)).length (Rm (M2T l0 l1))) := ⟨Kd.C_below (by repeat (first | exact Qu17.out | apply Kd.C_alloc | apply Kd.C_drewN | apply Kd.C_drew)) hb⟩
                  have Quv18 : Aside0 (Kd.V k58 58 W18 w.heap.size (fun _ => True) (.slice Au (Rm (M2T l0 l1)).length cu) (Rm (M2T l0 l1))) := ⟨Kd.V_below (by repeat (first | exact Quv17.out | apply Kd.V_alloc | apply Kd.V_drewN | apply Kd.V_drew)) hb⟩
                  clear Qu17 Quv17
                  have Qf18 : Aside0 (Kd.C k58 W18 Af (Rm l2).length (Rm l2)) := ⟨Kd.C_below (by repeat (first | exact Qf.out | apply Kd.C_alloc | apply Kd.C_drewN | apply Kd.C_drew)) hb⟩
                  have Qfv18 : Aside0 (Kd.V k58 58 W18 w.heap.size (fun _ => True) (.slice Af (Rm l2).length cf) (Rm l2)) := ⟨Kd.V_below (by repeat (first | exact Qfv.out | apply Kd.V_alloc | apply Kd.V_drewN | apply Kd.V_drew)) hb⟩
                  clear Qf Qfv
                  clear HB17
                  have Qxv := Aside0.mk (Kd.R_V (base' := w.heap.size) (Kd.R_mono (ok' := fun _ => True) hr (fun _ _ => trivial)))
                  obtain ⟨Ax, cx, rfl, hle, hC⟩ := Kd.R_reads hr
                  have Qx := Aside0.mk hC
                  have Qxc := Aside0.mk hle
                  clear hr hle hC hb
                  go_wp2_with fail
                  refine (sackbutlaw23_same.calls 1001 An cn (M2T (M2T l0 l1) l2) Ax cx (Rm (M2T (M2T l0 l1) l2)) true _ (by repeat (first | exact Qn18.out | apply Kd.C_alloc | apply Kd.C_drewN | apply Kd.C_drew)) Qnc.out (by repeat (first | exact Qx.out | apply Kd.C_alloc | apply Kd.C_drewN | apply Kd.C_drew)) Qxc.out (same_val (M2T (M2T l0 l1) l2) (by have := LEN.out; omega))).mono ?_
                  rintro e W19 ⟨rfl, ⟨nd, rfl⟩⟩
                  go_wp2
                  go_ret
                  first | exact ⟨rfl, (by repeat (first | (with_reducible first | exact HB18.out | apply below_alloc | apply pw_below_drewN | apply below_drew1) | exact HB18.out))⟩ | exact ⟨by simp, (by repeat (first | (with_reducible first | exact HB18.out | apply below_alloc | apply pw_below_drewN | apply below_drew1) | exact HB18.out))⟩
end Hp
end Go.Proofs.Ythehkmpameeofaa.P
