/- score: ScoreMerges: what the document's functions come to. -/
import Derived.Test.YthehkmpameeofaaP0
import Derived.WalkSpells
import Derived.Deep.RegionWith
import Derived.RegionTactic
import Derived.ChangeAlike
import Derived.BigRegion
import Derived.Deep.RegionLaw
import Derived.Test.YthehkmpameeofaaPScoreVoicesLess
import Derived.Test.YthehkmpameeofaaPCmpOrInt
import Derived.Test.YthehkmpameeofaaPScoreGood
import Derived.Test.YthehkmpameeofaaPSackbutref23Merge
import Derived.Test.YthehkmpameeofaaPSackbutlaw23Few
import Derived.Test.YthehkmpameeofaaPSackbutlaw23Ref
import Derived.Test.YthehkmpameeofaaPSackbutlaw23Same
import Derived.Test.YthehkmpameeofaaPSackbutlaw23Awake
import Derived.Test.YthehkmpameeofaaPSackbutref23Good
import Derived.Test.YthehkmpameeofaaPSackbutref23Right
namespace Go.Proofs.Ythehkmpameeofaa.P
open Go.RowKit Go.Proofs.YthehkmpameeofaaW.PrintWords Go.Proofs.YthehkmpameeofaaW.PrintLast Go.Proofs.YthehkmpameeofaaW.PrintMore
set_option linter.unusedVariables false
set_option linter.unusedSimpArgs false
namespace Hp
variable {α : Type} [Inhabited α]
/-- An element of a list. -/
def el (xs : List α) (i : Nat) : α := xs.getD i default
def swapL (xs : List α) (i j : Nat) : List α := (xs.set i (el xs j)).set j (el xs i)
theorem swapL_length (xs : List α) (i j : Nat) : (swapL xs i j).length = xs.length := by simp [swapL]
theorem el_set (xs : List α) (i j : Nat) (v : α) : el (xs.set i v) j = if i = j ∧ i < xs.length then v else el xs j := by
  unfold el
  simp only [List.getD_eq_getElem?_getD, List.getElem?_set]
  by_cases h : i = j
  · subst h
    by_cases hl : i < xs.length
    · simp [hl]
    · simp [hl]
  · simp [h]
theorem el_swapL (xs : List α) (i j k : Nat) (hi : i < xs.length) (hj : j < xs.length) : el (swapL xs i j) k = if k = j then el xs i else if k = i then el xs j else el xs k := by
  unfold swapL
  rw [el_set, el_set, List.length_set]
  by_cases h1 : k = j
  · subst h1; simp [hj]
  · rw [if_neg (fun h => h1 h.1.symm), if_neg h1]
    by_cases h2 : k = i
    · subst h2; simp [hi]
    · rw [if_neg (fun h => h2 h.1.symm), if_neg h2]
theorem good_swap {Good : α → Prop} {xs : List α} {i j n : Nat} (hi : i < n) (hj : j < n) (hn : n ≤ xs.length) (h : ∀ k, k < n → Good (el xs k)) : ∀ k, k < n → Good (el (swapL xs i j) k) := by
  intro k hk
  rw [el_swapL _ _ _ _ (by omega) (by omega)]
  split
  · exact h i hi
  · split
    · exact h j hj
    · exact h k hk
def upL (less : α → α → Bool) (xs : List α) (j : Nat) : List α :=
  if h : j = 0 then xs else if less (el xs j) (el xs ((j - 1) / 2)) then upL less (swapL xs ((j - 1) / 2) j) ((j - 1) / 2) else xs
termination_by j
decreasing_by omega
def kid (less : α → α → Bool) (xs : List α) (i n : Nat) : Nat := if 2 * i + 2 < n ∧ less (el xs (2 * i + 2)) (el xs (2 * i + 1)) = true then 2 * i + 2 else 2 * i + 1
theorem kid_gt (less : α → α → Bool) (xs : List α) (i n : Nat) : i < kid less xs i n := by unfold kid; split <;> omega
theorem kid_lt (less : α → α → Bool) (xs : List α) (i n : Nat) (h : 2 * i + 1 < n) : kid less xs i n < n := by unfold kid; split <;> omega
def downL (less : α → α → Bool) (xs : List α) (i n : Nat) : List α × Nat :=
  if h : 2 * i + 1 < n then
    if less (el xs (kid less xs i n)) (el xs i) then downL less (swapL xs i (kid less xs i n)) (kid less xs i n) n else (xs, i)
  else (xs, i)
termination_by n - i
decreasing_by
  have := kid_gt less xs i n
  have := kid_lt less xs i n h
  omega

/-- A method of what stands behind the interface, of no argument beside the receiver: what its call comes to. -/
def Meth0 (T g : Nat) (nm : String) (w : World) (R : Ending → World → Prop) : Prop :=
  ∃ f v, Sem.run Try.prog (method 262 T (.pointer (some ⟨g, 0, none⟩)) nm) w = .ok (f, v) w ∧ Sem.run Try.prog (callFunc f #[v]) w = .ok (.enter f #[v]) w ∧ Calls Try.prog f #[v] w R
def Meth1 (T g : Nat) (nm : String) (x : Value) (w : World) (R : Ending → World → Prop) : Prop :=
  ∃ f v, Sem.run Try.prog (method 262 T (.pointer (some ⟨g, 0, none⟩)) nm) w = .ok (f, v) w ∧ Sem.run Try.prog (callFunc f #[v, x]) w = .ok (.enter f #[v, x]) w ∧ Calls Try.prog f #[v, x] w R
def Meth2 (T g : Nat) (nm : String) (x y : Value) (w : World) (R : Ending → World → Prop) : Prop :=
  ∃ f v, Sem.run Try.prog (method 262 T (.pointer (some ⟨g, 0, none⟩)) nm) w = .ok (f, v) w ∧ Sem.run Try.prog (callFunc f #[v, x, y]) w = .ok (.enter f #[v, x, y]) w ∧ Calls Try.prog f #[v, x, y] w R

structure HeapI (T g : Nat) (less : α → α → Bool) (Good : α → Prop) (Rep : World → List α → Prop) (Fr : World → World → Prop) : Prop where
  rfl_ : ∀ w, Fr w w
  tr : ∀ a b c, Fr a b → Fr b c → Fr a c
  small : ∀ w xs, Rep w xs → xs.length < 1000000000000
  len : ∀ w xs, Rep w xs → Meth0 T g "Len" w fun e w' => e = .returned (.int .i64 (xs.length : Int)) ∧ Rep w' xs ∧ Fr w w'
  less_ : ∀ w xs (i j : Int), Rep w xs → 0 ≤ i → i < xs.length → 0 ≤ j → j < xs.length → Good (el xs i.toNat) → Good (el xs j.toNat) → Meth2 T g "Less" (.int .i64 i) (.int .i64 j) w fun e w' => e = .returned (.bool (less (el xs i.toNat) (el xs j.toNat))) ∧ Rep w' xs ∧ Fr w w'
  swap_ : ∀ w xs (i j : Int), Rep w xs → 0 ≤ i → i < xs.length → 0 ≤ j → j < xs.length → Meth2 T g "Swap" (.int .i64 i) (.int .i64 j) w fun e w' => e = .returned (.tuple #[]) ∧ Rep w' (swapL xs i.toNat j.toNat) ∧ Fr w w'

variable {T g : Nat} {less : α → α → Bool} {Good : α → Prop} {Rep : World → List α → Prop} {Fr : World → World → Prop}
theorem upL_no (xs : List α) (j : Nat) (h0 : ¬ j = 0) (h : less (el xs j) (el xs ((j - 1) / 2)) = false) : upL less xs j = xs := by
  rw [upL, dif_neg h0, if_neg (by simp [h])]
theorem upL_yes (xs : List α) (j : Nat) (h0 : ¬ j = 0) (h : less (el xs j) (el xs ((j - 1) / 2)) = true) : upL less xs j = upL less (swapL xs ((j - 1) / 2) j) ((j - 1) / 2) := by
  rw [upL, dif_neg h0, if_pos h]
theorem upL_zero (xs : List α) : upL less xs 0 = xs := by rw [upL, dif_pos rfl]

set_option maxHeartbeats 8000000 in
set_option maxRecDepth 100000 in
theorem up_calls (hI : HeapI T g less Good Rep Fr) (j0 : Int) (xs0 : List α) (w : World) (hR : Rep w xs0) (h0 : 0 ≤ j0) (h1 : j0 < xs0.length) (hgd : ∀ k, k < xs0.length → Good (el xs0 k)) :
    Calls Try.prog 53 #[.iface T (.pointer (some ⟨g, 0, none⟩)), .int .i64 j0] w fun e w' => e = .returned (.tuple #[]) ∧ Rep w' (upL less xs0 j0.toNat) ∧ Fr w w' := by
  have HI := Aside0.mk hI
  have HR := Aside0.mk hR
  have HS := Aside0.mk (hI.small w xs0 hR)
  have HL := Aside0.mk h1
  have HD := Aside0.mk hgd
  clear hI hR h1 hgd
  have HF := Aside0.mk (HI.out.rfl_ w)
  go_enter Try.func53, Try.ntmps53
  go_wp2
  go_loopg [1] (j0.toNat) (fun gk v1 wr => ∃ (j : Int) (xs : List α), v1 = .int .i64 j ∧ 0 ≤ j ∧ j < 1000000000000 ∧ Aside0 (gk = j.toNat) ∧ Aside0 (j < xs.length) ∧ Aside0 (Rep wr xs) ∧ Aside0 (Fr w wr) ∧ Aside0 (upL less xs j.toNat = upL less xs0 j0.toNat) ∧ Aside0 (∀ k, k < xs.length → Good (el xs k)))
  case atStart => exact ⟨j0, xs0, rfl, h0, by have := HS.out; have := HL.out; omega, ⟨rfl⟩, HL, HR, HF, ⟨rfl⟩, HD⟩
  case round =>
    clear HR HF HL HD
    obtain ⟨j, xs, rfl, hj0, hj1, HG, HL, HR, HF, HU, HD⟩ := hrel
    by_cases hz : j = 0
    · subst hz
      go_wp2
      go_end0
      refine ⟨rfl, ?_, HF.out⟩
      rw [← HU.out]
      show Rep wr (upL less xs 0)
      rw [upL_zero]
      exact HR.out
    · have hne : ((j - 1) / 2 == j) = false := beq_eq_false_iff_ne.mpr (by omega)
      have hp : 0 < j := by omega
      obtain ⟨f, v, hm, hcf, hc⟩ := HI.out.less_ wr xs j ((j - 1) / 2) HR.out hj0 HL.out (by omega) (by have := HL.out; omega) (HD.out _ (by have := HL.out; omega)) (HD.out _ (by have := HL.out; omega))
      have HC := Aside0.mk hc
      clear hc hz
      go_wp2_with fail
      refine HC.out.mono ?_
      rintro e w1 ⟨rfl, hr1, hf1⟩
      have HR1 := Aside0.mk hr1
      have HF1 := Aside0.mk (HI.out.tr _ _ _ HF.out hf1)
      clear hr1 hf1 hm hcf HC HR HF
      have ei : ((j - 1) / 2).toNat = (j.toNat - 1) / 2 := by omega
      have en : ¬ j.toNat = 0 := by omega
      cases hl : less (el xs j.toNat) (el xs ((j - 1) / 2).toNat) with
      | false =>
        have hu := upL_no (less := less) xs j.toNat en (by rw [← ei]; exact hl)
        have HU1 := Aside0.mk (hu.symm.trans HU.out)
        clear hu hl ei en
        go_wp2
        go_end0
        refine ⟨rfl, ?_, HF1.out⟩
        rw [← HU1.out]
        exact HR1.out
      | true =>
        have hu := upL_yes (less := less) xs j.toNat en (by rw [← ei]; exact hl)
        rw [← ei] at hu
        have HU1 := Aside0.mk (hu.symm.trans HU.out)
        clear hu hl ei en
        obtain ⟨f2, v2, hm2, hcf2, hc2⟩ := HI.out.swap_ w1 xs ((j - 1) / 2) j HR1.out (by omega) (by have := HL.out; omega) hj0 HL.out
        have HC2 := Aside0.mk hc2
        clear hc2
        go_wp2_with fail
        refine HC2.out.mono ?_
        rintro e w2 ⟨rfl, hr2, hf2⟩
        have HR2 := Aside0.mk hr2
        have HF2 := Aside0.mk (HI.out.tr _ _ _ HF1.out hf2)
        clear hr2 hf2 hm2 hcf2 HC2 HR1 HF1
        go_wp2
        go_roundg (((j - 1) / 2).toNat)
        case measure => have := HG.out; omega
        case rel => exact ⟨(j - 1) / 2, _, rfl, by omega, by omega, ⟨rfl⟩, ⟨by rw [swapL_length]; have := HL.out; omega⟩, HR2, HF2, HU1, ⟨by rw [swapL_length]; exact good_swap (by have := HL.out; omega) (by have := HL.out; omega) (Nat.le_refl _) HD.out⟩⟩

theorem ret_bool {a b : Bool} (h : a = b) : Ending.returned (.bool a) = .returned (.bool b) := by rw [h]
theorem downL_end (xs : List α) (i n : Nat) (h : ¬ 2 * i + 1 < n) : downL less xs i n = (xs, i) := by rw [downL, dif_neg h]
theorem downL_no (xs : List α) (i n : Nat) (h : 2 * i + 1 < n) (hl : less (el xs (kid less xs i n)) (el xs i) = false) : downL less xs i n = (xs, i) := by
  rw [downL, dif_pos h, if_neg (by simp [hl])]
theorem downL_yes (xs : List α) (i n : Nat) (h : 2 * i + 1 < n) (hl : less (el xs (kid less xs i n)) (el xs i) = true) : downL less xs i n = downL less (swapL xs i (kid less xs i n)) (kid less xs i n) n := by
  rw [downL, dif_pos h, if_pos hl]
theorem kid_two (xs : List α) (i n : Nat) (h : 2 * i + 2 < n) (hl : less (el xs (2 * i + 2)) (el xs (2 * i + 1)) = true) : kid less xs i n = 2 * i + 2 := by unfold kid; rw [if_pos ⟨h, hl⟩]
theorem kid_one (xs : List α) (i n : Nat) (h : 2 * i + 2 < n → less (el xs (2 * i + 2)) (el xs (2 * i + 1)) = false) : kid less xs i n = 2 * i + 1 := by
  unfold kid; rw [if_neg]; rintro ⟨h1, h2⟩; rw [h h1] at h2; cases h2
theorem downL_len (xs : List α) (i n : Nat) : (downL less xs i n).1.length = xs.length := by
  induction xs, i using downL.induct less n with
  | case1 xs i h hl ih => rw [downL_yes xs i n h hl, ih, swapL_length]
  | case2 xs i h hl => rw [downL_no xs i n h (by simpa using hl)]
  | case3 xs i h => rw [downL_end xs i n h]
theorem upL_len (xs : List α) (j : Nat) : (upL less xs j).length = xs.length := by
  induction xs, j using upL.induct less with
  | case1 xs => rw [upL_zero]
  | case2 xs j h hl ih => rw [upL_yes xs j h hl, ih, swapL_length]
  | case3 xs j h hl => rw [upL_no xs j h (by simpa using hl)]

set_option maxHeartbeats 8000000 in
set_option maxRecDepth 100000 in
theorem down_calls (hI : HeapI T g less Good Rep Fr) (i0 n : Int) (xs0 : List α) (w : World) (hR : Rep w xs0) (h0 : 0 ≤ i0) (hi : i0 < 1000000000000) (hn0 : 0 ≤ n) (hn : n ≤ xs0.length) (hgd : ∀ k, k < n.toNat → Good (el xs0 k)) :
    Calls Try.prog 54 #[.iface T (.pointer (some ⟨g, 0, none⟩)), .int .i64 i0, .int .i64 n] w fun e w' => e = .returned (.bool (decide (i0.toNat < (downL less xs0 i0.toNat n.toNat).2))) ∧ Rep w' (downL less xs0 i0.toNat n.toNat).1 ∧ Fr w w' := by
  have HI := Aside0.mk hI
  have HR := Aside0.mk hR
  have HS := Aside0.mk (hI.small w xs0 hR)
  have hnb : n < 1000000000000 := by have := HS.out; omega
  have HN := Aside0.mk hn
  have HGD := Aside0.mk hgd
  clear hI hR hn hgd
  have HF := Aside0.mk (HI.out.rfl_ w)
  go_enter Try.func54, Try.ntmps54
  go_wp2
  go_loopg [7] (n.toNat - i0.toNat) (fun gk v7 wr => ∃ (i : Int) (xs : List α), v7 = .int .i64 i ∧ 0 ≤ i ∧ i < 1000000000000 ∧ Aside0 (gk = n.toNat - i.toNat) ∧ Aside0 (n ≤ xs.length) ∧ Aside0 (Rep wr xs) ∧ Aside0 (Fr w wr) ∧ Aside0 (downL less xs i.toNat n.toNat = downL less xs0 i0.toNat n.toNat) ∧ Aside0 (∀ k, k < n.toNat → Good (el xs k)))
  case atStart => exact ⟨i0, xs0, rfl, h0, hi, ⟨rfl⟩, HN, HR, HF, ⟨rfl⟩, HGD⟩
  case round =>
    clear HR HF HN HGD
    obtain ⟨i, xs, rfl, hi0, hi1, HG, HN, HR, HF, HU, HGD⟩ := hrel
    by_cases hlt : 2 * i + 1 < n
    · have hb1 : decide (n ≤ 2 * i + 1) = false := decide_eq_false (by omega)
      have hb2 : decide (2 * i + 1 < 0) = false := decide_eq_false (by omega)
      have hnat : 2 * i.toNat + 1 < n.toNat := by omega
      have e1 : (2 * i + 1).toNat = 2 * i.toNat + 1 := by omega
      have e2 : (2 * i + 1 + 1).toNat = 2 * i.toNat + 2 := by omega
      by_cases h2 : 2 * i + 2 < n
      · have hb3 : decide (2 * i + 1 + 1 < n) = true := decide_eq_true (by omega)
        obtain ⟨f, v, hm, hcf, hc⟩ := HI.out.less_ wr xs (2 * i + 1 + 1) (2 * i + 1) HR.out (by omega) (by have := HN.out; omega) (by omega) (by have := HN.out; omega) (HGD.out _ (by omega)) (HGD.out _ (by omega))
        have HC := Aside0.mk hc
        clear hc
        go_wp2_with fail
        refine HC.out.mono ?_
        rintro e w1 ⟨rfl, hr1, hf1⟩
        have HR1 := Aside0.mk hr1
        have HF1 := Aside0.mk (HI.out.tr _ _ _ HF.out hf1)
        clear hr1 hf1 hm hcf HC HR HF
        cases hl2 : less (el xs (2 * i + 1 + 1).toNat) (el xs (2 * i + 1).toNat) with
        | false =>
          have HK := Aside0.mk ((kid_one (less := less) xs i.toNat n.toNat (by intro _; rw [← e1, ← e2]; exact hl2)).trans e1.symm)
          clear hl2 e1 e2
          obtain ⟨f3, v3, hm3, hcf3, hc3⟩ := HI.out.less_ w1 xs (2 * i + 1) i HR1.out (by omega) (by have := HN.out; omega) hi0 (by have := HN.out; omega) (HGD.out _ (by omega)) (HGD.out _ (by omega))
          have HC3 := Aside0.mk hc3
          clear hc3
          go_wp2_with fail
          refine HC3.out.mono ?_
          rintro e w3 ⟨rfl, hr3, hf3⟩
          have HR3 := Aside0.mk hr3
          have HF3 := Aside0.mk (HI.out.tr _ _ _ HF1.out hf3)
          clear hr3 hf3 hm3 hcf3 HC3 HR1 HF1
          cases hl : less (el xs (2 * i + 1).toNat) (el xs i.toNat) with
          | false =>
            have hd := downL_no (less := less) xs i.toNat n.toNat hnat (by rw [HK.out]; exact hl)
            have HD := Aside0.mk (HU.out.symm.trans hd)
            clear hd hl
            go_wp2
            go_ret
            refine ⟨?_, ?_, HF3.out⟩
            · rw [HD.out]
              exact ret_bool (decide_eq_decide.mpr (by simp only; omega))
            · rw [HD.out]
              exact HR3.out
          | true =>
            have hd := downL_yes (less := less) xs i.toNat n.toNat hnat (by rw [HK.out]; exact hl)
            rw [HK.out] at hd
            have HD := Aside0.mk (hd.symm.trans HU.out)
            clear hd hl
            obtain ⟨f4, v4, hm4, hcf4, hc4⟩ := HI.out.swap_ w3 xs i (2 * i + 1) HR3.out hi0 (by have := HN.out; omega) (by omega) (by have := HN.out; omega)
            have HC4 := Aside0.mk hc4
            clear hc4
            go_wp2_with fail
            refine HC4.out.mono ?_
            rintro e w4 ⟨rfl, hr4, hf4⟩
            have HR4 := Aside0.mk hr4
            have HF4 := Aside0.mk (HI.out.tr _ _ _ HF3.out hf4)
            clear hr4 hf4 hm4 hcf4 HC4 HR3 HF3
            go_wp2
            go_roundg (n.toNat - (2 * i + 1).toNat)
            case measure => have := HG.out; omega
            case rel => exact ⟨2 * i + 1, _, rfl, by omega, by omega, ⟨rfl⟩, ⟨by rw [swapL_length]; exact HN.out⟩, HR4, HF4, HD, ⟨good_swap (by omega) (by omega) (by have := HN.out; omega) HGD.out⟩⟩
        | true =>
          have HK := Aside0.mk ((kid_two (less := less) xs i.toNat n.toNat (by omega) (by rw [← e1, ← e2]; exact hl2)).trans e2.symm)
          clear hl2 e1 e2
          obtain ⟨f3, v3, hm3, hcf3, hc3⟩ := HI.out.less_ w1 xs (2 * i + 1 + 1) i HR1.out (by omega) (by have := HN.out; omega) hi0 (by have := HN.out; omega) (HGD.out _ (by omega)) (HGD.out _ (by omega))
          have HC3 := Aside0.mk hc3
          clear hc3
          go_wp2_with fail
          refine HC3.out.mono ?_
          rintro e w3 ⟨rfl, hr3, hf3⟩
          have HR3 := Aside0.mk hr3
          have HF3 := Aside0.mk (HI.out.tr _ _ _ HF1.out hf3)
          clear hr3 hf3 hm3 hcf3 HC3 HR1 HF1
          cases hl : less (el xs (2 * i + 1 + 1).toNat) (el xs i.toNat) with
          | false =>
            have hd := downL_no (less := less) xs i.toNat n.toNat hnat (by rw [HK.out]; exact hl)
            have HD := Aside0.mk (HU.out.symm.trans hd)
            clear hd hl
            go_wp2
            go_ret
            refine ⟨?_, ?_, HF3.out⟩
            · rw [HD.out]
              exact ret_bool (decide_eq_decide.mpr (by simp only; omega))
            · rw [HD.out]
              exact HR3.out
          | true =>
            have hd := downL_yes (less := less) xs i.toNat n.toNat hnat (by rw [HK.out]; exact hl)
            rw [HK.out] at hd
            have HD := Aside0.mk (hd.symm.trans HU.out)
            clear hd hl
            obtain ⟨f4, v4, hm4, hcf4, hc4⟩ := HI.out.swap_ w3 xs i (2 * i + 1 + 1) HR3.out hi0 (by have := HN.out; omega) (by omega) (by have := HN.out; omega)
            have HC4 := Aside0.mk hc4
            clear hc4
            go_wp2_with fail
            refine HC4.out.mono ?_
            rintro e w4 ⟨rfl, hr4, hf4⟩
            have HR4 := Aside0.mk hr4
            have HF4 := Aside0.mk (HI.out.tr _ _ _ HF3.out hf4)
            clear hr4 hf4 hm4 hcf4 HC4 HR3 HF3
            go_wp2
            go_roundg (n.toNat - (2 * i + 1 + 1).toNat)
            case measure => have := HG.out; omega
            case rel => exact ⟨2 * i + 1 + 1, _, rfl, by omega, by omega, ⟨rfl⟩, ⟨by rw [swapL_length]; exact HN.out⟩, HR4, HF4, HD, ⟨good_swap (by omega) (by omega) (by have := HN.out; omega) HGD.out⟩⟩
      · have hb3 : decide (2 * i + 1 + 1 < n) = false := decide_eq_false (by omega)
        have HK := Aside0.mk ((kid_one (less := less) xs i.toNat n.toNat (by intro h; omega)).trans e1.symm)
        clear e1 e2
        obtain ⟨f3, v3, hm3, hcf3, hc3⟩ := HI.out.less_ wr xs (2 * i + 1) i HR.out (by omega) (by have := HN.out; omega) hi0 (by have := HN.out; omega) (HGD.out _ (by omega)) (HGD.out _ (by omega))
        have HC3 := Aside0.mk hc3
        clear hc3
        go_wp2_with fail
        refine HC3.out.mono ?_
        rintro e w3 ⟨rfl, hr3, hf3⟩
        have HR3 := Aside0.mk hr3
        have HF3 := Aside0.mk (HI.out.tr _ _ _ HF.out hf3)
        clear hr3 hf3 hm3 hcf3 HC3 HR HF
        cases hl : less (el xs (2 * i + 1).toNat) (el xs i.toNat) with
        | false =>
          have hd := downL_no (less := less) xs i.toNat n.toNat hnat (by rw [HK.out]; exact hl)
          have HD := Aside0.mk (HU.out.symm.trans hd)
          clear hd hl
          go_wp2
          go_ret
          refine ⟨?_, ?_, HF3.out⟩
          · rw [HD.out]
            exact ret_bool (decide_eq_decide.mpr (by simp only; omega))
          · rw [HD.out]
            exact HR3.out
        | true =>
          have hd := downL_yes (less := less) xs i.toNat n.toNat hnat (by rw [HK.out]; exact hl)
          rw [HK.out] at hd
          have HD := Aside0.mk (hd.symm.trans HU.out)
          clear hd hl
          obtain ⟨f4, v4, hm4, hcf4, hc4⟩ := HI.out.swap_ w3 xs i (2 * i + 1) HR3.out hi0 (by have := HN.out; omega) (by omega) (by have := HN.out; omega)
          have HC4 := Aside0.mk hc4
          clear hc4
          go_wp2_with fail
          refine HC4.out.mono ?_
          rintro e w4 ⟨rfl, hr4, hf4⟩
          have HR4 := Aside0.mk hr4
          have HF4 := Aside0.mk (HI.out.tr _ _ _ HF3.out hf4)
          clear hr4 hf4 hm4 hcf4 HC4 HR3 HF3
          go_wp2
          go_roundg (n.toNat - (2 * i + 1).toNat)
          case measure => have := HG.out; omega
          case rel => exact ⟨2 * i + 1, _, rfl, by omega, by omega, ⟨rfl⟩, ⟨by rw [swapL_length]; exact HN.out⟩, HR4, HF4, HD, ⟨good_swap (by omega) (by omega) (by have := HN.out; omega) HGD.out⟩⟩
    · have hb1 : decide (n ≤ 2 * i + 1) = true := decide_eq_true (by omega)
      have hd := downL_end (less := less) xs i.toNat n.toNat (by omega)
      have HD := Aside0.mk (HU.out.symm.trans hd)
      clear hd
      go_wp2
      go_ret
      refine ⟨?_, ?_, HF.out⟩
      · rw [HD.out]
        exact ret_bool (decide_eq_decide.mpr (by simp only; omega))
      · rw [HD.out]
        exact HR.out
end Hp
end Go.Proofs.Ythehkmpameeofaa.P

namespace Go.Proofs.Ythehkmpameeofaa.P
open Go.RowKit Go.Proofs.YthehkmpameeofaaW.PrintWords Go.Proofs.YthehkmpameeofaaW.PrintLast Go.Proofs.YthehkmpameeofaaW.PrintMore
set_option linter.unusedVariables false
set_option linter.unusedSimpArgs false
namespace Hp
variable {α : Type} [Inhabited α] {T g : Nat} {less : α → α → Bool} {Good : α → Prop} {Rep : World → List α → Prop} {Fr : World → World → Prop}
theorem downL_above (xs : List α) (i n k : Nat) (hi : i < n) (hk : n ≤ k) (hn : n ≤ xs.length) : el (downL less xs i n).1 k = el xs k := by
  induction xs, i using downL.induct less n with
  | case1 xs i h hl ih =>
    have h1 := kid_lt less xs i n h
    have h2 := kid_gt less xs i n
    rw [downL_yes xs i n h hl, ih h1 (by rw [swapL_length]; exact hn), el_swapL _ _ _ _ (by omega) (by omega), if_neg (by omega), if_neg (by omega)]
  | case2 xs i h hl => rw [downL_no xs i n h (by simpa using hl)]
  | case3 xs i h => rw [downL_end xs i n h]
theorem downL_good (xs : List α) (i n : Nat) (hn : n ≤ xs.length) (h : ∀ k, k < xs.length → Good (el xs k)) : ∀ k, k < xs.length → Good (el (downL less xs i n).1 k) := by
  induction xs, i using downL.induct less n with
  | case1 xs i hlt hl ih =>
    have h1 := kid_lt less xs i n hlt
    rw [downL_yes xs i n hlt hl]
    have := ih (by rw [swapL_length]; exact hn) (by rw [swapL_length]; exact good_swap (by omega) (by omega) (Nat.le_refl _) h)
    rwa [swapL_length] at this
  | case2 xs i hlt hl => rw [downL_no xs i n hlt (by simpa using hl)]; exact h
  | case3 xs i hlt => rw [downL_end xs i n hlt]; exact h
def popL (less : α → α → Bool) (xs : List α) : List α := (downL less (swapL xs 0 (xs.length - 1)) 0 (xs.length - 1)).1.dropLast
theorem pop_last (xs : List α) (h : 0 < xs.length) : el (downL less (swapL xs 0 (xs.length - 1)) 0 (xs.length - 1)).1 (xs.length - 1) = el xs 0 := by
  by_cases h1 : xs.length - 1 = 0
  · rw [h1, downL_end _ _ _ (by omega), el_swapL _ _ _ _ h h, if_pos rfl]
  · rw [downL_above _ _ _ _ (by omega) (Nat.le_refl _) (by rw [swapL_length]; omega), el_swapL _ _ _ _ h (by omega), if_pos rfl]
def fixL (less : α → α → Bool) (xs : List α) (i : Nat) : List α :=
  if i < (downL less xs i xs.length).2 then (downL less xs i xs.length).1 else upL less (downL less xs i xs.length).1 i
/-- down at each place from m - 1 down to 0. -/
def initL (less : α → α → Bool) : Nat → List α → List α
  | 0, xs => xs
  | m + 1, xs => initL less m (downL less xs m xs.length).1
theorem initL_len : ∀ (m : Nat) (xs : List α), (initL less m xs).length = xs.length
  | 0, xs => rfl
  | m + 1, xs => by rw [initL, initL_len m, downL_len]

set_option maxHeartbeats 8000000 in
set_option maxRecDepth 100000 in
theorem Push_calls (hI : HeapI T g less Good Rep Fr) (x : Value) (a : α) (xs : List α) (w : World) (hgd : ∀ k, k < (xs ++ [a]).length → Good (el (xs ++ [a]) k))
    (hp : Meth1 T g "Push" x w fun e w' => e = .returned (.tuple #[]) ∧ Rep w' (xs ++ [a]) ∧ Fr w w') :
    Calls Try.prog 26 #[.iface T (.pointer (some ⟨g, 0, none⟩)), x] w fun e w' => e = .returned (.tuple #[]) ∧ Rep w' (upL less (xs ++ [a]) xs.length) ∧ Fr w w' := by
  have HI := Aside0.mk hI
  have HGD := Aside0.mk hgd
  clear hI hgd
  obtain ⟨f, v, hm, hcf, hc⟩ := hp
  have HC := Aside0.mk hc
  clear hc
  go_enter Try.func26, Try.ntmps26
  go_wp2_with fail
  refine HC.out.mono ?_
  rintro e w1 ⟨rfl, hr1, hf1⟩
  have HR1 := Aside0.mk hr1
  have HF1 := Aside0.mk hf1
  clear hr1 hf1 hm hcf HC
  obtain ⟨f2, v2, hm2, hcf2, hc2⟩ := HI.out.len w1 _ HR1.out
  have HC2 := Aside0.mk hc2
  have hlen : ((xs ++ [a]).length : Int) < 1000000000000 := by have := HI.out.small w1 _ HR1.out; omega
  clear hc2
  have hle : (0 : Int) < ((xs ++ [a]).length : Int) := by simp
  obtain ⟨L, hL⟩ : ∃ L : Int, L = ((xs ++ [a]).length : Int) := ⟨_, rfl⟩
  rw [← hL] at hlen hle HC2
  have HL := Aside0.mk hL
  clear hL
  go_wp2_with fail
  refine HC2.out.mono ?_
  rintro e w2 ⟨rfl, hr2, hf2⟩
  have HR2 := Aside0.mk hr2
  have HF2 := Aside0.mk (HI.out.tr _ _ _ HF1.out hf2)
  clear hr2 hf2 hm2 hcf2 HC2 HR1 HF1
  go_wp2_with fail
  refine (up_calls HI.out (L - 1) _ w2 HR2.out (by omega) (by have := HL.out; omega) HGD.out).mono ?_
  rintro e w3 ⟨rfl, hr3, hf3⟩
  have HR3 := Aside0.mk hr3
  have HF3 := Aside0.mk (HI.out.tr _ _ _ HF2.out hf3)
  clear hr3 hf3
  go_wp2
  go_end0
  refine ⟨rfl, ?_, HF3.out⟩
  have := HR3.out
  rwa [show (L - 1).toNat = xs.length by have := HL.out; simp at this; omega] at this

set_option maxHeartbeats 8000000 in
set_option maxRecDepth 100000 in
theorem Pop_calls (hI : HeapI T g less Good Rep Fr) (xs : List α) (w : World) (hR : Rep w xs) (hne : 0 < xs.length) (hgd : ∀ k, 0 < k → k < xs.length → Good (el xs k)) (RV : Value → α → World → Prop)
    (hp : ∀ w1 ys, Rep w1 ys → 0 < ys.length → Meth0 T g "Pop" w1 fun e w' => ∃ v, e = .returned v ∧ RV v (el ys (ys.length - 1)) w' ∧ Rep w' ys.dropLast ∧ Fr w1 w') :
    Calls Try.prog 27 #[.iface T (.pointer (some ⟨g, 0, none⟩))] w fun e w' => ∃ v, e = .returned v ∧ RV v (el xs 0) w' ∧ Rep w' (popL less xs) ∧ Fr w w' := by
  have HI := Aside0.mk hI
  have HP := Aside0.mk hp
  have HGD := Aside0.mk hgd
  clear hp hgd
  obtain ⟨f, v, hm, hcf, hc⟩ := HI.out.len w _ hR
  have HC := Aside0.mk hc
  have hlen : (xs.length : Int) < 1000000000000 := by have := HI.out.small w _ hR; omega
  have hle : (0 : Int) < (xs.length : Int) := by omega
  clear hc hI hR
  obtain ⟨L, hL⟩ : ∃ L : Int, L = (xs.length : Int) := ⟨_, rfl⟩
  rw [← hL] at hlen hle HC
  have HL := Aside0.mk hL
  clear hL hne
  go_enter Try.func27, Try.ntmps27
  go_wp2_with fail
  refine HC.out.mono ?_
  rintro e w1 ⟨rfl, hr1, hf1⟩
  have HR1 := Aside0.mk hr1
  have HF1 := Aside0.mk hf1
  clear hr1 hf1 hm hcf HC
  obtain ⟨f2, v2, hm2, hcf2, hc2⟩ := HI.out.swap_ w1 xs 0 (L - 1) HR1.out (by omega) (by have := HL.out; omega) (by omega) (by have := HL.out; omega)
  have HC2 := Aside0.mk hc2
  clear hc2
  go_wp2_with fail
  refine HC2.out.mono ?_
  rintro e w2 ⟨rfl, hr2, hf2⟩
  have eN : (L - 1).toNat = xs.length - 1 := by have := HL.out; omega
  rw [eN] at hr2
  have HR2 := Aside0.mk hr2
  have HF2 := Aside0.mk (HI.out.tr _ _ _ HF1.out hf2)
  clear hr2 hf2 hm2 hcf2 HC2 HR1 HF1
  have hd := down_calls HI.out 0 (L - 1) _ w2 HR2.out (by omega) (by omega) (by omega) (by rw [swapL_length]; have := HL.out; omega) (by
    intro k hk
    rw [el_swapL _ _ _ _ (by have := HL.out; omega) (by have := HL.out; omega), if_neg (by omega)]
    split
    · exact HGD.out _ (by omega) (by have := HL.out; omega)
    · exact HGD.out _ (by omega) (by have := HL.out; omega))
  rw [eN] at hd
  have HD := Aside0.mk hd
  clear hd eN
  go_wp2_with fail
  refine HD.out.mono ?_
  rintro e w3 ⟨rfl, hr3, hf3⟩
  have hl3 : (downL less (swapL xs 0 (xs.length - 1)) 0 (xs.length - 1)).1.length = xs.length := by rw [downL_len, swapL_length]
  have hx0 : 0 < xs.length := by have := HL.out; omega
  obtain ⟨f4, v4, hm4, hcf4, hc4⟩ := HP.out w3 _ hr3 (by show 0 < (downL less (swapL xs 0 (xs.length - 1)) 0 (xs.length - 1)).1.length; rw [hl3]; exact hx0)
  have HC4 := Aside0.mk hc4
  have HF3 := Aside0.mk (HI.out.tr _ _ _ HF2.out hf3)
  have HX := Aside0.mk (And.intro hl3 hx0)
  clear hr3 hf3 hc4 hl3 hx0
  go_wp2_with fail
  refine HC4.out.mono ?_
  rintro e w4 ⟨vr, rfl, hv, hr4, hf4⟩
  have HV := Aside0.mk hv
  have HR4 := Aside0.mk hr4
  have HF4 := Aside0.mk (HI.out.tr _ _ _ HF3.out hf4)
  clear hv hr4 hf4 hm4 hcf4 HC4
  go_wp2
  go_ret
  refine ⟨vr, rfl, ?_, HR4.out, HF4.out⟩
  have h1 : RV vr (el (downL less (swapL xs 0 (xs.length - 1)) 0 (xs.length - 1)).1 ((downL less (swapL xs 0 (xs.length - 1)) 0 (xs.length - 1)).1.length - 1)) w4 := HV.out
  rw [HX.out.1] at h1
  rw [← pop_last (less := less) xs HX.out.2]
  exact h1

set_option maxHeartbeats 8000000 in
set_option maxRecDepth 100000 in
theorem Fix_calls (hI : HeapI T g less Good Rep Fr) (i0 : Int) (xs : List α) (w : World) (hR : Rep w xs) (h0 : 0 ≤ i0) (h1 : i0 < xs.length) (hgd : ∀ k, k < xs.length → Good (el xs k)) :
    Calls Try.prog 28 #[.iface T (.pointer (some ⟨g, 0, none⟩)), .int .i64 i0] w fun e w' => e = .returned (.tuple #[]) ∧ Rep w' (fixL less xs i0.toNat) ∧ Fr w w' := by
  have HI := Aside0.mk hI
  obtain ⟨f, v, hm, hcf, hc⟩ := HI.out.len w _ hR
  have HC := Aside0.mk hc
  have hlen : (xs.length : Int) < 1000000000000 := by have := HI.out.small w _ hR; omega
  have HGD := Aside0.mk hgd
  clear hc hI hR hgd
  obtain ⟨L, hL⟩ : ∃ L : Int, L = (xs.length : Int) := ⟨_, rfl⟩
  rw [← hL] at hlen HC h1
  have HL := Aside0.mk hL
  clear hL
  go_enter Try.func28, Try.ntmps28
  go_wp2_with fail
  refine HC.out.mono ?_
  rintro e w1 ⟨rfl, hr1, hf1⟩
  have HR1 := Aside0.mk hr1
  have HF1 := Aside0.mk hf1
  clear hr1 hf1 hm hcf HC
  have hd := down_calls HI.out i0 L _ w1 HR1.out (by omega) (by omega) (by omega) (by have := HL.out; omega) (by intro k hk; exact HGD.out k (by have := HL.out; omega))
  rw [show L.toNat = xs.length by have := HL.out; omega] at hd
  have HD := Aside0.mk hd
  clear hd
  go_wp2_with fail
  refine HD.out.mono ?_
  rintro e w3 ⟨rfl, hr3, hf3⟩
  have HR3 := Aside0.mk hr3
  have HF3 := Aside0.mk (HI.out.tr _ _ _ HF1.out hf3)
  clear hr3 hf3 HR1 HF1 HD
  by_cases hb : i0.toNat < (downL less xs i0.toNat xs.length).2
  · have hbb : decide (i0.toNat < (downL less xs i0.toNat xs.length).2) = true := decide_eq_true hb
    have HE := Aside0.mk (show fixL less xs i0.toNat = _ from if_pos hb)
    rw [hbb]
    clear hb hbb
    go_wp2
    go_end0
    refine ⟨rfl, ?_, HF3.out⟩
    rw [HE.out]
    exact HR3.out
  · have hbb : decide (i0.toNat < (downL less xs i0.toNat xs.length).2) = false := decide_eq_false hb
    have HE := Aside0.mk (show fixL less xs i0.toNat = _ from if_neg hb)
    rw [hbb]
    clear hb hbb
    go_wp2_with fail
    refine (up_calls HI.out i0 _ w3 HR3.out (by omega) (by rw [downL_len]; have := HL.out; omega) (by rw [downL_len]; exact downL_good _ _ _ (Nat.le_refl _) HGD.out)).mono ?_
    rintro e w4 ⟨rfl, hr4, hf4⟩
    have HR4 := Aside0.mk hr4
    have HF4 := Aside0.mk (HI.out.tr _ _ _ HF3.out hf4)
    clear hr4 hf4
    go_wp2
    go_end0
    refine ⟨rfl, ?_, HF4.out⟩
    rw [HE.out]
    exact HR4.out

set_option maxHeartbeats 8000000 in
set_option maxRecDepth 100000 in
theorem Init_calls (hI : HeapI T g less Good Rep Fr) (xs0 : List α) (w : World) (hR : Rep w xs0) (hgd : ∀ k, k < xs0.length → Good (el xs0 k)) :
    Calls Try.prog 34 #[.iface T (.pointer (some ⟨g, 0, none⟩))] w fun e w' => e = .returned (.tuple #[]) ∧ Rep w' (initL less (xs0.length / 2) xs0) ∧ Fr w w' := by
  have HI := Aside0.mk hI
  obtain ⟨f, v, hm, hcf, hc⟩ := HI.out.len w _ hR
  have HC := Aside0.mk hc
  have hlen : (xs0.length : Int) < 1000000000000 := by have := HI.out.small w _ hR; omega
  have hle : (0 : Int) ≤ (xs0.length : Int) := by omega
  have HGD := Aside0.mk hgd
  clear hc hI hR hgd
  obtain ⟨L, hL⟩ : ∃ L : Int, L = (xs0.length : Int) := ⟨_, rfl⟩
  rw [← hL] at hlen HC hle
  have HL := Aside0.mk hL
  clear hL
  go_enter Try.func34, Try.ntmps34
  go_wp2_with fail
  refine HC.out.mono ?_
  rintro e w1 ⟨rfl, hr1, hf1⟩
  have HR1 := Aside0.mk hr1
  have HF1 := Aside0.mk hf1
  clear hr1 hf1 hm hcf HC
  go_wp2
  go_loopg [3] (xs0.length / 2) (fun gk v3 wr => ∃ (i : Int) (xs : List α), v3 = .int .i64 i ∧ -1 ≤ i ∧ i < 1000000000000 ∧ Aside0 ((gk : Int) = i + 1) ∧ Aside0 (xs.length = xs0.length) ∧ Aside0 (Rep wr xs) ∧ Aside0 (Fr w wr) ∧ Aside0 (initL less (i + 1).toNat xs = initL less (xs0.length / 2) xs0) ∧ Aside0 (∀ k, k < xs.length → Good (el xs k)))
  case atStart => exact ⟨L / 2 - 1, xs0, by go_num, by omega, by omega, ⟨by have := HL.out; omega⟩, ⟨rfl⟩, HR1, HF1, ⟨by rw [show (L / 2 - 1 + 1).toNat = xs0.length / 2 by have := HL.out; omega]⟩, HGD⟩
  case round =>
    clear HR1 HF1 HGD
    obtain ⟨i, xs, rfl, hi0, hi1, HG, HX, HR, HF, HU, HGD⟩ := hrel
    by_cases hz : 0 ≤ i
    · have hb : decide (0 ≤ i) = true := decide_eq_true hz
      have hd := down_calls HI.out i L xs wr HR.out hz hi1 hle (by have := HL.out; have := HX.out; omega) (by intro k hk; exact HGD.out k (by have := HL.out; have := HX.out; omega))
      rw [show L.toNat = xs.length by have := HL.out; have := HX.out; omega] at hd
      have HD := Aside0.mk hd
      have hu : initL less (i + 1).toNat xs = initL less i.toNat (downL less xs i.toNat xs.length).1 := by
        rw [show (i + 1).toNat = i.toNat + 1 by omega, initL]
      have HU1 := Aside0.mk (hu.symm.trans HU.out)
      clear hd hu
      go_wp2_with fail
      refine HD.out.mono ?_
      rintro e w3 ⟨rfl, hr3, hf3⟩
      have HR3 := Aside0.mk hr3
      have HF3 := Aside0.mk (HI.out.tr _ _ _ HF.out hf3)
      clear hr3 hf3
      go_wp2
      go_roundg i.toNat
      case measure => have := HG.out; omega
      case rel => exact ⟨i - 1, _, by go_num, by omega, by omega, ⟨by omega⟩, ⟨by rw [downL_len]; exact HX.out⟩, HR3, HF3, ⟨by rw [show (i - 1 + 1).toNat = i.toNat by omega]; exact HU1.out⟩, ⟨by rw [downL_len]; exact downL_good _ _ _ (Nat.le_refl _) HGD.out⟩⟩
    · have hb : decide (0 ≤ i) = false := decide_eq_false hz
      have hu : (i + 1).toNat = 0 := by omega
      have HU1 := Aside0.mk (show xs = initL less (xs0.length / 2) xs0 by rw [← HU.out, hu, initL])
      clear hu
      go_wp2
      go_end0
      refine ⟨rfl, ?_, HF.out⟩
      rw [← HU1.out]
      exact HR.out
end Hp
end Go.Proofs.Ythehkmpameeofaa.P

namespace Go.Proofs.Ythehkmpameeofaa.P
set_option linter.unusedVariables false
set_option linter.unusedSimpArgs false
namespace Hp
variable {α : Type} [Inhabited α] {less : α → α → Bool}
theorem list_split2 {xs : List α} {i j : Nat} (hij : i < j) (hj : j < xs.length) :
    xs = xs.take i ++ el xs i :: ((xs.drop (i + 1)).take (j - i - 1) ++ el xs j :: xs.drop (j + 1)) := by
  have e1 : xs.drop i = el xs i :: xs.drop (i + 1) := by
    rw [List.drop_eq_getElem_cons (by omega)]
    congr 1
    unfold el
    rw [List.getD_eq_getElem?_getD, List.getElem?_eq_getElem (by omega)]; rfl
  have e2 : xs.drop j = el xs j :: xs.drop (j + 1) := by
    rw [List.drop_eq_getElem_cons (by omega)]
    congr 1
    unfold el
    rw [List.getD_eq_getElem?_getD, List.getElem?_eq_getElem (by omega)]; rfl
  have e3 : xs.drop (i + 1) = (xs.drop (i + 1)).take (j - i - 1) ++ xs.drop j := by
    have := (List.take_append_drop (j - i - 1) (xs.drop (i + 1))).symm
    rwa [List.drop_drop, show i + 1 + (j - i - 1) = j by omega] at this
  conv => lhs; rw [← List.take_append_drop i xs, e1, e3, e2]
theorem swapL_self (xs : List α) (i : Nat) (hi : i < xs.length) : swapL xs i i = xs := by
  apply List.ext_getElem?
  intro k
  unfold swapL
  rw [List.getElem?_set, List.getElem?_set, List.length_set]
  by_cases h : i = k
  · subst h
    rw [if_pos rfl, if_pos hi]
    unfold el
    rw [List.getD_eq_getElem?_getD, List.getElem?_eq_getElem hi]; rfl
  · rw [if_neg h, if_neg h]
theorem swapL_comm (xs : List α) (i j : Nat) (hi : i < xs.length) (hj : j < xs.length) : swapL xs i j = swapL xs j i := by
  by_cases h : i = j
  · rw [h]
  · unfold swapL
    rw [List.set_comm _ _ h]
theorem swapL_perm_lt (xs : List α) (i j : Nat) (hij : i < j) (hj : j < xs.length) : (swapL xs i j).Perm xs := by
  have hsp := list_split2 hij hj
  have hs : swapL xs i j = xs.take i ++ el xs j :: ((xs.drop (i + 1)).take (j - i - 1) ++ el xs i :: xs.drop (j + 1)) := by
    unfold swapL
    generalize el xs i = a at *
    generalize el xs j = b at *
    have hti : (xs.take i).length = i := by rw [List.length_take]; omega
    have htm : ((xs.drop (i + 1)).take (j - i - 1)).length = j - i - 1 := by rw [List.length_take, List.length_drop]; omega
    generalize hT : xs.take i = T at *
    generalize hM : (xs.drop (i + 1)).take (j - i - 1) = M at *
    generalize hD : xs.drop (j + 1) = D at *
    subst hsp
    rw [List.set_append_right _ _ (by omega), hti, Nat.sub_self, List.set_cons_zero, List.set_append_right _ _ (by omega), hti]
    obtain ⟨d, hd⟩ : ∃ d, j - i = d + 1 := ⟨j - i - 1, by omega⟩
    rw [hd, List.set_cons_succ, List.set_append_right _ _ (by omega), htm, show d - (j - i - 1) = 0 by omega, List.set_cons_zero]
  rw [hs]
  conv => rhs; rw [hsp]
  refine List.Perm.append_left _ ?_
  generalize (xs.drop (i + 1)).take (j - i - 1) = M
  generalize xs.drop (j + 1) = D
  have h1 : (el xs j :: (M ++ el xs i :: D)).Perm (el xs j :: el xs i :: (M ++ D)) := List.Perm.cons _ List.perm_middle
  have h2 : (el xs i :: (M ++ el xs j :: D)).Perm (el xs i :: el xs j :: (M ++ D)) := List.Perm.cons _ List.perm_middle
  exact h1.trans ((List.Perm.swap _ _ _).trans h2.symm)
theorem swapL_perm (xs : List α) (i j : Nat) (hi : i < xs.length) (hj : j < xs.length) : (swapL xs i j).Perm xs := by
  rcases Nat.lt_trichotomy i j with h | h | h
  · exact swapL_perm_lt xs i j h hj
  · subst h; rw [swapL_self xs i hi]
  · rw [swapL_comm xs i j hi hj]; exact swapL_perm_lt xs j i h hi
theorem upL_perm (xs : List α) (j : Nat) (hj : j < xs.length) : (upL less xs j).Perm xs := by
  induction xs, j using upL.induct less with
  | case1 xs => rw [upL_zero]
  | case2 xs j h hl ih =>
    rw [upL_yes xs j h hl]
    exact (ih (by rw [swapL_length]; omega)).trans (swapL_perm xs _ _ (by omega) hj)
  | case3 xs j h hl => rw [upL_no xs j h (by simpa using hl)]
theorem downL_perm (xs : List α) (i n : Nat) (hn : n ≤ xs.length) : (downL less xs i n).1.Perm xs := by
  induction xs, i using downL.induct less n with
  | case1 xs i h hl ih =>
    have h1 := kid_lt less xs i n h
    have h2 := kid_gt less xs i n
    rw [downL_yes xs i n h hl]
    exact (ih (by rw [swapL_length]; exact hn)).trans (swapL_perm xs _ _ (by omega) (by omega))
  | case2 xs i h hl => rw [downL_no xs i n h (by simpa using hl)]
  | case3 xs i h => rw [downL_end xs i n h]
theorem last_perm (xs : List α) (h : 0 < xs.length) : (el xs (xs.length - 1) :: xs.dropLast).Perm xs := by
  have hne : xs ≠ [] := fun e => by subst e; simp at h
  have e : el xs (xs.length - 1) = xs.getLast hne := by
    unfold el
    rw [List.getD_eq_getElem?_getD, List.getElem?_eq_getElem (by omega), Option.getD_some, List.getLast_eq_getElem]
  rw [e]
  have hd : xs = xs.dropLast ++ [xs.getLast hne] := (List.dropLast_concat_getLast hne).symm
  have hp := (List.perm_append_comm (l₁ := [xs.getLast hne]) (l₂ := xs.dropLast))
  exact hp.trans (by rw [← hd])
theorem popL_perm (xs : List α) (h : 0 < xs.length) : (el xs 0 :: popL less xs).Perm xs := by
  have hl : (downL less (swapL xs 0 (xs.length - 1)) 0 (xs.length - 1)).1.length = xs.length := by rw [downL_len, swapL_length]
  have h1 := last_perm (downL less (swapL xs 0 (xs.length - 1)) 0 (xs.length - 1)).1 (by rw [hl]; exact h)
  rw [hl, pop_last xs h] at h1
  exact h1.trans ((downL_perm _ _ _ (by rw [swapL_length]; omega)).trans (swapL_perm xs _ _ h (by omega)))
theorem fixL_perm (xs : List α) (i : Nat) (hi : i < xs.length) : (fixL less xs i).Perm xs := by
  unfold fixL
  split
  · exact downL_perm _ _ _ (Nat.le_refl _)
  · exact (upL_perm _ _ (by rw [downL_len]; exact hi)).trans (downL_perm _ _ _ (Nat.le_refl _))
theorem initL_perm : ∀ (m : Nat) (xs : List α), (initL less m xs).Perm xs
  | 0, xs => by rw [initL]
  | m + 1, xs => by rw [initL]; exact (initL_perm m _).trans (downL_perm _ _ _ (Nat.le_refl _))

/-- The order is one by which things can be put in line. -/
structure Ord (less : α → α → Bool) : Prop where
  tr : ∀ a b c, less b a = false → less c b = false → less c a = false
  asy : ∀ a b, less a b = true → less b a = false
/-- From place lo on, below n: no child is less than its parent. -/
def HeapFrom (less : α → α → Bool) (lo n : Nat) (xs : List α) : Prop := ∀ i, 0 < i → i < n → lo ≤ (i - 1) / 2 → less (el xs i) (el xs ((i - 1) / 2)) = false
theorem kid_par (xs : List α) (i n : Nat) : (kid less xs i n - 1) / 2 = i := by unfold kid; split <;> omega
theorem kid_least (ho : Ord less) (xs : List α) (i n c : Nat) (hc0 : 0 < c) (hc : c < n) (hp : (c - 1) / 2 = i) : less (el xs c) (el xs (kid less xs i n)) = false := by
  have irr : ∀ a, less a a = false := by
    intro a
    cases h : less a a with
    | false => rfl
    | true => rw [ho.asy a a h] at h; cases h
  have hcc : c = 2 * i + 1 ∨ c = 2 * i + 2 := by omega
  unfold kid
  split
  · rename_i hk
    rcases hcc with rfl | rfl
    · exact ho.asy _ _ hk.2
    · exact irr _
  · rename_i hk
    rcases hcc with rfl | rfl
    · exact irr _
    · cases h : less (el xs (2 * i + 2)) (el xs (2 * i + 1)) with
      | false => rfl
      | true => exact absurd ⟨hc, h⟩ hk
theorem downL_heap (ho : Ord less) (lo n : Nat) (xs : List α) (i0 : Nat) (hn : n ≤ xs.length)
    (hA : ∀ i, 0 < i → i < n → lo ≤ (i - 1) / 2 → (i - 1) / 2 ≠ i0 → less (el xs i) (el xs ((i - 1) / 2)) = false)
    (hB : 0 < i0 → lo ≤ (i0 - 1) / 2 → ∀ c, 0 < c → c < n → (c - 1) / 2 = i0 → less (el xs c) (el xs ((i0 - 1) / 2)) = false) :
    HeapFrom less lo n (downL less xs i0 n).1 := by
  induction xs, i0 using downL.induct less n with
  | case1 xs i0 h hl ih =>
    have k1 := kid_lt less xs i0 n h
    have k2 := kid_gt less xs i0 n
    have kp := kid_par (less := less) xs i0 n
    have hleast := kid_least ho xs i0 n
    rw [downL_yes xs i0 n h hl]
    generalize kid less xs i0 n = j at *
    have hsw : ∀ k, el (swapL xs i0 j) k = if k = j then el xs i0 else if k = i0 then el xs j else el xs k := fun k => el_swapL _ _ _ _ (by omega) (by omega)
    refine ih (by rw [swapL_length]; exact hn) ?_ ?_
    · intro i h0 h1 h2 h3
      rw [hsw, hsw, if_neg h3]
      by_cases e1 : i = j
      · rw [if_pos e1, e1, kp, if_pos rfl]
        exact ho.asy _ _ hl
      · rw [if_neg e1]
        by_cases e2 : i = i0
        · subst e2
          rw [if_pos rfl, if_neg (by omega)]
          exact hB h0 h2 j (by omega) k1 kp
        · rw [if_neg e2]
          by_cases e3 : (i - 1) / 2 = i0
          · rw [if_pos e3]
            exact hleast i h0 h1 e3
          · rw [if_neg e3]
            exact hA i h0 h1 h2 e3
    · intro _ h2 c hc0 hc1 hc2
      rw [hsw, hsw, kp, if_neg (show c ≠ j by omega), if_neg (show c ≠ i0 by omega), if_neg (show i0 ≠ j by omega), if_pos rfl, ← hc2]
      exact hA c hc0 hc1 (by omega) (by omega)
  | case2 xs i0 h hl =>
    rw [downL_no xs i0 n h (by simpa using hl)]
    intro i h0 h1 h2
    by_cases e : (i - 1) / 2 = i0
    · have hle := kid_least ho xs i0 n i h0 h1 e
      rw [e]
      exact ho.tr _ _ _ (by simpa using hl) hle
    · exact hA i h0 h1 h2 e
  | case3 xs i0 h =>
    rw [downL_end xs i0 n h]
    intro i h0 h1 h2
    exact hA i h0 h1 h2 (by omega)
theorem upL_heap (ho : Ord less) (xs : List α) (j : Nat) (hj : j < xs.length)
    (hA : ∀ i, 0 < i → i < xs.length → i ≠ j → less (el xs i) (el xs ((i - 1) / 2)) = false)
    (hB : 0 < j → ∀ c, 0 < c → c < xs.length → (c - 1) / 2 = j → less (el xs c) (el xs ((j - 1) / 2)) = false) :
    HeapFrom less 0 xs.length (upL less xs j) := by
  induction xs, j using upL.induct less with
  | case1 xs =>
    rw [upL_zero]
    intro i h0 h1 _
    exact hA i h0 h1 (by omega)
  | case2 xs j h hl ih =>
    rw [upL_yes xs j h hl]
    have hsw : ∀ k, el (swapL xs ((j - 1) / 2) j) k = if k = j then el xs ((j - 1) / 2) else if k = (j - 1) / 2 then el xs j else el xs k := fun k => el_swapL _ _ _ _ (by omega) (by omega)
    have := ih (by rw [swapL_length]; omega) ?_ ?_
    · rwa [swapL_length] at this
    · intro i h0 h1 h2
      rw [swapL_length] at h1
      rw [hsw, hsw]
      by_cases e1 : i = j
      · subst e1
        rw [if_pos rfl, if_neg (by omega), if_pos rfl]
        exact ho.asy _ _ hl
      · rw [if_neg e1, if_neg h2]
        by_cases e2 : (i - 1) / 2 = j
        · rw [if_pos e2]
          exact hB (by omega) i h0 h1 e2
        · rw [if_neg e2]
          by_cases e3 : (i - 1) / 2 = (j - 1) / 2
          · rw [if_pos e3]
            have := hA i h0 h1 e1
            rw [e3] at this
            exact ho.tr _ _ _ (ho.asy _ _ hl) this
          · rw [if_neg e3]
            exact hA i h0 h1 e1
    · intro h0 c hc0 hc1 hc2
      rw [swapL_length] at hc1
      have hpp := hA ((j - 1) / 2) h0 (by omega) (by omega)
      rw [hsw, hsw, if_neg (show ((j - 1) / 2 - 1) / 2 ≠ j by omega), if_neg (show ((j - 1) / 2 - 1) / 2 ≠ (j - 1) / 2 by omega)]
      by_cases e1 : c = j
      · rw [if_pos e1]
        exact hpp
      · rw [if_neg e1, if_neg (by omega)]
        have := hA c hc0 hc1 e1
        rw [hc2] at this
        exact ho.tr _ _ _ hpp this
  | case3 xs j h hl =>
    rw [upL_no xs j h (by simpa using hl)]
    intro i h0 h1 _
    by_cases e : i = j
    · subst e; simpa using hl
    · exact hA i h0 h1 e
theorem root_least (ho : Ord less) (xs : List α) (n : Nat) (h : HeapFrom less 0 n xs) : ∀ i, i < n → less (el xs i) (el xs 0) = false := by
  have irr : ∀ a, less a a = false := by
    intro a
    cases h : less a a with
    | false => rfl
    | true => rw [ho.asy a a h] at h; cases h
  intro i
  induction i using Nat.strongRecOn with
  | _ i ih =>
    intro hi
    by_cases h0 : i = 0
    · subst h0; exact irr _
    · exact ho.tr _ _ _ (ih ((i - 1) / 2) (by omega) (by omega)) (h i (by omega) hi (Nat.zero_le _))
theorem el_append (xs : List α) (a : α) (k : Nat) : el (xs ++ [a]) k = if k < xs.length then el xs k else if k = xs.length then a else default := by
  unfold el
  simp only [List.getD_eq_getElem?_getD]
  by_cases h : k < xs.length
  · rw [if_pos h, List.getElem?_append_left h]
  · rw [if_neg h, List.getElem?_append_right (by omega)]
    by_cases e : k = xs.length
    · subst e; simp
    · rw [if_neg e, List.getElem?_eq_none (by simp; omega)]; rfl
theorem push_heap (ho : Ord less) (xs : List α) (a : α) (h : HeapFrom less 0 xs.length xs) : HeapFrom less 0 (xs.length + 1) (upL less (xs ++ [a]) xs.length) := by
  have := upL_heap ho (xs ++ [a]) xs.length (by simp) ?_ ?_
  · rwa [List.length_append, List.length_singleton] at this
  · intro i h0 h1 h2
    rw [List.length_append, List.length_singleton] at h1
    rw [el_append, el_append, if_pos (by omega), if_pos (by omega)]
    exact h i h0 (by omega) (Nat.zero_le _)
  · intro h0 c hc0 hc1 hc2
    rw [List.length_append, List.length_singleton] at hc1
    omega
theorem fix_heap (ho : Ord less) (xs : List α) (hx : 0 < xs.length) (h : ∀ i, 0 < i → i < xs.length → (i - 1) / 2 ≠ 0 → less (el xs i) (el xs ((i - 1) / 2)) = false) : HeapFrom less 0 xs.length (fixL less xs 0) := by
  have hd := downL_heap ho 0 xs.length xs 0 (Nat.le_refl _) (fun i h0 h1 _ h3 => h i h0 h1 h3) (fun h0 => absurd h0 (by omega))
  unfold fixL
  split
  · exact hd
  · rw [upL_zero]; exact hd
theorem el_dropL (xs : List α) (k : Nat) (h : k < xs.length - 1) : el xs.dropLast k = el xs k := by
  unfold el
  rw [List.getD_eq_getElem?_getD, List.getD_eq_getElem?_getD, List.dropLast_eq_take, List.getElem?_take, if_pos h]
theorem pop_heap (ho : Ord less) (xs : List α) (hx : 0 < xs.length) (h : ∀ i, 0 < i → i < xs.length → (i - 1) / 2 ≠ 0 → less (el xs i) (el xs ((i - 1) / 2)) = false) : HeapFrom less 0 (xs.length - 1) (popL less xs) := by
  have hd := downL_heap ho 0 (xs.length - 1) (swapL xs 0 (xs.length - 1)) 0 (by rw [swapL_length]; omega) (by
    intro i h0 h1 _ h3
    rw [el_swapL _ _ _ _ hx (by omega), el_swapL _ _ _ _ hx (by omega), if_neg (by omega), if_neg (by omega), if_neg (by omega), if_neg (by omega)]
    exact h i h0 (by omega) h3) (fun h0 => absurd h0 (by omega))
  intro i h0 h1 h2
  unfold popL
  have hl : (downL less (swapL xs 0 (xs.length - 1)) 0 (xs.length - 1)).1.length = xs.length := by rw [downL_len, swapL_length]
  rw [el_dropL _ _ (by rw [hl]; exact h1), el_dropL _ _ (by rw [hl]; omega)]
  exact hd i h0 h1 h2
theorem init_heap (ho : Ord less) : ∀ (m : Nat) (xs : List α), m ≤ xs.length → HeapFrom less m xs.length xs → HeapFrom less 0 xs.length (initL less m xs)
  | 0, xs, _, h => by rw [initL]; exact h
  | m + 1, xs, hm, h => by
    rw [initL]
    have hd := downL_heap ho m xs.length xs m (Nat.le_refl _) (fun i h0 h1 h2 h3 => h i h0 h1 (by omega)) (fun h0 h1 => absurd h1 (by omega))
    have := init_heap ho m (downL less xs m xs.length).1 (by rw [downL_len]; omega) (by rw [downL_len]; exact hd)
    rwa [downL_len] at this
theorem init_all (ho : Ord less) (xs : List α) : HeapFrom less 0 xs.length (initL less (xs.length / 2) xs) :=
  init_heap ho _ xs (by omega) (fun i h0 h1 h2 => absurd h2 (by omega))
end Hp
end Go.Proofs.Ythehkmpameeofaa.P

namespace Go.Proofs.Ythehkmpameeofaa.P
open Go.RowKit Go.Proofs.YthehkmpameeofaaW.PrintWords Go.Proofs.YthehkmpameeofaaW.PrintLast Go.Proofs.YthehkmpameeofaaW.PrintMore
set_option linter.unusedVariables false
set_option linter.unusedSimpArgs false
namespace Hp
/-- What the program's tables tell of a method: its function, and whether its receiver is the pointer. -/
def found (P : Program) (T : Nat) (nm : String) : Option (Array FieldStep × Option (FuncId × Bool)) := (P.info? T).bind fun i => (i.methods.find? (·.name == nm)).map fun m => (m.path, m.func)
theorem method_ptr {P : Program} {T E f fuel : Nat} {nm : String} (g : Nat) (w : World) (h : found P T nm = some (#[], some (f, true))) (hu : P.underlying T = some (.pointer E)) :
    Sem.run P (method (fuel + 1) T (.pointer (some ⟨g, 0, none⟩)) nm) w = .ok (f, .pointer (some ⟨g, 0, none⟩)) w := by
  unfold found at h
  obtain ⟨i, hi, h2⟩ := Option.bind_eq_some_iff.mp h
  obtain ⟨m, hm, h3⟩ := Option.map_eq_some_iff.mp h2
  simp only [Prod.mk.injEq] at h3
  obtain ⟨hp, hf⟩ := h3
  simp [method, typeInfo, hi, hm, hp, hf, follow, receiverAt, run_underlying hu, Place.get, Result.andThen]
theorem wrapnil_some (a : Array TypeId) (t : TypeId) (p : Addr) (x y : String) : Builtin.ssaWrapNilChk_ a t #[.pointer (some p), strVal x, strVal y] = pure (.pointer (some p)) := rfl
theorem method_val {P : Program} {T E f fuel : Nat} {nm : String} (g : Nat) (w : World) (V : Value) (h : found P T nm = some (#[], some (f, false))) (hu : P.underlying T = some (.pointer E))
    (hl : Sem.run P (loadVar E ⟨g, 0, none⟩) w = .ok V w) :
    Sem.run P (method (fuel + 1) T (.pointer (some ⟨g, 0, none⟩)) nm) w = .ok (f, V) w := by
  unfold found at h
  obtain ⟨i, hi, h2⟩ := Option.bind_eq_some_iff.mp h
  obtain ⟨m, hm, h3⟩ := Option.map_eq_some_iff.mp h2
  simp only [Prod.mk.injEq] at h3
  obtain ⟨hp, hf⟩ := h3
  simp [method, typeInfo, hi, hm, hp, hf, follow, receiverAt, run_underlying hu, Place.get, Result.andThen, wrapnil_some, asAddr, hl]
end Hp
end Go.Proofs.Ythehkmpameeofaa.P

namespace Go.Proofs.Ythehkmpameeofaa.P
open Go.RowKit Go.Proofs.YthehkmpameeofaaW.PrintWords Go.Proofs.YthehkmpameeofaaW.PrintLast Go.Proofs.YthehkmpameeofaaW.PrintMore
set_option linter.unusedVariables false
set_option linter.unusedSimpArgs false
namespace Hp
theorem own_cell {W : World} {base g n cap e sz : Nat} {xs : List Value} (h : W.ownsRow base e sz (.slice (some ⟨g, 0, none⟩) n cap) n xs) (k : Nat) (hk : k < xs.length) :
    W.cell? ⟨g, k, none⟩ = some (xs.getD k undef) ∧ W.frozen? ⟨g, k, none⟩ = false := by
  constructor
  · have hc := h.cells (g := g) rfl k (xs.getD k undef) (by simp [List.getD_eq_getElem?_getD, List.getElem?_eq_getElem hk])
    rwa [add_plain] at hc
  · exact h.frozenAt k
theorem getD_one {xs : List Value} (h : ∀ u ∈ xs, u.oneCell' = true) (k : Nat) (hk : k < xs.length) : (xs.getD k undef).oneCell' = true := by
  refine h _ ?_
  rw [List.getD_eq_getElem?_getD, List.getElem?_eq_getElem hk]
  exact List.getElem_mem hk
/-- Several stores into a row of the call's own, and a draw. -/
def setsL (xs : List Value) : List (Nat × Value) → List Value
  | [] => xs
  | (k, u) :: r => setsL (xs.set k u) r
def setsW (w : World) (g : Nat) : List (Nat × Value) → World
  | [] => w
  | (k, u) :: r => setsW (w.setCell ⟨g, k, none⟩ u) g r
theorem own_setsW {base g n cap e sz : Nat} : ∀ (l : List (Nat × Value)) {w : World} {xs : List Value}, w.ownsRow base e sz (.slice (some ⟨g, 0, none⟩) n cap) n xs →
    (setsW w g l).ownsRow base e sz (.slice (some ⟨g, 0, none⟩) n cap) n (setsL xs l) ∧ w.grownBy (setsW w g l) (some g)
  | [], w, xs, h => ⟨h, World.grownBy.refl _ _⟩
  | (k, u) :: r, w, xs, h => by
    obtain ⟨h1, g1⟩ := h.stored k u
    obtain ⟨h2, g2⟩ := own_setsW r h1
    refine ⟨h2, ⟨g2.os.trans g1.os, g2.tape.trans g1.tape, g2.output.trans g1.output, Nat.le_trans g1.size g2.size, fun k hk hr => ?_⟩⟩
    exact (g2.block k (Nat.lt_of_lt_of_le hk g1.size) hr).trans (g1.block k hk hr)
theorem own_sets {base g n cap e sz : Nat} {w : World} {xs : List Value} (h : w.ownsRow base e sz (.slice (some ⟨g, 0, none⟩) n cap) n xs) (l : List (Nat × Value)) :
    (setsW w g l).drew.ownsRow base e sz (.slice (some ⟨g, 0, none⟩) n cap) n (setsL xs l) ∧ w.grownBy (setsW w g l).drew (some g) := by
  obtain ⟨h1, g1⟩ := own_setsW l h
  exact ⟨h1, ⟨g1.os, g1.tape, g1.output, g1.size, g1.block⟩⟩
theorem keep_same {a b c : World} {g : Nat} {r : Option Nat} (h : KeepBut a b g r) (k : KeepBut b c g r) : KeepBut a c g r :=
  ⟨Nat.le_trans h.1 k.1, fun i hi hg hr => (k.2 i (Nat.lt_of_lt_of_le hi h.1) hg hr).trans (h.2 i hi hg hr)⟩
theorem keep_weak {a b : World} {g : Nat} (h : KeepBut a b g none) (r : Option Nat) : KeepBut a b g r := ⟨h.1, fun i hi hg _ => h.2 i hi hg (by simp)⟩
theorem own_put {w : World} {base e sz n g j : Nat} {v : Value} {xs : List Value} (h : w.ownsRow base e sz v n xs) (hne : some g ≠ v.ownBlock) (u : Value) : (w.setCell ⟨g, j, none⟩ u).ownsRow base e sz v n xs :=
  KeepBut.own (KeepBut.set_ (KeepBut.refl w g none) j u) h (fun e => hne e.symm) (by cases v.ownBlock <;> simp)
/-- The world's other parts. -/
def Rest (w w' : World) : Prop := w'.os = w.os ∧ w'.tape = w.tape ∧ w'.output = w.output
theorem Rest.refl (w : World) : Rest w w := ⟨rfl, rfl, rfl⟩
theorem Rest.trans {a b c : World} (h : Rest a b) (k : Rest b c) : Rest a c := ⟨k.1.trans h.1, k.2.1.trans h.2.1, k.2.2.trans h.2.2⟩
theorem Rest.of_below {B : Nat} {w w' : World} (h : Below B w w') : Rest w w' := ⟨h.os, h.tape, h.output⟩
theorem Rest.of_grown {w w' : World} {r : Option Nat} (h : w.grownBy w' r) : Rest w w' := ⟨h.os, h.tape, h.output⟩
theorem Rest.put (w : World) (a : Addr) (u : Value) : Rest w (w.setCell a u) := Rest.of_below (Below.setCell (Below.refl 0 w) (Nat.zero_le _) u)
theorem own_max {w : World} {base g n cap e sz : Nat} {xs : List Value} (h : w.ownsRow base e sz (.slice (some ⟨g, 0, none⟩) n cap) n xs) : n ≤ 9223372036854775807 := by
  rcases h.2 with ⟨h', _⟩ | ⟨g', cap', cur, h', _, _, h1, h2, _⟩
  · cases h'
  · unfold maxLen at h2; omega
theorem own_shorter {w : World} {base g n cap e sz : Nat} {xs : List Value} (h : w.ownsRow base e sz (.slice (some ⟨g, 0, none⟩) n cap) n xs) (m : Nat) (hm : m ≤ n) :
    w.ownsRow base e sz (.slice (some ⟨g, 0, none⟩) m cap) m (xs.take (m * sz)) := by
  have hl := h.1
  have hms : m * sz ≤ n * sz := Nat.mul_le_mul_right sz hm
  rcases h.2 with ⟨h', _⟩ | ⟨g', cap', cur, h', hb, hh, h1, h2, h3, h4⟩
  · cases h'
  · simp only [Value.slice.injEq, Option.some.injEq, Addr.mk.injEq, and_true, true_and] at h'
    obtain ⟨rfl, rfl⟩ := h'
    refine ⟨by rw [List.length_take]; omega, .inr ⟨g, cap, cur, rfl, hb, hh, by omega, h2, h3, ?_⟩⟩
    rw [← h4, List.take_take, Nat.min_eq_left hms]
end Hp
end Go.Proofs.Ythehkmpameeofaa.P

namespace Go.Proofs.Ythehkmpameeofaa.P
open Go.RowKit Go.Proofs.YthehkmpameeofaaW.PrintWords Go.Proofs.YthehkmpameeofaaW.PrintLast Go.Proofs.YthehkmpameeofaaW.PrintMore
set_option linter.unusedVariables false
set_option linter.unusedSimpArgs false
namespace Hp
variable {α : Type} [Inhabited α]
/-- All is as it was, but for block g and rows of type E from block B on. -/
def FrH (E B g : Nat) (w w' : World) : Prop :=
  Rest w w' ∧ w.heap.size ≤ w'.heap.size ∧ ∀ k o, w.heap[k]? = some o → k ≠ g → (k < B ∨ ∀ cs, o ≠ .cells cs E (0, 0)) → w'.heap[k]? = some o
theorem FrH.refl (E B g : Nat) (w : World) : FrH E B g w w := ⟨Rest.refl _, Nat.le_refl _, fun _ _ h _ _ => h⟩
theorem FrH.trans {E B g : Nat} {a b c : World} (h : FrH E B g a b) (k : FrH E B g b c) : FrH E B g a c :=
  ⟨h.1.trans k.1, Nat.le_trans h.2.1 k.2.1, fun i o hi hg hE => k.2.2 i o (h.2.2 i o hi hg hE) hg hE⟩
theorem FrH.of_below {E B g : Nat} {w w' : World} (h : Below w.heap.size w w') : FrH E B g w w' :=
  ⟨Rest.of_below h, h.size, fun k o hk _ _ => by
    have hlt : k < w.heap.size := (Array.getElem?_eq_some_iff.1 hk).1
    rw [h.block k hlt]; exact hk⟩
theorem FrH.of_keep {E B g sz n : Nat} {w w' : World} {v : Value} {xs : List Value} (ho : w.ownsRow B E sz v n xs) (h : KeepBut w w' g v.ownBlock) (hr : Rest w w') : FrH E B g w w' :=
  ⟨hr, h.1, fun k o hk hg hE => by
    have hlt : k < w.heap.size := (Array.getElem?_eq_some_iff.1 hk).1
    refine (h.2 k hlt hg ?_).trans hk
    intro e
    rcases ho.2 with ⟨rfl, _⟩ | ⟨b, cap, cur, rfl, hb, hh, _⟩
    · simp [Value.ownBlock] at e
    · have hkb : k = b := by simpa [Value.ownBlock] using e
      subst hkb
      rw [hh] at hk
      obtain rfl := Option.some.inj hk
      rcases hE with hE | hE
      · omega
      · exact hE cur rfl⟩
theorem FrH.of_grown {E B g sz n b cap : Nat} {w w' : World} {xs : List Value} (ho : w.ownsRow B E sz (.slice (some ⟨b, 0, none⟩) n cap) n xs) (h : w.grownBy w' (some b)) : FrH E B g w w' :=
  FrH.of_keep ho (KeepBut.of_grown h g) (Rest.of_grown h)
/-- A row's cells, where two elements are swapped. -/
def swapC (sz : Nat) (cs : List Value) (i j : Nat) : List Value :=
  (List.range cs.length).map fun q => cs.getD (if q / sz = j then i * sz + q % sz else if q / sz = i then j * sz + q % sz else q) undef
theorem swapC_length (sz : Nat) (cs : List Value) (i j : Nat) : (swapC sz cs i j).length = cs.length := by simp [swapC]
theorem chunk_get {sz : Nat} {cs : List Value} {j t : Nat} (h : t < sz) : ((cs.drop (j * sz)).take sz)[t]? = cs[j * sz + t]? := by
  rw [List.getElem?_take, if_pos h, List.getElem?_drop]
theorem swapC_chunk {sz : Nat} (hs : 0 < sz) {cs : List Value} {n i j k : Nat} (hl : cs.length = n * sz) (hi : i < n) (hj : j < n) (hk : k < n) :
    ((swapC sz cs i j).drop (k * sz)).take sz = (cs.drop ((if k = j then i else if k = i then j else k) * sz)).take sz := by
  apply List.ext_getElem?
  intro t
  by_cases ht : t < sz
  · rw [chunk_get ht, chunk_get ht]
    have hq : ∀ x, x < n → x * sz + t < cs.length := by
      intro x hx
      rw [hl]
      have : (x + 1) * sz ≤ n * sz := Nat.mul_le_mul_right sz (by omega)
      rw [Nat.add_mul, Nat.one_mul] at this
      omega
    have hkq := hq k hk
    have hd : (k * sz + t) / sz = k := by
      rw [Nat.add_comm, Nat.add_mul_div_right _ _ hs, Nat.div_eq_of_lt ht, Nat.zero_add]
    have hm : (k * sz + t) % sz = t := by
      rw [Nat.add_comm, Nat.add_mul_mod_self_right, Nat.mod_eq_of_lt ht]
    unfold swapC
    rw [List.getElem?_map, List.getElem?_range hkq]
    simp only [Option.map_some, hd, hm]
    by_cases h1 : k = j
    · simp only [h1, if_true]
      rw [List.getD_eq_getElem?_getD, List.getElem?_eq_getElem (hq i hi), Option.getD_some]
    · simp only [h1, if_false]
      by_cases h2 : k = i
      · simp only [h2, if_true]
        rw [List.getD_eq_getElem?_getD, List.getElem?_eq_getElem (hq j hj), Option.getD_some]
      · simp only [h2, if_false]
        rw [List.getD_eq_getElem?_getD, List.getElem?_eq_getElem hkq, Option.getD_some]
  · rw [List.getElem?_take, if_neg ht, List.getElem?_take, if_neg ht]
theorem el_eq {xs : List α} {k : Nat} (h : k < xs.length) : xs[k]? = some (el xs k) := by
  unfold el
  rw [List.getD_eq_getElem?_getD, List.getElem?_eq_getElem h, Option.getD_some]
theorem Reps_swap {R : α → List Value → Prop} {sz : Nat} (hs : 0 < sz) {xs : List α} {cs : List Value} (h : Reps R sz xs cs) {i j : Nat} (hi : i < xs.length) (hj : j < xs.length) : Reps R sz (swapL xs i j) (swapC sz cs i j) := by
  refine ⟨by rw [swapC_length, swapL_length]; exact h.1, fun k p hk => ?_⟩
  have hkl : k < xs.length := by
    have := (List.getElem?_eq_some_iff.1 hk).1
    rwa [swapL_length] at this
  rw [swapC_chunk hs h.1 hi hj hkl]
  have hp : p = el (swapL xs i j) k := by
    rw [el_eq (by rw [swapL_length]; exact hkl)] at hk
    exact (Option.some.inj hk).symm
  rw [hp, el_swapL _ _ _ _ hi hj]
  by_cases h1 : k = j
  · simp only [h1, if_true]; exact h.2 i _ (el_eq hi)
  · simp only [h1, if_false]
    by_cases h2 : k = i
    · simp only [h2, if_true]; exact h.2 j _ (el_eq hj)
    · simp only [h2, if_false]; exact h.2 k _ (el_eq hkl)
theorem Reps_one {R : α → List Value → Prop} {sz : Nat} (hs : 0 < sz) {xs : List α} {cs : List Value} (h : Reps R sz xs cs) (h1 : ∀ p c, R p c → ∀ u ∈ c, u.oneCell' = true) : ∀ u ∈ cs, u.oneCell' = true := by
  intro u hu
  obtain ⟨q, hq, rfl⟩ := List.getElem_of_mem hu
  have hql : q / sz < xs.length := by
    rw [h.1] at hq
    exact Nat.div_lt_of_lt_mul (by rw [Nat.mul_comm]; exact hq)
  have hR := h.2 (q / sz) _ (el_eq hql)
  refine h1 _ _ hR _ ?_
  have hlt : q % sz < sz := Nat.mod_lt _ hs
  have hg := chunk_get (cs := cs) (j := q / sz) hlt
  rw [Nat.div_add_mod' q sz, List.getElem?_eq_getElem hq] at hg
  exact List.mem_of_getElem? hg
theorem setsL_append (l m : List (Nat × Value)) : ∀ xs, setsL xs (l ++ m) = setsL (setsL xs l) m := by
  induction l with
  | nil => intro xs; rfl
  | cons p l ih => intro xs; obtain ⟨k, u⟩ := p; exact ih _
theorem setsL_length (l : List (Nat × Value)) : ∀ xs, (setsL xs l).length = xs.length := by
  induction l with
  | nil => intro xs; rfl
  | cons p l ih => intro xs; obtain ⟨k, u⟩ := p; exact (ih _).trans (List.length_set ..)
theorem block_sets (xs : List Value) (a : Nat) (f : Nat → Value) : ∀ sz, a + sz ≤ xs.length → ∀ q, (setsL xs ((List.range sz).map fun c => (a + c, f c)))[q]? = if a ≤ q ∧ q < a + sz then some (f (q - a)) else xs[q]?
  | 0, _, q => by
    rw [if_neg (by omega)]; rfl
  | sz + 1, h, q => by
    rw [List.range_succ, List.map_append, setsL_append]
    show ((setsL xs ((List.range sz).map fun c => (a + c, f c))).set (a + sz) (f sz))[q]? = _
    rw [List.getElem?_set, setsL_length]
    by_cases e : a + sz = q
    · subst e
      rw [if_pos rfl, if_pos (by omega), if_pos (by omega), show a + sz - a = sz by omega]
    · rw [if_neg e, block_sets xs a f sz (by omega) q]
      by_cases h1 : a ≤ q ∧ q < a + sz
      · rw [if_pos h1, if_pos (by omega)]
      · rw [if_neg h1, if_neg (by omega)]
theorem sets_swap {sz : Nat} (hs : 0 < sz) {cs : List Value} {n i j : Nat} (hl : cs.length = n * sz) (hi : i < n) (hj : j < n) :
    setsL cs ((List.range sz).map (fun c => (i * sz + c, cs.getD (j * sz + c) undef)) ++ (List.range sz).map (fun c => (j * sz + c, cs.getD (i * sz + c) undef))) = swapC sz cs i j := by
  have hb : ∀ x, x < n → x * sz + sz ≤ cs.length := by
    intro x hx
    rw [hl]
    have : (x + 1) * sz ≤ n * sz := Nat.mul_le_mul_right sz (by omega)
    rwa [Nat.add_mul, Nat.one_mul] at this
  rw [setsL_append]
  apply List.ext_getElem?
  intro q
  rw [block_sets _ (j * sz) (fun c => cs.getD (i * sz + c) undef) sz (by rw [setsL_length]; exact hb j hj), block_sets _ (i * sz) (fun c => cs.getD (j * sz + c) undef) sz (hb i hi)]
  unfold swapC
  by_cases hq : q < cs.length
  · rw [List.getElem?_map, List.getElem?_range hq, Option.map_some]
    have hdiv : ∀ x, (x * sz ≤ q ∧ q < x * sz + sz) ↔ q / sz = x := by
      intro x
      constructor
      · rintro ⟨h1, h2⟩
        have : q = (q - x * sz) + x * sz := by omega
        rw [this, Nat.add_mul_div_right _ _ hs, Nat.div_eq_of_lt (by omega), Nat.zero_add]
      · rintro rfl
        have := Nat.div_add_mod' q sz
        have := Nat.mod_lt q hs
        omega
    have hmod : q % sz = q - q / sz * sz := by
      have := Nat.div_add_mod' q sz
      omega
    by_cases h1 : q / sz = j
    · rw [if_pos ((hdiv j).2 h1), if_pos h1, hmod, h1]
    · rw [if_neg (fun h => h1 ((hdiv j).1 h)), if_neg h1]
      by_cases h2 : q / sz = i
      · rw [if_pos ((hdiv i).2 h2), if_pos h2, hmod, h2]
      · rw [if_neg (fun h => h2 ((hdiv i).1 h)), if_neg h2, List.getD_eq_getElem?_getD, List.getElem?_eq_getElem hq, Option.getD_some]
  · have hnj : ¬ (j * sz ≤ q ∧ q < j * sz + sz) := by have := hb j hj; omega
    have hni : ¬ (i * sz ≤ q ∧ q < i * sz + sz) := by have := hb i hi; omega
    rw [if_neg hnj, if_neg hni, List.getElem?_eq_none (by omega), List.getElem?_eq_none (by simp; omega)]
end Hp
end Go.Proofs.Ythehkmpameeofaa.P

namespace Go.Proofs.Ythehkmpameeofaa.P
open Go.RowKit Go.Proofs.YthehkmpameeofaaW.PrintWords Go.Proofs.YthehkmpameeofaaW.PrintLast Go.Proofs.YthehkmpameeofaaW.PrintMore
set_option linter.unusedVariables false
set_option linter.unusedSimpArgs false
namespace Hp
variable {α : Type} [Inhabited α]
/-- Block g holds a slice that owns a row of these elements. -/
def HRep (VT E sz B g N : Nat) (EK : World → α → List Value → Prop) (w : World) (xs : List α) : Prop :=
  ∃ V inner, w.heap[g]? = some (.cells #[V] VT (0, 0)) ∧ w.ownsRow B E sz V xs.length inner ∧ Reps (EK w) sz xs inner ∧ xs.length ≤ N ∧ B ≤ w.heap.size
structure HTy (VT E sz B g N T fl fe fs : Nat) (less : α → α → Bool) (Good : α → Prop) (EK : World → α → List Value → Prop) : Prop where
  ne : E ≠ VT
  pos : 0 < sz
  big : N < 1000000000000
  one : ∀ w p cs, EK w p cs → ∀ u ∈ cs, u.oneCell' = true
  st : ∀ w w' p cs, FrH E B g w w' → EK w p cs → EK w' p cs
  un : Try.prog.underlying T = some (.pointer VT)
  ld : ∀ w A n c, w.cell? ⟨g, 0, none⟩ = some (.slice A n c) → Sem.run Try.prog (loadVar VT ⟨g, 0, none⟩) w = .ok (.slice A n c) w
  f1 : found Try.prog T "Len" = some (#[], some (fl, false))
  f2 : found Try.prog T "Less" = some (#[], some (fe, false))
  f3 : found Try.prog T "Swap" = some (#[], some (fs, false))
  c1 : ∀ x w, Sem.run Try.prog (callFunc fl #[x]) w = .ok (.enter fl #[x]) w
  c2 : ∀ x y z w, Sem.run Try.prog (callFunc fe #[x, y, z]) w = .ok (.enter fe #[x, y, z]) w
  c3 : ∀ x y z w, Sem.run Try.prog (callFunc fs #[x, y, z]) w = .ok (.enter fs #[x, y, z]) w
  len : ∀ w A (n : Nat) c, Calls Try.prog fl #[.slice A n c] w fun e w' => e = .returned (.int .i64 (n : Int)) ∧ Below w.heap.size w w'
  less : ∀ w A c (xs : List α) (i j : Int), ReadsRow (EK w) sz w A xs.length xs → xs.length ≤ c → 0 ≤ i → i < xs.length → 0 ≤ j → j < xs.length → Good (el xs i.toNat) → Good (el xs j.toNat) →
    Calls Try.prog fe #[.slice A xs.length c, .int .i64 i, .int .i64 j] w fun e w' => e = .returned (.bool (less (el xs i.toNat) (el xs j.toNat))) ∧ Below w.heap.size w w'
  swap : ∀ (w : World) (b n cap : Nat) (cs : List Value), w.ownsRow B E sz (.slice (some ⟨b, 0, none⟩) n cap) n cs → ∀ (i j : Int), 0 ≤ i → i < n → 0 ≤ j → j < n → (∀ u ∈ cs, u.oneCell' = true) →
    Calls Try.prog fs #[.slice (some ⟨b, 0, none⟩) n cap, .int .i64 i, .int .i64 j] w fun e w' => e = .returned (.tuple #[]) ∧ w'.ownsRow B E sz (.slice (some ⟨b, 0, none⟩) n cap) n (swapC sz cs i.toNat j.toNat) ∧ w.grownBy w' (some b)
variable {VT E sz B g N T fl fe fs : Nat} {less : α → α → Bool} {Good : α → Prop} {EK : World → α → List Value → Prop}
theorem HRep.fr (h : HTy VT E sz B g N T fl fe fs less Good EK) {w w' : World} {xs : List α} (hR : HRep VT E sz B g N EK w xs) (hb : Below w.heap.size w w') : HRep VT E sz B g N EK w' xs := by
  obtain ⟨V, inner, h1, h2, h3, h4, h5⟩ := hR
  have hlt : g < w.heap.size := (Array.getElem?_eq_some_iff.1 h1).1
  exact ⟨V, inner, by rw [hb.block g hlt]; exact h1, pw_own_below h2 hb, h3.imp_ fun p c hp => h.st w w' p c (FrH.of_below hb) hp, h4, Nat.le_trans h5 hb.size⟩
theorem heapI_of (h : HTy VT E sz B g N T fl fe fs less Good EK) : HeapI T g less Good (HRep VT E sz B g N EK) (FrH E B g) where
  rfl_ := FrH.refl E B g
  tr := fun _ _ _ => FrH.trans
  small := fun w xs ⟨_, _, _, _, _, h4, _⟩ => Nat.lt_of_le_of_lt h4 h.big
  len := by
    intro w xs hR
    obtain ⟨V, inner, h1, h2, h3, h4, h5⟩ := hR
    obtain ⟨A, c, rfl⟩ := own_slice h2
    refine ⟨fl, .slice A xs.length c, method_val g w _ h.f1 h.un (h.ld _ _ _ _ (blk_cell h1 0)), h.c1 _ _, ?_⟩
    refine (h.len w A xs.length c).mono ?_
    rintro e w' ⟨rfl, hb⟩
    exact ⟨rfl, HRep.fr h ⟨_, inner, h1, h2, h3, h4, h5⟩ hb, FrH.of_below hb⟩
  less_ := by
    intro w xs i j hR hi0 hi1 hj0 hj1 hg1 hg2
    obtain ⟨V, inner, h1, h2, h3, h4, h5⟩ := hR
    obtain ⟨A, c, rfl, hr⟩ := own_reads_row h2 h3 rfl
    have hle := own_le h2
    refine ⟨fe, .slice A xs.length c, method_val g w _ h.f2 h.un (h.ld _ _ _ _ (blk_cell h1 0)), h.c2 _ _ _ _, ?_⟩
    refine (h.less w A c xs i j hr hle hi0 hi1 hj0 hj1 hg1 hg2).mono ?_
    rintro e w' ⟨rfl, hb⟩
    exact ⟨rfl, HRep.fr h ⟨_, inner, h1, h2, h3, h4, h5⟩ hb, FrH.of_below hb⟩
  swap_ := by
    intro w xs i j hR hi0 hi1 hj0 hj1
    obtain ⟨V, inner, h1, h2, h3, h4, h5⟩ := hR
    have hn : 0 < xs.length := by omega
    obtain ⟨b, cap, rfl, hrest⟩ := h2.form hn
    have hone := Reps_one h.pos h3 (h.one w)
    refine ⟨fs, .slice (some ⟨b, 0, none⟩) xs.length cap, method_val g w _ h.f3 h.un (h.ld _ _ _ _ (blk_cell h1 0)), h.c3 _ _ _ _, ?_⟩
    refine (h.swap w b xs.length cap inner h2 i j hi0 hi1 hj0 hj1 hone).mono ?_
    rintro e w' ⟨rfl, ho, hg⟩
    have hf : FrH E B g w w' := FrH.of_grown h2 hg
    have hne : some g ≠ (Value.slice (some ⟨b, 0, none⟩) xs.length cap).ownBlock := own_ne h2 h1 h.ne
    have hsw := Reps_swap h.pos h3 (i := i.toNat) (j := j.toNat) (by omega) (by omega)
    refine ⟨rfl, ⟨_, _, blk_grown h1 hg hne, by rw [swapL_length]; exact ho, hsw.imp_ fun p c hp => h.st w w' p c hf hp, by rw [swapL_length]; exact h4, Nat.le_trans h5 hg.size⟩, hf⟩
end Hp
end Go.Proofs.Ythehkmpameeofaa.P

namespace Go.Proofs.Ythehkmpameeofaa.P
open Go.RowKit Go.Proofs.YthehkmpameeofaaW.PrintWords Go.Proofs.YthehkmpameeofaaW.PrintLast Go.Proofs.YthehkmpameeofaaW.PrintMore
set_option linter.unusedVariables false
set_option linter.unusedSimpArgs false
namespace Hp
variable {α : Type} [Inhabited α] {VT E sz B g N T fl fe fs : Nat} {less : α → α → Bool} {Good : α → Prop} {EK : World → α → List Value → Prop}
theorem hrep_push (h : HTy VT E sz B g N T fl fe fs less Good EK) (fp : Nat) (f4 : found Try.prog T "Push" = some (#[], some (fp, true)))
    (c4 : ∀ x y w, Sem.run Try.prog (callFunc fp #[x, y]) w = .ok (.enter fp #[x, y]) w) {w : World} {xs : List α} (hR : HRep VT E sz B g N EK w xs) (hN : xs.length + 1 ≤ N) (x : Value) (a : α) (cs : List Value) (hEK : EK w a cs) (hlen : cs.length = sz)
    (hp : ∀ (V : Value) (inner : List Value), w.heap[g]? = some (.cells #[V] VT (0, 0)) → w.ownsRow B E sz V xs.length inner → Calls Try.prog fp #[.pointer (some ⟨g, 0, none⟩), x] w fun e w' => e = .returned (.tuple #[]) ∧ ∃ V', w'.heap[g]? = some (.cells #[V'] VT (0, 0)) ∧ w'.ownsRow B E sz V' (xs.length + 1) (inner ++ cs) ∧ KeepBut w w' g V.ownBlock ∧ Rest w w') :
    Meth1 T g "Push" x w fun e w' => e = .returned (.tuple #[]) ∧ HRep VT E sz B g N EK w' (xs ++ [a]) ∧ FrH E B g w w' := by
  obtain ⟨V, inner, h1, h2, h3, h4, h5⟩ := hR
  refine ⟨fp, .pointer (some ⟨g, 0, none⟩), method_ptr g w f4 h.un, c4 _ _ _, ?_⟩
  refine (hp V inner h1 h2).mono ?_
  rintro e w' ⟨rfl, V', g1, g2, g3, g4⟩
  have hf : FrH E B g w w' := FrH.of_keep h2 g3 g4
  refine ⟨rfl, ⟨V', inner ++ cs, g1, by rw [List.length_append]; exact g2, ?_, by rw [List.length_append]; exact hN, Nat.le_trans h5 g3.1⟩, hf⟩
  exact (h3.imp_ fun p c hp => h.st w w' p c hf hp).snoc (h.st w w' a cs hf hEK) hlen

omit [Inhabited α] in
theorem Reps_dropLast {R : α → List Value → Prop} {xs : List α} {cs : List Value} {m : Nat} (hm : xs.length = m + 1) (h : Reps R sz xs cs) : Reps R sz xs.dropLast (cs.take (m * sz)) := by
  have hl : cs.length = (m + 1) * sz := by rw [h.1, hm]
  have hms : m * sz ≤ cs.length := by rw [hl, Nat.add_mul]; omega
  refine ⟨by rw [List.length_take, List.length_dropLast, hm]; simp only [Nat.add_sub_cancel]; omega, fun j p hj => ?_⟩
  have hjm : j < m := by
    have := (List.getElem?_eq_some_iff.1 hj).1
    rw [List.length_dropLast] at this
    omega
  have hj2 : xs[j]? = some p := by
    rw [List.dropLast_eq_take, List.getElem?_take, if_pos (by omega)] at hj
    exact hj
  have := h.2 j p hj2
  rw [List.drop_take, List.take_take]
  have hle : j * sz + sz ≤ m * sz := by
    have : (j + 1) * sz ≤ m * sz := Nat.mul_le_mul_right sz (by omega)
    rwa [Nat.add_mul, Nat.one_mul] at this
  rwa [Nat.min_eq_left (by omega)]
theorem hrep_pop (h : HTy VT E sz B g N T fl fe fs less Good EK) (fp : Nat) (f5 : found Try.prog T "Pop" = some (#[], some (fp, true)))
    (c5 : ∀ x w, Sem.run Try.prog (callFunc fp #[x]) w = .ok (.enter fp #[x]) w)
    (hp : ∀ (w : World) (b m cap : Nat) (inner : List Value), w.heap[g]? = some (.cells #[.slice (some ⟨b, 0, none⟩) (m + 1) cap] VT (0, 0)) → w.ownsRow B E sz (.slice (some ⟨b, 0, none⟩) (m + 1) cap) (m + 1) inner → (∀ u ∈ inner, u.oneCell' = true) →
      Calls Try.prog fp #[.pointer (some ⟨g, 0, none⟩)] w fun e w' => e = .returned (.iface E (.agg ((inner.drop (m * sz)).take sz).toArray)) ∧ w'.heap[g]? = some (.cells #[.slice (some ⟨b, 0, none⟩) m cap] VT (0, 0)) ∧ w'.ownsRow B E sz (.slice (some ⟨b, 0, none⟩) m cap) m (inner.take (m * sz)) ∧ KeepBut w w' g none ∧ Rest w w') :
    ∀ w1 (ys : List α), HRep VT E sz B g N EK w1 ys → 0 < ys.length → Meth0 T g "Pop" w1 fun e w' => ∃ v, e = .returned v ∧ (∃ cs, EK w' (el ys (ys.length - 1)) cs ∧ v = .iface E (.agg cs.toArray)) ∧ HRep VT E sz B g N EK w' ys.dropLast ∧ FrH E B g w1 w' := by
  intro w ys hR hn
  obtain ⟨V, inner, h1, h2, h3, h4, h5⟩ := hR
  obtain ⟨m, hm⟩ : ∃ m, ys.length = m + 1 := ⟨ys.length - 1, by omega⟩
  obtain ⟨b, cap, rfl, _⟩ := h2.form hn
  have hone := Reps_one h.pos h3 (h.one w)
  rw [hm] at h1 h2
  refine ⟨fp, .pointer (some ⟨g, 0, none⟩), method_ptr g w f5 h.un, c5 _ _, ?_⟩
  refine (hp w b m cap inner h1 h2 hone).mono ?_
  rintro e w' ⟨rfl, g1, g2, g3, g4⟩
  have hf : FrH E B g w w' := FrH.of_keep h2 (keep_weak g3 _) g4
  refine ⟨_, rfl, ⟨_, h.st w w' _ _ hf (h3.2 m _ (by rw [show ys.length - 1 = m by omega]; exact el_eq (by omega))), rfl⟩, ⟨_, _, g1, by rw [List.length_dropLast, hm]; exact g2, ?_, by rw [List.length_dropLast]; omega, Nat.le_trans h5 g3.1⟩, hf⟩
  exact (Reps_dropLast hm h3).imp_ fun p c hp => h.st w w' p c hf hp
theorem chunk_two {cs : List Value} {m : Nat} (h : cs.length = (m + 1) * 2) : (cs.drop (m * 2)).take 2 = [cs.getD (m * 2) undef, cs.getD (m * 2 + 1) undef] := by
  apply List.ext_getElem?
  intro t
  match t with
  | 0 => rw [chunk_get (by decide)]; simp [List.getD_eq_getElem?_getD, List.getElem?_eq_getElem (show m * 2 < cs.length by omega)]
  | 1 => rw [chunk_get (by decide)]; simp [List.getD_eq_getElem?_getD, List.getElem?_eq_getElem (show m * 2 + 1 < cs.length by omega)]
  | t + 2 => rw [List.getElem?_take, if_neg (by omega)]; simp
end Hp
end Go.Proofs.Ythehkmpameeofaa.P

namespace Go.Proofs.Ythehkmpameeofaa.P
open Go.RowKit Go.Proofs.YthehkmpameeofaaW.PrintWords Go.Proofs.YthehkmpameeofaaW.PrintLast Go.Proofs.YthehkmpameeofaaW.PrintMore
set_option linter.unusedVariables false
set_option linter.unusedSimpArgs false
namespace Hp
set_option maxHeartbeats 8000000 in
set_option maxRecDepth 100000 in
theorem Voices_Swap (w : World) (base b n cap : Nat) (xs : List Value) (h : w.ownsRow base 54 2 (.slice (some ⟨b, 0, none⟩) n cap) n xs) (i j : Int) (hi0 : 0 ≤ i) (hi1 : i < n) (hj0 : 0 ≤ j) (hj1 : j < n) (hone : ∀ u ∈ xs, u.oneCell' = true) :
    Calls Try.prog 121 #[.slice (some ⟨b, 0, none⟩) n cap, .int .i64 i, .int .i64 j] w fun e w' => e = .returned (.tuple #[]) ∧ w'.ownsRow base 54 2 (.slice (some ⟨b, 0, none⟩) n cap) n (swapC 2 xs i.toNat j.toNat) ∧ w.grownBy w' (some b) := by
  have hl : xs.length = n * 2 := h.1
  obtain ⟨pc0, pf0⟩ := own_cell h (i.toNat * 2) (by omega)
  obtain ⟨pc1, pf1⟩ := own_cell h (i.toNat * 2 + 1) (by omega)
  obtain ⟨qc0, qf0⟩ := own_cell h (j.toNat * 2) (by omega)
  obtain ⟨qc1, qf1⟩ := own_cell h (j.toNat * 2 + 1) (by omega)
  have po0 := getD_one hone (i.toNat * 2) (by omega)
  have po1 := getD_one hone (i.toNat * 2 + 1) (by omega)
  have qo0 := getD_one hone (j.toNat * 2) (by omega)
  have qo1 := getD_one hone (j.toNat * 2 + 1) (by omega)
  have ps0 := fun W a => run_store Try.prog W a _ .plain po0
  have ps1 := fun W a => run_store Try.prog W a _ .plain po1
  have qs0 := fun W a => run_store Try.prog W a _ .plain qo0
  have qs1 := fun W a => run_store Try.prog W a _ .plain qo1
  have HO := Aside0.mk h
  have HL := Aside0.mk hl
  clear h hl hone po0 po1 qo0 qo1
  rw [← sets_swap (sz := 2) (by decide) HL.out (show i.toNat < n by omega) (show j.toNat < n by omega)]
  show Calls _ _ _ _ fun e w' => e = .returned (.tuple #[]) ∧ w'.ownsRow base 54 2 (.slice (some ⟨b, 0, none⟩) n cap) n (setsL xs [(i.toNat * 2, xs.getD (j.toNat * 2) undef), (i.toNat * 2 + 1, xs.getD (j.toNat * 2 + 1) undef), (j.toNat * 2, xs.getD (i.toNat * 2) undef), (j.toNat * 2 + 1, xs.getD (i.toNat * 2 + 1) undef)]) ∧ w.grownBy w' (some b)
  generalize xs.getD (i.toNat * 2) undef = px0 at *
  generalize xs.getD (i.toNat * 2 + 1) undef = px1 at *
  generalize xs.getD (j.toNat * 2) undef = qx0 at *
  generalize xs.getD (j.toNat * 2 + 1) undef = qx1 at *
  by_cases hij : i = j
  · subst hij
    go_enter Try.func121, Try.ntmps121
    go_wp2
    go_region
    go_end0
    refine ⟨rfl, ?_⟩
    obtain rfl : qx0 = px0 := Option.some.inj (qc0.symm.trans pc0)
    obtain rfl : qx1 = px1 := Option.some.inj (qc1.symm.trans pc1)
    exact own_sets HO.out [(i.toNat * 2, qx0), (i.toNat * 2 + 1, qx1), (i.toNat * 2, qx0), (i.toNat * 2 + 1, qx1)]
  · have n1 : ¬ i.toNat = j.toNat := by omega
    have n2 : ¬ j.toNat = i.toNat := by omega
    clear hij
    go_enter Try.func121, Try.ntmps121
    go_wp2
    go_region
    go_end0
    refine ⟨rfl, ?_⟩
    exact own_sets HO.out [(i.toNat * 2, qx0), (i.toNat * 2 + 1, qx1), (j.toNat * 2, px0), (j.toNat * 2 + 1, px1)]
theorem Voices_info : (Try.prog.info? 54).map (fun i => (i.zero, i.size, i.bytes)) = some (some (.agg #[.slice none 0 0, .int .i64 0]), 2, 32) := by kernel_rfl
set_option maxHeartbeats 8000000 in
set_option maxRecDepth 100000 in
theorem Voices_Push (w : World) (base g n : Nat) (V : Value) (xs : List Value) (hg : w.heap[g]? = some (.cells #[V] 50 (0, 0))) (h : w.ownsRow base 54 2 V n xs) (hb : base ≤ w.heap.size) (u0 u1 : Value) (ho0 : u0.oneCell' = true) (ho1 : u1.oneCell' = true) (hn : (n + 1) * 32 ≤ 140737488355328) :
    Calls Try.prog 124 #[.pointer (some ⟨g, 0, none⟩), .iface 54 (.agg #[u0, u1])] w fun e w' => e = .returned (.tuple #[]) ∧ ∃ V', w'.heap[g]? = some (.cells #[V'] 50 (0, 0)) ∧ w'.ownsRow base 54 2 V' (n + 1) (xs ++ [u0, u1]) ∧ KeepBut w w' g V.ownBlock ∧ Rest w w' := by
  have hne : w.heap.size ≠ g := fun e => by subst e; simp at hg
  obtain ⟨A_, c_, hV⟩ := own_slice h
  have hc := blk_cell hg 0
  have hf := blk_frozen hg 0
  have hs0 := fun W a => run_store Try.prog W a _ .plain ho0
  have hs1 := fun W a => run_store Try.prog W a _ .plain ho1
  have HG := Aside0.mk hg
  have HO := Aside0.mk h
  have HN := Aside0.mk hn
  clear hg h hn
  subst hV
  replace hc : w.cell? ⟨g, 0, none⟩ = some (.slice A_ n c_) := hc
  have hta : ∀ W, Sem.run Try.prog (Instr.typeAssert (Value.iface 54 (.agg #[u0, u1])) 20 54 true) W = .ok (.tuple #[.agg #[u0, u1], .bool true]) W := fun W => by kernel_rfl
  go_enter Try.func124, Try.ntmps124
  go_wp2
  have hne2 : some g ≠ (Value.slice A_ n c_).ownBlock := own_ne HO.out HG.out (by decide)
  have hW1 : (w.alloc (Obj.cells #[u0, u1] 54)).cell? ⟨g, 0, none⟩ = some (.slice A_ n c_) := pw_cell_below (below_alloc (Below.refl _ _) _) hc
  have hW20 : (w.alloc (Obj.cells #[u0, u1] 54)).cell? ⟨w.heap.size, 0, none⟩ = some u0 := (blk_cell (blk_new w _) 0).trans rfl
  have hW21 : (w.alloc (Obj.cells #[u0, u1] 54)).cell? ⟨w.heap.size, 1, none⟩ = some u1 := (blk_cell (blk_new w _) 1).trans rfl
  have hO1 : (w.alloc (Obj.cells #[u0, u1] 54)).ownsRow base 54 2 (.slice A_ n c_) n xs := HO.out.alloc _
  have hG1 : (w.alloc (Obj.cells #[u0, u1] 54)).heap[g]? = some (.cells #[.slice A_ n c_] 50 (0, 0)) := blk_alloc HG.out _
  have hb1 : base ≤ (w.alloc (Obj.cells #[u0, u1] 54)).heap.size := by have := (below_alloc (Below.refl w.heap.size w) (Obj.cells #[u0, u1] 54)).size; omega
  have HK1 := Aside0.mk (keep_alloc (KeepBut.refl w g none) (Obj.cells #[u0, u1] 54))
  have HS1 := Aside0.mk (below_alloc (Below.refl w.heap.size w) (Obj.cells #[u0, u1] 54))
  generalize w.alloc (Obj.cells #[u0, u1] 54) = W1 at *
  have HO1 := Aside0.mk hO1
  have HG1 := Aside0.mk hG1
  have HB1 := Aside0.mk hb1
  have hf1 := blk_frozen hG1 0
  clear hO1 hG1 hb1 hc hf hta
  have hone : ∀ u ∈ ([u0, u1] : List Value), u.oneCell' = true := by simp [ho0, ho1]
  have HONE := Aside0.mk hone
  clear hone ho0 ho1
  refine start_ (n := 9) (S := fun w' => w'.cell? ⟨g, 0, none⟩ = some (.slice A_ n c_) ∧ w'.cell? ⟨w.heap.size, 0, none⟩ = some u0 ∧ w'.cell? ⟨w.heap.size, 1, none⟩ = some u1) (ds := [6, 8]) #[false, false, false, false, false, false, false, false, false] (by kernel_rfl) rfl rfl ⟨hW1, hW20, hW21⟩ (fun hHeld => ?_)
  refine pure_ (i := 0) (N := some 12) (v := ?_) (a' := ?_) #[true, false, false, false, false, false, false, false, false] rfl rfl (by kernel_rfl) (fun _ _ _ h => h) (Or.inl ⟨by rfl, ?_⟩) ?_ ?_
  rotate_left
  · intro w'
    go_simp
    with_reducible rfl
  rotate_left
  · simp only [Act.put, List.setIfInBounds_toArray, List.set_cons_zero, List.set_cons_succ, i64_w, i32_w]
    rfl
  refine pure_ (i := 1) (N := some 13) (v := ?_) (a' := ?_) #[true, true, false, false, false, false, false, false, false] rfl rfl (by kernel_rfl) (fun _ _ _ h => h) (Or.inl ⟨by rfl, ?_⟩) ?_ ?_
  rotate_left
  · intro w'
    go_simp
    with_reducible rfl
  rotate_left
  · simp only [Act.put, List.setIfInBounds_toArray, List.set_cons_zero, List.set_cons_succ, i64_w, i32_w]
    rfl
  refine pure_ (i := 2) (N := some 14) (v := ?_) (a' := ?_) #[true, true, true, false, false, false, false, false, false] rfl rfl (by kernel_rfl) (fun _ _ _ h => h) (Or.inl ⟨by rfl, ?_⟩) ?_ ?_
  rotate_left
  · intro w'
    go_simp
    with_reducible rfl
  rotate_left
  · simp only [Act.put, List.setIfInBounds_toArray, List.set_cons_zero, List.set_cons_succ, i64_w, i32_w]
    rfl
  refine take_ (i := 3) (N := some 15) (v := ?_) (a' := ?_) #[true, true, true, true, false, false, false, false, false] rfl rfl (by kernel_rfl) (fun _ _ _ h => h) (Or.inl ⟨by rfl, ?_⟩) hHeld ?_ ?_
  rotate_left
  · rintro w' ⟨s0, s1, s2⟩
    go_simp
    with_reducible rfl
  rotate_left
  · simp only [Act.put, List.setIfInBounds_toArray, List.set_cons_zero, List.set_cons_succ, i64_w, i32_w]
    rfl
  refine take_ (i := 4) (N := some 16) (v := ?_) (a' := ?_) #[true, true, true, true, true, false, false, false, false] rfl rfl (by kernel_rfl) (fun _ _ _ h => h) (Or.inl ⟨by rfl, ?_⟩) hHeld ?_ ?_
  rotate_left
  · rintro w' ⟨s0, s1, s2⟩
    go_simp
    with_reducible rfl
  rotate_left
  · simp only [Act.put, List.setIfInBounds_toArray, List.set_cons_zero, List.set_cons_succ, i64_w, i32_w]
    rfl
  refine one_ (i := 5) (N := some 17) #[true, true, true, true, true, true, false, false, false] rfl rfl (by kernel_rfl) (by decide) (fun K hK => ?_)
  refine value_ (w1 := ?_) (v := ?_) (by rfl) rfl ?_ ?_
  rotate_left 2
  · go_simp
    constructor
    · rfl
    · rfl
  refine hK.out _ _ ⟨pw_cell_below (below_alloc (Below.refl _ _) _) (hHeld.1), pw_cell_below (below_alloc (Below.refl _ _) _) (hHeld.2.1), pw_cell_below (below_alloc (Below.refl _ _) _) (hHeld.2.2)⟩ (fun hHeld => ?_)
  clear hK K
  refine norm_ (a' := ?_) ?_ ?_
  rotate_left
  · show Act.put _ (some 17) _ = _
    simp only [Act.put, List.setIfInBounds_toArray, List.set_cons_zero, List.set_cons_succ, i64_w, i32_w]
    rfl
  refine last_ (i := 6) (N := some 18) #[true, true, true, true, true, true, true, false, false] rfl rfl (by kernel_rfl) (by decide) (fun K hK => ?_)
  refine step_append_cells (w0 := W1) (W := W1.drew) base (by rfl) (.tmp 15) (.tmp 17) 50 54 (.agg #[.slice none 0 0, .int .i64 0]) 2 32 rfl Try.underlying50 Voices_info rfl (by decide) (by decide) (.slice A_ n c_) n xs [u0, u1] rfl rfl rfl HONE.out HO1.out (below_drew (Below.mono (Below.refl W1.heap.size W1) HB1.out)) HB1.out HN.out ?_
  intro v1 w2 ho hb hg hat
  obtain ⟨A1, c1, rfl⟩ := own_slice ho
  replace hg : W1.grownBy w2 (Value.slice A_ n c_).ownBlock := ⟨hg.os, hg.tape, hg.output, hg.size, hg.block⟩
  have hG2 := blk_grown (g := g) HG1.out hg hne2
  have hc2 : w2.cell? ⟨g, 0, none⟩ = some (.slice A_ n c_) := blk_cell hG2 0
  have hf2 := blk_frozen hG2 0
  have HO2 := Aside0.mk ho
  have HB2 := Aside0.mk hb
  have HG2 := Aside0.mk hG2
  have HR2 := Aside0.mk hg
  clear ho hb hg hat hG2
  refine hK.out _ _ ?_
  clear hK K
  refine norm_ (a' := ?_) ?_ ?_
  rotate_left
  · show Act.put _ (some 18) _ = _
    simp only [Act.put, List.setIfInBounds_toArray, List.set_cons_zero, List.set_cons_succ, i64_w, i32_w]
    rfl
  refine pure_ (i := 7) (N := some 19) (v := ?_) (a' := ?_) #[true, true, true, true, true, true, true, true, false] rfl rfl (by kernel_rfl) (fun _ _ _ h => h) (Or.inl ⟨by rfl, ?_⟩) ?_ ?_
  rotate_left
  · intro w'
    go_simp
    with_reducible rfl
  rotate_left
  · simp only [Act.put, List.setIfInBounds_toArray, List.set_cons_zero, List.set_cons_succ, i64_w, i32_w]
    rfl
  refine last_ (i := 8) (N := none) #[true, true, true, true, true, true, true, true, true] rfl rfl (by kernel_rfl) (by decide) (fun K hK => ?_)
  refine skip_ (w1 := ?_) (by rfl) rfl ?_ ?_
  rotate_left
  · go_simp
    rfl
  refine hK.out _ _ ?_
  clear hK K
  refine done_ (by kernel_rfl) ?_

  go_end0
  refine ⟨rfl, _, (by simpa using blk_set HG2.out 0 (.slice A1 (n + 1) c1)), own_put HO2.out (own_ne HO2.out HG2.out (by decide)) _, ?_, ?_⟩
  · exact keep_same (keep_same (keep_weak HK1.out _) (KeepBut.of_grown HR2.out g)) (KeepBut.set_ (KeepBut.refl _ g _) 0 _)
  · exact ((Rest.of_below HS1.out).trans (Rest.of_grown HR2.out)).trans (Rest.put _ _ _)
set_option maxHeartbeats 8000000 in
set_option maxRecDepth 100000 in
theorem Voices_Pop (w : World) (base g b m cap : Nat) (xs : List Value) (hg : w.heap[g]? = some (.cells #[.slice (some ⟨b, 0, none⟩) (m + 1) cap] 50 (0, 0))) (h : w.ownsRow base 54 2 (.slice (some ⟨b, 0, none⟩) (m + 1) cap) (m + 1) xs) (hone : ∀ u ∈ xs, u.oneCell' = true) :
    Calls Try.prog 123 #[.pointer (some ⟨g, 0, none⟩)] w fun e w' => e = .returned (.iface 54 (.agg #[xs.getD (m * 2) undef, xs.getD (m * 2 + 1) undef])) ∧ w'.heap[g]? = some (.cells #[.slice (some ⟨b, 0, none⟩) m cap] 50 (0, 0)) ∧ w'.ownsRow base 54 2 (.slice (some ⟨b, 0, none⟩) m cap) m (xs.take (m * 2)) ∧ KeepBut w w' g none ∧ Rest w w' := by
  have hl : xs.length = (m + 1) * 2 := h.1
  have hne : w.heap.size ≠ g := fun e => by subst e; simp at hg
  have hne' : g ≠ w.heap.size := fun e => hne e.symm
  have hnb : b ≠ w.heap.size := by
    intro e
    have := (h.lt b rfl).2
    omega
  have hc : w.cell? ⟨g, 0, none⟩ = some (.slice (some ⟨b, 0, none⟩) (m + 1) cap) := blk_cell hg 0
  have hf := blk_frozen hg 0
  have hcap := own_le h
  have hmax : m + 1 ≤ 9223372036854775807 := own_max h
  obtain ⟨pc0, pf0⟩ := own_cell h (m * 2) (by omega)
  obtain ⟨pc1, pf1⟩ := own_cell h (m * 2 + 1) (by omega)
  have po0 := getD_one hone (m * 2) (by omega)
  have po1 := getD_one hone (m * 2 + 1) (by omega)
  have ps0 := fun W a => run_store Try.prog W a _ .plain po0
  have ps1 := fun W a => run_store Try.prog W a _ .plain po1
  have HO := Aside0.mk h
  have HG := Aside0.mk hg
  clear h hg hl hone po0 po1
  generalize xs.getD (m * 2) undef = px0 at *
  generalize xs.getD (m * 2 + 1) undef = px1 at *
  have ew : IntKind.i64.wrap (m : Int) = (m : Int) := IntWalk.i64_in _ (by omega)
  have ew2 : IntKind.i64.wrap ((m : Int) + 1 - 1) = (m : Int) := by rw [show (m : Int) + 1 - 1 = (m : Int) by omega]; exact ew
  have e1 : (m : Int) < (m : Int) + 1 := by omega
  have e2 : (m : Int) ≤ (cap : Int) := by omega
  have e3 : m ≤ cap := by omega
  have HL := Aside0.mk hmax
  clear hmax hcap
  go_enter Try.func123, Try.ntmps123
  go_wp2
  refine start_ (n := 12) (S := fun w' => w'.cell? ⟨g, 0, none⟩ = some (.slice (some ⟨b, 0, none⟩) (m + 1) cap) ∧ w'.cell? ⟨b, (m * 2), none⟩ = some px0 ∧ w'.cell? ⟨b, (m * 2 + 1), none⟩ = some px1) (ds := [11]) #[false, false, false, false, false, false, false, false, false, false, false, false] (by kernel_rfl) rfl rfl ⟨hc, pc0, pc1⟩ (fun hHeld => ?_)
  refine pure_ (i := 0) (N := some 4) (v := ?_) (a' := ?_) #[true, false, false, false, false, false, false, false, false, false, false, false] rfl rfl (by kernel_rfl) (fun _ _ _ h => h) (Or.inl ⟨by rfl, ?_⟩) ?_ ?_
  rotate_left
  · intro w'
    go_simp
    with_reducible rfl
  rotate_left
  · simp only [Act.put, List.setIfInBounds_toArray, List.set_cons_zero, List.set_cons_succ, i64_w, i32_w]
    rfl
  refine pure_ (i := 1) (N := some 5) (v := ?_) (a' := ?_) #[true, true, false, false, false, false, false, false, false, false, false, false] rfl rfl (by kernel_rfl) (fun _ _ _ h => h) (Or.inl ⟨by rfl, ?_⟩) ?_ ?_
  rotate_left
  · intro w'
    go_simp
    with_reducible rfl
  rotate_left
  · simp only [Act.put, List.setIfInBounds_toArray, List.set_cons_zero, List.set_cons_succ, i64_w, i32_w]
    rfl
  refine pure_ (i := 3) (N := some 7) (v := ?_) (a' := ?_) #[true, true, false, true, false, false, false, false, false, false, false, false] rfl rfl (by kernel_rfl) (fun _ _ _ h => h) (Or.inl ⟨by rfl, ?_⟩) ?_ ?_
  rotate_left
  · intro w'
    go_simp
    with_reducible rfl
  rotate_left
  · simp only [Act.put, List.setIfInBounds_toArray, List.set_cons_zero, List.set_cons_succ, i64_w, i32_w]
    rfl
  refine pure_ (i := 4) (N := some 8) (v := ?_) (a' := ?_) #[true, true, false, true, true, false, false, false, false, false, false, false] rfl rfl (by kernel_rfl) (fun _ _ _ h => h) (Or.inl ⟨by rfl, ?_⟩) ?_ ?_
  rotate_left
  · intro w'
    go_simp
    with_reducible rfl
  rotate_left
  · simp only [Act.put, List.setIfInBounds_toArray, List.set_cons_zero, List.set_cons_succ, i64_w, i32_w]
    rfl
  refine take_ (i := 2) (N := some 6) (v := ?_) (a' := ?_) #[true, true, true, true, true, false, false, false, false, false, false, false] rfl rfl (by kernel_rfl) (fun _ _ _ h => h) (Or.inl ⟨by rfl, ?_⟩) hHeld ?_ ?_
  rotate_left
  · rintro w' ⟨s0, s1, s2⟩
    go_simp
    with_reducible rfl
  rotate_left
  · simp only [Act.put, List.setIfInBounds_toArray, List.set_cons_zero, List.set_cons_succ, i64_w, i32_w]
    rfl
  refine take_ (i := 5) (N := some 9) (v := ?_) (a' := ?_) #[true, true, true, true, true, true, false, false, false, false, false, false] rfl rfl (by kernel_rfl) (fun _ _ _ h => h) (Or.inl ⟨by rfl, ?_⟩) hHeld ?_ ?_
  rotate_left
  · rintro w' ⟨s0, s1, s2⟩
    go_simp
    with_reducible rfl
  rotate_left
  · simp only [Act.put, List.setIfInBounds_toArray, List.set_cons_zero, List.set_cons_succ, i64_w, i32_w]
    rfl
  refine pure_ (i := 6) (N := some 10) (v := ?_) (a' := ?_) #[true, true, true, true, true, true, true, false, false, false, false, false] rfl rfl (by kernel_rfl) (fun _ _ _ h => h) (Or.inl ⟨by rfl, ?_⟩) ?_ ?_
  rotate_left
  · intro w'
    go_simp
    with_reducible rfl
  rotate_left
  · simp only [Act.put, List.setIfInBounds_toArray, List.set_cons_zero, List.set_cons_succ, i64_w, i32_w]
    rfl
  refine pure_ (i := 7) (N := some 11) (v := ?_) (a' := ?_) #[true, true, true, true, true, true, true, true, false, false, false, false] rfl rfl (by kernel_rfl) (fun _ _ _ h => h) (Or.inl ⟨by rfl, ?_⟩) ?_ ?_
  rotate_left
  · intro w'
    go_simp
    with_reducible rfl
  rotate_left
  · simp only [Act.put, List.setIfInBounds_toArray, List.set_cons_zero, List.set_cons_succ, i64_w, i32_w]
    rfl
  refine pure_ (i := 8) (N := some 12) (v := ?_) (a' := ?_) #[true, true, true, true, true, true, true, true, true, false, false, false] rfl rfl (by kernel_rfl) (fun _ _ _ h => h) (Or.inl ⟨by rfl, ?_⟩) ?_ ?_
  rotate_left
  · intro w'
    go_simp
    with_reducible rfl
  rotate_left
  · simp only [Act.put, List.setIfInBounds_toArray, List.set_cons_zero, List.set_cons_succ, i64_w, i32_w]
    rfl
  refine take_ (i := 9) (N := some 13) (v := ?_) (a' := ?_) #[true, true, true, true, true, true, true, true, true, true, false, false] rfl rfl (by kernel_rfl) (fun _ _ _ h => h) (Or.inl ⟨by rfl, ?_⟩) hHeld ?_ ?_
  rotate_left
  · rintro w' ⟨s0, s1, s2⟩
    go_simp
    with_reducible rfl
  rotate_left
  · simp only [Act.put, List.setIfInBounds_toArray, List.set_cons_zero, List.set_cons_succ, i64_w, i32_w]
    rfl
  refine one_ (i := 10) (N := some 3) #[true, true, true, true, true, true, true, true, true, true, true, false] rfl rfl (by kernel_rfl) (by decide) (fun K hK => ?_)
  refine value_ (w1 := ?_) (v := ?_) (by rfl) rfl ?_ ?_
  rotate_left 2
  · go_simp
    constructor
    · rfl
    · rfl
  refine hK.out _ _ ⟨pw_cell_below (below_alloc (Below.refl _ _) _) (hHeld.1), pw_cell_below (below_alloc (Below.refl _ _) _) (hHeld.2.1), pw_cell_below (below_alloc (Below.refl _ _) _) (hHeld.2.2)⟩ (fun hHeld => ?_)
  clear hK K
  refine norm_ (a' := ?_) ?_ ?_
  rotate_left
  · show Act.put _ (some 3) _ = _
    simp only [Act.put, List.setIfInBounds_toArray, List.set_cons_zero, List.set_cons_succ, i64_w, i32_w]
    rfl
  refine last_ (i := 11) (N := none) #[true, true, true, true, true, true, true, true, true, true, true, true] rfl rfl (by kernel_rfl) (by decide) (fun K hK => ?_)
  have hz0 : (w.alloc (Obj.cells #[.slice none 0 0, .int .i64 0] 54)).cell? ⟨w.heap.size, 0, none⟩ = some (.slice none 0 0) := (blk_cell (blk_new w _) 0).trans rfl
  have hz1 : (w.alloc (Obj.cells #[.slice none 0 0, .int .i64 0] 54)).cell? ⟨w.heap.size, 1, none⟩ = some (.int .i64 0) := (blk_cell (blk_new w _) 1).trans rfl
  have hzf0 : (w.alloc (Obj.cells #[.slice none 0 0, .int .i64 0] 54)).frozen? ⟨w.heap.size, 0, none⟩ = false := blk_frozen (blk_new w _) 0
  have hzf1 : (w.alloc (Obj.cells #[.slice none 0 0, .int .i64 0] 54)).frozen? ⟨w.heap.size, 1, none⟩ = false := blk_frozen (blk_new w _) 1
  refine skip_ (w1 := ?_) (by rfl) rfl ?_ ?_
  rotate_left
  · go_simp
    rfl
  refine hK.out _ _ ?_
  clear hK K
  refine done_ (by kernel_rfl) ?_

  clear hz0 hzf0 hz1 hzf1
  have hG1 : (w.alloc (Obj.cells #[px0, px1] 54)).drew.heap[g]? = some (.cells #[.slice (some ⟨b, 0, none⟩) (m + 1) cap] 50 (0, 0)) := blk_alloc HG.out _
  have hO1 : (w.alloc (Obj.cells #[px0, px1] 54)).drew.ownsRow base 54 2 (.slice (some ⟨b, 0, none⟩) (m + 1) cap) (m + 1) xs := HO.out.alloc _
  have hx0 : (w.alloc (Obj.cells #[px0, px1] 54)).drew.cell? ⟨w.heap.size, 0, none⟩ = some px0 := (blk_cell (blk_new w _) 0).trans rfl
  have hx1 : (w.alloc (Obj.cells #[px0, px1] 54)).drew.cell? ⟨w.heap.size, 1, none⟩ = some px1 := (blk_cell (blk_new w _) 1).trans rfl
  have hK1 : KeepBut w (w.alloc (Obj.cells #[px0, px1] 54)).drew g none := keep_alloc (KeepBut.refl w g none) _
  have hR1 : Rest w (w.alloc (Obj.cells #[px0, px1] 54)).drew := Rest.of_below (below_drew (below_alloc (Below.refl w.heap.size w) _))
  generalize (w.alloc (Obj.cells #[px0, px1] 54)).drew = W1 at *
  have HK1 := Aside0.mk hK1
  have HR1 := Aside0.mk hR1
  have HO1 := Aside0.mk hO1
  have hc1 : W1.cell? ⟨g, 0, none⟩ = some (.slice (some ⟨b, 0, none⟩) (m + 1) cap) := blk_cell hG1 0
  have hf1 := blk_frozen hG1 0
  have HG1 := Aside0.mk hG1
  clear hK1 hR1 hO1 hG1 hc hf hHeld pc0 pf0 ps0 pc1 pf1 ps1
  go_wp2
  refine start_ (n := 12) (S := fun w' => w'.cell? ⟨g, 0, none⟩ = some (.slice (some ⟨b, 0, none⟩) (m + 1) cap)) (ds := [11]) #[false, false, false, false, false, false, false, false, false, false, false, false] (by kernel_rfl) rfl rfl (hc1) (fun hHeld => ?_)
  refine pure_ (i := 0) (N := some 14) (v := ?_) (a' := ?_) #[true, false, false, false, false, false, false, false, false, false, false, false] rfl rfl (by kernel_rfl) (fun _ _ _ h => h) (Or.inl ⟨by rfl, ?_⟩) ?_ ?_
  rotate_left
  · intro w'
    go_simp
    with_reducible rfl
  rotate_left
  · simp only [Act.put, List.setIfInBounds_toArray, List.set_cons_zero, List.set_cons_succ, i64_w, i32_w]
    rfl
  refine pure_ (i := 1) (N := some 15) (v := ?_) (a' := ?_) #[true, true, false, false, false, false, false, false, false, false, false, false] rfl rfl (by kernel_rfl) (fun _ _ _ h => h) (Or.inl ⟨by rfl, ?_⟩) ?_ ?_
  rotate_left
  · intro w'
    go_simp
    with_reducible rfl
  rotate_left
  · simp only [Act.put, List.setIfInBounds_toArray, List.set_cons_zero, List.set_cons_succ, i64_w, i32_w]
    rfl
  refine pure_ (i := 2) (N := some 16) (v := ?_) (a' := ?_) #[true, true, true, false, false, false, false, false, false, false, false, false] rfl rfl (by kernel_rfl) (fun _ _ _ h => h) (Or.inl ⟨by rfl, ?_⟩) ?_ ?_
  rotate_left
  · intro w'
    go_simp
    with_reducible rfl
  rotate_left
  · simp only [Act.put, List.setIfInBounds_toArray, List.set_cons_zero, List.set_cons_succ, i64_w, i32_w]
    rfl
  refine pure_ (i := 4) (N := some 18) (v := ?_) (a' := ?_) #[true, true, true, false, true, false, false, false, false, false, false, false] rfl rfl (by kernel_rfl) (fun _ _ _ h => h) (Or.inl ⟨by rfl, ?_⟩) ?_ ?_
  rotate_left
  · intro w'
    go_simp
    with_reducible rfl
  rotate_left
  · simp only [Act.put, List.setIfInBounds_toArray, List.set_cons_zero, List.set_cons_succ, i64_w, i32_w]
    rfl
  refine pure_ (i := 5) (N := some 19) (v := ?_) (a' := ?_) #[true, true, true, false, true, true, false, false, false, false, false, false] rfl rfl (by kernel_rfl) (fun _ _ _ h => h) (Or.inl ⟨by rfl, ?_⟩) ?_ ?_
  rotate_left
  · intro w'
    go_simp
    with_reducible rfl
  rotate_left
  · simp only [Act.put, List.setIfInBounds_toArray, List.set_cons_zero, List.set_cons_succ, i64_w, i32_w]
    rfl
  refine take_ (i := 3) (N := some 17) (v := ?_) (a' := ?_) #[true, true, true, true, true, true, false, false, false, false, false, false] rfl rfl (by kernel_rfl) (fun _ _ _ h => h) (Or.inl ⟨by rfl, ?_⟩) hHeld ?_ ?_
  rotate_left
  · intro w' s0
    go_simp
    with_reducible rfl
  rotate_left
  · simp only [Act.put, List.setIfInBounds_toArray, List.set_cons_zero, List.set_cons_succ, i64_w, i32_w]
    rfl
  refine take_ (i := 6) (N := some 20) (v := ?_) (a' := ?_) #[true, true, true, true, true, true, true, false, false, false, false, false] rfl rfl (by kernel_rfl) (fun _ _ _ h => h) (Or.inl ⟨by rfl, ?_⟩) hHeld ?_ ?_
  rotate_left
  · intro w' s0
    go_simp
    with_reducible rfl
  rotate_left
  · simp only [Act.put, List.setIfInBounds_toArray, List.set_cons_zero, List.set_cons_succ, i64_w, i32_w]
    rfl
  refine pure_ (i := 7) (N := some 21) (v := ?_) (a' := ?_) #[true, true, true, true, true, true, true, true, false, false, false, false] rfl rfl (by kernel_rfl) (fun _ _ _ h => h) (Or.inl ⟨by rfl, ?_⟩) ?_ ?_
  rotate_left
  · intro w'
    go_simp
    with_reducible rfl
  rotate_left
  · simp only [Act.put, List.setIfInBounds_toArray, List.set_cons_zero, List.set_cons_succ, i64_w, i32_w]
    rfl
  refine pure_ (i := 8) (N := some 22) (v := ?_) (a' := ?_) #[true, true, true, true, true, true, true, true, true, false, false, false] rfl rfl (by kernel_rfl) (fun _ _ _ h => h) (Or.inl ⟨by rfl, ?_⟩) ?_ ?_
  rotate_left
  · intro w'
    go_simp
    with_reducible rfl
  rotate_left
  · simp only [Act.put, List.setIfInBounds_toArray, List.set_cons_zero, List.set_cons_succ, i64_w, i32_w]
    rfl
  refine pure_ (i := 9) (N := some 23) (v := ?_) (a' := ?_) #[true, true, true, true, true, true, true, true, true, true, false, false] rfl rfl (by kernel_rfl) (fun _ _ _ h => h) (Or.inl ⟨by rfl, ?_⟩) ?_ ?_
  rotate_left
  · intro w'
    go_simp
    with_reducible rfl
  rotate_left
  · simp only [Act.put, List.setIfInBounds_toArray, List.set_cons_zero, List.set_cons_succ, i64_w, i32_w]
    rfl
  refine pure_ (i := 10) (N := some 24) (v := ?_) (a' := ?_) #[true, true, true, true, true, true, true, true, true, true, true, false] rfl rfl (by kernel_rfl) (fun _ _ _ h => h) (Or.inl ⟨by rfl, ?_⟩) ?_ ?_
  rotate_left
  · intro w'
    go_simp
    with_reducible rfl
  rotate_left
  · simp only [Act.put, List.setIfInBounds_toArray, List.set_cons_zero, List.set_cons_succ, i64_w, i32_w]
    rfl
  refine last_ (i := 11) (N := none) #[true, true, true, true, true, true, true, true, true, true, true, true] rfl rfl (by kernel_rfl) (by decide) (fun K hK => ?_)
  refine skip_ (w1 := ?_) (by rfl) rfl ?_ ?_
  rotate_left
  · go_simp
    rfl
  refine hK.out _ _ ?_
  clear hK K
  refine done_ (by kernel_rfl) ?_

  clear hHeld hc1 hf1
  have hfin : (W1.setCell ⟨g, 0, none⟩ (.slice (some ⟨b, 0, none⟩) m cap)).drew.heap[g]? = some (.cells #[.slice (some ⟨b, 0, none⟩) m cap] 50 (0, 0)) := by
    show (W1.setCell ⟨g, 0, none⟩ (.slice (some ⟨b, 0, none⟩) m cap)).heap[g]? = _
    simpa using blk_set HG1.out 0 (.slice (some ⟨b, 0, none⟩) m cap)
  have HFIN := Aside0.mk hfin
  clear hfin
  go_wp2
  go_ret
  refine ⟨rfl, HFIN.out, ?_, ?_, ?_⟩
  · exact own_put (own_shorter HO1.out m (by omega)) (own_ne (own_shorter HO1.out m (by omega)) HG1.out (by decide)) _
  · exact KeepBut.set_ HK1.out 0 _
  · exact HR1.out.trans (Rest.put W1 ⟨g, 0, none⟩ (.slice (some ⟨b, 0, none⟩) m cap))
end Hp
end Go.Proofs.Ythehkmpameeofaa.P

namespace Go.Proofs.Ythehkmpameeofaa.P
open Go.RowKit Go.Proofs.YthehkmpameeofaaW.PrintWords Go.Proofs.YthehkmpameeofaaW.PrintLast Go.Proofs.YthehkmpameeofaaW.PrintMore
set_option linter.unusedVariables false
set_option linter.unusedSimpArgs false
namespace Hp
abbrev TV := S54
abbrev TC := S45
instance : Inhabited TV := ⟨z54⟩
instance : Inhabited TC := ⟨z45⟩
/-- Does one voice's cue come ahead of another one's? -/
def lessV (a b : TV) : Bool := decide ((el a.f0 0).f0 < (el b.f0 0).f0) || (decide ((el a.f0 0).f0 = (el b.f0 0).f0) && decide (a.f1 < b.f1))
theorem compare_val (x y : Int) : cmp_Compare_int.f x y = some (if x < y then -1 else if x > y then 1 else 0) := by
  unfold cmp_Compare_int.f cmp_isNaN_int.f
  simp only [bne_self_eq_false, Option.bind_some, Bool.false_eq_true, if_false]
  split
  · rfl
  · split <;> rfl
theorem or_val (x y : Int) : cmp_Or_int.f 3 [x, y] = some (if x = 0 then y else x) := by
  unfold cmp_Or_int.f
  by_cases hx : x = 0
  · subst hx
    by_cases hy : y = 0
    · subst hy
      simp [cmp_Or_int.l0, rd, wrap64]
    · simp [cmp_Or_int.l0, rd, wrap64, hy]
  · simp [cmp_Or_int.l0, rd, wrap64, hx]
theorem less_val (l : List TV) (i j : Int) (hi0 : 0 ≤ i) (hi1 : i < l.length) (hj0 : 0 ≤ j) (hj1 : j < l.length) (h1 : 0 < (el l i.toNat).f0.length) (h2 : 0 < (el l j.toNat).f0.length) :
    score_voices_Less.f 3 l i j = some (lessV (el l i.toNat) (el l j.toNat)) := by
  have e : ∀ k : Int, rd_T54 l k = el l k.toNat := fun _ => rfl
  have e2 : ∀ (q : List TC), rd_T45 q 0 = el q 0 := fun _ => rfl
  unfold score_voices_Less.f
  simp only [e, e2]
  rw [if_pos hi0, if_pos hi1, if_pos (by omega), if_pos hj0, if_pos hj1, if_pos (by omega), compare_val, Option.bind_some, compare_val, Option.bind_some, or_val, Option.bind_some]
  congr 1
  unfold lessV
  generalize (el (el l i.toNat).f0 0).f0 = a
  generalize (el (el l j.toNat).f0 0).f0 = b
  generalize (el l i.toNat).f1 = c
  generalize (el l j.toNat).f1 = d
  rcases Int.lt_trichotomy a b with h | h | h
  · simp [h]
  · subst h
    rcases Int.lt_trichotomy c d with h | h | h
    · simp [h]
    · simp [h]
    · have e1 : ¬ c < d := by omega
      simp [h, e1]
  · have e1 : ¬ a < b := by omega
    have e2 : ¬ a = b := by omega
    simp [h, e1, e2]
/-- What a voice's cells hold, what it leads to having been there in w0. -/
def EKV (w0 w : World) (p : TV) (cs : List Value) : Prop :=
  ∃ A c, cs = [.slice A p.f0.length c, .int .i64 p.f1] ∧ p.f0.length ≤ c ∧ Kd.C k45 w0 A p.f0.length p.f0 ∧ Below w0.heap.size w0 w
set_option maxHeartbeats 8000000 in
set_option maxRecDepth 100000 in
theorem Voices_Len (w : World) (A : Option Addr) (n c : Nat) : Calls Try.prog 119 #[.slice A n c] w fun e w' => e = .returned (.int .i64 (n : Int)) ∧ Below w.heap.size w w' := by
  go_enter Try.func119, Try.ntmps119
  go_wp2
  go_ret
  exact ⟨rfl, Below.refl _ _⟩
theorem FrH.below {E B g : Nat} {w0 w w' : World} (hB : w0.heap.size ≤ B) (hg : w0.heap.size ≤ g) (hb : Below w0.heap.size w0 w) (h : FrH E B g w w') : Below w0.heap.size w0 w' := by
  refine ⟨h.1.1.trans hb.os, h.1.2.1.trans hb.tape, h.1.2.2.trans hb.output, Nat.le_trans hb.size h.2.1, fun k hk => ?_⟩
  have hkw : k < w.heap.size := Nat.lt_of_lt_of_le hk hb.size
  have e := hb.block k hk
  have h2 := h.2.2 k _ (Array.getElem?_eq_getElem hkw) (by omega) (.inl (by omega))
  rw [h2, ← Array.getElem?_eq_getElem hkw]
  exact e
theorem voices_ty (w0 : World) (B g N : Nat) (hB : w0.heap.size ≤ B) (hg : w0.heap.size ≤ g) (hN : N < 1000000000000) :
    HTy 50 54 2 B g N 52 119 120 121 lessV (fun p => 0 < p.f0.length) (EKV w0) where
  ne := by decide
  pos := by decide
  big := hN
  one := by
    rintro w p cs ⟨A, c, rfl, _⟩ u hu
    simp at hu
    rcases hu with rfl | rfl <;> rfl
  st := by
    rintro w w' p cs hf ⟨A, c, rfl, h1, h3, h4⟩
    exact ⟨A, c, rfl, h1, h3, FrH.below hB hg h4 hf⟩
  un := Try.underlying52
  ld := by
    intro w A n c hc
    have hu := Try.underlying50
    go_simp
  f1 := by kernel_rfl
  f2 := by kernel_rfl
  f3 := by kernel_rfl
  c1 := fun _ _ => by kernel_rfl
  c2 := fun _ _ _ _ => by kernel_rfl
  c3 := fun _ _ _ _ => by kernel_rfl
  len := fun w A n c => Voices_Len w A n c
  less := by
    intro w A c xs i j hr hc hi0 hi1 hj0 hj1 hg1 hg2
    have hK : Kd.C k54 w A xs.length xs := by
      exact ReadsRow.imp_ hr (Below.refl _ _) (by
        rintro p cs ⟨A', c', rfl, h1, h3, h4⟩
        exact k54_mk w p h1 (Kd.C_below h3 h4))
    refine (score_voices_Less.calls 3 A c xs i j _ w hK hc (less_val xs i j hi0 hi1 hj0 hj1 ?_ ?_)).mono fun e w' h => h
    · exact hg1
    · exact hg2
  swap := fun w b n cap cs h i j hi0 hi1 hj0 hj1 hone => Voices_Swap w B b n cap cs h i j hi0 hi1 hj0 hj1 hone
end Hp
end Go.Proofs.Ythehkmpameeofaa.P

namespace Go.Proofs.Ythehkmpameeofaa.P
open Go.RowKit Go.Proofs.YthehkmpameeofaaW.PrintWords Go.Proofs.YthehkmpameeofaaW.PrintLast Go.Proofs.YthehkmpameeofaaW.PrintMore
set_option linter.unusedVariables false
set_option linter.unusedSimpArgs false
namespace Hp
/-- Are cues a score? -/
def cueB (c : TC) : Bool := rightB c.f0 c.f1
def goodB (l : List TC) : Bool := (List.range l.length).all (fun i => decide (i = 0) || decide ((el l (i - 1)).f0 < (el l i).f0)) && (decide (l.length ≤ 100) && l.all cueB)
def wrongB (c : TC) : Bool := !cueB c
theorem wrong_val (c : TC) : score_Cue_wrong.f c.f0 c.f1 = some (wrongB c) := rfl

theorem wrong_idx (l : List TC) (hl : l.length ≤ 9223372036854775807) : ∀ (d i k : Nat), l.length = i + d → d < k →
    ∃ r : Int, slices_IndexFunc_Cue_Cue_at_score_Cue_wrong.l0 k l (l.length : Int) (i : Int) = some r ∧ decide (r ≥ 0) = (l.drop i).any wrongB
  | 0, i, k, h, hk => by
    obtain ⟨k, rfl⟩ : ∃ m, k = m + 1 := ⟨k - 1, by omega⟩
    refine ⟨-1, ?_, ?_⟩
    · simp only [slices_IndexFunc_Cue_Cue_at_score_Cue_wrong.l0]; rw [if_neg (by omega)]
    · rw [List.drop_of_length_le (by omega)]; rfl
  | d + 1, i, k, h, hk => by
    obtain ⟨k, rfl⟩ : ∃ m, k = m + 1 := ⟨k - 1, by omega⟩
    have hd : l.drop i = rd_T45 l (i : Int) :: l.drop (i + 1) := by
      rw [List.drop_eq_getElem_cons (show i < l.length by omega)]
      congr 1
      simp only [rd_T45, Int.toNat_natCast]
      rw [List.getD_eq_getElem?_getD, List.getElem?_eq_getElem (show i < l.length by omega)]; rfl
    have hw : wrap64 ((i : Int) + 1) = ((i + 1 : Nat) : Int) := by unfold wrap64; omega
    rw [hd]
    simp only [slices_IndexFunc_Cue_Cue_at_score_Cue_wrong.l0]
    rw [if_pos (by omega), if_pos (by omega), if_pos (by omega), wrong_val, Option.bind_some, hw]
    cases hp : wrongB (rd_T45 l (i : Int)) with
    | true => exact ⟨_, by rw [if_pos rfl], by rw [List.any_cons, hp]; simp⟩
    | false =>
      obtain ⟨r, h1, h2⟩ := wrong_idx l hl d (i + 1) k (by omega) (by omega)
      exact ⟨r, by rw [if_neg (by simp)]; exact h1, by rw [List.any_cons, hp, Bool.false_or]; exact h2⟩
theorem wrong_has (l : List TC) (hl : l.length ≤ 9223372036854775807) (k : Nat) (hk : l.length < k) : slices_ContainsFunc_Cue_Cue_at_score_Cue_wrong.f k l = some (l.any wrongB) := by
  obtain ⟨r, h1, h2⟩ := wrong_idx l hl l.length 0 k (by omega) hk
  unfold slices_ContainsFunc_Cue_Cue_at_score_Cue_wrong.f slices_IndexFunc_Cue_Cue_at_score_Cue_wrong.f
  have h1' : slices_IndexFunc_Cue_Cue_at_score_Cue_wrong.l0 k l (l.length : Int) 0 = some r := h1
  rw [h1', Option.bind_some, h2]
  rfl

theorem good_loop (l : List TC) (hl : l.length ≤ 9223372036854775807) : ∀ (d i k : Nat), l.length = i + d → d + l.length + 1 < k →
    score_Good.l0 k l l (l.length : Int) (i : Int) = some ((List.range' i d).all (fun i => decide (i = 0) || decide ((el l (i - 1)).f0 < (el l i).f0)) && (decide (l.length ≤ 100) && l.all cueB))
  | 0, i, k, h, hk => by
    obtain ⟨k, rfl⟩ : ∃ m, k = m + 1 := ⟨k - 1, by omega⟩
    simp only [score_Good.l0]
    rw [if_neg (by omega)]
    simp only [List.range'_zero, List.all_nil, Bool.true_and]
    by_cases h1 : l.length ≤ 100
    · rw [if_pos (by omega), wrong_has l hl k (by omega), Option.bind_some, decide_eq_true h1, Bool.true_and, List.not_any_eq_all_not]
      congr 2
      funext c
      unfold wrongB
      rw [Bool.not_not]
    · rw [if_neg (by omega), decide_eq_false h1]; rfl
  | d + 1, i, k, h, hk => by
    obtain ⟨k, rfl⟩ : ∃ m, k = m + 1 := ⟨k - 1, by omega⟩
    have hw : wrap64 ((i : Int) + 1) = ((i + 1 : Nat) : Int) := by unfold wrap64; omega
    have ih := good_loop l hl d (i + 1) k (by omega) (by omega)
    simp only [score_Good.l0]
    rw [if_pos (by omega), if_pos (by omega), if_pos (by omega), hw, ih, List.range'_succ, List.all_cons]
    by_cases h0 : i = 0
    · rw [if_neg (by omega), decide_eq_true h0]; rfl
    · have hw2 : wrap64 ((i : Int) - 1) = ((i - 1 : Nat) : Int) := by unfold wrap64; omega
      have e1 : rd_T45 l ((i - 1 : Nat) : Int) = el l (i - 1) := rfl
      have e2 : rd_T45 l ((i : Nat) : Int) = el l i := rfl
      rw [if_pos (by omega), hw2, if_pos (by omega), if_pos (by omega), e1, e2, decide_eq_false h0, Bool.false_or]
      by_cases hc : (el l (i - 1)).f0 ≥ (el l i).f0
      · rw [if_pos hc, decide_eq_false (show ¬ (el l (i - 1)).f0 < (el l i).f0 by omega)]; rfl
      · rw [if_neg hc, decide_eq_true (show (el l (i - 1)).f0 < (el l i).f0 by omega)]; rfl
theorem good_val (l : List TC) (hl : l.length ≤ 9223372036854775807) (k : Nat) (hk : 2 * l.length + 1 < k) : score_Good.f k l = some (goodB l) := by
  unfold score_Good.f goodB
  have := good_loop l hl l.length 0 k (by omega) (by omega)
  rw [List.range_eq_range']
  exact this
def pushOne (xs : List TV) (one : List TC) (i : Nat) : List TV := if one.length > 0 then upL lessV (xs ++ [⟨one, (i : Int)⟩]) xs.length else xs
def pushAll (l : List (List TC)) : Nat → List TV
  | 0 => []
  | i + 1 => pushOne (pushAll l i) (l.getD i []) i
def cut1 (xs : List TV) : List TV := xs.set 0 ⟨(el xs 0).f0.drop 1, (el xs 0).f1⟩
def step1 (xs : List TV) : List TV := if (el xs 0).f0.length = 1 then popL lessV (cut1 xs) else fixL lessV (cut1 xs) 0
def out1 (out : List TC) (c : TC) : List TC := if out.length = 0 ∨ (el out (out.length - 1)).f0 < c.f0 then out ++ [c] else out
def runM : Nat → List TV → List TC → List TC
  | 0, _, out => out
  | k + 1, xs, out => if xs.length = 0 then out else runM k (step1 xs) (out1 out (el (el xs 0).f0 0))
def total (xs : List TV) : Nat := (xs.map fun v => v.f0.length).sum
def mergeF (l : List (List TC)) : List TC × Int :=
  if l.all goodB = true then
    (if (runM (total (pushAll l l.length)) (pushAll l l.length) []).length > 100 then ([], 15) else (runM (total (pushAll l l.length)) (pushAll l l.length) [], 0))
  else ([], 2)
end Hp
end Go.Proofs.Ythehkmpameeofaa.P

namespace Go.Proofs.Ythehkmpameeofaa.P
open Go.RowKit Go.Proofs.YthehkmpameeofaaW.PrintWords Go.Proofs.YthehkmpameeofaaW.PrintLast Go.Proofs.YthehkmpameeofaaW.PrintMore
set_option linter.unusedVariables false
set_option linter.unusedSimpArgs false
namespace Hp
theorem lessV_ord : Ord lessV where
  tr := by
    intro a b c h1 h2
    unfold lessV at *
    simp only [Bool.or_eq_false_iff, Bool.and_eq_false_iff, decide_eq_false_iff_not] at *
    omega
  asy := by
    intro a b h
    unfold lessV at *
    simp only [Bool.or_eq_false_iff, Bool.and_eq_false_iff, decide_eq_false_iff_not, Bool.or_eq_true, Bool.and_eq_true, decide_eq_true_eq] at *
    omega
theorem mem_el {α : Type} [Inhabited α] {xs : List α} {k : Nat} (h : k < xs.length) : el xs k ∈ xs := List.mem_of_getElem? (el_eq h)
theorem pushOne_perm (xs : List TV) (one : List TC) (i : Nat) (h : 0 < one.length) : (pushOne xs one i).Perm (xs ++ [⟨one, (i : Int)⟩]) := by
  unfold pushOne
  rw [if_pos h]
  exact upL_perm _ _ (by simp)
theorem pushOne_nil (xs : List TV) (one : List TC) (i : Nat) (h : ¬ 0 < one.length) : pushOne xs one i = xs := by
  unfold pushOne
  rw [if_neg h]
theorem pushAll_facts (l : List (List TC)) : ∀ i, (pushAll l i).length ≤ i ∧ (∀ v ∈ pushAll l i, 0 < v.f0.length) ∧ HeapFrom lessV 0 (pushAll l i).length (pushAll l i)
  | 0 => ⟨Nat.le_refl _, by intro v hv; simp [pushAll] at hv, by intro i _ h; simp [pushAll] at h⟩
  | i + 1 => by
    obtain ⟨h1, h2, h3⟩ := pushAll_facts l i
    show (pushOne (pushAll l i) (l.getD i []) i).length ≤ i + 1 ∧ (∀ v ∈ pushOne (pushAll l i) (l.getD i []) i, 0 < v.f0.length) ∧ HeapFrom lessV 0 (pushOne (pushAll l i) (l.getD i []) i).length (pushOne (pushAll l i) (l.getD i []) i)
    by_cases h : 0 < (l.getD i []).length
    · have hp := pushOne_perm (pushAll l i) (l.getD i []) i h
      have hl := hp.length_eq
      rw [List.length_append, List.length_singleton] at hl
      refine ⟨by omega, ?_, ?_⟩
      · intro v hv
        have := hp.mem_iff.1 hv
        rw [List.mem_append, List.mem_singleton] at this
        rcases this with hm | rfl
        · exact h2 v hm
        · exact h
      · rw [hl]
        unfold pushOne
        rw [if_pos h]
        exact push_heap lessV_ord _ _ h3
    · rw [pushOne_nil _ _ _ h]
      exact ⟨by omega, h2, h3⟩
theorem total_cons (v : TV) (xs : List TV) : total (v :: xs) = v.f0.length + total xs := by simp [total]
theorem total_append (xs ys : List TV) : total (xs ++ ys) = total xs + total ys := by simp [total, List.sum_append]
theorem total_perm {xs ys : List TV} (h : xs.Perm ys) : total xs = total ys := (h.map _).sum_nat
theorem pushAll_total (l : List (List TC)) (hg : l.all goodB = true) : ∀ i, i ≤ l.length → total (pushAll l i) ≤ i * 100
  | 0, _ => by simp [pushAll, total]
  | i + 1, hi => by
    have ih := pushAll_total l hg i (by omega)
    have h100 : (l.getD i []).length ≤ 100 := by
      have hm : l.getD i [] ∈ l := by
        rw [List.getD_eq_getElem?_getD, List.getElem?_eq_getElem (by omega)]
        exact List.getElem_mem _
      have := List.all_eq_true.1 hg _ hm
      unfold goodB at this
      simp only [Bool.and_eq_true, decide_eq_true_eq] at this
      exact this.2.1
    show total (pushOne (pushAll l i) (l.getD i []) i) ≤ (i + 1) * 100
    by_cases h : 0 < (l.getD i []).length
    · rw [total_perm (pushOne_perm (pushAll l i) (l.getD i []) i h), total_append]
      have : total [(⟨l.getD i [], (i : Int)⟩ : TV)] = (l.getD i []).length := by simp [total]
      omega
    · rw [pushOne_nil _ _ _ h]; omega
abbrev HV (w : World) (B g N : Nat) (w0 : World) : List TV → Prop := fun xs => HRep 50 54 2 B g N (EKV w0) w xs
theorem voices_push {w0 w : World} {B g N : Nat} (hB : w0.heap.size ≤ B) (hg : w0.heap.size ≤ g) (hN : N < 1000000) {xs : List TV} (hR : HV w B g N w0 xs) (hn : xs.length + 1 ≤ N) (hgd : ∀ v ∈ xs, 0 < v.f0.length)
    (A : Option Addr) (c : Nat) (one : List TC) (i : Int) (h0 : 0 < one.length) (hc : one.length ≤ c) (hK : Kd.C k45 w0 A one.length one) (hb : Below w0.heap.size w0 w) :
    Calls Try.prog 26 #[.iface 52 (.pointer (some ⟨g, 0, none⟩)), .iface 54 (.agg #[.slice A one.length c, .int .i64 i])] w
      fun e w' => e = .returned (.tuple #[]) ∧ HV w' B g N w0 (upL lessV (xs ++ [⟨one, i⟩]) xs.length) ∧ Below w0.heap.size w0 w' := by
  have hT := voices_ty w0 B g N hB hg (by omega)
  have hP := hrep_push hT 124 (by kernel_rfl) (fun _ _ _ => by kernel_rfl) hR hn (.iface 54 (.agg #[.slice A one.length c, .int .i64 i])) (⟨one, i⟩ : TV) [.slice A one.length c, .int .i64 i] ⟨A, c, rfl, hc, hK, hb⟩ rfl
    (fun V inner g1 g2 => Voices_Push w B g xs.length V inner g1 g2 hR.choose_spec.choose_spec.2.2.2.2 _ _ rfl rfl (by omega))
  refine (Push_calls (heapI_of hT) _ (⟨one, i⟩ : TV) xs w ?_ hP).mono ?_
  · intro k hk
    have hm := mem_el hk
    rw [List.mem_append, List.mem_singleton] at hm
    rcases hm with hm | hm
    · exact hgd _ hm
    · rw [hm]; exact h0
  · rintro e w' ⟨rfl, hr, hf⟩
    exact ⟨rfl, hr, FrH.below hB hg hb hf⟩
theorem voices_nil (w : World) (N : Nat) : HV (w.alloc (.cells #[.slice none 0 0] 50)) w.heap.size w.heap.size N w [] :=
  ⟨.slice none 0 0, [], by simpa using heap_alloc_new w _, own_nil _ _ _ _, Reps.none _ _, Nat.zero_le _, (below_alloc (Below.refl w.heap.size w) _).size⟩
end Hp
end Go.Proofs.Ythehkmpameeofaa.P

namespace Go.Proofs.Ythehkmpameeofaa.P
open Go.RowKit Go.Proofs.YthehkmpameeofaaW.PrintWords Go.Proofs.YthehkmpameeofaaW.PrintLast Go.Proofs.YthehkmpameeofaaW.PrintMore
set_option linter.unusedVariables false
set_option linter.unusedSimpArgs false
namespace Hp
theorem R_frH {α : Type} {d : Kd α} {e base E B g : Nat} {w w' : World} {ok : Nat → Prop} {v : Value} {xs : List α} (h : d.R e w base ok v xs) (hf : FrH E B g w w') (hok : ∀ k, ok k → k ≠ g) (hE : ∀ q, q ∈ e :: d.E → q ≠ E) : d.R e w' base ok v xs := by
  refine Kd.R_mono (Kd.R_move (Kd.R_bound h) ?_) (fun _ hk => hk.1)
  rintro k ⟨h1, h2, h3, q, hq, cells, hc⟩
  rw [hc]
  refine hf.2.2 k _ hc (hok k h1) (.inr fun cs e => ?_)
  injection e with _ e
  exact hE q hq e
theorem HV_step {w w1 w0 : World} {B g N : Nat} {xs : List TV} (h : HV w B g N w0 xs) (hs : w.heap.size ≤ w1.heap.size) (hb : Below w0.heap.size w0 w1)
    (hk : ∀ k o, w.heap[k]? = some o → (k = g ∨ ∃ cs, o = .cells cs 54 (0, 0)) → w1.heap[k]? = some o) : HV w1 B g N w0 xs := by
  obtain ⟨V, inner, h1, h2, h3, h4, h5⟩ := h
  refine ⟨V, inner, hk _ _ h1 (.inl rfl), own_move h2 (fun k e => ?_), h3.imp_ ?_, h4, Nat.le_trans h5 hs⟩
  · obtain ⟨cells, hc⟩ := own_typed h2 k e
    rw [hc]
    exact hk _ _ hc (.inr ⟨_, rfl⟩)
  · rintro p cs ⟨A, c, rfl, q1, q2, _⟩
    exact ⟨A, c, rfl, q1, q2, hb⟩
theorem HV_grown {w w1 w0 : World} {B g N base e n sz : Nat} {v : Value} {cs : List Value} {xs : List TV} (h : HV w B g N w0 xs) (hg : w.grownBy w1 v.ownBlock) (hb : Below w0.heap.size w0 w1) (ho : w.ownsRow base e sz v n cs)
    (h1 : e ≠ 50) (h2 : e ≠ 54) : HV w1 B g N w0 xs := by
  refine HV_step h hg.size hb ?_
  rintro k o hk ho'
  refine (hg.block k (Array.getElem?_eq_some_iff.1 hk).1 ?_).trans hk
  intro e'
  obtain ⟨cells, hc⟩ := own_typed ho k e'.symm
  rw [hc] at hk
  obtain rfl := Option.some.inj hk
  rcases ho' with rfl | ⟨cs', e2⟩
  · obtain ⟨V, inner, g1, _⟩ := h
    rw [hc] at g1
    have g1 := Option.some.inj g1
    injection g1 with _ g1
    exact h1 g1
  · injection e2 with _ e2
    exact h2 e2
theorem HV_front {w w0 : World} {B g N : Nat} {xs : List TV} (h : HV w B g N w0 xs) (hn : 0 < xs.length) : ∃ (b cap c0 : Nat) (A0 : Option Addr) (rest : List Value),
    w.heap[g]? = some (.cells #[.slice (some ⟨b, 0, none⟩) xs.length cap] 50 (0, 0)) ∧
    w.ownsRow B 54 2 (.slice (some ⟨b, 0, none⟩) xs.length cap) xs.length (.slice A0 (el xs 0).f0.length c0 :: rest) ∧
    Reps (EKV w0 w) 2 xs (.slice A0 (el xs 0).f0.length c0 :: rest) ∧ (el xs 0).f0.length ≤ c0 ∧ Kd.C k45 w0 A0 (el xs 0).f0.length (el xs 0).f0 ∧ Below w0.heap.size w0 w ∧ b ≠ g ∧ B ≤ b := by
  obtain ⟨V, inner, h1, h2, h3, h4, h5⟩ := h
  obtain ⟨b, cap, rfl, _⟩ := h2.form hn
  obtain ⟨A, c, e1, e2, e3, e4⟩ := h3.2 0 _ (el_eq hn)
  have hne := own_ne h2 h1 (by decide)
  match inner, e1 with
  | [], e1 => simp at e1
  | a :: rest, e1 =>
    have : a = .slice A (el xs 0).f0.length c := by
      have := congrArg (fun l => l[0]?) e1
      simpa using this
    subst this
    exact ⟨b, cap, c, A, rest, h1, h2, h3, e2, e3, e4, fun e => hne (by rw [e]; rfl), own_base h2 b rfl⟩
theorem Reps_cut {R R' : TV → List Value → Prop} {xs : List TV} {a u : Value} {rest : List Value} (h : Reps R 2 xs (a :: rest)) (p : TV) (hp : ∀ b, R (el xs 0) [a, b] → R' p [u, b]) (hst : ∀ q cs, R q cs → R' q cs) (hn : 0 < xs.length) : Reps R' 2 (xs.set 0 p) (u :: rest) := by
  have hl := h.1
  refine ⟨by rw [List.length_set]; simpa using hl, fun j q hj => ?_⟩
  match j with
  | 0 =>
    have h0 := h.2 0 _ (el_eq hn)
    rw [List.getElem?_set_self hn] at hj
    obtain rfl := Option.some.inj hj
    match rest with
    | [] => simp at hl; omega
    | b :: rest => exact hp b h0
  | j + 1 =>
    rw [List.getElem?_set_ne (by omega)] at hj
    have := hst _ _ (h.2 (j + 1) q hj)
    rw [show (j + 1) * 2 = (j * 2 + 1) + 1 by omega, List.drop_succ_cons] at this ⊢
    exact this
theorem HV_cut {w w0 : World} {B g N b cap c0 c1 : Nat} {A0 A1 : Option Addr} {rest : List Value} {xs : List TV} (hn : 0 < xs.length) (hN : xs.length ≤ N) (hB : w0.heap.size ≤ B) (hBw : B ≤ w.heap.size)
    (h1 : w.heap[g]? = some (.cells #[.slice (some ⟨b, 0, none⟩) xs.length cap] 50 (0, 0)))
    (h2 : w.ownsRow B 54 2 (.slice (some ⟨b, 0, none⟩) xs.length cap) xs.length (.slice A0 (el xs 0).f0.length c0 :: rest))
    (h3 : Reps (EKV w0 w) 2 xs (.slice A0 (el xs 0).f0.length c0 :: rest)) (h4 : Below w0.heap.size w0 w) (h5 : b ≠ g) (h6 : B ≤ b)
    (hc : ((el xs 0).f0.drop 1).length ≤ c1) (hK : Kd.C k45 w0 A1 ((el xs 0).f0.drop 1).length ((el xs 0).f0.drop 1)) :
    HV (w.setCell ⟨b, 0, none⟩ (.slice A1 ((el xs 0).f0.drop 1).length c1)) B g N w0 (cut1 xs) := by
  have hbw : Below w0.heap.size w0 (w.setCell ⟨b, 0, none⟩ (.slice A1 ((el xs 0).f0.drop 1).length c1)) := Below.setCell h4 (Nat.le_trans hB h6) _
  obtain ⟨q1, q2⟩ := h2.stored 0 (.slice A1 ((el xs 0).f0.drop 1).length c1)
  have hl : (cut1 xs).length = xs.length := List.length_set
  refine ⟨_, _, blk_grown h1 q2 (fun e => h5 (Option.some.inj e).symm), by rw [hl]; exact q1, ?_, by rw [hl]; exact hN, Nat.le_trans hBw q2.size⟩
  refine Reps_cut h3 _ ?_ ?_ hn
  · rintro b ⟨A, c, e, _⟩
    have e2 : b = .int .i64 (el xs 0).f1 := by
      have := congrArg (fun l => l[1]?) e
      simpa using this
    subst e2
    exact ⟨A1, c1, rfl, hc, hK, hbw⟩
  · rintro q cs ⟨A, c, rfl, r1, r2, _⟩
    exact ⟨A, c, rfl, r1, r2, hbw⟩
theorem voices_pop {w0 w : World} {B g N : Nat} (hB : w0.heap.size ≤ B) (hg : w0.heap.size ≤ g) (hN : N < 1000000) {xs : List TV} (hR : HV w B g N w0 xs) (hn : 0 < xs.length) (hgd : ∀ k, 0 < k → k < xs.length → 0 < (el xs k).f0.length) (hb : Below w0.heap.size w0 w) :
    Calls Try.prog 27 #[.iface 52 (.pointer (some ⟨g, 0, none⟩))] w
      fun e w' => ∃ v, e = .returned v ∧ HV w' B g N w0 (popL lessV xs) ∧ Below w0.heap.size w0 w' ∧ FrH 54 B g w w' := by
  have hT := voices_ty w0 B g N hB hg (by omega)
  refine (Pop_calls (heapI_of hT) xs w hR hn hgd (fun v a w' => ∃ cs, EKV w0 w' a cs ∧ v = .iface 54 (.agg cs.toArray))
    (hrep_pop hT 123 (by kernel_rfl) (fun _ _ => by kernel_rfl) ?_)).mono ?_
  · intro w b m cap inner h1 h2 h3
    refine (Voices_Pop w B g b m cap inner h1 h2 h3).mono ?_
    rintro e w' ⟨rfl, hr⟩
    exact ⟨by rw [chunk_two h2.1], hr⟩
  · rintro e w' ⟨v, rfl, _, hr, hf⟩
    exact ⟨v, rfl, hr, FrH.below hB hg hb hf, hf⟩
theorem voices_fix {w0 w : World} {B g N : Nat} (hB : w0.heap.size ≤ B) (hg : w0.heap.size ≤ g) (hN : N < 1000000) {xs : List TV} (hR : HV w B g N w0 xs) (hn : 0 < xs.length) (hgd : ∀ k, k < xs.length → 0 < (el xs k).f0.length) (hb : Below w0.heap.size w0 w) :
    Calls Try.prog 28 #[.iface 52 (.pointer (some ⟨g, 0, none⟩)), .int .i64 0] w
      fun e w' => e = .returned (.tuple #[]) ∧ HV w' B g N w0 (fixL lessV xs 0) ∧ Below w0.heap.size w0 w' ∧ FrH 54 B g w w' := by
  have hT := voices_ty w0 B g N hB hg (by omega)
  refine (Fix_calls (heapI_of hT) 0 xs w hR (by omega) (by omega) hgd).mono ?_
  rintro e w' ⟨rfl, hr, hf⟩
  exact ⟨rfl, hr, FrH.below hB hg hb hf, hf⟩
theorem cut_len (xs : List TV) : (cut1 xs).length = xs.length := List.length_set
theorem cut_el (xs : List TV) (k : Nat) (hk : 0 < k) : el (cut1 xs) k = el xs k := by
  unfold cut1 el
  simp only [List.getD_eq_getElem?_getD]
  rw [List.getElem?_set_ne (by omega)]
theorem cut_total (xs : List TV) (hn : 0 < xs.length) (h0 : 0 < (el xs 0).f0.length) : total (cut1 xs) + 1 = total xs := by
  match xs, hn with
  | v :: xs, _ =>
    have e : el (v :: xs) 0 = v := rfl
    unfold cut1
    rw [e] at h0 ⊢
    rw [List.set_cons_zero, total_cons, total_cons, List.length_drop]
    omega
theorem cut_zero (xs : List TV) (hn : 0 < xs.length) : el (cut1 xs) 0 = ⟨(el xs 0).f0.drop 1, (el xs 0).f1⟩ := by
  match xs, hn with
  | v :: xs, _ => rfl
/-- A round's facts. -/
theorem step1_facts (xs : List TV) (hn : 0 < xs.length) (hg : ∀ v ∈ xs, 0 < v.f0.length) : (∀ v ∈ step1 xs, 0 < v.f0.length) ∧ (step1 xs).length ≤ xs.length ∧ total (step1 xs) + 1 = total xs := by
  have h0 := hg _ (mem_el hn)
  have ht := cut_total xs hn h0
  have hc : 0 < (cut1 xs).length := by rw [cut_len]; exact hn
  have hcut : ∀ v ∈ cut1 xs, v = el (cut1 xs) 0 ∨ 0 < v.f0.length := by
    intro v hv
    obtain ⟨k, hk, rfl⟩ := List.mem_iff_getElem.1 hv
    by_cases h : k = 0
    · subst h
      left
      unfold el
      rw [List.getD_eq_getElem?_getD, List.getElem?_eq_getElem hc]; rfl
    · right
      have e : (cut1 xs)[k] = el (cut1 xs) k := by
        unfold el
        rw [List.getD_eq_getElem?_getD, List.getElem?_eq_getElem hk]; rfl
      rw [e, cut_el xs k (by omega)]
      exact hg _ (mem_el (by rw [cut_len] at hk; exact hk))
  unfold step1
  by_cases h1 : (el xs 0).f0.length = 1
  · rw [if_pos h1]
    have hp := popL_perm (less := lessV) (cut1 xs) hc
    have hz : (el (cut1 xs) 0).f0.length = 0 := by rw [cut_zero xs hn, List.length_drop]; omega
    refine ⟨?_, ?_, ?_⟩
    · intro v hv
      -- the tail of a heap whose root is cut away
      have hne : ∀ k, 0 < k → k < (cut1 xs).length → 0 < (el (cut1 xs) k).f0.length := by
        intro k hk hk2
        rw [cut_el xs k hk]
        exact hg _ (mem_el (by rw [cut_len] at hk2; exact hk2))
      have hsplit : cut1 xs = el (cut1 xs) 0 :: (cut1 xs).drop 1 := by
        match cut1 xs, hc with
        | v :: ys, _ => rfl
      have hp2 : (popL lessV (cut1 xs)).Perm ((cut1 xs).drop 1) := by
        have h3 := hp.trans (List.Perm.of_eq hsplit)
        exact h3.cons_inv
      have hm := hp2.mem_iff.1 hv
      obtain ⟨k, hk, rfl⟩ := List.mem_iff_getElem.1 hm
      rw [List.getElem_drop]
      have hk2 : 1 + k < (cut1 xs).length := by rw [List.length_drop] at hk; omega
      have := hne (1 + k) (by omega) hk2
      unfold el at this
      rwa [List.getD_eq_getElem?_getD, List.getElem?_eq_getElem hk2] at this
    · have := hp.length_eq
      rw [List.length_cons, cut_len] at this
      omega
    · have := total_perm hp
      rw [total_cons, hz] at this
      omega
  · rw [if_neg h1]
    have hp := fixL_perm (less := lessV) (cut1 xs) 0 hc
    refine ⟨?_, ?_, ?_⟩
    · intro v hv
      rcases hcut v (hp.mem_iff.1 hv) with rfl | h
      · rw [cut_zero xs hn, List.length_drop]; omega
      · exact h
    · rw [hp.length_eq, cut_len]; exact Nat.le_refl _
    · rw [total_perm hp]; exact ht
end Hp
end Go.Proofs.Ythehkmpameeofaa.P

namespace Go.Proofs.Ythehkmpameeofaa.P
open Go.RowKit Go.Proofs.YthehkmpameeofaaW.PrintWords Go.Proofs.YthehkmpameeofaaW.PrintLast Go.Proofs.YthehkmpameeofaaW.PrintMore
set_option linter.unusedVariables false
set_option linter.unusedSimpArgs false
namespace Hp
def Inc (l : List TC) : Prop := l.Pairwise fun a b => a.f0 < b.f0
theorem inc_eq : ∀ (l m : List TC), Inc l → Inc m → (∀ c, c ∈ l ↔ c ∈ m) → l = m
  | [], [], _, _, _ => rfl
  | [], b :: m, _, _, h => absurd ((h b).2 (by simp)) (by simp)
  | a :: l, [], _, _, h => absurd ((h a).1 (by simp)) (by simp)
  | a :: l, b :: m, hl, hm, h => by
    unfold Inc at hl hm
    rw [List.pairwise_cons] at hl hm
    have hab : a = b := by
      have h1 := (h a).1 (by simp)
      have h2 := (h b).2 (by simp)
      rw [List.mem_cons] at h1 h2
      rcases h1 with h1 | h1
      · exact h1
      · rcases h2 with h2 | h2
        · exact h2.symm
        · have := hl.1 b h2
          have := hm.1 a h1
          omega
    subst hab
    have := inc_eq l m hl.2 hm.2 (fun c => by
      constructor
      · intro hc
        have h1 := (h c).1 (List.mem_cons_of_mem _ hc)
        rw [List.mem_cons] at h1
        rcases h1 with rfl | h1
        · have := hl.1 c hc; omega
        · exact h1
      · intro hc
        have h1 := (h c).2 (List.mem_cons_of_mem _ hc)
        rw [List.mem_cons] at h1
        rcases h1 with rfl | h1
        · have := hm.1 c hc; omega
        · exact h1)
    rw [this]
/-- A pair: a cue and its voice's number. -/
def Pr (xs : List TV) (c : TC) (i : Int) : Prop := ∃ v ∈ xs, c ∈ v.f0 ∧ v.f1 = i
def Fm (P : TC → Int → Prop) (out : List TC) (c : TC) : Prop := c ∈ out ∨ ∃ i, P c i ∧ (∀ o ∈ out, o.f0 ≠ c.f0) ∧ ∀ d j, P d j → j < i → d.f0 ≠ c.f0
theorem el_last {out : List TC} (h : ¬ out.length = 0) : ∃ l, out = l ++ [el out (out.length - 1)] := by
  have hne : out ≠ [] := fun e => h (by rw [e]; rfl)
  refine ⟨out.dropLast, ?_⟩
  have e : el out (out.length - 1) = out.getLast hne := by
    unfold el
    rw [List.getD_eq_getElem?_getD, List.getElem?_eq_getElem (by omega), List.getLast_eq_getElem]
    rfl
  rw [e]
  exact (List.dropLast_concat_getLast hne).symm
theorem fm_step {P P' : TC → Int → Prop} {out : List TC} {c0 : TC} {i0 : Int} (hP : ∀ c i, P c i ↔ (P' c i ∨ (c = c0 ∧ i = i0)))
    (hmin : ∀ c i, P' c i → c0.f0 < c.f0 ∨ (c0.f0 = c.f0 ∧ i0 < i)) (hinc : Inc out) (hle : ∀ o ∈ out, o.f0 ≤ c0.f0) (c : TC) :
    (Fm P out c ↔ Fm P' (out1 out c0) c) ∧ Inc (out1 out c0) ∧ (∀ o ∈ out1 out c0, o.f0 ≤ c0.f0) := by
  unfold out1
  by_cases hA : out.length = 0 ∨ (el out (out.length - 1)).f0 < c0.f0
  · rw [if_pos hA]
    have hlt : ∀ o ∈ out, o.f0 < c0.f0 := by
      rcases hA with h | h
      · intro o ho
        rw [List.length_eq_zero_iff.1 h] at ho
        cases ho
      · by_cases h0 : out.length = 0
        · intro o ho
          rw [List.length_eq_zero_iff.1 h0] at ho
          cases ho
        · obtain ⟨l, e⟩ := el_last h0
          intro o ho
          generalize el out (out.length - 1) = z at *
          subst e
          rw [List.mem_append, List.mem_singleton] at ho
          unfold Inc at hinc
          rw [List.pairwise_append] at hinc
          rcases ho with ho | rfl
          · have := hinc.2.2 o ho z (by simp); omega
          · exact h
    refine ⟨⟨?_, ?_⟩, ?_, ?_⟩
    · rintro (h | ⟨i, h1, h2, h3⟩)
      · exact .inl (by simp [h])
      · by_cases hc : c = c0
        · exact .inl (by simp [hc])
        · rcases (hP c i).1 h1 with h1 | ⟨h1, _⟩
          · refine .inr ⟨i, h1, ?_, fun d j hd => h3 d j ((hP d j).2 (.inl hd))⟩
            intro o ho
            rw [List.mem_append, List.mem_singleton] at ho
            rcases ho with ho | rfl
            · exact h2 o ho
            · rcases hmin c i h1 with h | ⟨_, h⟩
              · omega
              · exact h3 o i0 ((hP _ _).2 (.inr ⟨rfl, rfl⟩)) h
          · exact absurd h1 hc
    · rintro (h | ⟨i, h1, h2, h3⟩)
      · rw [List.mem_append, List.mem_singleton] at h
        rcases h with h | rfl
        · exact .inl h
        · refine .inr ⟨i0, (hP _ _).2 (.inr ⟨rfl, rfl⟩), fun o ho => by have := hlt o ho; omega, ?_⟩
          intro d j hd hj e
          rcases (hP d j).1 hd with hd | ⟨_, rfl⟩
          · rcases hmin d j hd with h | ⟨_, h⟩ <;> omega
          · omega
      · have hne : c0.f0 ≠ c.f0 := h2 c0 (by simp)
        refine .inr ⟨i, (hP _ _).2 (.inl h1), fun o ho => h2 o (by simp [ho]), ?_⟩
        intro d j hd hj
        rcases (hP d j).1 hd with hd | ⟨rfl, rfl⟩
        · exact h3 d j hd hj
        · exact hne
    · unfold Inc
      rw [List.pairwise_append]
      exact ⟨hinc, by simp, fun a ha b hb => by rw [List.mem_singleton] at hb; subst hb; exact hlt a ha⟩
    · intro o ho
      rw [List.mem_append, List.mem_singleton] at ho
      rcases ho with ho | rfl
      · exact hle o ho
      · exact Int.le_refl _
  · rw [if_neg hA]
    have h0 : ¬ out.length = 0 := fun h => hA (.inl h)
    have hz : (el out (out.length - 1)) ∈ out := by
      obtain ⟨l, e⟩ := el_last h0
      generalize el out (out.length - 1) = z at *
      rw [e]; simp
    have hzc : (el out (out.length - 1)).f0 = c0.f0 := by
      have h1 := hle _ hz
      have h2 : ¬ (el out (out.length - 1)).f0 < c0.f0 := fun h => hA (.inr h)
      omega
    refine ⟨⟨?_, ?_⟩, hinc, hle⟩
    · rintro (h | ⟨i, h1, h2, h3⟩)
      · exact .inl h
      · rcases (hP c i).1 h1 with h1 | ⟨rfl, _⟩
        · exact .inr ⟨i, h1, h2, fun d j hd => h3 d j ((hP d j).2 (.inl hd))⟩
        · exact absurd hzc (h2 _ hz)
    · rintro (h | ⟨i, h1, h2, h3⟩)
      · exact .inl h
      · refine .inr ⟨i, (hP _ _).2 (.inl h1), h2, ?_⟩
        intro d j hd hj
        rcases (hP d j).1 hd with hd | ⟨rfl, rfl⟩
        · exact h3 d j hd hj
        · have := h2 _ hz; omega
structure VS (xs : List TV) : Prop where
  heap : HeapFrom lessV 0 xs.length xs
  pos : ∀ v ∈ xs, 0 < v.f0.length
  inc : ∀ v ∈ xs, Inc v.f0
  own : (xs.map (·.f1)).Nodup
def tailV (xs : List TV) : List TV := (if (el xs 0).f0.length = 1 then [] else [⟨(el xs 0).f0.drop 1, (el xs 0).f1⟩]) ++ xs.drop 1
theorem cut_eq (v : TV) (r : List TV) : cut1 (v :: r) = ⟨v.f0.drop 1, v.f1⟩ :: r := rfl
theorem step1_perm (xs : List TV) (hn : 0 < xs.length) : (step1 xs).Perm (tailV xs) := by
  match xs, hn with
  | v :: r, hn =>
    have e : el (v :: r) 0 = v := rfl
    unfold step1 tailV
    rw [e, cut_eq]
    have hc : 0 < (⟨v.f0.drop 1, v.f1⟩ :: r : List TV).length := by simp
    by_cases h1 : v.f0.length = 1
    · rw [if_pos h1, if_pos h1]
      have hp := popL_perm (less := lessV) (⟨v.f0.drop 1, v.f1⟩ :: r) hc
      exact hp.cons_inv
    · rw [if_neg h1, if_neg h1]
      exact fixL_perm (less := lessV) _ 0 hc
theorem step1_vs (xs : List TV) (hn : 0 < xs.length) (h : VS xs) : VS (step1 xs) := by
  have hp := step1_perm xs hn
  have hf := step1_facts xs hn h.pos
  have hcut : ∀ i, 0 < i → i < (cut1 xs).length → (i - 1) / 2 ≠ 0 → lessV (el (cut1 xs) i) (el (cut1 xs) ((i - 1) / 2)) = false := by
    intro i h0 h1 h2
    rw [cut_el _ _ h0, cut_el _ _ (by omega)]
    exact h.heap i h0 (by rw [cut_len] at h1; exact h1) (Nat.zero_le _)
  have hc : 0 < (cut1 xs).length := by rw [cut_len]; exact hn
  refine ⟨?_, hf.1, ?_, ?_⟩
  · unfold step1
    split
    · have h1 := pop_heap lessV_ord (cut1 xs) hc hcut
      have hl := (popL_perm (less := lessV) (cut1 xs) hc).length_eq
      rw [List.length_cons] at hl
      rw [show (popL lessV (cut1 xs)).length = (cut1 xs).length - 1 by omega]
      exact h1
    · have h1 := fix_heap lessV_ord (cut1 xs) hc hcut
      rw [(fixL_perm (less := lessV) (cut1 xs) 0 hc).length_eq]
      exact h1
  · intro v hv
    have hm := hp.mem_iff.1 hv
    unfold tailV at hm
    rw [List.mem_append] at hm
    rcases hm with hm | hm
    · split at hm
      · cases hm
      · rw [List.mem_singleton] at hm
        subst hm
        exact (h.inc _ (mem_el hn)).sublist (List.drop_sublist _ _)
    · exact h.inc _ (List.mem_of_mem_drop hm)
  · rw [(hp.map _).nodup_iff]
    have ho := h.own
    match xs, hn with
    | v :: r, _ =>
      have e : el (v :: r) 0 = v := rfl
      unfold tailV
      rw [e]
      rw [List.map_cons, List.nodup_cons] at ho
      split
      · exact ho.2
      · show (v.f1 :: r.map (·.f1)).Nodup
        rw [List.nodup_cons]
        exact ho
theorem nodup_same {v : TV} {r : List TV} (h : ((v :: r).map (·.f1)).Nodup) : ∀ u ∈ r, u.f1 ≠ v.f1 := by
  intro u hu e
  rw [List.map_cons, List.nodup_cons] at h
  exact h.1 (by rw [← e]; exact List.mem_map_of_mem hu)
theorem run_is : ∀ (k : Nat) (xs : List TV) (out : List TC), VS xs → total xs ≤ k → Inc out → (∀ o ∈ out, ∀ c i, Pr xs c i → o.f0 ≤ c.f0) → Inc (runM k xs out) ∧ ∀ c, c ∈ runM k xs out ↔ Fm (Pr xs) out c
  | k, xs, out, hv, hk, hi, ho => by
    by_cases hn : xs.length = 0
    · have e : runM k xs out = out := by
        cases k with
        | zero => rfl
        | succ k => rw [runM, if_pos hn]
      rw [e]
      refine ⟨hi, fun c => ⟨.inl, ?_⟩⟩
      rintro (h | ⟨i, ⟨v, hv, _⟩, _⟩)
      · exact h
      · rw [List.length_eq_zero_iff.1 hn] at hv
        cases hv
    · have hn' : 0 < xs.length := by omega
      have h0 := hv.pos _ (mem_el hn')
      have hf := step1_facts xs hn' hv.pos
      obtain ⟨k, rfl⟩ : ∃ m, k = m + 1 := ⟨k - 1, by omega⟩
      have hc0 : el (el xs 0).f0 0 ∈ (el xs 0).f0 := List.mem_of_getElem? (el_eq h0)
      have hv2 := step1_vs xs hn' hv
      have hp := step1_perm xs hn'
      have hroot := root_least lessV_ord xs xs.length hv.heap
      have hincs := hv.inc _ (mem_el hn')
      have hown := hv.own
      have hPr : ∀ c i, Pr (step1 xs) c i ↔ Pr (tailV xs) c i := by
        intro c i
        unfold Pr
        constructor
        · rintro ⟨v, h1, h2⟩; exact ⟨v, hp.mem_iff.1 h1, h2⟩
        · rintro ⟨v, h1, h2⟩; exact ⟨v, hp.mem_iff.2 h1, h2⟩
      have hall : ∀ v ∈ xs, lessV v (el xs 0) = false := by
        intro v hv
        obtain ⟨j, hj, rfl⟩ := List.mem_iff_getElem.1 hv
        have := hroot j hj
        have e : el xs j = xs[j] := by unfold el; rw [List.getD_eq_getElem?_getD, List.getElem?_eq_getElem hj]; rfl
        rwa [e] at this
      have hP : ∀ c i, Pr xs c i ↔ (Pr (step1 xs) c i ∨ (c = el (el xs 0).f0 0 ∧ i = (el xs 0).f1)) := by
        intro c i
        rw [hPr]
        match xs, hn' with
        | v :: r, _ =>
          have e : el (v :: r) 0 = v := rfl
          unfold tailV
          rw [e] at h0 hc0 hincs ⊢
          match hvf : v.f0, h0 with
          | d :: ds, _ =>
            have e2 : el (d :: ds) 0 = d := rfl
            rw [e2]
            constructor
            · rintro ⟨u, hu, h1, h2⟩
              rw [List.mem_cons] at hu
              rcases hu with rfl | hu
              · rw [hvf, List.mem_cons] at h1
                rcases h1 with rfl | h1
                · exact .inr ⟨rfl, h2.symm⟩
                · left
                  refine ⟨⟨ds, u.f1⟩, ?_, h1, h2⟩
                  rw [if_neg (by intro e3; rw [List.length_cons] at e3; have : ds.length = 0 := by omega
                                 rw [List.length_eq_zero_iff.1 this] at h1; cases h1)]
                  simp
              · exact .inl ⟨u, by simp [hu], h1, h2⟩
            · rintro (⟨u, hu, h1, h2⟩ | ⟨rfl, rfl⟩)
              · rw [List.mem_append] at hu
                rcases hu with hu | hu
                · split at hu
                  · cases hu
                  · rw [List.mem_singleton] at hu
                    subst hu
                    exact ⟨v, by simp, by rw [hvf]; exact List.mem_cons_of_mem _ h1, h2⟩
                · exact ⟨u, by simpa using .inr hu, h1, h2⟩
              · exact ⟨v, by simp, by rw [hvf]; simp, rfl⟩
      have hmin : ∀ c i, Pr (step1 xs) c i → (el (el xs 0).f0 0).f0 < c.f0 ∨ ((el (el xs 0).f0 0).f0 = c.f0 ∧ (el xs 0).f1 < i) := by
        intro c i hc
        rw [hPr] at hc
        obtain ⟨u, hu, h1, rfl⟩ := hc
        unfold tailV at hu
        rw [List.mem_append] at hu
        rcases hu with hu | hu
        · split at hu
          · cases hu
          · rw [List.mem_singleton] at hu
            subst hu
            left
            match hvf : (el xs 0).f0, h0 with
            | d :: ds, _ =>
              rw [hvf] at h1 hincs
              unfold Inc at hincs
              rw [List.pairwise_cons] at hincs
              exact hincs.1 c h1
        · have hux : u ∈ xs := List.mem_of_mem_drop hu
          have hl := hall u hux
          have hne : u.f1 ≠ (el xs 0).f1 := by
            match xs, hn' with
            | v :: r, _ => exact nodup_same hown u hu
          unfold lessV at hl
          simp only [Bool.or_eq_false_iff, Bool.and_eq_false_iff, decide_eq_false_iff_not] at hl
          have hu0 := hv.pos u hux
          have hle : (el u.f0 0).f0 ≤ c.f0 := by
            have hui := hv.inc u hux
            match hvf : u.f0, hu0 with
            | d :: ds, _ =>
              rw [hvf] at h1 hui
              unfold Inc at hui
              rw [List.pairwise_cons] at hui
              rw [List.mem_cons] at h1
              have e2 : el (d :: ds) 0 = d := rfl
              rw [e2]
              rcases h1 with rfl | h1
              · exact Int.le_refl _
              · have := hui.1 c h1; omega
          omega
      have hle : ∀ o ∈ out, o.f0 ≤ (el (el xs 0).f0 0).f0 := fun o h => ho o h _ (el xs 0).f1 ⟨el xs 0, mem_el hn', hc0, rfl⟩
      have hst := fun c => fm_step (c := c) hP hmin hi hle
      have hst0 := hst (el (el xs 0).f0 0)
      have ih := run_is k (step1 xs) (out1 out (el (el xs 0).f0 0)) hv2 (by omega) hst0.2.1 (by
        intro o h c i hc
        have h1 := hst0.2.2 o h
        rcases hmin c i hc with h | h <;> omega)
      rw [runM, if_neg hn]
      exact ⟨ih.1, fun c => (ih.2 c).trans (hst c).1.symm⟩
theorem good_inc (l : List TC) (h : goodB l = true) : Inc l := by
  unfold goodB at h
  rw [Bool.and_eq_true, List.all_eq_true] at h
  have h1 := h.1
  have hstep : ∀ d i, i + 1 + d < l.length → (el l i).f0 < (el l (i + 1 + d)).f0 := by
    intro d
    induction d with
    | zero =>
      intro i hi
      have := h1 (i + 1) (by rw [List.mem_range]; omega)
      simp only [Bool.or_eq_true, decide_eq_true_eq] at this
      rcases this with h | h
      · omega
      · exact h
    | succ d ih =>
      intro i hi
      have h2 := ih i (by omega)
      have := h1 (i + 1 + (d + 1)) (by rw [List.mem_range]; omega)
      simp only [Bool.or_eq_true, decide_eq_true_eq] at this
      rcases this with h | h
      · omega
      · rw [show i + 1 + (d + 1) - 1 = i + 1 + d by omega] at h
        omega
  unfold Inc
  rw [List.pairwise_iff_getElem]
  intro i j hi hj hij
  have := hstep (j - i - 1) i (by omega)
  rw [show i + 1 + (j - i - 1) = j by omega] at this
  have e : ∀ k (hk : k < l.length), el l k = l[k] := by
    intro k hk
    unfold el
    rw [List.getD_eq_getElem?_getD, List.getElem?_eq_getElem hk]; rfl
  rwa [e i hi, e j hj] at this
theorem pushAll_pr (l : List (List TC)) : ∀ n c i, Pr (pushAll l n) c i ↔ ∃ j : Nat, j < n ∧ i = (j : Int) ∧ c ∈ l.getD j []
  | 0, c, i => ⟨(by rintro ⟨v, hv, _⟩; cases hv), (by rintro ⟨j, h, _⟩; omega)⟩
  | n + 1, c, i => by
    show Pr (pushOne (pushAll l n) (l.getD n []) n) c i ↔ _
    have ih := pushAll_pr l n c i
    by_cases h : 0 < (l.getD n []).length
    · have hp := pushOne_perm (pushAll l n) (l.getD n []) n h
      constructor
      · rintro ⟨v, hv, h1, h2⟩
        have hm := hp.mem_iff.1 hv
        rw [List.mem_append, List.mem_singleton] at hm
        rcases hm with hm | rfl
        · obtain ⟨j, q1, q2⟩ := ih.1 ⟨v, hm, h1, h2⟩
          exact ⟨j, by omega, q2⟩
        · exact ⟨n, by omega, h2.symm, h1⟩
      · rintro ⟨j, q1, q2, q3⟩
        by_cases e : j = n
        · subst e
          exact ⟨⟨l.getD j [], (j : Int)⟩, hp.mem_iff.2 (by simp), q3, q2.symm⟩
        · obtain ⟨v, hv, h2⟩ := ih.2 ⟨j, by omega, q2, q3⟩
          exact ⟨v, hp.mem_iff.2 (by simp [hv]), h2⟩
    · rw [pushOne_nil _ _ _ h, ih]
      constructor
      · rintro ⟨j, q1, q2⟩; exact ⟨j, by omega, q2⟩
      · rintro ⟨j, q1, q2, q3⟩
        by_cases e : j = n
        · subst e
          rw [List.length_eq_zero_iff.1 (show (l.getD j []).length = 0 by omega)] at q3
          cases q3
        · exact ⟨j, by omega, q2, q3⟩
theorem pushAll_vs (l : List (List TC)) (hg : l.all goodB = true) : ∀ n, n ≤ l.length → VS (pushAll l n) ∧ ∀ v ∈ pushAll l n, v.f1 < (n : Int)
  | 0, _ => ⟨⟨(pushAll_facts l 0).2.2, (pushAll_facts l 0).2.1, (by intro v hv; cases hv), (by simp [pushAll])⟩, (by intro v hv; cases hv)⟩
  | n + 1, hn => by
    obtain ⟨h1, h2⟩ := pushAll_vs l hg n (by omega)
    have hm : l.getD n [] ∈ l := by
      rw [List.getD_eq_getElem?_getD, List.getElem?_eq_getElem (by omega)]
      exact List.getElem_mem _
    have hinc := good_inc _ (List.all_eq_true.1 hg _ hm)
    have hfs := pushAll_facts l (n + 1)
    by_cases h : 0 < (l.getD n []).length
    · have hp := pushOne_perm (pushAll l n) (l.getD n []) n h
      have hmem : ∀ v ∈ pushAll l (n + 1), v ∈ pushAll l n ∨ v = ⟨l.getD n [], (n : Int)⟩ := by
        intro v hv
        have := hp.mem_iff.1 hv
        rwa [List.mem_append, List.mem_singleton] at this
      refine ⟨⟨hfs.2.2, hfs.2.1, ?_, ?_⟩, ?_⟩
      · intro v hv
        rcases hmem v hv with hv | rfl
        · exact h1.inc v hv
        · exact hinc
      · show ((pushOne (pushAll l n) (l.getD n []) n).map (·.f1)).Nodup
        rw [(hp.map _).nodup_iff, List.map_append, List.nodup_append]
        refine ⟨h1.own, by simp, ?_⟩
        intro a ha b hb e
        obtain ⟨v, hv, rfl⟩ := List.mem_map.1 ha
        have := h2 v hv
        simp at hb
        omega
      · intro v hv
        rcases hmem v hv with hv | rfl
        · have := h2 v hv; omega
        · show (n : Int) < _; omega
    · have e : pushAll l (n + 1) = pushAll l n := pushOne_nil _ _ _ h
      rw [e]
      exact ⟨h1, fun v hv => by have := h2 v hv; omega⟩
/-- The document's union of two. -/
def M2T : List TC → List TC → List TC
  | [], m => m
  | a :: l, [] => a :: l
  | a :: l, b :: m => if b.f0 = a.f0 then a :: M2T l m else if a.f0 ≤ b.f0 then a :: M2T l (b :: m) else b :: M2T (a :: l) m
termination_by l m => l.length + m.length
theorem m2_nil (l : List TC) : M2T l [] = l := by
  cases l <;> simp [M2T]
theorem m2_mem (l m : List TC) : Inc l → Inc m → (∀ c, c ∈ M2T l m ↔ (c ∈ l ∨ (c ∈ m ∧ ∀ d ∈ l, d.f0 ≠ c.f0))) ∧ Inc (M2T l m) := by
  fun_induction M2T l m with
  | case1 m =>
    intro _ h
    exact ⟨fun c => by simp, h⟩
  | case2 a l =>
    intro h _
    exact ⟨fun c => by simp, h⟩
  | case3 a l b m e ih =>
    intro hl hm
    have hl' := hl
    have hm' := hm
    unfold Inc at hl' hm'
    rw [List.pairwise_cons] at hl' hm'
    obtain ⟨i1, i2⟩ := ih hl'.2 hm'.2
    constructor
    · intro c
      rw [List.mem_cons, i1]
      constructor
      · rintro (rfl | h | ⟨h1, h2⟩)
        · exact .inl (by simp)
        · exact .inl (by simp [h])
        · refine .inr ⟨by simp [h1], fun d hd => ?_⟩
          rw [List.mem_cons] at hd
          rcases hd with rfl | hd
          · have := hm'.1 c h1; omega
          · exact h2 d hd
      · rintro (h | ⟨h1, h2⟩)
        · rw [List.mem_cons] at h
          rcases h with rfl | h
          · exact .inl rfl
          · exact .inr (.inl h)
        · rw [List.mem_cons] at h1
          rcases h1 with rfl | h1
          · exact absurd e.symm (h2 a (by simp))
          · exact .inr (.inr ⟨h1, fun d hd => h2 d (by simp [hd])⟩)
    · unfold Inc
      rw [List.pairwise_cons]
      refine ⟨fun c hc => ?_, i2⟩
      rcases (i1 c).1 hc with h | ⟨h, _⟩
      · exact hl'.1 c h
      · have := hm'.1 c h; omega
  | case4 a l b m e hle ih =>
    intro hl hm
    have hl' := hl
    have hm' := hm
    unfold Inc at hl' hm'
    rw [List.pairwise_cons] at hl' hm'
    obtain ⟨i1, i2⟩ := ih hl'.2 hm
    constructor
    · intro c
      rw [List.mem_cons, i1]
      constructor
      · rintro (rfl | h | ⟨h1, h2⟩)
        · exact .inl (by simp)
        · exact .inl (by simp [h])
        · refine .inr ⟨h1, fun d hd => ?_⟩
          rw [List.mem_cons] at hd
          rcases hd with rfl | hd
          · rw [List.mem_cons] at h1
            rcases h1 with rfl | h1
            · omega
            · have := hm'.1 c h1; omega
          · exact h2 d hd
      · rintro (h | ⟨h1, h2⟩)
        · rw [List.mem_cons] at h
          rcases h with rfl | h
          · exact .inl rfl
          · exact .inr (.inl h)
        · exact .inr (.inr ⟨h1, fun d hd => h2 d (by simp [hd])⟩)
    · unfold Inc
      rw [List.pairwise_cons]
      refine ⟨fun c hc => ?_, i2⟩
      rcases (i1 c).1 hc with h | ⟨h, _⟩
      · exact hl'.1 c h
      · rw [List.mem_cons] at h
        rcases h with rfl | h
        · omega
        · have := hm'.1 c h; omega
  | case5 a l b m e hle ih =>
    intro hl hm
    have hl' := hl
    have hm' := hm
    unfold Inc at hl' hm'
    rw [List.pairwise_cons] at hl' hm'
    obtain ⟨i1, i2⟩ := ih hl hm'.2
    constructor
    · intro c
      rw [List.mem_cons, i1]
      constructor
      · rintro (rfl | h | ⟨h1, h2⟩)
        · refine .inr ⟨by simp, fun d hd => ?_⟩
          rw [List.mem_cons] at hd
          rcases hd with rfl | hd
          · omega
          · have := hl'.1 d hd; omega
        · exact .inl h
        · exact .inr ⟨by simp [h1], h2⟩
      · rintro (h | ⟨h1, h2⟩)
        · exact .inr (.inl h)
        · rw [List.mem_cons] at h1
          rcases h1 with rfl | h1
          · exact .inl rfl
          · exact .inr (.inr ⟨h1, h2⟩)
    · unfold Inc
      rw [List.pairwise_cons]
      refine ⟨fun c hc => ?_, i2⟩
      rcases (i1 c).1 hc with h | ⟨h, _⟩
      · rw [List.mem_cons] at h
        rcases h with rfl | h
        · omega
        · have := hl'.1 c h; omega
      · exact hm'.1 c h
theorem merge_run (l : List (List TC)) (hg : l.all goodB = true) : Inc (runM (total (pushAll l l.length)) (pushAll l l.length) []) ∧ ∀ c, c ∈ runM (total (pushAll l l.length)) (pushAll l l.length) [] ↔ ∃ j : Nat, j < l.length ∧ c ∈ l.getD j [] ∧ ∀ i : Nat, i < j → ∀ d ∈ l.getD i [], d.f0 ≠ c.f0 := by
  have hv := (pushAll_vs l hg l.length (Nat.le_refl _)).1
  have h := run_is _ _ [] hv (Nat.le_refl _) (by unfold Inc; simp) (by intro o ho; cases ho)
  refine ⟨h.1, fun c => (h.2 c).trans ?_⟩
  unfold Fm
  constructor
  · rintro (h | ⟨i, h1, _, h3⟩)
    · cases h
    · obtain ⟨j, q1, rfl, q3⟩ := (pushAll_pr l l.length c i).1 h1
      refine ⟨j, q1, q3, fun i hi d hd => h3 d i ((pushAll_pr l l.length d i).2 ⟨i, by omega, rfl, hd⟩) (by omega)⟩
  · rintro ⟨j, q1, q3, h3⟩
    refine .inr ⟨j, (pushAll_pr l l.length c j).2 ⟨j, q1, rfl, q3⟩, (by intro o ho; cases ho), ?_⟩
    intro d i hd hi
    obtain ⟨i', q1', rfl, q3'⟩ := (pushAll_pr l l.length d i).1 hd
    exact h3 i' (by omega) d q3'
theorem merge_two (a b : List TC) (ha : goodB a = true) (hb : goodB b = true) : mergeF [a, b] = if (M2T a b).length > 100 then ([], 15) else (M2T a b, 0) := by
  have hg : [a, b].all goodB = true := by simp [ha, hb]
  have hr := merge_run [a, b] hg
  have hm := m2_mem a b (good_inc a ha) (good_inc b hb)
  have e : runM (total (pushAll [a, b] [a, b].length)) (pushAll [a, b] [a, b].length) [] = M2T a b := by
    refine inc_eq _ _ hr.1 hm.2 (fun c => (hr.2 c).trans (Iff.trans ?_ (hm.1 c).symm))
    constructor
    · rintro ⟨j, h1, h2, h3⟩
      match j, h1 with
      | 0, _ => exact .inl h2
      | 1, _ => exact .inr ⟨h2, h3 0 (by omega)⟩
    · rintro (h | ⟨h1, h2⟩)
      · exact ⟨0, by simp, h, by intro i hi; omega⟩
      · refine ⟨1, by simp, h1, ?_⟩
        intro i hi
        obtain rfl : i = 0 := by omega
        exact h2
  unfold mergeF
  rw [if_pos hg, e]
theorem merge_three (a b c : List TC) (ha : goodB a = true) (hb : goodB b = true) (hc : goodB c = true) : mergeF [a, b, c] = if (M2T (M2T a b) c).length > 100 then ([], 15) else (M2T (M2T a b) c, 0) := by
  have hg : [a, b, c].all goodB = true := by simp [ha, hb, hc]
  have hr := merge_run [a, b, c] hg
  have hm := m2_mem a b (good_inc a ha) (good_inc b hb)
  have hm3 := m2_mem (M2T a b) c hm.2 (good_inc c hc)
  have e : runM (total (pushAll [a, b, c] [a, b, c].length)) (pushAll [a, b, c] [a, b, c].length) [] = M2T (M2T a b) c := by
    refine inc_eq _ _ hr.1 hm3.2 (fun x => (hr.2 x).trans (Iff.trans ?_ (hm3.1 x).symm))
    constructor
    · rintro ⟨j, h1, h2, h3⟩
      match j, h1 with
      | 0, _ => exact .inl ((hm.1 x).2 (.inl h2))
      | 1, _ => exact .inl ((hm.1 x).2 (.inr ⟨h2, h3 0 (by omega)⟩))
      | 2, _ =>
        refine .inr ⟨h2, fun d hd => ?_⟩
        rcases (hm.1 d).1 hd with h | ⟨h, _⟩
        · exact h3 0 (by omega) d h
        · exact h3 1 (by omega) d h
    · rintro (h | ⟨h1, h2⟩)
      · rcases (hm.1 x).1 h with h | ⟨h1, h2⟩
        · exact ⟨0, by simp, h, by intro i hi; omega⟩
        · refine ⟨1, by simp, h1, ?_⟩
          intro i hi
          obtain rfl : i = 0 := by omega
          exact h2
      · refine ⟨2, by simp, h1, ?_⟩
        intro i hi d hd
        match i, hi with
        | 0, _ => exact h2 d ((hm.1 d).2 (.inl hd))
        | 1, _ =>
          by_cases hex : ∃ q ∈ a, q.f0 = d.f0
          · obtain ⟨q, hq, e⟩ := hex
            rw [← e]
            exact h2 q ((hm.1 q).2 (.inl hq))
          · exact h2 d ((hm.1 d).2 (.inr ⟨hd, fun q hq e => hex ⟨q, hq, e⟩⟩))
  unfold mergeF
  rw [if_pos hg, e]
theorem merge_bad (l : List (List TC)) (h : ¬ l.all goodB = true) : mergeF l = ([], 2) := by
  unfold mergeF
  rw [if_neg h]
end Hp
end Go.Proofs.Ythehkmpameeofaa.P

namespace Go.Proofs.Ythehkmpameeofaa.P
open Go.RowKit Go.Proofs.YthehkmpameeofaaW.PrintWords Go.Proofs.YthehkmpameeofaaW.PrintLast Go.Proofs.YthehkmpameeofaaW.PrintMore
set_option linter.unusedVariables false
set_option linter.unusedSimpArgs false
namespace Hp
theorem rows_get {w : World} {A : Option Addr} {l : List (List TC)} (h : Kd.C (Kd.slice 45 k45) w A l.length l) (i : Nat) (hi : i < l.length) :
    ∃ ad A1 c1, A = some ad ∧ w.cell? (ad.add i) = some (.slice A1 (l.getD i []).length c1) ∧ (l.getD i []).length ≤ c1 ∧ Kd.C k45 w A1 (l.getD i []).length (l.getD i []) := by
  obtain ⟨ad, c, e, hl, hK, hc⟩ := Kd.C_get h [] (i : Int) (by omega) (by omega)
  obtain ⟨A1, c1, rfl, h1, h2⟩ := hK
  refine ⟨ad, A1, c1, e, ?_, h1, h2⟩
  have := hc 0 _ rfl
  simp only [show (Kd.slice 45 k45).sz = 1 from rfl, Nat.mul_one, Nat.add_zero, Int.toNat_natCast] at this
  exact this
set_option maxHeartbeats 8000000 in
set_option maxRecDepth 100000 in
theorem Merge_calls (w : World) (A : Option Addr) (c : Nat) (l : List (List TC)) (hr : Kd.C (Kd.slice 45 k45) w A l.length l) (hc : l.length ≤ c) (hl : l.length ≤ 1000) :
    Calls Try.prog 8 #[.slice A l.length c] w fun e w' => ∃ v0, e = .returned (.tuple #[v0, .int .i64 (mergeF l).2]) ∧ Kd.R k45 45 w' w.heap.size (fun _ => True) v0 (mergeF l).1 ∧ Below w.heap.size w w' := by
  have HR := Aside0.mk hr
  have HC := Aside0.mk hc
  clear hr hc
  have hB0 : Below w.heap.size w (w.alloc (.cells #[.slice none 0 0] 50)) := below_alloc (Below.refl _ _) _
  have HB0 := Aside0.mk hB0
  have HV0 := Aside0.mk (voices_nil w l.length)
  clear hB0
  go_enter Try.func8, Try.ntmps8
  go_wp2
  go_loopg [11] l.length (fun gk v11 wr => ∃ i : Nat, v11 = .int .i64 i ∧ i ≤ l.length ∧ Aside0 (gk = l.length - i) ∧ Aside0 ((l.take i).all goodB = true) ∧ Aside0 (HV wr w.heap.size w.heap.size l.length w (pushAll l i)) ∧ Aside0 (Below w.heap.size w wr))
  case atStart => exact ⟨0, rfl, Nat.zero_le _, ⟨rfl⟩, ⟨by simp⟩, HV0, HB0⟩
  case round =>
    clear HV0 HB0
    obtain ⟨i, rfl, hi, HG, HA, HV1, HB1⟩ := hrel
    by_cases hlt : i < l.length
    · obtain ⟨ad, A1, c1, rfl, hcell, h1, h2⟩ := rows_get HR.out i hlt
      replace hcell := (HB1.out.cell (World.block_lt_of_cell? w _ hcell)).trans hcell
      have hone : (l.getD i []).length ≤ 9223372036854775807 := h2.2.1
      obtain ⟨one, Hone⟩ : ∃ one, one = l.getD i [] := ⟨_, rfl⟩
      rw [← Hone] at hcell h1 h2 hone
      have HK := Aside0.mk h2
      have HKc := Aside0.mk h1
      have HO := Aside0.mk Hone
      have hgood := fun W hK => score_Good.calls (2 * one.length + 2) A1 c1 one _ W hK h1 (good_val one hone _ (by omega))
      have HGd := Aside0.mk hgood
      have HOl := Aside0.mk hone
      clear h1 h2 hgood Hone hone
      go_wp2_with fail
      refine (HGd.out _ (Kd.C_below HK.out HB1.out)).mono ?_
      rintro e w1 ⟨rfl, hb⟩
      have HV2 := Aside0.mk (HRep.fr (voices_ty w w.heap.size w.heap.size l.length (Nat.le_refl _) (Nat.le_refl _) (by omega)) HV1.out hb)
      have HB2 := Aside0.mk (below_then HB1.out HB1.out.size hb)
      clear hb HV1 HB1 HGd hcell
      have hall : (l.take (i + 1)).all goodB = goodB one := by
        rw [List.take_add_one, List.all_append, HA.out, Bool.true_and, List.getElem?_eq_getElem hlt, HO.out, List.getD_eq_getElem?_getD, List.getElem?_eq_getElem hlt]
        simp
      have HA2 := Aside0.mk hall
      clear hall
      cases hgb : goodB one with
      | false =>
        rw [hgb] at HA2
        have hF : mergeF l = ([], 2) := by
          unfold mergeF
          rw [if_neg]
          intro hh
          have := HA2.out
          have h3 : (l.take (i + 1)).all goodB = true := by
            rw [List.all_eq_true] at hh ⊢
            exact fun x hx => hh x (List.mem_of_mem_take hx)
          rw [h3] at this
          cases this
        have HFF := Aside0.mk hF
        clear hF hgb
        go_wp2
        go_ret2
        rw [HFF.out]
        exact ⟨_, rfl, Kd.R_nil _ _ _ _ _, HB2.out⟩
      | true =>
        rw [hgb] at HA2
        clear hgb
        by_cases hz : 0 < one.length
        · have hpush := fun (W : World) (hv : HV W w.heap.size w.heap.size l.length w (pushAll l i)) (hb : Below w.heap.size w W) => voices_push (Nat.le_refl _) (Nat.le_refl _) (by omega) hv (by have := (pushAll_facts l i).1; omega) (pushAll_facts l i).2.1 A1 c1 one (i : Int) hz HKc.out HK.out hb
          have HP := Aside0.mk hpush
          have hb1 : decide (0 < one.length) = true := decide_eq_true hz
          have hstep : pushAll l (i + 1) = upL lessV (pushAll l i ++ [⟨one, (i : Int)⟩]) (pushAll l i).length := by
            show pushOne (pushAll l i) (l.getD i []) i = _
            rw [← HO.out]
            unfold pushOne
            rw [if_pos hz]
          have HST := Aside0.mk hstep
          clear hpush hz hstep
          go_wp2_with fail
          refine (HP.out _ HV2.out HB2.out).mono ?_
          rintro e w2 ⟨rfl, hv, hb⟩
          rw [← HST.out] at hv
          have HV3 := Aside0.mk hv
          have HB3 := Aside0.mk hb
          clear hv hb HV2 HB2 HP
          go_wp2
          go_roundg (l.length - (i + 1))
          case measure => have := HG.out; omega
          case rel => exact ⟨i + 1, by go_num, by omega, ⟨rfl⟩, HA2, HV3, HB3⟩
        · have hb1 : decide (0 < one.length) = false := decide_eq_false hz
          have hstep : pushAll l (i + 1) = pushAll l i := by
            show pushOne (pushAll l i) (l.getD i []) i = _
            rw [← HO.out]
            exact pushOne_nil _ _ _ hz
          have hz0 : one.length = 0 := by omega
          have HV3 := Aside0.mk (show HV w1 w.heap.size w.heap.size l.length w (pushAll l (i + 1)) by rw [hstep]; exact HV2.out)
          clear hz hstep HV2 hz0
          go_wp2
          go_roundg (l.length - (i + 1))
          case measure => have := HG.out; omega
          case rel => exact ⟨i + 1, by go_num, by omega, ⟨rfl⟩, HA2, HV3, HB2⟩
    · obtain rfl : i = l.length := by omega
      have hA : l.all goodB = true := by have := HA.out; rwa [List.take_length] at this
      have HA2 := Aside0.mk hA
      have ht : total (pushAll l l.length) ≤ 100000 := by
        have := pushAll_total l hA l.length (Nat.le_refl _)
        omega
      have HT := Aside0.mk ht
      have hfin : ∀ out, out = runM (total (pushAll l l.length)) (pushAll l l.length) [] → mergeF l = if out.length > 100 then ([], 15) else (out, 0) := by
        intro out e
        unfold mergeF
        rw [if_pos hA, ← e]
      have HF := Aside0.mk hfin
      clear hA HA HG hi hfin ht
      go_wp2
      go_loopg [7] (total (pushAll l l.length)) (fun gk v7 wr => ∃ (xs : List TV) (out : List TC), Aside0 (gk = total xs) ∧ Aside0 (∀ v ∈ xs, 0 < v.f0.length) ∧ Aside0 (xs.length ≤ l.length) ∧ Aside0 (HV wr w.heap.size w.heap.size l.length w xs) ∧ Aside0 (Below w.heap.size w wr) ∧ Aside0 (Kd.R k45 45 wr w.heap.size (fun k => k ≠ w.heap.size) v7 out) ∧ Aside0 (runM (total xs) xs out = runM (total (pushAll l l.length)) (pushAll l l.length) []) ∧ Aside0 (out.length + total xs ≤ 100000))
      case atStart => exact ⟨pushAll l l.length, [], ⟨rfl⟩, ⟨(pushAll_facts l _).2.1⟩, ⟨(pushAll_facts l _).1⟩, HV1, HB1, ⟨Kd.R_nil _ _ _ _ _⟩, ⟨rfl⟩, ⟨by have := HT.out; simpa using this⟩⟩
      case round =>
        clear HV1 HB1 HT
        obtain ⟨xs, out, HG, HGD, HXL, HV1, HB1, HO, HU, HL⟩ := hrel
        by_cases hz : xs.length = 0
        · obtain ⟨V, inner, g1, g2, _⟩ := HV1.out
          rw [hz] at g2
          obtain ⟨A', c', rfl⟩ := own_slice g2
          have hcv : wr.cell? ⟨w.heap.size, 0, none⟩ = some (.slice A' 0 c') := blk_cell g1 0
          have hout : out = runM (total (pushAll l l.length)) (pushAll l l.length) [] := by
            rw [← HU.out]
            cases hk : total xs with
            | zero => rfl
            | succ k => rw [runM, if_pos hz]
          have hF := HF.out out hout
          obtain ⟨A7, c7, rfl⟩ := Kd.R_slice HO.out
          have HFF := Aside0.mk hF
          clear hF hout g1 g2 hz
          by_cases h100 : out.length > 100
          · have hb : decide (100 < out.length) = true := decide_eq_true h100
            have hb' : decide (100 < (out.length : Int)) = true := decide_eq_true (by omega)
            have HE := Aside0.mk (HFF.out.trans (if_pos h100))
            clear h100
            go_wp2
            go_ret2
            rw [HE.out]
            exact ⟨_, rfl, Kd.R_nil _ _ _ _ _, HB1.out⟩
          · have hb : decide (100 < out.length) = false := decide_eq_false h100
            have hb' : decide (100 < (out.length : Int)) = false := decide_eq_false (by omega)
            have HE := Aside0.mk (HFF.out.trans (if_neg h100))
            clear h100
            go_wp2
            go_ret2
            rw [HE.out]
            exact ⟨_, rfl, Kd.R_mono HO.out (fun _ _ => trivial), HB1.out⟩
        · have hn : 0 < xs.length := by omega
          have hx0 : 0 < (el xs 0).f0.length := HGD.out _ (mem_el hn)
          have HN := Aside0.mk hn
          have HX0 := Aside0.mk hx0
          have hbn : decide (0 < xs.length) = true := decide_eq_true hn
          have hbn' : decide (0 < (xs.length : Int)) = true := decide_eq_true (by omega)
          have hqn : (0 < xs.length) = True := eq_true hn
          have hbx : decide (0 < (el xs 0).f0.length) = true := decide_eq_true hx0
          have hqx : (0 < (el xs 0).f0.length) = True := eq_true hx0
          obtain ⟨b, cap, c0, A0, rest, p1, p2, p3, p4, p5, p6, p7, p8⟩ := HV_front HV1.out hn
          obtain ⟨ad, rfl, hd0, hd1⟩ := at_T45 (Kd.C_below p5 HB1.out) 0 (by omega) (by omega)
          rw [show (0 : Int).toNat = 0 from rfl, Nat.zero_mul, Addr.add_zero'] at hd0 hd1
          have hgc : wr.cell? ⟨w.heap.size, 0, none⟩ = some (.slice (some ⟨b, 0, none⟩) xs.length cap) := blk_cell p1 0
          have hbc : wr.cell? ⟨b, 0, none⟩ = some (.slice (some ad) (el xs 0).f0.length c0) := (own_cell p2 0 (by simp)).1
          clear p1 p2 p3 p4 p5 p6 p7 p8 hn hx0 hz
          go_wp2
          obtain ⟨A7, c7, rfl⟩ := Kd.R_slice HO.out
          obtain ⟨cue, hcue⟩ : ∃ cue, cue = rd_T45 (el xs 0).f0 0 := ⟨_, rfl⟩
          have hcue' : cue = el (el xs 0).f0 0 := hcue
          rw [← hcue]
          have HCU := Aside0.mk hcue'
          have HB2 := Aside0.mk (HB1.out.alloc (HB1.out.size) (.cells #[.int .i64 cue.f0, .string cue.f1] 45))
          have hbal : Below wr.heap.size wr (wr.alloc (.cells #[.int .i64 cue.f0, .string cue.f1] 45)) := below_alloc (Below.refl _ _) _
          have HV2 := Aside0.mk (HRep.fr (voices_ty w w.heap.size w.heap.size l.length (Nat.le_refl _) (Nat.le_refl _) (by omega)) HV1.out hbal)
          have HO2 := Aside0.mk (Kd.R_alloc HO.out (.cells #[.int .i64 cue.f0, .string cue.f1] 45))
          have hcb : (wr.alloc (.cells #[.int .i64 cue.f0, .string cue.f1] 45)).heap[wr.heap.size]? = some (.cells #[.int .i64 cue.f0, .string cue.f1] 45 (0, 0)) := blk_new _ _
          generalize wr.alloc (.cells #[.int .i64 cue.f0, .string cue.f1] 45) = W1 at *
          generalize wr.heap.size = cb at *
          clear hcue hcue' hgc hbc hd0 hd1 hbal HV1 HB1 HO
          obtain ⟨b, cap, c0, A0, rest, p1, p2, p3, p4, p5, p6, p7, p8⟩ := HV_front HV2.out HN.out
          have hgc : W1.cell? ⟨w.heap.size, 0, none⟩ = some (.slice (some ⟨b, 0, none⟩) xs.length cap) := blk_cell p1 0
          have hbc : W1.cell? ⟨b, 0, none⟩ = some (.slice A0 (el xs 0).f0.length c0) := (own_cell p2 0 (by simp)).1
          have hbf : W1.frozen? ⟨b, 0, none⟩ = false := (own_cell p2 0 (by simp)).2
          have hne1 : ¬ b = w.heap.size := p7
          have hne2 : ¬ w.heap.size = b := fun e => p7 e.symm
          have hcne : cb ≠ w.heap.size := blk_ne hcb p1 (by decide)
          have hone1 : (1 ≤ ((el xs 0).f0.length : Int)) = True := eq_true (by have := HX0.out; omega)
          have hs0 := fun W a => run_store Try.prog W a (.slice (if c0 = 1 then A0 else Option.map (fun x : Addr => ({ block := x.block, off := x.off + 2 } : Addr)) A0) ((el xs 0).f0.length - 1) (c0 - 1)) .plain rfl
          have hKd : Kd.C k45 w (if c0 = 1 then A0 else Option.map (fun x : Addr => ({ block := x.block, off := x.off + 2 } : Addr)) A0) ((el xs 0).f0.drop 1).length ((el xs 0).f0.drop 1) := Kd.C_drop p5 (by have := HX0.out; omega) p4
          rw [List.length_drop] at hKd
          have P1 := Aside0.mk p1
          have P2 := Aside0.mk p2
          have P3 := Aside0.mk p3
          have P4 := Aside0.mk p4
          have P6 := Aside0.mk p6
          have P8 := Aside0.mk (And.intro p7 p8)
          have HKD := Aside0.mk hKd
          have HCB := Aside0.mk hcb
          have HCN := Aside0.mk hcne
          clear p1 p2 p3 p4 p5 p6 p7 p8 hKd hcb hcne
          go_region
          have hv3 := HV_cut (c1 := c0 - 1) HN.out HXL.out (Nat.le_refl _) HB2.out.size P1.out P2.out P3.out P6.out P8.out.1 P8.out.2 (by rw [List.length_drop]; have := P4.out; omega) (by rw [List.length_drop]; exact HKD.out)
          rw [List.length_drop] at hv3
          have hst := P2.out.stored 0 (.slice (if c0 = 1 then A0 else Option.map (fun x : Addr => ({ block := x.block, off := x.off + 2 } : Addr)) A0) ((el xs 0).f0.length - 1) (c0 - 1))
          have hF : FrH 54 w.heap.size w.heap.size W1 (W1.setCell ⟨b, 0, none⟩ (.slice (if c0 = 1 then A0 else Option.map (fun x : Addr => ({ block := x.block, off := x.off + 2 } : Addr)) A0) ((el xs 0).f0.length - 1) (c0 - 1))).drew := (FrH.of_grown P2.out hst.2).trans (FrH.of_below (below_drew (Below.refl _ _)))
          have hv4 : HV (W1.setCell ⟨b, 0, none⟩ (.slice (if c0 = 1 then A0 else Option.map (fun x : Addr => ({ block := x.block, off := x.off + 2 } : Addr)) A0) ((el xs 0).f0.length - 1) (c0 - 1))).drew w.heap.size w.heap.size l.length w (cut1 xs) := HRep.fr (voices_ty w w.heap.size w.heap.size l.length (Nat.le_refl _) (Nat.le_refl _) (by omega)) hv3 (below_drew (Below.refl _ _))
          have hcb3 := hF.2.2 cb _ HCB.out HCN.out (.inr (fun cs e => by injection e with _ e; exact absurd e (by decide)))
          have hgc2 : (W1.setCell ⟨b, 0, none⟩ (.slice (if c0 = 1 then A0 else Option.map (fun x : Addr => ({ block := x.block, off := x.off + 2 } : Addr)) A0) ((el xs 0).f0.length - 1) (c0 - 1))).drew.cell? ⟨w.heap.size, 0, none⟩ = some (.slice (some ⟨b, 0, none⟩) xs.length cap) := blk_cell (blk_grown P1.out hst.2 (fun e => P8.out.1 (Option.some.inj e).symm)) 0
          have hbc2 : (W1.setCell ⟨b, 0, none⟩ (.slice (if c0 = 1 then A0 else Option.map (fun x : Addr => ({ block := x.block, off := x.off + 2 } : Addr)) A0) ((el xs 0).f0.length - 1) (c0 - 1))).drew.cell? ⟨b, 0, none⟩ = some (.slice (if c0 = 1 then A0 else Option.map (fun x : Addr => ({ block := x.block, off := x.off + 2 } : Addr)) A0) ((el xs 0).f0.length - 1) (c0 - 1)) := (own_cell hst.1 0 (by simp)).1
          have HB3 := Aside0.mk (FrH.below (Nat.le_refl _) (Nat.le_refl _) HB2.out hF)
          have HO3 := Aside0.mk (R_frH HO2.out hF (fun _ hk => hk) (by decide))
          have HV3 := Aside0.mk hv4
          have HCB3 := Aside0.mk hcb3
          clear hv3 hst hF hv4 hcb3 hgc hbc hbf hs0 hne1 hne2 hone1 HV2 HO2 HB2 HCB P1 P2 P3 P4 P6 P8 HKD
          generalize (W1.setCell ⟨b, 0, none⟩ (.slice (if c0 = 1 then A0 else Option.map (fun x : Addr => ({ block := x.block, off := x.off + 2 } : Addr)) A0) ((el xs 0).f0.length - 1) (c0 - 1))).drew = W2 at *
          generalize (if c0 = 1 then A0 else Option.map (fun x : Addr => ({ block := x.block, off := x.off + 2 } : Addr)) A0) = A1 at *
          generalize c0 - 1 = c1 at *
          obtain ⟨m1, hm1⟩ : ∃ m1, m1 = (el xs 0).f0.length - 1 := ⟨_, rfl⟩
          rw [← hm1] at hbc2 ⊢
          have HM1 := Aside0.mk hm1
          clear hm1
          have HS1 := Aside0.mk (step1_facts xs HN.out HGD.out)
          by_cases h1 : m1 = 0
          · have hE := Aside0.mk (show step1 xs = popL lessV (cut1 xs) from if_pos (by have := HM1.out; have := HX0.out; omega))
            have hb1 : ((m1 : Int) == 0) = true := beq_iff_eq.mpr (by omega)
            clear h1
            have HPC := Aside0.mk (voices_pop (Nat.le_refl _) (Nat.le_refl _) (by omega) HV3.out (by rw [cut_len]; exact HN.out) (fun k hk hk2 => by rw [cut_el xs k hk]; exact HGD.out _ (mem_el (by rw [cut_len] at hk2; exact hk2))) HB3.out)
            go_wp2_with fail
            refine HPC.out.mono ?_
            rintro e W3 ⟨vp, rfl, hv, hb, hf⟩
            rw [← hE.out] at hv
            have hcb4 := hf.2.2 cb _ HCB3.out HCN.out (.inr (fun cs e => by injection e with _ e; exact absurd e (by decide)))
            have HO4 := Aside0.mk (R_frH HO3.out hf (fun _ hk => hk) (by decide))
            have HV4 := Aside0.mk hv
            have HB4 := Aside0.mk hb
            have HLT := Aside0.mk (show w.heap.size < W3.heap.size from by obtain ⟨V, inner, g1, _⟩ := hv; exact blk_lt g1)
            have hc0 : W3.cell? ⟨cb, 0, none⟩ = some (.int .i64 cue.f0) := (blk_cell hcb4 0).trans rfl
            have hc1 : W3.cell? ⟨cb, 1, none⟩ = some (.string cue.f1) := (blk_cell hcb4 1).trans rfl
            have hU2 : runM (total (step1 xs)) (step1 xs) (out1 out cue) = runM (total (pushAll l l.length)) (pushAll l l.length) [] := by
              rw [← HU.out, ← HS1.out.2.2, runM, if_neg (by have := HN.out; omega), HCU.out]
            have HU2 := Aside0.mk hU2
            clear hv hb hf hcb4 hU2 hgc2 hbc2 hb1 hE HPC HV3 HO3 HB3 HCB3 HM1
            by_cases ho : out.length = 0
            · have hb1 : ((out.length : Int) == 0) = true := beq_iff_eq.mpr (by omega)
              have hO1 := Aside0.mk (show out1 out cue = out ++ [cue] from if_pos (.inl ho))
              have HOL := Aside0.mk ho
              clear ho
              go_wp2
              go_region
              go_wp2_with ((with_reducible refine gate_builtin (b := .append) (xs := #[.tmp 71, .tmp 73]) rfl ?_); (try (refine gate_guard (by rfl) ?_; dsimp only)); at_builtin; refine Aside0.out ?_)
              refine ⟨?_⟩
              refine Kd.R_append k45 (w0 := w) (W := W3.drew) w.heap.size rfl (.tmp 71) (.tmp 73) 22 45 (.agg #[.int .i64 0, .string ⟨#[]⟩]) 24 rfl Try.underlying22 info45 rfl (by decide) (by omega) (.slice A7 out.length c7) out cue [.int .i64 cue.f0, .string cue.f1] (fun k_ => k_ ≠ w.heap.size) (fun _ => False) rfl rfl ?aP (fun _ hk => hk.elim) ?aF ?aO ?aB ?aS ?aL ?_
              (case aP => exact k45_mkM _ _ _ cue)
              (case aB => exact pw_below_drewN HB4.out 1)
              (case aF => intro k_ hk e_; subst e_; exact absurd hk (Nat.not_le.2 HLT.out))
              (case aO => exact Kd.R_drew HO4.out)
              (case aS => exact HB4.out.size)
              (case aL => have := HL.out; omega)
              intro v153 w30 ho5 hb5 hg5 hat
              rw [← hO1.out] at ho5
              have HO5 := Aside0.mk ho5
              have HV5 := Aside0.mk (HV_grown (HRep.fr (voices_ty w w.heap.size w.heap.size l.length (Nat.le_refl _) (Nat.le_refl _) (by omega)) HV4.out (below_drew (Below.refl _ _))) hg5 hb5 (Kd.R_drew HO4.out).2.choose_spec.1 (by decide) (by decide))
              have HB5 := Aside0.mk hb5
              clear ho5 hb5 hg5 hat
              go_wp2
              have HL5 : Aside0 ((out1 out cue).length + total (step1 xs) ≤ 100000) := ⟨by rw [hO1.out, List.length_append, List.length_singleton]; have := HL.out; have := HS1.out.2.2; omega⟩
              go_roundg (total (step1 xs))
              case measure => have := HG.out; have := HS1.out.2.2; omega
              case rel => exact ⟨step1 xs, out1 out cue, ⟨rfl⟩, ⟨HS1.out.1⟩, ⟨Nat.le_trans HS1.out.2.1 HXL.out⟩, HV5, HB5, HO5, HU2, HL5⟩
            · obtain ⟨m, hm⟩ : ∃ m, out.length = m + 1 := ⟨out.length - 1, by omega⟩
              obtain ⟨A7', c7', e7, e8, hC⟩ := Kd.R_reads HO4.out
              obtain ⟨rfl, -, rfl⟩ : A7 = A7' ∧ True ∧ c7 = c7' := by injection e7 with e1 e2 e3; exact ⟨e1, trivial, e3⟩
              obtain ⟨ad, rfl, hd0, hd1⟩ := at_T45 hC (m : Int) (by omega) (by omega)
              rw [Int.toNat_natCast] at hd0 hd1
              have hel : (rd_T45 out (m : Int)) = el out (out.length - 1) := by rw [hm, Nat.add_sub_cancel]; rfl
              rw [hel] at hd0 hd1
              have hbm : decide (m < m + 1) = true := decide_eq_true (by omega)
              have hqm : (m < m + 1) = True := eq_true (by omega)
              have hq0 : (0 ≤ (m : Int)) = True := eq_true (by omega)
              have hb1 : (((m + 1 : Nat) : Int) == 0) = false := beq_eq_false_iff_ne.mpr (by omega)
              have hb2 : ((m : Int) + 1 == 0) = false := beq_eq_false_iff_ne.mpr (by omega)
              have hl63 : (m : Int) ≤ 1000000 := by have := HL.out; omega
              generalize hcl : (el out (out.length - 1)).f0 = lt at *
              have HOL := Aside0.mk ho
              have HCL := Aside0.mk hcl
              have HMM := Aside0.mk hm
              clear ho hcl hC e8 e7 hel hd1
              rw [hm]
              clear hm
              by_cases hlt : lt < cue.f0
              · have hb3 : decide (lt < cue.f0) = true := decide_eq_true hlt
                have hO1 := Aside0.mk (show out1 out cue = out ++ [cue] from if_pos (.inr (by rw [HCL.out]; exact hlt)))
                clear hlt
                go_wp2
                go_region
                go_wp2_with ((with_reducible refine gate_builtin (b := .append) (xs := #[.tmp 71, .tmp 73]) rfl ?_); (try (refine gate_guard (by rfl) ?_; dsimp only)); at_builtin; refine Aside0.out ?_)
                refine ⟨?_⟩
                refine Kd.R_append k45 (w0 := w) (W := W3.drew) w.heap.size rfl (.tmp 71) (.tmp 73) 22 45 (.agg #[.int .i64 0, .string ⟨#[]⟩]) 24 rfl Try.underlying22 info45 rfl (by decide) (by omega) (.slice (some ad) (m + 1) c7) out cue [.int .i64 cue.f0, .string cue.f1] (fun k_ => k_ ≠ w.heap.size) (fun _ => False) rfl rfl ?aP (fun _ hk => hk.elim) ?aF ?aO ?aB ?aS ?aL ?_
                (case aP => exact k45_mkM _ _ _ cue)
                (case aB => exact pw_below_drewN HB4.out 1)
                (case aF => intro k_ hk e_; subst e_; exact absurd hk (Nat.not_le.2 HLT.out))
                (case aO => exact (show Kd.R k45 45 W3.drew w.heap.size (fun k_ => k_ ≠ w.heap.size) (.slice (some ad) (m + 1) c7) out from by rw [← HMM.out]; exact Kd.R_drew HO4.out))
                (case aS => exact HB4.out.size)
                (case aL => have := HL.out; omega)
                intro v153 w30 ho5 hb5 hg5 hat
                rw [← hO1.out] at ho5
                have HO5 := Aside0.mk ho5
                have HV5 := Aside0.mk (HV_grown (HRep.fr (voices_ty w w.heap.size w.heap.size l.length (Nat.le_refl _) (Nat.le_refl _) (by omega)) HV4.out (below_drew (Below.refl _ _))) hg5 hb5 ((show Kd.R k45 45 W3.drew w.heap.size (fun k_ => k_ ≠ w.heap.size) (.slice (some ad) (m + 1) c7) out from by rw [← HMM.out]; exact Kd.R_drew HO4.out)).2.choose_spec.1 (by decide) (by decide))
                have HB5 := Aside0.mk hb5
                clear ho5 hb5 hg5 hat
                go_wp2
                have HL5 : Aside0 ((out1 out cue).length + total (step1 xs) ≤ 100000) := ⟨by rw [hO1.out, List.length_append, List.length_singleton]; have := HL.out; have := HS1.out.2.2; omega⟩
                go_roundg (total (step1 xs))
                case measure => have := HG.out; have := HS1.out.2.2; omega
                case rel => exact ⟨step1 xs, out1 out cue, ⟨rfl⟩, ⟨HS1.out.1⟩, ⟨Nat.le_trans HS1.out.2.1 HXL.out⟩, HV5, HB5, HO5, HU2, HL5⟩
              · have hb3 : decide (lt < cue.f0) = false := decide_eq_false hlt
                have hO1 := Aside0.mk (show out1 out cue = out from if_neg (by rintro (h | h); exact HOL.out h; rw [HCL.out] at h; exact hlt h))
                clear hlt
                go_wp2
                go_region
                go_wp2
                have HO5 : Aside0 (Kd.R k45 45 W3.drew w.heap.size (fun k => k ≠ w.heap.size) (.slice (some ad) (m + 1) c7) (out1 out cue)) := ⟨by rw [hO1.out, ← HMM.out]; exact Kd.R_drew HO4.out⟩
                have HV5 : Aside0 (HV W3.drew w.heap.size w.heap.size l.length w (step1 xs)) := ⟨HRep.fr (voices_ty w w.heap.size w.heap.size l.length (Nat.le_refl _) (Nat.le_refl _) (by omega)) HV4.out (below_drew (Below.refl _ _))⟩
                have HB5 : Aside0 (Below w.heap.size w W3.drew) := ⟨pw_below_drewN HB4.out 1⟩
                have HL5 : Aside0 ((out1 out cue).length + total (step1 xs) ≤ 100000) := ⟨by rw [hO1.out]; have := HL.out; have := HS1.out.2.2; omega⟩
                go_roundg (total (step1 xs))
                case measure => have := HG.out; have := HS1.out.2.2; omega
                case rel => exact ⟨step1 xs, out1 out cue, ⟨rfl⟩, ⟨HS1.out.1⟩, ⟨Nat.le_trans HS1.out.2.1 HXL.out⟩, HV5, HB5, HO5, HU2, HL5⟩
          · have hE := Aside0.mk (show step1 xs = fixL lessV (cut1 xs) 0 from if_neg (by have := HM1.out; have := HX0.out; omega))
            have hb1 : ((m1 : Int) == 0) = false := beq_eq_false_iff_ne.mpr (by omega)
            have hgd2 : ∀ k, k < (cut1 xs).length → 0 < (el (cut1 xs) k).f0.length := by
              intro k hk
              by_cases hk0 : k = 0
              · subst hk0
                rw [cut_zero xs HN.out, List.length_drop]
                have := HM1.out
                omega
              · rw [cut_el xs k (by omega)]
                exact HGD.out _ (mem_el (by rw [cut_len] at hk; exact hk))
            have HPC := Aside0.mk (voices_fix (Nat.le_refl _) (Nat.le_refl _) (by omega) HV3.out (by rw [cut_len]; exact HN.out) hgd2 HB3.out)
            clear h1 hgd2
            go_wp2_with fail
            refine HPC.out.mono ?_
            rintro e W3 ⟨rfl, hv, hb, hf⟩
            rw [← hE.out] at hv
            have hcb4 := hf.2.2 cb _ HCB3.out HCN.out (.inr (fun cs e => by injection e with _ e; exact absurd e (by decide)))
            have HO4 := Aside0.mk (R_frH HO3.out hf (fun _ hk => hk) (by decide))
            have HV4 := Aside0.mk hv
            have HB4 := Aside0.mk hb
            have HLT := Aside0.mk (show w.heap.size < W3.heap.size from by obtain ⟨V, inner, g1, _⟩ := hv; exact blk_lt g1)
            have hc0 : W3.cell? ⟨cb, 0, none⟩ = some (.int .i64 cue.f0) := (blk_cell hcb4 0).trans rfl
            have hc1 : W3.cell? ⟨cb, 1, none⟩ = some (.string cue.f1) := (blk_cell hcb4 1).trans rfl
            have hU2 : runM (total (step1 xs)) (step1 xs) (out1 out cue) = runM (total (pushAll l l.length)) (pushAll l l.length) [] := by
              rw [← HU.out, ← HS1.out.2.2, runM, if_neg (by have := HN.out; omega), HCU.out]
            have HU2 := Aside0.mk hU2
            clear hv hb hf hcb4 hU2 hgc2 hbc2 hb1 hE HPC HV3 HO3 HB3 HCB3 HM1
            by_cases ho : out.length = 0
            · have hb1 : ((out.length : Int) == 0) = true := beq_iff_eq.mpr (by omega)
              have hO1 := Aside0.mk (show out1 out cue = out ++ [cue] from if_pos (.inl ho))
              have HOL := Aside0.mk ho
              clear ho
              go_wp2
              go_region
              go_wp2_with ((with_reducible refine gate_builtin (b := .append) (xs := #[.tmp 71, .tmp 73]) rfl ?_); (try (refine gate_guard (by rfl) ?_; dsimp only)); at_builtin; refine Aside0.out ?_)
              refine ⟨?_⟩
              refine Kd.R_append k45 (w0 := w) (W := W3.drew) w.heap.size rfl (.tmp 71) (.tmp 73) 22 45 (.agg #[.int .i64 0, .string ⟨#[]⟩]) 24 rfl Try.underlying22 info45 rfl (by decide) (by omega) (.slice A7 out.length c7) out cue [.int .i64 cue.f0, .string cue.f1] (fun k_ => k_ ≠ w.heap.size) (fun _ => False) rfl rfl ?aP (fun _ hk => hk.elim) ?aF ?aO ?aB ?aS ?aL ?_
              (case aP => exact k45_mkM _ _ _ cue)
              (case aB => exact pw_below_drewN HB4.out 1)
              (case aF => intro k_ hk e_; subst e_; exact absurd hk (Nat.not_le.2 HLT.out))
              (case aO => exact Kd.R_drew HO4.out)
              (case aS => exact HB4.out.size)
              (case aL => have := HL.out; omega)
              intro v153 w30 ho5 hb5 hg5 hat
              rw [← hO1.out] at ho5
              have HO5 := Aside0.mk ho5
              have HV5 := Aside0.mk (HV_grown (HRep.fr (voices_ty w w.heap.size w.heap.size l.length (Nat.le_refl _) (Nat.le_refl _) (by omega)) HV4.out (below_drew (Below.refl _ _))) hg5 hb5 (Kd.R_drew HO4.out).2.choose_spec.1 (by decide) (by decide))
              have HB5 := Aside0.mk hb5
              clear ho5 hb5 hg5 hat
              go_wp2
              have HL5 : Aside0 ((out1 out cue).length + total (step1 xs) ≤ 100000) := ⟨by rw [hO1.out, List.length_append, List.length_singleton]; have := HL.out; have := HS1.out.2.2; omega⟩
              go_roundg (total (step1 xs))
              case measure => have := HG.out; have := HS1.out.2.2; omega
              case rel => exact ⟨step1 xs, out1 out cue, ⟨rfl⟩, ⟨HS1.out.1⟩, ⟨Nat.le_trans HS1.out.2.1 HXL.out⟩, HV5, HB5, HO5, HU2, HL5⟩
            · obtain ⟨m, hm⟩ : ∃ m, out.length = m + 1 := ⟨out.length - 1, by omega⟩
              obtain ⟨A7', c7', e7, e8, hC⟩ := Kd.R_reads HO4.out
              obtain ⟨rfl, -, rfl⟩ : A7 = A7' ∧ True ∧ c7 = c7' := by injection e7 with e1 e2 e3; exact ⟨e1, trivial, e3⟩
              obtain ⟨ad, rfl, hd0, hd1⟩ := at_T45 hC (m : Int) (by omega) (by omega)
              rw [Int.toNat_natCast] at hd0 hd1
              have hel : (rd_T45 out (m : Int)) = el out (out.length - 1) := by rw [hm, Nat.add_sub_cancel]; rfl
              rw [hel] at hd0 hd1
              have hbm : decide (m < m + 1) = true := decide_eq_true (by omega)
              have hqm : (m < m + 1) = True := eq_true (by omega)
              have hq0 : (0 ≤ (m : Int)) = True := eq_true (by omega)
              have hb1 : (((m + 1 : Nat) : Int) == 0) = false := beq_eq_false_iff_ne.mpr (by omega)
              have hb2 : ((m : Int) + 1 == 0) = false := beq_eq_false_iff_ne.mpr (by omega)
              have hl63 : (m : Int) ≤ 1000000 := by have := HL.out; omega
              generalize hcl : (el out (out.length - 1)).f0 = lt at *
              have HOL := Aside0.mk ho
              have HCL := Aside0.mk hcl
              have HMM := Aside0.mk hm
              clear ho hcl hC e8 e7 hel hd1
              rw [hm]
              clear hm
              by_cases hlt : lt < cue.f0
              · have hb3 : decide (lt < cue.f0) = true := decide_eq_true hlt
                have hO1 := Aside0.mk (show out1 out cue = out ++ [cue] from if_pos (.inr (by rw [HCL.out]; exact hlt)))
                clear hlt
                go_wp2
                go_region
                go_wp2_with ((with_reducible refine gate_builtin (b := .append) (xs := #[.tmp 71, .tmp 73]) rfl ?_); (try (refine gate_guard (by rfl) ?_; dsimp only)); at_builtin; refine Aside0.out ?_)
                refine ⟨?_⟩
                refine Kd.R_append k45 (w0 := w) (W := W3.drew) w.heap.size rfl (.tmp 71) (.tmp 73) 22 45 (.agg #[.int .i64 0, .string ⟨#[]⟩]) 24 rfl Try.underlying22 info45 rfl (by decide) (by omega) (.slice (some ad) (m + 1) c7) out cue [.int .i64 cue.f0, .string cue.f1] (fun k_ => k_ ≠ w.heap.size) (fun _ => False) rfl rfl ?aP (fun _ hk => hk.elim) ?aF ?aO ?aB ?aS ?aL ?_
                (case aP => exact k45_mkM _ _ _ cue)
                (case aB => exact pw_below_drewN HB4.out 1)
                (case aF => intro k_ hk e_; subst e_; exact absurd hk (Nat.not_le.2 HLT.out))
                (case aO => exact (show Kd.R k45 45 W3.drew w.heap.size (fun k_ => k_ ≠ w.heap.size) (.slice (some ad) (m + 1) c7) out from by rw [← HMM.out]; exact Kd.R_drew HO4.out))
                (case aS => exact HB4.out.size)
                (case aL => have := HL.out; omega)
                intro v153 w30 ho5 hb5 hg5 hat
                rw [← hO1.out] at ho5
                have HO5 := Aside0.mk ho5
                have HV5 := Aside0.mk (HV_grown (HRep.fr (voices_ty w w.heap.size w.heap.size l.length (Nat.le_refl _) (Nat.le_refl _) (by omega)) HV4.out (below_drew (Below.refl _ _))) hg5 hb5 ((show Kd.R k45 45 W3.drew w.heap.size (fun k_ => k_ ≠ w.heap.size) (.slice (some ad) (m + 1) c7) out from by rw [← HMM.out]; exact Kd.R_drew HO4.out)).2.choose_spec.1 (by decide) (by decide))
                have HB5 := Aside0.mk hb5
                clear ho5 hb5 hg5 hat
                go_wp2
                have HL5 : Aside0 ((out1 out cue).length + total (step1 xs) ≤ 100000) := ⟨by rw [hO1.out, List.length_append, List.length_singleton]; have := HL.out; have := HS1.out.2.2; omega⟩
                go_roundg (total (step1 xs))
                case measure => have := HG.out; have := HS1.out.2.2; omega
                case rel => exact ⟨step1 xs, out1 out cue, ⟨rfl⟩, ⟨HS1.out.1⟩, ⟨Nat.le_trans HS1.out.2.1 HXL.out⟩, HV5, HB5, HO5, HU2, HL5⟩
              · have hb3 : decide (lt < cue.f0) = false := decide_eq_false hlt
                have hO1 := Aside0.mk (show out1 out cue = out from if_neg (by rintro (h | h); exact HOL.out h; rw [HCL.out] at h; exact hlt h))
                clear hlt
                go_wp2
                go_region
                go_wp2
                have HO5 : Aside0 (Kd.R k45 45 W3.drew w.heap.size (fun k => k ≠ w.heap.size) (.slice (some ad) (m + 1) c7) (out1 out cue)) := ⟨by rw [hO1.out, ← HMM.out]; exact Kd.R_drew HO4.out⟩
                have HV5 : Aside0 (HV W3.drew w.heap.size w.heap.size l.length w (step1 xs)) := ⟨HRep.fr (voices_ty w w.heap.size w.heap.size l.length (Nat.le_refl _) (Nat.le_refl _) (by omega)) HV4.out (below_drew (Below.refl _ _))⟩
                have HB5 : Aside0 (Below w.heap.size w W3.drew) := ⟨pw_below_drewN HB4.out 1⟩
                have HL5 : Aside0 ((out1 out cue).length + total (step1 xs) ≤ 100000) := ⟨by rw [hO1.out]; have := HL.out; have := HS1.out.2.2; omega⟩
                go_roundg (total (step1 xs))
                case measure => have := HG.out; have := HS1.out.2.2; omega
                case rel => exact ⟨step1 xs, out1 out cue, ⟨rfl⟩, ⟨HS1.out.1⟩, ⟨Nat.le_trans HS1.out.2.1 HXL.out⟩, HV5, HB5, HO5, HU2, HL5⟩
end Hp
end Go.Proofs.Ythehkmpameeofaa.P

namespace Go.Proofs.Ythehkmpameeofaa.P
open Go.RowKit Go.Proofs.YthehkmpameeofaaW.PrintWords Go.Proofs.YthehkmpameeofaaW.PrintLast Go.Proofs.YthehkmpameeofaaW.PrintMore
set_option linter.unusedVariables false
set_option linter.unusedSimpArgs false
namespace Hp
abbrev TD := S58
def cv (c : TC) : TD := ⟨c.f0, c.f1⟩
def Rm (l : List TC) : List TD := l.map cv
theorem rm_len (l : List TC) : (Rm l).length = l.length := List.length_map _
theorem rd_c (l : List TC) (i : Nat) : rd_T45 l (i : Int) = el l i := rfl
theorem rd_d (l : List TC) (i : Nat) (h : i < l.length) : rd_T58 (Rm l) (i : Int) = cv (el l i) := by
  simp only [rd_T58, Int.toNat_natCast, Rm]
  unfold el
  rw [List.getD_eq_getElem?_getD, List.getD_eq_getElem?_getD, List.getElem?_map, List.getElem?_eq_getElem h]
  rfl
theorem w1 (i : Nat) (h : i < 9223372036854775807) : wrap64 ((i : Int) + 1) = ((i + 1 : Nat) : Int) := by unfold wrap64; omega
theorem few_loop (l : List TC) (hl : l.length ≤ 9223372036854775807) : ∀ (d i k : Nat), l.length = i + d → d < k →
    ∃ r, sackbutlaw23_few.l0 k l l (l.length : Int) (i : Int) = some r ∧ (r = true → l.length ≤ 130 ∧ ∀ c ∈ l.drop i, c.f1.size ≤ 100)
  | 0, i, k, h, hk => by
    obtain ⟨k, rfl⟩ : ∃ m, k = m + 1 := ⟨k - 1, by omega⟩
    refine ⟨_, by rw [sackbutlaw23_few.l0, if_neg (by omega)], fun h1 => ?_⟩
    rw [decide_eq_true_eq] at h1
    rw [List.drop_of_length_le (by omega)]
    exact ⟨by omega, by simp⟩
  | d + 1, i, k, h, hk => by
    obtain ⟨k, rfl⟩ : ∃ m, k = m + 1 := ⟨k - 1, by omega⟩
    obtain ⟨r, h1, h2⟩ := few_loop l hl d (i + 1) k (by omega) (by omega)
    rw [sackbutlaw23_few.l0, if_pos (by omega), if_pos (by omega), if_pos (by omega), w1 i (by omega), rd_c]
    by_cases hc : ((el l i).f1.size : Int) > 100
    · exact ⟨false, by rw [if_pos hc], fun h => by cases h⟩
    · refine ⟨r, by rw [if_neg hc]; exact h1, fun hr => ?_⟩
      obtain ⟨q1, q2⟩ := h2 hr
      refine ⟨q1, fun c hm => ?_⟩
      rw [List.drop_eq_getElem_cons (by omega), List.mem_cons] at hm
      rcases hm with rfl | hm
      · have e : el l i = l[i] := by unfold el; rw [List.getD_eq_getElem?_getD, List.getElem?_eq_getElem (by omega)]; rfl
        rw [← e]; omega
      · exact q2 c hm
theorem few_val (l : List TC) (hl : l.length ≤ 9223372036854775807) : ∃ r, sackbutlaw23_few.f (l.length + 1) l = some r ∧ (r = true → l.length ≤ 130 ∧ ∀ c ∈ l, c.f1.size ≤ 100) :=
  few_loop l hl l.length 0 (l.length + 1) (by omega) (by omega)
theorem ref_loop (l : List TC) (hl : l.length ≤ 1000) : ∀ (d i k : Nat), l.length = i + d → d < k → sackbutlaw23_ref.l0 k (Rm (l.take i)) l (l.length : Int) (i : Int) = some (Rm l)
  | 0, i, k, h, hk => by
    obtain ⟨k, rfl⟩ : ∃ m, k = m + 1 := ⟨k - 1, by omega⟩
    rw [sackbutlaw23_ref.l0, if_neg (by omega), List.take_of_length_le (by omega)]
  | d + 1, i, k, h, hk => by
    obtain ⟨k, rfl⟩ : ∃ m, k = m + 1 := ⟨k - 1, by omega⟩
    have ih := ref_loop l hl d (i + 1) k (by omega) (by omega)
    have e : Rm (l.take (i + 1)) = Rm (l.take i) ++ [⟨(el l i).f0, (el l i).f1⟩] := by
      unfold Rm
      rw [List.take_add_one, List.map_append, el_eq (by omega)]
      rfl
    rw [sackbutlaw23_ref.l0, if_pos (by omega), if_pos (by omega), if_pos (by omega), if_pos (by rw [rm_len, List.length_take]; omega), w1 i (by omega), rd_c, ← e]
    exact ih
theorem ref_val (l : List TC) (hl : l.length ≤ 1000) : sackbutlaw23_ref.f 1001 l = some (Rm l) := ref_loop l hl l.length 0 1001 (by omega) (by omega)
theorem same_loop (l : List TC) (hl : l.length ≤ 1000) : ∀ (d i k : Nat), l.length = i + d → d < k → sackbutlaw23_same.l0 k l (Rm l) (l.length : Int) (i : Int) = some true
  | 0, i, k, h, hk => by
    obtain ⟨k, rfl⟩ : ∃ m, k = m + 1 := ⟨k - 1, by omega⟩
    rw [sackbutlaw23_same.l0, if_neg (by omega)]
  | d + 1, i, k, h, hk => by
    obtain ⟨k, rfl⟩ : ∃ m, k = m + 1 := ⟨k - 1, by omega⟩
    have ih := same_loop l hl d (i + 1) k (by omega) (by omega)
    rw [sackbutlaw23_same.l0, if_pos (by omega), if_pos (by omega), if_pos (by omega), if_pos (by rw [rm_len]; omega), w1 i (by omega), rd_c, rd_d l i (by omega), if_neg (by simp [cv])]
    exact ih
theorem same_val (l : List TC) (hl : l.length ≤ 1000) : sackbutlaw23_same.f 1001 l (Rm l) = some true := by
  unfold sackbutlaw23_same.f
  rw [if_pos (by rw [rm_len])]
  exact same_loop l hl l.length 0 1001 (by omega) (by omega)
theorem right_loop (n : Int) (s : ByteArray) (hs : s.size ≤ 1000) : ∀ (d i k : Nat), s.size = i + d → d < k →
    sackbutref23_Right.l0 k (i : Int) n s = some (letsFrom s i && (decide (n ≥ 0) && decide (n ≤ 1048576) && !s.toList.isEmpty && decide ((s.size : Int) ≤ 24)))
  | 0, i, k, h, hk => by
    obtain ⟨k, rfl⟩ : ∃ m, k = m + 1 := ⟨k - 1, by omega⟩
    rw [sackbutref23_Right.l0, if_neg (by omega), letsFrom_end s i (by omega)]
    have hem : s.toList.isEmpty = decide (s.size = 0) := by
      rw [isEmpty_data, Bool.eq_iff_iff, List.isEmpty_iff, decide_eq_true_eq, ← List.length_eq_zero_iff, data_length]
    rw [hem]
    by_cases h1 : s.size = 0
    · rw [if_neg (by omega)]; simp [h1]
    · rw [if_pos (by omega)]
      by_cases h2 : (s.size : Int) ≤ 24
      · rw [if_pos h2]
        by_cases h3 : n ≥ 0
        · rw [if_pos h3]; simp [h1, h2, h3]
        · rw [if_neg h3]; simp [h3]
      · rw [if_neg h2]; simp [h2]
  | d + 1, i, k, h, hk => by
    obtain ⟨k, rfl⟩ : ∃ m, k = m + 1 := ⟨k - 1, by omega⟩
    have ih := right_loop n s hs d (i + 1) k (by omega) (by omega)
    have hb : bt s (i : Int) = ((s[i]'(by omega)).toNat : Int) := by
      unfold bt
      rw [dif_pos (show (i : Int).toNat < s.size by rw [Int.toNat_natCast]; omega)]
      rfl
    rw [sackbutref23_Right.l0, if_pos (by omega), if_pos (by omega), w1 i (by omega), letsFrom_step s i (by omega), ← hb, ih]
    generalize bt s (i : Int) = c
    unfold letB
    by_cases h1 : c ≥ 97
    · by_cases h2 : c ≤ 122
      · simp [h1, h2]
      · have h3 : c ≥ 48 := by omega
        have h4 : ¬ c ≤ 57 := by omega
        have h5 : ¬ c = 45 := by omega
        simp [h1, h2, h3, h4, h5]
    · by_cases h3 : c ≥ 48
      · by_cases h4 : c ≤ 57
        · simp [h1, h3, h4]
        · have h5 : ¬ c = 45 := by omega
          simp [h1, h3, h4, h5]
      · by_cases h5 : c = 45
        · simp [h5]
        · simp [h1, h3, h5]
theorem right_ref (n : Int) (s : ByteArray) (hs : s.size ≤ 1000) (k : Nat) (hk : s.size < k) : sackbutref23_Right.f k n s = some (rightB n s) := right_loop n s hs s.size 0 k (by omega) hk
def stepB (l : List TC) (i : Nat) : Bool := cueB (el l i) && (decide (i = 0) || decide ((el l (i - 1)).f0 < (el l i).f0))
theorem gref_loop (l : List TC) (hl : l.length ≤ 1000) (hs : ∀ c ∈ l, c.f1.size ≤ 100) : ∀ (d i k : Nat), l.length = i + d → d + 101 < k →
    sackbutref23_Good.l0 k (Rm l) (l.length : Int) (i : Int) = some ((List.range' i d).all (stepB l) && decide (l.length ≤ 100))
  | 0, i, k, h, hk => by
    obtain ⟨k, rfl⟩ : ∃ m, k = m + 1 := ⟨k - 1, by omega⟩
    rw [sackbutref23_Good.l0, if_neg (by omega), rm_len]
    simp
    omega
  | d + 1, i, k, h, hk => by
    obtain ⟨k, rfl⟩ : ∃ m, k = m + 1 := ⟨k - 1, by omega⟩
    have ih := gref_loop l hl hs d (i + 1) k (by omega) (by omega)
    have hsz := hs _ (mem_el (show i < l.length by omega))
    have hr : sackbutref23_Right.f k (cv (el l i)).f0 (cv (el l i)).f1 = some (cueB (el l i)) := right_ref _ _ (show (el l i).f1.size ≤ 1000 by omega) k (show (el l i).f1.size < k by omega)
    rw [sackbutref23_Good.l0, if_pos (by omega), if_pos (by omega), if_pos (by rw [rm_len]; omega), rd_d l i (by omega), hr, Option.bind_some, w1 i (by omega), List.range'_succ, List.all_cons]
    unfold stepB
    cases hc : cueB (el l i) with
    | false => rw [if_neg (by simp)]; simp
    | true =>
      rw [if_pos rfl, ih]
      by_cases h0 : i = 0
      · rw [if_neg (by omega)]; simp [h0]; rfl
      · have hw2 : wrap64 ((i : Int) - 1) = ((i - 1 : Nat) : Int) := by unfold wrap64; omega
        rw [if_pos (by omega), hw2, if_pos (by omega), if_pos (by rw [rm_len]; omega), rd_d l (i - 1) (by omega)]
        by_cases hlt : (el l (i - 1)).f0 < (el l i).f0
        · rw [if_neg (show ¬ (cv (el l i)).f0 ≤ (cv (el l (i - 1))).f0 from by show ¬ (el l i).f0 ≤ (el l (i - 1)).f0; omega)]
          simp [hlt, h0]; rfl
        · rw [if_pos (show (cv (el l i)).f0 ≤ (cv (el l (i - 1))).f0 from by show (el l i).f0 ≤ (el l (i - 1)).f0; omega)]
          simp [hlt, h0]
theorem good_ref (l : List TC) (hl : l.length ≤ 1000) (hs : ∀ c ∈ l, c.f1.size ≤ 100) : sackbutref23_Good.f 2000 (Rm l) = some (goodB l) := by
  have h := gref_loop l hl hs l.length 0 2000 (by omega) (by omega)
  unfold sackbutref23_Good.f
  rw [rm_len]
  refine Eq.trans h ?_
  congr 1
  unfold goodB
  rw [← List.range_eq_range', Bool.eq_iff_iff]
  simp only [Bool.and_eq_true, List.all_eq_true, List.mem_range, stepB]
  constructor
  · rintro ⟨h1, h2⟩
    refine ⟨fun i hi => (h1 i hi).2, h2, fun c hc => ?_⟩
    obtain ⟨j, hj, rfl⟩ := List.mem_iff_getElem.1 hc
    have e : el l j = l[j] := by unfold el; rw [List.getD_eq_getElem?_getD, List.getElem?_eq_getElem hj]; rfl
    have := (h1 j hj).1
    rwa [e] at this
  · rintro ⟨h1, h2, h3⟩
    exact ⟨fun i hi => ⟨h3 _ (mem_el hi), h1 i hi⟩, h2⟩
theorem mref_loop (a b : List TC) : ∀ (out : List TC) (k : Nat), out.length + a.length + b.length ≤ 1000 → 3 * (a.length + b.length) + 2 < k → sackbutref23_Merge.l0 k (Rm a) (Rm b) (Rm out) = some (Rm (out ++ M2T a b)) := by
  have hap : ∀ (out : List TC) (c : TC), Rm out ++ [⟨c.f0, c.f1⟩] = Rm (out ++ [c]) := fun out c => by unfold Rm; rw [List.map_append]; rfl
  have hrd : ∀ (c : TC) (l : List TC), rd_T58 (Rm (c :: l)) 0 = cv c := fun _ _ => rfl
  have hdr : ∀ (c : TC) (l : List TC), (Rm (c :: l)).drop 1 = Rm l := fun _ _ => rfl
  have hf0 : ∀ c : TC, (cv c).f0 = c.f0 := fun _ => rfl
  have hf1 : ∀ c : TC, (cv c).f1 = c.f1 := fun _ => rfl
  fun_induction M2T a b with
  | case1 m =>
    induction m with
    | nil =>
      intro out k h hk
      obtain ⟨k, rfl⟩ : ∃ m, k = m + 2 := ⟨k - 2, by omega⟩
      rw [sackbutref23_Merge.l0, if_neg (by simp [Rm]), sackbutref23_Merge.j1, if_neg (by simp [Rm]), List.append_nil]
    | cons b m ih =>
      intro out k h hk
      simp only [List.length_cons, List.length_nil] at h hk
      obtain ⟨k, rfl⟩ : ∃ m, k = m + 3 := ⟨k - 3, by omega⟩
      rw [sackbutref23_Merge.l0, if_neg (by simp [Rm]), sackbutref23_Merge.j1, if_pos (by simp [Rm]), if_neg (by simp [Rm] <;> omega), if_neg (by simp [Rm]), sackbutref23_Merge.j2, if_neg (by simp), if_pos (by simp [Rm] <;> omega), if_pos (by rw [rm_len]; omega), if_pos (by simp [Rm] <;> omega), hrd, hf0, hf1, hap, hdr]
      have := ih (out ++ [b]) k (by simp only [List.length_append, List.length_cons, List.length_nil]; omega) (by simp only [List.length_nil]; omega)
      rw [List.append_assoc] at this
      exact this
  | case2 a l =>
    have hz : ∀ (l : List TC) (out : List TC) (k : Nat), out.length + l.length ≤ 1000 → 3 * l.length + 2 < k → sackbutref23_Merge.l0 k (Rm l) (Rm []) (Rm out) = some (Rm (out ++ l)) := by
      intro l
      induction l with
      | nil =>
        intro out k h hk
        obtain ⟨k, rfl⟩ : ∃ m, k = m + 2 := ⟨k - 2, by omega⟩
        rw [sackbutref23_Merge.l0, if_neg (by simp [Rm]), sackbutref23_Merge.j1, if_neg (by simp [Rm]), List.append_nil]
      | cons a l ih =>
        intro out k h hk
        simp only [List.length_cons] at h hk
        obtain ⟨k, rfl⟩ : ∃ m, k = m + 3 := ⟨k - 3, by omega⟩
        rw [sackbutref23_Merge.l0, if_pos (by simp [Rm] <;> omega), sackbutref23_Merge.j1, if_pos rfl, if_pos (by simp [Rm]), sackbutref23_Merge.j2, if_pos rfl, if_neg (by simp [Rm]), if_pos (by simp [Rm] <;> omega), if_pos (by rw [rm_len]; omega), if_pos (by simp [Rm] <;> omega), hrd, hf0, hf1, hap, hdr]
        have := ih (out ++ [a]) k (by simp only [List.length_append, List.length_cons, List.length_nil]; omega) (by omega)
        rw [List.append_assoc] at this
        exact this
    intro out k h hk
    simp only [List.length_nil] at h hk
    exact hz (a :: l) out k (by omega) (by omega)
  | case3 a l b m e ih =>
    intro out k h hk
    simp only [List.length_cons] at h hk
    obtain ⟨k, rfl⟩ : ∃ m, k = m + 3 := ⟨k - 3, by omega⟩
    have := ih (out ++ [a]) k (by simp only [List.length_append, List.length_cons, List.length_nil]; omega) (by omega)
    rw [List.append_assoc] at this
    rw [sackbutref23_Merge.l0, if_pos (by simp [Rm] <;> omega), sackbutref23_Merge.j1, if_pos rfl, if_neg (by simp [Rm] <;> omega), if_pos (by simp [Rm] <;> omega), if_pos (by simp [Rm] <;> omega), if_pos (by simp [Rm] <;> omega), hrd, hrd, hf0, hf0, sackbutref23_Merge.j2, if_pos (decide_eq_true (by omega)), if_pos (by simp [Rm] <;> omega), if_pos (by simp [Rm] <;> omega), if_pos (by simp [Rm] <;> omega), hrd, hrd, hf0, hf0, if_pos e, if_pos (by simp [Rm] <;> omega), if_pos (by rw [rm_len]; omega), if_pos (by simp [Rm] <;> omega), hf1, hap, hdr, hdr]
    exact this
  | case4 a l b m e hle ih =>
    intro out k h hk
    simp only [List.length_cons] at h hk
    obtain ⟨k, rfl⟩ : ∃ m, k = m + 3 := ⟨k - 3, by omega⟩
    have := ih (out ++ [a]) k (by simp only [List.length_append, List.length_cons, List.length_nil]; omega) (by simp only [List.length_cons]; omega)
    rw [List.append_assoc] at this
    rw [sackbutref23_Merge.l0, if_pos (by simp [Rm] <;> omega), sackbutref23_Merge.j1, if_pos rfl, if_neg (by simp [Rm] <;> omega), if_pos (by simp [Rm] <;> omega), if_pos (by simp [Rm] <;> omega), if_pos (by simp [Rm] <;> omega), hrd, hrd, hf0, hf0, sackbutref23_Merge.j2, if_pos (decide_eq_true hle), if_pos (by simp [Rm] <;> omega), if_pos (by simp [Rm] <;> omega), if_pos (by simp [Rm] <;> omega), hrd, hrd, hf0, hf0, if_neg e, if_pos (by rw [rm_len]; omega), if_pos (by simp [Rm] <;> omega), hf1, hap, hdr]
    exact this
  | case5 a l b m e hle ih =>
    intro out k h hk
    simp only [List.length_cons] at h hk
    obtain ⟨k, rfl⟩ : ∃ m, k = m + 3 := ⟨k - 3, by omega⟩
    have := ih (out ++ [b]) k (by simp only [List.length_append, List.length_cons, List.length_nil]; omega) (by simp only [List.length_cons]; omega)
    rw [List.append_assoc] at this
    rw [sackbutref23_Merge.l0, if_pos (by simp [Rm] <;> omega), sackbutref23_Merge.j1, if_pos rfl, if_neg (by simp [Rm] <;> omega), if_pos (by simp [Rm] <;> omega), if_pos (by simp [Rm] <;> omega), if_pos (by simp [Rm] <;> omega), hrd, hrd, hf0, hf0, sackbutref23_Merge.j2, if_neg (by rw [decide_eq_true_eq]; exact hle), if_pos (by simp [Rm] <;> omega), if_pos (by rw [rm_len]; omega), if_pos (by simp [Rm] <;> omega), hrd, hf0, hf1, hap, hdr]
    exact this
theorem merge_ref (a b : List TC) (h : a.length + b.length ≤ 1000) : sackbutref23_Merge.f 4000 (Rm a) (Rm b) = some (Rm (M2T a b)) := mref_loop a b [] 4000 (by simp only [List.length_nil]; omega) (by omega)
theorem m2_len (a b : List TC) : (M2T a b).length ≤ a.length + b.length := by
  fun_induction M2T a b <;> simp_all <;> omega
theorem awake_val : sackbutlaw23_awake.f 100 = some true := by kernel_rfl
end Hp
end Go.Proofs.Ythehkmpameeofaa.P
