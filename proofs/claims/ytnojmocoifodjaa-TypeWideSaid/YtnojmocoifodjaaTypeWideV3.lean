/- The law TypeWide of this seat: a part of its proof (an abstract evaluator of the code that is proved sound, and contracts of functions), with no condition. -/
import Derived.Test.YtnojmocoifodjaaTypeWideV2
set_option maxRecDepth 100000
set_option maxHeartbeats 4000000
set_option linter.unusedVariables false
set_option linter.unusedSimpArgs false
namespace Go.Proofs.Ytnojmocoifodjaa.Pv
open Go Go.Proofs
theorem law1_TypeWide (n kind : Nat) : CallsV Try.prog 7 [.int .u8 (Int.ofNat n), .int .u8 (Int.ofNat kind)] (.pv (.bool true)) [] := by
  obtain ⟨A, hA⟩ : ∃ A : Ar, A = .std := ⟨_, rfl⟩
  obtain ⟨k, hk⟩ : ∃ k, k = n % 12 := ⟨_, rfl⟩
  have hk12 : k < 12 := by omega
  obtain ⟨r, hr⟩ : ∃ r, r = kind % 3 := ⟨_, rfl⟩
  have hr3 : r < 3 := by omega
  obtain ⟨r1, hr1⟩ : ∃ r1, r1 = 1 + r := ⟨_, rfl⟩
  refine CallsV.ok (fn := Try.f7) (by kernel_rfl) (by kernel_rfl) rfl (by cbv) (by cbv) ?_
  refine Ok.run hmix (A := Ar.std) rfl true 2000 (by cbv) ?_
  refine Ok.call (law1_known) (by cbv) (by cbv) (by cbv) ?_
  refine Ok.run hmix (A := Ar.std) rfl true 2000 (by cbv) ?_
  refine Ok.condF (by cbv) ?_
  refine Ok.run hmix hA false 2000 (by cbv) ?_
  refine Ok.op (rem_op (by cbv) (by cbv) (by decide) (Int.ofNat k) (by rw [hk]; rfl)) ?_
  refine Ok.run hmix hA false 2000 (by cbv) ?_
  rw [ofNat_conv hA (show k < 2 ^ 62 by omega)]
  refine Ok.le (Le.nilBox 6 1 28 24 2 (by cbv) (by cbv) (by cbv) (by decide)) ?_
  refine Ok.loopAt [1, 5, 6, 7] [6, 28] (fun m s h => ∃ (j j' : Nat) (es : List PV), m = k - j ∧ j ≤ k ∧ j' = j ∧ es = List.replicate j (.agg [.int .i64 (Int.ofNat r1), .view []]) ∧
    s = mkS 40 [(1, .pv (.int .u8 (Int.ofNat kind))), (5, .pv (.int .i64 (Int.ofNat k))), (6, .ptr 6 0), (7, .pv (.int .i64 (Int.ofNat j)))] ∧
    h = [(6, .box [.pv (.int .i64 4), .ref 28 j'] true), (28, .row 24 2 es true)]) (k - 0) (by cbv) ⟨0, 0, [], rfl, Nat.zero_le _, rfl, rfl, by cbv, by cbv⟩ ?_
  rintro m s h ⟨j, j', es, rfl, hj, hj', hes, rfl, rfl⟩
  have hesl : j' = es.length := by rw [hes, List.length_replicate, hj']
  refine Ok.run hmix hA false 2000 (by cbv) ?_
  refine Ok.cond (by cbv) ?_ ?_
  · intro h1
    rw [ofNat_lt hA, decide_eq_true_eq] at h1
    refine Ok.run hmix hA false 2000 (by cbv) ?_
    refine Ok.op (rem_op (by cbv) (by cbv) (by decide) (Int.ofNat r) (by rw [hr]; rfl)) ?_
    refine Ok.run hmix hA false 2000 (by cbv) ?_
    rw [ofNat_conv hA (show r < 2 ^ 62 by omega)]
    have hadd : A .add .i64 1 (Int.ofNat r) = Int.ofNat r1 := by rw [hr1]; exact ofNat_add (a := 1) hA (by omega)
    rw [hadd]
    obtain ⟨es3, hes3⟩ : ∃ es3, es3 = es ++ [.agg [.int .i64 (Int.ofNat r1), .view []]] := ⟨_, rfl⟩
    obtain ⟨n3, hn3⟩ : ∃ n3, n3 = j' + 1 := ⟨_, rfl⟩
    refine Ok.op (app_ref (by cbv) (by cbv) hesl (by cbv) (by cbv) (by decide) (by simp only [List.length_singleton]; omega) (by unfold maxLen; simp only [List.length_singleton]; omega) n3 (by exact hn3) es3 (by rw [hes3])) ?_
    refine Ok.run hmix hA false 2000 (by cbv) ?_
    refine Ok.back (k - (j + 1)) [1, 5, 6, 7] [6, 28] (by omega) (by cbv) ⟨j + 1, n3, es3, rfl, by omega, by omega, by rw [hes3, hes, List.replicate_succ'], ?_, by cbv⟩
    rw [Ar.succ_eq hA (by omega)]; cbv
  · intro h1
    have h1 : j = k := by rw [ofNat_lt hA, decide_eq_false_iff_not] at h1; omega
    have hr13 : 1 ≤ r1 ∧ r1 ≤ 3 := by omega
    subst h1
    clear hk hr hr1
    refine Ok.run hmix hA false 2000 (by cbv) ?_
    refine Ok.leave ?_
    subst hA
    subst hes
    subst hj'
    rcases (show r1 = 1 ∨ r1 = 2 ∨ r1 = 3 by omega) with rfl | rfl | rfl
    · match j', hk12 with
      | 0, _ => exact Ok.evl (by as_aux_lemma => kernel_rfl)
      | 1, _ => exact Ok.evl (by as_aux_lemma => kernel_rfl)
      | 2, _ => exact Ok.evl (by as_aux_lemma => kernel_rfl)
      | 3, _ => exact Ok.evl (by as_aux_lemma => kernel_rfl)
      | 4, _ => exact Ok.evl (by as_aux_lemma => kernel_rfl)
      | 5, _ => exact Ok.evl (by as_aux_lemma => kernel_rfl)
      | 6, _ => exact Ok.evl (by as_aux_lemma => kernel_rfl)
      | 7, _ => exact Ok.evl (by as_aux_lemma => kernel_rfl)
      | 8, _ => exact Ok.evl (by as_aux_lemma => kernel_rfl)
      | 9, _ => exact Ok.evl (by as_aux_lemma => kernel_rfl)
      | 10, _ => exact Ok.evl (by as_aux_lemma => kernel_rfl)
      | 11, _ => exact Ok.evl (by as_aux_lemma => kernel_rfl)
    · match j', hk12 with
      | 0, _ => exact Ok.evl (by as_aux_lemma => kernel_rfl)
      | 1, _ => exact Ok.evl (by as_aux_lemma => kernel_rfl)
      | 2, _ => exact Ok.evl (by as_aux_lemma => kernel_rfl)
      | 3, _ => exact Ok.evl (by as_aux_lemma => kernel_rfl)
      | 4, _ => exact Ok.evl (by as_aux_lemma => kernel_rfl)
      | 5, _ => exact Ok.evl (by as_aux_lemma => kernel_rfl)
      | 6, _ => exact Ok.evl (by as_aux_lemma => kernel_rfl)
      | 7, _ => exact Ok.evl (by as_aux_lemma => kernel_rfl)
      | 8, _ => exact Ok.evl (by as_aux_lemma => kernel_rfl)
      | 9, _ => exact Ok.evl (by as_aux_lemma => kernel_rfl)
      | 10, _ => exact Ok.evl (by as_aux_lemma => kernel_rfl)
      | 11, _ => exact Ok.evl (by as_aux_lemma => kernel_rfl)
    · match j', hk12 with
      | 0, _ => exact Ok.evl (by as_aux_lemma => kernel_rfl)
      | 1, _ => exact Ok.evl (by as_aux_lemma => kernel_rfl)
      | 2, _ => exact Ok.evl (by as_aux_lemma => kernel_rfl)
      | 3, _ => exact Ok.evl (by as_aux_lemma => kernel_rfl)
      | 4, _ => exact Ok.evl (by as_aux_lemma => kernel_rfl)
      | 5, _ => exact Ok.evl (by as_aux_lemma => kernel_rfl)
      | 6, _ => exact Ok.evl (by as_aux_lemma => kernel_rfl)
      | 7, _ => exact Ok.evl (by as_aux_lemma => kernel_rfl)
      | 8, _ => exact Ok.evl (by as_aux_lemma => kernel_rfl)
      | 9, _ => exact Ok.evl (by as_aux_lemma => kernel_rfl)
      | 10, _ => exact Ok.evl (by as_aux_lemma => kernel_rfl)
      | 11, _ => exact Ok.evl (by as_aux_lemma => kernel_rfl)
end Go.Proofs.Ytnojmocoifodjaa.Pv
set_option linter.unusedVariables false
namespace Go.Proofs.Ytnojmocoifodjaa.Pv
open Go Go.Proofs Go.RowKit
theorem u8_nat {z : Int} (h : (Lit.int .u8 z).wf = true) : z = Int.ofNat z.toNat ∧ z.toNat < 256 := by
  simp only [Lit.wf, Bool.and_eq_true, decide_eq_true_eq] at h
  have h1 : (0 : Int) ≤ z := h.1
  have h2 : z ≤ 255 := h.2
  exact ⟨(Int.toNat_of_nonneg h1).symm, by omega⟩
theorem TypeDeep_walk {W : World} {z : Int} (h : (Lit.int .u8 z).wf = true) : Calls Try.prog 6 #[.int .u8 z] W (fun e W' => e = .returned (.bool true) ∧ Below W.heap.size W W') := by
  obtain ⟨hz, _⟩ := u8_nat h
  rw [hz]
  exact (law1_TypeDeep z.toNat).yes rfl (fun i q hq => by
    cases i with
    | zero => simp only [List.getElem?_cons_zero, Option.some.injEq] at hq; subst hq; exact .int _ _
    | succ i => simp at hq)
theorem TypeWide_walk {W : World} {z y : Int} (h : (Lit.int .u8 z).wf = true) (h' : (Lit.int .u8 y).wf = true) : Calls Try.prog 7 #[.int .u8 z, .int .u8 y] W (fun e W' => e = .returned (.bool true) ∧ Below W.heap.size W W') := by
  obtain ⟨hz, _⟩ := u8_nat h
  obtain ⟨hy, _⟩ := u8_nat h'
  rw [hz, hy]
  exact (law1_TypeWide z.toNat y.toNat).yes rfl (fun i q hq => by
    match i with
    | 0 => simp only [List.getElem?_cons_zero, Option.some.injEq] at hq; subst hq; exact .int _ _
    | 1 => simp only [List.getElem?_cons_zero, List.getElem?_cons_succ, Option.some.injEq] at hq; subst hq; exact .int _ _
    | i + 2 => simp at hq)
end Go.Proofs.Ytnojmocoifodjaa.Pv
