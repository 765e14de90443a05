/- The law OpFields of this seat: a part of its proof (an abstract evaluator of the code that is proved sound, and contracts of functions), with no condition. -/
import Derived.Test.YtnojmocoifodjaaOpFieldsV2
set_option maxRecDepth 100000
set_option maxHeartbeats 4000000
set_option linter.unusedVariables false
set_option linter.unusedSimpArgs false
namespace Go.Proofs.Ytnojmocoifodjaa.Pv
open Go Go.Proofs
theorem law7_known : CallsV Try.prog 48 [] (.pv (.bool true)) [] := ev_ok 30 (by kernel_rfl)
theorem cX : CallsV Try.prog 27 [] (.pv (.agg [.str [120], .int .i64 0, .int .i64 0, .bool false, .str [], .view [], .int .i64 0, .view []])) [] := ev_ok 30 (by kernel_rfl)
theorem cBool : CallsV Try.prog 30 [.bool true] (.pv (.agg [.int .i64 2, .int .i64 0, .bool true, .str [], .view []])) [] := ev_ok 30 (by kernel_rfl)
theorem cLit : CallsV Try.prog 29 [.agg [.int .i64 2, .int .i64 0, .bool true, .str [], .view []]] (.pv (.agg [.str [108, 105, 116], .int .i64 2, .int .i64 0, .bool true, .str [], .view [], .int .i64 0, .view []])) [] := ev_ok 30 (by kernel_rfl)
theorem law7_OpFields (n field : Nat) : CallsV Try.prog 12 [.int .u8 (Int.ofNat n), .int .u8 (Int.ofNat field)] (.pv (.bool true)) [] := by
  obtain ⟨k, hk⟩ : ∃ k, k = n % 9 := ⟨_, rfl⟩
  have hk9 : k < 9 := by omega
  obtain ⟨r, hr⟩ : ∃ r, r = field % 5 := ⟨_, rfl⟩
  have hr5 : r < 5 := by omega
  refine CallsV.ok (fn := Try.f12) (by kernel_rfl) (by kernel_rfl) rfl (by cbv) (by cbv) ?_
  refine Ok.run hmix (A := Ar.std) rfl true 2000 (by cbv) ?_
  refine Ok.call (law7_known) (by cbv) (by cbv) (by cbv) ?_
  refine Ok.run hmix (A := Ar.std) rfl true 2000 (by cbv) ?_
  refine Ok.condF (by cbv) ?_
  refine Ok.run hmix (A := Ar.std) rfl true 2000 (by cbv) ?_
  refine Ok.op (rem_op (by cbv) (by cbv) (by decide) (Int.ofNat k) (by rw [hk]; rfl)) ?_
  clear hk
  match k, hk9 with
  | 0, _ =>
    repeat (first | (apply Ok.run1 hmix (A := Ar.std) rfl true 2000; focus (cbv; done)) | (refine Ok.condT ?_ ?_; focus (cbv; done)) | (refine Ok.condF ?_ ?_; focus (cbv; done)) | (refine Ok.drawnE (by as_aux_lemma => kernel_rfl) ?_) | (apply Ok.call (cX); (focus (cbv; done)); (focus (cbv; done)); (focus (cbv; done))) | (apply Ok.dcall (cX); (focus (cbv; done)); (focus (cbv; done)); (focus (cbv; done))) | (apply Ok.call (cBool); (focus (cbv; done)); (focus (cbv; done)); (focus (cbv; done))) | (apply Ok.dcall (cBool); (focus (cbv; done)); (focus (cbv; done)); (focus (cbv; done))) | (apply Ok.call (cLit); (focus (cbv; done)); (focus (cbv; done)); (focus (cbv; done))) | (apply Ok.dcall (cLit); (focus (cbv; done)); (focus (cbv; done)); (focus (cbv; done))))
    (refine Ok.call (r := .tup [.pv (.agg [.int .i64 1, .view []]), .pv (.int .i64 0)]) (L := []) ?_ (by cbv) (by cbv) (by cbv) ?_; focus (exact ev_ok 30 (by as_aux_lemma => kernel_rfl)))
    repeat (first | (apply Ok.run1 hmix (A := Ar.std) rfl true 2000; focus (cbv; done)) | (refine Ok.condT ?_ ?_; focus (cbv; done)) | (refine Ok.condF ?_ ?_; focus (cbv; done)) | (refine Ok.drawnE (by as_aux_lemma => kernel_rfl) ?_))
    refine Ok.op (rem_op (by cbv) (by cbv) (by decide) (Int.ofNat r) (by rw [hr]; rfl)) ?_
    clear hr
    match r, hr5 with
    | 0, _ => exact Ok.evl (by as_aux_lemma => kernel_rfl)
    | 1, _ => exact Ok.evl (by as_aux_lemma => kernel_rfl)
    | 2, _ => exact Ok.evl (by as_aux_lemma => kernel_rfl)
    | 3, _ => exact Ok.evl (by as_aux_lemma => kernel_rfl)
    | 4, _ => exact Ok.evl (by as_aux_lemma => kernel_rfl)
  | 1, _ =>
    repeat (first | (apply Ok.run1 hmix (A := Ar.std) rfl true 2000; focus (cbv; done)) | (refine Ok.condT ?_ ?_; focus (cbv; done)) | (refine Ok.condF ?_ ?_; focus (cbv; done)) | (refine Ok.drawnE (by as_aux_lemma => kernel_rfl) ?_) | (apply Ok.call (cX); (focus (cbv; done)); (focus (cbv; done)); (focus (cbv; done))) | (apply Ok.dcall (cX); (focus (cbv; done)); (focus (cbv; done)); (focus (cbv; done))) | (apply Ok.call (cBool); (focus (cbv; done)); (focus (cbv; done)); (focus (cbv; done))) | (apply Ok.dcall (cBool); (focus (cbv; done)); (focus (cbv; done)); (focus (cbv; done))) | (apply Ok.call (cLit); (focus (cbv; done)); (focus (cbv; done)); (focus (cbv; done))) | (apply Ok.dcall (cLit); (focus (cbv; done)); (focus (cbv; done)); (focus (cbv; done))))
    (refine Ok.call (r := .tup [.pv (.agg [.int .i64 1, .view []]), .pv (.int .i64 0)]) (L := []) ?_ (by cbv) (by cbv) (by cbv) ?_; focus (exact ev_ok 30 (by as_aux_lemma => kernel_rfl)))
    repeat (first | (apply Ok.run1 hmix (A := Ar.std) rfl true 2000; focus (cbv; done)) | (refine Ok.condT ?_ ?_; focus (cbv; done)) | (refine Ok.condF ?_ ?_; focus (cbv; done)) | (refine Ok.drawnE (by as_aux_lemma => kernel_rfl) ?_))
    refine Ok.op (rem_op (by cbv) (by cbv) (by decide) (Int.ofNat r) (by rw [hr]; rfl)) ?_
    clear hr
    match r, hr5 with
    | 0, _ => exact Ok.evl (by as_aux_lemma => kernel_rfl)
    | 1, _ => exact Ok.evl (by as_aux_lemma => kernel_rfl)
    | 2, _ => exact Ok.evl (by as_aux_lemma => kernel_rfl)
    | 3, _ => exact Ok.evl (by as_aux_lemma => kernel_rfl)
    | 4, _ => exact Ok.evl (by as_aux_lemma => kernel_rfl)
  | 2, _ =>
    repeat (first | (apply Ok.run1 hmix (A := Ar.std) rfl true 2000; focus (cbv; done)) | (refine Ok.condT ?_ ?_; focus (cbv; done)) | (refine Ok.condF ?_ ?_; focus (cbv; done)) | (refine Ok.drawnE (by as_aux_lemma => kernel_rfl) ?_) | (apply Ok.call (cX); (focus (cbv; done)); (focus (cbv; done)); (focus (cbv; done))) | (apply Ok.dcall (cX); (focus (cbv; done)); (focus (cbv; done)); (focus (cbv; done))) | (apply Ok.call (cBool); (focus (cbv; done)); (focus (cbv; done)); (focus (cbv; done))) | (apply Ok.dcall (cBool); (focus (cbv; done)); (focus (cbv; done)); (focus (cbv; done))) | (apply Ok.call (cLit); (focus (cbv; done)); (focus (cbv; done)); (focus (cbv; done))) | (apply Ok.dcall (cLit); (focus (cbv; done)); (focus (cbv; done)); (focus (cbv; done))))
    (refine Ok.call (r := .tup [.pv (.agg [.int .i64 1, .view []]), .pv (.int .i64 0)]) (L := []) ?_ (by cbv) (by cbv) (by cbv) ?_; focus (exact ev_ok 30 (by as_aux_lemma => kernel_rfl)))
    repeat (first | (apply Ok.run1 hmix (A := Ar.std) rfl true 2000; focus (cbv; done)) | (refine Ok.condT ?_ ?_; focus (cbv; done)) | (refine Ok.condF ?_ ?_; focus (cbv; done)) | (refine Ok.drawnE (by as_aux_lemma => kernel_rfl) ?_))
    refine Ok.op (rem_op (by cbv) (by cbv) (by decide) (Int.ofNat r) (by rw [hr]; rfl)) ?_
    clear hr
    match r, hr5 with
    | 0, _ => exact Ok.evl (by as_aux_lemma => kernel_rfl)
    | 1, _ => exact Ok.evl (by as_aux_lemma => kernel_rfl)
    | 2, _ => exact Ok.evl (by as_aux_lemma => kernel_rfl)
    | 3, _ => exact Ok.evl (by as_aux_lemma => kernel_rfl)
    | 4, _ => exact Ok.evl (by as_aux_lemma => kernel_rfl)
  | 3, _ =>
    repeat (first | (apply Ok.run1 hmix (A := Ar.std) rfl true 2000; focus (cbv; done)) | (refine Ok.condT ?_ ?_; focus (cbv; done)) | (refine Ok.condF ?_ ?_; focus (cbv; done)) | (refine Ok.drawnE (by as_aux_lemma => kernel_rfl) ?_) | (apply Ok.call (cX); (focus (cbv; done)); (focus (cbv; done)); (focus (cbv; done))) | (apply Ok.dcall (cX); (focus (cbv; done)); (focus (cbv; done)); (focus (cbv; done))) | (apply Ok.call (cBool); (focus (cbv; done)); (focus (cbv; done)); (focus (cbv; done))) | (apply Ok.dcall (cBool); (focus (cbv; done)); (focus (cbv; done)); (focus (cbv; done))) | (apply Ok.call (cLit); (focus (cbv; done)); (focus (cbv; done)); (focus (cbv; done))) | (apply Ok.dcall (cLit); (focus (cbv; done)); (focus (cbv; done)); (focus (cbv; done))))
    (refine Ok.call (r := .tup [.pv (.agg [.int .i64 1, .view []]), .pv (.int .i64 0)]) (L := []) ?_ (by cbv) (by cbv) (by cbv) ?_; focus (exact ev_ok 30 (by as_aux_lemma => kernel_rfl)))
    repeat (first | (apply Ok.run1 hmix (A := Ar.std) rfl true 2000; focus (cbv; done)) | (refine Ok.condT ?_ ?_; focus (cbv; done)) | (refine Ok.condF ?_ ?_; focus (cbv; done)) | (refine Ok.drawnE (by as_aux_lemma => kernel_rfl) ?_))
    refine Ok.op (rem_op (by cbv) (by cbv) (by decide) (Int.ofNat r) (by rw [hr]; rfl)) ?_
    clear hr
    match r, hr5 with
    | 0, _ => exact Ok.evl (by as_aux_lemma => kernel_rfl)
    | 1, _ => exact Ok.evl (by as_aux_lemma => kernel_rfl)
    | 2, _ => exact Ok.evl (by as_aux_lemma => kernel_rfl)
    | 3, _ => exact Ok.evl (by as_aux_lemma => kernel_rfl)
    | 4, _ => exact Ok.evl (by as_aux_lemma => kernel_rfl)
  | 4, _ =>
    repeat (first | (apply Ok.run1 hmix (A := Ar.std) rfl true 2000; focus (cbv; done)) | (refine Ok.condT ?_ ?_; focus (cbv; done)) | (refine Ok.condF ?_ ?_; focus (cbv; done)) | (refine Ok.drawnE (by as_aux_lemma => kernel_rfl) ?_) | (apply Ok.call (cX); (focus (cbv; done)); (focus (cbv; done)); (focus (cbv; done))) | (apply Ok.dcall (cX); (focus (cbv; done)); (focus (cbv; done)); (focus (cbv; done))) | (apply Ok.call (cBool); (focus (cbv; done)); (focus (cbv; done)); (focus (cbv; done))) | (apply Ok.dcall (cBool); (focus (cbv; done)); (focus (cbv; done)); (focus (cbv; done))) | (apply Ok.call (cLit); (focus (cbv; done)); (focus (cbv; done)); (focus (cbv; done))) | (apply Ok.dcall (cLit); (focus (cbv; done)); (focus (cbv; done)); (focus (cbv; done))))
    (refine Ok.call (r := .tup [.pv (.agg [.int .i64 4, .view [.agg [.int .i64 1, .view []], .agg [.int .i64 1, .view []]]]), .pv (.int .i64 0)]) (L := []) ?_ (by cbv) (by cbv) (by cbv) ?_; focus (exact ev_ok 30 (by as_aux_lemma => kernel_rfl)))
    repeat (first | (apply Ok.run1 hmix (A := Ar.std) rfl true 2000; focus (cbv; done)) | (refine Ok.condT ?_ ?_; focus (cbv; done)) | (refine Ok.condF ?_ ?_; focus (cbv; done)) | (refine Ok.drawnE (by as_aux_lemma => kernel_rfl) ?_))
    refine Ok.op (rem_op (by cbv) (by cbv) (by decide) (Int.ofNat r) (by rw [hr]; rfl)) ?_
    clear hr
    match r, hr5 with
    | 0, _ => exact Ok.evl (by as_aux_lemma => kernel_rfl)
    | 1, _ => exact Ok.evl (by as_aux_lemma => kernel_rfl)
    | 2, _ => exact Ok.evl (by as_aux_lemma => kernel_rfl)
    | 3, _ => exact Ok.evl (by as_aux_lemma => kernel_rfl)
    | 4, _ => exact Ok.evl (by as_aux_lemma => kernel_rfl)
  | 5, _ =>
    repeat (first | (apply Ok.run1 hmix (A := Ar.std) rfl true 2000; focus (cbv; done)) | (refine Ok.condT ?_ ?_; focus (cbv; done)) | (refine Ok.condF ?_ ?_; focus (cbv; done)) | (refine Ok.drawnE (by as_aux_lemma => kernel_rfl) ?_) | (apply Ok.call (cX); (focus (cbv; done)); (focus (cbv; done)); (focus (cbv; done))) | (apply Ok.dcall (cX); (focus (cbv; done)); (focus (cbv; done)); (focus (cbv; done))) | (apply Ok.call (cBool); (focus (cbv; done)); (focus (cbv; done)); (focus (cbv; done))) | (apply Ok.dcall (cBool); (focus (cbv; done)); (focus (cbv; done)); (focus (cbv; done))) | (apply Ok.call (cLit); (focus (cbv; done)); (focus (cbv; done)); (focus (cbv; done))) | (apply Ok.dcall (cLit); (focus (cbv; done)); (focus (cbv; done)); (focus (cbv; done))))
    (refine Ok.call (r := .tup [.pv (.agg [.int .i64 4, .view [.agg [.int .i64 1, .view []], .agg [.int .i64 1, .view []]]]), .pv (.int .i64 0)]) (L := []) ?_ (by cbv) (by cbv) (by cbv) ?_; focus (exact ev_ok 30 (by as_aux_lemma => kernel_rfl)))
    repeat (first | (apply Ok.run1 hmix (A := Ar.std) rfl true 2000; focus (cbv; done)) | (refine Ok.condT ?_ ?_; focus (cbv; done)) | (refine Ok.condF ?_ ?_; focus (cbv; done)) | (refine Ok.drawnE (by as_aux_lemma => kernel_rfl) ?_))
    refine Ok.op (rem_op (by cbv) (by cbv) (by decide) (Int.ofNat r) (by rw [hr]; rfl)) ?_
    clear hr
    match r, hr5 with
    | 0, _ => exact Ok.evl (by as_aux_lemma => kernel_rfl)
    | 1, _ => exact Ok.evl (by as_aux_lemma => kernel_rfl)
    | 2, _ => exact Ok.evl (by as_aux_lemma => kernel_rfl)
    | 3, _ => exact Ok.evl (by as_aux_lemma => kernel_rfl)
    | 4, _ => exact Ok.evl (by as_aux_lemma => kernel_rfl)
  | 6, _ =>
    repeat (first | (apply Ok.run1 hmix (A := Ar.std) rfl true 2000; focus (cbv; done)) | (refine Ok.condT ?_ ?_; focus (cbv; done)) | (refine Ok.condF ?_ ?_; focus (cbv; done)) | (refine Ok.drawnE (by as_aux_lemma => kernel_rfl) ?_) | (apply Ok.call (cX); (focus (cbv; done)); (focus (cbv; done)); (focus (cbv; done))) | (apply Ok.dcall (cX); (focus (cbv; done)); (focus (cbv; done)); (focus (cbv; done))) | (apply Ok.call (cBool); (focus (cbv; done)); (focus (cbv; done)); (focus (cbv; done))) | (apply Ok.dcall (cBool); (focus (cbv; done)); (focus (cbv; done)); (focus (cbv; done))) | (apply Ok.call (cLit); (focus (cbv; done)); (focus (cbv; done)); (focus (cbv; done))) | (apply Ok.dcall (cLit); (focus (cbv; done)); (focus (cbv; done)); (focus (cbv; done))))
    (refine Ok.call (r := .tup [.pv (.agg [.int .i64 1, .view []]), .pv (.int .i64 0)]) (L := []) ?_ (by cbv) (by cbv) (by cbv) ?_; focus (exact ev_ok 30 (by as_aux_lemma => kernel_rfl)))
    repeat (first | (apply Ok.run1 hmix (A := Ar.std) rfl true 2000; focus (cbv; done)) | (refine Ok.condT ?_ ?_; focus (cbv; done)) | (refine Ok.condF ?_ ?_; focus (cbv; done)) | (refine Ok.drawnE (by as_aux_lemma => kernel_rfl) ?_))
    refine Ok.op (rem_op (by cbv) (by cbv) (by decide) (Int.ofNat r) (by rw [hr]; rfl)) ?_
    clear hr
    match r, hr5 with
    | 0, _ => exact Ok.evl (by as_aux_lemma => kernel_rfl)
    | 1, _ => exact Ok.evl (by as_aux_lemma => kernel_rfl)
    | 2, _ => exact Ok.evl (by as_aux_lemma => kernel_rfl)
    | 3, _ => exact Ok.evl (by as_aux_lemma => kernel_rfl)
    | 4, _ => exact Ok.evl (by as_aux_lemma => kernel_rfl)
  | 7, _ =>
    repeat (first | (apply Ok.run1 hmix (A := Ar.std) rfl true 2000; focus (cbv; done)) | (refine Ok.condT ?_ ?_; focus (cbv; done)) | (refine Ok.condF ?_ ?_; focus (cbv; done)) | (refine Ok.drawnE (by as_aux_lemma => kernel_rfl) ?_) | (apply Ok.call (cX); (focus (cbv; done)); (focus (cbv; done)); (focus (cbv; done))) | (apply Ok.dcall (cX); (focus (cbv; done)); (focus (cbv; done)); (focus (cbv; done))) | (apply Ok.call (cBool); (focus (cbv; done)); (focus (cbv; done)); (focus (cbv; done))) | (apply Ok.dcall (cBool); (focus (cbv; done)); (focus (cbv; done)); (focus (cbv; done))) | (apply Ok.call (cLit); (focus (cbv; done)); (focus (cbv; done)); (focus (cbv; done))) | (apply Ok.dcall (cLit); (focus (cbv; done)); (focus (cbv; done)); (focus (cbv; done))))
    (refine Ok.call (r := .tup [.pv (.agg [.int .i64 1, .view []]), .pv (.int .i64 0)]) (L := []) ?_ (by cbv) (by cbv) (by cbv) ?_; focus (exact ev_ok 30 (by as_aux_lemma => kernel_rfl)))
    repeat (first | (apply Ok.run1 hmix (A := Ar.std) rfl true 2000; focus (cbv; done)) | (refine Ok.condT ?_ ?_; focus (cbv; done)) | (refine Ok.condF ?_ ?_; focus (cbv; done)) | (refine Ok.drawnE (by as_aux_lemma => kernel_rfl) ?_))
    refine Ok.op (rem_op (by cbv) (by cbv) (by decide) (Int.ofNat r) (by rw [hr]; rfl)) ?_
    clear hr
    match r, hr5 with
    | 0, _ => exact Ok.evl (by as_aux_lemma => kernel_rfl)
    | 1, _ => exact Ok.evl (by as_aux_lemma => kernel_rfl)
    | 2, _ => exact Ok.evl (by as_aux_lemma => kernel_rfl)
    | 3, _ => exact Ok.evl (by as_aux_lemma => kernel_rfl)
    | 4, _ => exact Ok.evl (by as_aux_lemma => kernel_rfl)
  | 8, _ =>
    repeat (first | (apply Ok.run1 hmix (A := Ar.std) rfl true 2000; focus (cbv; done)) | (refine Ok.condT ?_ ?_; focus (cbv; done)) | (refine Ok.condF ?_ ?_; focus (cbv; done)) | (refine Ok.drawnE (by as_aux_lemma => kernel_rfl) ?_) | (apply Ok.call (cX); (focus (cbv; done)); (focus (cbv; done)); (focus (cbv; done))) | (apply Ok.dcall (cX); (focus (cbv; done)); (focus (cbv; done)); (focus (cbv; done))) | (apply Ok.call (cBool); (focus (cbv; done)); (focus (cbv; done)); (focus (cbv; done))) | (apply Ok.dcall (cBool); (focus (cbv; done)); (focus (cbv; done)); (focus (cbv; done))) | (apply Ok.call (cLit); (focus (cbv; done)); (focus (cbv; done)); (focus (cbv; done))) | (apply Ok.dcall (cLit); (focus (cbv; done)); (focus (cbv; done)); (focus (cbv; done))))
    (refine Ok.call (r := .tup [.pv (.agg [.int .i64 1, .view []]), .pv (.int .i64 0)]) (L := []) ?_ (by cbv) (by cbv) (by cbv) ?_; focus (exact ev_ok 30 (by as_aux_lemma => kernel_rfl)))
    repeat (first | (apply Ok.run1 hmix (A := Ar.std) rfl true 2000; focus (cbv; done)) | (refine Ok.condT ?_ ?_; focus (cbv; done)) | (refine Ok.condF ?_ ?_; focus (cbv; done)) | (refine Ok.drawnE (by as_aux_lemma => kernel_rfl) ?_))
    refine Ok.op (rem_op (by cbv) (by cbv) (by decide) (Int.ofNat r) (by rw [hr]; rfl)) ?_
    clear hr
    match r, hr5 with
    | 0, _ => exact Ok.evl (by as_aux_lemma => kernel_rfl)
    | 1, _ => exact Ok.evl (by as_aux_lemma => kernel_rfl)
    | 2, _ => exact Ok.evl (by as_aux_lemma => kernel_rfl)
    | 3, _ => exact Ok.evl (by as_aux_lemma => kernel_rfl)
    | 4, _ => exact Ok.evl (by as_aux_lemma => kernel_rfl)
end Go.Proofs.Ytnojmocoifodjaa.Pv
set_option linter.unusedVariables false
namespace Go.Proofs.Ytnojmocoifodjaa.Pv
open Go Go.Proofs Go.RowKit
theorem OpFields_u8 {z : Int} (h : (Lit.int .u8 z).wf = true) : z = Int.ofNat z.toNat ∧ z.toNat < 256 := by
  simp only [Lit.wf, Bool.and_eq_true, decide_eq_true_eq] at h
  have h1 : (0 : Int) ≤ z := h.1
  have h2 : z ≤ 255 := h.2
  exact ⟨(Int.toNat_of_nonneg h1).symm, by omega⟩
theorem OpFields_walk {W : World} {z0 z1 : Int} (h0 : (Lit.int .u8 z0).wf = true) (h1 : (Lit.int .u8 z1).wf = true) : Calls Try.prog 12 #[.int .u8 z0, .int .u8 z1] W (fun e W' => e = .returned (.bool true) ∧ Below W.heap.size W W') := by
  obtain ⟨e0, l0⟩ := OpFields_u8 h0
  rw [e0]
  obtain ⟨e1, l1⟩ := OpFields_u8 h1
  rw [e1]
  exact (law7_OpFields z0.toNat z1.toNat).yes rfl (fun i q hq => by
    match i with
    | 0 => simp only [List.getElem?_cons_zero, Option.some.injEq] at hq; subst hq; exact .int _ _
    | 1 => simp only [List.getElem?_cons_zero, List.getElem?_cons_succ, Option.some.injEq] at hq; subst hq; exact .int _ _
    | i + 2 => simp at hq)
end Go.Proofs.Ytnojmocoifodjaa.Pv

