/- The law OpShapes of this seat: a part of its proof (an abstract evaluator of the code that is proved sound, and contracts of functions), with no condition. -/
import Derived.Test.YtnojmocoifodjaaOpShapesV5
import Derived.Test.YtnojmocoifodjaaOpShapesV3
import Derived.Test.YtnojmocoifodjaaOpShapesV2
set_option maxRecDepth 100000
set_option maxHeartbeats 4000000
set_option linter.unusedVariables false
set_option linter.unusedSimpArgs false
namespace Go.Proofs.Ytnojmocoifodjaa.Pv
open Go Go.Proofs
theorem slices_ClipV {E : Enc} (hE : E = .std) (l : List Vl) : CallsV Try.prog 151 [.view (E .vls l)] (.pv (.view (E .vls l))) [] := by
  obtain ⟨A, hA⟩ : ∃ A : Ar, A = .std := ⟨_, rfl⟩
  obtain ⟨ln, hln⟩ : ∃ n, n = l.length := ⟨_, rfl⟩
  have hll : A .lenP (E .vls l) = Int.ofNat ln := by rw [Ar.lenP_eq hA, vls_len hE, hln]; rfl
  obtain ⟨es, hes⟩ : ∃ es, es = E .vls l := ⟨_, rfl⟩
  have hl : ln = es.length := by rw [hes, vls_len hE, hln]
  have hc : ∀ e, e ∈ es → e.cells.length = 5 := by
    intro e he
    rw [hes, E.vls_eq hE] at he
    obtain ⟨x, _, rfl⟩ := List.mem_map.1 he
    rfl
  rw [← hes] at hll ⊢
  obtain ⟨r, hr⟩ : ∃ r : PV, r = if ln = 0 then .cap0 else .view es := ⟨_, rfl⟩
  refine CallsV.ok (fn := Try.f151) (by kernel_rfl) (by kernel_rfl) rfl (by cbv) (by cbv) ?_
  refine Ok.run hmix hA false 2000 (by cbv) ?_
  rw [hll]
  refine Ok.op (slc_full (by cbv) (by cbv) (by cbv) hl hc r hr) ?_
  repeat (first | (apply Ok.run1 hmix hA false 2000; focus (cbv; done)) | (apply Ok.one hmix hA; focus (cbv; done)) | (rw [Ar.notT hA]) | (rw [Ar.notF hA]) | (refine Ok.condT ?_ ?_; focus (cbv; done)) | (refine Ok.condF ?_ ?_; focus (cbv; done)) | (refine Ok.drawnE (by as_aux_lemma => kernel_rfl) ?_))
  refine Ok.fin (by cbv) (FS.pv _ ?_)
  rw [hr]
  by_cases h0 : ln = 0
  · have : es = [] := List.eq_nil_of_length_eq_zero (by omega)
    rw [if_pos h0, this]
    exact PLe.cap0
  · rw [if_neg h0]; exact PLe.refl _
theorem vls_okc {E : Enc} (hE : E = .std) (l : List Vl) : (E .vls l).all (PV.okc 5) = true := by
  rw [E.vls_eq hE, List.all_map, List.all_eq_true]
  intro x _
  simp [Enc.vl, PV.okc, PV.cells, PV.one]
theorem slices_CloneV {E : Enc} (hE : E = .std) (l : List Vl) (hl : l.length ≤ 2 ^ 28) : CallsV Try.prog 152 [.view (E .vls l)] (.pv (.view (E .vls l))) [] := by
  obtain ⟨A, hA⟩ : ∃ A : Ar, A = .std := ⟨_, rfl⟩
  cases l with
  | nil =>
    rw [vls0 hE]
    refine CallsV.emp (pre := []) (post := []) ?_ ?_
    · refine CallsV.ok (fn := Try.f152) (by kernel_rfl) (by kernel_rfl) rfl (by cbv) (by cbv) ?_
      repeat (first | (apply Ok.run1 hmix hA false 2000; focus (cbv; done)) | (apply Ok.one hmix hA; focus (cbv; done)) | (rw [Ar.notT hA]) | (rw [Ar.notF hA]) | (refine Ok.condT ?_ ?_; focus (cbv; done)) | (refine Ok.condF ?_ ?_; focus (cbv; done)) | (refine Ok.drawnE (by as_aux_lemma => kernel_rfl) ?_) | (apply Ok.op; (focus (cbv; done))) | (apply Ok.dop; (focus (cbv; done))) | (apply Ok.leave) | (apply Ok.leaveRet))
      (first | (apply Ok.finO1; (focus (cbv; done)); (focus (cbv; done)); (focus (first | exact trivial | (simp only [obsOk, and_true, Ar.inc_eq hA, Ar.snoc_eq hA, List.length_append, List.length_singleton, List.length_nil] <;> first | assumption | omega | (constructor <;> omega))))) | (apply Ok.finO2; (focus (cbv; done)); (focus (cbv; done)); (focus (first | exact trivial | (simp only [obsOk, and_true, Ar.inc_eq hA, Ar.snoc_eq hA, List.length_append, List.length_singleton, List.length_nil] <;> first | assumption | omega | (constructor <;> omega))))) | (apply Ok.finO3; (focus (cbv; done)); (focus (cbv; done)); (focus (first | exact trivial | (simp only [obsOk, and_true, Ar.inc_eq hA, Ar.snoc_eq hA, List.length_append, List.length_singleton, List.length_nil] <;> first | assumption | omega | (constructor <;> omega))))))
      all_goals rfl
    · refine CallsV.ok (fn := Try.f152) (by kernel_rfl) (by kernel_rfl) rfl (by cbv) (by cbv) ?_
      repeat (first | (apply Ok.run1 hmix hA false 2000; focus (cbv; done)) | (apply Ok.one hmix hA; focus (cbv; done)) | (rw [Ar.notT hA]) | (rw [Ar.notF hA]) | (refine Ok.condT ?_ ?_; focus (cbv; done)) | (refine Ok.condF ?_ ?_; focus (cbv; done)) | (refine Ok.drawnE (by as_aux_lemma => kernel_rfl) ?_) | (apply Ok.op; (focus (cbv; done))) | (apply Ok.dop; (focus (cbv; done))) | (apply Ok.leave) | (apply Ok.leaveRet))
      (first | (apply Ok.finO1; (focus (cbv; done)); (focus (cbv; done)); (focus (first | exact trivial | (simp only [obsOk, and_true, Ar.inc_eq hA, Ar.snoc_eq hA, List.length_append, List.length_singleton, List.length_nil] <;> first | assumption | omega | (constructor <;> omega))))) | (apply Ok.finO2; (focus (cbv; done)); (focus (cbv; done)); (focus (first | exact trivial | (simp only [obsOk, and_true, Ar.inc_eq hA, Ar.snoc_eq hA, List.length_append, List.length_singleton, List.length_nil] <;> first | assumption | omega | (constructor <;> omega))))) | (apply Ok.finO3; (focus (cbv; done)); (focus (cbv; done)); (focus (first | exact trivial | (simp only [obsOk, and_true, Ar.inc_eq hA, Ar.snoc_eq hA, List.length_append, List.length_singleton, List.length_nil] <;> first | assumption | omega | (constructor <;> omega))))))
      all_goals rfl
  | cons x l =>
    have h1 : E .vls (x :: l) = E.vl x :: E .vls l := by rw [E.vls_eq hE, E.vls_eq hE]; rfl
    have hok := vls_okc hE (x :: l)
    have hlen : (E .vls (x :: l)).length = l.length + 1 := by rw [vls_len hE]; rfl
    rw [h1] at hok hlen ⊢
    simp only [List.length_cons] at hl
    obtain ⟨es, hes⟩ : ∃ es, es = E .vls l := ⟨_, rfl⟩
    rw [← hes] at hok hlen ⊢
    obtain ⟨p, hp⟩ : ∃ p, p = E.vl x := ⟨_, rfl⟩
    rw [← hp] at hok hlen ⊢
    obtain ⟨n, hn⟩ : ∃ n, n = (p :: es).length := ⟨_, rfl⟩
    refine CallsV.ok (fn := Try.f152) (by kernel_rfl) (by kernel_rfl) rfl (by cbv) (by cbv) ?_
    repeat (first | (apply Ok.run1 hmix hA false 2000; focus (cbv; done)) | (apply Ok.one hmix hA; focus (cbv; done)) | (rw [Ar.notT hA]) | (rw [Ar.notF hA]) | (refine Ok.condT ?_ ?_; focus (cbv; done)) | (refine Ok.condF ?_ ?_; focus (cbv; done)) | (refine Ok.drawnE (by as_aux_lemma => kernel_rfl) ?_) | (apply Ok.op; (focus (cbv; done))) | (apply Ok.dop; (focus (cbv; done))) | (apply Ok.leave) | (apply Ok.leaveRet))
    refine Ok.op (app_ref (es := []) (n := 0) (by cbv) (by cbv) rfl (by cbv) hok (by decide) (by rw [hlen]; omega) (by rw [hlen]; unfold maxLen; omega) n (by rw [hn]; simp) (p :: es) (by simp)) ?_
    repeat (first | (apply Ok.run1 hmix hA false 2000; focus (cbv; done)) | (apply Ok.one hmix hA; focus (cbv; done)) | (rw [Ar.notT hA]) | (rw [Ar.notF hA]) | (refine Ok.condT ?_ ?_; focus (cbv; done)) | (refine Ok.condF ?_ ?_; focus (cbv; done)) | (refine Ok.drawnE (by as_aux_lemma => kernel_rfl) ?_) | (apply Ok.leave) | (apply Ok.leaveRet))
    (first | (apply Ok.finO1; (focus (cbv; done)); (focus (cbv; done)); (focus (first | exact trivial | (simp only [obsOk, and_true, Ar.inc_eq hA, Ar.snoc_eq hA, List.length_append, List.length_singleton, List.length_nil] <;> first | assumption | omega | (constructor <;> omega))))) | (apply Ok.finO2; (focus (cbv; done)); (focus (cbv; done)); (focus (first | exact trivial | (simp only [obsOk, and_true, Ar.inc_eq hA, Ar.snoc_eq hA, List.length_append, List.length_singleton, List.length_nil] <;> first | assumption | omega | (constructor <;> omega))))) | (apply Ok.finO3; (focus (cbv; done)); (focus (cbv; done)); (focus (first | exact trivial | (simp only [obsOk, and_true, Ar.inc_eq hA, Ar.snoc_eq hA, List.length_append, List.length_singleton, List.length_nil] <;> first | assumption | omega | (constructor <;> omega))))))
    all_goals first | rfl | (exact hn)
theorem val_Tup {E : Enc} (hE : E = .std) (l : List Vl) (hl : l.length ≤ 2 ^ 28) : CallsV Try.prog 129 [.view (E .vls l)] (.pv (E.vl ⟨4, 0, false, [], l⟩)) [] := by
  obtain ⟨A, hA⟩ : ∃ A : Ar, A = .std := ⟨_, rfl⟩
  have c1 := slices_CloneV hE l hl
  have c2 := slices_ClipV hE l
  rw [Enc.vl]
  generalize E .vls l = es at *
  refine CallsV.ok (fn := Try.f129) (by kernel_rfl) (by kernel_rfl) rfl (by cbv) (by cbv) ?_
  repeat (first | (apply Ok.run1 hmix hA false 2000; focus (cbv; done)) | (apply Ok.one hmix hA; focus (cbv; done)) | (rw [Ar.notT hA]) | (rw [Ar.notF hA]) | (refine Ok.condT ?_ ?_; focus (cbv; done)) | (refine Ok.condF ?_ ?_; focus (cbv; done)) | (refine Ok.drawnE (by as_aux_lemma => kernel_rfl) ?_) | (apply Ok.leave) | (apply Ok.leaveRet) | (apply Ok.callO (c1); (focus (cbv; done)); (focus (cbv; done)); (focus (first | exact trivial | (simp only [obsOk, and_true, Ar.inc_eq hA, Ar.snoc_eq hA, List.length_append, List.length_singleton, List.length_nil] <;> first | assumption | omega | (constructor <;> omega)))); (focus (cbv; done))) | (apply Ok.dcallO (c1); (focus (cbv; done)); (focus (cbv; done)); (focus (first | exact trivial | (simp only [obsOk, and_true, Ar.inc_eq hA, Ar.snoc_eq hA, List.length_append, List.length_singleton, List.length_nil] <;> first | assumption | omega | (constructor <;> omega)))); (focus (cbv; done))) | (apply Ok.callO (c2); (focus (cbv; done)); (focus (cbv; done)); (focus (first | exact trivial | (simp only [obsOk, and_true, Ar.inc_eq hA, Ar.snoc_eq hA, List.length_append, List.length_singleton, List.length_nil] <;> first | assumption | omega | (constructor <;> omega)))); (focus (cbv; done))) | (apply Ok.dcallO (c2); (focus (cbv; done)); (focus (cbv; done)); (focus (first | exact trivial | (simp only [obsOk, and_true, Ar.inc_eq hA, Ar.snoc_eq hA, List.length_append, List.length_singleton, List.length_nil] <;> first | assumption | omega | (constructor <;> omega)))); (focus (cbv; done))))
  (first | (apply Ok.finO1; (focus (cbv; done)); (focus (cbv; done)); (focus (first | exact trivial | (simp only [obsOk, and_true, Ar.inc_eq hA, Ar.snoc_eq hA, List.length_append, List.length_singleton, List.length_nil] <;> first | assumption | omega | (constructor <;> omega))))) | (apply Ok.finO2; (focus (cbv; done)); (focus (cbv; done)); (focus (first | exact trivial | (simp only [obsOk, and_true, Ar.inc_eq hA, Ar.snoc_eq hA, List.length_append, List.length_singleton, List.length_nil] <;> first | assumption | omega | (constructor <;> omega))))) | (apply Ok.finO3; (focus (cbv; done)); (focus (cbv; done)); (focus (first | exact trivial | (simp only [obsOk, and_true, Ar.inc_eq hA, Ar.snoc_eq hA, List.length_append, List.length_singleton, List.length_nil] <;> first | assumption | omega | (constructor <;> omega))))))
  all_goals rfl
def chz (op : List UInt8) (b : Bool) : Int := if op = oIf then (if b then 1 else 2) else if decide (op = oAnd) = b then 1 else 0
theorem eval_choose {E : Enc} (hE : E = .std) (e : Ex4) (v : Vl) : CallsV Try.prog 127 [E.ex e, E.vl v] (.pv (.int .i64 (chz e.op v.b))) [] := by
  obtain ⟨A, hA⟩ : ∃ A : Ar, A = .std := ⟨_, rfl⟩
  obtain ⟨op, ⟨vk, vi, vb, vs, vt⟩, n, a⟩ := e
  obtain ⟨k, i, b, s, t⟩ := v
  have q1 : A .seq op [105, 102] = decide (op = oIf) := Ar.seq_eq hA _ _
  have q2 : A .seq op [97, 110, 100] = decide (op = oAnd) := Ar.seq_eq hA _ _
  have q3 : ∀ a b, A .beq a b = (a == b) := Ar.beq_eq hA
  obtain ⟨r, hr⟩ : ∃ r, r = chz op b := ⟨_, rfl⟩
  show CallsV _ _ _ (.pv (.int .i64 (chz op b))) _
  rw [← hr]
  unfold chz at hr
  generalize hc1 : decide (op = oIf) = c1 at q1
  generalize hc2 : decide (op = oAnd) = c2 at q2 hr
  by_cases h1 : op = oIf
  · rw [if_pos h1] at hr
    rw [decide_eq_true h1] at hc1
    subst hc1
    cases b
    · refine CallsV.ok (fn := Try.f127) (by kernel_rfl) (by kernel_rfl) rfl (by cbv) (by cbv) ?_
      repeat (first | (apply Ok.run1 hmix hA false 2000; focus (cbv; done)) | (apply Ok.one hmix hA; focus (cbv; done)) | (rw [Ar.notT hA]) | (rw [Ar.notF hA]) | (refine Ok.condT ?_ ?_; focus (cbv; done)) | (refine Ok.condF ?_ ?_; focus (cbv; done)) | (refine Ok.drawnE (by as_aux_lemma => kernel_rfl) ?_) | (apply Ok.leave) | (apply Ok.leaveRet) | (rw [q1]) | (rw [q2]) | (rw [q3]))
      (first | (apply Ok.finO1; (focus (cbv; done)); (focus (cbv; done)); (focus (first | exact trivial | (simp only [obsOk, and_true, Ar.inc_eq hA, Ar.snoc_eq hA, List.length_append, List.length_singleton, List.length_nil] <;> first | assumption | omega | (constructor <;> omega))))) | (apply Ok.finO2; (focus (cbv; done)); (focus (cbv; done)); (focus (first | exact trivial | (simp only [obsOk, and_true, Ar.inc_eq hA, Ar.snoc_eq hA, List.length_append, List.length_singleton, List.length_nil] <;> first | assumption | omega | (constructor <;> omega))))) | (apply Ok.finO3; (focus (cbv; done)); (focus (cbv; done)); (focus (first | exact trivial | (simp only [obsOk, and_true, Ar.inc_eq hA, Ar.snoc_eq hA, List.length_append, List.length_singleton, List.length_nil] <;> first | assumption | omega | (constructor <;> omega))))))
      all_goals simp [hr]
    · refine CallsV.ok (fn := Try.f127) (by kernel_rfl) (by kernel_rfl) rfl (by cbv) (by cbv) ?_
      repeat (first | (apply Ok.run1 hmix hA false 2000; focus (cbv; done)) | (apply Ok.one hmix hA; focus (cbv; done)) | (rw [Ar.notT hA]) | (rw [Ar.notF hA]) | (refine Ok.condT ?_ ?_; focus (cbv; done)) | (refine Ok.condF ?_ ?_; focus (cbv; done)) | (refine Ok.drawnE (by as_aux_lemma => kernel_rfl) ?_) | (apply Ok.leave) | (apply Ok.leaveRet) | (rw [q1]) | (rw [q2]) | (rw [q3]))
      (first | (apply Ok.finO1; (focus (cbv; done)); (focus (cbv; done)); (focus (first | exact trivial | (simp only [obsOk, and_true, Ar.inc_eq hA, Ar.snoc_eq hA, List.length_append, List.length_singleton, List.length_nil] <;> first | assumption | omega | (constructor <;> omega))))) | (apply Ok.finO2; (focus (cbv; done)); (focus (cbv; done)); (focus (first | exact trivial | (simp only [obsOk, and_true, Ar.inc_eq hA, Ar.snoc_eq hA, List.length_append, List.length_singleton, List.length_nil] <;> first | assumption | omega | (constructor <;> omega))))) | (apply Ok.finO3; (focus (cbv; done)); (focus (cbv; done)); (focus (first | exact trivial | (simp only [obsOk, and_true, Ar.inc_eq hA, Ar.snoc_eq hA, List.length_append, List.length_singleton, List.length_nil] <;> first | assumption | omega | (constructor <;> omega))))))
      all_goals simp [hr]
  · rw [if_neg h1] at hr
    rw [decide_eq_false h1] at hc1
    subst hc1
    cases b <;> cases c2
    all_goals
      refine CallsV.ok (fn := Try.f127) (by kernel_rfl) (by kernel_rfl) rfl (by cbv) (by cbv) ?_
      repeat (first | (apply Ok.run1 hmix hA false 2000; focus (cbv; done)) | (apply Ok.one hmix hA; focus (cbv; done)) | (rw [Ar.notT hA]) | (rw [Ar.notF hA]) | (refine Ok.condT ?_ ?_; focus (cbv; done)) | (refine Ok.condF ?_ ?_; focus (cbv; done)) | (refine Ok.drawnE (by as_aux_lemma => kernel_rfl) ?_) | (apply Ok.leave) | (apply Ok.leaveRet) | (rw [q1]) | (rw [q2]) | (rw [q3]))
      (first | (apply Ok.finO1; (focus (cbv; done)); (focus (cbv; done)); (focus (first | exact trivial | (simp only [obsOk, and_true, Ar.inc_eq hA, Ar.snoc_eq hA, List.length_append, List.length_singleton, List.length_nil] <;> first | assumption | omega | (constructor <;> omega))))) | (apply Ok.finO2; (focus (cbv; done)); (focus (cbv; done)); (focus (first | exact trivial | (simp only [obsOk, and_true, Ar.inc_eq hA, Ar.snoc_eq hA, List.length_append, List.length_singleton, List.length_nil] <;> first | assumption | omega | (constructor <;> omega))))) | (apply Ok.finO3; (focus (cbv; done)); (focus (cbv; done)); (focus (first | exact trivial | (simp only [obsOk, and_true, Ar.inc_eq hA, Ar.snoc_eq hA, List.length_append, List.length_singleton, List.length_nil] <;> first | assumption | omega | (constructor <;> omega))))))
      all_goals simp [hr]
theorem eval_cat {E : Enc} (hE : E = .std) (a b : Vl) (h1 : a.s.length ≤ 2 ^ 40) (h2 : b.s.length ≤ 2 ^ 40) : CallsV Try.prog 179 [E.vl a, E.vl b] (.tup [.pv (E.vl (mkX oCat 0 [a, b]).1), .pv (.int .i64 (mkX oCat 0 [a, b]).2)]) [] := by
  obtain ⟨A, hA⟩ : ∃ A : Ar, A = .std := ⟨_, rfl⟩
  have hmk : mkX oCat 0 [a, b] = if 255 < a.s.length + b.s.length then (.zero, 4) else (vStr (a.s ++ b.s), 0) := rfl
  rw [hmk]
  obtain ⟨ak, ai, ab, as', at'⟩ := a
  obtain ⟨bk, bi, bb, bs', bt'⟩ := b
  dsimp only at h1 h2 ⊢
  obtain ⟨la, hla⟩ : ∃ n, n = as'.length := ⟨_, rfl⟩
  obtain ⟨lb, hlb⟩ : ∃ n, n = bs'.length := ⟨_, rfl⟩
  have q1 : A .lenS as' = Int.ofNat la := by rw [lenS_nat hA, hla]
  have q2 : A .lenS bs' = Int.ofNat lb := by rw [lenS_nat hA, hlb]
  have q3 : A .add .i64 (Int.ofNat la) (Int.ofNat lb) = Int.ofNat (la + lb) := ofNat_add hA (by omega)
  obtain ⟨m, hm⟩ : ∃ m, m = la + lb := ⟨_, rfl⟩
  rw [← hm] at q3
  have q4 : A .lt 255 (Int.ofNat m) = decide (255 < m) := ofNat_lt hA 255 m
  rw [← hla, ← hlb, ← hm]
  by_cases h3 : 255 < m
  · rw [decide_eq_true h3] at q4
    rw [if_pos h3, vl_zero hE]
    refine CallsV.ok (fn := Try.f179) (by kernel_rfl) (by kernel_rfl) rfl (by cbv) (by cbv) ?_
    repeat (first | (apply Ok.run1 hmix hA false 2000; focus (cbv; done)) | (apply Ok.one hmix hA; focus (cbv; done)) | (rw [Ar.notT hA]) | (rw [Ar.notF hA]) | (refine Ok.condT ?_ ?_; focus (cbv; done)) | (refine Ok.condF ?_ ?_; focus (cbv; done)) | (refine Ok.drawnE (by as_aux_lemma => kernel_rfl) ?_) | (apply Ok.leave) | (apply Ok.leaveRet) | (rw [q1]) | (rw [q2]) | (rw [q3]) | (rw [q4]))
    (first | (apply Ok.finO1; (focus (cbv; done)); (focus (cbv; done)); (focus (first | exact trivial | (simp only [obsOk, and_true, Ar.inc_eq hA, Ar.snoc_eq hA, List.length_append, List.length_singleton, List.length_nil] <;> first | assumption | omega | (constructor <;> omega))))) | (apply Ok.finO2; (focus (cbv; done)); (focus (cbv; done)); (focus (first | exact trivial | (simp only [obsOk, and_true, Ar.inc_eq hA, Ar.snoc_eq hA, List.length_append, List.length_singleton, List.length_nil] <;> first | assumption | omega | (constructor <;> omega))))) | (apply Ok.finO3; (focus (cbv; done)); (focus (cbv; done)); (focus (first | exact trivial | (simp only [obsOk, and_true, Ar.inc_eq hA, Ar.snoc_eq hA, List.length_append, List.length_singleton, List.length_nil] <;> first | assumption | omega | (constructor <;> omega))))))
    all_goals rfl
  · rw [decide_eq_false h3] at q4
    rw [if_neg h3, vl_str hE]
    obtain ⟨cc, hcc⟩ : ∃ c, c = as' ++ bs' := ⟨_, rfl⟩
    have cS : CallsV Try.prog 188 [.str cc] (.pv (pS cc)) [] := evs_ok 30 (by kernel_rfl)
    rw [← hcc]
    simp only [pS] at cS ⊢
    refine CallsV.ok (fn := Try.f179) (by kernel_rfl) (by kernel_rfl) rfl (by cbv) (by cbv) ?_
    repeat (first | (apply Ok.run1 hmix hA false 2000; focus (cbv; done)) | (apply Ok.one hmix hA; focus (cbv; done)) | (rw [Ar.notT hA]) | (rw [Ar.notF hA]) | (refine Ok.condT ?_ ?_; focus (cbv; done)) | (refine Ok.condF ?_ ?_; focus (cbv; done)) | (refine Ok.drawnE (by as_aux_lemma => kernel_rfl) ?_) | (apply Ok.leave) | (apply Ok.leaveRet) | (rw [q1]) | (rw [q2]) | (rw [q3]) | (rw [q4]))
    refine Ok.op (sadd_op (by cbv) (by cbv) (by omega) cc hcc) ?_
    repeat (first | (apply Ok.run1 hmix hA false 2000; focus (cbv; done)) | (apply Ok.one hmix hA; focus (cbv; done)) | (rw [Ar.notT hA]) | (rw [Ar.notF hA]) | (refine Ok.condT ?_ ?_; focus (cbv; done)) | (refine Ok.condF ?_ ?_; focus (cbv; done)) | (refine Ok.drawnE (by as_aux_lemma => kernel_rfl) ?_) | (apply Ok.leave) | (apply Ok.leaveRet) | (apply Ok.callO (cS); (focus (cbv; done)); (focus (cbv; done)); (focus (first | exact trivial | (simp only [obsOk, and_true, Ar.inc_eq hA, Ar.snoc_eq hA, List.length_append, List.length_singleton, List.length_nil] <;> first | assumption | omega | (constructor <;> omega)))); (focus (cbv; done))) | (apply Ok.dcallO (cS); (focus (cbv; done)); (focus (cbv; done)); (focus (first | exact trivial | (simp only [obsOk, and_true, Ar.inc_eq hA, Ar.snoc_eq hA, List.length_append, List.length_singleton, List.length_nil] <;> first | assumption | omega | (constructor <;> omega)))); (focus (cbv; done))))
    (first | (apply Ok.finO1; (focus (cbv; done)); (focus (cbv; done)); (focus (first | exact trivial | (simp only [obsOk, and_true, Ar.inc_eq hA, Ar.snoc_eq hA, List.length_append, List.length_singleton, List.length_nil] <;> first | assumption | omega | (constructor <;> omega))))) | (apply Ok.finO2; (focus (cbv; done)); (focus (cbv; done)); (focus (first | exact trivial | (simp only [obsOk, and_true, Ar.inc_eq hA, Ar.snoc_eq hA, List.length_append, List.length_singleton, List.length_nil] <;> first | assumption | omega | (constructor <;> omega))))) | (apply Ok.finO3; (focus (cbv; done)); (focus (cbv; done)); (focus (first | exact trivial | (simp only [obsOk, and_true, Ar.inc_eq hA, Ar.snoc_eq hA, List.length_append, List.length_singleton, List.length_nil] <;> first | assumption | omega | (constructor <;> omega))))))
    all_goals rfl
end Go.Proofs.Ytnojmocoifodjaa.Pv
set_option maxRecDepth 100000
set_option maxHeartbeats 4000000
set_option linter.unusedVariables false
set_option linter.unusedSimpArgs false
set_option linter.unusedSectionVars false
namespace Go.Proofs.Ytnojmocoifodjaa.Pv
open Go Go.Proofs
def comb (pre : List Vl) (q : List Vl × Int) : List Vl × Int := if q.2 ≠ 0 then ([], q.2) else (pre ++ q.1, 0)
theorem comb_step (pre : List Vl) (r : Vl × Int) (l : List (Vl × Int)) (h : r.2 = 0) : comb pre (seqR (r :: l)) = comb (pre ++ [r.1]) (seqR l) := by
  have e : seqR (r :: l) = if (seqR l).2 ≠ 0 then ([], (seqR l).2) else (r.1 :: (seqR l).1, 0) := by rw [seqR, if_neg (by simpa using h)]
  unfold comb
  rw [e]
  by_cases h2 : (seqR l).2 = 0 <;> simp [h2]
theorem comb_stop (pre : List Vl) (r : Vl × Int) (l : List (Vl × Int)) (h : r.2 ≠ 0) : comb pre (seqR (r :: l)) = ([], r.2) := by
  have e : seqR (r :: l) = ([], r.2) := by rw [seqR, if_pos h]
  unfold comb
  rw [e]; simp [h]
theorem comb_nil (q : List Vl × Int) (h : q.2 ≠ 0 → q.1 = []) : comb [] q = q := by
  unfold comb
  obtain ⟨a, b⟩ := q
  by_cases h2 : b = 0
  · simp [h2]
  · simp at h
    simp [h2, h]
theorem seqR_no : ∀ (l : List (Vl × Int)), (seqR l).2 ≠ 0 → (seqR l).1 = []
  | [], h => rfl
  | r :: l, h => by
    rw [seqR] at h ⊢
    split
    · rfl
    split
    · rfl
    · rename_i h1 h2; rw [if_neg h1, if_neg h2] at h; exact absurd rfl h
section
variable {E : Enc} (hE : E = .std)
include hE
theorem one_neg (a : Vl) : CallsV Try.prog 166 [E.vl a] (.pv (E.vl (mkX oNeg 0 [a]).1)) [] := by
  obtain ⟨A, hA⟩ : ∃ A : Ar, A = .std := ⟨_, rfl⟩
  show CallsV _ _ _ (.pv (E.vl (vInt (w64 (0 - a.i))))) _
  have q : A .sub .i64 0 a.i = w64 (0 - a.i) := Ar.sub_eq hA _ _ _
  generalize w64 (0 - a.i) = r at q ⊢
  have cI := val_Int hE r
  rw [← show vInt r = ⟨1, r, false, [], []⟩ from rfl] at cI
  rw [vl_int hE, pI] at cI ⊢
  obtain ⟨ak, ai, ab, as', at'⟩ := a
  refine CallsV.ok (fn := Try.f166) (by kernel_rfl) (by kernel_rfl) rfl (by cbv) (by cbv) ?_
  repeat (first | (apply Ok.run1 hmix hA false 2000; focus (cbv; done)) | (apply Ok.one hmix hA; focus (cbv; done)) | (rw [Ar.notT hA]) | (rw [Ar.notF hA]) | (refine Ok.condT ?_ ?_; focus (cbv; done)) | (refine Ok.condF ?_ ?_; focus (cbv; done)) | (refine Ok.drawnE (by as_aux_lemma => kernel_rfl) ?_) | (apply Ok.leave) | (apply Ok.leaveRet) | (apply Ok.callO (cI); (focus (cbv; done)); (focus (cbv; done)); (focus (first | exact trivial | (simp only [obsOk, and_true, Ar.inc_eq hA, Ar.snoc_eq hA, List.length_append, List.length_singleton, List.length_nil] <;> first | assumption | omega | (constructor <;> omega)))); (focus (cbv; done))) | (apply Ok.dcallO (cI); (focus (cbv; done)); (focus (cbv; done)); (focus (first | exact trivial | (simp only [obsOk, and_true, Ar.inc_eq hA, Ar.snoc_eq hA, List.length_append, List.length_singleton, List.length_nil] <;> first | assumption | omega | (constructor <;> omega)))); (focus (cbv; done))) | (rw [q]))
  (first | (apply Ok.finO1; (focus (cbv; done)); (focus (cbv; done)); (focus (first | exact trivial | (simp only [obsOk, and_true, Ar.inc_eq hA, Ar.snoc_eq hA, List.length_append, List.length_singleton, List.length_nil] <;> first | assumption | omega | (constructor <;> omega))))) | (apply Ok.finO2; (focus (cbv; done)); (focus (cbv; done)); (focus (first | exact trivial | (simp only [obsOk, and_true, Ar.inc_eq hA, Ar.snoc_eq hA, List.length_append, List.length_singleton, List.length_nil] <;> first | assumption | omega | (constructor <;> omega))))) | (apply Ok.finO3; (focus (cbv; done)); (focus (cbv; done)); (focus (first | exact trivial | (simp only [obsOk, and_true, Ar.inc_eq hA, Ar.snoc_eq hA, List.length_append, List.length_singleton, List.length_nil] <;> first | assumption | omega | (constructor <;> omega))))))
  all_goals rfl
theorem one_not (a : Vl) : CallsV Try.prog 167 [E.vl a] (.pv (E.vl (mkX oNot 0 [a]).1)) [] := by
  obtain ⟨A, hA⟩ : ∃ A : Ar, A = .std := ⟨_, rfl⟩
  show CallsV _ _ _ (.pv (E.vl (vBool (!a.b)))) _
  have q : A .not a.b = !a.b := Ar.not_eq hA _
  generalize (!a.b) = r at q ⊢
  have cI := val_Bool hE r
  rw [← show vBool r = ⟨2, 0, r, [], []⟩ from rfl] at cI
  rw [vl_bool hE, pB] at cI ⊢
  obtain ⟨ak, ai, ab, as', at'⟩ := a
  refine CallsV.ok (fn := Try.f167) (by kernel_rfl) (by kernel_rfl) rfl (by cbv) (by cbv) ?_
  repeat (first | (apply Ok.run1 hmix hA false 2000; focus (cbv; done)) | (apply Ok.one hmix hA; focus (cbv; done)) | (rw [Ar.notT hA]) | (rw [Ar.notF hA]) | (refine Ok.condT ?_ ?_; focus (cbv; done)) | (refine Ok.condF ?_ ?_; focus (cbv; done)) | (refine Ok.drawnE (by as_aux_lemma => kernel_rfl) ?_) | (apply Ok.leave) | (apply Ok.leaveRet) | (apply Ok.callO (cI); (focus (cbv; done)); (focus (cbv; done)); (focus (first | exact trivial | (simp only [obsOk, and_true, Ar.inc_eq hA, Ar.snoc_eq hA, List.length_append, List.length_singleton, List.length_nil] <;> first | assumption | omega | (constructor <;> omega)))); (focus (cbv; done))) | (apply Ok.dcallO (cI); (focus (cbv; done)); (focus (cbv; done)); (focus (first | exact trivial | (simp only [obsOk, and_true, Ar.inc_eq hA, Ar.snoc_eq hA, List.length_append, List.length_singleton, List.length_nil] <;> first | assumption | omega | (constructor <;> omega)))); (focus (cbv; done))) | (rw [q]))
  (first | (apply Ok.finO1; (focus (cbv; done)); (focus (cbv; done)); (focus (first | exact trivial | (simp only [obsOk, and_true, Ar.inc_eq hA, Ar.snoc_eq hA, List.length_append, List.length_singleton, List.length_nil] <;> first | assumption | omega | (constructor <;> omega))))) | (apply Ok.finO2; (focus (cbv; done)); (focus (cbv; done)); (focus (first | exact trivial | (simp only [obsOk, and_true, Ar.inc_eq hA, Ar.snoc_eq hA, List.length_append, List.length_singleton, List.length_nil] <;> first | assumption | omega | (constructor <;> omega))))) | (apply Ok.finO3; (focus (cbv; done)); (focus (cbv; done)); (focus (first | exact trivial | (simp only [obsOk, and_true, Ar.inc_eq hA, Ar.snoc_eq hA, List.length_append, List.length_singleton, List.length_nil] <;> first | assumption | omega | (constructor <;> omega))))))
  all_goals rfl
theorem one_len (a : Vl) (h : a.s.length < 2 ^ 62) : CallsV Try.prog 168 [E.vl a] (.pv (E.vl (mkX oLen 0 [a]).1)) [] := by
  obtain ⟨A, hA⟩ : ∃ A : Ar, A = .std := ⟨_, rfl⟩
  show CallsV _ _ _ (.pv (E.vl (vInt (a.s.length : Int)))) _
  obtain ⟨n, hn⟩ : ∃ n, n = a.s.length := ⟨_, rfl⟩
  have q : A .lenS a.s = Int.ofNat n := by rw [lenS_nat hA, hn]
  rw [← hn]
  have cI := val_Int hE (Int.ofNat n)
  rw [← show vInt (Int.ofNat n) = ⟨1, Int.ofNat n, false, [], []⟩ from rfl] at cI
  show CallsV _ _ _ (.pv (E.vl (vInt (Int.ofNat n)))) _
  rw [vl_int hE, pI] at cI ⊢
  obtain ⟨ak, ai, ab, as', at'⟩ := a
  refine CallsV.ok (fn := Try.f168) (by kernel_rfl) (by kernel_rfl) rfl (by cbv) (by cbv) ?_
  repeat (first | (apply Ok.run1 hmix hA false 2000; focus (cbv; done)) | (apply Ok.one hmix hA; focus (cbv; done)) | (rw [Ar.notT hA]) | (rw [Ar.notF hA]) | (refine Ok.condT ?_ ?_; focus (cbv; done)) | (refine Ok.condF ?_ ?_; focus (cbv; done)) | (refine Ok.drawnE (by as_aux_lemma => kernel_rfl) ?_) | (apply Ok.leave) | (apply Ok.leaveRet) | (apply Ok.callO (cI); (focus (cbv; done)); (focus (cbv; done)); (focus (first | exact trivial | (simp only [obsOk, and_true, Ar.inc_eq hA, Ar.snoc_eq hA, List.length_append, List.length_singleton, List.length_nil] <;> first | assumption | omega | (constructor <;> omega)))); (focus (cbv; done))) | (apply Ok.dcallO (cI); (focus (cbv; done)); (focus (cbv; done)); (focus (first | exact trivial | (simp only [obsOk, and_true, Ar.inc_eq hA, Ar.snoc_eq hA, List.length_append, List.length_singleton, List.length_nil] <;> first | assumption | omega | (constructor <;> omega)))); (focus (cbv; done))) | (rw [q]))
  (first | (apply Ok.finO1; (focus (cbv; done)); (focus (cbv; done)); (focus (first | exact trivial | (simp only [obsOk, and_true, Ar.inc_eq hA, Ar.snoc_eq hA, List.length_append, List.length_singleton, List.length_nil] <;> first | assumption | omega | (constructor <;> omega))))) | (apply Ok.finO2; (focus (cbv; done)); (focus (cbv; done)); (focus (first | exact trivial | (simp only [obsOk, and_true, Ar.inc_eq hA, Ar.snoc_eq hA, List.length_append, List.length_singleton, List.length_nil] <;> first | assumption | omega | (constructor <;> omega))))) | (apply Ok.finO3; (focus (cbv; done)); (focus (cbv; done)); (focus (first | exact trivial | (simp only [obsOk, and_true, Ar.inc_eq hA, Ar.snoc_eq hA, List.length_append, List.length_singleton, List.length_nil] <;> first | assumption | omega | (constructor <;> omega))))))
  all_goals rfl
theorem one_of (w : List UInt8) (g : Nat) (hf : CallsV Try.prog 154 [.view onT, .str w] (.tup [.pv (.func g []), .pv (.bool true)]) []) (a : Vl) (v : Vl) (hc : CallsV Try.prog g [E.vl a] (.pv (E.vl v)) []) :
    CallsV Try.prog 130 [.str w, E.vl a] (.tup [.pv (E.vl v), .pv (.bool true)]) [] := by
  obtain ⟨A, hA⟩ : ∃ A : Ar, A = .std := ⟨_, rfl⟩
  have c0 := eval_ones
  generalize onT = ts at *
  obtain ⟨ak, ai, ab, as', at'⟩ := a
  obtain ⟨bk, bi, bb, bs', bt'⟩ := v
  refine CallsV.ok (fn := Try.f130) (by kernel_rfl) (by kernel_rfl) rfl (by cbv) (by cbv) ?_
  repeat (first | (apply Ok.run1 hmix hA false 2000; focus (cbv; done)) | (apply Ok.one hmix hA; focus (cbv; done)) | (rw [Ar.notT hA]) | (rw [Ar.notF hA]) | (refine Ok.condT ?_ ?_; focus (cbv; done)) | (refine Ok.condF ?_ ?_; focus (cbv; done)) | (refine Ok.drawnE (by as_aux_lemma => kernel_rfl) ?_) | (apply Ok.leave) | (apply Ok.leaveRet) | (apply Ok.callO (c0); (focus (cbv; done)); (focus (cbv; done)); (focus (first | exact trivial | (simp only [obsOk, and_true, Ar.inc_eq hA, Ar.snoc_eq hA, List.length_append, List.length_singleton, List.length_nil] <;> first | assumption | omega | (constructor <;> omega)))); (focus (cbv; done))) | (apply Ok.dcallO (c0); (focus (cbv; done)); (focus (cbv; done)); (focus (first | exact trivial | (simp only [obsOk, and_true, Ar.inc_eq hA, Ar.snoc_eq hA, List.length_append, List.length_singleton, List.length_nil] <;> first | assumption | omega | (constructor <;> omega)))); (focus (cbv; done))) | (apply Ok.callO (hf); (focus (cbv; done)); (focus (cbv; done)); (focus (first | exact trivial | (simp only [obsOk, and_true, Ar.inc_eq hA, Ar.snoc_eq hA, List.length_append, List.length_singleton, List.length_nil] <;> first | assumption | omega | (constructor <;> omega)))); (focus (cbv; done))) | (apply Ok.dcallO (hf); (focus (cbv; done)); (focus (cbv; done)); (focus (first | exact trivial | (simp only [obsOk, and_true, Ar.inc_eq hA, Ar.snoc_eq hA, List.length_append, List.length_singleton, List.length_nil] <;> first | assumption | omega | (constructor <;> omega)))); (focus (cbv; done))) | (apply Ok.callO (hc); (focus (cbv; done)); (focus (cbv; done)); (focus (first | exact trivial | (simp only [obsOk, and_true, Ar.inc_eq hA, Ar.snoc_eq hA, List.length_append, List.length_singleton, List.length_nil] <;> first | assumption | omega | (constructor <;> omega)))); (focus (cbv; done))) | (apply Ok.dcallO (hc); (focus (cbv; done)); (focus (cbv; done)); (focus (first | exact trivial | (simp only [obsOk, and_true, Ar.inc_eq hA, Ar.snoc_eq hA, List.length_append, List.length_singleton, List.length_nil] <;> first | assumption | omega | (constructor <;> omega)))); (focus (cbv; done))))
  (first | (apply Ok.finO1; (focus (cbv; done)); (focus (cbv; done)); (focus (first | exact trivial | (simp only [obsOk, and_true, Ar.inc_eq hA, Ar.snoc_eq hA, List.length_append, List.length_singleton, List.length_nil] <;> first | assumption | omega | (constructor <;> omega))))) | (apply Ok.finO2; (focus (cbv; done)); (focus (cbv; done)); (focus (first | exact trivial | (simp only [obsOk, and_true, Ar.inc_eq hA, Ar.snoc_eq hA, List.length_append, List.length_singleton, List.length_nil] <;> first | assumption | omega | (constructor <;> omega))))) | (apply Ok.finO3; (focus (cbv; done)); (focus (cbv; done)); (focus (first | exact trivial | (simp only [obsOk, and_true, Ar.inc_eq hA, Ar.snoc_eq hA, List.length_append, List.length_singleton, List.length_nil] <;> first | assumption | omega | (constructor <;> omega))))))
  all_goals rfl
theorem both_of (w : List UInt8) (g : Nat) (caps : List PV) (hf : CallsV Try.prog 156 [.view twT, .str w] (.tup [.pv (.func g caps), .pv (.bool true)]) []) (a b : Vl) (r : Vl × Int) (hc : CallsV Try.prog g (E.vl a :: E.vl b :: caps) (.tup [.pv (E.vl r.1), .pv (.int .i64 r.2)]) []) :
    CallsV Try.prog 131 [.str w, E.vl a, E.vl b] (.tup [.pv (E.vl r.1), .pv (.int .i64 r.2), .pv (.bool true)]) [] := by
  obtain ⟨A, hA⟩ : ∃ A : Ar, A = .std := ⟨_, rfl⟩
  have c0 := eval_twos
  generalize twT = ts at *
  obtain ⟨ak, ai, ab, as', at'⟩ := a
  obtain ⟨k2, i2, b2, s2, t2⟩ := b
  obtain ⟨⟨bk, bi, bb, bs', bt'⟩, z⟩ := r
  refine CallsV.ok (fn := Try.f131) (by kernel_rfl) (by kernel_rfl) rfl (by cbv) (by cbv) ?_
  repeat (first | (apply Ok.run1 hmix hA false 2000; focus (cbv; done)) | (apply Ok.one hmix hA; focus (cbv; done)) | (rw [Ar.notT hA]) | (rw [Ar.notF hA]) | (refine Ok.condT ?_ ?_; focus (cbv; done)) | (refine Ok.condF ?_ ?_; focus (cbv; done)) | (refine Ok.drawnE (by as_aux_lemma => kernel_rfl) ?_) | (apply Ok.leave) | (apply Ok.leaveRet) | (apply Ok.callO (c0); (focus (cbv; done)); (focus (cbv; done)); (focus (first | exact trivial | (simp only [obsOk, and_true, Ar.inc_eq hA, Ar.snoc_eq hA, List.length_append, List.length_singleton, List.length_nil] <;> first | assumption | omega | (constructor <;> omega)))); (focus (cbv; done))) | (apply Ok.dcallO (c0); (focus (cbv; done)); (focus (cbv; done)); (focus (first | exact trivial | (simp only [obsOk, and_true, Ar.inc_eq hA, Ar.snoc_eq hA, List.length_append, List.length_singleton, List.length_nil] <;> first | assumption | omega | (constructor <;> omega)))); (focus (cbv; done))) | (apply Ok.callO (hf); (focus (cbv; done)); (focus (cbv; done)); (focus (first | exact trivial | (simp only [obsOk, and_true, Ar.inc_eq hA, Ar.snoc_eq hA, List.length_append, List.length_singleton, List.length_nil] <;> first | assumption | omega | (constructor <;> omega)))); (focus (cbv; done))) | (apply Ok.dcallO (hf); (focus (cbv; done)); (focus (cbv; done)); (focus (first | exact trivial | (simp only [obsOk, and_true, Ar.inc_eq hA, Ar.snoc_eq hA, List.length_append, List.length_singleton, List.length_nil] <;> first | assumption | omega | (constructor <;> omega)))); (focus (cbv; done))) | (apply Ok.callO (hc); (focus (cbv; done)); (focus (cbv; done)); (focus (first | exact trivial | (simp only [obsOk, and_true, Ar.inc_eq hA, Ar.snoc_eq hA, List.length_append, List.length_singleton, List.length_nil] <;> first | assumption | omega | (constructor <;> omega)))); (focus (cbv; done))) | (apply Ok.dcallO (hc); (focus (cbv; done)); (focus (cbv; done)); (focus (first | exact trivial | (simp only [obsOk, and_true, Ar.inc_eq hA, Ar.snoc_eq hA, List.length_append, List.length_singleton, List.length_nil] <;> first | assumption | omega | (constructor <;> omega)))); (focus (cbv; done))))
  (first | (apply Ok.finO1; (focus (cbv; done)); (focus (cbv; done)); (focus (first | exact trivial | (simp only [obsOk, and_true, Ar.inc_eq hA, Ar.snoc_eq hA, List.length_append, List.length_singleton, List.length_nil] <;> first | assumption | omega | (constructor <;> omega))))) | (apply Ok.finO2; (focus (cbv; done)); (focus (cbv; done)); (focus (first | exact trivial | (simp only [obsOk, and_true, Ar.inc_eq hA, Ar.snoc_eq hA, List.length_append, List.length_singleton, List.length_nil] <;> first | assumption | omega | (constructor <;> omega))))) | (apply Ok.finO3; (focus (cbv; done)); (focus (cbv; done)); (focus (first | exact trivial | (simp only [obsOk, and_true, Ar.inc_eq hA, Ar.snoc_eq hA, List.length_append, List.length_singleton, List.length_nil] <;> first | assumption | omega | (constructor <;> omega))))))
  all_goals rfl
/-- What an Op of two makes. -/
theorem eval_Both (w : List UInt8) (hw : w = oAdd ∨ w = oSub ∨ w = oMul ∨ w = oDiv ∨ w = oRem ∨ w = oEq ∨ w = oLt ∨ w = oCat) (a b : Vl) (h1 : szV a ≤ 2 ^ 28) (h2 : szV b ≤ 2 ^ 28) (h3 : strB a) (h4 : strB b) :
    CallsV Try.prog 131 [.str w, E.vl a, E.vl b] (.tup [.pv (E.vl (mkX w 0 [a, b]).1), .pv (.int .i64 (mkX w 0 [a, b]).2), .pv (.bool true)]) [] := by
  have s1 := strB_s h3
  have s2 := strB_s h4
  rcases hw with rfl | rfl | rfl | rfl | rfl | rfl | rfl | rfl
  · exact both_of hE _ _ _ find_add a b _ (num_1 hE _ a b _ (tw_add _ _))
  · exact both_of hE _ _ _ find_sub a b _ (num_1 hE _ a b _ (tw_sub _ _))
  · exact both_of hE _ _ _ find_mul a b _ (num_1 hE _ a b _ (tw_mul _ _))
  · refine both_of hE _ _ _ find_div a b _ ?_
    have : mkX oDiv 0 [a, b] = if b.i = 0 then (.zero, 8) else (vInt (w64 (a.i.tdiv b.i)), 0) := rfl
    rw [this]
    by_cases h0 : b.i = 0
    · rw [if_pos h0]; exact div_0 hE _ a b h0
    · rw [if_neg h0]; exact div_1 hE _ a b _ h0 (tw_div _ _ h0)
  · refine both_of hE _ _ _ find_rem a b _ ?_
    have : mkX oRem 0 [a, b] = if b.i = 0 then (.zero, 8) else (vInt (a.i.tmod b.i), 0) := rfl
    rw [this]
    by_cases h0 : b.i = 0
    · rw [if_pos h0]; exact div_0 hE _ a b h0
    · rw [if_neg h0]; exact div_1 hE _ a b _ h0 (tw_rem _ _ h0)
  · exact both_of hE _ _ _ find_eq a b (vBool (decide (cmpV a b = 0)), 0) (tw_eq hE a b h1 h2)
  · exact both_of hE _ _ _ find_lt a b (vBool (decide (cmpV a b < 0)), 0) (tw_lt hE a b h1 h2)
  · exact both_of hE _ _ _ find_cat a b _ (eval_cat hE a b (by omega) (by omega))
theorem eval_One (w : List UInt8) (hw : w = oNeg ∨ w = oNot ∨ w = oLen) (a : Vl) (h3 : strB a) :
    CallsV Try.prog 130 [.str w, E.vl a] (.tup [.pv (E.vl (mkX w 0 [a]).1), .pv (.bool true)]) [] := by
  have s1 := strB_s h3
  rcases hw with rfl | rfl | rfl
  · exact one_of hE _ _ find_neg a _ (one_neg hE a)
  · exact one_of hE _ _ find_not a _ (one_not hE a)
  · exact one_of hE _ _ find_len a _ (one_len hE a (by omega))
theorem eval_all (l : List Ex4) (x : Vl) (hf : ∀ e, e ∈ l → CallsV Try.prog 86 [E.ex e, E.vl x] (.tup [.pv (E.vl (evX e x).1), .pv (.int .i64 (evX e x).2)]) []) (hl : l.length < 2 ^ 29) :
    CallsV Try.prog 128 [.view (E .exs l), E.vl x] (.tup [.pv (.view (E .vls (seqR (evAll l x)).1)), .pv (.int .i64 (seqR (evAll l x)).2)]) [] := by
  obtain ⟨A, hA⟩ : ∃ A : Ar, A = .std := ⟨_, rfl⟩
  obtain ⟨ln, hln⟩ : ∃ n, n = l.length := ⟨_, rfl⟩
  have hll : A .lenP (E .exs l) = Int.ofNat ln := by rw [Ar.lenP_eq hA, exs_len hE, hln]; rfl
  obtain ⟨R, hR⟩ : ∃ R, R = seqR (evAll l x) := ⟨_, rfl⟩
  have hR0 : comb [] (seqR (evAll (l.drop 0) x)) = R := by rw [List.drop_zero, comb_nil _ (seqR_no _), hR]
  rw [← hR]
  have hv0 := vls0 hE
  obtain ⟨xk, xi, xb, xs, xt⟩ := x
  refine CallsV.ok (fn := Try.f128) (by kernel_rfl) (by kernel_rfl) rfl (by cbv) (by cbv) ?_
  repeat (first | (apply Ok.run1 hmix hA false 2000; focus (cbv; done)) | (apply Ok.one hmix hA; focus (cbv; done)) | (rw [Ar.notT hA]) | (rw [Ar.notF hA]) | (refine Ok.condT ?_ ?_; focus (cbv; done)) | (refine Ok.condF ?_ ?_; focus (cbv; done)) | (refine Ok.drawnE (by as_aux_lemma => kernel_rfl) ?_) | (apply Ok.leave) | (apply Ok.leaveRet))
  refine Ok.le (Le.nil 6 500 28 5 (by cbv) (by cbv) (by decide)) ?_
  refine Ok.loopL (σ := Nat × Nat × List PV × List Vl) (fun (xx : Nat × Nat × List PV × List Vl) => match xx with | (k, n, es, pre) => [(6, .ref 500 n), (13, .pv (.int .i64 (Int.ofNat k)))]) (fun (xx : Nat × Nat × List PV × List Vl) => match xx with | (k, n, es, pre) => [(500, .row 28 5 es true)]) (fun (xx : Nat × Nat × List PV × List Vl) => match xx with | (k, n, es, pre) => ln - k) (fun (xx : Nat × Nat × List PV × List Vl) => match xx with | (k, n, es, pre) => k ≤ ln ∧ n = pre.length ∧ n = k ∧ es = E .vls pre ∧ comb pre (seqR (evAll (l.drop k) ⟨xk, xi, xb, xs, xt⟩)) = R) (0, 0, [], []) (by cbv) (by cbv) (by cbv) (by cbv) (by cbv) (by cbv) (by cbv) ?_ ?_
  · exact ⟨Nat.zero_le _, rfl, rfl, hv0.symm, hR0⟩
  rintro ⟨k, n, es, pre⟩ ⟨hk, hn, hnk, hes, hRk⟩
  dsimp only at hk hn hnk hes hRk ⊢
  have hesl : n = es.length := by rw [hes, vls_len hE, hn]
  have e6 : A .lt (Int.ofNat k) (Int.ofNat ln) = decide (k < ln) := ofNat_lt hA k ln
  by_cases hkl : k < ln
  · rw [decide_eq_true hkl] at e6
    obtain ⟨e, hx, hxm, _, hdl⟩ := atk l k (by omega)
    have hx' : (E .exs l)[k]? = some (E.ex e) := by rw [E.exs_eq hE]; exact at_map _ hx
    have cx := hf e hxm
    rw [hdl, evAll] at hRk
    generalize hr : evX e ⟨xk, xi, xb, xs, xt⟩ = r at cx hRk
    obtain ⟨v, z⟩ := r
    have hsk := Ar.succ_eq (k := k) hA (by omega)
    by_cases hz : z = 0
    · subst hz
      have q0 : A .eq 0 0 = true := by rw [Ar.eq_eq hA]; rfl
      rw [comb_step _ _ _ rfl] at hRk
      have hnb : n < 2 ^ 30 := by omega
      repeat (first | (apply Ok.run1 hmix hA false 2000; focus (cbv; done)) | (apply Ok.one hmix hA; focus (cbv; done)) | (rw [Ar.notT hA]) | (rw [Ar.notF hA]) | (refine Ok.condT ?_ ?_; focus (cbv; done)) | (refine Ok.condF ?_ ?_; focus (cbv; done)) | (refine Ok.drawnE (by as_aux_lemma => kernel_rfl) ?_) | (apply Ok.leave) | (apply Ok.leaveRet) | (apply Ok.callO (cx); (focus (cbv; done)); (focus (cbv; done)); (focus (first | exact trivial | (simp only [obsOk, and_true, Ar.inc_eq hA, Ar.snoc_eq hA, List.length_append, List.length_singleton, List.length_nil] <;> first | assumption | omega | (constructor <;> omega)))); (focus (cbv; done))) | (apply Ok.dcallO (cx); (focus (cbv; done)); (focus (cbv; done)); (focus (first | exact trivial | (simp only [obsOk, and_true, Ar.inc_eq hA, Ar.snoc_eq hA, List.length_append, List.length_singleton, List.length_nil] <;> first | assumption | omega | (constructor <;> omega)))); (focus (cbv; done))) | (apply Ok.idxK (hx'); (focus (cbv; done)); (focus (cbv; done)); (focus (cbv; done)); (focus (cbv; done))) | (apply Ok.didxK (hx'); (focus (cbv; done)); (focus (cbv; done)); (focus (cbv; done)); (focus (cbv; done))) | (apply Ok.sidxK (hx'); (focus (cbv; done)); (focus (cbv; done)); (focus (cbv; done))) | (apply Ok.dsidxK (hx'); (focus (cbv; done)); (focus (cbv; done)); (focus (cbv; done))) | (apply Ok.appK hA hesl hnb; (focus (cbv; done)); (focus (cbv; done)); (focus (cbv; done)); (focus (cbv; done)); (focus (cbv; done)); (focus (cbv; done)); (focus (cbv; done))) | (apply Ok.dappK hA hesl hnb; (focus (cbv; done)); (focus (cbv; done)); (focus (cbv; done)); (focus (cbv; done)); (focus (cbv; done)); (focus (cbv; done)); (focus (cbv; done))) | (rw [hll]) | (rw [e6]) | (rw [q0]) | (rw [hsk]))
      refine Ok.again ((k + 1, A .inc n, A .snoc es (E.vl v), pre ++ [v])) (by (try dsimp only); omega) ?_ (by cbv) (by cbv) (by cbv)
      exact ⟨by omega, by rw [Ar.inc_eq hA, hn]; simp, by rw [Ar.inc_eq hA, hnk], by rw [Ar.snoc_eq hA, hes, E.vls_eq hE, E.vls_eq hE]; simp, hRk⟩
    · have q0 : A .eq z 0 = false := by rw [Ar.eq_eq hA]; simpa using hz
      rw [comb_stop _ _ _ hz] at hRk
      rw [← hRk, hv0]
      dsimp only
      repeat (first | (apply Ok.run1 hmix hA false 2000; focus (cbv; done)) | (apply Ok.one hmix hA; focus (cbv; done)) | (rw [Ar.notT hA]) | (rw [Ar.notF hA]) | (refine Ok.condT ?_ ?_; focus (cbv; done)) | (refine Ok.condF ?_ ?_; focus (cbv; done)) | (refine Ok.drawnE (by as_aux_lemma => kernel_rfl) ?_) | (apply Ok.leave) | (apply Ok.leaveRet) | (apply Ok.callO (cx); (focus (cbv; done)); (focus (cbv; done)); (focus (first | exact trivial | (simp only [obsOk, and_true, Ar.inc_eq hA, Ar.snoc_eq hA, List.length_append, List.length_singleton, List.length_nil] <;> first | assumption | omega | (constructor <;> omega)))); (focus (cbv; done))) | (apply Ok.dcallO (cx); (focus (cbv; done)); (focus (cbv; done)); (focus (first | exact trivial | (simp only [obsOk, and_true, Ar.inc_eq hA, Ar.snoc_eq hA, List.length_append, List.length_singleton, List.length_nil] <;> first | assumption | omega | (constructor <;> omega)))); (focus (cbv; done))) | (apply Ok.idxK (hx'); (focus (cbv; done)); (focus (cbv; done)); (focus (cbv; done)); (focus (cbv; done))) | (apply Ok.didxK (hx'); (focus (cbv; done)); (focus (cbv; done)); (focus (cbv; done)); (focus (cbv; done))) | (apply Ok.sidxK (hx'); (focus (cbv; done)); (focus (cbv; done)); (focus (cbv; done))) | (apply Ok.dsidxK (hx'); (focus (cbv; done)); (focus (cbv; done)); (focus (cbv; done))) | (rw [hll]) | (rw [e6]) | (rw [q0]))
      (first | (apply Ok.finO1; (focus (cbv; done)); (focus (cbv; done)); (focus (first | exact trivial | (simp only [obsOk, and_true, Ar.inc_eq hA, Ar.snoc_eq hA, List.length_append, List.length_singleton, List.length_nil] <;> first | assumption | omega | (constructor <;> omega))))) | (apply Ok.finO2; (focus (cbv; done)); (focus (cbv; done)); (focus (first | exact trivial | (simp only [obsOk, and_true, Ar.inc_eq hA, Ar.snoc_eq hA, List.length_append, List.length_singleton, List.length_nil] <;> first | assumption | omega | (constructor <;> omega))))) | (apply Ok.finO3; (focus (cbv; done)); (focus (cbv; done)); (focus (first | exact trivial | (simp only [obsOk, and_true, Ar.inc_eq hA, Ar.snoc_eq hA, List.length_append, List.length_singleton, List.length_nil] <;> first | assumption | omega | (constructor <;> omega))))))
      all_goals rfl
  · rw [decide_eq_false hkl] at e6
    have hke : l.drop k = [] := List.drop_eq_nil_iff.2 (by omega)
    rw [hke] at hRk
    have hRk : (pre, 0) = R := by rw [← hRk]; simp [comb, evAll, seqR]
    rw [← hRk]
    dsimp only
    rw [← hes]
    repeat (first | (apply Ok.run1 hmix hA false 2000; focus (cbv; done)) | (apply Ok.one hmix hA; focus (cbv; done)) | (rw [Ar.notT hA]) | (rw [Ar.notF hA]) | (refine Ok.condT ?_ ?_; focus (cbv; done)) | (refine Ok.condF ?_ ?_; focus (cbv; done)) | (refine Ok.drawnE (by as_aux_lemma => kernel_rfl) ?_) | (apply Ok.leave) | (apply Ok.leaveRet) | (rw [hll]) | (rw [e6]))
    (first | (apply Ok.finO1; (focus (cbv; done)); (focus (cbv; done)); (focus (first | exact trivial | (simp only [obsOk, and_true, Ar.inc_eq hA, Ar.snoc_eq hA, List.length_append, List.length_singleton, List.length_nil] <;> first | assumption | omega | (constructor <;> omega))))) | (apply Ok.finO2; (focus (cbv; done)); (focus (cbv; done)); (focus (first | exact trivial | (simp only [obsOk, and_true, Ar.inc_eq hA, Ar.snoc_eq hA, List.length_append, List.length_singleton, List.length_nil] <;> first | assumption | omega | (constructor <;> omega))))) | (apply Ok.finO3; (focus (cbv; done)); (focus (cbv; done)); (focus (first | exact trivial | (simp only [obsOk, and_true, Ar.inc_eq hA, Ar.snoc_eq hA, List.length_append, List.length_singleton, List.length_nil] <;> first | assumption | omega | (constructor <;> omega))))))
    all_goals rfl
end
end Go.Proofs.Ytnojmocoifodjaa.Pv
set_option maxRecDepth 100000
set_option maxHeartbeats 4000000
set_option linter.unusedVariables false
set_option linter.unusedSimpArgs false
set_option linter.unusedSectionVars false
namespace Go.Proofs.Ytnojmocoifodjaa.Pv
open Go Go.Proofs
def pR (E : Enc) (r : Vl × Int) : AV := .tup [.pv (E.vl r.1), .pv (.int .i64 r.2)]
section
variable {E : Enc} (hE : E = .std)
include hE
theorem Eval_lit (v : Vl) (n : Int) (a : List Ex4) (x : Vl) : CallsV Try.prog 86 [E.ex ⟨oLit, v, n, a⟩, E.vl x] (pR E (v, 0)) [] := by
  obtain ⟨A, hA⟩ : ∃ A : Ar, A = .std := ⟨_, rfl⟩
  have q1 : A .seq oLit [108, 105, 116] = true := by rw [Ar.seq_eq hA]; decide
  obtain ⟨xk, xi, xb, xs, xt⟩ := x
  obtain ⟨vk, vi, vb, vs, vt⟩ := v
  generalize oLit = op at *
  unfold pR
  refine CallsV.ok (fn := Try.f86) (by kernel_rfl) (by kernel_rfl) rfl (by cbv) (by cbv) ?_
  repeat (first | (apply Ok.run1 hmix hA false 2000; focus (cbv; done)) | (apply Ok.one hmix hA; focus (cbv; done)) | (rw [Ar.notT hA]) | (rw [Ar.notF hA]) | (refine Ok.condT ?_ ?_; focus (cbv; done)) | (refine Ok.condF ?_ ?_; focus (cbv; done)) | (refine Ok.drawnE (by as_aux_lemma => kernel_rfl) ?_) | (apply Ok.leave) | (apply Ok.leaveRet) | (rw [q1]))
  (first | (apply Ok.finO1; (focus (cbv; done)); (focus (cbv; done)); (focus (first | exact trivial | (simp only [obsOk, and_true, Ar.inc_eq hA, Ar.snoc_eq hA, List.length_append, List.length_singleton, List.length_nil] <;> first | assumption | omega | (constructor <;> omega))))) | (apply Ok.finO2; (focus (cbv; done)); (focus (cbv; done)); (focus (first | exact trivial | (simp only [obsOk, and_true, Ar.inc_eq hA, Ar.snoc_eq hA, List.length_append, List.length_singleton, List.length_nil] <;> first | assumption | omega | (constructor <;> omega))))) | (apply Ok.finO3; (focus (cbv; done)); (focus (cbv; done)); (focus (first | exact trivial | (simp only [obsOk, and_true, Ar.inc_eq hA, Ar.snoc_eq hA, List.length_append, List.length_singleton, List.length_nil] <;> first | assumption | omega | (constructor <;> omega))))))
  all_goals rfl
theorem Eval_x (v : Vl) (n : Int) (a : List Ex4) (x : Vl) : CallsV Try.prog 86 [E.ex ⟨oX, v, n, a⟩, E.vl x] (pR E (x, 0)) [] := by
  obtain ⟨A, hA⟩ : ∃ A : Ar, A = .std := ⟨_, rfl⟩
  have q1 : A .seq oX [108, 105, 116] = false := by rw [Ar.seq_eq hA]; decide
  have q2 : A .seq oX [120] = true := by rw [Ar.seq_eq hA]; decide
  obtain ⟨xk, xi, xb, xs, xt⟩ := x
  obtain ⟨vk, vi, vb, vs, vt⟩ := v
  generalize oX = op at *
  unfold pR
  refine CallsV.ok (fn := Try.f86) (by kernel_rfl) (by kernel_rfl) rfl (by cbv) (by cbv) ?_
  repeat (first | (apply Ok.run1 hmix hA false 2000; focus (cbv; done)) | (apply Ok.one hmix hA; focus (cbv; done)) | (rw [Ar.notT hA]) | (rw [Ar.notF hA]) | (refine Ok.condT ?_ ?_; focus (cbv; done)) | (refine Ok.condF ?_ ?_; focus (cbv; done)) | (refine Ok.drawnE (by as_aux_lemma => kernel_rfl) ?_) | (apply Ok.leave) | (apply Ok.leaveRet) | (rw [q1]) | (rw [q2]))
  (first | (apply Ok.finO1; (focus (cbv; done)); (focus (cbv; done)); (focus (first | exact trivial | (simp only [obsOk, and_true, Ar.inc_eq hA, Ar.snoc_eq hA, List.length_append, List.length_singleton, List.length_nil] <;> first | assumption | omega | (constructor <;> omega))))) | (apply Ok.finO2; (focus (cbv; done)); (focus (cbv; done)); (focus (first | exact trivial | (simp only [obsOk, and_true, Ar.inc_eq hA, Ar.snoc_eq hA, List.length_append, List.length_singleton, List.length_nil] <;> first | assumption | omega | (constructor <;> omega))))) | (apply Ok.finO3; (focus (cbv; done)); (focus (cbv; done)); (focus (first | exact trivial | (simp only [obsOk, and_true, Ar.inc_eq hA, Ar.snoc_eq hA, List.length_append, List.length_singleton, List.length_nil] <;> first | assumption | omega | (constructor <;> omega))))))
  all_goals rfl
theorem Eval_ch (op : List UInt8) (v : Vl) (n : Int) (a : List Ex4) (x : Vl) (hop : op = oAnd ∨ op = oOr ∨ op = oIf) (a0 : Ex4) (hx0 : a[0]? = some a0) (r0 : Vl × Int) (c0 : CallsV Try.prog 86 [E.ex a0, E.vl x] (pR E r0) []) :
    (r0.2 ≠ 0 → CallsV Try.prog 86 [E.ex ⟨op, v, n, a⟩, E.vl x] (pR E r0) []) ∧
    (r0.2 = 0 → chz op r0.1.b = 0 → CallsV Try.prog 86 [E.ex ⟨op, v, n, a⟩, E.vl x] (pR E r0) []) ∧
    (∀ (j : Nat) (aj : Ex4) (rj : Vl × Int), r0.2 = 0 → chz op r0.1.b = Int.ofNat (j + 1) → a[j + 1]? = some aj → CallsV Try.prog 86 [E.ex aj, E.vl x] (pR E rj) [] → CallsV Try.prog 86 [E.ex ⟨op, v, n, a⟩, E.vl x] (pR E rj) []) := by
  obtain ⟨A, hA⟩ : ∃ A : Ar, A = .std := ⟨_, rfl⟩
  have q1 : A .seq op [108, 105, 116] = false := by rcases hop with rfl | rfl | rfl <;> (rw [Ar.seq_eq hA]; decide)
  have q2 : A .seq op [120] = false := by rcases hop with rfl | rfl | rfl <;> (rw [Ar.seq_eq hA]; decide)
  obtain ⟨c3, hc3⟩ : ∃ c, c = A .seq op [97, 110, 100] := ⟨_, rfl⟩
  obtain ⟨c4, hc4⟩ : ∃ c, c = A .seq op [111, 114] := ⟨_, rfl⟩
  obtain ⟨c5, hc5⟩ : ∃ c, c = A .seq op [105, 102] := ⟨_, rfl⟩
  have hor : c3 = true ∨ c4 = true ∨ c5 = true := by rw [hc3, hc4, hc5, Ar.seq_eq hA, Ar.seq_eq hA, Ar.seq_eq hA]; simpa [oAnd, oOr, oIf] using hop
  have cc := eval_choose hE ⟨op, v, n, a⟩ r0.1
  have hx0' : (E .exs a)[0]? = some (E.ex a0) := by rw [E.exs_eq hE]; exact at_map _ hx0
  have hxs : ∀ (j : Nat) (aj : Ex4), a[j]? = some aj → (E .exs a)[j]? = some (E.ex aj) := fun j aj h => by rw [E.exs_eq hE]; exact at_map _ h
  dsimp only at cc
  generalize chz op r0.1.b = k at cc ⊢
  obtain ⟨⟨bk, bi, bb, bs', bt'⟩, z⟩ := r0
  obtain ⟨vk, vi, vb, vs, vt⟩ := v
  unfold pR at *
  dsimp only at cc c0 ⊢
  have key : ∀ c3 c4 c5, A .seq op [97, 110, 100] = c3 → A .seq op [111, 114] = c4 → A .seq op [105, 102] = c5 → (c3 = true ∨ c4 = true ∨ c5 = true) →
    (z ≠ 0 → CallsV Try.prog 86 [E.ex ⟨op, ⟨vk, vi, vb, vs, vt⟩, n, a⟩, E.vl x] (.tup [.pv (E.vl ⟨bk, bi, bb, bs', bt'⟩), .pv (.int .i64 z)]) []) ∧
    (z = 0 → k = 0 → CallsV Try.prog 86 [E.ex ⟨op, ⟨vk, vi, vb, vs, vt⟩, n, a⟩, E.vl x] (.tup [.pv (E.vl ⟨bk, bi, bb, bs', bt'⟩), .pv (.int .i64 z)]) []) ∧
    (∀ (j : Nat) (aj : Ex4) (rj : Vl × Int), z = 0 → k = Int.ofNat (j + 1) → a[j + 1]? = some aj → CallsV Try.prog 86 [E.ex aj, E.vl x] (.tup [.pv (E.vl rj.1), .pv (.int .i64 rj.2)]) [] → CallsV Try.prog 86 [E.ex ⟨op, ⟨vk, vi, vb, vs, vt⟩, n, a⟩, E.vl x] (.tup [.pv (E.vl rj.1), .pv (.int .i64 rj.2)]) []) := by
    intro c3 c4 c5 q3 q4 q5 hor
    obtain ⟨xk, xi, xb, xs, xt⟩ := x
    refine ⟨fun hz => ?_, fun hz hk => ?_, fun j aj rj hz hk hxj cj => ?_⟩
    · have q0 : A .eq z 0 = false := by rw [Ar.eq_eq hA]; simpa using hz
      cases c3
      · cases c4
        · cases c5
          · simp at hor
          · refine CallsV.ok (fn := Try.f86) (by kernel_rfl) (by kernel_rfl) rfl (by cbv) (by cbv) ?_
            repeat (first | (apply Ok.run1 hmix hA false 2000; focus (cbv; done)) | (apply Ok.one hmix hA; focus (cbv; done)) | (rw [Ar.notT hA]) | (rw [Ar.notF hA]) | (refine Ok.condT ?_ ?_; focus (cbv; done)) | (refine Ok.condF ?_ ?_; focus (cbv; done)) | (refine Ok.drawnE (by as_aux_lemma => kernel_rfl) ?_) | (apply Ok.leave) | (apply Ok.leaveRet) | (apply Ok.callO (c0); (focus (cbv; done)); (focus (cbv; done)); (focus (first | exact trivial | (simp only [obsOk, and_true, Ar.inc_eq hA, Ar.snoc_eq hA, List.length_append, List.length_singleton, List.length_nil] <;> first | assumption | omega | (constructor <;> omega)))); (focus (cbv; done))) | (apply Ok.dcallO (c0); (focus (cbv; done)); (focus (cbv; done)); (focus (first | exact trivial | (simp only [obsOk, and_true, Ar.inc_eq hA, Ar.snoc_eq hA, List.length_append, List.length_singleton, List.length_nil] <;> first | assumption | omega | (constructor <;> omega)))); (focus (cbv; done))) | (apply Ok.callO (cc); (focus (cbv; done)); (focus (cbv; done)); (focus (first | exact trivial | (simp only [obsOk, and_true, Ar.inc_eq hA, Ar.snoc_eq hA, List.length_append, List.length_singleton, List.length_nil] <;> first | assumption | omega | (constructor <;> omega)))); (focus (cbv; done))) | (apply Ok.dcallO (cc); (focus (cbv; done)); (focus (cbv; done)); (focus (first | exact trivial | (simp only [obsOk, and_true, Ar.inc_eq hA, Ar.snoc_eq hA, List.length_append, List.length_singleton, List.length_nil] <;> first | assumption | omega | (constructor <;> omega)))); (focus (cbv; done))) | (apply Ok.idxK (hx0'); (focus (cbv; done)); (focus (cbv; done)); (focus (cbv; done)); (focus (cbv; done))) | (apply Ok.didxK (hx0'); (focus (cbv; done)); (focus (cbv; done)); (focus (cbv; done)); (focus (cbv; done))) | (apply Ok.sidxK (hx0'); (focus (cbv; done)); (focus (cbv; done)); (focus (cbv; done))) | (apply Ok.dsidxK (hx0'); (focus (cbv; done)); (focus (cbv; done)); (focus (cbv; done))) | (rw [q1]) | (rw [q2]) | (rw [q3]) | (rw [q4]) | (rw [q5]) | (rw [q0]))
            (first | (apply Ok.finO1; (focus (cbv; done)); (focus (cbv; done)); (focus (first | exact trivial | (simp only [obsOk, and_true, Ar.inc_eq hA, Ar.snoc_eq hA, List.length_append, List.length_singleton, List.length_nil] <;> first | assumption | omega | (constructor <;> omega))))) | (apply Ok.finO2; (focus (cbv; done)); (focus (cbv; done)); (focus (first | exact trivial | (simp only [obsOk, and_true, Ar.inc_eq hA, Ar.snoc_eq hA, List.length_append, List.length_singleton, List.length_nil] <;> first | assumption | omega | (constructor <;> omega))))) | (apply Ok.finO3; (focus (cbv; done)); (focus (cbv; done)); (focus (first | exact trivial | (simp only [obsOk, and_true, Ar.inc_eq hA, Ar.snoc_eq hA, List.length_append, List.length_singleton, List.length_nil] <;> first | assumption | omega | (constructor <;> omega))))))
            all_goals rfl
        · refine CallsV.ok (fn := Try.f86) (by kernel_rfl) (by kernel_rfl) rfl (by cbv) (by cbv) ?_
          repeat (first | (apply Ok.run1 hmix hA false 2000; focus (cbv; done)) | (apply Ok.one hmix hA; focus (cbv; done)) | (rw [Ar.notT hA]) | (rw [Ar.notF hA]) | (refine Ok.condT ?_ ?_; focus (cbv; done)) | (refine Ok.condF ?_ ?_; focus (cbv; done)) | (refine Ok.drawnE (by as_aux_lemma => kernel_rfl) ?_) | (apply Ok.leave) | (apply Ok.leaveRet) | (apply Ok.callO (c0); (focus (cbv; done)); (focus (cbv; done)); (focus (first | exact trivial | (simp only [obsOk, and_true, Ar.inc_eq hA, Ar.snoc_eq hA, List.length_append, List.length_singleton, List.length_nil] <;> first | assumption | omega | (constructor <;> omega)))); (focus (cbv; done))) | (apply Ok.dcallO (c0); (focus (cbv; done)); (focus (cbv; done)); (focus (first | exact trivial | (simp only [obsOk, and_true, Ar.inc_eq hA, Ar.snoc_eq hA, List.length_append, List.length_singleton, List.length_nil] <;> first | assumption | omega | (constructor <;> omega)))); (focus (cbv; done))) | (apply Ok.callO (cc); (focus (cbv; done)); (focus (cbv; done)); (focus (first | exact trivial | (simp only [obsOk, and_true, Ar.inc_eq hA, Ar.snoc_eq hA, List.length_append, List.length_singleton, List.length_nil] <;> first | assumption | omega | (constructor <;> omega)))); (focus (cbv; done))) | (apply Ok.dcallO (cc); (focus (cbv; done)); (focus (cbv; done)); (focus (first | exact trivial | (simp only [obsOk, and_true, Ar.inc_eq hA, Ar.snoc_eq hA, List.length_append, List.length_singleton, List.length_nil] <;> first | assumption | omega | (constructor <;> omega)))); (focus (cbv; done))) | (apply Ok.idxK (hx0'); (focus (cbv; done)); (focus (cbv; done)); (focus (cbv; done)); (focus (cbv; done))) | (apply Ok.didxK (hx0'); (focus (cbv; done)); (focus (cbv; done)); (focus (cbv; done)); (focus (cbv; done))) | (apply Ok.sidxK (hx0'); (focus (cbv; done)); (focus (cbv; done)); (focus (cbv; done))) | (apply Ok.dsidxK (hx0'); (focus (cbv; done)); (focus (cbv; done)); (focus (cbv; done))) | (rw [q1]) | (rw [q2]) | (rw [q3]) | (rw [q4]) | (rw [q0]))
          (first | (apply Ok.finO1; (focus (cbv; done)); (focus (cbv; done)); (focus (first | exact trivial | (simp only [obsOk, and_true, Ar.inc_eq hA, Ar.snoc_eq hA, List.length_append, List.length_singleton, List.length_nil] <;> first | assumption | omega | (constructor <;> omega))))) | (apply Ok.finO2; (focus (cbv; done)); (focus (cbv; done)); (focus (first | exact trivial | (simp only [obsOk, and_true, Ar.inc_eq hA, Ar.snoc_eq hA, List.length_append, List.length_singleton, List.length_nil] <;> first | assumption | omega | (constructor <;> omega))))) | (apply Ok.finO3; (focus (cbv; done)); (focus (cbv; done)); (focus (first | exact trivial | (simp only [obsOk, and_true, Ar.inc_eq hA, Ar.snoc_eq hA, List.length_append, List.length_singleton, List.length_nil] <;> first | assumption | omega | (constructor <;> omega))))))
          all_goals rfl
      · refine CallsV.ok (fn := Try.f86) (by kernel_rfl) (by kernel_rfl) rfl (by cbv) (by cbv) ?_
        repeat (first | (apply Ok.run1 hmix hA false 2000; focus (cbv; done)) | (apply Ok.one hmix hA; focus (cbv; done)) | (rw [Ar.notT hA]) | (rw [Ar.notF hA]) | (refine Ok.condT ?_ ?_; focus (cbv; done)) | (refine Ok.condF ?_ ?_; focus (cbv; done)) | (refine Ok.drawnE (by as_aux_lemma => kernel_rfl) ?_) | (apply Ok.leave) | (apply Ok.leaveRet) | (apply Ok.callO (c0); (focus (cbv; done)); (focus (cbv; done)); (focus (first | exact trivial | (simp only [obsOk, and_true, Ar.inc_eq hA, Ar.snoc_eq hA, List.length_append, List.length_singleton, List.length_nil] <;> first | assumption | omega | (constructor <;> omega)))); (focus (cbv; done))) | (apply Ok.dcallO (c0); (focus (cbv; done)); (focus (cbv; done)); (focus (first | exact trivial | (simp only [obsOk, and_true, Ar.inc_eq hA, Ar.snoc_eq hA, List.length_append, List.length_singleton, List.length_nil] <;> first | assumption | omega | (constructor <;> omega)))); (focus (cbv; done))) | (apply Ok.callO (cc); (focus (cbv; done)); (focus (cbv; done)); (focus (first | exact trivial | (simp only [obsOk, and_true, Ar.inc_eq hA, Ar.snoc_eq hA, List.length_append, List.length_singleton, List.length_nil] <;> first | assumption | omega | (constructor <;> omega)))); (focus (cbv; done))) | (apply Ok.dcallO (cc); (focus (cbv; done)); (focus (cbv; done)); (focus (first | exact trivial | (simp only [obsOk, and_true, Ar.inc_eq hA, Ar.snoc_eq hA, List.length_append, List.length_singleton, List.length_nil] <;> first | assumption | omega | (constructor <;> omega)))); (focus (cbv; done))) | (apply Ok.idxK (hx0'); (focus (cbv; done)); (focus (cbv; done)); (focus (cbv; done)); (focus (cbv; done))) | (apply Ok.didxK (hx0'); (focus (cbv; done)); (focus (cbv; done)); (focus (cbv; done)); (focus (cbv; done))) | (apply Ok.sidxK (hx0'); (focus (cbv; done)); (focus (cbv; done)); (focus (cbv; done))) | (apply Ok.dsidxK (hx0'); (focus (cbv; done)); (focus (cbv; done)); (focus (cbv; done))) | (rw [q1]) | (rw [q2]) | (rw [q3]) | (rw [q0]))
        (first | (apply Ok.finO1; (focus (cbv; done)); (focus (cbv; done)); (focus (first | exact trivial | (simp only [obsOk, and_true, Ar.inc_eq hA, Ar.snoc_eq hA, List.length_append, List.length_singleton, List.length_nil] <;> first | assumption | omega | (constructor <;> omega))))) | (apply Ok.finO2; (focus (cbv; done)); (focus (cbv; done)); (focus (first | exact trivial | (simp only [obsOk, and_true, Ar.inc_eq hA, Ar.snoc_eq hA, List.length_append, List.length_singleton, List.length_nil] <;> first | assumption | omega | (constructor <;> omega))))) | (apply Ok.finO3; (focus (cbv; done)); (focus (cbv; done)); (focus (first | exact trivial | (simp only [obsOk, and_true, Ar.inc_eq hA, Ar.snoc_eq hA, List.length_append, List.length_singleton, List.length_nil] <;> first | assumption | omega | (constructor <;> omega))))))
        all_goals rfl
    · have q0 : A .eq z 0 = true := by rw [Ar.eq_eq hA]; simpa using hz
      have q6 : A .lt 0 k = false := by rw [Ar.lt_eq hA, hk]; decide
      cases c3
      · cases c4
        · cases c5
          · simp at hor
          · refine CallsV.ok (fn := Try.f86) (by kernel_rfl) (by kernel_rfl) rfl (by cbv) (by cbv) ?_
            repeat (first | (apply Ok.run1 hmix hA false 2000; focus (cbv; done)) | (apply Ok.one hmix hA; focus (cbv; done)) | (rw [Ar.notT hA]) | (rw [Ar.notF hA]) | (refine Ok.condT ?_ ?_; focus (cbv; done)) | (refine Ok.condF ?_ ?_; focus (cbv; done)) | (refine Ok.drawnE (by as_aux_lemma => kernel_rfl) ?_) | (apply Ok.leave) | (apply Ok.leaveRet) | (apply Ok.callO (c0); (focus (cbv; done)); (focus (cbv; done)); (focus (first | exact trivial | (simp only [obsOk, and_true, Ar.inc_eq hA, Ar.snoc_eq hA, List.length_append, List.length_singleton, List.length_nil] <;> first | assumption | omega | (constructor <;> omega)))); (focus (cbv; done))) | (apply Ok.dcallO (c0); (focus (cbv; done)); (focus (cbv; done)); (focus (first | exact trivial | (simp only [obsOk, and_true, Ar.inc_eq hA, Ar.snoc_eq hA, List.length_append, List.length_singleton, List.length_nil] <;> first | assumption | omega | (constructor <;> omega)))); (focus (cbv; done))) | (apply Ok.callO (cc); (focus (cbv; done)); (focus (cbv; done)); (focus (first | exact trivial | (simp only [obsOk, and_true, Ar.inc_eq hA, Ar.snoc_eq hA, List.length_append, List.length_singleton, List.length_nil] <;> first | assumption | omega | (constructor <;> omega)))); (focus (cbv; done))) | (apply Ok.dcallO (cc); (focus (cbv; done)); (focus (cbv; done)); (focus (first | exact trivial | (simp only [obsOk, and_true, Ar.inc_eq hA, Ar.snoc_eq hA, List.length_append, List.length_singleton, List.length_nil] <;> first | assumption | omega | (constructor <;> omega)))); (focus (cbv; done))) | (apply Ok.idxK (hx0'); (focus (cbv; done)); (focus (cbv; done)); (focus (cbv; done)); (focus (cbv; done))) | (apply Ok.didxK (hx0'); (focus (cbv; done)); (focus (cbv; done)); (focus (cbv; done)); (focus (cbv; done))) | (apply Ok.sidxK (hx0'); (focus (cbv; done)); (focus (cbv; done)); (focus (cbv; done))) | (apply Ok.dsidxK (hx0'); (focus (cbv; done)); (focus (cbv; done)); (focus (cbv; done))) | (rw [q1]) | (rw [q2]) | (rw [q3]) | (rw [q4]) | (rw [q5]) | (rw [q0]) | (rw [q6]))
            (first | (apply Ok.finO1; (focus (cbv; done)); (focus (cbv; done)); (focus (first | exact trivial | (simp only [obsOk, and_true, Ar.inc_eq hA, Ar.snoc_eq hA, List.length_append, List.length_singleton, List.length_nil] <;> first | assumption | omega | (constructor <;> omega))))) | (apply Ok.finO2; (focus (cbv; done)); (focus (cbv; done)); (focus (first | exact trivial | (simp only [obsOk, and_true, Ar.inc_eq hA, Ar.snoc_eq hA, List.length_append, List.length_singleton, List.length_nil] <;> first | assumption | omega | (constructor <;> omega))))) | (apply Ok.finO3; (focus (cbv; done)); (focus (cbv; done)); (focus (first | exact trivial | (simp only [obsOk, and_true, Ar.inc_eq hA, Ar.snoc_eq hA, List.length_append, List.length_singleton, List.length_nil] <;> first | assumption | omega | (constructor <;> omega))))))
            all_goals rfl
        · refine CallsV.ok (fn := Try.f86) (by kernel_rfl) (by kernel_rfl) rfl (by cbv) (by cbv) ?_
          repeat (first | (apply Ok.run1 hmix hA false 2000; focus (cbv; done)) | (apply Ok.one hmix hA; focus (cbv; done)) | (rw [Ar.notT hA]) | (rw [Ar.notF hA]) | (refine Ok.condT ?_ ?_; focus (cbv; done)) | (refine Ok.condF ?_ ?_; focus (cbv; done)) | (refine Ok.drawnE (by as_aux_lemma => kernel_rfl) ?_) | (apply Ok.leave) | (apply Ok.leaveRet) | (apply Ok.callO (c0); (focus (cbv; done)); (focus (cbv; done)); (focus (first | exact trivial | (simp only [obsOk, and_true, Ar.inc_eq hA, Ar.snoc_eq hA, List.length_append, List.length_singleton, List.length_nil] <;> first | assumption | omega | (constructor <;> omega)))); (focus (cbv; done))) | (apply Ok.dcallO (c0); (focus (cbv; done)); (focus (cbv; done)); (focus (first | exact trivial | (simp only [obsOk, and_true, Ar.inc_eq hA, Ar.snoc_eq hA, List.length_append, List.length_singleton, List.length_nil] <;> first | assumption | omega | (constructor <;> omega)))); (focus (cbv; done))) | (apply Ok.callO (cc); (focus (cbv; done)); (focus (cbv; done)); (focus (first | exact trivial | (simp only [obsOk, and_true, Ar.inc_eq hA, Ar.snoc_eq hA, List.length_append, List.length_singleton, List.length_nil] <;> first | assumption | omega | (constructor <;> omega)))); (focus (cbv; done))) | (apply Ok.dcallO (cc); (focus (cbv; done)); (focus (cbv; done)); (focus (first | exact trivial | (simp only [obsOk, and_true, Ar.inc_eq hA, Ar.snoc_eq hA, List.length_append, List.length_singleton, List.length_nil] <;> first | assumption | omega | (constructor <;> omega)))); (focus (cbv; done))) | (apply Ok.idxK (hx0'); (focus (cbv; done)); (focus (cbv; done)); (focus (cbv; done)); (focus (cbv; done))) | (apply Ok.didxK (hx0'); (focus (cbv; done)); (focus (cbv; done)); (focus (cbv; done)); (focus (cbv; done))) | (apply Ok.sidxK (hx0'); (focus (cbv; done)); (focus (cbv; done)); (focus (cbv; done))) | (apply Ok.dsidxK (hx0'); (focus (cbv; done)); (focus (cbv; done)); (focus (cbv; done))) | (rw [q1]) | (rw [q2]) | (rw [q3]) | (rw [q4]) | (rw [q0]) | (rw [q6]))
          (first | (apply Ok.finO1; (focus (cbv; done)); (focus (cbv; done)); (focus (first | exact trivial | (simp only [obsOk, and_true, Ar.inc_eq hA, Ar.snoc_eq hA, List.length_append, List.length_singleton, List.length_nil] <;> first | assumption | omega | (constructor <;> omega))))) | (apply Ok.finO2; (focus (cbv; done)); (focus (cbv; done)); (focus (first | exact trivial | (simp only [obsOk, and_true, Ar.inc_eq hA, Ar.snoc_eq hA, List.length_append, List.length_singleton, List.length_nil] <;> first | assumption | omega | (constructor <;> omega))))) | (apply Ok.finO3; (focus (cbv; done)); (focus (cbv; done)); (focus (first | exact trivial | (simp only [obsOk, and_true, Ar.inc_eq hA, Ar.snoc_eq hA, List.length_append, List.length_singleton, List.length_nil] <;> first | assumption | omega | (constructor <;> omega))))))
          all_goals rfl
      · refine CallsV.ok (fn := Try.f86) (by kernel_rfl) (by kernel_rfl) rfl (by cbv) (by cbv) ?_
        repeat (first | (apply Ok.run1 hmix hA false 2000; focus (cbv; done)) | (apply Ok.one hmix hA; focus (cbv; done)) | (rw [Ar.notT hA]) | (rw [Ar.notF hA]) | (refine Ok.condT ?_ ?_; focus (cbv; done)) | (refine Ok.condF ?_ ?_; focus (cbv; done)) | (refine Ok.drawnE (by as_aux_lemma => kernel_rfl) ?_) | (apply Ok.leave) | (apply Ok.leaveRet) | (apply Ok.callO (c0); (focus (cbv; done)); (focus (cbv; done)); (focus (first | exact trivial | (simp only [obsOk, and_true, Ar.inc_eq hA, Ar.snoc_eq hA, List.length_append, List.length_singleton, List.length_nil] <;> first | assumption | omega | (constructor <;> omega)))); (focus (cbv; done))) | (apply Ok.dcallO (c0); (focus (cbv; done)); (focus (cbv; done)); (focus (first | exact trivial | (simp only [obsOk, and_true, Ar.inc_eq hA, Ar.snoc_eq hA, List.length_append, List.length_singleton, List.length_nil] <;> first | assumption | omega | (constructor <;> omega)))); (focus (cbv; done))) | (apply Ok.callO (cc); (focus (cbv; done)); (focus (cbv; done)); (focus (first | exact trivial | (simp only [obsOk, and_true, Ar.inc_eq hA, Ar.snoc_eq hA, List.length_append, List.length_singleton, List.length_nil] <;> first | assumption | omega | (constructor <;> omega)))); (focus (cbv; done))) | (apply Ok.dcallO (cc); (focus (cbv; done)); (focus (cbv; done)); (focus (first | exact trivial | (simp only [obsOk, and_true, Ar.inc_eq hA, Ar.snoc_eq hA, List.length_append, List.length_singleton, List.length_nil] <;> first | assumption | omega | (constructor <;> omega)))); (focus (cbv; done))) | (apply Ok.idxK (hx0'); (focus (cbv; done)); (focus (cbv; done)); (focus (cbv; done)); (focus (cbv; done))) | (apply Ok.didxK (hx0'); (focus (cbv; done)); (focus (cbv; done)); (focus (cbv; done)); (focus (cbv; done))) | (apply Ok.sidxK (hx0'); (focus (cbv; done)); (focus (cbv; done)); (focus (cbv; done))) | (apply Ok.dsidxK (hx0'); (focus (cbv; done)); (focus (cbv; done)); (focus (cbv; done))) | (rw [q1]) | (rw [q2]) | (rw [q3]) | (rw [q0]) | (rw [q6]))
        (first | (apply Ok.finO1; (focus (cbv; done)); (focus (cbv; done)); (focus (first | exact trivial | (simp only [obsOk, and_true, Ar.inc_eq hA, Ar.snoc_eq hA, List.length_append, List.length_singleton, List.length_nil] <;> first | assumption | omega | (constructor <;> omega))))) | (apply Ok.finO2; (focus (cbv; done)); (focus (cbv; done)); (focus (first | exact trivial | (simp only [obsOk, and_true, Ar.inc_eq hA, Ar.snoc_eq hA, List.length_append, List.length_singleton, List.length_nil] <;> first | assumption | omega | (constructor <;> omega))))) | (apply Ok.finO3; (focus (cbv; done)); (focus (cbv; done)); (focus (first | exact trivial | (simp only [obsOk, and_true, Ar.inc_eq hA, Ar.snoc_eq hA, List.length_append, List.length_singleton, List.length_nil] <;> first | assumption | omega | (constructor <;> omega))))))
        all_goals rfl
    · have q0 : A .eq z 0 = true := by rw [Ar.eq_eq hA]; simpa using hz
      subst hk
      obtain ⟨j1, hj1⟩ : ∃ j1, j1 = j + 1 := ⟨_, rfl⟩
      have hxj' := hxs _ _ hxj
      rw [← hj1] at cc hxj'
      have q6 : A .lt 0 (Int.ofNat j1) = true := (ofNat_lt hA 0 j1).trans (by simp; omega)
      obtain ⟨⟨yk, yi, yb, ys, yt⟩, zj⟩ := rj
      dsimp only at cj ⊢
      cases c3
      · cases c4
        · cases c5
          · simp at hor
          · refine CallsV.ok (fn := Try.f86) (by kernel_rfl) (by kernel_rfl) rfl (by cbv) (by cbv) ?_
            repeat (first | (apply Ok.run1 hmix hA false 2000; focus (cbv; done)) | (apply Ok.one hmix hA; focus (cbv; done)) | (rw [Ar.notT hA]) | (rw [Ar.notF hA]) | (refine Ok.condT ?_ ?_; focus (cbv; done)) | (refine Ok.condF ?_ ?_; focus (cbv; done)) | (refine Ok.drawnE (by as_aux_lemma => kernel_rfl) ?_) | (apply Ok.leave) | (apply Ok.leaveRet) | (apply Ok.callO (c0); (focus (cbv; done)); (focus (cbv; done)); (focus (first | exact trivial | (simp only [obsOk, and_true, Ar.inc_eq hA, Ar.snoc_eq hA, List.length_append, List.length_singleton, List.length_nil] <;> first | assumption | omega | (constructor <;> omega)))); (focus (cbv; done))) | (apply Ok.dcallO (c0); (focus (cbv; done)); (focus (cbv; done)); (focus (first | exact trivial | (simp only [obsOk, and_true, Ar.inc_eq hA, Ar.snoc_eq hA, List.length_append, List.length_singleton, List.length_nil] <;> first | assumption | omega | (constructor <;> omega)))); (focus (cbv; done))) | (apply Ok.callO (cc); (focus (cbv; done)); (focus (cbv; done)); (focus (first | exact trivial | (simp only [obsOk, and_true, Ar.inc_eq hA, Ar.snoc_eq hA, List.length_append, List.length_singleton, List.length_nil] <;> first | assumption | omega | (constructor <;> omega)))); (focus (cbv; done))) | (apply Ok.dcallO (cc); (focus (cbv; done)); (focus (cbv; done)); (focus (first | exact trivial | (simp only [obsOk, and_true, Ar.inc_eq hA, Ar.snoc_eq hA, List.length_append, List.length_singleton, List.length_nil] <;> first | assumption | omega | (constructor <;> omega)))); (focus (cbv; done))) | (apply Ok.callO (cj); (focus (cbv; done)); (focus (cbv; done)); (focus (first | exact trivial | (simp only [obsOk, and_true, Ar.inc_eq hA, Ar.snoc_eq hA, List.length_append, List.length_singleton, List.length_nil] <;> first | assumption | omega | (constructor <;> omega)))); (focus (cbv; done))) | (apply Ok.dcallO (cj); (focus (cbv; done)); (focus (cbv; done)); (focus (first | exact trivial | (simp only [obsOk, and_true, Ar.inc_eq hA, Ar.snoc_eq hA, List.length_append, List.length_singleton, List.length_nil] <;> first | assumption | omega | (constructor <;> omega)))); (focus (cbv; done))) | (apply Ok.idxK (hx0'); (focus (cbv; done)); (focus (cbv; done)); (focus (cbv; done)); (focus (cbv; done))) | (apply Ok.didxK (hx0'); (focus (cbv; done)); (focus (cbv; done)); (focus (cbv; done)); (focus (cbv; done))) | (apply Ok.sidxK (hx0'); (focus (cbv; done)); (focus (cbv; done)); (focus (cbv; done))) | (apply Ok.dsidxK (hx0'); (focus (cbv; done)); (focus (cbv; done)); (focus (cbv; done))) | (apply Ok.idxK (hxj'); (focus (cbv; done)); (focus (cbv; done)); (focus (cbv; done)); (focus (cbv; done))) | (apply Ok.didxK (hxj'); (focus (cbv; done)); (focus (cbv; done)); (focus (cbv; done)); (focus (cbv; done))) | (apply Ok.sidxK (hxj'); (focus (cbv; done)); (focus (cbv; done)); (focus (cbv; done))) | (apply Ok.dsidxK (hxj'); (focus (cbv; done)); (focus (cbv; done)); (focus (cbv; done))) | (rw [q1]) | (rw [q2]) | (rw [q3]) | (rw [q4]) | (rw [q5]) | (rw [q0]) | (rw [q6]))
            (first | (apply Ok.finO1; (focus (cbv; done)); (focus (cbv; done)); (focus (first | exact trivial | (simp only [obsOk, and_true, Ar.inc_eq hA, Ar.snoc_eq hA, List.length_append, List.length_singleton, List.length_nil] <;> first | assumption | omega | (constructor <;> omega))))) | (apply Ok.finO2; (focus (cbv; done)); (focus (cbv; done)); (focus (first | exact trivial | (simp only [obsOk, and_true, Ar.inc_eq hA, Ar.snoc_eq hA, List.length_append, List.length_singleton, List.length_nil] <;> first | assumption | omega | (constructor <;> omega))))) | (apply Ok.finO3; (focus (cbv; done)); (focus (cbv; done)); (focus (first | exact trivial | (simp only [obsOk, and_true, Ar.inc_eq hA, Ar.snoc_eq hA, List.length_append, List.length_singleton, List.length_nil] <;> first | assumption | omega | (constructor <;> omega))))))
            all_goals rfl
        · refine CallsV.ok (fn := Try.f86) (by kernel_rfl) (by kernel_rfl) rfl (by cbv) (by cbv) ?_
          repeat (first | (apply Ok.run1 hmix hA false 2000; focus (cbv; done)) | (apply Ok.one hmix hA; focus (cbv; done)) | (rw [Ar.notT hA]) | (rw [Ar.notF hA]) | (refine Ok.condT ?_ ?_; focus (cbv; done)) | (refine Ok.condF ?_ ?_; focus (cbv; done)) | (refine Ok.drawnE (by as_aux_lemma => kernel_rfl) ?_) | (apply Ok.leave) | (apply Ok.leaveRet) | (apply Ok.callO (c0); (focus (cbv; done)); (focus (cbv; done)); (focus (first | exact trivial | (simp only [obsOk, and_true, Ar.inc_eq hA, Ar.snoc_eq hA, List.length_append, List.length_singleton, List.length_nil] <;> first | assumption | omega | (constructor <;> omega)))); (focus (cbv; done))) | (apply Ok.dcallO (c0); (focus (cbv; done)); (focus (cbv; done)); (focus (first | exact trivial | (simp only [obsOk, and_true, Ar.inc_eq hA, Ar.snoc_eq hA, List.length_append, List.length_singleton, List.length_nil] <;> first | assumption | omega | (constructor <;> omega)))); (focus (cbv; done))) | (apply Ok.callO (cc); (focus (cbv; done)); (focus (cbv; done)); (focus (first | exact trivial | (simp only [obsOk, and_true, Ar.inc_eq hA, Ar.snoc_eq hA, List.length_append, List.length_singleton, List.length_nil] <;> first | assumption | omega | (constructor <;> omega)))); (focus (cbv; done))) | (apply Ok.dcallO (cc); (focus (cbv; done)); (focus (cbv; done)); (focus (first | exact trivial | (simp only [obsOk, and_true, Ar.inc_eq hA, Ar.snoc_eq hA, List.length_append, List.length_singleton, List.length_nil] <;> first | assumption | omega | (constructor <;> omega)))); (focus (cbv; done))) | (apply Ok.callO (cj); (focus (cbv; done)); (focus (cbv; done)); (focus (first | exact trivial | (simp only [obsOk, and_true, Ar.inc_eq hA, Ar.snoc_eq hA, List.length_append, List.length_singleton, List.length_nil] <;> first | assumption | omega | (constructor <;> omega)))); (focus (cbv; done))) | (apply Ok.dcallO (cj); (focus (cbv; done)); (focus (cbv; done)); (focus (first | exact trivial | (simp only [obsOk, and_true, Ar.inc_eq hA, Ar.snoc_eq hA, List.length_append, List.length_singleton, List.length_nil] <;> first | assumption | omega | (constructor <;> omega)))); (focus (cbv; done))) | (apply Ok.idxK (hx0'); (focus (cbv; done)); (focus (cbv; done)); (focus (cbv; done)); (focus (cbv; done))) | (apply Ok.didxK (hx0'); (focus (cbv; done)); (focus (cbv; done)); (focus (cbv; done)); (focus (cbv; done))) | (apply Ok.sidxK (hx0'); (focus (cbv; done)); (focus (cbv; done)); (focus (cbv; done))) | (apply Ok.dsidxK (hx0'); (focus (cbv; done)); (focus (cbv; done)); (focus (cbv; done))) | (apply Ok.idxK (hxj'); (focus (cbv; done)); (focus (cbv; done)); (focus (cbv; done)); (focus (cbv; done))) | (apply Ok.didxK (hxj'); (focus (cbv; done)); (focus (cbv; done)); (focus (cbv; done)); (focus (cbv; done))) | (apply Ok.sidxK (hxj'); (focus (cbv; done)); (focus (cbv; done)); (focus (cbv; done))) | (apply Ok.dsidxK (hxj'); (focus (cbv; done)); (focus (cbv; done)); (focus (cbv; done))) | (rw [q1]) | (rw [q2]) | (rw [q3]) | (rw [q4]) | (rw [q0]) | (rw [q6]))
          (first | (apply Ok.finO1; (focus (cbv; done)); (focus (cbv; done)); (focus (first | exact trivial | (simp only [obsOk, and_true, Ar.inc_eq hA, Ar.snoc_eq hA, List.length_append, List.length_singleton, List.length_nil] <;> first | assumption | omega | (constructor <;> omega))))) | (apply Ok.finO2; (focus (cbv; done)); (focus (cbv; done)); (focus (first | exact trivial | (simp only [obsOk, and_true, Ar.inc_eq hA, Ar.snoc_eq hA, List.length_append, List.length_singleton, List.length_nil] <;> first | assumption | omega | (constructor <;> omega))))) | (apply Ok.finO3; (focus (cbv; done)); (focus (cbv; done)); (focus (first | exact trivial | (simp only [obsOk, and_true, Ar.inc_eq hA, Ar.snoc_eq hA, List.length_append, List.length_singleton, List.length_nil] <;> first | assumption | omega | (constructor <;> omega))))))
          all_goals rfl
      · refine CallsV.ok (fn := Try.f86) (by kernel_rfl) (by kernel_rfl) rfl (by cbv) (by cbv) ?_
        repeat (first | (apply Ok.run1 hmix hA false 2000; focus (cbv; done)) | (apply Ok.one hmix hA; focus (cbv; done)) | (rw [Ar.notT hA]) | (rw [Ar.notF hA]) | (refine Ok.condT ?_ ?_; focus (cbv; done)) | (refine Ok.condF ?_ ?_; focus (cbv; done)) | (refine Ok.drawnE (by as_aux_lemma => kernel_rfl) ?_) | (apply Ok.leave) | (apply Ok.leaveRet) | (apply Ok.callO (c0); (focus (cbv; done)); (focus (cbv; done)); (focus (first | exact trivial | (simp only [obsOk, and_true, Ar.inc_eq hA, Ar.snoc_eq hA, List.length_append, List.length_singleton, List.length_nil] <;> first | assumption | omega | (constructor <;> omega)))); (focus (cbv; done))) | (apply Ok.dcallO (c0); (focus (cbv; done)); (focus (cbv; done)); (focus (first | exact trivial | (simp only [obsOk, and_true, Ar.inc_eq hA, Ar.snoc_eq hA, List.length_append, List.length_singleton, List.length_nil] <;> first | assumption | omega | (constructor <;> omega)))); (focus (cbv; done))) | (apply Ok.callO (cc); (focus (cbv; done)); (focus (cbv; done)); (focus (first | exact trivial | (simp only [obsOk, and_true, Ar.inc_eq hA, Ar.snoc_eq hA, List.length_append, List.length_singleton, List.length_nil] <;> first | assumption | omega | (constructor <;> omega)))); (focus (cbv; done))) | (apply Ok.dcallO (cc); (focus (cbv; done)); (focus (cbv; done)); (focus (first | exact trivial | (simp only [obsOk, and_true, Ar.inc_eq hA, Ar.snoc_eq hA, List.length_append, List.length_singleton, List.length_nil] <;> first | assumption | omega | (constructor <;> omega)))); (focus (cbv; done))) | (apply Ok.callO (cj); (focus (cbv; done)); (focus (cbv; done)); (focus (first | exact trivial | (simp only [obsOk, and_true, Ar.inc_eq hA, Ar.snoc_eq hA, List.length_append, List.length_singleton, List.length_nil] <;> first | assumption | omega | (constructor <;> omega)))); (focus (cbv; done))) | (apply Ok.dcallO (cj); (focus (cbv; done)); (focus (cbv; done)); (focus (first | exact trivial | (simp only [obsOk, and_true, Ar.inc_eq hA, Ar.snoc_eq hA, List.length_append, List.length_singleton, List.length_nil] <;> first | assumption | omega | (constructor <;> omega)))); (focus (cbv; done))) | (apply Ok.idxK (hx0'); (focus (cbv; done)); (focus (cbv; done)); (focus (cbv; done)); (focus (cbv; done))) | (apply Ok.didxK (hx0'); (focus (cbv; done)); (focus (cbv; done)); (focus (cbv; done)); (focus (cbv; done))) | (apply Ok.sidxK (hx0'); (focus (cbv; done)); (focus (cbv; done)); (focus (cbv; done))) | (apply Ok.dsidxK (hx0'); (focus (cbv; done)); (focus (cbv; done)); (focus (cbv; done))) | (apply Ok.idxK (hxj'); (focus (cbv; done)); (focus (cbv; done)); (focus (cbv; done)); (focus (cbv; done))) | (apply Ok.didxK (hxj'); (focus (cbv; done)); (focus (cbv; done)); (focus (cbv; done)); (focus (cbv; done))) | (apply Ok.sidxK (hxj'); (focus (cbv; done)); (focus (cbv; done)); (focus (cbv; done))) | (apply Ok.dsidxK (hxj'); (focus (cbv; done)); (focus (cbv; done)); (focus (cbv; done))) | (rw [q1]) | (rw [q2]) | (rw [q3]) | (rw [q0]) | (rw [q6]))
        (first | (apply Ok.finO1; (focus (cbv; done)); (focus (cbv; done)); (focus (first | exact trivial | (simp only [obsOk, and_true, Ar.inc_eq hA, Ar.snoc_eq hA, List.length_append, List.length_singleton, List.length_nil] <;> first | assumption | omega | (constructor <;> omega))))) | (apply Ok.finO2; (focus (cbv; done)); (focus (cbv; done)); (focus (first | exact trivial | (simp only [obsOk, and_true, Ar.inc_eq hA, Ar.snoc_eq hA, List.length_append, List.length_singleton, List.length_nil] <;> first | assumption | omega | (constructor <;> omega))))) | (apply Ok.finO3; (focus (cbv; done)); (focus (cbv; done)); (focus (first | exact trivial | (simp only [obsOk, and_true, Ar.inc_eq hA, Ar.snoc_eq hA, List.length_append, List.length_singleton, List.length_nil] <;> first | assumption | omega | (constructor <;> omega))))))
        all_goals rfl
  exact key c3 c4 c5 hc3.symm hc4.symm hc5.symm hor
theorem Eval_gen (op : List UInt8) (v : Vl) (n : Int) (a : List Ex4) (x : Vl) (n1 : op ≠ oLit) (n2 : op ≠ oX) (n3 : op ≠ oAnd) (n4 : op ≠ oOr) (n5 : op ≠ oIf) (ls : List Vl) (f : Int)
    (cA : CallsV Try.prog 128 [.view (E .exs a), E.vl x] (.tup [.pv (.view (E .vls ls)), .pv (.int .i64 f)]) []) :
    (f ≠ 0 → CallsV Try.prog 86 [E.ex ⟨op, v, n, a⟩, E.vl x] (pR E (.zero, f)) []) ∧
    (f = 0 → op = oAt → ∀ v0 w, ls = [v0] → 0 ≤ n → v0.t[n.toNat]? = some w → CallsV Try.prog 86 [E.ex ⟨op, v, n, a⟩, E.vl x] (pR E (w, 0)) []) ∧
    (f = 0 → op = oTup → ls.length ≤ 2 ^ 28 → CallsV Try.prog 86 [E.ex ⟨op, v, n, a⟩, E.vl x] (pR E (⟨4, 0, false, [], ls⟩, 0)) []) ∧
    (f = 0 → op ≠ oAt → op ≠ oTup → ∀ v0 w, ls = [v0] → CallsV Try.prog 130 [.str op, E.vl v0] (.tup [.pv (E.vl w), .pv (.bool true)]) [] → CallsV Try.prog 86 [E.ex ⟨op, v, n, a⟩, E.vl x] (pR E (w, 0)) []) ∧
    (f = 0 → op ≠ oAt → op ≠ oTup → ∀ v0 v1 r, ls = [v0, v1] → CallsV Try.prog 131 [.str op, E.vl v0, E.vl v1] (.tup [.pv (E.vl r.1), .pv (.int .i64 r.2), .pv (.bool true)]) [] → CallsV Try.prog 86 [E.ex ⟨op, v, n, a⟩, E.vl x] (pR E r) []) := by
  obtain ⟨A, hA⟩ : ∃ A : Ar, A = .std := ⟨_, rfl⟩
  have q1 : A .seq op [108, 105, 116] = false := by rw [Ar.seq_eq hA]; simpa [oLit] using n1
  have q2 : A .seq op [120] = false := by rw [Ar.seq_eq hA]; simpa [oX] using n2
  have q3 : A .seq op [97, 110, 100] = false := by rw [Ar.seq_eq hA]; simpa [oAnd] using n3
  have q4 : A .seq op [111, 114] = false := by rw [Ar.seq_eq hA]; simpa [oOr] using n4
  have q5 : A .seq op [105, 102] = false := by rw [Ar.seq_eq hA]; simpa [oIf] using n5
  obtain ⟨vk, vi, vb, vs, vt⟩ := v
  obtain ⟨xk, xi, xb, xs, xt⟩ := x
  refine ⟨fun hf => ?_, fun hf ho v0 w hl hn hw => ?_, fun hf ho hl => ?_, fun hf ho1 ho2 v0 w hl c => ?_, fun hf ho1 ho2 v0 v1 r hl c => ?_⟩
  · have q0 : A .eq f 0 = false := by rw [Ar.eq_eq hA]; simpa using hf
    unfold pR
    rw [vl_zero hE]
    generalize E .vls ls = es at *
    refine CallsV.ok (fn := Try.f86) (by kernel_rfl) (by kernel_rfl) rfl (by cbv) (by cbv) ?_
    repeat (first | (apply Ok.run1 hmix hA false 2000; focus (cbv; done)) | (apply Ok.one hmix hA; focus (cbv; done)) | (rw [Ar.notT hA]) | (rw [Ar.notF hA]) | (refine Ok.condT ?_ ?_; focus (cbv; done)) | (refine Ok.condF ?_ ?_; focus (cbv; done)) | (refine Ok.drawnE (by as_aux_lemma => kernel_rfl) ?_) | (apply Ok.leave) | (apply Ok.leaveRet) | (apply Ok.callO (cA); (focus (cbv; done)); (focus (cbv; done)); (focus (first | exact trivial | (simp only [obsOk, and_true, Ar.inc_eq hA, Ar.snoc_eq hA, List.length_append, List.length_singleton, List.length_nil] <;> first | assumption | omega | (constructor <;> omega)))); (focus (cbv; done))) | (apply Ok.dcallO (cA); (focus (cbv; done)); (focus (cbv; done)); (focus (first | exact trivial | (simp only [obsOk, and_true, Ar.inc_eq hA, Ar.snoc_eq hA, List.length_append, List.length_singleton, List.length_nil] <;> first | assumption | omega | (constructor <;> omega)))); (focus (cbv; done))) | (rw [q1]) | (rw [q2]) | (rw [q3]) | (rw [q4]) | (rw [q5]) | (rw [q0]))
    (first | (apply Ok.finO1; (focus (cbv; done)); (focus (cbv; done)); (focus (first | exact trivial | (simp only [obsOk, and_true, Ar.inc_eq hA, Ar.snoc_eq hA, List.length_append, List.length_singleton, List.length_nil] <;> first | assumption | omega | (constructor <;> omega))))) | (apply Ok.finO2; (focus (cbv; done)); (focus (cbv; done)); (focus (first | exact trivial | (simp only [obsOk, and_true, Ar.inc_eq hA, Ar.snoc_eq hA, List.length_append, List.length_singleton, List.length_nil] <;> first | assumption | omega | (constructor <;> omega))))) | (apply Ok.finO3; (focus (cbv; done)); (focus (cbv; done)); (focus (first | exact trivial | (simp only [obsOk, and_true, Ar.inc_eq hA, Ar.snoc_eq hA, List.length_append, List.length_singleton, List.length_nil] <;> first | assumption | omega | (constructor <;> omega))))))
    all_goals rfl
  · have q0 : A .eq f 0 = true := by rw [Ar.eq_eq hA]; simpa using hf
    have q6 : A .seq op [97, 116] = true := by rw [Ar.seq_eq hA, ho]; decide
    subst hl
    have hx0 : (E .vls [v0])[0]? = some (E.vl v0) := by rw [E.vls_eq hE]; rfl
    generalize E .vls [v0] = es at *
    obtain ⟨k0, i0, b0, s0, t0⟩ := v0
    dsimp only at hw
    have hw' : (E .vls t0)[n.toNat]? = some (E.vl w) := by rw [E.vls_eq hE]; exact at_map _ hw
    unfold pR
    obtain ⟨wk, wi, wb, ws, wt⟩ := w
    refine CallsV.ok (fn := Try.f86) (by kernel_rfl) (by kernel_rfl) rfl (by cbv) (by cbv) ?_
    repeat (first | (apply Ok.run1 hmix hA false 2000; focus (cbv; done)) | (apply Ok.one hmix hA; focus (cbv; done)) | (rw [Ar.notT hA]) | (rw [Ar.notF hA]) | (refine Ok.condT ?_ ?_; focus (cbv; done)) | (refine Ok.condF ?_ ?_; focus (cbv; done)) | (refine Ok.drawnE (by as_aux_lemma => kernel_rfl) ?_) | (apply Ok.leave) | (apply Ok.leaveRet) | (apply Ok.callO (cA); (focus (cbv; done)); (focus (cbv; done)); (focus (first | exact trivial | (simp only [obsOk, and_true, Ar.inc_eq hA, Ar.snoc_eq hA, List.length_append, List.length_singleton, List.length_nil] <;> first | assumption | omega | (constructor <;> omega)))); (focus (cbv; done))) | (apply Ok.dcallO (cA); (focus (cbv; done)); (focus (cbv; done)); (focus (first | exact trivial | (simp only [obsOk, and_true, Ar.inc_eq hA, Ar.snoc_eq hA, List.length_append, List.length_singleton, List.length_nil] <;> first | assumption | omega | (constructor <;> omega)))); (focus (cbv; done))) | (apply Ok.idxK (hx0); (focus (cbv; done)); (focus (cbv; done)); (focus (cbv; done)); (focus (cbv; done))) | (apply Ok.didxK (hx0); (focus (cbv; done)); (focus (cbv; done)); (focus (cbv; done)); (focus (cbv; done))) | (apply Ok.sidxK (hx0); (focus (cbv; done)); (focus (cbv; done)); (focus (cbv; done))) | (apply Ok.dsidxK (hx0); (focus (cbv; done)); (focus (cbv; done)); (focus (cbv; done))) | (rw [q1]) | (rw [q2]) | (rw [q3]) | (rw [q4]) | (rw [q5]) | (rw [q0]) | (rw [q6]))
    refine Ok.dop (idx_viewG (E.vl ⟨wk, wi, wb, ws, wt⟩) (by cbv) (by cbv) (by cbv) hn hw' (by cbv)) ?_
    repeat (first | (apply Ok.run1 hmix hA false 2000; focus (cbv; done)) | (apply Ok.one hmix hA; focus (cbv; done)) | (rw [Ar.notT hA]) | (rw [Ar.notF hA]) | (refine Ok.condT ?_ ?_; focus (cbv; done)) | (refine Ok.condF ?_ ?_; focus (cbv; done)) | (refine Ok.drawnE (by as_aux_lemma => kernel_rfl) ?_) | (apply Ok.leave) | (apply Ok.leaveRet))
    (first | (apply Ok.finO1; (focus (cbv; done)); (focus (cbv; done)); (focus (first | exact trivial | (simp only [obsOk, and_true, Ar.inc_eq hA, Ar.snoc_eq hA, List.length_append, List.length_singleton, List.length_nil] <;> first | assumption | omega | (constructor <;> omega))))) | (apply Ok.finO2; (focus (cbv; done)); (focus (cbv; done)); (focus (first | exact trivial | (simp only [obsOk, and_true, Ar.inc_eq hA, Ar.snoc_eq hA, List.length_append, List.length_singleton, List.length_nil] <;> first | assumption | omega | (constructor <;> omega))))) | (apply Ok.finO3; (focus (cbv; done)); (focus (cbv; done)); (focus (first | exact trivial | (simp only [obsOk, and_true, Ar.inc_eq hA, Ar.snoc_eq hA, List.length_append, List.length_singleton, List.length_nil] <;> first | assumption | omega | (constructor <;> omega))))))
    all_goals rfl
  · have q0 : A .eq f 0 = true := by rw [Ar.eq_eq hA]; simpa using hf
    have q6 : A .seq op [97, 116] = false := by rw [Ar.seq_eq hA, ho]; decide
    have q7 : A .seq op [116, 117, 112] = true := by rw [Ar.seq_eq hA, ho]; decide
    have cT := val_Tup hE ls hl
    unfold pR
    have e4 : E.vl ⟨4, 0, false, [], ls⟩ = .agg [.int .i64 4, .int .i64 0, .bool false, .str [], .view (E .vls ls)] := rfl
    rw [e4] at cT
    dsimp only
    rw [e4]
    generalize E .vls ls = es at *
    refine CallsV.ok (fn := Try.f86) (by kernel_rfl) (by kernel_rfl) rfl (by cbv) (by cbv) ?_
    repeat (first | (apply Ok.run1 hmix hA false 2000; focus (cbv; done)) | (apply Ok.one hmix hA; focus (cbv; done)) | (rw [Ar.notT hA]) | (rw [Ar.notF hA]) | (refine Ok.condT ?_ ?_; focus (cbv; done)) | (refine Ok.condF ?_ ?_; focus (cbv; done)) | (refine Ok.drawnE (by as_aux_lemma => kernel_rfl) ?_) | (apply Ok.leave) | (apply Ok.leaveRet) | (apply Ok.callO (cA); (focus (cbv; done)); (focus (cbv; done)); (focus (first | exact trivial | (simp only [obsOk, and_true, Ar.inc_eq hA, Ar.snoc_eq hA, List.length_append, List.length_singleton, List.length_nil] <;> first | assumption | omega | (constructor <;> omega)))); (focus (cbv; done))) | (apply Ok.dcallO (cA); (focus (cbv; done)); (focus (cbv; done)); (focus (first | exact trivial | (simp only [obsOk, and_true, Ar.inc_eq hA, Ar.snoc_eq hA, List.length_append, List.length_singleton, List.length_nil] <;> first | assumption | omega | (constructor <;> omega)))); (focus (cbv; done))) | (apply Ok.callO (cT); (focus (cbv; done)); (focus (cbv; done)); (focus (first | exact trivial | (simp only [obsOk, and_true, Ar.inc_eq hA, Ar.snoc_eq hA, List.length_append, List.length_singleton, List.length_nil] <;> first | assumption | omega | (constructor <;> omega)))); (focus (cbv; done))) | (apply Ok.dcallO (cT); (focus (cbv; done)); (focus (cbv; done)); (focus (first | exact trivial | (simp only [obsOk, and_true, Ar.inc_eq hA, Ar.snoc_eq hA, List.length_append, List.length_singleton, List.length_nil] <;> first | assumption | omega | (constructor <;> omega)))); (focus (cbv; done))) | (rw [q1]) | (rw [q2]) | (rw [q3]) | (rw [q4]) | (rw [q5]) | (rw [q0]) | (rw [q6]) | (rw [q7]))
    (first | (apply Ok.finO1; (focus (cbv; done)); (focus (cbv; done)); (focus (first | exact trivial | (simp only [obsOk, and_true, Ar.inc_eq hA, Ar.snoc_eq hA, List.length_append, List.length_singleton, List.length_nil] <;> first | assumption | omega | (constructor <;> omega))))) | (apply Ok.finO2; (focus (cbv; done)); (focus (cbv; done)); (focus (first | exact trivial | (simp only [obsOk, and_true, Ar.inc_eq hA, Ar.snoc_eq hA, List.length_append, List.length_singleton, List.length_nil] <;> first | assumption | omega | (constructor <;> omega))))) | (apply Ok.finO3; (focus (cbv; done)); (focus (cbv; done)); (focus (first | exact trivial | (simp only [obsOk, and_true, Ar.inc_eq hA, Ar.snoc_eq hA, List.length_append, List.length_singleton, List.length_nil] <;> first | assumption | omega | (constructor <;> omega))))))
    all_goals rfl
  · have q0 : A .eq f 0 = true := by rw [Ar.eq_eq hA]; simpa using hf
    have q6 : A .seq op [97, 116] = false := by rw [Ar.seq_eq hA]; simpa [oAt] using ho1
    have q7 : A .seq op [116, 117, 112] = false := by rw [Ar.seq_eq hA]; simpa [oTup] using ho2
    subst hl
    have hx0 : (E .vls [v0])[0]? = some (E.vl v0) := by rw [E.vls_eq hE]; rfl
    have hl1 : A .lenP (E .vls [v0]) = 1 := by rw [Ar.lenP_eq hA, E.vls_eq hE]; rfl
    have q8 : A .eq 1 1 = true := by rw [Ar.eq_eq hA]; rfl
    generalize E .vls [v0] = es at *
    obtain ⟨k0, i0, b0, s0, t0⟩ := v0
    unfold pR
    obtain ⟨wk, wi, wb, ws, wt⟩ := w
    refine CallsV.ok (fn := Try.f86) (by kernel_rfl) (by kernel_rfl) rfl (by cbv) (by cbv) ?_
    repeat (first | (apply Ok.run1 hmix hA false 2000; focus (cbv; done)) | (apply Ok.one hmix hA; focus (cbv; done)) | (rw [Ar.notT hA]) | (rw [Ar.notF hA]) | (refine Ok.condT ?_ ?_; focus (cbv; done)) | (refine Ok.condF ?_ ?_; focus (cbv; done)) | (refine Ok.drawnE (by as_aux_lemma => kernel_rfl) ?_) | (apply Ok.leave) | (apply Ok.leaveRet) | (apply Ok.callO (cA); (focus (cbv; done)); (focus (cbv; done)); (focus (first | exact trivial | (simp only [obsOk, and_true, Ar.inc_eq hA, Ar.snoc_eq hA, List.length_append, List.length_singleton, List.length_nil] <;> first | assumption | omega | (constructor <;> omega)))); (focus (cbv; done))) | (apply Ok.dcallO (cA); (focus (cbv; done)); (focus (cbv; done)); (focus (first | exact trivial | (simp only [obsOk, and_true, Ar.inc_eq hA, Ar.snoc_eq hA, List.length_append, List.length_singleton, List.length_nil] <;> first | assumption | omega | (constructor <;> omega)))); (focus (cbv; done))) | (apply Ok.callO (c); (focus (cbv; done)); (focus (cbv; done)); (focus (first | exact trivial | (simp only [obsOk, and_true, Ar.inc_eq hA, Ar.snoc_eq hA, List.length_append, List.length_singleton, List.length_nil] <;> first | assumption | omega | (constructor <;> omega)))); (focus (cbv; done))) | (apply Ok.dcallO (c); (focus (cbv; done)); (focus (cbv; done)); (focus (first | exact trivial | (simp only [obsOk, and_true, Ar.inc_eq hA, Ar.snoc_eq hA, List.length_append, List.length_singleton, List.length_nil] <;> first | assumption | omega | (constructor <;> omega)))); (focus (cbv; done))) | (apply Ok.idxK (hx0); (focus (cbv; done)); (focus (cbv; done)); (focus (cbv; done)); (focus (cbv; done))) | (apply Ok.didxK (hx0); (focus (cbv; done)); (focus (cbv; done)); (focus (cbv; done)); (focus (cbv; done))) | (apply Ok.sidxK (hx0); (focus (cbv; done)); (focus (cbv; done)); (focus (cbv; done))) | (apply Ok.dsidxK (hx0); (focus (cbv; done)); (focus (cbv; done)); (focus (cbv; done))) | (rw [q1]) | (rw [q2]) | (rw [q3]) | (rw [q4]) | (rw [q5]) | (rw [q0]) | (rw [q6]) | (rw [q7]) | (rw [hl1]) | (rw [q8]))
    (first | (apply Ok.finO1; (focus (cbv; done)); (focus (cbv; done)); (focus (first | exact trivial | (simp only [obsOk, and_true, Ar.inc_eq hA, Ar.snoc_eq hA, List.length_append, List.length_singleton, List.length_nil] <;> first | assumption | omega | (constructor <;> omega))))) | (apply Ok.finO2; (focus (cbv; done)); (focus (cbv; done)); (focus (first | exact trivial | (simp only [obsOk, and_true, Ar.inc_eq hA, Ar.snoc_eq hA, List.length_append, List.length_singleton, List.length_nil] <;> first | assumption | omega | (constructor <;> omega))))) | (apply Ok.finO3; (focus (cbv; done)); (focus (cbv; done)); (focus (first | exact trivial | (simp only [obsOk, and_true, Ar.inc_eq hA, Ar.snoc_eq hA, List.length_append, List.length_singleton, List.length_nil] <;> first | assumption | omega | (constructor <;> omega))))))
    all_goals rfl
  · have q0 : A .eq f 0 = true := by rw [Ar.eq_eq hA]; simpa using hf
    have q6 : A .seq op [97, 116] = false := by rw [Ar.seq_eq hA]; simpa [oAt] using ho1
    have q7 : A .seq op [116, 117, 112] = false := by rw [Ar.seq_eq hA]; simpa [oTup] using ho2
    subst hl
    have hx0 : (E .vls [v0, v1])[0]? = some (E.vl v0) := by rw [E.vls_eq hE]; rfl
    have hx1 : (E .vls [v0, v1])[1]? = some (E.vl v1) := by rw [E.vls_eq hE]; rfl
    have hl1 : A .lenP (E .vls [v0, v1]) = 2 := by rw [Ar.lenP_eq hA, E.vls_eq hE]; rfl
    have q8 : A .eq 2 1 = false := by rw [Ar.eq_eq hA]; rfl
    generalize E .vls [v0, v1] = es at *
    obtain ⟨k0, i0, b0, s0, t0⟩ := v0
    obtain ⟨k1, i1, b1, s1, t1⟩ := v1
    unfold pR
    obtain ⟨⟨wk, wi, wb, ws, wt⟩, z⟩ := r
    refine CallsV.ok (fn := Try.f86) (by kernel_rfl) (by kernel_rfl) rfl (by cbv) (by cbv) ?_
    repeat (first | (apply Ok.run1 hmix hA false 2000; focus (cbv; done)) | (apply Ok.one hmix hA; focus (cbv; done)) | (rw [Ar.notT hA]) | (rw [Ar.notF hA]) | (refine Ok.condT ?_ ?_; focus (cbv; done)) | (refine Ok.condF ?_ ?_; focus (cbv; done)) | (refine Ok.drawnE (by as_aux_lemma => kernel_rfl) ?_) | (apply Ok.leave) | (apply Ok.leaveRet) | (apply Ok.callO (cA); (focus (cbv; done)); (focus (cbv; done)); (focus (first | exact trivial | (simp only [obsOk, and_true, Ar.inc_eq hA, Ar.snoc_eq hA, List.length_append, List.length_singleton, List.length_nil] <;> first | assumption | omega | (constructor <;> omega)))); (focus (cbv; done))) | (apply Ok.dcallO (cA); (focus (cbv; done)); (focus (cbv; done)); (focus (first | exact trivial | (simp only [obsOk, and_true, Ar.inc_eq hA, Ar.snoc_eq hA, List.length_append, List.length_singleton, List.length_nil] <;> first | assumption | omega | (constructor <;> omega)))); (focus (cbv; done))) | (apply Ok.callO (c); (focus (cbv; done)); (focus (cbv; done)); (focus (first | exact trivial | (simp only [obsOk, and_true, Ar.inc_eq hA, Ar.snoc_eq hA, List.length_append, List.length_singleton, List.length_nil] <;> first | assumption | omega | (constructor <;> omega)))); (focus (cbv; done))) | (apply Ok.dcallO (c); (focus (cbv; done)); (focus (cbv; done)); (focus (first | exact trivial | (simp only [obsOk, and_true, Ar.inc_eq hA, Ar.snoc_eq hA, List.length_append, List.length_singleton, List.length_nil] <;> first | assumption | omega | (constructor <;> omega)))); (focus (cbv; done))) | (apply Ok.idxK (hx0); (focus (cbv; done)); (focus (cbv; done)); (focus (cbv; done)); (focus (cbv; done))) | (apply Ok.didxK (hx0); (focus (cbv; done)); (focus (cbv; done)); (focus (cbv; done)); (focus (cbv; done))) | (apply Ok.sidxK (hx0); (focus (cbv; done)); (focus (cbv; done)); (focus (cbv; done))) | (apply Ok.dsidxK (hx0); (focus (cbv; done)); (focus (cbv; done)); (focus (cbv; done))) | (apply Ok.idxK (hx1); (focus (cbv; done)); (focus (cbv; done)); (focus (cbv; done)); (focus (cbv; done))) | (apply Ok.didxK (hx1); (focus (cbv; done)); (focus (cbv; done)); (focus (cbv; done)); (focus (cbv; done))) | (apply Ok.sidxK (hx1); (focus (cbv; done)); (focus (cbv; done)); (focus (cbv; done))) | (apply Ok.dsidxK (hx1); (focus (cbv; done)); (focus (cbv; done)); (focus (cbv; done))) | (rw [q1]) | (rw [q2]) | (rw [q3]) | (rw [q4]) | (rw [q5]) | (rw [q0]) | (rw [q6]) | (rw [q7]) | (rw [hl1]) | (rw [q8]))
    (first | (apply Ok.finO1; (focus (cbv; done)); (focus (cbv; done)); (focus (first | exact trivial | (simp only [obsOk, and_true, Ar.inc_eq hA, Ar.snoc_eq hA, List.length_append, List.length_singleton, List.length_nil] <;> first | assumption | omega | (constructor <;> omega))))) | (apply Ok.finO2; (focus (cbv; done)); (focus (cbv; done)); (focus (first | exact trivial | (simp only [obsOk, and_true, Ar.inc_eq hA, Ar.snoc_eq hA, List.length_append, List.length_singleton, List.length_nil] <;> first | assumption | omega | (constructor <;> omega))))) | (apply Ok.finO3; (focus (cbv; done)); (focus (cbv; done)); (focus (first | exact trivial | (simp only [obsOk, and_true, Ar.inc_eq hA, Ar.snoc_eq hA, List.length_append, List.length_singleton, List.length_nil] <;> first | assumption | omega | (constructor <;> omega))))))
    all_goals rfl
end
end Go.Proofs.Ytnojmocoifodjaa.Pv
set_option maxRecDepth 100000
set_option maxHeartbeats 4000000
set_option linter.unusedVariables false
set_option linter.unusedSimpArgs false
set_option linter.unusedSectionVars false
namespace Go.Proofs.Ytnojmocoifodjaa.Pv
open Go Go.Proofs
theorem evX_no {op : List UInt8} {v : Vl} {n : Int} {a : List Ex4} {x : Vl} (n1 : op ≠ oLit) (n2 : op ≠ oX) (n3 : op ≠ oAnd) (n4 : op ≠ oOr) (n5 : op ≠ oIf) : evX ⟨op, v, n, a⟩ x = if (seqR (evAll a x)).2 ≠ 0 then (.zero, (seqR (evAll a x)).2) else mkX op n (seqR (evAll a x)).1 := by
  rw [evX, if_neg n1, if_neg n2, if_neg n3, if_neg n4, if_neg n5]
theorem evAll_getD {a : List Ex4} {i : Nat} {e : Ex4} (x : Vl) (h : a[i]? = some e) : (evAll a x).getD i rz = evX e x := by
  rw [evAll_eq]; exact getD_of (by rw [List.getElem?_map, h]; rfl)
theorem mkX_n {op : List UInt8} (h : op ≠ oAt) (n m : Int) (l : List Vl) : mkX op n l = mkX op m l := by
  unfold mkX; rw [if_neg h, if_neg h]
theorem bad1 {op : List UInt8} {v : Vl} {n : Int} {la : Nat} (h : badAr op v n la = false) {k : Nat} (hk : arR op = k) : la = k := by
  simp only [badAr, hk, Bool.or_eq_false_iff, Bool.and_eq_false_iff, decide_eq_false_iff_not] at h
  rcases h.1 with h1 | h1
  · exact absurd (by omega) h1
  · omega
theorem list1 {α : Type} {l : List α} (h : l.length = 1) : ∃ x, l = [x] := by
  match l, h with
  | [x], _ => exact ⟨x, rfl⟩
theorem list2 {α : Type} {l : List α} (h : l.length = 2) : ∃ x y, l = [x, y] := by
  match l, h with
  | [x, y], _ => exact ⟨x, y, rfl⟩
theorem mul_le_tr {a b S B : Nat} (h : a ≤ b) (h2 : b * S ≤ B) : a * S ≤ B := Nat.le_trans (Nat.mul_le_mul_right _ h) h2
theorem eval_Eval {E : Enc} (hE : E = .std) : ∀ (m : Nat) (e : Ex4) (x : Vl) (t : Ty) (d : Nat), SizeOf.sizeOf e ≤ m → plainT (typV x) → strB x → chkR e (typV x) d = (t, 0) → szX e * (1 + szV x) ≤ 2 ^ 28 → szX e ≤ 2 ^ 27 →
    CallsV Try.prog 86 [E.ex e, E.vl x] (pR E (evX e x)) [] := by
  intro m
  induction m with
  | zero => intro e x t d h; cases e; simp at h
  | succ m ih =>
    rintro ⟨op, v, n, a⟩ x t d hm hp hs hc hz1 hz2
    obtain ⟨g1, g2, g3, g4, h⟩ := chkR_inv hc
    have hfitT := evX_fit _ ⟨op, v, n, a⟩ x t d (Nat.le_refl _) hp hs hc
    rcases h with ⟨rfl, h1, rfl⟩ | ⟨rfl, rfl⟩ | ⟨n1, n2, ts, h1, h2⟩
    · rw [evX, if_pos rfl]; exact Eval_lit hE v n a x
    · rw [evX, if_neg (by decide), if_pos rfl]; exact Eval_x hE v n a x
    obtain ⟨h3, h4⟩ := chkRs_inv h1
    have hszX : szX ⟨op, v, n, a⟩ = 1 + szV v + szXs a := by rw [szX]
    have hsub : ∀ e', e' ∈ a → CallsV Try.prog 86 [E.ex e', E.vl x] (pR E (evX e' x)) [] := fun e' he => by
      obtain ⟨i, hi⟩ := List.getElem?_of_mem he
      obtain ⟨t2, h5, h6⟩ := h4 i e' hi
      have h7 := List.sizeOf_lt_of_mem he
      have h8 := szXs_mem he
      simp at hm
      exact ih e' x t2 (d + 1) (by omega) hp hs h6 (mul_le_tr (by omega) hz1) (by omega)
    have hfit : ∀ (i : Nat) (e' : Ex4) (t' : Ty), a[i]? = some e' → ts[i]? = some t' → Fit (evX e' x) t' := by
      intro i e' t' he ht'
      obtain ⟨t2, h5, h6⟩ := h4 i e' he
      rw [ht'] at h5; cases h5
      exact evX_fit _ e' x t' (d + 1) (Nat.le_refl _) hp hs h6
    have hlen := szXs_len a
    by_cases hop : op = oAnd ∨ op = oOr ∨ op = oIf
    · have hlen2 : 2 ≤ a.length := by
        rcases hop with rfl | rfl | rfl
        · have := bad1 (k := 2) g2 rfl; omega
        · have := bad1 (k := 2) g2 rfl; omega
        · have := bad1 (k := 3) g2 rfl; omega
      obtain ⟨a0, hx0, hm0, _, _⟩ := atk a 0 (by omega)
      obtain ⟨a1, hx1, hm1, _, _⟩ := atk a 1 (by omega)
      have c0 := hsub a0 hm0
      have c1 := hsub a1 hm1
      have hch := Eval_ch hE op v n a x hop a0 hx0 (evX a0 x) c0
      have d0 := evAll_getD x hx0
      have d1 := evAll_getD x hx1
      have f0 := hfit 0 a0 (ts[0]'(by omega)) hx0 (List.getElem?_eq_getElem (by omega))
      obtain ⟨k1, k2, k3⟩ := hch
      rw [evX, if_neg n1, if_neg n2]
      by_cases hz0 : (evX a0 x).2 = 0
      case neg =>
        have e0 : evX a0 x = (.zero, (evX a0 x).2) := by rw [← f0.no hz0]
        have k1 := k1 hz0
        rw [e0] at k1
        rcases hop with rfl | rfl | rfl
        · rw [if_pos rfl, d0, if_pos hz0]; exact k1
        · rw [if_neg (by decide), if_pos rfl, d0, if_pos hz0]; exact k1
        · rw [if_neg (by decide), if_neg (by decide), if_pos rfl, d0, if_pos hz0]; exact k1
      case pos =>
        have k2 := k2 hz0
        have k3 := fun j aj h1 h2 h3 => k3 j aj (evX aj x) hz0 h1 h2 h3
        rcases hop with rfl | rfl | rfl
        · rw [if_pos rfl, d0, if_neg (by simpa using hz0), d1]
          by_cases hb : (evX a0 x).1.b = true
          · rw [if_pos hb]
            exact k3 0 a1 (by rw [hb]; decide) hx1 c1
          · rw [if_neg hb]
            exact k2 (by rw [Bool.not_eq_true] at hb; rw [hb]; decide)
        · rw [if_neg (by decide), if_pos rfl, d0, if_neg (by simpa using hz0), d1]
          by_cases hb : (evX a0 x).1.b = true
          · rw [if_pos hb]
            exact k2 (by rw [hb]; decide)
          · rw [if_neg hb]
            exact k3 0 a1 (by rw [Bool.not_eq_true] at hb; rw [hb]; decide) hx1 c1
        · have hl3 := bad1 (k := 3) g2 rfl
          obtain ⟨a2, hx2, hm2, _, _⟩ := atk a 2 (by omega)
          have c2 := hsub a2 hm2
          have d2 := evAll_getD x hx2
          rw [if_neg (by decide), if_neg (by decide), if_pos rfl, d0, if_neg (by simpa using hz0), d1, d2]
          by_cases hb : (evX a0 x).1.b = true
          · rw [if_pos hb]
            exact k3 0 a1 (by rw [hb]; decide) hx1 c1
          · rw [if_neg hb]
            exact k3 1 a2 (by rw [Bool.not_eq_true] at hb; rw [hb]; decide) hx2 c2
    · simp only [not_or] at hop
      obtain ⟨n3, n4, n5⟩ := hop
      have cA := eval_all hE a x (fun e he => hsub e he) (by omega)
      rw [evX_no n1 n2 n3 n4 n5] at hfitT ⊢
      have hrl : (seqR (evAll a x)).2 = 0 → typVs (seqR (evAll a x)).1 = ts ∧ strBs (seqR (evAll a x)).1 := fun h0 => by
        obtain ⟨e1, e2⟩ := seqR_len (evAll a x) h0
        have hr : ∀ (i : Nat) (r : Vl × Int) (t' : Ty), (evAll a x)[i]? = some r → ts[i]? = some t' → Fit r t' := fun i r t' hr ht' => by
          rw [evAll_eq, List.getElem?_map] at hr
          obtain ⟨e', he, rfl⟩ := Option.map_eq_some_iff.1 hr
          exact hfit i e' t' he ht'
        have hlen : (evAll a x).length = a.length := by rw [evAll_eq, List.length_map]
        rw [e1]
        refine ⟨list_eq_typVs (by omega) (fun i r t' h7 h8 => ((hr i r t' h7 h8).ok (e2 r (List.mem_of_getElem? h7))).1), strBs_of (fun w hw => ?_)⟩
        obtain ⟨r, hrm, rfl⟩ := List.mem_map.1 hw
        obtain ⟨i, hi⟩ := List.getElem?_of_mem hrm
        have hlt : i < ts.length := by have := (List.getElem?_eq_some_iff.1 hi).1; omega
        exact ((hr i r _ hi (List.getElem?_eq_getElem hlt)).ok (e2 r hrm)).2
      have hrz : szVs (seqR (evAll a x)).1 ≤ 2 ^ 28 := by
        have := seqR_sz (evAll a x) (a.map fun e => szX e * (1 + szV x)) (by rw [evAll_eq, List.length_map, List.length_map]) (fun i r b h1 h2 => by
          rw [evAll_eq, List.getElem?_map] at h1
          obtain ⟨e', he, rfl⟩ := Option.map_eq_some_iff.1 h1
          rw [List.getElem?_map, he] at h2
          cases h2
          exact evX_sz x _ e' (Nat.le_refl _))
        rw [sum_mul] at this
        exact Nat.le_trans this (mul_le_tr (by omega) hz1)
      generalize seqR (evAll a x) = R at cA hrl hrz hfitT ⊢
      obtain ⟨ls, f⟩ := R
      dsimp only at cA hrl hrz hfitT ⊢
      obtain ⟨k1, k2, k3, k4, k5⟩ := Eval_gen hE op v n a x n1 n2 n3 n4 n5 ls f cA
      by_cases hf : f = 0
      case neg => rw [if_pos hf]; exact k1 hf
      rw [if_neg (by simpa using hf)] at hfitT ⊢
      obtain ⟨ht, hstr⟩ := hrl hf
      have hll : ls.length = a.length := by rw [← typVs_len, ht, h3]
      have hlz := szVs_len ls
      have hme := arR_mem g1
      simp only [opsR, List.mem_cons, List.mem_nil_iff, or_false] at hme
      by_cases hat : op = oAt
      · subst hat
        have hl1 := bad1 (k := 1) g2 rfl
        obtain ⟨v0, rfl⟩ := list1 (l := ls) (by omega)
        have : mkX oAt n [v0] = (v0.t.getD n.toNat .zero, 0) := rfl
        rw [this]
        rw [← ht] at h2
        simp only [opR, if_pos] at h2
        rw [typVs_getD [v0] 0 (by simp), typV_kind, typV_of] at h2
        have hD : [v0].getD 0 Vl.zero = v0 := rfl
        rw [hD] at h2
        split at h2
        · cases h2
        split at h2
        · cases h2
        rename_i h6 h7
        have hlt : n.toNat < v0.t.length := by rw [typVs_len] at h7; omega
        rw [getD_of (List.getElem?_eq_getElem hlt)]
        exact k2 hf rfl v0 _ rfl (by omega) (List.getElem?_eq_getElem hlt)
      by_cases htu : op = oTup
      · subst htu
        exact k3 hf rfl (by omega)
      have hone : ∀ v0, v0 ∈ ls → strB v0 ∧ szV v0 ≤ 2 ^ 28 := fun v0 hv0 => ⟨strBs_mem hstr hv0, Nat.le_trans (szVs_mem hv0) hrz⟩
      by_cases hu : op = oNeg ∨ op = oNot ∨ op = oLen
      · have hl1 : a.length = 1 := by
          rcases hu with rfl | rfl | rfl
          · exact bad1 (k := 1) g2 rfl
          · exact bad1 (k := 1) g2 rfl
          · exact bad1 (k := 1) g2 rfl
        obtain ⟨v0, rfl⟩ := list1 (l := ls) (by omega)
        have c := eval_One hE op hu v0 (hone v0 (by simp)).1
        have c := k4 hf hat htu v0 _ rfl c
        rw [mkX_n hat n 0]
        rcases hu with rfl | rfl | rfl <;> exact c
      · have hb : op = oAdd ∨ op = oSub ∨ op = oMul ∨ op = oDiv ∨ op = oRem ∨ op = oEq ∨ op = oLt ∨ op = oCat := by
          simp only [not_or] at hu
          rcases hme with h | h | h | h | h | h | h | h | h | h | h | h | h | h | h | h | h | h
          · exact absurd h n1
          · exact absurd h n2
          · exact absurd h hat
          · exact absurd h htu
          · exact absurd h hu.1
          · exact absurd h hu.2.1
          · exact absurd h hu.2.2
          · exact .inl h
          · exact .inr (.inl h)
          · exact .inr (.inr (.inl h))
          · exact .inr (.inr (.inr (.inl h)))
          · exact .inr (.inr (.inr (.inr (.inl h))))
          · exact .inr (.inr (.inr (.inr (.inr (.inl h)))))
          · exact .inr (.inr (.inr (.inr (.inr (.inr (.inl h))))))
          · exact absurd h n3
          · exact absurd h n4
          · exact .inr (.inr (.inr (.inr (.inr (.inr (.inr h))))))
          · exact absurd h n5
        have hl1 : a.length = 2 := by
          rcases hb with rfl | rfl | rfl | rfl | rfl | rfl | rfl | rfl <;> exact bad1 (k := 2) g2 rfl
        obtain ⟨v0, v1, rfl⟩ := list2 (l := ls) (by omega)
        have o0 := hone v0 (by simp)
        have o1 := hone v1 (by simp)
        have c := eval_Both hE op hb v0 v1 o0.2 o1.2 o0.1 o1.1
        rw [mkX_n hat n 0]
        exact k5 hf hat htu v0 v1 _ rfl c
end Go.Proofs.Ytnojmocoifodjaa.Pv
set_option maxRecDepth 100000
set_option maxHeartbeats 4000000
set_option linter.unusedVariables false
set_option linter.unusedSimpArgs false
set_option linter.unusedSectionVars false
namespace Go.Proofs.Ytnojmocoifodjaa.Pv
open Go Go.Proofs
def appO (o : Opn) (x : Vl) : List Vl × Int :=
  if o.kind = 2 ∨ o.kind = 3 ∨ o.kind = 4 then
    (if (seqR (evAll o.e x)).2 ≠ 0 then ([], (seqR (evAll o.e x)).2)
     else if o.kind = 3 then (if ((seqR (evAll o.e x)).1.getD 0 .zero).b = true then ([x], 0) else ([], 0))
     else seqR (evAll o.e x))
  else ([x], 0)
section
variable {E : Enc} (hE : E = .std)
include hE
theorem op_Apply (o : Opn) (x : Vl) (hf : o.kind = 2 ∨ o.kind = 3 ∨ o.kind = 4 → ∀ e, e ∈ o.e → CallsV Try.prog 86 [E.ex e, E.vl x] (pR E (evX e x)) []) (hl : o.e.length < 2 ^ 29) (h3 : o.kind = 3 → 1 ≤ o.e.length) :
    CallsV Try.prog 49 [E.opn o, E.vl x] (.tup [.pv (.view (E .vls (appO o x).1)), .pv (.int .i64 (appO o x).2)]) [] := by
  obtain ⟨A, hA⟩ : ∃ A : Ar, A = .std := ⟨_, rfl⟩
  obtain ⟨kind, name, ⟨tk, tl⟩, l, ⟨kop, ⟨kvk, kvi, kvb, kvs, kvt⟩, kn, ka⟩, fold, nn⟩ := o
  dsimp only at hf hl h3
  have q2 : A .eq kind 2 = decide (kind = 2) := Ar.eq_eq hA _ _
  have q3 : A .eq kind 3 = decide (kind = 3) := Ar.eq_eq hA _ _
  have q4 : A .eq kind 4 = decide (kind = 4) := Ar.eq_eq hA _ _
  have hv0 := vls0 hE
  have hv1 : E .vls [x] = [E.vl x] := by rw [E.vls_eq hE]; rfl
  unfold appO
  dsimp only
  obtain ⟨ln, hln⟩ : ∃ n, n = l.length := ⟨_, rfl⟩
  have hll : A .lenP (E .exs l) = Int.ofNat ln := by rw [Ar.lenP_eq hA, exs_len hE, hln]; rfl
  obtain ⟨R, hR⟩ : ∃ R, R = seqR (evAll l x) := ⟨_, rfl⟩
  have hR0 : comb [] (seqR (evAll (l.drop 0) x)) = R := by rw [List.drop_zero, comb_nil _ (seqR_no _), hR]
  have hlen : R.2 = 0 → R.1.length = ln := fun h => by
    rw [hR] at h ⊢
    rw [(seqR_len _ h).1, List.length_map, evAll_eq, List.length_map, hln]
  rw [← hR]
  by_cases hk : kind = 2 ∨ kind = 3 ∨ kind = 4
  case neg =>
    rw [if_neg hk]
    simp only [not_or] at hk
    rw [decide_eq_false hk.1] at q2
    rw [decide_eq_false hk.2.1] at q3
    rw [decide_eq_false hk.2.2] at q4
    dsimp only
    rw [hv1]
    obtain ⟨xk, xi, xb, xs, xt⟩ := x
    refine CallsV.ok (fn := Try.f49) (by kernel_rfl) (by kernel_rfl) rfl (by cbv) (by cbv) ?_
    repeat (first | (apply Ok.run1 hmix hA false 2000; focus (cbv; done)) | (apply Ok.one hmix hA; focus (cbv; done)) | (rw [Ar.notT hA]) | (rw [Ar.notF hA]) | (refine Ok.condT ?_ ?_; focus (cbv; done)) | (refine Ok.condF ?_ ?_; focus (cbv; done)) | (refine Ok.drawnE (by as_aux_lemma => kernel_rfl) ?_) | (apply Ok.leave) | (apply Ok.leaveRet) | (rw [q2]) | (rw [q3]) | (rw [q4]))
    (first | (apply Ok.finO1; (focus (cbv; done)); (focus (cbv; done)); (focus (first | exact trivial | (simp only [obsOk, and_true, Ar.inc_eq hA, Ar.snoc_eq hA, List.length_append, List.length_singleton, List.length_nil] <;> first | assumption | omega | (constructor <;> omega))))) | (apply Ok.finO2; (focus (cbv; done)); (focus (cbv; done)); (focus (first | exact trivial | (simp only [obsOk, and_true, Ar.inc_eq hA, Ar.snoc_eq hA, List.length_append, List.length_singleton, List.length_nil] <;> first | assumption | omega | (constructor <;> omega))))) | (apply Ok.finO3; (focus (cbv; done)); (focus (cbv; done)); (focus (first | exact trivial | (simp only [obsOk, and_true, Ar.inc_eq hA, Ar.snoc_eq hA, List.length_append, List.length_singleton, List.length_nil] <;> first | assumption | omega | (constructor <;> omega))))))
    all_goals rfl
  rw [if_pos hk]
  have hf := hf hk
  unfold pR at hf
  have hkk : ∀ c3 : Bool, A .eq kind 3 = c3 → decide (kind = 3) = c3 → CallsV Try.prog 49 [E.opn ⟨kind, name, ⟨tk, tl⟩, l, ⟨kop, ⟨kvk, kvi, kvb, kvs, kvt⟩, kn, ka⟩, fold, nn⟩, E.vl x] (.tup [.pv (.view (E .vls (if R.2 ≠ 0 then ([], R.2) else if kind = 3 then (if (R.1.getD 0 .zero).b = true then ([x], 0) else ([], 0)) else R).1)), .pv (.int .i64 (if R.2 ≠ 0 then ([], R.2) else if kind = 3 then (if (R.1.getD 0 .zero).b = true then ([x], 0) else ([], 0)) else R).2)]) [] := by
    intro c3 q3 h3c
    have hpre : (A .eq kind 2 = true ∧ c3 = false) ∨ (A .eq kind 2 = false ∧ (c3 = true ∨ (c3 = false ∧ A .eq kind 4 = true))) := by
      rw [q2, q4, ← h3c]
      rcases hk with h | h | h <;> simp [h]
    obtain ⟨T, hT⟩ : ∃ T, T = (if R.2 ≠ 0 then ([], R.2) else if kind = 3 then (if (R.1.getD 0 .zero).b = true then ([x], 0) else ([], 0)) else R) := ⟨_, rfl⟩
    rw [← hT]
    -- the loop, and what stands behind it
    have body : ∀ (c2 c4 : Bool), A .eq kind 2 = c2 → A .eq kind 4 = c4 → ((c2 = true ∧ c3 = false) ∨ (c2 = false ∧ (c3 = true ∨ (c3 = false ∧ c4 = true)))) → CallsV Try.prog 49 [E.opn ⟨kind, name, ⟨tk, tl⟩, l, ⟨kop, ⟨kvk, kvi, kvb, kvs, kvt⟩, kn, ka⟩, fold, nn⟩, E.vl x] (.tup [.pv (.view (E .vls T.1)), .pv (.int .i64 T.2)]) [] := by
      intro c2 c4 q2 q4 hc
      obtain ⟨xk, xi, xb, xs, xt⟩ := x
      have fin : ∀ {rs : List Rs} {k : List Kf} {s : Slots} {h : HL}, True := fun {_ _ _ _} => trivial
      refine CallsV.ok (fn := Try.f49) (by kernel_rfl) (by kernel_rfl) rfl (by cbv) (by cbv) ?_
      rcases hc with ⟨rfl, rfl⟩ | ⟨rfl, rfl | ⟨rfl, rfl⟩⟩
      all_goals
        repeat (first | (apply Ok.run1 hmix hA false 2000; focus (cbv; done)) | (apply Ok.one hmix hA; focus (cbv; done)) | (rw [Ar.notT hA]) | (rw [Ar.notF hA]) | (refine Ok.condT ?_ ?_; focus (cbv; done)) | (refine Ok.condF ?_ ?_; focus (cbv; done)) | (refine Ok.drawnE (by as_aux_lemma => kernel_rfl) ?_) | (apply Ok.leave) | (apply Ok.leaveRet) | (rw [q2]) | (rw [q3]) | (rw [q4]) | (rw [hll]))
        refine Ok.le (Le.nil 6 500 28 5 (by cbv) (by cbv) (by decide)) ?_
        refine Ok.loopL (σ := Nat × Nat × List PV × List Vl) (fun (xx : Nat × Nat × List PV × List Vl) => match xx with | (k, n, es, pre) => [(6, .ref 500 n), (22, .pv (.int .i64 (Int.ofNat k)))]) (fun (xx : Nat × Nat × List PV × List Vl) => match xx with | (k, n, es, pre) => [(500, .row 28 5 es true)]) (fun (xx : Nat × Nat × List PV × List Vl) => match xx with | (k, n, es, pre) => ln - k) (fun (xx : Nat × Nat × List PV × List Vl) => match xx with | (k, n, es, pre) => k ≤ ln ∧ n = pre.length ∧ n = k ∧ es = E .vls pre ∧ comb pre (seqR (evAll (l.drop k) ⟨xk, xi, xb, xs, xt⟩)) = R) (0, 0, [], []) (by cbv) (by cbv) (by cbv) (by cbv) (by cbv) (by cbv) (by cbv) ?_ ?_
        · exact ⟨Nat.zero_le _, rfl, rfl, hv0.symm, hR0⟩
        rintro ⟨k, n, es, pre⟩ ⟨hk, hn, hnk, hes, hRk⟩
        dsimp only at hk hn hnk hes hRk ⊢
        have hesl : n = es.length := by rw [hes, vls_len hE, hn]
        have e6 : A .lt (Int.ofNat k) (Int.ofNat ln) = decide (k < ln) := ofNat_lt hA k ln
        by_cases hkl : k < ln
        · rw [decide_eq_true hkl] at e6
          obtain ⟨e, hx, hxm, _, hdl⟩ := atk l k (by omega)
          have hx' : (E .exs l)[k]? = some (E.ex e) := by rw [E.exs_eq hE]; exact at_map _ hx
          have cx := hf e hxm
          rw [hdl, evAll] at hRk
          generalize hr : evX e ⟨xk, xi, xb, xs, xt⟩ = r at cx hRk
          obtain ⟨v, z⟩ := r
          have hsk := Ar.succ_eq (k := k) hA (by omega)
          by_cases hz : z = 0
          · subst hz
            have q0 : A .eq 0 0 = true := by rw [Ar.eq_eq hA]; rfl
            rw [comb_step _ _ _ rfl] at hRk
            have hnb : n < 2 ^ 30 := by omega
            repeat (first | (apply Ok.run1 hmix hA false 2000; focus (cbv; done)) | (apply Ok.one hmix hA; focus (cbv; done)) | (rw [Ar.notT hA]) | (rw [Ar.notF hA]) | (refine Ok.condT ?_ ?_; focus (cbv; done)) | (refine Ok.condF ?_ ?_; focus (cbv; done)) | (refine Ok.drawnE (by as_aux_lemma => kernel_rfl) ?_) | (apply Ok.leave) | (apply Ok.leaveRet) | (apply Ok.callO (cx); (focus (cbv; done)); (focus (cbv; done)); (focus (first | exact trivial | (simp only [obsOk, and_true, Ar.inc_eq hA, Ar.snoc_eq hA, List.length_append, List.length_singleton, List.length_nil] <;> first | assumption | omega | (constructor <;> omega)))); (focus (cbv; done))) | (apply Ok.dcallO (cx); (focus (cbv; done)); (focus (cbv; done)); (focus (first | exact trivial | (simp only [obsOk, and_true, Ar.inc_eq hA, Ar.snoc_eq hA, List.length_append, List.length_singleton, List.length_nil] <;> first | assumption | omega | (constructor <;> omega)))); (focus (cbv; done))) | (apply Ok.idxK (hx'); (focus (cbv; done)); (focus (cbv; done)); (focus (cbv; done)); (focus (cbv; done))) | (apply Ok.didxK (hx'); (focus (cbv; done)); (focus (cbv; done)); (focus (cbv; done)); (focus (cbv; done))) | (apply Ok.sidxK (hx'); (focus (cbv; done)); (focus (cbv; done)); (focus (cbv; done))) | (apply Ok.dsidxK (hx'); (focus (cbv; done)); (focus (cbv; done)); (focus (cbv; done))) | (apply Ok.appK hA hesl hnb; (focus (cbv; done)); (focus (cbv; done)); (focus (cbv; done)); (focus (cbv; done)); (focus (cbv; done)); (focus (cbv; done)); (focus (cbv; done))) | (apply Ok.dappK hA hesl hnb; (focus (cbv; done)); (focus (cbv; done)); (focus (cbv; done)); (focus (cbv; done)); (focus (cbv; done)); (focus (cbv; done)); (focus (cbv; done))) | (rw [hll]) | (rw [e6]) | (rw [q0]) | (rw [hsk]))
            refine Ok.again ((k + 1, A .inc n, A .snoc es (E.vl v), pre ++ [v])) (by (try dsimp only); omega) ?_ (by cbv) (by cbv) (by cbv)
            exact ⟨by omega, by rw [Ar.inc_eq hA, hn]; simp, by rw [Ar.inc_eq hA, hnk], by rw [Ar.snoc_eq hA, hes, E.vls_eq hE, E.vls_eq hE]; simp, hRk⟩
          · have q0 : A .eq z 0 = false := by rw [Ar.eq_eq hA]; simpa using hz
            rw [comb_stop _ _ _ hz] at hRk
            have hTz : T = ([], z) := by rw [hT, ← hRk, if_pos hz]
            rw [hTz, hv0]
            dsimp only
            repeat (first | (apply Ok.run1 hmix hA false 2000; focus (cbv; done)) | (apply Ok.one hmix hA; focus (cbv; done)) | (rw [Ar.notT hA]) | (rw [Ar.notF hA]) | (refine Ok.condT ?_ ?_; focus (cbv; done)) | (refine Ok.condF ?_ ?_; focus (cbv; done)) | (refine Ok.drawnE (by as_aux_lemma => kernel_rfl) ?_) | (apply Ok.leave) | (apply Ok.leaveRet) | (apply Ok.callO (cx); (focus (cbv; done)); (focus (cbv; done)); (focus (first | exact trivial | (simp only [obsOk, and_true, Ar.inc_eq hA, Ar.snoc_eq hA, List.length_append, List.length_singleton, List.length_nil] <;> first | assumption | omega | (constructor <;> omega)))); (focus (cbv; done))) | (apply Ok.dcallO (cx); (focus (cbv; done)); (focus (cbv; done)); (focus (first | exact trivial | (simp only [obsOk, and_true, Ar.inc_eq hA, Ar.snoc_eq hA, List.length_append, List.length_singleton, List.length_nil] <;> first | assumption | omega | (constructor <;> omega)))); (focus (cbv; done))) | (apply Ok.idxK (hx'); (focus (cbv; done)); (focus (cbv; done)); (focus (cbv; done)); (focus (cbv; done))) | (apply Ok.didxK (hx'); (focus (cbv; done)); (focus (cbv; done)); (focus (cbv; done)); (focus (cbv; done))) | (apply Ok.sidxK (hx'); (focus (cbv; done)); (focus (cbv; done)); (focus (cbv; done))) | (apply Ok.dsidxK (hx'); (focus (cbv; done)); (focus (cbv; done)); (focus (cbv; done))) | (rw [hll]) | (rw [e6]) | (rw [q0]))
            (first | (apply Ok.finO1; (focus (cbv; done)); (focus (cbv; done)); (focus (first | exact trivial | (simp only [obsOk, and_true, Ar.inc_eq hA, Ar.snoc_eq hA, List.length_append, List.length_singleton, List.length_nil] <;> first | assumption | omega | (constructor <;> omega))))) | (apply Ok.finO2; (focus (cbv; done)); (focus (cbv; done)); (focus (first | exact trivial | (simp only [obsOk, and_true, Ar.inc_eq hA, Ar.snoc_eq hA, List.length_append, List.length_singleton, List.length_nil] <;> first | assumption | omega | (constructor <;> omega))))) | (apply Ok.finO3; (focus (cbv; done)); (focus (cbv; done)); (focus (first | exact trivial | (simp only [obsOk, and_true, Ar.inc_eq hA, Ar.snoc_eq hA, List.length_append, List.length_singleton, List.length_nil] <;> first | assumption | omega | (constructor <;> omega))))))
            all_goals rfl
        · rw [decide_eq_false hkl] at e6
          have hke : l.drop k = [] := List.drop_eq_nil_iff.2 (by omega)
          rw [hke] at hRk
          have hRk : (pre, 0) = R := by rw [← hRk]; simp [comb, evAll, seqR]
          have hT2 : T = if kind = 3 then (if (pre.getD 0 .zero).b = true then ([⟨xk, xi, xb, xs, xt⟩], 0) else ([], 0)) else (pre, 0) := by rw [hT, ← hRk, if_neg (by simp)]
          repeat (first | (apply Ok.run1 hmix hA false 2000; focus (cbv; done)) | (apply Ok.one hmix hA; focus (cbv; done)) | (rw [Ar.notT hA]) | (rw [Ar.notF hA]) | (refine Ok.condT ?_ ?_; focus (cbv; done)) | (refine Ok.condF ?_ ?_; focus (cbv; done)) | (refine Ok.drawnE (by as_aux_lemma => kernel_rfl) ?_) | (apply Ok.leave) | (apply Ok.leaveRet) | (rw [hll]) | (rw [e6]) | (rw [q3]))
          first
          | (have hk3 : kind ≠ 3 := by simpa using h3c
             rw [if_neg hk3] at hT2
             rw [hT2]
             dsimp only
             rw [← hes]
             repeat (first | (apply Ok.run1 hmix hA false 2000; focus (cbv; done)) | (apply Ok.one hmix hA; focus (cbv; done)) | (rw [Ar.notT hA]) | (rw [Ar.notF hA]) | (refine Ok.condT ?_ ?_; focus (cbv; done)) | (refine Ok.condF ?_ ?_; focus (cbv; done)) | (refine Ok.drawnE (by as_aux_lemma => kernel_rfl) ?_) | (apply Ok.leave) | (apply Ok.leaveRet))
             (first | (apply Ok.finO1; (focus (cbv; done)); (focus (cbv; done)); (focus (first | exact trivial | (simp only [obsOk, and_true, Ar.inc_eq hA, Ar.snoc_eq hA, List.length_append, List.length_singleton, List.length_nil] <;> first | assumption | omega | (constructor <;> omega))))) | (apply Ok.finO2; (focus (cbv; done)); (focus (cbv; done)); (focus (first | exact trivial | (simp only [obsOk, and_true, Ar.inc_eq hA, Ar.snoc_eq hA, List.length_append, List.length_singleton, List.length_nil] <;> first | assumption | omega | (constructor <;> omega))))) | (apply Ok.finO3; (focus (cbv; done)); (focus (cbv; done)); (focus (first | exact trivial | (simp only [obsOk, and_true, Ar.inc_eq hA, Ar.snoc_eq hA, List.length_append, List.length_singleton, List.length_nil] <;> first | assumption | omega | (constructor <;> omega))))))
             all_goals rfl)
          | (have hk3 : kind = 3 := by simpa using h3c
             rw [if_pos hk3] at hT2
             have h1 := h3 hk3
             cases pre with
             | nil => simp at hn; omega
             | cons v pre' =>
               have hx0 : es[0]? = some (E.vl v) := by rw [hes, E.vls_eq hE]; rfl
               have hD : (v :: pre').getD 0 Vl.zero = v := rfl
               rw [hD] at hT2
               obtain ⟨vk, vi, vb, vs, vt⟩ := v
               dsimp only at hT2
               have qn : A .not vb = !vb := Ar.not_eq hA _
               refine Ok.op (idx_ref (by cbv) (by cbv) (by cbv) hesl 0 (by rfl) (by omega)) ?_
               repeat (first | (apply Ok.run1 hmix hA false 2000; focus (cbv; done)) | (apply Ok.one hmix hA; focus (cbv; done)) | (rw [Ar.notT hA]) | (rw [Ar.notF hA]) | (refine Ok.condT ?_ ?_; focus (cbv; done)) | (refine Ok.condF ?_ ?_; focus (cbv; done)) | (refine Ok.drawnE (by as_aux_lemma => kernel_rfl) ?_) | (apply Ok.leave) | (apply Ok.leaveRet))
               refine Ok.op (fld_eptr (by cbv) (by cbv) hesl) ?_
               repeat (first | (apply Ok.run1 hmix hA false 2000; focus (cbv; done)) | (apply Ok.one hmix hA; focus (cbv; done)) | (rw [Ar.notT hA]) | (rw [Ar.notF hA]) | (refine Ok.condT ?_ ?_; focus (cbv; done)) | (refine Ok.condF ?_ ?_; focus (cbv; done)) | (refine Ok.drawnE (by as_aux_lemma => kernel_rfl) ?_) | (apply Ok.leave) | (apply Ok.leaveRet))
               refine Ok.op (load_eptr (by cbv) (by cbv) hesl (E.vl ⟨vk, vi, vb, vs, vt⟩) hx0 (.bool vb) (by cbv)) ?_
               cases vb with
               | true =>
                 rw [if_pos rfl] at hT2
                 rw [hT2]
                 dsimp only
                 rw [hv1]
                 repeat (first | (apply Ok.run1 hmix hA false 2000; focus (cbv; done)) | (apply Ok.one hmix hA; focus (cbv; done)) | (rw [Ar.notT hA]) | (rw [Ar.notF hA]) | (refine Ok.condT ?_ ?_; focus (cbv; done)) | (refine Ok.condF ?_ ?_; focus (cbv; done)) | (refine Ok.drawnE (by as_aux_lemma => kernel_rfl) ?_) | (apply Ok.leave) | (apply Ok.leaveRet) | (rw [Ar.notT hA]))
                 (first | (apply Ok.finO1; (focus (cbv; done)); (focus (cbv; done)); (focus (first | exact trivial | (simp only [obsOk, and_true, Ar.inc_eq hA, Ar.snoc_eq hA, List.length_append, List.length_singleton, List.length_nil] <;> first | assumption | omega | (constructor <;> omega))))) | (apply Ok.finO2; (focus (cbv; done)); (focus (cbv; done)); (focus (first | exact trivial | (simp only [obsOk, and_true, Ar.inc_eq hA, Ar.snoc_eq hA, List.length_append, List.length_singleton, List.length_nil] <;> first | assumption | omega | (constructor <;> omega))))) | (apply Ok.finO3; (focus (cbv; done)); (focus (cbv; done)); (focus (first | exact trivial | (simp only [obsOk, and_true, Ar.inc_eq hA, Ar.snoc_eq hA, List.length_append, List.length_singleton, List.length_nil] <;> first | assumption | omega | (constructor <;> omega))))))
                 all_goals rfl
               | false =>
                 rw [if_neg (by simp)] at hT2
                 rw [hT2]
                 dsimp only
                 rw [hv0]
                 repeat (first | (apply Ok.run1 hmix hA false 2000; focus (cbv; done)) | (apply Ok.one hmix hA; focus (cbv; done)) | (rw [Ar.notT hA]) | (rw [Ar.notF hA]) | (refine Ok.condT ?_ ?_; focus (cbv; done)) | (refine Ok.condF ?_ ?_; focus (cbv; done)) | (refine Ok.drawnE (by as_aux_lemma => kernel_rfl) ?_) | (apply Ok.leave) | (apply Ok.leaveRet) | (rw [Ar.notF hA]))
                 (first | (apply Ok.finO1; (focus (cbv; done)); (focus (cbv; done)); (focus (first | exact trivial | (simp only [obsOk, and_true, Ar.inc_eq hA, Ar.snoc_eq hA, List.length_append, List.length_singleton, List.length_nil] <;> first | assumption | omega | (constructor <;> omega))))) | (apply Ok.finO2; (focus (cbv; done)); (focus (cbv; done)); (focus (first | exact trivial | (simp only [obsOk, and_true, Ar.inc_eq hA, Ar.snoc_eq hA, List.length_append, List.length_singleton, List.length_nil] <;> first | assumption | omega | (constructor <;> omega))))) | (apply Ok.finO3; (focus (cbv; done)); (focus (cbv; done)); (focus (first | exact trivial | (simp only [obsOk, and_true, Ar.inc_eq hA, Ar.snoc_eq hA, List.length_append, List.length_singleton, List.length_nil] <;> first | assumption | omega | (constructor <;> omega))))))
                 all_goals rfl)
    exact body _ _ rfl rfl hpre
  exact hkk _ q3 rfl
end
end Go.Proofs.Ytnojmocoifodjaa.Pv
set_option maxRecDepth 100000
set_option maxHeartbeats 4000000
set_option linter.unusedVariables false
set_option linter.unusedSimpArgs false
namespace Go.Proofs.Ytnojmocoifodjaa.Pv
open Go Go.Proofs
theorem law7_known : CallsV Try.prog 48 [] (.pv (.bool true)) [] := ev_ok 30 (by kernel_rfl)
theorem cX : CallsV Try.prog 27 [] (.pv (.agg [.str [120], .int .i64 0, .int .i64 0, .bool false, .str [], .view [], .int .i64 0, .view []])) [] := ev_ok 30 (by kernel_rfl)
theorem cBool : CallsV Try.prog 30 [.bool true] (.pv (.agg [.int .i64 2, .int .i64 0, .bool true, .str [], .view []])) [] := ev_ok 30 (by kernel_rfl)
theorem cLit : CallsV Try.prog 29 [.agg [.int .i64 2, .int .i64 0, .bool true, .str [], .view []]] (.pv (.agg [.str [108, 105, 116], .int .i64 2, .int .i64 0, .bool true, .str [], .view [], .int .i64 0, .view []])) [] := ev_ok 30 (by kernel_rfl)
theorem law7_OpFields (n field : Nat) : CallsV Try.prog 12 [.int .u8 (Int.ofNat n), .int .u8 (Int.ofNat field)] (.pv (.bool true)) [] := by
  obtain ⟨k, hk⟩ : ∃ k, k = n % 9 := ⟨_, rfl⟩
  have hk9 : k < 9 := by omega
  obtain ⟨r, hr⟩ : ∃ r, r = field % 5 := ⟨_, rfl⟩
  have hr5 : r < 5 := by omega
  refine CallsV.ok (fn := Try.f12) (by kernel_rfl) (by kernel_rfl) rfl (by cbv) (by cbv) ?_
  refine Ok.run hmix (A := Ar.std) rfl true 2000 (by cbv) ?_
  refine Ok.call (law7_known) (by cbv) (by cbv) (by cbv) ?_
  refine Ok.run hmix (A := Ar.std) rfl true 2000 (by cbv) ?_
  refine Ok.condF (by cbv) ?_
  refine Ok.run hmix (A := Ar.std) rfl true 2000 (by cbv) ?_
  refine Ok.op (rem_op (by cbv) (by cbv) (by decide) (Int.ofNat k) (by rw [hk]; rfl)) ?_
  clear hk
  match k, hk9 with
  | 0, _ =>
    repeat (first | (apply Ok.run1 hmix (A := Ar.std) rfl true 2000; focus (cbv; done)) | (refine Ok.condT ?_ ?_; focus (cbv; done)) | (refine Ok.condF ?_ ?_; focus (cbv; done)) | (refine Ok.drawnE (by as_aux_lemma => kernel_rfl) ?_) | (apply Ok.call (cX); (focus (cbv; done)); (focus (cbv; done)); (focus (cbv; done))) | (apply Ok.dcall (cX); (focus (cbv; done)); (focus (cbv; done)); (focus (cbv; done))) | (apply Ok.call (cBool); (focus (cbv; done)); (focus (cbv; done)); (focus (cbv; done))) | (apply Ok.dcall (cBool); (focus (cbv; done)); (focus (cbv; done)); (focus (cbv; done))) | (apply Ok.call (cLit); (focus (cbv; done)); (focus (cbv; done)); (focus (cbv; done))) | (apply Ok.dcall (cLit); (focus (cbv; done)); (focus (cbv; done)); (focus (cbv; done))))
    (refine Ok.call (r := .tup [.pv (.agg [.int .i64 1, .view []]), .pv (.int .i64 0)]) (L := []) ?_ (by cbv) (by cbv) (by cbv) ?_; focus (exact ev_ok 30 (by as_aux_lemma => kernel_rfl)))
    repeat (first | (apply Ok.run1 hmix (A := Ar.std) rfl true 2000; focus (cbv; done)) | (refine Ok.condT ?_ ?_; focus (cbv; done)) | (refine Ok.condF ?_ ?_; focus (cbv; done)) | (refine Ok.drawnE (by as_aux_lemma => kernel_rfl) ?_))
    refine Ok.op (rem_op (by cbv) (by cbv) (by decide) (Int.ofNat r) (by rw [hr]; rfl)) ?_
    clear hr
    match r, hr5 with
    | 0, _ => exact Ok.evl (by as_aux_lemma => kernel_rfl)
    | 1, _ => exact Ok.evl (by as_aux_lemma => kernel_rfl)
    | 2, _ => exact Ok.evl (by as_aux_lemma => kernel_rfl)
    | 3, _ => exact Ok.evl (by as_aux_lemma => kernel_rfl)
    | 4, _ => exact Ok.evl (by as_aux_lemma => kernel_rfl)
  | 1, _ =>
    repeat (first | (apply Ok.run1 hmix (A := Ar.std) rfl true 2000; focus (cbv; done)) | (refine Ok.condT ?_ ?_; focus (cbv; done)) | (refine Ok.condF ?_ ?_; focus (cbv; done)) | (refine Ok.drawnE (by as_aux_lemma => kernel_rfl) ?_) | (apply Ok.call (cX); (focus (cbv; done)); (focus (cbv; done)); (focus (cbv; done))) | (apply Ok.dcall (cX); (focus (cbv; done)); (focus (cbv; done)); (focus (cbv; done))) | (apply Ok.call (cBool); (focus (cbv; done)); (focus (cbv; done)); (focus (cbv; done))) | (apply Ok.dcall (cBool); (focus (cbv; done)); (focus (cbv; done)); (focus (cbv; done))) | (apply Ok.call (cLit); (focus (cbv; done)); (focus (cbv; done)); (focus (cbv; done))) | (apply Ok.dcall (cLit); (focus (cbv; done)); (focus (cbv; done)); (focus (cbv; done))))
    (refine Ok.call (r := .tup [.pv (.agg [.int .i64 1, .view []]), .pv (.int .i64 0)]) (L := []) ?_ (by cbv) (by cbv) (by cbv) ?_; focus (exact ev_ok 30 (by as_aux_lemma => kernel_rfl)))
    repeat (first | (apply Ok.run1 hmix (A := Ar.std) rfl true 2000; focus (cbv; done)) | (refine Ok.condT ?_ ?_; focus (cbv; done)) | (refine Ok.condF ?_ ?_; focus (cbv; done)) | (refine Ok.drawnE (by as_aux_lemma => kernel_rfl) ?_))
    refine Ok.op (rem_op (by cbv) (by cbv) (by decide) (Int.ofNat r) (by rw [hr]; rfl)) ?_
    clear hr
    match r, hr5 with
    | 0, _ => exact Ok.evl (by as_aux_lemma => kernel_rfl)
    | 1, _ => exact Ok.evl (by as_aux_lemma => kernel_rfl)
    | 2, _ => exact Ok.evl (by as_aux_lemma => kernel_rfl)
    | 3, _ => exact Ok.evl (by as_aux_lemma => kernel_rfl)
    | 4, _ => exact Ok.evl (by as_aux_lemma => kernel_rfl)
  | 2, _ =>
    repeat (first | (apply Ok.run1 hmix (A := Ar.std) rfl true 2000; focus (cbv; done)) | (refine Ok.condT ?_ ?_; focus (cbv; done)) | (refine Ok.condF ?_ ?_; focus (cbv; done)) | (refine Ok.drawnE (by as_aux_lemma => kernel_rfl) ?_) | (apply Ok.call (cX); (focus (cbv; done)); (focus (cbv; done)); (focus (cbv; done))) | (apply Ok.dcall (cX); (focus (cbv; done)); (focus (cbv; done)); (focus (cbv; done))) | (apply Ok.call (cBool); (focus (cbv; done)); (focus (cbv; done)); (focus (cbv; done))) | (apply Ok.dcall (cBool); (focus (cbv; done)); (focus (cbv; done)); (focus (cbv; done))) | (apply Ok.call (cLit); (focus (cbv; done)); (focus (cbv; done)); (focus (cbv; done))) | (apply Ok.dcall (cLit); (focus (cbv; done)); (focus (cbv; done)); (focus (cbv; done))))
    (refine Ok.call (r := .tup [.pv (.agg [.int .i64 1, .view []]), .pv (.int .i64 0)]) (L := []) ?_ (by cbv) (by cbv) (by cbv) ?_; focus (exact ev_ok 30 (by as_aux_lemma => kernel_rfl)))
    repeat (first | (apply Ok.run1 hmix (A := Ar.std) rfl true 2000; focus (cbv; done)) | (refine Ok.condT ?_ ?_; focus (cbv; done)) | (refine Ok.condF ?_ ?_; focus (cbv; done)) | (refine Ok.drawnE (by as_aux_lemma => kernel_rfl) ?_))
    refine Ok.op (rem_op (by cbv) (by cbv) (by decide) (Int.ofNat r) (by rw [hr]; rfl)) ?_
    clear hr
    match r, hr5 with
    | 0, _ => exact Ok.evl (by as_aux_lemma => kernel_rfl)
    | 1, _ => exact Ok.evl (by as_aux_lemma => kernel_rfl)
    | 2, _ => exact Ok.evl (by as_aux_lemma => kernel_rfl)
    | 3, _ => exact Ok.evl (by as_aux_lemma => kernel_rfl)
    | 4, _ => exact Ok.evl (by as_aux_lemma => kernel_rfl)
  | 3, _ =>
    repeat (first | (apply Ok.run1 hmix (A := Ar.std) rfl true 2000; focus (cbv; done)) | (refine Ok.condT ?_ ?_; focus (cbv; done)) | (refine Ok.condF ?_ ?_; focus (cbv; done)) | (refine Ok.drawnE (by as_aux_lemma => kernel_rfl) ?_) | (apply Ok.call (cX); (focus (cbv; done)); (focus (cbv; done)); (focus (cbv; done))) | (apply Ok.dcall (cX); (focus (cbv; done)); (focus (cbv; done)); (focus (cbv; done))) | (apply Ok.call (cBool); (focus (cbv; done)); (focus (cbv; done)); (focus (cbv; done))) | (apply Ok.dcall (cBool); (focus (cbv; done)); (focus (cbv; done)); (focus (cbv; done))) | (apply Ok.call (cLit); (focus (cbv; done)); (focus (cbv; done)); (focus (cbv; done))) | (apply Ok.dcall (cLit); (focus (cbv; done)); (focus (cbv; done)); (focus (cbv; done))))
    (refine Ok.call (r := .tup [.pv (.agg [.int .i64 1, .view []]), .pv (.int .i64 0)]) (L := []) ?_ (by cbv) (by cbv) (by cbv) ?_; focus (exact ev_ok 30 (by as_aux_lemma => kernel_rfl)))
    repeat (first | (apply Ok.run1 hmix (A := Ar.std) rfl true 2000; focus (cbv; done)) | (refine Ok.condT ?_ ?_; focus (cbv; done)) | (refine Ok.condF ?_ ?_; focus (cbv; done)) | (refine Ok.drawnE (by as_aux_lemma => kernel_rfl) ?_))
    refine Ok.op (rem_op (by cbv) (by cbv) (by decide) (Int.ofNat r) (by rw [hr]; rfl)) ?_
    clear hr
    match r, hr5 with
    | 0, _ => exact Ok.evl (by as_aux_lemma => kernel_rfl)
    | 1, _ => exact Ok.evl (by as_aux_lemma => kernel_rfl)
    | 2, _ => exact Ok.evl (by as_aux_lemma => kernel_rfl)
    | 3, _ => exact Ok.evl (by as_aux_lemma => kernel_rfl)
    | 4, _ => exact Ok.evl (by as_aux_lemma => kernel_rfl)
  | 4, _ =>
    repeat (first | (apply Ok.run1 hmix (A := Ar.std) rfl true 2000; focus (cbv; done)) | (refine Ok.condT ?_ ?_; focus (cbv; done)) | (refine Ok.condF ?_ ?_; focus (cbv; done)) | (refine Ok.drawnE (by as_aux_lemma => kernel_rfl) ?_) | (apply Ok.call (cX); (focus (cbv; done)); (focus (cbv; done)); (focus (cbv; done))) | (apply Ok.dcall (cX); (focus (cbv; done)); (focus (cbv; done)); (focus (cbv; done))) | (apply Ok.call (cBool); (focus (cbv; done)); (focus (cbv; done)); (focus (cbv; done))) | (apply Ok.dcall (cBool); (focus (cbv; done)); (focus (cbv; done)); (focus (cbv; done))) | (apply Ok.call (cLit); (focus (cbv; done)); (focus (cbv; done)); (focus (cbv; done))) | (apply Ok.dcall (cLit); (focus (cbv; done)); (focus (cbv; done)); (focus (cbv; done))))
    (refine Ok.call (r := .tup [.pv (.agg [.int .i64 4, .view [.agg [.int .i64 1, .view []], .agg [.int .i64 1, .view []]]]), .pv (.int .i64 0)]) (L := []) ?_ (by cbv) (by cbv) (by cbv) ?_; focus (exact ev_ok 30 (by as_aux_lemma => kernel_rfl)))
    repeat (first | (apply Ok.run1 hmix (A := Ar.std) rfl true 2000; focus (cbv; done)) | (refine Ok.condT ?_ ?_; focus (cbv; done)) | (refine Ok.condF ?_ ?_; focus (cbv; done)) | (refine Ok.drawnE (by as_aux_lemma => kernel_rfl) ?_))
    refine Ok.op (rem_op (by cbv) (by cbv) (by decide) (Int.ofNat r) (by rw [hr]; rfl)) ?_
    clear hr
    match r, hr5 with
    | 0, _ => exact Ok.evl (by as_aux_lemma => kernel_rfl)
    | 1, _ => exact Ok.evl (by as_aux_lemma => kernel_rfl)
    | 2, _ => exact Ok.evl (by as_aux_lemma => kernel_rfl)
    | 3, _ => exact Ok.evl (by as_aux_lemma => kernel_rfl)
    | 4, _ => exact Ok.evl (by as_aux_lemma => kernel_rfl)
  | 5, _ =>
    repeat (first | (apply Ok.run1 hmix (A := Ar.std) rfl true 2000; focus (cbv; done)) | (refine Ok.condT ?_ ?_; focus (cbv; done)) | (refine Ok.condF ?_ ?_; focus (cbv; done)) | (refine Ok.drawnE (by as_aux_lemma => kernel_rfl) ?_) | (apply Ok.call (cX); (focus (cbv; done)); (focus (cbv; done)); (focus (cbv; done))) | (apply Ok.dcall (cX); (focus (cbv; done)); (focus (cbv; done)); (focus (cbv; done))) | (apply Ok.call (cBool); (focus (cbv; done)); (focus (cbv; done)); (focus (cbv; done))) | (apply Ok.dcall (cBool); (focus (cbv; done)); (focus (cbv; done)); (focus (cbv; done))) | (apply Ok.call (cLit); (focus (cbv; done)); (focus (cbv; done)); (focus (cbv; done))) | (apply Ok.dcall (cLit); (focus (cbv; done)); (focus (cbv; done)); (focus (cbv; done))))
    (refine Ok.call (r := .tup [.pv (.agg [.int .i64 4, .view [.agg [.int .i64 1, .view []], .agg [.int .i64 1, .view []]]]), .pv (.int .i64 0)]) (L := []) ?_ (by cbv) (by cbv) (by cbv) ?_; focus (exact ev_ok 30 (by as_aux_lemma => kernel_rfl)))
    repeat (first | (apply Ok.run1 hmix (A := Ar.std) rfl true 2000; focus (cbv; done)) | (refine Ok.condT ?_ ?_; focus (cbv; done)) | (refine Ok.condF ?_ ?_; focus (cbv; done)) | (refine Ok.drawnE (by as_aux_lemma => kernel_rfl) ?_))
    refine Ok.op (rem_op (by cbv) (by cbv) (by decide) (Int.ofNat r) (by rw [hr]; rfl)) ?_
    clear hr
    match r, hr5 with
    | 0, _ => exact Ok.evl (by as_aux_lemma => kernel_rfl)
    | 1, _ => exact Ok.evl (by as_aux_lemma => kernel_rfl)
    | 2, _ => exact Ok.evl (by as_aux_lemma => kernel_rfl)
    | 3, _ => exact Ok.evl (by as_aux_lemma => kernel_rfl)
    | 4, _ => exact Ok.evl (by as_aux_lemma => kernel_rfl)
  | 6, _ =>
    repeat (first | (apply Ok.run1 hmix (A := Ar.std) rfl true 2000; focus (cbv; done)) | (refine Ok.condT ?_ ?_; focus (cbv; done)) | (refine Ok.condF ?_ ?_; focus (cbv; done)) | (refine Ok.drawnE (by as_aux_lemma => kernel_rfl) ?_) | (apply Ok.call (cX); (focus (cbv; done)); (focus (cbv; done)); (focus (cbv; done))) | (apply Ok.dcall (cX); (focus (cbv; done)); (focus (cbv; done)); (focus (cbv; done))) | (apply Ok.call (cBool); (focus (cbv; done)); (focus (cbv; done)); (focus (cbv; done))) | (apply Ok.dcall (cBool); (focus (cbv; done)); (focus (cbv; done)); (focus (cbv; done))) | (apply Ok.call (cLit); (focus (cbv; done)); (focus (cbv; done)); (focus (cbv; done))) | (apply Ok.dcall (cLit); (focus (cbv; done)); (focus (cbv; done)); (focus (cbv; done))))
    (refine Ok.call (r := .tup [.pv (.agg [.int .i64 1, .view []]), .pv (.int .i64 0)]) (L := []) ?_ (by cbv) (by cbv) (by cbv) ?_; focus (exact ev_ok 30 (by as_aux_lemma => kernel_rfl)))
    repeat (first | (apply Ok.run1 hmix (A := Ar.std) rfl true 2000; focus (cbv; done)) | (refine Ok.condT ?_ ?_; focus (cbv; done)) | (refine Ok.condF ?_ ?_; focus (cbv; done)) | (refine Ok.drawnE (by as_aux_lemma => kernel_rfl) ?_))
    refine Ok.op (rem_op (by cbv) (by cbv) (by decide) (Int.ofNat r) (by rw [hr]; rfl)) ?_
    clear hr
    match r, hr5 with
    | 0, _ => exact Ok.evl (by as_aux_lemma => kernel_rfl)
    | 1, _ => exact Ok.evl (by as_aux_lemma => kernel_rfl)
    | 2, _ => exact Ok.evl (by as_aux_lemma => kernel_rfl)
    | 3, _ => exact Ok.evl (by as_aux_lemma => kernel_rfl)
    | 4, _ => exact Ok.evl (by as_aux_lemma => kernel_rfl)
  | 7, _ =>
    repeat (first | (apply Ok.run1 hmix (A := Ar.std) rfl true 2000; focus (cbv; done)) | (refine Ok.condT ?_ ?_; focus (cbv; done)) | (refine Ok.condF ?_ ?_; focus (cbv; done)) | (refine Ok.drawnE (by as_aux_lemma => kernel_rfl) ?_) | (apply Ok.call (cX); (focus (cbv; done)); (focus (cbv; done)); (focus (cbv; done))) | (apply Ok.dcall (cX); (focus (cbv; done)); (focus (cbv; done)); (focus (cbv; done))) | (apply Ok.call (cBool); (focus (cbv; done)); (focus (cbv; done)); (focus (cbv; done))) | (apply Ok.dcall (cBool); (focus (cbv; done)); (focus (cbv; done)); (focus (cbv; done))) | (apply Ok.call (cLit); (focus (cbv; done)); (focus (cbv; done)); (focus (cbv; done))) | (apply Ok.dcall (cLit); (focus (cbv; done)); (focus (cbv; done)); (focus (cbv; done))))
    (refine Ok.call (r := .tup [.pv (.agg [.int .i64 1, .view []]), .pv (.int .i64 0)]) (L := []) ?_ (by cbv) (by cbv) (by cbv) ?_; focus (exact ev_ok 30 (by as_aux_lemma => kernel_rfl)))
    repeat (first | (apply Ok.run1 hmix (A := Ar.std) rfl true 2000; focus (cbv; done)) | (refine Ok.condT ?_ ?_; focus (cbv; done)) | (refine Ok.condF ?_ ?_; focus (cbv; done)) | (refine Ok.drawnE (by as_aux_lemma => kernel_rfl) ?_))
    refine Ok.op (rem_op (by cbv) (by cbv) (by decide) (Int.ofNat r) (by rw [hr]; rfl)) ?_
    clear hr
    match r, hr5 with
    | 0, _ => exact Ok.evl (by as_aux_lemma => kernel_rfl)
    | 1, _ => exact Ok.evl (by as_aux_lemma => kernel_rfl)
    | 2, _ => exact Ok.evl (by as_aux_lemma => kernel_rfl)
    | 3, _ => exact Ok.evl (by as_aux_lemma => kernel_rfl)
    | 4, _ => exact Ok.evl (by as_aux_lemma => kernel_rfl)
  | 8, _ =>
    repeat (first | (apply Ok.run1 hmix (A := Ar.std) rfl true 2000; focus (cbv; done)) | (refine Ok.condT ?_ ?_; focus (cbv; done)) | (refine Ok.condF ?_ ?_; focus (cbv; done)) | (refine Ok.drawnE (by as_aux_lemma => kernel_rfl) ?_) | (apply Ok.call (cX); (focus (cbv; done)); (focus (cbv; done)); (focus (cbv; done))) | (apply Ok.dcall (cX); (focus (cbv; done)); (focus (cbv; done)); (focus (cbv; done))) | (apply Ok.call (cBool); (focus (cbv; done)); (focus (cbv; done)); (focus (cbv; done))) | (apply Ok.dcall (cBool); (focus (cbv; done)); (focus (cbv; done)); (focus (cbv; done))) | (apply Ok.call (cLit); (focus (cbv; done)); (focus (cbv; done)); (focus (cbv; done))) | (apply Ok.dcall (cLit); (focus (cbv; done)); (focus (cbv; done)); (focus (cbv; done))))
    (refine Ok.call (r := .tup [.pv (.agg [.int .i64 1, .view []]), .pv (.int .i64 0)]) (L := []) ?_ (by cbv) (by cbv) (by cbv) ?_; focus (exact ev_ok 30 (by as_aux_lemma => kernel_rfl)))
    repeat (first | (apply Ok.run1 hmix (A := Ar.std) rfl true 2000; focus (cbv; done)) | (refine Ok.condT ?_ ?_; focus (cbv; done)) | (refine Ok.condF ?_ ?_; focus (cbv; done)) | (refine Ok.drawnE (by as_aux_lemma => kernel_rfl) ?_))
    refine Ok.op (rem_op (by cbv) (by cbv) (by decide) (Int.ofNat r) (by rw [hr]; rfl)) ?_
    clear hr
    match r, hr5 with
    | 0, _ => exact Ok.evl (by as_aux_lemma => kernel_rfl)
    | 1, _ => exact Ok.evl (by as_aux_lemma => kernel_rfl)
    | 2, _ => exact Ok.evl (by as_aux_lemma => kernel_rfl)
    | 3, _ => exact Ok.evl (by as_aux_lemma => kernel_rfl)
    | 4, _ => exact Ok.evl (by as_aux_lemma => kernel_rfl)
end Go.Proofs.Ytnojmocoifodjaa.Pv
set_option maxRecDepth 100000
set_option maxHeartbeats 4000000
set_option linter.unusedVariables false
set_option linter.unusedSimpArgs false
set_option linter.unusedSectionVars false
namespace Go.Proofs.Ytnojmocoifodjaa.Pv
open Go Go.Proofs
def appS (k : Int) (R : List Vl × Int) (x : Vl) : List Vl × Int :=
  if k = 2 ∨ k = 3 ∨ k = 4 then (if R.2 ≠ 0 then ([], R.2) else if k = 3 then (if (R.1.getD 0 .zero).b = true then ([x], 0) else ([], 0)) else R) else ([x], 0)
def eX : Ex4 := ⟨oX, .zero, 0, []⟩
def eL (b : Int) : Ex4 := ⟨oLit, vInt b, 0, []⟩
def eO (w : List UInt8) (x y : Ex4) : Ex4 := ⟨w, .zero, 0, [x, y]⟩
def opF (k : Int) (l : List Ex4) : Opn := ⟨k, [], .zero, l, ⟨[], .zero, 0, []⟩, 0, 0⟩
theorem chk_eX : chkR eX ⟨1, []⟩ 0 = (⟨1, []⟩, 0) := by rfl
theorem chk_eL (b : Int) : chkR (eL b) ⟨1, []⟩ 0 = (⟨1, []⟩, 0) := by rfl
theorem chk_add (b : Int) : chkR (eO oAdd eX (eL b)) ⟨1, []⟩ 0 = (⟨1, []⟩, 0) := by rfl
theorem chk_sub (b : Int) : chkR (eO oSub eX (eL b)) ⟨1, []⟩ 0 = (⟨1, []⟩, 0) := by rfl
theorem chk_div (b : Int) : chkR (eO oDiv eX (eL b)) ⟨1, []⟩ 0 = (⟨1, []⟩, 0) := by rfl
theorem chk_lt (b : Int) : chkR (eO oLt eX (eL b)) ⟨1, []⟩ 0 = (⟨2, []⟩, 0) := by rfl
def pXe : PV := .agg [.str [120], .int .i64 0, .int .i64 0, .bool false, .str [], .view [], .int .i64 0, .view []]
def pLe (b : Int) : PV := .agg [.str [108, 105, 116], .int .i64 1, .int .i64 b, .bool false, .str [], .view [], .int .i64 0, .view []]
def pOe (w : List UInt8) (b : Int) : PV := .agg [.str w, .int .i64 0, .int .i64 0, .bool false, .str [], .view [], .int .i64 0, .view [pXe, pLe b]]
def pOp (k : Int) (l : List PV) : PV := .agg [.int .i64 k, .str [], .int .i64 0, .view [], .view l, .str [], .int .i64 0, .int .i64 0, .bool false, .str [], .view [], .int .i64 0, .view [], .int .i64 0, .int .i64 0]
section
variable {E : Enc} (hE : E = .std)
include hE
theorem ex_eX : E.ex eX = pXe := by simp only [Enc.ex, eX, oX, Vl.zero, vls0 hE, exs0 hE, pXe]
theorem ex_eL (b : Int) : E.ex (eL b) = pLe b := by simp only [Enc.ex, eL, vInt, oLit, vls0 hE, exs0 hE, pLe]
theorem ex_eO (w : List UInt8) (b : Int) : E.ex (eO w eX (eL b)) = pOe w b := by
  have : E .exs [eX, eL b] = [pXe, pLe b] := by rw [E.exs_eq hE, List.map_cons, List.map_cons, List.map_nil, ex_eX hE, ex_eL hE]
  simp only [Enc.ex, eO, Vl.zero, vls0 hE, this, pOe]
theorem opn_opF (k : Int) (l : List Ex4) (es : List PV) (h : E .exs l = es) : E.opn (opF k l) = pOp k es := by
  simp only [Enc.opn, opF, Ty.zero, Vl.zero, vls0 hE, exs0 hE, tys0 hE, h, pOp]
theorem ev_sh (e : Ex4) (a : Int) (t : Ty) (hc : chkR e ⟨1, []⟩ 0 = (t, 0)) (hz : szX e ≤ 100) : CallsV Try.prog 86 [E.ex e, E.vl (vInt a)] (pR E (evX e (vInt a))) [] := by
  have h1 : szV (vInt a) = 1 := rfl
  refine eval_Eval hE _ e (vInt a) t 0 (Nat.le_refl _) ⟨fun _ => rfl, trivial⟩ (str_vInt a) hc ?_ (by omega)
  rw [h1]; omega
theorem ap_map (a b : Int) : CallsV Try.prog 49 [pOp 2 [pOe oAdd b], pI a] (.tup [.pv (.view [pI (w64 (a + b))]), .pv (.int .i64 0)]) [] := by
  have c := op_Apply hE (opF 2 [eO oAdd eX (eL b)]) (vInt a) (fun _ e he => by
    simp only [opF, List.mem_singleton] at he; subst he
    exact ev_sh hE _ a _ (chk_add b) (by show 6 ≤ 100; omega)) (by show 1 < _; decide) (fun h => by simp [opF] at h)
  have hr : appO (opF 2 [eO oAdd eX (eL b)]) (vInt a) = ([vInt (w64 (a + b))], 0) := rfl
  rw [hr, opn_opF hE 2 _ [pOe oAdd b] (by rw [E.exs_eq hE, List.map_cons, List.map_nil, ex_eO hE]), vl_int hE] at c
  have hv : E .vls [vInt (w64 (a + b))] = [pI (w64 (a + b))] := by rw [E.vls_eq hE, List.map_cons, List.map_nil, vl_int hE]
  rw [hv] at c
  exact c
theorem ap_flat (a b : Int) : CallsV Try.prog 49 [pOp 4 [pXe, pLe b, pOe oSub b], pI a] (.tup [.pv (.view [pI a, pI b, pI (w64 (a - b))]), .pv (.int .i64 0)]) [] := by
  have c := op_Apply hE (opF 4 [eX, eL b, eO oSub eX (eL b)]) (vInt a) (fun _ e he => by
    simp only [opF, List.mem_cons, List.mem_nil_iff, or_false] at he
    rcases he with rfl | rfl | rfl
    · exact ev_sh hE _ a _ chk_eX (by show 2 ≤ 100; omega)
    · exact ev_sh hE _ a _ (chk_eL b) (by show 2 ≤ 100; omega)
    · exact ev_sh hE _ a _ (chk_sub b) (by show 6 ≤ 100; omega)) (by show 3 < _; decide) (fun h => by simp [opF] at h)
  have hr : appO (opF 4 [eX, eL b, eO oSub eX (eL b)]) (vInt a) = ([vInt a, vInt b, vInt (w64 (a - b))], 0) := rfl
  rw [hr, opn_opF hE 4 _ [pXe, pLe b, pOe oSub b] (by rw [E.exs_eq hE, List.map_cons, List.map_cons, List.map_cons, List.map_nil, ex_eO hE, ex_eX hE, ex_eL hE]), vl_int hE] at c
  have hv : E .vls [vInt a, vInt b, vInt (w64 (a - b))] = [pI a, pI b, pI (w64 (a - b))] := by rw [E.vls_eq hE, List.map_cons, List.map_cons, List.map_cons, List.map_nil, vl_int hE, vl_int hE, vl_int hE]
  rw [hv] at c
  exact c
theorem ap_div (a b : Int) : CallsV Try.prog 49 [pOp 4 [pXe, pOe oDiv b], pI a] (if b = 0 then .tup [.pv (.view []), .pv (.int .i64 8)] else .tup [.pv (.view [pI a, pI (w64 (a.tdiv b))]), .pv (.int .i64 0)]) [] := by
  have c := op_Apply hE (opF 4 [eX, eO oDiv eX (eL b)]) (vInt a) (fun _ e he => by
    simp only [opF, List.mem_cons, List.mem_nil_iff, or_false] at he
    rcases he with rfl | rfl
    · exact ev_sh hE _ a _ chk_eX (by show 2 ≤ 100; omega)
    · exact ev_sh hE _ a _ (chk_div b) (by show 6 ≤ 100; omega)) (by show 2 < _; decide) (fun h => by simp [opF] at h)
  have he : evX (eO oDiv eX (eL b)) (vInt a) = if b = 0 then (.zero, 8) else (vInt (w64 (a.tdiv b)), 0) := rfl
  have hx : evX eX (vInt a) = (vInt a, 0) := rfl
  have hr : appO (opF 4 [eX, eO oDiv eX (eL b)]) (vInt a) = if b = 0 then ([], 8) else ([vInt a, vInt (w64 (a.tdiv b))], 0) := by
    have hs : evAll [eX, eO oDiv eX (eL b)] (vInt a) = [(vInt a, 0), if b = 0 then (.zero, 8) else (vInt (w64 (a.tdiv b)), 0)] := by rw [evAll, evAll, evAll, hx, he]
    have : appO (opF 4 [eX, eO oDiv eX (eL b)]) (vInt a) = appS 4 (seqR (evAll [eX, eO oDiv eX (eL b)] (vInt a))) (vInt a) := rfl
    rw [this, hs]
    by_cases h : b = 0
    · rw [if_pos h, if_pos h]; rfl
    · rw [if_neg h, if_neg h]; rfl
  rw [hr, opn_opF hE 4 _ [pXe, pOe oDiv b] (by rw [E.exs_eq hE, List.map_cons, List.map_cons, List.map_nil, ex_eO hE, ex_eX hE]), vl_int hE] at c
  by_cases h : b = 0
  · rw [if_pos h] at c ⊢
    rw [vls0 hE] at c
    exact c
  · rw [if_neg h] at c ⊢
    have hv : E .vls [vInt a, vInt (w64 (a.tdiv b))] = [pI a, pI (w64 (a.tdiv b))] := by rw [E.vls_eq hE, List.map_cons, List.map_cons, List.map_nil, vl_int hE, vl_int hE]
    rw [hv] at c
    exact c
theorem cmp_lt (a b : Int) : decide (cmpV (vInt a) (vInt b) < 0) = decide (a < b) := by
  have : cmpV (vInt a) (vInt b) = if ¬ a = b then lessZ (decide (a < b)) else 0 := by simp [vInt, cmpV, cmpVs]
  rw [this]
  by_cases h : a = b
  · subst h; simp
  · rw [if_pos h]
    by_cases h2 : a < b <;> simp [lessZ, h2]
theorem ap_filter (a b : Int) : CallsV Try.prog 49 [pOp 3 [pOe oLt b], pI a] (if a < b then .tup [.pv (.view [pI a]), .pv (.int .i64 0)] else .tup [.pv (.view []), .pv (.int .i64 0)]) [] := by
  have c := op_Apply hE (opF 3 [eO oLt eX (eL b)]) (vInt a) (fun _ e he => by
    simp only [opF, List.mem_singleton] at he; subst he
    exact ev_sh hE _ a _ (chk_lt b) (by show 6 ≤ 100; omega)) (by show 1 < _; decide) (fun h => by show 1 ≤ 1; omega)
  have hr : appO (opF 3 [eO oLt eX (eL b)]) (vInt a) = if decide (cmpV (vInt a) (vInt b) < 0) = true then ([vInt a], 0) else ([], 0) := rfl
  rw [hr, opn_opF hE 3 _ [pOe oLt b] (by rw [E.exs_eq hE, List.map_cons, List.map_nil, ex_eO hE]), vl_int hE, cmp_lt hE] at c
  by_cases h : a < b
  · rw [if_pos (by simpa using h)] at c
    rw [if_pos h]
    have hv : E .vls [vInt a] = [pI a] := by rw [E.vls_eq hE, List.map_cons, List.map_nil, vl_int hE]
    rw [hv] at c
    exact c
  · rw [if_neg (by simpa using h)] at c
    rw [if_neg h]
    rw [vls0 hE] at c
    exact c
end
theorem law4_OpO (w : List UInt8) (b : Int) : CallsV Try.prog 28 [.str w, .view [pXe, pLe b]] (.pv (pOe w b)) [] := by
  obtain ⟨A, hA⟩ : ∃ A : Ar, A = .std := ⟨_, rfl⟩
  unfold pOe
  generalize pXe = x
  generalize pLe b = y
  refine CallsV.ok (fn := Try.f28) (by kernel_rfl) (by kernel_rfl) rfl (by cbv) (by cbv) ?_
  repeat (first | (apply Ok.run1 hmix hA false 2000; focus (cbv; done)) | (apply Ok.one hmix hA; focus (cbv; done)) | (rw [Ar.notT hA]) | (rw [Ar.notF hA]) | (refine Ok.condT ?_ ?_; focus (cbv; done)) | (refine Ok.condF ?_ ?_; focus (cbv; done)) | (refine Ok.drawnE (by as_aux_lemma => kernel_rfl) ?_) | (apply Ok.leave) | (apply Ok.leaveRet))
  (first | (apply Ok.finO1; (focus (cbv; done)); (focus (cbv; done)); (focus (first | exact trivial | (simp only [obsOk, and_true, Ar.inc_eq hA, Ar.snoc_eq hA, List.length_append, List.length_singleton, List.length_nil] <;> first | assumption | omega | (constructor <;> omega))))) | (apply Ok.finO2; (focus (cbv; done)); (focus (cbv; done)); (focus (first | exact trivial | (simp only [obsOk, and_true, Ar.inc_eq hA, Ar.snoc_eq hA, List.length_append, List.length_singleton, List.length_nil] <;> first | assumption | omega | (constructor <;> omega))))) | (apply Ok.finO3; (focus (cbv; done)); (focus (cbv; done)); (focus (first | exact trivial | (simp only [obsOk, and_true, Ar.inc_eq hA, Ar.snoc_eq hA, List.length_append, List.length_singleton, List.length_nil] <;> first | assumption | omega | (constructor <;> omega))))))
  all_goals rfl

theorem law7_OpShapes (a b : Int) : CallsV Try.prog 11 [.int .i64 a, .int .i64 b] (.pv (.bool true)) [] := by
  obtain ⟨A, hA⟩ : ∃ A : Ar, A = .std := ⟨_, rfl⟩
  obtain ⟨E, hE⟩ : ∃ E : Enc, E = .std := ⟨_, rfl⟩
  have ck := law7_known
  have ca := val_Int hE a
  have cb := val_Int hE b
  rw [← show vInt a = ⟨1, a, false, [], []⟩ from rfl, vl_int hE] at ca
  rw [← show vInt b = ⟨1, b, false, [], []⟩ from rfl, vl_int hE] at cb
  have cl := law4_Lit hE (vInt b)
  rw [show (⟨bLit, vInt b, 0, []⟩ : Ex4) = eL b from rfl, ex_eL hE, vl_int hE] at cl
  have cx : CallsV Try.prog 27 [] (.pv pXe) [] := cX
  have o1 := law4_OpO oAdd b
  have o2 := law4_OpO oLt b
  have o3 := law4_OpO oSub b
  have o4 := law4_OpO oDiv b
  have a1 := ap_map hE a b
  have a2 := ap_filter hE a b
  have a3 := ap_flat hE a b
  have a4 := ap_div hE a b
  have qa : A .add .i64 a b = w64 (a + b) := Ar.add_eq hA _ _ _
  have qs : A .sub .i64 a b = w64 (a - b) := Ar.sub_eq hA _ _ _
  have ql : A .lt a b = decide (a < b) := Ar.lt_eq hA _ _
  have qb : A .eq b 0 = decide (b = 0) := Ar.eq_eq hA _ _
  have hAe : ∀ x, A .eq x x = true := fun x => by rw [Ar.eq_eq hA]; simp
  have h10 : A .eq 1 0 = false := by rw [Ar.eq_eq hA]; rfl
  have h01 : A .eq 0 1 = false := by rw [Ar.eq_eq hA]; rfl
  have hadd : A .add .i64 0 0 = 0 := by rw [Ar.add_eq hA]; rfl
  have hc0 : A .conv .i64 0 = 0 := by rw [Ar.conv_eq hA]; rfl
  have hc8 : A .conv .i64 8 = 8 := by rw [Ar.conv_eq hA]; rfl
  have hl0 : A .lenP [] = 0 := by rw [Ar.lenP_eq hA]; rfl
  have hl1 : ∀ p, A .lenP [p] = 1 := fun p => by rw [Ar.lenP_eq hA]; rfl
  have hl2 : ∀ p q, A .lenP [p, q] = 2 := fun p q => by rw [Ar.lenP_eq hA]; rfl
  have hl3 : ∀ p q r, A .lenP [p, q, r] = 3 := fun p q r => by rw [Ar.lenP_eq hA]; rfl
  have hlt0 : A .lt 1 0 = false := by rw [Ar.lt_eq hA]; rfl
  have hlt1 : A .lt 1 1 = false := by rw [Ar.lt_eq hA]; rfl
  have hb1 : A .beq true true = true := by rw [Ar.beq_eq hA]; rfl
  have hb2 : A .beq false false = true := by rw [Ar.beq_eq hA]; rfl
  generalize w64 (a + b) = r1 at *
  generalize w64 (a - b) = r2 at *
  generalize w64 (a.tdiv b) = r3 at *
  unfold pOp pOe pLe pXe pI at *
  by_cases hab : a < b
  · rw [if_pos hab] at a2
    rw [decide_eq_true hab] at ql
    by_cases hb : b = 0
    · rw [if_pos hb] at a4
      rw [decide_eq_true hb] at qb
      refine CallsV.ok (fn := Try.f11) (by kernel_rfl) (by kernel_rfl) rfl (by cbv) (by cbv) ?_
      repeat (first | (apply Ok.run1 hmix hA false 2000; focus (cbv; done)) | (apply Ok.one hmix hA; focus (cbv; done)) | (rw [Ar.notT hA]) | (rw [Ar.notF hA]) | (refine Ok.condT ?_ ?_; focus (cbv; done)) | (refine Ok.condF ?_ ?_; focus (cbv; done)) | (refine Ok.drawnE (by as_aux_lemma => kernel_rfl) ?_) | (apply Ok.op; (focus (cbv; done))) | (apply Ok.dop; (focus (cbv; done))) | (apply Ok.leave) | (apply Ok.leaveRet) | (apply Ok.callO (ck); (focus (cbv; done)); (focus (cbv; done)); (focus (first | exact trivial | (simp only [obsOk, and_true, Ar.inc_eq hA, Ar.snoc_eq hA, List.length_append, List.length_singleton, List.length_nil] <;> first | assumption | omega | (constructor <;> omega)))); (focus (cbv; done))) | (apply Ok.dcallO (ck); (focus (cbv; done)); (focus (cbv; done)); (focus (first | exact trivial | (simp only [obsOk, and_true, Ar.inc_eq hA, Ar.snoc_eq hA, List.length_append, List.length_singleton, List.length_nil] <;> first | assumption | omega | (constructor <;> omega)))); (focus (cbv; done))) | (apply Ok.callO (ca); (focus (cbv; done)); (focus (cbv; done)); (focus (first | exact trivial | (simp only [obsOk, and_true, Ar.inc_eq hA, Ar.snoc_eq hA, List.length_append, List.length_singleton, List.length_nil] <;> first | assumption | omega | (constructor <;> omega)))); (focus (cbv; done))) | (apply Ok.dcallO (ca); (focus (cbv; done)); (focus (cbv; done)); (focus (first | exact trivial | (simp only [obsOk, and_true, Ar.inc_eq hA, Ar.snoc_eq hA, List.length_append, List.length_singleton, List.length_nil] <;> first | assumption | omega | (constructor <;> omega)))); (focus (cbv; done))) | (apply Ok.callO (cb); (focus (cbv; done)); (focus (cbv; done)); (focus (first | exact trivial | (simp only [obsOk, and_true, Ar.inc_eq hA, Ar.snoc_eq hA, List.length_append, List.length_singleton, List.length_nil] <;> first | assumption | omega | (constructor <;> omega)))); (focus (cbv; done))) | (apply Ok.dcallO (cb); (focus (cbv; done)); (focus (cbv; done)); (focus (first | exact trivial | (simp only [obsOk, and_true, Ar.inc_eq hA, Ar.snoc_eq hA, List.length_append, List.length_singleton, List.length_nil] <;> first | assumption | omega | (constructor <;> omega)))); (focus (cbv; done))) | (apply Ok.callO (cl); (focus (cbv; done)); (focus (cbv; done)); (focus (first | exact trivial | (simp only [obsOk, and_true, Ar.inc_eq hA, Ar.snoc_eq hA, List.length_append, List.length_singleton, List.length_nil] <;> first | assumption | omega | (constructor <;> omega)))); (focus (cbv; done))) | (apply Ok.dcallO (cl); (focus (cbv; done)); (focus (cbv; done)); (focus (first | exact trivial | (simp only [obsOk, and_true, Ar.inc_eq hA, Ar.snoc_eq hA, List.length_append, List.length_singleton, List.length_nil] <;> first | assumption | omega | (constructor <;> omega)))); (focus (cbv; done))) | (apply Ok.callO (cx); (focus (cbv; done)); (focus (cbv; done)); (focus (first | exact trivial | (simp only [obsOk, and_true, Ar.inc_eq hA, Ar.snoc_eq hA, List.length_append, List.length_singleton, List.length_nil] <;> first | assumption | omega | (constructor <;> omega)))); (focus (cbv; done))) | (apply Ok.dcallO (cx); (focus (cbv; done)); (focus (cbv; done)); (focus (first | exact trivial | (simp only [obsOk, and_true, Ar.inc_eq hA, Ar.snoc_eq hA, List.length_append, List.length_singleton, List.length_nil] <;> first | assumption | omega | (constructor <;> omega)))); (focus (cbv; done))) | (apply Ok.callO (o1); (focus (cbv; done)); (focus (cbv; done)); (focus (first | exact trivial | (simp only [obsOk, and_true, Ar.inc_eq hA, Ar.snoc_eq hA, List.length_append, List.length_singleton, List.length_nil] <;> first | assumption | omega | (constructor <;> omega)))); (focus (cbv; done))) | (apply Ok.dcallO (o1); (focus (cbv; done)); (focus (cbv; done)); (focus (first | exact trivial | (simp only [obsOk, and_true, Ar.inc_eq hA, Ar.snoc_eq hA, List.length_append, List.length_singleton, List.length_nil] <;> first | assumption | omega | (constructor <;> omega)))); (focus (cbv; done))) | (apply Ok.callO (o2); (focus (cbv; done)); (focus (cbv; done)); (focus (first | exact trivial | (simp only [obsOk, and_true, Ar.inc_eq hA, Ar.snoc_eq hA, List.length_append, List.length_singleton, List.length_nil] <;> first | assumption | omega | (constructor <;> omega)))); (focus (cbv; done))) | (apply Ok.dcallO (o2); (focus (cbv; done)); (focus (cbv; done)); (focus (first | exact trivial | (simp only [obsOk, and_true, Ar.inc_eq hA, Ar.snoc_eq hA, List.length_append, List.length_singleton, List.length_nil] <;> first | assumption | omega | (constructor <;> omega)))); (focus (cbv; done))) | (apply Ok.callO (o3); (focus (cbv; done)); (focus (cbv; done)); (focus (first | exact trivial | (simp only [obsOk, and_true, Ar.inc_eq hA, Ar.snoc_eq hA, List.length_append, List.length_singleton, List.length_nil] <;> first | assumption | omega | (constructor <;> omega)))); (focus (cbv; done))) | (apply Ok.dcallO (o3); (focus (cbv; done)); (focus (cbv; done)); (focus (first | exact trivial | (simp only [obsOk, and_true, Ar.inc_eq hA, Ar.snoc_eq hA, List.length_append, List.length_singleton, List.length_nil] <;> first | assumption | omega | (constructor <;> omega)))); (focus (cbv; done))) | (apply Ok.callO (o4); (focus (cbv; done)); (focus (cbv; done)); (focus (first | exact trivial | (simp only [obsOk, and_true, Ar.inc_eq hA, Ar.snoc_eq hA, List.length_append, List.length_singleton, List.length_nil] <;> first | assumption | omega | (constructor <;> omega)))); (focus (cbv; done))) | (apply Ok.dcallO (o4); (focus (cbv; done)); (focus (cbv; done)); (focus (first | exact trivial | (simp only [obsOk, and_true, Ar.inc_eq hA, Ar.snoc_eq hA, List.length_append, List.length_singleton, List.length_nil] <;> first | assumption | omega | (constructor <;> omega)))); (focus (cbv; done))) | (apply Ok.callO (a1); (focus (cbv; done)); (focus (cbv; done)); (focus (first | exact trivial | (simp only [obsOk, and_true, Ar.inc_eq hA, Ar.snoc_eq hA, List.length_append, List.length_singleton, List.length_nil] <;> first | assumption | omega | (constructor <;> omega)))); (focus (cbv; done))) | (apply Ok.dcallO (a1); (focus (cbv; done)); (focus (cbv; done)); (focus (first | exact trivial | (simp only [obsOk, and_true, Ar.inc_eq hA, Ar.snoc_eq hA, List.length_append, List.length_singleton, List.length_nil] <;> first | assumption | omega | (constructor <;> omega)))); (focus (cbv; done))) | (apply Ok.callO (a2); (focus (cbv; done)); (focus (cbv; done)); (focus (first | exact trivial | (simp only [obsOk, and_true, Ar.inc_eq hA, Ar.snoc_eq hA, List.length_append, List.length_singleton, List.length_nil] <;> first | assumption | omega | (constructor <;> omega)))); (focus (cbv; done))) | (apply Ok.dcallO (a2); (focus (cbv; done)); (focus (cbv; done)); (focus (first | exact trivial | (simp only [obsOk, and_true, Ar.inc_eq hA, Ar.snoc_eq hA, List.length_append, List.length_singleton, List.length_nil] <;> first | assumption | omega | (constructor <;> omega)))); (focus (cbv; done))) | (apply Ok.callO (a3); (focus (cbv; done)); (focus (cbv; done)); (focus (first | exact trivial | (simp only [obsOk, and_true, Ar.inc_eq hA, Ar.snoc_eq hA, List.length_append, List.length_singleton, List.length_nil] <;> first | assumption | omega | (constructor <;> omega)))); (focus (cbv; done))) | (apply Ok.dcallO (a3); (focus (cbv; done)); (focus (cbv; done)); (focus (first | exact trivial | (simp only [obsOk, and_true, Ar.inc_eq hA, Ar.snoc_eq hA, List.length_append, List.length_singleton, List.length_nil] <;> first | assumption | omega | (constructor <;> omega)))); (focus (cbv; done))) | (apply Ok.callO (a4); (focus (cbv; done)); (focus (cbv; done)); (focus (first | exact trivial | (simp only [obsOk, and_true, Ar.inc_eq hA, Ar.snoc_eq hA, List.length_append, List.length_singleton, List.length_nil] <;> first | assumption | omega | (constructor <;> omega)))); (focus (cbv; done))) | (apply Ok.dcallO (a4); (focus (cbv; done)); (focus (cbv; done)); (focus (first | exact trivial | (simp only [obsOk, and_true, Ar.inc_eq hA, Ar.snoc_eq hA, List.length_append, List.length_singleton, List.length_nil] <;> first | assumption | omega | (constructor <;> omega)))); (focus (cbv; done))) | (rw [qa]) | (rw [qs]) | (rw [ql]) | (rw [qb]) | (rw [hAe]) | (rw [h10]) | (rw [h01]) | (rw [hc0]) | (rw [hc8]) | (rw [hadd]) | (rw [hl0]) | (rw [hl1]) | (rw [hl2]) | (rw [hl3]) | (rw [hlt0]) | (rw [hlt1]) | (rw [hb1]) | (rw [hb2]))
      (first | (apply Ok.finO1; (focus (cbv; done)); (focus (cbv; done)); (focus (first | exact trivial | (simp only [obsOk, and_true, Ar.inc_eq hA, Ar.snoc_eq hA, List.length_append, List.length_singleton, List.length_nil] <;> first | assumption | omega | (constructor <;> omega))))) | (apply Ok.finO2; (focus (cbv; done)); (focus (cbv; done)); (focus (first | exact trivial | (simp only [obsOk, and_true, Ar.inc_eq hA, Ar.snoc_eq hA, List.length_append, List.length_singleton, List.length_nil] <;> first | assumption | omega | (constructor <;> omega))))) | (apply Ok.finO3; (focus (cbv; done)); (focus (cbv; done)); (focus (first | exact trivial | (simp only [obsOk, and_true, Ar.inc_eq hA, Ar.snoc_eq hA, List.length_append, List.length_singleton, List.length_nil] <;> first | assumption | omega | (constructor <;> omega))))))
      all_goals rfl
    · rw [if_neg hb] at a4
      rw [decide_eq_false hb] at qb
      refine CallsV.ok (fn := Try.f11) (by kernel_rfl) (by kernel_rfl) rfl (by cbv) (by cbv) ?_
      repeat (first | (apply Ok.run1 hmix hA false 2000; focus (cbv; done)) | (apply Ok.one hmix hA; focus (cbv; done)) | (rw [Ar.notT hA]) | (rw [Ar.notF hA]) | (refine Ok.condT ?_ ?_; focus (cbv; done)) | (refine Ok.condF ?_ ?_; focus (cbv; done)) | (refine Ok.drawnE (by as_aux_lemma => kernel_rfl) ?_) | (apply Ok.op; (focus (cbv; done))) | (apply Ok.dop; (focus (cbv; done))) | (apply Ok.leave) | (apply Ok.leaveRet) | (apply Ok.callO (ck); (focus (cbv; done)); (focus (cbv; done)); (focus (first | exact trivial | (simp only [obsOk, and_true, Ar.inc_eq hA, Ar.snoc_eq hA, List.length_append, List.length_singleton, List.length_nil] <;> first | assumption | omega | (constructor <;> omega)))); (focus (cbv; done))) | (apply Ok.dcallO (ck); (focus (cbv; done)); (focus (cbv; done)); (focus (first | exact trivial | (simp only [obsOk, and_true, Ar.inc_eq hA, Ar.snoc_eq hA, List.length_append, List.length_singleton, List.length_nil] <;> first | assumption | omega | (constructor <;> omega)))); (focus (cbv; done))) | (apply Ok.callO (ca); (focus (cbv; done)); (focus (cbv; done)); (focus (first | exact trivial | (simp only [obsOk, and_true, Ar.inc_eq hA, Ar.snoc_eq hA, List.length_append, List.length_singleton, List.length_nil] <;> first | assumption | omega | (constructor <;> omega)))); (focus (cbv; done))) | (apply Ok.dcallO (ca); (focus (cbv; done)); (focus (cbv; done)); (focus (first | exact trivial | (simp only [obsOk, and_true, Ar.inc_eq hA, Ar.snoc_eq hA, List.length_append, List.length_singleton, List.length_nil] <;> first | assumption | omega | (constructor <;> omega)))); (focus (cbv; done))) | (apply Ok.callO (cb); (focus (cbv; done)); (focus (cbv; done)); (focus (first | exact trivial | (simp only [obsOk, and_true, Ar.inc_eq hA, Ar.snoc_eq hA, List.length_append, List.length_singleton, List.length_nil] <;> first | assumption | omega | (constructor <;> omega)))); (focus (cbv; done))) | (apply Ok.dcallO (cb); (focus (cbv; done)); (focus (cbv; done)); (focus (first | exact trivial | (simp only [obsOk, and_true, Ar.inc_eq hA, Ar.snoc_eq hA, List.length_append, List.length_singleton, List.length_nil] <;> first | assumption | omega | (constructor <;> omega)))); (focus (cbv; done))) | (apply Ok.callO (cl); (focus (cbv; done)); (focus (cbv; done)); (focus (first | exact trivial | (simp only [obsOk, and_true, Ar.inc_eq hA, Ar.snoc_eq hA, List.length_append, List.length_singleton, List.length_nil] <;> first | assumption | omega | (constructor <;> omega)))); (focus (cbv; done))) | (apply Ok.dcallO (cl); (focus (cbv; done)); (focus (cbv; done)); (focus (first | exact trivial | (simp only [obsOk, and_true, Ar.inc_eq hA, Ar.snoc_eq hA, List.length_append, List.length_singleton, List.length_nil] <;> first | assumption | omega | (constructor <;> omega)))); (focus (cbv; done))) | (apply Ok.callO (cx); (focus (cbv; done)); (focus (cbv; done)); (focus (first | exact trivial | (simp only [obsOk, and_true, Ar.inc_eq hA, Ar.snoc_eq hA, List.length_append, List.length_singleton, List.length_nil] <;> first | assumption | omega | (constructor <;> omega)))); (focus (cbv; done))) | (apply Ok.dcallO (cx); (focus (cbv; done)); (focus (cbv; done)); (focus (first | exact trivial | (simp only [obsOk, and_true, Ar.inc_eq hA, Ar.snoc_eq hA, List.length_append, List.length_singleton, List.length_nil] <;> first | assumption | omega | (constructor <;> omega)))); (focus (cbv; done))) | (apply Ok.callO (o1); (focus (cbv; done)); (focus (cbv; done)); (focus (first | exact trivial | (simp only [obsOk, and_true, Ar.inc_eq hA, Ar.snoc_eq hA, List.length_append, List.length_singleton, List.length_nil] <;> first | assumption | omega | (constructor <;> omega)))); (focus (cbv; done))) | (apply Ok.dcallO (o1); (focus (cbv; done)); (focus (cbv; done)); (focus (first | exact trivial | (simp only [obsOk, and_true, Ar.inc_eq hA, Ar.snoc_eq hA, List.length_append, List.length_singleton, List.length_nil] <;> first | assumption | omega | (constructor <;> omega)))); (focus (cbv; done))) | (apply Ok.callO (o2); (focus (cbv; done)); (focus (cbv; done)); (focus (first | exact trivial | (simp only [obsOk, and_true, Ar.inc_eq hA, Ar.snoc_eq hA, List.length_append, List.length_singleton, List.length_nil] <;> first | assumption | omega | (constructor <;> omega)))); (focus (cbv; done))) | (apply Ok.dcallO (o2); (focus (cbv; done)); (focus (cbv; done)); (focus (first | exact trivial | (simp only [obsOk, and_true, Ar.inc_eq hA, Ar.snoc_eq hA, List.length_append, List.length_singleton, List.length_nil] <;> first | assumption | omega | (constructor <;> omega)))); (focus (cbv; done))) | (apply Ok.callO (o3); (focus (cbv; done)); (focus (cbv; done)); (focus (first | exact trivial | (simp only [obsOk, and_true, Ar.inc_eq hA, Ar.snoc_eq hA, List.length_append, List.length_singleton, List.length_nil] <;> first | assumption | omega | (constructor <;> omega)))); (focus (cbv; done))) | (apply Ok.dcallO (o3); (focus (cbv; done)); (focus (cbv; done)); (focus (first | exact trivial | (simp only [obsOk, and_true, Ar.inc_eq hA, Ar.snoc_eq hA, List.length_append, List.length_singleton, List.length_nil] <;> first | assumption | omega | (constructor <;> omega)))); (focus (cbv; done))) | (apply Ok.callO (o4); (focus (cbv; done)); (focus (cbv; done)); (focus (first | exact trivial | (simp only [obsOk, and_true, Ar.inc_eq hA, Ar.snoc_eq hA, List.length_append, List.length_singleton, List.length_nil] <;> first | assumption | omega | (constructor <;> omega)))); (focus (cbv; done))) | (apply Ok.dcallO (o4); (focus (cbv; done)); (focus (cbv; done)); (focus (first | exact trivial | (simp only [obsOk, and_true, Ar.inc_eq hA, Ar.snoc_eq hA, List.length_append, List.length_singleton, List.length_nil] <;> first | assumption | omega | (constructor <;> omega)))); (focus (cbv; done))) | (apply Ok.callO (a1); (focus (cbv; done)); (focus (cbv; done)); (focus (first | exact trivial | (simp only [obsOk, and_true, Ar.inc_eq hA, Ar.snoc_eq hA, List.length_append, List.length_singleton, List.length_nil] <;> first | assumption | omega | (constructor <;> omega)))); (focus (cbv; done))) | (apply Ok.dcallO (a1); (focus (cbv; done)); (focus (cbv; done)); (focus (first | exact trivial | (simp only [obsOk, and_true, Ar.inc_eq hA, Ar.snoc_eq hA, List.length_append, List.length_singleton, List.length_nil] <;> first | assumption | omega | (constructor <;> omega)))); (focus (cbv; done))) | (apply Ok.callO (a2); (focus (cbv; done)); (focus (cbv; done)); (focus (first | exact trivial | (simp only [obsOk, and_true, Ar.inc_eq hA, Ar.snoc_eq hA, List.length_append, List.length_singleton, List.length_nil] <;> first | assumption | omega | (constructor <;> omega)))); (focus (cbv; done))) | (apply Ok.dcallO (a2); (focus (cbv; done)); (focus (cbv; done)); (focus (first | exact trivial | (simp only [obsOk, and_true, Ar.inc_eq hA, Ar.snoc_eq hA, List.length_append, List.length_singleton, List.length_nil] <;> first | assumption | omega | (constructor <;> omega)))); (focus (cbv; done))) | (apply Ok.callO (a3); (focus (cbv; done)); (focus (cbv; done)); (focus (first | exact trivial | (simp only [obsOk, and_true, Ar.inc_eq hA, Ar.snoc_eq hA, List.length_append, List.length_singleton, List.length_nil] <;> first | assumption | omega | (constructor <;> omega)))); (focus (cbv; done))) | (apply Ok.dcallO (a3); (focus (cbv; done)); (focus (cbv; done)); (focus (first | exact trivial | (simp only [obsOk, and_true, Ar.inc_eq hA, Ar.snoc_eq hA, List.length_append, List.length_singleton, List.length_nil] <;> first | assumption | omega | (constructor <;> omega)))); (focus (cbv; done))) | (apply Ok.callO (a4); (focus (cbv; done)); (focus (cbv; done)); (focus (first | exact trivial | (simp only [obsOk, and_true, Ar.inc_eq hA, Ar.snoc_eq hA, List.length_append, List.length_singleton, List.length_nil] <;> first | assumption | omega | (constructor <;> omega)))); (focus (cbv; done))) | (apply Ok.dcallO (a4); (focus (cbv; done)); (focus (cbv; done)); (focus (first | exact trivial | (simp only [obsOk, and_true, Ar.inc_eq hA, Ar.snoc_eq hA, List.length_append, List.length_singleton, List.length_nil] <;> first | assumption | omega | (constructor <;> omega)))); (focus (cbv; done))) | (rw [qa]) | (rw [qs]) | (rw [ql]) | (rw [qb]) | (rw [hAe]) | (rw [h10]) | (rw [h01]) | (rw [hc0]) | (rw [hc8]) | (rw [hadd]) | (rw [hl0]) | (rw [hl1]) | (rw [hl2]) | (rw [hl3]) | (rw [hlt0]) | (rw [hlt1]) | (rw [hb1]) | (rw [hb2]))
      (first | (apply Ok.finO1; (focus (cbv; done)); (focus (cbv; done)); (focus (first | exact trivial | (simp only [obsOk, and_true, Ar.inc_eq hA, Ar.snoc_eq hA, List.length_append, List.length_singleton, List.length_nil] <;> first | assumption | omega | (constructor <;> omega))))) | (apply Ok.finO2; (focus (cbv; done)); (focus (cbv; done)); (focus (first | exact trivial | (simp only [obsOk, and_true, Ar.inc_eq hA, Ar.snoc_eq hA, List.length_append, List.length_singleton, List.length_nil] <;> first | assumption | omega | (constructor <;> omega))))) | (apply Ok.finO3; (focus (cbv; done)); (focus (cbv; done)); (focus (first | exact trivial | (simp only [obsOk, and_true, Ar.inc_eq hA, Ar.snoc_eq hA, List.length_append, List.length_singleton, List.length_nil] <;> first | assumption | omega | (constructor <;> omega))))))
      all_goals rfl
  · rw [if_neg hab] at a2
    rw [decide_eq_false hab] at ql
    by_cases hb : b = 0
    · rw [if_pos hb] at a4
      rw [decide_eq_true hb] at qb
      refine CallsV.ok (fn := Try.f11) (by kernel_rfl) (by kernel_rfl) rfl (by cbv) (by cbv) ?_
      repeat (first | (apply Ok.run1 hmix hA false 2000; focus (cbv; done)) | (apply Ok.one hmix hA; focus (cbv; done)) | (rw [Ar.notT hA]) | (rw [Ar.notF hA]) | (refine Ok.condT ?_ ?_; focus (cbv; done)) | (refine Ok.condF ?_ ?_; focus (cbv; done)) | (refine Ok.drawnE (by as_aux_lemma => kernel_rfl) ?_) | (apply Ok.op; (focus (cbv; done))) | (apply Ok.dop; (focus (cbv; done))) | (apply Ok.leave) | (apply Ok.leaveRet) | (apply Ok.callO (ck); (focus (cbv; done)); (focus (cbv; done)); (focus (first | exact trivial | (simp only [obsOk, and_true, Ar.inc_eq hA, Ar.snoc_eq hA, List.length_append, List.length_singleton, List.length_nil] <;> first | assumption | omega | (constructor <;> omega)))); (focus (cbv; done))) | (apply Ok.dcallO (ck); (focus (cbv; done)); (focus (cbv; done)); (focus (first | exact trivial | (simp only [obsOk, and_true, Ar.inc_eq hA, Ar.snoc_eq hA, List.length_append, List.length_singleton, List.length_nil] <;> first | assumption | omega | (constructor <;> omega)))); (focus (cbv; done))) | (apply Ok.callO (ca); (focus (cbv; done)); (focus (cbv; done)); (focus (first | exact trivial | (simp only [obsOk, and_true, Ar.inc_eq hA, Ar.snoc_eq hA, List.length_append, List.length_singleton, List.length_nil] <;> first | assumption | omega | (constructor <;> omega)))); (focus (cbv; done))) | (apply Ok.dcallO (ca); (focus (cbv; done)); (focus (cbv; done)); (focus (first | exact trivial | (simp only [obsOk, and_true, Ar.inc_eq hA, Ar.snoc_eq hA, List.length_append, List.length_singleton, List.length_nil] <;> first | assumption | omega | (constructor <;> omega)))); (focus (cbv; done))) | (apply Ok.callO (cb); (focus (cbv; done)); (focus (cbv; done)); (focus (first | exact trivial | (simp only [obsOk, and_true, Ar.inc_eq hA, Ar.snoc_eq hA, List.length_append, List.length_singleton, List.length_nil] <;> first | assumption | omega | (constructor <;> omega)))); (focus (cbv; done))) | (apply Ok.dcallO (cb); (focus (cbv; done)); (focus (cbv; done)); (focus (first | exact trivial | (simp only [obsOk, and_true, Ar.inc_eq hA, Ar.snoc_eq hA, List.length_append, List.length_singleton, List.length_nil] <;> first | assumption | omega | (constructor <;> omega)))); (focus (cbv; done))) | (apply Ok.callO (cl); (focus (cbv; done)); (focus (cbv; done)); (focus (first | exact trivial | (simp only [obsOk, and_true, Ar.inc_eq hA, Ar.snoc_eq hA, List.length_append, List.length_singleton, List.length_nil] <;> first | assumption | omega | (constructor <;> omega)))); (focus (cbv; done))) | (apply Ok.dcallO (cl); (focus (cbv; done)); (focus (cbv; done)); (focus (first | exact trivial | (simp only [obsOk, and_true, Ar.inc_eq hA, Ar.snoc_eq hA, List.length_append, List.length_singleton, List.length_nil] <;> first | assumption | omega | (constructor <;> omega)))); (focus (cbv; done))) | (apply Ok.callO (cx); (focus (cbv; done)); (focus (cbv; done)); (focus (first | exact trivial | (simp only [obsOk, and_true, Ar.inc_eq hA, Ar.snoc_eq hA, List.length_append, List.length_singleton, List.length_nil] <;> first | assumption | omega | (constructor <;> omega)))); (focus (cbv; done))) | (apply Ok.dcallO (cx); (focus (cbv; done)); (focus (cbv; done)); (focus (first | exact trivial | (simp only [obsOk, and_true, Ar.inc_eq hA, Ar.snoc_eq hA, List.length_append, List.length_singleton, List.length_nil] <;> first | assumption | omega | (constructor <;> omega)))); (focus (cbv; done))) | (apply Ok.callO (o1); (focus (cbv; done)); (focus (cbv; done)); (focus (first | exact trivial | (simp only [obsOk, and_true, Ar.inc_eq hA, Ar.snoc_eq hA, List.length_append, List.length_singleton, List.length_nil] <;> first | assumption | omega | (constructor <;> omega)))); (focus (cbv; done))) | (apply Ok.dcallO (o1); (focus (cbv; done)); (focus (cbv; done)); (focus (first | exact trivial | (simp only [obsOk, and_true, Ar.inc_eq hA, Ar.snoc_eq hA, List.length_append, List.length_singleton, List.length_nil] <;> first | assumption | omega | (constructor <;> omega)))); (focus (cbv; done))) | (apply Ok.callO (o2); (focus (cbv; done)); (focus (cbv; done)); (focus (first | exact trivial | (simp only [obsOk, and_true, Ar.inc_eq hA, Ar.snoc_eq hA, List.length_append, List.length_singleton, List.length_nil] <;> first | assumption | omega | (constructor <;> omega)))); (focus (cbv; done))) | (apply Ok.dcallO (o2); (focus (cbv; done)); (focus (cbv; done)); (focus (first | exact trivial | (simp only [obsOk, and_true, Ar.inc_eq hA, Ar.snoc_eq hA, List.length_append, List.length_singleton, List.length_nil] <;> first | assumption | omega | (constructor <;> omega)))); (focus (cbv; done))) | (apply Ok.callO (o3); (focus (cbv; done)); (focus (cbv; done)); (focus (first | exact trivial | (simp only [obsOk, and_true, Ar.inc_eq hA, Ar.snoc_eq hA, List.length_append, List.length_singleton, List.length_nil] <;> first | assumption | omega | (constructor <;> omega)))); (focus (cbv; done))) | (apply Ok.dcallO (o3); (focus (cbv; done)); (focus (cbv; done)); (focus (first | exact trivial | (simp only [obsOk, and_true, Ar.inc_eq hA, Ar.snoc_eq hA, List.length_append, List.length_singleton, List.length_nil] <;> first | assumption | omega | (constructor <;> omega)))); (focus (cbv; done))) | (apply Ok.callO (o4); (focus (cbv; done)); (focus (cbv; done)); (focus (first | exact trivial | (simp only [obsOk, and_true, Ar.inc_eq hA, Ar.snoc_eq hA, List.length_append, List.length_singleton, List.length_nil] <;> first | assumption | omega | (constructor <;> omega)))); (focus (cbv; done))) | (apply Ok.dcallO (o4); (focus (cbv; done)); (focus (cbv; done)); (focus (first | exact trivial | (simp only [obsOk, and_true, Ar.inc_eq hA, Ar.snoc_eq hA, List.length_append, List.length_singleton, List.length_nil] <;> first | assumption | omega | (constructor <;> omega)))); (focus (cbv; done))) | (apply Ok.callO (a1); (focus (cbv; done)); (focus (cbv; done)); (focus (first | exact trivial | (simp only [obsOk, and_true, Ar.inc_eq hA, Ar.snoc_eq hA, List.length_append, List.length_singleton, List.length_nil] <;> first | assumption | omega | (constructor <;> omega)))); (focus (cbv; done))) | (apply Ok.dcallO (a1); (focus (cbv; done)); (focus (cbv; done)); (focus (first | exact trivial | (simp only [obsOk, and_true, Ar.inc_eq hA, Ar.snoc_eq hA, List.length_append, List.length_singleton, List.length_nil] <;> first | assumption | omega | (constructor <;> omega)))); (focus (cbv; done))) | (apply Ok.callO (a2); (focus (cbv; done)); (focus (cbv; done)); (focus (first | exact trivial | (simp only [obsOk, and_true, Ar.inc_eq hA, Ar.snoc_eq hA, List.length_append, List.length_singleton, List.length_nil] <;> first | assumption | omega | (constructor <;> omega)))); (focus (cbv; done))) | (apply Ok.dcallO (a2); (focus (cbv; done)); (focus (cbv; done)); (focus (first | exact trivial | (simp only [obsOk, and_true, Ar.inc_eq hA, Ar.snoc_eq hA, List.length_append, List.length_singleton, List.length_nil] <;> first | assumption | omega | (constructor <;> omega)))); (focus (cbv; done))) | (apply Ok.callO (a3); (focus (cbv; done)); (focus (cbv; done)); (focus (first | exact trivial | (simp only [obsOk, and_true, Ar.inc_eq hA, Ar.snoc_eq hA, List.length_append, List.length_singleton, List.length_nil] <;> first | assumption | omega | (constructor <;> omega)))); (focus (cbv; done))) | (apply Ok.dcallO (a3); (focus (cbv; done)); (focus (cbv; done)); (focus (first | exact trivial | (simp only [obsOk, and_true, Ar.inc_eq hA, Ar.snoc_eq hA, List.length_append, List.length_singleton, List.length_nil] <;> first | assumption | omega | (constructor <;> omega)))); (focus (cbv; done))) | (apply Ok.callO (a4); (focus (cbv; done)); (focus (cbv; done)); (focus (first | exact trivial | (simp only [obsOk, and_true, Ar.inc_eq hA, Ar.snoc_eq hA, List.length_append, List.length_singleton, List.length_nil] <;> first | assumption | omega | (constructor <;> omega)))); (focus (cbv; done))) | (apply Ok.dcallO (a4); (focus (cbv; done)); (focus (cbv; done)); (focus (first | exact trivial | (simp only [obsOk, and_true, Ar.inc_eq hA, Ar.snoc_eq hA, List.length_append, List.length_singleton, List.length_nil] <;> first | assumption | omega | (constructor <;> omega)))); (focus (cbv; done))) | (rw [qa]) | (rw [qs]) | (rw [ql]) | (rw [qb]) | (rw [hAe]) | (rw [h10]) | (rw [h01]) | (rw [hc0]) | (rw [hc8]) | (rw [hadd]) | (rw [hl0]) | (rw [hl1]) | (rw [hl2]) | (rw [hl3]) | (rw [hlt0]) | (rw [hlt1]) | (rw [hb1]) | (rw [hb2]))
      (first | (apply Ok.finO1; (focus (cbv; done)); (focus (cbv; done)); (focus (first | exact trivial | (simp only [obsOk, and_true, Ar.inc_eq hA, Ar.snoc_eq hA, List.length_append, List.length_singleton, List.length_nil] <;> first | assumption | omega | (constructor <;> omega))))) | (apply Ok.finO2; (focus (cbv; done)); (focus (cbv; done)); (focus (first | exact trivial | (simp only [obsOk, and_true, Ar.inc_eq hA, Ar.snoc_eq hA, List.length_append, List.length_singleton, List.length_nil] <;> first | assumption | omega | (constructor <;> omega))))) | (apply Ok.finO3; (focus (cbv; done)); (focus (cbv; done)); (focus (first | exact trivial | (simp only [obsOk, and_true, Ar.inc_eq hA, Ar.snoc_eq hA, List.length_append, List.length_singleton, List.length_nil] <;> first | assumption | omega | (constructor <;> omega))))))
      all_goals rfl
    · rw [if_neg hb] at a4
      rw [decide_eq_false hb] at qb
      refine CallsV.ok (fn := Try.f11) (by kernel_rfl) (by kernel_rfl) rfl (by cbv) (by cbv) ?_
      repeat (first | (apply Ok.run1 hmix hA false 2000; focus (cbv; done)) | (apply Ok.one hmix hA; focus (cbv; done)) | (rw [Ar.notT hA]) | (rw [Ar.notF hA]) | (refine Ok.condT ?_ ?_; focus (cbv; done)) | (refine Ok.condF ?_ ?_; focus (cbv; done)) | (refine Ok.drawnE (by as_aux_lemma => kernel_rfl) ?_) | (apply Ok.op; (focus (cbv; done))) | (apply Ok.dop; (focus (cbv; done))) | (apply Ok.leave) | (apply Ok.leaveRet) | (apply Ok.callO (ck); (focus (cbv; done)); (focus (cbv; done)); (focus (first | exact trivial | (simp only [obsOk, and_true, Ar.inc_eq hA, Ar.snoc_eq hA, List.length_append, List.length_singleton, List.length_nil] <;> first | assumption | omega | (constructor <;> omega)))); (focus (cbv; done))) | (apply Ok.dcallO (ck); (focus (cbv; done)); (focus (cbv; done)); (focus (first | exact trivial | (simp only [obsOk, and_true, Ar.inc_eq hA, Ar.snoc_eq hA, List.length_append, List.length_singleton, List.length_nil] <;> first | assumption | omega | (constructor <;> omega)))); (focus (cbv; done))) | (apply Ok.callO (ca); (focus (cbv; done)); (focus (cbv; done)); (focus (first | exact trivial | (simp only [obsOk, and_true, Ar.inc_eq hA, Ar.snoc_eq hA, List.length_append, List.length_singleton, List.length_nil] <;> first | assumption | omega | (constructor <;> omega)))); (focus (cbv; done))) | (apply Ok.dcallO (ca); (focus (cbv; done)); (focus (cbv; done)); (focus (first | exact trivial | (simp only [obsOk, and_true, Ar.inc_eq hA, Ar.snoc_eq hA, List.length_append, List.length_singleton, List.length_nil] <;> first | assumption | omega | (constructor <;> omega)))); (focus (cbv; done))) | (apply Ok.callO (cb); (focus (cbv; done)); (focus (cbv; done)); (focus (first | exact trivial | (simp only [obsOk, and_true, Ar.inc_eq hA, Ar.snoc_eq hA, List.length_append, List.length_singleton, List.length_nil] <;> first | assumption | omega | (constructor <;> omega)))); (focus (cbv; done))) | (apply Ok.dcallO (cb); (focus (cbv; done)); (focus (cbv; done)); (focus (first | exact trivial | (simp only [obsOk, and_true, Ar.inc_eq hA, Ar.snoc_eq hA, List.length_append, List.length_singleton, List.length_nil] <;> first | assumption | omega | (constructor <;> omega)))); (focus (cbv; done))) | (apply Ok.callO (cl); (focus (cbv; done)); (focus (cbv; done)); (focus (first | exact trivial | (simp only [obsOk, and_true, Ar.inc_eq hA, Ar.snoc_eq hA, List.length_append, List.length_singleton, List.length_nil] <;> first | assumption | omega | (constructor <;> omega)))); (focus (cbv; done))) | (apply Ok.dcallO (cl); (focus (cbv; done)); (focus (cbv; done)); (focus (first | exact trivial | (simp only [obsOk, and_true, Ar.inc_eq hA, Ar.snoc_eq hA, List.length_append, List.length_singleton, List.length_nil] <;> first | assumption | omega | (constructor <;> omega)))); (focus (cbv; done))) | (apply Ok.callO (cx); (focus (cbv; done)); (focus (cbv; done)); (focus (first | exact trivial | (simp only [obsOk, and_true, Ar.inc_eq hA, Ar.snoc_eq hA, List.length_append, List.length_singleton, List.length_nil] <;> first | assumption | omega | (constructor <;> omega)))); (focus (cbv; done))) | (apply Ok.dcallO (cx); (focus (cbv; done)); (focus (cbv; done)); (focus (first | exact trivial | (simp only [obsOk, and_true, Ar.inc_eq hA, Ar.snoc_eq hA, List.length_append, List.length_singleton, List.length_nil] <;> first | assumption | omega | (constructor <;> omega)))); (focus (cbv; done))) | (apply Ok.callO (o1); (focus (cbv; done)); (focus (cbv; done)); (focus (first | exact trivial | (simp only [obsOk, and_true, Ar.inc_eq hA, Ar.snoc_eq hA, List.length_append, List.length_singleton, List.length_nil] <;> first | assumption | omega | (constructor <;> omega)))); (focus (cbv; done))) | (apply Ok.dcallO (o1); (focus (cbv; done)); (focus (cbv; done)); (focus (first | exact trivial | (simp only [obsOk, and_true, Ar.inc_eq hA, Ar.snoc_eq hA, List.length_append, List.length_singleton, List.length_nil] <;> first | assumption | omega | (constructor <;> omega)))); (focus (cbv; done))) | (apply Ok.callO (o2); (focus (cbv; done)); (focus (cbv; done)); (focus (first | exact trivial | (simp only [obsOk, and_true, Ar.inc_eq hA, Ar.snoc_eq hA, List.length_append, List.length_singleton, List.length_nil] <;> first | assumption | omega | (constructor <;> omega)))); (focus (cbv; done))) | (apply Ok.dcallO (o2); (focus (cbv; done)); (focus (cbv; done)); (focus (first | exact trivial | (simp only [obsOk, and_true, Ar.inc_eq hA, Ar.snoc_eq hA, List.length_append, List.length_singleton, List.length_nil] <;> first | assumption | omega | (constructor <;> omega)))); (focus (cbv; done))) | (apply Ok.callO (o3); (focus (cbv; done)); (focus (cbv; done)); (focus (first | exact trivial | (simp only [obsOk, and_true, Ar.inc_eq hA, Ar.snoc_eq hA, List.length_append, List.length_singleton, List.length_nil] <;> first | assumption | omega | (constructor <;> omega)))); (focus (cbv; done))) | (apply Ok.dcallO (o3); (focus (cbv; done)); (focus (cbv; done)); (focus (first | exact trivial | (simp only [obsOk, and_true, Ar.inc_eq hA, Ar.snoc_eq hA, List.length_append, List.length_singleton, List.length_nil] <;> first | assumption | omega | (constructor <;> omega)))); (focus (cbv; done))) | (apply Ok.callO (o4); (focus (cbv; done)); (focus (cbv; done)); (focus (first | exact trivial | (simp only [obsOk, and_true, Ar.inc_eq hA, Ar.snoc_eq hA, List.length_append, List.length_singleton, List.length_nil] <;> first | assumption | omega | (constructor <;> omega)))); (focus (cbv; done))) | (apply Ok.dcallO (o4); (focus (cbv; done)); (focus (cbv; done)); (focus (first | exact trivial | (simp only [obsOk, and_true, Ar.inc_eq hA, Ar.snoc_eq hA, List.length_append, List.length_singleton, List.length_nil] <;> first | assumption | omega | (constructor <;> omega)))); (focus (cbv; done))) | (apply Ok.callO (a1); (focus (cbv; done)); (focus (cbv; done)); (focus (first | exact trivial | (simp only [obsOk, and_true, Ar.inc_eq hA, Ar.snoc_eq hA, List.length_append, List.length_singleton, List.length_nil] <;> first | assumption | omega | (constructor <;> omega)))); (focus (cbv; done))) | (apply Ok.dcallO (a1); (focus (cbv; done)); (focus (cbv; done)); (focus (first | exact trivial | (simp only [obsOk, and_true, Ar.inc_eq hA, Ar.snoc_eq hA, List.length_append, List.length_singleton, List.length_nil] <;> first | assumption | omega | (constructor <;> omega)))); (focus (cbv; done))) | (apply Ok.callO (a2); (focus (cbv; done)); (focus (cbv; done)); (focus (first | exact trivial | (simp only [obsOk, and_true, Ar.inc_eq hA, Ar.snoc_eq hA, List.length_append, List.length_singleton, List.length_nil] <;> first | assumption | omega | (constructor <;> omega)))); (focus (cbv; done))) | (apply Ok.dcallO (a2); (focus (cbv; done)); (focus (cbv; done)); (focus (first | exact trivial | (simp only [obsOk, and_true, Ar.inc_eq hA, Ar.snoc_eq hA, List.length_append, List.length_singleton, List.length_nil] <;> first | assumption | omega | (constructor <;> omega)))); (focus (cbv; done))) | (apply Ok.callO (a3); (focus (cbv; done)); (focus (cbv; done)); (focus (first | exact trivial | (simp only [obsOk, and_true, Ar.inc_eq hA, Ar.snoc_eq hA, List.length_append, List.length_singleton, List.length_nil] <;> first | assumption | omega | (constructor <;> omega)))); (focus (cbv; done))) | (apply Ok.dcallO (a3); (focus (cbv; done)); (focus (cbv; done)); (focus (first | exact trivial | (simp only [obsOk, and_true, Ar.inc_eq hA, Ar.snoc_eq hA, List.length_append, List.length_singleton, List.length_nil] <;> first | assumption | omega | (constructor <;> omega)))); (focus (cbv; done))) | (apply Ok.callO (a4); (focus (cbv; done)); (focus (cbv; done)); (focus (first | exact trivial | (simp only [obsOk, and_true, Ar.inc_eq hA, Ar.snoc_eq hA, List.length_append, List.length_singleton, List.length_nil] <;> first | assumption | omega | (constructor <;> omega)))); (focus (cbv; done))) | (apply Ok.dcallO (a4); (focus (cbv; done)); (focus (cbv; done)); (focus (first | exact trivial | (simp only [obsOk, and_true, Ar.inc_eq hA, Ar.snoc_eq hA, List.length_append, List.length_singleton, List.length_nil] <;> first | assumption | omega | (constructor <;> omega)))); (focus (cbv; done))) | (rw [qa]) | (rw [qs]) | (rw [ql]) | (rw [qb]) | (rw [hAe]) | (rw [h10]) | (rw [h01]) | (rw [hc0]) | (rw [hc8]) | (rw [hadd]) | (rw [hl0]) | (rw [hl1]) | (rw [hl2]) | (rw [hl3]) | (rw [hlt0]) | (rw [hlt1]) | (rw [hb1]) | (rw [hb2]))
      (first | (apply Ok.finO1; (focus (cbv; done)); (focus (cbv; done)); (focus (first | exact trivial | (simp only [obsOk, and_true, Ar.inc_eq hA, Ar.snoc_eq hA, List.length_append, List.length_singleton, List.length_nil] <;> first | assumption | omega | (constructor <;> omega))))) | (apply Ok.finO2; (focus (cbv; done)); (focus (cbv; done)); (focus (first | exact trivial | (simp only [obsOk, and_true, Ar.inc_eq hA, Ar.snoc_eq hA, List.length_append, List.length_singleton, List.length_nil] <;> first | assumption | omega | (constructor <;> omega))))) | (apply Ok.finO3; (focus (cbv; done)); (focus (cbv; done)); (focus (first | exact trivial | (simp only [obsOk, and_true, Ar.inc_eq hA, Ar.snoc_eq hA, List.length_append, List.length_singleton, List.length_nil] <;> first | assumption | omega | (constructor <;> omega))))))
      all_goals rfl
end Go.Proofs.Ytnojmocoifodjaa.Pv
set_option linter.unusedVariables false
namespace Go.Proofs.Ytnojmocoifodjaa.Pv
open Go Go.Proofs Go.RowKit
theorem OpShapes_walk {W : World} {z0 z1 : Int} (h0 : (Lit.int .i64 z0).wf = true) (h1 : (Lit.int .i64 z1).wf = true) : Calls Try.prog 11 #[.int .i64 z0, .int .i64 z1] W (fun e W' => e = .returned (.bool true) ∧ Below W.heap.size W W') :=
  (law7_OpShapes z0 z1).yes rfl (fun i q hq => by
    match i with
    | 0 => simp only [List.getElem?_cons_zero, Option.some.injEq] at hq; subst hq; exact .int _ _
    | 1 => simp only [List.getElem?_cons_zero, List.getElem?_cons_succ, Option.some.injEq] at hq; subst hq; exact .int _ _
    | i + 2 => simp at hq)
end Go.Proofs.Ytnojmocoifodjaa.Pv
