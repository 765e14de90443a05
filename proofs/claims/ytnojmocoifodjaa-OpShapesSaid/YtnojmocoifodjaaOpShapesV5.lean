/- The law OpShapes of this seat: a part of its proof (an abstract evaluator of the code that is proved sound, and contracts of functions), with no condition. -/
import Derived.Test.YtnojmocoifodjaaOpShapesV4
import Derived.Test.YtnojmocoifodjaaOpShapesV3
set_option maxRecDepth 100000
set_option maxHeartbeats 4000000
set_option linter.unusedVariables false
set_option linter.unusedSimpArgs false
namespace Go.Proofs.Ytnojmocoifodjaa.Pv
open Go Go.Proofs
theorem val_kind {E : Enc} (hE : E = .std) : ∀ (n : Nat) (t : Vl), SizeOf.sizeOf t ≤ n → szV t ≤ 2 ^ 28 → CallsV Try.prog 165 [E.vl t] (.pv (E.tyc (typV t))) [] := by
  intro n
  induction n with
  | zero => intro t h; cases t; simp at h
  | succ n ih =>
    rintro ⟨kd, vi, vb, vs, l⟩ hn hsz
    obtain ⟨A, hA⟩ : ∃ A : Ar, A = .std := ⟨_, rfl⟩
    rw [szV] at hsz
    have hlen := szVs_len l
    obtain ⟨ln, hln⟩ : ∃ n, n = l.length := ⟨_, rfl⟩
    have hll : A .lenP (E .vls l) = Int.ofNat ln := by rw [Ar.lenP_eq hA, vls_len hE, hln]; rfl
    have ht0 : E .tys [] = [] := by rw [E.tys_eq hE]; rfl
    have hsub : ∀ x, x ∈ l → CallsV Try.prog 165 [E.vl x] (.pv (E.tyc (typV x))) [] := fun x hx => by
      have h1 := List.sizeOf_lt_of_mem hx
      have h2 := szVs_mem hx
      simp at hn
      exact ih x (by omega) (by omega)
    clear ih
    rw [typV, typVs_eq]
    refine CallsV.ok (fn := Try.f165) (by kernel_rfl) (by kernel_rfl) rfl (by cbv) (by cbv) ?_
    repeat (first | (apply Ok.run1 hmix hA false 2000; focus (cbv; done)) | (apply Ok.one hmix hA; focus (cbv; done)) | (rw [Ar.notT hA]) | (rw [Ar.notF hA]) | (refine Ok.condT ?_ ?_; focus (cbv; done)) | (refine Ok.condF ?_ ?_; focus (cbv; done)) | (refine Ok.drawnE (by as_aux_lemma => kernel_rfl) ?_))
    rw [hll]
    refine Ok.le (Le.nilBox 3 1 21 24 2 (by cbv) (by cbv) (by cbv) (by decide)) ?_
    refine Ok.loopAt [2, 3, 10, 11, 12] [2, 3, 21] (fun m s h => ∃ (k j : Nat) (es : List PV), m = ln - k ∧ k ≤ ln ∧ j = k ∧ es = E .tys ((l.take k).map typV) ∧
      s = mkS 25 [(2, .ptr 2 0), (3, .ptr 3 0), (10, .pv (.view (E .vls l))), (11, .pv (.int .i64 (Int.ofNat ln))), (12, .pv (.int .i64 (Int.ofNat k)))] ∧
      h = [(2, .box [.pv (.int .i64 0), .pv .nil] true), (3, .box [.pv (.int .i64 kd), .ref 21 j] true), (21, .row 24 2 es true)]) (ln - 0) (by cbv) ⟨0, 0, [], rfl, Nat.zero_le _, rfl, by rw [List.take_zero, List.map_nil, ht0], by cbv, by cbv⟩ ?_
    rintro m s h ⟨k, j, es, rfl, hk, hj, hes, rfl, rfl⟩
    have hesl : j = es.length := by rw [hes, tys_len hE, List.length_map, List.length_take, hj]; omega
    refine Ok.run hmix hA false 2000 (by cbv) ?_
    rw [ofNat_lt hA]
    by_cases hkl : k < ln
    · rw [decide_eq_true hkl]
      repeat (first | (apply Ok.run1 hmix hA false 2000; focus (cbv; done)) | (apply Ok.one hmix hA; focus (cbv; done)) | (rw [Ar.notT hA]) | (rw [Ar.notF hA]) | (refine Ok.condT ?_ ?_; focus (cbv; done)) | (refine Ok.condF ?_ ?_; focus (cbv; done)) | (refine Ok.drawnE (by as_aux_lemma => kernel_rfl) ?_))
      have hx : l[k]? = some (l[k]'(by omega)) := List.getElem?_eq_getElem (by omega)
      have hxm : l[k]'(by omega) ∈ l := List.getElem_mem (by omega)
      have htk : l.take (k + 1) = l.take k ++ [l[k]'(by omega)] := by rw [List.take_add_one, hx]; rfl
      generalize l[k]'(by omega) = x at hx hxm htk
      have cx := hsub x hxm
      obtain ⟨tx, htx⟩ : ∃ t, t = typV x := ⟨_, rfl⟩
      rw [← htx] at cx
      obtain ⟨es3, hes3⟩ : ∃ es3, es3 = es ++ [E.tyc tx] := ⟨_, rfl⟩
      obtain ⟨n3, hn3⟩ : ∃ n3, n3 = j + 1 := ⟨_, rfl⟩
      refine Ok.op (idx_view (E.vl x) (by cbv) (by cbv) (by simp) (by rw [E.vls_eq hE]; simp [hx]) rfl) ?_
      repeat (first | (apply Ok.run1 hmix hA false 2000; focus (cbv; done)) | (apply Ok.one hmix hA; focus (cbv; done)) | (rw [Ar.notT hA]) | (rw [Ar.notF hA]) | (refine Ok.condT ?_ ?_; focus (cbv; done)) | (refine Ok.condF ?_ ?_; focus (cbv; done)) | (refine Ok.drawnE (by as_aux_lemma => kernel_rfl) ?_) | (apply Ok.call (cx); (focus (cbv; done)); (focus (cbv; done)); (focus (cbv; done))) | (apply Ok.dcall (cx); (focus (cbv; done)); (focus (cbv; done)); (focus (cbv; done))))
      refine Ok.dop (app_ref (by cbv) (by cbv) hesl (by cbv) (by cbv) (by decide) (by simp only [List.length_singleton]; omega) (by unfold maxLen; simp only [List.length_singleton]; omega) n3 (by exact hn3) es3 (by rw [hes3]; rfl)) ?_
      repeat (first | (apply Ok.run1 hmix hA false 2000; focus (cbv; done)) | (apply Ok.one hmix hA; focus (cbv; done)) | (rw [Ar.notT hA]) | (rw [Ar.notF hA]) | (refine Ok.condT ?_ ?_; focus (cbv; done)) | (refine Ok.condF ?_ ?_; focus (cbv; done)) | (refine Ok.drawnE (by as_aux_lemma => kernel_rfl) ?_))
      rw [Ar.succ_eq hA (by omega)]
      exact Ok.back (ln - (k + 1)) [2, 3, 10, 11, 12] [2, 3, 21] (by omega) (by cbv) ⟨k + 1, n3, es3, rfl, by omega, by omega, by rw [hes3, hes, htk, E.tys_eq hE, E.tys_eq hE, List.map_append, List.map_append, htx]; rfl, by cbv, by cbv⟩
    · rw [decide_eq_false hkl]
      have hke : k = l.length := by omega
      rw [hke, List.take_length] at hes
      repeat (first | (apply Ok.run1 hmix hA false 2000; focus (cbv; done)) | (apply Ok.one hmix hA; focus (cbv; done)) | (rw [Ar.notT hA]) | (rw [Ar.notF hA]) | (refine Ok.condT ?_ ?_; focus (cbv; done)) | (refine Ok.condF ?_ ?_; focus (cbv; done)) | (refine Ok.drawnE (by as_aux_lemma => kernel_rfl) ?_))
      refine Ok.leave ?_
      repeat (first | (apply Ok.run1 hmix hA false 2000; focus (cbv; done)) | (apply Ok.one hmix hA; focus (cbv; done)) | (rw [Ar.notT hA]) | (rw [Ar.notF hA]) | (refine Ok.condT ?_ ?_; focus (cbv; done)) | (refine Ok.condF ?_ ?_; focus (cbv; done)) | (refine Ok.drawnE (by as_aux_lemma => kernel_rfl) ?_))
      refine Ok.fin1 (p := .agg [.int .i64 kd, .view es]) (ids := [21]) (by cbv) (by simp [frzL, frz2, frz1, frz0, rowOf, hget, PV.rlx, ← hesl]) ?_
      simp [Enc.tyc, hes]
theorem val_TypeOf {E : Enc} (hE : E = .std) (t : Vl) (hsz : szV t ≤ 2 ^ 28) : CallsV Try.prog 147 [E.vl t] (.pv (E.tyc (typOfM t))) [] := by
  obtain ⟨A, hA⟩ : ∃ A : Ar, A = .std := ⟨_, rfl⟩
  have ht0 : E .tys [] = [] := by rw [E.tys_eq hE]; rfl
  have c := val_Check hE t (by omega)
  have ck := val_kind hE _ t (Nat.le_refl _) hsz
  unfold typOfM
  generalize ckV t 0 = r at c ⊢
  generalize typV t = ty at ck ⊢
  obtain ⟨k, i, b, s, l⟩ := t
  obtain ⟨tk, tl⟩ := ty
  refine CallsV.ok (fn := Try.f147) (by kernel_rfl) (by kernel_rfl) rfl (by cbv) (by cbv) ?_
  repeat (first | (apply Ok.run1 hmix hA false 2000; focus (cbv; done)) | (apply Ok.one hmix hA; focus (cbv; done)) | (rw [Ar.notT hA]) | (rw [Ar.notF hA]) | (refine Ok.condT ?_ ?_; focus (cbv; done)) | (refine Ok.condF ?_ ?_; focus (cbv; done)) | (refine Ok.drawnE (by as_aux_lemma => kernel_rfl) ?_) | (apply Ok.call (c); (focus (cbv; done)); (focus (cbv; done)); (focus (cbv; done))) | (apply Ok.dcall (c); (focus (cbv; done)); (focus (cbv; done)); (focus (cbv; done))))
  rw [Ar.eq_eq hA, Ar.not_eq hA]
  by_cases h0 : r = 0
  · rw [decide_eq_true h0, if_neg (by simpa using h0)]
    repeat (first | (apply Ok.run1 hmix hA false 2000; focus (cbv; done)) | (apply Ok.one hmix hA; focus (cbv; done)) | (rw [Ar.notT hA]) | (rw [Ar.notF hA]) | (refine Ok.condT ?_ ?_; focus (cbv; done)) | (refine Ok.condF ?_ ?_; focus (cbv; done)) | (refine Ok.drawnE (by as_aux_lemma => kernel_rfl) ?_) | (apply Ok.call (ck); (focus (cbv; done)); (focus (cbv; done)); (focus (cbv; done))) | (apply Ok.dcall (ck); (focus (cbv; done)); (focus (cbv; done)); (focus (cbv; done))))
    (first | (apply Ok.fin1; (focus (cbv; done)); (focus (cbv; done))) | (apply Ok.fin2; (focus (cbv; done)); (focus (cbv; done))) | (apply Ok.fin3; (focus (cbv; done)); (focus (cbv; done))))
    all_goals first | rfl | simp [Enc.tyc]
  · rw [decide_eq_false h0, if_pos h0]
    repeat (first | (apply Ok.run1 hmix hA false 2000; focus (cbv; done)) | (apply Ok.one hmix hA; focus (cbv; done)) | (rw [Ar.notT hA]) | (rw [Ar.notF hA]) | (refine Ok.condT ?_ ?_; focus (cbv; done)) | (refine Ok.condF ?_ ?_; focus (cbv; done)) | (refine Ok.drawnE (by as_aux_lemma => kernel_rfl) ?_))
    (first | (apply Ok.fin1; (focus (cbv; done)); (focus (cbv; done))) | (apply Ok.fin2; (focus (cbv; done)); (focus (cbv; done))) | (apply Ok.fin3; (focus (cbv; done)); (focus (cbv; done))))
    all_goals first | rfl | simp [Enc.tyc, ht0, Ty.zero]
theorem slices_ClipT {E : Enc} (hE : E = .std) (l : List Ty) : CallsV Try.prog 82 [.view (E .tys l)] (.pv (.view (E .tys l))) [] := by
  obtain ⟨A, hA⟩ : ∃ A : Ar, A = .std := ⟨_, rfl⟩
  obtain ⟨ln, hln⟩ : ∃ n, n = l.length := ⟨_, rfl⟩
  have hll : A .lenP (E .tys l) = Int.ofNat ln := by rw [Ar.lenP_eq hA, tys_len hE, hln]; rfl
  obtain ⟨es, hes⟩ : ∃ es, es = E .tys l := ⟨_, rfl⟩
  have hl : ln = es.length := by rw [hes, tys_len hE, hln]
  have hc : ∀ e, e ∈ es → e.cells.length = 2 := by
    intro e he
    rw [hes, E.tys_eq hE] at he
    obtain ⟨x, _, rfl⟩ := List.mem_map.1 he
    rfl
  rw [← hes] at hll ⊢
  obtain ⟨r, hr⟩ : ∃ r : PV, r = if ln = 0 then .cap0 else .view es := ⟨_, rfl⟩
  refine CallsV.ok (fn := Try.f82) (by kernel_rfl) (by kernel_rfl) rfl (by cbv) (by cbv) ?_
  refine Ok.run hmix hA false 2000 (by cbv) ?_
  rw [hll]
  refine Ok.op (slc_full (by cbv) (by cbv) (by cbv) hl hc r hr) ?_
  repeat (first | (apply Ok.run1 hmix hA false 2000; focus (cbv; done)) | (apply Ok.one hmix hA; focus (cbv; done)) | (rw [Ar.notT hA]) | (rw [Ar.notF hA]) | (refine Ok.condT ?_ ?_; focus (cbv; done)) | (refine Ok.condF ?_ ?_; focus (cbv; done)) | (refine Ok.drawnE (by as_aux_lemma => kernel_rfl) ?_))
  refine Ok.fin (by cbv) (FS.pv _ ?_)
  rw [hr]
  by_cases h0 : ln = 0
  · have : es = [] := List.eq_nil_of_length_eq_zero (by omega)
    rw [if_pos h0, this]
    exact PLe.cap0
  · rw [if_neg h0]; exact PLe.refl _
theorem expr_none {E : Enc} (hE : E = .std) (v : Vl) (hsz : szV v ≤ 2 ^ 28) : CallsV Try.prog 145 [E.vl v] (.pv (.bool (decide (cmpV v .zero = 0)))) [] := by
  obtain ⟨A, hA⟩ : ∃ A : Ar, A = .std := ⟨_, rfl⟩
  have h0 : E .vls [] = [] := by rw [E.vls_eq hE]; rfl
  have c := val_Same hE v .zero hsz (by simp [Vl.zero, szV, szVs])
  generalize decide (cmpV v .zero = 0) = b at c ⊢
  simp only [Enc.vl, Vl.zero, h0] at c
  obtain ⟨k, i, b', s, l⟩ := v
  refine CallsV.ok (fn := Try.f145) (by kernel_rfl) (by kernel_rfl) rfl (by cbv) (by cbv) ?_
  repeat (first | (apply Ok.run1 hmix hA false 2000; focus (cbv; done)) | (apply Ok.one hmix hA; focus (cbv; done)) | (rw [Ar.notT hA]) | (rw [Ar.notF hA]) | (refine Ok.condT ?_ ?_; focus (cbv; done)) | (refine Ok.condF ?_ ?_; focus (cbv; done)) | (refine Ok.drawnE (by as_aux_lemma => kernel_rfl) ?_) | (apply Ok.call (c); (focus (cbv; done)); (focus (cbv; done)); (focus (cbv; done))) | (apply Ok.dcall (c); (focus (cbv; done)); (focus (cbv; done)); (focus (cbv; done))))
  exact Ok.fin (by cbv) (FS.out (by cbv) (PLe.refl _))
def encS (x : List UInt8 × Shp) : PV := .agg (.str x.1 :: x.2.cells)
theorem expr_find (l : List (List UInt8 × Shp)) (op : List UInt8) (es : List PV) (hes : es = l.map encS) (hl : l.length ≤ 2 ^ 30) : CallsV Try.prog 110 [.view es, .str op] (.tup [.pv (.agg ((findS l op).getD .zero).cells), .pv (.bool (findS l op).isSome)]) [] := by
  obtain ⟨A, hA⟩ : ∃ A : Ar, A = .std := ⟨_, rfl⟩
  obtain ⟨n, hn⟩ : ∃ n, n = l.length := ⟨_, rfl⟩
  have hll : A .lenP es = Int.ofNat n := by rw [Ar.lenP_eq hA, hes, List.length_map, hn]; rfl
  obtain ⟨res, hres⟩ : ∃ r, r = findS l op := ⟨_, rfl⟩
  rw [← hres]
  refine CallsV.ok (fn := Try.f110) (by kernel_rfl) (by kernel_rfl) rfl (by cbv) (by cbv) ?_
  repeat (first | (apply Ok.run1 hmix hA false 2000; focus (cbv; done)) | (apply Ok.one hmix hA; focus (cbv; done)) | (rw [Ar.notT hA]) | (rw [Ar.notF hA]) | (refine Ok.condT ?_ ?_; focus (cbv; done)) | (refine Ok.condF ?_ ?_; focus (cbv; done)) | (refine Ok.drawnE (by as_aux_lemma => kernel_rfl) ?_))
  rw [hll]
  refine Ok.loopAt [1, 4, 5, 9, 10, 11] [4] (fun m s h => ∃ k, m = n - k ∧ k ≤ n ∧ findS (l.drop k) op = res ∧ s = mkS 23 [(1, .pv (.str op)), (4, .ptr 4 0), (5, .pv (.bool false)), (9, .pv (.view es)), (10, .pv (.int .i64 (Int.ofNat n))), (11, .pv (.int .i64 (Int.ofNat k)))] ∧
    h = [(4, .box [.pv (.int .i64 0), .pv (.int .i64 0), .pv .nil, .pv (.bool false), .pv (.int .i64 0)] true)]) (n - 0) (by cbv) ⟨0, rfl, Nat.zero_le _, hres.symm, by cbv, by cbv⟩ ?_
  rintro m s h ⟨k, rfl, hk, hc, rfl, rfl⟩
  refine Ok.run hmix hA false 2000 (by cbv) ?_
  rw [ofNat_lt hA]
  by_cases hkl : k < n
  · rw [decide_eq_true hkl]
    repeat (first | (apply Ok.run1 hmix hA false 2000; focus (cbv; done)) | (apply Ok.one hmix hA; focus (cbv; done)) | (rw [Ar.notT hA]) | (rw [Ar.notF hA]) | (refine Ok.condT ?_ ?_; focus (cbv; done)) | (refine Ok.condF ?_ ?_; focus (cbv; done)) | (refine Ok.drawnE (by as_aux_lemma => kernel_rfl) ?_))
    have hx : l[k]? = some (l[k]'(by omega)) := List.getElem?_eq_getElem (by omega)
    have hdl : l.drop k = l[k]'(by omega) :: l.drop (k + 1) := List.drop_eq_getElem_cons (by omega)
    generalize l[k]'(by omega) = x at hx hdl
    obtain ⟨key, least, most, of, alike, out⟩ := x
    rw [hdl, findS] at hc
    obtain ⟨ofs, hofs⟩ : ∃ o : List PV, o = of.map fun k => .int .i64 k := ⟨_, rfl⟩
    refine Ok.op (idx_view (.agg [.str key, .int .i64 least, .int .i64 most, .view ofs, .bool alike, .int .i64 out]) (by cbv) (by cbv) (by simp) (by rw [hes]; simp [hx, encS, Shp.cells, hofs]) rfl) ?_
    repeat (first | (apply Ok.run1 hmix hA false 2000; focus (cbv; done)) | (apply Ok.one hmix hA; focus (cbv; done)) | (rw [Ar.notT hA]) | (rw [Ar.notF hA]) | (refine Ok.condT ?_ ?_; focus (cbv; done)) | (refine Ok.condF ?_ ?_; focus (cbv; done)) | (refine Ok.drawnE (by as_aux_lemma => kernel_rfl) ?_))
    rw [Ar.seq_eq hA]
    by_cases h0 : key = op
    · rw [if_pos h0] at hc
      rw [decide_eq_true h0, ← hc]
      repeat (first | (apply Ok.run1 hmix hA false 2000; focus (cbv; done)) | (apply Ok.one hmix hA; focus (cbv; done)) | (rw [Ar.notT hA]) | (rw [Ar.notF hA]) | (refine Ok.condT ?_ ?_; focus (cbv; done)) | (refine Ok.condF ?_ ?_; focus (cbv; done)) | (refine Ok.drawnE (by as_aux_lemma => kernel_rfl) ?_))
      refine Ok.leaveRet ?_
      repeat (first | (apply Ok.run1 hmix hA false 2000; focus (cbv; done)) | (apply Ok.one hmix hA; focus (cbv; done)) | (rw [Ar.notT hA]) | (rw [Ar.notF hA]) | (refine Ok.condT ?_ ?_; focus (cbv; done)) | (refine Ok.condF ?_ ?_; focus (cbv; done)) | (refine Ok.drawnE (by as_aux_lemma => kernel_rfl) ?_))
      (first | (apply Ok.fin1; (focus (cbv; done)); (focus (cbv; done))) | (apply Ok.fin2; (focus (cbv; done)); (focus (cbv; done))) | (apply Ok.fin3; (focus (cbv; done)); (focus (cbv; done))))
      all_goals first | rfl | simp [Shp.cells, hofs]
    · rw [if_neg h0] at hc
      rw [decide_eq_false h0]
      repeat (first | (apply Ok.run1 hmix hA false 2000; focus (cbv; done)) | (apply Ok.one hmix hA; focus (cbv; done)) | (rw [Ar.notT hA]) | (rw [Ar.notF hA]) | (refine Ok.condT ?_ ?_; focus (cbv; done)) | (refine Ok.condF ?_ ?_; focus (cbv; done)) | (refine Ok.drawnE (by as_aux_lemma => kernel_rfl) ?_))
      rw [Ar.succ_eq hA (by omega)]
      exact Ok.back (n - (k + 1)) [1, 4, 5, 9, 10, 11] [4] (by omega) (by cbv) ⟨k + 1, rfl, by omega, hc, by cbv, by cbv⟩
  · rw [decide_eq_false hkl]
    have hke : k = l.length := by omega
    rw [hke, List.drop_length] at hc
    rw [← hc]
    repeat (first | (apply Ok.run1 hmix hA false 2000; focus (cbv; done)) | (apply Ok.one hmix hA; focus (cbv; done)) | (rw [Ar.notT hA]) | (rw [Ar.notF hA]) | (refine Ok.condT ?_ ?_; focus (cbv; done)) | (refine Ok.condF ?_ ?_; focus (cbv; done)) | (refine Ok.drawnE (by as_aux_lemma => kernel_rfl) ?_))
    refine Ok.leave ?_
    repeat (first | (apply Ok.run1 hmix hA false 2000; focus (cbv; done)) | (apply Ok.one hmix hA; focus (cbv; done)) | (rw [Ar.notT hA]) | (rw [Ar.notF hA]) | (refine Ok.condT ?_ ?_; focus (cbv; done)) | (refine Ok.condF ?_ ?_; focus (cbv; done)) | (refine Ok.drawnE (by as_aux_lemma => kernel_rfl) ?_))
    (first | (apply Ok.fin1; (focus (cbv; done)); (focus (cbv; done))) | (apply Ok.fin2; (focus (cbv; done)); (focus (cbv; done))) | (apply Ok.fin3; (focus (cbv; done)); (focus (cbv; done))))
    all_goals first | rfl | simp [Shp.cells, Shp.zero, findS]
theorem expr_shapes : CallsV Try.prog 111 [] (.ref 0 18) [.row 210 6 (shpT.map encS) true] := ev_ok 30 (by kernel_rfl)
end Go.Proofs.Ytnojmocoifodjaa.Pv
set_option maxRecDepth 100000
set_option maxHeartbeats 4000000
set_option linter.unusedVariables false
set_option linter.unusedSimpArgs false
namespace Go.Proofs.Ytnojmocoifodjaa.Pv
open Go Go.Proofs
theorem expr_fields {E : Enc} (hE : E = .std) (op : List UInt8) (v : Vl) (n : Int) (a : List Ex4) (s : Shp) (hsz : szV v ≤ 2 ^ 28) : CallsV Try.prog 112 [E.ex ⟨op, v, n, a⟩, .agg s.cells] (.pv (.bool (fieldsX op v n a.length s))) [] := by
  obtain ⟨A, hA⟩ : ∃ A : Ar, A = .std := ⟨_, rfl⟩
  obtain ⟨la, hla⟩ : ∃ n, n = a.length := ⟨_, rfl⟩
  have hll : A .lenP (E .exs a) = Int.ofNat la := by rw [Ar.lenP_eq hA, exs_len hE, hla]; rfl
  have cn := expr_none hE v hsz
  rw [← hla]
  obtain ⟨res, hres⟩ : ∃ r, r = fieldsX op v n la s := ⟨_, rfl⟩
  have hres' := hres
  unfold fieldsX at hres'
  rw [← hres]
  generalize decide (cmpV v .zero = 0) = bz at cn hres'
  obtain ⟨least, most, of, alike, out⟩ := s
  obtain ⟨vk, vi, vb, vs, vt⟩ := v
  obtain ⟨ofs, hofs⟩ : ∃ o : List PV, o = of.map fun k => .int .i64 k := ⟨_, rfl⟩
  have q1 : A .le least (Int.ofNat la) = decide (least ≤ la) := Ar.le_eq hA _ _
  have q2 : A .le (Int.ofNat la) most = decide ((la : Int) ≤ most) := Ar.le_eq hA _ _
  have q3 : A .seq op [108, 105, 116] = decide (op = oLit) := Ar.seq_eq hA _ _
  have q4 : A .seq op [97, 116] = decide (op = oAt) := Ar.seq_eq hA _ _
  have q5 : A .eq n 0 = decide (n = 0) := Ar.eq_eq hA _ _
  have hcells : (Shp.mk least most of alike out).cells = [.int .i64 least, .int .i64 most, .view ofs, .bool alike, .int .i64 out] := by rw [hofs]; rfl
  rw [hcells]
  dsimp only at hres'
  rw [← q1, ← q2, ← q3, ← q4, ← q5] at hres'
  clear hres q1 q2 q3 q4 q5
  refine CallsV.ok (fn := Try.f112) (by kernel_rfl) (by kernel_rfl) rfl (by cbv) (by cbv) ?_
  refine Ok.run hmix hA false 2000 (by cbv) ?_
  rw [hll]
  repeat' (first | (apply Ok.run1 hmix hA false 2000; focus (cbv; done)) | (apply Ok.one hmix hA; focus (cbv; done)) | (rw [Ar.notT hA]) | (rw [Ar.notF hA]) | (refine Ok.condT ?_ ?_; focus (cbv; done)) | (refine Ok.condF ?_ ?_; focus (cbv; done)) | (refine Ok.drawnE (by as_aux_lemma => kernel_rfl) ?_) | (apply Ok.call (cn); (focus (cbv; done)); (focus (cbv; done)); (focus (cbv; done))) | (apply Ok.dcall (cn); (focus (cbv; done)); (focus (cbv; done)); (focus (cbv; done))) | (apply Ok.cond; (focus (cbv; done)); all_goals (intro hh; (try rw [hh]))) | (apply Ok.splitG; (focus (cbv; done)); all_goals (intro hh; (try rw [hh]))) | (apply Ok.splitP; (focus (cbv; done)); all_goals (intro hh; (try rw [hh]))) | (apply Ok.fin1; (focus (cbv; done)); (focus (cbv; done))) | (apply Ok.fin2; (focus (cbv; done)); (focus (cbv; done))) | (apply Ok.fin3; (focus (cbv; done)); (focus (cbv; done))))
  all_goals (simp_all)
theorem fitsL_drop (ks : List Int) (l : List Ty) (k : Nat) (h : k < ks.length) (hl : k < l.length) : fitsL (ks.drop k) (l.drop k) = ((decide (ks[k] = 0) || decide (l[k].kind = ks[k])) && fitsL (ks.drop (k + 1)) (l.drop (k + 1))) := by
  rw [List.drop_eq_getElem_cons h, List.drop_eq_getElem_cons hl, fitsL]
theorem expr_fits {E : Enc} (hE : E = .std) (s : Shp) (l : List Ty) (hof : s.of.length ≤ l.length) (hal : s.alike = true → 2 ≤ l.length) (hl : l.length ≤ 2 ^ 30) (hsz : szTs l ≤ 2 ^ 40) : CallsV Try.prog 114 [.agg s.cells, .view (E .tys l)] (.pv (.bool (fitsX s l))) [] := by
  obtain ⟨A, hA⟩ : ∃ A : Ar, A = .std := ⟨_, rfl⟩
  obtain ⟨least, most, of, alike, out⟩ := s
  dsimp only at hof hal
  obtain ⟨ofs, hofs⟩ : ∃ o : List PV, o = of.map fun k => .int .i64 k := ⟨_, rfl⟩
  have hcells : (Shp.mk least most of alike out).cells = [.int .i64 least, .int .i64 most, .view ofs, .bool alike, .int .i64 out] := by rw [hofs]; rfl
  rw [hcells]
  obtain ⟨n, hn⟩ : ∃ n, n = of.length := ⟨_, rfl⟩
  obtain ⟨ln, hln⟩ : ∃ n, n = l.length := ⟨_, rfl⟩
  have hlo : A .lenP ofs = Int.ofNat n := by rw [Ar.lenP_eq hA, hofs, List.length_map, hn]; rfl
  have hll : A .lenP (E .tys l) = Int.ofNat ln := by rw [Ar.lenP_eq hA, tys_len hE, hln]; rfl
  obtain ⟨res, hres⟩ : ∃ r, r = fitsL of l := ⟨_, rfl⟩
  unfold fitsX
  dsimp only
  rw [← hres]
  refine CallsV.ok (fn := Try.f114) (by kernel_rfl) (by kernel_rfl) rfl (by cbv) (by cbv) ?_
  repeat (first | (apply Ok.run1 hmix hA false 2000; focus (cbv; done)) | (apply Ok.one hmix hA; focus (cbv; done)) | (rw [Ar.notT hA]) | (rw [Ar.notF hA]) | (refine Ok.condT ?_ ?_; focus (cbv; done)) | (refine Ok.condF ?_ ?_; focus (cbv; done)) | (refine Ok.drawnE (by as_aux_lemma => kernel_rfl) ?_))
  rw [hlo]
  refine Ok.loopAt [1, 2, 8, 9, 10] [2] (fun m sl h => ∃ k, m = n - k ∧ k ≤ n ∧ fitsL (of.drop k) (l.drop k) = res ∧ sl = mkS 45 [(1, .pv (.view (E .tys l))), (2, .ptr 2 0), (8, .pv (.view ofs)), (9, .pv (.int .i64 (Int.ofNat n))), (10, .pv (.int .i64 (Int.ofNat k)))] ∧
    h = [(2, .box [.pv (.int .i64 least), .pv (.int .i64 most), .pv (.view ofs), .pv (.bool alike), .pv (.int .i64 out)] true)]) (n - 0) (by cbv) ⟨0, rfl, Nat.zero_le _, by rw [List.drop_zero, List.drop_zero, hres], by cbv, by cbv⟩ ?_
  rintro m sl h ⟨k, rfl, hk, hc, rfl, rfl⟩
  refine Ok.run hmix hA false 2000 (by cbv) ?_
  rw [ofNat_lt hA]
  by_cases hkl : k < n
  · rw [decide_eq_true hkl]
    rw [fitsL_drop of l k (by omega) (by omega)] at hc
    have hx : of[k]? = some (of[k]'(by omega)) := List.getElem?_eq_getElem (by omega)
    have hy : l[k]? = some (l[k]'(by omega)) := List.getElem?_eq_getElem (by omega)
    generalize of[k]'(by omega) = kk at hx hc
    generalize l[k]'(by omega) = y at hy hc
    obtain ⟨yk, yl⟩ := y
    repeat (first | (apply Ok.run1 hmix hA false 2000; focus (cbv; done)) | (apply Ok.one hmix hA; focus (cbv; done)) | (rw [Ar.notT hA]) | (rw [Ar.notF hA]) | (refine Ok.condT ?_ ?_; focus (cbv; done)) | (refine Ok.condF ?_ ?_; focus (cbv; done)) | (refine Ok.drawnE (by as_aux_lemma => kernel_rfl) ?_))
    refine Ok.op (idx_view (.int .i64 kk) (by cbv) (by cbv) (by simp) (by rw [hofs]; simp [hx]) rfl) ?_
    refine Ok.run hmix hA false 2000 (by cbv) ?_
    rw [Ar.eq_eq hA, Ar.not_eq hA]
    by_cases h0 : kk = 0
    · rw [decide_eq_true h0]
      rw [decide_eq_true h0, Bool.true_or, Bool.true_and] at hc
      repeat (first | (apply Ok.run1 hmix hA false 2000; focus (cbv; done)) | (apply Ok.one hmix hA; focus (cbv; done)) | (rw [Ar.notT hA]) | (rw [Ar.notF hA]) | (refine Ok.condT ?_ ?_; focus (cbv; done)) | (refine Ok.condF ?_ ?_; focus (cbv; done)) | (refine Ok.drawnE (by as_aux_lemma => kernel_rfl) ?_))
      rw [Ar.succ_eq hA (by omega)]
      exact Ok.back (n - (k + 1)) [1, 2, 8, 9, 10] [2] (by omega) (by cbv) ⟨k + 1, rfl, by omega, hc, by cbv, by cbv⟩
    · rw [decide_eq_false h0]
      rw [decide_eq_false h0, Bool.false_or] at hc
      dsimp only at hc
      repeat (first | (apply Ok.run1 hmix hA false 2000; focus (cbv; done)) | (apply Ok.one hmix hA; focus (cbv; done)) | (rw [Ar.notT hA]) | (rw [Ar.notF hA]) | (refine Ok.condT ?_ ?_; focus (cbv; done)) | (refine Ok.condF ?_ ?_; focus (cbv; done)) | (refine Ok.drawnE (by as_aux_lemma => kernel_rfl) ?_))
      refine Ok.op (idx_viewG (E.tyc ⟨yk, yl⟩) (by cbv) (by cbv) (by cbv) (by simp) (by rw [E.tys_eq hE]; simp [hy]) rfl) ?_
      repeat (first | (apply Ok.run1 hmix hA false 2000; focus (cbv; done)) | (apply Ok.one hmix hA; focus (cbv; done)) | (rw [Ar.notT hA]) | (rw [Ar.notF hA]) | (refine Ok.condT ?_ ?_; focus (cbv; done)) | (refine Ok.condF ?_ ?_; focus (cbv; done)) | (refine Ok.drawnE (by as_aux_lemma => kernel_rfl) ?_))
      rw [Ar.eq_eq hA, Ar.not_eq hA]
      by_cases h1 : yk = kk
      · rw [decide_eq_true h1]
        rw [decide_eq_true h1, Bool.true_and] at hc
        repeat (first | (apply Ok.run1 hmix hA false 2000; focus (cbv; done)) | (apply Ok.one hmix hA; focus (cbv; done)) | (rw [Ar.notT hA]) | (rw [Ar.notF hA]) | (refine Ok.condT ?_ ?_; focus (cbv; done)) | (refine Ok.condF ?_ ?_; focus (cbv; done)) | (refine Ok.drawnE (by as_aux_lemma => kernel_rfl) ?_))
        rw [Ar.succ_eq hA (by omega)]
        exact Ok.back (n - (k + 1)) [1, 2, 8, 9, 10] [2] (by omega) (by cbv) ⟨k + 1, rfl, by omega, hc, by cbv, by cbv⟩
      · rw [decide_eq_false h1]
        rw [decide_eq_false h1, Bool.false_and] at hc
        rw [← hc]
        repeat (first | (apply Ok.run1 hmix hA false 2000; focus (cbv; done)) | (apply Ok.one hmix hA; focus (cbv; done)) | (rw [Ar.notT hA]) | (rw [Ar.notF hA]) | (refine Ok.condT ?_ ?_; focus (cbv; done)) | (refine Ok.condF ?_ ?_; focus (cbv; done)) | (refine Ok.drawnE (by as_aux_lemma => kernel_rfl) ?_))
        refine Ok.leaveRet ?_
        repeat (first | (apply Ok.run1 hmix hA false 2000; focus (cbv; done)) | (apply Ok.one hmix hA; focus (cbv; done)) | (rw [Ar.notT hA]) | (rw [Ar.notF hA]) | (refine Ok.condT ?_ ?_; focus (cbv; done)) | (refine Ok.condF ?_ ?_; focus (cbv; done)) | (refine Ok.drawnE (by as_aux_lemma => kernel_rfl) ?_))
        (first | (apply Ok.fin1; (focus (cbv; done)); (focus (cbv; done))) | (apply Ok.fin2; (focus (cbv; done)); (focus (cbv; done))) | (apply Ok.fin3; (focus (cbv; done)); (focus (cbv; done))))
        all_goals rfl
  · rw [decide_eq_false hkl]
    have hke : of.drop k = [] := List.drop_eq_nil_iff.2 (by omega)
    rw [hke, fitsL] at hc
    rw [← hc, Bool.true_and]
    clear hres hc
    cases alike with
    | false =>
      repeat (first | (apply Ok.run1 hmix hA false 2000; focus (cbv; done)) | (apply Ok.one hmix hA; focus (cbv; done)) | (rw [Ar.notT hA]) | (rw [Ar.notF hA]) | (refine Ok.condT ?_ ?_; focus (cbv; done)) | (refine Ok.condF ?_ ?_; focus (cbv; done)) | (refine Ok.drawnE (by as_aux_lemma => kernel_rfl) ?_))
      refine Ok.leave ?_
      repeat (first | (apply Ok.run1 hmix hA false 2000; focus (cbv; done)) | (apply Ok.one hmix hA; focus (cbv; done)) | (rw [Ar.notT hA]) | (rw [Ar.notF hA]) | (refine Ok.condT ?_ ?_; focus (cbv; done)) | (refine Ok.condF ?_ ?_; focus (cbv; done)) | (refine Ok.drawnE (by as_aux_lemma => kernel_rfl) ?_))
      (first | (apply Ok.fin1; (focus (cbv; done)); (focus (cbv; done))) | (apply Ok.fin2; (focus (cbv; done)); (focus (cbv; done))) | (apply Ok.fin3; (focus (cbv; done)); (focus (cbv; done))))
      all_goals rfl
    | true =>
      have h2 := hal rfl
      obtain ⟨i1, hi1⟩ : ∃ i, i = ln - 1 := ⟨_, rfl⟩
      obtain ⟨i2, hi2⟩ : ∃ i, i = ln - 2 := ⟨_, rfl⟩
      have s1 : A .sub .i64 (Int.ofNat ln) 1 = Int.ofNat i1 := by rw [hi1]; exact ofNat_sub (b := 1) hA (by omega) (by omega)
      have s2 : A .sub .i64 (Int.ofNat ln) 2 = Int.ofNat i2 := by rw [hi2]; exact ofNat_sub (b := 2) hA (by omega) (by omega)
      have hx1 : l[i1]? = some (l[i1]'(by omega)) := List.getElem?_eq_getElem (by omega)
      have hx2 : l[i2]? = some (l[i2]'(by omega)) := List.getElem?_eq_getElem (by omega)
      have hm1 : l[i1]'(by omega) ∈ l := List.getElem_mem (by omega)
      have hm2 : l[i2]'(by omega) ∈ l := List.getElem_mem (by omega)
      generalize l[i1]'(by omega) = t1 at hx1 hm1
      generalize l[i2]'(by omega) = t2 at hx2 hm2
      have g1 := szTs_mem hm1
      have g2 := szTs_mem hm2
      have cS := typ_Same hE _ t1 t2 (Nat.le_refl _) (by omega) (by omega)
      have e1 : l.getD (l.length - 1) Ty.zero = t1 := by rw [← hln, ← hi1, List.getD, hx1]; rfl
      have e2 : l.getD (l.length - 2) Ty.zero = t2 := by rw [← hln, ← hi2, List.getD, hx2]; rfl
      rw [e1, e2]
      generalize sameT t1 t2 = b at cS ⊢
      obtain ⟨k1, l1⟩ := t1
      obtain ⟨k2, l2⟩ := t2
      repeat (first | (apply Ok.run1 hmix hA false 2000; focus (cbv; done)) | (apply Ok.one hmix hA; focus (cbv; done)) | (rw [Ar.notT hA]) | (rw [Ar.notF hA]) | (refine Ok.condT ?_ ?_; focus (cbv; done)) | (refine Ok.condF ?_ ?_; focus (cbv; done)) | (refine Ok.drawnE (by as_aux_lemma => kernel_rfl) ?_))
      refine Ok.leave ?_
      repeat (first | (apply Ok.run1 hmix hA false 2000; focus (cbv; done)) | (apply Ok.one hmix hA; focus (cbv; done)) | (rw [Ar.notT hA]) | (rw [Ar.notF hA]) | (refine Ok.condT ?_ ?_; focus (cbv; done)) | (refine Ok.condF ?_ ?_; focus (cbv; done)) | (refine Ok.drawnE (by as_aux_lemma => kernel_rfl) ?_))
      rw [hll, s1]
      refine Ok.dop (idx_viewG (E.tyc ⟨k1, l1⟩) (by cbv) (by cbv) (by cbv) (by simp) (by rw [E.tys_eq hE]; simp [hx1]) rfl) ?_
      repeat (first | (apply Ok.run1 hmix hA false 2000; focus (cbv; done)) | (apply Ok.one hmix hA; focus (cbv; done)) | (rw [Ar.notT hA]) | (rw [Ar.notF hA]) | (refine Ok.condT ?_ ?_; focus (cbv; done)) | (refine Ok.condF ?_ ?_; focus (cbv; done)) | (refine Ok.drawnE (by as_aux_lemma => kernel_rfl) ?_))
      rw [hll, s2]
      refine Ok.dop (idx_viewG (E.tyc ⟨k2, l2⟩) (by cbv) (by cbv) (by cbv) (by simp) (by rw [E.tys_eq hE]; simp [hx2]) rfl) ?_
      repeat (first | (apply Ok.run1 hmix hA false 2000; focus (cbv; done)) | (apply Ok.one hmix hA; focus (cbv; done)) | (rw [Ar.notT hA]) | (rw [Ar.notF hA]) | (refine Ok.condT ?_ ?_; focus (cbv; done)) | (refine Ok.condF ?_ ?_; focus (cbv; done)) | (refine Ok.drawnE (by as_aux_lemma => kernel_rfl) ?_) | (apply Ok.call (cS); (focus (cbv; done)); (focus (cbv; done)); (focus (cbv; done))) | (apply Ok.dcall (cS); (focus (cbv; done)); (focus (cbv; done)); (focus (cbv; done))))
      (first | (apply Ok.fin1; (focus (cbv; done)); (focus (cbv; done))) | (apply Ok.fin2; (focus (cbv; done)); (focus (cbv; done))) | (apply Ok.fin3; (focus (cbv; done)); (focus (cbv; done))))
      all_goals rfl
end Go.Proofs.Ytnojmocoifodjaa.Pv
set_option maxRecDepth 100000
set_option maxHeartbeats 4000000
set_option linter.unusedVariables false
set_option linter.unusedSimpArgs false
namespace Go.Proofs.Ytnojmocoifodjaa.Pv
open Go Go.Proofs
theorem lgetD {α : Type} {l : List α} {i : Nat} {x d : α} (h : l[i]? = some x) : l.getD i d = x := by simp [List.getD, h]
theorem expr_comes {E : Enc} (hE : E = .std) (op : List UInt8) (v : Vl) (n : Int) (a : List Ex4) (s : Shp) (l : List Ty) (tin : Ty) (hv : szV v ≤ 2 ^ 28) (hsz : szTs l ≤ 2 ^ 39) (h1 : op = oAt → 1 ≤ l.length) (h2 : op = oIf → 2 ≤ l.length) :
    CallsV Try.prog 115 [E.ex ⟨op, v, n, a⟩, .agg s.cells, .view (E .tys l), E.tyc tin] (.tup [.pv (E.tyc (comesX op v n s l tin).1), .pv (.int .i64 (comesX op v n s l tin).2)]) [] := by
  obtain ⟨A, hA⟩ : ∃ A : Ar, A = .std := ⟨_, rfl⟩
  have ht0 : E .tys [] = [] := by rw [E.tys_eq hE]; rfl
  obtain ⟨least, most, of, alike, out⟩ := s
  obtain ⟨ofs, hofs⟩ : ∃ o : List PV, o = of.map fun k => .int .i64 k := ⟨_, rfl⟩
  have hcells : (Shp.mk least most of alike out).cells = [.int .i64 least, .int .i64 most, .view ofs, .bool alike, .int .i64 out] := by rw [hofs]; rfl
  rw [hcells]
  have q1 : A .seq op [108, 105, 116] = decide (op = oLit) := Ar.seq_eq hA _ _
  have q2 : A .seq op [120] = decide (op = oX) := Ar.seq_eq hA _ _
  have q3 : A .seq op [97, 116] = decide (op = oAt) := Ar.seq_eq hA _ _
  have q4 : A .seq op [116, 117, 112] = decide (op = oTup) := Ar.seq_eq hA _ _
  have q5 : A .seq op [105, 102] = decide (op = oIf) := Ar.seq_eq hA _ _
  have cT := val_TypeOf hE v hv
  obtain ⟨tk, tl⟩ := tin
  obtain ⟨vk, vi, vb, vs, vt⟩ := v
  unfold comesX
  by_cases k1 : op = oLit
  · rw [if_pos k1]
    generalize typOfM _ = ty at cT ⊢
    obtain ⟨yk, yl⟩ := ty
    refine CallsV.ok (fn := Try.f115) (by kernel_rfl) (by kernel_rfl) rfl (by cbv) (by cbv) ?_
    refine Ok.run hmix hA false 2000 (by cbv) ?_
    rw [q1, decide_eq_true k1]
    repeat (first | (apply Ok.run1 hmix hA false 2000; focus (cbv; done)) | (apply Ok.one hmix hA; focus (cbv; done)) | (rw [Ar.notT hA]) | (rw [Ar.notF hA]) | (refine Ok.condT ?_ ?_; focus (cbv; done)) | (refine Ok.condF ?_ ?_; focus (cbv; done)) | (refine Ok.drawnE (by as_aux_lemma => kernel_rfl) ?_) | (apply Ok.call (cT); (focus (cbv; done)); (focus (cbv; done)); (focus (cbv; done))) | (apply Ok.dcall (cT); (focus (cbv; done)); (focus (cbv; done)); (focus (cbv; done))))
    (first | (apply Ok.fin1; (focus (cbv; done)); (focus (cbv; done))) | (apply Ok.fin2; (focus (cbv; done)); (focus (cbv; done))) | (apply Ok.fin3; (focus (cbv; done)); (focus (cbv; done))))
    all_goals first | rfl | simp [Enc.tyc]
  rw [if_neg k1]
  clear cT
  by_cases k2 : op = oX
  · rw [if_pos k2]
    refine CallsV.ok (fn := Try.f115) (by kernel_rfl) (by kernel_rfl) rfl (by cbv) (by cbv) ?_
    refine Ok.run hmix hA false 2000 (by cbv) ?_
    rw [q1, decide_eq_false k1]
    repeat (first | (apply Ok.run1 hmix hA false 2000; focus (cbv; done)) | (apply Ok.one hmix hA; focus (cbv; done)) | (rw [Ar.notT hA]) | (rw [Ar.notF hA]) | (refine Ok.condT ?_ ?_; focus (cbv; done)) | (refine Ok.condF ?_ ?_; focus (cbv; done)) | (refine Ok.drawnE (by as_aux_lemma => kernel_rfl) ?_))
    rw [q2, decide_eq_true k2]
    repeat (first | (apply Ok.run1 hmix hA false 2000; focus (cbv; done)) | (apply Ok.one hmix hA; focus (cbv; done)) | (rw [Ar.notT hA]) | (rw [Ar.notF hA]) | (refine Ok.condT ?_ ?_; focus (cbv; done)) | (refine Ok.condF ?_ ?_; focus (cbv; done)) | (refine Ok.drawnE (by as_aux_lemma => kernel_rfl) ?_))
    (first | (apply Ok.fin1; (focus (cbv; done)); (focus (cbv; done))) | (apply Ok.fin2; (focus (cbv; done)); (focus (cbv; done))) | (apply Ok.fin3; (focus (cbv; done)); (focus (cbv; done))))
    all_goals first | rfl | simp [Enc.tyc]
  rw [if_neg k2]
  by_cases k3 : op = oAt
  · rw [if_pos k3]
    have hl := h1 k3
    have hx0 : l[0]? = some (l[0]'(by omega)) := List.getElem?_eq_getElem (by omega)
    generalize l[0]'(by omega) = t0 at hx0
    rw [lgetD hx0]
    obtain ⟨k0, l0⟩ := t0
    obtain ⟨n0, hn0⟩ : ∃ n, n = l0.length := ⟨_, rfl⟩
    have hl0 : A .lenP (E .tys l0) = Int.ofNat n0 := by rw [Ar.lenP_eq hA, tys_len hE, hn0]; rfl
    have q6 : A .lt n 0 = decide (n < 0) := Ar.lt_eq hA _ _
    have q7 : A .le (Int.ofNat n0) n = decide ((n0 : Int) ≤ n) := Ar.le_eq hA _ _
    refine CallsV.ok (fn := Try.f115) (by kernel_rfl) (by kernel_rfl) rfl (by cbv) (by cbv) ?_
    refine Ok.run hmix hA false 2000 (by cbv) ?_
    rw [q1, decide_eq_false k1]
    repeat (first | (apply Ok.run1 hmix hA false 2000; focus (cbv; done)) | (apply Ok.one hmix hA; focus (cbv; done)) | (rw [Ar.notT hA]) | (rw [Ar.notF hA]) | (refine Ok.condT ?_ ?_; focus (cbv; done)) | (refine Ok.condF ?_ ?_; focus (cbv; done)) | (refine Ok.drawnE (by as_aux_lemma => kernel_rfl) ?_))
    rw [q2, decide_eq_false k2]
    repeat (first | (apply Ok.run1 hmix hA false 2000; focus (cbv; done)) | (apply Ok.one hmix hA; focus (cbv; done)) | (rw [Ar.notT hA]) | (rw [Ar.notF hA]) | (refine Ok.condT ?_ ?_; focus (cbv; done)) | (refine Ok.condF ?_ ?_; focus (cbv; done)) | (refine Ok.drawnE (by as_aux_lemma => kernel_rfl) ?_))
    rw [q3, decide_eq_true k3]
    repeat (first | (apply Ok.run1 hmix hA false 2000; focus (cbv; done)) | (apply Ok.one hmix hA; focus (cbv; done)) | (rw [Ar.notT hA]) | (rw [Ar.notF hA]) | (refine Ok.condT ?_ ?_; focus (cbv; done)) | (refine Ok.condF ?_ ?_; focus (cbv; done)) | (refine Ok.drawnE (by as_aux_lemma => kernel_rfl) ?_))
    rw [q6]
    by_cases c1 : n < 0
    · rw [decide_eq_true c1, if_pos (.inl c1)]
      repeat (first | (apply Ok.run1 hmix hA false 2000; focus (cbv; done)) | (apply Ok.one hmix hA; focus (cbv; done)) | (rw [Ar.notT hA]) | (rw [Ar.notF hA]) | (refine Ok.condT ?_ ?_; focus (cbv; done)) | (refine Ok.condF ?_ ?_; focus (cbv; done)) | (refine Ok.drawnE (by as_aux_lemma => kernel_rfl) ?_))
      (first | (apply Ok.fin1; (focus (cbv; done)); (focus (cbv; done))) | (apply Ok.fin2; (focus (cbv; done)); (focus (cbv; done))) | (apply Ok.fin3; (focus (cbv; done)); (focus (cbv; done))))
      all_goals first | rfl | simp [Enc.tyc, ht0, Ty.zero]
    rw [decide_eq_false c1]
    repeat (first | (apply Ok.run1 hmix hA false 2000; focus (cbv; done)) | (apply Ok.one hmix hA; focus (cbv; done)) | (rw [Ar.notT hA]) | (rw [Ar.notF hA]) | (refine Ok.condT ?_ ?_; focus (cbv; done)) | (refine Ok.condF ?_ ?_; focus (cbv; done)) | (refine Ok.drawnE (by as_aux_lemma => kernel_rfl) ?_))
    refine Ok.dop (idx_viewG (E.tyc ⟨k0, l0⟩) (by cbv) (by cbv) (by cbv) (by simp) (by rw [E.tys_eq hE]; simp [hx0]) rfl) ?_
    repeat (first | (apply Ok.run1 hmix hA false 2000; focus (cbv; done)) | (apply Ok.one hmix hA; focus (cbv; done)) | (rw [Ar.notT hA]) | (rw [Ar.notF hA]) | (refine Ok.condT ?_ ?_; focus (cbv; done)) | (refine Ok.condF ?_ ?_; focus (cbv; done)) | (refine Ok.drawnE (by as_aux_lemma => kernel_rfl) ?_))
    rw [hl0, q7]
    by_cases c2 : (n0 : Int) ≤ n
    · rw [decide_eq_true c2, if_pos (.inr (by rw [hn0] at c2; exact c2))]
      repeat (first | (apply Ok.run1 hmix hA false 2000; focus (cbv; done)) | (apply Ok.one hmix hA; focus (cbv; done)) | (rw [Ar.notT hA]) | (rw [Ar.notF hA]) | (refine Ok.condT ?_ ?_; focus (cbv; done)) | (refine Ok.condF ?_ ?_; focus (cbv; done)) | (refine Ok.drawnE (by as_aux_lemma => kernel_rfl) ?_))
      (first | (apply Ok.fin1; (focus (cbv; done)); (focus (cbv; done))) | (apply Ok.fin2; (focus (cbv; done)); (focus (cbv; done))) | (apply Ok.fin3; (focus (cbv; done)); (focus (cbv; done))))
      all_goals first | rfl | simp [Enc.tyc, ht0, Ty.zero]
    rw [decide_eq_false c2, if_neg (by rw [hn0] at c2; show ¬ (n < 0 ∨ (l0.length : Int) ≤ n); omega)]
    obtain ⟨m, rfl⟩ : ∃ m : Nat, n = Int.ofNat m := ⟨n.toNat, by rw [Int.ofNat_eq_natCast]; omega⟩
    have hm : m < l0.length := by rw [hn0] at c2; rw [Int.ofNat_eq_natCast] at c2; omega
    have hxm : l0[m]? = some l0[m] := List.getElem?_eq_getElem hm
    generalize l0[m] = y at hxm
    rw [show ((Ty.mk k0 l0).of.getD (Int.ofNat m).toNat Ty.zero) = y from lgetD hxm]
    obtain ⟨yk, yl⟩ := y
    repeat (first | (apply Ok.run1 hmix hA false 2000; focus (cbv; done)) | (apply Ok.one hmix hA; focus (cbv; done)) | (rw [Ar.notT hA]) | (rw [Ar.notF hA]) | (refine Ok.condT ?_ ?_; focus (cbv; done)) | (refine Ok.condF ?_ ?_; focus (cbv; done)) | (refine Ok.drawnE (by as_aux_lemma => kernel_rfl) ?_))
    refine Ok.dop (idx_view (E.tyc ⟨k0, l0⟩) (by cbv) (by cbv) (by simp) (by rw [E.tys_eq hE]; simp [hx0]) rfl) ?_
    repeat (first | (apply Ok.run1 hmix hA false 2000; focus (cbv; done)) | (apply Ok.one hmix hA; focus (cbv; done)) | (rw [Ar.notT hA]) | (rw [Ar.notF hA]) | (refine Ok.condT ?_ ?_; focus (cbv; done)) | (refine Ok.condF ?_ ?_; focus (cbv; done)) | (refine Ok.drawnE (by as_aux_lemma => kernel_rfl) ?_))
    refine Ok.dop (idx_view (E.tyc ⟨yk, yl⟩) (by cbv) (by cbv) (by simp) (by rw [E.tys_eq hE]; simp [hxm]) rfl) ?_
    repeat (first | (apply Ok.run1 hmix hA false 2000; focus (cbv; done)) | (apply Ok.one hmix hA; focus (cbv; done)) | (rw [Ar.notT hA]) | (rw [Ar.notF hA]) | (refine Ok.condT ?_ ?_; focus (cbv; done)) | (refine Ok.condF ?_ ?_; focus (cbv; done)) | (refine Ok.drawnE (by as_aux_lemma => kernel_rfl) ?_))
    (first | (apply Ok.fin1; (focus (cbv; done)); (focus (cbv; done))) | (apply Ok.fin2; (focus (cbv; done)); (focus (cbv; done))) | (apply Ok.fin3; (focus (cbv; done)); (focus (cbv; done))))
    all_goals first | rfl | simp [Enc.tyc]
  rw [if_neg k3]
  by_cases k4 : op = oTup
  · rw [if_pos k4]
    have cC := typ_Check hE ⟨4, l⟩ (by rw [szT]; omega)
    generalize ckT ⟨4, l⟩ 0 = r at cC ⊢
    refine CallsV.ok (fn := Try.f115) (by kernel_rfl) (by kernel_rfl) rfl (by cbv) (by cbv) ?_
    refine Ok.run hmix hA false 2000 (by cbv) ?_
    rw [q1, decide_eq_false k1]
    repeat (first | (apply Ok.run1 hmix hA false 2000; focus (cbv; done)) | (apply Ok.one hmix hA; focus (cbv; done)) | (rw [Ar.notT hA]) | (rw [Ar.notF hA]) | (refine Ok.condT ?_ ?_; focus (cbv; done)) | (refine Ok.condF ?_ ?_; focus (cbv; done)) | (refine Ok.drawnE (by as_aux_lemma => kernel_rfl) ?_))
    rw [q2, decide_eq_false k2]
    repeat (first | (apply Ok.run1 hmix hA false 2000; focus (cbv; done)) | (apply Ok.one hmix hA; focus (cbv; done)) | (rw [Ar.notT hA]) | (rw [Ar.notF hA]) | (refine Ok.condT ?_ ?_; focus (cbv; done)) | (refine Ok.condF ?_ ?_; focus (cbv; done)) | (refine Ok.drawnE (by as_aux_lemma => kernel_rfl) ?_))
    rw [q3, decide_eq_false k3]
    repeat (first | (apply Ok.run1 hmix hA false 2000; focus (cbv; done)) | (apply Ok.one hmix hA; focus (cbv; done)) | (rw [Ar.notT hA]) | (rw [Ar.notF hA]) | (refine Ok.condT ?_ ?_; focus (cbv; done)) | (refine Ok.condF ?_ ?_; focus (cbv; done)) | (refine Ok.drawnE (by as_aux_lemma => kernel_rfl) ?_))
    rw [q4, decide_eq_true k4]
    repeat (first | (apply Ok.run1 hmix hA false 2000; focus (cbv; done)) | (apply Ok.one hmix hA; focus (cbv; done)) | (rw [Ar.notT hA]) | (rw [Ar.notF hA]) | (refine Ok.condT ?_ ?_; focus (cbv; done)) | (refine Ok.condF ?_ ?_; focus (cbv; done)) | (refine Ok.drawnE (by as_aux_lemma => kernel_rfl) ?_) | (apply Ok.call (cC); (focus (cbv; done)); (focus (cbv; done)); (focus (cbv; done))) | (apply Ok.dcall (cC); (focus (cbv; done)); (focus (cbv; done)); (focus (cbv; done))))
    rw [Ar.eq_eq hA, Ar.not_eq hA]
    by_cases c0 : r = 0
    · rw [decide_eq_true c0, if_neg (by simpa using c0)]
      repeat (first | (apply Ok.run1 hmix hA false 2000; focus (cbv; done)) | (apply Ok.one hmix hA; focus (cbv; done)) | (rw [Ar.notT hA]) | (rw [Ar.notF hA]) | (refine Ok.condT ?_ ?_; focus (cbv; done)) | (refine Ok.condF ?_ ?_; focus (cbv; done)) | (refine Ok.drawnE (by as_aux_lemma => kernel_rfl) ?_))
      (first | (apply Ok.fin1; (focus (cbv; done)); (focus (cbv; done))) | (apply Ok.fin2; (focus (cbv; done)); (focus (cbv; done))) | (apply Ok.fin3; (focus (cbv; done)); (focus (cbv; done))))
      all_goals first | rfl | simp [Enc.tyc]
    · rw [decide_eq_false c0, if_pos c0]
      repeat (first | (apply Ok.run1 hmix hA false 2000; focus (cbv; done)) | (apply Ok.one hmix hA; focus (cbv; done)) | (rw [Ar.notT hA]) | (rw [Ar.notF hA]) | (refine Ok.condT ?_ ?_; focus (cbv; done)) | (refine Ok.condF ?_ ?_; focus (cbv; done)) | (refine Ok.drawnE (by as_aux_lemma => kernel_rfl) ?_))
      (first | (apply Ok.fin1; (focus (cbv; done)); (focus (cbv; done))) | (apply Ok.fin2; (focus (cbv; done)); (focus (cbv; done))) | (apply Ok.fin3; (focus (cbv; done)); (focus (cbv; done))))
      all_goals first | rfl | simp [Enc.tyc, ht0, Ty.zero]
  rw [if_neg k4]
  by_cases k5 : op = oIf
  · rw [if_pos k5]
    have hl := h2 k5
    have hx1 : l[1]? = some (l[1]'(by omega)) := List.getElem?_eq_getElem (by omega)
    generalize l[1]'(by omega) = t1 at hx1
    rw [lgetD hx1]
    obtain ⟨k0, l0⟩ := t1
    refine CallsV.ok (fn := Try.f115) (by kernel_rfl) (by kernel_rfl) rfl (by cbv) (by cbv) ?_
    refine Ok.run hmix hA false 2000 (by cbv) ?_
    rw [q1, decide_eq_false k1]
    repeat (first | (apply Ok.run1 hmix hA false 2000; focus (cbv; done)) | (apply Ok.one hmix hA; focus (cbv; done)) | (rw [Ar.notT hA]) | (rw [Ar.notF hA]) | (refine Ok.condT ?_ ?_; focus (cbv; done)) | (refine Ok.condF ?_ ?_; focus (cbv; done)) | (refine Ok.drawnE (by as_aux_lemma => kernel_rfl) ?_))
    rw [q2, decide_eq_false k2]
    repeat (first | (apply Ok.run1 hmix hA false 2000; focus (cbv; done)) | (apply Ok.one hmix hA; focus (cbv; done)) | (rw [Ar.notT hA]) | (rw [Ar.notF hA]) | (refine Ok.condT ?_ ?_; focus (cbv; done)) | (refine Ok.condF ?_ ?_; focus (cbv; done)) | (refine Ok.drawnE (by as_aux_lemma => kernel_rfl) ?_))
    rw [q3, decide_eq_false k3]
    repeat (first | (apply Ok.run1 hmix hA false 2000; focus (cbv; done)) | (apply Ok.one hmix hA; focus (cbv; done)) | (rw [Ar.notT hA]) | (rw [Ar.notF hA]) | (refine Ok.condT ?_ ?_; focus (cbv; done)) | (refine Ok.condF ?_ ?_; focus (cbv; done)) | (refine Ok.drawnE (by as_aux_lemma => kernel_rfl) ?_))
    rw [q4, decide_eq_false k4]
    repeat (first | (apply Ok.run1 hmix hA false 2000; focus (cbv; done)) | (apply Ok.one hmix hA; focus (cbv; done)) | (rw [Ar.notT hA]) | (rw [Ar.notF hA]) | (refine Ok.condT ?_ ?_; focus (cbv; done)) | (refine Ok.condF ?_ ?_; focus (cbv; done)) | (refine Ok.drawnE (by as_aux_lemma => kernel_rfl) ?_))
    rw [q5, decide_eq_true k5]
    repeat (first | (apply Ok.run1 hmix hA false 2000; focus (cbv; done)) | (apply Ok.one hmix hA; focus (cbv; done)) | (rw [Ar.notT hA]) | (rw [Ar.notF hA]) | (refine Ok.condT ?_ ?_; focus (cbv; done)) | (refine Ok.condF ?_ ?_; focus (cbv; done)) | (refine Ok.drawnE (by as_aux_lemma => kernel_rfl) ?_))
    refine Ok.op (idx_view (E.tyc ⟨k0, l0⟩) (by cbv) (by cbv) (by simp) (by rw [E.tys_eq hE]; simp [hx1]) rfl) ?_
    repeat (first | (apply Ok.run1 hmix hA false 2000; focus (cbv; done)) | (apply Ok.one hmix hA; focus (cbv; done)) | (rw [Ar.notT hA]) | (rw [Ar.notF hA]) | (refine Ok.condT ?_ ?_; focus (cbv; done)) | (refine Ok.condF ?_ ?_; focus (cbv; done)) | (refine Ok.drawnE (by as_aux_lemma => kernel_rfl) ?_))
    (first | (apply Ok.fin1; (focus (cbv; done)); (focus (cbv; done))) | (apply Ok.fin2; (focus (cbv; done)); (focus (cbv; done))) | (apply Ok.fin3; (focus (cbv; done)); (focus (cbv; done))))
    all_goals first | rfl | simp [Enc.tyc]
  rw [if_neg k5]
  refine CallsV.ok (fn := Try.f115) (by kernel_rfl) (by kernel_rfl) rfl (by cbv) (by cbv) ?_
  refine Ok.run hmix hA false 2000 (by cbv) ?_
  rw [q1, decide_eq_false k1]
  repeat (first | (apply Ok.run1 hmix hA false 2000; focus (cbv; done)) | (apply Ok.one hmix hA; focus (cbv; done)) | (rw [Ar.notT hA]) | (rw [Ar.notF hA]) | (refine Ok.condT ?_ ?_; focus (cbv; done)) | (refine Ok.condF ?_ ?_; focus (cbv; done)) | (refine Ok.drawnE (by as_aux_lemma => kernel_rfl) ?_))
  rw [q2, decide_eq_false k2]
  repeat (first | (apply Ok.run1 hmix hA false 2000; focus (cbv; done)) | (apply Ok.one hmix hA; focus (cbv; done)) | (rw [Ar.notT hA]) | (rw [Ar.notF hA]) | (refine Ok.condT ?_ ?_; focus (cbv; done)) | (refine Ok.condF ?_ ?_; focus (cbv; done)) | (refine Ok.drawnE (by as_aux_lemma => kernel_rfl) ?_))
  rw [q3, decide_eq_false k3]
  repeat (first | (apply Ok.run1 hmix hA false 2000; focus (cbv; done)) | (apply Ok.one hmix hA; focus (cbv; done)) | (rw [Ar.notT hA]) | (rw [Ar.notF hA]) | (refine Ok.condT ?_ ?_; focus (cbv; done)) | (refine Ok.condF ?_ ?_; focus (cbv; done)) | (refine Ok.drawnE (by as_aux_lemma => kernel_rfl) ?_))
  rw [q4, decide_eq_false k4]
  repeat (first | (apply Ok.run1 hmix hA false 2000; focus (cbv; done)) | (apply Ok.one hmix hA; focus (cbv; done)) | (rw [Ar.notT hA]) | (rw [Ar.notF hA]) | (refine Ok.condT ?_ ?_; focus (cbv; done)) | (refine Ok.condF ?_ ?_; focus (cbv; done)) | (refine Ok.drawnE (by as_aux_lemma => kernel_rfl) ?_))
  rw [q5, decide_eq_false k5]
  repeat (first | (apply Ok.run1 hmix hA false 2000; focus (cbv; done)) | (apply Ok.one hmix hA; focus (cbv; done)) | (rw [Ar.notT hA]) | (rw [Ar.notF hA]) | (refine Ok.condT ?_ ?_; focus (cbv; done)) | (refine Ok.condF ?_ ?_; focus (cbv; done)) | (refine Ok.drawnE (by as_aux_lemma => kernel_rfl) ?_))
  (first | (apply Ok.fin1; (focus (cbv; done)); (focus (cbv; done))) | (apply Ok.fin2; (focus (cbv; done)); (focus (cbv; done))) | (apply Ok.fin3; (focus (cbv; done)); (focus (cbv; done))))
  all_goals first | rfl | simp [Enc.tyc, ht0]
theorem sizXs_mem : ∀ {l : List Ex4} {e : Ex4}, e ∈ l → sizX e ≤ sizXs l
  | [], e, he => by simp at he
  | x :: l, e, he => by
    rw [sizXs]
    rcases List.mem_cons.1 he with rfl | he
    · omega
    · have := sizXs_mem he; omega
theorem sizXs_take : ∀ (l : List Ex4) (k : Nat), sizXs (l.take k) ≤ sizXs l
  | [], k => by simp [sizXs]
  | x :: l, 0 => by simp [sizXs]
  | x :: l, k + 1 => by rw [List.take_succ_cons, sizXs, sizXs]; have := sizXs_take l k; omega
theorem sizXs_append : ∀ (l m : List Ex4), sizXs (l ++ m) = sizXs l + sizXs m
  | [], m => by simp [sizXs]
  | x :: l, m => by rw [List.cons_append, sizXs, sizXs, sizXs_append l m]; omega
theorem sizXs_len : ∀ l : List Ex4, l.length ≤ sizXs l
  | [] => by simp
  | x :: l => by have := sizXs_len l; rw [sizXs, List.length_cons]; cases x; rw [sizX]; omega
theorem expr_Size {E : Enc} (hE : E = .std) : ∀ (n : Nat) (e : Ex4), SizeOf.sizeOf e ≤ n → sizX e ≤ 2 ^ 40 → CallsV Try.prog 43 [E.ex e] (.pv (.int .i64 (Int.ofNat (sizX e)))) [] := by
  intro n
  induction n with
  | zero => intro e h; cases e; simp at h
  | succ n ih =>
    rintro ⟨op, ⟨vk, vi, vb, vs, vt⟩, nn, a⟩ hn hsz
    obtain ⟨A, hA⟩ : ∃ A : Ar, A = .std := ⟨_, rfl⟩
    rw [sizX] at hsz
    have hlen := sizXs_len a
    obtain ⟨ln, hln⟩ : ∃ n, n = a.length := ⟨_, rfl⟩
    have hll : A .lenP (E .exs a) = Int.ofNat ln := by rw [Ar.lenP_eq hA, exs_len hE, hln]; rfl
    have hsub : ∀ x, x ∈ a → CallsV Try.prog 43 [E.ex x] (.pv (.int .i64 (Int.ofNat (sizX x)))) [] := fun x hx => by
      have h1 := List.sizeOf_lt_of_mem hx
      have h2 := sizXs_mem hx
      simp at hn
      exact ih x (by omega) (by omega)
    clear ih
    rw [sizX]
    obtain ⟨res, hres⟩ : ∃ r, r = 1 + sizXs a := ⟨_, rfl⟩
    rw [← hres]
    refine CallsV.ok (fn := Try.f43) (by kernel_rfl) (by kernel_rfl) rfl (by cbv) (by cbv) ?_
    repeat (first | (apply Ok.run1 hmix hA false 2000; focus (cbv; done)) | (apply Ok.one hmix hA; focus (cbv; done)) | (rw [Ar.notT hA]) | (rw [Ar.notF hA]) | (refine Ok.condT ?_ ?_; focus (cbv; done)) | (refine Ok.condF ?_ ?_; focus (cbv; done)) | (refine Ok.drawnE (by as_aux_lemma => kernel_rfl) ?_))
    rw [hll]
    refine Ok.loopAt [3, 7, 8, 9] [] (fun m s h => ∃ (k q : Nat), m = ln - k ∧ k ≤ ln ∧ q = 1 + sizXs (a.take k) ∧ s = mkS 19 [(3, .pv (.int .i64 (Int.ofNat q))), (7, .pv (.view (E .exs a))), (8, .pv (.int .i64 (Int.ofNat ln))), (9, .pv (.int .i64 (Int.ofNat k)))] ∧ h = []) (ln - 0) (by cbv) ⟨0, 1, rfl, Nat.zero_le _, by simp [sizXs], by cbv, by cbv⟩ ?_
    rintro m s h ⟨k, q, rfl, hk, hq, rfl, rfl⟩
    refine Ok.run hmix hA false 2000 (by cbv) ?_
    rw [ofNat_lt hA]
    by_cases hkl : k < ln
    · rw [decide_eq_true hkl]
      repeat (first | (apply Ok.run1 hmix hA false 2000; focus (cbv; done)) | (apply Ok.one hmix hA; focus (cbv; done)) | (rw [Ar.notT hA]) | (rw [Ar.notF hA]) | (refine Ok.condT ?_ ?_; focus (cbv; done)) | (refine Ok.condF ?_ ?_; focus (cbv; done)) | (refine Ok.drawnE (by as_aux_lemma => kernel_rfl) ?_))
      have hx : a[k]? = some (a[k]'(by omega)) := List.getElem?_eq_getElem (by omega)
      have hxm : a[k]'(by omega) ∈ a := List.getElem_mem (by omega)
      have htk : a.take (k + 1) = a.take k ++ [a[k]'(by omega)] := by rw [List.take_add_one, hx]; rfl
      generalize a[k]'(by omega) = x at hx hxm htk
      have cx := hsub x hxm
      have hx1 := sizXs_mem hxm
      have htl := sizXs_take a k
      obtain ⟨q', hq'⟩ : ∃ q', q' = q + sizX x := ⟨_, rfl⟩
      have hadd : A .add .i64 (Int.ofNat q) (Int.ofNat (sizX x)) = Int.ofNat q' := by rw [hq']; exact ofNat_add hA (by omega)
      generalize hsx : sizX x = sx at *
      refine Ok.op (idx_view (E.ex x) (by cbv) (by cbv) (by simp) (by rw [E.exs_eq hE]; simp [hx]) rfl) ?_
      repeat (first | (apply Ok.run1 hmix hA false 2000; focus (cbv; done)) | (apply Ok.one hmix hA; focus (cbv; done)) | (rw [Ar.notT hA]) | (rw [Ar.notF hA]) | (refine Ok.condT ?_ ?_; focus (cbv; done)) | (refine Ok.condF ?_ ?_; focus (cbv; done)) | (refine Ok.drawnE (by as_aux_lemma => kernel_rfl) ?_) | (apply Ok.call (cx); (focus (cbv; done)); (focus (cbv; done)); (focus (cbv; done))) | (apply Ok.dcall (cx); (focus (cbv; done)); (focus (cbv; done)); (focus (cbv; done))))
      rw [hadd]
      rw [Ar.succ_eq (k := k) hA (by omega)]
      exact Ok.back (ln - (k + 1)) [3, 7, 8, 9] [] (by omega) (by cbv) ⟨k + 1, q', rfl, by omega, by rw [hq', hq, htk, sizXs_append, sizXs, sizXs, hsx]; omega, by cbv, by cbv⟩
    · rw [decide_eq_false hkl]
      have hke : k = a.length := by omega
      rw [hke, List.take_length, ← hres] at hq
      rw [← hq]
      repeat (first | (apply Ok.run1 hmix hA false 2000; focus (cbv; done)) | (apply Ok.one hmix hA; focus (cbv; done)) | (rw [Ar.notT hA]) | (rw [Ar.notF hA]) | (refine Ok.condT ?_ ?_; focus (cbv; done)) | (refine Ok.condF ?_ ?_; focus (cbv; done)) | (refine Ok.drawnE (by as_aux_lemma => kernel_rfl) ?_))
      refine Ok.leave ?_
      repeat (first | (apply Ok.run1 hmix hA false 2000; focus (cbv; done)) | (apply Ok.one hmix hA; focus (cbv; done)) | (rw [Ar.notT hA]) | (rw [Ar.notF hA]) | (refine Ok.condT ?_ ?_; focus (cbv; done)) | (refine Ok.condF ?_ ?_; focus (cbv; done)) | (refine Ok.drawnE (by as_aux_lemma => kernel_rfl) ?_))
      exact Ok.fin (by cbv) (FS.out (by cbv) (PLe.refl _))
end Go.Proofs.Ytnojmocoifodjaa.Pv
set_option maxRecDepth 100000
set_option maxHeartbeats 4000000
set_option linter.unusedVariables false
set_option linter.unusedSimpArgs false
namespace Go.Proofs.Ytnojmocoifodjaa.Pv
open Go Go.Proofs
mutual
theorem typV_sz : ∀ v, szT (typV v) ≤ szV v
  | .mk k i b s t => by
    have := typVs_sz t
    rw [typV, szT, szV]; omega
theorem typVs_sz : ∀ l, szTs (typVs l) ≤ szVs l
  | [] => by simp [typVs, szTs, szVs]
  | x :: l => by
    have h1 := typV_sz x
    have h2 := typVs_sz l
    rw [typVs, szTs, szVs]; omega
end
mutual
def wX : Ex4 → Nat → Nat
  | .mk _ v _ a, T => 2 + szV v + T + wXs a T
def wXs : List Ex4 → Nat → Nat
  | [], _ => 0
  | x :: l, T => wX x T + wXs l T
end
theorem wXs_mem : ∀ {l : List Ex4} {e : Ex4} (T : Nat), e ∈ l → wX e T ≤ wXs l T
  | [], e, T, he => by simp at he
  | x :: l, e, T, he => by
    rw [wXs]
    rcases List.mem_cons.1 he with rfl | he
    · omega
    · have := wXs_mem T he; omega
theorem wXs_len (T : Nat) : ∀ l : List Ex4, l.length ≤ wXs l T
  | [] => by simp
  | x :: l => by have := wXs_len T l; rw [wXs, List.length_cons]; cases x; rw [wX]; omega
theorem szT_getD (l : List Ty) (i : Nat) : szT (l.getD i .zero) ≤ szTs l + 1 := by
  by_cases h : i < l.length
  · have hx : l[i]? = some l[i] := List.getElem?_eq_getElem h
    rw [lgetD hx]
    have := szTs_mem (List.getElem_mem h)
    omega
  · have : l[i]? = none := List.getElem?_eq_none (by omega)
    simp [List.getD, this, Ty.zero, szT, szTs]
theorem szT_of (t : Ty) (i : Nat) : szT (t.of.getD i .zero) ≤ szT t := by
  obtain ⟨k, l⟩ := t
  have := szT_getD l i
  rw [szT]
  show szT (l.getD i .zero) ≤ _
  omega
theorem comes_sz (op : List UInt8) (v : Vl) (n : Int) (s : Shp) (l : List Ty) (tin : Ty) : szT (comesX op v n s l tin).1 ≤ 2 + szV v + szT tin + szTs l := by
  have z : szT Ty.zero = 1 := by simp [Ty.zero, szT, szTs]
  unfold comesX
  split
  · unfold typOfM
    have := typV_sz v
    split <;> simp only [] <;> omega
  split
  · simp only []; omega
  split
  · have h1 := szT_getD l 0
    have h2 := szT_of (l.getD 0 .zero) n.toNat
    split <;> simp only [] <;> omega
  split
  · split
    · simp only []; omega
    · simp only [szT]; omega
  split
  · have := szT_getD l 1
    simp only []; omega
  · simp only [szT, szTs]; omega
theorem z1 : szT Ty.zero = 1 := by simp [Ty.zero, szT, szTs]
mutual
theorem chkX_sz : ∀ (e : Ex4) (tin : Ty) (d : Nat), szT (chkX e tin d).1 ≤ wX e (szT tin)
  | .mk op v n a, tin, d => by
    have h1 := chkXs_sz a tin (d + 1)
    rw [chkX, wX]
    have h2 := comes_sz op v n
    split
    · simp only [z1]; omega
    · rename_i s _
      have h2 := h2 s (chkXs a tin (d + 1)).1 tin
      repeat' split
      all_goals first | omega | (simp only [z1]; omega)
theorem chkXs_sz : ∀ (l : List Ex4) (tin : Ty) (d : Nat), szTs (chkXs l tin d).1 ≤ wXs l (szT tin)
  | [], tin, d => by simp [chkXs, szTs]
  | x :: l, tin, d => by
    have h1 := chkX_sz x tin d
    have h2 := chkXs_sz l tin d
    rw [chkXs, wXs]
    split
    · simp [szTs]
    · rw [szTs]; omega
end
theorem chkXs_len : ∀ (l : List Ex4) (tin : Ty) (d : Nat), (chkXs l tin d).2 = 0 → (chkXs l tin d).1.length = l.length
  | [], tin, d, _ => by simp [chkXs]
  | x :: l, tin, d, h => by
    rw [chkXs] at h ⊢
    split at h
    · rename_i hne; exact absurd h hne
    · rename_i hne
      rw [if_neg hne]
      simp only [List.length_cons]
      rw [chkXs_len l tin d h]
theorem chkXs_drop {a : List Ex4} {k : Nat} {x : Ex4} (h : a.drop k = x :: a.drop (k + 1)) (tin : Ty) (d : Nat) : (chkXs (a.drop k) tin d) = if (chkX x tin d).2 ≠ 0 then ([], (chkX x tin d).2) else ((chkX x tin d).1 :: (chkXs (a.drop (k + 1)) tin d).1, (chkXs (a.drop (k + 1)) tin d).2) := by
  rw [h, chkXs]
theorem expr_check {E : Enc} (hE : E = .std) : ∀ (n : Nat) (e : Ex4) (tin : Ty) (d : Nat), SizeOf.sizeOf e ≤ n → wX e (szT tin) ≤ 2 ^ 27 → d ≤ 1000 → CallsV Try.prog 77 [E.ex e, E.tyc tin, .int .i64 (Int.ofNat d)] (.tup [.pv (E.tyc (chkX e tin d).1), .pv (.int .i64 (chkX e tin d).2)]) [] := by
  intro n
  induction n with
  | zero => intro e tin d h; cases e; simp at h
  | succ n ih =>
    rintro ⟨op, ⟨vk, vi, vb, vs, vt⟩, nn, a⟩ ⟨tk, tl⟩ d hn hsz hd
    obtain ⟨A, hA⟩ : ∃ A : Ar, A = .std := ⟨_, rfl⟩
    have ht0 : E .tys [] = [] := by rw [E.tys_eq hE]; rfl
    rw [wX] at hsz
    have hlen := wXs_len (szT ⟨tk, tl⟩) a
    obtain ⟨ln, hln⟩ : ∃ n, n = a.length := ⟨_, rfl⟩
    have hll : A .lenP (E .exs a) = Int.ofNat ln := by rw [Ar.lenP_eq hA, exs_len hE, hln]; rfl
    obtain ⟨d1, hd1⟩ : ∃ d1, d1 = d + 1 := ⟨_, rfl⟩
    have hsub : d ≤ 12 → ∀ x, x ∈ a → CallsV Try.prog 77 [E.ex x, E.tyc ⟨tk, tl⟩, .int .i64 (Int.ofNat d1)] (.tup [.pv (E.tyc (chkX x ⟨tk, tl⟩ d1).1), .pv (.int .i64 (chkX x ⟨tk, tl⟩ d1).2)]) [] := fun hd x hx => by
      have h1 := List.sizeOf_lt_of_mem hx
      have h2 := wXs_mem (szT ⟨tk, tl⟩) hx
      rw [hd1]
      simp at hn
      exact ih x _ (d + 1) (by omega) (by omega) (by omega)
    clear ih
    have cs := expr_shapes.still (by rfl)
    have cF := expr_find shpT op (shpT.map encS) rfl (by decide)
    rw [show findS shpT op = shpOf op from rfl] at cF
    have cV := val_Check hE ⟨vk, vi, vb, vs, vt⟩ (by omega)
    have q1 : A .seq op [108, 105, 116] = decide (op = oLit) := Ar.seq_eq hA _ _
    have q2 : A .lt 12 (Int.ofNat d) = decide (12 < d) := ofNat_lt hA 12 d
    rw [chkX, ← hd1]
    generalize hes : shpT.map encS = es at cs cF
    cases hs : shpOf op with
    | none =>
      rw [hs] at cF
      dsimp only
      refine CallsV.ok (fn := Try.f77) (by kernel_rfl) (by kernel_rfl) rfl (by cbv) (by cbv) ?_
      repeat (first | (apply Ok.run1 hmix hA false 2000; focus (cbv; done)) | (apply Ok.one hmix hA; focus (cbv; done)) | (rw [Ar.notT hA]) | (rw [Ar.notF hA]) | (refine Ok.condT ?_ ?_; focus (cbv; done)) | (refine Ok.condF ?_ ?_; focus (cbv; done)) | (refine Ok.drawnE (by as_aux_lemma => kernel_rfl) ?_) | (apply Ok.call (cs); (focus (cbv; done)); (focus (cbv; done)); (focus (cbv; done))) | (apply Ok.dcall (cs); (focus (cbv; done)); (focus (cbv; done)); (focus (cbv; done))) | (apply Ok.call (cF); (focus (cbv; done)); (focus (cbv; done)); (focus (cbv; done))) | (apply Ok.dcall (cF); (focus (cbv; done)); (focus (cbv; done)); (focus (cbv; done))))
      (first | (apply Ok.fin1; (focus (cbv; done)); (focus (cbv; done))) | (apply Ok.fin2; (focus (cbv; done)); (focus (cbv; done))) | (apply Ok.fin3; (focus (cbv; done)); (focus (cbv; done))))
      all_goals first | rfl | simp [Enc.tyc, ht0, Ty.zero]
    | some s =>
      rw [hs] at cF
      dsimp only
      have hgood := shpOf_good hs
      have cf := expr_fields hE op ⟨vk, vi, vb, vs, vt⟩ nn a s (by omega)
      obtain ⟨F, hF⟩ : ∃ f, f = fieldsX op ⟨vk, vi, vb, vs, vt⟩ nn a.length s := ⟨_, rfl⟩
      rw [← hF] at cf ⊢
      have hR := chkXs_sz a ⟨tk, tl⟩ d1
      have hRl := chkXs_len a ⟨tk, tl⟩ d1
      obtain ⟨R, hRR⟩ : ∃ R, R = chkXs a ⟨tk, tl⟩ d1 := ⟨_, rfl⟩
      rw [← hRR] at hR hRl ⊢
      have hFl : F = true → s.least ≤ a.length := by
        intro h
        rw [h] at hF
        unfold fieldsX at hF
        have := hF.symm
        simp only [Bool.and_eq_true, decide_eq_true_eq] at this
        exact this.1.1.1
      simp only [Shp.good, Bool.and_eq_true, Bool.or_eq_true, decide_eq_true_eq, Bool.not_eq_true'] at hgood
      obtain ⟨⟨⟨⟨⟨g0, g1⟩, g2⟩, g3⟩, g4⟩, g5⟩ := hgood
      have cfit : F = true → R.2 = 0 → CallsV Try.prog 114 [.agg s.cells, .view (E .tys R.1)] (.pv (.bool (fitsX s R.1))) [] := fun hf h0 => by
        have := hFl hf
        have := hRl h0
        refine expr_fits hE s R.1 (by omega) (fun h => ?_) (by omega) (by omega)
        rcases g2 with h2 | h2
        · rw [h2] at h; cases h
        · omega
      have ccom : F = true → R.2 = 0 → CallsV Try.prog 115 [E.ex ⟨op, ⟨vk, vi, vb, vs, vt⟩, nn, a⟩, .agg s.cells, .view (E .tys R.1), E.tyc ⟨tk, tl⟩] (.tup [.pv (E.tyc (comesX op ⟨vk, vi, vb, vs, vt⟩ nn s R.1 ⟨tk, tl⟩).1), .pv (.int .i64 (comesX op ⟨vk, vi, vb, vs, vt⟩ nn s R.1 ⟨tk, tl⟩).2)]) [] := fun hf h0 => by
        have := hFl hf
        have := hRl h0
        refine expr_comes hE op _ nn a s R.1 _ (by omega) (by omega) (fun h => ?_) (fun h => ?_)
        · rcases g3 with h3 | h3
          · exact absurd h h3
          · omega
        · rcases g4 with h3 | h3
          · exact absurd h h3
          · omega
      generalize comesX op ⟨vk, vi, vb, vs, vt⟩ nn s R.1 ⟨tk, tl⟩ = CR at ccom ⊢
      obtain ⟨⟨ck, cl⟩, ce⟩ := CR
      generalize fitsX s R.1 = FT at cfit ⊢
      rw [show (some s).getD Shp.zero = s from rfl] at cF
      clear g0 g1 g2 g3 g4 g5 hFl hs hF
      obtain ⟨least, most, of, alike, out⟩ := s
      obtain ⟨ofs, hofs⟩ : ∃ o : List PV, o = of.map fun k => .int .i64 k := ⟨_, rfl⟩
      have hcells : (Shp.mk least most of alike out).cells = [.int .i64 least, .int .i64 most, .view ofs, .bool alike, .int .i64 out] := by rw [hofs]; rfl
      rw [hcells] at cF cf cfit ccom
      generalize hvv : ckV ⟨vk, vi, vb, vs, vt⟩ 0 = vv at cV ⊢
      refine CallsV.ok (fn := Try.f77) (by kernel_rfl) (by kernel_rfl) rfl (by cbv) (by cbv) ?_
      repeat (first | (apply Ok.run1 hmix hA false 2000; focus (cbv; done)) | (apply Ok.one hmix hA; focus (cbv; done)) | (rw [Ar.notT hA]) | (rw [Ar.notF hA]) | (refine Ok.condT ?_ ?_; focus (cbv; done)) | (refine Ok.condF ?_ ?_; focus (cbv; done)) | (refine Ok.drawnE (by as_aux_lemma => kernel_rfl) ?_) | (apply Ok.call (cs); (focus (cbv; done)); (focus (cbv; done)); (focus (cbv; done))) | (apply Ok.dcall (cs); (focus (cbv; done)); (focus (cbv; done)); (focus (cbv; done))) | (apply Ok.call (cF); (focus (cbv; done)); (focus (cbv; done)); (focus (cbv; done))) | (apply Ok.dcall (cF); (focus (cbv; done)); (focus (cbv; done)); (focus (cbv; done))))
      rw [q2]
      by_cases h12 : 12 < d
      · rw [decide_eq_true h12, if_pos h12]
        repeat (first | (apply Ok.run1 hmix hA false 2000; focus (cbv; done)) | (apply Ok.one hmix hA; focus (cbv; done)) | (rw [Ar.notT hA]) | (rw [Ar.notF hA]) | (refine Ok.condT ?_ ?_; focus (cbv; done)) | (refine Ok.condF ?_ ?_; focus (cbv; done)) | (refine Ok.drawnE (by as_aux_lemma => kernel_rfl) ?_))
        (first | (apply Ok.fin1; (focus (cbv; done)); (focus (cbv; done))) | (apply Ok.fin2; (focus (cbv; done)); (focus (cbv; done))) | (apply Ok.fin3; (focus (cbv; done)); (focus (cbv; done))))
        all_goals first | rfl | simp [Enc.tyc, ht0, Ty.zero]
      rw [decide_eq_false h12, if_neg h12]
      repeat (first | (apply Ok.run1 hmix hA false 2000; focus (cbv; done)) | (apply Ok.one hmix hA; focus (cbv; done)) | (rw [Ar.notT hA]) | (rw [Ar.notF hA]) | (refine Ok.condT ?_ ?_; focus (cbv; done)) | (refine Ok.condF ?_ ?_; focus (cbv; done)) | (refine Ok.drawnE (by as_aux_lemma => kernel_rfl) ?_) | (apply Ok.call (cf); (focus (cbv; done)); (focus (cbv; done)); (focus (cbv; done))) | (apply Ok.dcall (cf); (focus (cbv; done)); (focus (cbv; done)); (focus (cbv; done))))
      cases F with
      | false =>
        rw [if_pos rfl]
        repeat (first | (apply Ok.run1 hmix hA false 2000; focus (cbv; done)) | (apply Ok.one hmix hA; focus (cbv; done)) | (rw [Ar.notT hA]) | (rw [Ar.notF hA]) | (refine Ok.condT ?_ ?_; focus (cbv; done)) | (refine Ok.condF ?_ ?_; focus (cbv; done)) | (refine Ok.drawnE (by as_aux_lemma => kernel_rfl) ?_))
        (first | (apply Ok.fin1; (focus (cbv; done)); (focus (cbv; done))) | (apply Ok.fin2; (focus (cbv; done)); (focus (cbv; done))) | (apply Ok.fin3; (focus (cbv; done)); (focus (cbv; done))))
        all_goals first | rfl | simp [Enc.tyc, ht0, Ty.zero]
      | true =>
      rw [if_neg (by simp)]
      have cfit := cfit rfl
      have ccom := ccom rfl
      have hsub := hsub (by omega)
      repeat (first | (apply Ok.run1 hmix hA false 2000; focus (cbv; done)) | (apply Ok.one hmix hA; focus (cbv; done)) | (rw [Ar.notT hA]) | (rw [Ar.notF hA]) | (refine Ok.condT ?_ ?_; focus (cbv; done)) | (refine Ok.condF ?_ ?_; focus (cbv; done)) | (refine Ok.drawnE (by as_aux_lemma => kernel_rfl) ?_))
      rw [q1]
      by_cases kl : op = oLit
      · rw [decide_eq_true kl]
        repeat (first | (apply Ok.run1 hmix hA false 2000; focus (cbv; done)) | (apply Ok.one hmix hA; focus (cbv; done)) | (rw [Ar.notT hA]) | (rw [Ar.notF hA]) | (refine Ok.condT ?_ ?_; focus (cbv; done)) | (refine Ok.condF ?_ ?_; focus (cbv; done)) | (refine Ok.drawnE (by as_aux_lemma => kernel_rfl) ?_) | (apply Ok.call (cV); (focus (cbv; done)); (focus (cbv; done)); (focus (cbv; done))) | (apply Ok.dcall (cV); (focus (cbv; done)); (focus (cbv; done)); (focus (cbv; done))))
        rw [Ar.eq_eq hA, Ar.not_eq hA]
        by_cases v0 : vv = 0
        · rw [decide_eq_true v0, if_neg (by intro h; exact h.2 v0)]
          repeat (first | (apply Ok.run1 hmix hA false 2000; focus (cbv; done)) | (apply Ok.one hmix hA; focus (cbv; done)) | (rw [Ar.notT hA]) | (rw [Ar.notF hA]) | (refine Ok.condT ?_ ?_; focus (cbv; done)) | (refine Ok.condF ?_ ?_; focus (cbv; done)) | (refine Ok.drawnE (by as_aux_lemma => kernel_rfl) ?_))
          rw [hll]
          refine Ok.le (Le.nil 11 70 24 2 (by cbv) (by cbv) (by decide)) ?_
          refine Ok.loopAt [2, 3, 4, 6, 7, 8, 11, 49, 50, 51] [3, 4, 6, 8, 70] (fun m s h => ∃ (k j : Nat) (acc : List Ty) (es : List PV), m = ln - k ∧ k ≤ ln ∧ j = k ∧ acc.length = k ∧ (chkXs (a.drop k) ⟨tk, tl⟩ d1).2 = R.2 ∧ (R.2 = 0 → acc ++ (chkXs (a.drop k) ⟨tk, tl⟩ d1).1 = R.1) ∧ es = E .tys acc ∧
            s = mkS 85 [(2, .pv (.int .i64 (Int.ofNat d))), (3, .ptr 3 0), (4, .ptr 4 0), (6, .ptr 6 0), (7, .pv (.int .i64 0)), (8, .ptr 8 0), (11, .ref 70 j), (49, .pv (.view (E .exs a))), (50, .pv (.int .i64 (Int.ofNat ln))), (51, .pv (.int .i64 (Int.ofNat k)))] ∧
            h = [(3, .box [.pv (.str op), .pv (.int .i64 vk), .pv (.int .i64 vi), .pv (.bool vb), .pv (.str vs), .pv (.view (E .vls vt)), .pv (.int .i64 nn), .pv (.view (E .exs a))] true), (4, .box [.pv (.int .i64 tk), .pv (.view (E .tys tl))] true), (6, .box [.pv (.int .i64 0), .pv .nil] true), (8, .box [.pv (.int .i64 least), .pv (.int .i64 most), .pv (.view ofs), .pv (.bool alike), .pv (.int .i64 out)] true), (70, .row 24 2 es true)]) (ln - 0) (by cbv) ⟨0, 0, [], [], rfl, Nat.zero_le _, rfl, rfl, by rw [hRR]; rfl, fun _ => by rw [hRR]; rfl, by rw [ht0], by cbv, by cbv⟩ ?_
          rintro m s h ⟨k, j, acc, es', rfl, hk, hj, hacc, hc2, hc1, hes', rfl, rfl⟩
          have hesl' : j = es'.length := by rw [hes', tys_len hE, hj, hacc]
          refine Ok.run hmix hA false 2000 (by cbv) ?_
          rw [ofNat_lt hA]
          by_cases hkl : k < ln
          · rw [decide_eq_true hkl]
            repeat (first | (apply Ok.run1 hmix hA false 2000; focus (cbv; done)) | (apply Ok.one hmix hA; focus (cbv; done)) | (rw [Ar.notT hA]) | (rw [Ar.notF hA]) | (refine Ok.condT ?_ ?_; focus (cbv; done)) | (refine Ok.condF ?_ ?_; focus (cbv; done)) | (refine Ok.drawnE (by as_aux_lemma => kernel_rfl) ?_))
            have hx : a[k]? = some (a[k]'(by omega)) := List.getElem?_eq_getElem (by omega)
            have hxm : a[k]'(by omega) ∈ a := List.getElem_mem (by omega)
            have hdl : a.drop k = a[k]'(by omega) :: a.drop (k + 1) := List.drop_eq_getElem_cons (by omega)
            generalize a[k]'(by omega) = x at hx hdl hxm
            rw [chkXs_drop hdl] at hc2 hc1
            have cx := hsub x hxm
            generalize chkX x ⟨tk, tl⟩ d1 = cr at cx hc2 hc1
            obtain ⟨⟨xk, xl⟩, xe⟩ := cr
            dsimp only at cx hc2 hc1
            refine Ok.op (idx_view (E.ex x) (by cbv) (by cbv) (by simp) (by rw [E.exs_eq hE]; simp [hx]) rfl) ?_
            refine Ok.run hmix hA false 2000 (by cbv) ?_
            rw [Ar.succ_eq (k := d) hA (by omega), ← hd1]
            repeat (first | (apply Ok.run1 hmix hA false 2000; focus (cbv; done)) | (apply Ok.one hmix hA; focus (cbv; done)) | (rw [Ar.notT hA]) | (rw [Ar.notF hA]) | (refine Ok.condT ?_ ?_; focus (cbv; done)) | (refine Ok.condF ?_ ?_; focus (cbv; done)) | (refine Ok.drawnE (by as_aux_lemma => kernel_rfl) ?_) | (apply Ok.call (cx); (focus (cbv; done)); (focus (cbv; done)); (focus (cbv; done))) | (apply Ok.dcall (cx); (focus (cbv; done)); (focus (cbv; done)); (focus (cbv; done))))
            rw [Ar.eq_eq hA, Ar.not_eq hA]
            by_cases h0 : xe = 0
            · rw [if_neg (by simpa using h0)] at hc2
              rw [if_neg (by simpa using h0)] at hc1
              rw [decide_eq_true h0]
              obtain ⟨es3, hes3⟩ : ∃ es3, es3 = es' ++ [E.tyc ⟨xk, xl⟩] := ⟨_, rfl⟩
              obtain ⟨n3, hn3⟩ : ∃ n3, n3 = j + 1 := ⟨_, rfl⟩
              repeat (first | (apply Ok.run1 hmix hA false 2000; focus (cbv; done)) | (apply Ok.one hmix hA; focus (cbv; done)) | (rw [Ar.notT hA]) | (rw [Ar.notF hA]) | (refine Ok.condT ?_ ?_; focus (cbv; done)) | (refine Ok.condF ?_ ?_; focus (cbv; done)) | (refine Ok.drawnE (by as_aux_lemma => kernel_rfl) ?_))
              refine Ok.op (app_ref (by cbv) (by cbv) hesl' (by cbv) (by cbv) (by decide) (by simp only [List.length_singleton]; omega) (by unfold maxLen; simp only [List.length_singleton]; omega) n3 (by exact hn3) es3 (by rw [hes3]; rfl)) ?_
              repeat (first | (apply Ok.run1 hmix hA false 2000; focus (cbv; done)) | (apply Ok.one hmix hA; focus (cbv; done)) | (rw [Ar.notT hA]) | (rw [Ar.notF hA]) | (refine Ok.condT ?_ ?_; focus (cbv; done)) | (refine Ok.condF ?_ ?_; focus (cbv; done)) | (refine Ok.drawnE (by as_aux_lemma => kernel_rfl) ?_))
              rw [Ar.succ_eq (k := k) hA (by omega)]
              exact Ok.back (ln - (k + 1)) [2, 3, 4, 6, 7, 8, 11, 49, 50, 51] [3, 4, 6, 8, 70] (by omega) (by cbv) ⟨k + 1, n3, acc ++ [⟨xk, xl⟩], es3, rfl, by omega, by omega, by simp; omega, hc2, fun h => by rw [← hc1 h]; simp, by rw [hes3, hes', E.tys_eq hE, E.tys_eq hE, List.map_append]; rfl, by cbv, by cbv⟩
            · rw [if_pos h0] at hc2
              dsimp only at hc2
              rw [decide_eq_false h0]
              have hR2 : R.2 ≠ 0 := by rw [← hc2]; exact h0
              rw [if_pos hR2, ← hc2]
              repeat (first | (apply Ok.run1 hmix hA false 2000; focus (cbv; done)) | (apply Ok.one hmix hA; focus (cbv; done)) | (rw [Ar.notT hA]) | (rw [Ar.notF hA]) | (refine Ok.condT ?_ ?_; focus (cbv; done)) | (refine Ok.condF ?_ ?_; focus (cbv; done)) | (refine Ok.drawnE (by as_aux_lemma => kernel_rfl) ?_))
              refine Ok.leaveRet ?_
              repeat (first | (apply Ok.run1 hmix hA false 2000; focus (cbv; done)) | (apply Ok.one hmix hA; focus (cbv; done)) | (rw [Ar.notT hA]) | (rw [Ar.notF hA]) | (refine Ok.condT ?_ ?_; focus (cbv; done)) | (refine Ok.condF ?_ ?_; focus (cbv; done)) | (refine Ok.drawnE (by as_aux_lemma => kernel_rfl) ?_))
              (first | (apply Ok.fin1; (focus (cbv; done)); (focus (cbv; done))) | (apply Ok.fin2; (focus (cbv; done)); (focus (cbv; done))) | (apply Ok.fin3; (focus (cbv; done)); (focus (cbv; done))))
              all_goals first | rfl | simp [Enc.tyc, ht0, Ty.zero]
          · rw [decide_eq_false hkl]
            have hke : a.drop k = [] := List.drop_eq_nil_iff.2 (by omega)
            rw [hke] at hc2 hc1
            have hR2 : R.2 = 0 := hc2.symm
            have hR1 : acc = R.1 := by have := hc1 hR2; simpa [chkXs] using this
            have cfit := cfit hR2
            have ccom := ccom hR2
            rw [if_neg (by simpa using hR2)]
            have cclip := slices_ClipT hE R.1
            rw [← hR1, ← hes'] at cfit ccom cclip
            repeat (first | (apply Ok.run1 hmix hA false 2000; focus (cbv; done)) | (apply Ok.one hmix hA; focus (cbv; done)) | (rw [Ar.notT hA]) | (rw [Ar.notF hA]) | (refine Ok.condT ?_ ?_; focus (cbv; done)) | (refine Ok.condF ?_ ?_; focus (cbv; done)) | (refine Ok.drawnE (by as_aux_lemma => kernel_rfl) ?_))
            refine Ok.leave ?_
            repeat (first | (apply Ok.run1 hmix hA false 2000; focus (cbv; done)) | (apply Ok.one hmix hA; focus (cbv; done)) | (rw [Ar.notT hA]) | (rw [Ar.notF hA]) | (refine Ok.condT ?_ ?_; focus (cbv; done)) | (refine Ok.condF ?_ ?_; focus (cbv; done)) | (refine Ok.drawnE (by as_aux_lemma => kernel_rfl) ?_))
            refine Ok.call (ids := [70]) (cfit) (by cbv) (by simp [callArgs, frz2, frz1, frz0, frzL, rowOf, hget, ev, PV.rlx, ← hesl']) (by cbv) ?_
            cases FT with
            | false =>
              rw [if_pos rfl]
              repeat (first | (apply Ok.run1 hmix hA false 2000; focus (cbv; done)) | (apply Ok.one hmix hA; focus (cbv; done)) | (rw [Ar.notT hA]) | (rw [Ar.notF hA]) | (refine Ok.condT ?_ ?_; focus (cbv; done)) | (refine Ok.condF ?_ ?_; focus (cbv; done)) | (refine Ok.drawnE (by as_aux_lemma => kernel_rfl) ?_))
              (first | (apply Ok.fin1; (focus (cbv; done)); (focus (cbv; done))) | (apply Ok.fin2; (focus (cbv; done)); (focus (cbv; done))) | (apply Ok.fin3; (focus (cbv; done)); (focus (cbv; done))))
              all_goals first | rfl | simp [Enc.tyc, ht0, Ty.zero]
            | true =>
              rw [if_neg (by simp)]
              repeat (first | (apply Ok.run1 hmix hA false 2000; focus (cbv; done)) | (apply Ok.one hmix hA; focus (cbv; done)) | (rw [Ar.notT hA]) | (rw [Ar.notF hA]) | (refine Ok.condT ?_ ?_; focus (cbv; done)) | (refine Ok.condF ?_ ?_; focus (cbv; done)) | (refine Ok.drawnE (by as_aux_lemma => kernel_rfl) ?_))
              refine Ok.dcall (ids := [70]) (cclip) (by cbv) (by simp [callArgs, frz2, frz1, frz0, frzL, rowOf, hget, ev, PV.rlx, ← hesl']) (by cbv) ?_
              repeat (first | (apply Ok.run1 hmix hA false 2000; focus (cbv; done)) | (apply Ok.one hmix hA; focus (cbv; done)) | (rw [Ar.notT hA]) | (rw [Ar.notF hA]) | (refine Ok.condT ?_ ?_; focus (cbv; done)) | (refine Ok.condF ?_ ?_; focus (cbv; done)) | (refine Ok.drawnE (by as_aux_lemma => kernel_rfl) ?_) | (apply Ok.call (ccom); (focus (cbv; done)); (focus (cbv; done)); (focus (cbv; done))) | (apply Ok.dcall (ccom); (focus (cbv; done)); (focus (cbv; done)); (focus (cbv; done))))
              (first | (apply Ok.fin1; (focus (cbv; done)); (focus (cbv; done))) | (apply Ok.fin2; (focus (cbv; done)); (focus (cbv; done))) | (apply Ok.fin3; (focus (cbv; done)); (focus (cbv; done))))
              all_goals first | rfl | simp [Enc.tyc]
        · rw [decide_eq_false v0, if_pos ⟨kl, v0⟩]
          repeat (first | (apply Ok.run1 hmix hA false 2000; focus (cbv; done)) | (apply Ok.one hmix hA; focus (cbv; done)) | (rw [Ar.notT hA]) | (rw [Ar.notF hA]) | (refine Ok.condT ?_ ?_; focus (cbv; done)) | (refine Ok.condF ?_ ?_; focus (cbv; done)) | (refine Ok.drawnE (by as_aux_lemma => kernel_rfl) ?_))
          (first | (apply Ok.fin1; (focus (cbv; done)); (focus (cbv; done))) | (apply Ok.fin2; (focus (cbv; done)); (focus (cbv; done))) | (apply Ok.fin3; (focus (cbv; done)); (focus (cbv; done))))
          all_goals first | rfl | simp [Enc.tyc, ht0, Ty.zero]
      · rw [decide_eq_false kl, if_neg (by intro h; exact kl h.1)]
        repeat (first | (apply Ok.run1 hmix hA false 2000; focus (cbv; done)) | (apply Ok.one hmix hA; focus (cbv; done)) | (rw [Ar.notT hA]) | (rw [Ar.notF hA]) | (refine Ok.condT ?_ ?_; focus (cbv; done)) | (refine Ok.condF ?_ ?_; focus (cbv; done)) | (refine Ok.drawnE (by as_aux_lemma => kernel_rfl) ?_))
        rw [hll]
        refine Ok.le (Le.nil 11 70 24 2 (by cbv) (by cbv) (by decide)) ?_
        refine Ok.loopAt [2, 3, 4, 6, 7, 8, 11, 49, 50, 51] [3, 4, 6, 8, 70] (fun m s h => ∃ (k j : Nat) (acc : List Ty) (es : List PV), m = ln - k ∧ k ≤ ln ∧ j = k ∧ acc.length = k ∧ (chkXs (a.drop k) ⟨tk, tl⟩ d1).2 = R.2 ∧ (R.2 = 0 → acc ++ (chkXs (a.drop k) ⟨tk, tl⟩ d1).1 = R.1) ∧ es = E .tys acc ∧
          s = mkS 85 [(2, .pv (.int .i64 (Int.ofNat d))), (3, .ptr 3 0), (4, .ptr 4 0), (6, .ptr 6 0), (7, .pv (.int .i64 0)), (8, .ptr 8 0), (11, .ref 70 j), (49, .pv (.view (E .exs a))), (50, .pv (.int .i64 (Int.ofNat ln))), (51, .pv (.int .i64 (Int.ofNat k)))] ∧
          h = [(3, .box [.pv (.str op), .pv (.int .i64 vk), .pv (.int .i64 vi), .pv (.bool vb), .pv (.str vs), .pv (.view (E .vls vt)), .pv (.int .i64 nn), .pv (.view (E .exs a))] true), (4, .box [.pv (.int .i64 tk), .pv (.view (E .tys tl))] true), (6, .box [.pv (.int .i64 0), .pv .nil] true), (8, .box [.pv (.int .i64 least), .pv (.int .i64 most), .pv (.view ofs), .pv (.bool alike), .pv (.int .i64 out)] true), (70, .row 24 2 es true)]) (ln - 0) (by cbv) ⟨0, 0, [], [], rfl, Nat.zero_le _, rfl, rfl, by rw [hRR]; rfl, fun _ => by rw [hRR]; rfl, by rw [ht0], by cbv, by cbv⟩ ?_
        rintro m s h ⟨k, j, acc, es', rfl, hk, hj, hacc, hc2, hc1, hes', rfl, rfl⟩
        have hesl' : j = es'.length := by rw [hes', tys_len hE, hj, hacc]
        refine Ok.run hmix hA false 2000 (by cbv) ?_
        rw [ofNat_lt hA]
        by_cases hkl : k < ln
        · rw [decide_eq_true hkl]
          repeat (first | (apply Ok.run1 hmix hA false 2000; focus (cbv; done)) | (apply Ok.one hmix hA; focus (cbv; done)) | (rw [Ar.notT hA]) | (rw [Ar.notF hA]) | (refine Ok.condT ?_ ?_; focus (cbv; done)) | (refine Ok.condF ?_ ?_; focus (cbv; done)) | (refine Ok.drawnE (by as_aux_lemma => kernel_rfl) ?_))
          have hx : a[k]? = some (a[k]'(by omega)) := List.getElem?_eq_getElem (by omega)
          have hxm : a[k]'(by omega) ∈ a := List.getElem_mem (by omega)
          have hdl : a.drop k = a[k]'(by omega) :: a.drop (k + 1) := List.drop_eq_getElem_cons (by omega)
          generalize a[k]'(by omega) = x at hx hdl hxm
          rw [chkXs_drop hdl] at hc2 hc1
          have cx := hsub x hxm
          generalize chkX x ⟨tk, tl⟩ d1 = cr at cx hc2 hc1
          obtain ⟨⟨xk, xl⟩, xe⟩ := cr
          dsimp only at cx hc2 hc1
          refine Ok.op (idx_view (E.ex x) (by cbv) (by cbv) (by simp) (by rw [E.exs_eq hE]; simp [hx]) rfl) ?_
          refine Ok.run hmix hA false 2000 (by cbv) ?_
          rw [Ar.succ_eq (k := d) hA (by omega), ← hd1]
          repeat (first | (apply Ok.run1 hmix hA false 2000; focus (cbv; done)) | (apply Ok.one hmix hA; focus (cbv; done)) | (rw [Ar.notT hA]) | (rw [Ar.notF hA]) | (refine Ok.condT ?_ ?_; focus (cbv; done)) | (refine Ok.condF ?_ ?_; focus (cbv; done)) | (refine Ok.drawnE (by as_aux_lemma => kernel_rfl) ?_) | (apply Ok.call (cx); (focus (cbv; done)); (focus (cbv; done)); (focus (cbv; done))) | (apply Ok.dcall (cx); (focus (cbv; done)); (focus (cbv; done)); (focus (cbv; done))))
          rw [Ar.eq_eq hA, Ar.not_eq hA]
          by_cases h0 : xe = 0
          · rw [if_neg (by simpa using h0)] at hc2
            rw [if_neg (by simpa using h0)] at hc1
            rw [decide_eq_true h0]
            obtain ⟨es3, hes3⟩ : ∃ es3, es3 = es' ++ [E.tyc ⟨xk, xl⟩] := ⟨_, rfl⟩
            obtain ⟨n3, hn3⟩ : ∃ n3, n3 = j + 1 := ⟨_, rfl⟩
            repeat (first | (apply Ok.run1 hmix hA false 2000; focus (cbv; done)) | (apply Ok.one hmix hA; focus (cbv; done)) | (rw [Ar.notT hA]) | (rw [Ar.notF hA]) | (refine Ok.condT ?_ ?_; focus (cbv; done)) | (refine Ok.condF ?_ ?_; focus (cbv; done)) | (refine Ok.drawnE (by as_aux_lemma => kernel_rfl) ?_))
            refine Ok.op (app_ref (by cbv) (by cbv) hesl' (by cbv) (by cbv) (by decide) (by simp only [List.length_singleton]; omega) (by unfold maxLen; simp only [List.length_singleton]; omega) n3 (by exact hn3) es3 (by rw [hes3]; rfl)) ?_
            repeat (first | (apply Ok.run1 hmix hA false 2000; focus (cbv; done)) | (apply Ok.one hmix hA; focus (cbv; done)) | (rw [Ar.notT hA]) | (rw [Ar.notF hA]) | (refine Ok.condT ?_ ?_; focus (cbv; done)) | (refine Ok.condF ?_ ?_; focus (cbv; done)) | (refine Ok.drawnE (by as_aux_lemma => kernel_rfl) ?_))
            rw [Ar.succ_eq (k := k) hA (by omega)]
            exact Ok.back (ln - (k + 1)) [2, 3, 4, 6, 7, 8, 11, 49, 50, 51] [3, 4, 6, 8, 70] (by omega) (by cbv) ⟨k + 1, n3, acc ++ [⟨xk, xl⟩], es3, rfl, by omega, by omega, by simp; omega, hc2, fun h => by rw [← hc1 h]; simp, by rw [hes3, hes', E.tys_eq hE, E.tys_eq hE, List.map_append]; rfl, by cbv, by cbv⟩
          · rw [if_pos h0] at hc2
            dsimp only at hc2
            rw [decide_eq_false h0]
            have hR2 : R.2 ≠ 0 := by rw [← hc2]; exact h0
            rw [if_pos hR2, ← hc2]
            repeat (first | (apply Ok.run1 hmix hA false 2000; focus (cbv; done)) | (apply Ok.one hmix hA; focus (cbv; done)) | (rw [Ar.notT hA]) | (rw [Ar.notF hA]) | (refine Ok.condT ?_ ?_; focus (cbv; done)) | (refine Ok.condF ?_ ?_; focus (cbv; done)) | (refine Ok.drawnE (by as_aux_lemma => kernel_rfl) ?_))
            refine Ok.leaveRet ?_
            repeat (first | (apply Ok.run1 hmix hA false 2000; focus (cbv; done)) | (apply Ok.one hmix hA; focus (cbv; done)) | (rw [Ar.notT hA]) | (rw [Ar.notF hA]) | (refine Ok.condT ?_ ?_; focus (cbv; done)) | (refine Ok.condF ?_ ?_; focus (cbv; done)) | (refine Ok.drawnE (by as_aux_lemma => kernel_rfl) ?_))
            (first | (apply Ok.fin1; (focus (cbv; done)); (focus (cbv; done))) | (apply Ok.fin2; (focus (cbv; done)); (focus (cbv; done))) | (apply Ok.fin3; (focus (cbv; done)); (focus (cbv; done))))
            all_goals first | rfl | simp [Enc.tyc, ht0, Ty.zero]
        · rw [decide_eq_false hkl]
          have hke : a.drop k = [] := List.drop_eq_nil_iff.2 (by omega)
          rw [hke] at hc2 hc1
          have hR2 : R.2 = 0 := hc2.symm
          have hR1 : acc = R.1 := by have := hc1 hR2; simpa [chkXs] using this
          have cfit := cfit hR2
          have ccom := ccom hR2
          rw [if_neg (by simpa using hR2)]
          have cclip := slices_ClipT hE R.1
          rw [← hR1, ← hes'] at cfit ccom cclip
          repeat (first | (apply Ok.run1 hmix hA false 2000; focus (cbv; done)) | (apply Ok.one hmix hA; focus (cbv; done)) | (rw [Ar.notT hA]) | (rw [Ar.notF hA]) | (refine Ok.condT ?_ ?_; focus (cbv; done)) | (refine Ok.condF ?_ ?_; focus (cbv; done)) | (refine Ok.drawnE (by as_aux_lemma => kernel_rfl) ?_))
          refine Ok.leave ?_
          repeat (first | (apply Ok.run1 hmix hA false 2000; focus (cbv; done)) | (apply Ok.one hmix hA; focus (cbv; done)) | (rw [Ar.notT hA]) | (rw [Ar.notF hA]) | (refine Ok.condT ?_ ?_; focus (cbv; done)) | (refine Ok.condF ?_ ?_; focus (cbv; done)) | (refine Ok.drawnE (by as_aux_lemma => kernel_rfl) ?_))
          refine Ok.call (ids := [70]) (cfit) (by cbv) (by simp [callArgs, frz2, frz1, frz0, frzL, rowOf, hget, ev, PV.rlx, ← hesl']) (by cbv) ?_
          cases FT with
          | false =>
            rw [if_pos rfl]
            repeat (first | (apply Ok.run1 hmix hA false 2000; focus (cbv; done)) | (apply Ok.one hmix hA; focus (cbv; done)) | (rw [Ar.notT hA]) | (rw [Ar.notF hA]) | (refine Ok.condT ?_ ?_; focus (cbv; done)) | (refine Ok.condF ?_ ?_; focus (cbv; done)) | (refine Ok.drawnE (by as_aux_lemma => kernel_rfl) ?_))
            (first | (apply Ok.fin1; (focus (cbv; done)); (focus (cbv; done))) | (apply Ok.fin2; (focus (cbv; done)); (focus (cbv; done))) | (apply Ok.fin3; (focus (cbv; done)); (focus (cbv; done))))
            all_goals first | rfl | simp [Enc.tyc, ht0, Ty.zero]
          | true =>
            rw [if_neg (by simp)]
            repeat (first | (apply Ok.run1 hmix hA false 2000; focus (cbv; done)) | (apply Ok.one hmix hA; focus (cbv; done)) | (rw [Ar.notT hA]) | (rw [Ar.notF hA]) | (refine Ok.condT ?_ ?_; focus (cbv; done)) | (refine Ok.condF ?_ ?_; focus (cbv; done)) | (refine Ok.drawnE (by as_aux_lemma => kernel_rfl) ?_))
            refine Ok.dcall (ids := [70]) (cclip) (by cbv) (by simp [callArgs, frz2, frz1, frz0, frzL, rowOf, hget, ev, PV.rlx, ← hesl']) (by cbv) ?_
            repeat (first | (apply Ok.run1 hmix hA false 2000; focus (cbv; done)) | (apply Ok.one hmix hA; focus (cbv; done)) | (rw [Ar.notT hA]) | (rw [Ar.notF hA]) | (refine Ok.condT ?_ ?_; focus (cbv; done)) | (refine Ok.condF ?_ ?_; focus (cbv; done)) | (refine Ok.drawnE (by as_aux_lemma => kernel_rfl) ?_) | (apply Ok.call (ccom); (focus (cbv; done)); (focus (cbv; done)); (focus (cbv; done))) | (apply Ok.dcall (ccom); (focus (cbv; done)); (focus (cbv; done)); (focus (cbv; done))))
            (first | (apply Ok.fin1; (focus (cbv; done)); (focus (cbv; done))) | (apply Ok.fin2; (focus (cbv; done)); (focus (cbv; done))) | (apply Ok.fin3; (focus (cbv; done)); (focus (cbv; done))))
            all_goals first | rfl | simp [Enc.tyc]
end Go.Proofs.Ytnojmocoifodjaa.Pv
set_option maxRecDepth 100000
set_option maxHeartbeats 4000000
set_option linter.unusedVariables false
set_option linter.unusedSimpArgs false
namespace Go.Proofs.Ytnojmocoifodjaa.Pv
open Go Go.Proofs
mutual
theorem sizX_wX (T : Nat) : ∀ e, sizX e ≤ wX e T
  | .mk op v n a => by
    have := sizXs_wXs T a
    rw [sizX, wX]; omega
theorem sizXs_wXs (T : Nat) : ∀ l, sizXs l ≤ wXs l T
  | [] => by rw [sizXs, wXs]; exact Nat.le_refl 0
  | x :: l => by
    have := sizX_wX T x
    have := sizXs_wXs T l
    rw [sizXs, wXs]; omega
end
theorem expr_Check {E : Enc} (hE : E = .std) (e : Ex4) (tin : Ty) (hsz : wX e (szT tin) ≤ 2 ^ 27) : CallsV Try.prog 41 [E.ex e, E.tyc tin] (.tup [.pv (E.tyc (chkXTop e tin).1), .pv (.int .i64 (chkXTop e tin).2)]) [] := by
  obtain ⟨A, hA⟩ : ∃ A : Ar, A = .std := ⟨_, rfl⟩
  have ht0 : E .tys [] = [] := by rw [E.tys_eq hE]; rfl
  have hT : szT tin ≤ 2 ^ 27 := by obtain ⟨op, v, n, a⟩ := e; rw [wX] at hsz; omega
  have cT := typ_Check hE tin (by omega)
  have cS := expr_Size hE _ e (Nat.le_refl _) (by have := sizX_wX (szT tin) e; omega)
  have cC := expr_check hE _ e tin 0 (Nat.le_refl _) hsz (by omega)
  obtain ⟨op, ⟨vk, vi, vb, vs, vt⟩, nn, a⟩ := e
  obtain ⟨tk, tl⟩ := tin
  unfold chkXTop
  generalize ckT ⟨tk, tl⟩ 0 = r at cT ⊢
  generalize sizX ⟨op, ⟨vk, vi, vb, vs, vt⟩, nn, a⟩ = sz at cS ⊢
  generalize chkX ⟨op, ⟨vk, vi, vb, vs, vt⟩, nn, a⟩ ⟨tk, tl⟩ 0 = cr at cC ⊢
  obtain ⟨⟨ck, cl⟩, ce⟩ := cr
  dsimp only at cC
  refine CallsV.ok (fn := Try.f41) (by kernel_rfl) (by kernel_rfl) rfl (by cbv) (by cbv) ?_
  repeat (first | (apply Ok.run1 hmix hA false 2000; focus (cbv; done)) | (apply Ok.one hmix hA; focus (cbv; done)) | (rw [Ar.notT hA]) | (rw [Ar.notF hA]) | (refine Ok.condT ?_ ?_; focus (cbv; done)) | (refine Ok.condF ?_ ?_; focus (cbv; done)) | (refine Ok.drawnE (by as_aux_lemma => kernel_rfl) ?_) | (apply Ok.call (cT); (focus (cbv; done)); (focus (cbv; done)); (focus (cbv; done))) | (apply Ok.dcall (cT); (focus (cbv; done)); (focus (cbv; done)); (focus (cbv; done))))
  rw [Ar.eq_eq hA, Ar.not_eq hA]
  by_cases h0 : r = 0
  · rw [decide_eq_true h0, if_neg (by simpa using h0)]
    repeat (first | (apply Ok.run1 hmix hA false 2000; focus (cbv; done)) | (apply Ok.one hmix hA; focus (cbv; done)) | (rw [Ar.notT hA]) | (rw [Ar.notF hA]) | (refine Ok.condT ?_ ?_; focus (cbv; done)) | (refine Ok.condF ?_ ?_; focus (cbv; done)) | (refine Ok.drawnE (by as_aux_lemma => kernel_rfl) ?_) | (apply Ok.call (cS); (focus (cbv; done)); (focus (cbv; done)); (focus (cbv; done))) | (apply Ok.dcall (cS); (focus (cbv; done)); (focus (cbv; done)); (focus (cbv; done))))
    rw [show A .lt 256 (Int.ofNat sz) = decide (256 < sz) from ofNat_lt hA 256 sz]
    by_cases h1 : 256 < sz
    · rw [decide_eq_true h1, if_pos h1]
      repeat (first | (apply Ok.run1 hmix hA false 2000; focus (cbv; done)) | (apply Ok.one hmix hA; focus (cbv; done)) | (rw [Ar.notT hA]) | (rw [Ar.notF hA]) | (refine Ok.condT ?_ ?_; focus (cbv; done)) | (refine Ok.condF ?_ ?_; focus (cbv; done)) | (refine Ok.drawnE (by as_aux_lemma => kernel_rfl) ?_))
      (first | (apply Ok.fin1; (focus (cbv; done)); (focus (cbv; done))) | (apply Ok.fin2; (focus (cbv; done)); (focus (cbv; done))) | (apply Ok.fin3; (focus (cbv; done)); (focus (cbv; done))))
      all_goals first | rfl | simp [Enc.tyc, ht0, Ty.zero]
    · rw [decide_eq_false h1, if_neg h1]
      repeat (first | (apply Ok.run1 hmix hA false 2000; focus (cbv; done)) | (apply Ok.one hmix hA; focus (cbv; done)) | (rw [Ar.notT hA]) | (rw [Ar.notF hA]) | (refine Ok.condT ?_ ?_; focus (cbv; done)) | (refine Ok.condF ?_ ?_; focus (cbv; done)) | (refine Ok.drawnE (by as_aux_lemma => kernel_rfl) ?_) | (apply Ok.call (cC); (focus (cbv; done)); (focus (cbv; done)); (focus (cbv; done))) | (apply Ok.dcall (cC); (focus (cbv; done)); (focus (cbv; done)); (focus (cbv; done))))
      (first | (apply Ok.fin1; (focus (cbv; done)); (focus (cbv; done))) | (apply Ok.fin2; (focus (cbv; done)); (focus (cbv; done))) | (apply Ok.fin3; (focus (cbv; done)); (focus (cbv; done))))
      all_goals first | rfl | simp [Enc.tyc]
  · rw [decide_eq_false h0, if_pos h0]
    repeat (first | (apply Ok.run1 hmix hA false 2000; focus (cbv; done)) | (apply Ok.one hmix hA; focus (cbv; done)) | (rw [Ar.notT hA]) | (rw [Ar.notF hA]) | (refine Ok.condT ?_ ?_; focus (cbv; done)) | (refine Ok.condF ?_ ?_; focus (cbv; done)) | (refine Ok.drawnE (by as_aux_lemma => kernel_rfl) ?_))
    (first | (apply Ok.fin1; (focus (cbv; done)); (focus (cbv; done))) | (apply Ok.fin2; (focus (cbv; done)); (focus (cbv; done))) | (apply Ok.fin3; (focus (cbv; done)); (focus (cbv; done))))
    all_goals first | rfl | simp [Enc.tyc, ht0, Ty.zero]
end Go.Proofs.Ytnojmocoifodjaa.Pv
set_option maxRecDepth 100000
set_option maxHeartbeats 4000000
set_option linter.unusedVariables false
set_option linter.unusedSimpArgs false
namespace Go.Proofs.Ytnojmocoifodjaa.Pv
open Go Go.Proofs
mutual
def budT : Ty → Nat → Nat → Nat
  | .mk k l, d, b => if b = 0 ∨ d = 0 ∨ 20 < l.length then 0 else budTs l (d - 1) (b - 1)
def budTs : List Ty → Nat → Nat → Nat
  | [], _, b => b
  | x :: l, d, b => if b = 0 then 0 else budTs l d (budT x d b)
end
theorem budTs_zero (l : List Ty) (d : Nat) : budTs l d 0 = 0 := by cases l <;> simp [budTs]
mutual
theorem budT_le : ∀ (t : Ty) (d b : Nat), budT t d b ≤ b
  | .mk k l, d, b => by
    rw [budT]
    have := budTs_le l (d - 1) (b - 1)
    split <;> omega
theorem budTs_le : ∀ (l : List Ty) (d b : Nat), budTs l d b ≤ b
  | [], d, b => by rw [budTs]; exact Nat.le_refl _
  | x :: l, d, b => by
    rw [budTs]
    have := budT_le x d b
    have := budTs_le l d (budT x d b)
    split <;> omega
end
mutual
theorem budT_sz : ∀ (t : Ty) (d b : Nat), 0 < budT t d b → budT t d b + szT t ≤ b
  | .mk k l, d, b => by
    rw [budT, szT]
    intro h
    have := budTs_sz l (d - 1) (b - 1)
    split at h
    · omega
    · rename_i hn
      rw [if_neg hn]
      have := this h
      omega
theorem budTs_sz : ∀ (l : List Ty) (d b : Nat), 0 < budTs l d b → budTs l d b + szTs l ≤ b
  | [], d, b => by rw [budTs, szTs]; intro; omega
  | x :: l, d, b => by
    rw [budTs, szTs]
    intro h
    split at h
    · omega
    · rename_i hn
      rw [if_neg hn]
      have h2 := budTs_sz l d (budT x d b) h
      have h1 := budT_sz x d b (by have := budTs_le l d (budT x d b); omega)
      omega
end
theorem wrap_pred (b : Nat) (h : 1 ≤ b) (hb : b ≤ 1000) : IntKind.wrap .i64 (Int.ofNat b - 1) = Int.ofNat (b - 1) := by
  have : ∀ b : Nat, b ≤ 1000 → 1 ≤ b → IntKind.wrap .i64 (Int.ofNat b - 1) = Int.ofNat (b - 1) := by decide +kernel
  exact this b hb h
theorem law1_budget {E : Enc} (hE : E = .std) : ∀ (n : Nat) (t : Ty) (d b : Nat), SizeOf.sizeOf t ≤ n → d ≤ 1000 → b ≤ 1000 → CallsV Try.prog 52 [E.tyc t, .int .i64 (Int.ofNat d), .int .i64 (Int.ofNat b)] (.pv (.int .i64 (Int.ofNat (budT t d b)))) [] := by
  intro n
  induction n with
  | zero => intro t d b h; cases t; simp at h
  | succ n ih =>
    rintro ⟨tk, a⟩ d b hn hd hb
    obtain ⟨A, hA⟩ : ∃ A : Ar, A = .std := ⟨_, rfl⟩
    obtain ⟨ln, hln⟩ : ∃ n, n = a.length := ⟨_, rfl⟩
    have hll : A .lenP (E .tys a) = Int.ofNat ln := by rw [Ar.lenP_eq hA, tys_len hE, hln]; rfl
    have hsub : ∀ x, x ∈ a → ∀ q, q ≤ 1000 → CallsV Try.prog 52 [E.tyc x, .int .i64 (Int.ofNat (d - 1)), .int .i64 (Int.ofNat q)] (.pv (.int .i64 (Int.ofNat (budT x (d - 1) q)))) [] := fun x hx q hq => by
      have h1 := List.sizeOf_lt_of_mem hx
      simp at hn
      exact ih x _ _ (by omega) (by omega) hq
    clear ih
    have e1 : A .le (Int.ofNat b) 0 = decide (b = 0) := by rw [Ar.le_eq hA]; congr 1; rw [Int.ofNat_eq_natCast]; apply propext; omega
    have e2 : A .le (Int.ofNat d) 0 = decide (d = 0) := by rw [Ar.le_eq hA]; congr 1; rw [Int.ofNat_eq_natCast]; apply propext; omega
    have e3 : A .lt 20 (Int.ofNat ln) = decide (20 < ln) := ofNat_lt hA 20 ln
    rw [budT, ← hln]
    by_cases h1 : b = 0
    · rw [if_pos (.inl h1)]
      rw [decide_eq_true h1] at e1
      refine CallsV.ok (fn := Try.f52) (by kernel_rfl) (by kernel_rfl) rfl (by cbv) (by cbv) ?_
      repeat (first | (apply Ok.run1 hmix hA false 2000; focus (cbv; done)) | (apply Ok.one hmix hA; focus (cbv; done)) | (rw [Ar.notT hA]) | (rw [Ar.notF hA]) | (refine Ok.condT ?_ ?_; focus (cbv; done)) | (refine Ok.condF ?_ ?_; focus (cbv; done)) | (refine Ok.drawnE (by as_aux_lemma => kernel_rfl) ?_))
      rw [e1]
      repeat (first | (apply Ok.run1 hmix hA false 2000; focus (cbv; done)) | (apply Ok.one hmix hA; focus (cbv; done)) | (rw [Ar.notT hA]) | (rw [Ar.notF hA]) | (refine Ok.condT ?_ ?_; focus (cbv; done)) | (refine Ok.condF ?_ ?_; focus (cbv; done)) | (refine Ok.drawnE (by as_aux_lemma => kernel_rfl) ?_))
      (first | (apply Ok.fin1; (focus (cbv; done)); (focus (cbv; done))) | (apply Ok.fin2; (focus (cbv; done)); (focus (cbv; done))) | (apply Ok.fin3; (focus (cbv; done)); (focus (cbv; done))))
      all_goals rfl
    rw [decide_eq_false h1] at e1
    by_cases h2 : d = 0
    · rw [if_pos (.inr (.inl h2))]
      rw [decide_eq_true h2] at e2
      refine CallsV.ok (fn := Try.f52) (by kernel_rfl) (by kernel_rfl) rfl (by cbv) (by cbv) ?_
      repeat (first | (apply Ok.run1 hmix hA false 2000; focus (cbv; done)) | (apply Ok.one hmix hA; focus (cbv; done)) | (rw [Ar.notT hA]) | (rw [Ar.notF hA]) | (refine Ok.condT ?_ ?_; focus (cbv; done)) | (refine Ok.condF ?_ ?_; focus (cbv; done)) | (refine Ok.drawnE (by as_aux_lemma => kernel_rfl) ?_))
      rw [e1]
      repeat (first | (apply Ok.run1 hmix hA false 2000; focus (cbv; done)) | (apply Ok.one hmix hA; focus (cbv; done)) | (rw [Ar.notT hA]) | (rw [Ar.notF hA]) | (refine Ok.condT ?_ ?_; focus (cbv; done)) | (refine Ok.condF ?_ ?_; focus (cbv; done)) | (refine Ok.drawnE (by as_aux_lemma => kernel_rfl) ?_))
      rw [e2]
      repeat (first | (apply Ok.run1 hmix hA false 2000; focus (cbv; done)) | (apply Ok.one hmix hA; focus (cbv; done)) | (rw [Ar.notT hA]) | (rw [Ar.notF hA]) | (refine Ok.condT ?_ ?_; focus (cbv; done)) | (refine Ok.condF ?_ ?_; focus (cbv; done)) | (refine Ok.drawnE (by as_aux_lemma => kernel_rfl) ?_))
      (first | (apply Ok.fin1; (focus (cbv; done)); (focus (cbv; done))) | (apply Ok.fin2; (focus (cbv; done)); (focus (cbv; done))) | (apply Ok.fin3; (focus (cbv; done)); (focus (cbv; done))))
      all_goals rfl
    rw [decide_eq_false h2] at e2
    by_cases h3 : 20 < ln
    · rw [if_pos (.inr (.inr h3))]
      rw [decide_eq_true h3] at e3
      refine CallsV.ok (fn := Try.f52) (by kernel_rfl) (by kernel_rfl) rfl (by cbv) (by cbv) ?_
      repeat (first | (apply Ok.run1 hmix hA false 2000; focus (cbv; done)) | (apply Ok.one hmix hA; focus (cbv; done)) | (rw [Ar.notT hA]) | (rw [Ar.notF hA]) | (refine Ok.condT ?_ ?_; focus (cbv; done)) | (refine Ok.condF ?_ ?_; focus (cbv; done)) | (refine Ok.drawnE (by as_aux_lemma => kernel_rfl) ?_))
      rw [e1]
      repeat (first | (apply Ok.run1 hmix hA false 2000; focus (cbv; done)) | (apply Ok.one hmix hA; focus (cbv; done)) | (rw [Ar.notT hA]) | (rw [Ar.notF hA]) | (refine Ok.condT ?_ ?_; focus (cbv; done)) | (refine Ok.condF ?_ ?_; focus (cbv; done)) | (refine Ok.drawnE (by as_aux_lemma => kernel_rfl) ?_))
      rw [e2]
      repeat (first | (apply Ok.run1 hmix hA false 2000; focus (cbv; done)) | (apply Ok.one hmix hA; focus (cbv; done)) | (rw [Ar.notT hA]) | (rw [Ar.notF hA]) | (refine Ok.condT ?_ ?_; focus (cbv; done)) | (refine Ok.condF ?_ ?_; focus (cbv; done)) | (refine Ok.drawnE (by as_aux_lemma => kernel_rfl) ?_))
      rw [hll, e3]
      repeat (first | (apply Ok.run1 hmix hA false 2000; focus (cbv; done)) | (apply Ok.one hmix hA; focus (cbv; done)) | (rw [Ar.notT hA]) | (rw [Ar.notF hA]) | (refine Ok.condT ?_ ?_; focus (cbv; done)) | (refine Ok.condF ?_ ?_; focus (cbv; done)) | (refine Ok.drawnE (by as_aux_lemma => kernel_rfl) ?_))
      (first | (apply Ok.fin1; (focus (cbv; done)); (focus (cbv; done))) | (apply Ok.fin2; (focus (cbv; done)); (focus (cbv; done))) | (apply Ok.fin3; (focus (cbv; done)); (focus (cbv; done))))
      all_goals rfl
    rw [decide_eq_false h3] at e3
    rw [if_neg (by omega)]
    obtain ⟨R, hR⟩ : ∃ R, R = budTs a (d - 1) (b - 1) := ⟨_, rfl⟩
    rw [← hR]
    have hsb : A .sub .i64 (Int.ofNat b) 1 = Int.ofNat (b - 1) := by rw [Ar.sub_eq hA]; exact wrap_pred b (by omega) (by omega)
    have hsd : A .sub .i64 (Int.ofNat d) 1 = Int.ofNat (d - 1) := by rw [Ar.sub_eq hA]; exact wrap_pred d (by omega) (by omega)
    refine CallsV.ok (fn := Try.f52) (by kernel_rfl) (by kernel_rfl) rfl (by cbv) (by cbv) ?_
    repeat (first | (apply Ok.run1 hmix hA false 2000; focus (cbv; done)) | (apply Ok.one hmix hA; focus (cbv; done)) | (rw [Ar.notT hA]) | (rw [Ar.notF hA]) | (refine Ok.condT ?_ ?_; focus (cbv; done)) | (refine Ok.condF ?_ ?_; focus (cbv; done)) | (refine Ok.drawnE (by as_aux_lemma => kernel_rfl) ?_))
    rw [e1]
    repeat (first | (apply Ok.run1 hmix hA false 2000; focus (cbv; done)) | (apply Ok.one hmix hA; focus (cbv; done)) | (rw [Ar.notT hA]) | (rw [Ar.notF hA]) | (refine Ok.condT ?_ ?_; focus (cbv; done)) | (refine Ok.condF ?_ ?_; focus (cbv; done)) | (refine Ok.drawnE (by as_aux_lemma => kernel_rfl) ?_))
    rw [e2]
    repeat (first | (apply Ok.run1 hmix hA false 2000; focus (cbv; done)) | (apply Ok.one hmix hA; focus (cbv; done)) | (rw [Ar.notT hA]) | (rw [Ar.notF hA]) | (refine Ok.condT ?_ ?_; focus (cbv; done)) | (refine Ok.condF ?_ ?_; focus (cbv; done)) | (refine Ok.drawnE (by as_aux_lemma => kernel_rfl) ?_))
    rw [hll, e3]
    repeat (first | (apply Ok.run1 hmix hA false 2000; focus (cbv; done)) | (apply Ok.one hmix hA; focus (cbv; done)) | (rw [Ar.notT hA]) | (rw [Ar.notF hA]) | (refine Ok.condT ?_ ?_; focus (cbv; done)) | (refine Ok.condF ?_ ?_; focus (cbv; done)) | (refine Ok.drawnE (by as_aux_lemma => kernel_rfl) ?_))
    rw [hsb]
    refine Ok.loopAt [1, 2, 3, 7] [3] (fun m s h => ∃ (k q : Nat), m = ln - k ∧ k ≤ ln ∧ q ≤ 1000 ∧ budTs (a.drop k) (d - 1) q = R ∧ s = mkS 43 [(1, .pv (.int .i64 (Int.ofNat d))), (2, .pv (.int .i64 (Int.ofNat q))), (3, .ptr 3 0), (7, .pv (.int .i64 (Int.ofNat k)))] ∧ h = [(3, .box [.pv (.int .i64 tk), .pv (.view (E .tys a))] true)]) (ln - 0) (by cbv) ⟨0, b - 1, rfl, Nat.zero_le _, by omega, by rw [hR]; rfl, by cbv, by cbv⟩ ?_
    rintro m s h ⟨k, q, rfl, hk, hq, hRq, rfl, rfl⟩
    repeat (first | (apply Ok.run1 hmix hA false 2000; focus (cbv; done)) | (apply Ok.one hmix hA; focus (cbv; done)) | (rw [Ar.notT hA]) | (rw [Ar.notF hA]) | (refine Ok.condT ?_ ?_; focus (cbv; done)) | (refine Ok.condF ?_ ?_; focus (cbv; done)) | (refine Ok.drawnE (by as_aux_lemma => kernel_rfl) ?_))
    rw [hll, ofNat_lt hA]
    have e4 : A .lt 0 (Int.ofNat q) = decide (0 < q) := ofNat_lt hA 0 q
    by_cases hkl : k < ln
    · rw [decide_eq_true hkl]
      repeat (first | (apply Ok.run1 hmix hA false 2000; focus (cbv; done)) | (apply Ok.one hmix hA; focus (cbv; done)) | (rw [Ar.notT hA]) | (rw [Ar.notF hA]) | (refine Ok.condT ?_ ?_; focus (cbv; done)) | (refine Ok.condF ?_ ?_; focus (cbv; done)) | (refine Ok.drawnE (by as_aux_lemma => kernel_rfl) ?_))
      rw [e4]
      by_cases hq0 : 0 < q
      · rw [decide_eq_true hq0]
        repeat (first | (apply Ok.run1 hmix hA false 2000; focus (cbv; done)) | (apply Ok.one hmix hA; focus (cbv; done)) | (rw [Ar.notT hA]) | (rw [Ar.notF hA]) | (refine Ok.condT ?_ ?_; focus (cbv; done)) | (refine Ok.condF ?_ ?_; focus (cbv; done)) | (refine Ok.drawnE (by as_aux_lemma => kernel_rfl) ?_))
        have hx : a[k]? = some (a[k]'(by omega)) := List.getElem?_eq_getElem (by omega)
        have hxm : a[k]'(by omega) ∈ a := List.getElem_mem (by omega)
        have hdl : a.drop k = a[k]'(by omega) :: a.drop (k + 1) := List.drop_eq_getElem_cons (by omega)
        generalize a[k]'(by omega) = x at hx hdl hxm
        have cx := hsub x hxm q hq
        have hle := budT_le x (d - 1) q
        rw [hdl, budTs, if_neg (by omega)] at hRq
        generalize budT x (d - 1) q = q' at cx hle hRq
        refine Ok.op (idx_view (E.tyc x) (by cbv) (by cbv) (by simp) (by rw [E.tys_eq hE]; simp [hx]) rfl) ?_
        repeat (first | (apply Ok.run1 hmix hA false 2000; focus (cbv; done)) | (apply Ok.one hmix hA; focus (cbv; done)) | (rw [Ar.notT hA]) | (rw [Ar.notF hA]) | (refine Ok.condT ?_ ?_; focus (cbv; done)) | (refine Ok.condF ?_ ?_; focus (cbv; done)) | (refine Ok.drawnE (by as_aux_lemma => kernel_rfl) ?_))
        rw [hsd]
        repeat (first | (apply Ok.run1 hmix hA false 2000; focus (cbv; done)) | (apply Ok.one hmix hA; focus (cbv; done)) | (rw [Ar.notT hA]) | (rw [Ar.notF hA]) | (refine Ok.condT ?_ ?_; focus (cbv; done)) | (refine Ok.condF ?_ ?_; focus (cbv; done)) | (refine Ok.drawnE (by as_aux_lemma => kernel_rfl) ?_) | (apply Ok.call (cx); (focus (cbv; done)); (focus (cbv; done)); (focus (cbv; done))) | (apply Ok.dcall (cx); (focus (cbv; done)); (focus (cbv; done)); (focus (cbv; done))))
        rw [Ar.succ_eq (k := k) hA (by omega)]
        exact Ok.back (ln - (k + 1)) [1, 2, 3, 7] [3] (by omega) (by cbv) ⟨k + 1, q', rfl, by omega, by omega, hRq, by cbv, by cbv⟩
      · rw [decide_eq_false hq0]
        obtain rfl : q = 0 := by omega
        rw [budTs_zero] at hRq
        rw [← hRq]
        repeat (first | (apply Ok.run1 hmix hA false 2000; focus (cbv; done)) | (apply Ok.one hmix hA; focus (cbv; done)) | (rw [Ar.notT hA]) | (rw [Ar.notF hA]) | (refine Ok.condT ?_ ?_; focus (cbv; done)) | (refine Ok.condF ?_ ?_; focus (cbv; done)) | (refine Ok.drawnE (by as_aux_lemma => kernel_rfl) ?_))
        refine Ok.leave ?_
        repeat (first | (apply Ok.run1 hmix hA false 2000; focus (cbv; done)) | (apply Ok.one hmix hA; focus (cbv; done)) | (rw [Ar.notT hA]) | (rw [Ar.notF hA]) | (refine Ok.condT ?_ ?_; focus (cbv; done)) | (refine Ok.condF ?_ ?_; focus (cbv; done)) | (refine Ok.drawnE (by as_aux_lemma => kernel_rfl) ?_))
        (first | (apply Ok.fin1; (focus (cbv; done)); (focus (cbv; done))) | (apply Ok.fin2; (focus (cbv; done)); (focus (cbv; done))) | (apply Ok.fin3; (focus (cbv; done)); (focus (cbv; done))))
        all_goals rfl
    · rw [decide_eq_false hkl]
      have hke : a.drop k = [] := List.drop_eq_nil_iff.2 (by omega)
      rw [hke, budTs] at hRq
      rw [← hRq]
      repeat (first | (apply Ok.run1 hmix hA false 2000; focus (cbv; done)) | (apply Ok.one hmix hA; focus (cbv; done)) | (rw [Ar.notT hA]) | (rw [Ar.notF hA]) | (refine Ok.condT ?_ ?_; focus (cbv; done)) | (refine Ok.condF ?_ ?_; focus (cbv; done)) | (refine Ok.drawnE (by as_aux_lemma => kernel_rfl) ?_))
      refine Ok.leave ?_
      repeat (first | (apply Ok.run1 hmix hA false 2000; focus (cbv; done)) | (apply Ok.one hmix hA; focus (cbv; done)) | (rw [Ar.notT hA]) | (rw [Ar.notF hA]) | (refine Ok.condT ?_ ?_; focus (cbv; done)) | (refine Ok.condF ?_ ?_; focus (cbv; done)) | (refine Ok.drawnE (by as_aux_lemma => kernel_rfl) ?_))
      (first | (apply Ok.fin1; (focus (cbv; done)); (focus (cbv; done))) | (apply Ok.fin2; (focus (cbv; done)); (focus (cbv; done))) | (apply Ok.fin3; (focus (cbv; done)); (focus (cbv; done))))
      all_goals rfl
theorem law1_Few {E : Enc} (hE : E = .std) (t : Ty) : CallsV Try.prog 15 [E.tyc t] (.pv (.bool (decide (0 < budT t 12 300)))) [] := by
  obtain ⟨A, hA⟩ : ∃ A : Ar, A = .std := ⟨_, rfl⟩
  have c : CallsV Try.prog 52 [E.tyc t, .int .i64 12, .int .i64 300] (.pv (.int .i64 (Int.ofNat (budT t 12 300)))) [] := law1_budget hE _ t 12 300 (Nat.le_refl _) (by omega) (by omega)
  generalize budT t 12 300 = q at c ⊢
  have e4 : A .lt 0 (Int.ofNat q) = decide (0 < q) := ofNat_lt hA 0 q
  obtain ⟨r, hr⟩ : ∃ r, r = decide (0 < q) := ⟨_, rfl⟩
  rw [← hr] at e4 ⊢
  obtain ⟨tk, tl⟩ := t
  refine CallsV.ok (fn := Try.f15) (by kernel_rfl) (by kernel_rfl) rfl (by cbv) (by cbv) ?_
  repeat (first | (apply Ok.run1 hmix hA false 2000; focus (cbv; done)) | (apply Ok.one hmix hA; focus (cbv; done)) | (rw [Ar.notT hA]) | (rw [Ar.notF hA]) | (refine Ok.condT ?_ ?_; focus (cbv; done)) | (refine Ok.condF ?_ ?_; focus (cbv; done)) | (refine Ok.drawnE (by as_aux_lemma => kernel_rfl) ?_) | (apply Ok.call (c); (focus (cbv; done)); (focus (cbv; done)); (focus (cbv; done))) | (apply Ok.dcall (c); (focus (cbv; done)); (focus (cbv; done)); (focus (cbv; done))))
  rw [e4]
  repeat (first | (apply Ok.run1 hmix hA false 2000; focus (cbv; done)) | (apply Ok.one hmix hA; focus (cbv; done)) | (rw [Ar.notT hA]) | (rw [Ar.notF hA]) | (refine Ok.condT ?_ ?_; focus (cbv; done)) | (refine Ok.condF ?_ ?_; focus (cbv; done)) | (refine Ok.drawnE (by as_aux_lemma => kernel_rfl) ?_))
  (first | (apply Ok.fin1; (focus (cbv; done)); (focus (cbv; done))) | (apply Ok.fin2; (focus (cbv; done)); (focus (cbv; done))) | (apply Ok.fin3; (focus (cbv; done)); (focus (cbv; done))))
  all_goals rfl
end Go.Proofs.Ytnojmocoifodjaa.Pv
set_option linter.unusedVariables false
set_option linter.unusedSimpArgs false
namespace Go.Proofs.Ytnojmocoifodjaa.Pv
open Go
/-! ### The reference's expressions and operators: plain laws -/
def noughtV (v : Vl) : Bool := decide (v.kind = 0) && (decide (v.i = 0) && (!v.b && (decide (v.s = []) && decide (v.t.length = 0))))
def oNeg : List UInt8 := [110, 101, 103]
def oAdd : List UInt8 := [97, 100, 100]
def oNot : List UInt8 := [110, 111, 116]
def oLen : List UInt8 := [108, 101, 110]
def oSub : List UInt8 := [115, 117, 98]
def oMul : List UInt8 := [109, 117, 108]
def oDiv : List UInt8 := [100, 105, 118]
def oRem : List UInt8 := [114, 101, 109]
def oEq : List UInt8 := [101, 113]
def oLt : List UInt8 := [108, 116]
def oAnd : List UInt8 := [97, 110, 100]
def oOr : List UInt8 := [111, 114]
def oCat : List UInt8 := [99, 97, 116]
def arR (op : List UInt8) : Int :=
  if op = oLit ∨ op = oX then 0
  else if op = oAt ∨ op = oNeg ∨ op = oNot ∨ op = oLen then 1
  else if op = oAdd ∨ op = oSub ∨ op = oMul ∨ op = oDiv ∨ op = oRem ∨ op = oEq ∨ op = oLt ∨ op = oAnd ∨ op = oOr ∨ op = oCat then 2
  else if op = oIf then 3
  else if op = oTup then -1 else -2
def kindsR (op : List UInt8) : Int × Int :=
  if op = oNeg ∨ op = oAdd ∨ op = oSub ∨ op = oMul ∨ op = oDiv ∨ op = oRem then (1, 1)
  else if op = oNot ∨ op = oAnd ∨ op = oOr then (2, 2)
  else if op = oCat then (3, 3)
  else if op = oLen then (3, 1) else (0, 0)
def opR (op : List UInt8) (n : Int) (l : List Ty) : Ty × Int :=
  if op = oAt then (if (l.getD 0 .zero).kind ≠ 4 then (.zero, 5) else if n < 0 ∨ ((l.getD 0 .zero).of.length : Int) ≤ n then (.zero, 1) else ((l.getD 0 .zero).of.getD n.toNat .zero, 0))
  else if op = oTup then (if ckT ⟨4, l⟩ 0 ≠ 0 then (.zero, 9) else (⟨4, l⟩, 0))
  else if op = oEq ∨ op = oLt then (if sameT (l.getD 0 .zero) (l.getD 1 .zero) = false then (.zero, 5) else (⟨2, []⟩, 0))
  else if op = oIf then (if (l.getD 0 .zero).kind ≠ 2 ∨ sameT (l.getD 1 .zero) (l.getD 2 .zero) = false then (.zero, 5) else (l.getD 1 .zero, 0))
  else if l.all (fun t => decide (t.kind = (kindsR op).1)) = false then (.zero, 5) else (⟨(kindsR op).2, []⟩, 0)
def badAr (op : List UInt8) (v : Vl) (n : Int) (la : Nat) : Bool :=
  (decide (0 ≤ arR op) && decide ((la : Int) ≠ arR op) || decide (arR op < 0) && (decide (la < 1) || decide (8 < la)))
def badFl (op : List UInt8) (v : Vl) (n : Int) : Bool := (decide (op ≠ oAt) && decide (n ≠ 0) || decide (op ≠ oLit) && !noughtV v)
mutual
def chkR : Ex4 → Ty → Nat → Ty × Int
  | .mk op v n a, tin, d => if arR op = -2 then (.zero, 6) else if 12 < d then (.zero, 9) else if badAr op v n a.length = true then (.zero, 1) else if badFl op v n = true then (.zero, 1)
    else if op = oLit then (if ckV v 0 ≠ 0 then (.zero, ckV v 0) else (typV v, 0))
    else if op = oX then (tin, 0)
    else if (chkRs a tin (d + 1)).2 ≠ 0 then (.zero, (chkRs a tin (d + 1)).2) else opR op n (chkRs a tin (d + 1)).1
def chkRs : List Ex4 → Ty → Nat → List Ty × Int
  | [], _, _ => ([], 0)
  | x :: l, tin, d => if (chkR x tin d).2 ≠ 0 then ([], (chkR x tin d).2) else ((chkR x tin d).1 :: (chkRs l tin d).1, (chkRs l tin d).2)
end
def chkRTop (e : Ex4) (tin : Ty) : Ty × Int := if ckT tin 0 ≠ 0 then (.zero, 5) else if 256 < sizX e then (.zero, 10) else chkR e tin 0
/-! operators -/
def nameB (c : UInt8) : Bool := !(decide (c < 97) || decide (122 < c)) || (!(decide (c < 48) || decide (57 < c)) || decide (c = 95))
def goodN (s : List UInt8) : Bool := !(decide (s.length < 1) || (decide (16 < s.length) || (decide (s.headD 0 < 97) || decide (122 < s.headD 0)))) && s.all nameB
def bareX (e : Ex4) : Bool := decide (e.op = []) && (noughtV e.v && (decide (e.n = 0) && decide (e.a.length = 0)))
def keyedK (k : Int) : Bool := decide (k = 5) || (decide (k = 6) || decide (k = 7))
def fieldsR (o : Opn) : Bool :=
  if !(decide (o.kind = 1) || decide (o.kind = 9)) && decide (o.name ≠ []) then true
  else if decide (o.kind ≠ 1) && (decide (o.ty.kind ≠ 0) || decide (0 < o.ty.of.length)) then true
  else if (if o.kind = 2 ∨ o.kind = 3 ∨ o.kind = 5 then decide (o.e.length < 1) || decide (1 < o.e.length) else if o.kind = 4 then decide (o.e.length < 1) || decide (4 < o.e.length) else decide (0 < o.e.length)) then true
  else if !keyedK o.kind && !bareX o.key then true
  else if decide (o.kind = 5) && (decide (o.fold < 1) || decide (4 < o.fold)) || decide (o.kind ≠ 5) && decide (o.fold ≠ 0) then true
  else decide (o.kind = 6) && (decide (o.n < 1) || decide (1000 < o.n)) || decide (o.kind ≠ 6) && decide (o.n ≠ 0)
def insR (k : Int) (n : Nat) : Bool := if k = 1 then decide (n = 0) else if k = 8 then decide (2 ≤ n) && decide (n ≤ 4) else decide (n = 1)
def esR : List Ex4 → Ty → List Ty × Int
  | [], _ => ([], 0)
  | x :: l, t => if (chkRTop x t).2 ≠ 0 then ([], (chkRTop x t).2) else ((chkRTop x t).1 :: (esR l t).1, (esR l t).2)
def pairT (k : Ty) : Ty := ⟨4, [k, ⟨1, []⟩]⟩
def madeR (o : Opn) (l : List Ty) (key : Ty) (of : List Ty) : Ty × Int :=
  if o.kind = 2 then (of.getD 0 .zero, 0)
  else if o.kind = 3 then (if (of.getD 0 .zero).kind ≠ 2 then (.zero, 5) else (l.getD 0 .zero, 0))
  else if o.kind = 4 then (if (of.drop 1).all (fun t => sameT t (of.getD 0 .zero)) = false then (.zero, 5) else (of.getD 0 .zero, 0))
  else if o.kind = 5 ∨ o.kind = 6 then (if o.kind = 5 ∧ (of.getD 0 .zero).kind ≠ 1 then (.zero, 5) else if ckT (pairT key) 0 ≠ 0 then (.zero, ckT (pairT key) 0) else (pairT key, 0))
  else if o.kind = 7 then (key, 0)
  else if o.kind = 8 then (if (l.drop 1).all (fun t => sameT t (l.getD 0 .zero)) = false then (.zero, 5) else (l.getD 0 .zero, 0))
  else (l.getD 0 .zero, 0)
def outR (o : Opn) (l : List Ty) : Ty × Int :=
  if o.kind < 1 ∨ 9 < o.kind then (.zero, 6)
  else if (o.kind = 1 ∨ o.kind = 9) ∧ goodN o.name = false then (.zero, 6)
  else if fieldsR o = true ∨ insR o.kind l.length = false then (.zero, 1)
  else if l.all (fun t => decide (ckT t 0 = 0)) = false then (.zero, 5)
  else if o.kind = 1 then (if ckT o.ty 0 ≠ 0 then (.zero, 5) else (o.ty, 0))
  else if keyedK o.kind = true ∧ (chkRTop o.key (l.getD 0 .zero)).2 ≠ 0 then (.zero, (chkRTop o.key (l.getD 0 .zero)).2)
  else if (esR o.e (l.getD 0 .zero)).2 ≠ 0 then (.zero, (esR o.e (l.getD 0 .zero)).2)
  else madeR o l (if keyedK o.kind then (chkRTop o.key (l.getD 0 .zero)).1 else .zero) (esR o.e (l.getD 0 .zero)).1
/-! how much may be gone through -/
mutual
def budV : Vl → Nat → Nat → Nat
  | .mk k i b s t, d, m => if m = 0 ∨ d = 0 ∨ 20 < t.length ∨ 300 < s.length then 0 else budVs t (d - 1) (m - 1)
def budVs : List Vl → Nat → Nat → Nat
  | [], _, m => m
  | x :: l, d, m => if m = 0 then 0 else budVs l d (budV x d m)
end
def fewV (v : Vl) : Bool := decide (0 < budV v 12 300)
mutual
def budX : Ex4 → Nat → Nat → Nat
  | .mk op v n a, d, m => if m = 0 ∨ d = 0 ∨ 12 < a.length ∨ 20 < op.length ∨ fewV v = false then 0 else budXs a (d - 1) (m - 1)
def budXs : List Ex4 → Nat → Nat → Nat
  | [], _, m => m
  | x :: l, d, m => if m = 0 then 0 else budXs l d (budX x d m)
end
def fewX (e : Ex4) : Bool := decide (0 < budX e 20 400)
def fewT (t : Ty) : Bool := decide (0 < budT t 12 300)
def fewO (o : Opn) : Bool := decide (o.name.length ≤ 50) && (fewT o.ty && (decide (o.e.length ≤ 8) && (fewX o.key && o.e.all fewX)))
mutual
theorem budV_le : ∀ (t : Vl) (d b : Nat), budV t d b ≤ b
  | .mk k i b s l, d, m => by
    rw [budV]
    have := budVs_le l (d - 1) (m - 1)
    split <;> omega
theorem budVs_le : ∀ (l : List Vl) (d b : Nat), budVs l d b ≤ b
  | [], d, b => by rw [budVs]; exact Nat.le_refl _
  | x :: l, d, b => by
    rw [budVs]
    have := budV_le x d b
    have := budVs_le l d (budV x d b)
    split <;> omega
end
mutual
theorem budV_sz : ∀ (t : Vl) (d b : Nat), 0 < budV t d b → budV t d b + szV t ≤ b
  | .mk k i b s l, d, m => by
    rw [budV, szV]
    intro h
    have := budVs_sz l (d - 1) (m - 1)
    split at h
    · omega
    · rename_i hn
      rw [if_neg hn]
      have := this h
      omega
theorem budVs_sz : ∀ (l : List Vl) (d b : Nat), 0 < budVs l d b → budVs l d b + szVs l ≤ b
  | [], d, b => by rw [budVs, szVs]; intro; omega
  | x :: l, d, b => by
    rw [budVs, szVs]
    intro h
    split at h
    · omega
    · rename_i hn
      rw [if_neg hn]
      have h2 := budVs_sz l d (budV x d b) h
      have h1 := budV_sz x d b (by have := budVs_le l d (budV x d b); omega)
      omega
end
theorem fewV_sz {v : Vl} (h : fewV v = true) : szV v ≤ 300 := by
  have h1 : 0 < budV v 12 300 := by simpa [fewV] using h
  have := budV_sz v 12 300 h1
  omega
theorem fewT_sz {v : Ty} (h : fewT v = true) : szT v ≤ 300 := by
  have h1 : 0 < budT v 12 300 := by simpa [fewT] using h
  have := budT_sz v 12 300 h1
  omega
mutual
theorem budX_le : ∀ (t : Ex4) (d b : Nat), budX t d b ≤ b
  | .mk op v n l, d, m => by
    rw [budX]
    have := budXs_le l (d - 1) (m - 1)
    split <;> omega
theorem budXs_le : ∀ (l : List Ex4) (d b : Nat), budXs l d b ≤ b
  | [], d, b => by rw [budXs]; exact Nat.le_refl _
  | x :: l, d, b => by
    rw [budXs]
    have := budX_le x d b
    have := budXs_le l d (budX x d b)
    split <;> omega
end
mutual
theorem budX_sz : ∀ (t : Ex4) (d b : Nat), 0 < budX t d b → 310 * budX t d b + szX t ≤ 310 * b
  | .mk op v n l, d, m => by
    rw [budX, szX]
    intro h
    have := budXs_sz l (d - 1) (m - 1)
    split at h
    · omega
    · rename_i hn
      rw [if_neg hn]
      have := this h
      have hv : szV v ≤ 300 := fewV_sz (by simp only [not_or] at hn; simpa using hn.2.2.2.2)
      omega
theorem budXs_sz : ∀ (l : List Ex4) (d b : Nat), 0 < budXs l d b → 310 * budXs l d b + szXs l ≤ 310 * b
  | [], d, b => by rw [budXs, szXs]; intro; omega
  | x :: l, d, b => by
    rw [budXs, szXs]
    intro h
    split at h
    · omega
    · rename_i hn
      rw [if_neg hn]
      have h2 := budXs_sz l d (budX x d b) h
      have h1 := budX_sz x d b (by have := budXs_le l d (budX x d b); omega)
      omega
end
theorem fewX_sz {v : Ex4} (h : fewX v = true) : szX v ≤ 310 * 400 := by
  have h1 : 0 < budX v 20 400 := by simpa [fewX] using h
  have := budX_sz v 20 400 h1
  omega
mutual
theorem sizE_szX : ∀ e, sizE e ≤ 5 * szX e
  | .mk op v n a => by have := sizEs_szXs a; rw [sizE, szX]; omega
theorem sizEs_szXs : ∀ l, sizEs l ≤ 5 * szXs l
  | [] => by simp [sizEs, szXs]
  | x :: l => by have := sizE_szX x; have := sizEs_szXs l; rw [sizEs, szXs]; omega
end
mutual
theorem sizX_szX : ∀ e, sizX e ≤ szX e
  | .mk op v n a => by have := sizXs_szXs a; rw [sizX, szX]; omega
theorem sizXs_szXs : ∀ l, sizXs l ≤ szXs l
  | [] => by simp [sizXs, szXs]
  | x :: l => by have := sizX_szX x; have := sizXs_szXs l; rw [sizXs, szXs]; omega
end
mutual
theorem wX_szX (T : Nat) : ∀ e, wX e T ≤ (2 + T) * szX e
  | .mk op v n a => by
    have := wXs_szXs T a
    rw [wX, szX]
    have e1 : (2 + T) * (1 + szV v + szXs a) = (2 + T) + (2 + T) * szV v + (2 + T) * szXs a := by rw [Nat.mul_add, Nat.mul_add, Nat.mul_one]
    have h2 : szV v ≤ (2 + T) * szV v := Nat.le_mul_of_pos_left _ (by omega)
    omega
theorem wXs_szXs (T : Nat) : ∀ l, wXs l T ≤ (2 + T) * szXs l
  | [] => by simp [wXs, szXs]
  | x :: l => by have := wX_szX T x; have := wXs_szXs T l; rw [wXs, szXs, Nat.mul_add]; omega
end
theorem fewO_mem {o : Opn} (h : fewO o = true) : (∀ e, e ∈ o.e → fewX e = true) ∧ fewX o.key = true ∧ fewT o.ty = true ∧ o.e.length ≤ 8 ∧ o.name.length ≤ 50 := by
  simp only [fewO, Bool.and_eq_true, decide_eq_true_eq, List.all_eq_true] at h
  exact ⟨h.2.2.2.2, h.2.2.2.1, h.2.1, h.2.2.1, h.1⟩
/-! what is right of the reference is what the generator wants -/
theorem arR_wf {op : List UInt8} {v : Vl} {n : Int} {la : Nat} (h1 : ¬ arR op = -2) (h2 : ¬ badAr op v n la = true) : arity op ≤ la ∧ (op = bAt → la = 1) ∧ ¬ (op = bJmp ∨ op = bJf) := by
  by_cases hop : op = oLit ∨ op = oX ∨ op = oAt ∨ op = oNeg ∨ op = oNot ∨ op = oLen ∨ op = oAdd ∨ op = oSub ∨ op = oMul ∨ op = oDiv ∨ op = oRem ∨ op = oEq ∨ op = oLt ∨ op = oAnd ∨ op = oOr ∨ op = oCat ∨ op = oIf ∨ op = oTup
  · rcases hop with rfl | rfl | rfl | rfl | rfl | rfl | rfl | rfl | rfl | rfl | rfl | rfl | rfl | rfl | rfl | rfl | rfl | rfl
    all_goals
      refine ⟨?_, ?_, by decide⟩
      · simp [badAr, arR, arity, oLit, oX, oAt, oNeg, oNot, oLen, oAdd, oSub, oMul, oDiv, oRem, oEq, oLt, oAnd, oOr, oCat, oIf, oTup, bAt, bAnd, bOr, bIf] at h2 ⊢
        try omega
      · intro hat
        simp [badAr, arR, oLit, oX, oAt, oNeg, oNot, oLen, oAdd, oSub, oMul, oDiv, oRem, oEq, oLt, oAnd, oOr, oCat, oIf, oTup, bAt] at h2 hat
        try omega
  · exfalso
    apply h1
    simp only [not_or] at hop
    simp [arR, hop]
mutual
theorem chkR_wf : ∀ (e : Ex4) (tin : Ty) (d : Nat), (chkR e tin d).2 = 0 → wfE e ∧ atE e
  | .mk op v n a, tin, d, h => by
    rw [chkR] at h
    split at h
    · cases h
    rename_i h1
    split at h
    · cases h
    split at h
    · cases h
    rename_i h3
    split at h
    · cases h
    have h4 := arR_wf h1 h3
    have ha : wfEs a ∧ atEs a := by
      split at h
      · rename_i hl
        have : a.length = 0 := by simp [badAr, arR, hl, oLit] at h3; simpa using h3
        have := List.eq_nil_of_length_eq_zero this
        subst this
        exact ⟨trivial, trivial⟩
      split at h
      · rename_i hl
        have : a.length = 0 := by simp [badAr, arR, hl, oX] at h3; simpa using h3
        have := List.eq_nil_of_length_eq_zero this
        subst this
        exact ⟨trivial, trivial⟩
      split at h
      · rename_i hne; exact absurd h hne
      · rename_i hne
        exact chkRs_wf a tin (d + 1) (by simpa using hne)
    exact ⟨⟨h4.1, ha.1⟩, h4.2.1, h4.2.2, ha.2⟩
theorem chkRs_wf : ∀ (l : List Ex4) (tin : Ty) (d : Nat), (chkRs l tin d).2 = 0 → wfEs l ∧ atEs l
  | [], _, _, _ => ⟨trivial, trivial⟩
  | x :: l, tin, d, h => by
    rw [chkRs] at h
    split at h
    · rename_i hne; exact absurd h hne
    · rename_i hne
      have h1 := chkR_wf x tin d (by simpa using hne)
      have h2 := chkRs_wf l tin d h
      exact ⟨⟨h1.1, h2.1⟩, h1.2, h2.2⟩
end
theorem chkRTop_wf {e : Ex4} {t : Ty} (h : (chkRTop e t).2 = 0) : wfE e ∧ atE e := by
  unfold chkRTop at h
  split at h
  · cases h
  split at h
  · cases h
  · exact chkR_wf e t 0 h
theorem esR_wf : ∀ {l : List Ex4} {t : Ty}, (esR l t).2 = 0 → wfEs l ∧ atEs l ∧ (esR l t).1.length = l.length
  | [], _, _ => ⟨trivial, trivial, rfl⟩
  | x :: l, t, h => by
    rw [esR] at h ⊢
    split at h
    · rename_i hne; exact absurd h hne
    · rename_i hne
      have h1 := chkRTop_wf (e := x) (t := t) (by simpa using hne)
      have h2 := esR_wf (l := l) (t := t) h
      rw [if_neg hne]
      exact ⟨⟨h1.1, h2.1⟩, ⟨h1.2, h2.2.1⟩, by simp [h2.2.2]⟩
end Go.Proofs.Ytnojmocoifodjaa.Pv
set_option linter.unusedVariables false
set_option linter.unusedSimpArgs false
namespace Go.Proofs.Ytnojmocoifodjaa.Pv
open Go
/-! ### What expressions come to: plain laws -/
def w64 (z : Int) : Int := IntKind.wrap .i64 z
def vStr (s : List UInt8) : Vl := ⟨3, 0, false, s, []⟩
def mkX (op : List UInt8) (n : Int) (l : List Vl) : Vl × Int :=
  if op = oAt then ((l.getD 0 .zero).t.getD n.toNat .zero, 0)
  else if op = oTup then (⟨4, 0, false, [], l⟩, 0)
  else if op = oNeg then (vInt (w64 (0 - (l.getD 0 .zero).i)), 0)
  else if op = oNot then (vBool (!(l.getD 0 .zero).b), 0)
  else if op = oLen then (vInt (l.getD 0 .zero).s.length, 0)
  else if op = oAdd then (vInt (w64 ((l.getD 0 .zero).i + (l.getD 1 .zero).i)), 0)
  else if op = oSub then (vInt (w64 ((l.getD 0 .zero).i - (l.getD 1 .zero).i)), 0)
  else if op = oMul then (vInt (w64 ((l.getD 0 .zero).i * (l.getD 1 .zero).i)), 0)
  else if op = oDiv then (if (l.getD 1 .zero).i = 0 then (.zero, 8) else (vInt (w64 ((l.getD 0 .zero).i.tdiv (l.getD 1 .zero).i)), 0))
  else if op = oRem then (if (l.getD 1 .zero).i = 0 then (.zero, 8) else (vInt ((l.getD 0 .zero).i.tmod (l.getD 1 .zero).i), 0))
  else if op = oEq then (vBool (decide (cmpV (l.getD 0 .zero) (l.getD 1 .zero) = 0)), 0)
  else if op = oLt then (vBool (decide (cmpV (l.getD 0 .zero) (l.getD 1 .zero) < 0)), 0)
  else (if 255 < (l.getD 0 .zero).s.length + (l.getD 1 .zero).s.length then (.zero, 4) else (vStr ((l.getD 0 .zero).s ++ (l.getD 1 .zero).s), 0))
def seqR : List (Vl × Int) → List Vl × Int
  | [] => ([], 0)
  | r :: l => if r.2 ≠ 0 then ([], r.2) else if (seqR l).2 ≠ 0 then ([], (seqR l).2) else (r.1 :: (seqR l).1, 0)
def rz : Vl × Int := (.zero, 0)
mutual
def evX : Ex4 → Vl → Vl × Int
  | .mk op v n a, x => if op = oLit then (v, 0) else if op = oX then (x, 0)
    else if op = oAnd then (if ((evAll a x).getD 0 rz).2 ≠ 0 then (.zero, ((evAll a x).getD 0 rz).2) else if ((evAll a x).getD 0 rz).1.b then (evAll a x).getD 1 rz else (evAll a x).getD 0 rz)
    else if op = oOr then (if ((evAll a x).getD 0 rz).2 ≠ 0 then (.zero, ((evAll a x).getD 0 rz).2) else if ((evAll a x).getD 0 rz).1.b then (evAll a x).getD 0 rz else (evAll a x).getD 1 rz)
    else if op = oIf then (if ((evAll a x).getD 0 rz).2 ≠ 0 then (.zero, ((evAll a x).getD 0 rz).2) else if ((evAll a x).getD 0 rz).1.b then (evAll a x).getD 1 rz else (evAll a x).getD 2 rz)
    else if (seqR (evAll a x)).2 ≠ 0 then (.zero, (seqR (evAll a x)).2) else mkX op n (seqR (evAll a x)).1
def evAll : List Ex4 → Vl → List (Vl × Int)
  | [], _ => []
  | e :: l, x => evX e x :: evAll l x
end
theorem evAll_eq (x : Vl) : ∀ l, evAll l x = l.map fun e => evX e x
  | [] => rfl
  | e :: l => by rw [evAll, evAll_eq x l, List.map_cons]
/-! strings of values are short -/
mutual
def strB : Vl → Prop
  | .mk k i b s t => s.length ≤ 300 ∧ strBs t
def strBs : List Vl → Prop
  | [] => True
  | x :: l => strB x ∧ strBs l
end
theorem strBs_mem : ∀ {l : List Vl} {e : Vl}, strBs l → e ∈ l → strB e
  | [], e, h, he => by simp at he
  | x :: l, e, h, he => by
    rcases List.mem_cons.1 he with rfl | he
    · exact h.1
    · exact strBs_mem h.2 he
theorem strBs_of : ∀ {l : List Vl}, (∀ e, e ∈ l → strB e) → strBs l
  | [], _ => trivial
  | x :: l, h => ⟨h x (by simp), strBs_of (fun e he => h e (by simp [he]))⟩
mutual
theorem ckV_str : ∀ (v : Vl) (d : Nat), ckV v d = 0 → strB v
  | .mk k i b s t, d, h => by
    rw [ckV] at h
    split at h
    · cases h
    split at h
    · cases h
    split at h
    · cases h
    rename_i hk hsp hs
    refine ⟨by omega, ?_⟩
    split at h
    · rename_i hk4
      have : t = [] := by
        simp only [spareV, Bool.or_eq_true, decide_eq_true_eq, Bool.and_eq_true, not_or] at hsp
        have h4 := hsp.2
        have : ¬ 0 < t.length := fun hl => h4 ⟨hk4, hl⟩
        exact List.eq_nil_of_length_eq_zero (by omega)
      subst this
      trivial
    split at h
    · rename_i hr; exact absurd h hr
    · exact ckVs_str t (d + 1) h
theorem ckVs_str : ∀ (l : List Vl) (d : Nat), ckVs l d = 0 → strBs l
  | [], d, h => trivial
  | x :: l, d, h => by
    rw [ckVs] at h
    split at h
    · rename_i hr; exact absurd h hr
    · rename_i hr
      exact ⟨ckV_str x d (by simpa using hr), ckVs_str l d h⟩
end
theorem strB_zero : strB .zero := ⟨by simp, trivial⟩
theorem strB_getD {l : List Vl} (h : strBs l) (i : Nat) : strB (l.getD i .zero) := by
  by_cases hi : i < l.length
  · have : l.getD i .zero = l[i] := by simp [List.getD, hi]
    rw [this]; exact strBs_mem h (List.getElem_mem hi)
  · have : l.getD i .zero = .zero := by simp [List.getD, List.getElem?_eq_none (by omega : l.length ≤ i)]
    rw [this]; exact strB_zero
theorem strB_t {v : Vl} (h : strB v) : strBs v.t := by cases v; exact h.2
theorem strB_s {v : Vl} (h : strB v) : v.s.length ≤ 300 := by cases v; exact h.1
theorem szV_getD (l : List Vl) (i : Nat) : szV (l.getD i .zero) ≤ szVs l + 1 := by
  by_cases hi : i < l.length
  · have : l.getD i .zero = l[i] := by simp [List.getD, hi]
    rw [this]
    have := szVs_mem (List.getElem_mem hi)
    omega
  · have : l.getD i .zero = .zero := by simp [List.getD, List.getElem?_eq_none (by omega : l.length ≤ i)]
    rw [this]
    simp [Vl.zero, szV, szVs]
theorem szV_pos (v : Vl) : 1 ≤ szV v := by cases v; rw [szV]; omega
theorem szV_t (v : Vl) : szVs v.t + 1 = szV v := by cases v; simp only [szV]; omega
/-! an expression that is right: what it makes is of the type told -/
theorem seqR_len : ∀ (l : List (Vl × Int)), (seqR l).2 = 0 → (seqR l).1 = l.map (·.1) ∧ ∀ r, r ∈ l → r.2 = 0
  | [], _ => ⟨rfl, fun r h => by simp at h⟩
  | r :: l, h => by
    rw [seqR] at h ⊢
    split at h
    · rename_i hr; exact absurd h hr
    rename_i hr
    split at h
    · rename_i hr2; exact absurd h hr2
    rename_i hr2
    rw [if_neg hr, if_neg hr2]
    have := seqR_len l (by simpa using hr2)
    refine ⟨by rw [this.1]; rfl, fun q hq => ?_⟩
    rcases List.mem_cons.1 hq with rfl | hq
    · simpa using hr
    · exact this.2 q hq

theorem chkR_inv {op : List UInt8} {v : Vl} {n : Int} {a : List Ex4} {tin t : Ty} {d : Nat} (h : chkR ⟨op, v, n, a⟩ tin d = (t, 0)) :
    arR op ≠ -2 ∧ badAr op v n a.length = false ∧ badFl op v n = false ∧ d ≤ 12 ∧ ((op = oLit ∧ ckV v 0 = 0 ∧ t = typV v) ∨ (op = oX ∧ t = tin) ∨ (op ≠ oLit ∧ op ≠ oX ∧ ∃ ts, chkRs a tin (d + 1) = (ts, 0) ∧ opR op n ts = (t, 0))) := by
  rw [chkR] at h
  split at h
  · cases h
  rename_i h1
  split at h
  · cases h
  rename_i h2
  split at h
  · cases h
  rename_i h3
  split at h
  · cases h
  rename_i h4
  refine ⟨h1, by simpa using h3, by simpa using h4, by omega, ?_⟩
  split at h
  · rename_i hl
    split at h
    · rename_i hv; exact absurd (Prod.mk.inj h).2 hv
    · rename_i hv
      exact .inl ⟨hl, by simpa using hv, (Prod.mk.inj h).1.symm⟩
  rename_i hl
  split at h
  · rename_i hx; exact .inr (.inl ⟨hx, (Prod.mk.inj h).1.symm⟩)
  rename_i hx
  split at h
  · rename_i hr; exact absurd (Prod.mk.inj h).2 hr
  · rename_i hr
    exact .inr (.inr ⟨hl, hx, (chkRs a tin (d + 1)).1, by ext1 <;> simp_all, h⟩)
theorem chkRs_inv : ∀ {l : List Ex4} {tin : Ty} {d : Nat} {ts : List Ty}, chkRs l tin d = (ts, 0) → ts.length = l.length ∧ ∀ (i : Nat) (e : Ex4), l[i]? = some e → ∃ t, ts[i]? = some t ∧ chkR e tin d = (t, 0)
  | [], tin, d, ts, h => by
    rw [chkRs] at h
    cases h
    exact ⟨rfl, fun i e he => by simp at he⟩
  | x :: l, tin, d, ts, h => by
    rw [chkRs] at h
    split at h
    · rename_i hr; exact absurd (Prod.mk.inj h).2 hr
    rename_i hr
    obtain ⟨h1, h2⟩ := Prod.mk.inj h
    obtain ⟨h3, h4⟩ := chkRs_inv (l := l) (tin := tin) (d := d) (ts := (chkRs l tin d).1) (by rw [← h2])
    subst h1
    refine ⟨by simp [h3], fun i e he => ?_⟩
    cases i with
    | zero =>
      simp at he; subst he
      refine ⟨_, rfl, ?_⟩
      have : (chkR x tin d).2 = 0 := by simpa using hr
      rw [← this]
    | succ i => simpa using h4 i e (by simpa using he)
/-! types whose atoms have no parts -/
mutual
def plainT : Ty → Prop
  | .mk k l => (k ≠ 4 → l = []) ∧ plainTs l
def plainTs : List Ty → Prop
  | [] => True
  | x :: l => plainT x ∧ plainTs l
end
theorem plainTs_mem : ∀ {l : List Ty} {e : Ty}, plainTs l → e ∈ l → plainT e
  | [], e, h, he => by simp at he
  | x :: l, e, h, he => by
    rcases List.mem_cons.1 he with rfl | he
    · exact h.1
    · exact plainTs_mem h.2 he
theorem plainTs_of : ∀ {l : List Ty}, (∀ e, e ∈ l → plainT e) → plainTs l
  | [], _ => trivial
  | x :: l, h => ⟨h x (by simp), plainTs_of (fun e he => h e (by simp [he]))⟩
theorem plainT_zero : plainT .zero := ⟨fun _ => rfl, trivial⟩
theorem plainT_getD {l : List Ty} (h : plainTs l) (i : Nat) : plainT (l.getD i .zero) := by
  by_cases hi : i < l.length
  · have : l.getD i .zero = l[i] := by simp [List.getD, hi]
    rw [this]; exact plainTs_mem h (List.getElem_mem hi)
  · have : l.getD i .zero = .zero := by simp [List.getD, List.getElem?_eq_none (by omega : l.length ≤ i)]
    rw [this]; exact plainT_zero
theorem plainT_atom {t : Ty} {k : Int} (h : plainT t) (hk : t.kind = k) (h4 : k ≠ 4) : t = ⟨k, []⟩ := by
  obtain ⟨k', l⟩ := t
  simp only [] at hk
  subst hk
  rw [h.1 h4]
mutual
theorem ckT_plain : ∀ (t : Ty) (d : Nat), ckT t d = 0 → plainT t
  | .mk k l, d, h => by
    rw [ckT] at h
    split at h
    · split at h
      · cases h
      · have : l = [] := List.eq_nil_of_length_eq_zero (by omega)
        subst this
        exact ⟨fun _ => rfl, trivial⟩
    split at h
    · rename_i h4
      split at h
      · rename_i hr; exact absurd h hr
      · exact ⟨fun h => absurd h4 h, ckTs_plain l (d + 1) h⟩
    · cases h
theorem ckTs_plain : ∀ (l : List Ty) (d : Nat), ckTs l d = 0 → plainTs l
  | [], d, h => trivial
  | x :: l, d, h => by
    rw [ckTs] at h
    split at h
    · rename_i hr; exact absurd h hr
    · rename_i hr
      exact ⟨ckT_plain x d (by simpa using hr), ckTs_plain l d h⟩
end
mutual
theorem ckV_plain : ∀ (v : Vl) (d : Nat), ckV v d = 0 → plainT (typV v)
  | .mk k i b s t, d, h => by
    rw [ckV] at h
    split at h
    · cases h
    split at h
    · cases h
    split at h
    · cases h
    rename_i hk hsp hs
    rw [typV]
    split at h
    · rename_i hk4
      have : t = [] := by
        simp only [spareV, Bool.or_eq_true, decide_eq_true_eq, Bool.and_eq_true, not_or] at hsp
        have h4 := hsp.2
        have : ¬ 0 < t.length := fun hl => h4 ⟨hk4, hl⟩
        exact List.eq_nil_of_length_eq_zero (by omega)
      subst this
      exact ⟨fun _ => rfl, trivial⟩
    rename_i hk4
    split at h
    · rename_i hr; exact absurd h hr
    · exact ⟨fun h => absurd h hk4, ckVs_plain t (d + 1) h⟩
theorem ckVs_plain : ∀ (l : List Vl) (d : Nat), ckVs l d = 0 → plainTs (typVs l)
  | [], d, h => trivial
  | x :: l, d, h => by
    rw [ckVs] at h
    split at h
    · rename_i hr; exact absurd h hr
    · rename_i hr
      exact ⟨ckV_plain x d (by simpa using hr), ckVs_plain l d h⟩
end
theorem plainT_of {t : Ty} (h : plainT t) : plainTs t.of := by cases t; exact h.2
theorem opR_plain {op : List UInt8} {n : Int} {ts : List Ty} {t : Ty} (h : opR op n ts = (t, 0)) (hp : plainTs ts) : plainT t := by
  unfold opR at h
  split at h
  · split at h
    · cases h
    split at h
    · cases h
    · rw [← (Prod.mk.inj h).1]; exact plainT_getD (plainT_of (plainT_getD hp 0)) _
  split at h
  · split at h
    · cases h
    · rw [← (Prod.mk.inj h).1]; exact ⟨fun h => absurd rfl h, hp⟩
  split at h
  · split at h
    · cases h
    · rw [← (Prod.mk.inj h).1]; exact ⟨fun _ => rfl, trivial⟩
  split at h
  · split at h
    · cases h
    · rw [← (Prod.mk.inj h).1]; exact plainT_getD hp 1
  split at h
  · cases h
  · rw [← (Prod.mk.inj h).1]; exact ⟨fun _ => rfl, trivial⟩
theorem chkR_plain : ∀ (m : Nat) (e : Ex4) (tin t : Ty) (d : Nat), SizeOf.sizeOf e ≤ m → plainT tin → chkR e tin d = (t, 0) → plainT t
  | 0, .mk op v n a, _, _, _, h, _, _ => by simp at h
  | m + 1, .mk op v n a, tin, t, d, hm, hp, h => by
    obtain ⟨_, _, _, _, h⟩ := chkR_inv h
    rcases h with ⟨_, h1, rfl⟩ | ⟨_, rfl⟩ | ⟨_, _, ts, h1, h2⟩
    · exact ckV_plain v 0 h1
    · exact hp
    · obtain ⟨h3, h4⟩ := chkRs_inv h1
      refine opR_plain h2 (plainTs_of (fun e he => ?_))
      obtain ⟨i, hi⟩ := List.getElem?_of_mem he
      have hlt : i < a.length := by have := (List.getElem?_eq_some_iff.1 hi).1; omega
      obtain ⟨t', h5, h6⟩ := h4 i _ (List.getElem?_eq_getElem hlt)
      rw [hi] at h5; cases h5
      have h7 := List.sizeOf_lt_of_mem (List.getElem_mem hlt)
      simp at hm
      exact chkR_plain m _ tin e (d + 1) (by omega) hp h6
/-! what the results are -/
structure Fit (r : Vl × Int) (t : Ty) : Prop where
  ok : r.2 = 0 → typV r.1 = t ∧ strB r.1
  no : r.2 ≠ 0 → r.1 = .zero
def opsR : List (List UInt8) := [oLit, oX, oAt, oTup, oNeg, oNot, oLen, oAdd, oSub, oMul, oDiv, oRem, oEq, oLt, oAnd, oOr, oCat, oIf]
theorem arR_mem {op : List UInt8} (h : arR op ≠ -2) : op ∈ opsR := by
  by_cases hop : op = oLit ∨ op = oX ∨ op = oAt ∨ op = oTup ∨ op = oNeg ∨ op = oNot ∨ op = oLen ∨ op = oAdd ∨ op = oSub ∨ op = oMul ∨ op = oDiv ∨ op = oRem ∨ op = oEq ∨ op = oLt ∨ op = oAnd ∨ op = oOr ∨ op = oCat ∨ op = oIf
  · simp only [opsR, List.mem_cons, List.mem_nil_iff, or_false]
    exact hop
  · exfalso
    apply h
    simp only [not_or] at hop
    simp [arR, hop]
theorem typV_kind (v : Vl) : (typV v).kind = v.kind := by cases v; rw [typV]
theorem typV_of (v : Vl) : (typV v).of = typVs v.t := by cases v; rw [typV]
theorem typVs_getD (l : List Vl) (i : Nat) (h : i < l.length) : (typVs l).getD i .zero = typV (l.getD i .zero) := by
  rw [typVs_eq]
  simp [List.getD, h]
theorem typVs_len (l : List Vl) : (typVs l).length = l.length := by rw [typVs_eq, List.length_map]
theorem typ_vInt (n : Int) : typV (vInt n) = ⟨1, []⟩ := rfl
theorem typ_vBool (n : Bool) : typV (vBool n) = ⟨2, []⟩ := rfl
theorem typ_vStr (n : List UInt8) : typV (vStr n) = ⟨3, []⟩ := rfl
theorem fit_ok {v : Vl} {t : Ty} (h : typV v = t) (hs : strB v) : Fit (v, 0) t := ⟨fun _ => ⟨h, hs⟩, fun h => absurd rfl h⟩
theorem fit_no {z : Int} {t : Ty} (h : z ≠ 0) : Fit (.zero, z) t := ⟨fun hz => absurd hz h, fun _ => rfl⟩
theorem str_vInt (n : Int) : strB (vInt n) := ⟨by simp, trivial⟩
theorem str_vBool (n : Bool) : strB (vBool n) := ⟨by simp, trivial⟩
theorem mkX_fit {op : List UInt8} {v : Vl} {n : Int} {la : Nat} {l : List Vl} {t : Ty} (h1 : arR op ≠ -2) (hb : badAr op v n la = false) (hla : l.length = la) (h2 : opR op n (typVs l) = (t, 0)) (hs : strBs l)
    (hlit : op ≠ oLit) (hx : op ≠ oX) (ha : op ≠ oAnd) (ho : op ≠ oOr) (hi : op ≠ oIf) : Fit (mkX op n l) t := by
  have hm := arR_mem h1
  simp only [opsR, List.mem_cons, List.mem_nil_iff, or_false] at hm
  rcases hm with rfl | rfl | rfl | rfl | rfl | rfl | rfl | rfl | rfl | rfl | rfl | rfl | rfl | rfl | rfl | rfl | rfl | rfl
  · exact absurd rfl hlit
  · exact absurd rfl hx
  · -- at
    have hl : l.length = 1 := by simp [badAr, arR, oLit, oX, oAt] at hb; omega
    rw [show mkX oAt n l = ((l.getD 0 .zero).t.getD n.toNat .zero, 0) from rfl]
    simp only [opR, if_pos] at h2
    rw [typVs_getD l 0 (by omega), typV_kind, typV_of] at h2
    split at h2
    · cases h2
    split at h2
    · cases h2
    rename_i h4 h5
    have hlt : n.toNat < (l.getD 0 .zero).t.length := by rw [typVs_len] at h5; omega
    rw [typVs_getD _ _ hlt] at h2
    exact fit_ok (Prod.mk.inj h2).1 (strB_getD (strB_t (strB_getD hs 0)) _)
  · -- tup
    rw [show mkX oTup n l = (⟨4, 0, false, [], l⟩, 0) from rfl]
    have : opR oTup n (typVs l) = if ckT ⟨4, typVs l⟩ 0 ≠ 0 then (.zero, 9) else (⟨4, typVs l⟩, 0) := rfl
    rw [this] at h2
    split at h2
    · cases h2
    · exact fit_ok (by rw [typV]; exact (Prod.mk.inj h2).1) ⟨by simp, hs⟩
  all_goals first
    | exact absurd rfl ha
    | exact absurd rfl ho
    | exact absurd rfl hi
    | skip
  all_goals
    unfold opR at h2
    rw [if_neg (by decide), if_neg (by decide)] at h2
    first
    | (rw [if_neg (by decide), if_neg (by decide)] at h2)
    | (rw [if_pos (by decide)] at h2)
    split at h2
    · cases h2
    have ht := (Prod.mk.inj h2).1
    subst ht
  · exact fit_ok rfl (str_vInt _)
  · exact fit_ok rfl (str_vBool _)
  · exact fit_ok rfl (str_vInt _)
  · exact fit_ok rfl (str_vInt _)
  · exact fit_ok rfl (str_vInt _)
  · exact fit_ok rfl (str_vInt _)
  · show Fit (if (l.getD 1 .zero).i = 0 then _ else _) _
    split
    · exact fit_no (by decide)
    · exact fit_ok rfl (str_vInt _)
  · show Fit (if (l.getD 1 .zero).i = 0 then _ else _) _
    split
    · exact fit_no (by decide)
    · exact fit_ok rfl (str_vInt _)
  · exact fit_ok rfl (str_vBool _)
  · exact fit_ok rfl (str_vBool _)
  · show Fit (if 255 < (l.getD 0 .zero).s.length + (l.getD 1 .zero).s.length then _ else _) _
    split
    · exact fit_no (by decide)
    · exact fit_ok rfl ⟨by rw [List.length_append]; omega, trivial⟩

theorem getD_of {α : Type} {l : List α} {i : Nat} {x d : α} (h : l[i]? = some x) : l.getD i d = x := by simp [List.getD, h]
theorem list_eq_typVs : ∀ {rs : List (Vl × Int)} {ts : List Ty}, rs.length = ts.length → (∀ (i : Nat) (r : Vl × Int) (t : Ty), rs[i]? = some r → ts[i]? = some t → typV r.1 = t) → typVs (rs.map (·.1)) = ts
  | [], [], _, _ => rfl
  | [], _ :: _, h, _ => by simp at h
  | _ :: _, [], h, _ => by simp at h
  | r :: rs, t :: ts, h, hh => by
    rw [List.map_cons, typVs, hh 0 r t rfl rfl, list_eq_typVs (by simpa using h) (fun i a b ha hb => hh (i + 1) a b (by simpa using ha) (by simpa using hb))]
theorem Fit.cast {r : Vl × Int} {t t' : Ty} (h : Fit r t) (e : t = t') : Fit r t' := e ▸ h
theorem evX_fit : ∀ (m : Nat) (e : Ex4) (x : Vl) (t : Ty) (d : Nat), SizeOf.sizeOf e ≤ m → plainT (typV x) → strB x → chkR e (typV x) d = (t, 0) → Fit (evX e x) t
  | 0, .mk op v n a, _, _, _, h, _, _, _ => by simp at h
  | m + 1, .mk op v n a, x, t, d, hm, hp, hs, h => by
    obtain ⟨g1, g2, g3, g4, h⟩ := chkR_inv h
    rw [evX]
    rcases h with ⟨rfl, h1, rfl⟩ | ⟨rfl, rfl⟩ | ⟨n1, n2, ts, h1, h2⟩
    · rw [if_pos rfl]; exact fit_ok rfl (ckV_str v 0 h1)
    · rw [if_neg (by decide), if_pos rfl]; exact fit_ok rfl hs
    · rw [if_neg n1, if_neg n2]
      obtain ⟨h3, h4⟩ := chkRs_inv h1
      have hpt : plainTs ts := plainTs_of (fun e he => by
        obtain ⟨i, hi⟩ := List.getElem?_of_mem he
        have hlt : i < a.length := by have := (List.getElem?_eq_some_iff.1 hi).1; omega
        obtain ⟨t', h5, h6⟩ := h4 i _ (List.getElem?_eq_getElem hlt)
        rw [hi] at h5; cases h5
        exact chkR_plain _ _ _ _ _ (Nat.le_refl _) hp h6)
      have hlen : (evAll a x).length = a.length := by rw [evAll_eq, List.length_map]
      have hfit : ∀ (i : Nat) (r : Vl × Int) (t' : Ty), (evAll a x)[i]? = some r → ts[i]? = some t' → Fit r t' := by
        intro i r t' hr ht'
        rw [evAll_eq, List.getElem?_map] at hr
        obtain ⟨e, he, rfl⟩ := Option.map_eq_some_iff.1 hr
        obtain ⟨t2, h5, h6⟩ := h4 i e he
        rw [ht'] at h5; cases h5
        have h7 := List.sizeOf_lt_of_mem (List.mem_of_getElem? he)
        simp at hm
        exact evX_fit m e x t' (d + 1) (by omega) hp hs h6
      have hfitD : ∀ i, i < a.length → Fit ((evAll a x).getD i rz) (ts.getD i .zero) := fun i hi => by
        have e1 : (evAll a x)[i]? = some ((evAll a x)[i]'(by omega)) := List.getElem?_eq_getElem (by omega)
        have e2 : ts[i]? = some (ts[i]'(by omega)) := List.getElem?_eq_getElem (by omega)
        rw [getD_of e1, getD_of e2]
        exact hfit i _ _ e1 e2
      have hbool : ∀ i, i < a.length → (ts.getD i .zero).kind = 2 → ts.getD i .zero = ⟨2, []⟩ := fun i hi hk => plainT_atom (plainT_getD hpt i) hk (by decide)
      by_cases hAnd : op = oAnd
      · subst hAnd
        have hl : a.length = 2 := by simp [badAr, arR, oLit, oX, oAt, oNeg, oNot, oLen, oAdd, oSub, oMul, oDiv, oRem, oEq, oLt, oAnd] at g2; omega
        unfold opR at h2
        rw [if_neg (by decide), if_neg (by decide), if_neg (by decide), if_neg (by decide)] at h2
        split at h2
        · cases h2
        rename_i hall
        have hall' : ∀ i, i < a.length → ts.getD i .zero = ⟨2, []⟩ := fun i hi => by
          refine hbool i hi ?_
          have e2 : ts[i]? = some (ts[i]'(by omega)) := List.getElem?_eq_getElem (by omega)
          rw [getD_of e2]
          have : ts.all (fun t => decide (t.kind = (kindsR oAnd).1)) = true := by simpa using hall
          have := List.all_eq_true.1 this _ (List.getElem_mem (show i < ts.length by omega))
          simpa [kindsR, oAnd, oNeg, oAdd, oSub, oMul, oDiv, oRem, oNot] using this
        have ht : (⟨2, []⟩ : Ty) = t := (Prod.mk.inj h2).1
        have f0 := (hfitD 0 (by omega)).cast ((hall' 0 (by omega)).trans ht)
        have f1 := (hfitD 1 (by omega)).cast ((hall' 1 (by omega)).trans ht)
        rw [if_pos rfl]
        split
        · rename_i hne; exact fit_no hne
        · split
          · exact f1
          · exact f0
      rw [if_neg hAnd]
      by_cases hOr : op = oOr
      · subst hOr
        have hl : a.length = 2 := by simp [badAr, arR, oLit, oX, oAt, oNeg, oNot, oLen, oAdd, oSub, oMul, oDiv, oRem, oEq, oLt, oAnd, oOr] at g2; omega
        unfold opR at h2
        rw [if_neg (by decide), if_neg (by decide), if_neg (by decide), if_neg (by decide)] at h2
        split at h2
        · cases h2
        rename_i hall
        have hall' : ∀ i, i < a.length → ts.getD i .zero = ⟨2, []⟩ := fun i hi => by
          refine hbool i hi ?_
          have e2 : ts[i]? = some (ts[i]'(by omega)) := List.getElem?_eq_getElem (by omega)
          rw [getD_of e2]
          have : ts.all (fun t => decide (t.kind = (kindsR oOr).1)) = true := by simpa using hall
          have := List.all_eq_true.1 this _ (List.getElem_mem (show i < ts.length by omega))
          simpa [kindsR, oAnd, oOr, oNeg, oAdd, oSub, oMul, oDiv, oRem, oNot] using this
        have ht : (⟨2, []⟩ : Ty) = t := (Prod.mk.inj h2).1
        have f0 := (hfitD 0 (by omega)).cast ((hall' 0 (by omega)).trans ht)
        have f1 := (hfitD 1 (by omega)).cast ((hall' 1 (by omega)).trans ht)
        rw [if_pos rfl]
        split
        · rename_i hne; exact fit_no hne
        · split
          · exact f0
          · exact f1
      rw [if_neg hOr]
      by_cases hIf : op = oIf
      · subst hIf
        have hl : a.length = 3 := by simp [badAr, arR, oLit, oX, oAt, oNeg, oNot, oLen, oAdd, oSub, oMul, oDiv, oRem, oEq, oLt, oAnd, oOr, oCat, oIf] at g2; omega
        unfold opR at h2
        rw [if_neg (by decide), if_neg (by decide), if_neg (by decide), if_pos rfl] at h2
        split at h2
        · cases h2
        rename_i hc
        rw [not_or] at hc
        have hsame : ts.getD 1 .zero = ts.getD 2 .zero := (sameT_iff _ _).1 (by simpa using hc.2)
        have ht : ts.getD 1 .zero = t := (Prod.mk.inj h2).1
        have f1 := (hfitD 1 (by omega)).cast ht
        have f2 := (hfitD 2 (by omega)).cast (hsame.symm.trans ht)
        rw [if_pos rfl]
        split
        · rename_i hne; exact fit_no hne
        · split
          · exact f1
          · exact f2
      rw [if_neg hIf]
      split
      · rename_i hne; exact fit_no hne
      · rename_i hne
        obtain ⟨e1, e2⟩ := seqR_len (evAll a x) (by simpa using hne)
        rw [e1]
        have hty : typVs ((evAll a x).map (·.1)) = ts := list_eq_typVs (by omega) (fun i r t' hr ht' => ((hfit i r t' hr ht').ok (e2 r (List.mem_of_getElem? hr))).1)
        refine mkX_fit (v := v) (la := a.length) g1 g2 (by rw [List.length_map, hlen]) (by rw [hty]; exact h2) ?_ n1 n2 hAnd hOr hIf
        refine strBs_of (fun w hw => ?_)
        obtain ⟨r, hr, rfl⟩ := List.mem_map.1 hw
        obtain ⟨i, hi⟩ := List.getElem?_of_mem hr
        have hlt : i < ts.length := by have := (List.getElem?_eq_some_iff.1 hi).1; omega
        exact ((hfit i r _ hi (List.getElem?_eq_getElem hlt)).ok (e2 r hr)).2
/-! sizes -/
theorem seqR_sz : ∀ (l : List (Vl × Int)) (B : List Nat), l.length = B.length → (∀ (i : Nat) (r : Vl × Int) (b : Nat), l[i]? = some r → B[i]? = some b → szV r.1 ≤ b) → szVs (seqR l).1 ≤ B.sum
  | [], B, _, _ => by simp [seqR, szVs]
  | r :: l, [], h, _ => by simp at h
  | r :: l, b :: B, h, hh => by
    rw [seqR]
    have h0 := hh 0 r b rfl rfl
    have h1 := seqR_sz l B (by simpa using h) (fun i a c ha hc => hh (i + 1) a c (by simpa using ha) (by simpa using hc))
    rw [List.sum_cons]
    split
    · simp [szVs]
    split
    · simp [szVs]
    · rw [szVs]; omega
theorem ite_both {α : Type} {c : Prop} [Decidable c] {a b : α} {Q : α → Prop} (h1 : Q a) (h2 : Q b) : Q (if c then a else b) := by split <;> assumption
theorem mkX_sz (op : List UInt8) (n : Int) (l : List Vl) : szV (mkX op n l).1 ≤ 1 + szVs l := by
  have zI : ∀ n, szV (vInt n) = 1 := fun n => rfl
  have zB : ∀ n, szV (vBool n) = 1 := fun n => rfl
  have zS : ∀ n, szV (vStr n) = 1 := fun n => rfl
  have z0 : szV Vl.zero = 1 := rfl
  have h1 : 1 ≤ 1 + szVs l := by omega
  have ha : szV ((l.getD 0 .zero).t.getD n.toNat .zero) ≤ 1 + szVs l := by
    have h1 := szV_getD (l.getD 0 .zero).t n.toNat
    have h2 := szV_t (l.getD 0 .zero)
    have h3 := szV_getD l 0
    omega
  have ht : szV ⟨4, 0, false, [], l⟩ ≤ 1 + szVs l := by rw [szV]; omega
  unfold mkX
  refine ite_both (Q := fun r : Vl × Int => szV r.1 ≤ 1 + szVs l) ha (ite_both (Q := fun r : Vl × Int => szV r.1 ≤ 1 + szVs l) ht ?_)
  repeat' (first | exact h1 | (refine ite_both (Q := fun r : Vl × Int => szV r.1 ≤ 1 + szVs l) ?_ ?_))
theorem sum_mul (S : Nat) : ∀ (a : List Ex4), (a.map fun e => szX e * S).sum = szXs a * S
  | [] => by simp [szXs]
  | e :: a => by rw [List.map_cons, List.sum_cons, sum_mul S a, szXs, Nat.add_mul]
theorem szX_pos (e : Ex4) : 1 ≤ szX e := by cases e; rw [szX]; omega
theorem evX_sz (x : Vl) : ∀ (m : Nat) (e : Ex4), SizeOf.sizeOf e ≤ m → szV (evX e x).1 ≤ szX e * (1 + szV x)
  | 0, .mk op v n a, h => by simp at h
  | m + 1, .mk op v n a, hm => by
    have hS : 1 ≤ 1 + szV x := by omega
    have hexp : szX ⟨op, v, n, a⟩ * (1 + szV x) = (1 + szV v) * (1 + szV x) + szXs a * (1 + szV x) := by rw [szX, Nat.add_mul]
    have hv : szV v ≤ (1 + szV v) * (1 + szV x) := by
      have := Nat.le_mul_of_pos_right (1 + szV v) (show 0 < 1 + szV x by omega)
      omega
    have hxx : 1 + szV x ≤ (1 + szV v) * (1 + szV x) := Nat.le_mul_of_pos_left _ (by omega)
    have hr : ∀ (i : Nat) (r : Vl × Int) (b : Nat), (evAll a x)[i]? = some r → (a.map fun e => szX e * (1 + szV x))[i]? = some b → szV r.1 ≤ b := by
      intro i r b h1 h2
      rw [evAll_eq, List.getElem?_map] at h1
      obtain ⟨e, he, rfl⟩ := Option.map_eq_some_iff.1 h1
      rw [List.getElem?_map, he] at h2
      cases h2
      have h7 := List.sizeOf_lt_of_mem (List.mem_of_getElem? he)
      simp at hm
      exact evX_sz x m e (by omega)
    have hD : ∀ i, szV ((evAll a x).getD i rz).1 ≤ 1 + szXs a * (1 + szV x) := by
      intro i
      by_cases hi : i < a.length
      · have e1 : (evAll a x)[i]? = some ((evAll a x)[i]'(by rw [evAll_eq, List.length_map]; omega)) := List.getElem?_eq_getElem _
        have e2 : (a.map fun e => szX e * (1 + szV x))[i]? = some (szX a[i] * (1 + szV x)) := by rw [List.getElem?_map, List.getElem?_eq_getElem hi]; rfl
        rw [getD_of e1]
        have h1 := hr i _ _ e1 e2
        have h2 := szXs_mem (List.getElem_mem hi)
        have h3 := Nat.mul_le_mul_right (1 + szV x) h2
        omega
      · have : (evAll a x).getD i rz = rz := by simp [List.getD, List.getElem?_eq_none (show (evAll a x).length ≤ i by rw [evAll_eq, List.length_map]; omega)]
        rw [this]
        show szV Vl.zero ≤ _
        have : szV Vl.zero = 1 := rfl
        omega
    have z0 : szV Vl.zero = 1 := rfl
    have d0 := hD 0
    have d1 := hD 1
    have d2 := hD 2
    have hq := seqR_sz (evAll a x) (a.map fun e => szX e * (1 + szV x)) (by rw [evAll_eq, List.length_map, List.length_map]) hr
    rw [sum_mul] at hq
    have hmk := mkX_sz op n (seqR (evAll a x)).1
    rw [evX, hexp]
    repeat' split
    all_goals first | omega | (simp only [z0]; omega)
end Go.Proofs.Ytnojmocoifodjaa.Pv
set_option linter.unusedVariables false
set_option linter.unusedSimpArgs false
namespace Go.Proofs.Ytnojmocoifodjaa.Pv
open Go
/-! ### Which slots are still read: only reckoned, nothing hangs on its being right -/
def uni (a b : List Nat) : List Nat := a ++ b.filter fun x => !a.contains x
def insLive (x : Ins) (l : List Nat) : List Nat := uni x.uses (l.filter fun n => !(x.dst.toList.contains n))
def Opd.slots : Opd → List Nat
  | .t n => [n]
  | .c _ => []
def lkp (d : List Nat) (i : Nat) : List (Nat × List Nat) → List Nat
  | [] => d
  | (j, l) :: e => if j = i then l else lkp d i e
def liveC (d r : List Nat) : C → List Nat → List (Nat × List Nat) → List Nat
  | .nop, n, _ => n
  | .ret, _, _ => r
  | .exit id, _, e => lkp d id e
  | .seq a b, n, e => liveC d r a (liveC d r b n e) e
  | .cond x a b, n, e => uni x.slots (uni (liveC d r a n e) (liveC d r b n e))
  | .blk id c, n, e => liveC d r c n ((id, n) :: e)
  | .loop c, _, e => liveC d r c (liveC d r c (liveC d r c [] e) e) e
  | .reg is, n, _ | .drw is, n, _ => is.foldr insLive n
def liveK (d r : List Nat) : List Kf → List Nat × List (Nat × List Nat)
  | [] => (d, [])
  | .seq c :: k => match liveK d r k with
    | (n, e) => (liveC d r c n e, e)
  | .blk id :: k => match liveK d r k with
    | (n, e) => (n, (id, n) :: e)
  | .lp c :: k => match liveK d r k with
    | (n, e) => (liveC d r (.loop c) n e, e)
def insSort (x : Nat) : List Nat → List Nat
  | [] => [x]
  | y :: l => if x < y then x :: y :: l else if x = y then y :: l else y :: insSort x l
def liveL (d r : List Nat) (c : C) (k : List Kf) : List Nat := match liveK d r k with
  | (_, e) => (uni (liveC d r (.loop c) [] e) d).foldr insSort []
def reachB (h : HL) : Nat → List Nat → List Nat
  | 0, l => l
  | n + 1, l => reachB h n (uni l (l.flatMap fun b => match hget h b with
    | some x => x.ids
    | none => []))
def reach (keep : List Nat) (s : Slots) (h : HL) : List Nat := reachB h 3 (uni [] (keep.flatMap fun i => (s.getD i (.pv .junk)).ids))
def rsl : List Rs → List Nat
  | [] => []
  | .tmp n :: l => n :: rsl l
  | .cell _ n :: l => n :: rsl l
def setL : List (Nat × AV) → Slots → Slots
  | [], s => s
  | (n, x) :: l, s => setL l (s.set n x)
def putL : List (Nat × Blk) → HL → HL
  | [], h => h
  | (b, x) :: l, h => putL l (hput h b x)
/-- A round has ended: the state at the loop's head again, of a lesser measure. -/
def LoopP {σ : Type} (keep kb : List Nat) (J : σ → Prop) (μ : σ → Nat) (us : σ → List (Nat × AV)) (bs : σ → List (Nat × Blk)) (s0 : Slots) (h0 : HL) (x : σ) : Slots → Heap → Prop := fun s h => ∃ m, m < μ x ∧ ∃ s' h', Le s h s' (hget h') ∧ ∃ y, J y ∧ μ y = m ∧ s' = setL (us y) s0 ∧ h' = putL (bs y) h0
section
variable {P : Program} {Q : Post}
theorem Ok.loopK {σ : Type} {c : C} {k : List Kf} {s : Slots} {h : HL} (keep kb : List Nat) (us : σ → List (Nat × AV)) (bs : σ → List (Nat × Blk)) (μ : σ → Nat) (J : σ → Prop) (x0 : σ) (hk : okKeep keep kb s h = true) (hs : setL (us x0) (dropS keep s) = dropS keep s) (hh : putL (bs x0) (keepHL kb h) = keepHL kb h) (hJ : J x0)
    (step : ∀ x, J x → Ok P (thenQ (LoopP keep kb J μ us bs (dropS keep s) (keepHL kb h) x) (kpost P k Q)) (.code c [] (setL (us x) (dropS keep s)) (putL (bs x) (keepHL kb h)))) : Ok P Q (.code (.loop c) k s h) := by
  refine Ok.loopAt keep kb (fun n s' h' => ∃ y, J y ∧ μ y = n ∧ s' = setL (us y) (dropS keep s) ∧ h' = putL (bs y) (keepHL kb h)) (μ x0) hk ⟨x0, hJ, rfl, hs.symm, hh.symm⟩ ?_
  rintro n s' h' ⟨y, hy, rfl, rfl, rfl⟩
  exact step y hy
theorem Ok.loopL {σ : Type} {rs : List Rs} {r : AV} {L : List Blk} {c : C} {k : List Kf} {s : Slots} {h : HL} {keep kb : List Nat} {s0 : Slots} {h0 : HL} (us : σ → List (Nat × AV)) (bs : σ → List (Nat × Blk)) (μ : σ → Nat) (J : σ → Prop) (x0 : σ) (hke : liveL (rsl rs) (rsl rs) c k = keep) (hkb : reach keep s h = kb) (hk : okKeep keep kb s h = true) (hs0 : dropS keep s = s0) (hh0 : keepHL kb h = h0) (hs : setL (us x0) s0 = s0) (hh : putL (bs x0) h0 = h0) (hJ : J x0)
    (step : ∀ x, J x → Ok P (thenQ (LoopP keep kb J μ us bs s0 h0 x) (kpost P k (RetQ rs r L))) (.code c [] (setL (us x) s0) (putL (bs x) h0))) : Ok P (RetQ rs r L) (.code (.loop c) k s h) := by
  subst hs0 hh0
  exact Ok.loopK keep kb us bs μ J x0 hk hs hh hJ step
/-- A loop within loops: (d): the slots that those read. -/
theorem Ok.loopN {σ : Type} {c : C} {k : List Kf} {s : Slots} {h : HL} {keep kb : List Nat} {s0 : Slots} {h0 : HL} (d : List Nat) (us : σ → List (Nat × AV)) (bs : σ → List (Nat × Blk)) (μ : σ → Nat) (J : σ → Prop) (x0 : σ) (hke : liveL d d c k = keep) (hkb : reach keep s h = kb) (hk : okKeep keep kb s h = true) (hs0 : dropS keep s = s0) (hh0 : keepHL kb h = h0) (hs : setL (us x0) s0 = s0) (hh : putL (bs x0) h0 = h0) (hJ : J x0)
    (step : ∀ x, J x → Ok P (thenQ (LoopP keep kb J μ us bs s0 h0 x) (kpost P k Q)) (.code c [] (setL (us x) s0) (putL (bs x) h0))) : Ok P Q (.code (.loop c) k s h) := by
  subst hs0 hh0
  exact Ok.loopK keep kb us bs μ J x0 hk hs hh hJ step
theorem Ok.again {σ : Type} {keep kb : List Nat} {J : σ → Prop} {μ : σ → Nat} {us : σ → List (Nat × AV)} {bs : σ → List (Nat × Blk)} {s0 : Slots} {h0 : HL} {x : σ} {K : Post} {s : Slots} {h : HL} (y : σ) (hm : μ y < μ x) (hJ : J y) (hk : okKeep keep kb s h = true) (hs : dropS keep s = setL (us y) s0) (hh : keepHL kb h = putL (bs y) h0) :
    Ok P (thenQ (LoopP keep kb J μ us bs s0 h0 x) K) (.out .normal [] s h) := ⟨_, hm, _, _, Le.keep keep kb hk, y, hJ, rfl, hs, hh⟩
/-- .. with blocks given up before. -/
theorem Ok.againLe {σ : Type} {keep kb : List Nat} {J : σ → Prop} {μ : σ → Nat} {us : σ → List (Nat × AV)} {bs : σ → List (Nat × Blk)} {s0 : Slots} {h0 : HL} {x : σ} {K : Post} {s s1 : Slots} {h h1 : HL} (hle : Le s (hget h) s1 (hget h1)) (y : σ) (hm : μ y < μ x) (hJ : J y) (hk : okKeep keep kb s1 h1 = true) (hs : dropS keep s1 = setL (us y) s0) (hh : keepHL kb h1 = putL (bs y) h0) :
    Ok P (thenQ (LoopP keep kb J μ us bs s0 h0 x) K) (.out .normal [] s h) := ⟨_, hm, _, _, hle.trans (Le.keep keep kb hk), y, hJ, rfl, hs, hh⟩
end
/-! ### Elements of lists -/
theorem atk {α : Type} (l : List α) (k : Nat) (h : k < l.length) : ∃ x, l[k]? = some x ∧ x ∈ l ∧ l.take (k + 1) = l.take k ++ [x] ∧ l.drop k = x :: l.drop (k + 1) := by
  refine ⟨l[k], List.getElem?_eq_getElem h, List.getElem_mem h, ?_, List.drop_eq_getElem_cons h⟩
  rw [List.take_add_one, List.getElem?_eq_getElem h]; rfl
theorem at_map {α β : Type} (f : α → β) {l : List α} {k : Nat} {x : α} (h : l[k]? = some x) : (l.map f)[k]? = some (f x) := by rw [List.getElem?_map, h]; rfl
theorem idx_K {d : Option Nat} {g : Option (Nat × Bool)} {af : List Nat} {sz : Nat} {x i : Opd} {s : Slots} {h : Heap} {es : List PV} {k : IntKind} {j : Nat} {e : PV} (h4 : es[j]? = some e) (hg : gd s g = .yes) (h1 : ev s x = .pv (.view es)) (h2 : ev s i = .pv (.int k (Int.ofNat j))) (h5 : e.cells.length = sz) :
    stepO ⟨d, g, af, .idx sz x i⟩ s h = some { v := .pv (.vptr e.cells) } := by
  have h4' : es[(Int.ofNat j).toNat]? = some e := h4
  have h3 : (0 : Int) ≤ Int.ofNat j := Int.natCast_nonneg j
  exact idx_viewG e hg h1 h2 h3 h4' h5
theorem sidx_K {d : Option Nat} {g : Option (Nat × Bool)} {af : List Nat} {x i : Opd} {s : Slots} {h : Heap} {es : List UInt8} {k : IntKind} {j : Nat} {e : UInt8} (h4 : es[j]? = some e) (hg : gd s g = .yes) (h1 : ev s x = .pv (.str es)) (h2 : ev s i = .pv (.int k (Int.ofNat j))) :
    stepO ⟨d, g, af, .sidx x i⟩ s h = some { v := .pv (byteP e) } := by
  have h4' : es[(Int.ofNat j).toNat]? = some e := h4
  have h3 : (0 : Int) ≤ Int.ofNat j := Int.natCast_nonneg j
  simp only [stepO, hg, sem, h1, h2, h3, h4', byteP, if_pos]
  simp [h4]
/-- An element more on a row, both veiled. -/
theorem app_K {A : Ar} (hA : A = .std) {d : Option Nat} {g : Option (Nat × Bool)} {af : List Nat} {e : TypeId} {sz bytes : Nat} {x y : Opd} {s : Slots} {h : HL} {b n : Nat} {es : List PV} {p : PV} {rs : List Nat} {m : Bool} (hn : n = es.length) (hb : n < 2 ^ 30) (hg : gd s g = .yes) (h1 : ev s x = .ref b n) (h2 : hget h b = some (.row e sz es m)) (h3 : listOf (hget h) (ev s y) = some ([p], rs)) (hbr : rs.contains b = false) (hok : PV.okc sz p = true) (hl1 : Nat.ble bytes 100000 = true) :
    stepO ⟨d, g, af, .app e sz bytes x y⟩ s (hget h) = some { v := .ref b (A .inc n), rd := b :: rs, up := [.frz rs, .row b (A .snoc es p)] } := by
  subst hA hn
  have hb1 : bytes ≤ 100000 := Nat.le_of_ble_eq_true hl1
  have hbr' : b ∉ rs := by simpa using hbr
  have hm : es.length + 1 ≤ maxLen := by unfold maxLen; omega
  have hmul : (es.length + 1) * bytes ≤ 140737488355328 := by
    have : (es.length + 1) * bytes ≤ (2 ^ 30) * 100000 := Nat.mul_le_mul (by omega) hb1
    omega
  simp [stepO, hg, sem, h1, h3, rowOf, h2, hok, hmul, hm, hbr', Ar.std]

/-! ### Laying still, where rows' lengths are no closed terms: what is left to be shown is told -/
def frz0O (h : Heap) : AV → Option (PV × List Nat × List (Nat × List PV))
  | .pv p => some (p.rlx, [], [])
  | .ref b n => match rowOf h b with
    | some (_, _, es) => some (.view es, [b], [(n, es)])
    | none => none
  | _ => none
def frzLO (f : AV → Option (PV × List Nat × List (Nat × List PV))) : List AV → Option (List PV × List Nat × List (Nat × List PV))
  | [] => some ([], [], [])
  | x :: l => match f x, frzLO f l with
    | some (p, r, o), some (ps, rs, os) => some (p :: ps, r ++ rs, o ++ os)
    | _, _ => none
def frz1O (h : Heap) : AV → Option (PV × List Nat × List (Nat × List PV))
  | .ptr b off => match boxOf h b with
    | some cs => match frzLO (frz0O h) (cs.drop off) with
      | some (ps, rs, os) => some (.vptr ps, b :: rs, os)
      | none => none
    | none => none
  | .agg cs => match frzLO (frz0O h) cs with
    | some (ps, rs, os) => some (.agg ps, rs, os)
    | none => none
  | x => frz0O h x
def frz2O (h : Heap) : AV → Option (PV × List Nat × List (Nat × List PV))
  | .fn f caps => match frzLO (frz1O h) caps with
    | some (ps, rs, os) => some (.func f ps, rs, os)
    | none => none
  | x => frz1O h x
def obsOk : List (Nat × List PV) → Prop
  | [] => True
  | (n, es) :: l => n = es.length ∧ obsOk l
theorem obsOk_app : ∀ {a b : List (Nat × List PV)}, obsOk (a ++ b) → obsOk a ∧ obsOk b
  | [], b, h => ⟨trivial, h⟩
  | (n, es) :: a, b, h => by
    have := obsOk_app (a := a) (b := b) h.2
    exact ⟨⟨h.1, this.1⟩, this.2⟩
theorem frz0O_ok {h : Heap} {x : AV} {p : PV} {ids : List Nat} {os : List (Nat × List PV)} (hf : frz0O h x = some (p, ids, os)) (ho : obsOk os) : frz0 h x = some (p, ids) := by
  unfold frz0O at hf
  split at hf
  · cases hf; rfl
  · rename_i b n
    unfold frz0
    split at hf
    · rename_i e sz es heq
      cases hf
      simp only [obsOk] at ho
      simp only [heq]
      rw [if_pos ho.1]
    · cases hf
  · cases hf
theorem frzLO_ok {f : AV → Option (PV × List Nat × List (Nat × List PV))} {g : AV → Option (PV × List Nat)} (hfg : ∀ x p ids os, f x = some (p, ids, os) → obsOk os → g x = some (p, ids)) : ∀ {l : List AV} {ps : List PV} {ids : List Nat} {os : List (Nat × List PV)}, frzLO f l = some (ps, ids, os) → obsOk os → frzL g l = some (ps, ids)
  | [], ps, ids, os, hf, ho => by simp only [frzLO, Option.some.injEq, Prod.mk.injEq] at hf; obtain ⟨rfl, rfl, rfl⟩ := hf; rfl
  | x :: l, ps, ids, os, hf, ho => by
    simp only [frzLO] at hf
    split at hf
    · rename_i p r o ps' rs os' h1 h2
      cases hf
      obtain ⟨o1, o2⟩ := obsOk_app ho
      simp only [frzL, hfg _ _ _ _ h1 o1, frzLO_ok hfg h2 o2]
    · cases hf
theorem frz1O_ok {h : Heap} {x : AV} {p : PV} {ids : List Nat} {os : List (Nat × List PV)} (hf : frz1O h x = some (p, ids, os)) (ho : obsOk os) : frz1 h x = some (p, ids) := by
  unfold frz1O at hf
  split at hf
  · rename_i b off
    simp only [frz1]
    split at hf
    · rename_i cs heq
      simp only [heq]
      split at hf
      · rename_i ps rs os' h1
        cases hf
        simp only [frzLO_ok (fun _ _ _ _ => frz0O_ok) h1 ho]
      · cases hf
    · cases hf
  · simp only [frz1]
    split at hf
    · rename_i ps rs os' h1
      cases hf
      simp only [frzLO_ok (fun _ _ _ _ => frz0O_ok) h1 ho]
    · cases hf
  · rename_i h1 h2
    have := frz0O_ok hf ho
    unfold frz1
    split
    · rename_i b off; exact absurd rfl (h1 b off)
    · rename_i cs; exact absurd rfl (h2 cs)
    · exact this
theorem frz2O_ok {h : Heap} {x : AV} {p : PV} {ids : List Nat} {os : List (Nat × List PV)} (hf : frz2O h x = some (p, ids, os)) (ho : obsOk os) : frz2 h x = some (p, ids) := by
  unfold frz2O at hf
  split at hf
  · simp only [frz2]
    split at hf
    · rename_i ps rs os' h1
      cases hf
      simp only [frzLO_ok (fun _ _ _ _ => frz1O_ok) h1 ho]
    · cases hf
  · rename_i h1
    have := frz1O_ok hf ho
    unfold frz2
    split
    · rename_i f caps; exact absurd rfl (h1 f caps)
    · exact this
def callArgsO (s : Slots) (h : Heap) (f : Opd) (ars : List Opd) : Option (Nat × List PV × List Nat × List (Nat × List PV)) :=
  match frz2O h (ev s f), frzLO (frz2O h) (ars.map (ev s)) with
  | some (.func g caps, r1, o1), some (ps, r2, o2) => some (g, ps ++ caps, r1 ++ r2, o1 ++ o2)
  | _, _ => none
theorem callArgsO_ok {s : Slots} {h : Heap} {f : Opd} {ars : List Opd} {g : Nat} {ps : List PV} {ids : List Nat} {os : List (Nat × List PV)} (hf : callArgsO s h f ars = some (g, ps, ids, os)) (ho : obsOk os) : callArgs s h f ars = some (g, ps, ids) := by
  unfold callArgsO at hf
  split at hf
  · rename_i g' caps r1 o1 ps' r2 o2 h1 h2
    cases hf
    obtain ⟨a1, a2⟩ := obsOk_app ho
    simp only [callArgs, frz2O_ok h1 a1, frzLO_ok (fun _ _ _ _ => frz2O_ok) h2 a2]
  · cases hf
section
variable {P : Program} {Q : Post}
theorem Ok.callO {d : Option Nat} {gu : Option (Nat × Bool)} {af : List Nat} {f : Opd} {ars : List Opd} {l : List Ins} {k : List Kf} {s : Slots} {h : HL} {g : Nat} {ps : List PV} {ids : List Nat} {os : List (Nat × List PV)} {r : AV} {L : List Blk} (hc : CallsV P g ps r L) (hg : gd s gu = .yes)
    (ha : callArgsO s (hget h) f ars = some (g, ps, ids, os)) (ho : obsOk os) (hfr : freeAt h (base d) L.length = true) (hw : Ok P Q (.reg l k (putS s d (callOut d ids r L).v) ((callOut d ids r L).heapL h))) : Ok P Q (.reg (⟨d, gu, af, .call f ars⟩ :: l) k s h) :=
  Ok.call hc hg (callArgsO_ok ha ho) hfr hw
theorem Ok.dcallO {all : List Ins} {acc : List Out} {d : Option Nat} {gu : Option (Nat × Bool)} {af : List Nat} {f : Opd} {ars : List Opd} {l : List Ins} {k : List Kf} {s : Slots} {h : HL} {g : Nat} {ps : List PV} {ids : List Nat} {os : List (Nat × List PV)} {r : AV} {L : List Blk} (hc : CallsV P g ps r L) (hg : gd s gu = .yes)
    (ha : callArgsO s (hget h) f ars = some (g, ps, ids, os)) (ho : obsOk os) (hfr : freeAt h (base d) L.length = true) (hw : Ok P Q (.drw all l (acc ++ [callOut d ids r L]) k (putS s d (callOut d ids r L).v) ((callOut d ids r L).heapL h))) : Ok P Q (.drw all (⟨d, gu, af, .call f ars⟩ :: l) acc k s h) :=
  Ok.dcall hc hg (callArgsO_ok ha ho) hfr hw
theorem Ok.finO1 {rs : List Rs} {x : AV} {p q : PV} {ids : List Nat} {os : List (Nat × List PV)} {s : Slots} {h : HL} (hx : resVs s (hget h) rs = some x) (hf : frz2O (hget h) x = some (p, ids, os)) (ho : obsOk os) (hp : p = q) : Ok P (RetQ rs (.pv q) []) (.out .ret [] s h) := Ok.fin1 hx (frz2O_ok hf ho) hp
theorem Ok.finO2 {rs : List Rs} {x1 x2 : AV} {p1 p2 q1 q2 : PV} {ids : List Nat} {os : List (Nat × List PV)} {s : Slots} {h : HL} (hx : resVs s (hget h) rs = some (.tup [x1, x2])) (hf : frzLO (frz2O (hget h)) [x1, x2] = some ([p1, p2], ids, os)) (ho : obsOk os) (h1 : p1 = q1) (h2 : p2 = q2) : Ok P (RetQ rs (.tup [.pv q1, .pv q2]) []) (.out .ret [] s h) :=
  Ok.fin2 hx (frzLO_ok (fun _ _ _ _ => frz2O_ok) hf ho) h1 h2
theorem Ok.finO3 {rs : List Rs} {x1 x2 x3 : AV} {p1 p2 p3 q1 q2 q3 : PV} {ids : List Nat} {os : List (Nat × List PV)} {s : Slots} {h : HL} (hx : resVs s (hget h) rs = some (.tup [x1, x2, x3])) (hf : frzLO (frz2O (hget h)) [x1, x2, x3] = some ([p1, p2, p3], ids, os)) (ho : obsOk os) (h1 : p1 = q1) (h2 : p2 = q2) (h3 : p3 = q3) : Ok P (RetQ rs (.tup [.pv q1, .pv q2, .pv q3]) []) (.out .ret [] s h) :=
  Ok.fin3 hx (frzLO_ok (fun _ _ _ _ => frz2O_ok) hf ho) h1 h2 h3
end

section
variable {P : Program} {Q : Post}
theorem Ok.idxK {d : Option Nat} {g : Option (Nat × Bool)} {af : List Nat} {sz : Nat} {x i : Opd} {l : List Ins} {q : List Kf} {s : Slots} {h : HL} {es : List PV} {k : IntKind} {j : Nat} {e : PV} (h4 : es[j]? = some e) (hg : gd s g = .yes) (h1 : ev s x = .pv (.view es)) (h2 : ev s i = .pv (.int k (Int.ofNat j))) (h5 : e.cells.length = sz)
    (hw : Ok P Q (.reg l q (putS s d (.pv (.vptr e.cells))) h)) : Ok P Q (.reg (⟨d, g, af, .idx sz x i⟩ :: l) q s h) := Ok.op (idx_K h4 hg h1 h2 h5) hw
theorem Ok.didxK {all : List Ins} {acc : List Out} {d : Option Nat} {g : Option (Nat × Bool)} {af : List Nat} {sz : Nat} {x i : Opd} {l : List Ins} {q : List Kf} {s : Slots} {h : HL} {es : List PV} {k : IntKind} {j : Nat} {e : PV} (h4 : es[j]? = some e) (hg : gd s g = .yes) (h1 : ev s x = .pv (.view es)) (h2 : ev s i = .pv (.int k (Int.ofNat j))) (h5 : e.cells.length = sz)
    (hw : Ok P Q (.drw all l (acc ++ [{ v := .pv (.vptr e.cells) }]) q (putS s d (.pv (.vptr e.cells))) h)) : Ok P Q (.drw all (⟨d, g, af, .idx sz x i⟩ :: l) acc q s h) := Ok.dop (idx_K h4 hg h1 h2 h5) hw
theorem Ok.sidxK {d : Option Nat} {g : Option (Nat × Bool)} {af : List Nat} {x i : Opd} {l : List Ins} {q : List Kf} {s : Slots} {h : HL} {es : List UInt8} {k : IntKind} {j : Nat} {e : UInt8} (h4 : es[j]? = some e) (hg : gd s g = .yes) (h1 : ev s x = .pv (.str es)) (h2 : ev s i = .pv (.int k (Int.ofNat j)))
    (hw : Ok P Q (.reg l q (putS s d (.pv (.int .u8 (Int.ofNat e.toNat)))) h)) : Ok P Q (.reg (⟨d, g, af, .sidx x i⟩ :: l) q s h) := Ok.op (sidx_K h4 hg h1 h2) hw
theorem Ok.dsidxK {all : List Ins} {acc : List Out} {d : Option Nat} {g : Option (Nat × Bool)} {af : List Nat} {x i : Opd} {l : List Ins} {q : List Kf} {s : Slots} {h : HL} {es : List UInt8} {k : IntKind} {j : Nat} {e : UInt8} (h4 : es[j]? = some e) (hg : gd s g = .yes) (h1 : ev s x = .pv (.str es)) (h2 : ev s i = .pv (.int k (Int.ofNat j)))
    (hw : Ok P Q (.drw all l (acc ++ [{ v := .pv (byteP e) }]) q (putS s d (.pv (.int .u8 (Int.ofNat e.toNat)))) h)) : Ok P Q (.drw all (⟨d, g, af, .sidx x i⟩ :: l) acc q s h) := Ok.dop (sidx_K h4 hg h1 h2) hw
theorem Ok.appK {A : Ar} (hA : A = .std) {d : Option Nat} {g : Option (Nat × Bool)} {af : List Nat} {e : TypeId} {sz bytes : Nat} {x y : Opd} {l : List Ins} {q : List Kf} {s : Slots} {h : HL} {b n : Nat} {es : List PV} {p : PV} {rs : List Nat} {m : Bool} (hn : n = es.length) (hb : n < 2 ^ 30) (hg : gd s g = .yes) (h1 : ev s x = .ref b n) (h2 : hget h b = some (.row e sz es m)) (h3 : listOf (hget h) (ev s y) = some ([p], rs)) (hbr : rs.contains b = false) (hok : PV.okc sz p = true) (hl1 : Nat.ble bytes 100000 = true)
    (hw : Ok P Q (.reg l q (putS s d (.ref b (A .inc n))) (Out.heapL { v := .ref b (A .inc n), rd := b :: rs, up := [.frz rs, .row b (A .snoc es p)] } h))) : Ok P Q (.reg (⟨d, g, af, .app e sz bytes x y⟩ :: l) q s h) := Ok.op (app_K hA hn hb hg h1 h2 h3 hbr hok hl1) hw
theorem Ok.dappK {A : Ar} (hA : A = .std) {all : List Ins} {acc : List Out} {d : Option Nat} {g : Option (Nat × Bool)} {af : List Nat} {e : TypeId} {sz bytes : Nat} {x y : Opd} {l : List Ins} {q : List Kf} {s : Slots} {h : HL} {b n : Nat} {es : List PV} {p : PV} {rs : List Nat} {m : Bool} (hn : n = es.length) (hb : n < 2 ^ 30) (hg : gd s g = .yes) (h1 : ev s x = .ref b n) (h2 : hget h b = some (.row e sz es m)) (h3 : listOf (hget h) (ev s y) = some ([p], rs)) (hbr : rs.contains b = false) (hok : PV.okc sz p = true) (hl1 : Nat.ble bytes 100000 = true)
    (hw : Ok P Q (.drw all l (acc ++ [{ v := .ref b (A .inc n), rd := b :: rs, up := [.frz rs, .row b (A .snoc es p)] }]) q (putS s d (.ref b (A .inc n))) (Out.heapL { v := .ref b (A .inc n), rd := b :: rs, up := [.frz rs, .row b (A .snoc es p)] } h))) : Ok P Q (.drw all (⟨d, g, af, .app e sz bytes x y⟩ :: l) acc q s h) := Ok.dop (app_K hA hn hb hg h1 h2 h3 hbr hok hl1) hw
/-- .. with what stands behind it set by name, so that it stays small. -/
theorem snoc_len {A : Ar} (hA : A = .std) {n : Nat} {es : List PV} (p : PV) (h : n = es.length) : A .inc n = (A .snoc es p).length := by subst hA h; simp [Ar.std]
end

/-- An empty list that came in: nil, or not. -/
theorem CallsV.emp {P : Program} {f : FuncId} {pre post : List PV} {r : AV} {L : List Blk} (h1 : CallsV P f (pre ++ .niln :: post) r L) (h2 : CallsV P f (pre ++ .emp :: post) r L) : CallsV P f (pre ++ .view [] :: post) r L := by
  refine ⟨h1.1, fun S W vs hS hn hR => ?_⟩
  have hx := hR pre.length (.view []) (by simp)
  have hget : ∀ (q : PV), RV S W q (vs.getD pre.length undef) → ∀ (i : Nat) (p : PV), (pre ++ q :: post)[i]? = some p → RV S W p (vs.getD i undef) := by
    intro q hq i p hp
    by_cases hi : i = pre.length
    · subst hi
      simp at hp
      subst hp; exact hq
    · refine hR i p ?_
      rw [List.getElem?_append] at hp ⊢
      split
      · rename_i hlt; rw [if_pos hlt] at hp; exact hp
      · rename_i hge
        rw [if_neg hge] at hp
        obtain ⟨j, hj⟩ : ∃ j, i - pre.length = j + 1 := ⟨i - pre.length - 1, by omega⟩
        rw [hj] at hp ⊢
        simpa using hp
  rcases hx.view_cases with h | h
  · exact h1.2 S W vs hS (by simpa using hn) (hget _ h)
  · exact h2.2 S W vs hS (by simpa using hn) (hget _ h)
end Go.Proofs.Ytnojmocoifodjaa.Pv
set_option maxRecDepth 100000
set_option maxHeartbeats 4000000
set_option linter.unusedVariables false
set_option linter.unusedSimpArgs false
namespace Go.Proofs.Ytnojmocoifodjaa.Pv
open Go Go.Proofs
def pI (n : Int) : PV := .agg [.int .i64 1, .int .i64 n, .bool false, .str [], .view []]
def pB (b : Bool) : PV := .agg [.int .i64 2, .int .i64 0, .bool b, .str [], .view []]
def pS (s : List UInt8) : PV := .agg [.int .i64 3, .int .i64 0, .bool false, .str s, .view []]
section
variable {E : Enc} (hE : E = .std)
include hE
theorem vls0 : E .vls [] = [] := by rw [E.vls_eq hE]; rfl
theorem exs0 : E .exs [] = [] := by rw [E.exs_eq hE]; rfl
theorem tys0 : E .tys [] = [] := by rw [E.tys_eq hE]; rfl
theorem vl_int (n : Int) : E.vl (vInt n) = pI n := by simp only [Enc.vl, vInt, vls0 hE, pI]
theorem vl_bool (n : Bool) : E.vl (vBool n) = pB n := by simp only [Enc.vl, vBool, vls0 hE, pB]
theorem vl_str (n : List UInt8) : E.vl (vStr n) = pS n := by simp only [Enc.vl, vStr, vls0 hE, pS]
theorem vl_zero : E.vl .zero = .agg [.int .i64 0, .int .i64 0, .bool false, .str [], .view []] := by simp only [Enc.vl, Vl.zero, vls0 hE]
end
def twT : List PV := [.agg [.str [97, 100, 100], .func 180 [.vptr [.func 170 []]]],
  .agg [.str [115, 117, 98], .func 180 [.vptr [.func 171 []]]],
  .agg [.str [109, 117, 108], .func 180 [.vptr [.func 172 []]]],
  .agg [.str [100, 105, 118], .func 181 [.vptr [.func 174 []]]],
  .agg [.str [114, 101, 109], .func 181 [.vptr [.func 175 []]]],
  .agg [.str [101, 113], .func 176 []],
  .agg [.str [108, 116], .func 177 []],
  .agg [.str [99, 97, 116], .func 179 []]]
def onT : List PV := [.agg [.str [110, 101, 103], .func 166 []], .agg [.str [110, 111, 116], .func 167 []], .agg [.str [108, 101, 110], .func 168 []]]
theorem eval_twos : CallsV Try.prog 155 [] (.pv (.view twT)) [] := CallsV.still (e := 241) (sz := 2) (m := true) (n := 8) (ev_ok 30 (by kernel_rfl)) (by rfl)
theorem eval_ones : CallsV Try.prog 153 [] (.pv (.view onT)) [] := CallsV.still (e := 238) (sz := 2) (m := true) (n := 3) (ev_ok 30 (by kernel_rfl)) (by rfl)
theorem find_add : CallsV Try.prog 156 [.view twT, .str oAdd] (.tup [.pv (.func 180 [.vptr [.func 170 []]]), .pv (.bool true)]) [] := ev_ok 30 (by kernel_rfl)
theorem find_sub : CallsV Try.prog 156 [.view twT, .str oSub] (.tup [.pv (.func 180 [.vptr [.func 171 []]]), .pv (.bool true)]) [] := ev_ok 30 (by kernel_rfl)
theorem find_mul : CallsV Try.prog 156 [.view twT, .str oMul] (.tup [.pv (.func 180 [.vptr [.func 172 []]]), .pv (.bool true)]) [] := ev_ok 30 (by kernel_rfl)
theorem find_div : CallsV Try.prog 156 [.view twT, .str oDiv] (.tup [.pv (.func 181 [.vptr [.func 174 []]]), .pv (.bool true)]) [] := ev_ok 30 (by kernel_rfl)
theorem find_rem : CallsV Try.prog 156 [.view twT, .str oRem] (.tup [.pv (.func 181 [.vptr [.func 175 []]]), .pv (.bool true)]) [] := ev_ok 30 (by kernel_rfl)
theorem find_eq : CallsV Try.prog 156 [.view twT, .str oEq] (.tup [.pv (.func 176 []), .pv (.bool true)]) [] := ev_ok 30 (by kernel_rfl)
theorem find_lt : CallsV Try.prog 156 [.view twT, .str oLt] (.tup [.pv (.func 177 []), .pv (.bool true)]) [] := ev_ok 30 (by kernel_rfl)
theorem find_cat : CallsV Try.prog 156 [.view twT, .str oCat] (.tup [.pv (.func 179 []), .pv (.bool true)]) [] := ev_ok 30 (by kernel_rfl)
theorem find_neg : CallsV Try.prog 154 [.view onT, .str oNeg] (.tup [.pv (.func 166 []), .pv (.bool true)]) [] := ev_ok 30 (by kernel_rfl)
theorem find_not : CallsV Try.prog 154 [.view onT, .str oNot] (.tup [.pv (.func 167 []), .pv (.bool true)]) [] := ev_ok 30 (by kernel_rfl)
theorem find_len : CallsV Try.prog 154 [.view onT, .str oLen] (.tup [.pv (.func 168 []), .pv (.bool true)]) [] := ev_ok 30 (by kernel_rfl)
theorem tw_add (a b : Int) : CallsV Try.prog 170 [.int .i64 a, .int .i64 b] (.pv (.int .i64 (w64 (a + b)))) [] := evs_ok 30 (by kernel_rfl)
theorem tw_sub (a b : Int) : CallsV Try.prog 171 [.int .i64 a, .int .i64 b] (.pv (.int .i64 (w64 (a - b)))) [] := evs_ok 30 (by kernel_rfl)
theorem tw_mul (a b : Int) : CallsV Try.prog 172 [.int .i64 a, .int .i64 b] (.pv (.int .i64 (w64 (a * b)))) [] := evs_ok 30 (by kernel_rfl)
theorem quo_op {d : Option Nat} {af : List Nat} {x y : Opd} {s : Slots} {h : HL} {k : IntKind} {a c : Int} (h1 : ev s x = .pv (.int k a)) (h2 : ev s y = .pv (.int k c)) (hc : c ≠ 0) (r : Int) (hr : r = k.wrap (a.tdiv c)) :
    stepO ⟨d, none, af, .bin .quo x y⟩ s (hget h) = some { v := .pv (.int k r) } := by
  subst hr
  simp [stepO, gd, sem, h1, h2, semBin, hc]
theorem tw_div (a b : Int) (hb : b ≠ 0) : CallsV Try.prog 174 [.int .i64 a, .int .i64 b] (.pv (.int .i64 (w64 (a.tdiv b)))) [] := by
  obtain ⟨A, hA⟩ : ∃ A : Ar, A = .std := ⟨_, rfl⟩
  generalize hr : w64 (a.tdiv b) = r
  refine CallsV.ok (fn := Try.f174) (by kernel_rfl) (by kernel_rfl) rfl (by cbv) (by cbv) ?_
  repeat (first | (apply Ok.run1 hmix hA false 2000; focus (cbv; done)) | (apply Ok.one hmix hA; focus (cbv; done)) | (rw [Ar.notT hA]) | (rw [Ar.notF hA]) | (refine Ok.condT ?_ ?_; focus (cbv; done)) | (refine Ok.condF ?_ ?_; focus (cbv; done)) | (refine Ok.drawnE (by as_aux_lemma => kernel_rfl) ?_))
  refine Ok.op (quo_op (by cbv) (by cbv) hb r (by rw [← hr]; rfl)) ?_
  repeat (first | (apply Ok.run1 hmix hA false 2000; focus (cbv; done)) | (apply Ok.one hmix hA; focus (cbv; done)) | (rw [Ar.notT hA]) | (rw [Ar.notF hA]) | (refine Ok.condT ?_ ?_; focus (cbv; done)) | (refine Ok.condF ?_ ?_; focus (cbv; done)) | (refine Ok.drawnE (by as_aux_lemma => kernel_rfl) ?_))
  (first | (apply Ok.finO1; (focus (cbv; done)); (focus (cbv; done)); (focus (first | exact trivial | (simp only [obsOk, and_true, Ar.inc_eq hA, Ar.snoc_eq hA, List.length_append, List.length_singleton, List.length_nil] <;> first | assumption | omega | (constructor <;> omega))))) | (apply Ok.finO2; (focus (cbv; done)); (focus (cbv; done)); (focus (first | exact trivial | (simp only [obsOk, and_true, Ar.inc_eq hA, Ar.snoc_eq hA, List.length_append, List.length_singleton, List.length_nil] <;> first | assumption | omega | (constructor <;> omega))))) | (apply Ok.finO3; (focus (cbv; done)); (focus (cbv; done)); (focus (first | exact trivial | (simp only [obsOk, and_true, Ar.inc_eq hA, Ar.snoc_eq hA, List.length_append, List.length_singleton, List.length_nil] <;> first | assumption | omega | (constructor <;> omega))))))
  all_goals rfl
theorem tw_rem (a b : Int) (hb : b ≠ 0) : CallsV Try.prog 175 [.int .i64 a, .int .i64 b] (.pv (.int .i64 (a.tmod b))) [] := by
  obtain ⟨A, hA⟩ : ∃ A : Ar, A = .std := ⟨_, rfl⟩
  generalize hr : a.tmod b = r
  refine CallsV.ok (fn := Try.f175) (by kernel_rfl) (by kernel_rfl) rfl (by cbv) (by cbv) ?_
  repeat (first | (apply Ok.run1 hmix hA false 2000; focus (cbv; done)) | (apply Ok.one hmix hA; focus (cbv; done)) | (rw [Ar.notT hA]) | (rw [Ar.notF hA]) | (refine Ok.condT ?_ ?_; focus (cbv; done)) | (refine Ok.condF ?_ ?_; focus (cbv; done)) | (refine Ok.drawnE (by as_aux_lemma => kernel_rfl) ?_))
  refine Ok.op (rem_op (by cbv) (by cbv) hb r (by rw [← hr])) ?_
  repeat (first | (apply Ok.run1 hmix hA false 2000; focus (cbv; done)) | (apply Ok.one hmix hA; focus (cbv; done)) | (rw [Ar.notT hA]) | (rw [Ar.notF hA]) | (refine Ok.condT ?_ ?_; focus (cbv; done)) | (refine Ok.condF ?_ ?_; focus (cbv; done)) | (refine Ok.drawnE (by as_aux_lemma => kernel_rfl) ?_))
  (first | (apply Ok.finO1; (focus (cbv; done)); (focus (cbv; done)); (focus (first | exact trivial | (simp only [obsOk, and_true, Ar.inc_eq hA, Ar.snoc_eq hA, List.length_append, List.length_singleton, List.length_nil] <;> first | assumption | omega | (constructor <;> omega))))) | (apply Ok.finO2; (focus (cbv; done)); (focus (cbv; done)); (focus (first | exact trivial | (simp only [obsOk, and_true, Ar.inc_eq hA, Ar.snoc_eq hA, List.length_append, List.length_singleton, List.length_nil] <;> first | assumption | omega | (constructor <;> omega))))) | (apply Ok.finO3; (focus (cbv; done)); (focus (cbv; done)); (focus (first | exact trivial | (simp only [obsOk, and_true, Ar.inc_eq hA, Ar.snoc_eq hA, List.length_append, List.length_singleton, List.length_nil] <;> first | assumption | omega | (constructor <;> omega))))))
  all_goals rfl
theorem num_1 {E : Enc} (hE : E = .std) (f : Nat) (a b : Vl) (r : Int) (hf : CallsV Try.prog f [.int .i64 a.i, .int .i64 b.i] (.pv (.int .i64 r)) []) : CallsV Try.prog 180 [E.vl a, E.vl b, .vptr [.func f []]] (.tup [.pv (E.vl (vInt r)), .pv (.int .i64 0)]) [] := by
  obtain ⟨A, hA⟩ : ∃ A : Ar, A = .std := ⟨_, rfl⟩
  have cI := val_Int hE r
  rw [← show vInt r = ⟨1, r, false, [], []⟩ from rfl, vl_int hE, pI] at cI
  rw [vl_int hE]
  obtain ⟨ak, ai, ab, as', at'⟩ := a
  obtain ⟨bk, bi, bb, bs', bt'⟩ := b
  refine CallsV.ok (fn := Try.f180) (by kernel_rfl) (by kernel_rfl) rfl (by cbv) (by cbv) ?_
  repeat (first | (apply Ok.run1 hmix hA false 2000; focus (cbv; done)) | (apply Ok.one hmix hA; focus (cbv; done)) | (rw [Ar.notT hA]) | (rw [Ar.notF hA]) | (refine Ok.condT ?_ ?_; focus (cbv; done)) | (refine Ok.condF ?_ ?_; focus (cbv; done)) | (refine Ok.drawnE (by as_aux_lemma => kernel_rfl) ?_) | (apply Ok.leave) | (apply Ok.leaveRet) | (apply Ok.callO (hf); (focus (cbv; done)); (focus (cbv; done)); (focus (first | exact trivial | (simp only [obsOk, and_true, Ar.inc_eq hA, Ar.snoc_eq hA, List.length_append, List.length_singleton, List.length_nil] <;> first | assumption | omega | (constructor <;> omega)))); (focus (cbv; done))) | (apply Ok.dcallO (hf); (focus (cbv; done)); (focus (cbv; done)); (focus (first | exact trivial | (simp only [obsOk, and_true, Ar.inc_eq hA, Ar.snoc_eq hA, List.length_append, List.length_singleton, List.length_nil] <;> first | assumption | omega | (constructor <;> omega)))); (focus (cbv; done))) | (apply Ok.callO (cI); (focus (cbv; done)); (focus (cbv; done)); (focus (first | exact trivial | (simp only [obsOk, and_true, Ar.inc_eq hA, Ar.snoc_eq hA, List.length_append, List.length_singleton, List.length_nil] <;> first | assumption | omega | (constructor <;> omega)))); (focus (cbv; done))) | (apply Ok.dcallO (cI); (focus (cbv; done)); (focus (cbv; done)); (focus (first | exact trivial | (simp only [obsOk, and_true, Ar.inc_eq hA, Ar.snoc_eq hA, List.length_append, List.length_singleton, List.length_nil] <;> first | assumption | omega | (constructor <;> omega)))); (focus (cbv; done))))
  (first | (apply Ok.finO1; (focus (cbv; done)); (focus (cbv; done)); (focus (first | exact trivial | (simp only [obsOk, and_true, Ar.inc_eq hA, Ar.snoc_eq hA, List.length_append, List.length_singleton, List.length_nil] <;> first | assumption | omega | (constructor <;> omega))))) | (apply Ok.finO2; (focus (cbv; done)); (focus (cbv; done)); (focus (first | exact trivial | (simp only [obsOk, and_true, Ar.inc_eq hA, Ar.snoc_eq hA, List.length_append, List.length_singleton, List.length_nil] <;> first | assumption | omega | (constructor <;> omega))))) | (apply Ok.finO3; (focus (cbv; done)); (focus (cbv; done)); (focus (first | exact trivial | (simp only [obsOk, and_true, Ar.inc_eq hA, Ar.snoc_eq hA, List.length_append, List.length_singleton, List.length_nil] <;> first | assumption | omega | (constructor <;> omega))))))
  all_goals rfl
theorem div_1 {E : Enc} (hE : E = .std) (f : Nat) (a b : Vl) (r : Int) (hb : b.i ≠ 0) (hf : CallsV Try.prog f [.int .i64 a.i, .int .i64 b.i] (.pv (.int .i64 r)) []) : CallsV Try.prog 181 [E.vl a, E.vl b, .vptr [.func f []]] (.tup [.pv (E.vl (vInt r)), .pv (.int .i64 0)]) [] := by
  obtain ⟨A, hA⟩ : ∃ A : Ar, A = .std := ⟨_, rfl⟩
  have cI := val_Int hE r
  rw [← show vInt r = ⟨1, r, false, [], []⟩ from rfl, vl_int hE, pI] at cI
  rw [vl_int hE]
  obtain ⟨ak, ai, ab, as', at'⟩ := a
  obtain ⟨bk, bi, bb, bs', bt'⟩ := b
  have q : A .eq bi 0 = false := by rw [Ar.eq_eq hA]; simpa using hb
  refine CallsV.ok (fn := Try.f181) (by kernel_rfl) (by kernel_rfl) rfl (by cbv) (by cbv) ?_
  repeat (first | (apply Ok.run1 hmix hA false 2000; focus (cbv; done)) | (apply Ok.one hmix hA; focus (cbv; done)) | (rw [Ar.notT hA]) | (rw [Ar.notF hA]) | (refine Ok.condT ?_ ?_; focus (cbv; done)) | (refine Ok.condF ?_ ?_; focus (cbv; done)) | (refine Ok.drawnE (by as_aux_lemma => kernel_rfl) ?_) | (apply Ok.leave) | (apply Ok.leaveRet) | (apply Ok.callO (hf); (focus (cbv; done)); (focus (cbv; done)); (focus (first | exact trivial | (simp only [obsOk, and_true, Ar.inc_eq hA, Ar.snoc_eq hA, List.length_append, List.length_singleton, List.length_nil] <;> first | assumption | omega | (constructor <;> omega)))); (focus (cbv; done))) | (apply Ok.dcallO (hf); (focus (cbv; done)); (focus (cbv; done)); (focus (first | exact trivial | (simp only [obsOk, and_true, Ar.inc_eq hA, Ar.snoc_eq hA, List.length_append, List.length_singleton, List.length_nil] <;> first | assumption | omega | (constructor <;> omega)))); (focus (cbv; done))) | (apply Ok.callO (cI); (focus (cbv; done)); (focus (cbv; done)); (focus (first | exact trivial | (simp only [obsOk, and_true, Ar.inc_eq hA, Ar.snoc_eq hA, List.length_append, List.length_singleton, List.length_nil] <;> first | assumption | omega | (constructor <;> omega)))); (focus (cbv; done))) | (apply Ok.dcallO (cI); (focus (cbv; done)); (focus (cbv; done)); (focus (first | exact trivial | (simp only [obsOk, and_true, Ar.inc_eq hA, Ar.snoc_eq hA, List.length_append, List.length_singleton, List.length_nil] <;> first | assumption | omega | (constructor <;> omega)))); (focus (cbv; done))) | (rw [q]))
  (first | (apply Ok.finO1; (focus (cbv; done)); (focus (cbv; done)); (focus (first | exact trivial | (simp only [obsOk, and_true, Ar.inc_eq hA, Ar.snoc_eq hA, List.length_append, List.length_singleton, List.length_nil] <;> first | assumption | omega | (constructor <;> omega))))) | (apply Ok.finO2; (focus (cbv; done)); (focus (cbv; done)); (focus (first | exact trivial | (simp only [obsOk, and_true, Ar.inc_eq hA, Ar.snoc_eq hA, List.length_append, List.length_singleton, List.length_nil] <;> first | assumption | omega | (constructor <;> omega))))) | (apply Ok.finO3; (focus (cbv; done)); (focus (cbv; done)); (focus (first | exact trivial | (simp only [obsOk, and_true, Ar.inc_eq hA, Ar.snoc_eq hA, List.length_append, List.length_singleton, List.length_nil] <;> first | assumption | omega | (constructor <;> omega))))))
  all_goals rfl
theorem div_0 {E : Enc} (hE : E = .std) (f : Nat) (a b : Vl) (hb : b.i = 0) : CallsV Try.prog 181 [E.vl a, E.vl b, .vptr [.func f []]] (.tup [.pv (E.vl .zero), .pv (.int .i64 8)]) [] := by
  obtain ⟨A, hA⟩ : ∃ A : Ar, A = .std := ⟨_, rfl⟩
  rw [vl_zero hE]
  obtain ⟨ak, ai, ab, as', at'⟩ := a
  obtain ⟨bk, bi, bb, bs', bt'⟩ := b
  have q : A .eq bi 0 = true := by rw [Ar.eq_eq hA]; simpa using hb
  refine CallsV.ok (fn := Try.f181) (by kernel_rfl) (by kernel_rfl) rfl (by cbv) (by cbv) ?_
  repeat (first | (apply Ok.run1 hmix hA false 2000; focus (cbv; done)) | (apply Ok.one hmix hA; focus (cbv; done)) | (rw [Ar.notT hA]) | (rw [Ar.notF hA]) | (refine Ok.condT ?_ ?_; focus (cbv; done)) | (refine Ok.condF ?_ ?_; focus (cbv; done)) | (refine Ok.drawnE (by as_aux_lemma => kernel_rfl) ?_) | (apply Ok.leave) | (apply Ok.leaveRet) | (rw [q]))
  (first | (apply Ok.finO1; (focus (cbv; done)); (focus (cbv; done)); (focus (first | exact trivial | (simp only [obsOk, and_true, Ar.inc_eq hA, Ar.snoc_eq hA, List.length_append, List.length_singleton, List.length_nil] <;> first | assumption | omega | (constructor <;> omega))))) | (apply Ok.finO2; (focus (cbv; done)); (focus (cbv; done)); (focus (first | exact trivial | (simp only [obsOk, and_true, Ar.inc_eq hA, Ar.snoc_eq hA, List.length_append, List.length_singleton, List.length_nil] <;> first | assumption | omega | (constructor <;> omega))))) | (apply Ok.finO3; (focus (cbv; done)); (focus (cbv; done)); (focus (first | exact trivial | (simp only [obsOk, and_true, Ar.inc_eq hA, Ar.snoc_eq hA, List.length_append, List.length_singleton, List.length_nil] <;> first | assumption | omega | (constructor <;> omega))))))
  all_goals rfl
theorem tw_eq {E : Enc} (hE : E = .std) (a b : Vl) (h1 : szV a ≤ 2 ^ 28) (h2 : szV b ≤ 2 ^ 28) : CallsV Try.prog 176 [E.vl a, E.vl b] (.tup [.pv (E.vl (vBool (decide (cmpV a b = 0)))), .pv (.int .i64 0)]) [] := by
  obtain ⟨A, hA⟩ : ∃ A : Ar, A = .std := ⟨_, rfl⟩
  have cS := val_Same hE a b h1 h2
  have cB := val_Bool hE (decide (cmpV a b = 0))
  generalize decide (cmpV a b = 0) = q at cS cB ⊢
  rw [← show vBool q = ⟨2, 0, q, [], []⟩ from rfl, vl_bool hE, pB] at cB
  rw [vl_bool hE]
  obtain ⟨ak, ai, ab, as', at'⟩ := a
  obtain ⟨bk, bi, bb, bs', bt'⟩ := b
  refine CallsV.ok (fn := Try.f176) (by kernel_rfl) (by kernel_rfl) rfl (by cbv) (by cbv) ?_
  repeat (first | (apply Ok.run1 hmix hA false 2000; focus (cbv; done)) | (apply Ok.one hmix hA; focus (cbv; done)) | (rw [Ar.notT hA]) | (rw [Ar.notF hA]) | (refine Ok.condT ?_ ?_; focus (cbv; done)) | (refine Ok.condF ?_ ?_; focus (cbv; done)) | (refine Ok.drawnE (by as_aux_lemma => kernel_rfl) ?_) | (apply Ok.leave) | (apply Ok.leaveRet) | (apply Ok.callO (cS); (focus (cbv; done)); (focus (cbv; done)); (focus (first | exact trivial | (simp only [obsOk, and_true, Ar.inc_eq hA, Ar.snoc_eq hA, List.length_append, List.length_singleton, List.length_nil] <;> first | assumption | omega | (constructor <;> omega)))); (focus (cbv; done))) | (apply Ok.dcallO (cS); (focus (cbv; done)); (focus (cbv; done)); (focus (first | exact trivial | (simp only [obsOk, and_true, Ar.inc_eq hA, Ar.snoc_eq hA, List.length_append, List.length_singleton, List.length_nil] <;> first | assumption | omega | (constructor <;> omega)))); (focus (cbv; done))) | (apply Ok.callO (cB); (focus (cbv; done)); (focus (cbv; done)); (focus (first | exact trivial | (simp only [obsOk, and_true, Ar.inc_eq hA, Ar.snoc_eq hA, List.length_append, List.length_singleton, List.length_nil] <;> first | assumption | omega | (constructor <;> omega)))); (focus (cbv; done))) | (apply Ok.dcallO (cB); (focus (cbv; done)); (focus (cbv; done)); (focus (first | exact trivial | (simp only [obsOk, and_true, Ar.inc_eq hA, Ar.snoc_eq hA, List.length_append, List.length_singleton, List.length_nil] <;> first | assumption | omega | (constructor <;> omega)))); (focus (cbv; done))))
  (first | (apply Ok.finO1; (focus (cbv; done)); (focus (cbv; done)); (focus (first | exact trivial | (simp only [obsOk, and_true, Ar.inc_eq hA, Ar.snoc_eq hA, List.length_append, List.length_singleton, List.length_nil] <;> first | assumption | omega | (constructor <;> omega))))) | (apply Ok.finO2; (focus (cbv; done)); (focus (cbv; done)); (focus (first | exact trivial | (simp only [obsOk, and_true, Ar.inc_eq hA, Ar.snoc_eq hA, List.length_append, List.length_singleton, List.length_nil] <;> first | assumption | omega | (constructor <;> omega))))) | (apply Ok.finO3; (focus (cbv; done)); (focus (cbv; done)); (focus (first | exact trivial | (simp only [obsOk, and_true, Ar.inc_eq hA, Ar.snoc_eq hA, List.length_append, List.length_singleton, List.length_nil] <;> first | assumption | omega | (constructor <;> omega))))))
  all_goals rfl
theorem tw_lt {E : Enc} (hE : E = .std) (a b : Vl) (h1 : szV a ≤ 2 ^ 28) (h2 : szV b ≤ 2 ^ 28) : CallsV Try.prog 177 [E.vl a, E.vl b] (.tup [.pv (E.vl (vBool (decide (cmpV a b < 0)))), .pv (.int .i64 0)]) [] := by
  obtain ⟨A, hA⟩ : ∃ A : Ar, A = .std := ⟨_, rfl⟩
  have cS := val_Compare hE _ a b (Nat.le_refl _) h1 h2
  have cB := val_Bool hE (decide (cmpV a b < 0))
  have q : A .lt (cmpV a b) 0 = decide (cmpV a b < 0) := Ar.lt_eq hA _ _
  generalize decide (cmpV a b < 0) = qq at cS cB q ⊢
  generalize cmpV a b = c at *
  rw [← show vBool qq = ⟨2, 0, qq, [], []⟩ from rfl, vl_bool hE, pB] at cB
  rw [vl_bool hE]
  obtain ⟨ak, ai, ab, as', at'⟩ := a
  obtain ⟨bk, bi, bb, bs', bt'⟩ := b
  refine CallsV.ok (fn := Try.f177) (by kernel_rfl) (by kernel_rfl) rfl (by cbv) (by cbv) ?_
  repeat (first | (apply Ok.run1 hmix hA false 2000; focus (cbv; done)) | (apply Ok.one hmix hA; focus (cbv; done)) | (rw [Ar.notT hA]) | (rw [Ar.notF hA]) | (refine Ok.condT ?_ ?_; focus (cbv; done)) | (refine Ok.condF ?_ ?_; focus (cbv; done)) | (refine Ok.drawnE (by as_aux_lemma => kernel_rfl) ?_) | (apply Ok.leave) | (apply Ok.leaveRet) | (apply Ok.callO (cS); (focus (cbv; done)); (focus (cbv; done)); (focus (first | exact trivial | (simp only [obsOk, and_true, Ar.inc_eq hA, Ar.snoc_eq hA, List.length_append, List.length_singleton, List.length_nil] <;> first | assumption | omega | (constructor <;> omega)))); (focus (cbv; done))) | (apply Ok.dcallO (cS); (focus (cbv; done)); (focus (cbv; done)); (focus (first | exact trivial | (simp only [obsOk, and_true, Ar.inc_eq hA, Ar.snoc_eq hA, List.length_append, List.length_singleton, List.length_nil] <;> first | assumption | omega | (constructor <;> omega)))); (focus (cbv; done))) | (apply Ok.callO (cB); (focus (cbv; done)); (focus (cbv; done)); (focus (first | exact trivial | (simp only [obsOk, and_true, Ar.inc_eq hA, Ar.snoc_eq hA, List.length_append, List.length_singleton, List.length_nil] <;> first | assumption | omega | (constructor <;> omega)))); (focus (cbv; done))) | (apply Ok.dcallO (cB); (focus (cbv; done)); (focus (cbv; done)); (focus (first | exact trivial | (simp only [obsOk, and_true, Ar.inc_eq hA, Ar.snoc_eq hA, List.length_append, List.length_singleton, List.length_nil] <;> first | assumption | omega | (constructor <;> omega)))); (focus (cbv; done))) | (rw [q]))
  (first | (apply Ok.finO1; (focus (cbv; done)); (focus (cbv; done)); (focus (first | exact trivial | (simp only [obsOk, and_true, Ar.inc_eq hA, Ar.snoc_eq hA, List.length_append, List.length_singleton, List.length_nil] <;> first | assumption | omega | (constructor <;> omega))))) | (apply Ok.finO2; (focus (cbv; done)); (focus (cbv; done)); (focus (first | exact trivial | (simp only [obsOk, and_true, Ar.inc_eq hA, Ar.snoc_eq hA, List.length_append, List.length_singleton, List.length_nil] <;> first | assumption | omega | (constructor <;> omega))))) | (apply Ok.finO3; (focus (cbv; done)); (focus (cbv; done)); (focus (first | exact trivial | (simp only [obsOk, and_true, Ar.inc_eq hA, Ar.snoc_eq hA, List.length_append, List.length_singleton, List.length_nil] <;> first | assumption | omega | (constructor <;> omega))))))
  all_goals rfl
end Go.Proofs.Ytnojmocoifodjaa.Pv
