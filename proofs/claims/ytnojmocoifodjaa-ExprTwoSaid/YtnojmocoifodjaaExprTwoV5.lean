/- The law ExprTwo of this seat: a part of its proof (an abstract evaluator of the code that is proved sound, and contracts of functions), with no condition. -/
import Derived.Test.YtnojmocoifodjaaExprTwoV4
import Derived.Test.YtnojmocoifodjaaExprTwoV3
import Derived.Test.YtnojmocoifodjaaExprTwoV2
import Derived.ChangeArms
import Derived.ChangeShapes
import Derived.DataReads
set_option maxRecDepth 100000
set_option maxHeartbeats 4000000
set_option linter.unusedVariables false
set_option linter.unusedSimpArgs false
namespace Go.Proofs.Ytnojmocoifodjaa.Pv
open Go Go.Proofs
mutual
theorem typV_sz : ∀ v, szT (typV v) ≤ szV v
  | .mk k i b s t => by
    have := typVs_sz t
    rw [typV, szT, szV]; omega
theorem typVs_sz : ∀ l, szTs (typVs l) ≤ szVs l
  | [] => by simp [typVs, szTs, szVs]
  | x :: l => by
    have h1 := typV_sz x
    have h2 := typVs_sz l
    rw [typVs, szTs, szVs]; omega
end
mutual
def wX : Ex4 → Nat → Nat
  | .mk _ v _ a, T => 2 + szV v + T + wXs a T
def wXs : List Ex4 → Nat → Nat
  | [], _ => 0
  | x :: l, T => wX x T + wXs l T
end
theorem wXs_mem : ∀ {l : List Ex4} {e : Ex4} (T : Nat), e ∈ l → wX e T ≤ wXs l T
  | [], e, T, he => by simp at he
  | x :: l, e, T, he => by
    rw [wXs]
    rcases List.mem_cons.1 he with rfl | he
    · omega
    · have := wXs_mem T he; omega
theorem wXs_len (T : Nat) : ∀ l : List Ex4, l.length ≤ wXs l T
  | [] => by simp
  | x :: l => by have := wXs_len T l; rw [wXs, List.length_cons]; cases x; rw [wX]; omega
theorem szT_getD (l : List Ty) (i : Nat) : szT (l.getD i .zero) ≤ szTs l + 1 := by
  by_cases h : i < l.length
  · have hx : l[i]? = some l[i] := List.getElem?_eq_getElem h
    rw [lgetD hx]
    have := szTs_mem (List.getElem_mem h)
    omega
  · have : l[i]? = none := List.getElem?_eq_none (by omega)
    simp [List.getD, this, Ty.zero, szT, szTs]
theorem szT_of (t : Ty) (i : Nat) : szT (t.of.getD i .zero) ≤ szT t := by
  obtain ⟨k, l⟩ := t
  have := szT_getD l i
  rw [szT]
  show szT (l.getD i .zero) ≤ _
  omega
theorem comes_sz (op : List UInt8) (v : Vl) (n : Int) (s : Shp) (l : List Ty) (tin : Ty) : szT (comesX op v n s l tin).1 ≤ 2 + szV v + szT tin + szTs l := by
  have z : szT Ty.zero = 1 := by simp [Ty.zero, szT, szTs]
  unfold comesX
  split
  · unfold typOfM
    have := typV_sz v
    split <;> simp only [] <;> omega
  split
  · simp only []; omega
  split
  · have h1 := szT_getD l 0
    have h2 := szT_of (l.getD 0 .zero) n.toNat
    split <;> simp only [] <;> omega
  split
  · split
    · simp only []; omega
    · simp only [szT]; omega
  split
  · have := szT_getD l 1
    simp only []; omega
  · simp only [szT, szTs]; omega
theorem z1 : szT Ty.zero = 1 := by simp [Ty.zero, szT, szTs]
mutual
theorem chkX_sz : ∀ (e : Ex4) (tin : Ty) (d : Nat), szT (chkX e tin d).1 ≤ wX e (szT tin)
  | .mk op v n a, tin, d => by
    have h1 := chkXs_sz a tin (d + 1)
    rw [chkX, wX]
    have h2 := comes_sz op v n
    split
    · simp only [z1]; omega
    · rename_i s _
      have h2 := h2 s (chkXs a tin (d + 1)).1 tin
      repeat' split
      all_goals first | omega | (simp only [z1]; omega)
theorem chkXs_sz : ∀ (l : List Ex4) (tin : Ty) (d : Nat), szTs (chkXs l tin d).1 ≤ wXs l (szT tin)
  | [], tin, d => by simp [chkXs, szTs]
  | x :: l, tin, d => by
    have h1 := chkX_sz x tin d
    have h2 := chkXs_sz l tin d
    rw [chkXs, wXs]
    split
    · simp [szTs]
    · rw [szTs]; omega
end
theorem chkXs_len : ∀ (l : List Ex4) (tin : Ty) (d : Nat), (chkXs l tin d).2 = 0 → (chkXs l tin d).1.length = l.length
  | [], tin, d, _ => by simp [chkXs]
  | x :: l, tin, d, h => by
    rw [chkXs] at h ⊢
    split at h
    · rename_i hne; exact absurd h hne
    · rename_i hne
      rw [if_neg hne]
      simp only [List.length_cons]
      rw [chkXs_len l tin d h]
theorem chkXs_drop {a : List Ex4} {k : Nat} {x : Ex4} (h : a.drop k = x :: a.drop (k + 1)) (tin : Ty) (d : Nat) : (chkXs (a.drop k) tin d) = if (chkX x tin d).2 ≠ 0 then ([], (chkX x tin d).2) else ((chkX x tin d).1 :: (chkXs (a.drop (k + 1)) tin d).1, (chkXs (a.drop (k + 1)) tin d).2) := by
  rw [h, chkXs]
theorem expr_check {E : Enc} (hE : E = .std) : ∀ (n : Nat) (e : Ex4) (tin : Ty) (d : Nat), SizeOf.sizeOf e ≤ n → wX e (szT tin) ≤ 2 ^ 27 → d ≤ 1000 → CallsV Try.prog 77 [E.ex e, E.tyc tin, .int .i64 (Int.ofNat d)] (.tup [.pv (E.tyc (chkX e tin d).1), .pv (.int .i64 (chkX e tin d).2)]) [] := by
  intro n
  induction n with
  | zero => intro e tin d h; cases e; simp at h
  | succ n ih =>
    rintro ⟨op, ⟨vk, vi, vb, vs, vt⟩, nn, a⟩ ⟨tk, tl⟩ d hn hsz hd
    obtain ⟨A, hA⟩ : ∃ A : Ar, A = .std := ⟨_, rfl⟩
    have ht0 : E .tys [] = [] := by rw [E.tys_eq hE]; rfl
    rw [wX] at hsz
    have hlen := wXs_len (szT ⟨tk, tl⟩) a
    obtain ⟨ln, hln⟩ : ∃ n, n = a.length := ⟨_, rfl⟩
    have hll : A .lenP (E .exs a) = Int.ofNat ln := by rw [Ar.lenP_eq hA, exs_len hE, hln]; rfl
    obtain ⟨d1, hd1⟩ : ∃ d1, d1 = d + 1 := ⟨_, rfl⟩
    have hsub : d ≤ 12 → ∀ x, x ∈ a → CallsV Try.prog 77 [E.ex x, E.tyc ⟨tk, tl⟩, .int .i64 (Int.ofNat d1)] (.tup [.pv (E.tyc (chkX x ⟨tk, tl⟩ d1).1), .pv (.int .i64 (chkX x ⟨tk, tl⟩ d1).2)]) [] := fun hd x hx => by
      have h1 := List.sizeOf_lt_of_mem hx
      have h2 := wXs_mem (szT ⟨tk, tl⟩) hx
      rw [hd1]
      simp at hn
      exact ih x _ (d + 1) (by omega) (by omega) (by omega)
    clear ih
    have cs := expr_shapes.still (by rfl)
    have cF := expr_find shpT op (shpT.map encS) rfl (by decide)
    rw [show findS shpT op = shpOf op from rfl] at cF
    have cV := val_Check hE ⟨vk, vi, vb, vs, vt⟩ (by omega)
    have q1 : A .seq op [108, 105, 116] = decide (op = oLit) := Ar.seq_eq hA _ _
    have q2 : A .lt 12 (Int.ofNat d) = decide (12 < d) := ofNat_lt hA 12 d
    rw [chkX, ← hd1]
    generalize hes : shpT.map encS = es at cs cF
    cases hs : shpOf op with
    | none =>
      rw [hs] at cF
      dsimp only
      refine CallsV.ok (fn := Try.f77) (by kernel_rfl) (by kernel_rfl) rfl (by cbv) (by cbv) ?_
      repeat (first | (apply Ok.run1 hmix hA false 2000; focus (cbv; done)) | (apply Ok.one hmix hA; focus (cbv; done)) | (rw [Ar.notT hA]) | (rw [Ar.notF hA]) | (refine Ok.condT ?_ ?_; focus (cbv; done)) | (refine Ok.condF ?_ ?_; focus (cbv; done)) | (refine Ok.drawnE (by as_aux_lemma => kernel_rfl) ?_) | (apply Ok.call (cs); (focus (cbv; done)); (focus (cbv; done)); (focus (cbv; done))) | (apply Ok.dcall (cs); (focus (cbv; done)); (focus (cbv; done)); (focus (cbv; done))) | (apply Ok.call (cF); (focus (cbv; done)); (focus (cbv; done)); (focus (cbv; done))) | (apply Ok.dcall (cF); (focus (cbv; done)); (focus (cbv; done)); (focus (cbv; done))))
      (first | (apply Ok.fin1; (focus (cbv; done)); (focus (cbv; done))) | (apply Ok.fin2; (focus (cbv; done)); (focus (cbv; done))) | (apply Ok.fin3; (focus (cbv; done)); (focus (cbv; done))))
      all_goals first | rfl | simp [Enc.tyc, ht0, Ty.zero]
    | some s =>
      rw [hs] at cF
      dsimp only
      have hgood := shpOf_good hs
      have cf := expr_fields hE op ⟨vk, vi, vb, vs, vt⟩ nn a s (by omega)
      obtain ⟨F, hF⟩ : ∃ f, f = fieldsX op ⟨vk, vi, vb, vs, vt⟩ nn a.length s := ⟨_, rfl⟩
      rw [← hF] at cf ⊢
      have hR := chkXs_sz a ⟨tk, tl⟩ d1
      have hRl := chkXs_len a ⟨tk, tl⟩ d1
      obtain ⟨R, hRR⟩ : ∃ R, R = chkXs a ⟨tk, tl⟩ d1 := ⟨_, rfl⟩
      rw [← hRR] at hR hRl ⊢
      have hFl : F = true → s.least ≤ a.length := by
        intro h
        rw [h] at hF
        unfold fieldsX at hF
        have := hF.symm
        simp only [Bool.and_eq_true, decide_eq_true_eq] at this
        exact this.1.1.1
      simp only [Shp.good, Bool.and_eq_true, Bool.or_eq_true, decide_eq_true_eq, Bool.not_eq_true'] at hgood
      obtain ⟨⟨⟨⟨⟨g0, g1⟩, g2⟩, g3⟩, g4⟩, g5⟩ := hgood
      have cfit : F = true → R.2 = 0 → CallsV Try.prog 114 [.agg s.cells, .view (E .tys R.1)] (.pv (.bool (fitsX s R.1))) [] := fun hf h0 => by
        have := hFl hf
        have := hRl h0
        refine expr_fits hE s R.1 (by omega) (fun h => ?_) (by omega) (by omega)
        rcases g2 with h2 | h2
        · rw [h2] at h; cases h
        · omega
      have ccom : F = true → R.2 = 0 → CallsV Try.prog 115 [E.ex ⟨op, ⟨vk, vi, vb, vs, vt⟩, nn, a⟩, .agg s.cells, .view (E .tys R.1), E.tyc ⟨tk, tl⟩] (.tup [.pv (E.tyc (comesX op ⟨vk, vi, vb, vs, vt⟩ nn s R.1 ⟨tk, tl⟩).1), .pv (.int .i64 (comesX op ⟨vk, vi, vb, vs, vt⟩ nn s R.1 ⟨tk, tl⟩).2)]) [] := fun hf h0 => by
        have := hFl hf
        have := hRl h0
        refine expr_comes hE op _ nn a s R.1 _ (by omega) (by omega) (fun h => ?_) (fun h => ?_)
        · rcases g3 with h3 | h3
          · exact absurd h h3
          · omega
        · rcases g4 with h3 | h3
          · exact absurd h h3
          · omega
      generalize comesX op ⟨vk, vi, vb, vs, vt⟩ nn s R.1 ⟨tk, tl⟩ = CR at ccom ⊢
      obtain ⟨⟨ck, cl⟩, ce⟩ := CR
      generalize fitsX s R.1 = FT at cfit ⊢
      rw [show (some s).getD Shp.zero = s from rfl] at cF
      clear g0 g1 g2 g3 g4 g5 hFl hs hF
      obtain ⟨least, most, of, alike, out⟩ := s
      obtain ⟨ofs, hofs⟩ : ∃ o : List PV, o = of.map fun k => .int .i64 k := ⟨_, rfl⟩
      have hcells : (Shp.mk least most of alike out).cells = [.int .i64 least, .int .i64 most, .view ofs, .bool alike, .int .i64 out] := by rw [hofs]; rfl
      rw [hcells] at cF cf cfit ccom
      generalize hvv : ckV ⟨vk, vi, vb, vs, vt⟩ 0 = vv at cV ⊢
      refine CallsV.ok (fn := Try.f77) (by kernel_rfl) (by kernel_rfl) rfl (by cbv) (by cbv) ?_
      repeat (first | (apply Ok.run1 hmix hA false 2000; focus (cbv; done)) | (apply Ok.one hmix hA; focus (cbv; done)) | (rw [Ar.notT hA]) | (rw [Ar.notF hA]) | (refine Ok.condT ?_ ?_; focus (cbv; done)) | (refine Ok.condF ?_ ?_; focus (cbv; done)) | (refine Ok.drawnE (by as_aux_lemma => kernel_rfl) ?_) | (apply Ok.call (cs); (focus (cbv; done)); (focus (cbv; done)); (focus (cbv; done))) | (apply Ok.dcall (cs); (focus (cbv; done)); (focus (cbv; done)); (focus (cbv; done))) | (apply Ok.call (cF); (focus (cbv; done)); (focus (cbv; done)); (focus (cbv; done))) | (apply Ok.dcall (cF); (focus (cbv; done)); (focus (cbv; done)); (focus (cbv; done))))
      rw [q2]
      by_cases h12 : 12 < d
      · rw [decide_eq_true h12, if_pos h12]
        repeat (first | (apply Ok.run1 hmix hA false 2000; focus (cbv; done)) | (apply Ok.one hmix hA; focus (cbv; done)) | (rw [Ar.notT hA]) | (rw [Ar.notF hA]) | (refine Ok.condT ?_ ?_; focus (cbv; done)) | (refine Ok.condF ?_ ?_; focus (cbv; done)) | (refine Ok.drawnE (by as_aux_lemma => kernel_rfl) ?_))
        (first | (apply Ok.fin1; (focus (cbv; done)); (focus (cbv; done))) | (apply Ok.fin2; (focus (cbv; done)); (focus (cbv; done))) | (apply Ok.fin3; (focus (cbv; done)); (focus (cbv; done))))
        all_goals first | rfl | simp [Enc.tyc, ht0, Ty.zero]
      rw [decide_eq_false h12, if_neg h12]
      repeat (first | (apply Ok.run1 hmix hA false 2000; focus (cbv; done)) | (apply Ok.one hmix hA; focus (cbv; done)) | (rw [Ar.notT hA]) | (rw [Ar.notF hA]) | (refine Ok.condT ?_ ?_; focus (cbv; done)) | (refine Ok.condF ?_ ?_; focus (cbv; done)) | (refine Ok.drawnE (by as_aux_lemma => kernel_rfl) ?_) | (apply Ok.call (cf); (focus (cbv; done)); (focus (cbv; done)); (focus (cbv; done))) | (apply Ok.dcall (cf); (focus (cbv; done)); (focus (cbv; done)); (focus (cbv; done))))
      cases F with
      | false =>
        rw [if_pos rfl]
        repeat (first | (apply Ok.run1 hmix hA false 2000; focus (cbv; done)) | (apply Ok.one hmix hA; focus (cbv; done)) | (rw [Ar.notT hA]) | (rw [Ar.notF hA]) | (refine Ok.condT ?_ ?_; focus (cbv; done)) | (refine Ok.condF ?_ ?_; focus (cbv; done)) | (refine Ok.drawnE (by as_aux_lemma => kernel_rfl) ?_))
        (first | (apply Ok.fin1; (focus (cbv; done)); (focus (cbv; done))) | (apply Ok.fin2; (focus (cbv; done)); (focus (cbv; done))) | (apply Ok.fin3; (focus (cbv; done)); (focus (cbv; done))))
        all_goals first | rfl | simp [Enc.tyc, ht0, Ty.zero]
      | true =>
      rw [if_neg (by simp)]
      have cfit := cfit rfl
      have ccom := ccom rfl
      have hsub := hsub (by omega)
      repeat (first | (apply Ok.run1 hmix hA false 2000; focus (cbv; done)) | (apply Ok.one hmix hA; focus (cbv; done)) | (rw [Ar.notT hA]) | (rw [Ar.notF hA]) | (refine Ok.condT ?_ ?_; focus (cbv; done)) | (refine Ok.condF ?_ ?_; focus (cbv; done)) | (refine Ok.drawnE (by as_aux_lemma => kernel_rfl) ?_))
      rw [q1]
      by_cases kl : op = oLit
      · rw [decide_eq_true kl]
        repeat (first | (apply Ok.run1 hmix hA false 2000; focus (cbv; done)) | (apply Ok.one hmix hA; focus (cbv; done)) | (rw [Ar.notT hA]) | (rw [Ar.notF hA]) | (refine Ok.condT ?_ ?_; focus (cbv; done)) | (refine Ok.condF ?_ ?_; focus (cbv; done)) | (refine Ok.drawnE (by as_aux_lemma => kernel_rfl) ?_) | (apply Ok.call (cV); (focus (cbv; done)); (focus (cbv; done)); (focus (cbv; done))) | (apply Ok.dcall (cV); (focus (cbv; done)); (focus (cbv; done)); (focus (cbv; done))))
        rw [Ar.eq_eq hA, Ar.not_eq hA]
        by_cases v0 : vv = 0
        · rw [decide_eq_true v0, if_neg (by intro h; exact h.2 v0)]
          repeat (first | (apply Ok.run1 hmix hA false 2000; focus (cbv; done)) | (apply Ok.one hmix hA; focus (cbv; done)) | (rw [Ar.notT hA]) | (rw [Ar.notF hA]) | (refine Ok.condT ?_ ?_; focus (cbv; done)) | (refine Ok.condF ?_ ?_; focus (cbv; done)) | (refine Ok.drawnE (by as_aux_lemma => kernel_rfl) ?_))
          rw [hll]
          refine Ok.le (Le.nil 11 70 24 2 (by cbv) (by cbv) (by decide)) ?_
          refine Ok.loopAt [2, 3, 4, 6, 7, 8, 11, 49, 50, 51] [3, 4, 6, 8, 70] (fun m s h => ∃ (k j : Nat) (acc : List Ty) (es : List PV), m = ln - k ∧ k ≤ ln ∧ j = k ∧ acc.length = k ∧ (chkXs (a.drop k) ⟨tk, tl⟩ d1).2 = R.2 ∧ (R.2 = 0 → acc ++ (chkXs (a.drop k) ⟨tk, tl⟩ d1).1 = R.1) ∧ es = E .tys acc ∧
            s = mkS 85 [(2, .pv (.int .i64 (Int.ofNat d))), (3, .ptr 3 0), (4, .ptr 4 0), (6, .ptr 6 0), (7, .pv (.int .i64 0)), (8, .ptr 8 0), (11, .ref 70 j), (49, .pv (.view (E .exs a))), (50, .pv (.int .i64 (Int.ofNat ln))), (51, .pv (.int .i64 (Int.ofNat k)))] ∧
            h = [(3, .box [.pv (.str op), .pv (.int .i64 vk), .pv (.int .i64 vi), .pv (.bool vb), .pv (.str vs), .pv (.view (E .vls vt)), .pv (.int .i64 nn), .pv (.view (E .exs a))] true), (4, .box [.pv (.int .i64 tk), .pv (.view (E .tys tl))] true), (6, .box [.pv (.int .i64 0), .pv .nil] true), (8, .box [.pv (.int .i64 least), .pv (.int .i64 most), .pv (.view ofs), .pv (.bool alike), .pv (.int .i64 out)] true), (70, .row 24 2 es true)]) (ln - 0) (by cbv) ⟨0, 0, [], [], rfl, Nat.zero_le _, rfl, rfl, by rw [hRR]; rfl, fun _ => by rw [hRR]; rfl, by rw [ht0], by cbv, by cbv⟩ ?_
          rintro m s h ⟨k, j, acc, es', rfl, hk, hj, hacc, hc2, hc1, hes', rfl, rfl⟩
          have hesl' : j = es'.length := by rw [hes', tys_len hE, hj, hacc]
          refine Ok.run hmix hA false 2000 (by cbv) ?_
          rw [ofNat_lt hA]
          by_cases hkl : k < ln
          · rw [decide_eq_true hkl]
            repeat (first | (apply Ok.run1 hmix hA false 2000; focus (cbv; done)) | (apply Ok.one hmix hA; focus (cbv; done)) | (rw [Ar.notT hA]) | (rw [Ar.notF hA]) | (refine Ok.condT ?_ ?_; focus (cbv; done)) | (refine Ok.condF ?_ ?_; focus (cbv; done)) | (refine Ok.drawnE (by as_aux_lemma => kernel_rfl) ?_))
            have hx : a[k]? = some (a[k]'(by omega)) := List.getElem?_eq_getElem (by omega)
            have hxm : a[k]'(by omega) ∈ a := List.getElem_mem (by omega)
            have hdl : a.drop k = a[k]'(by omega) :: a.drop (k + 1) := List.drop_eq_getElem_cons (by omega)
            generalize a[k]'(by omega) = x at hx hdl hxm
            rw [chkXs_drop hdl] at hc2 hc1
            have cx := hsub x hxm
            generalize chkX x ⟨tk, tl⟩ d1 = cr at cx hc2 hc1
            obtain ⟨⟨xk, xl⟩, xe⟩ := cr
            dsimp only at cx hc2 hc1
            refine Ok.op (idx_view (E.ex x) (by cbv) (by cbv) (by simp) (by rw [E.exs_eq hE]; simp [hx]) rfl) ?_
            refine Ok.run hmix hA false 2000 (by cbv) ?_
            rw [Ar.succ_eq (k := d) hA (by omega), ← hd1]
            repeat (first | (apply Ok.run1 hmix hA false 2000; focus (cbv; done)) | (apply Ok.one hmix hA; focus (cbv; done)) | (rw [Ar.notT hA]) | (rw [Ar.notF hA]) | (refine Ok.condT ?_ ?_; focus (cbv; done)) | (refine Ok.condF ?_ ?_; focus (cbv; done)) | (refine Ok.drawnE (by as_aux_lemma => kernel_rfl) ?_) | (apply Ok.call (cx); (focus (cbv; done)); (focus (cbv; done)); (focus (cbv; done))) | (apply Ok.dcall (cx); (focus (cbv; done)); (focus (cbv; done)); (focus (cbv; done))))
            rw [Ar.eq_eq hA, Ar.not_eq hA]
            by_cases h0 : xe = 0
            · rw [if_neg (by simpa using h0)] at hc2
              rw [if_neg (by simpa using h0)] at hc1
              rw [decide_eq_true h0]
              obtain ⟨es3, hes3⟩ : ∃ es3, es3 = es' ++ [E.tyc ⟨xk, xl⟩] := ⟨_, rfl⟩
              obtain ⟨n3, hn3⟩ : ∃ n3, n3 = j + 1 := ⟨_, rfl⟩
              repeat (first | (apply Ok.run1 hmix hA false 2000; focus (cbv; done)) | (apply Ok.one hmix hA; focus (cbv; done)) | (rw [Ar.notT hA]) | (rw [Ar.notF hA]) | (refine Ok.condT ?_ ?_; focus (cbv; done)) | (refine Ok.condF ?_ ?_; focus (cbv; done)) | (refine Ok.drawnE (by as_aux_lemma => kernel_rfl) ?_))
              refine Ok.op (app_ref (by cbv) (by cbv) hesl' (by cbv) (by cbv) (by decide) (by simp only [List.length_singleton]; omega) (by unfold maxLen; simp only [List.length_singleton]; omega) n3 (by exact hn3) es3 (by rw [hes3]; rfl)) ?_
              repeat (first | (apply Ok.run1 hmix hA false 2000; focus (cbv; done)) | (apply Ok.one hmix hA; focus (cbv; done)) | (rw [Ar.notT hA]) | (rw [Ar.notF hA]) | (refine Ok.condT ?_ ?_; focus (cbv; done)) | (refine Ok.condF ?_ ?_; focus (cbv; done)) | (refine Ok.drawnE (by as_aux_lemma => kernel_rfl) ?_))
              rw [Ar.succ_eq (k := k) hA (by omega)]
              exact Ok.back (ln - (k + 1)) [2, 3, 4, 6, 7, 8, 11, 49, 50, 51] [3, 4, 6, 8, 70] (by omega) (by cbv) ⟨k + 1, n3, acc ++ [⟨xk, xl⟩], es3, rfl, by omega, by omega, by simp; omega, hc2, fun h => by rw [← hc1 h]; simp, by rw [hes3, hes', E.tys_eq hE, E.tys_eq hE, List.map_append]; rfl, by cbv, by cbv⟩
            · rw [if_pos h0] at hc2
              dsimp only at hc2
              rw [decide_eq_false h0]
              have hR2 : R.2 ≠ 0 := by rw [← hc2]; exact h0
              rw [if_pos hR2, ← hc2]
              repeat (first | (apply Ok.run1 hmix hA false 2000; focus (cbv; done)) | (apply Ok.one hmix hA; focus (cbv; done)) | (rw [Ar.notT hA]) | (rw [Ar.notF hA]) | (refine Ok.condT ?_ ?_; focus (cbv; done)) | (refine Ok.condF ?_ ?_; focus (cbv; done)) | (refine Ok.drawnE (by as_aux_lemma => kernel_rfl) ?_))
              refine Ok.leaveRet ?_
              repeat (first | (apply Ok.run1 hmix hA false 2000; focus (cbv; done)) | (apply Ok.one hmix hA; focus (cbv; done)) | (rw [Ar.notT hA]) | (rw [Ar.notF hA]) | (refine Ok.condT ?_ ?_; focus (cbv; done)) | (refine Ok.condF ?_ ?_; focus (cbv; done)) | (refine Ok.drawnE (by as_aux_lemma => kernel_rfl) ?_))
              (first | (apply Ok.fin1; (focus (cbv; done)); (focus (cbv; done))) | (apply Ok.fin2; (focus (cbv; done)); (focus (cbv; done))) | (apply Ok.fin3; (focus (cbv; done)); (focus (cbv; done))))
              all_goals first | rfl | simp [Enc.tyc, ht0, Ty.zero]
          · rw [decide_eq_false hkl]
            have hke : a.drop k = [] := List.drop_eq_nil_iff.2 (by omega)
            rw [hke] at hc2 hc1
            have hR2 : R.2 = 0 := hc2.symm
            have hR1 : acc = R.1 := by have := hc1 hR2; simpa [chkXs] using this
            have cfit := cfit hR2
            have ccom := ccom hR2
            rw [if_neg (by simpa using hR2)]
            have cclip := slices_ClipT hE R.1
            rw [← hR1, ← hes'] at cfit ccom cclip
            repeat (first | (apply Ok.run1 hmix hA false 2000; focus (cbv; done)) | (apply Ok.one hmix hA; focus (cbv; done)) | (rw [Ar.notT hA]) | (rw [Ar.notF hA]) | (refine Ok.condT ?_ ?_; focus (cbv; done)) | (refine Ok.condF ?_ ?_; focus (cbv; done)) | (refine Ok.drawnE (by as_aux_lemma => kernel_rfl) ?_))
            refine Ok.leave ?_
            repeat (first | (apply Ok.run1 hmix hA false 2000; focus (cbv; done)) | (apply Ok.one hmix hA; focus (cbv; done)) | (rw [Ar.notT hA]) | (rw [Ar.notF hA]) | (refine Ok.condT ?_ ?_; focus (cbv; done)) | (refine Ok.condF ?_ ?_; focus (cbv; done)) | (refine Ok.drawnE (by as_aux_lemma => kernel_rfl) ?_))
            refine Ok.call (ids := [70]) (cfit) (by cbv) (by simp [callArgs, frz2, frz1, frz0, frzL, rowOf, hget, ev, PV.rlx, ← hesl']) (by cbv) ?_
            cases FT with
            | false =>
              rw [if_pos rfl]
              repeat (first | (apply Ok.run1 hmix hA false 2000; focus (cbv; done)) | (apply Ok.one hmix hA; focus (cbv; done)) | (rw [Ar.notT hA]) | (rw [Ar.notF hA]) | (refine Ok.condT ?_ ?_; focus (cbv; done)) | (refine Ok.condF ?_ ?_; focus (cbv; done)) | (refine Ok.drawnE (by as_aux_lemma => kernel_rfl) ?_))
              (first | (apply Ok.fin1; (focus (cbv; done)); (focus (cbv; done))) | (apply Ok.fin2; (focus (cbv; done)); (focus (cbv; done))) | (apply Ok.fin3; (focus (cbv; done)); (focus (cbv; done))))
              all_goals first | rfl | simp [Enc.tyc, ht0, Ty.zero]
            | true =>
              rw [if_neg (by simp)]
              repeat (first | (apply Ok.run1 hmix hA false 2000; focus (cbv; done)) | (apply Ok.one hmix hA; focus (cbv; done)) | (rw [Ar.notT hA]) | (rw [Ar.notF hA]) | (refine Ok.condT ?_ ?_; focus (cbv; done)) | (refine Ok.condF ?_ ?_; focus (cbv; done)) | (refine Ok.drawnE (by as_aux_lemma => kernel_rfl) ?_))
              refine Ok.dcall (ids := [70]) (cclip) (by cbv) (by simp [callArgs, frz2, frz1, frz0, frzL, rowOf, hget, ev, PV.rlx, ← hesl']) (by cbv) ?_
              repeat (first | (apply Ok.run1 hmix hA false 2000; focus (cbv; done)) | (apply Ok.one hmix hA; focus (cbv; done)) | (rw [Ar.notT hA]) | (rw [Ar.notF hA]) | (refine Ok.condT ?_ ?_; focus (cbv; done)) | (refine Ok.condF ?_ ?_; focus (cbv; done)) | (refine Ok.drawnE (by as_aux_lemma => kernel_rfl) ?_) | (apply Ok.call (ccom); (focus (cbv; done)); (focus (cbv; done)); (focus (cbv; done))) | (apply Ok.dcall (ccom); (focus (cbv; done)); (focus (cbv; done)); (focus (cbv; done))))
              (first | (apply Ok.fin1; (focus (cbv; done)); (focus (cbv; done))) | (apply Ok.fin2; (focus (cbv; done)); (focus (cbv; done))) | (apply Ok.fin3; (focus (cbv; done)); (focus (cbv; done))))
              all_goals first | rfl | simp [Enc.tyc]
        · rw [decide_eq_false v0, if_pos ⟨kl, v0⟩]
          repeat (first | (apply Ok.run1 hmix hA false 2000; focus (cbv; done)) | (apply Ok.one hmix hA; focus (cbv; done)) | (rw [Ar.notT hA]) | (rw [Ar.notF hA]) | (refine Ok.condT ?_ ?_; focus (cbv; done)) | (refine Ok.condF ?_ ?_; focus (cbv; done)) | (refine Ok.drawnE (by as_aux_lemma => kernel_rfl) ?_))
          (first | (apply Ok.fin1; (focus (cbv; done)); (focus (cbv; done))) | (apply Ok.fin2; (focus (cbv; done)); (focus (cbv; done))) | (apply Ok.fin3; (focus (cbv; done)); (focus (cbv; done))))
          all_goals first | rfl | simp [Enc.tyc, ht0, Ty.zero]
      · rw [decide_eq_false kl, if_neg (by intro h; exact kl h.1)]
        repeat (first | (apply Ok.run1 hmix hA false 2000; focus (cbv; done)) | (apply Ok.one hmix hA; focus (cbv; done)) | (rw [Ar.notT hA]) | (rw [Ar.notF hA]) | (refine Ok.condT ?_ ?_; focus (cbv; done)) | (refine Ok.condF ?_ ?_; focus (cbv; done)) | (refine Ok.drawnE (by as_aux_lemma => kernel_rfl) ?_))
        rw [hll]
        refine Ok.le (Le.nil 11 70 24 2 (by cbv) (by cbv) (by decide)) ?_
        refine Ok.loopAt [2, 3, 4, 6, 7, 8, 11, 49, 50, 51] [3, 4, 6, 8, 70] (fun m s h => ∃ (k j : Nat) (acc : List Ty) (es : List PV), m = ln - k ∧ k ≤ ln ∧ j = k ∧ acc.length = k ∧ (chkXs (a.drop k) ⟨tk, tl⟩ d1).2 = R.2 ∧ (R.2 = 0 → acc ++ (chkXs (a.drop k) ⟨tk, tl⟩ d1).1 = R.1) ∧ es = E .tys acc ∧
          s = mkS 85 [(2, .pv (.int .i64 (Int.ofNat d))), (3, .ptr 3 0), (4, .ptr 4 0), (6, .ptr 6 0), (7, .pv (.int .i64 0)), (8, .ptr 8 0), (11, .ref 70 j), (49, .pv (.view (E .exs a))), (50, .pv (.int .i64 (Int.ofNat ln))), (51, .pv (.int .i64 (Int.ofNat k)))] ∧
          h = [(3, .box [.pv (.str op), .pv (.int .i64 vk), .pv (.int .i64 vi), .pv (.bool vb), .pv (.str vs), .pv (.view (E .vls vt)), .pv (.int .i64 nn), .pv (.view (E .exs a))] true), (4, .box [.pv (.int .i64 tk), .pv (.view (E .tys tl))] true), (6, .box [.pv (.int .i64 0), .pv .nil] true), (8, .box [.pv (.int .i64 least), .pv (.int .i64 most), .pv (.view ofs), .pv (.bool alike), .pv (.int .i64 out)] true), (70, .row 24 2 es true)]) (ln - 0) (by cbv) ⟨0, 0, [], [], rfl, Nat.zero_le _, rfl, rfl, by rw [hRR]; rfl, fun _ => by rw [hRR]; rfl, by rw [ht0], by cbv, by cbv⟩ ?_
        rintro m s h ⟨k, j, acc, es', rfl, hk, hj, hacc, hc2, hc1, hes', rfl, rfl⟩
        have hesl' : j = es'.length := by rw [hes', tys_len hE, hj, hacc]
        refine Ok.run hmix hA false 2000 (by cbv) ?_
        rw [ofNat_lt hA]
        by_cases hkl : k < ln
        · rw [decide_eq_true hkl]
          repeat (first | (apply Ok.run1 hmix hA false 2000; focus (cbv; done)) | (apply Ok.one hmix hA; focus (cbv; done)) | (rw [Ar.notT hA]) | (rw [Ar.notF hA]) | (refine Ok.condT ?_ ?_; focus (cbv; done)) | (refine Ok.condF ?_ ?_; focus (cbv; done)) | (refine Ok.drawnE (by as_aux_lemma => kernel_rfl) ?_))
          have hx : a[k]? = some (a[k]'(by omega)) := List.getElem?_eq_getElem (by omega)
          have hxm : a[k]'(by omega) ∈ a := List.getElem_mem (by omega)
          have hdl : a.drop k = a[k]'(by omega) :: a.drop (k + 1) := List.drop_eq_getElem_cons (by omega)
          generalize a[k]'(by omega) = x at hx hdl hxm
          rw [chkXs_drop hdl] at hc2 hc1
          have cx := hsub x hxm
          generalize chkX x ⟨tk, tl⟩ d1 = cr at cx hc2 hc1
          obtain ⟨⟨xk, xl⟩, xe⟩ := cr
          dsimp only at cx hc2 hc1
          refine Ok.op (idx_view (E.ex x) (by cbv) (by cbv) (by simp) (by rw [E.exs_eq hE]; simp [hx]) rfl) ?_
          refine Ok.run hmix hA false 2000 (by cbv) ?_
          rw [Ar.succ_eq (k := d) hA (by omega), ← hd1]
          repeat (first | (apply Ok.run1 hmix hA false 2000; focus (cbv; done)) | (apply Ok.one hmix hA; focus (cbv; done)) | (rw [Ar.notT hA]) | (rw [Ar.notF hA]) | (refine Ok.condT ?_ ?_; focus (cbv; done)) | (refine Ok.condF ?_ ?_; focus (cbv; done)) | (refine Ok.drawnE (by as_aux_lemma => kernel_rfl) ?_) | (apply Ok.call (cx); (focus (cbv; done)); (focus (cbv; done)); (focus (cbv; done))) | (apply Ok.dcall (cx); (focus (cbv; done)); (focus (cbv; done)); (focus (cbv; done))))
          rw [Ar.eq_eq hA, Ar.not_eq hA]
          by_cases h0 : xe = 0
          · rw [if_neg (by simpa using h0)] at hc2
            rw [if_neg (by simpa using h0)] at hc1
            rw [decide_eq_true h0]
            obtain ⟨es3, hes3⟩ : ∃ es3, es3 = es' ++ [E.tyc ⟨xk, xl⟩] := ⟨_, rfl⟩
            obtain ⟨n3, hn3⟩ : ∃ n3, n3 = j + 1 := ⟨_, rfl⟩
            repeat (first | (apply Ok.run1 hmix hA false 2000; focus (cbv; done)) | (apply Ok.one hmix hA; focus (cbv; done)) | (rw [Ar.notT hA]) | (rw [Ar.notF hA]) | (refine Ok.condT ?_ ?_; focus (cbv; done)) | (refine Ok.condF ?_ ?_; focus (cbv; done)) | (refine Ok.drawnE (by as_aux_lemma => kernel_rfl) ?_))
            refine Ok.op (app_ref (by cbv) (by cbv) hesl' (by cbv) (by cbv) (by decide) (by simp only [List.length_singleton]; omega) (by unfold maxLen; simp only [List.length_singleton]; omega) n3 (by exact hn3) es3 (by rw [hes3]; rfl)) ?_
            repeat (first | (apply Ok.run1 hmix hA false 2000; focus (cbv; done)) | (apply Ok.one hmix hA; focus (cbv; done)) | (rw [Ar.notT hA]) | (rw [Ar.notF hA]) | (refine Ok.condT ?_ ?_; focus (cbv; done)) | (refine Ok.condF ?_ ?_; focus (cbv; done)) | (refine Ok.drawnE (by as_aux_lemma => kernel_rfl) ?_))
            rw [Ar.succ_eq (k := k) hA (by omega)]
            exact Ok.back (ln - (k + 1)) [2, 3, 4, 6, 7, 8, 11, 49, 50, 51] [3, 4, 6, 8, 70] (by omega) (by cbv) ⟨k + 1, n3, acc ++ [⟨xk, xl⟩], es3, rfl, by omega, by omega, by simp; omega, hc2, fun h => by rw [← hc1 h]; simp, by rw [hes3, hes', E.tys_eq hE, E.tys_eq hE, List.map_append]; rfl, by cbv, by cbv⟩
          · rw [if_pos h0] at hc2
            dsimp only at hc2
            rw [decide_eq_false h0]
            have hR2 : R.2 ≠ 0 := by rw [← hc2]; exact h0
            rw [if_pos hR2, ← hc2]
            repeat (first | (apply Ok.run1 hmix hA false 2000; focus (cbv; done)) | (apply Ok.one hmix hA; focus (cbv; done)) | (rw [Ar.notT hA]) | (rw [Ar.notF hA]) | (refine Ok.condT ?_ ?_; focus (cbv; done)) | (refine Ok.condF ?_ ?_; focus (cbv; done)) | (refine Ok.drawnE (by as_aux_lemma => kernel_rfl) ?_))
            refine Ok.leaveRet ?_
            repeat (first | (apply Ok.run1 hmix hA false 2000; focus (cbv; done)) | (apply Ok.one hmix hA; focus (cbv; done)) | (rw [Ar.notT hA]) | (rw [Ar.notF hA]) | (refine Ok.condT ?_ ?_; focus (cbv; done)) | (refine Ok.condF ?_ ?_; focus (cbv; done)) | (refine Ok.drawnE (by as_aux_lemma => kernel_rfl) ?_))
            (first | (apply Ok.fin1; (focus (cbv; done)); (focus (cbv; done))) | (apply Ok.fin2; (focus (cbv; done)); (focus (cbv; done))) | (apply Ok.fin3; (focus (cbv; done)); (focus (cbv; done))))
            all_goals first | rfl | simp [Enc.tyc, ht0, Ty.zero]
        · rw [decide_eq_false hkl]
          have hke : a.drop k = [] := List.drop_eq_nil_iff.2 (by omega)
          rw [hke] at hc2 hc1
          have hR2 : R.2 = 0 := hc2.symm
          have hR1 : acc = R.1 := by have := hc1 hR2; simpa [chkXs] using this
          have cfit := cfit hR2
          have ccom := ccom hR2
          rw [if_neg (by simpa using hR2)]
          have cclip := slices_ClipT hE R.1
          rw [← hR1, ← hes'] at cfit ccom cclip
          repeat (first | (apply Ok.run1 hmix hA false 2000; focus (cbv; done)) | (apply Ok.one hmix hA; focus (cbv; done)) | (rw [Ar.notT hA]) | (rw [Ar.notF hA]) | (refine Ok.condT ?_ ?_; focus (cbv; done)) | (refine Ok.condF ?_ ?_; focus (cbv; done)) | (refine Ok.drawnE (by as_aux_lemma => kernel_rfl) ?_))
          refine Ok.leave ?_
          repeat (first | (apply Ok.run1 hmix hA false 2000; focus (cbv; done)) | (apply Ok.one hmix hA; focus (cbv; done)) | (rw [Ar.notT hA]) | (rw [Ar.notF hA]) | (refine Ok.condT ?_ ?_; focus (cbv; done)) | (refine Ok.condF ?_ ?_; focus (cbv; done)) | (refine Ok.drawnE (by as_aux_lemma => kernel_rfl) ?_))
          refine Ok.call (ids := [70]) (cfit) (by cbv) (by simp [callArgs, frz2, frz1, frz0, frzL, rowOf, hget, ev, PV.rlx, ← hesl']) (by cbv) ?_
          cases FT with
          | false =>
            rw [if_pos rfl]
            repeat (first | (apply Ok.run1 hmix hA false 2000; focus (cbv; done)) | (apply Ok.one hmix hA; focus (cbv; done)) | (rw [Ar.notT hA]) | (rw [Ar.notF hA]) | (refine Ok.condT ?_ ?_; focus (cbv; done)) | (refine Ok.condF ?_ ?_; focus (cbv; done)) | (refine Ok.drawnE (by as_aux_lemma => kernel_rfl) ?_))
            (first | (apply Ok.fin1; (focus (cbv; done)); (focus (cbv; done))) | (apply Ok.fin2; (focus (cbv; done)); (focus (cbv; done))) | (apply Ok.fin3; (focus (cbv; done)); (focus (cbv; done))))
            all_goals first | rfl | simp [Enc.tyc, ht0, Ty.zero]
          | true =>
            rw [if_neg (by simp)]
            repeat (first | (apply Ok.run1 hmix hA false 2000; focus (cbv; done)) | (apply Ok.one hmix hA; focus (cbv; done)) | (rw [Ar.notT hA]) | (rw [Ar.notF hA]) | (refine Ok.condT ?_ ?_; focus (cbv; done)) | (refine Ok.condF ?_ ?_; focus (cbv; done)) | (refine Ok.drawnE (by as_aux_lemma => kernel_rfl) ?_))
            refine Ok.dcall (ids := [70]) (cclip) (by cbv) (by simp [callArgs, frz2, frz1, frz0, frzL, rowOf, hget, ev, PV.rlx, ← hesl']) (by cbv) ?_
            repeat (first | (apply Ok.run1 hmix hA false 2000; focus (cbv; done)) | (apply Ok.one hmix hA; focus (cbv; done)) | (rw [Ar.notT hA]) | (rw [Ar.notF hA]) | (refine Ok.condT ?_ ?_; focus (cbv; done)) | (refine Ok.condF ?_ ?_; focus (cbv; done)) | (refine Ok.drawnE (by as_aux_lemma => kernel_rfl) ?_) | (apply Ok.call (ccom); (focus (cbv; done)); (focus (cbv; done)); (focus (cbv; done))) | (apply Ok.dcall (ccom); (focus (cbv; done)); (focus (cbv; done)); (focus (cbv; done))))
            (first | (apply Ok.fin1; (focus (cbv; done)); (focus (cbv; done))) | (apply Ok.fin2; (focus (cbv; done)); (focus (cbv; done))) | (apply Ok.fin3; (focus (cbv; done)); (focus (cbv; done))))
            all_goals first | rfl | simp [Enc.tyc]
end Go.Proofs.Ytnojmocoifodjaa.Pv
set_option maxRecDepth 100000
set_option maxHeartbeats 4000000
set_option linter.unusedVariables false
set_option linter.unusedSimpArgs false
namespace Go.Proofs.Ytnojmocoifodjaa.Pv
open Go Go.Proofs
mutual
theorem sizX_wX (T : Nat) : ∀ e, sizX e ≤ wX e T
  | .mk op v n a => by
    have := sizXs_wXs T a
    rw [sizX, wX]; omega
theorem sizXs_wXs (T : Nat) : ∀ l, sizXs l ≤ wXs l T
  | [] => by rw [sizXs, wXs]; exact Nat.le_refl 0
  | x :: l => by
    have := sizX_wX T x
    have := sizXs_wXs T l
    rw [sizXs, wXs]; omega
end
theorem expr_Check {E : Enc} (hE : E = .std) (e : Ex4) (tin : Ty) (hsz : wX e (szT tin) ≤ 2 ^ 27) : CallsV Try.prog 41 [E.ex e, E.tyc tin] (.tup [.pv (E.tyc (chkXTop e tin).1), .pv (.int .i64 (chkXTop e tin).2)]) [] := by
  obtain ⟨A, hA⟩ : ∃ A : Ar, A = .std := ⟨_, rfl⟩
  have ht0 : E .tys [] = [] := by rw [E.tys_eq hE]; rfl
  have hT : szT tin ≤ 2 ^ 27 := by obtain ⟨op, v, n, a⟩ := e; rw [wX] at hsz; omega
  have cT := typ_Check hE tin (by omega)
  have cS := expr_Size hE _ e (Nat.le_refl _) (by have := sizX_wX (szT tin) e; omega)
  have cC := expr_check hE _ e tin 0 (Nat.le_refl _) hsz (by omega)
  obtain ⟨op, ⟨vk, vi, vb, vs, vt⟩, nn, a⟩ := e
  obtain ⟨tk, tl⟩ := tin
  unfold chkXTop
  generalize ckT ⟨tk, tl⟩ 0 = r at cT ⊢
  generalize sizX ⟨op, ⟨vk, vi, vb, vs, vt⟩, nn, a⟩ = sz at cS ⊢
  generalize chkX ⟨op, ⟨vk, vi, vb, vs, vt⟩, nn, a⟩ ⟨tk, tl⟩ 0 = cr at cC ⊢
  obtain ⟨⟨ck, cl⟩, ce⟩ := cr
  dsimp only at cC
  refine CallsV.ok (fn := Try.f41) (by kernel_rfl) (by kernel_rfl) rfl (by cbv) (by cbv) ?_
  repeat (first | (apply Ok.run1 hmix hA false 2000; focus (cbv; done)) | (apply Ok.one hmix hA; focus (cbv; done)) | (rw [Ar.notT hA]) | (rw [Ar.notF hA]) | (refine Ok.condT ?_ ?_; focus (cbv; done)) | (refine Ok.condF ?_ ?_; focus (cbv; done)) | (refine Ok.drawnE (by as_aux_lemma => kernel_rfl) ?_) | (apply Ok.call (cT); (focus (cbv; done)); (focus (cbv; done)); (focus (cbv; done))) | (apply Ok.dcall (cT); (focus (cbv; done)); (focus (cbv; done)); (focus (cbv; done))))
  rw [Ar.eq_eq hA, Ar.not_eq hA]
  by_cases h0 : r = 0
  · rw [decide_eq_true h0, if_neg (by simpa using h0)]
    repeat (first | (apply Ok.run1 hmix hA false 2000; focus (cbv; done)) | (apply Ok.one hmix hA; focus (cbv; done)) | (rw [Ar.notT hA]) | (rw [Ar.notF hA]) | (refine Ok.condT ?_ ?_; focus (cbv; done)) | (refine Ok.condF ?_ ?_; focus (cbv; done)) | (refine Ok.drawnE (by as_aux_lemma => kernel_rfl) ?_) | (apply Ok.call (cS); (focus (cbv; done)); (focus (cbv; done)); (focus (cbv; done))) | (apply Ok.dcall (cS); (focus (cbv; done)); (focus (cbv; done)); (focus (cbv; done))))
    rw [show A .lt 256 (Int.ofNat sz) = decide (256 < sz) from ofNat_lt hA 256 sz]
    by_cases h1 : 256 < sz
    · rw [decide_eq_true h1, if_pos h1]
      repeat (first | (apply Ok.run1 hmix hA false 2000; focus (cbv; done)) | (apply Ok.one hmix hA; focus (cbv; done)) | (rw [Ar.notT hA]) | (rw [Ar.notF hA]) | (refine Ok.condT ?_ ?_; focus (cbv; done)) | (refine Ok.condF ?_ ?_; focus (cbv; done)) | (refine Ok.drawnE (by as_aux_lemma => kernel_rfl) ?_))
      (first | (apply Ok.fin1; (focus (cbv; done)); (focus (cbv; done))) | (apply Ok.fin2; (focus (cbv; done)); (focus (cbv; done))) | (apply Ok.fin3; (focus (cbv; done)); (focus (cbv; done))))
      all_goals first | rfl | simp [Enc.tyc, ht0, Ty.zero]
    · rw [decide_eq_false h1, if_neg h1]
      repeat (first | (apply Ok.run1 hmix hA false 2000; focus (cbv; done)) | (apply Ok.one hmix hA; focus (cbv; done)) | (rw [Ar.notT hA]) | (rw [Ar.notF hA]) | (refine Ok.condT ?_ ?_; focus (cbv; done)) | (refine Ok.condF ?_ ?_; focus (cbv; done)) | (refine Ok.drawnE (by as_aux_lemma => kernel_rfl) ?_) | (apply Ok.call (cC); (focus (cbv; done)); (focus (cbv; done)); (focus (cbv; done))) | (apply Ok.dcall (cC); (focus (cbv; done)); (focus (cbv; done)); (focus (cbv; done))))
      (first | (apply Ok.fin1; (focus (cbv; done)); (focus (cbv; done))) | (apply Ok.fin2; (focus (cbv; done)); (focus (cbv; done))) | (apply Ok.fin3; (focus (cbv; done)); (focus (cbv; done))))
      all_goals first | rfl | simp [Enc.tyc]
  · rw [decide_eq_false h0, if_pos h0]
    repeat (first | (apply Ok.run1 hmix hA false 2000; focus (cbv; done)) | (apply Ok.one hmix hA; focus (cbv; done)) | (rw [Ar.notT hA]) | (rw [Ar.notF hA]) | (refine Ok.condT ?_ ?_; focus (cbv; done)) | (refine Ok.condF ?_ ?_; focus (cbv; done)) | (refine Ok.drawnE (by as_aux_lemma => kernel_rfl) ?_))
    (first | (apply Ok.fin1; (focus (cbv; done)); (focus (cbv; done))) | (apply Ok.fin2; (focus (cbv; done)); (focus (cbv; done))) | (apply Ok.fin3; (focus (cbv; done)); (focus (cbv; done))))
    all_goals first | rfl | simp [Enc.tyc, ht0, Ty.zero]
end Go.Proofs.Ytnojmocoifodjaa.Pv
set_option maxRecDepth 100000
set_option maxHeartbeats 4000000
set_option linter.unusedVariables false
set_option linter.unusedSimpArgs false
namespace Go.Proofs.Ytnojmocoifodjaa.Pv
open Go Go.Proofs
mutual
def budT : Ty → Nat → Nat → Nat
  | .mk k l, d, b => if b = 0 ∨ d = 0 ∨ 20 < l.length then 0 else budTs l (d - 1) (b - 1)
def budTs : List Ty → Nat → Nat → Nat
  | [], _, b => b
  | x :: l, d, b => if b = 0 then 0 else budTs l d (budT x d b)
end
theorem budTs_zero (l : List Ty) (d : Nat) : budTs l d 0 = 0 := by cases l <;> simp [budTs]
mutual
theorem budT_le : ∀ (t : Ty) (d b : Nat), budT t d b ≤ b
  | .mk k l, d, b => by
    rw [budT]
    have := budTs_le l (d - 1) (b - 1)
    split <;> omega
theorem budTs_le : ∀ (l : List Ty) (d b : Nat), budTs l d b ≤ b
  | [], d, b => by rw [budTs]; exact Nat.le_refl _
  | x :: l, d, b => by
    rw [budTs]
    have := budT_le x d b
    have := budTs_le l d (budT x d b)
    split <;> omega
end
mutual
theorem budT_sz : ∀ (t : Ty) (d b : Nat), 0 < budT t d b → budT t d b + szT t ≤ b
  | .mk k l, d, b => by
    rw [budT, szT]
    intro h
    have := budTs_sz l (d - 1) (b - 1)
    split at h
    · omega
    · rename_i hn
      rw [if_neg hn]
      have := this h
      omega
theorem budTs_sz : ∀ (l : List Ty) (d b : Nat), 0 < budTs l d b → budTs l d b + szTs l ≤ b
  | [], d, b => by rw [budTs, szTs]; intro; omega
  | x :: l, d, b => by
    rw [budTs, szTs]
    intro h
    split at h
    · omega
    · rename_i hn
      rw [if_neg hn]
      have h2 := budTs_sz l d (budT x d b) h
      have h1 := budT_sz x d b (by have := budTs_le l d (budT x d b); omega)
      omega
end
theorem wrap_pred (b : Nat) (h : 1 ≤ b) (hb : b ≤ 1000) : IntKind.wrap .i64 (Int.ofNat b - 1) = Int.ofNat (b - 1) := by
  have : ∀ b : Nat, b ≤ 1000 → 1 ≤ b → IntKind.wrap .i64 (Int.ofNat b - 1) = Int.ofNat (b - 1) := by decide +kernel
  exact this b hb h
theorem law1_budget {E : Enc} (hE : E = .std) : ∀ (n : Nat) (t : Ty) (d b : Nat), SizeOf.sizeOf t ≤ n → d ≤ 1000 → b ≤ 1000 → CallsV Try.prog 52 [E.tyc t, .int .i64 (Int.ofNat d), .int .i64 (Int.ofNat b)] (.pv (.int .i64 (Int.ofNat (budT t d b)))) [] := by
  intro n
  induction n with
  | zero => intro t d b h; cases t; simp at h
  | succ n ih =>
    rintro ⟨tk, a⟩ d b hn hd hb
    obtain ⟨A, hA⟩ : ∃ A : Ar, A = .std := ⟨_, rfl⟩
    obtain ⟨ln, hln⟩ : ∃ n, n = a.length := ⟨_, rfl⟩
    have hll : A .lenP (E .tys a) = Int.ofNat ln := by rw [Ar.lenP_eq hA, tys_len hE, hln]; rfl
    have hsub : ∀ x, x ∈ a → ∀ q, q ≤ 1000 → CallsV Try.prog 52 [E.tyc x, .int .i64 (Int.ofNat (d - 1)), .int .i64 (Int.ofNat q)] (.pv (.int .i64 (Int.ofNat (budT x (d - 1) q)))) [] := fun x hx q hq => by
      have h1 := List.sizeOf_lt_of_mem hx
      simp at hn
      exact ih x _ _ (by omega) (by omega) hq
    clear ih
    have e1 : A .le (Int.ofNat b) 0 = decide (b = 0) := by rw [Ar.le_eq hA]; congr 1; rw [Int.ofNat_eq_natCast]; apply propext; omega
    have e2 : A .le (Int.ofNat d) 0 = decide (d = 0) := by rw [Ar.le_eq hA]; congr 1; rw [Int.ofNat_eq_natCast]; apply propext; omega
    have e3 : A .lt 20 (Int.ofNat ln) = decide (20 < ln) := ofNat_lt hA 20 ln
    rw [budT, ← hln]
    by_cases h1 : b = 0
    · rw [if_pos (.inl h1)]
      rw [decide_eq_true h1] at e1
      refine CallsV.ok (fn := Try.f52) (by kernel_rfl) (by kernel_rfl) rfl (by cbv) (by cbv) ?_
      repeat (first | (apply Ok.run1 hmix hA false 2000; focus (cbv; done)) | (apply Ok.one hmix hA; focus (cbv; done)) | (rw [Ar.notT hA]) | (rw [Ar.notF hA]) | (refine Ok.condT ?_ ?_; focus (cbv; done)) | (refine Ok.condF ?_ ?_; focus (cbv; done)) | (refine Ok.drawnE (by as_aux_lemma => kernel_rfl) ?_))
      rw [e1]
      repeat (first | (apply Ok.run1 hmix hA false 2000; focus (cbv; done)) | (apply Ok.one hmix hA; focus (cbv; done)) | (rw [Ar.notT hA]) | (rw [Ar.notF hA]) | (refine Ok.condT ?_ ?_; focus (cbv; done)) | (refine Ok.condF ?_ ?_; focus (cbv; done)) | (refine Ok.drawnE (by as_aux_lemma => kernel_rfl) ?_))
      (first | (apply Ok.fin1; (focus (cbv; done)); (focus (cbv; done))) | (apply Ok.fin2; (focus (cbv; done)); (focus (cbv; done))) | (apply Ok.fin3; (focus (cbv; done)); (focus (cbv; done))))
      all_goals rfl
    rw [decide_eq_false h1] at e1
    by_cases h2 : d = 0
    · rw [if_pos (.inr (.inl h2))]
      rw [decide_eq_true h2] at e2
      refine CallsV.ok (fn := Try.f52) (by kernel_rfl) (by kernel_rfl) rfl (by cbv) (by cbv) ?_
      repeat (first | (apply Ok.run1 hmix hA false 2000; focus (cbv; done)) | (apply Ok.one hmix hA; focus (cbv; done)) | (rw [Ar.notT hA]) | (rw [Ar.notF hA]) | (refine Ok.condT ?_ ?_; focus (cbv; done)) | (refine Ok.condF ?_ ?_; focus (cbv; done)) | (refine Ok.drawnE (by as_aux_lemma => kernel_rfl) ?_))
      rw [e1]
      repeat (first | (apply Ok.run1 hmix hA false 2000; focus (cbv; done)) | (apply Ok.one hmix hA; focus (cbv; done)) | (rw [Ar.notT hA]) | (rw [Ar.notF hA]) | (refine Ok.condT ?_ ?_; focus (cbv; done)) | (refine Ok.condF ?_ ?_; focus (cbv; done)) | (refine Ok.drawnE (by as_aux_lemma => kernel_rfl) ?_))
      rw [e2]
      repeat (first | (apply Ok.run1 hmix hA false 2000; focus (cbv; done)) | (apply Ok.one hmix hA; focus (cbv; done)) | (rw [Ar.notT hA]) | (rw [Ar.notF hA]) | (refine Ok.condT ?_ ?_; focus (cbv; done)) | (refine Ok.condF ?_ ?_; focus (cbv; done)) | (refine Ok.drawnE (by as_aux_lemma => kernel_rfl) ?_))
      (first | (apply Ok.fin1; (focus (cbv; done)); (focus (cbv; done))) | (apply Ok.fin2; (focus (cbv; done)); (focus (cbv; done))) | (apply Ok.fin3; (focus (cbv; done)); (focus (cbv; done))))
      all_goals rfl
    rw [decide_eq_false h2] at e2
    by_cases h3 : 20 < ln
    · rw [if_pos (.inr (.inr h3))]
      rw [decide_eq_true h3] at e3
      refine CallsV.ok (fn := Try.f52) (by kernel_rfl) (by kernel_rfl) rfl (by cbv) (by cbv) ?_
      repeat (first | (apply Ok.run1 hmix hA false 2000; focus (cbv; done)) | (apply Ok.one hmix hA; focus (cbv; done)) | (rw [Ar.notT hA]) | (rw [Ar.notF hA]) | (refine Ok.condT ?_ ?_; focus (cbv; done)) | (refine Ok.condF ?_ ?_; focus (cbv; done)) | (refine Ok.drawnE (by as_aux_lemma => kernel_rfl) ?_))
      rw [e1]
      repeat (first | (apply Ok.run1 hmix hA false 2000; focus (cbv; done)) | (apply Ok.one hmix hA; focus (cbv; done)) | (rw [Ar.notT hA]) | (rw [Ar.notF hA]) | (refine Ok.condT ?_ ?_; focus (cbv; done)) | (refine Ok.condF ?_ ?_; focus (cbv; done)) | (refine Ok.drawnE (by as_aux_lemma => kernel_rfl) ?_))
      rw [e2]
      repeat (first | (apply Ok.run1 hmix hA false 2000; focus (cbv; done)) | (apply Ok.one hmix hA; focus (cbv; done)) | (rw [Ar.notT hA]) | (rw [Ar.notF hA]) | (refine Ok.condT ?_ ?_; focus (cbv; done)) | (refine Ok.condF ?_ ?_; focus (cbv; done)) | (refine Ok.drawnE (by as_aux_lemma => kernel_rfl) ?_))
      rw [hll, e3]
      repeat (first | (apply Ok.run1 hmix hA false 2000; focus (cbv; done)) | (apply Ok.one hmix hA; focus (cbv; done)) | (rw [Ar.notT hA]) | (rw [Ar.notF hA]) | (refine Ok.condT ?_ ?_; focus (cbv; done)) | (refine Ok.condF ?_ ?_; focus (cbv; done)) | (refine Ok.drawnE (by as_aux_lemma => kernel_rfl) ?_))
      (first | (apply Ok.fin1; (focus (cbv; done)); (focus (cbv; done))) | (apply Ok.fin2; (focus (cbv; done)); (focus (cbv; done))) | (apply Ok.fin3; (focus (cbv; done)); (focus (cbv; done))))
      all_goals rfl
    rw [decide_eq_false h3] at e3
    rw [if_neg (by omega)]
    obtain ⟨R, hR⟩ : ∃ R, R = budTs a (d - 1) (b - 1) := ⟨_, rfl⟩
    rw [← hR]
    have hsb : A .sub .i64 (Int.ofNat b) 1 = Int.ofNat (b - 1) := by rw [Ar.sub_eq hA]; exact wrap_pred b (by omega) (by omega)
    have hsd : A .sub .i64 (Int.ofNat d) 1 = Int.ofNat (d - 1) := by rw [Ar.sub_eq hA]; exact wrap_pred d (by omega) (by omega)
    refine CallsV.ok (fn := Try.f52) (by kernel_rfl) (by kernel_rfl) rfl (by cbv) (by cbv) ?_
    repeat (first | (apply Ok.run1 hmix hA false 2000; focus (cbv; done)) | (apply Ok.one hmix hA; focus (cbv; done)) | (rw [Ar.notT hA]) | (rw [Ar.notF hA]) | (refine Ok.condT ?_ ?_; focus (cbv; done)) | (refine Ok.condF ?_ ?_; focus (cbv; done)) | (refine Ok.drawnE (by as_aux_lemma => kernel_rfl) ?_))
    rw [e1]
    repeat (first | (apply Ok.run1 hmix hA false 2000; focus (cbv; done)) | (apply Ok.one hmix hA; focus (cbv; done)) | (rw [Ar.notT hA]) | (rw [Ar.notF hA]) | (refine Ok.condT ?_ ?_; focus (cbv; done)) | (refine Ok.condF ?_ ?_; focus (cbv; done)) | (refine Ok.drawnE (by as_aux_lemma => kernel_rfl) ?_))
    rw [e2]
    repeat (first | (apply Ok.run1 hmix hA false 2000; focus (cbv; done)) | (apply Ok.one hmix hA; focus (cbv; done)) | (rw [Ar.notT hA]) | (rw [Ar.notF hA]) | (refine Ok.condT ?_ ?_; focus (cbv; done)) | (refine Ok.condF ?_ ?_; focus (cbv; done)) | (refine Ok.drawnE (by as_aux_lemma => kernel_rfl) ?_))
    rw [hll, e3]
    repeat (first | (apply Ok.run1 hmix hA false 2000; focus (cbv; done)) | (apply Ok.one hmix hA; focus (cbv; done)) | (rw [Ar.notT hA]) | (rw [Ar.notF hA]) | (refine Ok.condT ?_ ?_; focus (cbv; done)) | (refine Ok.condF ?_ ?_; focus (cbv; done)) | (refine Ok.drawnE (by as_aux_lemma => kernel_rfl) ?_))
    rw [hsb]
    refine Ok.loopAt [1, 2, 3, 7] [3] (fun m s h => ∃ (k q : Nat), m = ln - k ∧ k ≤ ln ∧ q ≤ 1000 ∧ budTs (a.drop k) (d - 1) q = R ∧ s = mkS 43 [(1, .pv (.int .i64 (Int.ofNat d))), (2, .pv (.int .i64 (Int.ofNat q))), (3, .ptr 3 0), (7, .pv (.int .i64 (Int.ofNat k)))] ∧ h = [(3, .box [.pv (.int .i64 tk), .pv (.view (E .tys a))] true)]) (ln - 0) (by cbv) ⟨0, b - 1, rfl, Nat.zero_le _, by omega, by rw [hR]; rfl, by cbv, by cbv⟩ ?_
    rintro m s h ⟨k, q, rfl, hk, hq, hRq, rfl, rfl⟩
    repeat (first | (apply Ok.run1 hmix hA false 2000; focus (cbv; done)) | (apply Ok.one hmix hA; focus (cbv; done)) | (rw [Ar.notT hA]) | (rw [Ar.notF hA]) | (refine Ok.condT ?_ ?_; focus (cbv; done)) | (refine Ok.condF ?_ ?_; focus (cbv; done)) | (refine Ok.drawnE (by as_aux_lemma => kernel_rfl) ?_))
    rw [hll, ofNat_lt hA]
    have e4 : A .lt 0 (Int.ofNat q) = decide (0 < q) := ofNat_lt hA 0 q
    by_cases hkl : k < ln
    · rw [decide_eq_true hkl]
      repeat (first | (apply Ok.run1 hmix hA false 2000; focus (cbv; done)) | (apply Ok.one hmix hA; focus (cbv; done)) | (rw [Ar.notT hA]) | (rw [Ar.notF hA]) | (refine Ok.condT ?_ ?_; focus (cbv; done)) | (refine Ok.condF ?_ ?_; focus (cbv; done)) | (refine Ok.drawnE (by as_aux_lemma => kernel_rfl) ?_))
      rw [e4]
      by_cases hq0 : 0 < q
      · rw [decide_eq_true hq0]
        repeat (first | (apply Ok.run1 hmix hA false 2000; focus (cbv; done)) | (apply Ok.one hmix hA; focus (cbv; done)) | (rw [Ar.notT hA]) | (rw [Ar.notF hA]) | (refine Ok.condT ?_ ?_; focus (cbv; done)) | (refine Ok.condF ?_ ?_; focus (cbv; done)) | (refine Ok.drawnE (by as_aux_lemma => kernel_rfl) ?_))
        have hx : a[k]? = some (a[k]'(by omega)) := List.getElem?_eq_getElem (by omega)
        have hxm : a[k]'(by omega) ∈ a := List.getElem_mem (by omega)
        have hdl : a.drop k = a[k]'(by omega) :: a.drop (k + 1) := List.drop_eq_getElem_cons (by omega)
        generalize a[k]'(by omega) = x at hx hdl hxm
        have cx := hsub x hxm q hq
        have hle := budT_le x (d - 1) q
        rw [hdl, budTs, if_neg (by omega)] at hRq
        generalize budT x (d - 1) q = q' at cx hle hRq
        refine Ok.op (idx_view (E.tyc x) (by cbv) (by cbv) (by simp) (by rw [E.tys_eq hE]; simp [hx]) rfl) ?_
        repeat (first | (apply Ok.run1 hmix hA false 2000; focus (cbv; done)) | (apply Ok.one hmix hA; focus (cbv; done)) | (rw [Ar.notT hA]) | (rw [Ar.notF hA]) | (refine Ok.condT ?_ ?_; focus (cbv; done)) | (refine Ok.condF ?_ ?_; focus (cbv; done)) | (refine Ok.drawnE (by as_aux_lemma => kernel_rfl) ?_))
        rw [hsd]
        repeat (first | (apply Ok.run1 hmix hA false 2000; focus (cbv; done)) | (apply Ok.one hmix hA; focus (cbv; done)) | (rw [Ar.notT hA]) | (rw [Ar.notF hA]) | (refine Ok.condT ?_ ?_; focus (cbv; done)) | (refine Ok.condF ?_ ?_; focus (cbv; done)) | (refine Ok.drawnE (by as_aux_lemma => kernel_rfl) ?_) | (apply Ok.call (cx); (focus (cbv; done)); (focus (cbv; done)); (focus (cbv; done))) | (apply Ok.dcall (cx); (focus (cbv; done)); (focus (cbv; done)); (focus (cbv; done))))
        rw [Ar.succ_eq (k := k) hA (by omega)]
        exact Ok.back (ln - (k + 1)) [1, 2, 3, 7] [3] (by omega) (by cbv) ⟨k + 1, q', rfl, by omega, by omega, hRq, by cbv, by cbv⟩
      · rw [decide_eq_false hq0]
        obtain rfl : q = 0 := by omega
        rw [budTs_zero] at hRq
        rw [← hRq]
        repeat (first | (apply Ok.run1 hmix hA false 2000; focus (cbv; done)) | (apply Ok.one hmix hA; focus (cbv; done)) | (rw [Ar.notT hA]) | (rw [Ar.notF hA]) | (refine Ok.condT ?_ ?_; focus (cbv; done)) | (refine Ok.condF ?_ ?_; focus (cbv; done)) | (refine Ok.drawnE (by as_aux_lemma => kernel_rfl) ?_))
        refine Ok.leave ?_
        repeat (first | (apply Ok.run1 hmix hA false 2000; focus (cbv; done)) | (apply Ok.one hmix hA; focus (cbv; done)) | (rw [Ar.notT hA]) | (rw [Ar.notF hA]) | (refine Ok.condT ?_ ?_; focus (cbv; done)) | (refine Ok.condF ?_ ?_; focus (cbv; done)) | (refine Ok.drawnE (by as_aux_lemma => kernel_rfl) ?_))
        (first | (apply Ok.fin1; (focus (cbv; done)); (focus (cbv; done))) | (apply Ok.fin2; (focus (cbv; done)); (focus (cbv; done))) | (apply Ok.fin3; (focus (cbv; done)); (focus (cbv; done))))
        all_goals rfl
    · rw [decide_eq_false hkl]
      have hke : a.drop k = [] := List.drop_eq_nil_iff.2 (by omega)
      rw [hke, budTs] at hRq
      rw [← hRq]
      repeat (first | (apply Ok.run1 hmix hA false 2000; focus (cbv; done)) | (apply Ok.one hmix hA; focus (cbv; done)) | (rw [Ar.notT hA]) | (rw [Ar.notF hA]) | (refine Ok.condT ?_ ?_; focus (cbv; done)) | (refine Ok.condF ?_ ?_; focus (cbv; done)) | (refine Ok.drawnE (by as_aux_lemma => kernel_rfl) ?_))
      refine Ok.leave ?_
      repeat (first | (apply Ok.run1 hmix hA false 2000; focus (cbv; done)) | (apply Ok.one hmix hA; focus (cbv; done)) | (rw [Ar.notT hA]) | (rw [Ar.notF hA]) | (refine Ok.condT ?_ ?_; focus (cbv; done)) | (refine Ok.condF ?_ ?_; focus (cbv; done)) | (refine Ok.drawnE (by as_aux_lemma => kernel_rfl) ?_))
      (first | (apply Ok.fin1; (focus (cbv; done)); (focus (cbv; done))) | (apply Ok.fin2; (focus (cbv; done)); (focus (cbv; done))) | (apply Ok.fin3; (focus (cbv; done)); (focus (cbv; done))))
      all_goals rfl
theorem law1_Few {E : Enc} (hE : E = .std) (t : Ty) : CallsV Try.prog 15 [E.tyc t] (.pv (.bool (decide (0 < budT t 12 300)))) [] := by
  obtain ⟨A, hA⟩ : ∃ A : Ar, A = .std := ⟨_, rfl⟩
  have c : CallsV Try.prog 52 [E.tyc t, .int .i64 12, .int .i64 300] (.pv (.int .i64 (Int.ofNat (budT t 12 300)))) [] := law1_budget hE _ t 12 300 (Nat.le_refl _) (by omega) (by omega)
  generalize budT t 12 300 = q at c ⊢
  have e4 : A .lt 0 (Int.ofNat q) = decide (0 < q) := ofNat_lt hA 0 q
  obtain ⟨r, hr⟩ : ∃ r, r = decide (0 < q) := ⟨_, rfl⟩
  rw [← hr] at e4 ⊢
  obtain ⟨tk, tl⟩ := t
  refine CallsV.ok (fn := Try.f15) (by kernel_rfl) (by kernel_rfl) rfl (by cbv) (by cbv) ?_
  repeat (first | (apply Ok.run1 hmix hA false 2000; focus (cbv; done)) | (apply Ok.one hmix hA; focus (cbv; done)) | (rw [Ar.notT hA]) | (rw [Ar.notF hA]) | (refine Ok.condT ?_ ?_; focus (cbv; done)) | (refine Ok.condF ?_ ?_; focus (cbv; done)) | (refine Ok.drawnE (by as_aux_lemma => kernel_rfl) ?_) | (apply Ok.call (c); (focus (cbv; done)); (focus (cbv; done)); (focus (cbv; done))) | (apply Ok.dcall (c); (focus (cbv; done)); (focus (cbv; done)); (focus (cbv; done))))
  rw [e4]
  repeat (first | (apply Ok.run1 hmix hA false 2000; focus (cbv; done)) | (apply Ok.one hmix hA; focus (cbv; done)) | (rw [Ar.notT hA]) | (rw [Ar.notF hA]) | (refine Ok.condT ?_ ?_; focus (cbv; done)) | (refine Ok.condF ?_ ?_; focus (cbv; done)) | (refine Ok.drawnE (by as_aux_lemma => kernel_rfl) ?_))
  (first | (apply Ok.fin1; (focus (cbv; done)); (focus (cbv; done))) | (apply Ok.fin2; (focus (cbv; done)); (focus (cbv; done))) | (apply Ok.fin3; (focus (cbv; done)); (focus (cbv; done))))
  all_goals rfl
end Go.Proofs.Ytnojmocoifodjaa.Pv
set_option maxRecDepth 100000
set_option maxHeartbeats 4000000
set_option linter.unusedVariables false
set_option linter.unusedSimpArgs false
namespace Go.Proofs.Ytnojmocoifodjaa.Pv
open Go Go.Proofs
def twoX : Ex4 := ⟨bX, .zero, 0, []⟩
def twoE (w : List UInt8) : Ex4 := ⟨w, .zero, 0, [⟨oAt, .zero, 0, [twoX]⟩, ⟨oAt, .zero, 1, [twoX]⟩]⟩
def twoW : List (List UInt8 × Shp) := [([97, 100, 100], ⟨2, 2, [1, 1], false, 1⟩), ([115, 117, 98], ⟨2, 2, [1, 1], false, 1⟩), ([109, 117, 108], ⟨2, 2, [1, 1], false, 1⟩), ([100, 105, 118], ⟨2, 2, [1, 1], false, 1⟩), ([114, 101, 109], ⟨2, 2, [1, 1], false, 1⟩), ([101, 113], ⟨2, 2, [0, 0], true, 2⟩), ([108, 116], ⟨2, 2, [0, 0], true, 2⟩), ([97, 110, 100], ⟨2, 2, [2, 2], false, 2⟩), ([111, 114], ⟨2, 2, [2, 2], false, 2⟩), ([99, 97, 116], ⟨2, 2, [3, 3], false, 3⟩)]
theorem two_chk (w : List UInt8) (s : Shp) (h : (w, s) ∈ twoW) (a b : Ty) : chkX (twoE w) ⟨4, [a, b]⟩ 0 = if fitsX s [a, b] = false then (.zero, 5) else (⟨s.out, []⟩, 0) := by
  simp only [twoW, List.mem_cons, Prod.mk.injEq, List.not_mem_nil, or_false] at h
  rcases h with ⟨rfl, rfl⟩ | ⟨rfl, rfl⟩ | ⟨rfl, rfl⟩ | ⟨rfl, rfl⟩ | ⟨rfl, rfl⟩ | ⟨rfl, rfl⟩ | ⟨rfl, rfl⟩ | ⟨rfl, rfl⟩ | ⟨rfl, rfl⟩ | ⟨rfl, rfl⟩ <;> kernel_rfl
theorem ck_atom {a : Ty} {k : Int} (h : ckT a 0 = 0) (hk : a.kind = k) (hk' : k = 1 ∨ k = 2 ∨ k = 3) : a = ⟨k, []⟩ := by
  obtain ⟨ak, al⟩ := a
  dsimp only at hk
  subst hk
  rw [ckT, if_pos hk'] at h
  split at h
  · cases h
  · cases al with
    | nil => rfl
    | cons x l => simp at *
/-- The Ops that ask one kind of both. -/
theorem two_kind {a b : Ty} (ha : ckT a 0 = 0) (hb : ckT b 0 = 0) (o k : Int) (hk : k = 1 ∨ k = 2 ∨ k = 3) : fitsX ⟨2, 2, [k, k], false, o⟩ [a, b] = (sameT a b && decide (a.kind = k)) := by
  have hk0 : k ≠ 0 := by omega
  have : fitsX ⟨2, 2, [k, k], false, o⟩ [a, b] = (decide (a.kind = k) && decide (b.kind = k)) := by simp [fitsX, fitsL, hk0]
  rw [this]
  by_cases h1 : a.kind = k
  · by_cases h2 : b.kind = k
    · have e1 := ck_atom ha h1 hk
      have e2 := ck_atom hb h2 hk
      rw [e1, e2, (sameT_iff _ _).2 rfl]
      simp
    · have : sameT a b = false := by
        cases hs : sameT a b with
        | false => rfl
        | true => rw [(sameT_iff _ _).1 hs] at h1; exact absurd h1 h2
      rw [this]; simp [h2]
  · simp [h1]
theorem two_alike (a b : Ty) (o : Int) : fitsX ⟨2, 2, [0, 0], true, o⟩ [a, b] = sameT a b := by
  have : fitsX ⟨2, 2, [0, 0], true, o⟩ [a, b] = sameT b a := by simp [fitsX, fitsL]
  rw [this]
  apply Bool.eq_iff_iff.2
  rw [sameT_iff, sameT_iff]
  exact eq_comm
theorem law4_SameT {E : Enc} (hE : E = .std) (a b : Ty) (h1 : szT a ≤ 2 ^ 28) (h2 : szT b ≤ 2 ^ 28) : CallsV Try.prog 42 [E.tyc a, E.tyc b] (.pv (.bool (sameT a b))) [] := by
  obtain ⟨A, hA⟩ : ∃ A : Ar, A = .std := ⟨_, rfl⟩
  have ca := law1_Of hE _ a (Nat.le_refl _) h1
  have cb := law1_Of hE _ b (Nat.le_refl _) h2
  have cs := ref6_SameType hE _ a b (Nat.le_refl _) (by omega) (by omega)
  generalize sameT a b = r at cs ⊢
  obtain ⟨ak, al⟩ := a
  obtain ⟨bk, bl⟩ := b
  refine CallsV.ok (fn := Try.f42) (by kernel_rfl) (by kernel_rfl) rfl (by cbv) (by cbv) ?_
  repeat (first | (apply Ok.run1 hmix hA false 2000; focus (cbv; done)) | (apply Ok.one hmix hA; focus (cbv; done)) | (rw [Ar.notT hA]) | (rw [Ar.notF hA]) | (refine Ok.condT ?_ ?_; focus (cbv; done)) | (refine Ok.condF ?_ ?_; focus (cbv; done)) | (refine Ok.drawnE (by as_aux_lemma => kernel_rfl) ?_) | (apply Ok.call (ca); (focus (cbv; done)); (focus (cbv; done)); (focus (cbv; done))) | (apply Ok.dcall (ca); (focus (cbv; done)); (focus (cbv; done)); (focus (cbv; done))) | (apply Ok.call (cb); (focus (cbv; done)); (focus (cbv; done)); (focus (cbv; done))) | (apply Ok.dcall (cb); (focus (cbv; done)); (focus (cbv; done)); (focus (cbv; done))) | (apply Ok.call (cs); (focus (cbv; done)); (focus (cbv; done)); (focus (cbv; done))) | (apply Ok.dcall (cs); (focus (cbv; done)); (focus (cbv; done)); (focus (cbv; done))))
  (first | (apply Ok.fin1; (focus (cbv; done)); (focus (cbv; done))) | (apply Ok.fin2; (focus (cbv; done)); (focus (cbv; done))) | (apply Ok.fin3; (focus (cbv; done)); (focus (cbv; done))))
  all_goals rfl
end Go.Proofs.Ytnojmocoifodjaa.Pv
set_option maxRecDepth 100000
set_option maxHeartbeats 4000000
set_option linter.unusedVariables false
set_option linter.unusedSimpArgs false
namespace Go.Proofs.Ytnojmocoifodjaa.Pv
open Go Go.Proofs
theorem law4_known2 : CallsV Try.prog 39 [] (.pv (.bool true)) [] := ev_ok 30 (by kernel_rfl)
theorem two_top (w : List UInt8) (s : Shp) (h : (w, s) ∈ twoW) (a b : Ty) (hc : ckT ⟨4, [a, b]⟩ 0 = 0) : chkXTop (twoE w) ⟨4, [a, b]⟩ = if fitsX s [a, b] = false then (.zero, 5) else (⟨s.out, []⟩, 0) := by
  have hs : sizX (twoE w) = 5 := rfl
  rw [chkXTop, if_neg (by simp [hc]), if_neg (by rw [hs]; omega), two_chk w s h]
theorem two_w (w : List UInt8) (T : Nat) (h : T ≤ 1000) : wX (twoE w) T ≤ 2 ^ 27 := by
  simp [twoE, twoX, wX, wXs, szV, szVs, Vl.zero]
  omega
theorem law4_ExprTwo (n : Nat) (a b : Ty) (hn : n < 256) : CallsV Try.prog 8 [.int .u8 (Int.ofNat n), (Enc.std).tyc a, (Enc.std).tyc b] (.pv (.bool true)) [] := by
  obtain ⟨A, hA⟩ : ∃ A : Ar, A = .std := ⟨_, rfl⟩
  obtain ⟨E, hE⟩ : ∃ E : Enc, E = .std := ⟨_, rfl⟩
  rw [← hE]
  have he0 : E .exs [] = [] := by rw [E.exs_eq hE]; rfl
  have hv0 : E .vls [] = [] := by rw [E.vls_eq hE]; rfl
  have ht0 : E .tys [] = [] := by rw [E.tys_eq hE]; rfl
  have ck := law4_known2
  have cfa := law1_Few hE a
  have cfb := law1_Few hE b
  have hza := budT_sz a 12 300
  have hzb := budT_sz b 12 300
  have hAe : ∀ x : Int, A .eq x x = true := fun x => by rw [Ar.eq_eq hA]; simp
  obtain ⟨ak, al⟩ := a
  obtain ⟨bk, bl⟩ := b
  by_cases h1 : 0 < budT ⟨ak, al⟩ 12 300
  case neg =>
    rw [decide_eq_false h1] at cfa
    refine CallsV.ok (fn := Try.f8) (by kernel_rfl) (by kernel_rfl) rfl (by cbv) (by cbv) ?_
    repeat (first | (apply Ok.run1 hmix hA false 2000; focus (cbv; done)) | (apply Ok.one hmix hA; focus (cbv; done)) | (rw [Ar.notT hA]) | (rw [Ar.notF hA]) | (refine Ok.condT ?_ ?_; focus (cbv; done)) | (refine Ok.condF ?_ ?_; focus (cbv; done)) | (refine Ok.drawnE (by as_aux_lemma => kernel_rfl) ?_) | (apply Ok.call (ck); (focus (cbv; done)); (focus (cbv; done)); (focus (cbv; done))) | (apply Ok.dcall (ck); (focus (cbv; done)); (focus (cbv; done)); (focus (cbv; done))) | (apply Ok.call (cfa); (focus (cbv; done)); (focus (cbv; done)); (focus (cbv; done))) | (apply Ok.dcall (cfa); (focus (cbv; done)); (focus (cbv; done)); (focus (cbv; done))))
    (first | (apply Ok.fin1; (focus (cbv; done)); (focus (cbv; done))) | (apply Ok.fin2; (focus (cbv; done)); (focus (cbv; done))) | (apply Ok.fin3; (focus (cbv; done)); (focus (cbv; done))))
    all_goals rfl
  rw [decide_eq_true h1] at cfa
  have hza := hza h1
  have coa := law1_Of hE _ ⟨ak, al⟩ (Nat.le_refl _) (by omega)
  have cka := ref6_CheckType hE ⟨ak, al⟩ (by omega)
  by_cases h2 : 0 < budT ⟨bk, bl⟩ 12 300
  case neg =>
    rw [decide_eq_false h2] at cfb
    refine CallsV.ok (fn := Try.f8) (by kernel_rfl) (by kernel_rfl) rfl (by cbv) (by cbv) ?_
    repeat (first | (apply Ok.run1 hmix hA false 2000; focus (cbv; done)) | (apply Ok.one hmix hA; focus (cbv; done)) | (rw [Ar.notT hA]) | (rw [Ar.notF hA]) | (refine Ok.condT ?_ ?_; focus (cbv; done)) | (refine Ok.condF ?_ ?_; focus (cbv; done)) | (refine Ok.drawnE (by as_aux_lemma => kernel_rfl) ?_) | (apply Ok.call (ck); (focus (cbv; done)); (focus (cbv; done)); (focus (cbv; done))) | (apply Ok.dcall (ck); (focus (cbv; done)); (focus (cbv; done)); (focus (cbv; done))) | (apply Ok.call (cfa); (focus (cbv; done)); (focus (cbv; done)); (focus (cbv; done))) | (apply Ok.dcall (cfa); (focus (cbv; done)); (focus (cbv; done)); (focus (cbv; done))) | (apply Ok.call (cfb); (focus (cbv; done)); (focus (cbv; done)); (focus (cbv; done))) | (apply Ok.dcall (cfb); (focus (cbv; done)); (focus (cbv; done)); (focus (cbv; done))))
    (first | (apply Ok.fin1; (focus (cbv; done)); (focus (cbv; done))) | (apply Ok.fin2; (focus (cbv; done)); (focus (cbv; done))) | (apply Ok.fin3; (focus (cbv; done)); (focus (cbv; done))))
    all_goals rfl
  rw [decide_eq_true h2] at cfb
  have hzb := hzb h2
  have cob := law1_Of hE _ ⟨bk, bl⟩ (Nat.le_refl _) (by omega)
  have ckb := ref6_CheckType hE ⟨bk, bl⟩ (by omega)
  by_cases h3 : ckT ⟨ak, al⟩ 0 = 0
  case neg =>
    generalize ckT ⟨ak, al⟩ 0 = ra at cka h3
    have e : A .eq ra 0 = false := by rw [Ar.eq_eq hA]; simp [h3]
    refine CallsV.ok (fn := Try.f8) (by kernel_rfl) (by kernel_rfl) rfl (by cbv) (by cbv) ?_
    ((repeat (first | (apply Ok.run1 hmix hA false 2000; focus (cbv; done)) | (apply Ok.one hmix hA; focus (cbv; done)) | (rw [Ar.notT hA]) | (rw [Ar.notF hA]) | (refine Ok.condT ?_ ?_; focus (cbv; done)) | (refine Ok.condF ?_ ?_; focus (cbv; done)) | (refine Ok.drawnE (by as_aux_lemma => kernel_rfl) ?_))); ((first | (apply Ok.call (ck); (focus (cbv; done)); (focus (cbv; done)); (focus (cbv; done))) | (apply Ok.dcall (ck); (focus (cbv; done)); (focus (cbv; done)); (focus (cbv; done))))); (repeat (first | (apply Ok.run1 hmix hA false 2000; focus (cbv; done)) | (apply Ok.one hmix hA; focus (cbv; done)) | (rw [Ar.notT hA]) | (rw [Ar.notF hA]) | (refine Ok.condT ?_ ?_; focus (cbv; done)) | (refine Ok.condF ?_ ?_; focus (cbv; done)) | (refine Ok.drawnE (by as_aux_lemma => kernel_rfl) ?_))); ((first | (apply Ok.call (cfa); (focus (cbv; done)); (focus (cbv; done)); (focus (cbv; done))) | (apply Ok.dcall (cfa); (focus (cbv; done)); (focus (cbv; done)); (focus (cbv; done))))); (repeat (first | (apply Ok.run1 hmix hA false 2000; focus (cbv; done)) | (apply Ok.one hmix hA; focus (cbv; done)) | (rw [Ar.notT hA]) | (rw [Ar.notF hA]) | (refine Ok.condT ?_ ?_; focus (cbv; done)) | (refine Ok.condF ?_ ?_; focus (cbv; done)) | (refine Ok.drawnE (by as_aux_lemma => kernel_rfl) ?_))); ((first | (apply Ok.call (cfb); (focus (cbv; done)); (focus (cbv; done)); (focus (cbv; done))) | (apply Ok.dcall (cfb); (focus (cbv; done)); (focus (cbv; done)); (focus (cbv; done))))); (repeat (first | (apply Ok.run1 hmix hA false 2000; focus (cbv; done)) | (apply Ok.one hmix hA; focus (cbv; done)) | (rw [Ar.notT hA]) | (rw [Ar.notF hA]) | (refine Ok.condT ?_ ?_; focus (cbv; done)) | (refine Ok.condF ?_ ?_; focus (cbv; done)) | (refine Ok.drawnE (by as_aux_lemma => kernel_rfl) ?_))); ((first | (apply Ok.call (coa); (focus (cbv; done)); (focus (cbv; done)); (focus (cbv; done))) | (apply Ok.dcall (coa); (focus (cbv; done)); (focus (cbv; done)); (focus (cbv; done))))); (repeat (first | (apply Ok.run1 hmix hA false 2000; focus (cbv; done)) | (apply Ok.one hmix hA; focus (cbv; done)) | (rw [Ar.notT hA]) | (rw [Ar.notF hA]) | (refine Ok.condT ?_ ?_; focus (cbv; done)) | (refine Ok.condF ?_ ?_; focus (cbv; done)) | (refine Ok.drawnE (by as_aux_lemma => kernel_rfl) ?_))); ((first | (apply Ok.call (cka); (focus (cbv; done)); (focus (cbv; done)); (focus (cbv; done))) | (apply Ok.dcall (cka); (focus (cbv; done)); (focus (cbv; done)); (focus (cbv; done))))); (repeat (first | (apply Ok.run1 hmix hA false 2000; focus (cbv; done)) | (apply Ok.one hmix hA; focus (cbv; done)) | (rw [Ar.notT hA]) | (rw [Ar.notF hA]) | (refine Ok.condT ?_ ?_; focus (cbv; done)) | (refine Ok.condF ?_ ?_; focus (cbv; done)) | (refine Ok.drawnE (by as_aux_lemma => kernel_rfl) ?_))))
    rw [e]
    repeat (first | (apply Ok.run1 hmix hA false 2000; focus (cbv; done)) | (apply Ok.one hmix hA; focus (cbv; done)) | (rw [Ar.notT hA]) | (rw [Ar.notF hA]) | (refine Ok.condT ?_ ?_; focus (cbv; done)) | (refine Ok.condF ?_ ?_; focus (cbv; done)) | (refine Ok.drawnE (by as_aux_lemma => kernel_rfl) ?_))
    (first | (apply Ok.fin1; (focus (cbv; done)); (focus (cbv; done))) | (apply Ok.fin2; (focus (cbv; done)); (focus (cbv; done))) | (apply Ok.fin3; (focus (cbv; done)); (focus (cbv; done))))
    all_goals rfl
  by_cases h4 : ckT ⟨bk, bl⟩ 0 = 0
  case neg =>
    rw [h3] at cka
    generalize ckT ⟨bk, bl⟩ 0 = rb at ckb h4
    have e : A .eq rb 0 = false := by rw [Ar.eq_eq hA]; simp [h4]
    refine CallsV.ok (fn := Try.f8) (by kernel_rfl) (by kernel_rfl) rfl (by cbv) (by cbv) ?_
    ((repeat (first | (apply Ok.run1 hmix hA false 2000; focus (cbv; done)) | (apply Ok.one hmix hA; focus (cbv; done)) | (rw [Ar.notT hA]) | (rw [Ar.notF hA]) | (refine Ok.condT ?_ ?_; focus (cbv; done)) | (refine Ok.condF ?_ ?_; focus (cbv; done)) | (refine Ok.drawnE (by as_aux_lemma => kernel_rfl) ?_))); ((first | (apply Ok.call (ck); (focus (cbv; done)); (focus (cbv; done)); (focus (cbv; done))) | (apply Ok.dcall (ck); (focus (cbv; done)); (focus (cbv; done)); (focus (cbv; done))))); (repeat (first | (apply Ok.run1 hmix hA false 2000; focus (cbv; done)) | (apply Ok.one hmix hA; focus (cbv; done)) | (rw [Ar.notT hA]) | (rw [Ar.notF hA]) | (refine Ok.condT ?_ ?_; focus (cbv; done)) | (refine Ok.condF ?_ ?_; focus (cbv; done)) | (refine Ok.drawnE (by as_aux_lemma => kernel_rfl) ?_))); ((first | (apply Ok.call (cfa); (focus (cbv; done)); (focus (cbv; done)); (focus (cbv; done))) | (apply Ok.dcall (cfa); (focus (cbv; done)); (focus (cbv; done)); (focus (cbv; done))))); (repeat (first | (apply Ok.run1 hmix hA false 2000; focus (cbv; done)) | (apply Ok.one hmix hA; focus (cbv; done)) | (rw [Ar.notT hA]) | (rw [Ar.notF hA]) | (refine Ok.condT ?_ ?_; focus (cbv; done)) | (refine Ok.condF ?_ ?_; focus (cbv; done)) | (refine Ok.drawnE (by as_aux_lemma => kernel_rfl) ?_))); ((first | (apply Ok.call (cfb); (focus (cbv; done)); (focus (cbv; done)); (focus (cbv; done))) | (apply Ok.dcall (cfb); (focus (cbv; done)); (focus (cbv; done)); (focus (cbv; done))))); (repeat (first | (apply Ok.run1 hmix hA false 2000; focus (cbv; done)) | (apply Ok.one hmix hA; focus (cbv; done)) | (rw [Ar.notT hA]) | (rw [Ar.notF hA]) | (refine Ok.condT ?_ ?_; focus (cbv; done)) | (refine Ok.condF ?_ ?_; focus (cbv; done)) | (refine Ok.drawnE (by as_aux_lemma => kernel_rfl) ?_))); ((first | (apply Ok.call (coa); (focus (cbv; done)); (focus (cbv; done)); (focus (cbv; done))) | (apply Ok.dcall (coa); (focus (cbv; done)); (focus (cbv; done)); (focus (cbv; done))))); (repeat (first | (apply Ok.run1 hmix hA false 2000; focus (cbv; done)) | (apply Ok.one hmix hA; focus (cbv; done)) | (rw [Ar.notT hA]) | (rw [Ar.notF hA]) | (refine Ok.condT ?_ ?_; focus (cbv; done)) | (refine Ok.condF ?_ ?_; focus (cbv; done)) | (refine Ok.drawnE (by as_aux_lemma => kernel_rfl) ?_))); ((first | (apply Ok.call (cka); (focus (cbv; done)); (focus (cbv; done)); (focus (cbv; done))) | (apply Ok.dcall (cka); (focus (cbv; done)); (focus (cbv; done)); (focus (cbv; done))))); (repeat (first | (apply Ok.run1 hmix hA false 2000; focus (cbv; done)) | (apply Ok.one hmix hA; focus (cbv; done)) | (rw [Ar.notT hA]) | (rw [Ar.notF hA]) | (refine Ok.condT ?_ ?_; focus (cbv; done)) | (refine Ok.condF ?_ ?_; focus (cbv; done)) | (refine Ok.drawnE (by as_aux_lemma => kernel_rfl) ?_))))
    rw [hAe]
    ((repeat (first | (apply Ok.run1 hmix hA false 2000; focus (cbv; done)) | (apply Ok.one hmix hA; focus (cbv; done)) | (rw [Ar.notT hA]) | (rw [Ar.notF hA]) | (refine Ok.condT ?_ ?_; focus (cbv; done)) | (refine Ok.condF ?_ ?_; focus (cbv; done)) | (refine Ok.drawnE (by as_aux_lemma => kernel_rfl) ?_))); ((first | (apply Ok.call (cob); (focus (cbv; done)); (focus (cbv; done)); (focus (cbv; done))) | (apply Ok.dcall (cob); (focus (cbv; done)); (focus (cbv; done)); (focus (cbv; done))))); (repeat (first | (apply Ok.run1 hmix hA false 2000; focus (cbv; done)) | (apply Ok.one hmix hA; focus (cbv; done)) | (rw [Ar.notT hA]) | (rw [Ar.notF hA]) | (refine Ok.condT ?_ ?_; focus (cbv; done)) | (refine Ok.condF ?_ ?_; focus (cbv; done)) | (refine Ok.drawnE (by as_aux_lemma => kernel_rfl) ?_))); ((first | (apply Ok.call (ckb); (focus (cbv; done)); (focus (cbv; done)); (focus (cbv; done))) | (apply Ok.dcall (ckb); (focus (cbv; done)); (focus (cbv; done)); (focus (cbv; done))))); (repeat (first | (apply Ok.run1 hmix hA false 2000; focus (cbv; done)) | (apply Ok.one hmix hA; focus (cbv; done)) | (rw [Ar.notT hA]) | (rw [Ar.notF hA]) | (refine Ok.condT ?_ ?_; focus (cbv; done)) | (refine Ok.condF ?_ ?_; focus (cbv; done)) | (refine Ok.drawnE (by as_aux_lemma => kernel_rfl) ?_))))
    rw [e]
    repeat (first | (apply Ok.run1 hmix hA false 2000; focus (cbv; done)) | (apply Ok.one hmix hA; focus (cbv; done)) | (rw [Ar.notT hA]) | (rw [Ar.notF hA]) | (refine Ok.condT ?_ ?_; focus (cbv; done)) | (refine Ok.condF ?_ ?_; focus (cbv; done)) | (refine Ok.drawnE (by as_aux_lemma => kernel_rfl) ?_))
    (first | (apply Ok.fin1; (focus (cbv; done)); (focus (cbv; done))) | (apply Ok.fin2; (focus (cbv; done)); (focus (cbv; done))) | (apply Ok.fin3; (focus (cbv; done)); (focus (cbv; done))))
    all_goals rfl
  have hzab : szT ⟨4, [⟨ak, al⟩, ⟨bk, bl⟩]⟩ ≤ 700 := by rw [szT, szTs, szTs, szTs]; omega
  have hx : E .tys [⟨ak, al⟩, ⟨bk, bl⟩] = [.agg [.int .i64 ak, .view (E .tys al)], .agg [.int .i64 bk, .view (E .tys bl)]] := by rw [E.tys_eq hE]; rfl
  have coab := law1_Of hE _ ⟨4, [⟨ak, al⟩, ⟨bk, bl⟩]⟩ (Nat.le_refl _) (by omega)
  have ckab := ref6_CheckType hE ⟨4, [⟨ak, al⟩, ⟨bk, bl⟩]⟩ (by omega)
  have cs := law4_SameT hE ⟨ak, al⟩ ⟨bk, bl⟩ (by omega) (by omega)
  simp only [Enc.tyc, hx] at coab ckab
  obtain ⟨r, hr⟩ : ∃ r, r = n % 10 := ⟨_, rfl⟩
  have hr10 : r < 10 := by omega
  rw [h3] at cka
  rw [h4] at ckb
  by_cases h5 : ckT ⟨4, [⟨ak, al⟩, ⟨bk, bl⟩]⟩ 0 = 0
  case neg =>
    generalize ckT ⟨4, [⟨ak, al⟩, ⟨bk, bl⟩]⟩ 0 = rab at ckab h5
    have e : A .eq rab 0 = false := by rw [Ar.eq_eq hA]; simp [h5]
    refine CallsV.ok (fn := Try.f8) (by kernel_rfl) (by kernel_rfl) rfl (by cbv) (by cbv) ?_
    ((repeat (first | (apply Ok.run1 hmix hA false 2000; focus (cbv; done)) | (apply Ok.one hmix hA; focus (cbv; done)) | (rw [Ar.notT hA]) | (rw [Ar.notF hA]) | (refine Ok.condT ?_ ?_; focus (cbv; done)) | (refine Ok.condF ?_ ?_; focus (cbv; done)) | (refine Ok.drawnE (by as_aux_lemma => kernel_rfl) ?_))); ((first | (apply Ok.call (ck); (focus (cbv; done)); (focus (cbv; done)); (focus (cbv; done))) | (apply Ok.dcall (ck); (focus (cbv; done)); (focus (cbv; done)); (focus (cbv; done))))); (repeat (first | (apply Ok.run1 hmix hA false 2000; focus (cbv; done)) | (apply Ok.one hmix hA; focus (cbv; done)) | (rw [Ar.notT hA]) | (rw [Ar.notF hA]) | (refine Ok.condT ?_ ?_; focus (cbv; done)) | (refine Ok.condF ?_ ?_; focus (cbv; done)) | (refine Ok.drawnE (by as_aux_lemma => kernel_rfl) ?_))); ((first | (apply Ok.call (cfa); (focus (cbv; done)); (focus (cbv; done)); (focus (cbv; done))) | (apply Ok.dcall (cfa); (focus (cbv; done)); (focus (cbv; done)); (focus (cbv; done))))); (repeat (first | (apply Ok.run1 hmix hA false 2000; focus (cbv; done)) | (apply Ok.one hmix hA; focus (cbv; done)) | (rw [Ar.notT hA]) | (rw [Ar.notF hA]) | (refine Ok.condT ?_ ?_; focus (cbv; done)) | (refine Ok.condF ?_ ?_; focus (cbv; done)) | (refine Ok.drawnE (by as_aux_lemma => kernel_rfl) ?_))); ((first | (apply Ok.call (cfb); (focus (cbv; done)); (focus (cbv; done)); (focus (cbv; done))) | (apply Ok.dcall (cfb); (focus (cbv; done)); (focus (cbv; done)); (focus (cbv; done))))); (repeat (first | (apply Ok.run1 hmix hA false 2000; focus (cbv; done)) | (apply Ok.one hmix hA; focus (cbv; done)) | (rw [Ar.notT hA]) | (rw [Ar.notF hA]) | (refine Ok.condT ?_ ?_; focus (cbv; done)) | (refine Ok.condF ?_ ?_; focus (cbv; done)) | (refine Ok.drawnE (by as_aux_lemma => kernel_rfl) ?_))); ((first | (apply Ok.call (coa); (focus (cbv; done)); (focus (cbv; done)); (focus (cbv; done))) | (apply Ok.dcall (coa); (focus (cbv; done)); (focus (cbv; done)); (focus (cbv; done))))); (repeat (first | (apply Ok.run1 hmix hA false 2000; focus (cbv; done)) | (apply Ok.one hmix hA; focus (cbv; done)) | (rw [Ar.notT hA]) | (rw [Ar.notF hA]) | (refine Ok.condT ?_ ?_; focus (cbv; done)) | (refine Ok.condF ?_ ?_; focus (cbv; done)) | (refine Ok.drawnE (by as_aux_lemma => kernel_rfl) ?_))); ((first | (apply Ok.call (cka); (focus (cbv; done)); (focus (cbv; done)); (focus (cbv; done))) | (apply Ok.dcall (cka); (focus (cbv; done)); (focus (cbv; done)); (focus (cbv; done))))); (repeat (first | (apply Ok.run1 hmix hA false 2000; focus (cbv; done)) | (apply Ok.one hmix hA; focus (cbv; done)) | (rw [Ar.notT hA]) | (rw [Ar.notF hA]) | (refine Ok.condT ?_ ?_; focus (cbv; done)) | (refine Ok.condF ?_ ?_; focus (cbv; done)) | (refine Ok.drawnE (by as_aux_lemma => kernel_rfl) ?_))))
    rw [hAe]
    ((repeat (first | (apply Ok.run1 hmix hA false 2000; focus (cbv; done)) | (apply Ok.one hmix hA; focus (cbv; done)) | (rw [Ar.notT hA]) | (rw [Ar.notF hA]) | (refine Ok.condT ?_ ?_; focus (cbv; done)) | (refine Ok.condF ?_ ?_; focus (cbv; done)) | (refine Ok.drawnE (by as_aux_lemma => kernel_rfl) ?_))); ((first | (apply Ok.call (cob); (focus (cbv; done)); (focus (cbv; done)); (focus (cbv; done))) | (apply Ok.dcall (cob); (focus (cbv; done)); (focus (cbv; done)); (focus (cbv; done))))); (repeat (first | (apply Ok.run1 hmix hA false 2000; focus (cbv; done)) | (apply Ok.one hmix hA; focus (cbv; done)) | (rw [Ar.notT hA]) | (rw [Ar.notF hA]) | (refine Ok.condT ?_ ?_; focus (cbv; done)) | (refine Ok.condF ?_ ?_; focus (cbv; done)) | (refine Ok.drawnE (by as_aux_lemma => kernel_rfl) ?_))); ((first | (apply Ok.call (ckb); (focus (cbv; done)); (focus (cbv; done)); (focus (cbv; done))) | (apply Ok.dcall (ckb); (focus (cbv; done)); (focus (cbv; done)); (focus (cbv; done))))); (repeat (first | (apply Ok.run1 hmix hA false 2000; focus (cbv; done)) | (apply Ok.one hmix hA; focus (cbv; done)) | (rw [Ar.notT hA]) | (rw [Ar.notF hA]) | (refine Ok.condT ?_ ?_; focus (cbv; done)) | (refine Ok.condF ?_ ?_; focus (cbv; done)) | (refine Ok.drawnE (by as_aux_lemma => kernel_rfl) ?_))))
    rw [hAe]
    ((repeat (first | (apply Ok.run1 hmix hA false 2000; focus (cbv; done)) | (apply Ok.one hmix hA; focus (cbv; done)) | (rw [Ar.notT hA]) | (rw [Ar.notF hA]) | (refine Ok.condT ?_ ?_; focus (cbv; done)) | (refine Ok.condF ?_ ?_; focus (cbv; done)) | (refine Ok.drawnE (by as_aux_lemma => kernel_rfl) ?_))); ((first | (apply Ok.call (coab); (focus (cbv; done)); (focus (cbv; done)); (focus (cbv; done))) | (apply Ok.dcall (coab); (focus (cbv; done)); (focus (cbv; done)); (focus (cbv; done))))); (repeat (first | (apply Ok.run1 hmix hA false 2000; focus (cbv; done)) | (apply Ok.one hmix hA; focus (cbv; done)) | (rw [Ar.notT hA]) | (rw [Ar.notF hA]) | (refine Ok.condT ?_ ?_; focus (cbv; done)) | (refine Ok.condF ?_ ?_; focus (cbv; done)) | (refine Ok.drawnE (by as_aux_lemma => kernel_rfl) ?_))); ((first | (apply Ok.call (ckab); (focus (cbv; done)); (focus (cbv; done)); (focus (cbv; done))) | (apply Ok.dcall (ckab); (focus (cbv; done)); (focus (cbv; done)); (focus (cbv; done))))); (repeat (first | (apply Ok.run1 hmix hA false 2000; focus (cbv; done)) | (apply Ok.one hmix hA; focus (cbv; done)) | (rw [Ar.notT hA]) | (rw [Ar.notF hA]) | (refine Ok.condT ?_ ?_; focus (cbv; done)) | (refine Ok.condF ?_ ?_; focus (cbv; done)) | (refine Ok.drawnE (by as_aux_lemma => kernel_rfl) ?_))))
    rw [e]
    repeat (first | (apply Ok.run1 hmix hA false 2000; focus (cbv; done)) | (apply Ok.one hmix hA; focus (cbv; done)) | (rw [Ar.notT hA]) | (rw [Ar.notF hA]) | (refine Ok.condT ?_ ?_; focus (cbv; done)) | (refine Ok.condF ?_ ?_; focus (cbv; done)) | (refine Ok.drawnE (by as_aux_lemma => kernel_rfl) ?_))
    (first | (apply Ok.fin1; (focus (cbv; done)); (focus (cbv; done))) | (apply Ok.fin2; (focus (cbv; done)); (focus (cbv; done))) | (apply Ok.fin3; (focus (cbv; done)); (focus (cbv; done))))
    all_goals rfl
  rw [h5] at ckab
  have cx := law4_X hE
  simp only [Enc.ex, Vl.zero, hv0, he0] at cx
  have cC : ∀ (w : List UInt8) (s : Shp), (w, s) ∈ twoW → CallsV Try.prog 41 [.agg [.str w, .int .i64 0, .int .i64 0, .bool false, .str [], .view [], .int .i64 0, .view [.agg [.str oAt, .int .i64 0, .int .i64 0, .bool false, .str [], .view [], .int .i64 0, .view [.agg [.str bX, .int .i64 0, .int .i64 0, .bool false, .str [], .view [], .int .i64 0, .view []]]], .agg [.str oAt, .int .i64 0, .int .i64 0, .bool false, .str [], .view [], .int .i64 1, .view [.agg [.str bX, .int .i64 0, .int .i64 0, .bool false, .str [], .view [], .int .i64 0, .view []]]]]], .agg [.int .i64 4, .view [.agg [.int .i64 ak, .view (E .tys al)], .agg [.int .i64 bk, .view (E .tys bl)]]]] (if fitsX s [⟨ak, al⟩, ⟨bk, bl⟩] = false then .tup [.pv (.agg [.int .i64 0, .view []]), .pv (.int .i64 5)] else .tup [.pv (.agg [.int .i64 s.out, .view []]), .pv (.int .i64 0)]) [] := fun w s hm => by
    have c := expr_Check hE (twoE w) ⟨4, [⟨ak, al⟩, ⟨bk, bl⟩]⟩ (two_w w _ (by omega))
    rw [two_top w s hm _ _ h5] at c
    have hxs : E .exs (twoE w).a = [.agg [.str oAt, .int .i64 0, .int .i64 0, .bool false, .str [], .view [], .int .i64 0, .view [.agg [.str bX, .int .i64 0, .int .i64 0, .bool false, .str [], .view [], .int .i64 0, .view []]]], .agg [.str oAt, .int .i64 0, .int .i64 0, .bool false, .str [], .view [], .int .i64 1, .view [.agg [.str bX, .int .i64 0, .int .i64 0, .bool false, .str [], .view [], .int .i64 0, .view []]]]] := by
      have h1 : E .exs [twoX] = [.agg [.str bX, .int .i64 0, .int .i64 0, .bool false, .str [], .view [], .int .i64 0, .view []]] := by rw [E.exs_eq hE, List.map_cons, List.map_nil, twoX, Enc.ex]; simp only [Vl.zero, hv0, he0]
      rw [twoE, E.exs_eq hE, List.map_cons, List.map_cons, List.map_nil, Enc.ex, Enc.ex]; simp only [Vl.zero, hv0, h1]
    have e1 : E.ex (twoE w) = .agg [.str w, .int .i64 0, .int .i64 0, .bool false, .str [], .view [], .int .i64 0, .view [.agg [.str oAt, .int .i64 0, .int .i64 0, .bool false, .str [], .view [], .int .i64 0, .view [.agg [.str bX, .int .i64 0, .int .i64 0, .bool false, .str [], .view [], .int .i64 0, .view []]]], .agg [.str oAt, .int .i64 0, .int .i64 0, .bool false, .str [], .view [], .int .i64 1, .view [.agg [.str bX, .int .i64 0, .int .i64 0, .bool false, .str [], .view [], .int .i64 0, .view []]]]]] := by
      rw [Enc.ex, hxs]; simp only [twoE, Vl.zero, hv0]
    rw [e1] at c
    simp only [Enc.tyc, hx] at c
    split at c
    · rename_i hf
      rw [if_pos hf]
      simpa only [Ty.zero, ht0] using c
    · rename_i hf
      rw [if_neg hf]
      simpa only [ht0] using c
  refine CallsV.ok (fn := Try.f8) (by kernel_rfl) (by kernel_rfl) rfl (by cbv) (by cbv) ?_
  ((repeat (first | (apply Ok.run1 hmix hA false 2000; focus (cbv; done)) | (apply Ok.one hmix hA; focus (cbv; done)) | (rw [Ar.notT hA]) | (rw [Ar.notF hA]) | (refine Ok.condT ?_ ?_; focus (cbv; done)) | (refine Ok.condF ?_ ?_; focus (cbv; done)) | (refine Ok.drawnE (by as_aux_lemma => kernel_rfl) ?_))); ((first | (apply Ok.call (ck); (focus (cbv; done)); (focus (cbv; done)); (focus (cbv; done))) | (apply Ok.dcall (ck); (focus (cbv; done)); (focus (cbv; done)); (focus (cbv; done))))); (repeat (first | (apply Ok.run1 hmix hA false 2000; focus (cbv; done)) | (apply Ok.one hmix hA; focus (cbv; done)) | (rw [Ar.notT hA]) | (rw [Ar.notF hA]) | (refine Ok.condT ?_ ?_; focus (cbv; done)) | (refine Ok.condF ?_ ?_; focus (cbv; done)) | (refine Ok.drawnE (by as_aux_lemma => kernel_rfl) ?_))); ((first | (apply Ok.call (cfa); (focus (cbv; done)); (focus (cbv; done)); (focus (cbv; done))) | (apply Ok.dcall (cfa); (focus (cbv; done)); (focus (cbv; done)); (focus (cbv; done))))); (repeat (first | (apply Ok.run1 hmix hA false 2000; focus (cbv; done)) | (apply Ok.one hmix hA; focus (cbv; done)) | (rw [Ar.notT hA]) | (rw [Ar.notF hA]) | (refine Ok.condT ?_ ?_; focus (cbv; done)) | (refine Ok.condF ?_ ?_; focus (cbv; done)) | (refine Ok.drawnE (by as_aux_lemma => kernel_rfl) ?_))); ((first | (apply Ok.call (cfb); (focus (cbv; done)); (focus (cbv; done)); (focus (cbv; done))) | (apply Ok.dcall (cfb); (focus (cbv; done)); (focus (cbv; done)); (focus (cbv; done))))); (repeat (first | (apply Ok.run1 hmix hA false 2000; focus (cbv; done)) | (apply Ok.one hmix hA; focus (cbv; done)) | (rw [Ar.notT hA]) | (rw [Ar.notF hA]) | (refine Ok.condT ?_ ?_; focus (cbv; done)) | (refine Ok.condF ?_ ?_; focus (cbv; done)) | (refine Ok.drawnE (by as_aux_lemma => kernel_rfl) ?_))); ((first | (apply Ok.call (coa); (focus (cbv; done)); (focus (cbv; done)); (focus (cbv; done))) | (apply Ok.dcall (coa); (focus (cbv; done)); (focus (cbv; done)); (focus (cbv; done))))); (repeat (first | (apply Ok.run1 hmix hA false 2000; focus (cbv; done)) | (apply Ok.one hmix hA; focus (cbv; done)) | (rw [Ar.notT hA]) | (rw [Ar.notF hA]) | (refine Ok.condT ?_ ?_; focus (cbv; done)) | (refine Ok.condF ?_ ?_; focus (cbv; done)) | (refine Ok.drawnE (by as_aux_lemma => kernel_rfl) ?_))); ((first | (apply Ok.call (cka); (focus (cbv; done)); (focus (cbv; done)); (focus (cbv; done))) | (apply Ok.dcall (cka); (focus (cbv; done)); (focus (cbv; done)); (focus (cbv; done))))); (repeat (first | (apply Ok.run1 hmix hA false 2000; focus (cbv; done)) | (apply Ok.one hmix hA; focus (cbv; done)) | (rw [Ar.notT hA]) | (rw [Ar.notF hA]) | (refine Ok.condT ?_ ?_; focus (cbv; done)) | (refine Ok.condF ?_ ?_; focus (cbv; done)) | (refine Ok.drawnE (by as_aux_lemma => kernel_rfl) ?_))))
  rw [hAe]
  ((repeat (first | (apply Ok.run1 hmix hA false 2000; focus (cbv; done)) | (apply Ok.one hmix hA; focus (cbv; done)) | (rw [Ar.notT hA]) | (rw [Ar.notF hA]) | (refine Ok.condT ?_ ?_; focus (cbv; done)) | (refine Ok.condF ?_ ?_; focus (cbv; done)) | (refine Ok.drawnE (by as_aux_lemma => kernel_rfl) ?_))); ((first | (apply Ok.call (cob); (focus (cbv; done)); (focus (cbv; done)); (focus (cbv; done))) | (apply Ok.dcall (cob); (focus (cbv; done)); (focus (cbv; done)); (focus (cbv; done))))); (repeat (first | (apply Ok.run1 hmix hA false 2000; focus (cbv; done)) | (apply Ok.one hmix hA; focus (cbv; done)) | (rw [Ar.notT hA]) | (rw [Ar.notF hA]) | (refine Ok.condT ?_ ?_; focus (cbv; done)) | (refine Ok.condF ?_ ?_; focus (cbv; done)) | (refine Ok.drawnE (by as_aux_lemma => kernel_rfl) ?_))); ((first | (apply Ok.call (ckb); (focus (cbv; done)); (focus (cbv; done)); (focus (cbv; done))) | (apply Ok.dcall (ckb); (focus (cbv; done)); (focus (cbv; done)); (focus (cbv; done))))); (repeat (first | (apply Ok.run1 hmix hA false 2000; focus (cbv; done)) | (apply Ok.one hmix hA; focus (cbv; done)) | (rw [Ar.notT hA]) | (rw [Ar.notF hA]) | (refine Ok.condT ?_ ?_; focus (cbv; done)) | (refine Ok.condF ?_ ?_; focus (cbv; done)) | (refine Ok.drawnE (by as_aux_lemma => kernel_rfl) ?_))))
  rw [hAe]
  ((repeat (first | (apply Ok.run1 hmix hA false 2000; focus (cbv; done)) | (apply Ok.one hmix hA; focus (cbv; done)) | (rw [Ar.notT hA]) | (rw [Ar.notF hA]) | (refine Ok.condT ?_ ?_; focus (cbv; done)) | (refine Ok.condF ?_ ?_; focus (cbv; done)) | (refine Ok.drawnE (by as_aux_lemma => kernel_rfl) ?_))); ((first | (apply Ok.call (coab); (focus (cbv; done)); (focus (cbv; done)); (focus (cbv; done))) | (apply Ok.dcall (coab); (focus (cbv; done)); (focus (cbv; done)); (focus (cbv; done))))); (repeat (first | (apply Ok.run1 hmix hA false 2000; focus (cbv; done)) | (apply Ok.one hmix hA; focus (cbv; done)) | (rw [Ar.notT hA]) | (rw [Ar.notF hA]) | (refine Ok.condT ?_ ?_; focus (cbv; done)) | (refine Ok.condF ?_ ?_; focus (cbv; done)) | (refine Ok.drawnE (by as_aux_lemma => kernel_rfl) ?_))); ((first | (apply Ok.call (ckab); (focus (cbv; done)); (focus (cbv; done)); (focus (cbv; done))) | (apply Ok.dcall (ckab); (focus (cbv; done)); (focus (cbv; done)); (focus (cbv; done))))); (repeat (first | (apply Ok.run1 hmix hA false 2000; focus (cbv; done)) | (apply Ok.one hmix hA; focus (cbv; done)) | (rw [Ar.notT hA]) | (rw [Ar.notF hA]) | (refine Ok.condT ?_ ?_; focus (cbv; done)) | (refine Ok.condF ?_ ?_; focus (cbv; done)) | (refine Ok.drawnE (by as_aux_lemma => kernel_rfl) ?_))))
  rw [hAe]
  repeat (first | (apply Ok.run1 hmix hA false 2000; focus (cbv; done)) | (apply Ok.one hmix hA; focus (cbv; done)) | (rw [Ar.notT hA]) | (rw [Ar.notF hA]) | (refine Ok.condT ?_ ?_; focus (cbv; done)) | (refine Ok.condF ?_ ?_; focus (cbv; done)) | (refine Ok.drawnE (by as_aux_lemma => kernel_rfl) ?_))
  rw [ofNat_conv hA (show n < 2 ^ 62 by omega)]
  try rw [show A .lenN 10 = 10 from by rw [Ar.lenN_eq hA]; rfl]
  refine Ok.op (rem_op (by cbv) (by cbv) (by decide) (Int.ofNat r) (by rw [hr]; rfl)) ?_
  clear hr
  obtain rfl | rfl | rfl | rfl | rfl | rfl | rfl | rfl | rfl | rfl : r = 0 ∨ r = 1 ∨ r = 2 ∨ r = 3 ∨ r = 4 ∨ r = 5 ∨ r = 6 ∨ r = 7 ∨ r = 8 ∨ r = 9 := by omega
  · have c := cC [97, 100, 100] ⟨2, 2, [1, 1], false, 1⟩ (by simp [twoW])
    rw [two_kind h3 h4 1 1 (by omega)] at c
    clear cC
    have q0 : A .seq [97, 100, 100] [101, 113] = false := by rw [Ar.seq_eq hA]; decide
    have q1 : A .seq [97, 100, 100] [108, 116] = false := by rw [Ar.seq_eq hA]; decide
    have q2 : A .seq [97, 100, 100] [97, 110, 100] = false := by rw [Ar.seq_eq hA]; decide
    have q3 : A .seq [97, 100, 100] [111, 114] = false := by rw [Ar.seq_eq hA]; decide
    have q4 : A .seq [97, 100, 100] [99, 97, 116] = false := by rw [Ar.seq_eq hA]; decide
    have z0 : A .eq 1 0 = false := by rw [Ar.eq_eq hA]; decide
    have zl : A .lenP [] = 0 := by rw [Ar.lenP_eq hA]; rfl
    generalize sameT ⟨ak, al⟩ ⟨bk, bl⟩ = S at c cs
    have ek : A .eq ak 1 = decide (ak = 1) := Ar.eq_eq hA _ _
    dsimp only at c
    generalize decide (ak = 1) = K at ek c
    cases S <;> cases K
    · rw [if_pos (by decide)] at c
      repeat (first | (apply Ok.run1 hmix hA false 2000; focus (cbv; done)) | (apply Ok.one hmix hA; focus (cbv; done)) | (rw [Ar.notT hA]) | (rw [Ar.notF hA]) | (refine Ok.condT ?_ ?_; focus (cbv; done)) | (refine Ok.condF ?_ ?_; focus (cbv; done)) | (refine Ok.drawnE (by as_aux_lemma => kernel_rfl) ?_) | (apply Ok.op; (focus (cbv; done))) | (apply Ok.dop; (focus (cbv; done))) | (apply Ok.call (cx); (focus (cbv; done)); (focus (cbv; done)); (focus (cbv; done))) | (apply Ok.dcall (cx); (focus (cbv; done)); (focus (cbv; done)); (focus (cbv; done))) | (apply Ok.call (c); (focus (cbv; done)); (focus (cbv; done)); (focus (cbv; done))) | (apply Ok.dcall (c); (focus (cbv; done)); (focus (cbv; done)); (focus (cbv; done))) | (apply Ok.call (cs); (focus (cbv; done)); (focus (cbv; done)); (focus (cbv; done))) | (apply Ok.dcall (cs); (focus (cbv; done)); (focus (cbv; done)); (focus (cbv; done))) | (rw [hAe]) | (rw [zl]) | (rw [z0]) | (rw [q0]) | (rw [q1]) | (rw [q2]) | (rw [q3]) | (rw [q4]) | (rw [ek]))
      (first | (apply Ok.fin1; (focus (cbv; done)); (focus (cbv; done))) | (apply Ok.fin2; (focus (cbv; done)); (focus (cbv; done))) | (apply Ok.fin3; (focus (cbv; done)); (focus (cbv; done))))
      all_goals rfl
    · rw [if_pos (by decide)] at c
      repeat (first | (apply Ok.run1 hmix hA false 2000; focus (cbv; done)) | (apply Ok.one hmix hA; focus (cbv; done)) | (rw [Ar.notT hA]) | (rw [Ar.notF hA]) | (refine Ok.condT ?_ ?_; focus (cbv; done)) | (refine Ok.condF ?_ ?_; focus (cbv; done)) | (refine Ok.drawnE (by as_aux_lemma => kernel_rfl) ?_) | (apply Ok.op; (focus (cbv; done))) | (apply Ok.dop; (focus (cbv; done))) | (apply Ok.call (cx); (focus (cbv; done)); (focus (cbv; done)); (focus (cbv; done))) | (apply Ok.dcall (cx); (focus (cbv; done)); (focus (cbv; done)); (focus (cbv; done))) | (apply Ok.call (c); (focus (cbv; done)); (focus (cbv; done)); (focus (cbv; done))) | (apply Ok.dcall (c); (focus (cbv; done)); (focus (cbv; done)); (focus (cbv; done))) | (apply Ok.call (cs); (focus (cbv; done)); (focus (cbv; done)); (focus (cbv; done))) | (apply Ok.dcall (cs); (focus (cbv; done)); (focus (cbv; done)); (focus (cbv; done))) | (rw [hAe]) | (rw [zl]) | (rw [z0]) | (rw [q0]) | (rw [q1]) | (rw [q2]) | (rw [q3]) | (rw [q4]) | (rw [ek]))
      (first | (apply Ok.fin1; (focus (cbv; done)); (focus (cbv; done))) | (apply Ok.fin2; (focus (cbv; done)); (focus (cbv; done))) | (apply Ok.fin3; (focus (cbv; done)); (focus (cbv; done))))
      all_goals rfl
    · rw [if_pos (by decide)] at c
      repeat (first | (apply Ok.run1 hmix hA false 2000; focus (cbv; done)) | (apply Ok.one hmix hA; focus (cbv; done)) | (rw [Ar.notT hA]) | (rw [Ar.notF hA]) | (refine Ok.condT ?_ ?_; focus (cbv; done)) | (refine Ok.condF ?_ ?_; focus (cbv; done)) | (refine Ok.drawnE (by as_aux_lemma => kernel_rfl) ?_) | (apply Ok.op; (focus (cbv; done))) | (apply Ok.dop; (focus (cbv; done))) | (apply Ok.call (cx); (focus (cbv; done)); (focus (cbv; done)); (focus (cbv; done))) | (apply Ok.dcall (cx); (focus (cbv; done)); (focus (cbv; done)); (focus (cbv; done))) | (apply Ok.call (c); (focus (cbv; done)); (focus (cbv; done)); (focus (cbv; done))) | (apply Ok.dcall (c); (focus (cbv; done)); (focus (cbv; done)); (focus (cbv; done))) | (apply Ok.call (cs); (focus (cbv; done)); (focus (cbv; done)); (focus (cbv; done))) | (apply Ok.dcall (cs); (focus (cbv; done)); (focus (cbv; done)); (focus (cbv; done))) | (rw [hAe]) | (rw [zl]) | (rw [z0]) | (rw [q0]) | (rw [q1]) | (rw [q2]) | (rw [q3]) | (rw [q4]) | (rw [ek]))
      (first | (apply Ok.fin1; (focus (cbv; done)); (focus (cbv; done))) | (apply Ok.fin2; (focus (cbv; done)); (focus (cbv; done))) | (apply Ok.fin3; (focus (cbv; done)); (focus (cbv; done))))
      all_goals rfl
    · rw [if_neg (by decide)] at c
      repeat (first | (apply Ok.run1 hmix hA false 2000; focus (cbv; done)) | (apply Ok.one hmix hA; focus (cbv; done)) | (rw [Ar.notT hA]) | (rw [Ar.notF hA]) | (refine Ok.condT ?_ ?_; focus (cbv; done)) | (refine Ok.condF ?_ ?_; focus (cbv; done)) | (refine Ok.drawnE (by as_aux_lemma => kernel_rfl) ?_) | (apply Ok.op; (focus (cbv; done))) | (apply Ok.dop; (focus (cbv; done))) | (apply Ok.call (cx); (focus (cbv; done)); (focus (cbv; done)); (focus (cbv; done))) | (apply Ok.dcall (cx); (focus (cbv; done)); (focus (cbv; done)); (focus (cbv; done))) | (apply Ok.call (c); (focus (cbv; done)); (focus (cbv; done)); (focus (cbv; done))) | (apply Ok.dcall (c); (focus (cbv; done)); (focus (cbv; done)); (focus (cbv; done))) | (apply Ok.call (cs); (focus (cbv; done)); (focus (cbv; done)); (focus (cbv; done))) | (apply Ok.dcall (cs); (focus (cbv; done)); (focus (cbv; done)); (focus (cbv; done))) | (rw [hAe]) | (rw [zl]) | (rw [z0]) | (rw [q0]) | (rw [q1]) | (rw [q2]) | (rw [q3]) | (rw [q4]) | (rw [ek]))
      (first | (apply Ok.fin1; (focus (cbv; done)); (focus (cbv; done))) | (apply Ok.fin2; (focus (cbv; done)); (focus (cbv; done))) | (apply Ok.fin3; (focus (cbv; done)); (focus (cbv; done))))
      all_goals rfl
  · have c := cC [115, 117, 98] ⟨2, 2, [1, 1], false, 1⟩ (by simp [twoW])
    rw [two_kind h3 h4 1 1 (by omega)] at c
    clear cC
    have q0 : A .seq [115, 117, 98] [101, 113] = false := by rw [Ar.seq_eq hA]; decide
    have q1 : A .seq [115, 117, 98] [108, 116] = false := by rw [Ar.seq_eq hA]; decide
    have q2 : A .seq [115, 117, 98] [97, 110, 100] = false := by rw [Ar.seq_eq hA]; decide
    have q3 : A .seq [115, 117, 98] [111, 114] = false := by rw [Ar.seq_eq hA]; decide
    have q4 : A .seq [115, 117, 98] [99, 97, 116] = false := by rw [Ar.seq_eq hA]; decide
    have z0 : A .eq 1 0 = false := by rw [Ar.eq_eq hA]; decide
    have zl : A .lenP [] = 0 := by rw [Ar.lenP_eq hA]; rfl
    generalize sameT ⟨ak, al⟩ ⟨bk, bl⟩ = S at c cs
    have ek : A .eq ak 1 = decide (ak = 1) := Ar.eq_eq hA _ _
    dsimp only at c
    generalize decide (ak = 1) = K at ek c
    cases S <;> cases K
    · rw [if_pos (by decide)] at c
      repeat (first | (apply Ok.run1 hmix hA false 2000; focus (cbv; done)) | (apply Ok.one hmix hA; focus (cbv; done)) | (rw [Ar.notT hA]) | (rw [Ar.notF hA]) | (refine Ok.condT ?_ ?_; focus (cbv; done)) | (refine Ok.condF ?_ ?_; focus (cbv; done)) | (refine Ok.drawnE (by as_aux_lemma => kernel_rfl) ?_) | (apply Ok.op; (focus (cbv; done))) | (apply Ok.dop; (focus (cbv; done))) | (apply Ok.call (cx); (focus (cbv; done)); (focus (cbv; done)); (focus (cbv; done))) | (apply Ok.dcall (cx); (focus (cbv; done)); (focus (cbv; done)); (focus (cbv; done))) | (apply Ok.call (c); (focus (cbv; done)); (focus (cbv; done)); (focus (cbv; done))) | (apply Ok.dcall (c); (focus (cbv; done)); (focus (cbv; done)); (focus (cbv; done))) | (apply Ok.call (cs); (focus (cbv; done)); (focus (cbv; done)); (focus (cbv; done))) | (apply Ok.dcall (cs); (focus (cbv; done)); (focus (cbv; done)); (focus (cbv; done))) | (rw [hAe]) | (rw [zl]) | (rw [z0]) | (rw [q0]) | (rw [q1]) | (rw [q2]) | (rw [q3]) | (rw [q4]) | (rw [ek]))
      (first | (apply Ok.fin1; (focus (cbv; done)); (focus (cbv; done))) | (apply Ok.fin2; (focus (cbv; done)); (focus (cbv; done))) | (apply Ok.fin3; (focus (cbv; done)); (focus (cbv; done))))
      all_goals rfl
    · rw [if_pos (by decide)] at c
      repeat (first | (apply Ok.run1 hmix hA false 2000; focus (cbv; done)) | (apply Ok.one hmix hA; focus (cbv; done)) | (rw [Ar.notT hA]) | (rw [Ar.notF hA]) | (refine Ok.condT ?_ ?_; focus (cbv; done)) | (refine Ok.condF ?_ ?_; focus (cbv; done)) | (refine Ok.drawnE (by as_aux_lemma => kernel_rfl) ?_) | (apply Ok.op; (focus (cbv; done))) | (apply Ok.dop; (focus (cbv; done))) | (apply Ok.call (cx); (focus (cbv; done)); (focus (cbv; done)); (focus (cbv; done))) | (apply Ok.dcall (cx); (focus (cbv; done)); (focus (cbv; done)); (focus (cbv; done))) | (apply Ok.call (c); (focus (cbv; done)); (focus (cbv; done)); (focus (cbv; done))) | (apply Ok.dcall (c); (focus (cbv; done)); (focus (cbv; done)); (focus (cbv; done))) | (apply Ok.call (cs); (focus (cbv; done)); (focus (cbv; done)); (focus (cbv; done))) | (apply Ok.dcall (cs); (focus (cbv; done)); (focus (cbv; done)); (focus (cbv; done))) | (rw [hAe]) | (rw [zl]) | (rw [z0]) | (rw [q0]) | (rw [q1]) | (rw [q2]) | (rw [q3]) | (rw [q4]) | (rw [ek]))
      (first | (apply Ok.fin1; (focus (cbv; done)); (focus (cbv; done))) | (apply Ok.fin2; (focus (cbv; done)); (focus (cbv; done))) | (apply Ok.fin3; (focus (cbv; done)); (focus (cbv; done))))
      all_goals rfl
    · rw [if_pos (by decide)] at c
      repeat (first | (apply Ok.run1 hmix hA false 2000; focus (cbv; done)) | (apply Ok.one hmix hA; focus (cbv; done)) | (rw [Ar.notT hA]) | (rw [Ar.notF hA]) | (refine Ok.condT ?_ ?_; focus (cbv; done)) | (refine Ok.condF ?_ ?_; focus (cbv; done)) | (refine Ok.drawnE (by as_aux_lemma => kernel_rfl) ?_) | (apply Ok.op; (focus (cbv; done))) | (apply Ok.dop; (focus (cbv; done))) | (apply Ok.call (cx); (focus (cbv; done)); (focus (cbv; done)); (focus (cbv; done))) | (apply Ok.dcall (cx); (focus (cbv; done)); (focus (cbv; done)); (focus (cbv; done))) | (apply Ok.call (c); (focus (cbv; done)); (focus (cbv; done)); (focus (cbv; done))) | (apply Ok.dcall (c); (focus (cbv; done)); (focus (cbv; done)); (focus (cbv; done))) | (apply Ok.call (cs); (focus (cbv; done)); (focus (cbv; done)); (focus (cbv; done))) | (apply Ok.dcall (cs); (focus (cbv; done)); (focus (cbv; done)); (focus (cbv; done))) | (rw [hAe]) | (rw [zl]) | (rw [z0]) | (rw [q0]) | (rw [q1]) | (rw [q2]) | (rw [q3]) | (rw [q4]) | (rw [ek]))
      (first | (apply Ok.fin1; (focus (cbv; done)); (focus (cbv; done))) | (apply Ok.fin2; (focus (cbv; done)); (focus (cbv; done))) | (apply Ok.fin3; (focus (cbv; done)); (focus (cbv; done))))
      all_goals rfl
    · rw [if_neg (by decide)] at c
      repeat (first | (apply Ok.run1 hmix hA false 2000; focus (cbv; done)) | (apply Ok.one hmix hA; focus (cbv; done)) | (rw [Ar.notT hA]) | (rw [Ar.notF hA]) | (refine Ok.condT ?_ ?_; focus (cbv; done)) | (refine Ok.condF ?_ ?_; focus (cbv; done)) | (refine Ok.drawnE (by as_aux_lemma => kernel_rfl) ?_) | (apply Ok.op; (focus (cbv; done))) | (apply Ok.dop; (focus (cbv; done))) | (apply Ok.call (cx); (focus (cbv; done)); (focus (cbv; done)); (focus (cbv; done))) | (apply Ok.dcall (cx); (focus (cbv; done)); (focus (cbv; done)); (focus (cbv; done))) | (apply Ok.call (c); (focus (cbv; done)); (focus (cbv; done)); (focus (cbv; done))) | (apply Ok.dcall (c); (focus (cbv; done)); (focus (cbv; done)); (focus (cbv; done))) | (apply Ok.call (cs); (focus (cbv; done)); (focus (cbv; done)); (focus (cbv; done))) | (apply Ok.dcall (cs); (focus (cbv; done)); (focus (cbv; done)); (focus (cbv; done))) | (rw [hAe]) | (rw [zl]) | (rw [z0]) | (rw [q0]) | (rw [q1]) | (rw [q2]) | (rw [q3]) | (rw [q4]) | (rw [ek]))
      (first | (apply Ok.fin1; (focus (cbv; done)); (focus (cbv; done))) | (apply Ok.fin2; (focus (cbv; done)); (focus (cbv; done))) | (apply Ok.fin3; (focus (cbv; done)); (focus (cbv; done))))
      all_goals rfl
  · have c := cC [109, 117, 108] ⟨2, 2, [1, 1], false, 1⟩ (by simp [twoW])
    rw [two_kind h3 h4 1 1 (by omega)] at c
    clear cC
    have q0 : A .seq [109, 117, 108] [101, 113] = false := by rw [Ar.seq_eq hA]; decide
    have q1 : A .seq [109, 117, 108] [108, 116] = false := by rw [Ar.seq_eq hA]; decide
    have q2 : A .seq [109, 117, 108] [97, 110, 100] = false := by rw [Ar.seq_eq hA]; decide
    have q3 : A .seq [109, 117, 108] [111, 114] = false := by rw [Ar.seq_eq hA]; decide
    have q4 : A .seq [109, 117, 108] [99, 97, 116] = false := by rw [Ar.seq_eq hA]; decide
    have z0 : A .eq 1 0 = false := by rw [Ar.eq_eq hA]; decide
    have zl : A .lenP [] = 0 := by rw [Ar.lenP_eq hA]; rfl
    generalize sameT ⟨ak, al⟩ ⟨bk, bl⟩ = S at c cs
    have ek : A .eq ak 1 = decide (ak = 1) := Ar.eq_eq hA _ _
    dsimp only at c
    generalize decide (ak = 1) = K at ek c
    cases S <;> cases K
    · rw [if_pos (by decide)] at c
      repeat (first | (apply Ok.run1 hmix hA false 2000; focus (cbv; done)) | (apply Ok.one hmix hA; focus (cbv; done)) | (rw [Ar.notT hA]) | (rw [Ar.notF hA]) | (refine Ok.condT ?_ ?_; focus (cbv; done)) | (refine Ok.condF ?_ ?_; focus (cbv; done)) | (refine Ok.drawnE (by as_aux_lemma => kernel_rfl) ?_) | (apply Ok.op; (focus (cbv; done))) | (apply Ok.dop; (focus (cbv; done))) | (apply Ok.call (cx); (focus (cbv; done)); (focus (cbv; done)); (focus (cbv; done))) | (apply Ok.dcall (cx); (focus (cbv; done)); (focus (cbv; done)); (focus (cbv; done))) | (apply Ok.call (c); (focus (cbv; done)); (focus (cbv; done)); (focus (cbv; done))) | (apply Ok.dcall (c); (focus (cbv; done)); (focus (cbv; done)); (focus (cbv; done))) | (apply Ok.call (cs); (focus (cbv; done)); (focus (cbv; done)); (focus (cbv; done))) | (apply Ok.dcall (cs); (focus (cbv; done)); (focus (cbv; done)); (focus (cbv; done))) | (rw [hAe]) | (rw [zl]) | (rw [z0]) | (rw [q0]) | (rw [q1]) | (rw [q2]) | (rw [q3]) | (rw [q4]) | (rw [ek]))
      (first | (apply Ok.fin1; (focus (cbv; done)); (focus (cbv; done))) | (apply Ok.fin2; (focus (cbv; done)); (focus (cbv; done))) | (apply Ok.fin3; (focus (cbv; done)); (focus (cbv; done))))
      all_goals rfl
    · rw [if_pos (by decide)] at c
      repeat (first | (apply Ok.run1 hmix hA false 2000; focus (cbv; done)) | (apply Ok.one hmix hA; focus (cbv; done)) | (rw [Ar.notT hA]) | (rw [Ar.notF hA]) | (refine Ok.condT ?_ ?_; focus (cbv; done)) | (refine Ok.condF ?_ ?_; focus (cbv; done)) | (refine Ok.drawnE (by as_aux_lemma => kernel_rfl) ?_) | (apply Ok.op; (focus (cbv; done))) | (apply Ok.dop; (focus (cbv; done))) | (apply Ok.call (cx); (focus (cbv; done)); (focus (cbv; done)); (focus (cbv; done))) | (apply Ok.dcall (cx); (focus (cbv; done)); (focus (cbv; done)); (focus (cbv; done))) | (apply Ok.call (c); (focus (cbv; done)); (focus (cbv; done)); (focus (cbv; done))) | (apply Ok.dcall (c); (focus (cbv; done)); (focus (cbv; done)); (focus (cbv; done))) | (apply Ok.call (cs); (focus (cbv; done)); (focus (cbv; done)); (focus (cbv; done))) | (apply Ok.dcall (cs); (focus (cbv; done)); (focus (cbv; done)); (focus (cbv; done))) | (rw [hAe]) | (rw [zl]) | (rw [z0]) | (rw [q0]) | (rw [q1]) | (rw [q2]) | (rw [q3]) | (rw [q4]) | (rw [ek]))
      (first | (apply Ok.fin1; (focus (cbv; done)); (focus (cbv; done))) | (apply Ok.fin2; (focus (cbv; done)); (focus (cbv; done))) | (apply Ok.fin3; (focus (cbv; done)); (focus (cbv; done))))
      all_goals rfl
    · rw [if_pos (by decide)] at c
      repeat (first | (apply Ok.run1 hmix hA false 2000; focus (cbv; done)) | (apply Ok.one hmix hA; focus (cbv; done)) | (rw [Ar.notT hA]) | (rw [Ar.notF hA]) | (refine Ok.condT ?_ ?_; focus (cbv; done)) | (refine Ok.condF ?_ ?_; focus (cbv; done)) | (refine Ok.drawnE (by as_aux_lemma => kernel_rfl) ?_) | (apply Ok.op; (focus (cbv; done))) | (apply Ok.dop; (focus (cbv; done))) | (apply Ok.call (cx); (focus (cbv; done)); (focus (cbv; done)); (focus (cbv; done))) | (apply Ok.dcall (cx); (focus (cbv; done)); (focus (cbv; done)); (focus (cbv; done))) | (apply Ok.call (c); (focus (cbv; done)); (focus (cbv; done)); (focus (cbv; done))) | (apply Ok.dcall (c); (focus (cbv; done)); (focus (cbv; done)); (focus (cbv; done))) | (apply Ok.call (cs); (focus (cbv; done)); (focus (cbv; done)); (focus (cbv; done))) | (apply Ok.dcall (cs); (focus (cbv; done)); (focus (cbv; done)); (focus (cbv; done))) | (rw [hAe]) | (rw [zl]) | (rw [z0]) | (rw [q0]) | (rw [q1]) | (rw [q2]) | (rw [q3]) | (rw [q4]) | (rw [ek]))
      (first | (apply Ok.fin1; (focus (cbv; done)); (focus (cbv; done))) | (apply Ok.fin2; (focus (cbv; done)); (focus (cbv; done))) | (apply Ok.fin3; (focus (cbv; done)); (focus (cbv; done))))
      all_goals rfl
    · rw [if_neg (by decide)] at c
      repeat (first | (apply Ok.run1 hmix hA false 2000; focus (cbv; done)) | (apply Ok.one hmix hA; focus (cbv; done)) | (rw [Ar.notT hA]) | (rw [Ar.notF hA]) | (refine Ok.condT ?_ ?_; focus (cbv; done)) | (refine Ok.condF ?_ ?_; focus (cbv; done)) | (refine Ok.drawnE (by as_aux_lemma => kernel_rfl) ?_) | (apply Ok.op; (focus (cbv; done))) | (apply Ok.dop; (focus (cbv; done))) | (apply Ok.call (cx); (focus (cbv; done)); (focus (cbv; done)); (focus (cbv; done))) | (apply Ok.dcall (cx); (focus (cbv; done)); (focus (cbv; done)); (focus (cbv; done))) | (apply Ok.call (c); (focus (cbv; done)); (focus (cbv; done)); (focus (cbv; done))) | (apply Ok.dcall (c); (focus (cbv; done)); (focus (cbv; done)); (focus (cbv; done))) | (apply Ok.call (cs); (focus (cbv; done)); (focus (cbv; done)); (focus (cbv; done))) | (apply Ok.dcall (cs); (focus (cbv; done)); (focus (cbv; done)); (focus (cbv; done))) | (rw [hAe]) | (rw [zl]) | (rw [z0]) | (rw [q0]) | (rw [q1]) | (rw [q2]) | (rw [q3]) | (rw [q4]) | (rw [ek]))
      (first | (apply Ok.fin1; (focus (cbv; done)); (focus (cbv; done))) | (apply Ok.fin2; (focus (cbv; done)); (focus (cbv; done))) | (apply Ok.fin3; (focus (cbv; done)); (focus (cbv; done))))
      all_goals rfl
  · have c := cC [100, 105, 118] ⟨2, 2, [1, 1], false, 1⟩ (by simp [twoW])
    rw [two_kind h3 h4 1 1 (by omega)] at c
    clear cC
    have q0 : A .seq [100, 105, 118] [101, 113] = false := by rw [Ar.seq_eq hA]; decide
    have q1 : A .seq [100, 105, 118] [108, 116] = false := by rw [Ar.seq_eq hA]; decide
    have q2 : A .seq [100, 105, 118] [97, 110, 100] = false := by rw [Ar.seq_eq hA]; decide
    have q3 : A .seq [100, 105, 118] [111, 114] = false := by rw [Ar.seq_eq hA]; decide
    have q4 : A .seq [100, 105, 118] [99, 97, 116] = false := by rw [Ar.seq_eq hA]; decide
    have z0 : A .eq 1 0 = false := by rw [Ar.eq_eq hA]; decide
    have zl : A .lenP [] = 0 := by rw [Ar.lenP_eq hA]; rfl
    generalize sameT ⟨ak, al⟩ ⟨bk, bl⟩ = S at c cs
    have ek : A .eq ak 1 = decide (ak = 1) := Ar.eq_eq hA _ _
    dsimp only at c
    generalize decide (ak = 1) = K at ek c
    cases S <;> cases K
    · rw [if_pos (by decide)] at c
      repeat (first | (apply Ok.run1 hmix hA false 2000; focus (cbv; done)) | (apply Ok.one hmix hA; focus (cbv; done)) | (rw [Ar.notT hA]) | (rw [Ar.notF hA]) | (refine Ok.condT ?_ ?_; focus (cbv; done)) | (refine Ok.condF ?_ ?_; focus (cbv; done)) | (refine Ok.drawnE (by as_aux_lemma => kernel_rfl) ?_) | (apply Ok.op; (focus (cbv; done))) | (apply Ok.dop; (focus (cbv; done))) | (apply Ok.call (cx); (focus (cbv; done)); (focus (cbv; done)); (focus (cbv; done))) | (apply Ok.dcall (cx); (focus (cbv; done)); (focus (cbv; done)); (focus (cbv; done))) | (apply Ok.call (c); (focus (cbv; done)); (focus (cbv; done)); (focus (cbv; done))) | (apply Ok.dcall (c); (focus (cbv; done)); (focus (cbv; done)); (focus (cbv; done))) | (apply Ok.call (cs); (focus (cbv; done)); (focus (cbv; done)); (focus (cbv; done))) | (apply Ok.dcall (cs); (focus (cbv; done)); (focus (cbv; done)); (focus (cbv; done))) | (rw [hAe]) | (rw [zl]) | (rw [z0]) | (rw [q0]) | (rw [q1]) | (rw [q2]) | (rw [q3]) | (rw [q4]) | (rw [ek]))
      (first | (apply Ok.fin1; (focus (cbv; done)); (focus (cbv; done))) | (apply Ok.fin2; (focus (cbv; done)); (focus (cbv; done))) | (apply Ok.fin3; (focus (cbv; done)); (focus (cbv; done))))
      all_goals rfl
    · rw [if_pos (by decide)] at c
      repeat (first | (apply Ok.run1 hmix hA false 2000; focus (cbv; done)) | (apply Ok.one hmix hA; focus (cbv; done)) | (rw [Ar.notT hA]) | (rw [Ar.notF hA]) | (refine Ok.condT ?_ ?_; focus (cbv; done)) | (refine Ok.condF ?_ ?_; focus (cbv; done)) | (refine Ok.drawnE (by as_aux_lemma => kernel_rfl) ?_) | (apply Ok.op; (focus (cbv; done))) | (apply Ok.dop; (focus (cbv; done))) | (apply Ok.call (cx); (focus (cbv; done)); (focus (cbv; done)); (focus (cbv; done))) | (apply Ok.dcall (cx); (focus (cbv; done)); (focus (cbv; done)); (focus (cbv; done))) | (apply Ok.call (c); (focus (cbv; done)); (focus (cbv; done)); (focus (cbv; done))) | (apply Ok.dcall (c); (focus (cbv; done)); (focus (cbv; done)); (focus (cbv; done))) | (apply Ok.call (cs); (focus (cbv; done)); (focus (cbv; done)); (focus (cbv; done))) | (apply Ok.dcall (cs); (focus (cbv; done)); (focus (cbv; done)); (focus (cbv; done))) | (rw [hAe]) | (rw [zl]) | (rw [z0]) | (rw [q0]) | (rw [q1]) | (rw [q2]) | (rw [q3]) | (rw [q4]) | (rw [ek]))
      (first | (apply Ok.fin1; (focus (cbv; done)); (focus (cbv; done))) | (apply Ok.fin2; (focus (cbv; done)); (focus (cbv; done))) | (apply Ok.fin3; (focus (cbv; done)); (focus (cbv; done))))
      all_goals rfl
    · rw [if_pos (by decide)] at c
      repeat (first | (apply Ok.run1 hmix hA false 2000; focus (cbv; done)) | (apply Ok.one hmix hA; focus (cbv; done)) | (rw [Ar.notT hA]) | (rw [Ar.notF hA]) | (refine Ok.condT ?_ ?_; focus (cbv; done)) | (refine Ok.condF ?_ ?_; focus (cbv; done)) | (refine Ok.drawnE (by as_aux_lemma => kernel_rfl) ?_) | (apply Ok.op; (focus (cbv; done))) | (apply Ok.dop; (focus (cbv; done))) | (apply Ok.call (cx); (focus (cbv; done)); (focus (cbv; done)); (focus (cbv; done))) | (apply Ok.dcall (cx); (focus (cbv; done)); (focus (cbv; done)); (focus (cbv; done))) | (apply Ok.call (c); (focus (cbv; done)); (focus (cbv; done)); (focus (cbv; done))) | (apply Ok.dcall (c); (focus (cbv; done)); (focus (cbv; done)); (focus (cbv; done))) | (apply Ok.call (cs); (focus (cbv; done)); (focus (cbv; done)); (focus (cbv; done))) | (apply Ok.dcall (cs); (focus (cbv; done)); (focus (cbv; done)); (focus (cbv; done))) | (rw [hAe]) | (rw [zl]) | (rw [z0]) | (rw [q0]) | (rw [q1]) | (rw [q2]) | (rw [q3]) | (rw [q4]) | (rw [ek]))
      (first | (apply Ok.fin1; (focus (cbv; done)); (focus (cbv; done))) | (apply Ok.fin2; (focus (cbv; done)); (focus (cbv; done))) | (apply Ok.fin3; (focus (cbv; done)); (focus (cbv; done))))
      all_goals rfl
    · rw [if_neg (by decide)] at c
      repeat (first | (apply Ok.run1 hmix hA false 2000; focus (cbv; done)) | (apply Ok.one hmix hA; focus (cbv; done)) | (rw [Ar.notT hA]) | (rw [Ar.notF hA]) | (refine Ok.condT ?_ ?_; focus (cbv; done)) | (refine Ok.condF ?_ ?_; focus (cbv; done)) | (refine Ok.drawnE (by as_aux_lemma => kernel_rfl) ?_) | (apply Ok.op; (focus (cbv; done))) | (apply Ok.dop; (focus (cbv; done))) | (apply Ok.call (cx); (focus (cbv; done)); (focus (cbv; done)); (focus (cbv; done))) | (apply Ok.dcall (cx); (focus (cbv; done)); (focus (cbv; done)); (focus (cbv; done))) | (apply Ok.call (c); (focus (cbv; done)); (focus (cbv; done)); (focus (cbv; done))) | (apply Ok.dcall (c); (focus (cbv; done)); (focus (cbv; done)); (focus (cbv; done))) | (apply Ok.call (cs); (focus (cbv; done)); (focus (cbv; done)); (focus (cbv; done))) | (apply Ok.dcall (cs); (focus (cbv; done)); (focus (cbv; done)); (focus (cbv; done))) | (rw [hAe]) | (rw [zl]) | (rw [z0]) | (rw [q0]) | (rw [q1]) | (rw [q2]) | (rw [q3]) | (rw [q4]) | (rw [ek]))
      (first | (apply Ok.fin1; (focus (cbv; done)); (focus (cbv; done))) | (apply Ok.fin2; (focus (cbv; done)); (focus (cbv; done))) | (apply Ok.fin3; (focus (cbv; done)); (focus (cbv; done))))
      all_goals rfl
  · have c := cC [114, 101, 109] ⟨2, 2, [1, 1], false, 1⟩ (by simp [twoW])
    rw [two_kind h3 h4 1 1 (by omega)] at c
    clear cC
    have q0 : A .seq [114, 101, 109] [101, 113] = false := by rw [Ar.seq_eq hA]; decide
    have q1 : A .seq [114, 101, 109] [108, 116] = false := by rw [Ar.seq_eq hA]; decide
    have q2 : A .seq [114, 101, 109] [97, 110, 100] = false := by rw [Ar.seq_eq hA]; decide
    have q3 : A .seq [114, 101, 109] [111, 114] = false := by rw [Ar.seq_eq hA]; decide
    have q4 : A .seq [114, 101, 109] [99, 97, 116] = false := by rw [Ar.seq_eq hA]; decide
    have z0 : A .eq 1 0 = false := by rw [Ar.eq_eq hA]; decide
    have zl : A .lenP [] = 0 := by rw [Ar.lenP_eq hA]; rfl
    generalize sameT ⟨ak, al⟩ ⟨bk, bl⟩ = S at c cs
    have ek : A .eq ak 1 = decide (ak = 1) := Ar.eq_eq hA _ _
    dsimp only at c
    generalize decide (ak = 1) = K at ek c
    cases S <;> cases K
    · rw [if_pos (by decide)] at c
      repeat (first | (apply Ok.run1 hmix hA false 2000; focus (cbv; done)) | (apply Ok.one hmix hA; focus (cbv; done)) | (rw [Ar.notT hA]) | (rw [Ar.notF hA]) | (refine Ok.condT ?_ ?_; focus (cbv; done)) | (refine Ok.condF ?_ ?_; focus (cbv; done)) | (refine Ok.drawnE (by as_aux_lemma => kernel_rfl) ?_) | (apply Ok.op; (focus (cbv; done))) | (apply Ok.dop; (focus (cbv; done))) | (apply Ok.call (cx); (focus (cbv; done)); (focus (cbv; done)); (focus (cbv; done))) | (apply Ok.dcall (cx); (focus (cbv; done)); (focus (cbv; done)); (focus (cbv; done))) | (apply Ok.call (c); (focus (cbv; done)); (focus (cbv; done)); (focus (cbv; done))) | (apply Ok.dcall (c); (focus (cbv; done)); (focus (cbv; done)); (focus (cbv; done))) | (apply Ok.call (cs); (focus (cbv; done)); (focus (cbv; done)); (focus (cbv; done))) | (apply Ok.dcall (cs); (focus (cbv; done)); (focus (cbv; done)); (focus (cbv; done))) | (rw [hAe]) | (rw [zl]) | (rw [z0]) | (rw [q0]) | (rw [q1]) | (rw [q2]) | (rw [q3]) | (rw [q4]) | (rw [ek]))
      (first | (apply Ok.fin1; (focus (cbv; done)); (focus (cbv; done))) | (apply Ok.fin2; (focus (cbv; done)); (focus (cbv; done))) | (apply Ok.fin3; (focus (cbv; done)); (focus (cbv; done))))
      all_goals rfl
    · rw [if_pos (by decide)] at c
      repeat (first | (apply Ok.run1 hmix hA false 2000; focus (cbv; done)) | (apply Ok.one hmix hA; focus (cbv; done)) | (rw [Ar.notT hA]) | (rw [Ar.notF hA]) | (refine Ok.condT ?_ ?_; focus (cbv; done)) | (refine Ok.condF ?_ ?_; focus (cbv; done)) | (refine Ok.drawnE (by as_aux_lemma => kernel_rfl) ?_) | (apply Ok.op; (focus (cbv; done))) | (apply Ok.dop; (focus (cbv; done))) | (apply Ok.call (cx); (focus (cbv; done)); (focus (cbv; done)); (focus (cbv; done))) | (apply Ok.dcall (cx); (focus (cbv; done)); (focus (cbv; done)); (focus (cbv; done))) | (apply Ok.call (c); (focus (cbv; done)); (focus (cbv; done)); (focus (cbv; done))) | (apply Ok.dcall (c); (focus (cbv; done)); (focus (cbv; done)); (focus (cbv; done))) | (apply Ok.call (cs); (focus (cbv; done)); (focus (cbv; done)); (focus (cbv; done))) | (apply Ok.dcall (cs); (focus (cbv; done)); (focus (cbv; done)); (focus (cbv; done))) | (rw [hAe]) | (rw [zl]) | (rw [z0]) | (rw [q0]) | (rw [q1]) | (rw [q2]) | (rw [q3]) | (rw [q4]) | (rw [ek]))
      (first | (apply Ok.fin1; (focus (cbv; done)); (focus (cbv; done))) | (apply Ok.fin2; (focus (cbv; done)); (focus (cbv; done))) | (apply Ok.fin3; (focus (cbv; done)); (focus (cbv; done))))
      all_goals rfl
    · rw [if_pos (by decide)] at c
      repeat (first | (apply Ok.run1 hmix hA false 2000; focus (cbv; done)) | (apply Ok.one hmix hA; focus (cbv; done)) | (rw [Ar.notT hA]) | (rw [Ar.notF hA]) | (refine Ok.condT ?_ ?_; focus (cbv; done)) | (refine Ok.condF ?_ ?_; focus (cbv; done)) | (refine Ok.drawnE (by as_aux_lemma => kernel_rfl) ?_) | (apply Ok.op; (focus (cbv; done))) | (apply Ok.dop; (focus (cbv; done))) | (apply Ok.call (cx); (focus (cbv; done)); (focus (cbv; done)); (focus (cbv; done))) | (apply Ok.dcall (cx); (focus (cbv; done)); (focus (cbv; done)); (focus (cbv; done))) | (apply Ok.call (c); (focus (cbv; done)); (focus (cbv; done)); (focus (cbv; done))) | (apply Ok.dcall (c); (focus (cbv; done)); (focus (cbv; done)); (focus (cbv; done))) | (apply Ok.call (cs); (focus (cbv; done)); (focus (cbv; done)); (focus (cbv; done))) | (apply Ok.dcall (cs); (focus (cbv; done)); (focus (cbv; done)); (focus (cbv; done))) | (rw [hAe]) | (rw [zl]) | (rw [z0]) | (rw [q0]) | (rw [q1]) | (rw [q2]) | (rw [q3]) | (rw [q4]) | (rw [ek]))
      (first | (apply Ok.fin1; (focus (cbv; done)); (focus (cbv; done))) | (apply Ok.fin2; (focus (cbv; done)); (focus (cbv; done))) | (apply Ok.fin3; (focus (cbv; done)); (focus (cbv; done))))
      all_goals rfl
    · rw [if_neg (by decide)] at c
      repeat (first | (apply Ok.run1 hmix hA false 2000; focus (cbv; done)) | (apply Ok.one hmix hA; focus (cbv; done)) | (rw [Ar.notT hA]) | (rw [Ar.notF hA]) | (refine Ok.condT ?_ ?_; focus (cbv; done)) | (refine Ok.condF ?_ ?_; focus (cbv; done)) | (refine Ok.drawnE (by as_aux_lemma => kernel_rfl) ?_) | (apply Ok.op; (focus (cbv; done))) | (apply Ok.dop; (focus (cbv; done))) | (apply Ok.call (cx); (focus (cbv; done)); (focus (cbv; done)); (focus (cbv; done))) | (apply Ok.dcall (cx); (focus (cbv; done)); (focus (cbv; done)); (focus (cbv; done))) | (apply Ok.call (c); (focus (cbv; done)); (focus (cbv; done)); (focus (cbv; done))) | (apply Ok.dcall (c); (focus (cbv; done)); (focus (cbv; done)); (focus (cbv; done))) | (apply Ok.call (cs); (focus (cbv; done)); (focus (cbv; done)); (focus (cbv; done))) | (apply Ok.dcall (cs); (focus (cbv; done)); (focus (cbv; done)); (focus (cbv; done))) | (rw [hAe]) | (rw [zl]) | (rw [z0]) | (rw [q0]) | (rw [q1]) | (rw [q2]) | (rw [q3]) | (rw [q4]) | (rw [ek]))
      (first | (apply Ok.fin1; (focus (cbv; done)); (focus (cbv; done))) | (apply Ok.fin2; (focus (cbv; done)); (focus (cbv; done))) | (apply Ok.fin3; (focus (cbv; done)); (focus (cbv; done))))
      all_goals rfl
  · have c := cC [101, 113] ⟨2, 2, [0, 0], true, 2⟩ (by simp [twoW])
    rw [two_alike] at c
    clear cC
    have q0 : A .seq [101, 113] [101, 113] = true := by rw [Ar.seq_eq hA]; decide
    have q1 : A .seq [101, 113] [108, 116] = false := by rw [Ar.seq_eq hA]; decide
    have q2 : A .seq [101, 113] [97, 110, 100] = false := by rw [Ar.seq_eq hA]; decide
    have q3 : A .seq [101, 113] [111, 114] = false := by rw [Ar.seq_eq hA]; decide
    have q4 : A .seq [101, 113] [99, 97, 116] = false := by rw [Ar.seq_eq hA]; decide
    have z0 : A .eq 2 0 = false := by rw [Ar.eq_eq hA]; decide
    have zl : A .lenP [] = 0 := by rw [Ar.lenP_eq hA]; rfl
    generalize sameT ⟨ak, al⟩ ⟨bk, bl⟩ = S at c cs
    cases S
    · rw [if_pos (by decide)] at c
      repeat (first | (apply Ok.run1 hmix hA false 2000; focus (cbv; done)) | (apply Ok.one hmix hA; focus (cbv; done)) | (rw [Ar.notT hA]) | (rw [Ar.notF hA]) | (refine Ok.condT ?_ ?_; focus (cbv; done)) | (refine Ok.condF ?_ ?_; focus (cbv; done)) | (refine Ok.drawnE (by as_aux_lemma => kernel_rfl) ?_) | (apply Ok.op; (focus (cbv; done))) | (apply Ok.dop; (focus (cbv; done))) | (apply Ok.call (cx); (focus (cbv; done)); (focus (cbv; done)); (focus (cbv; done))) | (apply Ok.dcall (cx); (focus (cbv; done)); (focus (cbv; done)); (focus (cbv; done))) | (apply Ok.call (c); (focus (cbv; done)); (focus (cbv; done)); (focus (cbv; done))) | (apply Ok.dcall (c); (focus (cbv; done)); (focus (cbv; done)); (focus (cbv; done))) | (apply Ok.call (cs); (focus (cbv; done)); (focus (cbv; done)); (focus (cbv; done))) | (apply Ok.dcall (cs); (focus (cbv; done)); (focus (cbv; done)); (focus (cbv; done))) | (rw [hAe]) | (rw [zl]) | (rw [z0]) | (rw [q0]) | (rw [q1]) | (rw [q2]) | (rw [q3]) | (rw [q4]))
      (first | (apply Ok.fin1; (focus (cbv; done)); (focus (cbv; done))) | (apply Ok.fin2; (focus (cbv; done)); (focus (cbv; done))) | (apply Ok.fin3; (focus (cbv; done)); (focus (cbv; done))))
      all_goals rfl
    · rw [if_neg (by decide)] at c
      repeat (first | (apply Ok.run1 hmix hA false 2000; focus (cbv; done)) | (apply Ok.one hmix hA; focus (cbv; done)) | (rw [Ar.notT hA]) | (rw [Ar.notF hA]) | (refine Ok.condT ?_ ?_; focus (cbv; done)) | (refine Ok.condF ?_ ?_; focus (cbv; done)) | (refine Ok.drawnE (by as_aux_lemma => kernel_rfl) ?_) | (apply Ok.op; (focus (cbv; done))) | (apply Ok.dop; (focus (cbv; done))) | (apply Ok.call (cx); (focus (cbv; done)); (focus (cbv; done)); (focus (cbv; done))) | (apply Ok.dcall (cx); (focus (cbv; done)); (focus (cbv; done)); (focus (cbv; done))) | (apply Ok.call (c); (focus (cbv; done)); (focus (cbv; done)); (focus (cbv; done))) | (apply Ok.dcall (c); (focus (cbv; done)); (focus (cbv; done)); (focus (cbv; done))) | (apply Ok.call (cs); (focus (cbv; done)); (focus (cbv; done)); (focus (cbv; done))) | (apply Ok.dcall (cs); (focus (cbv; done)); (focus (cbv; done)); (focus (cbv; done))) | (rw [hAe]) | (rw [zl]) | (rw [z0]) | (rw [q0]) | (rw [q1]) | (rw [q2]) | (rw [q3]) | (rw [q4]))
      (first | (apply Ok.fin1; (focus (cbv; done)); (focus (cbv; done))) | (apply Ok.fin2; (focus (cbv; done)); (focus (cbv; done))) | (apply Ok.fin3; (focus (cbv; done)); (focus (cbv; done))))
      all_goals rfl
  · have c := cC [108, 116] ⟨2, 2, [0, 0], true, 2⟩ (by simp [twoW])
    rw [two_alike] at c
    clear cC
    have q0 : A .seq [108, 116] [101, 113] = false := by rw [Ar.seq_eq hA]; decide
    have q1 : A .seq [108, 116] [108, 116] = true := by rw [Ar.seq_eq hA]; decide
    have q2 : A .seq [108, 116] [97, 110, 100] = false := by rw [Ar.seq_eq hA]; decide
    have q3 : A .seq [108, 116] [111, 114] = false := by rw [Ar.seq_eq hA]; decide
    have q4 : A .seq [108, 116] [99, 97, 116] = false := by rw [Ar.seq_eq hA]; decide
    have z0 : A .eq 2 0 = false := by rw [Ar.eq_eq hA]; decide
    have zl : A .lenP [] = 0 := by rw [Ar.lenP_eq hA]; rfl
    generalize sameT ⟨ak, al⟩ ⟨bk, bl⟩ = S at c cs
    cases S
    · rw [if_pos (by decide)] at c
      repeat (first | (apply Ok.run1 hmix hA false 2000; focus (cbv; done)) | (apply Ok.one hmix hA; focus (cbv; done)) | (rw [Ar.notT hA]) | (rw [Ar.notF hA]) | (refine Ok.condT ?_ ?_; focus (cbv; done)) | (refine Ok.condF ?_ ?_; focus (cbv; done)) | (refine Ok.drawnE (by as_aux_lemma => kernel_rfl) ?_) | (apply Ok.op; (focus (cbv; done))) | (apply Ok.dop; (focus (cbv; done))) | (apply Ok.call (cx); (focus (cbv; done)); (focus (cbv; done)); (focus (cbv; done))) | (apply Ok.dcall (cx); (focus (cbv; done)); (focus (cbv; done)); (focus (cbv; done))) | (apply Ok.call (c); (focus (cbv; done)); (focus (cbv; done)); (focus (cbv; done))) | (apply Ok.dcall (c); (focus (cbv; done)); (focus (cbv; done)); (focus (cbv; done))) | (apply Ok.call (cs); (focus (cbv; done)); (focus (cbv; done)); (focus (cbv; done))) | (apply Ok.dcall (cs); (focus (cbv; done)); (focus (cbv; done)); (focus (cbv; done))) | (rw [hAe]) | (rw [zl]) | (rw [z0]) | (rw [q0]) | (rw [q1]) | (rw [q2]) | (rw [q3]) | (rw [q4]))
      (first | (apply Ok.fin1; (focus (cbv; done)); (focus (cbv; done))) | (apply Ok.fin2; (focus (cbv; done)); (focus (cbv; done))) | (apply Ok.fin3; (focus (cbv; done)); (focus (cbv; done))))
      all_goals rfl
    · rw [if_neg (by decide)] at c
      repeat (first | (apply Ok.run1 hmix hA false 2000; focus (cbv; done)) | (apply Ok.one hmix hA; focus (cbv; done)) | (rw [Ar.notT hA]) | (rw [Ar.notF hA]) | (refine Ok.condT ?_ ?_; focus (cbv; done)) | (refine Ok.condF ?_ ?_; focus (cbv; done)) | (refine Ok.drawnE (by as_aux_lemma => kernel_rfl) ?_) | (apply Ok.op; (focus (cbv; done))) | (apply Ok.dop; (focus (cbv; done))) | (apply Ok.call (cx); (focus (cbv; done)); (focus (cbv; done)); (focus (cbv; done))) | (apply Ok.dcall (cx); (focus (cbv; done)); (focus (cbv; done)); (focus (cbv; done))) | (apply Ok.call (c); (focus (cbv; done)); (focus (cbv; done)); (focus (cbv; done))) | (apply Ok.dcall (c); (focus (cbv; done)); (focus (cbv; done)); (focus (cbv; done))) | (apply Ok.call (cs); (focus (cbv; done)); (focus (cbv; done)); (focus (cbv; done))) | (apply Ok.dcall (cs); (focus (cbv; done)); (focus (cbv; done)); (focus (cbv; done))) | (rw [hAe]) | (rw [zl]) | (rw [z0]) | (rw [q0]) | (rw [q1]) | (rw [q2]) | (rw [q3]) | (rw [q4]))
      (first | (apply Ok.fin1; (focus (cbv; done)); (focus (cbv; done))) | (apply Ok.fin2; (focus (cbv; done)); (focus (cbv; done))) | (apply Ok.fin3; (focus (cbv; done)); (focus (cbv; done))))
      all_goals rfl
  · have c := cC [97, 110, 100] ⟨2, 2, [2, 2], false, 2⟩ (by simp [twoW])
    rw [two_kind h3 h4 2 2 (by omega)] at c
    clear cC
    have q0 : A .seq [97, 110, 100] [101, 113] = false := by rw [Ar.seq_eq hA]; decide
    have q1 : A .seq [97, 110, 100] [108, 116] = false := by rw [Ar.seq_eq hA]; decide
    have q2 : A .seq [97, 110, 100] [97, 110, 100] = true := by rw [Ar.seq_eq hA]; decide
    have q3 : A .seq [97, 110, 100] [111, 114] = false := by rw [Ar.seq_eq hA]; decide
    have q4 : A .seq [97, 110, 100] [99, 97, 116] = false := by rw [Ar.seq_eq hA]; decide
    have z0 : A .eq 2 0 = false := by rw [Ar.eq_eq hA]; decide
    have zl : A .lenP [] = 0 := by rw [Ar.lenP_eq hA]; rfl
    generalize sameT ⟨ak, al⟩ ⟨bk, bl⟩ = S at c cs
    have ek : A .eq ak 2 = decide (ak = 2) := Ar.eq_eq hA _ _
    dsimp only at c
    generalize decide (ak = 2) = K at ek c
    cases S <;> cases K
    · rw [if_pos (by decide)] at c
      repeat (first | (apply Ok.run1 hmix hA false 2000; focus (cbv; done)) | (apply Ok.one hmix hA; focus (cbv; done)) | (rw [Ar.notT hA]) | (rw [Ar.notF hA]) | (refine Ok.condT ?_ ?_; focus (cbv; done)) | (refine Ok.condF ?_ ?_; focus (cbv; done)) | (refine Ok.drawnE (by as_aux_lemma => kernel_rfl) ?_) | (apply Ok.op; (focus (cbv; done))) | (apply Ok.dop; (focus (cbv; done))) | (apply Ok.call (cx); (focus (cbv; done)); (focus (cbv; done)); (focus (cbv; done))) | (apply Ok.dcall (cx); (focus (cbv; done)); (focus (cbv; done)); (focus (cbv; done))) | (apply Ok.call (c); (focus (cbv; done)); (focus (cbv; done)); (focus (cbv; done))) | (apply Ok.dcall (c); (focus (cbv; done)); (focus (cbv; done)); (focus (cbv; done))) | (apply Ok.call (cs); (focus (cbv; done)); (focus (cbv; done)); (focus (cbv; done))) | (apply Ok.dcall (cs); (focus (cbv; done)); (focus (cbv; done)); (focus (cbv; done))) | (rw [hAe]) | (rw [zl]) | (rw [z0]) | (rw [q0]) | (rw [q1]) | (rw [q2]) | (rw [q3]) | (rw [q4]) | (rw [ek]))
      (first | (apply Ok.fin1; (focus (cbv; done)); (focus (cbv; done))) | (apply Ok.fin2; (focus (cbv; done)); (focus (cbv; done))) | (apply Ok.fin3; (focus (cbv; done)); (focus (cbv; done))))
      all_goals rfl
    · rw [if_pos (by decide)] at c
      repeat (first | (apply Ok.run1 hmix hA false 2000; focus (cbv; done)) | (apply Ok.one hmix hA; focus (cbv; done)) | (rw [Ar.notT hA]) | (rw [Ar.notF hA]) | (refine Ok.condT ?_ ?_; focus (cbv; done)) | (refine Ok.condF ?_ ?_; focus (cbv; done)) | (refine Ok.drawnE (by as_aux_lemma => kernel_rfl) ?_) | (apply Ok.op; (focus (cbv; done))) | (apply Ok.dop; (focus (cbv; done))) | (apply Ok.call (cx); (focus (cbv; done)); (focus (cbv; done)); (focus (cbv; done))) | (apply Ok.dcall (cx); (focus (cbv; done)); (focus (cbv; done)); (focus (cbv; done))) | (apply Ok.call (c); (focus (cbv; done)); (focus (cbv; done)); (focus (cbv; done))) | (apply Ok.dcall (c); (focus (cbv; done)); (focus (cbv; done)); (focus (cbv; done))) | (apply Ok.call (cs); (focus (cbv; done)); (focus (cbv; done)); (focus (cbv; done))) | (apply Ok.dcall (cs); (focus (cbv; done)); (focus (cbv; done)); (focus (cbv; done))) | (rw [hAe]) | (rw [zl]) | (rw [z0]) | (rw [q0]) | (rw [q1]) | (rw [q2]) | (rw [q3]) | (rw [q4]) | (rw [ek]))
      (first | (apply Ok.fin1; (focus (cbv; done)); (focus (cbv; done))) | (apply Ok.fin2; (focus (cbv; done)); (focus (cbv; done))) | (apply Ok.fin3; (focus (cbv; done)); (focus (cbv; done))))
      all_goals rfl
    · rw [if_pos (by decide)] at c
      repeat (first | (apply Ok.run1 hmix hA false 2000; focus (cbv; done)) | (apply Ok.one hmix hA; focus (cbv; done)) | (rw [Ar.notT hA]) | (rw [Ar.notF hA]) | (refine Ok.condT ?_ ?_; focus (cbv; done)) | (refine Ok.condF ?_ ?_; focus (cbv; done)) | (refine Ok.drawnE (by as_aux_lemma => kernel_rfl) ?_) | (apply Ok.op; (focus (cbv; done))) | (apply Ok.dop; (focus (cbv; done))) | (apply Ok.call (cx); (focus (cbv; done)); (focus (cbv; done)); (focus (cbv; done))) | (apply Ok.dcall (cx); (focus (cbv; done)); (focus (cbv; done)); (focus (cbv; done))) | (apply Ok.call (c); (focus (cbv; done)); (focus (cbv; done)); (focus (cbv; done))) | (apply Ok.dcall (c); (focus (cbv; done)); (focus (cbv; done)); (focus (cbv; done))) | (apply Ok.call (cs); (focus (cbv; done)); (focus (cbv; done)); (focus (cbv; done))) | (apply Ok.dcall (cs); (focus (cbv; done)); (focus (cbv; done)); (focus (cbv; done))) | (rw [hAe]) | (rw [zl]) | (rw [z0]) | (rw [q0]) | (rw [q1]) | (rw [q2]) | (rw [q3]) | (rw [q4]) | (rw [ek]))
      (first | (apply Ok.fin1; (focus (cbv; done)); (focus (cbv; done))) | (apply Ok.fin2; (focus (cbv; done)); (focus (cbv; done))) | (apply Ok.fin3; (focus (cbv; done)); (focus (cbv; done))))
      all_goals rfl
    · rw [if_neg (by decide)] at c
      repeat (first | (apply Ok.run1 hmix hA false 2000; focus (cbv; done)) | (apply Ok.one hmix hA; focus (cbv; done)) | (rw [Ar.notT hA]) | (rw [Ar.notF hA]) | (refine Ok.condT ?_ ?_; focus (cbv; done)) | (refine Ok.condF ?_ ?_; focus (cbv; done)) | (refine Ok.drawnE (by as_aux_lemma => kernel_rfl) ?_) | (apply Ok.op; (focus (cbv; done))) | (apply Ok.dop; (focus (cbv; done))) | (apply Ok.call (cx); (focus (cbv; done)); (focus (cbv; done)); (focus (cbv; done))) | (apply Ok.dcall (cx); (focus (cbv; done)); (focus (cbv; done)); (focus (cbv; done))) | (apply Ok.call (c); (focus (cbv; done)); (focus (cbv; done)); (focus (cbv; done))) | (apply Ok.dcall (c); (focus (cbv; done)); (focus (cbv; done)); (focus (cbv; done))) | (apply Ok.call (cs); (focus (cbv; done)); (focus (cbv; done)); (focus (cbv; done))) | (apply Ok.dcall (cs); (focus (cbv; done)); (focus (cbv; done)); (focus (cbv; done))) | (rw [hAe]) | (rw [zl]) | (rw [z0]) | (rw [q0]) | (rw [q1]) | (rw [q2]) | (rw [q3]) | (rw [q4]) | (rw [ek]))
      (first | (apply Ok.fin1; (focus (cbv; done)); (focus (cbv; done))) | (apply Ok.fin2; (focus (cbv; done)); (focus (cbv; done))) | (apply Ok.fin3; (focus (cbv; done)); (focus (cbv; done))))
      all_goals rfl
  · have c := cC [111, 114] ⟨2, 2, [2, 2], false, 2⟩ (by simp [twoW])
    rw [two_kind h3 h4 2 2 (by omega)] at c
    clear cC
    have q0 : A .seq [111, 114] [101, 113] = false := by rw [Ar.seq_eq hA]; decide
    have q1 : A .seq [111, 114] [108, 116] = false := by rw [Ar.seq_eq hA]; decide
    have q2 : A .seq [111, 114] [97, 110, 100] = false := by rw [Ar.seq_eq hA]; decide
    have q3 : A .seq [111, 114] [111, 114] = true := by rw [Ar.seq_eq hA]; decide
    have q4 : A .seq [111, 114] [99, 97, 116] = false := by rw [Ar.seq_eq hA]; decide
    have z0 : A .eq 2 0 = false := by rw [Ar.eq_eq hA]; decide
    have zl : A .lenP [] = 0 := by rw [Ar.lenP_eq hA]; rfl
    generalize sameT ⟨ak, al⟩ ⟨bk, bl⟩ = S at c cs
    have ek : A .eq ak 2 = decide (ak = 2) := Ar.eq_eq hA _ _
    dsimp only at c
    generalize decide (ak = 2) = K at ek c
    cases S <;> cases K
    · rw [if_pos (by decide)] at c
      repeat (first | (apply Ok.run1 hmix hA false 2000; focus (cbv; done)) | (apply Ok.one hmix hA; focus (cbv; done)) | (rw [Ar.notT hA]) | (rw [Ar.notF hA]) | (refine Ok.condT ?_ ?_; focus (cbv; done)) | (refine Ok.condF ?_ ?_; focus (cbv; done)) | (refine Ok.drawnE (by as_aux_lemma => kernel_rfl) ?_) | (apply Ok.op; (focus (cbv; done))) | (apply Ok.dop; (focus (cbv; done))) | (apply Ok.call (cx); (focus (cbv; done)); (focus (cbv; done)); (focus (cbv; done))) | (apply Ok.dcall (cx); (focus (cbv; done)); (focus (cbv; done)); (focus (cbv; done))) | (apply Ok.call (c); (focus (cbv; done)); (focus (cbv; done)); (focus (cbv; done))) | (apply Ok.dcall (c); (focus (cbv; done)); (focus (cbv; done)); (focus (cbv; done))) | (apply Ok.call (cs); (focus (cbv; done)); (focus (cbv; done)); (focus (cbv; done))) | (apply Ok.dcall (cs); (focus (cbv; done)); (focus (cbv; done)); (focus (cbv; done))) | (rw [hAe]) | (rw [zl]) | (rw [z0]) | (rw [q0]) | (rw [q1]) | (rw [q2]) | (rw [q3]) | (rw [q4]) | (rw [ek]))
      (first | (apply Ok.fin1; (focus (cbv; done)); (focus (cbv; done))) | (apply Ok.fin2; (focus (cbv; done)); (focus (cbv; done))) | (apply Ok.fin3; (focus (cbv; done)); (focus (cbv; done))))
      all_goals rfl
    · rw [if_pos (by decide)] at c
      repeat (first | (apply Ok.run1 hmix hA false 2000; focus (cbv; done)) | (apply Ok.one hmix hA; focus (cbv; done)) | (rw [Ar.notT hA]) | (rw [Ar.notF hA]) | (refine Ok.condT ?_ ?_; focus (cbv; done)) | (refine Ok.condF ?_ ?_; focus (cbv; done)) | (refine Ok.drawnE (by as_aux_lemma => kernel_rfl) ?_) | (apply Ok.op; (focus (cbv; done))) | (apply Ok.dop; (focus (cbv; done))) | (apply Ok.call (cx); (focus (cbv; done)); (focus (cbv; done)); (focus (cbv; done))) | (apply Ok.dcall (cx); (focus (cbv; done)); (focus (cbv; done)); (focus (cbv; done))) | (apply Ok.call (c); (focus (cbv; done)); (focus (cbv; done)); (focus (cbv; done))) | (apply Ok.dcall (c); (focus (cbv; done)); (focus (cbv; done)); (focus (cbv; done))) | (apply Ok.call (cs); (focus (cbv; done)); (focus (cbv; done)); (focus (cbv; done))) | (apply Ok.dcall (cs); (focus (cbv; done)); (focus (cbv; done)); (focus (cbv; done))) | (rw [hAe]) | (rw [zl]) | (rw [z0]) | (rw [q0]) | (rw [q1]) | (rw [q2]) | (rw [q3]) | (rw [q4]) | (rw [ek]))
      (first | (apply Ok.fin1; (focus (cbv; done)); (focus (cbv; done))) | (apply Ok.fin2; (focus (cbv; done)); (focus (cbv; done))) | (apply Ok.fin3; (focus (cbv; done)); (focus (cbv; done))))
      all_goals rfl
    · rw [if_pos (by decide)] at c
      repeat (first | (apply Ok.run1 hmix hA false 2000; focus (cbv; done)) | (apply Ok.one hmix hA; focus (cbv; done)) | (rw [Ar.notT hA]) | (rw [Ar.notF hA]) | (refine Ok.condT ?_ ?_; focus (cbv; done)) | (refine Ok.condF ?_ ?_; focus (cbv; done)) | (refine Ok.drawnE (by as_aux_lemma => kernel_rfl) ?_) | (apply Ok.op; (focus (cbv; done))) | (apply Ok.dop; (focus (cbv; done))) | (apply Ok.call (cx); (focus (cbv; done)); (focus (cbv; done)); (focus (cbv; done))) | (apply Ok.dcall (cx); (focus (cbv; done)); (focus (cbv; done)); (focus (cbv; done))) | (apply Ok.call (c); (focus (cbv; done)); (focus (cbv; done)); (focus (cbv; done))) | (apply Ok.dcall (c); (focus (cbv; done)); (focus (cbv; done)); (focus (cbv; done))) | (apply Ok.call (cs); (focus (cbv; done)); (focus (cbv; done)); (focus (cbv; done))) | (apply Ok.dcall (cs); (focus (cbv; done)); (focus (cbv; done)); (focus (cbv; done))) | (rw [hAe]) | (rw [zl]) | (rw [z0]) | (rw [q0]) | (rw [q1]) | (rw [q2]) | (rw [q3]) | (rw [q4]) | (rw [ek]))
      (first | (apply Ok.fin1; (focus (cbv; done)); (focus (cbv; done))) | (apply Ok.fin2; (focus (cbv; done)); (focus (cbv; done))) | (apply Ok.fin3; (focus (cbv; done)); (focus (cbv; done))))
      all_goals rfl
    · rw [if_neg (by decide)] at c
      repeat (first | (apply Ok.run1 hmix hA false 2000; focus (cbv; done)) | (apply Ok.one hmix hA; focus (cbv; done)) | (rw [Ar.notT hA]) | (rw [Ar.notF hA]) | (refine Ok.condT ?_ ?_; focus (cbv; done)) | (refine Ok.condF ?_ ?_; focus (cbv; done)) | (refine Ok.drawnE (by as_aux_lemma => kernel_rfl) ?_) | (apply Ok.op; (focus (cbv; done))) | (apply Ok.dop; (focus (cbv; done))) | (apply Ok.call (cx); (focus (cbv; done)); (focus (cbv; done)); (focus (cbv; done))) | (apply Ok.dcall (cx); (focus (cbv; done)); (focus (cbv; done)); (focus (cbv; done))) | (apply Ok.call (c); (focus (cbv; done)); (focus (cbv; done)); (focus (cbv; done))) | (apply Ok.dcall (c); (focus (cbv; done)); (focus (cbv; done)); (focus (cbv; done))) | (apply Ok.call (cs); (focus (cbv; done)); (focus (cbv; done)); (focus (cbv; done))) | (apply Ok.dcall (cs); (focus (cbv; done)); (focus (cbv; done)); (focus (cbv; done))) | (rw [hAe]) | (rw [zl]) | (rw [z0]) | (rw [q0]) | (rw [q1]) | (rw [q2]) | (rw [q3]) | (rw [q4]) | (rw [ek]))
      (first | (apply Ok.fin1; (focus (cbv; done)); (focus (cbv; done))) | (apply Ok.fin2; (focus (cbv; done)); (focus (cbv; done))) | (apply Ok.fin3; (focus (cbv; done)); (focus (cbv; done))))
      all_goals rfl
  · have c := cC [99, 97, 116] ⟨2, 2, [3, 3], false, 3⟩ (by simp [twoW])
    rw [two_kind h3 h4 3 3 (by omega)] at c
    clear cC
    have q0 : A .seq [99, 97, 116] [101, 113] = false := by rw [Ar.seq_eq hA]; decide
    have q1 : A .seq [99, 97, 116] [108, 116] = false := by rw [Ar.seq_eq hA]; decide
    have q2 : A .seq [99, 97, 116] [97, 110, 100] = false := by rw [Ar.seq_eq hA]; decide
    have q3 : A .seq [99, 97, 116] [111, 114] = false := by rw [Ar.seq_eq hA]; decide
    have q4 : A .seq [99, 97, 116] [99, 97, 116] = true := by rw [Ar.seq_eq hA]; decide
    have z0 : A .eq 3 0 = false := by rw [Ar.eq_eq hA]; decide
    have zl : A .lenP [] = 0 := by rw [Ar.lenP_eq hA]; rfl
    generalize sameT ⟨ak, al⟩ ⟨bk, bl⟩ = S at c cs
    have ek : A .eq ak 3 = decide (ak = 3) := Ar.eq_eq hA _ _
    dsimp only at c
    generalize decide (ak = 3) = K at ek c
    cases S <;> cases K
    · rw [if_pos (by decide)] at c
      repeat (first | (apply Ok.run1 hmix hA false 2000; focus (cbv; done)) | (apply Ok.one hmix hA; focus (cbv; done)) | (rw [Ar.notT hA]) | (rw [Ar.notF hA]) | (refine Ok.condT ?_ ?_; focus (cbv; done)) | (refine Ok.condF ?_ ?_; focus (cbv; done)) | (refine Ok.drawnE (by as_aux_lemma => kernel_rfl) ?_) | (apply Ok.op; (focus (cbv; done))) | (apply Ok.dop; (focus (cbv; done))) | (apply Ok.call (cx); (focus (cbv; done)); (focus (cbv; done)); (focus (cbv; done))) | (apply Ok.dcall (cx); (focus (cbv; done)); (focus (cbv; done)); (focus (cbv; done))) | (apply Ok.call (c); (focus (cbv; done)); (focus (cbv; done)); (focus (cbv; done))) | (apply Ok.dcall (c); (focus (cbv; done)); (focus (cbv; done)); (focus (cbv; done))) | (apply Ok.call (cs); (focus (cbv; done)); (focus (cbv; done)); (focus (cbv; done))) | (apply Ok.dcall (cs); (focus (cbv; done)); (focus (cbv; done)); (focus (cbv; done))) | (rw [hAe]) | (rw [zl]) | (rw [z0]) | (rw [q0]) | (rw [q1]) | (rw [q2]) | (rw [q3]) | (rw [q4]) | (rw [ek]))
      (first | (apply Ok.fin1; (focus (cbv; done)); (focus (cbv; done))) | (apply Ok.fin2; (focus (cbv; done)); (focus (cbv; done))) | (apply Ok.fin3; (focus (cbv; done)); (focus (cbv; done))))
      all_goals rfl
    · rw [if_pos (by decide)] at c
      repeat (first | (apply Ok.run1 hmix hA false 2000; focus (cbv; done)) | (apply Ok.one hmix hA; focus (cbv; done)) | (rw [Ar.notT hA]) | (rw [Ar.notF hA]) | (refine Ok.condT ?_ ?_; focus (cbv; done)) | (refine Ok.condF ?_ ?_; focus (cbv; done)) | (refine Ok.drawnE (by as_aux_lemma => kernel_rfl) ?_) | (apply Ok.op; (focus (cbv; done))) | (apply Ok.dop; (focus (cbv; done))) | (apply Ok.call (cx); (focus (cbv; done)); (focus (cbv; done)); (focus (cbv; done))) | (apply Ok.dcall (cx); (focus (cbv; done)); (focus (cbv; done)); (focus (cbv; done))) | (apply Ok.call (c); (focus (cbv; done)); (focus (cbv; done)); (focus (cbv; done))) | (apply Ok.dcall (c); (focus (cbv; done)); (focus (cbv; done)); (focus (cbv; done))) | (apply Ok.call (cs); (focus (cbv; done)); (focus (cbv; done)); (focus (cbv; done))) | (apply Ok.dcall (cs); (focus (cbv; done)); (focus (cbv; done)); (focus (cbv; done))) | (rw [hAe]) | (rw [zl]) | (rw [z0]) | (rw [q0]) | (rw [q1]) | (rw [q2]) | (rw [q3]) | (rw [q4]) | (rw [ek]))
      (first | (apply Ok.fin1; (focus (cbv; done)); (focus (cbv; done))) | (apply Ok.fin2; (focus (cbv; done)); (focus (cbv; done))) | (apply Ok.fin3; (focus (cbv; done)); (focus (cbv; done))))
      all_goals rfl
    · rw [if_pos (by decide)] at c
      repeat (first | (apply Ok.run1 hmix hA false 2000; focus (cbv; done)) | (apply Ok.one hmix hA; focus (cbv; done)) | (rw [Ar.notT hA]) | (rw [Ar.notF hA]) | (refine Ok.condT ?_ ?_; focus (cbv; done)) | (refine Ok.condF ?_ ?_; focus (cbv; done)) | (refine Ok.drawnE (by as_aux_lemma => kernel_rfl) ?_) | (apply Ok.op; (focus (cbv; done))) | (apply Ok.dop; (focus (cbv; done))) | (apply Ok.call (cx); (focus (cbv; done)); (focus (cbv; done)); (focus (cbv; done))) | (apply Ok.dcall (cx); (focus (cbv; done)); (focus (cbv; done)); (focus (cbv; done))) | (apply Ok.call (c); (focus (cbv; done)); (focus (cbv; done)); (focus (cbv; done))) | (apply Ok.dcall (c); (focus (cbv; done)); (focus (cbv; done)); (focus (cbv; done))) | (apply Ok.call (cs); (focus (cbv; done)); (focus (cbv; done)); (focus (cbv; done))) | (apply Ok.dcall (cs); (focus (cbv; done)); (focus (cbv; done)); (focus (cbv; done))) | (rw [hAe]) | (rw [zl]) | (rw [z0]) | (rw [q0]) | (rw [q1]) | (rw [q2]) | (rw [q3]) | (rw [q4]) | (rw [ek]))
      (first | (apply Ok.fin1; (focus (cbv; done)); (focus (cbv; done))) | (apply Ok.fin2; (focus (cbv; done)); (focus (cbv; done))) | (apply Ok.fin3; (focus (cbv; done)); (focus (cbv; done))))
      all_goals rfl
    · rw [if_neg (by decide)] at c
      repeat (first | (apply Ok.run1 hmix hA false 2000; focus (cbv; done)) | (apply Ok.one hmix hA; focus (cbv; done)) | (rw [Ar.notT hA]) | (rw [Ar.notF hA]) | (refine Ok.condT ?_ ?_; focus (cbv; done)) | (refine Ok.condF ?_ ?_; focus (cbv; done)) | (refine Ok.drawnE (by as_aux_lemma => kernel_rfl) ?_) | (apply Ok.op; (focus (cbv; done))) | (apply Ok.dop; (focus (cbv; done))) | (apply Ok.call (cx); (focus (cbv; done)); (focus (cbv; done)); (focus (cbv; done))) | (apply Ok.dcall (cx); (focus (cbv; done)); (focus (cbv; done)); (focus (cbv; done))) | (apply Ok.call (c); (focus (cbv; done)); (focus (cbv; done)); (focus (cbv; done))) | (apply Ok.dcall (c); (focus (cbv; done)); (focus (cbv; done)); (focus (cbv; done))) | (apply Ok.call (cs); (focus (cbv; done)); (focus (cbv; done)); (focus (cbv; done))) | (apply Ok.dcall (cs); (focus (cbv; done)); (focus (cbv; done)); (focus (cbv; done))) | (rw [hAe]) | (rw [zl]) | (rw [z0]) | (rw [q0]) | (rw [q1]) | (rw [q2]) | (rw [q3]) | (rw [q4]) | (rw [ek]))
      (first | (apply Ok.fin1; (focus (cbv; done)); (focus (cbv; done))) | (apply Ok.fin2; (focus (cbv; done)); (focus (cbv; done))) | (apply Ok.fin3; (focus (cbv; done)); (focus (cbv; done))))
      all_goals rfl
end Go.Proofs.Ytnojmocoifodjaa.Pv
set_option linter.unusedVariables false
set_option linter.unusedSimpArgs false
namespace Go.Proofs.Ytnojmocoifodjaa.Pv
open Go Go.RowKit

theorem add_none (b o n : Nat) : (Addr.mk b o none).add n = ⟨b, o + n, none⟩ := by
  unfold Addr.add
  split
  · rename_i h; subst h; rfl
  · rfl
theorem collect {α : Type} {Q : Nat → α → Prop} : ∀ (n : Nat), (∀ i, i < n → ∃ y, Q i y) → ∃ l : List α, l.length = n ∧ ∀ i y, l[i]? = some y → Q i y
  | 0, _ => ⟨[], rfl, fun i y h => by simp at h⟩
  | n + 1, h => by
    obtain ⟨l, hll, hl⟩ := collect n (fun i hi => h i (by omega))
    obtain ⟨y, hy⟩ := h n (by omega)
    refine ⟨l ++ [y], by simp [hll], fun i z hz => ?_⟩
    rcases Nat.lt_or_ge i l.length with hi | hi
    · rw [List.getElem?_append_left hi] at hz
      exact hl i z hz
    · rw [List.getElem?_append_right hi] at hz
      have hi0 : i - l.length = 0 := by
        have := (List.getElem?_eq_some_iff.1 hz).1
        simp at this; omega
      rw [hi0] at hz
      simp at hz; subst hz
      have : i = n := by omega
      subst this
      exact hy
/-! ### Data that came in, ars trees -/
def RVs (S : Stb) (W : World) (ps : List PV) (cs : List Value) : Prop := cs.length = ps.length ∧ ∀ (i : Nat) (p : PV), ps[i]? = some p → ∃ v, cs[i]? = some v ∧ RV S W p v
theorem RVs.nil {S : Stb} {W : World} : RVs S W [] [] := ⟨rfl, fun i p h => by simp at h⟩
theorem RVs.one {S : Stb} {W : World} {p : PV} {v : Value} (h : RV S W p v) : RVs S W [p] [v] := ⟨rfl, fun i q hq => by
  cases i with
  | zero => simp at hq; subst hq; exact ⟨v, rfl, h⟩
  | succ i => simp at hq⟩
theorem RVs.cut {S : Stb} {W : World} {ps qs : List PV} {cs : List Value} {m : Nat} (h1 : RVs S W ps (cs.take m)) (h2 : RVs S W qs (cs.drop m)) (hm : m ≤ cs.length) : RVs S W (ps ++ qs) cs := by
  obtain ⟨a1, a2⟩ := h1
  obtain ⟨b1, b2⟩ := h2
  rw [List.length_take] at a1
  rw [List.length_drop] at b1
  refine ⟨by rw [List.length_append]; omega, fun i p hp => ?_⟩
  rcases Nat.lt_or_ge i ps.length with hi | hi
  · rw [List.getElem?_append_left hi] at hp
    obtain ⟨v, hv, hr⟩ := a2 i p hp
    rw [List.getElem?_take] at hv
    split at hv
    · exact ⟨v, hv, hr⟩
    · cases hv
  · rw [List.getElem?_append_right hi] at hp
    obtain ⟨v, hv, hr⟩ := b2 _ p hp
    rw [List.getElem?_drop] at hv
    exact ⟨v, by rw [← hv]; congr 1; omega, hr⟩
def Reads (P : Program) (n : Nat) (t : TypeId) {α : Type} (f : α → List PV) (G : α → Prop) : Prop :=
  ∀ (H : Type) (enc : TypeId × Value → H) (W : World) (cs : List Value) (x : DataW H × List MemPlace), DataW.trod enc P W 0 (fun _ => true) true n t cs = some x → ∃ a : α, G a ∧ RVs (old W) W (f a) cs
section
variable {P : Program} {n : Nat} {t e : TypeId} {α γ : Type}
theorem Reads.zero (f : α → List PV) (G : α → Prop) : Reads P 0 t f G := fun H enc W cs x h => by simp [DataW.trod] at h
theorem Reads.bool (ht : P.underlying t = some .bool) : Reads P n t (fun b : Bool => [.bool b]) (fun _ => True) := fun H enc W cs x h => by
  obtain ⟨b, rfl, _⟩ := DataW.trod_bool ht h
  exact ⟨b, trivial, .one (.bool b)⟩
theorem Reads.int {k : IntKind} (ht : P.underlying t = some (.int k)) : Reads P n t (fun z : Int => [.int k z]) (fun z => (Lit.int k z).wf = true) := fun H enc W cs x h => by
  obtain ⟨z, rfl, _, hw⟩ := DataW.trod_int ht h
  exact ⟨z, hw, .one (.int _ z)⟩
theorem Reads.str (ht : P.underlying t = some .string) : Reads P n t (fun l : List UInt8 => [.str l]) (fun l => l.length ≤ maxLen) := fun H enc W cs x h => by
  obtain ⟨s, rfl, _, hs⟩ := DataW.trod_string ht h
  exact ⟨s.data.toList, hs, .one (.str s.data.toList hs)⟩
theorem Reads.slice (ht : P.underlying t = some (.slice e)) {sz : Nat} (hc : P.cellsOf e = sz) {mk : α → PV} (hmk : ∀ a, (mk a).cells.length = sz) (hz : 0 < sz) {G : α → Prop}
    (he : ∀ m, m < n → Reads P m e (fun a => (mk a).cells) G) : Reads P n t (fun l : List α => [.view (l.map mk)]) (fun l => l.length ≤ maxLen ∧ ∀ a, a ∈ l → G a) := fun H enc W cs x h => by
  rcases DataW.trod_slice ht h with ⟨rfl, _⟩ | ⟨a, len, cap, elems, rest, m, rfl, rfl, _, hb, hl, hm, hlen, hel, _, _⟩
  · exact ⟨[], ⟨by simp, by simp⟩, .one (.view0 _ _)⟩
  · rw [hc] at hel
    by_cases h0 : len = 0
    · subst h0; exact ⟨[], ⟨by simp, by simp⟩, .one (.view0 _ _)⟩
    have hat : ∀ i, i < len → ∃ (y : α) (vs : List Value), G y ∧ RVs (old W) W (mk y).cells vs ∧ vs.length = sz ∧ ∀ j, j < sz → W.cell? ((a.add (i * sz)).add j) = vs[j]? := by
      intro i hi
      have h1 := hel i hi
      rw [List.getElem?_eq_getElem (by omega), Option.bind_eq_some_iff] at h1
      obtain ⟨vs, h2, h3⟩ := h1
      obtain ⟨_, h4, h5⟩ := World.cells?_some h2
      obtain ⟨y, hy, hr⟩ := he m (by omega) H enc W vs _ h3
      exact ⟨y, vs, hy, hr, h4, h5⟩
    obtain ⟨l, hll, hl⟩ := collect len hat
    refine ⟨l, ⟨by omega, fun y hy => ?_⟩, .one ?_⟩
    · obtain ⟨i, hi⟩ := List.getElem?_of_mem hy
      obtain ⟨_, hg, _⟩ := hl i y hi
      exact hg
    obtain ⟨b, o, sp⟩ := a
    have hsp : sp = none := by
      obtain ⟨y0, hy0⟩ : ∃ y, l[0]? = some y := ⟨_, List.getElem?_eq_getElem (by omega)⟩
      obtain ⟨vs, _, _, h1, h2⟩ := hl 0 y0 hy0
      have h3 := h2 0 hz
      rw [List.getElem?_eq_getElem (by omega)] at h3
      unfold World.cell? at h3
      split at h3
      · split at h3
        · cases h3
        · rename_i hs; simpa [Addr.add] using hs
      · cases h3
    subst hsp
    have key : ∀ (i : Nat) (ee : PV) (j : Nat) (p : PV), (l.map mk)[i]? = some ee → ee.cells[j]? = some p → ∃ v, W.cell? ⟨b, o + i * sz + j, none⟩ = some v ∧ RV (old W) W p v := by
      intro i ee j p hi hj
      rw [List.getElem?_map] at hi
      obtain ⟨y, hy, rfl⟩ := Option.map_eq_some_iff.1 hi
      obtain ⟨vs, _, ⟨h1, h2⟩, h3, h4⟩ := hl i y hy
      obtain ⟨v, hv, hr⟩ := h2 j p hj
      have hjs : j < sz := by have := (List.getElem?_eq_some_iff.1 hj).1; rw [hmk] at this; exact this
      refine ⟨v, ?_, hr⟩
      have h5 := h4 j hjs
      rw [hv] at h5
      rw [← h5]
      rw [add_none, add_none]
    have hk := RV.view (S := old W) (W := W) (l.map mk) b o sz cap (fun i j => (W.cell? ⟨b, o + i * sz + j, none⟩).getD undef) (by rw [List.length_map]; omega) hm
      (fun i ee hi => by
        rw [List.getElem?_map] at hi
        obtain ⟨y, hy, rfl⟩ := Option.map_eq_some_iff.1 hi
        exact hmk y)
      (fun i ee j p hi hj => by obtain ⟨v, hv, _⟩ := key i ee j p hi hj; exact cell_lt hv)
      (fun i ee j p hi hj => by obtain ⟨v, hv, _⟩ := key i ee j p hi hj; rw [hv]; rfl)
      (fun i ee j p hi hj => by obtain ⟨v, hv, hr⟩ := key i ee j p hi hj; simp only [hv, Option.getD_some]; exact hr)
    rw [List.length_map, hll] at hk
    exact hk
/-! Structs, field by field. -/
def ReadsF (P : Program) (n : Nat) (l : List (TypeId × Nat)) {α : Type} (f : α → List PV) (G : α → Prop) : Prop :=
  ∀ (H : Type) (enc : TypeId × Value → H) (W : World) (cs : List Value), cs.length = (l.map (·.2)).sum →
    (∀ (i : Nat) (q : TypeId × Nat), l[i]? = some q → ∃ x, DataW.trod enc P W 0 (fun _ => true) true n q.1 ((cs.drop ((l.take i).map (·.2)).sum).take q.2) = some x) → ∃ a : α, G a ∧ RVs (old W) W (f a) cs
theorem ReadsF.nil : ReadsF P n [] (fun _ : Unit => []) (fun _ => True) := fun H enc W cs hl h => by
  have : cs = [] := List.eq_nil_of_length_eq_zero (by simpa using hl)
  subst this
  exact ⟨(), trivial, .nil⟩
theorem ReadsF.cons {sz : Nat} {l : List (TypeId × Nat)} {f : α → List PV} {G : α → Prop} {g : γ → List PV} {G' : γ → Prop} (h1 : Reads P n t f G) (h2 : ReadsF P n l g G') :
    ReadsF P n ((t, sz) :: l) (fun x : α × γ => f x.1 ++ g x.2) (fun x => G x.1 ∧ G' x.2) := fun H enc W cs hl h => by
  simp only [List.map_cons, List.sum_cons] at hl
  obtain ⟨x, hx⟩ := h 0 (t, sz) rfl
  simp only [List.take_zero, List.map_nil, List.sum_nil, List.drop_zero] at hx
  obtain ⟨a, ha, hr⟩ := h1 H enc W _ x hx
  obtain ⟨b, hb, hs⟩ := h2 H enc W (cs.drop sz) (by rw [List.length_drop]; omega) (fun i q hq => by
    obtain ⟨y, hy⟩ := h (i + 1) q (by simpa using hq)
    simp only [List.take_succ_cons, List.map_cons, List.sum_cons] at hy
    exact ⟨y, by rw [List.drop_drop]; exact hy⟩)
  exact ⟨(a, b), ⟨ha, hb⟩, hr.cut hs (by omega)⟩
def offsOk (P : Program) : Nat → List Field → List (TypeId × Nat) → Bool
  | _, [], [] => true
  | o, f :: fs, (t, sz) :: l => f.offset == o && f.type == t && P.cellsOf t == sz && offsOk P (o + sz) fs l
  | _, _, _ => false
theorem offsOk_get : ∀ {l : List (TypeId × Nat)} {fs : List Field} {o : Nat}, offsOk P o fs l = true → fs.length = l.length ∧ ∀ (i : Nat) (q : TypeId × Nat), l[i]? = some q → ∃ f, fs[i]? = some f ∧ f.offset = o + ((l.take i).map (·.2)).sum ∧ f.type = q.1 ∧ P.cellsOf f.type = q.2
  | [], [], o, h => ⟨rfl, fun i q hq => by simp at hq⟩
  | [], _ :: _, o, h => by simp [offsOk] at h
  | _ :: _, [], o, h => by simp [offsOk] at h
  | (t, sz) :: l, f :: fs, o, h => by
    simp only [offsOk, Bool.and_eq_true, beq_iff_eq] at h
    obtain ⟨⟨⟨h1, h2⟩, h3⟩, h4⟩ := h
    obtain ⟨h5, h6⟩ := offsOk_get h4
    refine ⟨by simp [h5], fun i q hq => ?_⟩
    cases i with
    | zero => simp at hq; subst hq; exact ⟨f, rfl, by simp [h1], h2, by rw [h2]; exact h3⟩
    | succ i =>
      obtain ⟨g, g1, g2, g3, g4⟩ := h6 i q (by simpa using hq)
      exact ⟨g, by simpa using g1, by rw [g2]; simp; omega, g3, g4⟩
theorem Reads.struct {fs : Array Field} {l : List (TypeId × Nat)} {f : α → List PV} {G : α → Prop} (ht : P.underlying t = some (.struct fs)) (ho : offsOk P 0 fs.toList l = true) (hc : P.cellsOf t = (l.map (·.2)).sum) (hf : ∀ m, m < n → ReadsF P m l f G) : Reads P n t f G := fun H enc W cs x h => by
  obtain ⟨xs, m, rfl, rfl, hlen, hxs, hat⟩ := DataW.trod_struct ht h
  obtain ⟨h1, h2⟩ := offsOk_get ho
  refine hf m (by omega) H enc W cs (by rw [hlen, hc]) (fun i q hq => ?_)
  obtain ⟨g, g1, g2, g3, g4⟩ := h2 i q hq
  have h3 := hat i g (by simpa using g1)
  rw [g2, g4, g3, Nat.zero_add] at h3
  have hi : i < xs.length := by
    have := (List.getElem?_eq_some_iff.1 hq).1
    rw [hxs]
    simp at h1; omega
  rw [List.getElem?_eq_getElem hi] at h3
  exact ⟨_, h3⟩
theorem Reads.map {f : α → List PV} {G : α → Prop} (h : Reads P n t f G) (φ : α → γ) {g : γ → List PV} {G' : γ → Prop} (hf : ∀ a, f a = g (φ a)) (hG : ∀ a, G a → G' (φ a)) : Reads P n t g G' := fun H enc W cs x hx => by
  obtain ⟨a, ha, hr⟩ := h H enc W cs x hx
  exact ⟨φ a, hG a ha, by rw [← hf]; exact hr⟩
end
/-- A parameter of many cells. -/
theorem RVs.agg {S : Stb} {W : World} {ps : List PV} {vs : Array Value} (h : RVs S W ps vs.toList) : RV S W (.agg ps) (.agg vs) := by
  obtain ⟨h1, h2⟩ := h
  refine .agg _ _ (by simpa using h1) (fun i p hp => ?_)
  obtain ⟨v, hv, hr⟩ := h2 i p hp
  have : vs.getD i undef = v := by
    rw [Array.getElem?_toList] at hv
    simp [Array.getD_eq_getD_getElem?, hv]
  rw [this]; exact hr
theorem RVs.single {S : Stb} {W : World} {p : PV} {v : Value} (h : RVs S W [p] [v]) : RV S W p v := by
  obtain ⟨w, hw, hr⟩ := h.2 0 p rfl
  simp at hw; subst hw; exact hr

/-! ### The program's own data -/
def okI (z : Int) : Prop := (Lit.int .i64 z).wf = true
mutual
def Ty.ok : Ty → Prop
  | .mk k of => okI k ∧ of.length ≤ maxLen ∧ Ty.oks of
def Ty.oks : List Ty → Prop
  | [] => True
  | x :: l => x.ok ∧ Ty.oks l
end
mutual
def Vl.ok : Vl → Prop
  | .mk k i b s t => okI k ∧ okI i ∧ s.length ≤ maxLen ∧ t.length ≤ maxLen ∧ Vl.oks t
def Vl.oks : List Vl → Prop
  | [] => True
  | x :: l => x.ok ∧ Vl.oks l
end
mutual
def Ex4.ok : Ex4 → Prop
  | .mk op v n a => op.length ≤ maxLen ∧ v.ok ∧ okI n ∧ a.length ≤ maxLen ∧ Ex4.oks a
def Ex4.oks : List Ex4 → Prop
  | [] => True
  | x :: l => x.ok ∧ Ex4.oks l
end
theorem Ty.oks_iff : ∀ {l : List Ty}, Ty.oks l ↔ ∀ x, x ∈ l → x.ok
  | [] => by simp [Ty.oks]
  | x :: l => by simp [Ty.oks, Ty.oks_iff (l := l)]
theorem Vl.oks_iff : ∀ {l : List Vl}, Vl.oks l ↔ ∀ x, x ∈ l → x.ok
  | [] => by simp [Vl.oks]
  | x :: l => by simp [Vl.oks, Vl.oks_iff (l := l)]
theorem Ex4.oks_iff : ∀ {l : List Ex4}, Ex4.oks l ↔ ∀ x, x ∈ l → x.ok
  | [] => by simp [Ex4.oks]
  | x :: l => by simp [Ex4.oks, Ex4.oks_iff (l := l)]
def Opn.ok (o : Opn) : Prop := okI o.kind ∧ o.name.length ≤ maxLen ∧ o.ty.ok ∧ o.e.length ≤ maxLen ∧ Ex4.oks o.e ∧ o.key.ok ∧ okI o.fold ∧ okI o.n
/-- Which types they are, of a program. -/
structure TyAt (P : Program) (i64 ty tys : TypeId) : Prop where
  hi : P.underlying i64 = some (.int .i64)
  ht : ∃ fs, P.underlying ty = some (.struct fs) ∧ offsOk P 0 fs.toList [(i64, 1), (tys, 1)] = true
  ct : P.cellsOf ty = 2
  hs : P.underlying tys = some (.slice ty)
def E0 : Enc := Enc.std
theorem E0.tys (l : List Ty) : E0 .tys l = l.map E0.tyc := Enc.tys_eq rfl l
theorem E0.vls (l : List Vl) : E0 .vls l = l.map E0.vl := Enc.vls_eq rfl l
theorem E0.exs (l : List Ex4) : E0 .exs l = l.map E0.ex := Enc.exs_eq rfl l
section
variable {P : Program}
theorem reads_ty {i64 ty tys : TypeId} (h : TyAt P i64 ty tys) : ∀ n, Reads P n ty (fun x : Ty => (E0.tyc x).cells) Ty.ok := by
  intro n
  induction n using Nat.strongRecOn with
  | _ n ih =>
  obtain ⟨fs, h1, h2⟩ := h.ht
  have hsl : ∀ m, m ≤ n → Reads P m tys (fun l : List Ty => [.view (l.map E0.tyc)]) _ := fun m hm => Reads.slice h.hs h.ct (mk := E0.tyc) (fun a => rfl) (by decide) (fun k hk => ih k (by omega))
  refine (Reads.struct h1 h2 h.ct (fun m hm => ReadsF.cons (Reads.int h.hi) (ReadsF.cons (hsl m (by omega)) ReadsF.nil))).map (fun x => (⟨x.1, x.2.1⟩ : Ty)) (fun a => ?_) (fun a ha => ?_)
  · simp [Enc.tyc, PV.cells, E0.tys]
  · obtain ⟨a1, ⟨a2, a3⟩, _⟩ := ha
    exact ⟨a1, a2, Ty.oks_iff.2 a3⟩
structure VlAt (P : Program) (i64 bo st vl vls : TypeId) : Prop where
  hi : P.underlying i64 = some (.int .i64)
  hb : P.underlying bo = some .bool
  hstr : P.underlying st = some .string
  ht : ∃ fs i', P.underlying i' = some (.int .i64) ∧ P.underlying vl = some (.struct fs) ∧ offsOk P 0 fs.toList [(i64, 1), (i', 1), (bo, 1), (st, 1), (vls, 1)] = true
  ct : P.cellsOf vl = 5
  hs : P.underlying vls = some (.slice vl)
theorem reads_vl {i64 bo st vl vls : TypeId} (h : VlAt P i64 bo st vl vls) : ∀ n, Reads P n vl (fun x : Vl => (E0.vl x).cells) Vl.ok := by
  intro n
  induction n using Nat.strongRecOn with
  | _ n ih =>
  obtain ⟨fs, i', h0, h1, h2⟩ := h.ht
  have hsl : ∀ m, m ≤ n → Reads P m vls (fun l : List Vl => [.view (l.map E0.vl)]) _ := fun m hm => Reads.slice h.hs h.ct (mk := E0.vl) (fun a => rfl) (by decide) (fun k hk => ih k (by omega))
  refine (Reads.struct h1 h2 h.ct (fun m hm => ReadsF.cons (Reads.int h.hi) (ReadsF.cons (Reads.int h0) (ReadsF.cons (Reads.bool h.hb) (ReadsF.cons (Reads.str h.hstr) (ReadsF.cons (hsl m (by omega)) ReadsF.nil)))))).map (fun x => (⟨x.1, x.2.1, x.2.2.1, x.2.2.2.1, x.2.2.2.2.1⟩ : Vl)) (fun a => ?_) (fun a ha => ?_)
  · simp [Enc.vl, PV.cells, E0.vls]
  · obtain ⟨a1, a2, _, a3, ⟨a4, a5⟩, _⟩ := ha
    exact ⟨a1, a2, a3, a4, Vl.oks_iff.2 a5⟩
end
end Go.Proofs.Ytnojmocoifodjaa.Pv
set_option linter.unusedVariables false
namespace Go.Proofs.Ytnojmocoifodjaa.Pv
open Go Go.Proofs Go.RowKit
theorem ExprTwo_u8 {z : Int} (h : (Lit.int .u8 z).wf = true) : z = Int.ofNat z.toNat ∧ z.toNat < 256 := by
  simp only [Lit.wf, Bool.and_eq_true, decide_eq_true_eq] at h
  have h1 : (0 : Int) ≤ z := h.1
  have h2 : z ≤ 255 := h.2
  exact ⟨(Int.toNat_of_nonneg h1).symm, by omega⟩
theorem ExprTwo_walk {W : World} {z0 : Int} {c1 c2 : Array Value} {a b : Ty} (h0 : (Lit.int .u8 z0).wf = true) (h1 : RVs (old W) W (E0.tyc a).cells c1.toList) (h2 : RVs (old W) W (E0.tyc b).cells c2.toList) : Calls Try.prog 8 #[.int .u8 z0, .agg c1, .agg c2] W (fun e W' => e = .returned (.bool true) ∧ Below W.heap.size W W') := by
  obtain ⟨e0, l0⟩ := ExprTwo_u8 h0
  rw [e0]
  have r1 : RV (old W) W (E0.tyc a) (.agg c1) := RVs.agg h1
  have r2 : RV (old W) W (E0.tyc b) (.agg c2) := RVs.agg h2
  exact (law4_ExprTwo z0.toNat a b l0).yes rfl (fun i q hq => by
    match i with
    | 0 => simp only [List.getElem?_cons_zero, Option.some.injEq] at hq; subst hq; exact .int _ _
    | 1 => simp only [List.getElem?_cons_zero, List.getElem?_cons_succ, Option.some.injEq] at hq; subst hq; exact r1
    | 2 => simp only [List.getElem?_cons_zero, List.getElem?_cons_succ, Option.some.injEq] at hq; subst hq; exact r2
    | i + 3 => simp at hq)
theorem tyAt : TyAt Try.prog 3 24 22 where
  hi := by kernel_rfl
  ht := ⟨match (Try.prog).underlying 24 with | some (.struct fs) => fs | _ => #[], by kernel_rfl, by kernel_rfl⟩
  ct := by kernel_rfl
  hs := by kernel_rfl
theorem ExprTwo_reads {H : Type} {enc : TypeId × Value → H} {W : World} {n : Nat} {cs : List Value} {x : DataW H × List MemPlace} (h : DataW.trod enc Try.prog W 0 (fun _ => true) true n 24 cs = some x) : ∃ a : Ty, RVs (old W) W (E0.tyc a).cells cs := by
  obtain ⟨a, _, h⟩ := reads_ty tyAt n H enc W cs x h
  exact ⟨a, h⟩
end Go.Proofs.Ytnojmocoifodjaa.Pv
