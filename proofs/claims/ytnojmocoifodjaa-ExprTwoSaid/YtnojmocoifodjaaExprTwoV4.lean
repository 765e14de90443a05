/- The law ExprTwo of this seat: a part of its proof (an abstract evaluator of the code that is proved sound, and contracts of functions), with no condition. -/
import Derived.Test.YtnojmocoifodjaaProg
import Derived.KernelRfl
import Derived.Test.YtnojmocoifodjaaExprTwoV3
set_option maxRecDepth 100000
set_option maxHeartbeats 4000000
set_option linter.unusedVariables false
set_option linter.unusedSimpArgs false
namespace Go.Proofs.Ytnojmocoifodjaa.Pv
open Go Go.Proofs
def bJmp : List UInt8 := [106, 109, 112]
def bJf : List UInt8 := [106, 102]
def In.shift (b : Nat) (x : In) : In := if x.op = bJmp ∨ x.op = bJf then { x with n := IntKind.wrap .i64 (x.n + b) } else x
def joinTo (out : List In) : List (List In) → List In
  | [] => out
  | p :: l => joinTo (out ++ p.map (In.shift out.length)) l
theorem joinTo_le : ∀ (l : List (List In)) (out : List In), out.length ≤ (joinTo out l).length
  | [], out => Nat.le_refl _
  | p :: l, out => Nat.le_trans (by simp) (joinTo_le l _)
theorem joinTo_len : ∀ (l : List (List In)) (out : List In), (joinTo out l).length = out.length + (l.map List.length).sum
  | [], out => by simp [joinTo]
  | p :: l, out => by simp [joinTo, joinTo_len l]; omega
theorem gen_join {E : Enc} (hE : E = .std) (l : List (List In)) (hb : (joinTo [] l).length ≤ 2 ^ 30) (hl : l.length ≤ 2 ^ 30) : CallsV Try.prog 59 [.view (E .inss l)] (.ref 0 (joinTo [] l).length) [.row 99 7 (E .ins (joinTo [] l)) true] := by
  obtain ⟨A, hA⟩ : ∃ A : Ar, A = .std := ⟨_, rfl⟩
  refine CallsV.ok (fn := Try.f59) (by kernel_rfl) (by kernel_rfl) rfl (by cbv) (by cbv) ?_
  refine Ok.run hmix hA false 2000 (by cbv) ?_
  refine Ok.le (Le.nil 3 39 99 7 (by cbv) (by cbv) (by decide)) ?_
  refine Ok.loopAt [3, 9, 10, 11] [39] (fun m s h => ∃ (k : Nat) (out : List In) (n : Nat) (es : List PV), m = l.length - k ∧ k ≤ l.length ∧ joinTo out (l.drop k) = joinTo [] l ∧ n = out.length ∧ es = E .ins out ∧
    s = mkS 43 [(3, .ref 39 n), (9, .pv (.view (E .inss l))), (10, .pv (.int .i64 (A .lenP (E .inss l)))), (11, .pv (.int .i64 (Int.ofNat k)))] ∧ h = [(39, .row 99 7 es true)]) (l.length - 0) (by cbv) ⟨0, [], 0, [], rfl, Nat.zero_le _, rfl, rfl, by rw [E.ins_eq hE]; rfl, by cbv, by cbv⟩ ?_
  rintro m s h ⟨k, out, n, es, rfl, hk, hout, hn, hes, rfl, rfl⟩
  refine Ok.run hmix hA false 2000 (by cbv) ?_
  refine Ok.cond (by cbv) ?_ ?_
  · intro h1
    rw [Ar.lt_eq hA, Ar.lenP_eq hA, decide_eq_true_eq, E.inss_eq hE, List.length_map] at h1
    refine Ok.run hmix hA false 2000 (by cbv) ?_
    have hkl : k < l.length := by simpa using h1
    have hx : l[k]? = some l[k] := List.getElem?_eq_getElem hkl
    generalize hp : l[k] = p at hx
    have hdrop : l.drop k = p :: l.drop (k + 1) := by rw [← hp]; exact List.drop_eq_getElem_cons hkl
    refine Ok.op (idx_view (.view (E .ins p)) (by cbv) (by cbv) (by simp) (by rw [E.inss_eq hE]; simp [hx]) rfl) ?_
    refine Ok.run hmix hA false 2000 (by cbv) ?_
    refine Ok.loopAt [3, 6, 9, 10, 11, 17, 18, 19] [39] (fun m s h => ∃ (j : Nat) (out2 : List In) (n2 : Nat) (es2 : List PV), m = p.length - j ∧ j ≤ p.length ∧ out2 = out ++ (p.take j).map (In.shift n) ∧ n2 = out2.length ∧ es2 = E .ins out2 ∧
      s = mkS 43 [(3, .ref 39 n2), (6, .pv (.int .i64 (A .lenN n))), (9, .pv (.view (E .inss l))), (10, .pv (.int .i64 (A .lenP (E .inss l)))), (11, .pv (.int .i64 (Int.ofNat k))), (17, .pv (.view (E .ins p))), (18, .pv (.int .i64 (A .lenP (E .ins p)))), (19, .pv (.int .i64 (Int.ofNat j)))] ∧ h = [(39, .row 99 7 es2 true)]) (p.length - 0) (by cbv) ⟨0, out, n, es, rfl, Nat.zero_le _, by simp, hn, hes, by cbv, by cbv⟩ ?_
    rintro m s h ⟨j, out2, n2, es2, rfl, hj, hout2, hn2, hes2, rfl, rfl⟩
    have hfull : (out ++ p.map (In.shift n)).length ≤ 2 ^ 30 := by
      have := joinTo_le (l.drop (k + 1)) (out ++ p.map (In.shift out.length))
      rw [hdrop] at hout
      rw [joinTo] at hout
      rw [hout] at this
      rw [hn]
      omega
    have hpl : p.length ≤ 2 ^ 30 := by have := hfull; rw [List.length_append, List.length_map] at this; omega
    refine Ok.run hmix hA false 2000 (by cbv) ?_
    refine Ok.cond (by cbv) ?_ ?_
    · intro h2
      rw [Ar.lt_eq hA, Ar.lenP_eq hA, decide_eq_true_eq, E.ins_eq hE, List.length_map] at h2
      have hjl : j < p.length := by simpa using h2
      have hy : p[j]? = some p[j] := List.getElem?_eq_getElem hjl
      have htake : p.take (j + 1) = p.take j ++ [p[j]] := by rw [List.take_add_one, hy]; rfl
      generalize hq : p[j] = x at hy htake
      have hlen2 : n2 + 1 ≤ 2 ^ 30 := by
        rw [hn2, hout2]
        simp at hfull ⊢
        omega
      refine Ok.run hmix hA false 2000 (by cbv) ?_
      refine Ok.op (idx_view (E.inn x) (by cbv) (by cbv) (by simp) (by rw [E.ins_eq hE]; simp [hy]) rfl) ?_
      refine Ok.run hmix hA false 2000 (by cbv) ?_
      obtain ⟨op, ⟨vk, vi, vb, vs, vt⟩, nn⟩ := x
      by_cases hj1 : op = bJmp
      · have e1 : A .seq op [106, 109, 112] = true := by rw [Ar.seq_eq hA, hj1]; rfl
        have hsh : In.shift n ⟨op, ⟨vk, vi, vb, vs, vt⟩, nn⟩ = ⟨op, ⟨vk, vi, vb, vs, vt⟩, IntKind.wrap .i64 (nn + n)⟩ := by simp [In.shift, hj1]
        rw [e1]
        refine Ok.run hmix hA true 2000 (by cbv) ?_
        refine Ok.cond (by cbv) ?_ ?_
        · intro _
          refine Ok.run hmix hA true 2000 (by cbv) ?_
          obtain ⟨es3, hes3⟩ : ∃ es3, es3 = es2 ++ [E.inn (In.shift n ⟨op, ⟨vk, vi, vb, vs, vt⟩, nn⟩)] := ⟨_, rfl⟩
          obtain ⟨n3, hn3⟩ : ∃ n3, n3 = n2 + 1 := ⟨_, rfl⟩
          refine Ok.op (app_ref (by cbv) (by cbv) (by rw [hn2, hes2, E.ins_eq hE, List.length_map]) (by cbv) (by cbv) (by decide) (by simp only [List.length_singleton]; omega) (by unfold maxLen; simp only [List.length_singleton]; omega) n3 hn3 es3 (by rw [hes3, hsh]; first | rfl | (rw [Ar.add_eq hA, Ar.lenN_eq hA]; rfl))) ?_
          refine Ok.run hmix hA true 2000 (by cbv) ?_
          refine Ok.back (p.length - (j + 1)) [3, 6, 9, 10, 11, 17, 18, 19] [39] (by omega) (by cbv) ⟨j + 1, out ++ (p.take (j + 1)).map (In.shift n), n3, es3, rfl, by omega, rfl, ?_, ?_, ?_, by cbv⟩
          · rw [hn3, hn2, hout2, htake]; simp; omega
          · rw [hes3, hes2, E.ins_eq hE, E.ins_eq hE, hout2, htake]; simp
          · rw [Ar.succ_eq hA (by omega)]; cbv
        · intro hh; cases hh
      · have e1 : A .seq op [106, 109, 112] = false := by rw [Ar.seq_eq hA]; exact decide_eq_false hj1
        rw [e1]
        refine Ok.run hmix hA true 6 (by cbv) ?_
        by_cases hj2 : op = bJf
        · have e2 : A .seq op [106, 102] = true := by rw [Ar.seq_eq hA, hj2]; rfl
          have hsh : In.shift n ⟨op, ⟨vk, vi, vb, vs, vt⟩, nn⟩ = ⟨op, ⟨vk, vi, vb, vs, vt⟩, IntKind.wrap .i64 (nn + n)⟩ := by simp [In.shift, hj2]
          rw [e2]
          refine Ok.run hmix hA true 2000 (by cbv) ?_
          refine Ok.cond (by cbv) ?_ ?_
          · intro _
            refine Ok.run hmix hA true 2000 (by cbv) ?_
            obtain ⟨es3, hes3⟩ : ∃ es3, es3 = es2 ++ [E.inn (In.shift n ⟨op, ⟨vk, vi, vb, vs, vt⟩, nn⟩)] := ⟨_, rfl⟩
            obtain ⟨n3, hn3⟩ : ∃ n3, n3 = n2 + 1 := ⟨_, rfl⟩
            refine Ok.op (app_ref (by cbv) (by cbv) (by rw [hn2, hes2, E.ins_eq hE, List.length_map]) (by cbv) (by cbv) (by decide) (by simp only [List.length_singleton]; omega) (by unfold maxLen; simp only [List.length_singleton]; omega) n3 hn3 es3 (by rw [hes3, hsh]; first | rfl | (rw [Ar.add_eq hA, Ar.lenN_eq hA]; rfl))) ?_
            refine Ok.run hmix hA true 2000 (by cbv) ?_
            refine Ok.back (p.length - (j + 1)) [3, 6, 9, 10, 11, 17, 18, 19] [39] (by omega) (by cbv) ⟨j + 1, out ++ (p.take (j + 1)).map (In.shift n), n3, es3, rfl, by omega, rfl, ?_, ?_, ?_, by cbv⟩
            · rw [hn3, hn2, hout2, htake]; simp; omega
            · rw [hes3, hes2, E.ins_eq hE, E.ins_eq hE, hout2, htake]; simp
            · rw [Ar.succ_eq hA (by omega)]; cbv
          · intro hh; cases hh
        · have e2 : A .seq op [106, 102] = false := by rw [Ar.seq_eq hA]; exact decide_eq_false hj2
          have hsh : In.shift n ⟨op, ⟨vk, vi, vb, vs, vt⟩, nn⟩ = ⟨op, ⟨vk, vi, vb, vs, vt⟩, nn⟩ := by simp [In.shift, hj1, hj2]
          rw [e2]
          refine Ok.run hmix hA true 2000 (by cbv) ?_
          refine Ok.cond (by cbv) ?_ ?_
          · intro hh; cases hh
          · intro _
            refine Ok.run hmix hA true 2000 (by cbv) ?_
            obtain ⟨es3, hes3⟩ : ∃ es3, es3 = es2 ++ [E.inn (In.shift n ⟨op, ⟨vk, vi, vb, vs, vt⟩, nn⟩)] := ⟨_, rfl⟩
            obtain ⟨n3, hn3⟩ : ∃ n3, n3 = n2 + 1 := ⟨_, rfl⟩
            refine Ok.op (app_ref (by cbv) (by cbv) (by rw [hn2, hes2, E.ins_eq hE, List.length_map]) (by cbv) (by cbv) (by decide) (by simp only [List.length_singleton]; omega) (by unfold maxLen; simp only [List.length_singleton]; omega) n3 hn3 es3 (by rw [hes3, hsh]; first | rfl | (rw [Ar.add_eq hA, Ar.lenN_eq hA]; rfl))) ?_
            refine Ok.run hmix hA true 2000 (by cbv) ?_
            refine Ok.back (p.length - (j + 1)) [3, 6, 9, 10, 11, 17, 18, 19] [39] (by omega) (by cbv) ⟨j + 1, out ++ (p.take (j + 1)).map (In.shift n), n3, es3, rfl, by omega, rfl, ?_, ?_, ?_, by cbv⟩
            · rw [hn3, hn2, hout2, htake]; simp; omega
            · rw [hes3, hes2, E.ins_eq hE, E.ins_eq hE, hout2, htake]; simp
            · rw [Ar.succ_eq hA (by omega)]; cbv
    · intro h2
      have hje : j = p.length := by
        rw [Ar.lt_eq hA, Ar.lenP_eq hA, decide_eq_false_iff_not, E.ins_eq hE, List.length_map] at h2
        simp at h2; omega
      subst hje
      refine Ok.run hmix hA false 2000 (by cbv) ?_
      refine Ok.leave ?_
      refine Ok.run hmix hA false 2000 (by cbv) ?_
      refine Ok.back (l.length - (k + 1)) [3, 9, 10, 11] [39] (by omega) (by cbv) ⟨k + 1, out2, n2, es2, rfl, by omega, ?_, hn2, hes2, ?_, by cbv⟩
      · rw [hdrop, joinTo] at hout
        rw [hout2, List.take_length, hn, hout]
      · rw [Ar.succ_eq hA (by omega)]; cbv
  · intro h1
    have hke : k = l.length := by
      rw [Ar.lt_eq hA, Ar.lenP_eq hA, decide_eq_false_iff_not, E.inss_eq hE, List.length_map] at h1
      simp at h1; omega
    subst hke
    rw [List.drop_length, joinTo] at hout
    refine Ok.run hmix hA false 2000 (by cbv) ?_
    refine Ok.leave ?_
    refine Ok.run hmix hA false 2000 (by cbv) ?_
    rw [← hout]
    subst hn hes
    exact Ok.fin (by cbv) (FS.row (by cbv))

theorem gen_join' {E : Enc} (hE : E = .std) (l : List (List In)) (hb : (joinTo [] l).length ≤ 2 ^ 30) (hl : l.length ≤ 2 ^ 30) : CallsV Try.prog 59 [.view (E .inss l)] (.pv (.view (E .ins (joinTo [] l)))) [] :=
  (gen_join hE l hb hl).still (by rw [E.ins_eq hE, List.length_map])
theorem gen_one {E : Enc} (hE : E = .std) (op : List UInt8) (n : Int) : CallsV Try.prog 62 [.str op, .int .i64 n] (.pv (.view (E .ins [⟨op, .zero, n⟩]))) [] := by
  obtain ⟨A, hA⟩ : ∃ A : Ar, A = .std := ⟨_, rfl⟩
  rw [E.ins_eq hE]
  have h0 : E .vls [] = [] := by rw [E.vls_eq hE]; rfl
  refine CallsV.ok (fn := Try.f62) (by kernel_rfl) (by kernel_rfl) rfl (by cbv) (by cbv) ?_
  refine Ok.run hmix hA false 2000 (by cbv) ?_
  refine Ok.fin (by cbv) (FS.out (by cbv) (PLe.of ?_))
  simp [Enc.inn, Vl.zero, h0]
theorem gen_push {E : Enc} (hE : E = .std) (v : Vl) : CallsV Try.prog 65 [E.vl v] (.pv (.view (E .ins [⟨[112, 117, 115, 104], v, 0⟩]))) [] := by
  obtain ⟨A, hA⟩ : ∃ A : Ar, A = .std := ⟨_, rfl⟩
  rw [E.ins_eq hE]
  refine CallsV.ok (fn := Try.f65) (by kernel_rfl) (by kernel_rfl) rfl (by cbv) (by cbv) ?_
  refine Ok.run hmix hA false 2000 (by cbv) ?_
  exact Ok.fin (by cbv) (FS.out (by cbv) (PLe.of rfl))
theorem val_Bool {E : Enc} (hE : E = .std) (b : Bool) : CallsV Try.prog 30 [.bool b] (.pv (E.vl ⟨2, 0, b, [], []⟩)) [] := by
  obtain ⟨A, hA⟩ : ∃ A : Ar, A = .std := ⟨_, rfl⟩
  have h0 : E .vls [] = [] := by rw [E.vls_eq hE]; rfl
  refine CallsV.ok (fn := Try.f30) (by kernel_rfl) (by kernel_rfl) rfl (by cbv) (by cbv) ?_
  refine Ok.run hmix hA false 2000 (by cbv) ?_
  refine Ok.fin (by cbv) (FS.out (by cbv) (PLe.of ?_))
  simp [Enc.vl, h0]
theorem val_Int {E : Enc} (hE : E = .std) (n : Int) : CallsV Try.prog 44 [.int .i64 n] (.pv (E.vl ⟨1, n, false, [], []⟩)) [] := by
  obtain ⟨A, hA⟩ : ∃ A : Ar, A = .std := ⟨_, rfl⟩
  have h0 : E .vls [] = [] := by rw [E.vls_eq hE]; rfl
  refine CallsV.ok (fn := Try.f44) (by kernel_rfl) (by kernel_rfl) rfl (by cbv) (by cbv) ?_
  refine Ok.run hmix hA false 2000 (by cbv) ?_
  refine Ok.fin (by cbv) (FS.out (by cbv) (PLe.of ?_))
  simp [Enc.vl, h0]
theorem gen_emits {E : Enc} (hE : E = .std) (n : Int) : CallsV Try.prog 61 [.int .i64 n] (.pv (.view (E .ins [⟨[101, 109, 105, 116], .zero, n⟩, ⟨[114, 101, 116], .zero, 0⟩]))) [] := by
  obtain ⟨A, hA⟩ : ∃ A : Ar, A = .std := ⟨_, rfl⟩
  refine CallsV.ok (fn := Try.f61) (by kernel_rfl) (by kernel_rfl) rfl (by cbv) (by cbv) ?_
  refine Ok.run hmix hA false 2000 (by cbv) ?_
  refine Ok.call (gen_one hE _ _) (by cbv) (by cbv) (by cbv) ?_
  refine Ok.run hmix hA false 2000 (by cbv) ?_
  refine Ok.call (gen_one hE _ _) (by cbv) (by cbv) (by cbv) ?_
  refine Ok.run hmix hA false 2000 (by cbv) ?_
  (have c0 := gen_join' hE [[⟨[101, 109, 105, 116], .zero, n⟩], [⟨[114, 101, 116], .zero, 0⟩]] (by simp [joinTo_len]) (by simp); simp only [E.inss_eq hE, List.map_cons, List.map_nil] at c0; refine Ok.call c0 (by cbv) (by cbv) (by cbv) ?_)
  refine Ok.run hmix hA false 2000 (by cbv) ?_
  exact Ok.fin (by cbv) (FS.out (by cbv) (PLe.refl _))
end Go.Proofs.Ytnojmocoifodjaa.Pv
set_option maxRecDepth 100000
set_option maxHeartbeats 4000000
set_option linter.unusedVariables false
set_option linter.unusedSimpArgs false
namespace Go.Proofs.Ytnojmocoifodjaa.Pv
open Go Go.Proofs
def setN (l : List In) (i : Nat) (n : Int) : List In := l.modify i fun x => { x with n := n }
theorem setN_len (l : List In) (i : Nat) (n : Int) : (setN l i n).length = l.length := by simp [setN]
def iJf : In := ⟨bJf, .zero, 0⟩
def iJmp : In := ⟨bJmp, .zero, 0⟩
def choiceP (a b c : List In) : List In :=
  setN (setN (joinTo [] [a, [iJf], b, [iJmp], c]) a.length ((a.length + 1 + b.length + 1 : Nat) : Int)) (a.length + 1 + b.length) ((a.length + 1 + b.length + 1 + c.length : Nat) : Int)
theorem setN_pv {E : Enc} (hE : E = .std) {l : List In} {i : Nat} {x : In} (hx : l[i]? = some x) (n : Int) : E .ins (setN l i n) = (E .ins l).set i ((E.inn x).withCells (putCells (E.inn x).cells 6 [.int .i64 n])) := by
  rw [E.ins_eq hE, E.ins_eq hE]
  unfold setN
  apply List.ext_getElem?
  intro j
  simp only [List.getElem?_map, List.getElem?_modify, List.getElem?_set, List.length_map]
  by_cases h : i = j
  · subst h
    have hlt := (List.getElem?_eq_some_iff.1 hx).1
    have hli : l[i] = x := by simpa [hlt] using hx
    simp [hli, hlt, Enc.inn, PV.withCells, PV.cells, putCells]
  · simp [h]
theorem gen_choice {E : Enc} (hE : E = .std) (a b c : List In) (hl : a.length + b.length + c.length ≤ 2 ^ 29) : CallsV Try.prog 66 [.view (E .ins a), .view (E .ins b), .view (E .ins c)] (.pv (.view (E .ins (choiceP a b c)))) [] := by
  obtain ⟨A, hA⟩ : ∃ A : Ar, A = .std := ⟨_, rfl⟩
  obtain ⟨out, hout⟩ : ∃ out, out = joinTo [] [a, [iJf], b, [iJmp], c] := ⟨_, rfl⟩
  have hlen : out.length = a.length + 1 + b.length + 1 + c.length := by rw [hout, joinTo_len]; simp; omega
  obtain ⟨no, hno⟩ : ∃ no, no = out.length := ⟨_, rfl⟩
  obtain ⟨la, hla⟩ : ∃ la, la = a.length := ⟨_, rfl⟩
  obtain ⟨jm, hjm⟩ : ∃ jm, jm = la + 1 + b.length := ⟨_, rfl⟩
  have ela : A .lenP (E .ins a) = Int.ofNat la := by rw [Ar.lenP_eq hA, E.ins_eq hE, hla]; simp
  have elb : A .add .i64 (A .add .i64 (Int.ofNat la) 1) (A .lenP (E .ins b)) = Int.ofNat jm := by
    rw [Ar.succ_eq hA (by omega), Ar.lenP_eq hA, E.ins_eq hE, List.length_map]
    exact (ofNat_add hA (by omega)).trans (by rw [hjm])
  have c0 := gen_join hE [a, [iJf], b, [iJmp], c] (by rw [← hout]; omega) (by simp)
  rw [← hout, ← hno] at c0
  simp only [E.inss_eq hE, List.map_cons, List.map_nil] at c0
  have hxa : ∃ x, out[la]? = some x := ⟨_, List.getElem?_eq_getElem (by omega)⟩
  obtain ⟨xa, hxa⟩ := hxa
  obtain ⟨out2, hout2⟩ : ∃ o, o = setN out la (Int.ofNat (jm + 1)) := ⟨_, rfl⟩
  obtain ⟨xb, hxb⟩ : ∃ x, out2[jm]? = some x := ⟨_, List.getElem?_eq_getElem (by rw [hout2, setN_len]; omega)⟩
  obtain ⟨out3, hout3⟩ : ∃ o, o = setN out2 jm (Int.ofNat no) := ⟨_, rfl⟩
  have hch : choiceP a b c = out3 := by
    rw [hout3, hout2, hout, hno, hlen, hjm, hla]; rfl
  rw [hch]
  refine CallsV.ok (fn := Try.f66) (by kernel_rfl) (by kernel_rfl) rfl (by cbv) (by cbv) ?_
  refine Ok.run hmix hA false 2000 (by cbv) ?_
  refine Ok.call (gen_one hE [106, 102] 0) (by cbv) (by cbv) (by cbv) ?_
  refine Ok.run hmix hA false 2000 (by cbv) ?_
  refine Ok.call (gen_one hE [106, 109, 112] 0) (by cbv) (by cbv) (by cbv) ?_
  refine Ok.run hmix hA false 2000 (by cbv) ?_
  refine Ok.call c0 (by cbv) (by cbv) (by cbv) ?_
  refine Ok.run hmix hA false 2000 (by cbv) ?_
  rw [ela]
  rw [elb]
  rw [Ar.succ_eq (k := jm) hA (by omega)]
  refine Ok.op (idx_ref (by cbv) (by cbv) (by cbv) (by rw [E.ins_eq hE, List.length_map, hno]) la rfl (by omega)) ?_
  refine Ok.run hmix hA false 2000 (by cbv) ?_
  refine Ok.op (fld_eptr (by cbv) (by cbv) (by rw [E.ins_eq hE, List.length_map, hno])) ?_
  refine Ok.run hmix hA false 2000 (by cbv) ?_
  refine Ok.op (store_eptr (by cbv) (by cbv) (by rw [E.ins_eq hE, List.length_map, hno]) (E.inn xa) (by rw [E.ins_eq hE]; simp [hxa]) (by cbv) (by decide) (by exact ⟨rfl, by decide, by simp [Enc.inn, PV.cells], rfl⟩) (E .ins out2) (by rw [hout2, setN_pv hE hxa]; rfl)) ?_
  refine Ok.run hmix hA false 2000 (by cbv) ?_
  refine Ok.op (idx_ref (by cbv) (by cbv) (by cbv) (by rw [E.ins_eq hE, List.length_map, hno, hout2, setN_len]) jm rfl (by omega)) ?_
  refine Ok.run hmix hA false 2000 (by cbv) ?_
  refine Ok.op (fld_eptr (by cbv) (by cbv) (by rw [E.ins_eq hE, List.length_map, hno, hout2, setN_len])) ?_
  refine Ok.run hmix hA false 2000 (by cbv) ?_
  rw [Ar.lenN_eq hA]
  refine Ok.op (store_eptr (by cbv) (by cbv) (by rw [E.ins_eq hE, List.length_map, hno, hout2, setN_len]) (E.inn xb) (by rw [E.ins_eq hE]; simp [hxb]) (by cbv) (by decide) (by exact ⟨rfl, by decide, by simp [Enc.inn, PV.cells], rfl⟩) (E .ins out3) (by rw [hout3, setN_pv hE hxb]; rfl)) ?_
  refine Ok.run hmix hA false 2000 (by cbv) ?_
  exact Ok.fin (by cbv) (FS.ref (by cbv) (by rw [E.ins_eq hE, List.length_map, hno, hout3, setN_len, hout2, setN_len]))
end Go.Proofs.Ytnojmocoifodjaa.Pv
set_option maxRecDepth 100000
set_option maxHeartbeats 4000000
set_option linter.unusedVariables false
set_option linter.unusedSimpArgs false
namespace Go.Proofs.Ytnojmocoifodjaa.Pv
open Go Go.Proofs
/-- What gen.each puts together. -/
def eachP (out : List In) : List (List In) → List In
  | [] => out
  | p :: ps => eachP (joinTo [] [out, p]) ps
theorem eachP_len : ∀ (ps : List (List In)) (out : List In), (eachP out ps).length = out.length + (ps.map List.length).sum
  | [], out => by simp [eachP]
  | p :: ps, out => by rw [eachP, eachP_len ps, joinTo_len]; simp; omega
theorem gen_each {E : Enc} (hE : E = .std) (f : Nat) (l : List Ex4) (g : Ex4 → List In) (hg : ∀ e, e ∈ l → CallsV Try.prog f [E.ex e] (.pv (.view (E .ins (g e)))) []) (hb : (eachP [] (l.map g)).length ≤ 2 ^ 29) (hl : l.length ≤ 2 ^ 29) :
    CallsV Try.prog 60 [.view (E .exs l), .func f []] (.pv (.view (E .ins (eachP [] (l.map g))))) [] := by
  obtain ⟨A, hA⟩ : ∃ A : Ar, A = .std := ⟨_, rfl⟩
  have h0 : E .ins [] = [] := by rw [E.ins_eq hE]; rfl
  refine CallsV.ok (fn := Try.f60) (by kernel_rfl) (by kernel_rfl) rfl (by cbv) (by cbv) ?_
  refine Ok.run hmix hA false 2000 (by cbv) ?_
  refine Ok.le (Le.pv 5 (by cbv) PLe.nil) ?_
  refine Ok.loopAt [1, 5, 8, 9, 10] [] (fun m s h => ∃ (k : Nat) (out : List In) (es : List PV), m = l.length - k ∧ k ≤ l.length ∧ eachP out ((l.drop k).map g) = eachP [] (l.map g) ∧ es = E .ins out ∧
    s = mkS 22 [(1, .pv (.func f [])), (5, .pv (.view es)), (8, .pv (.view (E .exs l))), (9, .pv (.int .i64 (A .lenP (E .exs l)))), (10, .pv (.int .i64 (Int.ofNat k)))] ∧ h = []) (l.length - 0) (by cbv) ⟨0, [], [], rfl, Nat.zero_le _, rfl, h0.symm, by cbv, by cbv⟩ ?_
  rintro m s h ⟨k, out, es, rfl, hk, hout, rfl, rfl, rfl⟩
  refine Ok.run hmix hA false 2000 (by cbv) ?_
  refine Ok.cond (by cbv) ?_ ?_
  · intro h1
    rw [Ar.lt_eq hA, Ar.lenP_eq hA, decide_eq_true_eq, E.exs_eq hE, List.length_map] at h1
    have hkl : k < l.length := by simpa using h1
    have hx : l[k]? = some l[k] := List.getElem?_eq_getElem hkl
    have hm : l[k] ∈ l := List.getElem_mem hkl
    have hdrop : l.drop k = l[k] :: l.drop (k + 1) := List.drop_eq_getElem_cons hkl
    generalize l[k] = e at hx hm hdrop
    rw [hdrop, List.map_cons, eachP] at hout
    have hge := hg e hm
    obtain ⟨p, hp⟩ : ∃ p, p = g e := ⟨_, rfl⟩
    rw [← hp] at hge hout
    have hlen : (joinTo [] [out, p]).length ≤ 2 ^ 29 := by rw [← hout, eachP_len] at hb; omega
    have c0 := gen_join' hE [out, p] (by omega) (by simp)
    obtain ⟨q, hq⟩ : ∃ q, q = joinTo [] [out, p] := ⟨_, rfl⟩
    rw [← hq] at c0 hout
    simp only [E.inss_eq hE, List.map_cons, List.map_nil] at c0
    refine Ok.run hmix hA false 2000 (by cbv) ?_
    refine Ok.op (idx_view (E.ex e) (by cbv) (by cbv) (by simp) (by rw [E.exs_eq hE]; simp [hx]) rfl) ?_
    refine Ok.run hmix hA false 2000 (by cbv) ?_
    refine Ok.call (hge) (by cbv) (by cbv) (by cbv) ?_
    refine Ok.run hmix hA false 2000 (by cbv) ?_
    refine Ok.call (c0) (by cbv) (by cbv) (by cbv) ?_
    refine Ok.run hmix hA false 2000 (by cbv) ?_
    refine Ok.back (l.length - (k + 1)) [1, 5, 8, 9, 10] [] (by omega) (by cbv) ⟨k + 1, q, E .ins q, rfl, by omega, hout, rfl, ?_, by cbv⟩
    rw [Ar.succ_eq hA (by omega)]; cbv
  · intro h1
    have hke : k = l.length := by
      rw [Ar.lt_eq hA, Ar.lenP_eq hA, decide_eq_false_iff_not, E.exs_eq hE, List.length_map] at h1
      simp at h1; omega
    subst hke
    rw [List.drop_length] at hout
    have : out = eachP [] (l.map g) := hout
    rw [← this]
    refine Ok.run hmix hA false 2000 (by cbv) ?_
    refine Ok.leave ?_
    refine Ok.run hmix hA false 2000 (by cbv) ?_
    exact Ok.fin (by cbv) (FS.out (by cbv) (PLe.refl _))
end Go.Proofs.Ytnojmocoifodjaa.Pv
set_option maxRecDepth 100000
set_option maxHeartbeats 4000000
set_option linter.unusedVariables false
set_option linter.unusedSimpArgs false
namespace Go.Proofs.Ytnojmocoifodjaa.Pv
open Go Go.Proofs
def bLit : List UInt8 := [108, 105, 116]
def bX : List UInt8 := [120]
def bAt : List UInt8 := [97, 116]
def bTup : List UInt8 := [116, 117, 112]
def bAnd : List UInt8 := [97, 110, 100]
def bOr : List UInt8 := [111, 114]
def bIf : List UInt8 := [105, 102]
def bPush : List UInt8 := [112, 117, 115, 104]
def vBool (b : Bool) : Vl := ⟨2, 0, b, [], []⟩
def vInt (n : Int) : Vl := ⟨1, n, false, [], []⟩
mutual
def genE : Ex4 → List In
  | .mk op v n a =>
    if op = bLit then [⟨bPush, v, 0⟩]
    else if op = bX then [⟨bX, .zero, 0⟩]
    else if op = bAt then joinTo [] [(genAll a).getD 0 [], [⟨bAt, .zero, n⟩]]
    else if op = bTup then joinTo [] [eachP [] (genAll a), [⟨bTup, .zero, (genAll a).length⟩]]
    else if op = bAnd then choiceP ((genAll a).getD 0 []) ((genAll a).getD 1 []) [⟨bPush, vBool false, 0⟩]
    else if op = bOr then choiceP ((genAll a).getD 0 []) [⟨bPush, vBool true, 0⟩] ((genAll a).getD 1 [])
    else if op = bIf then choiceP ((genAll a).getD 0 []) ((genAll a).getD 1 []) ((genAll a).getD 2 [])
    else joinTo [] [eachP [] (genAll a), [⟨op, .zero, 0⟩]]
def genAll : List Ex4 → List (List In)
  | [] => []
  | e :: l => genE e :: genAll l
end
theorem genAll_eq : ∀ l, genAll l = l.map genE
  | [] => rfl
  | e :: l => by rw [genAll, genAll_eq l, List.map_cons]
/-- How many arguments are looked at. -/
def arity (op : List UInt8) : Nat := if op = bAt then 1 else if op = bAnd ∨ op = bOr then 2 else if op = bIf then 3 else 0
mutual
/-- Has each Op what is looked at? -/
def wfE : Ex4 → Prop
  | .mk op v n a => arity op ≤ a.length ∧ wfEs a
def wfEs : List Ex4 → Prop
  | [] => True
  | e :: l => wfE e ∧ wfEs l
end
theorem wfEs_mem : ∀ {l : List Ex4} {e : Ex4}, wfEs l → e ∈ l → wfE e
  | [], e, h, he => by simp at he
  | x :: l, e, h, he => by
    rcases List.mem_cons.1 he with rfl | he
    · exact h.1
    · exact wfEs_mem h.2 he
mutual
/-- What is made, at most. -/
def sizE : Ex4 → Nat
  | .mk op v n a => 5 + sizEs a
def sizEs : List Ex4 → Nat
  | [] => 0
  | e :: l => sizE e + sizEs l
end
theorem sizEs_mem : ∀ {l : List Ex4} {e : Ex4}, e ∈ l → sizE e ≤ sizEs l
  | [], e, he => by simp at he
  | x :: l, e, he => by
    rw [sizEs]
    rcases List.mem_cons.1 he with rfl | he
    · omega
    · have := sizEs_mem he; omega
theorem choiceP_len (a b c : List In) : (choiceP a b c).length = a.length + b.length + c.length + 2 := by
  unfold choiceP
  rw [setN_len, setN_len, joinTo_len]
  simp; omega
theorem sumAll : ∀ {l : List Ex4}, (∀ e, e ∈ l → (genE e).length ≤ sizE e) → ((genAll l).map List.length).sum ≤ sizEs l
  | [], _ => by simp [genAll, sizEs]
  | e :: l, h => by
    have h1 := h e (by simp)
    have h2 := sumAll (l := l) (fun x hx => h x (by simp [hx]))
    simp [genAll, sizEs] at h2 ⊢; omega
theorem getAll {l : List Ex4} (i : Nat) : ((genAll l).getD i []).length ≤ ((genAll l).map List.length).sum := by
  generalize genAll l = m
  induction m generalizing i with
  | nil => simp
  | cons p m ih =>
    cases i with
    | zero => simp
    | succ i => have := ih i; simp at this ⊢; omega
theorem getAll2 {m : List (List In)} {i j : Nat} (hij : i < j) : (m.getD i []).length + (m.getD j []).length ≤ (m.map List.length).sum := by
  induction m generalizing i j with
  | nil => simp
  | cons p m ih =>
    cases j with
    | zero => omega
    | succ j =>
      cases i with
      | zero =>
        have : ∀ (m : List (List In)) (j : Nat), (m.getD j []).length ≤ (m.map List.length).sum := by
          intro m
          induction m with
          | nil => simp
          | cons q m ih => intro j; cases j with
            | zero => simp
            | succ j => have := ih j; simp at this ⊢; omega
        have := this m j
        simp at this ⊢; omega
      | succ i => have := @ih i j (by omega); simp at this ⊢; omega
theorem getAll3 {m : List (List In)} : (m.getD 0 []).length + (m.getD 1 []).length + (m.getD 2 []).length ≤ (m.map List.length).sum := by
  match m with
  | [] => simp
  | [a] => simp
  | [a, b] => simp
  | a :: b :: c :: m => simp; omega
theorem genE_le : ∀ (n : Nat) (e : Ex4), SizeOf.sizeOf e ≤ n → (genE e).length ≤ sizE e
  | 0, .mk op v k a, h => by simp at h
  | n + 1, .mk op v k a, h => by
    have hs := sumAll (l := a) (fun e he => genE_le n e (by have := List.sizeOf_lt_of_mem he; simp at h; omega))
    have h0 := getAll (l := a) 0
    have h01 := getAll2 (m := genAll a) (i := 0) (j := 1) (by omega)
    have h3 := getAll3 (m := genAll a)
    rw [genE, sizE]
    repeat' split
    all_goals (try (simp only [choiceP_len, joinTo_len, eachP_len, List.map_cons, List.map_nil, List.sum_cons, List.sum_nil, List.length_cons, List.length_nil]))
    all_goals omega
end Go.Proofs.Ytnojmocoifodjaa.Pv
set_option maxRecDepth 100000
set_option maxHeartbeats 4000000
set_option linter.unusedVariables false
set_option linter.unusedSimpArgs false
namespace Go.Proofs.Ytnojmocoifodjaa.Pv
open Go Go.Proofs
theorem gen_Expr {E : Enc} (hE : E = .std) : ∀ (n : Nat) (e : Ex4), SizeOf.sizeOf e ≤ n → wfE e → sizE e ≤ 2 ^ 27 → CallsV Try.prog 25 [E.ex e] (.pv (.view (E .ins (genE e)))) [] := by
  intro n
  induction n with
  | zero => intro e h; cases e; simp at h
  | succ n ih =>
    rintro ⟨op, v, k, a⟩ hn hwf hsz
    obtain ⟨A, hA⟩ : ∃ A : Ar, A = .std := ⟨_, rfl⟩
    obtain ⟨har, hwa⟩ := hwf
    rw [sizE] at hsz
    have hsub : ∀ e, e ∈ a → CallsV Try.prog 25 [E.ex e] (.pv (.view (E .ins (genE e)))) [] := fun e he => by
      have h1 := List.sizeOf_lt_of_mem he
      have h2 := sizEs_mem he
      simp at hn
      exact ih e (by omega) (wfEs_mem hwa he) (by omega)
    have hsum : ((genAll a).map List.length).sum ≤ sizEs a := sumAll (fun e he => genE_le _ e (Nat.le_refl _))
    have hal : a.length ≤ sizEs a := by
      clear har hwa hsub hsum hn hsz
      induction a with
      | nil => simp
      | cons e a iha => rw [sizEs, List.length_cons]; cases e; rw [sizE]; omega
    have hat : ∀ i, i < a.length → ∃ e, a[i]? = some e ∧ (genAll a).getD i [] = genE e ∧ CallsV Try.prog 25 [E.ex e] (.pv (.view (E .ins (genE e)))) [] := fun i hi =>
      ⟨a[i], List.getElem?_eq_getElem hi, by rw [genAll_eq]; simp [List.getD, hi], hsub _ (List.getElem_mem hi)⟩
    have hg0 := getAll (l := a) 0
    have hg1 := getAll (l := a) 1
    have hg2 := getAll (l := a) 2
    have hEe : eachP [] (genAll a) = eachP [] (a.map genE) := by rw [genAll_eq]
    have ceach := gen_each hE 25 a genE hsub (by rw [← hEe, eachP_len]; simp; omega) (by omega)
    rw [← hEe] at ceach
    obtain ⟨pe, hpe⟩ : ∃ p, p = eachP [] (genAll a) := ⟨_, rfl⟩
    have hpel : pe.length ≤ 2 ^ 28 := by rw [hpe, eachP_len]; simp; omega
    rw [← hpe] at ceach
    have hla : A .lenP (E .exs a) = Int.ofNat a.length := by rw [Ar.lenP_eq hA, E.exs_eq hE, List.length_map]; rfl
    refine CallsV.ok (fn := Try.f25) (by kernel_rfl) (by kernel_rfl) rfl (by cbv) (by cbv) ?_
    refine Ok.run hmix hA false 2000 (by cbv) ?_
    refine Ok.cond (by cbv) ?_ ?_
    · intro h1
      have h1 : op = bLit := by rw [Ar.seq_eq hA, decide_eq_true_eq] at h1; exact h1
      refine Ok.run hmix hA false 2000 (by cbv) ?_
      refine Ok.call (gen_push hE v) (by cbv) (by cbv) (by cbv) ?_
      refine Ok.run hmix hA false 2000 (by cbv) ?_
      rw [genE, if_pos h1]
      exact Ok.fin (by cbv) (FS.out (by cbv) (PLe.refl _))
    · intro h1
      have h1 : ¬ op = bLit := by rw [Ar.seq_eq hA, decide_eq_false_iff_not] at h1; exact h1
      rw [genE, if_neg h1]
      refine Ok.run hmix hA false 2000 (by cbv) ?_
      refine Ok.cond (by cbv) ?_ ?_
      · intro h2
        have h2 : op = bX := by rw [Ar.seq_eq hA, decide_eq_true_eq] at h2; exact h2
        rw [if_pos h2]
        refine Ok.run hmix hA false 2000 (by cbv) ?_
        refine Ok.call (gen_one hE [120] 0) (by cbv) (by cbv) (by cbv) ?_
        refine Ok.run hmix hA false 2000 (by cbv) ?_
        exact Ok.fin (by cbv) (FS.out (by cbv) (PLe.refl _))
      · intro h2
        have h2 : ¬ op = bX := by rw [Ar.seq_eq hA, decide_eq_false_iff_not] at h2; exact h2
        rw [if_neg h2]
        refine Ok.run hmix hA false 2000 (by cbv) ?_
        refine Ok.cond (by cbv) ?_ ?_
        · intro h3
          have h3 : op = bAt := by rw [Ar.seq_eq hA, decide_eq_true_eq] at h3; exact h3
          rw [if_pos h3]
          obtain ⟨e0, he0, hp0, c0⟩ := hat 0 (by simp [arity, h3] at har; omega)
          rw [hp0] at hg0 ⊢
          generalize genE e0 = p0 at c0 hg0
          have cj := gen_join' hE [p0, [⟨bAt, .zero, k⟩]] (by rw [joinTo_len]; simp; omega) (by simp)
          generalize joinTo [] [p0, [⟨bAt, .zero, k⟩]] = q at cj
          simp only [E.inss_eq hE, List.map_cons, List.map_nil] at cj
          refine Ok.run hmix hA false 2000 (by cbv) ?_
          refine Ok.dop (idx_view (E.ex e0) (by cbv) (by cbv) (by simp) (by rw [E.exs_eq hE]; simp [he0]) rfl) ?_
          refine Ok.run hmix hA false 2000 (by cbv) ?_
          refine Ok.dcall (c0) (by cbv) (by cbv) (by cbv) ?_
          refine Ok.run hmix hA false 2000 (by cbv) ?_
          refine Ok.dcall (gen_one hE [97, 116] k) (by cbv) (by cbv) (by cbv) ?_
          refine Ok.run hmix hA false 2000 (by cbv) ?_
          refine Ok.dcall (cj) (by cbv) (by cbv) (by cbv) ?_
          refine Ok.run hmix hA false 2000 (by cbv) ?_
          refine Ok.drawn (by kernel_rfl) ?_
          refine Ok.run hmix hA false 2000 (by cbv) ?_
          exact Ok.fin (by cbv) (FS.out (by cbv) (PLe.refl _))
        · intro h3
          have h3 : ¬ op = bAt := by rw [Ar.seq_eq hA, decide_eq_false_iff_not] at h3; exact h3
          rw [if_neg h3]
          refine Ok.run hmix hA false 2000 (by cbv) ?_
          refine Ok.cond (by cbv) ?_ ?_
          · intro h4
            have h4 : op = bTup := by rw [Ar.seq_eq hA, decide_eq_true_eq] at h4; exact h4
            rw [if_pos h4]
            have cj := gen_join' hE [pe, [⟨bTup, .zero, (genAll a).length⟩]] (by rw [joinTo_len]; simp; omega) (by simp)
            rw [← hpe]
            generalize joinTo [] [pe, [⟨bTup, .zero, (genAll a).length⟩]] = q at cj
            have hall : (genAll a).length = a.length := by rw [genAll_eq, List.length_map]
            rw [hall] at cj
            simp only [E.inss_eq hE, List.map_cons, List.map_nil] at cj
            refine Ok.run hmix hA false 2000 (by cbv) ?_
            refine Ok.dcall (ceach) (by cbv) (by cbv) (by cbv) ?_
            refine Ok.run hmix hA false 2000 (by cbv) ?_
            rw [hla]
            refine Ok.dcall (gen_one hE [116, 117, 112] (Int.ofNat a.length)) (by cbv) (by cbv) (by cbv) ?_
            refine Ok.run hmix hA false 2000 (by cbv) ?_
            refine Ok.dcall (cj) (by cbv) (by cbv) (by cbv) ?_
            refine Ok.run hmix hA false 2000 (by cbv) ?_
            refine Ok.drawn (by kernel_rfl) ?_
            refine Ok.run hmix hA false 2000 (by cbv) ?_
            exact Ok.fin (by cbv) (FS.out (by cbv) (PLe.refl _))
          · intro h4
            have h4 : ¬ op = bTup := by rw [Ar.seq_eq hA, decide_eq_false_iff_not] at h4; exact h4
            rw [if_neg h4]
            refine Ok.run hmix hA false 2000 (by cbv) ?_
            refine Ok.cond (by cbv) ?_ ?_
            · intro h5
              have h5 : op = bAnd := by rw [Ar.seq_eq hA, decide_eq_true_eq] at h5; exact h5
              rw [if_pos h5]
              obtain ⟨e0, he0, hp0, c0⟩ := hat 0 (by simp [arity, h5, bAnd, bAt] at har; omega)
              obtain ⟨e1, he1, hp1, c1⟩ := hat 1 (by simp [arity, h5, bAnd, bAt] at har; omega)
              rw [hp0, hp1]
              rw [hp0] at hg0
              rw [hp1] at hg1
              generalize genE e0 = p0 at c0 hg0
              generalize genE e1 = p1 at c1 hg1
              have cc := gen_choice hE p0 p1 [⟨bPush, vBool false, 0⟩] (by simp; omega)
              generalize choiceP p0 p1 [⟨bPush, vBool false, 0⟩] = q at cc
              refine Ok.run hmix hA false 2000 (by cbv) ?_
              refine Ok.dop (idx_view (E.ex e0) (by cbv) (by cbv) (by simp) (by rw [E.exs_eq hE]; simp [he0]) rfl) ?_
              refine Ok.run hmix hA false 2000 (by cbv) ?_
              refine Ok.dcall (c0) (by cbv) (by cbv) (by cbv) ?_
              refine Ok.run hmix hA false 2000 (by cbv) ?_
              refine Ok.dop (idx_view (E.ex e1) (by cbv) (by cbv) (by simp) (by rw [E.exs_eq hE]; simp [he1]) rfl) ?_
              refine Ok.run hmix hA false 2000 (by cbv) ?_
              refine Ok.dcall (c1) (by cbv) (by cbv) (by cbv) ?_
              refine Ok.run hmix hA false 2000 (by cbv) ?_
              refine Ok.dcall (val_Bool hE false) (by cbv) (by cbv) (by cbv) ?_
              refine Ok.run hmix hA false 2000 (by cbv) ?_
              refine Ok.dcall (gen_push hE (vBool false)) (by cbv) (by cbv) (by cbv) ?_
              refine Ok.run hmix hA false 2000 (by cbv) ?_
              refine Ok.dcall (cc) (by cbv) (by cbv) (by cbv) ?_
              refine Ok.run hmix hA false 2000 (by cbv) ?_
              refine Ok.drawn (by kernel_rfl) ?_
              refine Ok.run hmix hA false 2000 (by cbv) ?_
              exact Ok.fin (by cbv) (FS.out (by cbv) (PLe.refl _))
            · intro h5
              have h5 : ¬ op = bAnd := by rw [Ar.seq_eq hA, decide_eq_false_iff_not] at h5; exact h5
              rw [if_neg h5]
              refine Ok.run hmix hA false 2000 (by cbv) ?_
              refine Ok.cond (by cbv) ?_ ?_
              · intro h6
                have h6 : op = bOr := by rw [Ar.seq_eq hA, decide_eq_true_eq] at h6; exact h6
                rw [if_pos h6]
                obtain ⟨e0, he0, hp0, c0⟩ := hat 0 (by simp [arity, h6, bAnd, bAt, bOr] at har; omega)
                obtain ⟨e1, he1, hp1, c1⟩ := hat 1 (by simp [arity, h6, bAnd, bAt, bOr] at har; omega)
                rw [hp0, hp1]
                rw [hp0] at hg0
                rw [hp1] at hg1
                generalize genE e0 = p0 at c0 hg0
                generalize genE e1 = p1 at c1 hg1
                have cc := gen_choice hE p0 [⟨bPush, vBool true, 0⟩] p1 (by simp; omega)
                generalize choiceP p0 [⟨bPush, vBool true, 0⟩] p1 = q at cc
                refine Ok.run hmix hA false 2000 (by cbv) ?_
                refine Ok.dop (idx_view (E.ex e0) (by cbv) (by cbv) (by simp) (by rw [E.exs_eq hE]; simp [he0]) rfl) ?_
                refine Ok.run hmix hA false 2000 (by cbv) ?_
                refine Ok.dcall (c0) (by cbv) (by cbv) (by cbv) ?_
                refine Ok.run hmix hA false 2000 (by cbv) ?_
                refine Ok.dcall (val_Bool hE true) (by cbv) (by cbv) (by cbv) ?_
                refine Ok.run hmix hA false 2000 (by cbv) ?_
                refine Ok.dcall (gen_push hE (vBool true)) (by cbv) (by cbv) (by cbv) ?_
                refine Ok.run hmix hA false 2000 (by cbv) ?_
                refine Ok.dop (idx_view (E.ex e1) (by cbv) (by cbv) (by simp) (by rw [E.exs_eq hE]; simp [he1]) rfl) ?_
                refine Ok.run hmix hA false 2000 (by cbv) ?_
                refine Ok.dcall (c1) (by cbv) (by cbv) (by cbv) ?_
                refine Ok.run hmix hA false 2000 (by cbv) ?_
                refine Ok.dcall (cc) (by cbv) (by cbv) (by cbv) ?_
                refine Ok.run hmix hA false 2000 (by cbv) ?_
                refine Ok.drawn (by kernel_rfl) ?_
                refine Ok.run hmix hA false 2000 (by cbv) ?_
                exact Ok.fin (by cbv) (FS.out (by cbv) (PLe.refl _))
              · intro h6
                have h6 : ¬ op = bOr := by rw [Ar.seq_eq hA, decide_eq_false_iff_not] at h6; exact h6
                rw [if_neg h6]
                refine Ok.run hmix hA false 2000 (by cbv) ?_
                refine Ok.cond (by cbv) ?_ ?_
                · intro h7
                  have h7 : op = bIf := by rw [Ar.seq_eq hA, decide_eq_true_eq] at h7; exact h7
                  rw [if_pos h7]
                  obtain ⟨e0, he0, hp0, c0⟩ := hat 0 (by simp [arity, h7, bAnd, bAt, bOr, bIf] at har; omega)
                  obtain ⟨e1, he1, hp1, c1⟩ := hat 1 (by simp [arity, h7, bAnd, bAt, bOr, bIf] at har; omega)
                  obtain ⟨e2, he2, hp2, c2⟩ := hat 2 (by simp [arity, h7, bAnd, bAt, bOr, bIf] at har; omega)
                  rw [hp0, hp1, hp2]
                  rw [hp0] at hg0
                  rw [hp1] at hg1
                  rw [hp2] at hg2
                  generalize genE e0 = p0 at c0 hg0
                  generalize genE e1 = p1 at c1 hg1
                  generalize genE e2 = p2 at c2 hg2
                  have cc := gen_choice hE p0 p1 p2 (by omega)
                  generalize choiceP p0 p1 p2 = q at cc
                  refine Ok.run hmix hA false 2000 (by cbv) ?_
                  refine Ok.dop (idx_view (E.ex e0) (by cbv) (by cbv) (by simp) (by rw [E.exs_eq hE]; simp [he0]) rfl) ?_
                  refine Ok.run hmix hA false 2000 (by cbv) ?_
                  refine Ok.dcall (c0) (by cbv) (by cbv) (by cbv) ?_
                  refine Ok.run hmix hA false 2000 (by cbv) ?_
                  refine Ok.dop (idx_view (E.ex e1) (by cbv) (by cbv) (by simp) (by rw [E.exs_eq hE]; simp [he1]) rfl) ?_
                  refine Ok.run hmix hA false 2000 (by cbv) ?_
                  refine Ok.dcall (c1) (by cbv) (by cbv) (by cbv) ?_
                  refine Ok.run hmix hA false 2000 (by cbv) ?_
                  refine Ok.dop (idx_view (E.ex e2) (by cbv) (by cbv) (by simp) (by rw [E.exs_eq hE]; simp [he2]) rfl) ?_
                  refine Ok.run hmix hA false 2000 (by cbv) ?_
                  refine Ok.dcall (c2) (by cbv) (by cbv) (by cbv) ?_
                  refine Ok.run hmix hA false 2000 (by cbv) ?_
                  refine Ok.dcall (cc) (by cbv) (by cbv) (by cbv) ?_
                  refine Ok.run hmix hA false 2000 (by cbv) ?_
                  refine Ok.drawn (by kernel_rfl) ?_
                  refine Ok.run hmix hA false 2000 (by cbv) ?_
                  exact Ok.fin (by cbv) (FS.out (by cbv) (PLe.refl _))
                · intro h7
                  have h7 : ¬ op = bIf := by rw [Ar.seq_eq hA, decide_eq_false_iff_not] at h7; exact h7
                  rw [if_neg h7]
                  have cj := gen_join' hE [pe, [⟨op, .zero, 0⟩]] (by rw [joinTo_len]; simp; omega) (by simp)
                  rw [← hpe]
                  generalize joinTo [] [pe, [⟨op, .zero, 0⟩]] = q at cj
                  simp only [E.inss_eq hE, List.map_cons, List.map_nil] at cj
                  refine Ok.run hmix hA false 2000 (by cbv) ?_
                  refine Ok.dcall (ceach) (by cbv) (by cbv) (by cbv) ?_
                  refine Ok.run hmix hA false 2000 (by cbv) ?_
                  refine Ok.dcall (gen_one hE op 0) (by cbv) (by cbv) (by cbv) ?_
                  refine Ok.run hmix hA false 2000 (by cbv) ?_
                  refine Ok.dcall (cj) (by cbv) (by cbv) (by cbv) ?_
                  refine Ok.run hmix hA false 2000 (by cbv) ?_
                  refine Ok.drawn (by kernel_rfl) ?_
                  refine Ok.run hmix hA false 2000 (by cbv) ?_
                  exact Ok.fin (by cbv) (FS.out (by cbv) (PLe.refl _))
end Go.Proofs.Ytnojmocoifodjaa.Pv
set_option maxRecDepth 100000
set_option maxHeartbeats 4000000
set_option linter.unusedVariables false
set_option linter.unusedSimpArgs false
namespace Go.Proofs.Ytnojmocoifodjaa.Pv
open Go Go.Proofs
def bEmit : List UInt8 := [101, 109, 105, 116]
def bRet : List UInt8 := [114, 101, 116]
def iX : In := ⟨bX, .zero, 0⟩
def emitsP (n : Int) : List In := [⟨bEmit, .zero, n⟩, ⟨bRet, .zero, 0⟩]
def genOf (o : Opn) : List In :=
  if o.kind = 2 ∨ o.kind = 4 ∨ o.kind = 5 then joinTo [] [eachP [] (genAll o.e), emitsP o.e.length]
  else if o.kind = 3 then
    setN (joinTo [] [eachP [] (genAll o.e), [iJf], [iX], emitsP 1]) (eachP [] (genAll o.e)).length (((eachP [] (genAll o.e)).length + 3 : Nat) : Int)
  else joinTo [] [[iX], emitsP 1]
def genKey (o : Opn) : List In := joinTo [] [genE o.key, emitsP 1]
theorem genAll_le (a : List Ex4) : ((genAll a).map List.length).sum ≤ sizEs a := sumAll (fun e he => genE_le _ e (Nat.le_refl _))
theorem sizEs_len : ∀ a : List Ex4, a.length ≤ sizEs a
  | [] => by simp
  | e :: a => by have := sizEs_len a; rw [sizEs, List.length_cons]; cases e; rw [sizE]; omega
theorem gen_each' {E : Enc} (hE : E = .std) (a : List Ex4) (hwa : wfEs a) (hsz : sizEs a ≤ 2 ^ 27) : CallsV Try.prog 60 [.view (E .exs a), .func 25 []] (.pv (.view (E .ins (eachP [] (genAll a))))) [] := by
  have h1 := genAll_le a
  have h2 := sizEs_len a
  have hEe : eachP [] (genAll a) = eachP [] (a.map genE) := by rw [genAll_eq]
  have := gen_each hE 25 a genE (fun e he => gen_Expr hE _ e (Nat.le_refl _) (wfEs_mem hwa he) (Nat.le_trans (sizEs_mem he) (by omega))) (by rw [← hEe, eachP_len]; simp; omega) (by omega)
  rw [← hEe] at this
  exact this
theorem gen_Of {E : Enc} (hE : E = .std) (o : Opn) (hwa : wfEs o.e) (hsz : sizEs o.e ≤ 2 ^ 27) : CallsV Try.prog 20 [E.opn o] (.pv (.view (E .ins (genOf o)))) [] := by
  obtain ⟨kind, name, ty, e, key, fold, n⟩ := o
  obtain ⟨A, hA⟩ : ∃ A : Ar, A = .std := ⟨_, rfl⟩
  have h1 := genAll_le e
  have h2 := sizEs_len e
  have ceach := gen_each' hE e hwa hsz
  obtain ⟨pe, hpe⟩ : ∃ p, p = eachP [] (genAll e) := ⟨_, rfl⟩
  have hpel : pe.length ≤ 2 ^ 28 := by rw [hpe, eachP_len]; simp at hsz ⊢; omega
  rw [← hpe] at ceach
  have hla : A .lenP (E .exs e) = Int.ofNat e.length := by rw [Ar.lenP_eq hA, E.exs_eq hE, List.length_map]; rfl
  have hcj : ∃ q, q = joinTo [] [pe, emitsP e.length] ∧ CallsV Try.prog 59 [.view [.view (E .ins pe), .view (E .ins (emitsP e.length))]] (.pv (.view (E .ins q))) [] := by
    refine ⟨_, rfl, ?_⟩
    have cj := gen_join' hE [pe, emitsP e.length] (by rw [joinTo_len]; simp [emitsP]; omega) (by simp)
    simpa only [E.inss_eq hE, List.map_cons, List.map_nil] using cj
  obtain ⟨q, hq, cj⟩ := hcj
  refine CallsV.ok (fn := Try.f20) (by kernel_rfl) (by kernel_rfl) rfl (by cbv) (by cbv) ?_
  by_cases k2 : kind = 2
  · have hs : genOf ⟨kind, name, ty, e, key, fold, n⟩ = q := by simp [genOf, k2, hq, hpe]
    rw [hs]
    have e2 : A .eq kind 2 = true := by rw [Ar.eq_eq hA]; exact decide_eq_true k2
    refine Ok.run hmix hA false 2000 (by cbv) ?_
    rw [e2]
    refine Ok.condT (by cbv) ?_
    refine Ok.run hmix hA false 2000 (by cbv) ?_
    refine Ok.condT (by cbv) ?_
    refine Ok.run hmix hA false 2000 (by cbv) ?_
    refine Ok.dcall (ceach) (by cbv) (by cbv) (by cbv) ?_
    refine Ok.run hmix hA false 2000 (by cbv) ?_
    rw [hla]
    refine Ok.dcall (gen_emits hE (Int.ofNat e.length)) (by cbv) (by cbv) (by cbv) ?_
    refine Ok.run hmix hA false 2000 (by cbv) ?_
    refine Ok.dcall (cj) (by cbv) (by cbv) (by cbv) ?_
    refine Ok.run hmix hA false 2000 (by cbv) ?_
    refine Ok.drawn (by kernel_rfl) ?_
    refine Ok.run hmix hA false 2000 (by cbv) ?_
    exact Ok.fin (by cbv) (FS.out (by cbv) (PLe.refl _))
  have e2 : A .eq kind 2 = false := by rw [Ar.eq_eq hA]; exact decide_eq_false k2
  refine Ok.run hmix hA false 2000 (by cbv) ?_
  rw [e2]
  refine Ok.condF (by cbv) ?_
  refine Ok.run hmix hA false 2000 (by cbv) ?_
  by_cases k4 : kind = 4
  · have hs : genOf ⟨kind, name, ty, e, key, fold, n⟩ = q := by simp [genOf, k4, hq, hpe]
    rw [hs]
    have e4 : A .eq kind 4 = true := by rw [Ar.eq_eq hA]; exact decide_eq_true k4
    rw [e4]
    refine Ok.condT (by cbv) ?_
    refine Ok.run hmix hA false 2000 (by cbv) ?_
    refine Ok.condT (by cbv) ?_
    refine Ok.run hmix hA false 2000 (by cbv) ?_
    refine Ok.dcall (ceach) (by cbv) (by cbv) (by cbv) ?_
    refine Ok.run hmix hA false 2000 (by cbv) ?_
    rw [hla]
    refine Ok.dcall (gen_emits hE (Int.ofNat e.length)) (by cbv) (by cbv) (by cbv) ?_
    refine Ok.run hmix hA false 2000 (by cbv) ?_
    refine Ok.dcall (cj) (by cbv) (by cbv) (by cbv) ?_
    refine Ok.run hmix hA false 2000 (by cbv) ?_
    refine Ok.drawn (by kernel_rfl) ?_
    refine Ok.run hmix hA false 2000 (by cbv) ?_
    exact Ok.fin (by cbv) (FS.out (by cbv) (PLe.refl _))
  have e4 : A .eq kind 4 = false := by rw [Ar.eq_eq hA]; exact decide_eq_false k4
  rw [e4]
  refine Ok.condF (by cbv) ?_
  refine Ok.run hmix hA false 2000 (by cbv) ?_
  by_cases k5 : kind = 5
  · have hs : genOf ⟨kind, name, ty, e, key, fold, n⟩ = q := by simp [genOf, k5, hq, hpe]
    rw [hs]
    have e5 : A .eq kind 5 = true := by rw [Ar.eq_eq hA]; exact decide_eq_true k5
    rw [e5]
    refine Ok.condT (by cbv) ?_
    refine Ok.run hmix hA false 2000 (by cbv) ?_
    refine Ok.dcall (ceach) (by cbv) (by cbv) (by cbv) ?_
    refine Ok.run hmix hA false 2000 (by cbv) ?_
    rw [hla]
    refine Ok.dcall (gen_emits hE (Int.ofNat e.length)) (by cbv) (by cbv) (by cbv) ?_
    refine Ok.run hmix hA false 2000 (by cbv) ?_
    refine Ok.dcall (cj) (by cbv) (by cbv) (by cbv) ?_
    refine Ok.run hmix hA false 2000 (by cbv) ?_
    refine Ok.drawn (by kernel_rfl) ?_
    refine Ok.run hmix hA false 2000 (by cbv) ?_
    exact Ok.fin (by cbv) (FS.out (by cbv) (PLe.refl _))
  have e5 : A .eq kind 5 = false := by rw [Ar.eq_eq hA]; exact decide_eq_false k5
  rw [e5]
  refine Ok.condF (by cbv) ?_
  refine Ok.run hmix hA false 2000 (by cbv) ?_
  by_cases k3 : kind = 3
  · have e3 : A .eq kind 3 = true := by rw [Ar.eq_eq hA]; exact decide_eq_true k3
    rw [e3]
    refine Ok.condT (by cbv) ?_
    obtain ⟨out, hout⟩ : ∃ out, out = joinTo [] [pe, [iJf], [iX], emitsP 1] := ⟨_, rfl⟩
    have hlen : out.length = pe.length + 4 := by rw [hout, joinTo_len]; simp [emitsP]
    obtain ⟨no, hno⟩ : ∃ no, no = out.length := ⟨_, rfl⟩
    obtain ⟨la, hla⟩ : ∃ la, la = pe.length := ⟨_, rfl⟩
    have ea : A .sub .i64 (Int.ofNat no) 4 = Int.ofNat la := by
      rw [Ar.sub_eq hA]
      show IntKind.wrap .i64 ((no : Int) - 4) = (la : Int)
      rw [IntWalk.i64_in _ ⟨by omega, by omega⟩]; omega
    obtain ⟨l3, hl3⟩ : ∃ l3, l3 = la + 3 := ⟨_, rfl⟩
    have eb : A .sub .i64 (Int.ofNat no) 1 = Int.ofNat l3 := by
      rw [Ar.sub_eq hA]
      show IntKind.wrap .i64 ((no : Int) - 1) = (l3 : Int)
      rw [IntWalk.i64_in _ ⟨by omega, by omega⟩]; omega
    have eno : A .lenN no = Int.ofNat no := Ar.lenN_eq hA no
    have c0 := gen_join hE [pe, [iJf], [iX], emitsP 1] (by rw [← hout]; omega) (by simp)
    rw [← hout, ← hno] at c0
    simp only [E.inss_eq hE, List.map_cons, List.map_nil] at c0
    obtain ⟨xa, hxa⟩ : ∃ x, out[la]? = some x := ⟨_, List.getElem?_eq_getElem (by omega)⟩
    obtain ⟨out2, hout2⟩ : ∃ o, o = setN out la (Int.ofNat l3) := ⟨_, rfl⟩
    have hs : genOf ⟨kind, name, ty, e, key, fold, n⟩ = out2 := by
      rw [hout2, hout, hl3, hla, hpe]; simp [genOf, k3]
    rw [hs]
    refine Ok.run hmix hA false 2000 (by cbv) ?_
    refine Ok.call (ceach) (by cbv) (by cbv) (by cbv) ?_
    refine Ok.run hmix hA false 2000 (by cbv) ?_
    refine Ok.call (gen_one hE [106, 102] 0) (by cbv) (by cbv) (by cbv) ?_
    refine Ok.run hmix hA false 2000 (by cbv) ?_
    refine Ok.call (gen_one hE [120] 0) (by cbv) (by cbv) (by cbv) ?_
    refine Ok.run hmix hA false 2000 (by cbv) ?_
    refine Ok.call (gen_emits hE 1) (by cbv) (by cbv) (by cbv) ?_
    refine Ok.run hmix hA false 2000 (by cbv) ?_
    refine Ok.call c0 (by cbv) (by cbv) (by cbv) ?_
    refine Ok.run hmix hA false 2000 (by cbv) ?_
    rw [eno, ea, eb]
    refine Ok.op (idx_ref (by cbv) (by cbv) (by cbv) (by rw [E.ins_eq hE, List.length_map, hno]) la rfl (by omega)) ?_
    refine Ok.run hmix hA false 2000 (by cbv) ?_
    refine Ok.op (fld_eptr (by cbv) (by cbv) (by rw [E.ins_eq hE, List.length_map, hno])) ?_
    refine Ok.run hmix hA false 2000 (by cbv) ?_
    refine Ok.op (store_eptr (by cbv) (by cbv) (by rw [E.ins_eq hE, List.length_map, hno]) (E.inn xa) (by rw [E.ins_eq hE]; simp [hxa]) (by cbv) (by decide) (by exact ⟨rfl, by decide, by simp [Enc.inn, PV.cells], rfl⟩) (E .ins out2) (by rw [hout2, setN_pv hE hxa]; rfl)) ?_
    refine Ok.run hmix hA false 2000 (by cbv) ?_
    exact Ok.fin (by cbv) (FS.ref (by cbv) (by rw [E.ins_eq hE, List.length_map, hno, hout2, setN_len]))
  · have e3 : A .eq kind 3 = false := by rw [Ar.eq_eq hA]; exact decide_eq_false k3
    rw [e3]
    refine Ok.condF (by cbv) ?_
    have hs : genOf ⟨kind, name, ty, e, key, fold, n⟩ = joinTo [] [[iX], emitsP 1] := by simp [genOf, k2, k3, k4, k5]
    rw [hs]
    refine Ok.run hmix hA false 2000 (by cbv) ?_
    refine Ok.call (gen_one hE [120] 0) (by cbv) (by cbv) (by cbv) ?_
    refine Ok.run hmix hA false 2000 (by cbv) ?_
    refine Ok.call (gen_emits hE 1) (by cbv) (by cbv) (by cbv) ?_
    refine Ok.run hmix hA false 2000 (by cbv) ?_
    (have c0 := gen_join' hE [[iX], emitsP 1] (by decide) (by decide); simp only [E.inss_eq hE, List.map_cons, List.map_nil] at c0; refine Ok.call c0 (by cbv) (by cbv) (by cbv) ?_)
    refine Ok.run hmix hA false 2000 (by cbv) ?_
    exact Ok.fin (by cbv) (FS.out (by cbv) (PLe.refl _))
theorem gen_Key {E : Enc} (hE : E = .std) (o : Opn) (hwa : wfE o.key) (hsz : sizE o.key ≤ 2 ^ 27) : CallsV Try.prog 23 [E.opn o] (.pv (.view (E .ins (genKey o)))) [] := by
  obtain ⟨kind, name, ty, e, ⟨op, v, k, a⟩, fold, n⟩ := o
  obtain ⟨A, hA⟩ : ∃ A : Ar, A = .std := ⟨_, rfl⟩
  have h1 := genE_le _ (Ex4.mk op v k a) (Nat.le_refl _)
  have c1 := gen_Expr hE _ (Ex4.mk op v k a) (Nat.le_refl _) hwa hsz
  unfold genKey
  simp only [] at h1 hsz ⊢
  generalize genE (Ex4.mk op v k a) = pe at h1 c1
  have cj := gen_join' hE [pe, emitsP 1] (by rw [joinTo_len]; simp [emitsP]; omega) (by simp)
  simp only [E.inss_eq hE, List.map_cons, List.map_nil] at cj
  generalize joinTo [] [pe, emitsP 1] = q at cj
  refine CallsV.ok (fn := Try.f23) (by kernel_rfl) (by kernel_rfl) rfl (by cbv) (by cbv) ?_
  refine Ok.run hmix hA false 2000 (by cbv) ?_
  refine Ok.call (c1) (by cbv) (by cbv) (by cbv) ?_
  refine Ok.run hmix hA false 2000 (by cbv) ?_
  refine Ok.call (gen_emits hE 1) (by cbv) (by cbv) (by cbv) ?_
  refine Ok.run hmix hA false 2000 (by cbv) ?_
  refine Ok.call (cj) (by cbv) (by cbv) (by cbv) ?_
  refine Ok.run hmix hA false 2000 (by cbv) ?_
  exact Ok.fin (by cbv) (FS.out (by cbv) (PLe.refl _))
theorem law4_X {E : Enc} (hE : E = .std) : CallsV Try.prog 27 [] (.pv (E.ex ⟨bX, .zero, 0, []⟩)) [] := by
  obtain ⟨A, hA⟩ : ∃ A : Ar, A = .std := ⟨_, rfl⟩
  have h0 : E .vls [] = [] := by rw [E.vls_eq hE]; rfl
  have h1 : E .exs [] = [] := by rw [E.exs_eq hE]; rfl
  refine CallsV.ok (fn := Try.f27) (by kernel_rfl) (by kernel_rfl) rfl (by cbv) (by cbv) ?_
  refine Ok.run hmix hA false 2000 (by cbv) ?_
  refine Ok.fin (by cbv) (FS.out (by cbv) (PLe.of ?_))
  simp [Enc.ex, Vl.zero, h0, h1, bX]
theorem law4_Op {E : Enc} (hE : E = .std) (op : List UInt8) (a : List Ex4) : CallsV Try.prog 28 [.str op, .view (E .exs a)] (.pv (E.ex ⟨op, .zero, 0, a⟩)) [] := by
  obtain ⟨A, hA⟩ : ∃ A : Ar, A = .std := ⟨_, rfl⟩
  have h0 : E .vls [] = [] := by rw [E.vls_eq hE]; rfl
  refine CallsV.ok (fn := Try.f28) (by kernel_rfl) (by kernel_rfl) rfl (by cbv) (by cbv) ?_
  refine Ok.run hmix hA false 2000 (by cbv) ?_
  refine Ok.fin (by cbv) (FS.out (by cbv) (PLe.of ?_))
  simp [Enc.ex, Vl.zero, h0]
theorem law4_Lit {E : Enc} (hE : E = .std) (v : Vl) : CallsV Try.prog 29 [E.vl v] (.pv (E.ex ⟨bLit, v, 0, []⟩)) [] := by
  obtain ⟨A, hA⟩ : ∃ A : Ar, A = .std := ⟨_, rfl⟩
  have h1 : E .exs [] = [] := by rw [E.exs_eq hE]; rfl
  refine CallsV.ok (fn := Try.f29) (by kernel_rfl) (by kernel_rfl) rfl (by cbv) (by cbv) ?_
  refine Ok.run hmix hA false 2000 (by cbv) ?_
  refine Ok.fin (by cbv) (FS.out (by cbv) (PLe.of ?_))
  simp [Enc.ex, h1, bLit]
end Go.Proofs.Ytnojmocoifodjaa.Pv
set_option maxRecDepth 100000
set_option maxHeartbeats 4000000
set_option linter.unusedVariables false
set_option linter.unusedSimpArgs false
namespace Go.Proofs.Ytnojmocoifodjaa.Pv
open Go Go.Proofs
mutual
def szV : Vl → Nat
  | .mk k i b s t => 1 + szVs t
def szVs : List Vl → Nat
  | [] => 0
  | v :: l => szV v + szVs l
end
theorem szVs_mem : ∀ {l : List Vl} {e : Vl}, e ∈ l → szV e ≤ szVs l
  | [], e, he => by simp at he
  | x :: l, e, he => by
    rw [szVs]
    rcases List.mem_cons.1 he with rfl | he
    · omega
    · have := szVs_mem he; omega
theorem szVs_len : ∀ a : List Vl, a.length ≤ szVs a
  | [] => by simp
  | e :: a => by have := szVs_len a; rw [szVs, List.length_cons]; cases e; rw [szV]; omega
theorem law2_Of {E : Enc} (hE : E = .std) : ∀ (n : Nat) (v : Vl), SizeOf.sizeOf v ≤ n → szV v ≤ 2 ^ 28 → CallsV Try.prog 69 [E.vl v] (.pv (E.vl v)) [] := by
  intro n
  induction n with
  | zero => intro v h; cases v; simp at h
  | succ n ih =>
    rintro ⟨kind, vi, vb, vs, l⟩ hn hsz
    obtain ⟨A, hA⟩ : ∃ A : Ar, A = .std := ⟨_, rfl⟩
    rw [szV] at hsz
    have hlen := szVs_len l
    have hsub : ∀ e, e ∈ l → CallsV Try.prog 69 [E.vl e] (.pv (E.vl e)) [] := fun e he => by
      have h1 := List.sizeOf_lt_of_mem he
      have h2 := szVs_mem he
      simp at hn
      exact ih e (by omega) (by omega)
    have hll : A .lenP (E .vls l) = Int.ofNat l.length := by rw [Ar.lenP_eq hA, E.vls_eq hE, List.length_map]; rfl
    refine CallsV.ok (fn := Try.f69) (by kernel_rfl) (by kernel_rfl) rfl (by cbv) (by cbv) ?_
    refine Ok.run hmix hA false 2000 (by cbv) ?_
    refine Ok.le (Le.nilBox 3 4 30 42 5 (by cbv) (by cbv) (by cbv) (by decide)) ?_
    refine Ok.loopAt [1, 2, 3, 4] [1, 2, 3, 30] (fun m s h => ∃ (k q : Nat) (es : List PV), m = l.length - k ∧ k ≤ l.length ∧ q = k ∧ es = E .vls (l.take k) ∧
      s = mkS 33 [(1, .ptr 1 0), (2, .ptr 2 0), (3, .ptr 3 0), (4, .pv (.int .i64 (Int.ofNat k)))] ∧
      h = [(1, .box [.pv (.int .i64 kind), .pv (.int .i64 vi), .pv (.bool vb), .pv (.str vs), .pv (.view (E .vls l))] true), (2, .box [.pv (.int .i64 0), .pv (.int .i64 0), .pv (.bool false), .pv (.str []), .pv .nil] true),
        (3, .box [.pv (.int .i64 kind), .pv (.int .i64 vi), .pv (.bool vb), .pv (.str vs), .ref 30 q] true), (30, .row 42 5 es true)]) (l.length - 0) (by cbv) ⟨0, 0, [], rfl, Nat.zero_le _, rfl, by rw [E.vls_eq hE]; rfl, by cbv, by cbv⟩ ?_
    rintro m s h ⟨k, q, es, rfl, hk, hq, hes, rfl, rfl⟩
    have hesl : q = es.length := by rw [hes, E.vls_eq hE, List.length_map, List.length_take]; omega
    refine Ok.run hmix hA false 2000 (by cbv) ?_
    refine Ok.cond (by cbv) ?_ ?_
    · intro h1
      rw [Ar.lt_eq hA, hll, decide_eq_true_eq] at h1
      have hkl : k < l.length := by simpa using h1
      have hx : l[k]? = some l[k] := List.getElem?_eq_getElem hkl
      have hm : l[k] ∈ l := List.getElem_mem hkl
      have htake : l.take (k + 1) = l.take k ++ [l[k]] := by rw [List.take_add_one, hx]; rfl
      generalize l[k] = e at hx hm htake
      have hge := hsub e hm
      refine Ok.run hmix hA false 2000 (by cbv) ?_
      refine Ok.dop (idx_view (E.vl e) (by cbv) (by cbv) (by simp) (by rw [E.vls_eq hE]; simp [hx]) rfl) ?_
      refine Ok.run hmix hA false 2000 (by cbv) ?_
      refine Ok.dcall (hge) (by cbv) (by cbv) (by cbv) ?_
      refine Ok.run hmix hA false 2000 (by cbv) ?_
      obtain ⟨es3, hes3⟩ : ∃ es3, es3 = es ++ [E.vl e] := ⟨_, rfl⟩
      obtain ⟨n3, hn3⟩ : ∃ n3, n3 = q + 1 := ⟨_, rfl⟩
      refine Ok.dop (app_ref (by cbv) (by cbv) hesl (by cbv) (by cbv) (by decide) (by simp only [List.length_singleton]; omega) (by unfold maxLen; simp only [List.length_singleton]; omega) n3 (by exact hn3) es3 (by rw [hes3]; rfl)) ?_
      refine Ok.run hmix hA false 2000 (by cbv) ?_
      refine Ok.drawn (by kernel_rfl) ?_
      refine Ok.run hmix hA false 2000 (by cbv) ?_
      refine Ok.back (l.length - (k + 1)) [1, 2, 3, 4] [1, 2, 3, 30] (by omega) (by cbv) ⟨k + 1, n3, es3, rfl, by omega, by omega, by rw [hes3, hes, htake, E.vls_eq hE, E.vls_eq hE]; simp, ?_, by cbv⟩
      rw [Ar.succ_eq hA (by omega)]; cbv
    · intro h1
      have hke : k = l.length := by
        rw [Ar.lt_eq hA, hll, decide_eq_false_iff_not] at h1
        simp at h1; omega
      subst hke
      rw [List.take_length] at hes
      subst hes
      refine Ok.run hmix hA false 2000 (by cbv) ?_
      refine Ok.leave ?_
      refine Ok.run hmix hA false 2000 (by cbv) ?_
      exact Ok.fin (by cbv) (FS.out (p := E.vl ⟨kind, vi, vb, vs, l⟩) (ids := [30]) (by simp [frz2, frz1, frzL, frz0, PV.rlx, rowOf, hget, ← hesl, Enc.vl]) (PLe.refl _))
end Go.Proofs.Ytnojmocoifodjaa.Pv
set_option maxRecDepth 100000
set_option maxHeartbeats 4000000
set_option linter.unusedVariables false
set_option linter.unusedSimpArgs false
namespace Go.Proofs.Ytnojmocoifodjaa.Pv
open Go Go.Proofs
def lessZ (b : Bool) : Int := if b then -1 else 1
mutual
def cmpV : Vl → Vl → Int
  | .mk k i b s t, .mk k' i' b' s' t' =>
    if ¬ k = k' then lessZ (decide (k < k'))
    else if ¬ i = i' then lessZ (decide (i < i'))
    else if ¬ b = b' then lessZ b'
    else if ¬ s = s' then lessZ (Op.bytesLess s s')
    else cmpVs t t'
def cmpVs : List Vl → List Vl → Int
  | [], [] => 0
  | [], _ :: _ => -1
  | _ :: _, [] => 1
  | x :: l, y :: m => if ¬ cmpV x y = 0 then cmpV x y else cmpVs l m
end
mutual
theorem cmpV_refl : ∀ v, cmpV v v = 0
  | .mk k i b s t => by simp [cmpV, cmpVs_refl t]
theorem cmpVs_refl : ∀ l, cmpVs l l = 0
  | [] => rfl
  | x :: l => by simp [cmpVs, cmpV_refl x, cmpVs_refl l]
end
theorem ref6_less (b : Bool) : CallsV Try.prog 160 [.bool b] (.pv (.int .i64 (lessZ b))) [] := by
  obtain ⟨A, hA⟩ : ∃ A : Ar, A = .std := ⟨_, rfl⟩
  refine CallsV.ok (fn := Try.f160) (by kernel_rfl) (by kernel_rfl) rfl (by cbv) (by cbv) ?_
  cases b
  · refine Ok.run hmix hA false 2000 (by cbv) ?_
    refine Ok.condF (by cbv) ?_
    refine Ok.run hmix hA false 2000 (by cbv) ?_
    exact Ok.fin (by cbv) (FS.out (by cbv) (PLe.refl _))
  · refine Ok.run hmix hA false 2000 (by cbv) ?_
    refine Ok.condT (by cbv) ?_
    refine Ok.run hmix hA false 2000 (by cbv) ?_
    have h1 : A .sub .i64 0 1 = -1 := by rw [Ar.sub_eq hA]; decide
    try rw [h1]
    exact Ok.fin (by cbv) (FS.out (by cbv) (PLe.refl _))
theorem ref6_Compare {E : Enc} (hE : E = .std) : ∀ (n : Nat) (v w : Vl), SizeOf.sizeOf v ≤ n → szV v ≤ 2 ^ 28 → szV w ≤ 2 ^ 28 → CallsV Try.prog 141 [E.vl v, E.vl w] (.pv (.int .i64 (cmpV v w))) [] := by
  intro n
  induction n with
  | zero => intro v w h; cases v; simp at h
  | succ n ih =>
    rintro ⟨k1, i1, b1, s1, l⟩ ⟨k2, i2, b2, s2, m⟩ hn hsz hsw
    obtain ⟨A, hA⟩ : ∃ A : Ar, A = .std := ⟨_, rfl⟩
    rw [szV] at hsz hsw
    have hlen := szVs_len l
    have hlem := szVs_len m
    have hll : A .lenP (E .vls l) = Int.ofNat l.length := by rw [Ar.lenP_eq hA, E.vls_eq hE, List.length_map]; rfl
    have hlm : A .lenP (E .vls m) = Int.ofNat m.length := by rw [Ar.lenP_eq hA, E.vls_eq hE, List.length_map]; rfl
    refine CallsV.ok (fn := Try.f141) (by kernel_rfl) (by kernel_rfl) rfl (by cbv) (by cbv) ?_
    refine Ok.run hmix hA false 2000 (by cbv) ?_
    refine Ok.cond (by cbv) ?_ ?_
    · intro h1
      have h1 : ¬ k1 = k2 := by rw [Ar.not_eq hA, Ar.eq_eq hA] at h1; simpa using h1
      rw [cmpV, if_pos h1]
      refine Ok.run hmix hA false 2000 (by cbv) ?_
      rw [Ar.lt_eq hA]
      obtain ⟨b, hb⟩ : ∃ b, b = decide (k1 < k2) := ⟨_, rfl⟩
      rw [← hb]
      refine Ok.call (ref6_less b) (by cbv) (by cbv) (by cbv) ?_
      refine Ok.run hmix hA false 2000 (by cbv) ?_
      exact Ok.fin (by cbv) (FS.out (by cbv) (PLe.refl _))
    intro h1
    have h1 : k1 = k2 := by rw [Ar.not_eq hA, Ar.eq_eq hA] at h1; simpa using h1
    refine Ok.run hmix hA false 2000 (by cbv) ?_
    refine Ok.cond (by cbv) ?_ ?_
    · intro h2
      have h2 : ¬ i1 = i2 := by rw [Ar.not_eq hA, Ar.eq_eq hA] at h2; simpa using h2
      rw [cmpV, if_neg (by simpa using h1), if_pos h2]
      refine Ok.run hmix hA false 2000 (by cbv) ?_
      rw [Ar.lt_eq hA]
      obtain ⟨b, hb⟩ : ∃ b, b = decide (i1 < i2) := ⟨_, rfl⟩
      rw [← hb]
      refine Ok.call (ref6_less b) (by cbv) (by cbv) (by cbv) ?_
      refine Ok.run hmix hA false 2000 (by cbv) ?_
      exact Ok.fin (by cbv) (FS.out (by cbv) (PLe.refl _))
    intro h2
    have h2 : i1 = i2 := by rw [Ar.not_eq hA, Ar.eq_eq hA] at h2; simpa using h2
    refine Ok.run hmix hA false 2000 (by cbv) ?_
    refine Ok.cond (by cbv) ?_ ?_
    · intro h3
      have h3 : ¬ b1 = b2 := by rw [Ar.not_eq hA, Ar.beq_eq hA] at h3; simpa using h3
      rw [cmpV, if_neg (by simpa using h1), if_neg (by simpa using h2), if_pos h3]
      refine Ok.run hmix hA false 2000 (by cbv) ?_
      refine Ok.call (ref6_less b2) (by cbv) (by cbv) (by cbv) ?_
      refine Ok.run hmix hA false 2000 (by cbv) ?_
      exact Ok.fin (by cbv) (FS.out (by cbv) (PLe.refl _))
    intro h3
    have h3 : b1 = b2 := by rw [Ar.not_eq hA, Ar.beq_eq hA] at h3; simpa using h3
    refine Ok.run hmix hA false 2000 (by cbv) ?_
    refine Ok.cond (by cbv) ?_ ?_
    · intro h4
      have h4 : ¬ s1 = s2 := by rw [Ar.not_eq hA, Ar.seq_eq hA] at h4; simpa using h4
      rw [cmpV, if_neg (by simpa using h1), if_neg (by simpa using h2), if_neg (by simpa using h3), if_pos h4]
      refine Ok.run hmix hA false 2000 (by cbv) ?_
      rw [Ar.slt_eq hA]
      obtain ⟨b, hb⟩ : ∃ b, b = Op.bytesLess s1 s2 := ⟨_, rfl⟩
      rw [← hb]
      refine Ok.call (ref6_less b) (by cbv) (by cbv) (by cbv) ?_
      refine Ok.run hmix hA false 2000 (by cbv) ?_
      exact Ok.fin (by cbv) (FS.out (by cbv) (PLe.refl _))
    intro h4
    have h4 : s1 = s2 := by rw [Ar.not_eq hA, Ar.seq_eq hA] at h4; simpa using h4
    rw [cmpV, if_neg (by simpa using h1), if_neg (by simpa using h2), if_neg (by simpa using h3), if_neg (by simpa using h4)]
    refine Ok.run hmix hA false 2000 (by cbv) ?_
    refine Ok.loopAt [2, 3, 5] [2, 3] (fun mm s h => ∃ (k : Nat), mm = l.length - k ∧ k ≤ l.length ∧ k ≤ m.length ∧ cmpVs (l.drop k) (m.drop k) = cmpVs l m ∧
      s = mkS 95 [(2, .ptr 2 0), (3, .ptr 3 0), (5, .pv (.int .i64 (Int.ofNat k)))] ∧
      h = [(2, .box [.pv (.int .i64 k1), .pv (.int .i64 i1), .pv (.bool b1), .pv (.str s1), .pv (.view (E .vls l))] true), (3, .box [.pv (.int .i64 k2), .pv (.int .i64 i2), .pv (.bool b2), .pv (.str s2), .pv (.view (E .vls m))] true)]) (l.length - 0) (by cbv) ⟨0, rfl, Nat.zero_le _, Nat.zero_le _, rfl, by cbv, by cbv⟩ ?_
    rintro mm s h ⟨k, rfl, hk, hkm, hcmp, rfl, rfl⟩
    have stop : ∀ (b : Bool), b = false → (b = decide (k < l.length ∧ k < m.length)) → (¬ (k < l.length ∧ k < m.length)) := fun b h1 h2 => by rw [h1] at h2; simpa using h2
    refine Ok.run hmix hA false 2000 (by cbv) ?_
    by_cases hkl : k < l.length
    · have e1 : A .lt (Int.ofNat k) (A .lenP (E .vls l)) = true := by rw [Ar.lt_eq hA, hll]; simpa using hkl
      rw [e1]
      by_cases hkm2 : k < m.length
      · have e2 : A .lt (Int.ofNat k) (A .lenP (E .vls m)) = true := by rw [Ar.lt_eq hA, hlm]; simpa using hkm2
        refine Ok.run hmix hA true 5 (by cbv) ?_
        rw [e2]
        refine Ok.run hmix hA true 2000 (by cbv) ?_
        refine Ok.condT (by cbv) ?_
        have hx : l[k]? = some l[k] := List.getElem?_eq_getElem hkl
        have hm : l[k] ∈ l := List.getElem_mem hkl
        have hdl : l.drop k = l[k] :: l.drop (k + 1) := List.drop_eq_getElem_cons hkl
        have hy : m[k]? = some m[k] := List.getElem?_eq_getElem hkm2
        have hmm : m[k] ∈ m := List.getElem_mem hkm2
        have hdm : m.drop k = m[k] :: m.drop (k + 1) := List.drop_eq_getElem_cons hkm2
        generalize l[k] = x at hx hm hdl
        generalize m[k] = y at hy hmm hdm
        have cxy : CallsV Try.prog 141 [E.vl x, E.vl y] (.pv (.int .i64 (cmpV x y))) [] := by
          have h1 := List.sizeOf_lt_of_mem hm
          have h2 := szVs_mem hm
          have h3 := szVs_mem hmm
          simp at hn
          exact ih x y (by omega) (by omega) (by omega)
        rw [hdl, hdm, cmpVs] at hcmp
        obtain ⟨c, hc⟩ : ∃ c, c = cmpV x y := ⟨_, rfl⟩
        rw [← hc] at cxy hcmp
        refine Ok.run hmix hA false 2000 (by cbv) ?_
        refine Ok.dop (idx_view (E.vl x) (by cbv) (by cbv) (by simp) (by rw [E.vls_eq hE]; simp [hx]) rfl) ?_
        refine Ok.run hmix hA false 2000 (by cbv) ?_
        refine Ok.dop (idx_view (E.vl y) (by cbv) (by cbv) (by simp) (by rw [E.vls_eq hE]; simp [hy]) rfl) ?_
        refine Ok.run hmix hA false 2000 (by cbv) ?_
        refine Ok.dcall (cxy) (by cbv) (by cbv) (by cbv) ?_
        refine Ok.run hmix hA false 2000 (by cbv) ?_
        refine Ok.drawn (by kernel_rfl) ?_
        refine Ok.run hmix hA false 2000 (by cbv) ?_
        refine Ok.cond (by cbv) ?_ ?_
        · intro h5
          have h5 : ¬ c = 0 := by rw [Ar.not_eq hA, Ar.eq_eq hA] at h5; simpa using h5
          rw [if_pos h5] at hcmp
          rw [← hcmp]
          refine Ok.run hmix hA false 2000 (by cbv) ?_
          refine Ok.leaveRet ?_
          refine Ok.run hmix hA false 2000 (by cbv) ?_
          exact Ok.fin (by cbv) (FS.out (by cbv) (PLe.refl _))
        · intro h5
          have h5 : c = 0 := by rw [Ar.not_eq hA, Ar.eq_eq hA] at h5; simpa using h5
          rw [if_neg (by simpa using h5)] at hcmp
          refine Ok.run hmix hA false 2000 (by cbv) ?_
          refine Ok.back (l.length - (k + 1)) [2, 3, 5] [2, 3] (by omega) (by cbv) ⟨k + 1, rfl, by omega, by omega, hcmp, ?_, by cbv⟩
          rw [Ar.succ_eq hA (by omega)]; cbv
      · have e2 : A .lt (Int.ofNat k) (A .lenP (E .vls m)) = false := by rw [Ar.lt_eq hA, hlm]; simpa using hkm2
        have hke : k = m.length := by omega
        refine Ok.run hmix hA true 5 (by cbv) ?_
        rw [e2]
        refine Ok.run hmix hA true 2000 (by cbv) ?_
        refine Ok.condF (by cbv) ?_
        refine Ok.run hmix hA false 2000 (by cbv) ?_
        refine Ok.leave ?_
        refine Ok.run hmix hA false 2000 (by cbv) ?_
        have e3 : A .not (A .eq (A .lenP (E .vls l)) (A .lenP (E .vls m))) = true := by rw [hll, hlm, Ar.not_eq hA, Ar.eq_eq hA]; simp; omega
        have e4 : A .lt (A .lenP (E .vls l)) (A .lenP (E .vls m)) = false := by rw [hll, hlm, Ar.lt_eq hA]; simp; omega
        rw [e3]
        refine Ok.condT (by cbv) ?_
        refine Ok.run hmix hA false 2000 (by cbv) ?_
        rw [e4]
        refine Ok.call (ref6_less false) (by cbv) (by cbv) (by cbv) ?_
        refine Ok.run hmix hA false 2000 (by cbv) ?_
        have : cmpVs l m = 1 := by
          rw [← hcmp, hke, List.drop_length]
          have : l.drop m.length ≠ [] := by simp; omega
          cases h : l.drop m.length with
          | nil => exact absurd h this
          | cons a t => rfl
        rw [this]
        exact Ok.fin (by cbv) (FS.out (by cbv) (PLe.refl _))
    · have e1 : A .lt (Int.ofNat k) (A .lenP (E .vls l)) = false := by rw [Ar.lt_eq hA, hll]; simpa using hkl
      have hke : k = l.length := by omega
      rw [e1]
      refine Ok.run hmix hA true 2000 (by cbv) ?_
      refine Ok.condF (by cbv) ?_
      refine Ok.run hmix hA false 2000 (by cbv) ?_
      refine Ok.leave ?_
      refine Ok.run hmix hA false 2000 (by cbv) ?_
      by_cases hlm2 : l.length = m.length
      · have e3 : A .not (A .eq (A .lenP (E .vls l)) (A .lenP (E .vls m))) = false := by rw [hll, hlm, Ar.not_eq hA, Ar.eq_eq hA]; simp; omega
        rw [e3]
        refine Ok.condF (by cbv) ?_
        refine Ok.run hmix hA false 2000 (by cbv) ?_
        have : cmpVs l m = 0 := by rw [← hcmp, hke, List.drop_length, hlm2, List.drop_length]; rfl
        rw [this]
        exact Ok.fin (by cbv) (FS.out (by cbv) (PLe.refl _))
      · have e3 : A .not (A .eq (A .lenP (E .vls l)) (A .lenP (E .vls m))) = true := by rw [hll, hlm, Ar.not_eq hA, Ar.eq_eq hA]; simp; omega
        have e4 : A .lt (A .lenP (E .vls l)) (A .lenP (E .vls m)) = true := by rw [hll, hlm, Ar.lt_eq hA]; simp; omega
        rw [e3]
        refine Ok.condT (by cbv) ?_
        refine Ok.run hmix hA false 2000 (by cbv) ?_
        rw [e4]
        refine Ok.call (ref6_less true) (by cbv) (by cbv) (by cbv) ?_
        refine Ok.run hmix hA false 2000 (by cbv) ?_
        have : cmpVs l m = -1 := by
          rw [← hcmp, hke, List.drop_length]
          have : m.drop l.length ≠ [] := by simp; omega
          cases h : m.drop l.length with
          | nil => exact absurd h this
          | cons a t => rfl
        rw [this]
        exact Ok.fin (by cbv) (FS.out (by cbv) (PLe.refl _))
end Go.Proofs.Ytnojmocoifodjaa.Pv
set_option maxRecDepth 100000
set_option maxHeartbeats 4000000
set_option linter.unusedVariables false
set_option linter.unusedSimpArgs false
namespace Go.Proofs.Ytnojmocoifodjaa.Pv
open Go Go.Proofs
def cmpI (x y : Int) : Int := if x < y then -1 else if y < x then 1 else 0
theorem cmp_isNaN (x : Int) : CallsV Try.prog 189 [.int .i64 x] (.pv (.bool false)) [] := by
  obtain ⟨A, hA⟩ : ∃ A : Ar, A = .std := ⟨_, rfl⟩
  refine CallsV.ok (fn := Try.f189) (by kernel_rfl) (by kernel_rfl) rfl (by cbv) (by cbv) ?_
  repeat' (first | (apply Ok.run1 hmix hA false 2000; focus (cbv; done)) | (apply Ok.one hmix hA; focus (cbv; done)) | (rw [Ar.notT hA]) | (rw [Ar.notF hA]) | (refine Ok.condT ?_ ?_; focus (cbv; done)) | (refine Ok.condF ?_ ?_; focus (cbv; done)) | (refine Ok.drawnE (by as_aux_lemma => kernel_rfl) ?_) | (apply Ok.cond; (focus (cbv; done)); all_goals (intro hh; (try rw [hh]))) | (apply Ok.splitG; (focus (cbv; done)); all_goals (intro hh; (try rw [hh]))) | (apply Ok.splitP; (focus (cbv; done)); all_goals (intro hh; (try rw [hh]))) | (apply Ok.fin1; (focus (cbv; done)); (focus (cbv; done))) | (apply Ok.fin2; (focus (cbv; done)); (focus (cbv; done))) | (apply Ok.fin3; (focus (cbv; done)); (focus (cbv; done))))
  all_goals (subst hA; simp_all [Ar.std])
theorem cmp_isNaN64 (x : Int) : CallsV Try.prog 190 [.int .i64 x] (.pv (.bool false)) [] := by
  obtain ⟨A, hA⟩ : ∃ A : Ar, A = .std := ⟨_, rfl⟩
  refine CallsV.ok (fn := Try.f190) (by kernel_rfl) (by kernel_rfl) rfl (by cbv) (by cbv) ?_
  repeat' (first | (apply Ok.run1 hmix hA false 2000; focus (cbv; done)) | (apply Ok.one hmix hA; focus (cbv; done)) | (rw [Ar.notT hA]) | (rw [Ar.notF hA]) | (refine Ok.condT ?_ ?_; focus (cbv; done)) | (refine Ok.condF ?_ ?_; focus (cbv; done)) | (refine Ok.drawnE (by as_aux_lemma => kernel_rfl) ?_) | (apply Ok.cond; (focus (cbv; done)); all_goals (intro hh; (try rw [hh]))) | (apply Ok.splitG; (focus (cbv; done)); all_goals (intro hh; (try rw [hh]))) | (apply Ok.splitP; (focus (cbv; done)); all_goals (intro hh; (try rw [hh]))) | (apply Ok.fin1; (focus (cbv; done)); (focus (cbv; done))) | (apply Ok.fin2; (focus (cbv; done)); (focus (cbv; done))) | (apply Ok.fin3; (focus (cbv; done)); (focus (cbv; done))))
  all_goals (subst hA; simp_all [Ar.std])
theorem cmp_Compare (x y : Int) : CallsV Try.prog 183 [.int .i64 x, .int .i64 y] (.pv (.int .i64 (cmpI x y))) [] := by
  obtain ⟨A, hA⟩ : ∃ A : Ar, A = .std := ⟨_, rfl⟩
  refine CallsV.ok (fn := Try.f183) (by kernel_rfl) (by kernel_rfl) rfl (by cbv) (by cbv) ?_
  repeat' (first | (apply Ok.run1 hmix hA false 2000; focus (cbv; done)) | (apply Ok.one hmix hA; focus (cbv; done)) | (rw [Ar.notT hA]) | (rw [Ar.notF hA]) | (refine Ok.condT ?_ ?_; focus (cbv; done)) | (refine Ok.condF ?_ ?_; focus (cbv; done)) | (refine Ok.drawnE (by as_aux_lemma => kernel_rfl) ?_) | (apply Ok.call (cmp_isNaN _); (focus (cbv; done)); (focus (cbv; done)); (focus (cbv; done))) | (apply Ok.dcall (cmp_isNaN _); (focus (cbv; done)); (focus (cbv; done)); (focus (cbv; done))) | (apply Ok.cond; (focus (cbv; done)); all_goals (intro hh; (try rw [hh]))) | (apply Ok.splitG; (focus (cbv; done)); all_goals (intro hh; (try rw [hh]))) | (apply Ok.splitP; (focus (cbv; done)); all_goals (intro hh; (try rw [hh]))) | (apply Ok.fin1; (focus (cbv; done)); (focus (cbv; done))) | (apply Ok.fin2; (focus (cbv; done)); (focus (cbv; done))) | (apply Ok.fin3; (focus (cbv; done)); (focus (cbv; done))))
  all_goals (subst hA; simp_all [Ar.std, cmpI])
  all_goals (repeat' split <;> omega)
theorem cmp_Compare64 (x y : Int) : CallsV Try.prog 184 [.int .i64 x, .int .i64 y] (.pv (.int .i64 (cmpI x y))) [] := by
  obtain ⟨A, hA⟩ : ∃ A : Ar, A = .std := ⟨_, rfl⟩
  refine CallsV.ok (fn := Try.f184) (by kernel_rfl) (by kernel_rfl) rfl (by cbv) (by cbv) ?_
  repeat' (first | (apply Ok.run1 hmix hA false 2000; focus (cbv; done)) | (apply Ok.one hmix hA; focus (cbv; done)) | (rw [Ar.notT hA]) | (rw [Ar.notF hA]) | (refine Ok.condT ?_ ?_; focus (cbv; done)) | (refine Ok.condF ?_ ?_; focus (cbv; done)) | (refine Ok.drawnE (by as_aux_lemma => kernel_rfl) ?_) | (apply Ok.call (cmp_isNaN64 _); (focus (cbv; done)); (focus (cbv; done)); (focus (cbv; done))) | (apply Ok.dcall (cmp_isNaN64 _); (focus (cbv; done)); (focus (cbv; done)); (focus (cbv; done))) | (apply Ok.cond; (focus (cbv; done)); all_goals (intro hh; (try rw [hh]))) | (apply Ok.splitG; (focus (cbv; done)); all_goals (intro hh; (try rw [hh]))) | (apply Ok.splitP; (focus (cbv; done)); all_goals (intro hh; (try rw [hh]))) | (apply Ok.fin1; (focus (cbv; done)); (focus (cbv; done))) | (apply Ok.fin2; (focus (cbv; done)); (focus (cbv; done))) | (apply Ok.fin3; (focus (cbv; done)); (focus (cbv; done))))
  all_goals (subst hA; simp_all [Ar.std, cmpI])
  all_goals (repeat' split <;> omega)
theorem val_truth (b : Bool) : CallsV Try.prog 185 [.bool b] (.pv (.int .i64 (if b then 1 else 0))) [] := by
  obtain ⟨A, hA⟩ : ∃ A : Ar, A = .std := ⟨_, rfl⟩
  refine CallsV.ok (fn := Try.f185) (by kernel_rfl) (by kernel_rfl) rfl (by cbv) (by cbv) ?_
  repeat' (first | (apply Ok.run1 hmix hA false 2000; focus (cbv; done)) | (apply Ok.one hmix hA; focus (cbv; done)) | (rw [Ar.notT hA]) | (rw [Ar.notF hA]) | (refine Ok.condT ?_ ?_; focus (cbv; done)) | (refine Ok.condF ?_ ?_; focus (cbv; done)) | (refine Ok.drawnE (by as_aux_lemma => kernel_rfl) ?_) | (apply Ok.cond; (focus (cbv; done)); all_goals (intro hh; (try rw [hh]))) | (apply Ok.splitG; (focus (cbv; done)); all_goals (intro hh; (try rw [hh]))) | (apply Ok.splitP; (focus (cbv; done)); all_goals (intro hh; (try rw [hh]))) | (apply Ok.fin1; (focus (cbv; done)); (focus (cbv; done))) | (apply Ok.fin2; (focus (cbv; done)); (focus (cbv; done))) | (apply Ok.fin3; (focus (cbv; done)); (focus (cbv; done))))
  all_goals (subst hA; simp_all [Ar.std])
def cmpOr : List Int → Int
  | [] => 0
  | x :: l => if x ≠ 0 then x else cmpOr l
theorem cmp_Or (l : List Int) (es : List PV) (hes : es = l.map fun x => .int .i64 x) (hl : l.length ≤ 2 ^ 30) : CallsV Try.prog 182 [.view es] (.pv (.int .i64 (cmpOr l))) [] := by
  obtain ⟨A, hA⟩ : ∃ A : Ar, A = .std := ⟨_, rfl⟩
  obtain ⟨n, hn⟩ : ∃ n, n = l.length := ⟨_, rfl⟩
  have hll : A .lenP es = Int.ofNat n := by rw [Ar.lenP_eq hA, hes, List.length_map, hn]; rfl
  refine CallsV.ok (fn := Try.f182) (by kernel_rfl) (by kernel_rfl) rfl (by cbv) (by cbv) ?_
  repeat (first | (apply Ok.run1 hmix hA false 2000; focus (cbv; done)) | (apply Ok.one hmix hA; focus (cbv; done)) | (rw [Ar.notT hA]) | (rw [Ar.notF hA]) | (refine Ok.condT ?_ ?_; focus (cbv; done)) | (refine Ok.condF ?_ ?_; focus (cbv; done)) | (refine Ok.drawnE (by as_aux_lemma => kernel_rfl) ?_))
  rw [hll]
  refine Ok.loopAt [3, 6, 7, 8] [] (fun m s h => ∃ k, m = n - k ∧ k ≤ n ∧ cmpOr (l.drop k) = cmpOr l ∧ s = mkS 18 [(3, .pv (.int .i64 0)), (6, .pv (.view es)), (7, .pv (.int .i64 (Int.ofNat n))), (8, .pv (.int .i64 (Int.ofNat k)))] ∧ h = []) (n - 0) (by cbv) ⟨0, rfl, Nat.zero_le _, rfl, by cbv, by cbv⟩ ?_
  rintro m s h ⟨k, rfl, hk, hc, rfl, rfl⟩
  refine Ok.run hmix hA false 2000 (by cbv) ?_
  rw [ofNat_lt hA]
  by_cases hkl : k < n
  · rw [decide_eq_true hkl]
    repeat (first | (apply Ok.run1 hmix hA false 2000; focus (cbv; done)) | (apply Ok.one hmix hA; focus (cbv; done)) | (rw [Ar.notT hA]) | (rw [Ar.notF hA]) | (refine Ok.condT ?_ ?_; focus (cbv; done)) | (refine Ok.condF ?_ ?_; focus (cbv; done)) | (refine Ok.drawnE (by as_aux_lemma => kernel_rfl) ?_))
    have hx : l[k]? = some (l[k]'(by omega)) := List.getElem?_eq_getElem (by omega)
    have hdl : l.drop k = l[k]'(by omega) :: l.drop (k + 1) := List.drop_eq_getElem_cons (by omega)
    generalize l[k]'(by omega) = x at hx hdl
    rw [hdl, cmpOr] at hc
    refine Ok.op (idx_view (.int .i64 x) (by cbv) (by cbv) (by simp) (by rw [hes]; simp [hx]) rfl) ?_
    refine Ok.run hmix hA false 2000 (by cbv) ?_
    rw [Ar.eq_eq hA, Ar.not_eq hA]
    by_cases h0 : x = 0
    · rw [if_neg (by simpa using h0)] at hc
      rw [decide_eq_true h0]
      repeat (first | (apply Ok.run1 hmix hA false 2000; focus (cbv; done)) | (apply Ok.one hmix hA; focus (cbv; done)) | (rw [Ar.notT hA]) | (rw [Ar.notF hA]) | (refine Ok.condT ?_ ?_; focus (cbv; done)) | (refine Ok.condF ?_ ?_; focus (cbv; done)) | (refine Ok.drawnE (by as_aux_lemma => kernel_rfl) ?_))
      rw [Ar.succ_eq hA (by omega)]
      exact Ok.back (n - (k + 1)) [3, 6, 7, 8] [] (by omega) (by cbv) ⟨k + 1, rfl, by omega, hc, by cbv, by cbv⟩
    · rw [if_pos h0] at hc
      rw [decide_eq_false h0, ← hc]
      repeat (first | (apply Ok.run1 hmix hA false 2000; focus (cbv; done)) | (apply Ok.one hmix hA; focus (cbv; done)) | (rw [Ar.notT hA]) | (rw [Ar.notF hA]) | (refine Ok.condT ?_ ?_; focus (cbv; done)) | (refine Ok.condF ?_ ?_; focus (cbv; done)) | (refine Ok.drawnE (by as_aux_lemma => kernel_rfl) ?_))
      refine Ok.leaveRet ?_
      repeat (first | (apply Ok.run1 hmix hA false 2000; focus (cbv; done)) | (apply Ok.one hmix hA; focus (cbv; done)) | (rw [Ar.notT hA]) | (rw [Ar.notF hA]) | (refine Ok.condT ?_ ?_; focus (cbv; done)) | (refine Ok.condF ?_ ?_; focus (cbv; done)) | (refine Ok.drawnE (by as_aux_lemma => kernel_rfl) ?_))
      exact Ok.fin (by cbv) (FS.out (by cbv) (PLe.refl _))
  · rw [decide_eq_false hkl]
    have hke : k = l.length := by omega
    rw [hke, List.drop_length] at hc
    have hke : k = n := by omega
    subst hke
    repeat (first | (apply Ok.run1 hmix hA false 2000; focus (cbv; done)) | (apply Ok.one hmix hA; focus (cbv; done)) | (rw [Ar.notT hA]) | (rw [Ar.notF hA]) | (refine Ok.condT ?_ ?_; focus (cbv; done)) | (refine Ok.condF ?_ ?_; focus (cbv; done)) | (refine Ok.drawnE (by as_aux_lemma => kernel_rfl) ?_))
    refine Ok.leave ?_
    repeat (first | (apply Ok.run1 hmix hA false 2000; focus (cbv; done)) | (apply Ok.one hmix hA; focus (cbv; done)) | (rw [Ar.notT hA]) | (rw [Ar.notF hA]) | (refine Ok.condT ?_ ?_; focus (cbv; done)) | (refine Ok.condF ?_ ?_; focus (cbv; done)) | (refine Ok.drawnE (by as_aux_lemma => kernel_rfl) ?_))
    rw [← hc]
    exact Ok.fin (by cbv) (FS.out (by cbv) (PLe.refl _))
theorem slices_CompareFunc {E : Enc} (hE : E = .std) (f : Nat) (l m : List Vl) (hf : ∀ x y, x ∈ l → y ∈ m → CallsV Try.prog f [E.vl x, E.vl y] (.pv (.int .i64 (cmpV x y))) []) (hl : l.length ≤ 2 ^ 60) (hm : m.length ≤ 2 ^ 60) :
    CallsV Try.prog 192 [.view (E .vls l), .view (E .vls m), .func f []] (.pv (.int .i64 (cmpVs l m))) [] := by
  obtain ⟨A, hA⟩ : ∃ A : Ar, A = .std := ⟨_, rfl⟩
  obtain ⟨n, hn⟩ : ∃ n, n = l.length := ⟨_, rfl⟩
  obtain ⟨n', hn'⟩ : ∃ n, n = m.length := ⟨_, rfl⟩
  have hll : A .lenP (E .vls l) = Int.ofNat n := by rw [Ar.lenP_eq hA, E.vls_eq hE, List.length_map, hn]; rfl
  have hlm : A .lenP (E .vls m) = Int.ofNat n' := by rw [Ar.lenP_eq hA, E.vls_eq hE, List.length_map, hn']; rfl
  refine CallsV.ok (fn := Try.f192) (by kernel_rfl) (by kernel_rfl) rfl (by cbv) (by cbv) ?_
  repeat (first | (apply Ok.run1 hmix hA false 2000; focus (cbv; done)) | (apply Ok.one hmix hA; focus (cbv; done)) | (rw [Ar.notT hA]) | (rw [Ar.notF hA]) | (refine Ok.condT ?_ ?_; focus (cbv; done)) | (refine Ok.condF ?_ ?_; focus (cbv; done)) | (refine Ok.drawnE (by as_aux_lemma => kernel_rfl) ?_))
  rw [hll]
  refine Ok.loopAt [0, 1, 2, 11, 12, 13] [] (fun mm s h => ∃ k, mm = n - k ∧ k ≤ n ∧ k ≤ n' ∧ cmpVs (l.drop k) (m.drop k) = cmpVs l m ∧ s = mkS 39 [(0, .pv (.view (E .vls l))), (1, .pv (.view (E .vls m))), (2, .pv (.func f [])), (11, .pv (.view (E .vls l))), (12, .pv (.int .i64 (Int.ofNat n))), (13, .pv (.int .i64 (Int.ofNat k)))] ∧ h = []) (n - 0) (by cbv) ⟨0, rfl, Nat.zero_le _, Nat.zero_le _, rfl, by cbv, by cbv⟩ ?_
  rintro mm s h ⟨k, rfl, hk, hkm, hc, rfl, rfl⟩
  refine Ok.run hmix hA false 2000 (by cbv) ?_
  rw [ofNat_lt hA]
  by_cases hkl : k < n
  · rw [decide_eq_true hkl]
    repeat (first | (apply Ok.run1 hmix hA false 2000; focus (cbv; done)) | (apply Ok.one hmix hA; focus (cbv; done)) | (rw [Ar.notT hA]) | (rw [Ar.notF hA]) | (refine Ok.condT ?_ ?_; focus (cbv; done)) | (refine Ok.condF ?_ ?_; focus (cbv; done)) | (refine Ok.drawnE (by as_aux_lemma => kernel_rfl) ?_))
    have hx : l[k]? = some (l[k]'(by omega)) := List.getElem?_eq_getElem (by omega)
    have hxm : l[k]'(by omega) ∈ l := List.getElem_mem (by omega)
    have hdl : l.drop k = l[k]'(by omega) :: l.drop (k + 1) := List.drop_eq_getElem_cons (by omega)
    generalize l[k]'(by omega) = x at hx hdl hxm
    refine Ok.op (idx_view (E.vl x) (by cbv) (by cbv) (by simp) (by rw [E.vls_eq hE]; simp [hx]) rfl) ?_
    refine Ok.run hmix hA false 2000 (by cbv) ?_
    rw [hlm, ofNat_le hA]
    by_cases hkm2 : k < n'
    · rw [decide_eq_false (by omega)]
      have hy : m[k]? = some (m[k]'(by omega)) := List.getElem?_eq_getElem (by omega)
      have hym : m[k]'(by omega) ∈ m := List.getElem_mem (by omega)
      have hdm : m.drop k = m[k]'(by omega) :: m.drop (k + 1) := List.drop_eq_getElem_cons (by omega)
      generalize m[k]'(by omega) = y at hy hdm hym
      have cxy := hf x y hxm hym
      rw [hdl, hdm, cmpVs] at hc
      obtain ⟨c, hcc⟩ : ∃ c, c = cmpV x y := ⟨_, rfl⟩
      rw [← hcc] at cxy hc
      repeat (first | (apply Ok.run1 hmix hA false 2000; focus (cbv; done)) | (apply Ok.one hmix hA; focus (cbv; done)) | (rw [Ar.notT hA]) | (rw [Ar.notF hA]) | (refine Ok.condT ?_ ?_; focus (cbv; done)) | (refine Ok.condF ?_ ?_; focus (cbv; done)) | (refine Ok.drawnE (by as_aux_lemma => kernel_rfl) ?_))
      refine Ok.op (idx_view (E.vl y) (by cbv) (by cbv) (by simp) (by rw [E.vls_eq hE]; simp [hy]) rfl) ?_
      repeat (first | (apply Ok.run1 hmix hA false 2000; focus (cbv; done)) | (apply Ok.one hmix hA; focus (cbv; done)) | (rw [Ar.notT hA]) | (rw [Ar.notF hA]) | (refine Ok.condT ?_ ?_; focus (cbv; done)) | (refine Ok.condF ?_ ?_; focus (cbv; done)) | (refine Ok.drawnE (by as_aux_lemma => kernel_rfl) ?_) | (apply Ok.call (cxy); (focus (cbv; done)); (focus (cbv; done)); (focus (cbv; done))) | (apply Ok.dcall (cxy); (focus (cbv; done)); (focus (cbv; done)); (focus (cbv; done))))
      rw [Ar.eq_eq hA, Ar.not_eq hA]
      by_cases h0 : c = 0
      · rw [if_neg (by simpa using h0)] at hc
        rw [decide_eq_true h0]
        repeat (first | (apply Ok.run1 hmix hA false 2000; focus (cbv; done)) | (apply Ok.one hmix hA; focus (cbv; done)) | (rw [Ar.notT hA]) | (rw [Ar.notF hA]) | (refine Ok.condT ?_ ?_; focus (cbv; done)) | (refine Ok.condF ?_ ?_; focus (cbv; done)) | (refine Ok.drawnE (by as_aux_lemma => kernel_rfl) ?_))
        rw [Ar.succ_eq hA (by omega)]
        exact Ok.back (n - (k + 1)) [0, 1, 2, 11, 12, 13] [] (by omega) (by cbv) ⟨k + 1, rfl, by omega, by omega, hc, by cbv, by cbv⟩
      · rw [if_pos h0] at hc
        rw [decide_eq_false h0, ← hc]
        repeat (first | (apply Ok.run1 hmix hA false 2000; focus (cbv; done)) | (apply Ok.one hmix hA; focus (cbv; done)) | (rw [Ar.notT hA]) | (rw [Ar.notF hA]) | (refine Ok.condT ?_ ?_; focus (cbv; done)) | (refine Ok.condF ?_ ?_; focus (cbv; done)) | (refine Ok.drawnE (by as_aux_lemma => kernel_rfl) ?_))
        refine Ok.leaveRet ?_
        repeat (first | (apply Ok.run1 hmix hA false 2000; focus (cbv; done)) | (apply Ok.one hmix hA; focus (cbv; done)) | (rw [Ar.notT hA]) | (rw [Ar.notF hA]) | (refine Ok.condT ?_ ?_; focus (cbv; done)) | (refine Ok.condF ?_ ?_; focus (cbv; done)) | (refine Ok.drawnE (by as_aux_lemma => kernel_rfl) ?_))
        exact Ok.fin (by cbv) (FS.out (by cbv) (PLe.refl _))
    · rw [decide_eq_true (by omega)]
      have hke : k = m.length := by omega
      have h1 : cmpVs l m = 1 := by
        rw [← hc, hke, List.drop_length]
        rw [hke] at hdl
        rw [hdl]; rfl
      rw [h1]
      repeat (first | (apply Ok.run1 hmix hA false 2000; focus (cbv; done)) | (apply Ok.one hmix hA; focus (cbv; done)) | (rw [Ar.notT hA]) | (rw [Ar.notF hA]) | (refine Ok.condT ?_ ?_; focus (cbv; done)) | (refine Ok.condF ?_ ?_; focus (cbv; done)) | (refine Ok.drawnE (by as_aux_lemma => kernel_rfl) ?_))
      refine Ok.leaveRet ?_
      repeat (first | (apply Ok.run1 hmix hA false 2000; focus (cbv; done)) | (apply Ok.one hmix hA; focus (cbv; done)) | (rw [Ar.notT hA]) | (rw [Ar.notF hA]) | (refine Ok.condT ?_ ?_; focus (cbv; done)) | (refine Ok.condF ?_ ?_; focus (cbv; done)) | (refine Ok.drawnE (by as_aux_lemma => kernel_rfl) ?_))
      exact Ok.fin (by cbv) (FS.out (by cbv) (PLe.refl _))
  · rw [decide_eq_false hkl]
    have hke : k = l.length := by omega
    rw [hke, List.drop_length] at hc
    have hke : k = n := by omega
    subst hke
    repeat (first | (apply Ok.run1 hmix hA false 2000; focus (cbv; done)) | (apply Ok.one hmix hA; focus (cbv; done)) | (rw [Ar.notT hA]) | (rw [Ar.notF hA]) | (refine Ok.condT ?_ ?_; focus (cbv; done)) | (refine Ok.condF ?_ ?_; focus (cbv; done)) | (refine Ok.drawnE (by as_aux_lemma => kernel_rfl) ?_))
    refine Ok.leave ?_
    refine Ok.run hmix hA false 2000 (by cbv) ?_
    rw [hll, hlm, ofNat_lt hA]
    by_cases h2 : k < n'
    · rw [decide_eq_true h2]
      have h3 : m.drop l.length = m[l.length]'(by omega) :: m.drop (l.length + 1) := List.drop_eq_getElem_cons (by omega)
      rw [h3, cmpVs] at hc
      rw [← hc]
      repeat (first | (apply Ok.run1 hmix hA false 2000; focus (cbv; done)) | (apply Ok.one hmix hA; focus (cbv; done)) | (rw [Ar.notT hA]) | (rw [Ar.notF hA]) | (refine Ok.condT ?_ ?_; focus (cbv; done)) | (refine Ok.condF ?_ ?_; focus (cbv; done)) | (refine Ok.drawnE (by as_aux_lemma => kernel_rfl) ?_))
      exact Ok.fin (by cbv) (FS.out (by cbv) (PLe.refl _))
    · rw [decide_eq_false h2]
      have h3 : m.drop l.length = [] := List.drop_eq_nil_iff.2 (by omega)
      rw [h3, cmpVs] at hc
      rw [← hc]
      repeat (first | (apply Ok.run1 hmix hA false 2000; focus (cbv; done)) | (apply Ok.one hmix hA; focus (cbv; done)) | (rw [Ar.notT hA]) | (rw [Ar.notF hA]) | (refine Ok.condT ?_ ?_; focus (cbv; done)) | (refine Ok.condF ?_ ?_; focus (cbv; done)) | (refine Ok.drawnE (by as_aux_lemma => kernel_rfl) ?_))
      exact Ok.fin (by cbv) (FS.out (by cbv) (PLe.refl _))
end Go.Proofs.Ytnojmocoifodjaa.Pv
set_option maxRecDepth 100000
set_option maxHeartbeats 4000000
set_option linter.unusedVariables false
set_option linter.unusedSimpArgs false
namespace Go.Proofs.Ytnojmocoifodjaa.Pv
open Go Go.Proofs
theorem cmpS_eq : ∀ a b : List UInt8, cmpS a b = if a = b then 0 else lessZ (Op.bytesLess a b)
  | [], [] => rfl
  | [], _ :: _ => rfl
  | _ :: _, [] => rfl
  | a :: s, b :: t => by
    have ih := cmpS_eq s t
    unfold cmpS at ih ⊢
    rw [Lib.compareBytes, ih]
    rw [show Op.bytesLess (a :: s) (b :: t) = (decide (a < b) || (a == b && Op.bytesLess s t)) from rfl]
    by_cases h1 : a < b
    · have h2 : a ≠ b := by rintro rfl; exact absurd h1 (UInt8.lt_irrefl _)
      simp [h1, h2, lessZ]
    · by_cases h2 : b < a
      · have h3 : a ≠ b := by rintro rfl; exact absurd h2 (UInt8.lt_irrefl _)
        simp [h1, h2, h3, lessZ]
      · have h3 : a = b := by
          have h4 := UInt8.not_lt.1 h1
          have h5 := UInt8.not_lt.1 h2
          exact UInt8.le_antisymm h5 h4
        subst h3
        simp [h1]
theorem cmpV_or (k i : Int) (b : Bool) (s : List UInt8) (t : List Vl) (k' i' : Int) (b' : Bool) (s' : List UInt8) (t' : List Vl) :
    cmpV ⟨k, i, b, s, t⟩ ⟨k', i', b', s', t'⟩ = if cmpOr [cmpI k k', cmpI i i', cmpI (if b then 1 else 0) (if b' then 1 else 0), cmpS s s'] ≠ 0 then cmpOr [cmpI k k', cmpI i i', cmpI (if b then 1 else 0) (if b' then 1 else 0), cmpS s s'] else cmpVs t t' := by
  have hI : ∀ x y : Int, cmpI x y = if x = y then 0 else lessZ (decide (x < y)) := by
    intro x y
    unfold cmpI lessZ
    repeat' split
    all_goals simp_all
    all_goals omega
  have hL : ∀ c, lessZ c ≠ 0 := by intro c; cases c <;> decide
  have hB : cmpI (if b then 1 else 0) (if b' then 1 else 0) = if b = b' then 0 else lessZ b' := by cases b <;> cases b' <;> decide
  rw [hI, hI, hB, cmpS_eq, cmpV]
  by_cases h1 : k = k'
  · by_cases h2 : i = i'
    · by_cases h3 : b = b'
      · by_cases h4 : s = s'
        · simp [h1, h2, h3, h4, cmpOr]
        · simp [h1, h2, h3, h4, cmpOr, hL]
      · simp [h1, h2, h3, cmpOr, hL]
    · simp [h1, h2, cmpOr, hL]
  · simp [h1, cmpOr, hL]
theorem val_Compare {E : Enc} (hE : E = .std) : ∀ (n : Nat) (v w : Vl), SizeOf.sizeOf v ≤ n → szV v ≤ 2 ^ 28 → szV w ≤ 2 ^ 28 → CallsV Try.prog 178 [E.vl v, E.vl w] (.pv (.int .i64 (cmpV v w))) [] := by
  intro n
  induction n with
  | zero => intro v w h; cases v; simp at h
  | succ n ih =>
    rintro ⟨k1, i1, b1, s1, l⟩ ⟨k2, i2, b2, s2, m⟩ hn hsz hsw
    obtain ⟨A, hA⟩ : ∃ A : Ar, A = .std := ⟨_, rfl⟩
    rw [szV] at hsz hsw
    have hlen := szVs_len l
    have hlem := szVs_len m
    have hsub : ∀ x y, x ∈ l → y ∈ m → CallsV Try.prog 178 [E.vl x, E.vl y] (.pv (.int .i64 (cmpV x y))) [] := fun x y hx hy => by
      have h1 := List.sizeOf_lt_of_mem hx
      have h2 := szVs_mem hx
      have h3 := szVs_mem hy
      simp at hn
      exact ih x y (by omega) (by omega) (by omega)
    have cC := slices_CompareFunc hE 178 l m hsub (by omega) (by omega)
    have cR : CallsV Try.prog 187 [.view (E .vls l), .view (E .vls m), .func 178 []] (.pv (.int .i64 (cmpVs l m))) [] := by
      clear hsub ih
      refine CallsV.ok (fn := Try.f187) (by kernel_rfl) (by kernel_rfl) rfl (by cbv) (by cbv) ?_
      repeat (first | (apply Ok.run1 hmix hA false 2000; focus (cbv; done)) | (apply Ok.one hmix hA; focus (cbv; done)) | (rw [Ar.notT hA]) | (rw [Ar.notF hA]) | (refine Ok.condT ?_ ?_; focus (cbv; done)) | (refine Ok.condF ?_ ?_; focus (cbv; done)) | (refine Ok.drawnE (by as_aux_lemma => kernel_rfl) ?_) | (apply Ok.call (cC); (focus (cbv; done)); (focus (cbv; done)); (focus (cbv; done))) | (apply Ok.dcall (cC); (focus (cbv; done)); (focus (cbv; done)); (focus (cbv; done))))
      exact Ok.fin (by cbv) (FS.out (by cbv) (PLe.refl _))
    rw [cmpV_or]
    obtain ⟨c1, h1⟩ : ∃ c, c = cmpI k1 k2 := ⟨_, rfl⟩
    obtain ⟨c2, h2⟩ : ∃ c, c = cmpI i1 i2 := ⟨_, rfl⟩
    obtain ⟨t1, ht1⟩ : ∃ c, c = (if b1 then (1 : Int) else 0) := ⟨_, rfl⟩
    obtain ⟨t2, ht2⟩ : ∃ c, c = (if b2 then (1 : Int) else 0) := ⟨_, rfl⟩
    obtain ⟨c3, h3⟩ : ∃ c, c = cmpI t1 t2 := ⟨_, rfl⟩
    obtain ⟨c4, h4⟩ : ∃ c, c = cmpS s1 s2 := ⟨_, rfl⟩
    have d1 := cmp_Compare k1 k2
    have d2 := cmp_Compare64 i1 i2
    have e1 := val_truth b1
    have e2 := val_truth b2
    have d3 := cmp_Compare t1 t2
    have d4 := strings_Compare s1 s2
    have dO := cmp_Or [c1, c2, c3, c4] [.int .i64 c1, .int .i64 c2, .int .i64 c3, .int .i64 c4] rfl (by simp)
    rw [← ht1, ← ht2, ← h1, ← h2, ← h3, ← h4]
    rw [← h1] at d1
    rw [← h2] at d2
    rw [← ht1] at e1
    rw [← ht2] at e2
    rw [← h3] at d3
    rw [← h4] at d4
    obtain ⟨c, hc⟩ : ∃ c, c = cmpOr [c1, c2, c3, c4] := ⟨_, rfl⟩
    rw [← hc] at dO ⊢
    clear hsub ih cC
    refine CallsV.ok (fn := Try.f178) (by kernel_rfl) (by kernel_rfl) rfl (by cbv) (by cbv) ?_
    ((repeat (first | (apply Ok.run1 hmix hA false 2000; focus (cbv; done)) | (apply Ok.one hmix hA; focus (cbv; done)) | (rw [Ar.notT hA]) | (rw [Ar.notF hA]) | (refine Ok.condT ?_ ?_; focus (cbv; done)) | (refine Ok.condF ?_ ?_; focus (cbv; done)) | (refine Ok.drawnE (by as_aux_lemma => kernel_rfl) ?_))); ((first | (apply Ok.call (d1); (focus (cbv; done)); (focus (cbv; done)); (focus (cbv; done))) | (apply Ok.dcall (d1); (focus (cbv; done)); (focus (cbv; done)); (focus (cbv; done))))); (repeat (first | (apply Ok.run1 hmix hA false 2000; focus (cbv; done)) | (apply Ok.one hmix hA; focus (cbv; done)) | (rw [Ar.notT hA]) | (rw [Ar.notF hA]) | (refine Ok.condT ?_ ?_; focus (cbv; done)) | (refine Ok.condF ?_ ?_; focus (cbv; done)) | (refine Ok.drawnE (by as_aux_lemma => kernel_rfl) ?_))); ((first | (apply Ok.call (d2); (focus (cbv; done)); (focus (cbv; done)); (focus (cbv; done))) | (apply Ok.dcall (d2); (focus (cbv; done)); (focus (cbv; done)); (focus (cbv; done))))); (repeat (first | (apply Ok.run1 hmix hA false 2000; focus (cbv; done)) | (apply Ok.one hmix hA; focus (cbv; done)) | (rw [Ar.notT hA]) | (rw [Ar.notF hA]) | (refine Ok.condT ?_ ?_; focus (cbv; done)) | (refine Ok.condF ?_ ?_; focus (cbv; done)) | (refine Ok.drawnE (by as_aux_lemma => kernel_rfl) ?_))); ((first | (apply Ok.call (e1); (focus (cbv; done)); (focus (cbv; done)); (focus (cbv; done))) | (apply Ok.dcall (e1); (focus (cbv; done)); (focus (cbv; done)); (focus (cbv; done))))); (repeat (first | (apply Ok.run1 hmix hA false 2000; focus (cbv; done)) | (apply Ok.one hmix hA; focus (cbv; done)) | (rw [Ar.notT hA]) | (rw [Ar.notF hA]) | (refine Ok.condT ?_ ?_; focus (cbv; done)) | (refine Ok.condF ?_ ?_; focus (cbv; done)) | (refine Ok.drawnE (by as_aux_lemma => kernel_rfl) ?_))); ((first | (apply Ok.call (e2); (focus (cbv; done)); (focus (cbv; done)); (focus (cbv; done))) | (apply Ok.dcall (e2); (focus (cbv; done)); (focus (cbv; done)); (focus (cbv; done))))); (repeat (first | (apply Ok.run1 hmix hA false 2000; focus (cbv; done)) | (apply Ok.one hmix hA; focus (cbv; done)) | (rw [Ar.notT hA]) | (rw [Ar.notF hA]) | (refine Ok.condT ?_ ?_; focus (cbv; done)) | (refine Ok.condF ?_ ?_; focus (cbv; done)) | (refine Ok.drawnE (by as_aux_lemma => kernel_rfl) ?_))); ((first | (apply Ok.call (d3); (focus (cbv; done)); (focus (cbv; done)); (focus (cbv; done))) | (apply Ok.dcall (d3); (focus (cbv; done)); (focus (cbv; done)); (focus (cbv; done))))); (repeat (first | (apply Ok.run1 hmix hA false 2000; focus (cbv; done)) | (apply Ok.one hmix hA; focus (cbv; done)) | (rw [Ar.notT hA]) | (rw [Ar.notF hA]) | (refine Ok.condT ?_ ?_; focus (cbv; done)) | (refine Ok.condF ?_ ?_; focus (cbv; done)) | (refine Ok.drawnE (by as_aux_lemma => kernel_rfl) ?_))); ((first | (apply Ok.call (d4); (focus (cbv; done)); (focus (cbv; done)); (focus (cbv; done))) | (apply Ok.dcall (d4); (focus (cbv; done)); (focus (cbv; done)); (focus (cbv; done))))); (repeat (first | (apply Ok.run1 hmix hA false 2000; focus (cbv; done)) | (apply Ok.one hmix hA; focus (cbv; done)) | (rw [Ar.notT hA]) | (rw [Ar.notF hA]) | (refine Ok.condT ?_ ?_; focus (cbv; done)) | (refine Ok.condF ?_ ?_; focus (cbv; done)) | (refine Ok.drawnE (by as_aux_lemma => kernel_rfl) ?_))); ((first | (apply Ok.call (dO); (focus (cbv; done)); (focus (cbv; done)); (focus (cbv; done))) | (apply Ok.dcall (dO); (focus (cbv; done)); (focus (cbv; done)); (focus (cbv; done))))); (repeat (first | (apply Ok.run1 hmix hA false 2000; focus (cbv; done)) | (apply Ok.one hmix hA; focus (cbv; done)) | (rw [Ar.notT hA]) | (rw [Ar.notF hA]) | (refine Ok.condT ?_ ?_; focus (cbv; done)) | (refine Ok.condF ?_ ?_; focus (cbv; done)) | (refine Ok.drawnE (by as_aux_lemma => kernel_rfl) ?_))))
    rw [Ar.eq_eq hA, Ar.not_eq hA]
    by_cases h0 : c = 0
    · rw [decide_eq_true h0, if_neg (by simpa using h0)]
      repeat (first | (apply Ok.run1 hmix hA false 2000; focus (cbv; done)) | (apply Ok.one hmix hA; focus (cbv; done)) | (rw [Ar.notT hA]) | (rw [Ar.notF hA]) | (refine Ok.condT ?_ ?_; focus (cbv; done)) | (refine Ok.condF ?_ ?_; focus (cbv; done)) | (refine Ok.drawnE (by as_aux_lemma => kernel_rfl) ?_) | (apply Ok.call (cR); (focus (cbv; done)); (focus (cbv; done)); (focus (cbv; done))) | (apply Ok.dcall (cR); (focus (cbv; done)); (focus (cbv; done)); (focus (cbv; done))))
      exact Ok.fin (by cbv) (FS.out (by cbv) (PLe.refl _))
    · rw [decide_eq_false h0, if_pos h0]
      repeat (first | (apply Ok.run1 hmix hA false 2000; focus (cbv; done)) | (apply Ok.one hmix hA; focus (cbv; done)) | (rw [Ar.notT hA]) | (rw [Ar.notF hA]) | (refine Ok.condT ?_ ?_; focus (cbv; done)) | (refine Ok.condF ?_ ?_; focus (cbv; done)) | (refine Ok.drawnE (by as_aux_lemma => kernel_rfl) ?_))
      exact Ok.fin (by cbv) (FS.out (by cbv) (PLe.refl _))
theorem val_Same {E : Enc} (hE : E = .std) (v w : Vl) (h1 : szV v ≤ 2 ^ 28) (h2 : szV w ≤ 2 ^ 28) : CallsV Try.prog 157 [E.vl v, E.vl w] (.pv (.bool (decide (cmpV v w = 0)))) [] := by
  obtain ⟨A, hA⟩ : ∃ A : Ar, A = .std := ⟨_, rfl⟩
  have c := val_Compare hE _ v w (Nat.le_refl _) h1 h2
  generalize cmpV v w = r at c
  refine CallsV.ok (fn := Try.f157) (by kernel_rfl) (by kernel_rfl) rfl (by cbv) (by cbv) ?_
  repeat' (first | (apply Ok.run1 hmix hA false 2000; focus (cbv; done)) | (apply Ok.one hmix hA; focus (cbv; done)) | (rw [Ar.notT hA]) | (rw [Ar.notF hA]) | (refine Ok.condT ?_ ?_; focus (cbv; done)) | (refine Ok.condF ?_ ?_; focus (cbv; done)) | (refine Ok.drawnE (by as_aux_lemma => kernel_rfl) ?_) | (apply Ok.call (c); (focus (cbv; done)); (focus (cbv; done)); (focus (cbv; done))) | (apply Ok.dcall (c); (focus (cbv; done)); (focus (cbv; done)); (focus (cbv; done))) | (apply Ok.cond; (focus (cbv; done)); all_goals (intro hh; (try rw [hh]))) | (apply Ok.splitG; (focus (cbv; done)); all_goals (intro hh; (try rw [hh]))) | (apply Ok.splitP; (focus (cbv; done)); all_goals (intro hh; (try rw [hh]))) | (apply Ok.fin1; (focus (cbv; done)); (focus (cbv; done))) | (apply Ok.fin2; (focus (cbv; done)); (focus (cbv; done))) | (apply Ok.fin3; (focus (cbv; done)); (focus (cbv; done))))
  all_goals (subst hA; simp_all [Ar.std])
end Go.Proofs.Ytnojmocoifodjaa.Pv
set_option linter.unusedVariables false
set_option linter.unusedSimpArgs false
namespace Go.Proofs.Ytnojmocoifodjaa.Pv
open Go
/-! ### Values and expressions: plain laws -/
def spareV (v : Vl) : Bool := decide (v.kind ≠ 1 ∧ v.i ≠ 0) || (decide (v.kind ≠ 2) && v.b) || decide (v.kind ≠ 3 ∧ v.s ≠ []) || decide (v.kind ≠ 4 ∧ 0 < v.t.length)
mutual
def ckV : Vl → Nat → Int
  | .mk k i b s t, d => if k < 1 ∨ 4 < k then 5 else if spareV ⟨k, i, b, s, t⟩ then 2 else if 255 < s.length then 4 else if k ≠ 4 then 0
    else if rowC t.length d ≠ 0 then rowC t.length d else ckVs t (d + 1)
def ckVs : List Vl → Nat → Int
  | [], _ => 0
  | x :: l, d => if ckV x d ≠ 0 then ckV x d else ckVs l d
end
mutual
def typV : Vl → Ty
  | .mk k i b s t => ⟨k, typVs t⟩
def typVs : List Vl → List Ty
  | [] => []
  | x :: l => typV x :: typVs l
end
theorem typVs_eq : ∀ l, typVs l = l.map typV
  | [] => rfl
  | x :: l => by rw [typVs, typVs_eq l, List.map_cons]
/-! ops -/
structure Shp where
  least : Int
  most : Int
  of : List Int
  alike : Bool
  out : Int
def Shp.zero : Shp := ⟨0, 0, [], false, 0⟩
def Shp.cells (s : Shp) : List PV := [.int .i64 s.least, .int .i64 s.most, .view (s.of.map fun k => .int .i64 k), .bool s.alike, .int .i64 s.out]
def shpT : List (List UInt8 × Shp) := [
  ([108, 105, 116], ⟨0, 0, [], false, 0⟩),
  ([120], ⟨0, 0, [], false, 0⟩),
  ([97, 116], ⟨1, 1, [4], false, 0⟩),
  ([116, 117, 112], ⟨1, 8, [], false, 4⟩),
  ([110, 101, 103], ⟨1, 1, [1], false, 1⟩),
  ([110, 111, 116], ⟨1, 1, [2], false, 2⟩),
  ([108, 101, 110], ⟨1, 1, [3], false, 1⟩),
  ([97, 100, 100], ⟨2, 2, [1, 1], false, 1⟩),
  ([115, 117, 98], ⟨2, 2, [1, 1], false, 1⟩),
  ([109, 117, 108], ⟨2, 2, [1, 1], false, 1⟩),
  ([100, 105, 118], ⟨2, 2, [1, 1], false, 1⟩),
  ([114, 101, 109], ⟨2, 2, [1, 1], false, 1⟩),
  ([101, 113], ⟨2, 2, [0, 0], true, 2⟩),
  ([108, 116], ⟨2, 2, [0, 0], true, 2⟩),
  ([97, 110, 100], ⟨2, 2, [2, 2], false, 2⟩),
  ([111, 114], ⟨2, 2, [2, 2], false, 2⟩),
  ([99, 97, 116], ⟨2, 2, [3, 3], false, 3⟩),
  ([105, 102], ⟨3, 3, [2, 0, 0], true, 0⟩)]
def findS : List (List UInt8 × Shp) → List UInt8 → Option Shp
  | [], _ => none
  | (k, s) :: l, op => if k = op then some s else findS l op
def shpOf (op : List UInt8) : Option Shp := findS shpT op
theorem findS_mem : ∀ {l : List (List UInt8 × Shp)} {op : List UInt8} {s : Shp}, findS l op = some s → (op, s) ∈ l
  | [], op, s, h => by simp [findS] at h
  | (k, s') :: l, op, s, h => by
    rw [findS] at h
    split at h
    · rename_i hk
      cases h
      simp [hk]
    · simp [findS_mem h]
/-- What every shape keeps to. -/
def Shp.good (op : List UInt8) (s : Shp) : Bool := decide (0 ≤ s.least) && decide ((s.of.length : Int) ≤ s.least) && (!s.alike || decide (2 ≤ s.least)) && (decide (op ≠ [97, 116]) || decide (1 ≤ s.least)) && (decide (op ≠ [105, 102]) || decide (2 ≤ s.least)) && decide (s.most ≤ 8)
theorem shpOf_good {op : List UInt8} {s : Shp} (h : shpOf op = some s) : s.good op = true := by
  have hm := findS_mem h
  have : shpT.all (fun x => x.2.good x.1) = true := by decide
  exact List.all_eq_true.1 this _ hm
def oLit : List UInt8 := [108, 105, 116]
def oX : List UInt8 := [120]
def oAt : List UInt8 := [97, 116]
def oTup : List UInt8 := [116, 117, 112]
def oIf : List UInt8 := [105, 102]
def typOfM (v : Vl) : Ty := if ckV v 0 ≠ 0 then .zero else typV v
def fitsL : List Int → List Ty → Bool
  | [], _ => true
  | k :: ks, t :: ts => (decide (k = 0) || decide (t.kind = k)) && fitsL ks ts
  | _ :: _, [] => true
def fitsX (s : Shp) (l : List Ty) : Bool := fitsL s.of l && (!s.alike || sameT (l.getD (l.length - 1) .zero) (l.getD (l.length - 2) .zero))
def fieldsX (op : List UInt8) (v : Vl) (n : Int) (la : Nat) (s : Shp) : Bool := (decide (s.least ≤ la) && decide ((la : Int) ≤ s.most)) && (decide (op = oLit) || decide (cmpV v .zero = 0)) && (decide (op = oAt) || decide (n = 0))
def comesX (op : List UInt8) (v : Vl) (n : Int) (s : Shp) (l : List Ty) (tin : Ty) : Ty × Int :=
  if op = oLit then (typOfM v, 0)
  else if op = oX then (tin, 0)
  else if op = oAt then (if n < 0 ∨ ((l.getD 0 .zero).of.length : Int) ≤ n then (.zero, 1) else ((l.getD 0 .zero).of.getD n.toNat .zero, 0))
  else if op = oTup then (if ckT ⟨4, l⟩ 0 ≠ 0 then (.zero, ckT ⟨4, l⟩ 0) else (⟨4, l⟩, 0))
  else if op = oIf then (l.getD 1 .zero, 0)
  else (⟨s.out, []⟩, 0)
mutual
def chkX : Ex4 → Ty → Nat → Ty × Int
  | .mk op v n a, tin, d => match shpOf op with
    | none => (.zero, 6)
    | some s => if 12 < d then (.zero, 9) else if fieldsX op v n a.length s = false then (.zero, 1)
      else if op = oLit ∧ ckV v 0 ≠ 0 then (.zero, ckV v 0)
      else if (chkXs a tin (d + 1)).2 ≠ 0 then (.zero, (chkXs a tin (d + 1)).2)
      else if fitsX s (chkXs a tin (d + 1)).1 = false then (.zero, 5)
      else comesX op v n s (chkXs a tin (d + 1)).1 tin
def chkXs : List Ex4 → Ty → Nat → List Ty × Int
  | [], _, _ => ([], 0)
  | x :: l, tin, d => if (chkX x tin d).2 ≠ 0 then ([], (chkX x tin d).2) else ((chkX x tin d).1 :: (chkXs l tin d).1, (chkXs l tin d).2)
end
mutual
def sizX : Ex4 → Nat
  | .mk _ _ _ a => 1 + sizXs a
def sizXs : List Ex4 → Nat
  | [] => 0
  | x :: l => sizX x + sizXs l
end
def chkXTop (e : Ex4) (tin : Ty) : Ty × Int := if ckT tin 0 ≠ 0 then (.zero, 5) else if 256 < sizX e then (.zero, 10) else chkX e tin 0
end Go.Proofs.Ytnojmocoifodjaa.Pv
set_option maxRecDepth 100000
set_option maxHeartbeats 4000000
set_option linter.unusedVariables false
set_option linter.unusedSimpArgs false
namespace Go.Proofs.Ytnojmocoifodjaa.Pv
open Go Go.Proofs
theorem vls_len {E : Enc} (hE : E = .std) (l : List Vl) : (E .vls l).length = l.length := by rw [E.vls_eq hE, List.length_map]
theorem tys_len {E : Enc} (hE : E = .std) (l : List Ty) : (E .tys l).length = l.length := by rw [E.tys_eq hE, List.length_map]
theorem exs_len {E : Enc} (hE : E = .std) (l : List Ex4) : (E .exs l).length = l.length := by rw [E.exs_eq hE, List.length_map]
theorem val_spare {E : Enc} (hE : E = .std) (v : Vl) : CallsV Try.prog 164 [E.vl v] (.pv (.bool (spareV v))) [] := by
  obtain ⟨A, hA⟩ : ∃ A : Ar, A = .std := ⟨_, rfl⟩
  obtain ⟨k, i, b, s, l⟩ := v
  have q4 : A .lt 0 (A .lenP (E .vls l)) = decide (0 < l.length) := by
    rw [Ar.lenP_eq hA, vls_len hE]
    exact ofNat_lt hA 0 l.length
  generalize hb4 : decide (0 < l.length) = b4 at q4
  obtain ⟨r, hr⟩ : ∃ r, r = spareV ⟨k, i, b, s, l⟩ := ⟨_, rfl⟩
  have hr' := hr
  rw [← hr]
  simp only [spareV] at hr'
  refine CallsV.ok (fn := Try.f164) (by kernel_rfl) (by kernel_rfl) rfl (by cbv) (by cbv) ?_
  repeat' (first | (apply Ok.run1 hmix hA false 2000; focus (cbv; done)) | (apply Ok.one hmix hA; focus (cbv; done)) | (rw [Ar.notT hA]) | (rw [Ar.notF hA]) | (refine Ok.condT ?_ ?_; focus (cbv; done)) | (refine Ok.condF ?_ ?_; focus (cbv; done)) | (refine Ok.drawnE (by as_aux_lemma => kernel_rfl) ?_) | (apply Ok.cond; (focus (cbv; done)); all_goals (intro hh; (try rw [hh]))) | (apply Ok.splitG; (focus (cbv; done)); all_goals (intro hh; (try rw [hh]))) | (apply Ok.splitP; (focus (cbv; done)); all_goals (intro hh; (try rw [hh]))) | (apply Ok.fin1; (focus (cbv; done)); (focus (cbv; done))) | (apply Ok.fin2; (focus (cbv; done)); (focus (cbv; done))) | (apply Ok.fin3; (focus (cbv; done)); (focus (cbv; done))))
  all_goals (simp only [Ar.eq_eq hA, Ar.not_eq hA, Ar.seq_eq hA, q4, Bool.not_eq_true', Bool.not_eq_false', decide_eq_true_eq, decide_eq_false_iff_not] at *)
  all_goals (simp_all)
theorem val_check {E : Enc} (hE : E = .std) : ∀ (n : Nat) (t : Vl) (d : Nat), SizeOf.sizeOf t ≤ n → szV t ≤ 2 ^ 40 → d ≤ 1000 → CallsV Try.prog 146 [E.vl t, .int .i64 (Int.ofNat d)] (.pv (.int .i64 (ckV t d))) [] := by
  intro n
  induction n with
  | zero => intro t d h; cases t; simp at h
  | succ n ih =>
    rintro ⟨kd, vi, vb, vs, l⟩ d hn hsz hd
    obtain ⟨A, hA⟩ : ∃ A : Ar, A = .std := ⟨_, rfl⟩
    rw [szV] at hsz
    have hlen := szVs_len l
    obtain ⟨ln, hln⟩ : ∃ n, n = l.length := ⟨_, rfl⟩
    have hll : A .lenP (E .vls l) = Int.ofNat ln := by rw [Ar.lenP_eq hA, vls_len hE, hln]; rfl
    have cS := val_spare hE ⟨kd, vi, vb, vs, l⟩
    have cR := typ_Row (Int.ofNat ln) (Int.ofNat d)
    obtain ⟨rc, hrc⟩ : ∃ c, c = rowC (Int.ofNat ln) (Int.ofNat d) := ⟨_, rfl⟩
    rw [← hrc] at cR
    have hrd : rc = 0 → d ≤ 4 := by
      intro h
      rw [h] at hrc
      unfold rowC at hrc
      repeat' split at hrc
      all_goals first | omega | (rename_i h4; simp at h4; omega)
    have hsub : d ≤ 4 → ∀ x, x ∈ l → CallsV Try.prog 146 [E.vl x, .int .i64 (Int.ofNat (d + 1))] (.pv (.int .i64 (ckV x (d + 1)))) [] := fun hd4 x hx => by
      have h1 := List.sizeOf_lt_of_mem hx
      have h2 := szVs_mem hx
      simp at hn
      exact ih x (d + 1) (by omega) (by omega) (by omega)
    clear ih
    obtain ⟨d1, hd1⟩ : ∃ d1, d1 = d + 1 := ⟨_, rfl⟩
    have hck : ckV ⟨kd, vi, vb, vs, l⟩ d = if kd < 1 ∨ 4 < kd then 5 else if spareV ⟨kd, vi, vb, vs, l⟩ then 2 else if 255 < vs.length then 4 else if kd ≠ 4 then 0 else if rc ≠ 0 then rc else ckVs l d1 := by rw [ckV, hln.symm, hd1]; rw [hrc]; rfl
    rw [hck]
    generalize spareV ⟨kd, vi, vb, vs, l⟩ = sp at cS
    have q1 : A .lt kd 1 = decide (kd < 1) := Ar.lt_eq hA _ _
    have q2 : A .lt 4 kd = decide (4 < kd) := Ar.lt_eq hA _ _
    have q3 : A .not (A .eq kd 4) = !decide (kd = 4) := by rw [Ar.not_eq hA, Ar.eq_eq hA]
    have q5 : A .lt 255 (A .lenS vs) = decide (255 < vs.length) := by rw [lenS_nat hA]; exact ofNat_lt hA 255 _
    refine CallsV.ok (fn := Try.f146) (by kernel_rfl) (by kernel_rfl) rfl (by cbv) (by cbv) ?_
    refine Ok.run hmix hA false 2000 (by cbv) ?_
    rw [q1]
    by_cases h1 : kd < 1
    · rw [decide_eq_true h1, if_pos (by omega)]
      repeat (first | (apply Ok.run1 hmix hA false 2000; focus (cbv; done)) | (apply Ok.one hmix hA; focus (cbv; done)) | (rw [Ar.notT hA]) | (rw [Ar.notF hA]) | (refine Ok.condT ?_ ?_; focus (cbv; done)) | (refine Ok.condF ?_ ?_; focus (cbv; done)) | (refine Ok.drawnE (by as_aux_lemma => kernel_rfl) ?_))
      exact Ok.fin (by cbv) (FS.out (by cbv) (PLe.refl _))
    rw [decide_eq_false h1]
    repeat (first | (apply Ok.run1 hmix hA false 2000; focus (cbv; done)) | (apply Ok.one hmix hA; focus (cbv; done)) | (rw [Ar.notT hA]) | (rw [Ar.notF hA]) | (refine Ok.condT ?_ ?_; focus (cbv; done)) | (refine Ok.condF ?_ ?_; focus (cbv; done)) | (refine Ok.drawnE (by as_aux_lemma => kernel_rfl) ?_))
    rw [q2]
    by_cases h2 : 4 < kd
    · rw [decide_eq_true h2, if_pos (by omega)]
      repeat (first | (apply Ok.run1 hmix hA false 2000; focus (cbv; done)) | (apply Ok.one hmix hA; focus (cbv; done)) | (rw [Ar.notT hA]) | (rw [Ar.notF hA]) | (refine Ok.condT ?_ ?_; focus (cbv; done)) | (refine Ok.condF ?_ ?_; focus (cbv; done)) | (refine Ok.drawnE (by as_aux_lemma => kernel_rfl) ?_))
      exact Ok.fin (by cbv) (FS.out (by cbv) (PLe.refl _))
    rw [decide_eq_false h2, if_neg (by omega)]
    repeat (first | (apply Ok.run1 hmix hA false 2000; focus (cbv; done)) | (apply Ok.one hmix hA; focus (cbv; done)) | (rw [Ar.notT hA]) | (rw [Ar.notF hA]) | (refine Ok.condT ?_ ?_; focus (cbv; done)) | (refine Ok.condF ?_ ?_; focus (cbv; done)) | (refine Ok.drawnE (by as_aux_lemma => kernel_rfl) ?_) | (apply Ok.call (cS); (focus (cbv; done)); (focus (cbv; done)); (focus (cbv; done))) | (apply Ok.dcall (cS); (focus (cbv; done)); (focus (cbv; done)); (focus (cbv; done))))
    cases sp with
    | true =>
      rw [if_pos rfl]
      repeat (first | (apply Ok.run1 hmix hA false 2000; focus (cbv; done)) | (apply Ok.one hmix hA; focus (cbv; done)) | (rw [Ar.notT hA]) | (rw [Ar.notF hA]) | (refine Ok.condT ?_ ?_; focus (cbv; done)) | (refine Ok.condF ?_ ?_; focus (cbv; done)) | (refine Ok.drawnE (by as_aux_lemma => kernel_rfl) ?_))
      exact Ok.fin (by cbv) (FS.out (by cbv) (PLe.refl _))
    | false =>
    rw [if_neg (by simp)]
    repeat (first | (apply Ok.run1 hmix hA false 2000; focus (cbv; done)) | (apply Ok.one hmix hA; focus (cbv; done)) | (rw [Ar.notT hA]) | (rw [Ar.notF hA]) | (refine Ok.condT ?_ ?_; focus (cbv; done)) | (refine Ok.condF ?_ ?_; focus (cbv; done)) | (refine Ok.drawnE (by as_aux_lemma => kernel_rfl) ?_))
    rw [q5]
    by_cases h3 : 255 < vs.length
    · rw [decide_eq_true h3, if_pos h3]
      repeat (first | (apply Ok.run1 hmix hA false 2000; focus (cbv; done)) | (apply Ok.one hmix hA; focus (cbv; done)) | (rw [Ar.notT hA]) | (rw [Ar.notF hA]) | (refine Ok.condT ?_ ?_; focus (cbv; done)) | (refine Ok.condF ?_ ?_; focus (cbv; done)) | (refine Ok.drawnE (by as_aux_lemma => kernel_rfl) ?_))
      exact Ok.fin (by cbv) (FS.out (by cbv) (PLe.refl _))
    rw [decide_eq_false h3, if_neg h3]
    repeat (first | (apply Ok.run1 hmix hA false 2000; focus (cbv; done)) | (apply Ok.one hmix hA; focus (cbv; done)) | (rw [Ar.notT hA]) | (rw [Ar.notF hA]) | (refine Ok.condT ?_ ?_; focus (cbv; done)) | (refine Ok.condF ?_ ?_; focus (cbv; done)) | (refine Ok.drawnE (by as_aux_lemma => kernel_rfl) ?_))
    rw [q3]
    by_cases h4 : kd = 4
    case neg =>
      rw [decide_eq_false h4, if_pos h4]
      repeat (first | (apply Ok.run1 hmix hA false 2000; focus (cbv; done)) | (apply Ok.one hmix hA; focus (cbv; done)) | (rw [Ar.notT hA]) | (rw [Ar.notF hA]) | (refine Ok.condT ?_ ?_; focus (cbv; done)) | (refine Ok.condF ?_ ?_; focus (cbv; done)) | (refine Ok.drawnE (by as_aux_lemma => kernel_rfl) ?_))
      exact Ok.fin (by cbv) (FS.out (by cbv) (PLe.refl _))
    rw [decide_eq_true h4, if_neg (by simpa using h4)]
    repeat (first | (apply Ok.run1 hmix hA false 2000; focus (cbv; done)) | (apply Ok.one hmix hA; focus (cbv; done)) | (rw [Ar.notT hA]) | (rw [Ar.notF hA]) | (refine Ok.condT ?_ ?_; focus (cbv; done)) | (refine Ok.condF ?_ ?_; focus (cbv; done)) | (refine Ok.drawnE (by as_aux_lemma => kernel_rfl) ?_))
    rw [hll]
    repeat (first | (apply Ok.run1 hmix hA false 2000; focus (cbv; done)) | (apply Ok.one hmix hA; focus (cbv; done)) | (rw [Ar.notT hA]) | (rw [Ar.notF hA]) | (refine Ok.condT ?_ ?_; focus (cbv; done)) | (refine Ok.condF ?_ ?_; focus (cbv; done)) | (refine Ok.drawnE (by as_aux_lemma => kernel_rfl) ?_) | (apply Ok.call (cR); (focus (cbv; done)); (focus (cbv; done)); (focus (cbv; done))) | (apply Ok.dcall (cR); (focus (cbv; done)); (focus (cbv; done)); (focus (cbv; done))))
    refine Ok.loopAt [1, 2, 5, 6] [2] (fun m s h => ∃ (k : Nat) (e : Int), m = ln - k ∧ k ≤ ln ∧ (if e ≠ 0 then e else ckVs (l.drop k) d1) = (if rc ≠ 0 then rc else ckVs l d1) ∧ (e = 0 → rc = 0) ∧ s = mkS 53 [(1, .pv (.int .i64 (Int.ofNat d))), (2, .ptr 2 0), (5, .pv (.int .i64 e)), (6, .pv (.int .i64 (Int.ofNat k)))] ∧
      h = [(2, .box [.pv (.int .i64 kd), .pv (.int .i64 vi), .pv (.bool vb), .pv (.str vs), .pv (.view (E .vls l))] true)]) (ln - 0) (by cbv) ⟨0, rc, rfl, Nat.zero_le _, rfl, id, by cbv, by cbv⟩ ?_
    rintro m s h ⟨k, e, rfl, hk, hc, he0, rfl, rfl⟩
    rw [← hc]
    refine Ok.run hmix hA false 2000 (by cbv) ?_
    rw [hll, ofNat_lt hA]
    by_cases hkl : k < ln
    · rw [decide_eq_true hkl]
      repeat (first | (apply Ok.run1 hmix hA false 2000; focus (cbv; done)) | (apply Ok.one hmix hA; focus (cbv; done)) | (rw [Ar.notT hA]) | (rw [Ar.notF hA]) | (refine Ok.condT ?_ ?_; focus (cbv; done)) | (refine Ok.condF ?_ ?_; focus (cbv; done)) | (refine Ok.drawnE (by as_aux_lemma => kernel_rfl) ?_))
      rw [Ar.eq_eq hA]
      by_cases he : e = 0
      · rw [decide_eq_true he, if_neg (by simpa using he)]
        rw [if_neg (by simpa using he)] at hc
        repeat (first | (apply Ok.run1 hmix hA false 2000; focus (cbv; done)) | (apply Ok.one hmix hA; focus (cbv; done)) | (rw [Ar.notT hA]) | (rw [Ar.notF hA]) | (refine Ok.condT ?_ ?_; focus (cbv; done)) | (refine Ok.condF ?_ ?_; focus (cbv; done)) | (refine Ok.drawnE (by as_aux_lemma => kernel_rfl) ?_))
        have hx : l[k]? = some (l[k]'(by omega)) := List.getElem?_eq_getElem (by omega)
        have hxm : l[k]'(by omega) ∈ l := List.getElem_mem (by omega)
        have hdl : l.drop k = l[k]'(by omega) :: l.drop (k + 1) := List.drop_eq_getElem_cons (by omega)
        generalize l[k]'(by omega) = x at hx hdl hxm
        rw [hdl, ckVs] at hc
        rw [hdl, ckVs]
        have cx := hsub (hrd (he0 he)) x hxm
        rw [← hd1] at cx
        obtain ⟨c, hcc⟩ : ∃ c, c = ckV x d1 := ⟨_, rfl⟩
        rw [← hcc] at cx hc ⊢
        refine Ok.op (idx_view (E.vl x) (by cbv) (by cbv) (by simp) (by rw [E.vls_eq hE]; simp [hx]) rfl) ?_
        refine Ok.run hmix hA false 2000 (by cbv) ?_
        rw [Ar.succ_eq (k := d) hA (by omega), ← hd1]
        repeat (first | (apply Ok.run1 hmix hA false 2000; focus (cbv; done)) | (apply Ok.one hmix hA; focus (cbv; done)) | (rw [Ar.notT hA]) | (rw [Ar.notF hA]) | (refine Ok.condT ?_ ?_; focus (cbv; done)) | (refine Ok.condF ?_ ?_; focus (cbv; done)) | (refine Ok.drawnE (by as_aux_lemma => kernel_rfl) ?_) | (apply Ok.call (cx); (focus (cbv; done)); (focus (cbv; done)); (focus (cbv; done))) | (apply Ok.dcall (cx); (focus (cbv; done)); (focus (cbv; done)); (focus (cbv; done))))
        rw [Ar.succ_eq (k := k) hA (by omega)]
        exact Ok.back (ln - (k + 1)) [1, 2, 5, 6] [2] (by omega) (by cbv) ⟨k + 1, c, rfl, by omega, (by first | exact hc | rfl), fun _ => he0 he, by cbv, by cbv⟩
      · rw [decide_eq_false he, if_pos he]
        repeat (first | (apply Ok.run1 hmix hA false 2000; focus (cbv; done)) | (apply Ok.one hmix hA; focus (cbv; done)) | (rw [Ar.notT hA]) | (rw [Ar.notF hA]) | (refine Ok.condT ?_ ?_; focus (cbv; done)) | (refine Ok.condF ?_ ?_; focus (cbv; done)) | (refine Ok.drawnE (by as_aux_lemma => kernel_rfl) ?_))
        refine Ok.leave ?_
        repeat (first | (apply Ok.run1 hmix hA false 2000; focus (cbv; done)) | (apply Ok.one hmix hA; focus (cbv; done)) | (rw [Ar.notT hA]) | (rw [Ar.notF hA]) | (refine Ok.condT ?_ ?_; focus (cbv; done)) | (refine Ok.condF ?_ ?_; focus (cbv; done)) | (refine Ok.drawnE (by as_aux_lemma => kernel_rfl) ?_))
        exact Ok.fin (by cbv) (FS.out (by cbv) (PLe.refl _))
    · rw [decide_eq_false hkl]
      have hke : k = l.length := by omega
      rw [hke, List.drop_length]
      have : (if e ≠ 0 then e else ckVs [] d1) = e := by
        by_cases he : e = 0
        · rw [if_neg (by simpa using he), he]; rfl
        · rw [if_pos he]
      rw [this]
      repeat (first | (apply Ok.run1 hmix hA false 2000; focus (cbv; done)) | (apply Ok.one hmix hA; focus (cbv; done)) | (rw [Ar.notT hA]) | (rw [Ar.notF hA]) | (refine Ok.condT ?_ ?_; focus (cbv; done)) | (refine Ok.condF ?_ ?_; focus (cbv; done)) | (refine Ok.drawnE (by as_aux_lemma => kernel_rfl) ?_))
      refine Ok.leave ?_
      repeat (first | (apply Ok.run1 hmix hA false 2000; focus (cbv; done)) | (apply Ok.one hmix hA; focus (cbv; done)) | (rw [Ar.notT hA]) | (rw [Ar.notF hA]) | (refine Ok.condT ?_ ?_; focus (cbv; done)) | (refine Ok.condF ?_ ?_; focus (cbv; done)) | (refine Ok.drawnE (by as_aux_lemma => kernel_rfl) ?_))
      exact Ok.fin (by cbv) (FS.out (by cbv) (PLe.refl _))
theorem val_Check {E : Enc} (hE : E = .std) (t : Vl) (hsz : szV t ≤ 2 ^ 40) : CallsV Try.prog 113 [E.vl t] (.pv (.int .i64 (ckV t 0))) [] := by
  obtain ⟨A, hA⟩ : ∃ A : Ar, A = .std := ⟨_, rfl⟩
  have c := val_check hE _ t 0 (Nat.le_refl _) hsz (by omega)
  generalize ckV t 0 = r at c ⊢
  obtain ⟨k, i, b, s, l⟩ := t
  refine CallsV.ok (fn := Try.f113) (by kernel_rfl) (by kernel_rfl) rfl (by cbv) (by cbv) ?_
  repeat (first | (apply Ok.run1 hmix hA false 2000; focus (cbv; done)) | (apply Ok.one hmix hA; focus (cbv; done)) | (rw [Ar.notT hA]) | (rw [Ar.notF hA]) | (refine Ok.condT ?_ ?_; focus (cbv; done)) | (refine Ok.condF ?_ ?_; focus (cbv; done)) | (refine Ok.drawnE (by as_aux_lemma => kernel_rfl) ?_) | (apply Ok.call (c); (focus (cbv; done)); (focus (cbv; done)); (focus (cbv; done))) | (apply Ok.dcall (c); (focus (cbv; done)); (focus (cbv; done)); (focus (cbv; done))))
  exact Ok.fin (by cbv) (FS.out (by cbv) (PLe.refl _))
end Go.Proofs.Ytnojmocoifodjaa.Pv
set_option maxRecDepth 100000
set_option maxHeartbeats 4000000
set_option linter.unusedVariables false
set_option linter.unusedSimpArgs false
namespace Go.Proofs.Ytnojmocoifodjaa.Pv
open Go Go.Proofs
theorem val_kind {E : Enc} (hE : E = .std) : ∀ (n : Nat) (t : Vl), SizeOf.sizeOf t ≤ n → szV t ≤ 2 ^ 28 → CallsV Try.prog 165 [E.vl t] (.pv (E.tyc (typV t))) [] := by
  intro n
  induction n with
  | zero => intro t h; cases t; simp at h
  | succ n ih =>
    rintro ⟨kd, vi, vb, vs, l⟩ hn hsz
    obtain ⟨A, hA⟩ : ∃ A : Ar, A = .std := ⟨_, rfl⟩
    rw [szV] at hsz
    have hlen := szVs_len l
    obtain ⟨ln, hln⟩ : ∃ n, n = l.length := ⟨_, rfl⟩
    have hll : A .lenP (E .vls l) = Int.ofNat ln := by rw [Ar.lenP_eq hA, vls_len hE, hln]; rfl
    have ht0 : E .tys [] = [] := by rw [E.tys_eq hE]; rfl
    have hsub : ∀ x, x ∈ l → CallsV Try.prog 165 [E.vl x] (.pv (E.tyc (typV x))) [] := fun x hx => by
      have h1 := List.sizeOf_lt_of_mem hx
      have h2 := szVs_mem hx
      simp at hn
      exact ih x (by omega) (by omega)
    clear ih
    rw [typV, typVs_eq]
    refine CallsV.ok (fn := Try.f165) (by kernel_rfl) (by kernel_rfl) rfl (by cbv) (by cbv) ?_
    repeat (first | (apply Ok.run1 hmix hA false 2000; focus (cbv; done)) | (apply Ok.one hmix hA; focus (cbv; done)) | (rw [Ar.notT hA]) | (rw [Ar.notF hA]) | (refine Ok.condT ?_ ?_; focus (cbv; done)) | (refine Ok.condF ?_ ?_; focus (cbv; done)) | (refine Ok.drawnE (by as_aux_lemma => kernel_rfl) ?_))
    rw [hll]
    refine Ok.le (Le.nilBox 3 1 21 24 2 (by cbv) (by cbv) (by cbv) (by decide)) ?_
    refine Ok.loopAt [2, 3, 10, 11, 12] [2, 3, 21] (fun m s h => ∃ (k j : Nat) (es : List PV), m = ln - k ∧ k ≤ ln ∧ j = k ∧ es = E .tys ((l.take k).map typV) ∧
      s = mkS 25 [(2, .ptr 2 0), (3, .ptr 3 0), (10, .pv (.view (E .vls l))), (11, .pv (.int .i64 (Int.ofNat ln))), (12, .pv (.int .i64 (Int.ofNat k)))] ∧
      h = [(2, .box [.pv (.int .i64 0), .pv .nil] true), (3, .box [.pv (.int .i64 kd), .ref 21 j] true), (21, .row 24 2 es true)]) (ln - 0) (by cbv) ⟨0, 0, [], rfl, Nat.zero_le _, rfl, by rw [List.take_zero, List.map_nil, ht0], by cbv, by cbv⟩ ?_
    rintro m s h ⟨k, j, es, rfl, hk, hj, hes, rfl, rfl⟩
    have hesl : j = es.length := by rw [hes, tys_len hE, List.length_map, List.length_take, hj]; omega
    refine Ok.run hmix hA false 2000 (by cbv) ?_
    rw [ofNat_lt hA]
    by_cases hkl : k < ln
    · rw [decide_eq_true hkl]
      repeat (first | (apply Ok.run1 hmix hA false 2000; focus (cbv; done)) | (apply Ok.one hmix hA; focus (cbv; done)) | (rw [Ar.notT hA]) | (rw [Ar.notF hA]) | (refine Ok.condT ?_ ?_; focus (cbv; done)) | (refine Ok.condF ?_ ?_; focus (cbv; done)) | (refine Ok.drawnE (by as_aux_lemma => kernel_rfl) ?_))
      have hx : l[k]? = some (l[k]'(by omega)) := List.getElem?_eq_getElem (by omega)
      have hxm : l[k]'(by omega) ∈ l := List.getElem_mem (by omega)
      have htk : l.take (k + 1) = l.take k ++ [l[k]'(by omega)] := by rw [List.take_add_one, hx]; rfl
      generalize l[k]'(by omega) = x at hx hxm htk
      have cx := hsub x hxm
      obtain ⟨tx, htx⟩ : ∃ t, t = typV x := ⟨_, rfl⟩
      rw [← htx] at cx
      obtain ⟨es3, hes3⟩ : ∃ es3, es3 = es ++ [E.tyc tx] := ⟨_, rfl⟩
      obtain ⟨n3, hn3⟩ : ∃ n3, n3 = j + 1 := ⟨_, rfl⟩
      refine Ok.op (idx_view (E.vl x) (by cbv) (by cbv) (by simp) (by rw [E.vls_eq hE]; simp [hx]) rfl) ?_
      repeat (first | (apply Ok.run1 hmix hA false 2000; focus (cbv; done)) | (apply Ok.one hmix hA; focus (cbv; done)) | (rw [Ar.notT hA]) | (rw [Ar.notF hA]) | (refine Ok.condT ?_ ?_; focus (cbv; done)) | (refine Ok.condF ?_ ?_; focus (cbv; done)) | (refine Ok.drawnE (by as_aux_lemma => kernel_rfl) ?_) | (apply Ok.call (cx); (focus (cbv; done)); (focus (cbv; done)); (focus (cbv; done))) | (apply Ok.dcall (cx); (focus (cbv; done)); (focus (cbv; done)); (focus (cbv; done))))
      refine Ok.dop (app_ref (by cbv) (by cbv) hesl (by cbv) (by cbv) (by decide) (by simp only [List.length_singleton]; omega) (by unfold maxLen; simp only [List.length_singleton]; omega) n3 (by exact hn3) es3 (by rw [hes3]; rfl)) ?_
      repeat (first | (apply Ok.run1 hmix hA false 2000; focus (cbv; done)) | (apply Ok.one hmix hA; focus (cbv; done)) | (rw [Ar.notT hA]) | (rw [Ar.notF hA]) | (refine Ok.condT ?_ ?_; focus (cbv; done)) | (refine Ok.condF ?_ ?_; focus (cbv; done)) | (refine Ok.drawnE (by as_aux_lemma => kernel_rfl) ?_))
      rw [Ar.succ_eq hA (by omega)]
      exact Ok.back (ln - (k + 1)) [2, 3, 10, 11, 12] [2, 3, 21] (by omega) (by cbv) ⟨k + 1, n3, es3, rfl, by omega, by omega, by rw [hes3, hes, htk, E.tys_eq hE, E.tys_eq hE, List.map_append, List.map_append, htx]; rfl, by cbv, by cbv⟩
    · rw [decide_eq_false hkl]
      have hke : k = l.length := by omega
      rw [hke, List.take_length] at hes
      repeat (first | (apply Ok.run1 hmix hA false 2000; focus (cbv; done)) | (apply Ok.one hmix hA; focus (cbv; done)) | (rw [Ar.notT hA]) | (rw [Ar.notF hA]) | (refine Ok.condT ?_ ?_; focus (cbv; done)) | (refine Ok.condF ?_ ?_; focus (cbv; done)) | (refine Ok.drawnE (by as_aux_lemma => kernel_rfl) ?_))
      refine Ok.leave ?_
      repeat (first | (apply Ok.run1 hmix hA false 2000; focus (cbv; done)) | (apply Ok.one hmix hA; focus (cbv; done)) | (rw [Ar.notT hA]) | (rw [Ar.notF hA]) | (refine Ok.condT ?_ ?_; focus (cbv; done)) | (refine Ok.condF ?_ ?_; focus (cbv; done)) | (refine Ok.drawnE (by as_aux_lemma => kernel_rfl) ?_))
      refine Ok.fin1 (p := .agg [.int .i64 kd, .view es]) (ids := [21]) (by cbv) (by simp [frzL, frz2, frz1, frz0, rowOf, hget, PV.rlx, ← hesl]) ?_
      simp [Enc.tyc, hes]
theorem val_TypeOf {E : Enc} (hE : E = .std) (t : Vl) (hsz : szV t ≤ 2 ^ 28) : CallsV Try.prog 147 [E.vl t] (.pv (E.tyc (typOfM t))) [] := by
  obtain ⟨A, hA⟩ : ∃ A : Ar, A = .std := ⟨_, rfl⟩
  have ht0 : E .tys [] = [] := by rw [E.tys_eq hE]; rfl
  have c := val_Check hE t (by omega)
  have ck := val_kind hE _ t (Nat.le_refl _) hsz
  unfold typOfM
  generalize ckV t 0 = r at c ⊢
  generalize typV t = ty at ck ⊢
  obtain ⟨k, i, b, s, l⟩ := t
  obtain ⟨tk, tl⟩ := ty
  refine CallsV.ok (fn := Try.f147) (by kernel_rfl) (by kernel_rfl) rfl (by cbv) (by cbv) ?_
  repeat (first | (apply Ok.run1 hmix hA false 2000; focus (cbv; done)) | (apply Ok.one hmix hA; focus (cbv; done)) | (rw [Ar.notT hA]) | (rw [Ar.notF hA]) | (refine Ok.condT ?_ ?_; focus (cbv; done)) | (refine Ok.condF ?_ ?_; focus (cbv; done)) | (refine Ok.drawnE (by as_aux_lemma => kernel_rfl) ?_) | (apply Ok.call (c); (focus (cbv; done)); (focus (cbv; done)); (focus (cbv; done))) | (apply Ok.dcall (c); (focus (cbv; done)); (focus (cbv; done)); (focus (cbv; done))))
  rw [Ar.eq_eq hA, Ar.not_eq hA]
  by_cases h0 : r = 0
  · rw [decide_eq_true h0, if_neg (by simpa using h0)]
    repeat (first | (apply Ok.run1 hmix hA false 2000; focus (cbv; done)) | (apply Ok.one hmix hA; focus (cbv; done)) | (rw [Ar.notT hA]) | (rw [Ar.notF hA]) | (refine Ok.condT ?_ ?_; focus (cbv; done)) | (refine Ok.condF ?_ ?_; focus (cbv; done)) | (refine Ok.drawnE (by as_aux_lemma => kernel_rfl) ?_) | (apply Ok.call (ck); (focus (cbv; done)); (focus (cbv; done)); (focus (cbv; done))) | (apply Ok.dcall (ck); (focus (cbv; done)); (focus (cbv; done)); (focus (cbv; done))))
    (first | (apply Ok.fin1; (focus (cbv; done)); (focus (cbv; done))) | (apply Ok.fin2; (focus (cbv; done)); (focus (cbv; done))) | (apply Ok.fin3; (focus (cbv; done)); (focus (cbv; done))))
    all_goals first | rfl | simp [Enc.tyc]
  · rw [decide_eq_false h0, if_pos h0]
    repeat (first | (apply Ok.run1 hmix hA false 2000; focus (cbv; done)) | (apply Ok.one hmix hA; focus (cbv; done)) | (rw [Ar.notT hA]) | (rw [Ar.notF hA]) | (refine Ok.condT ?_ ?_; focus (cbv; done)) | (refine Ok.condF ?_ ?_; focus (cbv; done)) | (refine Ok.drawnE (by as_aux_lemma => kernel_rfl) ?_))
    (first | (apply Ok.fin1; (focus (cbv; done)); (focus (cbv; done))) | (apply Ok.fin2; (focus (cbv; done)); (focus (cbv; done))) | (apply Ok.fin3; (focus (cbv; done)); (focus (cbv; done))))
    all_goals first | rfl | simp [Enc.tyc, ht0, Ty.zero]
theorem slices_ClipT {E : Enc} (hE : E = .std) (l : List Ty) : CallsV Try.prog 82 [.view (E .tys l)] (.pv (.view (E .tys l))) [] := by
  obtain ⟨A, hA⟩ : ∃ A : Ar, A = .std := ⟨_, rfl⟩
  obtain ⟨ln, hln⟩ : ∃ n, n = l.length := ⟨_, rfl⟩
  have hll : A .lenP (E .tys l) = Int.ofNat ln := by rw [Ar.lenP_eq hA, tys_len hE, hln]; rfl
  obtain ⟨es, hes⟩ : ∃ es, es = E .tys l := ⟨_, rfl⟩
  have hl : ln = es.length := by rw [hes, tys_len hE, hln]
  have hc : ∀ e, e ∈ es → e.cells.length = 2 := by
    intro e he
    rw [hes, E.tys_eq hE] at he
    obtain ⟨x, _, rfl⟩ := List.mem_map.1 he
    rfl
  rw [← hes] at hll ⊢
  obtain ⟨r, hr⟩ : ∃ r : PV, r = if ln = 0 then .cap0 else .view es := ⟨_, rfl⟩
  refine CallsV.ok (fn := Try.f82) (by kernel_rfl) (by kernel_rfl) rfl (by cbv) (by cbv) ?_
  refine Ok.run hmix hA false 2000 (by cbv) ?_
  rw [hll]
  refine Ok.op (slc_full (by cbv) (by cbv) (by cbv) hl hc r hr) ?_
  repeat (first | (apply Ok.run1 hmix hA false 2000; focus (cbv; done)) | (apply Ok.one hmix hA; focus (cbv; done)) | (rw [Ar.notT hA]) | (rw [Ar.notF hA]) | (refine Ok.condT ?_ ?_; focus (cbv; done)) | (refine Ok.condF ?_ ?_; focus (cbv; done)) | (refine Ok.drawnE (by as_aux_lemma => kernel_rfl) ?_))
  refine Ok.fin (by cbv) (FS.pv _ ?_)
  rw [hr]
  by_cases h0 : ln = 0
  · have : es = [] := List.eq_nil_of_length_eq_zero (by omega)
    rw [if_pos h0, this]
    exact PLe.cap0
  · rw [if_neg h0]; exact PLe.refl _
theorem expr_none {E : Enc} (hE : E = .std) (v : Vl) (hsz : szV v ≤ 2 ^ 28) : CallsV Try.prog 145 [E.vl v] (.pv (.bool (decide (cmpV v .zero = 0)))) [] := by
  obtain ⟨A, hA⟩ : ∃ A : Ar, A = .std := ⟨_, rfl⟩
  have h0 : E .vls [] = [] := by rw [E.vls_eq hE]; rfl
  have c := val_Same hE v .zero hsz (by simp [Vl.zero, szV, szVs])
  generalize decide (cmpV v .zero = 0) = b at c ⊢
  simp only [Enc.vl, Vl.zero, h0] at c
  obtain ⟨k, i, b', s, l⟩ := v
  refine CallsV.ok (fn := Try.f145) (by kernel_rfl) (by kernel_rfl) rfl (by cbv) (by cbv) ?_
  repeat (first | (apply Ok.run1 hmix hA false 2000; focus (cbv; done)) | (apply Ok.one hmix hA; focus (cbv; done)) | (rw [Ar.notT hA]) | (rw [Ar.notF hA]) | (refine Ok.condT ?_ ?_; focus (cbv; done)) | (refine Ok.condF ?_ ?_; focus (cbv; done)) | (refine Ok.drawnE (by as_aux_lemma => kernel_rfl) ?_) | (apply Ok.call (c); (focus (cbv; done)); (focus (cbv; done)); (focus (cbv; done))) | (apply Ok.dcall (c); (focus (cbv; done)); (focus (cbv; done)); (focus (cbv; done))))
  exact Ok.fin (by cbv) (FS.out (by cbv) (PLe.refl _))
def encS (x : List UInt8 × Shp) : PV := .agg (.str x.1 :: x.2.cells)
theorem expr_find (l : List (List UInt8 × Shp)) (op : List UInt8) (es : List PV) (hes : es = l.map encS) (hl : l.length ≤ 2 ^ 30) : CallsV Try.prog 110 [.view es, .str op] (.tup [.pv (.agg ((findS l op).getD .zero).cells), .pv (.bool (findS l op).isSome)]) [] := by
  obtain ⟨A, hA⟩ : ∃ A : Ar, A = .std := ⟨_, rfl⟩
  obtain ⟨n, hn⟩ : ∃ n, n = l.length := ⟨_, rfl⟩
  have hll : A .lenP es = Int.ofNat n := by rw [Ar.lenP_eq hA, hes, List.length_map, hn]; rfl
  obtain ⟨res, hres⟩ : ∃ r, r = findS l op := ⟨_, rfl⟩
  rw [← hres]
  refine CallsV.ok (fn := Try.f110) (by kernel_rfl) (by kernel_rfl) rfl (by cbv) (by cbv) ?_
  repeat (first | (apply Ok.run1 hmix hA false 2000; focus (cbv; done)) | (apply Ok.one hmix hA; focus (cbv; done)) | (rw [Ar.notT hA]) | (rw [Ar.notF hA]) | (refine Ok.condT ?_ ?_; focus (cbv; done)) | (refine Ok.condF ?_ ?_; focus (cbv; done)) | (refine Ok.drawnE (by as_aux_lemma => kernel_rfl) ?_))
  rw [hll]
  refine Ok.loopAt [1, 4, 5, 9, 10, 11] [4] (fun m s h => ∃ k, m = n - k ∧ k ≤ n ∧ findS (l.drop k) op = res ∧ s = mkS 23 [(1, .pv (.str op)), (4, .ptr 4 0), (5, .pv (.bool false)), (9, .pv (.view es)), (10, .pv (.int .i64 (Int.ofNat n))), (11, .pv (.int .i64 (Int.ofNat k)))] ∧
    h = [(4, .box [.pv (.int .i64 0), .pv (.int .i64 0), .pv .nil, .pv (.bool false), .pv (.int .i64 0)] true)]) (n - 0) (by cbv) ⟨0, rfl, Nat.zero_le _, hres.symm, by cbv, by cbv⟩ ?_
  rintro m s h ⟨k, rfl, hk, hc, rfl, rfl⟩
  refine Ok.run hmix hA false 2000 (by cbv) ?_
  rw [ofNat_lt hA]
  by_cases hkl : k < n
  · rw [decide_eq_true hkl]
    repeat (first | (apply Ok.run1 hmix hA false 2000; focus (cbv; done)) | (apply Ok.one hmix hA; focus (cbv; done)) | (rw [Ar.notT hA]) | (rw [Ar.notF hA]) | (refine Ok.condT ?_ ?_; focus (cbv; done)) | (refine Ok.condF ?_ ?_; focus (cbv; done)) | (refine Ok.drawnE (by as_aux_lemma => kernel_rfl) ?_))
    have hx : l[k]? = some (l[k]'(by omega)) := List.getElem?_eq_getElem (by omega)
    have hdl : l.drop k = l[k]'(by omega) :: l.drop (k + 1) := List.drop_eq_getElem_cons (by omega)
    generalize l[k]'(by omega) = x at hx hdl
    obtain ⟨key, least, most, of, alike, out⟩ := x
    rw [hdl, findS] at hc
    obtain ⟨ofs, hofs⟩ : ∃ o : List PV, o = of.map fun k => .int .i64 k := ⟨_, rfl⟩
    refine Ok.op (idx_view (.agg [.str key, .int .i64 least, .int .i64 most, .view ofs, .bool alike, .int .i64 out]) (by cbv) (by cbv) (by simp) (by rw [hes]; simp [hx, encS, Shp.cells, hofs]) rfl) ?_
    repeat (first | (apply Ok.run1 hmix hA false 2000; focus (cbv; done)) | (apply Ok.one hmix hA; focus (cbv; done)) | (rw [Ar.notT hA]) | (rw [Ar.notF hA]) | (refine Ok.condT ?_ ?_; focus (cbv; done)) | (refine Ok.condF ?_ ?_; focus (cbv; done)) | (refine Ok.drawnE (by as_aux_lemma => kernel_rfl) ?_))
    rw [Ar.seq_eq hA]
    by_cases h0 : key = op
    · rw [if_pos h0] at hc
      rw [decide_eq_true h0, ← hc]
      repeat (first | (apply Ok.run1 hmix hA false 2000; focus (cbv; done)) | (apply Ok.one hmix hA; focus (cbv; done)) | (rw [Ar.notT hA]) | (rw [Ar.notF hA]) | (refine Ok.condT ?_ ?_; focus (cbv; done)) | (refine Ok.condF ?_ ?_; focus (cbv; done)) | (refine Ok.drawnE (by as_aux_lemma => kernel_rfl) ?_))
      refine Ok.leaveRet ?_
      repeat (first | (apply Ok.run1 hmix hA false 2000; focus (cbv; done)) | (apply Ok.one hmix hA; focus (cbv; done)) | (rw [Ar.notT hA]) | (rw [Ar.notF hA]) | (refine Ok.condT ?_ ?_; focus (cbv; done)) | (refine Ok.condF ?_ ?_; focus (cbv; done)) | (refine Ok.drawnE (by as_aux_lemma => kernel_rfl) ?_))
      (first | (apply Ok.fin1; (focus (cbv; done)); (focus (cbv; done))) | (apply Ok.fin2; (focus (cbv; done)); (focus (cbv; done))) | (apply Ok.fin3; (focus (cbv; done)); (focus (cbv; done))))
      all_goals first | rfl | simp [Shp.cells, hofs]
    · rw [if_neg h0] at hc
      rw [decide_eq_false h0]
      repeat (first | (apply Ok.run1 hmix hA false 2000; focus (cbv; done)) | (apply Ok.one hmix hA; focus (cbv; done)) | (rw [Ar.notT hA]) | (rw [Ar.notF hA]) | (refine Ok.condT ?_ ?_; focus (cbv; done)) | (refine Ok.condF ?_ ?_; focus (cbv; done)) | (refine Ok.drawnE (by as_aux_lemma => kernel_rfl) ?_))
      rw [Ar.succ_eq hA (by omega)]
      exact Ok.back (n - (k + 1)) [1, 4, 5, 9, 10, 11] [4] (by omega) (by cbv) ⟨k + 1, rfl, by omega, hc, by cbv, by cbv⟩
  · rw [decide_eq_false hkl]
    have hke : k = l.length := by omega
    rw [hke, List.drop_length] at hc
    rw [← hc]
    repeat (first | (apply Ok.run1 hmix hA false 2000; focus (cbv; done)) | (apply Ok.one hmix hA; focus (cbv; done)) | (rw [Ar.notT hA]) | (rw [Ar.notF hA]) | (refine Ok.condT ?_ ?_; focus (cbv; done)) | (refine Ok.condF ?_ ?_; focus (cbv; done)) | (refine Ok.drawnE (by as_aux_lemma => kernel_rfl) ?_))
    refine Ok.leave ?_
    repeat (first | (apply Ok.run1 hmix hA false 2000; focus (cbv; done)) | (apply Ok.one hmix hA; focus (cbv; done)) | (rw [Ar.notT hA]) | (rw [Ar.notF hA]) | (refine Ok.condT ?_ ?_; focus (cbv; done)) | (refine Ok.condF ?_ ?_; focus (cbv; done)) | (refine Ok.drawnE (by as_aux_lemma => kernel_rfl) ?_))
    (first | (apply Ok.fin1; (focus (cbv; done)); (focus (cbv; done))) | (apply Ok.fin2; (focus (cbv; done)); (focus (cbv; done))) | (apply Ok.fin3; (focus (cbv; done)); (focus (cbv; done))))
    all_goals first | rfl | simp [Shp.cells, Shp.zero, findS]
theorem expr_shapes : CallsV Try.prog 111 [] (.ref 0 18) [.row 210 6 (shpT.map encS) true] := ev_ok 30 (by kernel_rfl)
end Go.Proofs.Ytnojmocoifodjaa.Pv
set_option maxRecDepth 100000
set_option maxHeartbeats 4000000
set_option linter.unusedVariables false
set_option linter.unusedSimpArgs false
namespace Go.Proofs.Ytnojmocoifodjaa.Pv
open Go Go.Proofs
theorem expr_fields {E : Enc} (hE : E = .std) (op : List UInt8) (v : Vl) (n : Int) (a : List Ex4) (s : Shp) (hsz : szV v ≤ 2 ^ 28) : CallsV Try.prog 112 [E.ex ⟨op, v, n, a⟩, .agg s.cells] (.pv (.bool (fieldsX op v n a.length s))) [] := by
  obtain ⟨A, hA⟩ : ∃ A : Ar, A = .std := ⟨_, rfl⟩
  obtain ⟨la, hla⟩ : ∃ n, n = a.length := ⟨_, rfl⟩
  have hll : A .lenP (E .exs a) = Int.ofNat la := by rw [Ar.lenP_eq hA, exs_len hE, hla]; rfl
  have cn := expr_none hE v hsz
  rw [← hla]
  obtain ⟨res, hres⟩ : ∃ r, r = fieldsX op v n la s := ⟨_, rfl⟩
  have hres' := hres
  unfold fieldsX at hres'
  rw [← hres]
  generalize decide (cmpV v .zero = 0) = bz at cn hres'
  obtain ⟨least, most, of, alike, out⟩ := s
  obtain ⟨vk, vi, vb, vs, vt⟩ := v
  obtain ⟨ofs, hofs⟩ : ∃ o : List PV, o = of.map fun k => .int .i64 k := ⟨_, rfl⟩
  have q1 : A .le least (Int.ofNat la) = decide (least ≤ la) := Ar.le_eq hA _ _
  have q2 : A .le (Int.ofNat la) most = decide ((la : Int) ≤ most) := Ar.le_eq hA _ _
  have q3 : A .seq op [108, 105, 116] = decide (op = oLit) := Ar.seq_eq hA _ _
  have q4 : A .seq op [97, 116] = decide (op = oAt) := Ar.seq_eq hA _ _
  have q5 : A .eq n 0 = decide (n = 0) := Ar.eq_eq hA _ _
  have hcells : (Shp.mk least most of alike out).cells = [.int .i64 least, .int .i64 most, .view ofs, .bool alike, .int .i64 out] := by rw [hofs]; rfl
  rw [hcells]
  dsimp only at hres'
  rw [← q1, ← q2, ← q3, ← q4, ← q5] at hres'
  clear hres q1 q2 q3 q4 q5
  refine CallsV.ok (fn := Try.f112) (by kernel_rfl) (by kernel_rfl) rfl (by cbv) (by cbv) ?_
  refine Ok.run hmix hA false 2000 (by cbv) ?_
  rw [hll]
  repeat' (first | (apply Ok.run1 hmix hA false 2000; focus (cbv; done)) | (apply Ok.one hmix hA; focus (cbv; done)) | (rw [Ar.notT hA]) | (rw [Ar.notF hA]) | (refine Ok.condT ?_ ?_; focus (cbv; done)) | (refine Ok.condF ?_ ?_; focus (cbv; done)) | (refine Ok.drawnE (by as_aux_lemma => kernel_rfl) ?_) | (apply Ok.call (cn); (focus (cbv; done)); (focus (cbv; done)); (focus (cbv; done))) | (apply Ok.dcall (cn); (focus (cbv; done)); (focus (cbv; done)); (focus (cbv; done))) | (apply Ok.cond; (focus (cbv; done)); all_goals (intro hh; (try rw [hh]))) | (apply Ok.splitG; (focus (cbv; done)); all_goals (intro hh; (try rw [hh]))) | (apply Ok.splitP; (focus (cbv; done)); all_goals (intro hh; (try rw [hh]))) | (apply Ok.fin1; (focus (cbv; done)); (focus (cbv; done))) | (apply Ok.fin2; (focus (cbv; done)); (focus (cbv; done))) | (apply Ok.fin3; (focus (cbv; done)); (focus (cbv; done))))
  all_goals (simp_all)
theorem fitsL_drop (ks : List Int) (l : List Ty) (k : Nat) (h : k < ks.length) (hl : k < l.length) : fitsL (ks.drop k) (l.drop k) = ((decide (ks[k] = 0) || decide (l[k].kind = ks[k])) && fitsL (ks.drop (k + 1)) (l.drop (k + 1))) := by
  rw [List.drop_eq_getElem_cons h, List.drop_eq_getElem_cons hl, fitsL]
theorem expr_fits {E : Enc} (hE : E = .std) (s : Shp) (l : List Ty) (hof : s.of.length ≤ l.length) (hal : s.alike = true → 2 ≤ l.length) (hl : l.length ≤ 2 ^ 30) (hsz : szTs l ≤ 2 ^ 40) : CallsV Try.prog 114 [.agg s.cells, .view (E .tys l)] (.pv (.bool (fitsX s l))) [] := by
  obtain ⟨A, hA⟩ : ∃ A : Ar, A = .std := ⟨_, rfl⟩
  obtain ⟨least, most, of, alike, out⟩ := s
  dsimp only at hof hal
  obtain ⟨ofs, hofs⟩ : ∃ o : List PV, o = of.map fun k => .int .i64 k := ⟨_, rfl⟩
  have hcells : (Shp.mk least most of alike out).cells = [.int .i64 least, .int .i64 most, .view ofs, .bool alike, .int .i64 out] := by rw [hofs]; rfl
  rw [hcells]
  obtain ⟨n, hn⟩ : ∃ n, n = of.length := ⟨_, rfl⟩
  obtain ⟨ln, hln⟩ : ∃ n, n = l.length := ⟨_, rfl⟩
  have hlo : A .lenP ofs = Int.ofNat n := by rw [Ar.lenP_eq hA, hofs, List.length_map, hn]; rfl
  have hll : A .lenP (E .tys l) = Int.ofNat ln := by rw [Ar.lenP_eq hA, tys_len hE, hln]; rfl
  obtain ⟨res, hres⟩ : ∃ r, r = fitsL of l := ⟨_, rfl⟩
  unfold fitsX
  dsimp only
  rw [← hres]
  refine CallsV.ok (fn := Try.f114) (by kernel_rfl) (by kernel_rfl) rfl (by cbv) (by cbv) ?_
  repeat (first | (apply Ok.run1 hmix hA false 2000; focus (cbv; done)) | (apply Ok.one hmix hA; focus (cbv; done)) | (rw [Ar.notT hA]) | (rw [Ar.notF hA]) | (refine Ok.condT ?_ ?_; focus (cbv; done)) | (refine Ok.condF ?_ ?_; focus (cbv; done)) | (refine Ok.drawnE (by as_aux_lemma => kernel_rfl) ?_))
  rw [hlo]
  refine Ok.loopAt [1, 2, 8, 9, 10] [2] (fun m sl h => ∃ k, m = n - k ∧ k ≤ n ∧ fitsL (of.drop k) (l.drop k) = res ∧ sl = mkS 45 [(1, .pv (.view (E .tys l))), (2, .ptr 2 0), (8, .pv (.view ofs)), (9, .pv (.int .i64 (Int.ofNat n))), (10, .pv (.int .i64 (Int.ofNat k)))] ∧
    h = [(2, .box [.pv (.int .i64 least), .pv (.int .i64 most), .pv (.view ofs), .pv (.bool alike), .pv (.int .i64 out)] true)]) (n - 0) (by cbv) ⟨0, rfl, Nat.zero_le _, by rw [List.drop_zero, List.drop_zero, hres], by cbv, by cbv⟩ ?_
  rintro m sl h ⟨k, rfl, hk, hc, rfl, rfl⟩
  refine Ok.run hmix hA false 2000 (by cbv) ?_
  rw [ofNat_lt hA]
  by_cases hkl : k < n
  · rw [decide_eq_true hkl]
    rw [fitsL_drop of l k (by omega) (by omega)] at hc
    have hx : of[k]? = some (of[k]'(by omega)) := List.getElem?_eq_getElem (by omega)
    have hy : l[k]? = some (l[k]'(by omega)) := List.getElem?_eq_getElem (by omega)
    generalize of[k]'(by omega) = kk at hx hc
    generalize l[k]'(by omega) = y at hy hc
    obtain ⟨yk, yl⟩ := y
    repeat (first | (apply Ok.run1 hmix hA false 2000; focus (cbv; done)) | (apply Ok.one hmix hA; focus (cbv; done)) | (rw [Ar.notT hA]) | (rw [Ar.notF hA]) | (refine Ok.condT ?_ ?_; focus (cbv; done)) | (refine Ok.condF ?_ ?_; focus (cbv; done)) | (refine Ok.drawnE (by as_aux_lemma => kernel_rfl) ?_))
    refine Ok.op (idx_view (.int .i64 kk) (by cbv) (by cbv) (by simp) (by rw [hofs]; simp [hx]) rfl) ?_
    refine Ok.run hmix hA false 2000 (by cbv) ?_
    rw [Ar.eq_eq hA, Ar.not_eq hA]
    by_cases h0 : kk = 0
    · rw [decide_eq_true h0]
      rw [decide_eq_true h0, Bool.true_or, Bool.true_and] at hc
      repeat (first | (apply Ok.run1 hmix hA false 2000; focus (cbv; done)) | (apply Ok.one hmix hA; focus (cbv; done)) | (rw [Ar.notT hA]) | (rw [Ar.notF hA]) | (refine Ok.condT ?_ ?_; focus (cbv; done)) | (refine Ok.condF ?_ ?_; focus (cbv; done)) | (refine Ok.drawnE (by as_aux_lemma => kernel_rfl) ?_))
      rw [Ar.succ_eq hA (by omega)]
      exact Ok.back (n - (k + 1)) [1, 2, 8, 9, 10] [2] (by omega) (by cbv) ⟨k + 1, rfl, by omega, hc, by cbv, by cbv⟩
    · rw [decide_eq_false h0]
      rw [decide_eq_false h0, Bool.false_or] at hc
      dsimp only at hc
      repeat (first | (apply Ok.run1 hmix hA false 2000; focus (cbv; done)) | (apply Ok.one hmix hA; focus (cbv; done)) | (rw [Ar.notT hA]) | (rw [Ar.notF hA]) | (refine Ok.condT ?_ ?_; focus (cbv; done)) | (refine Ok.condF ?_ ?_; focus (cbv; done)) | (refine Ok.drawnE (by as_aux_lemma => kernel_rfl) ?_))
      refine Ok.op (idx_viewG (E.tyc ⟨yk, yl⟩) (by cbv) (by cbv) (by cbv) (by simp) (by rw [E.tys_eq hE]; simp [hy]) rfl) ?_
      repeat (first | (apply Ok.run1 hmix hA false 2000; focus (cbv; done)) | (apply Ok.one hmix hA; focus (cbv; done)) | (rw [Ar.notT hA]) | (rw [Ar.notF hA]) | (refine Ok.condT ?_ ?_; focus (cbv; done)) | (refine Ok.condF ?_ ?_; focus (cbv; done)) | (refine Ok.drawnE (by as_aux_lemma => kernel_rfl) ?_))
      rw [Ar.eq_eq hA, Ar.not_eq hA]
      by_cases h1 : yk = kk
      · rw [decide_eq_true h1]
        rw [decide_eq_true h1, Bool.true_and] at hc
        repeat (first | (apply Ok.run1 hmix hA false 2000; focus (cbv; done)) | (apply Ok.one hmix hA; focus (cbv; done)) | (rw [Ar.notT hA]) | (rw [Ar.notF hA]) | (refine Ok.condT ?_ ?_; focus (cbv; done)) | (refine Ok.condF ?_ ?_; focus (cbv; done)) | (refine Ok.drawnE (by as_aux_lemma => kernel_rfl) ?_))
        rw [Ar.succ_eq hA (by omega)]
        exact Ok.back (n - (k + 1)) [1, 2, 8, 9, 10] [2] (by omega) (by cbv) ⟨k + 1, rfl, by omega, hc, by cbv, by cbv⟩
      · rw [decide_eq_false h1]
        rw [decide_eq_false h1, Bool.false_and] at hc
        rw [← hc]
        repeat (first | (apply Ok.run1 hmix hA false 2000; focus (cbv; done)) | (apply Ok.one hmix hA; focus (cbv; done)) | (rw [Ar.notT hA]) | (rw [Ar.notF hA]) | (refine Ok.condT ?_ ?_; focus (cbv; done)) | (refine Ok.condF ?_ ?_; focus (cbv; done)) | (refine Ok.drawnE (by as_aux_lemma => kernel_rfl) ?_))
        refine Ok.leaveRet ?_
        repeat (first | (apply Ok.run1 hmix hA false 2000; focus (cbv; done)) | (apply Ok.one hmix hA; focus (cbv; done)) | (rw [Ar.notT hA]) | (rw [Ar.notF hA]) | (refine Ok.condT ?_ ?_; focus (cbv; done)) | (refine Ok.condF ?_ ?_; focus (cbv; done)) | (refine Ok.drawnE (by as_aux_lemma => kernel_rfl) ?_))
        (first | (apply Ok.fin1; (focus (cbv; done)); (focus (cbv; done))) | (apply Ok.fin2; (focus (cbv; done)); (focus (cbv; done))) | (apply Ok.fin3; (focus (cbv; done)); (focus (cbv; done))))
        all_goals rfl
  · rw [decide_eq_false hkl]
    have hke : of.drop k = [] := List.drop_eq_nil_iff.2 (by omega)
    rw [hke, fitsL] at hc
    rw [← hc, Bool.true_and]
    clear hres hc
    cases alike with
    | false =>
      repeat (first | (apply Ok.run1 hmix hA false 2000; focus (cbv; done)) | (apply Ok.one hmix hA; focus (cbv; done)) | (rw [Ar.notT hA]) | (rw [Ar.notF hA]) | (refine Ok.condT ?_ ?_; focus (cbv; done)) | (refine Ok.condF ?_ ?_; focus (cbv; done)) | (refine Ok.drawnE (by as_aux_lemma => kernel_rfl) ?_))
      refine Ok.leave ?_
      repeat (first | (apply Ok.run1 hmix hA false 2000; focus (cbv; done)) | (apply Ok.one hmix hA; focus (cbv; done)) | (rw [Ar.notT hA]) | (rw [Ar.notF hA]) | (refine Ok.condT ?_ ?_; focus (cbv; done)) | (refine Ok.condF ?_ ?_; focus (cbv; done)) | (refine Ok.drawnE (by as_aux_lemma => kernel_rfl) ?_))
      (first | (apply Ok.fin1; (focus (cbv; done)); (focus (cbv; done))) | (apply Ok.fin2; (focus (cbv; done)); (focus (cbv; done))) | (apply Ok.fin3; (focus (cbv; done)); (focus (cbv; done))))
      all_goals rfl
    | true =>
      have h2 := hal rfl
      obtain ⟨i1, hi1⟩ : ∃ i, i = ln - 1 := ⟨_, rfl⟩
      obtain ⟨i2, hi2⟩ : ∃ i, i = ln - 2 := ⟨_, rfl⟩
      have s1 : A .sub .i64 (Int.ofNat ln) 1 = Int.ofNat i1 := by rw [hi1]; exact ofNat_sub (b := 1) hA (by omega) (by omega)
      have s2 : A .sub .i64 (Int.ofNat ln) 2 = Int.ofNat i2 := by rw [hi2]; exact ofNat_sub (b := 2) hA (by omega) (by omega)
      have hx1 : l[i1]? = some (l[i1]'(by omega)) := List.getElem?_eq_getElem (by omega)
      have hx2 : l[i2]? = some (l[i2]'(by omega)) := List.getElem?_eq_getElem (by omega)
      have hm1 : l[i1]'(by omega) ∈ l := List.getElem_mem (by omega)
      have hm2 : l[i2]'(by omega) ∈ l := List.getElem_mem (by omega)
      generalize l[i1]'(by omega) = t1 at hx1 hm1
      generalize l[i2]'(by omega) = t2 at hx2 hm2
      have g1 := szTs_mem hm1
      have g2 := szTs_mem hm2
      have cS := typ_Same hE _ t1 t2 (Nat.le_refl _) (by omega) (by omega)
      have e1 : l.getD (l.length - 1) Ty.zero = t1 := by rw [← hln, ← hi1, List.getD, hx1]; rfl
      have e2 : l.getD (l.length - 2) Ty.zero = t2 := by rw [← hln, ← hi2, List.getD, hx2]; rfl
      rw [e1, e2]
      generalize sameT t1 t2 = b at cS ⊢
      obtain ⟨k1, l1⟩ := t1
      obtain ⟨k2, l2⟩ := t2
      repeat (first | (apply Ok.run1 hmix hA false 2000; focus (cbv; done)) | (apply Ok.one hmix hA; focus (cbv; done)) | (rw [Ar.notT hA]) | (rw [Ar.notF hA]) | (refine Ok.condT ?_ ?_; focus (cbv; done)) | (refine Ok.condF ?_ ?_; focus (cbv; done)) | (refine Ok.drawnE (by as_aux_lemma => kernel_rfl) ?_))
      refine Ok.leave ?_
      repeat (first | (apply Ok.run1 hmix hA false 2000; focus (cbv; done)) | (apply Ok.one hmix hA; focus (cbv; done)) | (rw [Ar.notT hA]) | (rw [Ar.notF hA]) | (refine Ok.condT ?_ ?_; focus (cbv; done)) | (refine Ok.condF ?_ ?_; focus (cbv; done)) | (refine Ok.drawnE (by as_aux_lemma => kernel_rfl) ?_))
      rw [hll, s1]
      refine Ok.dop (idx_viewG (E.tyc ⟨k1, l1⟩) (by cbv) (by cbv) (by cbv) (by simp) (by rw [E.tys_eq hE]; simp [hx1]) rfl) ?_
      repeat (first | (apply Ok.run1 hmix hA false 2000; focus (cbv; done)) | (apply Ok.one hmix hA; focus (cbv; done)) | (rw [Ar.notT hA]) | (rw [Ar.notF hA]) | (refine Ok.condT ?_ ?_; focus (cbv; done)) | (refine Ok.condF ?_ ?_; focus (cbv; done)) | (refine Ok.drawnE (by as_aux_lemma => kernel_rfl) ?_))
      rw [hll, s2]
      refine Ok.dop (idx_viewG (E.tyc ⟨k2, l2⟩) (by cbv) (by cbv) (by cbv) (by simp) (by rw [E.tys_eq hE]; simp [hx2]) rfl) ?_
      repeat (first | (apply Ok.run1 hmix hA false 2000; focus (cbv; done)) | (apply Ok.one hmix hA; focus (cbv; done)) | (rw [Ar.notT hA]) | (rw [Ar.notF hA]) | (refine Ok.condT ?_ ?_; focus (cbv; done)) | (refine Ok.condF ?_ ?_; focus (cbv; done)) | (refine Ok.drawnE (by as_aux_lemma => kernel_rfl) ?_) | (apply Ok.call (cS); (focus (cbv; done)); (focus (cbv; done)); (focus (cbv; done))) | (apply Ok.dcall (cS); (focus (cbv; done)); (focus (cbv; done)); (focus (cbv; done))))
      (first | (apply Ok.fin1; (focus (cbv; done)); (focus (cbv; done))) | (apply Ok.fin2; (focus (cbv; done)); (focus (cbv; done))) | (apply Ok.fin3; (focus (cbv; done)); (focus (cbv; done))))
      all_goals rfl
end Go.Proofs.Ytnojmocoifodjaa.Pv
set_option maxRecDepth 100000
set_option maxHeartbeats 4000000
set_option linter.unusedVariables false
set_option linter.unusedSimpArgs false
namespace Go.Proofs.Ytnojmocoifodjaa.Pv
open Go Go.Proofs
theorem lgetD {α : Type} {l : List α} {i : Nat} {x d : α} (h : l[i]? = some x) : l.getD i d = x := by simp [List.getD, h]
theorem expr_comes {E : Enc} (hE : E = .std) (op : List UInt8) (v : Vl) (n : Int) (a : List Ex4) (s : Shp) (l : List Ty) (tin : Ty) (hv : szV v ≤ 2 ^ 28) (hsz : szTs l ≤ 2 ^ 39) (h1 : op = oAt → 1 ≤ l.length) (h2 : op = oIf → 2 ≤ l.length) :
    CallsV Try.prog 115 [E.ex ⟨op, v, n, a⟩, .agg s.cells, .view (E .tys l), E.tyc tin] (.tup [.pv (E.tyc (comesX op v n s l tin).1), .pv (.int .i64 (comesX op v n s l tin).2)]) [] := by
  obtain ⟨A, hA⟩ : ∃ A : Ar, A = .std := ⟨_, rfl⟩
  have ht0 : E .tys [] = [] := by rw [E.tys_eq hE]; rfl
  obtain ⟨least, most, of, alike, out⟩ := s
  obtain ⟨ofs, hofs⟩ : ∃ o : List PV, o = of.map fun k => .int .i64 k := ⟨_, rfl⟩
  have hcells : (Shp.mk least most of alike out).cells = [.int .i64 least, .int .i64 most, .view ofs, .bool alike, .int .i64 out] := by rw [hofs]; rfl
  rw [hcells]
  have q1 : A .seq op [108, 105, 116] = decide (op = oLit) := Ar.seq_eq hA _ _
  have q2 : A .seq op [120] = decide (op = oX) := Ar.seq_eq hA _ _
  have q3 : A .seq op [97, 116] = decide (op = oAt) := Ar.seq_eq hA _ _
  have q4 : A .seq op [116, 117, 112] = decide (op = oTup) := Ar.seq_eq hA _ _
  have q5 : A .seq op [105, 102] = decide (op = oIf) := Ar.seq_eq hA _ _
  have cT := val_TypeOf hE v hv
  obtain ⟨tk, tl⟩ := tin
  obtain ⟨vk, vi, vb, vs, vt⟩ := v
  unfold comesX
  by_cases k1 : op = oLit
  · rw [if_pos k1]
    generalize typOfM _ = ty at cT ⊢
    obtain ⟨yk, yl⟩ := ty
    refine CallsV.ok (fn := Try.f115) (by kernel_rfl) (by kernel_rfl) rfl (by cbv) (by cbv) ?_
    refine Ok.run hmix hA false 2000 (by cbv) ?_
    rw [q1, decide_eq_true k1]
    repeat (first | (apply Ok.run1 hmix hA false 2000; focus (cbv; done)) | (apply Ok.one hmix hA; focus (cbv; done)) | (rw [Ar.notT hA]) | (rw [Ar.notF hA]) | (refine Ok.condT ?_ ?_; focus (cbv; done)) | (refine Ok.condF ?_ ?_; focus (cbv; done)) | (refine Ok.drawnE (by as_aux_lemma => kernel_rfl) ?_) | (apply Ok.call (cT); (focus (cbv; done)); (focus (cbv; done)); (focus (cbv; done))) | (apply Ok.dcall (cT); (focus (cbv; done)); (focus (cbv; done)); (focus (cbv; done))))
    (first | (apply Ok.fin1; (focus (cbv; done)); (focus (cbv; done))) | (apply Ok.fin2; (focus (cbv; done)); (focus (cbv; done))) | (apply Ok.fin3; (focus (cbv; done)); (focus (cbv; done))))
    all_goals first | rfl | simp [Enc.tyc]
  rw [if_neg k1]
  clear cT
  by_cases k2 : op = oX
  · rw [if_pos k2]
    refine CallsV.ok (fn := Try.f115) (by kernel_rfl) (by kernel_rfl) rfl (by cbv) (by cbv) ?_
    refine Ok.run hmix hA false 2000 (by cbv) ?_
    rw [q1, decide_eq_false k1]
    repeat (first | (apply Ok.run1 hmix hA false 2000; focus (cbv; done)) | (apply Ok.one hmix hA; focus (cbv; done)) | (rw [Ar.notT hA]) | (rw [Ar.notF hA]) | (refine Ok.condT ?_ ?_; focus (cbv; done)) | (refine Ok.condF ?_ ?_; focus (cbv; done)) | (refine Ok.drawnE (by as_aux_lemma => kernel_rfl) ?_))
    rw [q2, decide_eq_true k2]
    repeat (first | (apply Ok.run1 hmix hA false 2000; focus (cbv; done)) | (apply Ok.one hmix hA; focus (cbv; done)) | (rw [Ar.notT hA]) | (rw [Ar.notF hA]) | (refine Ok.condT ?_ ?_; focus (cbv; done)) | (refine Ok.condF ?_ ?_; focus (cbv; done)) | (refine Ok.drawnE (by as_aux_lemma => kernel_rfl) ?_))
    (first | (apply Ok.fin1; (focus (cbv; done)); (focus (cbv; done))) | (apply Ok.fin2; (focus (cbv; done)); (focus (cbv; done))) | (apply Ok.fin3; (focus (cbv; done)); (focus (cbv; done))))
    all_goals first | rfl | simp [Enc.tyc]
  rw [if_neg k2]
  by_cases k3 : op = oAt
  · rw [if_pos k3]
    have hl := h1 k3
    have hx0 : l[0]? = some (l[0]'(by omega)) := List.getElem?_eq_getElem (by omega)
    generalize l[0]'(by omega) = t0 at hx0
    rw [lgetD hx0]
    obtain ⟨k0, l0⟩ := t0
    obtain ⟨n0, hn0⟩ : ∃ n, n = l0.length := ⟨_, rfl⟩
    have hl0 : A .lenP (E .tys l0) = Int.ofNat n0 := by rw [Ar.lenP_eq hA, tys_len hE, hn0]; rfl
    have q6 : A .lt n 0 = decide (n < 0) := Ar.lt_eq hA _ _
    have q7 : A .le (Int.ofNat n0) n = decide ((n0 : Int) ≤ n) := Ar.le_eq hA _ _
    refine CallsV.ok (fn := Try.f115) (by kernel_rfl) (by kernel_rfl) rfl (by cbv) (by cbv) ?_
    refine Ok.run hmix hA false 2000 (by cbv) ?_
    rw [q1, decide_eq_false k1]
    repeat (first | (apply Ok.run1 hmix hA false 2000; focus (cbv; done)) | (apply Ok.one hmix hA; focus (cbv; done)) | (rw [Ar.notT hA]) | (rw [Ar.notF hA]) | (refine Ok.condT ?_ ?_; focus (cbv; done)) | (refine Ok.condF ?_ ?_; focus (cbv; done)) | (refine Ok.drawnE (by as_aux_lemma => kernel_rfl) ?_))
    rw [q2, decide_eq_false k2]
    repeat (first | (apply Ok.run1 hmix hA false 2000; focus (cbv; done)) | (apply Ok.one hmix hA; focus (cbv; done)) | (rw [Ar.notT hA]) | (rw [Ar.notF hA]) | (refine Ok.condT ?_ ?_; focus (cbv; done)) | (refine Ok.condF ?_ ?_; focus (cbv; done)) | (refine Ok.drawnE (by as_aux_lemma => kernel_rfl) ?_))
    rw [q3, decide_eq_true k3]
    repeat (first | (apply Ok.run1 hmix hA false 2000; focus (cbv; done)) | (apply Ok.one hmix hA; focus (cbv; done)) | (rw [Ar.notT hA]) | (rw [Ar.notF hA]) | (refine Ok.condT ?_ ?_; focus (cbv; done)) | (refine Ok.condF ?_ ?_; focus (cbv; done)) | (refine Ok.drawnE (by as_aux_lemma => kernel_rfl) ?_))
    rw [q6]
    by_cases c1 : n < 0
    · rw [decide_eq_true c1, if_pos (.inl c1)]
      repeat (first | (apply Ok.run1 hmix hA false 2000; focus (cbv; done)) | (apply Ok.one hmix hA; focus (cbv; done)) | (rw [Ar.notT hA]) | (rw [Ar.notF hA]) | (refine Ok.condT ?_ ?_; focus (cbv; done)) | (refine Ok.condF ?_ ?_; focus (cbv; done)) | (refine Ok.drawnE (by as_aux_lemma => kernel_rfl) ?_))
      (first | (apply Ok.fin1; (focus (cbv; done)); (focus (cbv; done))) | (apply Ok.fin2; (focus (cbv; done)); (focus (cbv; done))) | (apply Ok.fin3; (focus (cbv; done)); (focus (cbv; done))))
      all_goals first | rfl | simp [Enc.tyc, ht0, Ty.zero]
    rw [decide_eq_false c1]
    repeat (first | (apply Ok.run1 hmix hA false 2000; focus (cbv; done)) | (apply Ok.one hmix hA; focus (cbv; done)) | (rw [Ar.notT hA]) | (rw [Ar.notF hA]) | (refine Ok.condT ?_ ?_; focus (cbv; done)) | (refine Ok.condF ?_ ?_; focus (cbv; done)) | (refine Ok.drawnE (by as_aux_lemma => kernel_rfl) ?_))
    refine Ok.dop (idx_viewG (E.tyc ⟨k0, l0⟩) (by cbv) (by cbv) (by cbv) (by simp) (by rw [E.tys_eq hE]; simp [hx0]) rfl) ?_
    repeat (first | (apply Ok.run1 hmix hA false 2000; focus (cbv; done)) | (apply Ok.one hmix hA; focus (cbv; done)) | (rw [Ar.notT hA]) | (rw [Ar.notF hA]) | (refine Ok.condT ?_ ?_; focus (cbv; done)) | (refine Ok.condF ?_ ?_; focus (cbv; done)) | (refine Ok.drawnE (by as_aux_lemma => kernel_rfl) ?_))
    rw [hl0, q7]
    by_cases c2 : (n0 : Int) ≤ n
    · rw [decide_eq_true c2, if_pos (.inr (by rw [hn0] at c2; exact c2))]
      repeat (first | (apply Ok.run1 hmix hA false 2000; focus (cbv; done)) | (apply Ok.one hmix hA; focus (cbv; done)) | (rw [Ar.notT hA]) | (rw [Ar.notF hA]) | (refine Ok.condT ?_ ?_; focus (cbv; done)) | (refine Ok.condF ?_ ?_; focus (cbv; done)) | (refine Ok.drawnE (by as_aux_lemma => kernel_rfl) ?_))
      (first | (apply Ok.fin1; (focus (cbv; done)); (focus (cbv; done))) | (apply Ok.fin2; (focus (cbv; done)); (focus (cbv; done))) | (apply Ok.fin3; (focus (cbv; done)); (focus (cbv; done))))
      all_goals first | rfl | simp [Enc.tyc, ht0, Ty.zero]
    rw [decide_eq_false c2, if_neg (by rw [hn0] at c2; show ¬ (n < 0 ∨ (l0.length : Int) ≤ n); omega)]
    obtain ⟨m, rfl⟩ : ∃ m : Nat, n = Int.ofNat m := ⟨n.toNat, by rw [Int.ofNat_eq_natCast]; omega⟩
    have hm : m < l0.length := by rw [hn0] at c2; rw [Int.ofNat_eq_natCast] at c2; omega
    have hxm : l0[m]? = some l0[m] := List.getElem?_eq_getElem hm
    generalize l0[m] = y at hxm
    rw [show ((Ty.mk k0 l0).of.getD (Int.ofNat m).toNat Ty.zero) = y from lgetD hxm]
    obtain ⟨yk, yl⟩ := y
    repeat (first | (apply Ok.run1 hmix hA false 2000; focus (cbv; done)) | (apply Ok.one hmix hA; focus (cbv; done)) | (rw [Ar.notT hA]) | (rw [Ar.notF hA]) | (refine Ok.condT ?_ ?_; focus (cbv; done)) | (refine Ok.condF ?_ ?_; focus (cbv; done)) | (refine Ok.drawnE (by as_aux_lemma => kernel_rfl) ?_))
    refine Ok.dop (idx_view (E.tyc ⟨k0, l0⟩) (by cbv) (by cbv) (by simp) (by rw [E.tys_eq hE]; simp [hx0]) rfl) ?_
    repeat (first | (apply Ok.run1 hmix hA false 2000; focus (cbv; done)) | (apply Ok.one hmix hA; focus (cbv; done)) | (rw [Ar.notT hA]) | (rw [Ar.notF hA]) | (refine Ok.condT ?_ ?_; focus (cbv; done)) | (refine Ok.condF ?_ ?_; focus (cbv; done)) | (refine Ok.drawnE (by as_aux_lemma => kernel_rfl) ?_))
    refine Ok.dop (idx_view (E.tyc ⟨yk, yl⟩) (by cbv) (by cbv) (by simp) (by rw [E.tys_eq hE]; simp [hxm]) rfl) ?_
    repeat (first | (apply Ok.run1 hmix hA false 2000; focus (cbv; done)) | (apply Ok.one hmix hA; focus (cbv; done)) | (rw [Ar.notT hA]) | (rw [Ar.notF hA]) | (refine Ok.condT ?_ ?_; focus (cbv; done)) | (refine Ok.condF ?_ ?_; focus (cbv; done)) | (refine Ok.drawnE (by as_aux_lemma => kernel_rfl) ?_))
    (first | (apply Ok.fin1; (focus (cbv; done)); (focus (cbv; done))) | (apply Ok.fin2; (focus (cbv; done)); (focus (cbv; done))) | (apply Ok.fin3; (focus (cbv; done)); (focus (cbv; done))))
    all_goals first | rfl | simp [Enc.tyc]
  rw [if_neg k3]
  by_cases k4 : op = oTup
  · rw [if_pos k4]
    have cC := typ_Check hE ⟨4, l⟩ (by rw [szT]; omega)
    generalize ckT ⟨4, l⟩ 0 = r at cC ⊢
    refine CallsV.ok (fn := Try.f115) (by kernel_rfl) (by kernel_rfl) rfl (by cbv) (by cbv) ?_
    refine Ok.run hmix hA false 2000 (by cbv) ?_
    rw [q1, decide_eq_false k1]
    repeat (first | (apply Ok.run1 hmix hA false 2000; focus (cbv; done)) | (apply Ok.one hmix hA; focus (cbv; done)) | (rw [Ar.notT hA]) | (rw [Ar.notF hA]) | (refine Ok.condT ?_ ?_; focus (cbv; done)) | (refine Ok.condF ?_ ?_; focus (cbv; done)) | (refine Ok.drawnE (by as_aux_lemma => kernel_rfl) ?_))
    rw [q2, decide_eq_false k2]
    repeat (first | (apply Ok.run1 hmix hA false 2000; focus (cbv; done)) | (apply Ok.one hmix hA; focus (cbv; done)) | (rw [Ar.notT hA]) | (rw [Ar.notF hA]) | (refine Ok.condT ?_ ?_; focus (cbv; done)) | (refine Ok.condF ?_ ?_; focus (cbv; done)) | (refine Ok.drawnE (by as_aux_lemma => kernel_rfl) ?_))
    rw [q3, decide_eq_false k3]
    repeat (first | (apply Ok.run1 hmix hA false 2000; focus (cbv; done)) | (apply Ok.one hmix hA; focus (cbv; done)) | (rw [Ar.notT hA]) | (rw [Ar.notF hA]) | (refine Ok.condT ?_ ?_; focus (cbv; done)) | (refine Ok.condF ?_ ?_; focus (cbv; done)) | (refine Ok.drawnE (by as_aux_lemma => kernel_rfl) ?_))
    rw [q4, decide_eq_true k4]
    repeat (first | (apply Ok.run1 hmix hA false 2000; focus (cbv; done)) | (apply Ok.one hmix hA; focus (cbv; done)) | (rw [Ar.notT hA]) | (rw [Ar.notF hA]) | (refine Ok.condT ?_ ?_; focus (cbv; done)) | (refine Ok.condF ?_ ?_; focus (cbv; done)) | (refine Ok.drawnE (by as_aux_lemma => kernel_rfl) ?_) | (apply Ok.call (cC); (focus (cbv; done)); (focus (cbv; done)); (focus (cbv; done))) | (apply Ok.dcall (cC); (focus (cbv; done)); (focus (cbv; done)); (focus (cbv; done))))
    rw [Ar.eq_eq hA, Ar.not_eq hA]
    by_cases c0 : r = 0
    · rw [decide_eq_true c0, if_neg (by simpa using c0)]
      repeat (first | (apply Ok.run1 hmix hA false 2000; focus (cbv; done)) | (apply Ok.one hmix hA; focus (cbv; done)) | (rw [Ar.notT hA]) | (rw [Ar.notF hA]) | (refine Ok.condT ?_ ?_; focus (cbv; done)) | (refine Ok.condF ?_ ?_; focus (cbv; done)) | (refine Ok.drawnE (by as_aux_lemma => kernel_rfl) ?_))
      (first | (apply Ok.fin1; (focus (cbv; done)); (focus (cbv; done))) | (apply Ok.fin2; (focus (cbv; done)); (focus (cbv; done))) | (apply Ok.fin3; (focus (cbv; done)); (focus (cbv; done))))
      all_goals first | rfl | simp [Enc.tyc]
    · rw [decide_eq_false c0, if_pos c0]
      repeat (first | (apply Ok.run1 hmix hA false 2000; focus (cbv; done)) | (apply Ok.one hmix hA; focus (cbv; done)) | (rw [Ar.notT hA]) | (rw [Ar.notF hA]) | (refine Ok.condT ?_ ?_; focus (cbv; done)) | (refine Ok.condF ?_ ?_; focus (cbv; done)) | (refine Ok.drawnE (by as_aux_lemma => kernel_rfl) ?_))
      (first | (apply Ok.fin1; (focus (cbv; done)); (focus (cbv; done))) | (apply Ok.fin2; (focus (cbv; done)); (focus (cbv; done))) | (apply Ok.fin3; (focus (cbv; done)); (focus (cbv; done))))
      all_goals first | rfl | simp [Enc.tyc, ht0, Ty.zero]
  rw [if_neg k4]
  by_cases k5 : op = oIf
  · rw [if_pos k5]
    have hl := h2 k5
    have hx1 : l[1]? = some (l[1]'(by omega)) := List.getElem?_eq_getElem (by omega)
    generalize l[1]'(by omega) = t1 at hx1
    rw [lgetD hx1]
    obtain ⟨k0, l0⟩ := t1
    refine CallsV.ok (fn := Try.f115) (by kernel_rfl) (by kernel_rfl) rfl (by cbv) (by cbv) ?_
    refine Ok.run hmix hA false 2000 (by cbv) ?_
    rw [q1, decide_eq_false k1]
    repeat (first | (apply Ok.run1 hmix hA false 2000; focus (cbv; done)) | (apply Ok.one hmix hA; focus (cbv; done)) | (rw [Ar.notT hA]) | (rw [Ar.notF hA]) | (refine Ok.condT ?_ ?_; focus (cbv; done)) | (refine Ok.condF ?_ ?_; focus (cbv; done)) | (refine Ok.drawnE (by as_aux_lemma => kernel_rfl) ?_))
    rw [q2, decide_eq_false k2]
    repeat (first | (apply Ok.run1 hmix hA false 2000; focus (cbv; done)) | (apply Ok.one hmix hA; focus (cbv; done)) | (rw [Ar.notT hA]) | (rw [Ar.notF hA]) | (refine Ok.condT ?_ ?_; focus (cbv; done)) | (refine Ok.condF ?_ ?_; focus (cbv; done)) | (refine Ok.drawnE (by as_aux_lemma => kernel_rfl) ?_))
    rw [q3, decide_eq_false k3]
    repeat (first | (apply Ok.run1 hmix hA false 2000; focus (cbv; done)) | (apply Ok.one hmix hA; focus (cbv; done)) | (rw [Ar.notT hA]) | (rw [Ar.notF hA]) | (refine Ok.condT ?_ ?_; focus (cbv; done)) | (refine Ok.condF ?_ ?_; focus (cbv; done)) | (refine Ok.drawnE (by as_aux_lemma => kernel_rfl) ?_))
    rw [q4, decide_eq_false k4]
    repeat (first | (apply Ok.run1 hmix hA false 2000; focus (cbv; done)) | (apply Ok.one hmix hA; focus (cbv; done)) | (rw [Ar.notT hA]) | (rw [Ar.notF hA]) | (refine Ok.condT ?_ ?_; focus (cbv; done)) | (refine Ok.condF ?_ ?_; focus (cbv; done)) | (refine Ok.drawnE (by as_aux_lemma => kernel_rfl) ?_))
    rw [q5, decide_eq_true k5]
    repeat (first | (apply Ok.run1 hmix hA false 2000; focus (cbv; done)) | (apply Ok.one hmix hA; focus (cbv; done)) | (rw [Ar.notT hA]) | (rw [Ar.notF hA]) | (refine Ok.condT ?_ ?_; focus (cbv; done)) | (refine Ok.condF ?_ ?_; focus (cbv; done)) | (refine Ok.drawnE (by as_aux_lemma => kernel_rfl) ?_))
    refine Ok.op (idx_view (E.tyc ⟨k0, l0⟩) (by cbv) (by cbv) (by simp) (by rw [E.tys_eq hE]; simp [hx1]) rfl) ?_
    repeat (first | (apply Ok.run1 hmix hA false 2000; focus (cbv; done)) | (apply Ok.one hmix hA; focus (cbv; done)) | (rw [Ar.notT hA]) | (rw [Ar.notF hA]) | (refine Ok.condT ?_ ?_; focus (cbv; done)) | (refine Ok.condF ?_ ?_; focus (cbv; done)) | (refine Ok.drawnE (by as_aux_lemma => kernel_rfl) ?_))
    (first | (apply Ok.fin1; (focus (cbv; done)); (focus (cbv; done))) | (apply Ok.fin2; (focus (cbv; done)); (focus (cbv; done))) | (apply Ok.fin3; (focus (cbv; done)); (focus (cbv; done))))
    all_goals first | rfl | simp [Enc.tyc]
  rw [if_neg k5]
  refine CallsV.ok (fn := Try.f115) (by kernel_rfl) (by kernel_rfl) rfl (by cbv) (by cbv) ?_
  refine Ok.run hmix hA false 2000 (by cbv) ?_
  rw [q1, decide_eq_false k1]
  repeat (first | (apply Ok.run1 hmix hA false 2000; focus (cbv; done)) | (apply Ok.one hmix hA; focus (cbv; done)) | (rw [Ar.notT hA]) | (rw [Ar.notF hA]) | (refine Ok.condT ?_ ?_; focus (cbv; done)) | (refine Ok.condF ?_ ?_; focus (cbv; done)) | (refine Ok.drawnE (by as_aux_lemma => kernel_rfl) ?_))
  rw [q2, decide_eq_false k2]
  repeat (first | (apply Ok.run1 hmix hA false 2000; focus (cbv; done)) | (apply Ok.one hmix hA; focus (cbv; done)) | (rw [Ar.notT hA]) | (rw [Ar.notF hA]) | (refine Ok.condT ?_ ?_; focus (cbv; done)) | (refine Ok.condF ?_ ?_; focus (cbv; done)) | (refine Ok.drawnE (by as_aux_lemma => kernel_rfl) ?_))
  rw [q3, decide_eq_false k3]
  repeat (first | (apply Ok.run1 hmix hA false 2000; focus (cbv; done)) | (apply Ok.one hmix hA; focus (cbv; done)) | (rw [Ar.notT hA]) | (rw [Ar.notF hA]) | (refine Ok.condT ?_ ?_; focus (cbv; done)) | (refine Ok.condF ?_ ?_; focus (cbv; done)) | (refine Ok.drawnE (by as_aux_lemma => kernel_rfl) ?_))
  rw [q4, decide_eq_false k4]
  repeat (first | (apply Ok.run1 hmix hA false 2000; focus (cbv; done)) | (apply Ok.one hmix hA; focus (cbv; done)) | (rw [Ar.notT hA]) | (rw [Ar.notF hA]) | (refine Ok.condT ?_ ?_; focus (cbv; done)) | (refine Ok.condF ?_ ?_; focus (cbv; done)) | (refine Ok.drawnE (by as_aux_lemma => kernel_rfl) ?_))
  rw [q5, decide_eq_false k5]
  repeat (first | (apply Ok.run1 hmix hA false 2000; focus (cbv; done)) | (apply Ok.one hmix hA; focus (cbv; done)) | (rw [Ar.notT hA]) | (rw [Ar.notF hA]) | (refine Ok.condT ?_ ?_; focus (cbv; done)) | (refine Ok.condF ?_ ?_; focus (cbv; done)) | (refine Ok.drawnE (by as_aux_lemma => kernel_rfl) ?_))
  (first | (apply Ok.fin1; (focus (cbv; done)); (focus (cbv; done))) | (apply Ok.fin2; (focus (cbv; done)); (focus (cbv; done))) | (apply Ok.fin3; (focus (cbv; done)); (focus (cbv; done))))
  all_goals first | rfl | simp [Enc.tyc, ht0]
theorem sizXs_mem : ∀ {l : List Ex4} {e : Ex4}, e ∈ l → sizX e ≤ sizXs l
  | [], e, he => by simp at he
  | x :: l, e, he => by
    rw [sizXs]
    rcases List.mem_cons.1 he with rfl | he
    · omega
    · have := sizXs_mem he; omega
theorem sizXs_take : ∀ (l : List Ex4) (k : Nat), sizXs (l.take k) ≤ sizXs l
  | [], k => by simp [sizXs]
  | x :: l, 0 => by simp [sizXs]
  | x :: l, k + 1 => by rw [List.take_succ_cons, sizXs, sizXs]; have := sizXs_take l k; omega
theorem sizXs_append : ∀ (l m : List Ex4), sizXs (l ++ m) = sizXs l + sizXs m
  | [], m => by simp [sizXs]
  | x :: l, m => by rw [List.cons_append, sizXs, sizXs, sizXs_append l m]; omega
theorem sizXs_len : ∀ l : List Ex4, l.length ≤ sizXs l
  | [] => by simp
  | x :: l => by have := sizXs_len l; rw [sizXs, List.length_cons]; cases x; rw [sizX]; omega
theorem expr_Size {E : Enc} (hE : E = .std) : ∀ (n : Nat) (e : Ex4), SizeOf.sizeOf e ≤ n → sizX e ≤ 2 ^ 40 → CallsV Try.prog 43 [E.ex e] (.pv (.int .i64 (Int.ofNat (sizX e)))) [] := by
  intro n
  induction n with
  | zero => intro e h; cases e; simp at h
  | succ n ih =>
    rintro ⟨op, ⟨vk, vi, vb, vs, vt⟩, nn, a⟩ hn hsz
    obtain ⟨A, hA⟩ : ∃ A : Ar, A = .std := ⟨_, rfl⟩
    rw [sizX] at hsz
    have hlen := sizXs_len a
    obtain ⟨ln, hln⟩ : ∃ n, n = a.length := ⟨_, rfl⟩
    have hll : A .lenP (E .exs a) = Int.ofNat ln := by rw [Ar.lenP_eq hA, exs_len hE, hln]; rfl
    have hsub : ∀ x, x ∈ a → CallsV Try.prog 43 [E.ex x] (.pv (.int .i64 (Int.ofNat (sizX x)))) [] := fun x hx => by
      have h1 := List.sizeOf_lt_of_mem hx
      have h2 := sizXs_mem hx
      simp at hn
      exact ih x (by omega) (by omega)
    clear ih
    rw [sizX]
    obtain ⟨res, hres⟩ : ∃ r, r = 1 + sizXs a := ⟨_, rfl⟩
    rw [← hres]
    refine CallsV.ok (fn := Try.f43) (by kernel_rfl) (by kernel_rfl) rfl (by cbv) (by cbv) ?_
    repeat (first | (apply Ok.run1 hmix hA false 2000; focus (cbv; done)) | (apply Ok.one hmix hA; focus (cbv; done)) | (rw [Ar.notT hA]) | (rw [Ar.notF hA]) | (refine Ok.condT ?_ ?_; focus (cbv; done)) | (refine Ok.condF ?_ ?_; focus (cbv; done)) | (refine Ok.drawnE (by as_aux_lemma => kernel_rfl) ?_))
    rw [hll]
    refine Ok.loopAt [3, 7, 8, 9] [] (fun m s h => ∃ (k q : Nat), m = ln - k ∧ k ≤ ln ∧ q = 1 + sizXs (a.take k) ∧ s = mkS 19 [(3, .pv (.int .i64 (Int.ofNat q))), (7, .pv (.view (E .exs a))), (8, .pv (.int .i64 (Int.ofNat ln))), (9, .pv (.int .i64 (Int.ofNat k)))] ∧ h = []) (ln - 0) (by cbv) ⟨0, 1, rfl, Nat.zero_le _, by simp [sizXs], by cbv, by cbv⟩ ?_
    rintro m s h ⟨k, q, rfl, hk, hq, rfl, rfl⟩
    refine Ok.run hmix hA false 2000 (by cbv) ?_
    rw [ofNat_lt hA]
    by_cases hkl : k < ln
    · rw [decide_eq_true hkl]
      repeat (first | (apply Ok.run1 hmix hA false 2000; focus (cbv; done)) | (apply Ok.one hmix hA; focus (cbv; done)) | (rw [Ar.notT hA]) | (rw [Ar.notF hA]) | (refine Ok.condT ?_ ?_; focus (cbv; done)) | (refine Ok.condF ?_ ?_; focus (cbv; done)) | (refine Ok.drawnE (by as_aux_lemma => kernel_rfl) ?_))
      have hx : a[k]? = some (a[k]'(by omega)) := List.getElem?_eq_getElem (by omega)
      have hxm : a[k]'(by omega) ∈ a := List.getElem_mem (by omega)
      have htk : a.take (k + 1) = a.take k ++ [a[k]'(by omega)] := by rw [List.take_add_one, hx]; rfl
      generalize a[k]'(by omega) = x at hx hxm htk
      have cx := hsub x hxm
      have hx1 := sizXs_mem hxm
      have htl := sizXs_take a k
      obtain ⟨q', hq'⟩ : ∃ q', q' = q + sizX x := ⟨_, rfl⟩
      have hadd : A .add .i64 (Int.ofNat q) (Int.ofNat (sizX x)) = Int.ofNat q' := by rw [hq']; exact ofNat_add hA (by omega)
      generalize hsx : sizX x = sx at *
      refine Ok.op (idx_view (E.ex x) (by cbv) (by cbv) (by simp) (by rw [E.exs_eq hE]; simp [hx]) rfl) ?_
      repeat (first | (apply Ok.run1 hmix hA false 2000; focus (cbv; done)) | (apply Ok.one hmix hA; focus (cbv; done)) | (rw [Ar.notT hA]) | (rw [Ar.notF hA]) | (refine Ok.condT ?_ ?_; focus (cbv; done)) | (refine Ok.condF ?_ ?_; focus (cbv; done)) | (refine Ok.drawnE (by as_aux_lemma => kernel_rfl) ?_) | (apply Ok.call (cx); (focus (cbv; done)); (focus (cbv; done)); (focus (cbv; done))) | (apply Ok.dcall (cx); (focus (cbv; done)); (focus (cbv; done)); (focus (cbv; done))))
      rw [hadd]
      rw [Ar.succ_eq (k := k) hA (by omega)]
      exact Ok.back (ln - (k + 1)) [3, 7, 8, 9] [] (by omega) (by cbv) ⟨k + 1, q', rfl, by omega, by rw [hq', hq, htk, sizXs_append, sizXs, sizXs, hsx]; omega, by cbv, by cbv⟩
    · rw [decide_eq_false hkl]
      have hke : k = a.length := by omega
      rw [hke, List.take_length, ← hres] at hq
      rw [← hq]
      repeat (first | (apply Ok.run1 hmix hA false 2000; focus (cbv; done)) | (apply Ok.one hmix hA; focus (cbv; done)) | (rw [Ar.notT hA]) | (rw [Ar.notF hA]) | (refine Ok.condT ?_ ?_; focus (cbv; done)) | (refine Ok.condF ?_ ?_; focus (cbv; done)) | (refine Ok.drawnE (by as_aux_lemma => kernel_rfl) ?_))
      refine Ok.leave ?_
      repeat (first | (apply Ok.run1 hmix hA false 2000; focus (cbv; done)) | (apply Ok.one hmix hA; focus (cbv; done)) | (rw [Ar.notT hA]) | (rw [Ar.notF hA]) | (refine Ok.condT ?_ ?_; focus (cbv; done)) | (refine Ok.condF ?_ ?_; focus (cbv; done)) | (refine Ok.drawnE (by as_aux_lemma => kernel_rfl) ?_))
      exact Ok.fin (by cbv) (FS.out (by cbv) (PLe.refl _))
end Go.Proofs.Ytnojmocoifodjaa.Pv
