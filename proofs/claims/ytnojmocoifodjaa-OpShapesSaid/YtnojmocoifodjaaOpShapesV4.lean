/- The law OpShapes of this seat: a part of its proof (an abstract evaluator of the code that is proved sound, and contracts of functions), with no condition. -/
import Derived.Test.YtnojmocoifodjaaOpShapesV3
import Derived.Test.YtnojmocoifodjaaOpShapesV2
set_option maxRecDepth 100000
set_option maxHeartbeats 4000000
set_option linter.unusedVariables false
set_option linter.unusedSimpArgs false
namespace Go.Proofs.Ytnojmocoifodjaa.Pv
open Go Go.Proofs
mutual
def szX : Ex4 → Nat
  | .mk op v n a => 1 + szV v + szXs a
def szXs : List Ex4 → Nat
  | [] => 0
  | v :: l => szX v + szXs l
end
theorem szXs_mem : ∀ {l : List Ex4} {e : Ex4}, e ∈ l → szX e ≤ szXs l
  | [], e, he => by simp at he
  | x :: l, e, he => by
    rw [szXs]
    rcases List.mem_cons.1 he with rfl | he
    · omega
    · have := szXs_mem he; omega
theorem szXs_len : ∀ a : List Ex4, a.length ≤ szXs a
  | [] => by simp
  | e :: a => by have := szXs_len a; rw [szXs, List.length_cons]; cases e; rw [szX]; omega
theorem law4_Of {E : Enc} (hE : E = .std) : ∀ (n : Nat) (v : Ex4), SizeOf.sizeOf v ≤ n → szX v ≤ 2 ^ 27 → CallsV Try.prog 31 [E.ex v] (.pv (E.ex v)) [] := by
  intro n
  induction n with
  | zero => intro v h; cases v; simp at h
  | succ n ih =>
    rintro ⟨op, ⟨vk, vi, vb, vs, vt⟩, nn, l⟩ hn hsz
    obtain ⟨A, hA⟩ : ∃ A : Ar, A = .std := ⟨_, rfl⟩
    rw [szX] at hsz
    have hlen := szXs_len l
    have hsub : ∀ e, e ∈ l → CallsV Try.prog 31 [E.ex e] (.pv (E.ex e)) [] := fun e he => by
      have h1 := List.sizeOf_lt_of_mem he
      have h2 := szXs_mem he
      simp only [Ex4.mk.sizeOf_spec] at hn
      exact ih e (by omega) (by omega)
    have hll : A .lenP (E .exs l) = Int.ofNat l.length := by rw [Ar.lenP_eq hA, E.exs_eq hE, List.length_map]; rfl
    have cv := law2_Of hE _ ⟨vk, vi, vb, vs, vt⟩ (Nat.le_refl _) (by omega)
    refine CallsV.ok (fn := Try.f31) (by kernel_rfl) (by kernel_rfl) rfl (by cbv) (by cbv) ?_
    refine Ok.run hmix hA false 2000 (by cbv) ?_
    refine Ok.dcall (cv) (by cbv) (by cbv) (by cbv) ?_
    refine Ok.run hmix hA false 2000 (by cbv) ?_
    refine Ok.drawn (by kernel_rfl) ?_
    refine Ok.run hmix hA false 2000 (by cbv) ?_
    refine Ok.le (Le.nilBox 3 7 29 44 8 (by cbv) (by cbv) (by cbv) (by decide)) ?_
    refine Ok.loopAt [1, 2, 3, 4] [1, 2, 3, 29] (fun m s h => ∃ (k q : Nat) (es : List PV), m = l.length - k ∧ k ≤ l.length ∧ q = k ∧ es = E .exs (l.take k) ∧
      s = mkS 32 [(1, .ptr 1 0), (2, .ptr 2 0), (3, .ptr 3 0), (4, .pv (.int .i64 (Int.ofNat k)))] ∧
      h = [(1, .box [.pv (.str op), .pv (.int .i64 vk), .pv (.int .i64 vi), .pv (.bool vb), .pv (.str vs), .pv (.view (E .vls vt)), .pv (.int .i64 nn), .pv (.view (E .exs l))] true), (2, .box [.pv (.str []), .pv (.int .i64 0), .pv (.int .i64 0), .pv (.bool false), .pv (.str []), .pv .nil, .pv (.int .i64 0), .pv .nil] true),
        (3, .box [.pv (.str op), .pv (.int .i64 vk), .pv (.int .i64 vi), .pv (.bool vb), .pv (.str vs), .pv (.view (E .vls vt)), .pv (.int .i64 nn), .ref 29 q] true), (29, .row 44 8 es true)]) (l.length - 0) (by cbv) ⟨0, 0, [], rfl, Nat.zero_le _, rfl, by rw [E.exs_eq hE]; rfl, by cbv, by cbv⟩ ?_
    rintro m s h ⟨k, q, es, rfl, hk, hq, hes, rfl, rfl⟩
    have hesl : q = es.length := by rw [hes, E.exs_eq hE, List.length_map, List.length_take]; omega
    refine Ok.run hmix hA false 2000 (by cbv) ?_
    refine Ok.cond (by cbv) ?_ ?_
    · intro h1
      rw [Ar.lt_eq hA, hll, decide_eq_true_eq] at h1
      have hkl : k < l.length := by simpa using h1
      have hx : l[k]? = some l[k] := List.getElem?_eq_getElem hkl
      have hm : l[k] ∈ l := List.getElem_mem hkl
      have htake : l.take (k + 1) = l.take k ++ [l[k]] := by rw [List.take_add_one, hx]; rfl
      generalize l[k] = e at hx hm htake
      have hge := hsub e hm
      refine Ok.run hmix hA false 2000 (by cbv) ?_
      refine Ok.dop (idx_view (E.ex e) (by cbv) (by cbv) (by simp) (by rw [E.exs_eq hE]; simp [hx]) rfl) ?_
      refine Ok.run hmix hA false 2000 (by cbv) ?_
      refine Ok.dcall (hge) (by cbv) (by cbv) (by cbv) ?_
      refine Ok.run hmix hA false 2000 (by cbv) ?_
      obtain ⟨es3, hes3⟩ : ∃ es3, es3 = es ++ [E.ex e] := ⟨_, rfl⟩
      obtain ⟨n3, hn3⟩ : ∃ n3, n3 = q + 1 := ⟨_, rfl⟩
      refine Ok.dop (app_ref (by cbv) (by cbv) hesl (by cbv) (by cbv) (by decide) (by simp only [List.length_singleton]; omega) (by unfold maxLen; simp only [List.length_singleton]; omega) n3 (by exact hn3) es3 (by rw [hes3]; rfl)) ?_
      refine Ok.run hmix hA false 2000 (by cbv) ?_
      refine Ok.drawn (by kernel_rfl) ?_
      refine Ok.run hmix hA false 2000 (by cbv) ?_
      refine Ok.back (l.length - (k + 1)) [1, 2, 3, 4] [1, 2, 3, 29] (by omega) (by cbv) ⟨k + 1, n3, es3, rfl, by omega, by omega, by rw [hes3, hes, htake, E.exs_eq hE, E.exs_eq hE]; simp, ?_, by cbv⟩
      rw [Ar.succ_eq hA (by omega)]; cbv
    · intro h1
      have hke : k = l.length := by
        rw [Ar.lt_eq hA, hll, decide_eq_false_iff_not] at h1
        simp at h1; omega
      subst hke
      rw [List.take_length] at hes
      subst hes
      refine Ok.run hmix hA false 2000 (by cbv) ?_
      refine Ok.leave ?_
      refine Ok.run hmix hA false 2000 (by cbv) ?_
      exact Ok.fin (by cbv) (FS.out (p := E.ex ⟨op, ⟨vk, vi, vb, vs, vt⟩, nn, l⟩) (ids := [29]) (by simp [frz2, frz1, frzL, frz0, PV.rlx, rowOf, hget, ← hesl, Enc.ex]) (PLe.refl _))
end Go.Proofs.Ytnojmocoifodjaa.Pv
set_option maxRecDepth 100000
set_option maxHeartbeats 4000000
set_option linter.unusedVariables false
set_option linter.unusedSimpArgs false
namespace Go.Proofs.Ytnojmocoifodjaa.Pv
open Go Go.Proofs
def xX : Ex4 := ⟨bX, .zero, 0, []⟩
def xLit (v : Vl) : Ex4 := ⟨bLit, v, 0, []⟩
def bLt : List UInt8 := [108, 116]
theorem law12_known : CallsV Try.prog 13 [] (.pv (.bool true)) [] := by
  have hE : Enc.std = Enc.std := rfl
  have c1 := gen_Of hE ⟨3, [], ⟨0, []⟩, [⟨bLt, .zero, 0, [xX, xLit (vInt 3)]⟩], ⟨[], .zero, 0, []⟩, 0, 0⟩ (by simp [wfEs, wfE, arity, bLt, xX, xLit, bX, bLit, bAt, bAnd, bOr, bIf]) (by decide)
  have c2 := gen_Expr hE _ ⟨bAnd, .zero, 0, [xX, xX]⟩ (Nat.le_refl _) (by simp [wfEs, wfE, arity, xX, bX, bAt, bAnd, bOr, bIf]) (by decide)
  have c3 := gen_Key hE ⟨7, [], ⟨0, []⟩, [], xX, 0, 0⟩ (by simp [wfEs, wfE, arity, xX, bX, bAt, bAnd, bOr, bIf]) (by decide)
  refine CallsV.ok (fn := Try.f13) (by kernel_rfl) (by kernel_rfl) rfl (by cbv) (by cbv) ?_
  refine Ok.run hmix (A := Ar.std) rfl true 2000 (by cbv) ?_
  refine Ok.call (law4_X hE) (by cbv) (by cbv) (by cbv) ?_
  refine Ok.run hmix (A := Ar.std) rfl true 2000 (by cbv) ?_
  refine Ok.call (val_Int hE 3) (by cbv) (by cbv) (by cbv) ?_
  refine Ok.run hmix (A := Ar.std) rfl true 2000 (by cbv) ?_
  refine Ok.call (law4_Lit hE (vInt 3)) (by cbv) (by cbv) (by cbv) ?_
  refine Ok.run hmix (A := Ar.std) rfl true 2000 (by cbv) ?_
  refine Ok.call (law4_Op hE [108, 116] [xX, xLit (vInt 3)]) (by cbv) (by cbv) (by cbv) ?_
  refine Ok.run hmix (A := Ar.std) rfl true 2000 (by cbv) ?_
  refine Ok.call (c1) (by cbv) (by cbv) (by cbv) ?_
  refine Ok.run hmix (A := Ar.std) rfl true 2000 (by cbv) ?_
  refine Ok.call (law4_X hE) (by cbv) (by cbv) (by cbv) ?_
  refine Ok.run hmix (A := Ar.std) rfl true 2000 (by cbv) ?_
  refine Ok.call (law4_X hE) (by cbv) (by cbv) (by cbv) ?_
  refine Ok.run hmix (A := Ar.std) rfl true 2000 (by cbv) ?_
  refine Ok.call (law4_Op hE [97, 110, 100] [xX, xX]) (by cbv) (by cbv) (by cbv) ?_
  refine Ok.run hmix (A := Ar.std) rfl true 2000 (by cbv) ?_
  refine Ok.call (c2) (by cbv) (by cbv) (by cbv) ?_
  refine Ok.run hmix (A := Ar.std) rfl true 2000 (by cbv) ?_
  refine Ok.op (by cbv) ?_
  refine Ok.run hmix (A := Ar.std) rfl true 2000 (by cbv) ?_
  refine Ok.op (by cbv) ?_
  refine Ok.run hmix (A := Ar.std) rfl true 2000 (by cbv) ?_
  refine Ok.op (by cbv) ?_
  refine Ok.run hmix (A := Ar.std) rfl true 2000 (by cbv) ?_
  refine Ok.op (by cbv) ?_
  refine Ok.run hmix (A := Ar.std) rfl true 2000 (by cbv) ?_
  refine Ok.op (by cbv) ?_
  refine Ok.run hmix (A := Ar.std) rfl true 2000 (by cbv) ?_
  refine Ok.call (law4_X hE) (by cbv) (by cbv) (by cbv) ?_
  refine Ok.run hmix (A := Ar.std) rfl true 2000 (by cbv) ?_
  refine Ok.call (c3) (by cbv) (by cbv) (by cbv) ?_
  refine Ok.run hmix (A := Ar.std) rfl true 2000 (by cbv) ?_
  exact Ok.fin (by cbv) (FS.out (by cbv) (PLe.refl _))
end Go.Proofs.Ytnojmocoifodjaa.Pv
set_option maxRecDepth 100000
set_option maxHeartbeats 4000000
set_option linter.unusedVariables false
set_option linter.unusedSimpArgs false
namespace Go.Proofs.Ytnojmocoifodjaa.Pv
open Go Go.Proofs
/-! ### The two makers of programs agree -/
def isJ (x : In) : Prop := x.op = bJmp ∨ x.op = bJf
def jW (p : List In) : Prop := ∀ x, x ∈ p → isJ x → 0 ≤ x.n ∧ x.n ≤ p.length
theorem shift_of {x : In} {b : Nat} (h : isJ x → 0 ≤ x.n ∧ x.n ≤ 2 ^ 40) (hb : b ≤ 2 ^ 40) : In.shift b x = if x.op = bJmp ∨ x.op = bJf then { x with n := x.n + b } else x := by
  unfold In.shift
  split
  · rename_i hj
    have := h hj
    rw [IntWalk.i64_in _ ⟨by omega, by omega⟩]
  · rfl
theorem shift0 {p : List In} (hp : jW p) (hl : p.length ≤ 2 ^ 40) : p.map (In.shift 0) = p := by
  conv => rhs; rw [← List.map_id p]
  apply List.map_congr_left
  intro x hx
  rw [shift_of (fun hj => by have := hp x hx hj; omega) (by omega)]
  split <;> simp
theorem jW_nil : jW [] := fun x hx => by simp at hx
theorem jW_one {x : In} (h : isJ x → x.n = 0) : jW [x] := fun y hy hj => by
  simp at hy; subst hy; have := h hj; simp; omega
theorem jW_join {p q : List In} (hp : jW p) (hq : jW q) (hl : p.length + q.length ≤ 2 ^ 40) : jW (joinR p q) := by
  intro x hx hj
  rw [joinR_len]
  rcases List.mem_append.1 hx with hx | hx
  · have := hp x hx hj; omega
  · obtain ⟨y, hy, rfl⟩ := List.mem_map.1 hx
    have hs := shift_of (x := y) (b := p.length) (fun hj => by have := hq y hy hj; omega) (by omega)
    rw [hs] at hj ⊢
    split at hj
    · rename_i h
      have := hq y hy h
      rw [if_pos h]; simp only []; omega
    · rename_i h; exact absurd hj h
theorem jW_snoc {p : List In} {x : In} (hp : jW p) (hx : isJ x → 0 ≤ x.n ∧ x.n ≤ p.length + 1) : jW (p ++ [x]) := by
  intro y hy hj
  rw [List.length_append, List.length_singleton]
  rcases List.mem_append.1 hy with hy | hy
  · have := hp y hy hj; omega
  · simp at hy; subst hy; have := hx hj; omega
theorem join2 {p q : List In} (hp : jW p) (hl : p.length ≤ 2 ^ 40) : joinTo [] [p, q] = joinR p q := by
  simp only [joinTo, List.nil_append, List.length_nil, shift0 hp hl]; rfl
theorem foldR_ok : ∀ (ps : List (List In)) (out : List In), (∀ p, p ∈ ps → jW p) → jW out → (foldR out ps).length ≤ 2 ^ 40 → eachP out ps = foldR out ps ∧ jW (foldR out ps)
  | [], out, _, ho, _ => ⟨rfl, ho⟩
  | p :: ps, out, hps, ho, hl => by
    rw [foldR] at hl
    have h1 : (joinR out p).length ≤ 2 ^ 40 := by rw [foldR_len] at hl; omega
    rw [joinR_len] at h1
    rw [eachP, foldR, join2 ho (by omega)]
    exact foldR_ok ps _ (fun q hq => hps q (by simp [hq])) (jW_join ho (hps p (by simp)) h1) hl
theorem setN_app (i : Int) (f : In) (y : List In) : ∀ (x : List In), setN (x ++ f :: y) x.length i = x ++ { f with n := i } :: y
  | [] => rfl
  | a :: x => by
    have := setN_app i f y x
    unfold setN at this ⊢
    simp only [List.cons_append, List.length_cons, List.modify_succ_cons, this]
def jN (N : Int) (p : List In) : Prop := ∀ x, x ∈ p → isJ x → 0 ≤ x.n ∧ x.n ≤ N
theorem jN_app {N : Int} {p q : List In} (hp : jN N p) (hq : jN N q) : jN N (p ++ q) := by
  intro x hx hj
  rcases List.mem_append.1 hx with hx | hx
  · exact hp x hx hj
  · exact hq x hx hj
theorem jN_mono {N M : Int} {p : List In} (hp : jN N p) (h : N ≤ M) : jN M p := fun x hx hj => by have := hp x hx hj; omega
theorem jN_shift {N : Int} {q : List In} {b : Nat} (hq : jN N q) (hN : N ≤ 2 ^ 40) (hb : b ≤ 2 ^ 40) : jN (N + b) (q.map (In.shift b)) := by
  intro x hx hj
  obtain ⟨y, hy, rfl⟩ := List.mem_map.1 hx
  have hs := shift_of (x := y) (b := b) (fun hj => by have := hq y hy hj; omega) hb
  rw [hs] at hj ⊢
  split at hj
  · rename_i h
    have := hq y hy h
    rw [if_pos h]; simp only []; omega
  · rename_i h; exact absurd hj h
theorem choose_ok {a b c : List In} (ha : jW a) (hb : jW b) (hc : jW c) (hl : a.length + b.length + c.length ≤ 2 ^ 30) : choiceP a b c = chooseR a b c ∧ jW (chooseR a b c) := by
  have hj1 : ∀ n, In.shift n iJf = ⟨bJf, .zero, IntKind.wrap .i64 ((n : Int))⟩ := fun n => by simp [In.shift, iJf, bJf, bJmp]
  have hj2 : ∀ n, In.shift n iJmp = ⟨bJmp, .zero, IntKind.wrap .i64 ((n : Int))⟩ := fun n => by simp [In.shift, iJmp, bJf, bJmp]
  constructor
  · unfold choiceP chooseR joinR
    simp only [joinTo, List.nil_append, List.length_nil, shift0 ha (by omega), List.map_cons, List.map_nil, List.length_append, List.length_cons, List.length_map, Nat.zero_add, hj1, hj2]
    have hbl : (b.map (In.shift (a.length + 1))).length = b.length := List.length_map _
    generalize b.map (In.shift (a.length + 1)) = b' at hbl
    generalize IntKind.wrap .i64 ((a.length : Nat) : Int) = i1
    generalize IntKind.wrap .i64 ((_ : Nat) : Int) = i2
    generalize c.map (In.shift (a.length + 1 + b.length + 1)) = c'
    generalize ((a.length + 1 + b.length + 1 : Nat) : Int) = k1
    generalize ((a.length + 1 + b.length + 1 + c.length : Nat) : Int) = k2
    have e1 := setN_app k1 ⟨bJf, .zero, i1⟩ (b' ++ (⟨bJmp, .zero, i2⟩ : In) :: c') a
    have e2 := setN_app k2 ⟨bJmp, .zero, i2⟩ c' (a ++ (⟨bJf, .zero, k1⟩ : In) :: b')
    rw [show (a ++ (⟨bJf, .zero, k1⟩ : In) :: b').length = a.length + 1 + b.length by simp [hbl]; omega] at e2
    simp only [List.append_assoc, List.cons_append, List.nil_append] at e1 e2 ⊢
    rw [e1, e2]
  · have h : jN ((a.length + b.length + c.length + 2 : Nat) : Int) (chooseR a b c) := by
      unfold chooseR joinR
      refine jN_app (jN_app (jN_app (jN_app (jN_mono ha (by omega)) ?_) ?_) ?_) ?_
      · intro x hx _; simp at hx; subst hx; simp only []; omega
      · exact jN_mono (jN_shift hb (by omega) (by simp; omega)) (by simp; omega)
      · intro x hx _; simp at hx; subst hx; simp only []; omega
      · exact jN_mono (jN_shift hc (by omega) (by simp; omega)) (by simp; omega)
    intro x hx hj
    have := h x hx hj
    rw [chooseR_len]
    omega

mutual
/-- at has one argument. -/
def atE : Ex4 → Prop
  | .mk op v n a => (op = bAt → a.length = 1) ∧ ¬ (op = bJmp ∨ op = bJf) ∧ atEs a
def atEs : List Ex4 → Prop
  | [] => True
  | e :: l => atE e ∧ atEs l
end
theorem atEs_mem : ∀ {l : List Ex4} {e : Ex4}, atEs l → e ∈ l → atE e
  | [], e, h, he => by simp at he
  | x :: l, e, h, he => by
    rcases List.mem_cons.1 he with rfl | he
    · exact h.1
    · exact atEs_mem h.2 he
theorem jW_getD {m : List (List In)} (h : ∀ p, p ∈ m → jW p) (i : Nat) : jW (m.getD i []) := by
  rw [List.getD]
  cases hm : m[i]? with
  | none => exact jW_nil
  | some p => exact h p (List.mem_of_getElem? hm)
theorem gen_eq : ∀ (n : Nat) (e : Ex4), SizeOf.sizeOf e ≤ n → atE e → sizE e ≤ 2 ^ 27 → genE e = genR e ∧ jW (genR e)
  | 0, .mk op v k a, h, _, _ => by simp at h
  | n + 1, .mk op v k a, h, ha, hs => by
    rw [sizE] at hs
    have hm : ∀ e, e ∈ a → genE e = genR e ∧ jW (genR e) := fun e he => by
      have h1 := List.sizeOf_lt_of_mem he
      have h2 := sizEs_mem he
      simp only [Ex4.mk.sizeOf_spec] at h
      exact gen_eq n e (by omega) (atEs_mem ha.2.2 he) (by omega)
    have hall : genAll a = genRs a := by
      rw [genAll_eq, genRs_eq]
      exact List.map_congr_left (fun e he => (hm e he).1)
    have hj : ∀ p, p ∈ genRs a → jW p := fun p hp => by
      rw [genRs_eq] at hp
      obtain ⟨e, he, rfl⟩ := List.mem_map.1 hp
      exact (hm e he).2
    have hsum : ((genRs a).map List.length).sum ≤ sizEs a := sumRs (fun e he => genR_le _ e (Nat.le_refl _))
    have hf := foldR_ok (genRs a) [] hj jW_nil (by rw [foldR_len]; simp; omega)
    have hfl : (foldR [] (genRs a)).length ≤ 2 ^ 27 := by rw [foldR_len]; simp; omega
    have h0 := getD_le (genRs a) 0
    have h1 := getD_le (genRs a) 1
    have h2 := getD_le (genRs a) 2
    have nj : ∀ (o : List UInt8) (v : Vl) (k : Int), ¬ (o = bJmp ∨ o = bJf) → ¬ isJ ⟨o, v, k⟩ := fun o v k h => h
    rw [genE, genR, hall]
    by_cases c1 : op = bLit
    · rw [if_pos c1, if_pos c1]; exact ⟨rfl, jW_one (fun h => rfl)⟩
    rw [if_neg c1, if_neg c1]
    by_cases c2 : op = bX
    · rw [if_pos c2, if_pos c2]; exact ⟨rfl, jW_one (fun h => rfl)⟩
    rw [if_neg c2, if_neg c2]
    by_cases c3 : op = bAt
    · have hn1 : ¬ op = bAnd := by rw [c3]; decide
      have hn2 : ¬ op = bOr := by rw [c3]; decide
      have hn3 : ¬ op = bIf := by rw [c3]; decide
      rw [if_pos c3, if_neg hn1, if_neg hn2, if_neg hn3, if_pos c3]
      have hl := ha.1 c3
      match a, hl with
      | [e], _ =>
        have he := (hm e (by simp)).2
        have hz : jW [⟨bAt, .zero, k⟩] := jW_one (fun h => absurd h (by simp [isJ, bAt, bJmp, bJf]))
        simp only [genRs, List.getD_cons_zero, foldR] at hfl hf ⊢
        have e1 : joinR [] (genR e) = genR e := by
          unfold joinR
          rw [List.nil_append, List.length_nil]
          exact shift0 he (by rw [joinR_len] at hfl; simp at hfl; omega)
        rw [e1] at hfl hf ⊢
        refine ⟨?_, jW_snoc he (fun h => absurd h (by simp [isJ, bAt, bJmp, bJf]))⟩
        rw [join2 he (by omega)]
        simp [joinR, In.shift, bAt, bJmp, bJf]
    rw [if_neg c3]
    by_cases c4 : op = bTup
    · have hn1 : ¬ op = bAnd := by rw [c4]; decide
      have hn2 : ¬ op = bOr := by rw [c4]; decide
      have hn3 : ¬ op = bIf := by rw [c4]; decide
      have hn4 : ¬ op = bAt := by rw [c4]; decide
      rw [if_pos c4, if_neg hn1, if_neg hn2, if_neg hn3, if_neg hn4, if_pos c4, hf.1]
      refine ⟨?_, jW_snoc hf.2 (fun h => absurd h (by simp [isJ, bTup, bJmp, bJf]))⟩
      rw [join2 hf.2 (by omega), genRs_eq, List.length_map]
      simp [joinR, In.shift, bTup, bJmp, bJf]
    rw [if_neg c4]
    by_cases c5 : op = bAnd
    · rw [if_pos c5, if_pos c5]
      exact choose_ok (jW_getD hj 0) (jW_getD hj 1) (jW_one (fun h => rfl)) (by simp only [List.length_singleton]; omega)
    rw [if_neg c5, if_neg c5]
    by_cases c6 : op = bOr
    · rw [if_pos c6, if_pos c6]
      exact choose_ok (jW_getD hj 0) (jW_one (fun h => rfl)) (jW_getD hj 1) (by simp only [List.length_singleton]; omega)
    rw [if_neg c6, if_neg c6]
    by_cases c7 : op = bIf
    · rw [if_pos c7, if_pos c7]
      exact choose_ok (jW_getD hj 0) (jW_getD hj 1) (jW_getD hj 2) (by omega)
    rw [if_neg c7, if_neg c7, if_neg c3, if_neg c4, hf.1, join2 hf.2 (by omega)]
    refine ⟨?_, jW_snoc hf.2 (fun h => absurd h ha.2.1)⟩
    simp [joinR, In.shift, ha.2.1]
end Go.Proofs.Ytnojmocoifodjaa.Pv
set_option maxRecDepth 100000
set_option maxHeartbeats 4000000
set_option linter.unusedVariables false
set_option linter.unusedSimpArgs false
namespace Go.Proofs.Ytnojmocoifodjaa.Pv
open Go Go.Proofs
def bNot : List UInt8 := [110, 111, 116]
def stepX (e : Ex4) (b : Nat) : Ex4 :=
  if b % 4 = 0 then ⟨bNot, .zero, 0, [e]⟩
  else if b % 4 = 1 then ⟨bAnd, .zero, 0, [e, xLit (vBool true)]⟩
  else if b % 4 = 2 then ⟨bOr, .zero, 0, [e, xX]⟩
  else ⟨bIf, .zero, 0, [e, xX, xLit (vBool false)]⟩
def stepN (n : Nat) (b : Nat) : Nat := if b % 4 = 0 then n + 1 else n + 4
/-- What is kept by each step. -/
structure Good (e : Ex4) (n k : Nat) : Prop where
  wf : wfE e
  at' : atE e
  siz : sizE e ≤ 5 + 15 * k
  szx : szX e ≤ 2 + 6 * k
  len : (genE e).length = n
  vs : ∀ x, x ∈ genE e → szV x.v ≤ 2
theorem good0 : Good xX 1 0 := by
  refine ⟨?_, ?_, ?_, ?_, ?_, ?_⟩
  · simp [xX, wfE, wfEs, arity, bX, bAt, bAnd, bOr, bIf]
  · simp [xX, atE, atEs, bX, bAt, bJmp, bJf]
  · decide
  · decide
  · rfl
  · intro x hx
    have : genE xX = [⟨bX, .zero, 0⟩] := rfl
    rw [this] at hx; simp at hx; subst hx; decide

def vsB (p : List In) : Prop := ∀ x, x ∈ p → szV x.v ≤ 2
theorem shift_v (b : Nat) (x : In) : (In.shift b x).v = x.v := by unfold In.shift; split <;> rfl
theorem vsB_join : ∀ (l : List (List In)) (out : List In), vsB out → (∀ p, p ∈ l → vsB p) → vsB (joinTo out l)
  | [], out, h, _ => h
  | p :: l, out, h, hl => by
    rw [joinTo]
    refine vsB_join l _ (fun x hx => ?_) (fun q hq => hl q (by simp [hq]))
    rcases List.mem_append.1 hx with hx | hx
    · exact h x hx
    · obtain ⟨y, hy, rfl⟩ := List.mem_map.1 hx
      rw [shift_v]; exact hl p (by simp) y hy
theorem vsB_set {l : List In} (i : Nat) (n : Int) (h : vsB l) : vsB (setN l i n) := by
  intro x hx
  unfold setN at hx
  obtain ⟨j, hj⟩ := List.getElem?_of_mem hx
  rw [List.getElem?_modify] at hj
  cases hl : l[j]? with
  | none => simp [hl] at hj
  | some y =>
    have := h y (List.mem_of_getElem? hl)
    simp only [hl] at hj
    split at hj
    all_goals (simp at hj; subst hj; exact this)
theorem vsB_choice {a b c : List In} (ha : vsB a) (hb : vsB b) (hc : vsB c) : vsB (choiceP a b c) := by
  unfold choiceP
  refine vsB_set _ _ (vsB_set _ _ (vsB_join _ _ (fun x hx => by simp at hx) ?_))
  intro p hp
  have hj : vsB [iJf] := fun x hx => by simp at hx; subst hx; decide
  have hm : vsB [iJmp] := fun x hx => by simp at hx; subst hx; decide
  simp only [List.mem_cons, List.not_mem_nil, or_false] at hp
  rcases hp with rfl | rfl | rfl | rfl | rfl <;> assumption
theorem vs_one {x : In} (h : szV x.v ≤ 2) : vsB [x] := fun y hy => by simp at hy; subst hy; exact h
theorem genE_lit (v : Vl) : genE (xLit v) = [⟨bPush, v, 0⟩] := by simp [xLit, genE]
theorem genE_x : genE xX = [⟨bX, .zero, 0⟩] := rfl
theorem goodStep {e : Ex4} {n k : Nat} (h : Good e n k) (b : Nat) : Good (stepX e b) (stepN n b) (k + 1) := by
  have hw := h.wf
  have ha := h.at'
  have hs := h.siz
  have hz := h.szx
  unfold stepX stepN
  by_cases c0 : b % 4 = 0
  · rw [if_pos c0, if_pos c0]
    have hg : genE ⟨bNot, .zero, 0, [e]⟩ = joinTo [] [eachP [] [genE e], [⟨bNot, .zero, 0⟩]] := by simp [genE, genAll, bNot, bLit, bX, bAt, bTup, bAnd, bOr, bIf]
    refine ⟨by simp [wfE, wfEs, arity, bNot, bAt, bAnd, bOr, bIf, hw], by simp [atE, atEs, bNot, bAt, bJmp, bJf, ha], by simp only [sizE, sizEs]; omega, by simp only [szX, szXs, Vl.zero, szV, szVs]; omega, ?_, ?_⟩
    · rw [hg, joinTo_len]; simp [eachP_len, h.len]
    · rw [hg]
      refine vsB_join _ _ (fun x hx => by simp at hx) (fun p hp => ?_)
      simp only [List.mem_cons, List.not_mem_nil, or_false] at hp
      rcases hp with rfl | rfl
      · rw [eachP, eachP]
        refine vsB_join _ _ (fun x hx => by simp at hx) (fun p hp => ?_)
        simp only [List.mem_cons, List.not_mem_nil, or_false] at hp
        rcases hp with rfl | rfl
        · exact fun x hx => by simp at hx
        · exact h.vs
      · exact vs_one (by decide)
  rw [if_neg c0, if_neg c0]
  by_cases c1 : b % 4 = 1
  · rw [if_pos c1]
    have hg : genE ⟨bAnd, .zero, 0, [e, xLit (vBool true)]⟩ = choiceP (genE e) [⟨bPush, vBool true, 0⟩] [⟨bPush, vBool false, 0⟩] := by simp [genE, genAll, genE_lit, bLit, bX, bAt, bTup, bAnd]
    refine ⟨by simp [wfE, wfEs, arity, xLit, bLit, bAt, bAnd, bOr, bIf, hw], by simp [atE, atEs, xLit, bLit, bAnd, bAt, bJmp, bJf, ha], by simp only [sizE, sizEs, xLit]; omega, by simp only [szX, szXs, xLit, vBool, Vl.zero, szV, szVs]; omega, ?_, ?_⟩
    · rw [hg, choiceP_len]; simp [h.len]
    · rw [hg]; exact vsB_choice h.vs (vs_one (by decide)) (vs_one (by decide))
  rw [if_neg c1]
  by_cases c2 : b % 4 = 2
  · rw [if_pos c2]
    have hg : genE ⟨bOr, .zero, 0, [e, xX]⟩ = choiceP (genE e) [⟨bPush, vBool true, 0⟩] [⟨bX, .zero, 0⟩] := by simp [genE, genAll, genE_x, bLit, bX, bAt, bTup, bAnd, bOr]
    refine ⟨by simp [wfE, wfEs, arity, xX, bX, bAt, bAnd, bOr, bIf, hw], by simp [atE, atEs, xX, bX, bOr, bAt, bJmp, bJf, ha], by simp only [sizE, sizEs, xX]; omega, by simp only [szX, szXs, xX, Vl.zero, szV, szVs]; omega, ?_, ?_⟩
    · rw [hg, choiceP_len]; simp [h.len]
    · rw [hg]; exact vsB_choice h.vs (vs_one (by decide)) (vs_one (by decide))
  rw [if_neg c2]
  have hg : genE ⟨bIf, .zero, 0, [e, xX, xLit (vBool false)]⟩ = choiceP (genE e) [⟨bX, .zero, 0⟩] [⟨bPush, vBool false, 0⟩] := by simp [genE, genAll, genE_x, genE_lit, bLit, bX, bAt, bTup, bAnd, bOr, bIf]
  refine ⟨by simp [wfE, wfEs, arity, xX, xLit, bLit, bX, bAt, bAnd, bOr, bIf, hw], by simp [atE, atEs, xX, xLit, bLit, bX, bIf, bAt, bJmp, bJf, ha], by simp only [sizE, sizEs, xX, xLit]; omega, by simp only [szX, szXs, xX, xLit, vBool, Vl.zero, szV, szVs]; omega, ?_, ?_⟩
  · rw [hg, choiceP_len]; simp [h.len]
  · rw [hg]; exact vsB_choice h.vs (vs_one (by decide)) (vs_one (by decide))
end Go.Proofs.Ytnojmocoifodjaa.Pv
set_option maxRecDepth 100000
set_option maxHeartbeats 4000000
set_option linter.unusedVariables false
set_option linter.unusedSimpArgs false
namespace Go.Proofs.Ytnojmocoifodjaa.Pv
open Go Go.Proofs
theorem law12_GenSizes {E : Enc} (hE : E = .std) (bs : List Nat) (es : List PV) (hes : es = bs.map fun b => .int .u8 (Int.ofNat b)) : CallsV Try.prog 4 [.view es] (.pv (.bool true)) [] := by
  obtain ⟨A, hA⟩ : ∃ A : Ar, A = .std := ⟨_, rfl⟩
  have hel : es.length = bs.length := by rw [hes, List.length_map]
  have hll : A .lenP es = Int.ofNat bs.length := by rw [Ar.lenP_eq hA, hel]; rfl
  have hnt : A .not true = false := by rw [Ar.not_eq hA]; rfl
  have hvz : E .vls [] = [] := by rw [E.vls_eq hE]; rfl
  have hxz : E .exs [] = [] := by rw [E.exs_eq hE]; rfl
  refine CallsV.ok (fn := Try.f4) (by kernel_rfl) (by kernel_rfl) rfl (by cbv) (by cbv) ?_
  refine Ok.run hmix hA false 2000 (by cbv) ?_
  refine Ok.call (law12_known) (by cbv) (by cbv) (by cbv) ?_
  refine Ok.run hmix hA false 2000 (by cbv) ?_
  rw [hnt]
  refine Ok.condF (by cbv) ?_
  refine Ok.run hmix hA false 2000 (by cbv) ?_
  refine Ok.cond (by cbv) ?_ ?_
  · intro _
    refine Ok.run hmix hA false 2000 (by cbv) ?_
    exact Ok.fin (by cbv) (FS.out (by cbv) (PLe.refl _))
  intro h10
  have h10 : bs.length ≤ 10 := by rw [Ar.lt_eq hA, hll] at h10; simp at h10; omega
  refine Ok.run hmix hA false 2000 (by cbv) ?_
  refine Ok.call (law4_X hE) (by cbv) (by cbv) (by cbv) ?_
  refine Ok.run hmix hA false 2000 (by cbv) ?_
  refine Ok.loopAt [0, 3, 4, 5] [3] (fun mm s h => ∃ (k : Nat) (e : Ex4) (n n' : Nat), mm = bs.length - k ∧ k ≤ bs.length ∧ True ∧ Good e n k ∧ n' = n ∧
    s = mkS 94 [(0, .pv (.view es)), (3, .ptr 3 0), (4, .pv (.int .i64 (Int.ofNat n'))), (5, .pv (.int .i64 (Int.ofNat k)))] ∧ h = [(3, .box ((E.ex e).cells.map .pv) true)]) (bs.length - 0) (by cbv) ⟨0, xX, 1, 1, rfl, Nat.zero_le _, trivial, good0, rfl, by cbv, by cbv⟩ ?_
  rintro mm s h ⟨k, e, n, n', rfl, hk, hok, hg, hn', rfl, rfl⟩
  have hnb : n ≤ 5 + 15 * k := by have := genE_le _ e (Nat.le_refl _); have := hg.siz; have := hg.len; omega
  refine Ok.run hmix hA false 2000 (by cbv) ?_
  refine Ok.cond (by cbv) ?_ ?_
  · intro h1
    rw [Ar.lt_eq hA, hll, decide_eq_true_eq] at h1
    have hkl : k < bs.length := by simpa using h1
    have hx : bs[k]? = some bs[k] := List.getElem?_eq_getElem hkl
    generalize bs[k] = b at hx
    obtain ⟨r, hr⟩ : ∃ r, r = b % 4 := ⟨_, rfl⟩
    refine Ok.run hmix hA false 2000 (by cbv) ?_
    refine Ok.op (idx_view (.int .u8 (Int.ofNat b)) (by cbv) (by cbv) (by simp) (by rw [hes]; simp [hx]) rfl) ?_
    refine Ok.run hmix hA false 2000 (by cbv) ?_
    refine Ok.op (rem_op (by cbv) (by cbv) (by decide) (Int.ofNat r) (by rw [hr]; rfl)) ?_
    refine Ok.run hmix hA false 2000 (by cbv) ?_
    have q0 : A .eq (Int.ofNat r) 0 = decide (r = 0) := by rw [Ar.eq_eq hA]; simp
    have q1 : A .eq (Int.ofNat r) 1 = decide (r = 1) := by rw [Ar.eq_eq hA]; simp; omega
    have q2 : A .eq (Int.ofNat r) 2 = decide (r = 2) := by rw [Ar.eq_eq hA]; simp; omega
    have q3 : A .eq (Int.ofNat r) 3 = decide (r = 3) := by rw [Ar.eq_eq hA]; simp; omega
    obtain ⟨n2, hn2⟩ : ∃ n2, n2 = stepN n b := ⟨_, rfl⟩
    by_cases c0 : r = 0
    · have hst : stepX e b = ⟨bNot, .zero, 0, [e]⟩ := by unfold stepX; rw [if_pos (by omega)]
      have hadd : A .add .i64 (Int.ofNat n') 1 = Int.ofNat n2 := by rw [Ar.succ_eq hA (by omega), hn2, hn']; unfold stepN; rw [if_pos (by omega)]
      rw [q0, decide_eq_true c0]
      refine Ok.condT (by cbv) ?_
      have c0 := law4_Op hE [110, 111, 116] [e]
      simp only [E.exs_eq hE, List.map_cons, List.map_nil] at c0
      refine Ok.run hmix hA false 2000 (by cbv) ?_
      refine Ok.call c0 (by cbv) (by cbv) (by cbv) ?_
      refine Ok.run hmix hA false 2000 (by cbv) ?_
      refine Ok.back (bs.length - (k + 1)) [0, 3, 4, 5] [3] (by omega) (by cbv) ⟨k + 1, stepX e b, stepN n b, n2, rfl, by omega, hok, goodStep hg b, hn2, ?_, by rw [hst]; cbv⟩
      rw [hadd, Ar.succ_eq (k := k) hA (by omega)]; cbv
    rw [q0, decide_eq_false c0]
    refine Ok.condF (by cbv) ?_
    refine Ok.run hmix hA false 2000 (by cbv) ?_
    have hadd4 : A .add .i64 (Int.ofNat n') 4 = Int.ofNat n2 := by
      have : A .add .i64 (Int.ofNat n') (Int.ofNat 4) = Int.ofNat (n' + 4) := ofNat_add hA (by omega)
      rw [hn2, ← hn']; unfold stepN; rw [if_neg (by omega)]; exact this
    rw [q1]
    by_cases c1 : r = 1
    · have hst : stepX e b = ⟨bAnd, .zero, 0, [e, xLit (vBool true)]⟩ := by unfold stepX; rw [if_neg (by omega), if_pos (by omega)]
      rw [decide_eq_true c1]
      refine Ok.condT (by cbv) ?_
      have cO := law4_Op hE [97, 110, 100] [e, xLit (vBool true)]
      simp only [E.exs_eq hE, List.map_cons, List.map_nil] at cO
      refine Ok.run hmix hA false 2000 (by cbv) ?_
      refine Ok.dcall (val_Bool hE true) (by cbv) (by cbv) (by cbv) ?_
      refine Ok.run hmix hA false 2000 (by cbv) ?_
      refine Ok.dcall (law4_Lit hE (vBool true)) (by cbv) (by cbv) (by cbv) ?_
      refine Ok.run hmix hA false 2000 (by cbv) ?_
      refine Ok.dcall cO (by cbv) (by cbv) (by cbv) ?_
      refine Ok.run hmix hA false 2000 (by cbv) ?_
      refine Ok.drawn (by kernel_rfl) ?_
      refine Ok.run hmix hA false 2000 (by cbv) ?_
      refine Ok.back (bs.length - (k + 1)) [0, 3, 4, 5] [3] (by omega) (by cbv) ⟨k + 1, stepX e b, stepN n b, n2, rfl, by omega, hok, goodStep hg b, hn2, ?_, by rw [hst]; cbv⟩
      rw [hadd4, Ar.succ_eq (k := k) hA (by omega)]; cbv
    rw [decide_eq_false c1]
    refine Ok.condF (by cbv) ?_
    refine Ok.run hmix hA false 2000 (by cbv) ?_
    rw [q2]
    by_cases c2 : r = 2
    · have hst : stepX e b = ⟨bOr, .zero, 0, [e, xX]⟩ := by unfold stepX; rw [if_neg (by omega), if_neg (by omega), if_pos (by omega)]
      rw [decide_eq_true c2]
      refine Ok.condT (by cbv) ?_
      have cO := law4_Op hE [111, 114] [e, xX]
      simp only [E.exs_eq hE, List.map_cons, List.map_nil] at cO
      refine Ok.run hmix hA false 2000 (by cbv) ?_
      refine Ok.dcall (law4_X hE) (by cbv) (by cbv) (by cbv) ?_
      refine Ok.run hmix hA false 2000 (by cbv) ?_
      refine Ok.dcall cO (by cbv) (by cbv) (by cbv) ?_
      refine Ok.run hmix hA false 2000 (by cbv) ?_
      refine Ok.drawn (by kernel_rfl) ?_
      refine Ok.run hmix hA false 2000 (by cbv) ?_
      refine Ok.back (bs.length - (k + 1)) [0, 3, 4, 5] [3] (by omega) (by cbv) ⟨k + 1, stepX e b, stepN n b, n2, rfl, by omega, hok, goodStep hg b, hn2, ?_, by rw [hst]; cbv⟩
      rw [hadd4, Ar.succ_eq (k := k) hA (by omega)]; cbv
    rw [decide_eq_false c2]
    refine Ok.condF (by cbv) ?_
    refine Ok.run hmix hA false 2000 (by cbv) ?_
    have c3 : r = 3 := by omega
    have hst : stepX e b = ⟨bIf, .zero, 0, [e, xX, xLit (vBool false)]⟩ := by unfold stepX; rw [if_neg (by omega), if_neg (by omega), if_neg (by omega)]
    rw [q3, decide_eq_true c3]
    refine Ok.condT (by cbv) ?_
    have cO := law4_Op hE [105, 102] [e, xX, xLit (vBool false)]
    simp only [E.exs_eq hE, List.map_cons, List.map_nil] at cO
    refine Ok.run hmix hA false 2000 (by cbv) ?_
    refine Ok.dcall (law4_X hE) (by cbv) (by cbv) (by cbv) ?_
    refine Ok.run hmix hA false 2000 (by cbv) ?_
    refine Ok.dcall (val_Bool hE false) (by cbv) (by cbv) (by cbv) ?_
    refine Ok.run hmix hA false 2000 (by cbv) ?_
    refine Ok.dcall (law4_Lit hE (vBool false)) (by cbv) (by cbv) (by cbv) ?_
    refine Ok.run hmix hA false 2000 (by cbv) ?_
    refine Ok.dcall cO (by cbv) (by cbv) (by cbv) ?_
    refine Ok.run hmix hA false 2000 (by cbv) ?_
    refine Ok.drawn (by kernel_rfl) ?_
    refine Ok.run hmix hA false 2000 (by cbv) ?_
    refine Ok.back (bs.length - (k + 1)) [0, 3, 4, 5] [3] (by omega) (by cbv) ⟨k + 1, stepX e b, stepN n b, n2, rfl, by omega, hok, goodStep hg b, hn2, ?_, by rw [hst]; cbv⟩
    rw [hadd4, Ar.succ_eq (k := k) hA (by omega)]; cbv
  intro h1
  have hke : k = bs.length := by
    rw [Ar.lt_eq hA, hll, decide_eq_false_iff_not] at h1
    simp at h1; omega
  refine Ok.run hmix hA false 2000 (by cbv) ?_
  refine Ok.leave ?_
  refine Ok.run hmix hA false 2000 (by cbv) ?_
  have hsz := hg.siz
  have hlp := hg.len
  have htz : E .tys [] = [] := by rw [E.tys_eq hE]; rfl
  have cE := gen_Expr hE _ e (Nat.le_refl _) hg.wf (by omega)
  have cO := gen_Of hE ⟨3, [], ⟨0, []⟩, [e], ⟨[], .zero, 0, []⟩, 0, 0⟩ ⟨hg.wf, trivial⟩ (by simp only [sizEs]; omega)
  have cK := gen_Key hE ⟨7, [], ⟨0, []⟩, [], e, 0, 0⟩ hg.wf (by simp only []; omega)
  have cL := law4_Of hE _ e (Nat.le_refl _) (by have := hg.szx; omega)
  have cG := ref14_GenExpr hE _ e (Nat.le_refl _) hg.wf (by omega)
  rw [← (gen_eq _ e (Nat.le_refl _) hg.at' (by omega)).1] at cG
  have cS := law11_Same hE (genE e) (by omega) (fun x hx => by have := hg.vs x hx; omega)
  have lO : (genOf ⟨3, [], ⟨0, []⟩, [e], ⟨[], .zero, 0, []⟩, 0, 0⟩).length = n' + 4 := by
    simp [genOf, setN_len, joinTo_len, eachP_len, genAll, emitsP, hlp, hn']
  have lK : (genKey ⟨7, [], ⟨0, []⟩, [], e, 0, 0⟩).length = n' + 2 := by
    simp [genKey, joinTo_len, emitsP, hlp, hn']
  generalize genOf ⟨3, [], ⟨0, []⟩, [e], ⟨[], .zero, 0, []⟩, 0, 0⟩ = pO at cO lO
  generalize genKey ⟨7, [], ⟨0, []⟩, [], e, 0, 0⟩ = pK at cK lK
  generalize genE e = pE at cE cG cS hlp
  have mE : A .lenP (E .ins pE) = Int.ofNat n' := by rw [Ar.lenP_eq hA, E.ins_eq hE, List.length_map, hlp, hn']; rfl
  have mO : A .eq (A .lenP (E .ins pO)) (A .add .i64 (Int.ofNat n') 4) = true := by
    have : A .add .i64 (Int.ofNat n') 4 = Int.ofNat (n' + 4) := ofNat_add (b := 4) hA (by omega)
    rw [this, Ar.lenP_eq hA, E.ins_eq hE, List.length_map, lO, Ar.eq_eq hA]; simp
  have mK : A .eq (A .lenP (E .ins pK)) (A .add .i64 (Int.ofNat n') 2) = true := by
    have : A .add .i64 (Int.ofNat n') 2 = Int.ofNat (n' + 2) := ofNat_add (b := 2) hA (by omega)
    rw [this, Ar.lenP_eq hA, E.ins_eq hE, List.length_map, lK, Ar.eq_eq hA]; simp
  have mN : A .eq (Int.ofNat n') (Int.ofNat n') = true := by rw [Ar.eq_eq hA]; simp
  simp only [Enc.opn, Vl.zero, E.exs_eq hE, List.map_cons, List.map_nil, htz, hvz] at cO
  refine Ok.call (cE) (by cbv) (by cbv) (by cbv) ?_
  refine Ok.run hmix hA false 2000 (by cbv) ?_
  refine Ok.call cO (by cbv) (by cbv) (by cbv) ?_
  refine Ok.run hmix hA false 2000 (by cbv) ?_
  simp only [Enc.opn, htz, hxz] at cK
  refine Ok.call cK (by cbv) (by cbv) (by cbv) ?_
  refine Ok.run hmix hA false 2000 (by cbv) ?_
  rw [mE, mN]
  refine Ok.run hmix hA true 5 (by cbv) ?_
  rw [mO]
  refine Ok.run hmix hA true 7 (by cbv) ?_
  rw [mK]
  refine Ok.run hmix hA true 2000 (by cbv) ?_
  refine Ok.call (cL) (by cbv) (by cbv) (by cbv) ?_
  refine Ok.run hmix hA true 2000 (by cbv) ?_
  refine Ok.call (cG) (by cbv) (by cbv) (by cbv) ?_
  refine Ok.run hmix hA true 2000 (by cbv) ?_
  refine Ok.call (cS) (by cbv) (by cbv) (by cbv) ?_
  refine Ok.run hmix hA true 2000 (by cbv) ?_
  exact Ok.fin (by cbv) (FS.out (by cbv) (PLe.refl _))
end Go.Proofs.Ytnojmocoifodjaa.Pv
set_option maxRecDepth 100000
set_option maxHeartbeats 4000000
set_option linter.unusedVariables false
set_option linter.unusedSimpArgs false
namespace Go.Proofs.Ytnojmocoifodjaa.Pv
open Go Go.Proofs Go.RowKit
theorem IsRow.nonneg {w : World} {a : Option Addr} {len cap : Nat} {zs : List Int} (h : IsRow .u8 w a len cap zs) : ∀ n, n ∈ zs → 0 ≤ n := by
  rcases h with ⟨_, _, _, rfl⟩ | ⟨x, _, _, _, _, _, h5⟩
  · intro n hn; simp at hn
  · intro n hn
    have := h5 n hn
    simp only [Lit.wf, Bool.and_eq_true, decide_eq_true_eq] at this
    exact this.1
theorem IsRow.nats {w : World} {a : Option Addr} {len cap : Nat} {zs : List Int} (h : IsRow .u8 w a len cap zs) : ((zs.take len).map fun n => PV.int .u8 n) = ((zs.take len).map Int.toNat).map fun b => .int .u8 (Int.ofNat b) := by
  rw [List.map_map]
  apply List.map_congr_left
  intro n hn
  have := h.nonneg n (List.mem_of_mem_take hn)
  show PV.int .u8 n = .int .u8 (Int.ofNat n.toNat)
  rw [show Int.ofNat n.toNat = n from Int.toNat_of_nonneg this]
theorem GenSizes_walk {W : World} {a : Option Addr} {len cap : Nat} {zs : List Int} (h : IsRow .u8 W a len cap zs) : Calls Try.prog 4 #[.slice a len cap] W (fun e W' => e = .returned (.bool true) ∧ Below W.heap.size W W') :=
  (law12_GenSizes (E := Enc.std) rfl ((zs.take len).map Int.toNat) _ h.nats).yes rfl (fun i q hq => by
    cases i with
    | zero => simp only [List.getElem?_cons_zero, Option.some.injEq] at hq; subst hq; exact h.rv
    | succ i => simp at hq)
end Go.Proofs.Ytnojmocoifodjaa.Pv
set_option maxRecDepth 100000
set_option maxHeartbeats 4000000
set_option linter.unusedVariables false
set_option linter.unusedSimpArgs false
namespace Go.Proofs.Ytnojmocoifodjaa.Pv
open Go Go.Proofs
theorem typ_Row (n d : Int) : CallsV Try.prog 107 [.int .i64 n, .int .i64 d] (.pv (.int .i64 (rowC n d))) [] := by
  obtain ⟨A, hA⟩ : ∃ A : Ar, A = .std := ⟨_, rfl⟩
  refine CallsV.ok (fn := Try.f107) (by kernel_rfl) (by kernel_rfl) rfl (by cbv) (by cbv) ?_
  repeat' (first | (apply Ok.run1 hmix hA false 2000; focus (cbv; done)) | (apply Ok.one hmix hA; focus (cbv; done)) | (rw [Ar.notT hA]) | (rw [Ar.notF hA]) | (refine Ok.condT ?_ ?_; focus (cbv; done)) | (refine Ok.condF ?_ ?_; focus (cbv; done)) | (refine Ok.drawnE (by as_aux_lemma => kernel_rfl) ?_) | (apply Ok.cond; (focus (cbv; done)); all_goals (intro hh; (try rw [hh]))) | (apply Ok.splitG; (focus (cbv; done)); all_goals (intro hh; (try rw [hh]))) | (apply Ok.splitP; (focus (cbv; done)); all_goals (intro hh; (try rw [hh]))) | (apply Ok.fin1; (focus (cbv; done)); (focus (cbv; done))) | (apply Ok.fin2; (focus (cbv; done)); (focus (cbv; done))) | (apply Ok.fin3; (focus (cbv; done)); (focus (cbv; done))))
  all_goals (subst hA; simp_all [Ar.std, rowC])
  all_goals (repeat' split <;> omega)
def eachC (g : Ty → Int) : List Ty → Int
  | [] => 0
  | x :: l => if g x ≠ 0 then g x else eachC g l
theorem ckTs_each (d : Nat) : ∀ l, ckTs l d = eachC (fun x => ckT x d) l
  | [] => rfl
  | x :: l => by rw [ckTs, eachC, ckTs_each d l]
theorem typ_each {E : Enc} (hE : E = .std) (f : Nat) (q : PV) (g : Ty → Int) (l : List Ty) (hf : ∀ x, x ∈ l → CallsV Try.prog f [E.tyc x, q] (.pv (.int .i64 (g x))) []) (hl : l.length ≤ 2 ^ 60) :
    CallsV Try.prog 108 [.view (E .tys l), .func f [q]] (.pv (.int .i64 (eachC g l))) [] := by
  obtain ⟨A, hA⟩ : ∃ A : Ar, A = .std := ⟨_, rfl⟩
  obtain ⟨n, hn⟩ : ∃ n, n = l.length := ⟨_, rfl⟩
  have hll : A .lenP (E .tys l) = Int.ofNat n := by rw [Ar.lenP_eq hA, E.tys_eq hE, List.length_map, hn]; rfl
  refine CallsV.ok (fn := Try.f108) (by kernel_rfl) (by kernel_rfl) rfl (by cbv) (by cbv) ?_
  repeat (first | (apply Ok.run1 hmix hA false 2000; focus (cbv; done)) | (apply Ok.one hmix hA; focus (cbv; done)) | (rw [Ar.notT hA]) | (rw [Ar.notF hA]) | (refine Ok.condT ?_ ?_; focus (cbv; done)) | (refine Ok.condF ?_ ?_; focus (cbv; done)) | (refine Ok.drawnE (by as_aux_lemma => kernel_rfl) ?_))
  rw [hll]
  refine Ok.loopAt [1, 8, 9, 10] [] (fun m s h => ∃ k, m = n - k ∧ k ≤ n ∧ eachC g (l.drop k) = eachC g l ∧ s = mkS 21 [(1, .pv (.func f [q])), (8, .pv (.view (E .tys l))), (9, .pv (.int .i64 (Int.ofNat n))), (10, .pv (.int .i64 (Int.ofNat k)))] ∧ h = []) (n - 0) (by cbv) ⟨0, rfl, Nat.zero_le _, rfl, by cbv, by cbv⟩ ?_
  rintro m s h ⟨k, rfl, hk, hc, rfl, rfl⟩
  refine Ok.run hmix hA false 2000 (by cbv) ?_
  rw [ofNat_lt hA]
  by_cases hkl : k < n
  · rw [decide_eq_true hkl]
    repeat (first | (apply Ok.run1 hmix hA false 2000; focus (cbv; done)) | (apply Ok.one hmix hA; focus (cbv; done)) | (rw [Ar.notT hA]) | (rw [Ar.notF hA]) | (refine Ok.condT ?_ ?_; focus (cbv; done)) | (refine Ok.condF ?_ ?_; focus (cbv; done)) | (refine Ok.drawnE (by as_aux_lemma => kernel_rfl) ?_))
    have hx : l[k]? = some (l[k]'(by omega)) := List.getElem?_eq_getElem (by omega)
    have hxm : l[k]'(by omega) ∈ l := List.getElem_mem (by omega)
    have hdl : l.drop k = l[k]'(by omega) :: l.drop (k + 1) := List.drop_eq_getElem_cons (by omega)
    generalize l[k]'(by omega) = x at hx hdl hxm
    rw [hdl, eachC] at hc
    have cx := hf x hxm
    obtain ⟨c, hcc⟩ : ∃ c, c = g x := ⟨_, rfl⟩
    rw [← hcc] at cx hc
    refine Ok.op (idx_view (E.tyc x) (by cbv) (by cbv) (by simp) (by rw [E.tys_eq hE]; simp [hx]) rfl) ?_
    repeat (first | (apply Ok.run1 hmix hA false 2000; focus (cbv; done)) | (apply Ok.one hmix hA; focus (cbv; done)) | (rw [Ar.notT hA]) | (rw [Ar.notF hA]) | (refine Ok.condT ?_ ?_; focus (cbv; done)) | (refine Ok.condF ?_ ?_; focus (cbv; done)) | (refine Ok.drawnE (by as_aux_lemma => kernel_rfl) ?_) | (apply Ok.call (cx); (focus (cbv; done)); (focus (cbv; done)); (focus (cbv; done))) | (apply Ok.dcall (cx); (focus (cbv; done)); (focus (cbv; done)); (focus (cbv; done))))
    rw [Ar.eq_eq hA, Ar.not_eq hA]
    by_cases h0 : c = 0
    · rw [if_neg (by simpa using h0)] at hc
      rw [decide_eq_true h0]
      repeat (first | (apply Ok.run1 hmix hA false 2000; focus (cbv; done)) | (apply Ok.one hmix hA; focus (cbv; done)) | (rw [Ar.notT hA]) | (rw [Ar.notF hA]) | (refine Ok.condT ?_ ?_; focus (cbv; done)) | (refine Ok.condF ?_ ?_; focus (cbv; done)) | (refine Ok.drawnE (by as_aux_lemma => kernel_rfl) ?_))
      rw [Ar.succ_eq hA (by omega)]
      exact Ok.back (n - (k + 1)) [1, 8, 9, 10] [] (by omega) (by cbv) ⟨k + 1, rfl, by omega, hc, by cbv, by cbv⟩
    · rw [if_pos h0] at hc
      rw [decide_eq_false h0, ← hc]
      repeat (first | (apply Ok.run1 hmix hA false 2000; focus (cbv; done)) | (apply Ok.one hmix hA; focus (cbv; done)) | (rw [Ar.notT hA]) | (rw [Ar.notF hA]) | (refine Ok.condT ?_ ?_; focus (cbv; done)) | (refine Ok.condF ?_ ?_; focus (cbv; done)) | (refine Ok.drawnE (by as_aux_lemma => kernel_rfl) ?_))
      refine Ok.leaveRet ?_
      repeat (first | (apply Ok.run1 hmix hA false 2000; focus (cbv; done)) | (apply Ok.one hmix hA; focus (cbv; done)) | (rw [Ar.notT hA]) | (rw [Ar.notF hA]) | (refine Ok.condT ?_ ?_; focus (cbv; done)) | (refine Ok.condF ?_ ?_; focus (cbv; done)) | (refine Ok.drawnE (by as_aux_lemma => kernel_rfl) ?_))
      exact Ok.fin (by cbv) (FS.out (by cbv) (PLe.refl _))
  · rw [decide_eq_false hkl]
    have hke : k = l.length := by omega
    rw [hke, List.drop_length] at hc
    rw [← hc]
    repeat (first | (apply Ok.run1 hmix hA false 2000; focus (cbv; done)) | (apply Ok.one hmix hA; focus (cbv; done)) | (rw [Ar.notT hA]) | (rw [Ar.notF hA]) | (refine Ok.condT ?_ ?_; focus (cbv; done)) | (refine Ok.condF ?_ ?_; focus (cbv; done)) | (refine Ok.drawnE (by as_aux_lemma => kernel_rfl) ?_))
    refine Ok.leave ?_
    repeat (first | (apply Ok.run1 hmix hA false 2000; focus (cbv; done)) | (apply Ok.one hmix hA; focus (cbv; done)) | (rw [Ar.notT hA]) | (rw [Ar.notF hA]) | (refine Ok.condT ?_ ?_; focus (cbv; done)) | (refine Ok.condF ?_ ?_; focus (cbv; done)) | (refine Ok.drawnE (by as_aux_lemma => kernel_rfl) ?_))
    exact Ok.fin (by cbv) (FS.out (by cbv) (PLe.refl _))
theorem typ_check {E : Enc} (hE : E = .std) : ∀ (n : Nat) (t : Ty) (d : Nat), SizeOf.sizeOf t ≤ n → szT t ≤ 2 ^ 40 → d ≤ 1000 → CallsV Try.prog 74 [E.tyc t, .int .i64 (Int.ofNat d)] (.pv (.int .i64 (ckT t d))) [] := by
  intro n
  induction n with
  | zero => intro t d h; cases t; simp at h
  | succ n ih =>
    rintro ⟨kd, l⟩ d hn hsz hd
    obtain ⟨A, hA⟩ : ∃ A : Ar, A = .std := ⟨_, rfl⟩
    rw [szT] at hsz
    have hlen := szTs_len l
    obtain ⟨ln, hln⟩ : ∃ n, n = l.length := ⟨_, rfl⟩
    have hll : A .lenP (E .tys l) = Int.ofNat ln := by rw [Ar.lenP_eq hA, E.tys_eq hE, List.length_map, hln]; rfl
    have hgt : A .lt 0 (Int.ofNat ln) = decide (0 < ln) := ofNat_lt hA 0 ln
    have cR := typ_Row (Int.ofNat ln) (Int.ofNat d)
    obtain ⟨rc, hrc⟩ : ∃ c, c = rowC (Int.ofNat ln) (Int.ofNat d) := ⟨_, rfl⟩
    rw [← hrc] at cR
    have hrd : rc = 0 → d ≤ 4 := by
      intro h
      rw [h] at hrc
      unfold rowC at hrc
      repeat' split at hrc
      all_goals first | omega | (rename_i h4; simp at h4; omega)
    have hsub : d ≤ 4 → ∀ x, x ∈ l → CallsV Try.prog 109 [E.tyc x, .vptr [.int .i64 (Int.ofNat d)]] (.pv (.int .i64 (ckT x (d + 1)))) [] := fun hd4 x hx => by
      have h1 := List.sizeOf_lt_of_mem hx
      have h2 := szTs_mem hx
      simp at hn
      have c := ih x (d + 1) (by omega) (by omega) (by omega)
      obtain ⟨xk, xl⟩ := x
      obtain ⟨d1, hd1⟩ : ∃ d1, d1 = d + 1 := ⟨_, rfl⟩
      rw [← hd1] at c ⊢
      have hs : A .add .i64 (Int.ofNat d) 1 = Int.ofNat d1 := by rw [Ar.succ_eq hA (by omega), hd1]
      clear ih
      refine CallsV.ok (fn := Try.f109) (by kernel_rfl) (by kernel_rfl) rfl (by cbv) (by cbv) ?_
      repeat (first | (apply Ok.run1 hmix hA false 2000; focus (cbv; done)) | (apply Ok.one hmix hA; focus (cbv; done)) | (rw [Ar.notT hA]) | (rw [Ar.notF hA]) | (refine Ok.condT ?_ ?_; focus (cbv; done)) | (refine Ok.condF ?_ ?_; focus (cbv; done)) | (refine Ok.drawnE (by as_aux_lemma => kernel_rfl) ?_))
      rw [hs]
      repeat (first | (apply Ok.run1 hmix hA false 2000; focus (cbv; done)) | (apply Ok.one hmix hA; focus (cbv; done)) | (rw [Ar.notT hA]) | (rw [Ar.notF hA]) | (refine Ok.condT ?_ ?_; focus (cbv; done)) | (refine Ok.condF ?_ ?_; focus (cbv; done)) | (refine Ok.drawnE (by as_aux_lemma => kernel_rfl) ?_) | (apply Ok.call (c); (focus (cbv; done)); (focus (cbv; done)); (focus (cbv; done))) | (apply Ok.dcall (c); (focus (cbv; done)); (focus (cbv; done)); (focus (cbv; done))))
      exact Ok.fin (by cbv) (FS.out (by cbv) (PLe.refl _))
    have cE : d ≤ 4 → CallsV Try.prog 108 [.view (E .tys l), .func 109 [.vptr [.int .i64 (Int.ofNat d)]]] (.pv (.int .i64 (ckTs l (d + 1)))) [] := fun hd4 => by
      rw [ckTs_each]
      exact typ_each hE _ _ (fun x => ckT x (d + 1)) l (hsub hd4) (by omega)
    clear hsub ih
    have hck : ckT ⟨kd, l⟩ d = if kd = 1 ∨ kd = 2 ∨ kd = 3 then (if 0 < ln then 5 else 0) else if kd = 4 then (if rc ≠ 0 then rc else ckTs l (d + 1)) else 5 := by rw [ckT, hln, hrc, hln]; rfl
    rw [hck]
    generalize ckTs l (d + 1) = ce at cE hck ⊢
    refine CallsV.ok (fn := Try.f74) (by kernel_rfl) (by kernel_rfl) rfl (by cbv) (by cbv) ?_
    repeat (first | (apply Ok.run1 hmix hA false 2000; focus (cbv; done)) | (apply Ok.one hmix hA; focus (cbv; done)) | (rw [Ar.notT hA]) | (rw [Ar.notF hA]) | (refine Ok.condT ?_ ?_; focus (cbv; done)) | (refine Ok.condF ?_ ?_; focus (cbv; done)) | (refine Ok.drawnE (by as_aux_lemma => kernel_rfl) ?_))
    have q1 : A .eq kd 1 = decide (kd = 1) := Ar.eq_eq hA _ _
    have q2 : A .eq kd 2 = decide (kd = 2) := Ar.eq_eq hA _ _
    have q3 : A .eq kd 3 = decide (kd = 3) := Ar.eq_eq hA _ _
    have q4 : A .eq kd 4 = decide (kd = 4) := Ar.eq_eq hA _ _
    by_cases h4 : kd = 4
    · subst h4
      rw [show A .eq 4 1 = false by rw [Ar.eq_eq hA]; rfl]
      repeat (first | (apply Ok.run1 hmix hA false 2000; focus (cbv; done)) | (apply Ok.one hmix hA; focus (cbv; done)) | (rw [Ar.notT hA]) | (rw [Ar.notF hA]) | (refine Ok.condT ?_ ?_; focus (cbv; done)) | (refine Ok.condF ?_ ?_; focus (cbv; done)) | (refine Ok.drawnE (by as_aux_lemma => kernel_rfl) ?_))
      rw [show A .eq 4 2 = false by rw [Ar.eq_eq hA]; rfl]
      repeat (first | (apply Ok.run1 hmix hA false 2000; focus (cbv; done)) | (apply Ok.one hmix hA; focus (cbv; done)) | (rw [Ar.notT hA]) | (rw [Ar.notF hA]) | (refine Ok.condT ?_ ?_; focus (cbv; done)) | (refine Ok.condF ?_ ?_; focus (cbv; done)) | (refine Ok.drawnE (by as_aux_lemma => kernel_rfl) ?_))
      rw [show A .eq 4 3 = false by rw [Ar.eq_eq hA]; rfl]
      repeat (first | (apply Ok.run1 hmix hA false 2000; focus (cbv; done)) | (apply Ok.one hmix hA; focus (cbv; done)) | (rw [Ar.notT hA]) | (rw [Ar.notF hA]) | (refine Ok.condT ?_ ?_; focus (cbv; done)) | (refine Ok.condF ?_ ?_; focus (cbv; done)) | (refine Ok.drawnE (by as_aux_lemma => kernel_rfl) ?_))
      rw [show A .eq 4 4 = true by rw [Ar.eq_eq hA]; rfl]
      repeat (first | (apply Ok.run1 hmix hA false 2000; focus (cbv; done)) | (apply Ok.one hmix hA; focus (cbv; done)) | (rw [Ar.notT hA]) | (rw [Ar.notF hA]) | (refine Ok.condT ?_ ?_; focus (cbv; done)) | (refine Ok.condF ?_ ?_; focus (cbv; done)) | (refine Ok.drawnE (by as_aux_lemma => kernel_rfl) ?_))
      rw [hll]
      repeat (first | (apply Ok.run1 hmix hA false 2000; focus (cbv; done)) | (apply Ok.one hmix hA; focus (cbv; done)) | (rw [Ar.notT hA]) | (rw [Ar.notF hA]) | (refine Ok.condT ?_ ?_; focus (cbv; done)) | (refine Ok.condF ?_ ?_; focus (cbv; done)) | (refine Ok.drawnE (by as_aux_lemma => kernel_rfl) ?_) | (apply Ok.call (cR); (focus (cbv; done)); (focus (cbv; done)); (focus (cbv; done))) | (apply Ok.dcall (cR); (focus (cbv; done)); (focus (cbv; done)); (focus (cbv; done))))
      rw [Ar.eq_eq hA, Ar.not_eq hA]
      by_cases h0 : rc = 0
      · rw [decide_eq_true h0]
        have cE' := cE (hrd h0)
        repeat (first | (apply Ok.run1 hmix hA false 2000; focus (cbv; done)) | (apply Ok.one hmix hA; focus (cbv; done)) | (rw [Ar.notT hA]) | (rw [Ar.notF hA]) | (refine Ok.condT ?_ ?_; focus (cbv; done)) | (refine Ok.condF ?_ ?_; focus (cbv; done)) | (refine Ok.drawnE (by as_aux_lemma => kernel_rfl) ?_) | (apply Ok.call (cE'); (focus (cbv; done)); (focus (cbv; done)); (focus (cbv; done))) | (apply Ok.dcall (cE'); (focus (cbv; done)); (focus (cbv; done)); (focus (cbv; done))))
        exact Ok.fin1 (by cbv) (by cbv) (by simp [h0])
      · rw [decide_eq_false h0]
        repeat (first | (apply Ok.run1 hmix hA false 2000; focus (cbv; done)) | (apply Ok.one hmix hA; focus (cbv; done)) | (rw [Ar.notT hA]) | (rw [Ar.notF hA]) | (refine Ok.condT ?_ ?_; focus (cbv; done)) | (refine Ok.condF ?_ ?_; focus (cbv; done)) | (refine Ok.drawnE (by as_aux_lemma => kernel_rfl) ?_))
        exact Ok.fin1 (by cbv) (by cbv) (by simp [h0])
    · repeat' (first | (apply Ok.run1 hmix hA false 2000; focus (cbv; done)) | (apply Ok.one hmix hA; focus (cbv; done)) | (rw [Ar.notT hA]) | (rw [Ar.notF hA]) | (refine Ok.condT ?_ ?_; focus (cbv; done)) | (refine Ok.condF ?_ ?_; focus (cbv; done)) | (refine Ok.drawnE (by as_aux_lemma => kernel_rfl) ?_) | (apply Ok.cond; (focus (cbv; done)); all_goals (intro hh; (try rw [hh]))) | (apply Ok.splitG; (focus (cbv; done)); all_goals (intro hh; (try rw [hh]))) | (apply Ok.splitP; (focus (cbv; done)); all_goals (intro hh; (try rw [hh]))) | (apply Ok.fin1; (focus (cbv; done)); (focus (cbv; done))) | (apply Ok.fin2; (focus (cbv; done)); (focus (cbv; done))) | (apply Ok.fin3; (focus (cbv; done)); (focus (cbv; done))))
      all_goals (simp only [q1, q2, q3, q4, hll, hgt, decide_eq_true_eq, decide_eq_false_iff_not] at *)
      all_goals (first | (exfalso; omega) | (simp_all; done) | skip)
theorem typ_Check {E : Enc} (hE : E = .std) (t : Ty) (hsz : szT t ≤ 2 ^ 40) : CallsV Try.prog 37 [E.tyc t] (.pv (.int .i64 (ckT t 0))) [] := by
  obtain ⟨A, hA⟩ : ∃ A : Ar, A = .std := ⟨_, rfl⟩
  have c := typ_check hE _ t 0 (Nat.le_refl _) hsz (by omega)
  obtain ⟨k, l⟩ := t
  refine CallsV.ok (fn := Try.f37) (by kernel_rfl) (by kernel_rfl) rfl (by cbv) (by cbv) ?_
  repeat (first | (apply Ok.run1 hmix hA false 2000; focus (cbv; done)) | (apply Ok.one hmix hA; focus (cbv; done)) | (rw [Ar.notT hA]) | (rw [Ar.notF hA]) | (refine Ok.condT ?_ ?_; focus (cbv; done)) | (refine Ok.condF ?_ ?_; focus (cbv; done)) | (refine Ok.drawnE (by as_aux_lemma => kernel_rfl) ?_) | (apply Ok.call (c); (focus (cbv; done)); (focus (cbv; done)); (focus (cbv; done))) | (apply Ok.dcall (c); (focus (cbv; done)); (focus (cbv; done)); (focus (cbv; done))))
  exact Ok.fin (by cbv) (FS.out (by cbv) (PLe.refl _))
end Go.Proofs.Ytnojmocoifodjaa.Pv
set_option maxRecDepth 100000
set_option maxHeartbeats 4000000
set_option linter.unusedVariables false
set_option linter.unusedSimpArgs false
namespace Go.Proofs.Ytnojmocoifodjaa.Pv
open Go Go.Proofs
theorem slices_EqualFunc {E : Enc} (hE : E = .std) (f : Nat) (l m : List Ty) (hf : ∀ x y, x ∈ l → y ∈ m → CallsV Try.prog f [E.tyc x, E.tyc y] (.pv (.bool (sameT x y))) []) (hl : l.length ≤ 2 ^ 60) (hm : m.length ≤ 2 ^ 60) :
    CallsV Try.prog 75 [.view (E .tys l), .view (E .tys m), .func f []] (.pv (.bool (sameTs l m))) [] := by
  obtain ⟨A, hA⟩ : ∃ A : Ar, A = .std := ⟨_, rfl⟩
  obtain ⟨n, hn⟩ : ∃ n, n = l.length := ⟨_, rfl⟩
  obtain ⟨n', hn'⟩ : ∃ n, n = m.length := ⟨_, rfl⟩
  have hll : A .lenP (E .tys l) = Int.ofNat n := by rw [Ar.lenP_eq hA, E.tys_eq hE, List.length_map, hn]; rfl
  have hlm : A .lenP (E .tys m) = Int.ofNat n' := by rw [Ar.lenP_eq hA, E.tys_eq hE, List.length_map, hn']; rfl
  refine CallsV.ok (fn := Try.f75) (by kernel_rfl) (by kernel_rfl) rfl (by cbv) (by cbv) ?_
  repeat (first | (apply Ok.run1 hmix hA false 2000; focus (cbv; done)) | (apply Ok.one hmix hA; focus (cbv; done)) | (rw [Ar.notT hA]) | (rw [Ar.notF hA]) | (refine Ok.condT ?_ ?_; focus (cbv; done)) | (refine Ok.condF ?_ ?_; focus (cbv; done)) | (refine Ok.drawnE (by as_aux_lemma => kernel_rfl) ?_))
  rw [hll, hlm, ofNat_eq hA, Ar.not_eq hA]
  by_cases hnn : n = n'
  case neg =>
    rw [decide_eq_false hnn, sameTs_len (by omega)]
    repeat (first | (apply Ok.run1 hmix hA false 2000; focus (cbv; done)) | (apply Ok.one hmix hA; focus (cbv; done)) | (rw [Ar.notT hA]) | (rw [Ar.notF hA]) | (refine Ok.condT ?_ ?_; focus (cbv; done)) | (refine Ok.condF ?_ ?_; focus (cbv; done)) | (refine Ok.drawnE (by as_aux_lemma => kernel_rfl) ?_))
    exact Ok.fin (by cbv) (FS.out (by cbv) (PLe.refl _))
  rw [decide_eq_true hnn]
  repeat (first | (apply Ok.run1 hmix hA false 2000; focus (cbv; done)) | (apply Ok.one hmix hA; focus (cbv; done)) | (rw [Ar.notT hA]) | (rw [Ar.notF hA]) | (refine Ok.condT ?_ ?_; focus (cbv; done)) | (refine Ok.condF ?_ ?_; focus (cbv; done)) | (refine Ok.drawnE (by as_aux_lemma => kernel_rfl) ?_))
  rw [hll]
  refine Ok.loopAt [0, 1, 2, 15, 16, 17] [] (fun mm s h => ∃ k, mm = n - k ∧ k ≤ n ∧ sameTs (l.drop k) (m.drop k) = sameTs l m ∧ s = mkS 32 [(0, .pv (.view (E .tys l))), (1, .pv (.view (E .tys m))), (2, .pv (.func f [])), (15, .pv (.view (E .tys l))), (16, .pv (.int .i64 (Int.ofNat n))), (17, .pv (.int .i64 (Int.ofNat k)))] ∧ h = []) (n - 0) (by cbv) ⟨0, rfl, Nat.zero_le _, rfl, by cbv, by cbv⟩ ?_
  rintro mm s h ⟨k, rfl, hk, hc, rfl, rfl⟩
  refine Ok.run hmix hA false 2000 (by cbv) ?_
  rw [ofNat_lt hA]
  by_cases hkl : k < n
  · rw [decide_eq_true hkl]
    repeat (first | (apply Ok.run1 hmix hA false 2000; focus (cbv; done)) | (apply Ok.one hmix hA; focus (cbv; done)) | (rw [Ar.notT hA]) | (rw [Ar.notF hA]) | (refine Ok.condT ?_ ?_; focus (cbv; done)) | (refine Ok.condF ?_ ?_; focus (cbv; done)) | (refine Ok.drawnE (by as_aux_lemma => kernel_rfl) ?_))
    have hx : l[k]? = some (l[k]'(by omega)) := List.getElem?_eq_getElem (by omega)
    have hxm : l[k]'(by omega) ∈ l := List.getElem_mem (by omega)
    have hdl : l.drop k = l[k]'(by omega) :: l.drop (k + 1) := List.drop_eq_getElem_cons (by omega)
    generalize l[k]'(by omega) = x at hx hdl hxm
    have hy : m[k]? = some (m[k]'(by omega)) := List.getElem?_eq_getElem (by omega)
    have hym : m[k]'(by omega) ∈ m := List.getElem_mem (by omega)
    have hdm : m.drop k = m[k]'(by omega) :: m.drop (k + 1) := List.drop_eq_getElem_cons (by omega)
    generalize m[k]'(by omega) = y at hy hdm hym
    rw [hdl, hdm, sameTs] at hc
    have cxy := hf x y hxm hym
    obtain ⟨c, hcc⟩ : ∃ c, c = sameT x y := ⟨_, rfl⟩
    rw [← hcc] at cxy hc
    refine Ok.op (idx_view (E.tyc x) (by cbv) (by cbv) (by simp) (by rw [E.tys_eq hE]; simp [hx]) rfl) ?_
    repeat (first | (apply Ok.run1 hmix hA false 2000; focus (cbv; done)) | (apply Ok.one hmix hA; focus (cbv; done)) | (rw [Ar.notT hA]) | (rw [Ar.notF hA]) | (refine Ok.condT ?_ ?_; focus (cbv; done)) | (refine Ok.condF ?_ ?_; focus (cbv; done)) | (refine Ok.drawnE (by as_aux_lemma => kernel_rfl) ?_))
    refine Ok.op (idx_view (E.tyc y) (by cbv) (by cbv) (by simp) (by rw [E.tys_eq hE]; simp [hy]) rfl) ?_
    repeat (first | (apply Ok.run1 hmix hA false 2000; focus (cbv; done)) | (apply Ok.one hmix hA; focus (cbv; done)) | (rw [Ar.notT hA]) | (rw [Ar.notF hA]) | (refine Ok.condT ?_ ?_; focus (cbv; done)) | (refine Ok.condF ?_ ?_; focus (cbv; done)) | (refine Ok.drawnE (by as_aux_lemma => kernel_rfl) ?_) | (apply Ok.call (cxy); (focus (cbv; done)); (focus (cbv; done)); (focus (cbv; done))) | (apply Ok.dcall (cxy); (focus (cbv; done)); (focus (cbv; done)); (focus (cbv; done))))
    rw [Ar.not_eq hA]
    cases c
    · rw [← hc]
      repeat (first | (apply Ok.run1 hmix hA false 2000; focus (cbv; done)) | (apply Ok.one hmix hA; focus (cbv; done)) | (rw [Ar.notT hA]) | (rw [Ar.notF hA]) | (refine Ok.condT ?_ ?_; focus (cbv; done)) | (refine Ok.condF ?_ ?_; focus (cbv; done)) | (refine Ok.drawnE (by as_aux_lemma => kernel_rfl) ?_))
      refine Ok.leaveRet ?_
      repeat (first | (apply Ok.run1 hmix hA false 2000; focus (cbv; done)) | (apply Ok.one hmix hA; focus (cbv; done)) | (rw [Ar.notT hA]) | (rw [Ar.notF hA]) | (refine Ok.condT ?_ ?_; focus (cbv; done)) | (refine Ok.condF ?_ ?_; focus (cbv; done)) | (refine Ok.drawnE (by as_aux_lemma => kernel_rfl) ?_))
      exact Ok.fin (by cbv) (FS.out (by cbv) (PLe.refl _))
    · repeat (first | (apply Ok.run1 hmix hA false 2000; focus (cbv; done)) | (apply Ok.one hmix hA; focus (cbv; done)) | (rw [Ar.notT hA]) | (rw [Ar.notF hA]) | (refine Ok.condT ?_ ?_; focus (cbv; done)) | (refine Ok.condF ?_ ?_; focus (cbv; done)) | (refine Ok.drawnE (by as_aux_lemma => kernel_rfl) ?_))
      rw [Ar.succ_eq hA (by omega)]
      exact Ok.back (n - (k + 1)) [0, 1, 2, 15, 16, 17] [] (by omega) (by cbv) ⟨k + 1, rfl, by omega, by simpa using hc, by cbv, by cbv⟩
  · rw [decide_eq_false hkl]
    have hke : k = l.length := by omega
    rw [hke, List.drop_length, show l.length = m.length by omega, List.drop_length] at hc
    rw [← hc]
    repeat (first | (apply Ok.run1 hmix hA false 2000; focus (cbv; done)) | (apply Ok.one hmix hA; focus (cbv; done)) | (rw [Ar.notT hA]) | (rw [Ar.notF hA]) | (refine Ok.condT ?_ ?_; focus (cbv; done)) | (refine Ok.condF ?_ ?_; focus (cbv; done)) | (refine Ok.drawnE (by as_aux_lemma => kernel_rfl) ?_))
    refine Ok.leave ?_
    repeat (first | (apply Ok.run1 hmix hA false 2000; focus (cbv; done)) | (apply Ok.one hmix hA; focus (cbv; done)) | (rw [Ar.notT hA]) | (rw [Ar.notF hA]) | (refine Ok.condT ?_ ?_; focus (cbv; done)) | (refine Ok.condF ?_ ?_; focus (cbv; done)) | (refine Ok.drawnE (by as_aux_lemma => kernel_rfl) ?_))
    exact Ok.fin (by cbv) (FS.out (by cbv) (PLe.refl _))
theorem typ_Same {E : Enc} (hE : E = .std) : ∀ (n : Nat) (v w : Ty), SizeOf.sizeOf v ≤ n → szT v ≤ 2 ^ 50 → szT w ≤ 2 ^ 50 → CallsV Try.prog 38 [E.tyc v, E.tyc w] (.pv (.bool (sameT v w))) [] := by
  intro n
  induction n with
  | zero => intro v w h; cases v; simp at h
  | succ n ih =>
    rintro ⟨k1, l⟩ ⟨k2, m⟩ hn hsz hsw
    obtain ⟨A, hA⟩ : ∃ A : Ar, A = .std := ⟨_, rfl⟩
    rw [szT] at hsz hsw
    have hlen := szTs_len l
    have hlem := szTs_len m
    have hsub : ∀ x y, x ∈ l → y ∈ m → CallsV Try.prog 38 [E.tyc x, E.tyc y] (.pv (.bool (sameT x y))) [] := fun x y hx hy => by
      have h1 := List.sizeOf_lt_of_mem hx
      have h2 := szTs_mem hx
      have h3 := szTs_mem hy
      simp at hn
      exact ih x y (by omega) (by omega) (by omega)
    have cC := slices_EqualFunc hE 38 l m hsub (by omega) (by omega)
    rw [sameT]
    generalize sameTs l m = c at cC ⊢
    clear hsub ih
    have hk : A .eq k1 k2 = decide (k1 = k2) := Ar.eq_eq hA _ _
    generalize decide (k1 = k2) = b at hk ⊢
    refine CallsV.ok (fn := Try.f38) (by kernel_rfl) (by kernel_rfl) rfl (by cbv) (by cbv) ?_
    refine Ok.run hmix hA false 2000 (by cbv) ?_
    rw [hk]
    cases b
    · repeat (first | (apply Ok.run1 hmix hA false 2000; focus (cbv; done)) | (apply Ok.one hmix hA; focus (cbv; done)) | (rw [Ar.notT hA]) | (rw [Ar.notF hA]) | (refine Ok.condT ?_ ?_; focus (cbv; done)) | (refine Ok.condF ?_ ?_; focus (cbv; done)) | (refine Ok.drawnE (by as_aux_lemma => kernel_rfl) ?_) | (apply Ok.call (cC); (focus (cbv; done)); (focus (cbv; done)); (focus (cbv; done))) | (apply Ok.dcall (cC); (focus (cbv; done)); (focus (cbv; done)); (focus (cbv; done))))
      exact Ok.fin (by cbv) (FS.out (by cbv) (PLe.refl _))
    · repeat (first | (apply Ok.run1 hmix hA false 2000; focus (cbv; done)) | (apply Ok.one hmix hA; focus (cbv; done)) | (rw [Ar.notT hA]) | (rw [Ar.notF hA]) | (refine Ok.condT ?_ ?_; focus (cbv; done)) | (refine Ok.condF ?_ ?_; focus (cbv; done)) | (refine Ok.drawnE (by as_aux_lemma => kernel_rfl) ?_) | (apply Ok.call (cC); (focus (cbv; done)); (focus (cbv; done)); (focus (cbv; done))) | (apply Ok.dcall (cC); (focus (cbv; done)); (focus (cbv; done)); (focus (cbv; done))))
      exact Ok.fin (by cbv) (FS.out (by cbv) (PLe.refl _))
end Go.Proofs.Ytnojmocoifodjaa.Pv
set_option maxRecDepth 100000
set_option maxHeartbeats 4000000
set_option linter.unusedVariables false
set_option linter.unusedSimpArgs false
namespace Go.Proofs.Ytnojmocoifodjaa.Pv
open Go Go.Proofs
theorem joinB_text : ∀ l : List Ty, joinB [44] (l.map textT) = textTs true l
  | [] => rfl
  | [x] => by simp [joinB, textTs]
  | x :: y :: l => by
    have ih := joinB_text (y :: l)
    simp only [List.map_cons] at ih ⊢
    rw [joinB, ih]
    simp [textTs]
theorem typ_word (k : Int) : CallsV Try.prog 72 [.int .i64 k] (.pv (.str (wordT k))) [] := by
  obtain ⟨A, hA⟩ : ∃ A : Ar, A = .std := ⟨_, rfl⟩
  refine CallsV.ok (fn := Try.f72) (by kernel_rfl) (by kernel_rfl) rfl (by cbv) (by cbv) ?_
  repeat' (first | (apply Ok.run1 hmix hA false 2000; focus (cbv; done)) | (apply Ok.one hmix hA; focus (cbv; done)) | (rw [Ar.notT hA]) | (rw [Ar.notF hA]) | (refine Ok.condT ?_ ?_; focus (cbv; done)) | (refine Ok.condF ?_ ?_; focus (cbv; done)) | (refine Ok.drawnE (by as_aux_lemma => kernel_rfl) ?_) | (apply Ok.cond; (focus (cbv; done)); all_goals (intro hh; (try rw [hh]))) | (apply Ok.splitG; (focus (cbv; done)); all_goals (intro hh; (try rw [hh]))) | (apply Ok.splitP; (focus (cbv; done)); all_goals (intro hh; (try rw [hh]))) | (apply Ok.fin1; (focus (cbv; done)); (focus (cbv; done))) | (apply Ok.fin2; (focus (cbv; done)); (focus (cbv; done))) | (apply Ok.fin3; (focus (cbv; done)); (focus (cbv; done))))
  all_goals (subst hA; simp_all [Ar.std, wordT, sInt, sBool, sText])
theorem typ_Text {E : Enc} (hE : E = .std) : ∀ (n : Nat) (t : Ty), SizeOf.sizeOf t ≤ n → szT t ≤ 2 ^ 30 → CallsV Try.prog 36 [E.tyc t] (.pv (.str (textT t))) [] := by
  intro n
  induction n with
  | zero => intro t h; cases t; simp at h
  | succ n ih =>
    rintro ⟨kd, l⟩ hn hsz
    obtain ⟨A, hA⟩ : ∃ A : Ar, A = .std := ⟨_, rfl⟩
    rw [szT] at hsz
    have hlen := szTs_len l
    obtain ⟨ln, hln⟩ : ∃ n, n = l.length := ⟨_, rfl⟩
    have hll : A .lenP (E .tys l) = Int.ofNat ln := by rw [Ar.lenP_eq hA, E.tys_eq hE, List.length_map, hln]; rfl
    have hsub : ∀ x, x ∈ l → CallsV Try.prog 36 [E.tyc x] (.pv (.str (textT x))) [] := fun x hx => by
      have h1 := List.sizeOf_lt_of_mem hx
      have h2 := szTs_mem hx
      simp at hn
      exact ih x (by omega) (by omega)
    obtain ⟨tx, htx⟩ : ∃ s, s = textTs true l := ⟨_, rfl⟩
    have htl : tx.length ≤ 8 * szTs l := by rw [htx]; exact textTs_len l true
    have cJ : CallsV Try.prog 73 [.view ((l.map textT).map .str), .str [44]] (.pv (.str tx)) [] := by
      rw [htx, ← joinB_text]
      exact strings_Join [44] (l.map textT) (by rw [joinB_text, ← htx]; omega) (by simp; omega)
    have cW := typ_word kd
    rw [textT]
    clear ih
    refine CallsV.ok (fn := Try.f36) (by kernel_rfl) (by kernel_rfl) rfl (by cbv) (by cbv) ?_
    refine Ok.run hmix hA false 2000 (by cbv) ?_
    rw [Ar.eq_eq hA, Ar.not_eq hA]
    by_cases h4 : kd = 4
    case neg =>
      rw [decide_eq_false h4, if_neg h4]
      repeat (first | (apply Ok.run1 hmix hA false 2000; focus (cbv; done)) | (apply Ok.one hmix hA; focus (cbv; done)) | (rw [Ar.notT hA]) | (rw [Ar.notF hA]) | (refine Ok.condT ?_ ?_; focus (cbv; done)) | (refine Ok.condF ?_ ?_; focus (cbv; done)) | (refine Ok.drawnE (by as_aux_lemma => kernel_rfl) ?_) | (apply Ok.call (cW); (focus (cbv; done)); (focus (cbv; done)); (focus (cbv; done))) | (apply Ok.dcall (cW); (focus (cbv; done)); (focus (cbv; done)); (focus (cbv; done))))
      exact Ok.fin (by cbv) (FS.out (by cbv) (PLe.refl _))
    rw [decide_eq_true h4, if_pos h4, ← htx]
    repeat (first | (apply Ok.run1 hmix hA false 2000; focus (cbv; done)) | (apply Ok.one hmix hA; focus (cbv; done)) | (rw [Ar.notT hA]) | (rw [Ar.notF hA]) | (refine Ok.condT ?_ ?_; focus (cbv; done)) | (refine Ok.condF ?_ ?_; focus (cbv; done)) | (refine Ok.drawnE (by as_aux_lemma => kernel_rfl) ?_))
    rw [hll]
    refine Ok.le (Le.nil 3 23 9 1 (by cbv) (by cbv) (by decide)) ?_
    refine Ok.loopAt [3, 13, 14, 15] [23] (fun m s h => ∃ (k k' : Nat) (es : List PV), m = ln - k ∧ k ≤ ln ∧ k' = k ∧ es = ((l.take k).map textT).map .str ∧
      s = mkS 29 [(3, .ref 23 k'), (13, .pv (.view (E .tys l))), (14, .pv (.int .i64 (Int.ofNat ln))), (15, .pv (.int .i64 (Int.ofNat k)))] ∧ h = [(23, .row 9 1 es true)]) (ln - 0) (by cbv) ⟨0, 0, [], rfl, Nat.zero_le _, rfl, rfl, by cbv, by cbv⟩ ?_
    rintro m s h ⟨k, k', es, rfl, hk, hk', hes, rfl, rfl⟩
    have hesl : k' = es.length := by rw [hes]; simp; omega
    refine Ok.run hmix hA false 2000 (by cbv) ?_
    rw [ofNat_lt hA]
    by_cases hkl : k < ln
    · rw [decide_eq_true hkl]
      repeat (first | (apply Ok.run1 hmix hA false 2000; focus (cbv; done)) | (apply Ok.one hmix hA; focus (cbv; done)) | (rw [Ar.notT hA]) | (rw [Ar.notF hA]) | (refine Ok.condT ?_ ?_; focus (cbv; done)) | (refine Ok.condF ?_ ?_; focus (cbv; done)) | (refine Ok.drawnE (by as_aux_lemma => kernel_rfl) ?_))
      have hx : l[k]? = some (l[k]'(by omega)) := List.getElem?_eq_getElem (by omega)
      have hxm : l[k]'(by omega) ∈ l := List.getElem_mem (by omega)
      have htk : l.take (k + 1) = l.take k ++ [l[k]'(by omega)] := by rw [List.take_add_one, hx]; rfl
      generalize l[k]'(by omega) = x at hx hxm htk
      have cx := hsub x hxm
      obtain ⟨tt, htt⟩ : ∃ s, s = textT x := ⟨_, rfl⟩
      rw [← htt] at cx
      refine Ok.op (idx_view (E.tyc x) (by cbv) (by cbv) (by simp) (by rw [E.tys_eq hE]; simp [hx]) rfl) ?_
      repeat (first | (apply Ok.run1 hmix hA false 2000; focus (cbv; done)) | (apply Ok.one hmix hA; focus (cbv; done)) | (rw [Ar.notT hA]) | (rw [Ar.notF hA]) | (refine Ok.condT ?_ ?_; focus (cbv; done)) | (refine Ok.condF ?_ ?_; focus (cbv; done)) | (refine Ok.drawnE (by as_aux_lemma => kernel_rfl) ?_) | (apply Ok.call (cx); (focus (cbv; done)); (focus (cbv; done)); (focus (cbv; done))) | (apply Ok.dcall (cx); (focus (cbv; done)); (focus (cbv; done)); (focus (cbv; done))))
      obtain ⟨es3, hes3⟩ : ∃ es3, es3 = es ++ [.str tt] := ⟨_, rfl⟩
      obtain ⟨n3, hn3⟩ : ∃ n3, n3 = k' + 1 := ⟨_, rfl⟩
      refine Ok.op (app_ref (by cbv) (by cbv) hesl (by cbv) (by cbv) (by decide) (by simp only [List.length_singleton]; omega) (by unfold maxLen; simp only [List.length_singleton]; omega) n3 (by exact hn3) es3 (by rw [hes3])) ?_
      repeat (first | (apply Ok.run1 hmix hA false 2000; focus (cbv; done)) | (apply Ok.one hmix hA; focus (cbv; done)) | (rw [Ar.notT hA]) | (rw [Ar.notF hA]) | (refine Ok.condT ?_ ?_; focus (cbv; done)) | (refine Ok.condF ?_ ?_; focus (cbv; done)) | (refine Ok.drawnE (by as_aux_lemma => kernel_rfl) ?_))
      rw [Ar.succ_eq hA (by omega)]
      exact Ok.back (ln - (k + 1)) [3, 13, 14, 15] [23] (by omega) (by cbv) ⟨k + 1, n3, es3, rfl, by omega, by omega, by rw [hes3, hes, htk, htt]; simp, by cbv, by cbv⟩
    · rw [decide_eq_false hkl]
      have hke : k = l.length := by omega
      rw [hke, List.take_length] at hes
      rw [← hes] at cJ
      repeat (first | (apply Ok.run1 hmix hA false 2000; focus (cbv; done)) | (apply Ok.one hmix hA; focus (cbv; done)) | (rw [Ar.notT hA]) | (rw [Ar.notF hA]) | (refine Ok.condT ?_ ?_; focus (cbv; done)) | (refine Ok.condF ?_ ?_; focus (cbv; done)) | (refine Ok.drawnE (by as_aux_lemma => kernel_rfl) ?_))
      refine Ok.leave ?_
      refine Ok.run hmix hA false 2000 (by cbv) ?_
      refine Ok.call (ids := [23]) (cJ) (by cbv) (by simp [callArgs, frz2, frz1, frz0, frzL, rowOf, hget, ev, PV.rlx, ← hesl]) (by cbv) ?_
      refine Ok.run hmix hA false 2000 (by cbv) ?_
      refine Ok.op (sadd_op (by cbv) (by cbv) (by simp; omega) _ rfl) ?_
      refine Ok.run hmix hA false 2000 (by cbv) ?_
      refine Ok.op (sadd_op (by cbv) (by cbv) (by simp; omega) _ rfl) ?_
      repeat (first | (apply Ok.run1 hmix hA false 2000; focus (cbv; done)) | (apply Ok.one hmix hA; focus (cbv; done)) | (rw [Ar.notT hA]) | (rw [Ar.notF hA]) | (refine Ok.condT ?_ ?_; focus (cbv; done)) | (refine Ok.condF ?_ ?_; focus (cbv; done)) | (refine Ok.drawnE (by as_aux_lemma => kernel_rfl) ?_))
      exact Ok.fin (by cbv) (FS.out (by cbv) (PLe.refl _))
theorem ref6_checkType {E : Enc} (hE : E = .std) : ∀ (n : Nat) (t : Ty) (d : Nat), SizeOf.sizeOf t ≤ n → szT t ≤ 2 ^ 40 → d ≤ 1000 → CallsV Try.prog 76 [E.tyc t, .int .i64 (Int.ofNat d)] (.pv (.int .i64 (ckT t d))) [] := by
  intro n
  induction n with
  | zero => intro t d h; cases t; simp at h
  | succ n ih =>
    rintro ⟨kd, l⟩ d hn hsz hd
    obtain ⟨A, hA⟩ : ∃ A : Ar, A = .std := ⟨_, rfl⟩
    rw [szT] at hsz
    have hlen := szTs_len l
    obtain ⟨ln, hln⟩ : ∃ n, n = l.length := ⟨_, rfl⟩
    have hll : A .lenP (E .tys l) = Int.ofNat ln := by rw [Ar.lenP_eq hA, E.tys_eq hE, List.length_map, hln]; rfl
    have hgt : A .lt 0 (Int.ofNat ln) = decide (0 < ln) := ofNat_lt hA 0 ln
    have hg8 : A .lt 8 (Int.ofNat ln) = decide (8 < ln) := ofNat_lt hA 8 ln
    have he0 : A .eq (Int.ofNat ln) 0 = decide (ln = 0) := ofNat_eq hA ln 0
    have hd4 : A .lt 4 (Int.ofNat d) = decide (4 < d) := ofNat_lt hA 4 d
    have q1 : A .lt kd 1 = decide (kd < 1) := Ar.lt_eq hA _ _
    have q2 : A .lt 4 kd = decide (4 < kd) := Ar.lt_eq hA _ _
    have q3 : A .not (A .eq kd 4) = !decide (kd = 4) := by rw [Ar.not_eq hA, Ar.eq_eq hA]
    have hsub : d ≤ 4 → ∀ x, x ∈ l → CallsV Try.prog 76 [E.tyc x, .int .i64 (Int.ofNat (d + 1))] (.pv (.int .i64 (ckT x (d + 1)))) [] := fun hd4 x hx => by
      have h1 := List.sizeOf_lt_of_mem hx
      have h2 := szTs_mem hx
      simp at hn
      exact ih x (d + 1) (by omega) (by omega) (by omega)
    clear ih
    have hck : ckT ⟨kd, l⟩ d = if kd < 1 ∨ 4 < kd ∨ (kd ≠ 4 ∧ 0 < ln) then 5 else if kd ≠ 4 then 0 else if ln = 0 then 1 else if 8 < ln then 10 else if 4 < d then 9 else ckTs l (d + 1) := by
      rw [ckT, ← hln]
      unfold rowC
      by_cases h4 : kd = 4
      · subst h4
        simp only [show ¬ ((4 : Int) = 1 ∨ (4 : Int) = 2 ∨ (4 : Int) = 3) by omega, show ¬ ((4 : Int) < 1 ∨ (4 : Int) < 4 ∨ ((4 : Int) ≠ 4 ∧ 0 < ln)) by omega, if_false, if_true, ne_eq, not_true_eq_false]
        by_cases a1 : ln = 0
        · simp [a1]
        · by_cases a2 : 8 < ln
          · simp [a1, a2, show (ln : Int) > 8 by omega]
          · by_cases a3 : 4 < d
            · simp [a1, a2, show ¬ (ln : Int) > 8 by omega, show (d : Int) > 4 by omega, a3]
            · simp [a1, a2, show ¬ (ln : Int) > 8 by omega, show ¬ (d : Int) > 4 by omega, a3]
      · by_cases h5 : kd = 1 ∨ kd = 2 ∨ kd = 3
        · rw [if_pos h5]
          by_cases a1 : 0 < ln
          · rw [if_pos a1, if_pos (by omega)]
          · rw [if_neg a1, if_neg (by omega), if_pos h4]
        · rw [if_neg h5, if_neg h4, if_pos (by omega)]
    rw [hck]
    refine CallsV.ok (fn := Try.f76) (by kernel_rfl) (by kernel_rfl) rfl (by cbv) (by cbv) ?_
    refine Ok.run hmix hA false 2000 (by cbv) ?_
    rw [q1]
    by_cases h1 : kd < 1
    · rw [decide_eq_true h1, if_pos (by omega)]
      repeat (first | (apply Ok.run1 hmix hA false 2000; focus (cbv; done)) | (apply Ok.one hmix hA; focus (cbv; done)) | (rw [Ar.notT hA]) | (rw [Ar.notF hA]) | (refine Ok.condT ?_ ?_; focus (cbv; done)) | (refine Ok.condF ?_ ?_; focus (cbv; done)) | (refine Ok.drawnE (by as_aux_lemma => kernel_rfl) ?_))
      exact Ok.fin (by cbv) (FS.out (by cbv) (PLe.refl _))
    rw [decide_eq_false h1]
    repeat (first | (apply Ok.run1 hmix hA false 2000; focus (cbv; done)) | (apply Ok.one hmix hA; focus (cbv; done)) | (rw [Ar.notT hA]) | (rw [Ar.notF hA]) | (refine Ok.condT ?_ ?_; focus (cbv; done)) | (refine Ok.condF ?_ ?_; focus (cbv; done)) | (refine Ok.drawnE (by as_aux_lemma => kernel_rfl) ?_))
    rw [q2]
    by_cases h2 : 4 < kd
    · rw [decide_eq_true h2, if_pos (by omega)]
      repeat (first | (apply Ok.run1 hmix hA false 2000; focus (cbv; done)) | (apply Ok.one hmix hA; focus (cbv; done)) | (rw [Ar.notT hA]) | (rw [Ar.notF hA]) | (refine Ok.condT ?_ ?_; focus (cbv; done)) | (refine Ok.condF ?_ ?_; focus (cbv; done)) | (refine Ok.drawnE (by as_aux_lemma => kernel_rfl) ?_))
      exact Ok.fin (by cbv) (FS.out (by cbv) (PLe.refl _))
    rw [decide_eq_false h2]
    repeat (first | (apply Ok.run1 hmix hA false 2000; focus (cbv; done)) | (apply Ok.one hmix hA; focus (cbv; done)) | (rw [Ar.notT hA]) | (rw [Ar.notF hA]) | (refine Ok.condT ?_ ?_; focus (cbv; done)) | (refine Ok.condF ?_ ?_; focus (cbv; done)) | (refine Ok.drawnE (by as_aux_lemma => kernel_rfl) ?_))
    rw [q3]
    by_cases h4 : kd = 4
    case neg =>
      rw [decide_eq_false h4]
      repeat (first | (apply Ok.run1 hmix hA false 2000; focus (cbv; done)) | (apply Ok.one hmix hA; focus (cbv; done)) | (rw [Ar.notT hA]) | (rw [Ar.notF hA]) | (refine Ok.condT ?_ ?_; focus (cbv; done)) | (refine Ok.condF ?_ ?_; focus (cbv; done)) | (refine Ok.drawnE (by as_aux_lemma => kernel_rfl) ?_))
      rw [hll, hgt]
      by_cases h5 : 0 < ln
      · rw [decide_eq_true h5, if_pos (by omega)]
        repeat (first | (apply Ok.run1 hmix hA false 2000; focus (cbv; done)) | (apply Ok.one hmix hA; focus (cbv; done)) | (rw [Ar.notT hA]) | (rw [Ar.notF hA]) | (refine Ok.condT ?_ ?_; focus (cbv; done)) | (refine Ok.condF ?_ ?_; focus (cbv; done)) | (refine Ok.drawnE (by as_aux_lemma => kernel_rfl) ?_))
        exact Ok.fin (by cbv) (FS.out (by cbv) (PLe.refl _))
      · rw [decide_eq_false h5, if_neg (by omega), if_pos h4]
        repeat (first | (apply Ok.run1 hmix hA false 2000; focus (cbv; done)) | (apply Ok.one hmix hA; focus (cbv; done)) | (rw [Ar.notT hA]) | (rw [Ar.notF hA]) | (refine Ok.condT ?_ ?_; focus (cbv; done)) | (refine Ok.condF ?_ ?_; focus (cbv; done)) | (refine Ok.drawnE (by as_aux_lemma => kernel_rfl) ?_))
        rw [q3, decide_eq_false h4]
        repeat (first | (apply Ok.run1 hmix hA false 2000; focus (cbv; done)) | (apply Ok.one hmix hA; focus (cbv; done)) | (rw [Ar.notT hA]) | (rw [Ar.notF hA]) | (refine Ok.condT ?_ ?_; focus (cbv; done)) | (refine Ok.condF ?_ ?_; focus (cbv; done)) | (refine Ok.drawnE (by as_aux_lemma => kernel_rfl) ?_))
        exact Ok.fin (by cbv) (FS.out (by cbv) (PLe.refl _))
    rw [decide_eq_true h4, if_neg (by omega), if_neg (by simpa using h4)]
    repeat (first | (apply Ok.run1 hmix hA false 2000; focus (cbv; done)) | (apply Ok.one hmix hA; focus (cbv; done)) | (rw [Ar.notT hA]) | (rw [Ar.notF hA]) | (refine Ok.condT ?_ ?_; focus (cbv; done)) | (refine Ok.condF ?_ ?_; focus (cbv; done)) | (refine Ok.drawnE (by as_aux_lemma => kernel_rfl) ?_))
    rw [q3, decide_eq_true h4]
    repeat (first | (apply Ok.run1 hmix hA false 2000; focus (cbv; done)) | (apply Ok.one hmix hA; focus (cbv; done)) | (rw [Ar.notT hA]) | (rw [Ar.notF hA]) | (refine Ok.condT ?_ ?_; focus (cbv; done)) | (refine Ok.condF ?_ ?_; focus (cbv; done)) | (refine Ok.drawnE (by as_aux_lemma => kernel_rfl) ?_))
    rw [hll, he0]
    by_cases h6 : ln = 0
    · rw [decide_eq_true h6, if_pos h6]
      repeat (first | (apply Ok.run1 hmix hA false 2000; focus (cbv; done)) | (apply Ok.one hmix hA; focus (cbv; done)) | (rw [Ar.notT hA]) | (rw [Ar.notF hA]) | (refine Ok.condT ?_ ?_; focus (cbv; done)) | (refine Ok.condF ?_ ?_; focus (cbv; done)) | (refine Ok.drawnE (by as_aux_lemma => kernel_rfl) ?_))
      exact Ok.fin (by cbv) (FS.out (by cbv) (PLe.refl _))
    rw [decide_eq_false h6, if_neg h6]
    repeat (first | (apply Ok.run1 hmix hA false 2000; focus (cbv; done)) | (apply Ok.one hmix hA; focus (cbv; done)) | (rw [Ar.notT hA]) | (rw [Ar.notF hA]) | (refine Ok.condT ?_ ?_; focus (cbv; done)) | (refine Ok.condF ?_ ?_; focus (cbv; done)) | (refine Ok.drawnE (by as_aux_lemma => kernel_rfl) ?_))
    rw [hll, hg8]
    by_cases h7 : 8 < ln
    · rw [decide_eq_true h7, if_pos h7]
      repeat (first | (apply Ok.run1 hmix hA false 2000; focus (cbv; done)) | (apply Ok.one hmix hA; focus (cbv; done)) | (rw [Ar.notT hA]) | (rw [Ar.notF hA]) | (refine Ok.condT ?_ ?_; focus (cbv; done)) | (refine Ok.condF ?_ ?_; focus (cbv; done)) | (refine Ok.drawnE (by as_aux_lemma => kernel_rfl) ?_))
      exact Ok.fin (by cbv) (FS.out (by cbv) (PLe.refl _))
    rw [decide_eq_false h7, if_neg h7]
    repeat (first | (apply Ok.run1 hmix hA false 2000; focus (cbv; done)) | (apply Ok.one hmix hA; focus (cbv; done)) | (rw [Ar.notT hA]) | (rw [Ar.notF hA]) | (refine Ok.condT ?_ ?_; focus (cbv; done)) | (refine Ok.condF ?_ ?_; focus (cbv; done)) | (refine Ok.drawnE (by as_aux_lemma => kernel_rfl) ?_))
    rw [hd4]
    by_cases h8 : 4 < d
    · rw [decide_eq_true h8, if_pos h8]
      repeat (first | (apply Ok.run1 hmix hA false 2000; focus (cbv; done)) | (apply Ok.one hmix hA; focus (cbv; done)) | (rw [Ar.notT hA]) | (rw [Ar.notF hA]) | (refine Ok.condT ?_ ?_; focus (cbv; done)) | (refine Ok.condF ?_ ?_; focus (cbv; done)) | (refine Ok.drawnE (by as_aux_lemma => kernel_rfl) ?_))
      exact Ok.fin (by cbv) (FS.out (by cbv) (PLe.refl _))
    rw [decide_eq_false h8, if_neg h8]
    repeat (first | (apply Ok.run1 hmix hA false 2000; focus (cbv; done)) | (apply Ok.one hmix hA; focus (cbv; done)) | (rw [Ar.notT hA]) | (rw [Ar.notF hA]) | (refine Ok.condT ?_ ?_; focus (cbv; done)) | (refine Ok.condF ?_ ?_; focus (cbv; done)) | (refine Ok.drawnE (by as_aux_lemma => kernel_rfl) ?_))
    have hsub := hsub (by omega)
    obtain ⟨d1, hd1⟩ : ∃ d1, d1 = d + 1 := ⟨_, rfl⟩
    rw [← hd1] at hsub ⊢
    refine Ok.loopAt [1, 2, 5] [2] (fun m s h => ∃ k, m = ln - k ∧ k ≤ ln ∧ ckTs (l.drop k) d1 = ckTs l d1 ∧ s = mkS 62 [(1, .pv (.int .i64 (Int.ofNat d))), (2, .ptr 2 0), (5, .pv (.int .i64 (Int.ofNat k)))] ∧
      h = [(2, .box [.pv (.int .i64 kd), .pv (.view (E .tys l))] true)]) (ln - 0) (by cbv) ⟨0, rfl, Nat.zero_le _, rfl, by cbv, by cbv⟩ ?_
    rintro m s h ⟨k, rfl, hk, hc, rfl, rfl⟩
    refine Ok.run hmix hA false 2000 (by cbv) ?_
    rw [hll, ofNat_lt hA]
    by_cases hkl : k < ln
    · rw [decide_eq_true hkl]
      repeat (first | (apply Ok.run1 hmix hA false 2000; focus (cbv; done)) | (apply Ok.one hmix hA; focus (cbv; done)) | (rw [Ar.notT hA]) | (rw [Ar.notF hA]) | (refine Ok.condT ?_ ?_; focus (cbv; done)) | (refine Ok.condF ?_ ?_; focus (cbv; done)) | (refine Ok.drawnE (by as_aux_lemma => kernel_rfl) ?_))
      have hx : l[k]? = some (l[k]'(by omega)) := List.getElem?_eq_getElem (by omega)
      have hxm : l[k]'(by omega) ∈ l := List.getElem_mem (by omega)
      have hdl : l.drop k = l[k]'(by omega) :: l.drop (k + 1) := List.drop_eq_getElem_cons (by omega)
      generalize l[k]'(by omega) = x at hx hdl hxm
      rw [hdl, ckTs] at hc
      have cx := hsub x hxm
      obtain ⟨c, hcc⟩ : ∃ c, c = ckT x d1 := ⟨_, rfl⟩
      rw [← hcc] at cx hc
      refine Ok.op (idx_view (E.tyc x) (by cbv) (by cbv) (by simp) (by rw [E.tys_eq hE]; simp [hx]) rfl) ?_
      refine Ok.run hmix hA false 2000 (by cbv) ?_
      rw [Ar.succ_eq (k := d) hA (by omega), ← hd1]
      repeat (first | (apply Ok.run1 hmix hA false 2000; focus (cbv; done)) | (apply Ok.one hmix hA; focus (cbv; done)) | (rw [Ar.notT hA]) | (rw [Ar.notF hA]) | (refine Ok.condT ?_ ?_; focus (cbv; done)) | (refine Ok.condF ?_ ?_; focus (cbv; done)) | (refine Ok.drawnE (by as_aux_lemma => kernel_rfl) ?_) | (apply Ok.call (cx); (focus (cbv; done)); (focus (cbv; done)); (focus (cbv; done))) | (apply Ok.dcall (cx); (focus (cbv; done)); (focus (cbv; done)); (focus (cbv; done))))
      rw [Ar.eq_eq hA, Ar.not_eq hA]
      by_cases h0 : c = 0
      · rw [if_neg (by simpa using h0)] at hc
        rw [decide_eq_true h0]
        repeat (first | (apply Ok.run1 hmix hA false 2000; focus (cbv; done)) | (apply Ok.one hmix hA; focus (cbv; done)) | (rw [Ar.notT hA]) | (rw [Ar.notF hA]) | (refine Ok.condT ?_ ?_; focus (cbv; done)) | (refine Ok.condF ?_ ?_; focus (cbv; done)) | (refine Ok.drawnE (by as_aux_lemma => kernel_rfl) ?_))
        rw [Ar.succ_eq (k := k) hA (by omega)]
        exact Ok.back (ln - (k + 1)) [1, 2, 5] [2] (by omega) (by cbv) ⟨k + 1, rfl, by omega, hc, by cbv, by cbv⟩
      · rw [if_pos h0] at hc
        rw [decide_eq_false h0, ← hc]
        repeat (first | (apply Ok.run1 hmix hA false 2000; focus (cbv; done)) | (apply Ok.one hmix hA; focus (cbv; done)) | (rw [Ar.notT hA]) | (rw [Ar.notF hA]) | (refine Ok.condT ?_ ?_; focus (cbv; done)) | (refine Ok.condF ?_ ?_; focus (cbv; done)) | (refine Ok.drawnE (by as_aux_lemma => kernel_rfl) ?_))
        refine Ok.leaveRet ?_
        repeat (first | (apply Ok.run1 hmix hA false 2000; focus (cbv; done)) | (apply Ok.one hmix hA; focus (cbv; done)) | (rw [Ar.notT hA]) | (rw [Ar.notF hA]) | (refine Ok.condT ?_ ?_; focus (cbv; done)) | (refine Ok.condF ?_ ?_; focus (cbv; done)) | (refine Ok.drawnE (by as_aux_lemma => kernel_rfl) ?_))
        exact Ok.fin (by cbv) (FS.out (by cbv) (PLe.refl _))
    · rw [decide_eq_false hkl]
      have hke : k = l.length := by omega
      rw [hke, List.drop_length] at hc
      rw [← hc]
      repeat (first | (apply Ok.run1 hmix hA false 2000; focus (cbv; done)) | (apply Ok.one hmix hA; focus (cbv; done)) | (rw [Ar.notT hA]) | (rw [Ar.notF hA]) | (refine Ok.condT ?_ ?_; focus (cbv; done)) | (refine Ok.condF ?_ ?_; focus (cbv; done)) | (refine Ok.drawnE (by as_aux_lemma => kernel_rfl) ?_))
      refine Ok.leave ?_
      repeat (first | (apply Ok.run1 hmix hA false 2000; focus (cbv; done)) | (apply Ok.one hmix hA; focus (cbv; done)) | (rw [Ar.notT hA]) | (rw [Ar.notF hA]) | (refine Ok.condT ?_ ?_; focus (cbv; done)) | (refine Ok.condF ?_ ?_; focus (cbv; done)) | (refine Ok.drawnE (by as_aux_lemma => kernel_rfl) ?_))
      exact Ok.fin (by cbv) (FS.out (by cbv) (PLe.refl _))
end Go.Proofs.Ytnojmocoifodjaa.Pv
set_option maxRecDepth 100000
set_option maxHeartbeats 4000000
set_option linter.unusedVariables false
set_option linter.unusedSimpArgs false
namespace Go.Proofs.Ytnojmocoifodjaa.Pv
open Go Go.Proofs
theorem strip_isSome (w s : List UInt8) : (strip w s).isSome = decide (s.take w.length = w) := by
  unfold strip
  split <;> simp_all
theorem lite_HasPrefix (s w : List UInt8) : CallsV Try.prog 161 [.str s, .str w] (.pv (.bool (strip w s).isSome)) [] := by
  obtain ⟨A, hA⟩ : ∃ A : Ar, A = .std := ⟨_, rfl⟩
  obtain ⟨ns, hns⟩ : ∃ n, n = s.length := ⟨_, rfl⟩
  obtain ⟨nw, hnw⟩ : ∃ n, n = w.length := ⟨_, rfl⟩
  have e1 : A .lenS s = Int.ofNat ns := by rw [hns]; exact lenS_nat hA s
  have e2 : A .lenS w = Int.ofNat nw := by rw [hnw]; exact lenS_nat hA w
  obtain ⟨p, hp⟩ : ∃ p, p = s.take nw := ⟨_, rfl⟩
  have hb : (strip w s).isSome = decide (p = w) := by rw [strip_isSome, hp, hnw]
  rw [hb]
  obtain ⟨b, hbb⟩ : ∃ b, b = decide (p = w) := ⟨_, rfl⟩
  rw [← hbb]
  refine CallsV.ok (fn := Try.f161) (by kernel_rfl) (by kernel_rfl) rfl (by cbv) (by cbv) ?_
  refine Ok.run hmix hA false 2000 (by cbv) ?_
  rw [e1, e2, ofNat_le hA]
  by_cases hle : nw ≤ ns
  · rw [decide_eq_true hle]
    repeat (first | (apply Ok.run1 hmix hA false 2000; focus (cbv; done)) | (apply Ok.one hmix hA; focus (cbv; done)) | (rw [Ar.notT hA]) | (rw [Ar.notF hA]) | (refine Ok.condT ?_ ?_; focus (cbv; done)) | (refine Ok.condF ?_ ?_; focus (cbv; done)) | (refine Ok.drawnE (by as_aux_lemma => kernel_rfl) ?_))
    rw [e2]
    refine Ok.op (sslc_op (a := 0) (b := nw) (by cbv) (by cbv) (by rfl) (by exact bound_nat _ _ _) (by omega) (by omega) p (by rw [hp]; simp)) ?_
    repeat (first | (apply Ok.run1 hmix hA false 2000; focus (cbv; done)) | (apply Ok.one hmix hA; focus (cbv; done)) | (rw [Ar.notT hA]) | (rw [Ar.notF hA]) | (refine Ok.condT ?_ ?_; focus (cbv; done)) | (refine Ok.condF ?_ ?_; focus (cbv; done)) | (refine Ok.drawnE (by as_aux_lemma => kernel_rfl) ?_))
    rw [Ar.seq_eq hA, ← hbb]
    repeat (first | (apply Ok.run1 hmix hA false 2000; focus (cbv; done)) | (apply Ok.one hmix hA; focus (cbv; done)) | (rw [Ar.notT hA]) | (rw [Ar.notF hA]) | (refine Ok.condT ?_ ?_; focus (cbv; done)) | (refine Ok.condF ?_ ?_; focus (cbv; done)) | (refine Ok.drawnE (by as_aux_lemma => kernel_rfl) ?_))
    exact Ok.fin (by cbv) (FS.out (by cbv) (PLe.refl _))
  · rw [decide_eq_false hle]
    have : b = false := by
      rw [hbb]
      apply decide_eq_false
      intro h
      have := congrArg List.length h
      rw [hp, List.length_take] at this
      omega
    rw [this]
    repeat (first | (apply Ok.run1 hmix hA false 2000; focus (cbv; done)) | (apply Ok.one hmix hA; focus (cbv; done)) | (rw [Ar.notT hA]) | (rw [Ar.notF hA]) | (refine Ok.condT ?_ ?_; focus (cbv; done)) | (refine Ok.condF ?_ ?_; focus (cbv; done)) | (refine Ok.drawnE (by as_aux_lemma => kernel_rfl) ?_))
    exact Ok.fin (by cbv) (FS.out (by cbv) (PLe.refl _))
def cutR (w s : List UInt8) : List UInt8 := (strip w s).getD s
theorem lite_CutPrefix (s w : List UInt8) : CallsV Try.prog 142 [.str s, .str w] (.tup [.pv (.str (cutR w s)), .pv (.bool (strip w s).isSome)]) [] := by
  obtain ⟨A, hA⟩ : ∃ A : Ar, A = .std := ⟨_, rfl⟩
  obtain ⟨nw, hnw⟩ : ∃ n, n = w.length := ⟨_, rfl⟩
  have e2 : A .lenS w = Int.ofNat nw := by rw [hnw]; exact lenS_nat hA w
  have c := lite_HasPrefix s w
  unfold cutR
  cases hs : strip w s with
  | none =>
    rw [hs] at c
    refine CallsV.ok (fn := Try.f142) (by kernel_rfl) (by kernel_rfl) rfl (by cbv) (by cbv) ?_
    repeat (first | (apply Ok.run1 hmix hA false 2000; focus (cbv; done)) | (apply Ok.one hmix hA; focus (cbv; done)) | (rw [Ar.notT hA]) | (rw [Ar.notF hA]) | (refine Ok.condT ?_ ?_; focus (cbv; done)) | (refine Ok.condF ?_ ?_; focus (cbv; done)) | (refine Ok.drawnE (by as_aux_lemma => kernel_rfl) ?_) | (apply Ok.call (c); (focus (cbv; done)); (focus (cbv; done)); (focus (cbv; done))) | (apply Ok.dcall (c); (focus (cbv; done)); (focus (cbv; done)); (focus (cbv; done))))
    try rw [Ar.not_eq hA]
    repeat (first | (apply Ok.run1 hmix hA false 2000; focus (cbv; done)) | (apply Ok.one hmix hA; focus (cbv; done)) | (rw [Ar.notT hA]) | (rw [Ar.notF hA]) | (refine Ok.condT ?_ ?_; focus (cbv; done)) | (refine Ok.condF ?_ ?_; focus (cbv; done)) | (refine Ok.drawnE (by as_aux_lemma => kernel_rfl) ?_))
    (first | (apply Ok.fin1; (focus (cbv; done)); (focus (cbv; done))) | (apply Ok.fin2; (focus (cbv; done)); (focus (cbv; done))) | (apply Ok.fin3; (focus (cbv; done)); (focus (cbv; done))))
    all_goals rfl
  | some r =>
    rw [hs] at c
    have h1 := strip_eq hs
    have hl : nw ≤ s.length := by rw [h1, hnw]; simp
    refine CallsV.ok (fn := Try.f142) (by kernel_rfl) (by kernel_rfl) rfl (by cbv) (by cbv) ?_
    repeat (first | (apply Ok.run1 hmix hA false 2000; focus (cbv; done)) | (apply Ok.one hmix hA; focus (cbv; done)) | (rw [Ar.notT hA]) | (rw [Ar.notF hA]) | (refine Ok.condT ?_ ?_; focus (cbv; done)) | (refine Ok.condF ?_ ?_; focus (cbv; done)) | (refine Ok.drawnE (by as_aux_lemma => kernel_rfl) ?_) | (apply Ok.call (c); (focus (cbv; done)); (focus (cbv; done)); (focus (cbv; done))) | (apply Ok.dcall (c); (focus (cbv; done)); (focus (cbv; done)); (focus (cbv; done))))
    try rw [Ar.not_eq hA]
    repeat (first | (apply Ok.run1 hmix hA false 2000; focus (cbv; done)) | (apply Ok.one hmix hA; focus (cbv; done)) | (rw [Ar.notT hA]) | (rw [Ar.notF hA]) | (refine Ok.condT ?_ ?_; focus (cbv; done)) | (refine Ok.condF ?_ ?_; focus (cbv; done)) | (refine Ok.drawnE (by as_aux_lemma => kernel_rfl) ?_))
    rw [e2]
    refine Ok.op (sslc_op (a := nw) (b := s.length) (by cbv) (by cbv) (by exact bound_nat _ _ _) (by rfl) (by omega) (by omega) r (by rw [List.take_length, h1, hnw]; simp)) ?_
    repeat (first | (apply Ok.run1 hmix hA false 2000; focus (cbv; done)) | (apply Ok.one hmix hA; focus (cbv; done)) | (rw [Ar.notT hA]) | (rw [Ar.notF hA]) | (refine Ok.condT ?_ ?_; focus (cbv; done)) | (refine Ok.condF ?_ ?_; focus (cbv; done)) | (refine Ok.drawnE (by as_aux_lemma => kernel_rfl) ?_))
    (first | (apply Ok.fin1; (focus (cbv; done)); (focus (cbv; done))) | (apply Ok.fin2; (focus (cbv; done)); (focus (cbv; done))) | (apply Ok.fin3; (focus (cbv; done)); (focus (cbv; done))))
    all_goals rfl
theorem strings_CutPrefix (s w : List UInt8) : CallsV Try.prog 102 [.str s, .str w] (.tup [.pv (.str (cutR w s)), .pv (.bool (strip w s).isSome)]) [] := by
  obtain ⟨A, hA⟩ : ∃ A : Ar, A = .std := ⟨_, rfl⟩
  have c := lite_CutPrefix s w
  generalize cutR w s = r at c ⊢
  generalize (strip w s).isSome = b at c ⊢
  refine CallsV.ok (fn := Try.f102) (by kernel_rfl) (by kernel_rfl) rfl (by cbv) (by cbv) ?_
  repeat (first | (apply Ok.run1 hmix hA false 2000; focus (cbv; done)) | (apply Ok.one hmix hA; focus (cbv; done)) | (rw [Ar.notT hA]) | (rw [Ar.notF hA]) | (refine Ok.condT ?_ ?_; focus (cbv; done)) | (refine Ok.condF ?_ ?_; focus (cbv; done)) | (refine Ok.drawnE (by as_aux_lemma => kernel_rfl) ?_) | (apply Ok.call (c); (focus (cbv; done)); (focus (cbv; done)); (focus (cbv; done))) | (apply Ok.dcall (c); (focus (cbv; done)); (focus (cbv; done)); (focus (cbv; done))))
  (first | (apply Ok.fin1; (focus (cbv; done)); (focus (cbv; done))) | (apply Ok.fin2; (focus (cbv; done)); (focus (cbv; done))) | (apply Ok.fin3; (focus (cbv; done)); (focus (cbv; done))))
  all_goals rfl
end Go.Proofs.Ytnojmocoifodjaa.Pv
set_option maxRecDepth 100000
set_option maxHeartbeats 4000000
set_option linter.unusedVariables false
set_option linter.unusedSimpArgs false
namespace Go.Proofs.Ytnojmocoifodjaa.Pv
open Go Go.Proofs
def rT (q : Option (Ty × List UInt8)) : Ty := match q with
  | some (t, _) => t
  | none => .zero
def rS (q : Option (Ty × List UInt8)) : List UInt8 := match q with
  | some (_, r) => r
  | none => []
theorem strip_none_cut {w s : List UInt8} (h : strip w s = none) : cutR w s = s := by simp [cutR, h]
theorem strip_some_cut {w s r : List UInt8} (h : strip w s = some r) : cutR w s = r := by simp [cutR, h]
theorem cut_none {s w : List UInt8} (h : strip w s = none) : CallsV Try.prog 102 [.str s, .str w] (.tup [.pv (.str s), .pv (.bool false)]) [] := by
  have c := strings_CutPrefix s w
  rw [strip_none_cut h, h] at c
  exact c
theorem cut_some {s w r : List UInt8} (h : strip w s = some r) : CallsV Try.prog 102 [.str s, .str w] (.tup [.pv (.str r), .pv (.bool true)]) [] := by
  have c := strings_CutPrefix s w
  rw [strip_some_cut h, h] at c
  exact c
theorem cut_any (s w : List UInt8) : ∃ r b, CallsV Try.prog 102 [.str s, .str w] (.tup [.pv (.str r), .pv (.bool b)]) [] := ⟨_, _, strings_CutPrefix s w⟩
theorem typ_read {E : Enc} (hE : E = .std) : ∀ (n : Nat) (s : List UInt8), 2 * s.length + 2 ≤ n → s.length ≤ 2 ^ 20 → CallsV Try.prog 70 [.str s] (.tup [.pv (E.tyc (rT (rd n s))), .pv (.str (rS (rd n s))), .pv (.bool (rd n s).isSome)]) [] := by
  intro n
  induction n using Nat.strongRecOn with
  | _ n ih =>
  intro s hfu hsl
  obtain ⟨n, rfl⟩ : ∃ k, n = k + 1 := ⟨n - 1, by omega⟩
  obtain ⟨A, hA⟩ : ∃ A : Ar, A = .std := ⟨_, rfl⟩
  have ht0 : E .tys [] = [] := by rw [E.tys_eq hE]; rfl
  have cw1 : CallsV Try.prog 72 [.int .i64 1] (.pv (.str sInt)) [] := typ_word 1
  have cw2 : CallsV Try.prog 72 [.int .i64 2] (.pv (.str sBool)) [] := typ_word 2
  have cw3 : CallsV Try.prog 72 [.int .i64 3] (.pv (.str sText)) [] := typ_word 3
  obtain ⟨res, hres⟩ : ∃ q, q = rd (n + 1) s := ⟨_, rfl⟩
  rw [← hres]
  have hrd := hres
  rw [rd] at hrd
  refine CallsV.ok (fn := Try.f70) (by kernel_rfl) (by kernel_rfl) rfl (by cbv) (by cbv) ?_
  repeat (first | (apply Ok.run1 hmix hA false 2000; focus (cbv; done)) | (apply Ok.one hmix hA; focus (cbv; done)) | (rw [Ar.notT hA]) | (rw [Ar.notF hA]) | (refine Ok.condT ?_ ?_; focus (cbv; done)) | (refine Ok.condF ?_ ?_; focus (cbv; done)) | (refine Ok.drawnE (by as_aux_lemma => kernel_rfl) ?_))
  rw [lenN_nat hA]
  refine Ok.loopAt [0, 2, 3, 4, 17, 18, 19] [2, 17] (fun m sl h => ∃ k, m = 3 - k ∧ k ≤ 3 ∧ (1 ≤ k → strip sInt s = none) ∧ (2 ≤ k → strip sBool s = none) ∧ (3 ≤ k → strip sText s = none) ∧
    sl = mkS 81 [(0, .pv (.str s)), (2, .ptr 2 0), (3, .pv (.str [])), (4, .pv (.bool false)), (17, .ref 17 3), (18, .pv (.int .i64 (Int.ofNat 3))), (19, .pv (.int .i64 (Int.ofNat k)))] ∧
    h = [(2, .box [.pv (.int .i64 0), .pv .nil] true), (17, .row 3 1 [.int .i64 1, .int .i64 2, .int .i64 3] true)]) (3 - 0) (by cbv) ⟨0, rfl, by omega, by omega, by omega, by omega, by cbv, by cbv⟩ ?_
  rintro m sl h ⟨k, rfl, hk, a1, a2, a3, rfl, rfl⟩
  refine Ok.run hmix hA false 2000 (by cbv) ?_
  rw [ofNat_lt hA]
  by_cases hk3 : k < 3
  · rw [decide_eq_true hk3]
    rcases (show k = 0 ∨ k = 1 ∨ k = 2 by omega) with rfl | rfl | rfl
    · cases hs : strip sInt s with
      | some r =>
        simp only [hs] at hrd
        have cc := cut_some hs
        repeat (first | (apply Ok.run1 hmix hA false 2000; focus (cbv; done)) | (apply Ok.one hmix hA; focus (cbv; done)) | (rw [Ar.notT hA]) | (rw [Ar.notF hA]) | (refine Ok.condT ?_ ?_; focus (cbv; done)) | (refine Ok.condF ?_ ?_; focus (cbv; done)) | (refine Ok.drawnE (by as_aux_lemma => kernel_rfl) ?_) | (apply Ok.op; (focus (cbv; done))) | (apply Ok.dop; (focus (cbv; done))) | (apply Ok.call (cw1); (focus (cbv; done)); (focus (cbv; done)); (focus (cbv; done))) | (apply Ok.dcall (cw1); (focus (cbv; done)); (focus (cbv; done)); (focus (cbv; done))) | (apply Ok.call (cc); (focus (cbv; done)); (focus (cbv; done)); (focus (cbv; done))) | (apply Ok.dcall (cc); (focus (cbv; done)); (focus (cbv; done)); (focus (cbv; done))))
        refine Ok.leaveRet ?_
        repeat (first | (apply Ok.run1 hmix hA false 2000; focus (cbv; done)) | (apply Ok.one hmix hA; focus (cbv; done)) | (rw [Ar.notT hA]) | (rw [Ar.notF hA]) | (refine Ok.condT ?_ ?_; focus (cbv; done)) | (refine Ok.condF ?_ ?_; focus (cbv; done)) | (refine Ok.drawnE (by as_aux_lemma => kernel_rfl) ?_))
        rw [hrd]
        (first | (apply Ok.fin1; (focus (cbv; done)); (focus (cbv; done))) | (apply Ok.fin2; (focus (cbv; done)); (focus (cbv; done))) | (apply Ok.fin3; (focus (cbv; done)); (focus (cbv; done))))
        all_goals first | rfl | simp [rT, rS, Enc.tyc, ht0]
      | none =>
        have cc := cut_none hs
        repeat (first | (apply Ok.run1 hmix hA false 2000; focus (cbv; done)) | (apply Ok.one hmix hA; focus (cbv; done)) | (rw [Ar.notT hA]) | (rw [Ar.notF hA]) | (refine Ok.condT ?_ ?_; focus (cbv; done)) | (refine Ok.condF ?_ ?_; focus (cbv; done)) | (refine Ok.drawnE (by as_aux_lemma => kernel_rfl) ?_) | (apply Ok.op; (focus (cbv; done))) | (apply Ok.dop; (focus (cbv; done))) | (apply Ok.call (cw1); (focus (cbv; done)); (focus (cbv; done)); (focus (cbv; done))) | (apply Ok.dcall (cw1); (focus (cbv; done)); (focus (cbv; done)); (focus (cbv; done))) | (apply Ok.call (cc); (focus (cbv; done)); (focus (cbv; done)); (focus (cbv; done))) | (apply Ok.dcall (cc); (focus (cbv; done)); (focus (cbv; done)); (focus (cbv; done))))
        rw [Ar.succ_eq (k := 0) hA (by omega)]
        exact Ok.back (3 - 1) [0, 2, 3, 4, 17, 18, 19] [2, 17] (by omega) (by cbv) ⟨1, rfl, by omega, fun _ => rfl, by omega, by omega, by cbv, by cbv⟩
    · cases hs : strip sBool s with
      | some r =>
        simp only [a1 (by omega), hs] at hrd
        have cc := cut_some hs
        repeat (first | (apply Ok.run1 hmix hA false 2000; focus (cbv; done)) | (apply Ok.one hmix hA; focus (cbv; done)) | (rw [Ar.notT hA]) | (rw [Ar.notF hA]) | (refine Ok.condT ?_ ?_; focus (cbv; done)) | (refine Ok.condF ?_ ?_; focus (cbv; done)) | (refine Ok.drawnE (by as_aux_lemma => kernel_rfl) ?_) | (apply Ok.op; (focus (cbv; done))) | (apply Ok.dop; (focus (cbv; done))) | (apply Ok.call (cw2); (focus (cbv; done)); (focus (cbv; done)); (focus (cbv; done))) | (apply Ok.dcall (cw2); (focus (cbv; done)); (focus (cbv; done)); (focus (cbv; done))) | (apply Ok.call (cc); (focus (cbv; done)); (focus (cbv; done)); (focus (cbv; done))) | (apply Ok.dcall (cc); (focus (cbv; done)); (focus (cbv; done)); (focus (cbv; done))))
        refine Ok.leaveRet ?_
        repeat (first | (apply Ok.run1 hmix hA false 2000; focus (cbv; done)) | (apply Ok.one hmix hA; focus (cbv; done)) | (rw [Ar.notT hA]) | (rw [Ar.notF hA]) | (refine Ok.condT ?_ ?_; focus (cbv; done)) | (refine Ok.condF ?_ ?_; focus (cbv; done)) | (refine Ok.drawnE (by as_aux_lemma => kernel_rfl) ?_))
        rw [hrd]
        (first | (apply Ok.fin1; (focus (cbv; done)); (focus (cbv; done))) | (apply Ok.fin2; (focus (cbv; done)); (focus (cbv; done))) | (apply Ok.fin3; (focus (cbv; done)); (focus (cbv; done))))
        all_goals first | rfl | simp [rT, rS, Enc.tyc, ht0]
      | none =>
        have cc := cut_none hs
        repeat (first | (apply Ok.run1 hmix hA false 2000; focus (cbv; done)) | (apply Ok.one hmix hA; focus (cbv; done)) | (rw [Ar.notT hA]) | (rw [Ar.notF hA]) | (refine Ok.condT ?_ ?_; focus (cbv; done)) | (refine Ok.condF ?_ ?_; focus (cbv; done)) | (refine Ok.drawnE (by as_aux_lemma => kernel_rfl) ?_) | (apply Ok.op; (focus (cbv; done))) | (apply Ok.dop; (focus (cbv; done))) | (apply Ok.call (cw2); (focus (cbv; done)); (focus (cbv; done)); (focus (cbv; done))) | (apply Ok.dcall (cw2); (focus (cbv; done)); (focus (cbv; done)); (focus (cbv; done))) | (apply Ok.call (cc); (focus (cbv; done)); (focus (cbv; done)); (focus (cbv; done))) | (apply Ok.dcall (cc); (focus (cbv; done)); (focus (cbv; done)); (focus (cbv; done))))
        rw [Ar.succ_eq (k := 1) hA (by omega)]
        exact Ok.back (3 - 2) [0, 2, 3, 4, 17, 18, 19] [2, 17] (by omega) (by cbv) ⟨2, rfl, by omega, fun _ => a1 (by omega), fun _ => rfl, by omega, by cbv, by cbv⟩
    · cases hs : strip sText s with
      | some r =>
        simp only [a1 (by omega), a2 (by omega), hs] at hrd
        have cc := cut_some hs
        repeat (first | (apply Ok.run1 hmix hA false 2000; focus (cbv; done)) | (apply Ok.one hmix hA; focus (cbv; done)) | (rw [Ar.notT hA]) | (rw [Ar.notF hA]) | (refine Ok.condT ?_ ?_; focus (cbv; done)) | (refine Ok.condF ?_ ?_; focus (cbv; done)) | (refine Ok.drawnE (by as_aux_lemma => kernel_rfl) ?_) | (apply Ok.op; (focus (cbv; done))) | (apply Ok.dop; (focus (cbv; done))) | (apply Ok.call (cw3); (focus (cbv; done)); (focus (cbv; done)); (focus (cbv; done))) | (apply Ok.dcall (cw3); (focus (cbv; done)); (focus (cbv; done)); (focus (cbv; done))) | (apply Ok.call (cc); (focus (cbv; done)); (focus (cbv; done)); (focus (cbv; done))) | (apply Ok.dcall (cc); (focus (cbv; done)); (focus (cbv; done)); (focus (cbv; done))))
        refine Ok.leaveRet ?_
        repeat (first | (apply Ok.run1 hmix hA false 2000; focus (cbv; done)) | (apply Ok.one hmix hA; focus (cbv; done)) | (rw [Ar.notT hA]) | (rw [Ar.notF hA]) | (refine Ok.condT ?_ ?_; focus (cbv; done)) | (refine Ok.condF ?_ ?_; focus (cbv; done)) | (refine Ok.drawnE (by as_aux_lemma => kernel_rfl) ?_))
        rw [hrd]
        (first | (apply Ok.fin1; (focus (cbv; done)); (focus (cbv; done))) | (apply Ok.fin2; (focus (cbv; done)); (focus (cbv; done))) | (apply Ok.fin3; (focus (cbv; done)); (focus (cbv; done))))
        all_goals first | rfl | simp [rT, rS, Enc.tyc, ht0]
      | none =>
        have cc := cut_none hs
        repeat (first | (apply Ok.run1 hmix hA false 2000; focus (cbv; done)) | (apply Ok.one hmix hA; focus (cbv; done)) | (rw [Ar.notT hA]) | (rw [Ar.notF hA]) | (refine Ok.condT ?_ ?_; focus (cbv; done)) | (refine Ok.condF ?_ ?_; focus (cbv; done)) | (refine Ok.drawnE (by as_aux_lemma => kernel_rfl) ?_) | (apply Ok.op; (focus (cbv; done))) | (apply Ok.dop; (focus (cbv; done))) | (apply Ok.call (cw3); (focus (cbv; done)); (focus (cbv; done)); (focus (cbv; done))) | (apply Ok.dcall (cw3); (focus (cbv; done)); (focus (cbv; done)); (focus (cbv; done))) | (apply Ok.call (cc); (focus (cbv; done)); (focus (cbv; done)); (focus (cbv; done))) | (apply Ok.dcall (cc); (focus (cbv; done)); (focus (cbv; done)); (focus (cbv; done))))
        rw [Ar.succ_eq (k := 2) hA (by omega)]
        exact Ok.back (3 - 3) [0, 2, 3, 4, 17, 18, 19] [2, 17] (by omega) (by cbv) ⟨3, rfl, by omega, fun _ => a1 (by omega), fun _ => a2 (by omega), fun _ => rfl, by cbv, by cbv⟩
  rw [decide_eq_false hk3]
  simp only [a1 (by omega), a2 (by omega), a3 (by omega)] at hrd
  clear a1 a2 a3 cw1 cw2 cw3
  repeat (first | (apply Ok.run1 hmix hA false 2000; focus (cbv; done)) | (apply Ok.one hmix hA; focus (cbv; done)) | (rw [Ar.notT hA]) | (rw [Ar.notF hA]) | (refine Ok.condT ?_ ?_; focus (cbv; done)) | (refine Ok.condF ?_ ?_; focus (cbv; done)) | (refine Ok.drawnE (by as_aux_lemma => kernel_rfl) ?_))
  refine Ok.leave ?_
  cases hs : strip [40] s with
  | none =>
    have cc := cut_none hs
    obtain ⟨r1, b1, cd⟩ := cut_any s [41]
    simp only [hs] at hrd
    repeat (first | (apply Ok.run1 hmix hA false 2000; focus (cbv; done)) | (apply Ok.one hmix hA; focus (cbv; done)) | (rw [Ar.notT hA]) | (rw [Ar.notF hA]) | (refine Ok.condT ?_ ?_; focus (cbv; done)) | (refine Ok.condF ?_ ?_; focus (cbv; done)) | (refine Ok.drawnE (by as_aux_lemma => kernel_rfl) ?_) | (apply Ok.call (cc); (focus (cbv; done)); (focus (cbv; done)); (focus (cbv; done))) | (apply Ok.dcall (cc); (focus (cbv; done)); (focus (cbv; done)); (focus (cbv; done))) | (apply Ok.call (cd); (focus (cbv; done)); (focus (cbv; done)); (focus (cbv; done))) | (apply Ok.dcall (cd); (focus (cbv; done)); (focus (cbv; done)); (focus (cbv; done))))
    refine Ok.loopAt [2, 3, 4, 10] [2] (fun m sl h => m = 0 ∧ sl = mkS 81 [(2, .ptr 2 0), (3, .pv (.str [])), (4, .pv (.bool false)), (10, .pv (.bool false))] ∧ h = [(2, .box [.pv (.int .i64 0), .pv .nil] true)]) 0 (by cbv) ⟨rfl, by cbv, by cbv⟩ ?_
    rintro m sl h ⟨rfl, rfl, rfl⟩
    repeat (first | (apply Ok.run1 hmix hA false 2000; focus (cbv; done)) | (apply Ok.one hmix hA; focus (cbv; done)) | (rw [Ar.notT hA]) | (rw [Ar.notF hA]) | (refine Ok.condT ?_ ?_; focus (cbv; done)) | (refine Ok.condF ?_ ?_; focus (cbv; done)) | (refine Ok.drawnE (by as_aux_lemma => kernel_rfl) ?_))
    refine Ok.leave ?_
    repeat (first | (apply Ok.run1 hmix hA false 2000; focus (cbv; done)) | (apply Ok.one hmix hA; focus (cbv; done)) | (rw [Ar.notT hA]) | (rw [Ar.notF hA]) | (refine Ok.condT ?_ ?_; focus (cbv; done)) | (refine Ok.condF ?_ ?_; focus (cbv; done)) | (refine Ok.drawnE (by as_aux_lemma => kernel_rfl) ?_))
    rw [hrd]
    (first | (apply Ok.fin1; (focus (cbv; done)); (focus (cbv; done))) | (apply Ok.fin2; (focus (cbv; done)); (focus (cbv; done))) | (apply Ok.fin3; (focus (cbv; done)); (focus (cbv; done))))
    all_goals first | rfl | simp [rT, rS, Enc.tyc, ht0, Ty.zero]
  | some r =>
    have cc := cut_some hs
    have hsr := strip_eq hs
    simp only [hs] at hrd
    cases hs2 : strip [41] r with
    | some e =>
      have cd := cut_some hs2
      simp only [hs2] at hrd
      repeat (first | (apply Ok.run1 hmix hA false 2000; focus (cbv; done)) | (apply Ok.one hmix hA; focus (cbv; done)) | (rw [Ar.notT hA]) | (rw [Ar.notF hA]) | (refine Ok.condT ?_ ?_; focus (cbv; done)) | (refine Ok.condF ?_ ?_; focus (cbv; done)) | (refine Ok.drawnE (by as_aux_lemma => kernel_rfl) ?_) | (apply Ok.call (cc); (focus (cbv; done)); (focus (cbv; done)); (focus (cbv; done))) | (apply Ok.dcall (cc); (focus (cbv; done)); (focus (cbv; done)); (focus (cbv; done))) | (apply Ok.call (cd); (focus (cbv; done)); (focus (cbv; done)); (focus (cbv; done))) | (apply Ok.dcall (cd); (focus (cbv; done)); (focus (cbv; done)); (focus (cbv; done))))
      rw [hrd]
      (first | (apply Ok.fin1; (focus (cbv; done)); (focus (cbv; done))) | (apply Ok.fin2; (focus (cbv; done)); (focus (cbv; done))) | (apply Ok.fin3; (focus (cbv; done)); (focus (cbv; done))))
      all_goals first | rfl | simp [rT, rS, Enc.tyc, ht0]
    | none =>
      have cd := cut_none hs2
      simp only [hs2] at hrd
      repeat (first | (apply Ok.run1 hmix hA false 2000; focus (cbv; done)) | (apply Ok.one hmix hA; focus (cbv; done)) | (rw [Ar.notT hA]) | (rw [Ar.notF hA]) | (refine Ok.condT ?_ ?_; focus (cbv; done)) | (refine Ok.condF ?_ ?_; focus (cbv; done)) | (refine Ok.drawnE (by as_aux_lemma => kernel_rfl) ?_) | (apply Ok.call (cc); (focus (cbv; done)); (focus (cbv; done)); (focus (cbv; done))) | (apply Ok.dcall (cc); (focus (cbv; done)); (focus (cbv; done)); (focus (cbv; done))) | (apply Ok.call (cd); (focus (cbv; done)); (focus (cbv; done)); (focus (cbv; done))) | (apply Ok.dcall (cd); (focus (cbv; done)); (focus (cbv; done)); (focus (cbv; done))))
      have hr1 : s.length = r.length + 1 := by rw [hsr]; simp
      refine Ok.le (Le.nilBox 11 1 65 24 2 (by cbv) (by cbv) (by cbv) (by decide)) ?_
      refine Ok.loopAt [2, 3, 4, 9, 10, 11] [2, 11, 65] (fun m sl h => ∃ (q : Nat) (acc : List Ty) (r' : List UInt8) (ok : Bool) (j : Nat) (es : List PV), m = (if ok then q + 1 else 0) ∧ (if ok then rdL q acc r' else none) = res ∧ (ok = true → 2 * r'.length + 3 ≤ q ∧ q ≤ n) ∧ acc.length + r'.length ≤ s.length ∧ j = acc.length ∧ es = E .tys acc ∧
        sl = mkS 81 [(2, .ptr 2 0), (3, .pv (.str [])), (4, .pv (.bool false)), (9, .pv (.str r')), (10, .pv (.bool ok)), (11, .ptr 11 0)] ∧
        h = [(2, .box [.pv (.int .i64 0), .pv .nil] true), (11, .box [.pv (.int .i64 4), .ref 65 j] true), (65, .row 24 2 es true)]) (n + 1) (by cbv) ⟨n, [], r, true, 0, [], rfl, hrd.symm, fun _ => ⟨by omega, Nat.le_refl _⟩, by simp; omega, rfl, by rw [ht0], by cbv, by cbv⟩ ?_
      clear cc cd hs hs2 hrd
      rintro m sl h ⟨q, acc, r', ok, j, es, hm, hq, hfu2, hacc, hj, hes, rfl, rfl⟩
      have hesl : j = es.length := by rw [hes, E.tys_eq hE, List.length_map, hj]
      cases ok with
      | false =>
        have hq : res = none := hq.symm
        repeat (first | (apply Ok.run1 hmix hA false 2000; focus (cbv; done)) | (apply Ok.one hmix hA; focus (cbv; done)) | (rw [Ar.notT hA]) | (rw [Ar.notF hA]) | (refine Ok.condT ?_ ?_; focus (cbv; done)) | (refine Ok.condF ?_ ?_; focus (cbv; done)) | (refine Ok.drawnE (by as_aux_lemma => kernel_rfl) ?_))
        refine Ok.leave ?_
        repeat (first | (apply Ok.run1 hmix hA false 2000; focus (cbv; done)) | (apply Ok.one hmix hA; focus (cbv; done)) | (rw [Ar.notT hA]) | (rw [Ar.notF hA]) | (refine Ok.condT ?_ ?_; focus (cbv; done)) | (refine Ok.condF ?_ ?_; focus (cbv; done)) | (refine Ok.drawnE (by as_aux_lemma => kernel_rfl) ?_))
        rw [hq]
        (first | (apply Ok.fin1; (focus (cbv; done)); (focus (cbv; done))) | (apply Ok.fin2; (focus (cbv; done)); (focus (cbv; done))) | (apply Ok.fin3; (focus (cbv; done)); (focus (cbv; done))))
        all_goals first | rfl | simp [rT, rS, Enc.tyc, ht0, Ty.zero]
      | true =>
        obtain ⟨hf3, hqn⟩ := hfu2 rfl
        have hm : m = q + 1 := hm
        have hq : rdL q acc r' = res := hq
        obtain ⟨q, rfl⟩ : ∃ k, q = k + 1 := ⟨q - 1, by omega⟩
        rw [rdL] at hq
        have cR := ih q (by omega) r' (by omega) (by omega)
        cases hrr : rd q r' with
        | none =>
          rw [hrr] at cR
          simp only [hrr] at hq
          repeat (first | (apply Ok.run1 hmix hA false 2000; focus (cbv; done)) | (apply Ok.one hmix hA; focus (cbv; done)) | (rw [Ar.notT hA]) | (rw [Ar.notF hA]) | (refine Ok.condT ?_ ?_; focus (cbv; done)) | (refine Ok.condF ?_ ?_; focus (cbv; done)) | (refine Ok.drawnE (by as_aux_lemma => kernel_rfl) ?_) | (apply Ok.call (cR); (focus (cbv; done)); (focus (cbv; done)); (focus (cbv; done))) | (apply Ok.dcall (cR); (focus (cbv; done)); (focus (cbv; done)); (focus (cbv; done))))
          refine Ok.leave ?_
          repeat (first | (apply Ok.run1 hmix hA false 2000; focus (cbv; done)) | (apply Ok.one hmix hA; focus (cbv; done)) | (rw [Ar.notT hA]) | (rw [Ar.notF hA]) | (refine Ok.condT ?_ ?_; focus (cbv; done)) | (refine Ok.condF ?_ ?_; focus (cbv; done)) | (refine Ok.drawnE (by as_aux_lemma => kernel_rfl) ?_))
          rw [← hq]
          (first | (apply Ok.fin1; (focus (cbv; done)); (focus (cbv; done))) | (apply Ok.fin2; (focus (cbv; done)); (focus (cbv; done))) | (apply Ok.fin3; (focus (cbv; done)); (focus (cbv; done))))
          all_goals first | rfl | simp [rT, rS, Enc.tyc, ht0, Ty.zero]
        | some tp =>
          obtain ⟨p, r2⟩ := tp
          rw [hrr] at cR
          simp only [hrr] at hq
          obtain ⟨_, hp2⟩ := rd_text q r' p r2 hrr
          have hp1 := szT_pos p
          obtain ⟨es3, hes3⟩ : ∃ es3, es3 = es ++ [E.tyc p] := ⟨_, rfl⟩
          obtain ⟨n3, hn3⟩ : ∃ n3, n3 = j + 1 := ⟨_, rfl⟩
          have hes4 : es3 = E .tys (acc ++ [p]) := by rw [hes3, hes, E.tys_eq hE, E.tys_eq hE, List.map_append]; rfl
          have hn4 : n3 = es3.length := by rw [hn3, hes3, hesl]; simp
          repeat (first | (apply Ok.run1 hmix hA false 2000; focus (cbv; done)) | (apply Ok.one hmix hA; focus (cbv; done)) | (rw [Ar.notT hA]) | (rw [Ar.notF hA]) | (refine Ok.condT ?_ ?_; focus (cbv; done)) | (refine Ok.condF ?_ ?_; focus (cbv; done)) | (refine Ok.drawnE (by as_aux_lemma => kernel_rfl) ?_) | (apply Ok.call (cR); (focus (cbv; done)); (focus (cbv; done)); (focus (cbv; done))) | (apply Ok.dcall (cR); (focus (cbv; done)); (focus (cbv; done)); (focus (cbv; done))))
          refine Ok.op (app_ref (by cbv) (by cbv) hesl (by cbv) (by cbv) (by decide) (by simp only [List.length_singleton]; omega) (by unfold maxLen; simp only [List.length_singleton]; omega) n3 (by exact hn3) es3 (by rw [hes3]; rfl)) ?_
          cases hs3 : strip [41] r2 with
          | some e =>
            have cd := cut_some hs3
            simp only [hs3] at hq
            repeat (first | (apply Ok.run1 hmix hA false 2000; focus (cbv; done)) | (apply Ok.one hmix hA; focus (cbv; done)) | (rw [Ar.notT hA]) | (rw [Ar.notF hA]) | (refine Ok.condT ?_ ?_; focus (cbv; done)) | (refine Ok.condF ?_ ?_; focus (cbv; done)) | (refine Ok.drawnE (by as_aux_lemma => kernel_rfl) ?_) | (apply Ok.call (cd); (focus (cbv; done)); (focus (cbv; done)); (focus (cbv; done))) | (apply Ok.dcall (cd); (focus (cbv; done)); (focus (cbv; done)); (focus (cbv; done))))
            refine Ok.leaveRet ?_
            repeat (first | (apply Ok.run1 hmix hA false 2000; focus (cbv; done)) | (apply Ok.one hmix hA; focus (cbv; done)) | (rw [Ar.notT hA]) | (rw [Ar.notF hA]) | (refine Ok.condT ?_ ?_; focus (cbv; done)) | (refine Ok.condF ?_ ?_; focus (cbv; done)) | (refine Ok.drawnE (by as_aux_lemma => kernel_rfl) ?_))
            rw [← hq]
            refine Ok.fin3 (p1 := .agg [.int .i64 4, .view es3]) (p2 := .str e) (p3 := .bool true) (ids := [65]) (by cbv) (by simp [frzL, frz2, frz1, frz0, rowOf, hget, PV.rlx, ← hn4]) ?_ ?_ ?_
            all_goals first | rfl | simp [rT, rS, Enc.tyc, hes4]
          | none =>
            have cd := cut_none hs3
            simp only [hs3] at hq
            cases hs4 : strip [44] r2 with
            | some r3 =>
              have ce := cut_some hs4
              simp only [hs4] at hq
              have hr3 : r2.length = r3.length + 1 := by rw [strip_eq hs4]; simp
              repeat (first | (apply Ok.run1 hmix hA false 2000; focus (cbv; done)) | (apply Ok.one hmix hA; focus (cbv; done)) | (rw [Ar.notT hA]) | (rw [Ar.notF hA]) | (refine Ok.condT ?_ ?_; focus (cbv; done)) | (refine Ok.condF ?_ ?_; focus (cbv; done)) | (refine Ok.drawnE (by as_aux_lemma => kernel_rfl) ?_) | (apply Ok.call (cd); (focus (cbv; done)); (focus (cbv; done)); (focus (cbv; done))) | (apply Ok.dcall (cd); (focus (cbv; done)); (focus (cbv; done)); (focus (cbv; done))) | (apply Ok.call (ce); (focus (cbv; done)); (focus (cbv; done)); (focus (cbv; done))) | (apply Ok.dcall (ce); (focus (cbv; done)); (focus (cbv; done)); (focus (cbv; done))))
              exact Ok.back (q + 1) [2, 3, 4, 9, 10, 11] [2, 11, 65] (by omega) (by cbv) ⟨q, acc ++ [p], r3, true, n3, es3, rfl, hq, fun _ => ⟨by omega, by omega⟩, by simp; omega, by simp; omega, hes4, by cbv, by cbv⟩
            | none =>
              have ce := cut_none hs4
              simp only [hs4] at hq
              repeat (first | (apply Ok.run1 hmix hA false 2000; focus (cbv; done)) | (apply Ok.one hmix hA; focus (cbv; done)) | (rw [Ar.notT hA]) | (rw [Ar.notF hA]) | (refine Ok.condT ?_ ?_; focus (cbv; done)) | (refine Ok.condF ?_ ?_; focus (cbv; done)) | (refine Ok.drawnE (by as_aux_lemma => kernel_rfl) ?_) | (apply Ok.call (cd); (focus (cbv; done)); (focus (cbv; done)); (focus (cbv; done))) | (apply Ok.dcall (cd); (focus (cbv; done)); (focus (cbv; done)); (focus (cbv; done))) | (apply Ok.call (ce); (focus (cbv; done)); (focus (cbv; done)); (focus (cbv; done))) | (apply Ok.dcall (ce); (focus (cbv; done)); (focus (cbv; done)); (focus (cbv; done))))
              exact Ok.back 0 [2, 3, 4, 9, 10, 11] [2, 11, 65] (by omega) (by cbv) ⟨q, acc ++ [p], r2, false, n3, es3, rfl, hq, (fun h => by cases h), by simp; omega, by simp; omega, hes4, by cbv, by cbv⟩
end Go.Proofs.Ytnojmocoifodjaa.Pv
set_option maxRecDepth 100000
set_option maxHeartbeats 4000000
set_option linter.unusedVariables false
set_option linter.unusedSimpArgs false
namespace Go.Proofs.Ytnojmocoifodjaa.Pv
open Go Go.Proofs
def parM (s : List UInt8) : Ty × Int := match rd (2 * s.length + 2) s with
  | none => (.zero, 2)
  | some (t, r) => if r ≠ [] then (.zero, 2) else if ckT t 0 ≠ 0 then (.zero, ckT t 0) else (t, 0)
theorem typ_Parse {E : Enc} (hE : E = .std) (s : List UInt8) (hs : s.length ≤ 2 ^ 20) : CallsV Try.prog 33 [.str s] (.tup [.pv (E.tyc (parM s).1), .pv (.int .i64 (parM s).2)]) [] := by
  obtain ⟨A, hA⟩ : ∃ A : Ar, A = .std := ⟨_, rfl⟩
  have ht0 : E .tys [] = [] := by rw [E.tys_eq hE]; rfl
  have c := typ_read hE (2 * s.length + 2) s (Nat.le_refl _) hs
  unfold parM
  cases hq : rd (2 * s.length + 2) s with
  | none =>
    rw [hq] at c
    refine CallsV.ok (fn := Try.f33) (by kernel_rfl) (by kernel_rfl) rfl (by cbv) (by cbv) ?_
    repeat (first | (apply Ok.run1 hmix hA false 2000; focus (cbv; done)) | (apply Ok.one hmix hA; focus (cbv; done)) | (rw [Ar.notT hA]) | (rw [Ar.notF hA]) | (refine Ok.condT ?_ ?_; focus (cbv; done)) | (refine Ok.condF ?_ ?_; focus (cbv; done)) | (refine Ok.drawnE (by as_aux_lemma => kernel_rfl) ?_) | (apply Ok.call (c); (focus (cbv; done)); (focus (cbv; done)); (focus (cbv; done))) | (apply Ok.dcall (c); (focus (cbv; done)); (focus (cbv; done)); (focus (cbv; done))))
    (first | (apply Ok.fin1; (focus (cbv; done)); (focus (cbv; done))) | (apply Ok.fin2; (focus (cbv; done)); (focus (cbv; done))) | (apply Ok.fin3; (focus (cbv; done)); (focus (cbv; done))))
    all_goals first | rfl | simp [Enc.tyc, ht0, Ty.zero]
  | some tr =>
    obtain ⟨t, r⟩ := tr
    rw [hq] at c
    obtain ⟨_, hsz⟩ := rd_text _ s t r hq
    have ck := typ_Check hE t (by omega)
    obtain ⟨e, he⟩ : ∃ e, e = ckT t 0 := ⟨_, rfl⟩
    dsimp only
    rw [← he] at ck ⊢
    obtain ⟨kd, l⟩ := t
    refine CallsV.ok (fn := Try.f33) (by kernel_rfl) (by kernel_rfl) rfl (by cbv) (by cbv) ?_
    repeat (first | (apply Ok.run1 hmix hA false 2000; focus (cbv; done)) | (apply Ok.one hmix hA; focus (cbv; done)) | (rw [Ar.notT hA]) | (rw [Ar.notF hA]) | (refine Ok.condT ?_ ?_; focus (cbv; done)) | (refine Ok.condF ?_ ?_; focus (cbv; done)) | (refine Ok.drawnE (by as_aux_lemma => kernel_rfl) ?_) | (apply Ok.call (c); (focus (cbv; done)); (focus (cbv; done)); (focus (cbv; done))) | (apply Ok.dcall (c); (focus (cbv; done)); (focus (cbv; done)); (focus (cbv; done))))
    rw [Ar.seq_eq hA, Ar.not_eq hA]
    by_cases hr : r = []
    · rw [decide_eq_true hr, if_neg (by simpa using hr)]
      repeat (first | (apply Ok.run1 hmix hA false 2000; focus (cbv; done)) | (apply Ok.one hmix hA; focus (cbv; done)) | (rw [Ar.notT hA]) | (rw [Ar.notF hA]) | (refine Ok.condT ?_ ?_; focus (cbv; done)) | (refine Ok.condF ?_ ?_; focus (cbv; done)) | (refine Ok.drawnE (by as_aux_lemma => kernel_rfl) ?_) | (apply Ok.call (ck); (focus (cbv; done)); (focus (cbv; done)); (focus (cbv; done))) | (apply Ok.dcall (ck); (focus (cbv; done)); (focus (cbv; done)); (focus (cbv; done))))
      rw [Ar.eq_eq hA, Ar.not_eq hA]
      by_cases h0 : e = 0
      · rw [decide_eq_true h0, if_neg (by simpa using h0)]
        repeat (first | (apply Ok.run1 hmix hA false 2000; focus (cbv; done)) | (apply Ok.one hmix hA; focus (cbv; done)) | (rw [Ar.notT hA]) | (rw [Ar.notF hA]) | (refine Ok.condT ?_ ?_; focus (cbv; done)) | (refine Ok.condF ?_ ?_; focus (cbv; done)) | (refine Ok.drawnE (by as_aux_lemma => kernel_rfl) ?_))
        (first | (apply Ok.fin1; (focus (cbv; done)); (focus (cbv; done))) | (apply Ok.fin2; (focus (cbv; done)); (focus (cbv; done))) | (apply Ok.fin3; (focus (cbv; done)); (focus (cbv; done))))
        all_goals rfl
      · rw [decide_eq_false h0, if_pos h0]
        repeat (first | (apply Ok.run1 hmix hA false 2000; focus (cbv; done)) | (apply Ok.one hmix hA; focus (cbv; done)) | (rw [Ar.notT hA]) | (rw [Ar.notF hA]) | (refine Ok.condT ?_ ?_; focus (cbv; done)) | (refine Ok.condF ?_ ?_; focus (cbv; done)) | (refine Ok.drawnE (by as_aux_lemma => kernel_rfl) ?_))
        (first | (apply Ok.fin1; (focus (cbv; done)); (focus (cbv; done))) | (apply Ok.fin2; (focus (cbv; done)); (focus (cbv; done))) | (apply Ok.fin3; (focus (cbv; done)); (focus (cbv; done))))
        all_goals first | rfl | simp [Enc.tyc, ht0, Ty.zero]
    · rw [decide_eq_false hr, if_pos hr]
      repeat (first | (apply Ok.run1 hmix hA false 2000; focus (cbv; done)) | (apply Ok.one hmix hA; focus (cbv; done)) | (rw [Ar.notT hA]) | (rw [Ar.notF hA]) | (refine Ok.condT ?_ ?_; focus (cbv; done)) | (refine Ok.condF ?_ ?_; focus (cbv; done)) | (refine Ok.drawnE (by as_aux_lemma => kernel_rfl) ?_))
      (first | (apply Ok.fin1; (focus (cbv; done)); (focus (cbv; done))) | (apply Ok.fin2; (focus (cbv; done)); (focus (cbv; done))) | (apply Ok.fin3; (focus (cbv; done)); (focus (cbv; done))))
      all_goals first | rfl | simp [Enc.tyc, ht0, Ty.zero]
theorem ref6_front (s w : List UInt8) (a : Nat) (ha : a ≤ s.length) (hs : s.length ≤ 2 ^ 20) (hw : w.length ≤ 100) : CallsV Try.prog 103 [.str s, .int .i64 (Int.ofNat a), .str w] (.pv (.bool (strip w (s.drop a)).isSome)) [] := by
  obtain ⟨A, hA⟩ : ∃ A : Ar, A = .std := ⟨_, rfl⟩
  obtain ⟨ns, hns⟩ : ∃ n, n = s.length := ⟨_, rfl⟩
  obtain ⟨nw, hnw⟩ : ∃ n, n = w.length := ⟨_, rfl⟩
  have e1 : A .lenS s = Int.ofNat ns := by rw [hns]; exact lenS_nat hA s
  have e2 : A .lenS w = Int.ofNat nw := by rw [hnw]; exact lenS_nat hA w
  obtain ⟨e, he⟩ : ∃ e, e = a + nw := ⟨_, rfl⟩
  have e3 : A .add .i64 (Int.ofNat a) (Int.ofNat nw) = Int.ofNat e := by rw [he]; exact ofNat_add hA (by omega)
  have e4 : A .le 0 (Int.ofNat a) = true := by rw [show (0 : Int) = Int.ofNat 0 from rfl, ofNat_le hA]; simp
  obtain ⟨p, hp⟩ : ∃ p, p = (s.take e).drop a := ⟨_, rfl⟩
  have hb : (strip w (s.drop a)).isSome = decide (p = w) := by
    rw [strip_isSome, hp, List.drop_take, ← hnw, show e - a = nw by omega]
  rw [hb]
  obtain ⟨b, hbb⟩ : ∃ b, b = decide (p = w) := ⟨_, rfl⟩
  rw [← hbb]
  refine CallsV.ok (fn := Try.f103) (by kernel_rfl) (by kernel_rfl) rfl (by cbv) (by cbv) ?_
  refine Ok.run hmix hA false 2000 (by cbv) ?_
  rw [e4]
  repeat (first | (apply Ok.run1 hmix hA false 2000; focus (cbv; done)) | (apply Ok.one hmix hA; focus (cbv; done)) | (rw [Ar.notT hA]) | (rw [Ar.notF hA]) | (refine Ok.condT ?_ ?_; focus (cbv; done)) | (refine Ok.condF ?_ ?_; focus (cbv; done)) | (refine Ok.drawnE (by as_aux_lemma => kernel_rfl) ?_))
  rw [e1, e2, e3, ofNat_le hA]
  by_cases hle : e ≤ ns
  · rw [decide_eq_true hle]
    repeat (first | (apply Ok.run1 hmix hA false 2000; focus (cbv; done)) | (apply Ok.one hmix hA; focus (cbv; done)) | (rw [Ar.notT hA]) | (rw [Ar.notF hA]) | (refine Ok.condT ?_ ?_; focus (cbv; done)) | (refine Ok.condF ?_ ?_; focus (cbv; done)) | (refine Ok.drawnE (by as_aux_lemma => kernel_rfl) ?_))
    rw [e2, e3]
    refine Ok.op (sslc_op (a := a) (b := e) (by cbv) (by cbv) (by exact bound_nat _ _ _) (by exact bound_nat _ _ _) (by omega) (by omega) p hp) ?_
    repeat (first | (apply Ok.run1 hmix hA false 2000; focus (cbv; done)) | (apply Ok.one hmix hA; focus (cbv; done)) | (rw [Ar.notT hA]) | (rw [Ar.notF hA]) | (refine Ok.condT ?_ ?_; focus (cbv; done)) | (refine Ok.condF ?_ ?_; focus (cbv; done)) | (refine Ok.drawnE (by as_aux_lemma => kernel_rfl) ?_))
    rw [Ar.seq_eq hA, ← hbb]
    repeat (first | (apply Ok.run1 hmix hA false 2000; focus (cbv; done)) | (apply Ok.one hmix hA; focus (cbv; done)) | (rw [Ar.notT hA]) | (rw [Ar.notF hA]) | (refine Ok.condT ?_ ?_; focus (cbv; done)) | (refine Ok.condF ?_ ?_; focus (cbv; done)) | (refine Ok.drawnE (by as_aux_lemma => kernel_rfl) ?_))
    exact Ok.fin (by cbv) (FS.out (by cbv) (PLe.refl _))
  · rw [decide_eq_false hle]
    have : b = false := by
      rw [hbb]
      apply decide_eq_false
      intro h
      have := congrArg List.length h
      rw [hp, List.length_drop, List.length_take] at this
      omega
    rw [this]
    repeat (first | (apply Ok.run1 hmix hA false 2000; focus (cbv; done)) | (apply Ok.one hmix hA; focus (cbv; done)) | (rw [Ar.notT hA]) | (rw [Ar.notF hA]) | (refine Ok.condT ?_ ?_; focus (cbv; done)) | (refine Ok.condF ?_ ?_; focus (cbv; done)) | (refine Ok.drawnE (by as_aux_lemma => kernel_rfl) ?_))
    exact Ok.fin (by cbv) (FS.out (by cbv) (PLe.refl _))
def posM (ls : Nat) (q : Option (Ty × List UInt8)) : Int := match q with
  | some (_, r) => Int.ofNat (ls - r.length)
  | none => -1
theorem ref6_SameType {E : Enc} (hE : E = .std) : ∀ (n : Nat) (v w : Ty), SizeOf.sizeOf v ≤ n → szT v ≤ 2 ^ 50 → szT w ≤ 2 ^ 50 → CallsV Try.prog 35 [E.tyc v, E.tyc w] (.pv (.bool (sameT v w))) [] := by
  intro n
  induction n with
  | zero => intro v w h; cases v; simp at h
  | succ n ih =>
    rintro ⟨k1, l⟩ ⟨k2, m⟩ hn hsz hsw
    obtain ⟨A, hA⟩ : ∃ A : Ar, A = .std := ⟨_, rfl⟩
    rw [szT] at hsz hsw
    have hlen := szTs_len l
    have hlem := szTs_len m
    obtain ⟨ln, hln⟩ : ∃ n, n = l.length := ⟨_, rfl⟩
    obtain ⟨lm, hlm⟩ : ∃ n, n = m.length := ⟨_, rfl⟩
    have hll : A .lenP (E .tys l) = Int.ofNat ln := by rw [Ar.lenP_eq hA, E.tys_eq hE, List.length_map, hln]; rfl
    have hlm' : A .lenP (E .tys m) = Int.ofNat lm := by rw [Ar.lenP_eq hA, E.tys_eq hE, List.length_map, hlm]; rfl
    have hsub : ∀ x y, x ∈ l → y ∈ m → CallsV Try.prog 35 [E.tyc x, E.tyc y] (.pv (.bool (sameT x y))) [] := fun x y hx hy => by
      have h1 := List.sizeOf_lt_of_mem hx
      have h2 := szTs_mem hx
      have h3 := szTs_mem hy
      simp at hn
      exact ih x y (by omega) (by omega) (by omega)
    clear ih
    rw [sameT]
    refine CallsV.ok (fn := Try.f35) (by kernel_rfl) (by kernel_rfl) rfl (by cbv) (by cbv) ?_
    refine Ok.run hmix hA false 2000 (by cbv) ?_
    rw [Ar.eq_eq hA, Ar.not_eq hA]
    by_cases hk : k1 = k2
    case neg =>
      rw [decide_eq_false hk]
      repeat (first | (apply Ok.run1 hmix hA false 2000; focus (cbv; done)) | (apply Ok.one hmix hA; focus (cbv; done)) | (rw [Ar.notT hA]) | (rw [Ar.notF hA]) | (refine Ok.condT ?_ ?_; focus (cbv; done)) | (refine Ok.condF ?_ ?_; focus (cbv; done)) | (refine Ok.drawnE (by as_aux_lemma => kernel_rfl) ?_))
      exact Ok.fin (by cbv) (FS.out (by cbv) (PLe.refl _))
    rw [decide_eq_true hk]
    repeat (first | (apply Ok.run1 hmix hA false 2000; focus (cbv; done)) | (apply Ok.one hmix hA; focus (cbv; done)) | (rw [Ar.notT hA]) | (rw [Ar.notF hA]) | (refine Ok.condT ?_ ?_; focus (cbv; done)) | (refine Ok.condF ?_ ?_; focus (cbv; done)) | (refine Ok.drawnE (by as_aux_lemma => kernel_rfl) ?_))
    rw [hll, hlm', ofNat_eq hA, Ar.not_eq hA]
    by_cases hlq : ln = lm
    case neg =>
      rw [decide_eq_false hlq, sameTs_len (by omega)]
      repeat (first | (apply Ok.run1 hmix hA false 2000; focus (cbv; done)) | (apply Ok.one hmix hA; focus (cbv; done)) | (rw [Ar.notT hA]) | (rw [Ar.notF hA]) | (refine Ok.condT ?_ ?_; focus (cbv; done)) | (refine Ok.condF ?_ ?_; focus (cbv; done)) | (refine Ok.drawnE (by as_aux_lemma => kernel_rfl) ?_))
      exact Ok.fin (by cbv) (FS.out (by cbv) (PLe.refl _))
    rw [decide_eq_true hlq]
    repeat (first | (apply Ok.run1 hmix hA false 2000; focus (cbv; done)) | (apply Ok.one hmix hA; focus (cbv; done)) | (rw [Ar.notT hA]) | (rw [Ar.notF hA]) | (refine Ok.condT ?_ ?_; focus (cbv; done)) | (refine Ok.condF ?_ ?_; focus (cbv; done)) | (refine Ok.drawnE (by as_aux_lemma => kernel_rfl) ?_))
    refine Ok.loopAt [2, 3, 5] [2, 3] (fun mm s h => ∃ k, mm = ln - k ∧ k ≤ ln ∧ sameTs (l.drop k) (m.drop k) = sameTs l m ∧ s = mkS 39 [(2, .ptr 2 0), (3, .ptr 3 0), (5, .pv (.int .i64 (Int.ofNat k)))] ∧
      h = [(2, .box [.pv (.int .i64 k1), .pv (.view (E .tys l))] true), (3, .box [.pv (.int .i64 k2), .pv (.view (E .tys m))] true)]) (ln - 0) (by cbv) ⟨0, rfl, Nat.zero_le _, rfl, by cbv, by cbv⟩ ?_
    rintro mm s h ⟨k, rfl, hk', hc, rfl, rfl⟩
    refine Ok.run hmix hA false 2000 (by cbv) ?_
    rw [hll, ofNat_lt hA]
    by_cases hkl : k < ln
    · rw [decide_eq_true hkl]
      repeat (first | (apply Ok.run1 hmix hA false 2000; focus (cbv; done)) | (apply Ok.one hmix hA; focus (cbv; done)) | (rw [Ar.notT hA]) | (rw [Ar.notF hA]) | (refine Ok.condT ?_ ?_; focus (cbv; done)) | (refine Ok.condF ?_ ?_; focus (cbv; done)) | (refine Ok.drawnE (by as_aux_lemma => kernel_rfl) ?_))
      have hx : l[k]? = some (l[k]'(by omega)) := List.getElem?_eq_getElem (by omega)
      have hxm : l[k]'(by omega) ∈ l := List.getElem_mem (by omega)
      have hdl : l.drop k = l[k]'(by omega) :: l.drop (k + 1) := List.drop_eq_getElem_cons (by omega)
      generalize l[k]'(by omega) = x at hx hdl hxm
      have hy : m[k]? = some (m[k]'(by omega)) := List.getElem?_eq_getElem (by omega)
      have hym : m[k]'(by omega) ∈ m := List.getElem_mem (by omega)
      have hdm : m.drop k = m[k]'(by omega) :: m.drop (k + 1) := List.drop_eq_getElem_cons (by omega)
      generalize m[k]'(by omega) = y at hy hdm hym
      rw [hdl, hdm, sameTs] at hc
      have cxy := hsub x y hxm hym
      obtain ⟨c, hcc⟩ : ∃ c, c = sameT x y := ⟨_, rfl⟩
      rw [← hcc] at cxy hc
      refine Ok.dop (idx_view (E.tyc x) (by cbv) (by cbv) (by simp) (by rw [E.tys_eq hE]; simp [hx]) rfl) ?_
      repeat (first | (apply Ok.run1 hmix hA false 2000; focus (cbv; done)) | (apply Ok.one hmix hA; focus (cbv; done)) | (rw [Ar.notT hA]) | (rw [Ar.notF hA]) | (refine Ok.condT ?_ ?_; focus (cbv; done)) | (refine Ok.condF ?_ ?_; focus (cbv; done)) | (refine Ok.drawnE (by as_aux_lemma => kernel_rfl) ?_))
      refine Ok.dop (idx_view (E.tyc y) (by cbv) (by cbv) (by simp) (by rw [E.tys_eq hE]; simp [hy]) rfl) ?_
      repeat (first | (apply Ok.run1 hmix hA false 2000; focus (cbv; done)) | (apply Ok.one hmix hA; focus (cbv; done)) | (rw [Ar.notT hA]) | (rw [Ar.notF hA]) | (refine Ok.condT ?_ ?_; focus (cbv; done)) | (refine Ok.condF ?_ ?_; focus (cbv; done)) | (refine Ok.drawnE (by as_aux_lemma => kernel_rfl) ?_) | (apply Ok.call (cxy); (focus (cbv; done)); (focus (cbv; done)); (focus (cbv; done))) | (apply Ok.dcall (cxy); (focus (cbv; done)); (focus (cbv; done)); (focus (cbv; done))))
      cases c
      · rw [← hc]
        repeat (first | (apply Ok.run1 hmix hA false 2000; focus (cbv; done)) | (apply Ok.one hmix hA; focus (cbv; done)) | (rw [Ar.notT hA]) | (rw [Ar.notF hA]) | (refine Ok.condT ?_ ?_; focus (cbv; done)) | (refine Ok.condF ?_ ?_; focus (cbv; done)) | (refine Ok.drawnE (by as_aux_lemma => kernel_rfl) ?_))
        refine Ok.leaveRet ?_
        repeat (first | (apply Ok.run1 hmix hA false 2000; focus (cbv; done)) | (apply Ok.one hmix hA; focus (cbv; done)) | (rw [Ar.notT hA]) | (rw [Ar.notF hA]) | (refine Ok.condT ?_ ?_; focus (cbv; done)) | (refine Ok.condF ?_ ?_; focus (cbv; done)) | (refine Ok.drawnE (by as_aux_lemma => kernel_rfl) ?_))
        exact Ok.fin (by cbv) (FS.out (by cbv) (PLe.refl _))
      · repeat (first | (apply Ok.run1 hmix hA false 2000; focus (cbv; done)) | (apply Ok.one hmix hA; focus (cbv; done)) | (rw [Ar.notT hA]) | (rw [Ar.notF hA]) | (refine Ok.condT ?_ ?_; focus (cbv; done)) | (refine Ok.condF ?_ ?_; focus (cbv; done)) | (refine Ok.drawnE (by as_aux_lemma => kernel_rfl) ?_))
        rw [Ar.succ_eq hA (by omega)]
        exact Ok.back (ln - (k + 1)) [2, 3, 5] [2, 3] (by omega) (by cbv) ⟨k + 1, rfl, by omega, by simpa using hc, by cbv, by cbv⟩
    · rw [decide_eq_false hkl]
      have hke : k = l.length := by omega
      rw [hke, List.drop_length, show l.length = m.length by omega, List.drop_length] at hc
      rw [← hc]
      repeat (first | (apply Ok.run1 hmix hA false 2000; focus (cbv; done)) | (apply Ok.one hmix hA; focus (cbv; done)) | (rw [Ar.notT hA]) | (rw [Ar.notF hA]) | (refine Ok.condT ?_ ?_; focus (cbv; done)) | (refine Ok.condF ?_ ?_; focus (cbv; done)) | (refine Ok.drawnE (by as_aux_lemma => kernel_rfl) ?_))
      refine Ok.leave ?_
      repeat (first | (apply Ok.run1 hmix hA false 2000; focus (cbv; done)) | (apply Ok.one hmix hA; focus (cbv; done)) | (rw [Ar.notT hA]) | (rw [Ar.notF hA]) | (refine Ok.condT ?_ ?_; focus (cbv; done)) | (refine Ok.condF ?_ ?_; focus (cbv; done)) | (refine Ok.drawnE (by as_aux_lemma => kernel_rfl) ?_))
      exact Ok.fin (by cbv) (FS.out (by cbv) (PLe.refl _))
theorem ref6_CheckType {E : Enc} (hE : E = .std) (t : Ty) (hsz : szT t ≤ 2 ^ 40) : CallsV Try.prog 40 [E.tyc t] (.pv (.int .i64 (ckT t 0))) [] := by
  obtain ⟨A, hA⟩ : ∃ A : Ar, A = .std := ⟨_, rfl⟩
  have c := ref6_checkType hE _ t 0 (Nat.le_refl _) hsz (by omega)
  obtain ⟨k, l⟩ := t
  refine CallsV.ok (fn := Try.f40) (by kernel_rfl) (by kernel_rfl) rfl (by cbv) (by cbv) ?_
  repeat (first | (apply Ok.run1 hmix hA false 2000; focus (cbv; done)) | (apply Ok.one hmix hA; focus (cbv; done)) | (rw [Ar.notT hA]) | (rw [Ar.notF hA]) | (refine Ok.condT ?_ ?_; focus (cbv; done)) | (refine Ok.condF ?_ ?_; focus (cbv; done)) | (refine Ok.drawnE (by as_aux_lemma => kernel_rfl) ?_) | (apply Ok.call (c); (focus (cbv; done)); (focus (cbv; done)); (focus (cbv; done))) | (apply Ok.dcall (c); (focus (cbv; done)); (focus (cbv; done)); (focus (cbv; done))))
  exact Ok.fin (by cbv) (FS.out (by cbv) (PLe.refl _))
end Go.Proofs.Ytnojmocoifodjaa.Pv
set_option maxRecDepth 100000
set_option maxHeartbeats 4000000
set_option linter.unusedVariables false
set_option linter.unusedSimpArgs false
namespace Go.Proofs.Ytnojmocoifodjaa.Pv
open Go Go.Proofs
theorem strip_par {s : List UInt8} : strip [40, 41] s = match strip [40] s with
  | some r => strip [41] r
  | none => none := by
  match s with
  | [] => rfl
  | [a] =>
    unfold strip
    by_cases h : a = 40 <;> simp [h]
  | a :: b :: t =>
    unfold strip
    by_cases h : a = 40 <;> by_cases h2 : b = 41 <;> simp [h, h2]
theorem strip_drop {s w r : List UInt8} {a : Nat} (ha : a ≤ s.length) (h : strip w (s.drop a) = some r) : s.length - r.length = a + w.length ∧ a + w.length ≤ s.length ∧ r = s.drop (a + w.length) := by
  have h1 := strip_eq h
  have h2 := congrArg List.length h1
  rw [List.length_drop, List.length_append] at h2
  refine ⟨by omega, by omega, ?_⟩
  rw [← List.drop_drop, h1, List.drop_left]
theorem ref6_typeAt {E : Enc} (hE : E = .std) (s : List UInt8) (hs : s.length ≤ 2 ^ 20) : ∀ (n a : Nat), a ≤ s.length → 2 * (s.length - a) + 2 ≤ n → CallsV Try.prog 71 [.str s, .int .i64 (Int.ofNat a)] (.tup [.pv (E.tyc (rT (rd n (s.drop a)))), .pv (.int .i64 (posM s.length (rd n (s.drop a))))]) [] := by
  intro n
  induction n using Nat.strongRecOn with
  | _ n ih =>
  intro a ha hfu
  obtain ⟨n, rfl⟩ : ∃ k, n = k + 1 := ⟨n - 1, by omega⟩
  obtain ⟨A, hA⟩ : ∃ A : Ar, A = .std := ⟨_, rfl⟩
  have ht0 : E .tys [] = [] := by rw [E.tys_eq hE]; rfl
  have fr : ∀ (b : Nat) (w : List UInt8), b ≤ s.length → w.length ≤ 100 → CallsV Try.prog 103 [.str s, .int .i64 (Int.ofNat b), .str w] (.pv (.bool (strip w (s.drop b)).isSome)) [] := fun b w hb hw => ref6_front s w b hb hs hw
  have fT : ∀ (b : Nat) (w r : List UInt8), b ≤ s.length → w.length ≤ 100 → strip w (s.drop b) = some r → CallsV Try.prog 103 [.str s, .int .i64 (Int.ofNat b), .str w] (.pv (.bool true)) [] := fun b w r hb hw h => by have := fr b w hb hw; rw [h] at this; exact this
  have fF : ∀ (b : Nat) (w : List UInt8), b ≤ s.length → w.length ≤ 100 → strip w (s.drop b) = none → CallsV Try.prog 103 [.str s, .int .i64 (Int.ofNat b), .str w] (.pv (.bool false)) [] := fun b w hb hw h => by have := fr b w hb hw; rw [h] at this; exact this
  have add : ∀ (b c : Nat), b ≤ s.length → c ≤ 100 → A .add .i64 (Int.ofNat b) (Int.ofNat c) = Int.ofNat (b + c) := fun b c hb hc => ofNat_add hA (by omega)
  obtain ⟨res, hres⟩ : ∃ q, q = rd (n + 1) (s.drop a) := ⟨_, rfl⟩
  rw [← hres]
  have hrd := hres
  rw [rd] at hrd
  obtain ⟨ls, hls⟩ : ∃ n, n = s.length := ⟨_, rfl⟩
  rw [← hls]
  refine CallsV.ok (fn := Try.f71) (by kernel_rfl) (by kernel_rfl) rfl (by cbv) (by cbv) ?_
  cases h1 : strip sInt (s.drop a) with
  | some r =>
    have c1 := fT a sInt r ha (by decide) h1
    simp only [h1] at hrd
    obtain ⟨p1, p2, _⟩ := strip_drop ha h1
    repeat (first | (apply Ok.run1 hmix hA false 2000; focus (cbv; done)) | (apply Ok.one hmix hA; focus (cbv; done)) | (rw [Ar.notT hA]) | (rw [Ar.notF hA]) | (refine Ok.condT ?_ ?_; focus (cbv; done)) | (refine Ok.condF ?_ ?_; focus (cbv; done)) | (refine Ok.drawnE (by as_aux_lemma => kernel_rfl) ?_) | (apply Ok.call (c1); (focus (cbv; done)); (focus (cbv; done)); (focus (cbv; done))) | (apply Ok.dcall (c1); (focus (cbv; done)); (focus (cbv; done)); (focus (cbv; done))))
    rw [show A .add .i64 (Int.ofNat a) 3 = Int.ofNat (a + 3) from add a 3 ha (by omega), hrd]
    obtain ⟨a3, ha3⟩ : ∃ b, b = a + 3 := ⟨_, rfl⟩
    rw [← ha3]
    (first | (apply Ok.fin1; (focus (cbv; done)); (focus (cbv; done))) | (apply Ok.fin2; (focus (cbv; done)); (focus (cbv; done))) | (apply Ok.fin3; (focus (cbv; done)); (focus (cbv; done))))
    · simp [rT, Enc.tyc, ht0]
    · simp only [posM]; rw [hls, p1, ha3]; rfl
  | none =>
  have c1 := fF a sInt ha (by decide) h1
  simp only [h1] at hrd
  cases h2 : strip sBool (s.drop a) with
  | some r =>
    have c2 := fT a sBool r ha (by decide) h2
    simp only [h2] at hrd
    obtain ⟨p1, p2, _⟩ := strip_drop ha h2
    repeat (first | (apply Ok.run1 hmix hA false 2000; focus (cbv; done)) | (apply Ok.one hmix hA; focus (cbv; done)) | (rw [Ar.notT hA]) | (rw [Ar.notF hA]) | (refine Ok.condT ?_ ?_; focus (cbv; done)) | (refine Ok.condF ?_ ?_; focus (cbv; done)) | (refine Ok.drawnE (by as_aux_lemma => kernel_rfl) ?_) | (apply Ok.call (c1); (focus (cbv; done)); (focus (cbv; done)); (focus (cbv; done))) | (apply Ok.dcall (c1); (focus (cbv; done)); (focus (cbv; done)); (focus (cbv; done))) | (apply Ok.call (c2); (focus (cbv; done)); (focus (cbv; done)); (focus (cbv; done))) | (apply Ok.dcall (c2); (focus (cbv; done)); (focus (cbv; done)); (focus (cbv; done))))
    rw [show A .add .i64 (Int.ofNat a) 4 = Int.ofNat (a + 4) from add a 4 ha (by omega), hrd]
    obtain ⟨a3, ha3⟩ : ∃ b, b = a + 4 := ⟨_, rfl⟩
    rw [← ha3]
    (first | (apply Ok.fin1; (focus (cbv; done)); (focus (cbv; done))) | (apply Ok.fin2; (focus (cbv; done)); (focus (cbv; done))) | (apply Ok.fin3; (focus (cbv; done)); (focus (cbv; done))))
    · simp [rT, Enc.tyc, ht0]
    · simp only [posM]; rw [hls, p1, ha3]; rfl
  | none =>
  have c2 := fF a sBool ha (by decide) h2
  simp only [h2] at hrd
  cases h3 : strip sText (s.drop a) with
  | some r =>
    have c3 := fT a sText r ha (by decide) h3
    simp only [h3] at hrd
    obtain ⟨p1, p2, _⟩ := strip_drop ha h3
    repeat (first | (apply Ok.run1 hmix hA false 2000; focus (cbv; done)) | (apply Ok.one hmix hA; focus (cbv; done)) | (rw [Ar.notT hA]) | (rw [Ar.notF hA]) | (refine Ok.condT ?_ ?_; focus (cbv; done)) | (refine Ok.condF ?_ ?_; focus (cbv; done)) | (refine Ok.drawnE (by as_aux_lemma => kernel_rfl) ?_) | (apply Ok.call (c1); (focus (cbv; done)); (focus (cbv; done)); (focus (cbv; done))) | (apply Ok.dcall (c1); (focus (cbv; done)); (focus (cbv; done)); (focus (cbv; done))) | (apply Ok.call (c2); (focus (cbv; done)); (focus (cbv; done)); (focus (cbv; done))) | (apply Ok.dcall (c2); (focus (cbv; done)); (focus (cbv; done)); (focus (cbv; done))) | (apply Ok.call (c3); (focus (cbv; done)); (focus (cbv; done)); (focus (cbv; done))) | (apply Ok.dcall (c3); (focus (cbv; done)); (focus (cbv; done)); (focus (cbv; done))))
    rw [show A .add .i64 (Int.ofNat a) 4 = Int.ofNat (a + 4) from add a 4 ha (by omega), hrd]
    obtain ⟨a3, ha3⟩ : ∃ b, b = a + 4 := ⟨_, rfl⟩
    rw [← ha3]
    (first | (apply Ok.fin1; (focus (cbv; done)); (focus (cbv; done))) | (apply Ok.fin2; (focus (cbv; done)); (focus (cbv; done))) | (apply Ok.fin3; (focus (cbv; done)); (focus (cbv; done))))
    · simp [rT, Enc.tyc, ht0]
    · simp only [posM]; rw [hls, p1, ha3]; rfl
  | none =>
  have c3 := fF a sText ha (by decide) h3
  simp only [h3] at hrd
  cases h4 : strip [40] (s.drop a) with
  | none =>
    have c4 := fF a [40, 41] ha (by decide) (by rw [strip_par, h4])
    have c5 := fF a [40] ha (by decide) h4
    simp only [h4] at hrd
    repeat (first | (apply Ok.run1 hmix hA false 2000; focus (cbv; done)) | (apply Ok.one hmix hA; focus (cbv; done)) | (rw [Ar.notT hA]) | (rw [Ar.notF hA]) | (refine Ok.condT ?_ ?_; focus (cbv; done)) | (refine Ok.condF ?_ ?_; focus (cbv; done)) | (refine Ok.drawnE (by as_aux_lemma => kernel_rfl) ?_) | (apply Ok.call (c1); (focus (cbv; done)); (focus (cbv; done)); (focus (cbv; done))) | (apply Ok.dcall (c1); (focus (cbv; done)); (focus (cbv; done)); (focus (cbv; done))) | (apply Ok.call (c2); (focus (cbv; done)); (focus (cbv; done)); (focus (cbv; done))) | (apply Ok.dcall (c2); (focus (cbv; done)); (focus (cbv; done)); (focus (cbv; done))) | (apply Ok.call (c3); (focus (cbv; done)); (focus (cbv; done)); (focus (cbv; done))) | (apply Ok.dcall (c3); (focus (cbv; done)); (focus (cbv; done)); (focus (cbv; done))) | (apply Ok.call (c4); (focus (cbv; done)); (focus (cbv; done)); (focus (cbv; done))) | (apply Ok.dcall (c4); (focus (cbv; done)); (focus (cbv; done)); (focus (cbv; done))) | (apply Ok.call (c5); (focus (cbv; done)); (focus (cbv; done)); (focus (cbv; done))) | (apply Ok.dcall (c5); (focus (cbv; done)); (focus (cbv; done)); (focus (cbv; done))))
    rw [hrd]
    (first | (apply Ok.fin1; (focus (cbv; done)); (focus (cbv; done))) | (apply Ok.fin2; (focus (cbv; done)); (focus (cbv; done))) | (apply Ok.fin3; (focus (cbv; done)); (focus (cbv; done))))
    · simp [rT, Enc.tyc, ht0, Ty.zero]
    · rfl
  | some r =>
  simp only [h4] at hrd
  obtain ⟨p1, p2, p3⟩ := strip_drop ha h4
  have c5 := fT a [40] r ha (by decide) h4
  cases h5 : strip [41] r with
  | some e =>
    simp only [h5] at hrd
    have h6 : strip [40, 41] (s.drop a) = some e := by rw [strip_par, h4]; exact h5
    have c4 := fT a [40, 41] e ha (by decide) h6
    obtain ⟨q1, q2, _⟩ := strip_drop ha h6
    repeat (first | (apply Ok.run1 hmix hA false 2000; focus (cbv; done)) | (apply Ok.one hmix hA; focus (cbv; done)) | (rw [Ar.notT hA]) | (rw [Ar.notF hA]) | (refine Ok.condT ?_ ?_; focus (cbv; done)) | (refine Ok.condF ?_ ?_; focus (cbv; done)) | (refine Ok.drawnE (by as_aux_lemma => kernel_rfl) ?_) | (apply Ok.call (c1); (focus (cbv; done)); (focus (cbv; done)); (focus (cbv; done))) | (apply Ok.dcall (c1); (focus (cbv; done)); (focus (cbv; done)); (focus (cbv; done))) | (apply Ok.call (c2); (focus (cbv; done)); (focus (cbv; done)); (focus (cbv; done))) | (apply Ok.dcall (c2); (focus (cbv; done)); (focus (cbv; done)); (focus (cbv; done))) | (apply Ok.call (c3); (focus (cbv; done)); (focus (cbv; done)); (focus (cbv; done))) | (apply Ok.dcall (c3); (focus (cbv; done)); (focus (cbv; done)); (focus (cbv; done))) | (apply Ok.call (c4); (focus (cbv; done)); (focus (cbv; done)); (focus (cbv; done))) | (apply Ok.dcall (c4); (focus (cbv; done)); (focus (cbv; done)); (focus (cbv; done))))
    rw [show A .add .i64 (Int.ofNat a) 2 = Int.ofNat (a + 2) from add a 2 ha (by omega), hrd]
    obtain ⟨a3, ha3⟩ : ∃ b, b = a + 2 := ⟨_, rfl⟩
    rw [← ha3]
    (first | (apply Ok.fin1; (focus (cbv; done)); (focus (cbv; done))) | (apply Ok.fin2; (focus (cbv; done)); (focus (cbv; done))) | (apply Ok.fin3; (focus (cbv; done)); (focus (cbv; done))))
    · simp [rT, Enc.tyc, ht0]
    · simp only [posM]; rw [hls, q1, ha3]; rfl
  | none =>
  simp only [h5] at hrd
  have c4 := fF a [40, 41] ha (by decide) (by rw [strip_par, h4]; exact h5)
  obtain ⟨a1, ha1⟩ : ∃ b, b = a + 1 := ⟨_, rfl⟩
  repeat (first | (apply Ok.run1 hmix hA false 2000; focus (cbv; done)) | (apply Ok.one hmix hA; focus (cbv; done)) | (rw [Ar.notT hA]) | (rw [Ar.notF hA]) | (refine Ok.condT ?_ ?_; focus (cbv; done)) | (refine Ok.condF ?_ ?_; focus (cbv; done)) | (refine Ok.drawnE (by as_aux_lemma => kernel_rfl) ?_) | (apply Ok.call (c1); (focus (cbv; done)); (focus (cbv; done)); (focus (cbv; done))) | (apply Ok.dcall (c1); (focus (cbv; done)); (focus (cbv; done)); (focus (cbv; done))) | (apply Ok.call (c2); (focus (cbv; done)); (focus (cbv; done)); (focus (cbv; done))) | (apply Ok.dcall (c2); (focus (cbv; done)); (focus (cbv; done)); (focus (cbv; done))) | (apply Ok.call (c3); (focus (cbv; done)); (focus (cbv; done)); (focus (cbv; done))) | (apply Ok.dcall (c3); (focus (cbv; done)); (focus (cbv; done)); (focus (cbv; done))) | (apply Ok.call (c4); (focus (cbv; done)); (focus (cbv; done)); (focus (cbv; done))) | (apply Ok.dcall (c4); (focus (cbv; done)); (focus (cbv; done)); (focus (cbv; done))) | (apply Ok.call (c5); (focus (cbv; done)); (focus (cbv; done)); (focus (cbv; done))) | (apply Ok.dcall (c5); (focus (cbv; done)); (focus (cbv; done)); (focus (cbv; done))))
  rw [show A .add .i64 (Int.ofNat a) 1 = Int.ofNat a1 by rw [ha1]; exact add a 1 ha (by omega)]
  refine Ok.le (Le.nilBox 6 1 59 38 2 (by cbv) (by cbv) (by cbv) (by decide)) ?_
  refine Ok.loopAt [0, 1, 4, 5, 6] [4, 6, 59] (fun m sl h => ∃ (q : Nat) (acc : List Ty) (b j : Nat) (es : List PV), m = q ∧ rdL q acc (s.drop b) = res ∧ b ≤ s.length ∧ 2 * (s.length - b) + 3 ≤ q ∧ q ≤ n ∧ acc.length + (s.length - b) ≤ s.length ∧ j = acc.length ∧ es = E .tys acc ∧
    sl = mkS 76 [(0, .pv (.str s)), (1, .pv (.int .i64 (Int.ofNat b))), (4, .ptr 4 0), (5, .pv (.int .i64 0)), (6, .ptr 6 0)] ∧
    h = [(4, .box [.pv (.int .i64 0), .pv .nil] true), (6, .box [.pv (.int .i64 4), .ref 59 j] true), (59, .row 38 2 es true)]) n (by cbv) ⟨n, [], a1, 0, [], rfl, (by rw [ha1, hrd, p3]; try rfl), (by rw [List.length_singleton] at p2; omega), (by rw [List.length_singleton] at p2; omega), Nat.le_refl _, (by rw [List.length_nil]; omega), rfl, by rw [ht0], by cbv, by cbv⟩ ?_
  clear c1 c2 c3 c4 c5 h1 h2 h3 h4 h5 hrd p1 p2 p3
  rintro m sl h ⟨q, acc, b, j, es, hm, hq, hb, hfu2, hqn, hacc, hj, hes, rfl, rfl⟩
  have hesl : j = es.length := by rw [hes, E.tys_eq hE, List.length_map, hj]
  obtain ⟨q, rfl⟩ : ∃ k, q = k + 1 := ⟨q - 1, by omega⟩
  rw [rdL] at hq
  have cR := ih q (by omega) b hb (by omega)
  have neg1 : A .lt (-1) 0 = true := by rw [Ar.lt_eq hA]; rfl
  cases hrr : rd q (s.drop b) with
  | none =>
    rw [hrr] at cR
    simp only [hrr] at hq
    repeat (first | (apply Ok.run1 hmix hA false 2000; focus (cbv; done)) | (apply Ok.one hmix hA; focus (cbv; done)) | (rw [Ar.notT hA]) | (rw [Ar.notF hA]) | (refine Ok.condT ?_ ?_; focus (cbv; done)) | (refine Ok.condF ?_ ?_; focus (cbv; done)) | (refine Ok.drawnE (by as_aux_lemma => kernel_rfl) ?_) | (apply Ok.call (cR); (focus (cbv; done)); (focus (cbv; done)); (focus (cbv; done))) | (apply Ok.dcall (cR); (focus (cbv; done)); (focus (cbv; done)); (focus (cbv; done))))
    rw [neg1]
    repeat (first | (apply Ok.run1 hmix hA false 2000; focus (cbv; done)) | (apply Ok.one hmix hA; focus (cbv; done)) | (rw [Ar.notT hA]) | (rw [Ar.notF hA]) | (refine Ok.condT ?_ ?_; focus (cbv; done)) | (refine Ok.condF ?_ ?_; focus (cbv; done)) | (refine Ok.drawnE (by as_aux_lemma => kernel_rfl) ?_))
    refine Ok.leaveRet ?_
    repeat (first | (apply Ok.run1 hmix hA false 2000; focus (cbv; done)) | (apply Ok.one hmix hA; focus (cbv; done)) | (rw [Ar.notT hA]) | (rw [Ar.notF hA]) | (refine Ok.condT ?_ ?_; focus (cbv; done)) | (refine Ok.condF ?_ ?_; focus (cbv; done)) | (refine Ok.drawnE (by as_aux_lemma => kernel_rfl) ?_))
    rw [← hq]
    (first | (apply Ok.fin1; (focus (cbv; done)); (focus (cbv; done))) | (apply Ok.fin2; (focus (cbv; done)); (focus (cbv; done))) | (apply Ok.fin3; (focus (cbv; done)); (focus (cbv; done))))
    · simp [rT, Enc.tyc, ht0, Ty.zero]
    · rfl
  | some tp =>
    obtain ⟨p, r2⟩ := tp
    rw [hrr] at cR
    simp only [hrr] at hq
    obtain ⟨ht1, hp2⟩ := rd_text q (s.drop b) p r2 hrr
    have hp1 := szT_pos p
    obtain ⟨b2, hb2⟩ : ∃ k, k = s.length - r2.length := ⟨_, rfl⟩
    have hlen := congrArg List.length ht1
    rw [List.length_drop, List.length_append] at hlen
    rw [List.length_drop] at hp2
    have hr2 : r2 = s.drop b2 := by
      rw [show b2 = b + (textT p).length by omega, ← List.drop_drop, ht1, List.drop_left]
    have cR : CallsV Try.prog 71 [.str s, .int .i64 (Int.ofNat b)] (.tup [.pv (E.tyc p), .pv (.int .i64 (Int.ofNat b2))]) [] := by rw [hb2]; exact cR
    have nn : A .lt (Int.ofNat b2) 0 = false := by rw [show (0 : Int) = Int.ofNat 0 from rfl, ofNat_lt hA]; simp
    obtain ⟨es3, hes3⟩ : ∃ es3, es3 = es ++ [E.tyc p] := ⟨_, rfl⟩
    obtain ⟨n3, hn3⟩ : ∃ n3, n3 = j + 1 := ⟨_, rfl⟩
    have hes4 : es3 = E .tys (acc ++ [p]) := by rw [hes3, hes, E.tys_eq hE, E.tys_eq hE, List.map_append]; rfl
    have hn4 : n3 = es3.length := by rw [hn3, hes3, hesl]; simp
    repeat (first | (apply Ok.run1 hmix hA false 2000; focus (cbv; done)) | (apply Ok.one hmix hA; focus (cbv; done)) | (rw [Ar.notT hA]) | (rw [Ar.notF hA]) | (refine Ok.condT ?_ ?_; focus (cbv; done)) | (refine Ok.condF ?_ ?_; focus (cbv; done)) | (refine Ok.drawnE (by as_aux_lemma => kernel_rfl) ?_) | (apply Ok.call (cR); (focus (cbv; done)); (focus (cbv; done)); (focus (cbv; done))) | (apply Ok.dcall (cR); (focus (cbv; done)); (focus (cbv; done)); (focus (cbv; done))))
    rw [nn]
    repeat (first | (apply Ok.run1 hmix hA false 2000; focus (cbv; done)) | (apply Ok.one hmix hA; focus (cbv; done)) | (rw [Ar.notT hA]) | (rw [Ar.notF hA]) | (refine Ok.condT ?_ ?_; focus (cbv; done)) | (refine Ok.condF ?_ ?_; focus (cbv; done)) | (refine Ok.drawnE (by as_aux_lemma => kernel_rfl) ?_))
    refine Ok.op (app_ref (by cbv) (by cbv) hesl (by cbv) (by cbv) (by decide) (by simp only [List.length_singleton]; omega) (by unfold maxLen; simp only [List.length_singleton]; omega) n3 (by exact hn3) es3 (by rw [hes3]; rfl)) ?_
    obtain ⟨b3, hb3⟩ : ∃ k, k = b2 + 1 := ⟨_, rfl⟩
    have hadd : A .add .i64 (Int.ofNat b2) 1 = Int.ofNat b3 := by rw [hb3]; exact add b2 1 (by omega) (by omega)
    rw [hr2] at hq
    cases hs3 : strip [41] (s.drop b2) with
    | some e =>
      have cd := fT b2 [41] e (by omega) (by decide) hs3
      obtain ⟨p1, p2, _⟩ := strip_drop (by omega) hs3
      simp only [hs3] at hq
      repeat (first | (apply Ok.run1 hmix hA false 2000; focus (cbv; done)) | (apply Ok.one hmix hA; focus (cbv; done)) | (rw [Ar.notT hA]) | (rw [Ar.notF hA]) | (refine Ok.condT ?_ ?_; focus (cbv; done)) | (refine Ok.condF ?_ ?_; focus (cbv; done)) | (refine Ok.drawnE (by as_aux_lemma => kernel_rfl) ?_) | (apply Ok.call (cd); (focus (cbv; done)); (focus (cbv; done)); (focus (cbv; done))) | (apply Ok.dcall (cd); (focus (cbv; done)); (focus (cbv; done)); (focus (cbv; done))))
      rw [hadd]
      repeat (first | (apply Ok.run1 hmix hA false 2000; focus (cbv; done)) | (apply Ok.one hmix hA; focus (cbv; done)) | (rw [Ar.notT hA]) | (rw [Ar.notF hA]) | (refine Ok.condT ?_ ?_; focus (cbv; done)) | (refine Ok.condF ?_ ?_; focus (cbv; done)) | (refine Ok.drawnE (by as_aux_lemma => kernel_rfl) ?_))
      refine Ok.leaveRet ?_
      repeat (first | (apply Ok.run1 hmix hA false 2000; focus (cbv; done)) | (apply Ok.one hmix hA; focus (cbv; done)) | (rw [Ar.notT hA]) | (rw [Ar.notF hA]) | (refine Ok.condT ?_ ?_; focus (cbv; done)) | (refine Ok.condF ?_ ?_; focus (cbv; done)) | (refine Ok.drawnE (by as_aux_lemma => kernel_rfl) ?_))
      rw [← hq]
      refine Ok.fin2 (p1 := .agg [.int .i64 4, .view es3]) (p2 := .int .i64 (Int.ofNat b3)) (ids := [59]) (by cbv) (by simp [frzL, frz2, frz1, frz0, rowOf, hget, PV.rlx, ← hn4]) ?_ ?_
      · simp [rT, Enc.tyc, hes4]
      · simp only [posM]; rw [hls, p1, hb3]; rfl
    | none =>
      have cd := fF b2 [41] (by omega) (by decide) hs3
      simp only [hs3] at hq
      cases hs4 : strip [44] (s.drop b2) with
      | some r3 =>
        have ce := fT b2 [44] r3 (by omega) (by decide) hs4
        obtain ⟨p1, p2, p3⟩ := strip_drop (by omega) hs4
        simp only [hs4] at hq
        simp only [List.length_singleton] at p1 p2 p3
        repeat (first | (apply Ok.run1 hmix hA false 2000; focus (cbv; done)) | (apply Ok.one hmix hA; focus (cbv; done)) | (rw [Ar.notT hA]) | (rw [Ar.notF hA]) | (refine Ok.condT ?_ ?_; focus (cbv; done)) | (refine Ok.condF ?_ ?_; focus (cbv; done)) | (refine Ok.drawnE (by as_aux_lemma => kernel_rfl) ?_) | (apply Ok.call (cd); (focus (cbv; done)); (focus (cbv; done)); (focus (cbv; done))) | (apply Ok.dcall (cd); (focus (cbv; done)); (focus (cbv; done)); (focus (cbv; done))) | (apply Ok.call (ce); (focus (cbv; done)); (focus (cbv; done)); (focus (cbv; done))) | (apply Ok.dcall (ce); (focus (cbv; done)); (focus (cbv; done)); (focus (cbv; done))))
        rw [hadd]
        exact Ok.back q [0, 1, 4, 5, 6] [4, 6, 59] (by omega) (by cbv) ⟨q, acc ++ [p], b3, n3, es3, rfl, by rw [hb3, ← p3]; exact hq, by omega, by omega, by omega, by simp; omega, by simp; omega, hes4, by cbv, by cbv⟩
      | none =>
        have ce := fF b2 [44] (by omega) (by decide) hs4
        simp only [hs4] at hq
        repeat (first | (apply Ok.run1 hmix hA false 2000; focus (cbv; done)) | (apply Ok.one hmix hA; focus (cbv; done)) | (rw [Ar.notT hA]) | (rw [Ar.notF hA]) | (refine Ok.condT ?_ ?_; focus (cbv; done)) | (refine Ok.condF ?_ ?_; focus (cbv; done)) | (refine Ok.drawnE (by as_aux_lemma => kernel_rfl) ?_) | (apply Ok.call (cd); (focus (cbv; done)); (focus (cbv; done)); (focus (cbv; done))) | (apply Ok.dcall (cd); (focus (cbv; done)); (focus (cbv; done)); (focus (cbv; done))) | (apply Ok.call (ce); (focus (cbv; done)); (focus (cbv; done)); (focus (cbv; done))) | (apply Ok.dcall (ce); (focus (cbv; done)); (focus (cbv; done)); (focus (cbv; done))))
        refine Ok.leaveRet ?_
        repeat (first | (apply Ok.run1 hmix hA false 2000; focus (cbv; done)) | (apply Ok.one hmix hA; focus (cbv; done)) | (rw [Ar.notT hA]) | (rw [Ar.notF hA]) | (refine Ok.condT ?_ ?_; focus (cbv; done)) | (refine Ok.condF ?_ ?_; focus (cbv; done)) | (refine Ok.drawnE (by as_aux_lemma => kernel_rfl) ?_))
        rw [← hq]
        (first | (apply Ok.fin1; (focus (cbv; done)); (focus (cbv; done))) | (apply Ok.fin2; (focus (cbv; done)); (focus (cbv; done))) | (apply Ok.fin3; (focus (cbv; done)); (focus (cbv; done))))
        · simp [rT, Enc.tyc, ht0, Ty.zero]
        · rfl
theorem ref6_ParseType {E : Enc} (hE : E = .std) (s : List UInt8) (hs : s.length ≤ 2 ^ 20) : CallsV Try.prog 34 [.str s] (.tup [.pv (E.tyc (parM s).1), .pv (.int .i64 (parM s).2)]) [] := by
  obtain ⟨A, hA⟩ : ∃ A : Ar, A = .std := ⟨_, rfl⟩
  have ht0 : E .tys [] = [] := by rw [E.tys_eq hE]; rfl
  have c := ref6_typeAt hE s hs (2 * s.length + 2) 0 (by omega) (by omega)
  rw [List.drop_zero] at c
  obtain ⟨ls, hls⟩ : ∃ n, n = s.length := ⟨_, rfl⟩
  have e1 : A .lenS s = Int.ofNat ls := by rw [hls]; exact lenS_nat hA s
  unfold parM
  rw [← hls] at c ⊢
  cases hq : rd (2 * ls + 2) s with
  | none =>
    rw [hq] at c
    have hne : A .not (A .eq (-1) (Int.ofNat ls)) = true := by
      rw [Ar.eq_eq hA, Ar.not_eq hA, decide_eq_false (by intro h; cases h)]
      rfl
    refine CallsV.ok (fn := Try.f34) (by kernel_rfl) (by kernel_rfl) rfl (by cbv) (by cbv) ?_
    repeat (first | (apply Ok.run1 hmix hA false 2000; focus (cbv; done)) | (apply Ok.one hmix hA; focus (cbv; done)) | (rw [Ar.notT hA]) | (rw [Ar.notF hA]) | (refine Ok.condT ?_ ?_; focus (cbv; done)) | (refine Ok.condF ?_ ?_; focus (cbv; done)) | (refine Ok.drawnE (by as_aux_lemma => kernel_rfl) ?_) | (apply Ok.call (c); (focus (cbv; done)); (focus (cbv; done)); (focus (cbv; done))) | (apply Ok.dcall (c); (focus (cbv; done)); (focus (cbv; done)); (focus (cbv; done))))
    rw [e1, hne]
    repeat (first | (apply Ok.run1 hmix hA false 2000; focus (cbv; done)) | (apply Ok.one hmix hA; focus (cbv; done)) | (rw [Ar.notT hA]) | (rw [Ar.notF hA]) | (refine Ok.condT ?_ ?_; focus (cbv; done)) | (refine Ok.condF ?_ ?_; focus (cbv; done)) | (refine Ok.drawnE (by as_aux_lemma => kernel_rfl) ?_))
    (first | (apply Ok.fin1; (focus (cbv; done)); (focus (cbv; done))) | (apply Ok.fin2; (focus (cbv; done)); (focus (cbv; done))) | (apply Ok.fin3; (focus (cbv; done)); (focus (cbv; done))))
    all_goals first | rfl | simp [Enc.tyc, ht0, Ty.zero]
  | some tr =>
    obtain ⟨t, r⟩ := tr
    rw [hq] at c
    obtain ⟨ht1, hsz⟩ := rd_text _ s t r hq
    have ck := ref6_CheckType hE t (by omega)
    obtain ⟨e, he⟩ : ∃ e, e = ckT t 0 := ⟨_, rfl⟩
    dsimp only
    rw [← he] at ck ⊢
    obtain ⟨b, hb⟩ : ∃ b, b = ls - r.length := ⟨_, rfl⟩
    have c : CallsV Try.prog 71 [.str s, .int .i64 0] (.tup [.pv (E.tyc t), .pv (.int .i64 (Int.ofNat b))]) [] := by rw [hb]; exact c
    have hrl : r.length ≤ ls := by omega
    have hne : A .not (A .eq (Int.ofNat b) (Int.ofNat ls)) = !decide (r = []) := by
      rw [ofNat_eq hA, Ar.not_eq hA]
      by_cases hr : r = []
      · simp [hr] at hb ⊢; omega
      · have : 0 < r.length := List.length_pos_iff.2 hr
        simp [hr]; omega
    obtain ⟨kd, l⟩ := t
    refine CallsV.ok (fn := Try.f34) (by kernel_rfl) (by kernel_rfl) rfl (by cbv) (by cbv) ?_
    repeat (first | (apply Ok.run1 hmix hA false 2000; focus (cbv; done)) | (apply Ok.one hmix hA; focus (cbv; done)) | (rw [Ar.notT hA]) | (rw [Ar.notF hA]) | (refine Ok.condT ?_ ?_; focus (cbv; done)) | (refine Ok.condF ?_ ?_; focus (cbv; done)) | (refine Ok.drawnE (by as_aux_lemma => kernel_rfl) ?_) | (apply Ok.call (c); (focus (cbv; done)); (focus (cbv; done)); (focus (cbv; done))) | (apply Ok.dcall (c); (focus (cbv; done)); (focus (cbv; done)); (focus (cbv; done))))
    rw [e1, hne]
    by_cases hr : r = []
    · rw [decide_eq_true hr, if_neg (by simpa using hr)]
      repeat (first | (apply Ok.run1 hmix hA false 2000; focus (cbv; done)) | (apply Ok.one hmix hA; focus (cbv; done)) | (rw [Ar.notT hA]) | (rw [Ar.notF hA]) | (refine Ok.condT ?_ ?_; focus (cbv; done)) | (refine Ok.condF ?_ ?_; focus (cbv; done)) | (refine Ok.drawnE (by as_aux_lemma => kernel_rfl) ?_) | (apply Ok.call (ck); (focus (cbv; done)); (focus (cbv; done)); (focus (cbv; done))) | (apply Ok.dcall (ck); (focus (cbv; done)); (focus (cbv; done)); (focus (cbv; done))))
      rw [Ar.eq_eq hA, Ar.not_eq hA]
      by_cases h0 : e = 0
      · rw [decide_eq_true h0, if_neg (by simpa using h0)]
        repeat (first | (apply Ok.run1 hmix hA false 2000; focus (cbv; done)) | (apply Ok.one hmix hA; focus (cbv; done)) | (rw [Ar.notT hA]) | (rw [Ar.notF hA]) | (refine Ok.condT ?_ ?_; focus (cbv; done)) | (refine Ok.condF ?_ ?_; focus (cbv; done)) | (refine Ok.drawnE (by as_aux_lemma => kernel_rfl) ?_))
        (first | (apply Ok.fin1; (focus (cbv; done)); (focus (cbv; done))) | (apply Ok.fin2; (focus (cbv; done)); (focus (cbv; done))) | (apply Ok.fin3; (focus (cbv; done)); (focus (cbv; done))))
        all_goals rfl
      · rw [decide_eq_false h0, if_pos h0]
        repeat (first | (apply Ok.run1 hmix hA false 2000; focus (cbv; done)) | (apply Ok.one hmix hA; focus (cbv; done)) | (rw [Ar.notT hA]) | (rw [Ar.notF hA]) | (refine Ok.condT ?_ ?_; focus (cbv; done)) | (refine Ok.condF ?_ ?_; focus (cbv; done)) | (refine Ok.drawnE (by as_aux_lemma => kernel_rfl) ?_))
        (first | (apply Ok.fin1; (focus (cbv; done)); (focus (cbv; done))) | (apply Ok.fin2; (focus (cbv; done)); (focus (cbv; done))) | (apply Ok.fin3; (focus (cbv; done)); (focus (cbv; done))))
        all_goals first | rfl | simp [Enc.tyc, ht0, Ty.zero]
    · rw [decide_eq_false hr, if_pos hr]
      repeat (first | (apply Ok.run1 hmix hA false 2000; focus (cbv; done)) | (apply Ok.one hmix hA; focus (cbv; done)) | (rw [Ar.notT hA]) | (rw [Ar.notF hA]) | (refine Ok.condT ?_ ?_; focus (cbv; done)) | (refine Ok.condF ?_ ?_; focus (cbv; done)) | (refine Ok.drawnE (by as_aux_lemma => kernel_rfl) ?_))
      (first | (apply Ok.fin1; (focus (cbv; done)); (focus (cbv; done))) | (apply Ok.fin2; (focus (cbv; done)); (focus (cbv; done))) | (apply Ok.fin3; (focus (cbv; done)); (focus (cbv; done))))
      all_goals first | rfl | simp [Enc.tyc, ht0, Ty.zero]
end Go.Proofs.Ytnojmocoifodjaa.Pv
set_option maxRecDepth 100000
set_option maxHeartbeats 4000000
set_option linter.unusedVariables false
set_option linter.unusedSimpArgs false
namespace Go.Proofs.Ytnojmocoifodjaa.Pv
open Go Go.Proofs
theorem law1_known : CallsV Try.prog 32 [] (.pv (.bool true)) [] := ev_ok 30 (by kernel_rfl)
theorem law1_TypeDeep (n : Nat) : CallsV Try.prog 6 [.int .u8 (Int.ofNat n)] (.pv (.bool true)) [] := by
  obtain ⟨r, hr⟩ : ∃ r, r = n % 10 := ⟨_, rfl⟩
  have hlt : r < 10 := by omega
  refine CallsV.ok (fn := Try.f6) (by kernel_rfl) (by kernel_rfl) rfl (by cbv) (by cbv) ?_
  refine Ok.run hmix (A := Ar.std) rfl true 2000 (by cbv) ?_
  refine Ok.call (law1_known) (by cbv) (by cbv) (by cbv) ?_
  refine Ok.run hmix (A := Ar.std) rfl true 2000 (by cbv) ?_
  refine Ok.condF (by cbv) ?_
  refine Ok.run hmix (A := Ar.std) rfl true 2000 (by cbv) ?_
  refine Ok.op (rem_op (by cbv) (by cbv) (by decide) (Int.ofNat r) (by rw [hr]; rfl)) ?_
  clear hr
  match r, hlt with
  | 0, _ => exact Ok.evl (by as_aux_lemma => kernel_rfl)
  | 1, _ => exact Ok.evl (by as_aux_lemma => kernel_rfl)
  | 2, _ => exact Ok.evl (by as_aux_lemma => kernel_rfl)
  | 3, _ => exact Ok.evl (by as_aux_lemma => kernel_rfl)
  | 4, _ => exact Ok.evl (by as_aux_lemma => kernel_rfl)
  | 5, _ => exact Ok.evl (by as_aux_lemma => kernel_rfl)
  | 6, _ => exact Ok.evl (by as_aux_lemma => kernel_rfl)
  | 7, _ => exact Ok.evl (by as_aux_lemma => kernel_rfl)
  | 8, _ => exact Ok.evl (by as_aux_lemma => kernel_rfl)
  | 9, _ => exact Ok.evl (by as_aux_lemma => kernel_rfl)
end Go.Proofs.Ytnojmocoifodjaa.Pv
set_option maxRecDepth 100000
set_option maxHeartbeats 4000000
set_option linter.unusedVariables false
set_option linter.unusedSimpArgs false
namespace Go.Proofs.Ytnojmocoifodjaa.Pv
open Go Go.Proofs
theorem law1_Of {E : Enc} (hE : E = .std) : ∀ (n : Nat) (t : Ty), SizeOf.sizeOf t ≤ n → szT t ≤ 2 ^ 28 → CallsV Try.prog 17 [E.tyc t] (.pv (E.tyc t)) [] := by
  intro n
  induction n with
  | zero => intro t h; cases t; simp at h
  | succ n ih =>
    rintro ⟨kd, l⟩ hn hsz
    obtain ⟨A, hA⟩ : ∃ A : Ar, A = .std := ⟨_, rfl⟩
    rw [szT] at hsz
    have hlen := szTs_len l
    obtain ⟨ln, hln⟩ : ∃ n, n = l.length := ⟨_, rfl⟩
    have hll : A .lenP (E .tys l) = Int.ofNat ln := by rw [Ar.lenP_eq hA, E.tys_eq hE, List.length_map, hln]; rfl
    have ht0 : E .tys [] = [] := by rw [E.tys_eq hE]; rfl
    have hsub : ∀ x, x ∈ l → CallsV Try.prog 17 [E.tyc x] (.pv (E.tyc x)) [] := fun x hx => by
      have h1 := List.sizeOf_lt_of_mem hx
      have h2 := szTs_mem hx
      simp at hn
      exact ih x (by omega) (by omega)
    clear ih
    refine CallsV.ok (fn := Try.f17) (by kernel_rfl) (by kernel_rfl) rfl (by cbv) (by cbv) ?_
    repeat (first | (apply Ok.run1 hmix hA false 2000; focus (cbv; done)) | (apply Ok.one hmix hA; focus (cbv; done)) | (rw [Ar.notT hA]) | (rw [Ar.notF hA]) | (refine Ok.condT ?_ ?_; focus (cbv; done)) | (refine Ok.condF ?_ ?_; focus (cbv; done)) | (refine Ok.drawnE (by as_aux_lemma => kernel_rfl) ?_))
    refine Ok.le (Le.nilBox 3 1 24 38 2 (by cbv) (by cbv) (by cbv) (by decide)) ?_
    refine Ok.loopAt [1, 2, 3, 4] [1, 2, 3, 24] (fun m s h => ∃ (k j : Nat) (es : List PV), m = ln - k ∧ k ≤ ln ∧ j = k ∧ es = E .tys (l.take k) ∧
      s = mkS 27 [(1, .ptr 1 0), (2, .ptr 2 0), (3, .ptr 3 0), (4, .pv (.int .i64 (Int.ofNat k)))] ∧
      h = [(1, .box [.pv (.int .i64 kd), .pv (.view (E .tys l))] true), (2, .box [.pv (.int .i64 0), .pv .nil] true), (3, .box [.pv (.int .i64 kd), .ref 24 j] true), (24, .row 38 2 es true)]) (ln - 0) (by cbv) ⟨0, 0, [], rfl, Nat.zero_le _, rfl, by rw [List.take_zero, ht0], by cbv, by cbv⟩ ?_
    rintro m s h ⟨k, j, es, rfl, hk, hj, hes, rfl, rfl⟩
    have hesl : j = es.length := by rw [hes, E.tys_eq hE, List.length_map, List.length_take, hj]; omega
    refine Ok.run hmix hA false 2000 (by cbv) ?_
    rw [hll, ofNat_lt hA]
    by_cases hkl : k < ln
    · rw [decide_eq_true hkl]
      repeat (first | (apply Ok.run1 hmix hA false 2000; focus (cbv; done)) | (apply Ok.one hmix hA; focus (cbv; done)) | (rw [Ar.notT hA]) | (rw [Ar.notF hA]) | (refine Ok.condT ?_ ?_; focus (cbv; done)) | (refine Ok.condF ?_ ?_; focus (cbv; done)) | (refine Ok.drawnE (by as_aux_lemma => kernel_rfl) ?_))
      have hx : l[k]? = some (l[k]'(by omega)) := List.getElem?_eq_getElem (by omega)
      have hxm : l[k]'(by omega) ∈ l := List.getElem_mem (by omega)
      have htk : l.take (k + 1) = l.take k ++ [l[k]'(by omega)] := by rw [List.take_add_one, hx]; rfl
      generalize l[k]'(by omega) = x at hx hxm htk
      have cx := hsub x hxm
      obtain ⟨es3, hes3⟩ : ∃ es3, es3 = es ++ [E.tyc x] := ⟨_, rfl⟩
      obtain ⟨n3, hn3⟩ : ∃ n3, n3 = j + 1 := ⟨_, rfl⟩
      refine Ok.dop (idx_view (E.tyc x) (by cbv) (by cbv) (by simp) (by rw [E.tys_eq hE]; simp [hx]) rfl) ?_
      repeat (first | (apply Ok.run1 hmix hA false 2000; focus (cbv; done)) | (apply Ok.one hmix hA; focus (cbv; done)) | (rw [Ar.notT hA]) | (rw [Ar.notF hA]) | (refine Ok.condT ?_ ?_; focus (cbv; done)) | (refine Ok.condF ?_ ?_; focus (cbv; done)) | (refine Ok.drawnE (by as_aux_lemma => kernel_rfl) ?_) | (apply Ok.call (cx); (focus (cbv; done)); (focus (cbv; done)); (focus (cbv; done))) | (apply Ok.dcall (cx); (focus (cbv; done)); (focus (cbv; done)); (focus (cbv; done))))
      refine Ok.dop (app_ref (by cbv) (by cbv) hesl (by cbv) (by cbv) (by decide) (by simp only [List.length_singleton]; omega) (by unfold maxLen; simp only [List.length_singleton]; omega) n3 (by exact hn3) es3 (by rw [hes3]; rfl)) ?_
      repeat (first | (apply Ok.run1 hmix hA false 2000; focus (cbv; done)) | (apply Ok.one hmix hA; focus (cbv; done)) | (rw [Ar.notT hA]) | (rw [Ar.notF hA]) | (refine Ok.condT ?_ ?_; focus (cbv; done)) | (refine Ok.condF ?_ ?_; focus (cbv; done)) | (refine Ok.drawnE (by as_aux_lemma => kernel_rfl) ?_))
      rw [Ar.succ_eq hA (by omega)]
      exact Ok.back (ln - (k + 1)) [1, 2, 3, 4] [1, 2, 3, 24] (by omega) (by cbv) ⟨k + 1, n3, es3, rfl, by omega, by omega, by rw [hes3, hes, htk, E.tys_eq hE, E.tys_eq hE, List.map_append]; rfl, by cbv, by cbv⟩
    · rw [decide_eq_false hkl]
      have hke : k = l.length := by omega
      rw [hke, List.take_length] at hes
      repeat (first | (apply Ok.run1 hmix hA false 2000; focus (cbv; done)) | (apply Ok.one hmix hA; focus (cbv; done)) | (rw [Ar.notT hA]) | (rw [Ar.notF hA]) | (refine Ok.condT ?_ ?_; focus (cbv; done)) | (refine Ok.condF ?_ ?_; focus (cbv; done)) | (refine Ok.drawnE (by as_aux_lemma => kernel_rfl) ?_))
      refine Ok.leave ?_
      repeat (first | (apply Ok.run1 hmix hA false 2000; focus (cbv; done)) | (apply Ok.one hmix hA; focus (cbv; done)) | (rw [Ar.notT hA]) | (rw [Ar.notF hA]) | (refine Ok.condT ?_ ?_; focus (cbv; done)) | (refine Ok.condF ?_ ?_; focus (cbv; done)) | (refine Ok.drawnE (by as_aux_lemma => kernel_rfl) ?_))
      refine Ok.fin1 (p := .agg [.int .i64 kd, .view es]) (ids := [24]) (by cbv) (by simp [frzL, frz2, frz1, frz0, rowOf, hget, PV.rlx, ← hesl]) ?_
      simp [Enc.tyc, hes]
theorem parM_sz (s : List UInt8) : szT (parM s).1 ≤ s.length + 1 := by
  unfold parM
  cases hq : rd (2 * s.length + 2) s with
  | none => simp [Ty.zero, szT, szTs]
  | some tr =>
    obtain ⟨t, r⟩ := tr
    obtain ⟨_, hsz⟩ := rd_text _ s t r hq
    dsimp only
    repeat' split
    all_goals first | (simp [Ty.zero, szT, szTs]; done) | (simp only []; omega)
theorem parM_text (s : List UInt8) (h : (parM s).2 = 0) : textT (parM s).1 = s := by
  unfold parM at h ⊢
  cases hq : rd (2 * s.length + 2) s with
  | none => rw [hq] at h; exact absurd h (by decide)
  | some tr =>
    obtain ⟨t, r⟩ := tr
    obtain ⟨ht, _⟩ := rd_text _ s t r hq
    rw [hq] at h
    dsimp only at h ⊢
    by_cases hr : r = []
    · subst hr
      rw [if_neg (by simp)] at h ⊢
      by_cases h0 : ckT t 0 = 0
      · rw [if_neg (by simpa using h0)]
        rw [List.append_nil] at ht
        exact ht.symm
      · rw [if_pos h0] at h
        exact absurd h h0
    · rw [if_pos hr] at h
      exact absurd h (by decide)
theorem law1_TypeTexts (s : List UInt8) : CallsV Try.prog 5 [.str s] (.pv (.bool true)) [] := by
  obtain ⟨A, hA⟩ : ∃ A : Ar, A = .std := ⟨_, rfl⟩
  obtain ⟨E, hE⟩ : ∃ E : Enc, E = .std := ⟨_, rfl⟩
  obtain ⟨ns, hns⟩ : ∃ n, n = s.length := ⟨_, rfl⟩
  have e1 : A .lt 200 (A .lenS s) = decide (200 < ns) := by
    rw [lenS_nat hA, ← hns]
    exact ofNat_lt hA 200 ns
  have ck := law1_known
  by_cases hbig : 200 < ns
  · refine CallsV.ok (fn := Try.f5) (by kernel_rfl) (by kernel_rfl) rfl (by cbv) (by cbv) ?_
    repeat (first | (apply Ok.run1 hmix hA false 2000; focus (cbv; done)) | (apply Ok.one hmix hA; focus (cbv; done)) | (rw [Ar.notT hA]) | (rw [Ar.notF hA]) | (refine Ok.condT ?_ ?_; focus (cbv; done)) | (refine Ok.condF ?_ ?_; focus (cbv; done)) | (refine Ok.drawnE (by as_aux_lemma => kernel_rfl) ?_) | (apply Ok.call (ck); (focus (cbv; done)); (focus (cbv; done)); (focus (cbv; done))) | (apply Ok.dcall (ck); (focus (cbv; done)); (focus (cbv; done)); (focus (cbv; done))))
    rw [e1, decide_eq_true hbig]
    repeat (first | (apply Ok.run1 hmix hA false 2000; focus (cbv; done)) | (apply Ok.one hmix hA; focus (cbv; done)) | (rw [Ar.notT hA]) | (rw [Ar.notF hA]) | (refine Ok.condT ?_ ?_; focus (cbv; done)) | (refine Ok.condF ?_ ?_; focus (cbv; done)) | (refine Ok.drawnE (by as_aux_lemma => kernel_rfl) ?_))
    exact Ok.fin (by cbv) (FS.out (by cbv) (PLe.refl _))
  have c1 := typ_Parse hE s (by omega)
  have c2 := ref6_ParseType hE s (by omega)
  have hsz := parM_sz s
  have htx := parM_text s
  generalize parM s = q at c1 c2 hsz htx
  obtain ⟨t, e⟩ := q
  dsimp only at c1 c2 hsz htx
  have c3 := law1_Of hE _ t (Nat.le_refl _) (by omega)
  have c4 := ref6_SameType hE _ t t (Nat.le_refl _) (by omega) (by omega)
  rw [sameT_refl] at c4
  have c5 := typ_Text hE _ t (Nat.le_refl _) (by omega)
  have e2 : A .eq e e = true := by rw [Ar.eq_eq hA]; simp
  obtain ⟨kd, l⟩ := t
  obtain ⟨tx, htx'⟩ : ∃ tx, tx = textT ⟨kd, l⟩ := ⟨_, rfl⟩
  rw [← htx'] at c5 htx
  refine CallsV.ok (fn := Try.f5) (by kernel_rfl) (by kernel_rfl) rfl (by cbv) (by cbv) ?_
  repeat (first | (apply Ok.run1 hmix hA false 2000; focus (cbv; done)) | (apply Ok.one hmix hA; focus (cbv; done)) | (rw [Ar.notT hA]) | (rw [Ar.notF hA]) | (refine Ok.condT ?_ ?_; focus (cbv; done)) | (refine Ok.condF ?_ ?_; focus (cbv; done)) | (refine Ok.drawnE (by as_aux_lemma => kernel_rfl) ?_) | (apply Ok.call (ck); (focus (cbv; done)); (focus (cbv; done)); (focus (cbv; done))) | (apply Ok.dcall (ck); (focus (cbv; done)); (focus (cbv; done)); (focus (cbv; done))))
  rw [e1, decide_eq_false hbig]
  repeat (first | (apply Ok.run1 hmix hA false 2000; focus (cbv; done)) | (apply Ok.one hmix hA; focus (cbv; done)) | (rw [Ar.notT hA]) | (rw [Ar.notF hA]) | (refine Ok.condT ?_ ?_; focus (cbv; done)) | (refine Ok.condF ?_ ?_; focus (cbv; done)) | (refine Ok.drawnE (by as_aux_lemma => kernel_rfl) ?_) | (apply Ok.call (c1); (focus (cbv; done)); (focus (cbv; done)); (focus (cbv; done))) | (apply Ok.dcall (c1); (focus (cbv; done)); (focus (cbv; done)); (focus (cbv; done))) | (apply Ok.call (c2); (focus (cbv; done)); (focus (cbv; done)); (focus (cbv; done))) | (apply Ok.dcall (c2); (focus (cbv; done)); (focus (cbv; done)); (focus (cbv; done))))
  rw [e2]
  repeat (first | (apply Ok.run1 hmix hA false 2000; focus (cbv; done)) | (apply Ok.one hmix hA; focus (cbv; done)) | (rw [Ar.notT hA]) | (rw [Ar.notF hA]) | (refine Ok.condT ?_ ?_; focus (cbv; done)) | (refine Ok.condF ?_ ?_; focus (cbv; done)) | (refine Ok.drawnE (by as_aux_lemma => kernel_rfl) ?_) | (apply Ok.call (c3); (focus (cbv; done)); (focus (cbv; done)); (focus (cbv; done))) | (apply Ok.dcall (c3); (focus (cbv; done)); (focus (cbv; done)); (focus (cbv; done))) | (apply Ok.call (c4); (focus (cbv; done)); (focus (cbv; done)); (focus (cbv; done))) | (apply Ok.dcall (c4); (focus (cbv; done)); (focus (cbv; done)); (focus (cbv; done))))
  rw [Ar.eq_eq hA, Ar.not_eq hA]
  by_cases h0 : e = 0
  · rw [decide_eq_true h0]
    repeat (first | (apply Ok.run1 hmix hA false 2000; focus (cbv; done)) | (apply Ok.one hmix hA; focus (cbv; done)) | (rw [Ar.notT hA]) | (rw [Ar.notF hA]) | (refine Ok.condT ?_ ?_; focus (cbv; done)) | (refine Ok.condF ?_ ?_; focus (cbv; done)) | (refine Ok.drawnE (by as_aux_lemma => kernel_rfl) ?_) | (apply Ok.call (c5); (focus (cbv; done)); (focus (cbv; done)); (focus (cbv; done))) | (apply Ok.dcall (c5); (focus (cbv; done)); (focus (cbv; done)); (focus (cbv; done))))
    rw [htx h0, show A .seq s s = true by rw [Ar.seq_eq hA]; simp]
    repeat (first | (apply Ok.run1 hmix hA false 2000; focus (cbv; done)) | (apply Ok.one hmix hA; focus (cbv; done)) | (rw [Ar.notT hA]) | (rw [Ar.notF hA]) | (refine Ok.condT ?_ ?_; focus (cbv; done)) | (refine Ok.condF ?_ ?_; focus (cbv; done)) | (refine Ok.drawnE (by as_aux_lemma => kernel_rfl) ?_))
    exact Ok.fin (by cbv) (FS.out (by cbv) (PLe.refl _))
  · rw [decide_eq_false h0]
    repeat (first | (apply Ok.run1 hmix hA false 2000; focus (cbv; done)) | (apply Ok.one hmix hA; focus (cbv; done)) | (rw [Ar.notT hA]) | (rw [Ar.notF hA]) | (refine Ok.condT ?_ ?_; focus (cbv; done)) | (refine Ok.condF ?_ ?_; focus (cbv; done)) | (refine Ok.drawnE (by as_aux_lemma => kernel_rfl) ?_))
    exact Ok.fin (by cbv) (FS.out (by cbv) (PLe.refl _))
end Go.Proofs.Ytnojmocoifodjaa.Pv
set_option maxRecDepth 100000
set_option maxHeartbeats 4000000
set_option linter.unusedVariables false
set_option linter.unusedSimpArgs false
namespace Go.Proofs.Ytnojmocoifodjaa.Pv
open Go Go.Proofs
theorem vls_len {E : Enc} (hE : E = .std) (l : List Vl) : (E .vls l).length = l.length := by rw [E.vls_eq hE, List.length_map]
theorem tys_len {E : Enc} (hE : E = .std) (l : List Ty) : (E .tys l).length = l.length := by rw [E.tys_eq hE, List.length_map]
theorem exs_len {E : Enc} (hE : E = .std) (l : List Ex4) : (E .exs l).length = l.length := by rw [E.exs_eq hE, List.length_map]
theorem val_spare {E : Enc} (hE : E = .std) (v : Vl) : CallsV Try.prog 164 [E.vl v] (.pv (.bool (spareV v))) [] := by
  obtain ⟨A, hA⟩ : ∃ A : Ar, A = .std := ⟨_, rfl⟩
  obtain ⟨k, i, b, s, l⟩ := v
  have q4 : A .lt 0 (A .lenP (E .vls l)) = decide (0 < l.length) := by
    rw [Ar.lenP_eq hA, vls_len hE]
    exact ofNat_lt hA 0 l.length
  generalize hb4 : decide (0 < l.length) = b4 at q4
  obtain ⟨r, hr⟩ : ∃ r, r = spareV ⟨k, i, b, s, l⟩ := ⟨_, rfl⟩
  have hr' := hr
  rw [← hr]
  simp only [spareV] at hr'
  refine CallsV.ok (fn := Try.f164) (by kernel_rfl) (by kernel_rfl) rfl (by cbv) (by cbv) ?_
  repeat' (first | (apply Ok.run1 hmix hA false 2000; focus (cbv; done)) | (apply Ok.one hmix hA; focus (cbv; done)) | (rw [Ar.notT hA]) | (rw [Ar.notF hA]) | (refine Ok.condT ?_ ?_; focus (cbv; done)) | (refine Ok.condF ?_ ?_; focus (cbv; done)) | (refine Ok.drawnE (by as_aux_lemma => kernel_rfl) ?_) | (apply Ok.cond; (focus (cbv; done)); all_goals (intro hh; (try rw [hh]))) | (apply Ok.splitG; (focus (cbv; done)); all_goals (intro hh; (try rw [hh]))) | (apply Ok.splitP; (focus (cbv; done)); all_goals (intro hh; (try rw [hh]))) | (apply Ok.fin1; (focus (cbv; done)); (focus (cbv; done))) | (apply Ok.fin2; (focus (cbv; done)); (focus (cbv; done))) | (apply Ok.fin3; (focus (cbv; done)); (focus (cbv; done))))
  all_goals (simp only [Ar.eq_eq hA, Ar.not_eq hA, Ar.seq_eq hA, q4, Bool.not_eq_true', Bool.not_eq_false', decide_eq_true_eq, decide_eq_false_iff_not] at *)
  all_goals (simp_all)
theorem val_check {E : Enc} (hE : E = .std) : ∀ (n : Nat) (t : Vl) (d : Nat), SizeOf.sizeOf t ≤ n → szV t ≤ 2 ^ 40 → d ≤ 1000 → CallsV Try.prog 146 [E.vl t, .int .i64 (Int.ofNat d)] (.pv (.int .i64 (ckV t d))) [] := by
  intro n
  induction n with
  | zero => intro t d h; cases t; simp at h
  | succ n ih =>
    rintro ⟨kd, vi, vb, vs, l⟩ d hn hsz hd
    obtain ⟨A, hA⟩ : ∃ A : Ar, A = .std := ⟨_, rfl⟩
    rw [szV] at hsz
    have hlen := szVs_len l
    obtain ⟨ln, hln⟩ : ∃ n, n = l.length := ⟨_, rfl⟩
    have hll : A .lenP (E .vls l) = Int.ofNat ln := by rw [Ar.lenP_eq hA, vls_len hE, hln]; rfl
    have cS := val_spare hE ⟨kd, vi, vb, vs, l⟩
    have cR := typ_Row (Int.ofNat ln) (Int.ofNat d)
    obtain ⟨rc, hrc⟩ : ∃ c, c = rowC (Int.ofNat ln) (Int.ofNat d) := ⟨_, rfl⟩
    rw [← hrc] at cR
    have hrd : rc = 0 → d ≤ 4 := by
      intro h
      rw [h] at hrc
      unfold rowC at hrc
      repeat' split at hrc
      all_goals first | omega | (rename_i h4; simp at h4; omega)
    have hsub : d ≤ 4 → ∀ x, x ∈ l → CallsV Try.prog 146 [E.vl x, .int .i64 (Int.ofNat (d + 1))] (.pv (.int .i64 (ckV x (d + 1)))) [] := fun hd4 x hx => by
      have h1 := List.sizeOf_lt_of_mem hx
      have h2 := szVs_mem hx
      simp at hn
      exact ih x (d + 1) (by omega) (by omega) (by omega)
    clear ih
    obtain ⟨d1, hd1⟩ : ∃ d1, d1 = d + 1 := ⟨_, rfl⟩
    have hck : ckV ⟨kd, vi, vb, vs, l⟩ d = if kd < 1 ∨ 4 < kd then 5 else if spareV ⟨kd, vi, vb, vs, l⟩ then 2 else if 255 < vs.length then 4 else if kd ≠ 4 then 0 else if rc ≠ 0 then rc else ckVs l d1 := by rw [ckV, hln.symm, hd1]; rw [hrc]; rfl
    rw [hck]
    generalize spareV ⟨kd, vi, vb, vs, l⟩ = sp at cS
    have q1 : A .lt kd 1 = decide (kd < 1) := Ar.lt_eq hA _ _
    have q2 : A .lt 4 kd = decide (4 < kd) := Ar.lt_eq hA _ _
    have q3 : A .not (A .eq kd 4) = !decide (kd = 4) := by rw [Ar.not_eq hA, Ar.eq_eq hA]
    have q5 : A .lt 255 (A .lenS vs) = decide (255 < vs.length) := by rw [lenS_nat hA]; exact ofNat_lt hA 255 _
    refine CallsV.ok (fn := Try.f146) (by kernel_rfl) (by kernel_rfl) rfl (by cbv) (by cbv) ?_
    refine Ok.run hmix hA false 2000 (by cbv) ?_
    rw [q1]
    by_cases h1 : kd < 1
    · rw [decide_eq_true h1, if_pos (by omega)]
      repeat (first | (apply Ok.run1 hmix hA false 2000; focus (cbv; done)) | (apply Ok.one hmix hA; focus (cbv; done)) | (rw [Ar.notT hA]) | (rw [Ar.notF hA]) | (refine Ok.condT ?_ ?_; focus (cbv; done)) | (refine Ok.condF ?_ ?_; focus (cbv; done)) | (refine Ok.drawnE (by as_aux_lemma => kernel_rfl) ?_))
      exact Ok.fin (by cbv) (FS.out (by cbv) (PLe.refl _))
    rw [decide_eq_false h1]
    repeat (first | (apply Ok.run1 hmix hA false 2000; focus (cbv; done)) | (apply Ok.one hmix hA; focus (cbv; done)) | (rw [Ar.notT hA]) | (rw [Ar.notF hA]) | (refine Ok.condT ?_ ?_; focus (cbv; done)) | (refine Ok.condF ?_ ?_; focus (cbv; done)) | (refine Ok.drawnE (by as_aux_lemma => kernel_rfl) ?_))
    rw [q2]
    by_cases h2 : 4 < kd
    · rw [decide_eq_true h2, if_pos (by omega)]
      repeat (first | (apply Ok.run1 hmix hA false 2000; focus (cbv; done)) | (apply Ok.one hmix hA; focus (cbv; done)) | (rw [Ar.notT hA]) | (rw [Ar.notF hA]) | (refine Ok.condT ?_ ?_; focus (cbv; done)) | (refine Ok.condF ?_ ?_; focus (cbv; done)) | (refine Ok.drawnE (by as_aux_lemma => kernel_rfl) ?_))
      exact Ok.fin (by cbv) (FS.out (by cbv) (PLe.refl _))
    rw [decide_eq_false h2, if_neg (by omega)]
    repeat (first | (apply Ok.run1 hmix hA false 2000; focus (cbv; done)) | (apply Ok.one hmix hA; focus (cbv; done)) | (rw [Ar.notT hA]) | (rw [Ar.notF hA]) | (refine Ok.condT ?_ ?_; focus (cbv; done)) | (refine Ok.condF ?_ ?_; focus (cbv; done)) | (refine Ok.drawnE (by as_aux_lemma => kernel_rfl) ?_) | (apply Ok.call (cS); (focus (cbv; done)); (focus (cbv; done)); (focus (cbv; done))) | (apply Ok.dcall (cS); (focus (cbv; done)); (focus (cbv; done)); (focus (cbv; done))))
    cases sp with
    | true =>
      rw [if_pos rfl]
      repeat (first | (apply Ok.run1 hmix hA false 2000; focus (cbv; done)) | (apply Ok.one hmix hA; focus (cbv; done)) | (rw [Ar.notT hA]) | (rw [Ar.notF hA]) | (refine Ok.condT ?_ ?_; focus (cbv; done)) | (refine Ok.condF ?_ ?_; focus (cbv; done)) | (refine Ok.drawnE (by as_aux_lemma => kernel_rfl) ?_))
      exact Ok.fin (by cbv) (FS.out (by cbv) (PLe.refl _))
    | false =>
    rw [if_neg (by simp)]
    repeat (first | (apply Ok.run1 hmix hA false 2000; focus (cbv; done)) | (apply Ok.one hmix hA; focus (cbv; done)) | (rw [Ar.notT hA]) | (rw [Ar.notF hA]) | (refine Ok.condT ?_ ?_; focus (cbv; done)) | (refine Ok.condF ?_ ?_; focus (cbv; done)) | (refine Ok.drawnE (by as_aux_lemma => kernel_rfl) ?_))
    rw [q5]
    by_cases h3 : 255 < vs.length
    · rw [decide_eq_true h3, if_pos h3]
      repeat (first | (apply Ok.run1 hmix hA false 2000; focus (cbv; done)) | (apply Ok.one hmix hA; focus (cbv; done)) | (rw [Ar.notT hA]) | (rw [Ar.notF hA]) | (refine Ok.condT ?_ ?_; focus (cbv; done)) | (refine Ok.condF ?_ ?_; focus (cbv; done)) | (refine Ok.drawnE (by as_aux_lemma => kernel_rfl) ?_))
      exact Ok.fin (by cbv) (FS.out (by cbv) (PLe.refl _))
    rw [decide_eq_false h3, if_neg h3]
    repeat (first | (apply Ok.run1 hmix hA false 2000; focus (cbv; done)) | (apply Ok.one hmix hA; focus (cbv; done)) | (rw [Ar.notT hA]) | (rw [Ar.notF hA]) | (refine Ok.condT ?_ ?_; focus (cbv; done)) | (refine Ok.condF ?_ ?_; focus (cbv; done)) | (refine Ok.drawnE (by as_aux_lemma => kernel_rfl) ?_))
    rw [q3]
    by_cases h4 : kd = 4
    case neg =>
      rw [decide_eq_false h4, if_pos h4]
      repeat (first | (apply Ok.run1 hmix hA false 2000; focus (cbv; done)) | (apply Ok.one hmix hA; focus (cbv; done)) | (rw [Ar.notT hA]) | (rw [Ar.notF hA]) | (refine Ok.condT ?_ ?_; focus (cbv; done)) | (refine Ok.condF ?_ ?_; focus (cbv; done)) | (refine Ok.drawnE (by as_aux_lemma => kernel_rfl) ?_))
      exact Ok.fin (by cbv) (FS.out (by cbv) (PLe.refl _))
    rw [decide_eq_true h4, if_neg (by simpa using h4)]
    repeat (first | (apply Ok.run1 hmix hA false 2000; focus (cbv; done)) | (apply Ok.one hmix hA; focus (cbv; done)) | (rw [Ar.notT hA]) | (rw [Ar.notF hA]) | (refine Ok.condT ?_ ?_; focus (cbv; done)) | (refine Ok.condF ?_ ?_; focus (cbv; done)) | (refine Ok.drawnE (by as_aux_lemma => kernel_rfl) ?_))
    rw [hll]
    repeat (first | (apply Ok.run1 hmix hA false 2000; focus (cbv; done)) | (apply Ok.one hmix hA; focus (cbv; done)) | (rw [Ar.notT hA]) | (rw [Ar.notF hA]) | (refine Ok.condT ?_ ?_; focus (cbv; done)) | (refine Ok.condF ?_ ?_; focus (cbv; done)) | (refine Ok.drawnE (by as_aux_lemma => kernel_rfl) ?_) | (apply Ok.call (cR); (focus (cbv; done)); (focus (cbv; done)); (focus (cbv; done))) | (apply Ok.dcall (cR); (focus (cbv; done)); (focus (cbv; done)); (focus (cbv; done))))
    refine Ok.loopAt [1, 2, 5, 6] [2] (fun m s h => ∃ (k : Nat) (e : Int), m = ln - k ∧ k ≤ ln ∧ (if e ≠ 0 then e else ckVs (l.drop k) d1) = (if rc ≠ 0 then rc else ckVs l d1) ∧ (e = 0 → rc = 0) ∧ s = mkS 53 [(1, .pv (.int .i64 (Int.ofNat d))), (2, .ptr 2 0), (5, .pv (.int .i64 e)), (6, .pv (.int .i64 (Int.ofNat k)))] ∧
      h = [(2, .box [.pv (.int .i64 kd), .pv (.int .i64 vi), .pv (.bool vb), .pv (.str vs), .pv (.view (E .vls l))] true)]) (ln - 0) (by cbv) ⟨0, rc, rfl, Nat.zero_le _, rfl, id, by cbv, by cbv⟩ ?_
    rintro m s h ⟨k, e, rfl, hk, hc, he0, rfl, rfl⟩
    rw [← hc]
    refine Ok.run hmix hA false 2000 (by cbv) ?_
    rw [hll, ofNat_lt hA]
    by_cases hkl : k < ln
    · rw [decide_eq_true hkl]
      repeat (first | (apply Ok.run1 hmix hA false 2000; focus (cbv; done)) | (apply Ok.one hmix hA; focus (cbv; done)) | (rw [Ar.notT hA]) | (rw [Ar.notF hA]) | (refine Ok.condT ?_ ?_; focus (cbv; done)) | (refine Ok.condF ?_ ?_; focus (cbv; done)) | (refine Ok.drawnE (by as_aux_lemma => kernel_rfl) ?_))
      rw [Ar.eq_eq hA]
      by_cases he : e = 0
      · rw [decide_eq_true he, if_neg (by simpa using he)]
        rw [if_neg (by simpa using he)] at hc
        repeat (first | (apply Ok.run1 hmix hA false 2000; focus (cbv; done)) | (apply Ok.one hmix hA; focus (cbv; done)) | (rw [Ar.notT hA]) | (rw [Ar.notF hA]) | (refine Ok.condT ?_ ?_; focus (cbv; done)) | (refine Ok.condF ?_ ?_; focus (cbv; done)) | (refine Ok.drawnE (by as_aux_lemma => kernel_rfl) ?_))
        have hx : l[k]? = some (l[k]'(by omega)) := List.getElem?_eq_getElem (by omega)
        have hxm : l[k]'(by omega) ∈ l := List.getElem_mem (by omega)
        have hdl : l.drop k = l[k]'(by omega) :: l.drop (k + 1) := List.drop_eq_getElem_cons (by omega)
        generalize l[k]'(by omega) = x at hx hdl hxm
        rw [hdl, ckVs] at hc
        rw [hdl, ckVs]
        have cx := hsub (hrd (he0 he)) x hxm
        rw [← hd1] at cx
        obtain ⟨c, hcc⟩ : ∃ c, c = ckV x d1 := ⟨_, rfl⟩
        rw [← hcc] at cx hc ⊢
        refine Ok.op (idx_view (E.vl x) (by cbv) (by cbv) (by simp) (by rw [E.vls_eq hE]; simp [hx]) rfl) ?_
        refine Ok.run hmix hA false 2000 (by cbv) ?_
        rw [Ar.succ_eq (k := d) hA (by omega), ← hd1]
        repeat (first | (apply Ok.run1 hmix hA false 2000; focus (cbv; done)) | (apply Ok.one hmix hA; focus (cbv; done)) | (rw [Ar.notT hA]) | (rw [Ar.notF hA]) | (refine Ok.condT ?_ ?_; focus (cbv; done)) | (refine Ok.condF ?_ ?_; focus (cbv; done)) | (refine Ok.drawnE (by as_aux_lemma => kernel_rfl) ?_) | (apply Ok.call (cx); (focus (cbv; done)); (focus (cbv; done)); (focus (cbv; done))) | (apply Ok.dcall (cx); (focus (cbv; done)); (focus (cbv; done)); (focus (cbv; done))))
        rw [Ar.succ_eq (k := k) hA (by omega)]
        exact Ok.back (ln - (k + 1)) [1, 2, 5, 6] [2] (by omega) (by cbv) ⟨k + 1, c, rfl, by omega, (by first | exact hc | rfl), fun _ => he0 he, by cbv, by cbv⟩
      · rw [decide_eq_false he, if_pos he]
        repeat (first | (apply Ok.run1 hmix hA false 2000; focus (cbv; done)) | (apply Ok.one hmix hA; focus (cbv; done)) | (rw [Ar.notT hA]) | (rw [Ar.notF hA]) | (refine Ok.condT ?_ ?_; focus (cbv; done)) | (refine Ok.condF ?_ ?_; focus (cbv; done)) | (refine Ok.drawnE (by as_aux_lemma => kernel_rfl) ?_))
        refine Ok.leave ?_
        repeat (first | (apply Ok.run1 hmix hA false 2000; focus (cbv; done)) | (apply Ok.one hmix hA; focus (cbv; done)) | (rw [Ar.notT hA]) | (rw [Ar.notF hA]) | (refine Ok.condT ?_ ?_; focus (cbv; done)) | (refine Ok.condF ?_ ?_; focus (cbv; done)) | (refine Ok.drawnE (by as_aux_lemma => kernel_rfl) ?_))
        exact Ok.fin (by cbv) (FS.out (by cbv) (PLe.refl _))
    · rw [decide_eq_false hkl]
      have hke : k = l.length := by omega
      rw [hke, List.drop_length]
      have : (if e ≠ 0 then e else ckVs [] d1) = e := by
        by_cases he : e = 0
        · rw [if_neg (by simpa using he), he]; rfl
        · rw [if_pos he]
      rw [this]
      repeat (first | (apply Ok.run1 hmix hA false 2000; focus (cbv; done)) | (apply Ok.one hmix hA; focus (cbv; done)) | (rw [Ar.notT hA]) | (rw [Ar.notF hA]) | (refine Ok.condT ?_ ?_; focus (cbv; done)) | (refine Ok.condF ?_ ?_; focus (cbv; done)) | (refine Ok.drawnE (by as_aux_lemma => kernel_rfl) ?_))
      refine Ok.leave ?_
      repeat (first | (apply Ok.run1 hmix hA false 2000; focus (cbv; done)) | (apply Ok.one hmix hA; focus (cbv; done)) | (rw [Ar.notT hA]) | (rw [Ar.notF hA]) | (refine Ok.condT ?_ ?_; focus (cbv; done)) | (refine Ok.condF ?_ ?_; focus (cbv; done)) | (refine Ok.drawnE (by as_aux_lemma => kernel_rfl) ?_))
      exact Ok.fin (by cbv) (FS.out (by cbv) (PLe.refl _))
theorem val_Check {E : Enc} (hE : E = .std) (t : Vl) (hsz : szV t ≤ 2 ^ 40) : CallsV Try.prog 113 [E.vl t] (.pv (.int .i64 (ckV t 0))) [] := by
  obtain ⟨A, hA⟩ : ∃ A : Ar, A = .std := ⟨_, rfl⟩
  have c := val_check hE _ t 0 (Nat.le_refl _) hsz (by omega)
  generalize ckV t 0 = r at c ⊢
  obtain ⟨k, i, b, s, l⟩ := t
  refine CallsV.ok (fn := Try.f113) (by kernel_rfl) (by kernel_rfl) rfl (by cbv) (by cbv) ?_
  repeat (first | (apply Ok.run1 hmix hA false 2000; focus (cbv; done)) | (apply Ok.one hmix hA; focus (cbv; done)) | (rw [Ar.notT hA]) | (rw [Ar.notF hA]) | (refine Ok.condT ?_ ?_; focus (cbv; done)) | (refine Ok.condF ?_ ?_; focus (cbv; done)) | (refine Ok.drawnE (by as_aux_lemma => kernel_rfl) ?_) | (apply Ok.call (c); (focus (cbv; done)); (focus (cbv; done)); (focus (cbv; done))) | (apply Ok.dcall (c); (focus (cbv; done)); (focus (cbv; done)); (focus (cbv; done))))
  exact Ok.fin (by cbv) (FS.out (by cbv) (PLe.refl _))
end Go.Proofs.Ytnojmocoifodjaa.Pv
