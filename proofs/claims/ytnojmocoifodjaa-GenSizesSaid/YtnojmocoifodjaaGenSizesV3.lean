/- The law GenSizes of this seat: a part of its proof (an abstract evaluator of the code that is proved sound, and contracts of functions), with no condition. -/
import Derived.Test.YtnojmocoifodjaaGenSizesV2
import Derived.OpenShut
set_option maxRecDepth 100000
set_option linter.unusedVariables false
set_option linter.unusedSimpArgs false
namespace Go.Proofs.Ytnojmocoifodjaa.Pv
open Go Go.Proofs
def lessZ (b : Bool) : Int := if b then -1 else 1
mutual
def cmpV : Vl → Vl → Int
  | .mk k i b s t, .mk k' i' b' s' t' =>
    if ¬ k = k' then lessZ (decide (k < k'))
    else if ¬ i = i' then lessZ (decide (i < i'))
    else if ¬ b = b' then lessZ b'
    else if ¬ s = s' then lessZ (Op.bytesLess s s')
    else cmpVs t t'
def cmpVs : List Vl → List Vl → Int
  | [], [] => 0
  | [], _ :: _ => -1
  | _ :: _, [] => 1
  | x :: l, y :: m => if ¬ cmpV x y = 0 then cmpV x y else cmpVs l m
end
mutual
theorem cmpV_refl : ∀ v, cmpV v v = 0
  | .mk k i b s t => by simp [cmpV, cmpVs_refl t]
theorem cmpVs_refl : ∀ l, cmpVs l l = 0
  | [] => rfl
  | x :: l => by simp [cmpVs, cmpV_refl x, cmpVs_refl l]
end
theorem ref6_less (b : Bool) : CallsV Try.prog 160 [.bool b] (.pv (.int .i64 (lessZ b))) [] := by
  obtain ⟨A, hA⟩ : ∃ A : Ar, A = .std := ⟨_, rfl⟩
  refine CallsV.ok (fn := Try.f160) (by kernel_rfl) (by kernel_rfl) rfl (by cbv) (by cbv) ?_
  cases b
  · refine Ok.run hmix hA false 2000 (by cbv) ?_
    refine Ok.condF (by cbv) ?_
    refine Ok.run hmix hA false 2000 (by cbv) ?_
    exact Ok.fin (by cbv) (FS.out (by cbv) (PLe.refl _))
  · refine Ok.run hmix hA false 2000 (by cbv) ?_
    refine Ok.condT (by cbv) ?_
    refine Ok.run hmix hA false 2000 (by cbv) ?_
    have h1 : A .sub .i64 0 1 = -1 := by rw [Ar.sub_eq hA]; decide
    try rw [h1]
    exact Ok.fin (by cbv) (FS.out (by cbv) (PLe.refl _))
theorem ref6_Compare {E : Enc} (hE : E = .std) : ∀ (n : Nat) (v w : Vl), SizeOf.sizeOf v ≤ n → szV v ≤ 2 ^ 28 → szV w ≤ 2 ^ 28 → CallsV Try.prog 141 [E.vl v, E.vl w] (.pv (.int .i64 (cmpV v w))) [] := by
  intro n
  induction n with
  | zero => intro v w h; cases v; simp at h
  | succ n ih =>
    rintro ⟨k1, i1, b1, s1, l⟩ ⟨k2, i2, b2, s2, m⟩ hn hsz hsw
    obtain ⟨A, hA⟩ : ∃ A : Ar, A = .std := ⟨_, rfl⟩
    rw [szV] at hsz hsw
    have hlen := szVs_len l
    have hlem := szVs_len m
    have hll : A .lenP (E .vls l) = Int.ofNat l.length := by rw [Ar.lenP_eq hA, E.vls_eq hE, List.length_map]; rfl
    have hlm : A .lenP (E .vls m) = Int.ofNat m.length := by rw [Ar.lenP_eq hA, E.vls_eq hE, List.length_map]; rfl
    refine CallsV.ok (fn := Try.f141) (by kernel_rfl) (by kernel_rfl) rfl (by cbv) (by cbv) ?_
    refine Ok.run hmix hA false 2000 (by cbv) ?_
    refine Ok.cond (by cbv) ?_ ?_
    · intro h1
      have h1 : ¬ k1 = k2 := by rw [Ar.not_eq hA, Ar.eq_eq hA] at h1; simpa using h1
      rw [cmpV, if_pos h1]
      refine Ok.run hmix hA false 2000 (by cbv) ?_
      rw [Ar.lt_eq hA]
      obtain ⟨b, hb⟩ : ∃ b, b = decide (k1 < k2) := ⟨_, rfl⟩
      rw [← hb]
      refine Ok.call (ref6_less b) (by cbv) (by cbv) (by cbv) ?_
      refine Ok.run hmix hA false 2000 (by cbv) ?_
      exact Ok.fin (by cbv) (FS.out (by cbv) (PLe.refl _))
    intro h1
    have h1 : k1 = k2 := by rw [Ar.not_eq hA, Ar.eq_eq hA] at h1; simpa using h1
    refine Ok.run hmix hA false 2000 (by cbv) ?_
    refine Ok.cond (by cbv) ?_ ?_
    · intro h2
      have h2 : ¬ i1 = i2 := by rw [Ar.not_eq hA, Ar.eq_eq hA] at h2; simpa using h2
      rw [cmpV, if_neg (by simpa using h1), if_pos h2]
      refine Ok.run hmix hA false 2000 (by cbv) ?_
      rw [Ar.lt_eq hA]
      obtain ⟨b, hb⟩ : ∃ b, b = decide (i1 < i2) := ⟨_, rfl⟩
      rw [← hb]
      refine Ok.call (ref6_less b) (by cbv) (by cbv) (by cbv) ?_
      refine Ok.run hmix hA false 2000 (by cbv) ?_
      exact Ok.fin (by cbv) (FS.out (by cbv) (PLe.refl _))
    intro h2
    have h2 : i1 = i2 := by rw [Ar.not_eq hA, Ar.eq_eq hA] at h2; simpa using h2
    refine Ok.run hmix hA false 2000 (by cbv) ?_
    refine Ok.cond (by cbv) ?_ ?_
    · intro h3
      have h3 : ¬ b1 = b2 := by rw [Ar.not_eq hA, Ar.beq_eq hA] at h3; simpa using h3
      rw [cmpV, if_neg (by simpa using h1), if_neg (by simpa using h2), if_pos h3]
      refine Ok.run hmix hA false 2000 (by cbv) ?_
      refine Ok.call (ref6_less b2) (by cbv) (by cbv) (by cbv) ?_
      refine Ok.run hmix hA false 2000 (by cbv) ?_
      exact Ok.fin (by cbv) (FS.out (by cbv) (PLe.refl _))
    intro h3
    have h3 : b1 = b2 := by rw [Ar.not_eq hA, Ar.beq_eq hA] at h3; simpa using h3
    refine Ok.run hmix hA false 2000 (by cbv) ?_
    refine Ok.cond (by cbv) ?_ ?_
    · intro h4
      have h4 : ¬ s1 = s2 := by rw [Ar.not_eq hA, Ar.seq_eq hA] at h4; simpa using h4
      rw [cmpV, if_neg (by simpa using h1), if_neg (by simpa using h2), if_neg (by simpa using h3), if_pos h4]
      refine Ok.run hmix hA false 2000 (by cbv) ?_
      rw [Ar.slt_eq hA]
      obtain ⟨b, hb⟩ : ∃ b, b = Op.bytesLess s1 s2 := ⟨_, rfl⟩
      rw [← hb]
      refine Ok.call (ref6_less b) (by cbv) (by cbv) (by cbv) ?_
      refine Ok.run hmix hA false 2000 (by cbv) ?_
      exact Ok.fin (by cbv) (FS.out (by cbv) (PLe.refl _))
    intro h4
    have h4 : s1 = s2 := by rw [Ar.not_eq hA, Ar.seq_eq hA] at h4; simpa using h4
    rw [cmpV, if_neg (by simpa using h1), if_neg (by simpa using h2), if_neg (by simpa using h3), if_neg (by simpa using h4)]
    refine Ok.run hmix hA false 2000 (by cbv) ?_
    refine Ok.loopAt [2, 3, 5] [2, 3] (fun mm s h => ∃ (k : Nat), mm = l.length - k ∧ k ≤ l.length ∧ k ≤ m.length ∧ cmpVs (l.drop k) (m.drop k) = cmpVs l m ∧
      s = mkS 95 [(2, .ptr 2 0), (3, .ptr 3 0), (5, .pv (.int .i64 (Int.ofNat k)))] ∧
      h = [(2, .box [.pv (.int .i64 k1), .pv (.int .i64 i1), .pv (.bool b1), .pv (.str s1), .pv (.view (E .vls l))] true), (3, .box [.pv (.int .i64 k2), .pv (.int .i64 i2), .pv (.bool b2), .pv (.str s2), .pv (.view (E .vls m))] true)]) (l.length - 0) (by cbv) ⟨0, rfl, Nat.zero_le _, Nat.zero_le _, rfl, by cbv, by cbv⟩ ?_
    rintro mm s h ⟨k, rfl, hk, hkm, hcmp, rfl, rfl⟩
    have stop : ∀ (b : Bool), b = false → (b = decide (k < l.length ∧ k < m.length)) → (¬ (k < l.length ∧ k < m.length)) := fun b h1 h2 => by rw [h1] at h2; simpa using h2
    refine Ok.run hmix hA false 2000 (by cbv) ?_
    by_cases hkl : k < l.length
    · have e1 : A .lt (Int.ofNat k) (A .lenP (E .vls l)) = true := by rw [Ar.lt_eq hA, hll]; simpa using hkl
      rw [e1]
      by_cases hkm2 : k < m.length
      · have e2 : A .lt (Int.ofNat k) (A .lenP (E .vls m)) = true := by rw [Ar.lt_eq hA, hlm]; simpa using hkm2
        refine Ok.run hmix hA true 5 (by cbv) ?_
        rw [e2]
        refine Ok.run hmix hA true 2000 (by cbv) ?_
        refine Ok.condT (by cbv) ?_
        have hx : l[k]? = some l[k] := List.getElem?_eq_getElem hkl
        have hm : l[k] ∈ l := List.getElem_mem hkl
        have hdl : l.drop k = l[k] :: l.drop (k + 1) := List.drop_eq_getElem_cons hkl
        have hy : m[k]? = some m[k] := List.getElem?_eq_getElem hkm2
        have hmm : m[k] ∈ m := List.getElem_mem hkm2
        have hdm : m.drop k = m[k] :: m.drop (k + 1) := List.drop_eq_getElem_cons hkm2
        generalize l[k] = x at hx hm hdl
        generalize m[k] = y at hy hmm hdm
        have cxy : CallsV Try.prog 141 [E.vl x, E.vl y] (.pv (.int .i64 (cmpV x y))) [] := by
          have h1 := List.sizeOf_lt_of_mem hm
          have h2 := szVs_mem hm
          have h3 := szVs_mem hmm
          simp at hn
          exact ih x y (by omega) (by omega) (by omega)
        rw [hdl, hdm, cmpVs] at hcmp
        obtain ⟨c, hc⟩ : ∃ c, c = cmpV x y := ⟨_, rfl⟩
        rw [← hc] at cxy hcmp
        refine Ok.run hmix hA false 2000 (by cbv) ?_
        refine Ok.dop (idx_view (E.vl x) (by cbv) (by cbv) (by simp) (by rw [E.vls_eq hE]; simp [hx]) rfl) ?_
        refine Ok.run hmix hA false 2000 (by cbv) ?_
        refine Ok.dop (idx_view (E.vl y) (by cbv) (by cbv) (by simp) (by rw [E.vls_eq hE]; simp [hy]) rfl) ?_
        refine Ok.run hmix hA false 2000 (by cbv) ?_
        refine Ok.dcall (cxy) (by cbv) (by cbv) (by cbv) ?_
        refine Ok.run hmix hA false 2000 (by cbv) ?_
        refine Ok.drawn (by kernel_rfl) ?_
        refine Ok.run hmix hA false 2000 (by cbv) ?_
        refine Ok.cond (by cbv) ?_ ?_
        · intro h5
          have h5 : ¬ c = 0 := by rw [Ar.not_eq hA, Ar.eq_eq hA] at h5; simpa using h5
          rw [if_pos h5] at hcmp
          rw [← hcmp]
          refine Ok.run hmix hA false 2000 (by cbv) ?_
          refine Ok.leaveRet ?_
          refine Ok.run hmix hA false 2000 (by cbv) ?_
          exact Ok.fin (by cbv) (FS.out (by cbv) (PLe.refl _))
        · intro h5
          have h5 : c = 0 := by rw [Ar.not_eq hA, Ar.eq_eq hA] at h5; simpa using h5
          rw [if_neg (by simpa using h5)] at hcmp
          refine Ok.run hmix hA false 2000 (by cbv) ?_
          refine Ok.back (l.length - (k + 1)) [2, 3, 5] [2, 3] (by omega) (by cbv) ⟨k + 1, rfl, by omega, by omega, hcmp, ?_, by cbv⟩
          rw [Ar.succ_eq hA (by omega)]; cbv
      · have e2 : A .lt (Int.ofNat k) (A .lenP (E .vls m)) = false := by rw [Ar.lt_eq hA, hlm]; simpa using hkm2
        have hke : k = m.length := by omega
        refine Ok.run hmix hA true 5 (by cbv) ?_
        rw [e2]
        refine Ok.run hmix hA true 2000 (by cbv) ?_
        refine Ok.condF (by cbv) ?_
        refine Ok.run hmix hA false 2000 (by cbv) ?_
        refine Ok.leave ?_
        refine Ok.run hmix hA false 2000 (by cbv) ?_
        have e3 : A .not (A .eq (A .lenP (E .vls l)) (A .lenP (E .vls m))) = true := by rw [hll, hlm, Ar.not_eq hA, Ar.eq_eq hA]; simp; omega
        have e4 : A .lt (A .lenP (E .vls l)) (A .lenP (E .vls m)) = false := by rw [hll, hlm, Ar.lt_eq hA]; simp; omega
        rw [e3]
        refine Ok.condT (by cbv) ?_
        refine Ok.run hmix hA false 2000 (by cbv) ?_
        rw [e4]
        refine Ok.call (ref6_less false) (by cbv) (by cbv) (by cbv) ?_
        refine Ok.run hmix hA false 2000 (by cbv) ?_
        have : cmpVs l m = 1 := by
          rw [← hcmp, hke, List.drop_length]
          have : l.drop m.length ≠ [] := by simp; omega
          cases h : l.drop m.length with
          | nil => exact absurd h this
          | cons a t => rfl
        rw [this]
        exact Ok.fin (by cbv) (FS.out (by cbv) (PLe.refl _))
    · have e1 : A .lt (Int.ofNat k) (A .lenP (E .vls l)) = false := by rw [Ar.lt_eq hA, hll]; simpa using hkl
      have hke : k = l.length := by omega
      rw [e1]
      refine Ok.run hmix hA true 2000 (by cbv) ?_
      refine Ok.condF (by cbv) ?_
      refine Ok.run hmix hA false 2000 (by cbv) ?_
      refine Ok.leave ?_
      refine Ok.run hmix hA false 2000 (by cbv) ?_
      by_cases hlm2 : l.length = m.length
      · have e3 : A .not (A .eq (A .lenP (E .vls l)) (A .lenP (E .vls m))) = false := by rw [hll, hlm, Ar.not_eq hA, Ar.eq_eq hA]; simp; omega
        rw [e3]
        refine Ok.condF (by cbv) ?_
        refine Ok.run hmix hA false 2000 (by cbv) ?_
        have : cmpVs l m = 0 := by rw [← hcmp, hke, List.drop_length, hlm2, List.drop_length]; rfl
        rw [this]
        exact Ok.fin (by cbv) (FS.out (by cbv) (PLe.refl _))
      · have e3 : A .not (A .eq (A .lenP (E .vls l)) (A .lenP (E .vls m))) = true := by rw [hll, hlm, Ar.not_eq hA, Ar.eq_eq hA]; simp; omega
        have e4 : A .lt (A .lenP (E .vls l)) (A .lenP (E .vls m)) = true := by rw [hll, hlm, Ar.lt_eq hA]; simp; omega
        rw [e3]
        refine Ok.condT (by cbv) ?_
        refine Ok.run hmix hA false 2000 (by cbv) ?_
        rw [e4]
        refine Ok.call (ref6_less true) (by cbv) (by cbv) (by cbv) ?_
        refine Ok.run hmix hA false 2000 (by cbv) ?_
        have : cmpVs l m = -1 := by
          rw [← hcmp, hke, List.drop_length]
          have : m.drop l.length ≠ [] := by simp; omega
          cases h : m.drop l.length with
          | nil => exact absurd h this
          | cons a t => rfl
        rw [this]
        exact Ok.fin (by cbv) (FS.out (by cbv) (PLe.refl _))
end Go.Proofs.Ytnojmocoifodjaa.Pv
set_option maxRecDepth 100000
set_option linter.unusedVariables false
set_option linter.unusedSimpArgs false
namespace Go.Proofs.Ytnojmocoifodjaa.Pv
open Go Go.Proofs
theorem ref6_Same {E : Enc} (hE : E = .std) (v w : Vl) (h1 : szV v ≤ 2 ^ 28) (h2 : szV w ≤ 2 ^ 28) : CallsV Try.prog 99 [E.vl v, E.vl w] (.pv (.bool (decide (cmpV v w = 0)))) [] := by
  obtain ⟨A, hA⟩ : ∃ A : Ar, A = .std := ⟨_, rfl⟩
  have c := ref6_Compare hE _ v w (Nat.le_refl _) h1 h2
  generalize cmpV v w = r at c
  refine CallsV.ok (fn := Try.f99) (by kernel_rfl) (by kernel_rfl) rfl (by cbv) (by cbv) ?_
  refine Ok.run hmix hA false 2000 (by cbv) ?_
  refine Ok.call (c) (by cbv) (by cbv) (by cbv) ?_
  refine Ok.run hmix hA false 2000 (by cbv) ?_
  rw [Ar.eq_eq hA]
  obtain ⟨b, hb⟩ : ∃ b, b = decide (r = 0) := ⟨_, rfl⟩
  rw [← hb]
  exact Ok.fin (by cbv) (FS.out (by cbv) (PLe.refl _))
def sameVs : List Vl → List Vl → Bool
  | [], [] => true
  | x :: l, y :: m => decide (cmpV x y = 0) && sameVs l m
  | _, _ => false
theorem sameVs_refl : ∀ l, sameVs l l = true
  | [] => rfl
  | x :: l => by simp [sameVs, cmpV_refl, sameVs_refl l]
theorem sameVs_len : ∀ {l m : List Vl}, ¬ l.length = m.length → sameVs l m = false
  | [], [], h => by simp at h
  | x :: l, y :: m, h => by rw [sameVs, sameVs_len (l := l) (m := m) (by simpa using h)]; simp
  | [], _ :: _, _ => rfl
  | _ :: _, [], _ => rfl
theorem law2_SameAll {E : Enc} (hE : E = .std) (l m : List Vl) (hsz : szVs l ≤ 2 ^ 28) (hsw : szVs m ≤ 2 ^ 28) : CallsV Try.prog 58 [.view (E .vls l), .view (E .vls m)] (.pv (.bool (sameVs l m))) [] := by
  obtain ⟨A, hA⟩ : ∃ A : Ar, A = .std := ⟨_, rfl⟩
  have hlen := szVs_len l
  have hll : A .lenP (E .vls l) = Int.ofNat l.length := by rw [Ar.lenP_eq hA, E.vls_eq hE, List.length_map]; rfl
  have hlm : A .lenP (E .vls m) = Int.ofNat m.length := by rw [Ar.lenP_eq hA, E.vls_eq hE, List.length_map]; rfl
  refine CallsV.ok (fn := Try.f58) (by kernel_rfl) (by kernel_rfl) rfl (by cbv) (by cbv) ?_
  refine Ok.run hmix hA false 2000 (by cbv) ?_
  refine Ok.cond (by cbv) ?_ ?_
  · intro h1
    rw [Ar.not_eq hA, Ar.eq_eq hA, hll, hlm] at h1
    have h1 : ¬ l.length = m.length := by simp at h1; omega
    rw [sameVs_len h1]
    refine Ok.run hmix hA false 2000 (by cbv) ?_
    exact Ok.fin (by cbv) (FS.out (by cbv) (PLe.refl _))
  intro h1
  rw [Ar.not_eq hA, Ar.eq_eq hA, hll, hlm] at h1
  have h1 : l.length = m.length := by simp at h1; omega
  refine Ok.run hmix hA false 2000 (by cbv) ?_
  refine Ok.loopAt [0, 1, 5] [] (fun mm s h => ∃ (k : Nat), mm = l.length - k ∧ k ≤ l.length ∧ sameVs (l.drop k) (m.drop k) = sameVs l m ∧
    s = mkS 28 [(0, .pv (.view (E .vls l))), (1, .pv (.view (E .vls m))), (5, .pv (.int .i64 (Int.ofNat k)))] ∧ h = []) (l.length - 0) (by cbv) ⟨0, rfl, Nat.zero_le _, rfl, by cbv, by cbv⟩ ?_
  rintro mm s h ⟨k, rfl, hk, hs, rfl, rfl⟩
  refine Ok.run hmix hA false 2000 (by cbv) ?_
  refine Ok.cond (by cbv) ?_ ?_
  · intro h2
    rw [Ar.lt_eq hA, hll, decide_eq_true_eq] at h2
    have hkl : k < l.length := by simpa using h2
    have hkm2 : k < m.length := by omega
    have hx : l[k]? = some l[k] := List.getElem?_eq_getElem hkl
    have hm : l[k] ∈ l := List.getElem_mem hkl
    have hdl : l.drop k = l[k] :: l.drop (k + 1) := List.drop_eq_getElem_cons hkl
    have hy : m[k]? = some m[k] := List.getElem?_eq_getElem hkm2
    have hmm : m[k] ∈ m := List.getElem_mem hkm2
    have hdm : m.drop k = m[k] :: m.drop (k + 1) := List.drop_eq_getElem_cons hkm2
    generalize l[k] = x at hx hm hdl
    generalize m[k] = y at hy hmm hdm
    have h3 := szVs_mem hm
    have h4 := szVs_mem hmm
    have cO := law2_Of hE _ x (Nat.le_refl _) (by omega)
    have cS := ref6_Same hE x y (by omega) (by omega)
    rw [hdl, hdm, sameVs] at hs
    obtain ⟨b, hb⟩ : ∃ b, b = decide (cmpV x y = 0) := ⟨_, rfl⟩
    rw [← hb] at cS hs
    refine Ok.run hmix hA false 2000 (by cbv) ?_
    refine Ok.dop (idx_view (E.vl x) (by cbv) (by cbv) (by simp) (by rw [E.vls_eq hE]; simp [hx]) rfl) ?_
    refine Ok.run hmix hA false 2000 (by cbv) ?_
    refine Ok.dcall (cO) (by cbv) (by cbv) (by cbv) ?_
    refine Ok.run hmix hA false 2000 (by cbv) ?_
    refine Ok.dop (idx_view (E.vl y) (by cbv) (by cbv) (by simp) (by rw [E.vls_eq hE]; simp [hy]) rfl) ?_
    refine Ok.run hmix hA false 2000 (by cbv) ?_
    refine Ok.dcall (cS) (by cbv) (by cbv) (by cbv) ?_
    refine Ok.run hmix hA false 2000 (by cbv) ?_
    refine Ok.drawn (by kernel_rfl) ?_
    refine Ok.run hmix hA false 2000 (by cbv) ?_
    refine Ok.cond (by cbv) ?_ ?_
    · intro h5
      rw [Ar.not_eq hA] at h5
      have h5 : b = false := by simpa using h5
      rw [← hs, h5]
      refine Ok.run hmix hA false 2000 (by cbv) ?_
      refine Ok.leaveRet ?_
      refine Ok.run hmix hA false 2000 (by cbv) ?_
      exact Ok.fin (by cbv) (FS.out (by cbv) (PLe.refl _))
    · intro h5
      rw [Ar.not_eq hA] at h5
      have h5 : b = true := by simpa using h5
      rw [h5, Bool.true_and] at hs
      refine Ok.run hmix hA false 2000 (by cbv) ?_
      refine Ok.back (l.length - (k + 1)) [0, 1, 5] [] (by omega) (by cbv) ⟨k + 1, rfl, by omega, hs, ?_, by cbv⟩
      rw [Ar.succ_eq hA (by omega)]; cbv
  · intro h2
    rw [Ar.lt_eq hA, hll, decide_eq_false_iff_not] at h2
    have hke : k = l.length := by simp at h2; omega
    rw [← hs, hke, List.drop_length, h1, List.drop_length]
    refine Ok.run hmix hA false 2000 (by cbv) ?_
    refine Ok.leave ?_
    refine Ok.run hmix hA false 2000 (by cbv) ?_
    exact Ok.fin (by cbv) (FS.out (by cbv) (PLe.refl _))
def szI (p : List In) : Nat := (p.map fun x => szV x.v).sum
theorem szI_mem {p : List In} {x : In} (hx : x ∈ p) : szV x.v ≤ szI p := by
  induction p with
  | nil => simp at hx
  | cons y p ih =>
    unfold szI at ih ⊢
    rcases List.mem_cons.1 hx with rfl | hx
    · simp
    · have := ih hx; simp at this ⊢; omega
theorem law11_Same {E : Enc} (hE : E = .std) (p : List In) (hl : p.length ≤ 2 ^ 30) (hsz : ∀ x, x ∈ p → szV x.v ≤ 2 ^ 27) : CallsV Try.prog 19 [.view (E .ins p), .view (E .ins p)] (.pv (.bool true)) [] := by
  obtain ⟨A, hA⟩ : ∃ A : Ar, A = .std := ⟨_, rfl⟩
  have hll : A .lenP (E .ins p) = Int.ofNat p.length := by rw [Ar.lenP_eq hA, E.ins_eq hE, List.length_map]; rfl
  have e1 : A .not (A .eq (A .lenP (E .ins p)) (A .lenP (E .ins p))) = false := by rw [Ar.not_eq hA, Ar.eq_eq hA]; simp
  refine CallsV.ok (fn := Try.f19) (by kernel_rfl) (by kernel_rfl) rfl (by cbv) (by cbv) ?_
  refine Ok.run hmix hA false 2000 (by cbv) ?_
  rw [e1]
  refine Ok.condF (by cbv) ?_
  refine Ok.run hmix hA false 2000 (by cbv) ?_
  refine Ok.loopAt [0, 1, 5] [] (fun mm s h => ∃ (k : Nat), mm = p.length - k ∧ k ≤ p.length ∧
    s = mkS 57 [(0, .pv (.view (E .ins p))), (1, .pv (.view (E .ins p))), (5, .pv (.int .i64 (Int.ofNat k)))] ∧ h = []) (p.length - 0) (by cbv) ⟨0, rfl, Nat.zero_le _, by cbv, by cbv⟩ ?_
  rintro mm s h ⟨k, rfl, hk, rfl, rfl⟩
  refine Ok.run hmix hA false 2000 (by cbv) ?_
  refine Ok.cond (by cbv) ?_ ?_
  · intro h2
    rw [Ar.lt_eq hA, hll, decide_eq_true_eq] at h2
    have hkl : k < p.length := by simpa using h2
    have hx : p[k]? = some p[k] := List.getElem?_eq_getElem hkl
    have hm : p[k] ∈ p := List.getElem_mem hkl
    generalize p[k] = x at hx hm
    have hxs := hsz x hm
    obtain ⟨op, ⟨vk, vi, vb, vs, vt⟩, nn⟩ := x
    simp only [] at hxs
    have cS := law2_SameAll hE [⟨vk, vi, vb, vs, vt⟩] [⟨vk, vi, vb, vs, vt⟩] (by simp only [szVs]; omega) (by simp only [szVs]; omega)
    rw [sameVs_refl, E.vls_eq hE, List.map_cons, List.map_nil] at cS
    have e2 : A .not (A .seq op op) = false := by rw [Ar.not_eq hA, Ar.seq_eq hA]; simp
    have e3 : A .not (A .eq nn nn) = false := by rw [Ar.not_eq hA, Ar.eq_eq hA]; simp
    have e4 : A .not true = false := by rw [Ar.not_eq hA]; rfl
    have hidx : ∀ (s : Slots) (h : HL) (d : Option Nat) (af : List Nat) (x i : Opd), ev s x = .pv (.view (E .ins p)) → ev s i = .pv (.int .i64 (Int.ofNat k)) → stepO ⟨d, none, af, .idx 7 x i⟩ s (hget h) = some { v := .pv (.vptr (E.inn ⟨op, ⟨vk, vi, vb, vs, vt⟩, nn⟩).cells) } :=
      fun s h d af x i h1 h2 => idx_view (E.inn ⟨op, ⟨vk, vi, vb, vs, vt⟩, nn⟩) h1 h2 (by simp) (by rw [E.ins_eq hE]; simp [hx]) rfl
    have hidg : ∀ (s : Slots) (h : HL) (d : Option Nat) (g : Option (Nat × Bool)) (af : List Nat) (x i : Opd), gd s g = .yes → ev s x = .pv (.view (E .ins p)) → ev s i = .pv (.int .i64 (Int.ofNat k)) → stepO ⟨d, g, af, .idx 7 x i⟩ s (hget h) = some { v := .pv (.vptr (E.inn ⟨op, ⟨vk, vi, vb, vs, vt⟩, nn⟩).cells) } := by
      intro s h d g af x i hg h1 h2
      have := hidx s h d af x i h1 h2
      unfold stepO at this ⊢
      simp only [gd] at this
      simp only [hg]
      exact this
    refine Ok.run hmix hA false 2000 (by cbv) ?_
    refine Ok.dop (hidx _ _ _ _ _ _ (by cbv) (by cbv)) ?_
    refine Ok.run hmix hA false 2000 (by cbv) ?_
    refine Ok.dop (hidx _ _ _ _ _ _ (by cbv) (by cbv)) ?_
    refine Ok.run hmix hA false 2000 (by cbv) ?_
    rw [e2]
    refine Ok.run hmix hA true 2000 (by cbv) ?_
    refine Ok.dop (hidg _ _ _ _ _ _ _ (by cbv) (by cbv) (by cbv)) ?_
    refine Ok.run hmix hA true 2000 (by cbv) ?_
    refine Ok.dop (hidg _ _ _ _ _ _ _ (by cbv) (by cbv) (by cbv)) ?_
    refine Ok.run hmix hA true 3 (by cbv) ?_
    rw [e3]
    refine Ok.run hmix hA true 2000 (by cbv) ?_
    refine Ok.dop (hidg _ _ _ _ _ _ _ (by cbv) (by cbv) (by cbv)) ?_
    refine Ok.run hmix hA true 2000 (by cbv) ?_
    refine Ok.dop (hidg _ _ _ _ _ _ _ (by cbv) (by cbv) (by cbv)) ?_
    refine Ok.run hmix hA true 2000 (by cbv) ?_
    refine Ok.dcall (cS) (by cbv) (by cbv) (by cbv) ?_
    refine Ok.run hmix hA true 1 (by cbv) ?_
    rw [e4]
    refine Ok.run hmix hA true 2000 (by cbv) ?_
    refine Ok.drawn (by kernel_rfl) ?_
    refine Ok.run hmix hA false 2000 (by cbv) ?_
    refine Ok.condF (by cbv) ?_
    refine Ok.run hmix hA false 2000 (by cbv) ?_
    refine Ok.back (p.length - (k + 1)) [0, 1, 5] [] (by omega) (by cbv) ⟨k + 1, rfl, by omega, ?_, by cbv⟩
    rw [Ar.succ_eq hA (by omega)]; cbv
  · intro h2
    refine Ok.run hmix hA false 2000 (by cbv) ?_
    refine Ok.leave ?_
    refine Ok.run hmix hA false 2000 (by cbv) ?_
    exact Ok.fin (by cbv) (FS.out (by cbv) (PLe.refl _))
end Go.Proofs.Ytnojmocoifodjaa.Pv
set_option maxRecDepth 100000
set_option linter.unusedVariables false
set_option linter.unusedSimpArgs false
namespace Go.Proofs.Ytnojmocoifodjaa.Pv
open Go Go.Proofs
theorem ref14_one {E : Enc} (hE : E = .std) (op : List UInt8) (n : Int) : CallsV Try.prog 63 [.str op, .int .i64 n] (.pv (E.inn ⟨op, .zero, n⟩)) [] := by
  obtain ⟨A, hA⟩ : ∃ A : Ar, A = .std := ⟨_, rfl⟩
  have h0 : E .vls [] = [] := by rw [E.vls_eq hE]; rfl
  refine CallsV.ok (fn := Try.f63) (by kernel_rfl) (by kernel_rfl) rfl (by cbv) (by cbv) ?_
  refine Ok.run hmix hA false 2000 (by cbv) ?_
  refine Ok.fin (by cbv) (FS.out (by cbv) (PLe.of ?_))
  simp [Enc.inn, Vl.zero, h0]
theorem ref6_Yes {E : Enc} (hE : E = .std) (b : Bool) : CallsV Try.prog 101 [.bool b] (.pv (E.vl (vBool b))) [] := by
  obtain ⟨A, hA⟩ : ∃ A : Ar, A = .std := ⟨_, rfl⟩
  have h0 : E .vls [] = [] := by rw [E.vls_eq hE]; rfl
  refine CallsV.ok (fn := Try.f101) (by kernel_rfl) (by kernel_rfl) rfl (by cbv) (by cbv) ?_
  refine Ok.run hmix hA false 2000 (by cbv) ?_
  refine Ok.fin (by cbv) (FS.out (by cbv) (PLe.of ?_))
  simp [Enc.vl, vBool, h0]
theorem ref14_yes {E : Enc} (hE : E = .std) (b : Bool) : CallsV Try.prog 68 [.bool b] (.pv (E.inn ⟨bPush, vBool b, 0⟩)) [] := by
  obtain ⟨A, hA⟩ : ∃ A : Ar, A = .std := ⟨_, rfl⟩
  refine CallsV.ok (fn := Try.f68) (by kernel_rfl) (by kernel_rfl) rfl (by cbv) (by cbv) ?_
  refine Ok.run hmix hA false 2000 (by cbv) ?_
  refine Ok.call (ref6_Yes hE b) (by cbv) (by cbv) (by cbv) ?_
  refine Ok.run hmix hA false 2000 (by cbv) ?_
  exact Ok.fin (by cbv) (FS.out (by cbv) (PLe.of rfl))
theorem ref14_moved {E : Enc} (hE : E = .std) (p : List In) (n : Nat) (hpl : p.length ≤ 2 ^ 30) : CallsV Try.prog 100 [.view (E .ins p), .int .i64 (Int.ofNat n)] (.pv (.view (E .ins (p.map (In.shift n))))) [] := by
  obtain ⟨A, hA⟩ : ∃ A : Ar, A = .std := ⟨_, rfl⟩
  have hll : A .lenP (E .ins p) = Int.ofNat p.length := by rw [Ar.lenP_eq hA, E.ins_eq hE, List.length_map]; rfl
  refine CallsV.ok (fn := Try.f100) (by kernel_rfl) (by kernel_rfl) rfl (by cbv) (by cbv) ?_
  refine Ok.run hmix hA false 2000 (by cbv) ?_
  refine Ok.le (Le.nil 5 34 106 7 (by cbv) (by cbv) (by decide)) ?_
  refine Ok.loopAt [0, 1, 5, 6] [34] (fun m s h => ∃ (j : Nat) (out2 : List In) (n2 : Nat) (es2 : List PV), m = p.length - j ∧ j ≤ p.length ∧ out2 = (p.take j).map (In.shift n) ∧ n2 = out2.length ∧ es2 = E .ins out2 ∧
      s = mkS 36 [(0, .pv (.view (E .ins p))), (1, .pv (.int .i64 (Int.ofNat n))), (5, .ref 34 n2), (6, .pv (.int .i64 (Int.ofNat j)))] ∧ h = [(34, .row 106 7 es2 true)]) (p.length - 0) (by cbv) ⟨0, [], 0, [], rfl, Nat.zero_le _, by simp, rfl, by rw [E.ins_eq hE]; rfl, by cbv, by cbv⟩ ?_
  rintro m s h ⟨j, out2, n2, es2, rfl, hj, hout2, hn2, hes2, rfl, rfl⟩
  refine Ok.run hmix hA false 2000 (by cbv) ?_
  refine Ok.cond (by cbv) ?_ ?_
  · intro h2
    rw [Ar.lt_eq hA, hll, decide_eq_true_eq] at h2
    have hjl : j < p.length := by simpa using h2
    have hy : p[j]? = some p[j] := List.getElem?_eq_getElem hjl
    have htake : p.take (j + 1) = p.take j ++ [p[j]] := by rw [List.take_add_one, hy]; rfl
    generalize hq : p[j] = x at hy htake
    have hlen2 : n2 + 1 ≤ 2 ^ 30 := by
      rw [hn2, hout2, List.length_map, List.length_take]; omega
    have hn2j : n2 = j := by rw [hn2, hout2, List.length_map, List.length_take]; omega
    refine Ok.run hmix hA false 2000 (by cbv) ?_
    refine Ok.op (idx_view (E.inn x) (by cbv) (by cbv) (by simp) (by rw [E.ins_eq hE]; simp [hy]) rfl) ?_
    refine Ok.run hmix hA false 2000 (by cbv) ?_
    obtain ⟨op, ⟨vk, vi, vb, vs, vt⟩, nn⟩ := x
    by_cases hj1 : op = bJmp
    · have e1 : A .seq op [106, 109, 112] = true := by rw [Ar.seq_eq hA, hj1]; rfl
      have hsh : In.shift n ⟨op, ⟨vk, vi, vb, vs, vt⟩, nn⟩ = ⟨op, ⟨vk, vi, vb, vs, vt⟩, IntKind.wrap .i64 (nn + n)⟩ := by simp [In.shift, hj1]
      rw [e1]
      refine Ok.run hmix hA true 2000 (by cbv) ?_
      refine Ok.cond (by cbv) ?_ ?_
      · intro _
        refine Ok.run hmix hA true 2000 (by cbv) ?_
        obtain ⟨es3, hes3⟩ : ∃ es3, es3 = es2 ++ [E.inn (In.shift n ⟨op, ⟨vk, vi, vb, vs, vt⟩, nn⟩)] := ⟨_, rfl⟩
        obtain ⟨n3, hn3⟩ : ∃ n3, n3 = n2 + 1 := ⟨_, rfl⟩
        refine Ok.op (app_ref (by cbv) (by cbv) (by rw [hn2, hes2, E.ins_eq hE, List.length_map]) (by cbv) (by cbv) (by decide) (by simp only [List.length_singleton]; omega) (by unfold maxLen; simp only [List.length_singleton]; omega) n3 (by exact hn3) es3 (by rw [hes3, hsh]; first | rfl | (rw [Ar.add_eq hA]; rfl))) ?_
        refine Ok.run hmix hA true 2000 (by cbv) ?_
        refine Ok.back (p.length - (j + 1)) [0, 1, 5, 6] [34] (by omega) (by cbv) ⟨j + 1, (p.take (j + 1)).map (In.shift n), n3, es3, rfl, by omega, rfl, ?_, ?_, ?_, by cbv⟩
        · rw [hn3, hn2, hout2, htake]; simp
        · rw [hes3, hes2, E.ins_eq hE, E.ins_eq hE, hout2, htake]; simp
        · rw [Ar.succ_eq hA (by omega)]; cbv
      · intro hh; cases hh
    · have e1 : A .seq op [106, 109, 112] = false := by rw [Ar.seq_eq hA]; exact decide_eq_false hj1
      rw [e1]
      refine Ok.run hmix hA true 6 (by cbv) ?_
      by_cases hj2 : op = bJf
      · have e2 : A .seq op [106, 102] = true := by rw [Ar.seq_eq hA, hj2]; rfl
        have hsh : In.shift n ⟨op, ⟨vk, vi, vb, vs, vt⟩, nn⟩ = ⟨op, ⟨vk, vi, vb, vs, vt⟩, IntKind.wrap .i64 (nn + n)⟩ := by simp [In.shift, hj2]
        rw [e2]
        refine Ok.run hmix hA true 2000 (by cbv) ?_
        refine Ok.cond (by cbv) ?_ ?_
        · intro _
          refine Ok.run hmix hA true 2000 (by cbv) ?_
          obtain ⟨es3, hes3⟩ : ∃ es3, es3 = es2 ++ [E.inn (In.shift n ⟨op, ⟨vk, vi, vb, vs, vt⟩, nn⟩)] := ⟨_, rfl⟩
          obtain ⟨n3, hn3⟩ : ∃ n3, n3 = n2 + 1 := ⟨_, rfl⟩
          refine Ok.op (app_ref (by cbv) (by cbv) (by rw [hn2, hes2, E.ins_eq hE, List.length_map]) (by cbv) (by cbv) (by decide) (by simp only [List.length_singleton]; omega) (by unfold maxLen; simp only [List.length_singleton]; omega) n3 (by exact hn3) es3 (by rw [hes3, hsh]; first | rfl | (rw [Ar.add_eq hA]; rfl))) ?_
          refine Ok.run hmix hA true 2000 (by cbv) ?_
          refine Ok.back (p.length - (j + 1)) [0, 1, 5, 6] [34] (by omega) (by cbv) ⟨j + 1, (p.take (j + 1)).map (In.shift n), n3, es3, rfl, by omega, rfl, ?_, ?_, ?_, by cbv⟩
          · rw [hn3, hn2, hout2, htake]; simp
          · rw [hes3, hes2, E.ins_eq hE, E.ins_eq hE, hout2, htake]; simp
          · rw [Ar.succ_eq hA (by omega)]; cbv
        · intro hh; cases hh
      · have e2 : A .seq op [106, 102] = false := by rw [Ar.seq_eq hA]; exact decide_eq_false hj2
        have hsh : In.shift n ⟨op, ⟨vk, vi, vb, vs, vt⟩, nn⟩ = ⟨op, ⟨vk, vi, vb, vs, vt⟩, nn⟩ := by simp [In.shift, hj1, hj2]
        rw [e2]
        refine Ok.run hmix hA true 2000 (by cbv) ?_
        refine Ok.cond (by cbv) ?_ ?_
        · intro hh; cases hh
        · intro _
          refine Ok.run hmix hA true 2000 (by cbv) ?_
          obtain ⟨es3, hes3⟩ : ∃ es3, es3 = es2 ++ [E.inn (In.shift n ⟨op, ⟨vk, vi, vb, vs, vt⟩, nn⟩)] := ⟨_, rfl⟩
          obtain ⟨n3, hn3⟩ : ∃ n3, n3 = n2 + 1 := ⟨_, rfl⟩
          refine Ok.op (app_ref (by cbv) (by cbv) (by rw [hn2, hes2, E.ins_eq hE, List.length_map]) (by cbv) (by cbv) (by decide) (by simp only [List.length_singleton]; omega) (by unfold maxLen; simp only [List.length_singleton]; omega) n3 (by exact hn3) es3 (by rw [hes3, hsh]; first | rfl | (rw [Ar.add_eq hA]; rfl))) ?_
          refine Ok.run hmix hA true 2000 (by cbv) ?_
          refine Ok.back (p.length - (j + 1)) [0, 1, 5, 6] [34] (by omega) (by cbv) ⟨j + 1, (p.take (j + 1)).map (In.shift n), n3, es3, rfl, by omega, rfl, ?_, ?_, ?_, by cbv⟩
          · rw [hn3, hn2, hout2, htake]; simp
          · rw [hes3, hes2, E.ins_eq hE, E.ins_eq hE, hout2, htake]; simp
          · rw [Ar.succ_eq hA (by omega)]; cbv
  · intro h2
    have hje : j = p.length := by
      rw [Ar.lt_eq hA, hll, decide_eq_false_iff_not] at h2
      simp at h2; omega
    rw [hje, List.take_length] at hout2
    rw [← hout2]
    refine Ok.run hmix hA false 2000 (by cbv) ?_
    refine Ok.leave ?_
    refine Ok.run hmix hA false 2000 (by cbv) ?_
    subst hes2
    exact Ok.fin (by cbv) (FS.ref (by cbv) (by rw [E.ins_eq hE, List.length_map, hn2]))
def joinR (p q : List In) : List In := p ++ q.map (In.shift p.length)
/-- A list of instructions that is appended. -/
theorem app_ins {E : Enc} (hE : E = .std) {d : Option Nat} {af : List Nat} {e : TypeId} {bytes : Nat} {x y : Opd} {s : Slots} {h : HL} {b n : Nat} {m : Bool} (p q : List In) (h1 : ev s x = .ref b n) (h2 : hget h b = some (.row e 7 (E .ins p) m)) (hn : n = p.length) (h3 : ev s y = .pv (.view (E .ins q)))
    (hb : bytes ≤ 128) (hl : p.length + q.length ≤ 2 ^ 30) (r : List In) (hr : r = p ++ q) (n' : Nat) (hn' : n' = r.length) :
    stepO ⟨d, none, af, .app e 7 bytes x y⟩ s (hget h) = some { v := .ref b n', rd := [b], up := [.frz [], .row b (E .ins r)] } := by
  have hq : (E .ins q).length = q.length := by rw [E.ins_eq hE, List.length_map]
  refine app_ref h1 h2 (by rw [hn, E.ins_eq hE, List.length_map]) (ys := E .ins q) (rs := []) (by rw [h3]; rfl) (E.ins_okc hE q) (by simp) ?_ (by unfold maxLen; omega) n' (by rw [hn', hr, hq, hn, List.length_append]) (E .ins r) (by rw [hr, E.ins_eq hE, E.ins_eq hE, E.ins_eq hE, List.map_append])
  rw [hq, hn]
  have : (p.length + q.length) * bytes ≤ 2 ^ 30 * 128 := Nat.mul_le_mul hl hb
  omega
theorem ref14_join {E : Enc} (hE : E = .std) (p q : List In) (hl : p.length + q.length ≤ 2 ^ 30) : CallsV Try.prog 64 [.view (E .ins p), .view (E .ins q)] (.ref 0 (joinR p q).length) [.row 106 7 (E .ins (joinR p q)) true] := by
  obtain ⟨A, hA⟩ : ∃ A : Ar, A = .std := ⟨_, rfl⟩
  obtain ⟨lp, hlp⟩ : ∃ lp, lp = p.length := ⟨_, rfl⟩
  have hll : A .lenP (E .ins p) = Int.ofNat lp := by rw [Ar.lenP_eq hA, E.ins_eq hE, List.length_map, hlp]; rfl
  have cm := ref14_moved hE q lp (by omega)
  obtain ⟨q', hq'⟩ : ∃ q', q' = q.map (In.shift lp) := ⟨_, rfl⟩
  have hql : q'.length = q.length := by rw [hq', List.length_map]
  rw [← hq'] at cm
  obtain ⟨r, hr⟩ : ∃ r, r = p ++ q' := ⟨_, rfl⟩
  obtain ⟨n', hn'⟩ : ∃ n', n' = r.length := ⟨_, rfl⟩
  have hj : joinR p q = r := by rw [joinR, hr, hq', hlp]
  rw [hj, ← hn']
  have h0 : ([] : List PV) = E .ins [] := by rw [E.ins_eq hE]; rfl
  refine CallsV.ok (fn := Try.f64) (by kernel_rfl) (by kernel_rfl) rfl (by cbv) (by cbv) ?_
  refine Ok.run hmix hA false 2000 (by cbv) ?_
  refine Ok.op (app_ins hE [] p (by cbv) (by rw [← h0]; cbv) rfl (by cbv) (by decide) (by simp; omega) p (by simp) lp (by exact hlp)) ?_
  refine Ok.run hmix hA false 2000 (by cbv) ?_
  rw [hll]
  refine Ok.call (cm) (by cbv) (by cbv) (by cbv) ?_
  refine Ok.run hmix hA false 2000 (by cbv) ?_
  refine Ok.op (app_ins hE p q' (by cbv) (by cbv) hlp (by cbv) (by decide) (by omega) r hr n' hn') ?_
  refine Ok.run hmix hA false 2000 (by cbv) ?_
  exact Ok.fin (by cbv) (FS.row (by cbv))
end Go.Proofs.Ytnojmocoifodjaa.Pv
set_option maxRecDepth 100000
set_option linter.unusedVariables false
set_option linter.unusedSimpArgs false
namespace Go.Proofs.Ytnojmocoifodjaa.Pv
open Go Go.Proofs
theorem frz2_ref {h : Heap} {b n : Nat} {e : TypeId} {sz : Nat} {es : List PV} {m : Bool} (hb : h b = some (.row e sz es m)) (hn : n = es.length) : frz2 h (.ref b n) = some (.view es, [b]) := by
  simp [frz2, frz1, frz0, rowOf, hb, hn]
theorem frzL_nil {h : Heap} : frzL (frz2 h) [] = some ([], []) := rfl
theorem frzL_cons {h : Heap} {x : AV} {l : List AV} {p : PV} {r : List Nat} {ps : List PV} {rs : List Nat} (h1 : frz2 h x = some (p, r)) (h2 : frzL (frz2 h) l = some (ps, rs)) : frzL (frz2 h) (x :: l) = some (p :: ps, r ++ rs) := by
  simp [frzL, h1, h2]
theorem callArgs_of {s : Slots} {h : Heap} {f : Opd} {xs : List Opd} {g : Nat} {r1 : List Nat} {ps : List PV} {r2 : List Nat} (h1 : frz2 h (ev s f) = some (.func g [], r1)) (h2 : frzL (frz2 h) (xs.map (ev s)) = some (ps, r2)) : callArgs s h f xs = some (g, ps, r1 ++ r2) := by
  simp [callArgs, h1, h2]
def chooseR (a b c : List In) : List In :=
  joinR (joinR (a ++ [⟨bJf, .zero, ((a.length + 1 + b.length + 1 : Nat) : Int)⟩]) b ++ [⟨bJmp, .zero, ((a.length + 1 + b.length + 1 + c.length : Nat) : Int)⟩]) c
theorem joinR_len (p q : List In) : (joinR p q).length = p.length + q.length := by simp [joinR]
theorem ref14_choose {E : Enc} (hE : E = .std) (a b c : List In) (hl : a.length + b.length + c.length ≤ 2 ^ 29) : CallsV Try.prog 67 [.view (E .ins a), .view (E .ins b), .view (E .ins c)] (.pv (.view (E .ins (chooseR a b c)))) [] := by
  obtain ⟨A, hA⟩ : ∃ A : Ar, A = .std := ⟨_, rfl⟩
  obtain ⟨la, hla⟩ : ∃ la, la = a.length := ⟨_, rfl⟩
  obtain ⟨f, hf⟩ : ∃ f, f = la + 1 + b.length + 1 := ⟨_, rfl⟩
  obtain ⟨f2, hf2⟩ : ∃ f2, f2 = f + c.length := ⟨_, rfl⟩
  have ela : A .lenP (E .ins a) = Int.ofNat la := by rw [Ar.lenP_eq hA, E.ins_eq hE, hla]; simp
  have elb : A .add .i64 (A .add .i64 (A .add .i64 (Int.ofNat la) 1) (A .lenP (E .ins b))) 1 = Int.ofNat f := by
    rw [Ar.succ_eq hA (by omega), Ar.lenP_eq hA, E.ins_eq hE, List.length_map]
    have : A .add .i64 (Int.ofNat (la + 1)) ((b.length : Nat) : Int) = Int.ofNat (la + 1 + b.length) := ofNat_add hA (by omega)
    rw [this, Ar.succ_eq hA (by omega), hf]
  have elc : A .add .i64 (Int.ofNat f) (A .lenP (E .ins c)) = Int.ofNat f2 := by
    rw [Ar.lenP_eq hA, E.ins_eq hE, List.length_map]
    exact (ofNat_add hA (by omega)).trans (by rw [hf2])
  obtain ⟨p1, hp1⟩ : ∃ p, p = a ++ [(⟨bJf, .zero, Int.ofNat f⟩ : In)] := ⟨_, rfl⟩
  obtain ⟨n1, hn1⟩ : ∃ n, n = p1.length := ⟨_, rfl⟩
  have hl1 : p1.length = a.length + 1 := by rw [hp1]; simp
  have cj1 := ref14_join hE p1 b (by omega)
  obtain ⟨p2, hp2⟩ : ∃ p, p = joinR p1 b := ⟨_, rfl⟩
  have hl2 : p2.length = a.length + 1 + b.length := by rw [hp2, joinR_len, hl1]
  obtain ⟨n2, hn2⟩ : ∃ n, n = p2.length := ⟨_, rfl⟩
  rw [← hp2, ← hn2] at cj1
  obtain ⟨p3, hp3⟩ : ∃ p, p = p2 ++ [(⟨bJmp, .zero, Int.ofNat f2⟩ : In)] := ⟨_, rfl⟩
  obtain ⟨n3, hn3⟩ : ∃ n, n = p3.length := ⟨_, rfl⟩
  have hl3 : p3.length = a.length + 1 + b.length + 1 := by rw [hp3]; simp [hl2]
  have cj2 := ref14_join hE p3 c (by omega)
  obtain ⟨p4, hp4⟩ : ∃ p, p = joinR p3 c := ⟨_, rfl⟩
  obtain ⟨n4, hn4⟩ : ∃ n, n = p4.length := ⟨_, rfl⟩
  rw [← hp4, ← hn4] at cj2
  have hres : chooseR a b c = p4 := by rw [hp4, hp3, hp2, hp1, hf2, hf, hla]; rfl
  rw [hres]
  have hlen : ∀ (p : List In), (E .ins p).length = p.length := fun p => by rw [E.ins_eq hE, List.length_map]
  have h0 : ([] : List PV) = E .ins [] := by rw [E.ins_eq hE]; rfl
  refine CallsV.ok (fn := Try.f67) (by kernel_rfl) (by kernel_rfl) rfl (by cbv) (by cbv) ?_
  refine Ok.run hmix hA false 2000 (by cbv) ?_
  rw [ela, elb]
  refine Ok.op (app_ins hE [] a (by cbv) (by rw [← h0]; cbv) rfl (by cbv) (by decide) (by simp; omega) a (by simp) la (by exact hla)) ?_
  refine Ok.run hmix hA false 2000 (by cbv) ?_
  refine Ok.call (ref14_one hE [106, 102] (Int.ofNat f)) (by cbv) (by cbv) (by cbv) ?_
  refine Ok.run hmix hA false 2000 (by cbv) ?_
  refine Ok.op (app_ref (by cbv) (by cbv) (by rw [hlen, hla]) (by cbv) (by cbv) (by decide) (by simp only [List.length_singleton]; omega) (by unfold maxLen; simp only [List.length_singleton]; omega) n1 (by simp only [List.length_singleton]; omega) (E .ins p1) (by rw [hp1, E.ins_eq hE, E.ins_eq hE, List.map_append]; rfl)) ?_
  refine Ok.run hmix hA false 2000 (by cbv) ?_
  refine Ok.call cj1 (by cbv) (callArgs_of (by cbv) (frzL_cons (frz2_ref (by cbv) (by rw [hlen, hn1])) (frzL_cons (by cbv) frzL_nil))) (by cbv) ?_
  refine Ok.run hmix hA false 2000 (by cbv) ?_
  rw [elc]
  refine Ok.call (ref14_one hE [106, 109, 112] (Int.ofNat f2)) (by cbv) (by cbv) (by cbv) ?_
  refine Ok.run hmix hA false 2000 (by cbv) ?_
  refine Ok.op (app_ref (by cbv) (by cbv) (by rw [hlen, hn2]) (by cbv) (by cbv) (by decide) (by simp only [List.length_singleton]; omega) (by unfold maxLen; simp only [List.length_singleton]; omega) n3 (by simp only [List.length_singleton]; omega) (E .ins p3) (by rw [hp3, E.ins_eq hE, E.ins_eq hE, List.map_append]; rfl)) ?_
  refine Ok.run hmix hA false 2000 (by cbv) ?_
  refine Ok.call cj2 (by cbv) (callArgs_of (by cbv) (frzL_cons (frz2_ref (by cbv) (by rw [hlen, hn3])) (frzL_cons (by cbv) frzL_nil))) (by cbv) ?_
  refine Ok.run hmix hA false 2000 (by cbv) ?_
  exact Ok.fin (by cbv) (FS.ref (by cbv) (by rw [hlen, hn4]))
end Go.Proofs.Ytnojmocoifodjaa.Pv
set_option maxRecDepth 100000
set_option linter.unusedVariables false
set_option linter.unusedSimpArgs false
namespace Go.Proofs.Ytnojmocoifodjaa.Pv
open Go Go.Proofs
def foldR (out : List In) : List (List In) → List In
  | [] => out
  | p :: ps => foldR (joinR out p) ps
theorem foldR_len : ∀ (ps : List (List In)) (out : List In), (foldR out ps).length = out.length + (ps.map List.length).sum
  | [], out => by simp [foldR]
  | p :: ps, out => by rw [foldR, foldR_len ps, joinR_len]; simp; omega
mutual
def genR : Ex4 → List In
  | .mk op v n a =>
    if op = bLit then [⟨bPush, v, 0⟩]
    else if op = bX then [⟨bX, .zero, 0⟩]
    else if op = bAnd then chooseR ((genRs a).getD 0 []) ((genRs a).getD 1 []) [⟨bPush, vBool false, 0⟩]
    else if op = bOr then chooseR ((genRs a).getD 0 []) [⟨bPush, vBool true, 0⟩] ((genRs a).getD 1 [])
    else if op = bIf then chooseR ((genRs a).getD 0 []) ((genRs a).getD 1 []) ((genRs a).getD 2 [])
    else if op = bAt then foldR [] (genRs a) ++ [⟨bAt, .zero, n⟩]
    else if op = bTup then foldR [] (genRs a) ++ [⟨bTup, .zero, a.length⟩]
    else foldR [] (genRs a) ++ [⟨op, .zero, 0⟩]
def genRs : List Ex4 → List (List In)
  | [] => []
  | e :: l => genR e :: genRs l
end
theorem genRs_eq : ∀ l, genRs l = l.map genR
  | [] => rfl
  | e :: l => by rw [genRs, genRs_eq l, List.map_cons]
theorem chooseR_len (a b c : List In) : (chooseR a b c).length = a.length + b.length + c.length + 2 := by
  unfold chooseR
  rw [joinR_len, List.length_append, joinR_len, List.length_append]
  simp; omega
theorem sumRs : ∀ {l : List Ex4}, (∀ e, e ∈ l → (genR e).length ≤ sizE e) → ((genRs l).map List.length).sum ≤ sizEs l
  | [], _ => by simp [genRs, sizEs]
  | e :: l, h => by
    have h1 := h e (by simp)
    have h2 := sumRs (l := l) (fun x hx => h x (by simp [hx]))
    simp [genRs, sizEs] at h2 ⊢; omega
theorem getD_le (m : List (List In)) (i : Nat) : (m.getD i []).length ≤ (m.map List.length).sum := by
  induction m generalizing i with
  | nil => simp
  | cons p m ih =>
    cases i with
    | zero => simp
    | succ i => have := ih i; simp at this ⊢; omega
theorem genR_le : ∀ (n : Nat) (e : Ex4), SizeOf.sizeOf e ≤ n → (genR e).length ≤ sizE e
  | 0, .mk op v k a, h => by simp at h
  | n + 1, .mk op v k a, h => by
    have hs := sumRs (l := a) (fun e he => genR_le n e (by have := List.sizeOf_lt_of_mem he; simp at h; omega))
    have h0 := getD_le (genRs a) 0
    have h01 := getAll2 (m := genRs a) (i := 0) (j := 1) (by omega)
    have h3 := getAll3 (m := genRs a)
    rw [genR, sizE]
    repeat' split
    all_goals (try (simp only [chooseR_len, foldR_len, List.length_append, List.map_cons, List.map_nil, List.sum_cons, List.sum_nil, List.length_cons, List.length_nil]))
    all_goals omega
theorem ref14_GenExpr {E : Enc} (hE : E = .std) : ∀ (n : Nat) (e : Ex4), SizeOf.sizeOf e ≤ n → wfE e → sizE e ≤ 2 ^ 27 → CallsV Try.prog 26 [E.ex e] (.pv (.view (E .ins (genR e)))) [] := by
  intro n
  induction n with
  | zero => intro e h; cases e; simp at h
  | succ n ih =>
    rintro ⟨op, ⟨vk, vi, vb, vs, vt⟩, k, a⟩ hn0 hwf hsz
    obtain ⟨A, hA⟩ : ∃ A : Ar, A = .std := ⟨_, rfl⟩
    obtain ⟨har, hwa⟩ := hwf
    rw [sizE] at hsz
    have hat : ∀ i, i < a.length → ∃ e, a[i]? = some e ∧ (genRs a).getD i [] = genR e ∧ CallsV Try.prog 26 [E.ex e] (.pv (.view (E .ins (genR e)))) [] := fun i hi => by
      have he := List.getElem_mem hi
      have h1 := List.sizeOf_lt_of_mem he
      have h2 := sizEs_mem he
      simp only [Ex4.mk.sizeOf_spec] at hn0
      exact ⟨a[i], List.getElem?_eq_getElem hi, by rw [genRs_eq]; simp [List.getD, hi], ih _ (by omega) (wfEs_mem hwa he) (by omega)⟩
    have hsum : ((genRs a).map List.length).sum ≤ sizEs a := sumRs (fun e he => genR_le _ e (Nat.le_refl _))
    have hal := sizEs_len a
    have hg0 := getD_le (genRs a) 0
    have hg1 := getD_le (genRs a) 1
    have hg2 := getD_le (genRs a) 2
    have hla : A .lenP (E .exs a) = Int.ofNat a.length := by rw [Ar.lenP_eq hA, E.exs_eq hE, List.length_map]; rfl
    have hnil : E .ins [] = [] := by rw [E.ins_eq hE]; rfl
    have hinl : ∀ (p : List In), (E .ins p).length = p.length := fun p => by rw [E.ins_eq hE, List.length_map]
    refine CallsV.ok (fn := Try.f26) (by kernel_rfl) (by kernel_rfl) rfl (by cbv) (by cbv) ?_
    refine Ok.run hmix hA false 2000 (by cbv) ?_
    refine Ok.cond (by cbv) ?_ ?_
    · intro h1
      have h1 : op = bLit := by rw [Ar.seq_eq hA, decide_eq_true_eq] at h1; exact h1
      rw [genR, if_pos h1]
      refine Ok.run hmix hA false 2000 (by cbv) ?_
      exact Ok.fin (by cbv) (FS.out (by cbv) (PLe.of (by rw [E.ins_eq hE]; rfl)))
    · intro h1
      have h1 : ¬ op = bLit := by rw [Ar.seq_eq hA, decide_eq_false_iff_not] at h1; exact h1
      refine Ok.run hmix hA false 2000 (by cbv) ?_
      refine Ok.cond (by cbv) ?_ ?_
      · intro h2
        have h2 : op = bX := by rw [Ar.seq_eq hA, decide_eq_true_eq] at h2; exact h2
        rw [genR, if_neg h1, if_pos h2]
        refine Ok.run hmix hA false 2000 (by cbv) ?_
        refine Ok.call (ref14_one hE [120] 0) (by cbv) (by cbv) (by cbv) ?_
        refine Ok.run hmix hA false 2000 (by cbv) ?_
        exact Ok.fin (by cbv) (FS.out (by cbv) (PLe.of (by rw [E.ins_eq hE]; rfl)))
      · intro h2
        have h2 : ¬ op = bX := by rw [Ar.seq_eq hA, decide_eq_false_iff_not] at h2; exact h2
        refine Ok.run hmix hA false 2000 (by cbv) ?_
        refine Ok.cond (by cbv) ?_ ?_
        · intro h3
          have h3 : op = bAnd := by rw [Ar.seq_eq hA, decide_eq_true_eq] at h3; exact h3
          rw [genR, if_neg h1, if_neg h2, if_pos h3]
          obtain ⟨e0, he0, hp0, c0⟩ := hat 0 (by simp [arity, h3, bAnd, bAt] at har; omega)
          obtain ⟨e1, he1, hp1, c1⟩ := hat 1 (by simp [arity, h3, bAnd, bAt] at har; omega)
          rw [hp0, hp1]
          rw [hp0] at hg0
          rw [hp1] at hg1
          generalize genR e0 = p0 at c0 hg0
          generalize genR e1 = p1 at c1 hg1
          have cc := ref14_choose hE p0 p1 [⟨bPush, vBool false, 0⟩] (by simp; omega)
          generalize chooseR p0 p1 [⟨bPush, vBool false, 0⟩] = q at cc
          have hy : PV.view [E.inn ⟨bPush, vBool false, 0⟩] = .view (E .ins [⟨bPush, vBool false, 0⟩]) := by rw [E.ins_eq hE]; rfl
          rw [← hy] at cc
          refine Ok.run hmix hA false 2000 (by cbv) ?_
          refine Ok.dop (idx_view (E.ex e0) (by cbv) (by cbv) (by simp) (by rw [E.exs_eq hE]; simp [he0]) rfl) ?_
          refine Ok.run hmix hA false 2000 (by cbv) ?_
          refine Ok.dcall (c0) (by cbv) (by cbv) (by cbv) ?_
          refine Ok.run hmix hA false 2000 (by cbv) ?_
          refine Ok.dop (idx_view (E.ex e1) (by cbv) (by cbv) (by simp) (by rw [E.exs_eq hE]; simp [he1]) rfl) ?_
          refine Ok.run hmix hA false 2000 (by cbv) ?_
          refine Ok.dcall (c1) (by cbv) (by cbv) (by cbv) ?_
          refine Ok.run hmix hA false 2000 (by cbv) ?_
          refine Ok.dcall (ref14_yes hE false) (by cbv) (by cbv) (by cbv) ?_
          refine Ok.run hmix hA false 2000 (by cbv) ?_
          refine Ok.dcall (cc) (by cbv) (by cbv) (by cbv) ?_
          refine Ok.run hmix hA false 2000 (by cbv) ?_
          refine Ok.drawn (by kernel_rfl) ?_
          refine Ok.run hmix hA false 2000 (by cbv) ?_
          exact Ok.fin (by cbv) (FS.out (by cbv) (PLe.refl _))
        · intro h3
          have h3 : ¬ op = bAnd := by rw [Ar.seq_eq hA, decide_eq_false_iff_not] at h3; exact h3
          refine Ok.run hmix hA false 2000 (by cbv) ?_
          refine Ok.cond (by cbv) ?_ ?_
          · intro h4
            have h4 : op = bOr := by rw [Ar.seq_eq hA, decide_eq_true_eq] at h4; exact h4
            rw [genR, if_neg h1, if_neg h2, if_neg h3, if_pos h4]
            obtain ⟨e0, he0, hp0, c0⟩ := hat 0 (by simp [arity, h4, bAnd, bAt, bOr] at har; omega)
            obtain ⟨e1, he1, hp1, c1⟩ := hat 1 (by simp [arity, h4, bAnd, bAt, bOr] at har; omega)
            rw [hp0, hp1]
            rw [hp0] at hg0
            rw [hp1] at hg1
            generalize genR e0 = p0 at c0 hg0
            generalize genR e1 = p1 at c1 hg1
            have cc := ref14_choose hE p0 [⟨bPush, vBool true, 0⟩] p1 (by simp; omega)
            generalize chooseR p0 [⟨bPush, vBool true, 0⟩] p1 = q at cc
            have hy : PV.view [E.inn ⟨bPush, vBool true, 0⟩] = .view (E .ins [⟨bPush, vBool true, 0⟩]) := by rw [E.ins_eq hE]; rfl
            rw [← hy] at cc
            refine Ok.run hmix hA false 2000 (by cbv) ?_
            refine Ok.dop (idx_view (E.ex e0) (by cbv) (by cbv) (by simp) (by rw [E.exs_eq hE]; simp [he0]) rfl) ?_
            refine Ok.run hmix hA false 2000 (by cbv) ?_
            refine Ok.dcall (c0) (by cbv) (by cbv) (by cbv) ?_
            refine Ok.run hmix hA false 2000 (by cbv) ?_
            refine Ok.dcall (ref14_yes hE true) (by cbv) (by cbv) (by cbv) ?_
            refine Ok.run hmix hA false 2000 (by cbv) ?_
            refine Ok.dop (idx_view (E.ex e1) (by cbv) (by cbv) (by simp) (by rw [E.exs_eq hE]; simp [he1]) rfl) ?_
            refine Ok.run hmix hA false 2000 (by cbv) ?_
            refine Ok.dcall (c1) (by cbv) (by cbv) (by cbv) ?_
            refine Ok.run hmix hA false 2000 (by cbv) ?_
            refine Ok.dcall (cc) (by cbv) (by cbv) (by cbv) ?_
            refine Ok.run hmix hA false 2000 (by cbv) ?_
            refine Ok.drawn (by kernel_rfl) ?_
            refine Ok.run hmix hA false 2000 (by cbv) ?_
            exact Ok.fin (by cbv) (FS.out (by cbv) (PLe.refl _))
          · intro h4
            have h4 : ¬ op = bOr := by rw [Ar.seq_eq hA, decide_eq_false_iff_not] at h4; exact h4
            refine Ok.run hmix hA false 2000 (by cbv) ?_
            refine Ok.cond (by cbv) ?_ ?_
            · intro h5
              have h5 : op = bIf := by rw [Ar.seq_eq hA, decide_eq_true_eq] at h5; exact h5
              rw [genR, if_neg h1, if_neg h2, if_neg h3, if_neg h4, if_pos h5]
              obtain ⟨e0, he0, hp0, c0⟩ := hat 0 (by simp [arity, h5, bAnd, bAt, bOr, bIf] at har; omega)
              obtain ⟨e1, he1, hp1, c1⟩ := hat 1 (by simp [arity, h5, bAnd, bAt, bOr, bIf] at har; omega)
              obtain ⟨e2, he2, hp2, c2⟩ := hat 2 (by simp [arity, h5, bAnd, bAt, bOr, bIf] at har; omega)
              rw [hp0, hp1, hp2]
              rw [hp0] at hg0
              rw [hp1] at hg1
              rw [hp2] at hg2
              generalize genR e0 = p0 at c0 hg0
              generalize genR e1 = p1 at c1 hg1
              generalize genR e2 = p2 at c2 hg2
              have cc := ref14_choose hE p0 p1 p2 (by omega)
              generalize chooseR p0 p1 p2 = q at cc
              refine Ok.run hmix hA false 2000 (by cbv) ?_
              refine Ok.dop (idx_view (E.ex e0) (by cbv) (by cbv) (by simp) (by rw [E.exs_eq hE]; simp [he0]) rfl) ?_
              refine Ok.run hmix hA false 2000 (by cbv) ?_
              refine Ok.dcall (c0) (by cbv) (by cbv) (by cbv) ?_
              refine Ok.run hmix hA false 2000 (by cbv) ?_
              refine Ok.dop (idx_view (E.ex e1) (by cbv) (by cbv) (by simp) (by rw [E.exs_eq hE]; simp [he1]) rfl) ?_
              refine Ok.run hmix hA false 2000 (by cbv) ?_
              refine Ok.dcall (c1) (by cbv) (by cbv) (by cbv) ?_
              refine Ok.run hmix hA false 2000 (by cbv) ?_
              refine Ok.dop (idx_view (E.ex e2) (by cbv) (by cbv) (by simp) (by rw [E.exs_eq hE]; simp [he2]) rfl) ?_
              refine Ok.run hmix hA false 2000 (by cbv) ?_
              refine Ok.dcall (c2) (by cbv) (by cbv) (by cbv) ?_
              refine Ok.run hmix hA false 2000 (by cbv) ?_
              refine Ok.dcall (cc) (by cbv) (by cbv) (by cbv) ?_
              refine Ok.run hmix hA false 2000 (by cbv) ?_
              refine Ok.drawn (by kernel_rfl) ?_
              refine Ok.run hmix hA false 2000 (by cbv) ?_
              exact Ok.fin (by cbv) (FS.out (by cbv) (PLe.refl _))
            · intro h5
              have h5 : ¬ op = bIf := by rw [Ar.seq_eq hA, decide_eq_false_iff_not] at h5; exact h5
              refine Ok.run hmix hA false 2000 (by cbv) ?_
              refine Ok.le (Le.nil 3 3 106 7 (by cbv) (by cbv) (by decide)) ?_
              refine Ok.loopAt [1, 3, 4] [1, 3] (fun mm s h => ∃ (j : Nat) (out : List In) (n : Nat), mm = a.length - j ∧ j ≤ a.length ∧ foldR out ((genRs a).drop j) = foldR [] (genRs a) ∧ n = out.length ∧
                s = mkS 105 [(1, .ptr 1 0), (3, .ref 3 n), (4, .pv (.int .i64 (Int.ofNat j)))] ∧
                h = [(1, .box [.pv (.str op), .pv (.int .i64 vk), .pv (.int .i64 vi), .pv (.bool vb), .pv (.str vs), .pv (.view (E .vls vt)), .pv (.int .i64 k), .pv (.view (E .exs a))] true), (3, .row 106 7 (E .ins out) true)]) (a.length - 0) (by cbv) ⟨0, [], 0, rfl, Nat.zero_le _, rfl, rfl, by cbv, by rw [hnil]; cbv⟩ ?_
              rintro mm s h ⟨j, out, n, rfl, hj, hout, hn, rfl, rfl⟩
              have hol : out.length ≤ 2 ^ 28 := by
                have : out.length ≤ (foldR out ((genRs a).drop j)).length := by rw [foldR_len]; omega
                rw [hout, foldR_len] at this
                simp at this; omega
              refine Ok.run hmix hA false 2000 (by cbv) ?_
              refine Ok.cond (by cbv) ?_ ?_
              · intro h8
                rw [Ar.lt_eq hA, hla, decide_eq_true_eq] at h8
                have hjl : j < a.length := by simpa using h8
                obtain ⟨e0, he0, hp0, c0⟩ := hat j hjl
                have hjr : j < (genRs a).length := by rw [genRs_eq, List.length_map]; exact hjl
                have hd : (genRs a).drop j = genR e0 :: (genRs a).drop (j + 1) := by
                  rw [List.drop_eq_getElem_cons hjr]
                  congr 1
                  rw [← hp0]; simp [List.getD, hjr]
                rw [hd, foldR] at hout
                generalize genR e0 = p0 at c0 hout
                have hjl2 : (joinR out p0).length ≤ 2 ^ 28 := by
                  have : (joinR out p0).length ≤ (foldR (joinR out p0) ((genRs a).drop (j + 1))).length := by rw [foldR_len]; omega
                  rw [hout, foldR_len] at this
                  simp at this; omega
                have cj := ref14_join hE out p0 (by rw [joinR_len] at hjl2; omega)
                obtain ⟨q, hq⟩ : ∃ q, q = joinR out p0 := ⟨_, rfl⟩
                obtain ⟨nq, hnq⟩ : ∃ n, n = q.length := ⟨_, rfl⟩
                rw [← hq, ← hnq] at cj
                rw [← hq] at hout
                refine Ok.run hmix hA false 2000 (by cbv) ?_
                refine Ok.op (idx_view (E.ex e0) (by cbv) (by cbv) (by simp) (by rw [E.exs_eq hE]; simp [he0]) rfl) ?_
                refine Ok.run hmix hA false 2000 (by cbv) ?_
                refine Ok.call (c0) (by cbv) (by cbv) (by cbv) ?_
                refine Ok.run hmix hA false 2000 (by cbv) ?_
                refine Ok.call cj (by cbv) (callArgs_of (by cbv) (frzL_cons (frz2_ref (by cbv) (by rw [hn, hinl])) (frzL_cons (by cbv) frzL_nil))) (by cbv) ?_
                refine Ok.run hmix hA false 2000 (by cbv) ?_
                refine Ok.backLe (a.length - (j + 1)) (by omega) (Le.keepSwap [1, 3, 4] [1, 80000] 3 80000 (by cbv)) ⟨j + 1, q, nq, rfl, by omega, hout, hnq, ?_, by cbv⟩
                rw [Ar.succ_eq hA (by omega)]; cbv
              intro h8
              have hje : j = a.length := by
                rw [Ar.lt_eq hA, hla, decide_eq_false_iff_not] at h8
                simp at h8; omega
              rw [hje, show (genRs a).drop a.length = [] by rw [genRs_eq]; simp, foldR] at hout
              refine Ok.run hmix hA false 2000 (by cbv) ?_
              refine Ok.leave ?_
              refine Ok.run hmix hA false 2000 (by cbv) ?_
              refine Ok.cond (by cbv) ?_ ?_
              · intro h6
                have h6 : op = bAt := by rw [Ar.seq_eq hA, decide_eq_true_eq] at h6; exact h6
                have hres : genR ⟨op, ⟨vk, vi, vb, vs, vt⟩, k, a⟩ = out ++ [⟨bAt, .zero, k⟩] := by rw [genR, if_neg h1, if_neg h2, if_neg h3, if_neg h4, if_neg h5, if_pos h6, hout]
                obtain ⟨r, hr⟩ : ∃ r, r = out ++ [(⟨bAt, .zero, k⟩ : In)] := ⟨_, rfl⟩
                rw [hres, ← hr]
                obtain ⟨n3, hn3⟩ : ∃ n3, n3 = n + 1 := ⟨_, rfl⟩
                refine Ok.run hmix hA false 2000 (by cbv) ?_
                refine Ok.call (ref14_one hE [97, 116] k) (by cbv) (by cbv) (by cbv) ?_
                refine Ok.run hmix hA false 2000 (by cbv) ?_
                refine Ok.op (app_ref (by cbv) (by cbv) (by rw [hn, hinl]) (by cbv) (by cbv) (by decide) (by simp only [List.length_singleton]; omega) (by unfold maxLen; simp only [List.length_singleton]; omega) n3 (by exact hn3) (E .ins r) (by rw [hr, E.ins_eq hE, E.ins_eq hE, List.map_append]; rfl)) ?_
                refine Ok.run hmix hA false 2000 (by cbv) ?_
                exact Ok.fin (by cbv) (FS.ref (by cbv) (by rw [hn3, hn, hinl, hr]; simp))
              · intro h6
                have h6 : ¬ op = bAt := by rw [Ar.seq_eq hA, decide_eq_false_iff_not] at h6; exact h6
                refine Ok.run hmix hA false 2000 (by cbv) ?_
                refine Ok.cond (by cbv) ?_ ?_
                · intro h7
                  have h7 : op = bTup := by rw [Ar.seq_eq hA, decide_eq_true_eq] at h7; exact h7
                  obtain ⟨la, hla0⟩ : ∃ la, la = a.length := ⟨_, rfl⟩
                  have hres : genR ⟨op, ⟨vk, vi, vb, vs, vt⟩, k, a⟩ = out ++ [⟨bTup, .zero, Int.ofNat la⟩] := by rw [genR, if_neg h1, if_neg h2, if_neg h3, if_neg h4, if_neg h5, if_neg h6, if_pos h7, hout, hla0]; rfl
                  obtain ⟨r, hr⟩ : ∃ r, r = out ++ [(⟨bTup, .zero, Int.ofNat la⟩ : In)] := ⟨_, rfl⟩
                  rw [hres, ← hr]
                  obtain ⟨n3, hn3⟩ : ∃ n3, n3 = n + 1 := ⟨_, rfl⟩
                  refine Ok.run hmix hA false 2000 (by cbv) ?_
                  rw [hla, ← hla0]
                  refine Ok.call (ref14_one hE [116, 117, 112] (Int.ofNat la)) (by cbv) (by cbv) (by cbv) ?_
                  refine Ok.run hmix hA false 2000 (by cbv) ?_
                  refine Ok.op (app_ref (by cbv) (by cbv) (by rw [hn, hinl]) (by cbv) (by cbv) (by decide) (by simp only [List.length_singleton]; omega) (by unfold maxLen; simp only [List.length_singleton]; omega) n3 (by exact hn3) (E .ins r) (by rw [hr, E.ins_eq hE, E.ins_eq hE, List.map_append]; rfl)) ?_
                  refine Ok.run hmix hA false 2000 (by cbv) ?_
                  exact Ok.fin (by cbv) (FS.ref (by cbv) (by rw [hn3, hn, hinl, hr]; simp))
                · intro h7
                  have h7 : ¬ op = bTup := by rw [Ar.seq_eq hA, decide_eq_false_iff_not] at h7; exact h7
                  have hres : genR ⟨op, ⟨vk, vi, vb, vs, vt⟩, k, a⟩ = out ++ [⟨op, .zero, 0⟩] := by rw [genR, if_neg h1, if_neg h2, if_neg h3, if_neg h4, if_neg h5, if_neg h6, if_neg h7, hout]
                  obtain ⟨r, hr⟩ : ∃ r, r = out ++ [(⟨op, .zero, 0⟩ : In)] := ⟨_, rfl⟩
                  rw [hres, ← hr]
                  obtain ⟨n3, hn3⟩ : ∃ n3, n3 = n + 1 := ⟨_, rfl⟩
                  refine Ok.run hmix hA false 2000 (by cbv) ?_
                  refine Ok.call (ref14_one hE op 0) (by cbv) (by cbv) (by cbv) ?_
                  refine Ok.run hmix hA false 2000 (by cbv) ?_
                  refine Ok.op (app_ref (by cbv) (by cbv) (by rw [hn, hinl]) (by cbv) (by cbv) (by decide) (by simp only [List.length_singleton]; omega) (by unfold maxLen; simp only [List.length_singleton]; omega) n3 (by exact hn3) (E .ins r) (by rw [hr, E.ins_eq hE, E.ins_eq hE, List.map_append]; rfl)) ?_
                  refine Ok.run hmix hA false 2000 (by cbv) ?_
                  exact Ok.fin (by cbv) (FS.ref (by cbv) (by rw [hn3, hn, hinl, hr]; simp))
end Go.Proofs.Ytnojmocoifodjaa.Pv
set_option maxRecDepth 100000
set_option linter.unusedVariables false
set_option linter.unusedSimpArgs false
namespace Go.Proofs.Ytnojmocoifodjaa.Pv
open Go Go.Proofs
mutual
def szX : Ex4 → Nat
  | .mk op v n a => 1 + szV v + szXs a
def szXs : List Ex4 → Nat
  | [] => 0
  | v :: l => szX v + szXs l
end
theorem szXs_mem : ∀ {l : List Ex4} {e : Ex4}, e ∈ l → szX e ≤ szXs l
  | [], e, he => by simp at he
  | x :: l, e, he => by
    rw [szXs]
    rcases List.mem_cons.1 he with rfl | he
    · omega
    · have := szXs_mem he; omega
theorem szXs_len : ∀ a : List Ex4, a.length ≤ szXs a
  | [] => by simp
  | e :: a => by have := szXs_len a; rw [szXs, List.length_cons]; cases e; rw [szX]; omega
theorem law4_Of {E : Enc} (hE : E = .std) : ∀ (n : Nat) (v : Ex4), SizeOf.sizeOf v ≤ n → szX v ≤ 2 ^ 27 → CallsV Try.prog 31 [E.ex v] (.pv (E.ex v)) [] := by
  intro n
  induction n with
  | zero => intro v h; cases v; simp at h
  | succ n ih =>
    rintro ⟨op, ⟨vk, vi, vb, vs, vt⟩, nn, l⟩ hn hsz
    obtain ⟨A, hA⟩ : ∃ A : Ar, A = .std := ⟨_, rfl⟩
    rw [szX] at hsz
    have hlen := szXs_len l
    have hsub : ∀ e, e ∈ l → CallsV Try.prog 31 [E.ex e] (.pv (E.ex e)) [] := fun e he => by
      have h1 := List.sizeOf_lt_of_mem he
      have h2 := szXs_mem he
      simp only [Ex4.mk.sizeOf_spec] at hn
      exact ih e (by omega) (by omega)
    have hll : A .lenP (E .exs l) = Int.ofNat l.length := by rw [Ar.lenP_eq hA, E.exs_eq hE, List.length_map]; rfl
    have cv := law2_Of hE _ ⟨vk, vi, vb, vs, vt⟩ (Nat.le_refl _) (by omega)
    refine CallsV.ok (fn := Try.f31) (by kernel_rfl) (by kernel_rfl) rfl (by cbv) (by cbv) ?_
    refine Ok.run hmix hA false 2000 (by cbv) ?_
    refine Ok.dcall (cv) (by cbv) (by cbv) (by cbv) ?_
    refine Ok.run hmix hA false 2000 (by cbv) ?_
    refine Ok.drawn (by kernel_rfl) ?_
    refine Ok.run hmix hA false 2000 (by cbv) ?_
    refine Ok.le (Le.nilBox 3 7 29 44 8 (by cbv) (by cbv) (by cbv) (by decide)) ?_
    refine Ok.loopAt [1, 2, 3, 4] [1, 2, 3, 29] (fun m s h => ∃ (k q : Nat) (es : List PV), m = l.length - k ∧ k ≤ l.length ∧ q = k ∧ es = E .exs (l.take k) ∧
      s = mkS 32 [(1, .ptr 1 0), (2, .ptr 2 0), (3, .ptr 3 0), (4, .pv (.int .i64 (Int.ofNat k)))] ∧
      h = [(1, .box [.pv (.str op), .pv (.int .i64 vk), .pv (.int .i64 vi), .pv (.bool vb), .pv (.str vs), .pv (.view (E .vls vt)), .pv (.int .i64 nn), .pv (.view (E .exs l))] true), (2, .box [.pv (.str []), .pv (.int .i64 0), .pv (.int .i64 0), .pv (.bool false), .pv (.str []), .pv .nil, .pv (.int .i64 0), .pv .nil] true),
        (3, .box [.pv (.str op), .pv (.int .i64 vk), .pv (.int .i64 vi), .pv (.bool vb), .pv (.str vs), .pv (.view (E .vls vt)), .pv (.int .i64 nn), .ref 29 q] true), (29, .row 44 8 es true)]) (l.length - 0) (by cbv) ⟨0, 0, [], rfl, Nat.zero_le _, rfl, by rw [E.exs_eq hE]; rfl, by cbv, by cbv⟩ ?_
    rintro m s h ⟨k, q, es, rfl, hk, hq, hes, rfl, rfl⟩
    have hesl : q = es.length := by rw [hes, E.exs_eq hE, List.length_map, List.length_take]; omega
    refine Ok.run hmix hA false 2000 (by cbv) ?_
    refine Ok.cond (by cbv) ?_ ?_
    · intro h1
      rw [Ar.lt_eq hA, hll, decide_eq_true_eq] at h1
      have hkl : k < l.length := by simpa using h1
      have hx : l[k]? = some l[k] := List.getElem?_eq_getElem hkl
      have hm : l[k] ∈ l := List.getElem_mem hkl
      have htake : l.take (k + 1) = l.take k ++ [l[k]] := by rw [List.take_add_one, hx]; rfl
      generalize l[k] = e at hx hm htake
      have hge := hsub e hm
      refine Ok.run hmix hA false 2000 (by cbv) ?_
      refine Ok.dop (idx_view (E.ex e) (by cbv) (by cbv) (by simp) (by rw [E.exs_eq hE]; simp [hx]) rfl) ?_
      refine Ok.run hmix hA false 2000 (by cbv) ?_
      refine Ok.dcall (hge) (by cbv) (by cbv) (by cbv) ?_
      refine Ok.run hmix hA false 2000 (by cbv) ?_
      obtain ⟨es3, hes3⟩ : ∃ es3, es3 = es ++ [E.ex e] := ⟨_, rfl⟩
      obtain ⟨n3, hn3⟩ : ∃ n3, n3 = q + 1 := ⟨_, rfl⟩
      refine Ok.dop (app_ref (by cbv) (by cbv) hesl (by cbv) (by cbv) (by decide) (by simp only [List.length_singleton]; omega) (by unfold maxLen; simp only [List.length_singleton]; omega) n3 (by exact hn3) es3 (by rw [hes3]; rfl)) ?_
      refine Ok.run hmix hA false 2000 (by cbv) ?_
      refine Ok.drawn (by kernel_rfl) ?_
      refine Ok.run hmix hA false 2000 (by cbv) ?_
      refine Ok.back (l.length - (k + 1)) [1, 2, 3, 4] [1, 2, 3, 29] (by omega) (by cbv) ⟨k + 1, n3, es3, rfl, by omega, by omega, by rw [hes3, hes, htake, E.exs_eq hE, E.exs_eq hE]; simp, ?_, by cbv⟩
      rw [Ar.succ_eq hA (by omega)]; cbv
    · intro h1
      have hke : k = l.length := by
        rw [Ar.lt_eq hA, hll, decide_eq_false_iff_not] at h1
        simp at h1; omega
      subst hke
      rw [List.take_length] at hes
      subst hes
      refine Ok.run hmix hA false 2000 (by cbv) ?_
      refine Ok.leave ?_
      refine Ok.run hmix hA false 2000 (by cbv) ?_
      exact Ok.fin (by cbv) (FS.out (p := E.ex ⟨op, ⟨vk, vi, vb, vs, vt⟩, nn, l⟩) (ids := [29]) (by simp [frz2, frz1, frzL, frz0, PV.rlx, rowOf, hget, ← hesl, Enc.ex]) (PLe.refl _))
end Go.Proofs.Ytnojmocoifodjaa.Pv
set_option maxRecDepth 100000
set_option linter.unusedVariables false
set_option linter.unusedSimpArgs false
namespace Go.Proofs.Ytnojmocoifodjaa.Pv
open Go Go.Proofs
def xX : Ex4 := ⟨bX, .zero, 0, []⟩
def xLit (v : Vl) : Ex4 := ⟨bLit, v, 0, []⟩
def bLt : List UInt8 := [108, 116]
theorem law12_known : CallsV Try.prog 13 [] (.pv (.bool true)) [] := by
  have hE : Enc.std = Enc.std := rfl
  have c1 := gen_Of hE ⟨3, [], ⟨0, []⟩, [⟨bLt, .zero, 0, [xX, xLit (vInt 3)]⟩], ⟨[], .zero, 0, []⟩, 0, 0⟩ (by simp [wfEs, wfE, arity, bLt, xX, xLit, bX, bLit, bAt, bAnd, bOr, bIf]) (by decide)
  have c2 := gen_Expr hE _ ⟨bAnd, .zero, 0, [xX, xX]⟩ (Nat.le_refl _) (by simp [wfEs, wfE, arity, xX, bX, bAt, bAnd, bOr, bIf]) (by decide)
  have c3 := gen_Key hE ⟨7, [], ⟨0, []⟩, [], xX, 0, 0⟩ (by simp [wfEs, wfE, arity, xX, bX, bAt, bAnd, bOr, bIf]) (by decide)
  refine CallsV.ok (fn := Try.f13) (by kernel_rfl) (by kernel_rfl) rfl (by cbv) (by cbv) ?_
  refine Ok.run hmix (A := Ar.std) rfl true 2000 (by cbv) ?_
  refine Ok.call (law4_X hE) (by cbv) (by cbv) (by cbv) ?_
  refine Ok.run hmix (A := Ar.std) rfl true 2000 (by cbv) ?_
  refine Ok.call (val_Int hE 3) (by cbv) (by cbv) (by cbv) ?_
  refine Ok.run hmix (A := Ar.std) rfl true 2000 (by cbv) ?_
  refine Ok.call (law4_Lit hE (vInt 3)) (by cbv) (by cbv) (by cbv) ?_
  refine Ok.run hmix (A := Ar.std) rfl true 2000 (by cbv) ?_
  refine Ok.call (law4_Op hE [108, 116] [xX, xLit (vInt 3)]) (by cbv) (by cbv) (by cbv) ?_
  refine Ok.run hmix (A := Ar.std) rfl true 2000 (by cbv) ?_
  refine Ok.call (c1) (by cbv) (by cbv) (by cbv) ?_
  refine Ok.run hmix (A := Ar.std) rfl true 2000 (by cbv) ?_
  refine Ok.call (law4_X hE) (by cbv) (by cbv) (by cbv) ?_
  refine Ok.run hmix (A := Ar.std) rfl true 2000 (by cbv) ?_
  refine Ok.call (law4_X hE) (by cbv) (by cbv) (by cbv) ?_
  refine Ok.run hmix (A := Ar.std) rfl true 2000 (by cbv) ?_
  refine Ok.call (law4_Op hE [97, 110, 100] [xX, xX]) (by cbv) (by cbv) (by cbv) ?_
  refine Ok.run hmix (A := Ar.std) rfl true 2000 (by cbv) ?_
  refine Ok.call (c2) (by cbv) (by cbv) (by cbv) ?_
  refine Ok.run hmix (A := Ar.std) rfl true 2000 (by cbv) ?_
  refine Ok.op (by cbv) ?_
  refine Ok.run hmix (A := Ar.std) rfl true 2000 (by cbv) ?_
  refine Ok.op (by cbv) ?_
  refine Ok.run hmix (A := Ar.std) rfl true 2000 (by cbv) ?_
  refine Ok.op (by cbv) ?_
  refine Ok.run hmix (A := Ar.std) rfl true 2000 (by cbv) ?_
  refine Ok.op (by cbv) ?_
  refine Ok.run hmix (A := Ar.std) rfl true 2000 (by cbv) ?_
  refine Ok.op (by cbv) ?_
  refine Ok.run hmix (A := Ar.std) rfl true 2000 (by cbv) ?_
  refine Ok.call (law4_X hE) (by cbv) (by cbv) (by cbv) ?_
  refine Ok.run hmix (A := Ar.std) rfl true 2000 (by cbv) ?_
  refine Ok.call (c3) (by cbv) (by cbv) (by cbv) ?_
  refine Ok.run hmix (A := Ar.std) rfl true 2000 (by cbv) ?_
  exact Ok.fin (by cbv) (FS.out (by cbv) (PLe.refl _))
end Go.Proofs.Ytnojmocoifodjaa.Pv
set_option maxRecDepth 100000
set_option linter.unusedVariables false
set_option linter.unusedSimpArgs false
namespace Go.Proofs.Ytnojmocoifodjaa.Pv
open Go Go.Proofs
/-! ### The two makers of programs agree -/
def isJ (x : In) : Prop := x.op = bJmp ∨ x.op = bJf
def jW (p : List In) : Prop := ∀ x, x ∈ p → isJ x → 0 ≤ x.n ∧ x.n ≤ p.length
theorem shift_of {x : In} {b : Nat} (h : isJ x → 0 ≤ x.n ∧ x.n ≤ 2 ^ 40) (hb : b ≤ 2 ^ 40) : In.shift b x = if x.op = bJmp ∨ x.op = bJf then { x with n := x.n + b } else x := by
  unfold In.shift
  split
  · rename_i hj
    have := h hj
    rw [IntWalk.i64_in _ ⟨by omega, by omega⟩]
  · rfl
theorem shift0 {p : List In} (hp : jW p) (hl : p.length ≤ 2 ^ 40) : p.map (In.shift 0) = p := by
  conv => rhs; rw [← List.map_id p]
  apply List.map_congr_left
  intro x hx
  rw [shift_of (fun hj => by have := hp x hx hj; omega) (by omega)]
  split <;> simp
theorem jW_nil : jW [] := fun x hx => by simp at hx
theorem jW_one {x : In} (h : isJ x → x.n = 0) : jW [x] := fun y hy hj => by
  simp at hy; subst hy; have := h hj; simp; omega
theorem jW_join {p q : List In} (hp : jW p) (hq : jW q) (hl : p.length + q.length ≤ 2 ^ 40) : jW (joinR p q) := by
  intro x hx hj
  rw [joinR_len]
  rcases List.mem_append.1 hx with hx | hx
  · have := hp x hx hj; omega
  · obtain ⟨y, hy, rfl⟩ := List.mem_map.1 hx
    have hs := shift_of (x := y) (b := p.length) (fun hj => by have := hq y hy hj; omega) (by omega)
    rw [hs] at hj ⊢
    split at hj
    · rename_i h
      have := hq y hy h
      rw [if_pos h]; simp only []; omega
    · rename_i h; exact absurd hj h
theorem jW_snoc {p : List In} {x : In} (hp : jW p) (hx : isJ x → 0 ≤ x.n ∧ x.n ≤ p.length + 1) : jW (p ++ [x]) := by
  intro y hy hj
  rw [List.length_append, List.length_singleton]
  rcases List.mem_append.1 hy with hy | hy
  · have := hp y hy hj; omega
  · simp at hy; subst hy; have := hx hj; omega
theorem join2 {p q : List In} (hp : jW p) (hl : p.length ≤ 2 ^ 40) : joinTo [] [p, q] = joinR p q := by
  simp only [joinTo, List.nil_append, List.length_nil, shift0 hp hl]; rfl
theorem foldR_ok : ∀ (ps : List (List In)) (out : List In), (∀ p, p ∈ ps → jW p) → jW out → (foldR out ps).length ≤ 2 ^ 40 → eachP out ps = foldR out ps ∧ jW (foldR out ps)
  | [], out, _, ho, _ => ⟨rfl, ho⟩
  | p :: ps, out, hps, ho, hl => by
    rw [foldR] at hl
    have h1 : (joinR out p).length ≤ 2 ^ 40 := by rw [foldR_len] at hl; omega
    rw [joinR_len] at h1
    rw [eachP, foldR, join2 ho (by omega)]
    exact foldR_ok ps _ (fun q hq => hps q (by simp [hq])) (jW_join ho (hps p (by simp)) h1) hl
theorem setN_app (i : Int) (f : In) (y : List In) : ∀ (x : List In), setN (x ++ f :: y) x.length i = x ++ { f with n := i } :: y
  | [] => rfl
  | a :: x => by
    have := setN_app i f y x
    unfold setN at this ⊢
    simp only [List.cons_append, List.length_cons, List.modify_succ_cons, this]
def jN (N : Int) (p : List In) : Prop := ∀ x, x ∈ p → isJ x → 0 ≤ x.n ∧ x.n ≤ N
theorem jN_app {N : Int} {p q : List In} (hp : jN N p) (hq : jN N q) : jN N (p ++ q) := by
  intro x hx hj
  rcases List.mem_append.1 hx with hx | hx
  · exact hp x hx hj
  · exact hq x hx hj
theorem jN_mono {N M : Int} {p : List In} (hp : jN N p) (h : N ≤ M) : jN M p := fun x hx hj => by have := hp x hx hj; omega
theorem jN_shift {N : Int} {q : List In} {b : Nat} (hq : jN N q) (hN : N ≤ 2 ^ 40) (hb : b ≤ 2 ^ 40) : jN (N + b) (q.map (In.shift b)) := by
  intro x hx hj
  obtain ⟨y, hy, rfl⟩ := List.mem_map.1 hx
  have hs := shift_of (x := y) (b := b) (fun hj => by have := hq y hy hj; omega) hb
  rw [hs] at hj ⊢
  split at hj
  · rename_i h
    have := hq y hy h
    rw [if_pos h]; simp only []; omega
  · rename_i h; exact absurd hj h
theorem choose_ok {a b c : List In} (ha : jW a) (hb : jW b) (hc : jW c) (hl : a.length + b.length + c.length ≤ 2 ^ 30) : choiceP a b c = chooseR a b c ∧ jW (chooseR a b c) := by
  have hj1 : ∀ n, In.shift n iJf = ⟨bJf, .zero, IntKind.wrap .i64 ((n : Int))⟩ := fun n => by simp [In.shift, iJf, bJf, bJmp]
  have hj2 : ∀ n, In.shift n iJmp = ⟨bJmp, .zero, IntKind.wrap .i64 ((n : Int))⟩ := fun n => by simp [In.shift, iJmp, bJf, bJmp]
  constructor
  · unfold choiceP chooseR joinR
    simp only [joinTo, List.nil_append, List.length_nil, shift0 ha (by omega), List.map_cons, List.map_nil, List.length_append, List.length_cons, List.length_map, Nat.zero_add, hj1, hj2]
    have hbl : (b.map (In.shift (a.length + 1))).length = b.length := List.length_map _
    generalize b.map (In.shift (a.length + 1)) = b' at hbl
    generalize IntKind.wrap .i64 ((a.length : Nat) : Int) = i1
    generalize IntKind.wrap .i64 ((_ : Nat) : Int) = i2
    generalize c.map (In.shift (a.length + 1 + b.length + 1)) = c'
    generalize ((a.length + 1 + b.length + 1 : Nat) : Int) = k1
    generalize ((a.length + 1 + b.length + 1 + c.length : Nat) : Int) = k2
    have e1 := setN_app k1 ⟨bJf, .zero, i1⟩ (b' ++ (⟨bJmp, .zero, i2⟩ : In) :: c') a
    have e2 := setN_app k2 ⟨bJmp, .zero, i2⟩ c' (a ++ (⟨bJf, .zero, k1⟩ : In) :: b')
    rw [show (a ++ (⟨bJf, .zero, k1⟩ : In) :: b').length = a.length + 1 + b.length by simp [hbl]; omega] at e2
    simp only [List.append_assoc, List.cons_append, List.nil_append] at e1 e2 ⊢
    rw [e1, e2]
  · have h : jN ((a.length + b.length + c.length + 2 : Nat) : Int) (chooseR a b c) := by
      unfold chooseR joinR
      refine jN_app (jN_app (jN_app (jN_app (jN_mono ha (by omega)) ?_) ?_) ?_) ?_
      · intro x hx _; simp at hx; subst hx; simp only []; omega
      · exact jN_mono (jN_shift hb (by omega) (by simp; omega)) (by simp; omega)
      · intro x hx _; simp at hx; subst hx; simp only []; omega
      · exact jN_mono (jN_shift hc (by omega) (by simp; omega)) (by simp; omega)
    intro x hx hj
    have := h x hx hj
    rw [chooseR_len]
    omega

mutual
/-- at has one argument. -/
def atE : Ex4 → Prop
  | .mk op v n a => (op = bAt → a.length = 1) ∧ ¬ (op = bJmp ∨ op = bJf) ∧ atEs a
def atEs : List Ex4 → Prop
  | [] => True
  | e :: l => atE e ∧ atEs l
end
theorem atEs_mem : ∀ {l : List Ex4} {e : Ex4}, atEs l → e ∈ l → atE e
  | [], e, h, he => by simp at he
  | x :: l, e, h, he => by
    rcases List.mem_cons.1 he with rfl | he
    · exact h.1
    · exact atEs_mem h.2 he
theorem jW_getD {m : List (List In)} (h : ∀ p, p ∈ m → jW p) (i : Nat) : jW (m.getD i []) := by
  rw [List.getD]
  cases hm : m[i]? with
  | none => exact jW_nil
  | some p => exact h p (List.mem_of_getElem? hm)
theorem gen_eq : ∀ (n : Nat) (e : Ex4), SizeOf.sizeOf e ≤ n → atE e → sizE e ≤ 2 ^ 27 → genE e = genR e ∧ jW (genR e)
  | 0, .mk op v k a, h, _, _ => by simp at h
  | n + 1, .mk op v k a, h, ha, hs => by
    rw [sizE] at hs
    have hm : ∀ e, e ∈ a → genE e = genR e ∧ jW (genR e) := fun e he => by
      have h1 := List.sizeOf_lt_of_mem he
      have h2 := sizEs_mem he
      simp only [Ex4.mk.sizeOf_spec] at h
      exact gen_eq n e (by omega) (atEs_mem ha.2.2 he) (by omega)
    have hall : genAll a = genRs a := by
      rw [genAll_eq, genRs_eq]
      exact List.map_congr_left (fun e he => (hm e he).1)
    have hj : ∀ p, p ∈ genRs a → jW p := fun p hp => by
      rw [genRs_eq] at hp
      obtain ⟨e, he, rfl⟩ := List.mem_map.1 hp
      exact (hm e he).2
    have hsum : ((genRs a).map List.length).sum ≤ sizEs a := sumRs (fun e he => genR_le _ e (Nat.le_refl _))
    have hf := foldR_ok (genRs a) [] hj jW_nil (by rw [foldR_len]; simp; omega)
    have hfl : (foldR [] (genRs a)).length ≤ 2 ^ 27 := by rw [foldR_len]; simp; omega
    have h0 := getD_le (genRs a) 0
    have h1 := getD_le (genRs a) 1
    have h2 := getD_le (genRs a) 2
    have nj : ∀ (o : List UInt8) (v : Vl) (k : Int), ¬ (o = bJmp ∨ o = bJf) → ¬ isJ ⟨o, v, k⟩ := fun o v k h => h
    rw [genE, genR, hall]
    by_cases c1 : op = bLit
    · rw [if_pos c1, if_pos c1]; exact ⟨rfl, jW_one (fun h => rfl)⟩
    rw [if_neg c1, if_neg c1]
    by_cases c2 : op = bX
    · rw [if_pos c2, if_pos c2]; exact ⟨rfl, jW_one (fun h => rfl)⟩
    rw [if_neg c2, if_neg c2]
    by_cases c3 : op = bAt
    · have hn1 : ¬ op = bAnd := by rw [c3]; decide
      have hn2 : ¬ op = bOr := by rw [c3]; decide
      have hn3 : ¬ op = bIf := by rw [c3]; decide
      rw [if_pos c3, if_neg hn1, if_neg hn2, if_neg hn3, if_pos c3]
      have hl := ha.1 c3
      match a, hl with
      | [e], _ =>
        have he := (hm e (by simp)).2
        have hz : jW [⟨bAt, .zero, k⟩] := jW_one (fun h => absurd h (by simp [isJ, bAt, bJmp, bJf]))
        simp only [genRs, List.getD_cons_zero, foldR] at hfl hf ⊢
        have e1 : joinR [] (genR e) = genR e := by
          unfold joinR
          rw [List.nil_append, List.length_nil]
          exact shift0 he (by rw [joinR_len] at hfl; simp at hfl; omega)
        rw [e1] at hfl hf ⊢
        refine ⟨?_, jW_snoc he (fun h => absurd h (by simp [isJ, bAt, bJmp, bJf]))⟩
        rw [join2 he (by omega)]
        simp [joinR, In.shift, bAt, bJmp, bJf]
    rw [if_neg c3]
    by_cases c4 : op = bTup
    · have hn1 : ¬ op = bAnd := by rw [c4]; decide
      have hn2 : ¬ op = bOr := by rw [c4]; decide
      have hn3 : ¬ op = bIf := by rw [c4]; decide
      have hn4 : ¬ op = bAt := by rw [c4]; decide
      rw [if_pos c4, if_neg hn1, if_neg hn2, if_neg hn3, if_neg hn4, if_pos c4, hf.1]
      refine ⟨?_, jW_snoc hf.2 (fun h => absurd h (by simp [isJ, bTup, bJmp, bJf]))⟩
      rw [join2 hf.2 (by omega), genRs_eq, List.length_map]
      simp [joinR, In.shift, bTup, bJmp, bJf]
    rw [if_neg c4]
    by_cases c5 : op = bAnd
    · rw [if_pos c5, if_pos c5]
      exact choose_ok (jW_getD hj 0) (jW_getD hj 1) (jW_one (fun h => rfl)) (by simp only [List.length_singleton]; omega)
    rw [if_neg c5, if_neg c5]
    by_cases c6 : op = bOr
    · rw [if_pos c6, if_pos c6]
      exact choose_ok (jW_getD hj 0) (jW_one (fun h => rfl)) (jW_getD hj 1) (by simp only [List.length_singleton]; omega)
    rw [if_neg c6, if_neg c6]
    by_cases c7 : op = bIf
    · rw [if_pos c7, if_pos c7]
      exact choose_ok (jW_getD hj 0) (jW_getD hj 1) (jW_getD hj 2) (by omega)
    rw [if_neg c7, if_neg c7, if_neg c3, if_neg c4, hf.1, join2 hf.2 (by omega)]
    refine ⟨?_, jW_snoc hf.2 (fun h => absurd h ha.2.1)⟩
    simp [joinR, In.shift, ha.2.1]
end Go.Proofs.Ytnojmocoifodjaa.Pv
set_option maxRecDepth 100000
set_option linter.unusedVariables false
set_option linter.unusedSimpArgs false
namespace Go.Proofs.Ytnojmocoifodjaa.Pv
open Go Go.Proofs
def bNot : List UInt8 := [110, 111, 116]
def stepX (e : Ex4) (b : Nat) : Ex4 :=
  if b % 4 = 0 then ⟨bNot, .zero, 0, [e]⟩
  else if b % 4 = 1 then ⟨bAnd, .zero, 0, [e, xLit (vBool true)]⟩
  else if b % 4 = 2 then ⟨bOr, .zero, 0, [e, xX]⟩
  else ⟨bIf, .zero, 0, [e, xX, xLit (vBool false)]⟩
def stepN (n : Nat) (b : Nat) : Nat := if b % 4 = 0 then n + 1 else n + 4
/-- What is kept by each step. -/
structure Good (e : Ex4) (n k : Nat) : Prop where
  wf : wfE e
  at' : atE e
  siz : sizE e ≤ 5 + 15 * k
  szx : szX e ≤ 2 + 6 * k
  len : (genE e).length = n
  vs : ∀ x, x ∈ genE e → szV x.v ≤ 2
theorem good0 : Good xX 1 0 := by
  refine ⟨?_, ?_, ?_, ?_, ?_, ?_⟩
  · simp [xX, wfE, wfEs, arity, bX, bAt, bAnd, bOr, bIf]
  · simp [xX, atE, atEs, bX, bAt, bJmp, bJf]
  · decide
  · decide
  · rfl
  · intro x hx
    have : genE xX = [⟨bX, .zero, 0⟩] := rfl
    rw [this] at hx; simp at hx; subst hx; decide

def vsB (p : List In) : Prop := ∀ x, x ∈ p → szV x.v ≤ 2
theorem shift_v (b : Nat) (x : In) : (In.shift b x).v = x.v := by unfold In.shift; split <;> rfl
theorem vsB_join : ∀ (l : List (List In)) (out : List In), vsB out → (∀ p, p ∈ l → vsB p) → vsB (joinTo out l)
  | [], out, h, _ => h
  | p :: l, out, h, hl => by
    rw [joinTo]
    refine vsB_join l _ (fun x hx => ?_) (fun q hq => hl q (by simp [hq]))
    rcases List.mem_append.1 hx with hx | hx
    · exact h x hx
    · obtain ⟨y, hy, rfl⟩ := List.mem_map.1 hx
      rw [shift_v]; exact hl p (by simp) y hy
theorem vsB_set {l : List In} (i : Nat) (n : Int) (h : vsB l) : vsB (setN l i n) := by
  intro x hx
  unfold setN at hx
  obtain ⟨j, hj⟩ := List.getElem?_of_mem hx
  rw [List.getElem?_modify] at hj
  cases hl : l[j]? with
  | none => simp [hl] at hj
  | some y =>
    have := h y (List.mem_of_getElem? hl)
    simp only [hl] at hj
    split at hj
    all_goals (simp at hj; subst hj; exact this)
theorem vsB_choice {a b c : List In} (ha : vsB a) (hb : vsB b) (hc : vsB c) : vsB (choiceP a b c) := by
  unfold choiceP
  refine vsB_set _ _ (vsB_set _ _ (vsB_join _ _ (fun x hx => by simp at hx) ?_))
  intro p hp
  have hj : vsB [iJf] := fun x hx => by simp at hx; subst hx; decide
  have hm : vsB [iJmp] := fun x hx => by simp at hx; subst hx; decide
  simp only [List.mem_cons, List.not_mem_nil, or_false] at hp
  rcases hp with rfl | rfl | rfl | rfl | rfl <;> assumption
theorem vs_one {x : In} (h : szV x.v ≤ 2) : vsB [x] := fun y hy => by simp at hy; subst hy; exact h
theorem genE_lit (v : Vl) : genE (xLit v) = [⟨bPush, v, 0⟩] := by simp [xLit, genE]
theorem genE_x : genE xX = [⟨bX, .zero, 0⟩] := rfl
theorem goodStep {e : Ex4} {n k : Nat} (h : Good e n k) (b : Nat) : Good (stepX e b) (stepN n b) (k + 1) := by
  have hw := h.wf
  have ha := h.at'
  have hs := h.siz
  have hz := h.szx
  unfold stepX stepN
  by_cases c0 : b % 4 = 0
  · rw [if_pos c0, if_pos c0]
    have hg : genE ⟨bNot, .zero, 0, [e]⟩ = joinTo [] [eachP [] [genE e], [⟨bNot, .zero, 0⟩]] := by simp [genE, genAll, bNot, bLit, bX, bAt, bTup, bAnd, bOr, bIf]
    refine ⟨by simp [wfE, wfEs, arity, bNot, bAt, bAnd, bOr, bIf, hw], by simp [atE, atEs, bNot, bAt, bJmp, bJf, ha], by simp only [sizE, sizEs]; omega, by simp only [szX, szXs, Vl.zero, szV, szVs]; omega, ?_, ?_⟩
    · rw [hg, joinTo_len]; simp [eachP_len, h.len]
    · rw [hg]
      refine vsB_join _ _ (fun x hx => by simp at hx) (fun p hp => ?_)
      simp only [List.mem_cons, List.not_mem_nil, or_false] at hp
      rcases hp with rfl | rfl
      · rw [eachP, eachP]
        refine vsB_join _ _ (fun x hx => by simp at hx) (fun p hp => ?_)
        simp only [List.mem_cons, List.not_mem_nil, or_false] at hp
        rcases hp with rfl | rfl
        · exact fun x hx => by simp at hx
        · exact h.vs
      · exact vs_one (by decide)
  rw [if_neg c0, if_neg c0]
  by_cases c1 : b % 4 = 1
  · rw [if_pos c1]
    have hg : genE ⟨bAnd, .zero, 0, [e, xLit (vBool true)]⟩ = choiceP (genE e) [⟨bPush, vBool true, 0⟩] [⟨bPush, vBool false, 0⟩] := by simp [genE, genAll, genE_lit, bLit, bX, bAt, bTup, bAnd]
    refine ⟨by simp [wfE, wfEs, arity, xLit, bLit, bAt, bAnd, bOr, bIf, hw], by simp [atE, atEs, xLit, bLit, bAnd, bAt, bJmp, bJf, ha], by simp only [sizE, sizEs, xLit]; omega, by simp only [szX, szXs, xLit, vBool, Vl.zero, szV, szVs]; omega, ?_, ?_⟩
    · rw [hg, choiceP_len]; simp [h.len]
    · rw [hg]; exact vsB_choice h.vs (vs_one (by decide)) (vs_one (by decide))
  rw [if_neg c1]
  by_cases c2 : b % 4 = 2
  · rw [if_pos c2]
    have hg : genE ⟨bOr, .zero, 0, [e, xX]⟩ = choiceP (genE e) [⟨bPush, vBool true, 0⟩] [⟨bX, .zero, 0⟩] := by simp [genE, genAll, genE_x, bLit, bX, bAt, bTup, bAnd, bOr]
    refine ⟨by simp [wfE, wfEs, arity, xX, bX, bAt, bAnd, bOr, bIf, hw], by simp [atE, atEs, xX, bX, bOr, bAt, bJmp, bJf, ha], by simp only [sizE, sizEs, xX]; omega, by simp only [szX, szXs, xX, Vl.zero, szV, szVs]; omega, ?_, ?_⟩
    · rw [hg, choiceP_len]; simp [h.len]
    · rw [hg]; exact vsB_choice h.vs (vs_one (by decide)) (vs_one (by decide))
  rw [if_neg c2]
  have hg : genE ⟨bIf, .zero, 0, [e, xX, xLit (vBool false)]⟩ = choiceP (genE e) [⟨bX, .zero, 0⟩] [⟨bPush, vBool false, 0⟩] := by simp [genE, genAll, genE_x, genE_lit, bLit, bX, bAt, bTup, bAnd, bOr, bIf]
  refine ⟨by simp [wfE, wfEs, arity, xX, xLit, bLit, bX, bAt, bAnd, bOr, bIf, hw], by simp [atE, atEs, xX, xLit, bLit, bX, bIf, bAt, bJmp, bJf, ha], by simp only [sizE, sizEs, xX, xLit]; omega, by simp only [szX, szXs, xX, xLit, vBool, Vl.zero, szV, szVs]; omega, ?_, ?_⟩
  · rw [hg, choiceP_len]; simp [h.len]
  · rw [hg]; exact vsB_choice h.vs (vs_one (by decide)) (vs_one (by decide))
end Go.Proofs.Ytnojmocoifodjaa.Pv
set_option maxRecDepth 100000
set_option linter.unusedVariables false
set_option linter.unusedSimpArgs false
namespace Go.Proofs.Ytnojmocoifodjaa.Pv
open Go Go.Proofs
theorem rem_op {d : Option Nat} {af : List Nat} {x y : Opd} {s : Slots} {h : HL} {k : IntKind} {a c : Int} (h1 : ev s x = .pv (.int k a)) (h2 : ev s y = .pv (.int k c)) (hc : c ≠ 0) (r : Int) (hr : r = a.tmod c) :
    stepO ⟨d, none, af, .bin .rem x y⟩ s (hget h) = some { v := .pv (.int k r) } := by
  subst hr
  simp [stepO, gd, sem, h1, h2, semBin, hc]
theorem law12_GenSizes {E : Enc} (hE : E = .std) (bs : List Nat) (es : List PV) (hes : es = bs.map fun b => .int .u8 (Int.ofNat b)) : CallsV Try.prog 4 [.view es] (.pv (.bool true)) [] := by
  obtain ⟨A, hA⟩ : ∃ A : Ar, A = .std := ⟨_, rfl⟩
  have hel : es.length = bs.length := by rw [hes, List.length_map]
  have hll : A .lenP es = Int.ofNat bs.length := by rw [Ar.lenP_eq hA, hel]; rfl
  have hnt : A .not true = false := by rw [Ar.not_eq hA]; rfl
  have hvz : E .vls [] = [] := by rw [E.vls_eq hE]; rfl
  have hxz : E .exs [] = [] := by rw [E.exs_eq hE]; rfl
  refine CallsV.ok (fn := Try.f4) (by kernel_rfl) (by kernel_rfl) rfl (by cbv) (by cbv) ?_
  refine Ok.run hmix hA false 2000 (by cbv) ?_
  refine Ok.call (law12_known) (by cbv) (by cbv) (by cbv) ?_
  refine Ok.run hmix hA false 2000 (by cbv) ?_
  rw [hnt]
  refine Ok.condF (by cbv) ?_
  refine Ok.run hmix hA false 2000 (by cbv) ?_
  refine Ok.cond (by cbv) ?_ ?_
  · intro _
    refine Ok.run hmix hA false 2000 (by cbv) ?_
    exact Ok.fin (by cbv) (FS.out (by cbv) (PLe.refl _))
  intro h10
  have h10 : bs.length ≤ 10 := by rw [Ar.lt_eq hA, hll] at h10; simp at h10; omega
  refine Ok.run hmix hA false 2000 (by cbv) ?_
  refine Ok.call (law4_X hE) (by cbv) (by cbv) (by cbv) ?_
  refine Ok.run hmix hA false 2000 (by cbv) ?_
  refine Ok.loopAt [0, 3, 4, 5] [3] (fun mm s h => ∃ (k : Nat) (e : Ex4) (n n' : Nat), mm = bs.length - k ∧ k ≤ bs.length ∧ True ∧ Good e n k ∧ n' = n ∧
    s = mkS 94 [(0, .pv (.view es)), (3, .ptr 3 0), (4, .pv (.int .i64 (Int.ofNat n'))), (5, .pv (.int .i64 (Int.ofNat k)))] ∧ h = [(3, .box ((E.ex e).cells.map .pv) true)]) (bs.length - 0) (by cbv) ⟨0, xX, 1, 1, rfl, Nat.zero_le _, trivial, good0, rfl, by cbv, by cbv⟩ ?_
  rintro mm s h ⟨k, e, n, n', rfl, hk, hok, hg, hn', rfl, rfl⟩
  have hnb : n ≤ 5 + 15 * k := by have := genE_le _ e (Nat.le_refl _); have := hg.siz; have := hg.len; omega
  refine Ok.run hmix hA false 2000 (by cbv) ?_
  refine Ok.cond (by cbv) ?_ ?_
  · intro h1
    rw [Ar.lt_eq hA, hll, decide_eq_true_eq] at h1
    have hkl : k < bs.length := by simpa using h1
    have hx : bs[k]? = some bs[k] := List.getElem?_eq_getElem hkl
    generalize bs[k] = b at hx
    obtain ⟨r, hr⟩ : ∃ r, r = b % 4 := ⟨_, rfl⟩
    refine Ok.run hmix hA false 2000 (by cbv) ?_
    refine Ok.op (idx_view (.int .u8 (Int.ofNat b)) (by cbv) (by cbv) (by simp) (by rw [hes]; simp [hx]) rfl) ?_
    refine Ok.run hmix hA false 2000 (by cbv) ?_
    refine Ok.op (rem_op (by cbv) (by cbv) (by decide) (Int.ofNat r) (by rw [hr]; rfl)) ?_
    refine Ok.run hmix hA false 2000 (by cbv) ?_
    have q0 : A .eq (Int.ofNat r) 0 = decide (r = 0) := by rw [Ar.eq_eq hA]; simp
    have q1 : A .eq (Int.ofNat r) 1 = decide (r = 1) := by rw [Ar.eq_eq hA]; simp; omega
    have q2 : A .eq (Int.ofNat r) 2 = decide (r = 2) := by rw [Ar.eq_eq hA]; simp; omega
    have q3 : A .eq (Int.ofNat r) 3 = decide (r = 3) := by rw [Ar.eq_eq hA]; simp; omega
    obtain ⟨n2, hn2⟩ : ∃ n2, n2 = stepN n b := ⟨_, rfl⟩
    by_cases c0 : r = 0
    · have hst : stepX e b = ⟨bNot, .zero, 0, [e]⟩ := by unfold stepX; rw [if_pos (by omega)]
      have hadd : A .add .i64 (Int.ofNat n') 1 = Int.ofNat n2 := by rw [Ar.succ_eq hA (by omega), hn2, hn']; unfold stepN; rw [if_pos (by omega)]
      rw [q0, decide_eq_true c0]
      refine Ok.condT (by cbv) ?_
      have c0 := law4_Op hE [110, 111, 116] [e]
      simp only [E.exs_eq hE, List.map_cons, List.map_nil] at c0
      refine Ok.run hmix hA false 2000 (by cbv) ?_
      refine Ok.call c0 (by cbv) (by cbv) (by cbv) ?_
      refine Ok.run hmix hA false 2000 (by cbv) ?_
      refine Ok.back (bs.length - (k + 1)) [0, 3, 4, 5] [3] (by omega) (by cbv) ⟨k + 1, stepX e b, stepN n b, n2, rfl, by omega, hok, goodStep hg b, hn2, ?_, by rw [hst]; cbv⟩
      rw [hadd, Ar.succ_eq (k := k) hA (by omega)]; cbv
    rw [q0, decide_eq_false c0]
    refine Ok.condF (by cbv) ?_
    refine Ok.run hmix hA false 2000 (by cbv) ?_
    have hadd4 : A .add .i64 (Int.ofNat n') 4 = Int.ofNat n2 := by
      have : A .add .i64 (Int.ofNat n') (Int.ofNat 4) = Int.ofNat (n' + 4) := ofNat_add hA (by omega)
      rw [hn2, ← hn']; unfold stepN; rw [if_neg (by omega)]; exact this
    rw [q1]
    by_cases c1 : r = 1
    · have hst : stepX e b = ⟨bAnd, .zero, 0, [e, xLit (vBool true)]⟩ := by unfold stepX; rw [if_neg (by omega), if_pos (by omega)]
      rw [decide_eq_true c1]
      refine Ok.condT (by cbv) ?_
      have cO := law4_Op hE [97, 110, 100] [e, xLit (vBool true)]
      simp only [E.exs_eq hE, List.map_cons, List.map_nil] at cO
      refine Ok.run hmix hA false 2000 (by cbv) ?_
      refine Ok.dcall (val_Bool hE true) (by cbv) (by cbv) (by cbv) ?_
      refine Ok.run hmix hA false 2000 (by cbv) ?_
      refine Ok.dcall (law4_Lit hE (vBool true)) (by cbv) (by cbv) (by cbv) ?_
      refine Ok.run hmix hA false 2000 (by cbv) ?_
      refine Ok.dcall cO (by cbv) (by cbv) (by cbv) ?_
      refine Ok.run hmix hA false 2000 (by cbv) ?_
      refine Ok.drawn (by kernel_rfl) ?_
      refine Ok.run hmix hA false 2000 (by cbv) ?_
      refine Ok.back (bs.length - (k + 1)) [0, 3, 4, 5] [3] (by omega) (by cbv) ⟨k + 1, stepX e b, stepN n b, n2, rfl, by omega, hok, goodStep hg b, hn2, ?_, by rw [hst]; cbv⟩
      rw [hadd4, Ar.succ_eq (k := k) hA (by omega)]; cbv
    rw [decide_eq_false c1]
    refine Ok.condF (by cbv) ?_
    refine Ok.run hmix hA false 2000 (by cbv) ?_
    rw [q2]
    by_cases c2 : r = 2
    · have hst : stepX e b = ⟨bOr, .zero, 0, [e, xX]⟩ := by unfold stepX; rw [if_neg (by omega), if_neg (by omega), if_pos (by omega)]
      rw [decide_eq_true c2]
      refine Ok.condT (by cbv) ?_
      have cO := law4_Op hE [111, 114] [e, xX]
      simp only [E.exs_eq hE, List.map_cons, List.map_nil] at cO
      refine Ok.run hmix hA false 2000 (by cbv) ?_
      refine Ok.dcall (law4_X hE) (by cbv) (by cbv) (by cbv) ?_
      refine Ok.run hmix hA false 2000 (by cbv) ?_
      refine Ok.dcall cO (by cbv) (by cbv) (by cbv) ?_
      refine Ok.run hmix hA false 2000 (by cbv) ?_
      refine Ok.drawn (by kernel_rfl) ?_
      refine Ok.run hmix hA false 2000 (by cbv) ?_
      refine Ok.back (bs.length - (k + 1)) [0, 3, 4, 5] [3] (by omega) (by cbv) ⟨k + 1, stepX e b, stepN n b, n2, rfl, by omega, hok, goodStep hg b, hn2, ?_, by rw [hst]; cbv⟩
      rw [hadd4, Ar.succ_eq (k := k) hA (by omega)]; cbv
    rw [decide_eq_false c2]
    refine Ok.condF (by cbv) ?_
    refine Ok.run hmix hA false 2000 (by cbv) ?_
    have c3 : r = 3 := by omega
    have hst : stepX e b = ⟨bIf, .zero, 0, [e, xX, xLit (vBool false)]⟩ := by unfold stepX; rw [if_neg (by omega), if_neg (by omega), if_neg (by omega)]
    rw [q3, decide_eq_true c3]
    refine Ok.condT (by cbv) ?_
    have cO := law4_Op hE [105, 102] [e, xX, xLit (vBool false)]
    simp only [E.exs_eq hE, List.map_cons, List.map_nil] at cO
    refine Ok.run hmix hA false 2000 (by cbv) ?_
    refine Ok.dcall (law4_X hE) (by cbv) (by cbv) (by cbv) ?_
    refine Ok.run hmix hA false 2000 (by cbv) ?_
    refine Ok.dcall (val_Bool hE false) (by cbv) (by cbv) (by cbv) ?_
    refine Ok.run hmix hA false 2000 (by cbv) ?_
    refine Ok.dcall (law4_Lit hE (vBool false)) (by cbv) (by cbv) (by cbv) ?_
    refine Ok.run hmix hA false 2000 (by cbv) ?_
    refine Ok.dcall cO (by cbv) (by cbv) (by cbv) ?_
    refine Ok.run hmix hA false 2000 (by cbv) ?_
    refine Ok.drawn (by kernel_rfl) ?_
    refine Ok.run hmix hA false 2000 (by cbv) ?_
    refine Ok.back (bs.length - (k + 1)) [0, 3, 4, 5] [3] (by omega) (by cbv) ⟨k + 1, stepX e b, stepN n b, n2, rfl, by omega, hok, goodStep hg b, hn2, ?_, by rw [hst]; cbv⟩
    rw [hadd4, Ar.succ_eq (k := k) hA (by omega)]; cbv
  intro h1
  have hke : k = bs.length := by
    rw [Ar.lt_eq hA, hll, decide_eq_false_iff_not] at h1
    simp at h1; omega
  refine Ok.run hmix hA false 2000 (by cbv) ?_
  refine Ok.leave ?_
  refine Ok.run hmix hA false 2000 (by cbv) ?_
  have hsz := hg.siz
  have hlp := hg.len
  have htz : E .tys [] = [] := by rw [E.tys_eq hE]; rfl
  have cE := gen_Expr hE _ e (Nat.le_refl _) hg.wf (by omega)
  have cO := gen_Of hE ⟨3, [], ⟨0, []⟩, [e], ⟨[], .zero, 0, []⟩, 0, 0⟩ ⟨hg.wf, trivial⟩ (by simp only [sizEs]; omega)
  have cK := gen_Key hE ⟨7, [], ⟨0, []⟩, [], e, 0, 0⟩ hg.wf (by simp only []; omega)
  have cL := law4_Of hE _ e (Nat.le_refl _) (by have := hg.szx; omega)
  have cG := ref14_GenExpr hE _ e (Nat.le_refl _) hg.wf (by omega)
  rw [← (gen_eq _ e (Nat.le_refl _) hg.at' (by omega)).1] at cG
  have cS := law11_Same hE (genE e) (by omega) (fun x hx => by have := hg.vs x hx; omega)
  have lO : (genOf ⟨3, [], ⟨0, []⟩, [e], ⟨[], .zero, 0, []⟩, 0, 0⟩).length = n' + 4 := by
    simp [genOf, setN_len, joinTo_len, eachP_len, genAll, emitsP, hlp, hn']
  have lK : (genKey ⟨7, [], ⟨0, []⟩, [], e, 0, 0⟩).length = n' + 2 := by
    simp [genKey, joinTo_len, emitsP, hlp, hn']
  generalize genOf ⟨3, [], ⟨0, []⟩, [e], ⟨[], .zero, 0, []⟩, 0, 0⟩ = pO at cO lO
  generalize genKey ⟨7, [], ⟨0, []⟩, [], e, 0, 0⟩ = pK at cK lK
  generalize genE e = pE at cE cG cS hlp
  have mE : A .lenP (E .ins pE) = Int.ofNat n' := by rw [Ar.lenP_eq hA, E.ins_eq hE, List.length_map, hlp, hn']; rfl
  have mO : A .eq (A .lenP (E .ins pO)) (A .add .i64 (Int.ofNat n') 4) = true := by
    have : A .add .i64 (Int.ofNat n') 4 = Int.ofNat (n' + 4) := ofNat_add (b := 4) hA (by omega)
    rw [this, Ar.lenP_eq hA, E.ins_eq hE, List.length_map, lO, Ar.eq_eq hA]; simp
  have mK : A .eq (A .lenP (E .ins pK)) (A .add .i64 (Int.ofNat n') 2) = true := by
    have : A .add .i64 (Int.ofNat n') 2 = Int.ofNat (n' + 2) := ofNat_add (b := 2) hA (by omega)
    rw [this, Ar.lenP_eq hA, E.ins_eq hE, List.length_map, lK, Ar.eq_eq hA]; simp
  have mN : A .eq (Int.ofNat n') (Int.ofNat n') = true := by rw [Ar.eq_eq hA]; simp
  simp only [Enc.opn, Vl.zero, E.exs_eq hE, List.map_cons, List.map_nil, htz, hvz] at cO
  refine Ok.call (cE) (by cbv) (by cbv) (by cbv) ?_
  refine Ok.run hmix hA false 2000 (by cbv) ?_
  refine Ok.call cO (by cbv) (by cbv) (by cbv) ?_
  refine Ok.run hmix hA false 2000 (by cbv) ?_
  simp only [Enc.opn, htz, hxz] at cK
  refine Ok.call cK (by cbv) (by cbv) (by cbv) ?_
  refine Ok.run hmix hA false 2000 (by cbv) ?_
  rw [mE, mN]
  refine Ok.run hmix hA true 5 (by cbv) ?_
  rw [mO]
  refine Ok.run hmix hA true 7 (by cbv) ?_
  rw [mK]
  refine Ok.run hmix hA true 2000 (by cbv) ?_
  refine Ok.call (cL) (by cbv) (by cbv) (by cbv) ?_
  refine Ok.run hmix hA true 2000 (by cbv) ?_
  refine Ok.call (cG) (by cbv) (by cbv) (by cbv) ?_
  refine Ok.run hmix hA true 2000 (by cbv) ?_
  refine Ok.call (cS) (by cbv) (by cbv) (by cbv) ?_
  refine Ok.run hmix hA true 2000 (by cbv) ?_
  exact Ok.fin (by cbv) (FS.out (by cbv) (PLe.refl _))
end Go.Proofs.Ytnojmocoifodjaa.Pv
set_option linter.unusedVariables false
set_option linter.unusedSimpArgs false
namespace Go.Proofs.Ytnojmocoifodjaa.Pv
open Go Go.RowKit
/-- What stands in memory when a call begins. -/
def old (W : World) : Stb := fun k _ => k < W.heap.size
theorem CallsV.strict {P : Program} {f : FuncId} {args : List PV} {p : PV} (hc : CallsV P f args (.pv p) []) {W : World} {vs : Array Value} (hn : vs.size = args.length) (hR : ∀ (i : Nat) (q : PV), args[i]? = some q → RV (old W) W q (vs.getD i undef)) :
    Calls P f vs W (fun e W' => ∃ v S', e = .returned v ∧ RV S' W' p v ∧ Below W.heap.size W W') := by
  refine (hc.2 (old W) W vs (fun k o h => h) hn hR).mono (fun e W' h => ?_)
  obtain ⟨v, β, S', rfl, a1, a2, a3, a4, a5⟩ := h
  cases a5 with
  | pv hp => exact ⟨v, S', rfl, hp, a1⟩
theorem CallsV.yes {P : Program} {f : FuncId} {args : List PV} (hc : CallsV P f args (.pv (.bool true)) []) {W : World} {vs : Array Value} (hn : vs.size = args.length) (hR : ∀ (i : Nat) (q : PV), args[i]? = some q → RV (old W) W q (vs.getD i undef)) :
    Calls P f vs W (fun e W' => e = .returned (.bool true) ∧ Below W.heap.size W W') :=
  (hc.strict hn hR).mono (fun e W' h => by
    obtain ⟨v, S', rfl, hp, hb⟩ := h
    cases hp
    exact ⟨rfl, hb⟩)
/-- A row of whole numbers that came in. -/
def IsRow (k : IntKind) (w : World) (a : Option Addr) (len cap : Nat) (zs : List Int) : Prop :=
  (a = none ∧ len = 0 ∧ cap = 0 ∧ zs = []) ∨
  ∃ x, a = some x ∧ len ≤ cap ∧ cap ≤ maxLen ∧ zs.length = cap ∧ (∀ i, i < zs.length → w.cell? (x.add i) = some (.int k (zs.getD i 0))) ∧ ∀ n ∈ zs, (Lit.int k n).wf = true
theorem cell_lt {w : World} {b o : Nat} {v : Value} (h : w.cell? ⟨b, o, none⟩ = some v) : b < w.heap.size := by
  unfold World.cell? at h
  cases hb : w.heap[b]? with
  | none => simp [hb] at h
  | some o => exact (Array.getElem?_eq_some_iff.1 hb).1
theorem IsRow.rv {k : IntKind} {w : World} {a : Option Addr} {len cap : Nat} {zs : List Int} (h : IsRow k w a len cap zs) : RV (old w) w (.view ((zs.take len).map fun n => .int k n)) (.slice a len cap) := by
  rcases h with ⟨rfl, rfl, rfl, rfl⟩ | ⟨x, rfl, h1, h2, h3, h4, h5⟩
  · exact .view0 _ _
  · by_cases h0 : len = 0
    · subst h0; exact .view0 _ _
    · obtain ⟨b, off, rfl, hc⟩ := ints_at h4 (by omega)
      have hb : b < w.heap.size := cell_lt (hc 0 (by omega))
      have hl : ((zs.take len).map fun n => PV.int k n).length = len := by rw [List.length_map, List.length_take]; omega
      have hget : ∀ (i : Nat) (e : PV), ((zs.take len).map fun n => PV.int k n)[i]? = some e → i < zs.length ∧ e = .int k (zs.getD i 0) := by
        intro i e he
        rw [List.getElem?_map] at he
        obtain ⟨z, hz, rfl⟩ := Option.map_eq_some_iff.1 he
        rw [List.getElem?_take] at hz
        split at hz
        · have := (List.getElem?_eq_some_iff.1 hz).1
          exact ⟨this, by simp [List.getD, hz]⟩
        · cases hz
      have key := RV.view (S := old w) (W := w) ((zs.take len).map fun n => PV.int k n) b off 1 cap (fun i _ => .int k (zs.getD i 0)) (by omega) h2
        (fun i e he => by obtain ⟨_, rfl⟩ := hget i e he; rfl)
        (fun i e j p he hp => hb)
        (fun i e j p he hp => by
          obtain ⟨h6, rfl⟩ := hget i e he
          have hj : j = 0 := by have := (List.getElem?_eq_some_iff.1 hp).1; simp [PV.cells] at this; exact this
          subst hj
          rw [Nat.mul_one, Nat.add_zero]
          exact hc i h6)
        (fun i e j p he hp => by
          obtain ⟨h6, rfl⟩ := hget i e he
          have hj : j = 0 := by have := (List.getElem?_eq_some_iff.1 hp).1; simp [PV.cells] at this; exact this
          subst hj
          simp [PV.cells] at hp
          subst hp
          exact .int _ _)
      rw [hl] at key
      exact key
end Go.Proofs.Ytnojmocoifodjaa.Pv
set_option maxRecDepth 100000
set_option linter.unusedVariables false
set_option linter.unusedSimpArgs false
namespace Go.Proofs.Ytnojmocoifodjaa.Pv
open Go Go.Proofs Go.RowKit
theorem IsRow.nonneg {w : World} {a : Option Addr} {len cap : Nat} {zs : List Int} (h : IsRow .u8 w a len cap zs) : ∀ n, n ∈ zs → 0 ≤ n := by
  rcases h with ⟨_, _, _, rfl⟩ | ⟨x, _, _, _, _, _, h5⟩
  · intro n hn; simp at hn
  · intro n hn
    have := h5 n hn
    simp only [Lit.wf, Bool.and_eq_true, decide_eq_true_eq] at this
    exact this.1
theorem IsRow.nats {w : World} {a : Option Addr} {len cap : Nat} {zs : List Int} (h : IsRow .u8 w a len cap zs) : ((zs.take len).map fun n => PV.int .u8 n) = ((zs.take len).map Int.toNat).map fun b => .int .u8 (Int.ofNat b) := by
  rw [List.map_map]
  apply List.map_congr_left
  intro n hn
  have := h.nonneg n (List.mem_of_mem_take hn)
  show PV.int .u8 n = .int .u8 (Int.ofNat n.toNat)
  rw [show Int.ofNat n.toNat = n from Int.toNat_of_nonneg this]
theorem GenSizes_walk {W : World} {a : Option Addr} {len cap : Nat} {zs : List Int} (h : IsRow .u8 W a len cap zs) : Calls Try.prog 4 #[.slice a len cap] W (fun e W' => e = .returned (.bool true) ∧ Below W.heap.size W W') :=
  (law12_GenSizes (E := Enc.std) rfl ((zs.take len).map Int.toNat) _ h.nats).yes rfl (fun i q hq => by
    cases i with
    | zero => simp only [List.getElem?_cons_zero, Option.some.injEq] at hq; subst hq; exact h.rv
    | succ i => simp at hq)
end Go.Proofs.Ytnojmocoifodjaa.Pv
