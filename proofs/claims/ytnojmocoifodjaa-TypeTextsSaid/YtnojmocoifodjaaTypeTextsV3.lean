/- The law TypeTexts of this seat: a part of its proof (an abstract evaluator of the code that is proved sound, and contracts of functions), with no condition. -/
import Derived.Test.YtnojmocoifodjaaTypeTextsV2
set_option linter.unusedVariables false
set_option linter.unusedSimpArgs false
namespace Go.Proofs.Ytnojmocoifodjaa.Pv
open Go
/-! ### Types: plain laws -/
mutual
def sameT : Ty → Ty → Bool
  | .mk k l, .mk k' l' => decide (k = k') && sameTs l l'
def sameTs : List Ty → List Ty → Bool
  | [], [] => true
  | x :: l, y :: m => sameT x y && sameTs l m
  | _, _ => false
end
mutual
theorem sameT_iff : ∀ a b, sameT a b = true ↔ a = b
  | .mk k l, .mk k' l' => by rw [sameT, Bool.and_eq_true, sameTs_iff l l', decide_eq_true_eq, Ty.mk.injEq]
theorem sameTs_iff : ∀ a b, sameTs a b = true ↔ a = b
  | [], [] => by simp [sameTs]
  | x :: l, y :: m => by rw [sameTs, Bool.and_eq_true, sameT_iff x y, sameTs_iff l m, List.cons.injEq]
  | [], _ :: _ => by simp [sameTs]
  | _ :: _, [] => by simp [sameTs]
end
theorem sameT_refl (a : Ty) : sameT a a = true := (sameT_iff a a).2 rfl
theorem sameTs_len : ∀ {l m : List Ty}, ¬ l.length = m.length → sameTs l m = false
  | [], [], h => by simp at h
  | x :: l, y :: m, h => by rw [sameTs, sameTs_len (l := l) (m := m) (by simpa using h)]; simp
  | [], _ :: _, _ => rfl
  | _ :: _, [], _ => rfl
mutual
def szT : Ty → Nat
  | .mk k l => 1 + szTs l
def szTs : List Ty → Nat
  | [] => 0
  | x :: l => szT x + szTs l
end
theorem szT_pos : ∀ t, 1 ≤ szT t
  | .mk k l => by rw [szT]; omega
theorem szTs_len : ∀ l, l.length ≤ szTs l
  | [] => by simp
  | x :: l => by have := szTs_len l; have := szT_pos x; rw [szTs, List.length_cons]; omega
theorem szTs_mem : ∀ {l : List Ty} {e : Ty}, e ∈ l → szT e ≤ szTs l
  | [], e, he => by simp at he
  | x :: l, e, he => by
    rw [szTs]
    rcases List.mem_cons.1 he with rfl | he
    · omega
    · have := szTs_mem he; omega
theorem szTs_append : ∀ (l m : List Ty), szTs (l ++ m) = szTs l + szTs m
  | [], m => by simp [szTs]
  | x :: l, m => by rw [List.cons_append, szTs, szTs, szTs_append l m]; omega
def Ty.zero : Ty := ⟨0, []⟩
def rowC (n deep : Int) : Int := if n = 0 then 1 else if n > 8 then 10 else if deep > 4 then 9 else 0
mutual
def ckT : Ty → Nat → Int
  | .mk k l, d => if k = 1 ∨ k = 2 ∨ k = 3 then (if 0 < l.length then 5 else 0) else if k = 4 then (if rowC l.length d ≠ 0 then rowC l.length d else ckTs l (d + 1)) else 5
def ckTs : List Ty → Nat → Int
  | [], _ => 0
  | x :: l, d => if ckT x d ≠ 0 then ckT x d else ckTs l d
end
/-! texts -/
def strip (w s : List UInt8) : Option (List UInt8) := if s.take w.length = w then some (s.drop w.length) else none
def sInt : List UInt8 := [105, 110, 116]
def sBool : List UInt8 := [98, 111, 111, 108]
def sText : List UInt8 := [116, 101, 120, 116]
def wordT (k : Int) : List UInt8 := if k = 1 then sInt else if k = 2 then sBool else if k = 3 then sText else []
mutual
def textT : Ty → List UInt8
  | .mk k l => if k = 4 then [40] ++ textTs true l ++ [41] else wordT k
def textTs : Bool → List Ty → List UInt8
  | _, [] => []
  | b, x :: l => (if b then [] else [44]) ++ textT x ++ textTs false l
end
mutual
def rd : Nat → List UInt8 → Option (Ty × List UInt8)
  | 0, _ => none
  | n + 1, s => match strip sInt s with
    | some r => some (⟨1, []⟩, r)
    | none => match strip sBool s with
      | some r => some (⟨2, []⟩, r)
      | none => match strip sText s with
        | some r => some (⟨3, []⟩, r)
        | none => match strip [40] s with
          | none => none
          | some r => match strip [41] r with
            | some e => some (⟨4, []⟩, e)
            | none => rdL n [] r
def rdL : Nat → List Ty → List UInt8 → Option (Ty × List UInt8)
  | 0, _, _ => none
  | n + 1, acc, r => match rd n r with
    | none => none
    | some (p, r1) => match strip [41] r1 with
      | some e => some (⟨4, acc ++ [p]⟩, e)
      | none => match strip [44] r1 with
        | some r2 => rdL n (acc ++ [p]) r2
        | none => none
end
theorem strip_eq {w s r : List UInt8} (h : strip w s = some r) : s = w ++ r := by
  unfold strip at h
  split at h
  · rename_i hw
    cases h
    conv => lhs; rw [← List.take_append_drop w.length s]
    rw [hw]
  · cases h
theorem textTs_append : ∀ (l : List Ty) (b : Bool) (x : Ty), textTs b (l ++ [x]) = textTs b l ++ (if b && l.isEmpty then [] else [44]) ++ textT x
  | [], b, x => by cases b <;> simp [textTs]
  | y :: l, b, x => by rw [List.cons_append, textTs, textTs_append l false x, textTs]; simp
mutual
theorem rd_text : ∀ (n : Nat) (s : List UInt8) (t : Ty) (r : List UInt8), rd n s = some (t, r) → s = textT t ++ r ∧ szT t + r.length ≤ s.length
  | 0, s, t, r, h => by simp [rd] at h
  | n + 1, s, t, r, h => by
    rw [rd] at h
    split at h
    · rename_i r' h1; cases h; have := strip_eq h1; subst this; simp [textT, wordT, szT, szTs, sInt]; omega
    split at h
    · rename_i r' h1; cases h; have := strip_eq h1; subst this; simp [textT, wordT, szT, szTs, sBool]; omega
    split at h
    · rename_i r' h1; cases h; have := strip_eq h1; subst this; simp [textT, wordT, szT, szTs, sText]; omega
    split at h
    · cases h
    rename_i r1 h1
    have e1 := strip_eq h1
    subst e1
    split at h
    · rename_i r' h2; cases h; have := strip_eq h2; subst this; simp [textT, textTs, szT, szTs]; omega
    · obtain ⟨l, x, rfl, h3, h4⟩ := rdL_text n [] r1 t r h
      refine ⟨?_, by simp [szT, szTs_append, szTs] at h4 ⊢; omega⟩
      have h5 := h4.1
      simp [textTs] at h5
      rw [textT, if_pos rfl, h3, List.nil_append, h5]
      simp
theorem rdL_text : ∀ (n : Nat) (acc : List Ty) (s : List UInt8) (t : Ty) (r : List UInt8), rdL n acc s = some (t, r) → ∃ l x, t = ⟨4, acc ++ l⟩ ∧ s = x ++ [41] ++ r ∧ textTs true (acc ++ l) = textTs true acc ++ (if acc.isEmpty then [] else [44]) ++ x ∧ szTs l + r.length + 1 ≤ s.length
  | 0, acc, s, t, r, h => by simp [rdL] at h
  | n + 1, acc, s, t, r, h => by
    rw [rdL] at h
    split at h
    · cases h
    rename_i p r1 h1
    obtain ⟨e1, z1⟩ := rd_text n s p r1 h1
    split at h
    · rename_i e h2
      cases h
      have e2 := strip_eq h2
      refine ⟨[p], textT p, rfl, by rw [e1, e2]; simp, ?_, ?_⟩
      · rw [textTs_append]; simp
      · simp [szTs, e2] at z1 ⊢; omega
    split at h
    · rename_i r2 h3
      have e3 := strip_eq h3
      obtain ⟨l, x, h4, h5, h6, h7⟩ := rdL_text n (acc ++ [p]) r2 t r h
      refine ⟨p :: l, textT p ++ [44] ++ x, by simpa using h4, ?_, ?_, ?_⟩
      · rw [e1, e3, h5]; simp
      · rw [show acc ++ p :: l = acc ++ [p] ++ l by simp, h6, textTs_append]; simp
      · simp [szTs, e3] at z1 ⊢; omega
    · cases h
end
mutual
theorem textT_len : ∀ t, (textT t).length + 1 ≤ 8 * szT t
  | .mk k l => by
    rw [textT, szT]
    split
    · have := textTs_len l true
      simp; omega
    · unfold wordT sInt sBool sText
      repeat' split
      all_goals simp
      all_goals omega
theorem textTs_len : ∀ l b, (textTs b l).length ≤ 8 * szTs l
  | [], b => by simp [textTs]
  | x :: l, b => by
    have h1 := textT_len x
    have h2 := textTs_len l false
    have h3 := szT_pos x
    rw [textTs, szTs]
    cases b <;> simp <;> omega
end
end Go.Proofs.Ytnojmocoifodjaa.Pv
set_option maxRecDepth 100000
set_option maxHeartbeats 4000000
set_option linter.unusedVariables false
set_option linter.unusedSimpArgs false
namespace Go.Proofs.Ytnojmocoifodjaa.Pv
open Go Go.Proofs
theorem typ_Row (n d : Int) : CallsV Try.prog 107 [.int .i64 n, .int .i64 d] (.pv (.int .i64 (rowC n d))) [] := by
  obtain ⟨A, hA⟩ : ∃ A : Ar, A = .std := ⟨_, rfl⟩
  refine CallsV.ok (fn := Try.f107) (by kernel_rfl) (by kernel_rfl) rfl (by cbv) (by cbv) ?_
  repeat' (first | (apply Ok.run1 hmix hA false 2000; focus (cbv; done)) | (apply Ok.one hmix hA; focus (cbv; done)) | (rw [Ar.notT hA]) | (rw [Ar.notF hA]) | (refine Ok.condT ?_ ?_; focus (cbv; done)) | (refine Ok.condF ?_ ?_; focus (cbv; done)) | (refine Ok.drawnE (by as_aux_lemma => kernel_rfl) ?_) | (apply Ok.cond; (focus (cbv; done)); all_goals (intro hh; (try rw [hh]))) | (apply Ok.splitG; (focus (cbv; done)); all_goals (intro hh; (try rw [hh]))) | (apply Ok.splitP; (focus (cbv; done)); all_goals (intro hh; (try rw [hh]))) | (apply Ok.fin1; (focus (cbv; done)); (focus (cbv; done))) | (apply Ok.fin2; (focus (cbv; done)); (focus (cbv; done))) | (apply Ok.fin3; (focus (cbv; done)); (focus (cbv; done))))
  all_goals (subst hA; simp_all [Ar.std, rowC])
  all_goals (repeat' split <;> omega)
def eachC (g : Ty → Int) : List Ty → Int
  | [] => 0
  | x :: l => if g x ≠ 0 then g x else eachC g l
theorem ckTs_each (d : Nat) : ∀ l, ckTs l d = eachC (fun x => ckT x d) l
  | [] => rfl
  | x :: l => by rw [ckTs, eachC, ckTs_each d l]
theorem typ_each {E : Enc} (hE : E = .std) (f : Nat) (q : PV) (g : Ty → Int) (l : List Ty) (hf : ∀ x, x ∈ l → CallsV Try.prog f [E.tyc x, q] (.pv (.int .i64 (g x))) []) (hl : l.length ≤ 2 ^ 60) :
    CallsV Try.prog 108 [.view (E .tys l), .func f [q]] (.pv (.int .i64 (eachC g l))) [] := by
  obtain ⟨A, hA⟩ : ∃ A : Ar, A = .std := ⟨_, rfl⟩
  obtain ⟨n, hn⟩ : ∃ n, n = l.length := ⟨_, rfl⟩
  have hll : A .lenP (E .tys l) = Int.ofNat n := by rw [Ar.lenP_eq hA, E.tys_eq hE, List.length_map, hn]; rfl
  refine CallsV.ok (fn := Try.f108) (by kernel_rfl) (by kernel_rfl) rfl (by cbv) (by cbv) ?_
  repeat (first | (apply Ok.run1 hmix hA false 2000; focus (cbv; done)) | (apply Ok.one hmix hA; focus (cbv; done)) | (rw [Ar.notT hA]) | (rw [Ar.notF hA]) | (refine Ok.condT ?_ ?_; focus (cbv; done)) | (refine Ok.condF ?_ ?_; focus (cbv; done)) | (refine Ok.drawnE (by as_aux_lemma => kernel_rfl) ?_))
  rw [hll]
  refine Ok.loopAt [1, 8, 9, 10] [] (fun m s h => ∃ k, m = n - k ∧ k ≤ n ∧ eachC g (l.drop k) = eachC g l ∧ s = mkS 21 [(1, .pv (.func f [q])), (8, .pv (.view (E .tys l))), (9, .pv (.int .i64 (Int.ofNat n))), (10, .pv (.int .i64 (Int.ofNat k)))] ∧ h = []) (n - 0) (by cbv) ⟨0, rfl, Nat.zero_le _, rfl, by cbv, by cbv⟩ ?_
  rintro m s h ⟨k, rfl, hk, hc, rfl, rfl⟩
  refine Ok.run hmix hA false 2000 (by cbv) ?_
  rw [ofNat_lt hA]
  by_cases hkl : k < n
  · rw [decide_eq_true hkl]
    repeat (first | (apply Ok.run1 hmix hA false 2000; focus (cbv; done)) | (apply Ok.one hmix hA; focus (cbv; done)) | (rw [Ar.notT hA]) | (rw [Ar.notF hA]) | (refine Ok.condT ?_ ?_; focus (cbv; done)) | (refine Ok.condF ?_ ?_; focus (cbv; done)) | (refine Ok.drawnE (by as_aux_lemma => kernel_rfl) ?_))
    have hx : l[k]? = some (l[k]'(by omega)) := List.getElem?_eq_getElem (by omega)
    have hxm : l[k]'(by omega) ∈ l := List.getElem_mem (by omega)
    have hdl : l.drop k = l[k]'(by omega) :: l.drop (k + 1) := List.drop_eq_getElem_cons (by omega)
    generalize l[k]'(by omega) = x at hx hdl hxm
    rw [hdl, eachC] at hc
    have cx := hf x hxm
    obtain ⟨c, hcc⟩ : ∃ c, c = g x := ⟨_, rfl⟩
    rw [← hcc] at cx hc
    refine Ok.op (idx_view (E.tyc x) (by cbv) (by cbv) (by simp) (by rw [E.tys_eq hE]; simp [hx]) rfl) ?_
    repeat (first | (apply Ok.run1 hmix hA false 2000; focus (cbv; done)) | (apply Ok.one hmix hA; focus (cbv; done)) | (rw [Ar.notT hA]) | (rw [Ar.notF hA]) | (refine Ok.condT ?_ ?_; focus (cbv; done)) | (refine Ok.condF ?_ ?_; focus (cbv; done)) | (refine Ok.drawnE (by as_aux_lemma => kernel_rfl) ?_) | (apply Ok.call (cx); (focus (cbv; done)); (focus (cbv; done)); (focus (cbv; done))) | (apply Ok.dcall (cx); (focus (cbv; done)); (focus (cbv; done)); (focus (cbv; done))))
    rw [Ar.eq_eq hA, Ar.not_eq hA]
    by_cases h0 : c = 0
    · rw [if_neg (by simpa using h0)] at hc
      rw [decide_eq_true h0]
      repeat (first | (apply Ok.run1 hmix hA false 2000; focus (cbv; done)) | (apply Ok.one hmix hA; focus (cbv; done)) | (rw [Ar.notT hA]) | (rw [Ar.notF hA]) | (refine Ok.condT ?_ ?_; focus (cbv; done)) | (refine Ok.condF ?_ ?_; focus (cbv; done)) | (refine Ok.drawnE (by as_aux_lemma => kernel_rfl) ?_))
      rw [Ar.succ_eq hA (by omega)]
      exact Ok.back (n - (k + 1)) [1, 8, 9, 10] [] (by omega) (by cbv) ⟨k + 1, rfl, by omega, hc, by cbv, by cbv⟩
    · rw [if_pos h0] at hc
      rw [decide_eq_false h0, ← hc]
      repeat (first | (apply Ok.run1 hmix hA false 2000; focus (cbv; done)) | (apply Ok.one hmix hA; focus (cbv; done)) | (rw [Ar.notT hA]) | (rw [Ar.notF hA]) | (refine Ok.condT ?_ ?_; focus (cbv; done)) | (refine Ok.condF ?_ ?_; focus (cbv; done)) | (refine Ok.drawnE (by as_aux_lemma => kernel_rfl) ?_))
      refine Ok.leaveRet ?_
      repeat (first | (apply Ok.run1 hmix hA false 2000; focus (cbv; done)) | (apply Ok.one hmix hA; focus (cbv; done)) | (rw [Ar.notT hA]) | (rw [Ar.notF hA]) | (refine Ok.condT ?_ ?_; focus (cbv; done)) | (refine Ok.condF ?_ ?_; focus (cbv; done)) | (refine Ok.drawnE (by as_aux_lemma => kernel_rfl) ?_))
      exact Ok.fin (by cbv) (FS.out (by cbv) (PLe.refl _))
  · rw [decide_eq_false hkl]
    have hke : k = l.length := by omega
    rw [hke, List.drop_length] at hc
    rw [← hc]
    repeat (first | (apply Ok.run1 hmix hA false 2000; focus (cbv; done)) | (apply Ok.one hmix hA; focus (cbv; done)) | (rw [Ar.notT hA]) | (rw [Ar.notF hA]) | (refine Ok.condT ?_ ?_; focus (cbv; done)) | (refine Ok.condF ?_ ?_; focus (cbv; done)) | (refine Ok.drawnE (by as_aux_lemma => kernel_rfl) ?_))
    refine Ok.leave ?_
    repeat (first | (apply Ok.run1 hmix hA false 2000; focus (cbv; done)) | (apply Ok.one hmix hA; focus (cbv; done)) | (rw [Ar.notT hA]) | (rw [Ar.notF hA]) | (refine Ok.condT ?_ ?_; focus (cbv; done)) | (refine Ok.condF ?_ ?_; focus (cbv; done)) | (refine Ok.drawnE (by as_aux_lemma => kernel_rfl) ?_))
    exact Ok.fin (by cbv) (FS.out (by cbv) (PLe.refl _))
theorem typ_check {E : Enc} (hE : E = .std) : ∀ (n : Nat) (t : Ty) (d : Nat), SizeOf.sizeOf t ≤ n → szT t ≤ 2 ^ 40 → d ≤ 1000 → CallsV Try.prog 74 [E.tyc t, .int .i64 (Int.ofNat d)] (.pv (.int .i64 (ckT t d))) [] := by
  intro n
  induction n with
  | zero => intro t d h; cases t; simp at h
  | succ n ih =>
    rintro ⟨kd, l⟩ d hn hsz hd
    obtain ⟨A, hA⟩ : ∃ A : Ar, A = .std := ⟨_, rfl⟩
    rw [szT] at hsz
    have hlen := szTs_len l
    obtain ⟨ln, hln⟩ : ∃ n, n = l.length := ⟨_, rfl⟩
    have hll : A .lenP (E .tys l) = Int.ofNat ln := by rw [Ar.lenP_eq hA, E.tys_eq hE, List.length_map, hln]; rfl
    have hgt : A .lt 0 (Int.ofNat ln) = decide (0 < ln) := ofNat_lt hA 0 ln
    have cR := typ_Row (Int.ofNat ln) (Int.ofNat d)
    obtain ⟨rc, hrc⟩ : ∃ c, c = rowC (Int.ofNat ln) (Int.ofNat d) := ⟨_, rfl⟩
    rw [← hrc] at cR
    have hrd : rc = 0 → d ≤ 4 := by
      intro h
      rw [h] at hrc
      unfold rowC at hrc
      repeat' split at hrc
      all_goals first | omega | (rename_i h4; simp at h4; omega)
    have hsub : d ≤ 4 → ∀ x, x ∈ l → CallsV Try.prog 109 [E.tyc x, .vptr [.int .i64 (Int.ofNat d)]] (.pv (.int .i64 (ckT x (d + 1)))) [] := fun hd4 x hx => by
      have h1 := List.sizeOf_lt_of_mem hx
      have h2 := szTs_mem hx
      simp at hn
      have c := ih x (d + 1) (by omega) (by omega) (by omega)
      obtain ⟨xk, xl⟩ := x
      obtain ⟨d1, hd1⟩ : ∃ d1, d1 = d + 1 := ⟨_, rfl⟩
      rw [← hd1] at c ⊢
      have hs : A .add .i64 (Int.ofNat d) 1 = Int.ofNat d1 := by rw [Ar.succ_eq hA (by omega), hd1]
      clear ih
      refine CallsV.ok (fn := Try.f109) (by kernel_rfl) (by kernel_rfl) rfl (by cbv) (by cbv) ?_
      repeat (first | (apply Ok.run1 hmix hA false 2000; focus (cbv; done)) | (apply Ok.one hmix hA; focus (cbv; done)) | (rw [Ar.notT hA]) | (rw [Ar.notF hA]) | (refine Ok.condT ?_ ?_; focus (cbv; done)) | (refine Ok.condF ?_ ?_; focus (cbv; done)) | (refine Ok.drawnE (by as_aux_lemma => kernel_rfl) ?_))
      rw [hs]
      repeat (first | (apply Ok.run1 hmix hA false 2000; focus (cbv; done)) | (apply Ok.one hmix hA; focus (cbv; done)) | (rw [Ar.notT hA]) | (rw [Ar.notF hA]) | (refine Ok.condT ?_ ?_; focus (cbv; done)) | (refine Ok.condF ?_ ?_; focus (cbv; done)) | (refine Ok.drawnE (by as_aux_lemma => kernel_rfl) ?_) | (apply Ok.call (c); (focus (cbv; done)); (focus (cbv; done)); (focus (cbv; done))) | (apply Ok.dcall (c); (focus (cbv; done)); (focus (cbv; done)); (focus (cbv; done))))
      exact Ok.fin (by cbv) (FS.out (by cbv) (PLe.refl _))
    have cE : d ≤ 4 → CallsV Try.prog 108 [.view (E .tys l), .func 109 [.vptr [.int .i64 (Int.ofNat d)]]] (.pv (.int .i64 (ckTs l (d + 1)))) [] := fun hd4 => by
      rw [ckTs_each]
      exact typ_each hE _ _ (fun x => ckT x (d + 1)) l (hsub hd4) (by omega)
    clear hsub ih
    have hck : ckT ⟨kd, l⟩ d = if kd = 1 ∨ kd = 2 ∨ kd = 3 then (if 0 < ln then 5 else 0) else if kd = 4 then (if rc ≠ 0 then rc else ckTs l (d + 1)) else 5 := by rw [ckT, hln, hrc, hln]; rfl
    rw [hck]
    generalize ckTs l (d + 1) = ce at cE hck ⊢
    refine CallsV.ok (fn := Try.f74) (by kernel_rfl) (by kernel_rfl) rfl (by cbv) (by cbv) ?_
    repeat (first | (apply Ok.run1 hmix hA false 2000; focus (cbv; done)) | (apply Ok.one hmix hA; focus (cbv; done)) | (rw [Ar.notT hA]) | (rw [Ar.notF hA]) | (refine Ok.condT ?_ ?_; focus (cbv; done)) | (refine Ok.condF ?_ ?_; focus (cbv; done)) | (refine Ok.drawnE (by as_aux_lemma => kernel_rfl) ?_))
    have q1 : A .eq kd 1 = decide (kd = 1) := Ar.eq_eq hA _ _
    have q2 : A .eq kd 2 = decide (kd = 2) := Ar.eq_eq hA _ _
    have q3 : A .eq kd 3 = decide (kd = 3) := Ar.eq_eq hA _ _
    have q4 : A .eq kd 4 = decide (kd = 4) := Ar.eq_eq hA _ _
    by_cases h4 : kd = 4
    · subst h4
      rw [show A .eq 4 1 = false by rw [Ar.eq_eq hA]; rfl]
      repeat (first | (apply Ok.run1 hmix hA false 2000; focus (cbv; done)) | (apply Ok.one hmix hA; focus (cbv; done)) | (rw [Ar.notT hA]) | (rw [Ar.notF hA]) | (refine Ok.condT ?_ ?_; focus (cbv; done)) | (refine Ok.condF ?_ ?_; focus (cbv; done)) | (refine Ok.drawnE (by as_aux_lemma => kernel_rfl) ?_))
      rw [show A .eq 4 2 = false by rw [Ar.eq_eq hA]; rfl]
      repeat (first | (apply Ok.run1 hmix hA false 2000; focus (cbv; done)) | (apply Ok.one hmix hA; focus (cbv; done)) | (rw [Ar.notT hA]) | (rw [Ar.notF hA]) | (refine Ok.condT ?_ ?_; focus (cbv; done)) | (refine Ok.condF ?_ ?_; focus (cbv; done)) | (refine Ok.drawnE (by as_aux_lemma => kernel_rfl) ?_))
      rw [show A .eq 4 3 = false by rw [Ar.eq_eq hA]; rfl]
      repeat (first | (apply Ok.run1 hmix hA false 2000; focus (cbv; done)) | (apply Ok.one hmix hA; focus (cbv; done)) | (rw [Ar.notT hA]) | (rw [Ar.notF hA]) | (refine Ok.condT ?_ ?_; focus (cbv; done)) | (refine Ok.condF ?_ ?_; focus (cbv; done)) | (refine Ok.drawnE (by as_aux_lemma => kernel_rfl) ?_))
      rw [show A .eq 4 4 = true by rw [Ar.eq_eq hA]; rfl]
      repeat (first | (apply Ok.run1 hmix hA false 2000; focus (cbv; done)) | (apply Ok.one hmix hA; focus (cbv; done)) | (rw [Ar.notT hA]) | (rw [Ar.notF hA]) | (refine Ok.condT ?_ ?_; focus (cbv; done)) | (refine Ok.condF ?_ ?_; focus (cbv; done)) | (refine Ok.drawnE (by as_aux_lemma => kernel_rfl) ?_))
      rw [hll]
      repeat (first | (apply Ok.run1 hmix hA false 2000; focus (cbv; done)) | (apply Ok.one hmix hA; focus (cbv; done)) | (rw [Ar.notT hA]) | (rw [Ar.notF hA]) | (refine Ok.condT ?_ ?_; focus (cbv; done)) | (refine Ok.condF ?_ ?_; focus (cbv; done)) | (refine Ok.drawnE (by as_aux_lemma => kernel_rfl) ?_) | (apply Ok.call (cR); (focus (cbv; done)); (focus (cbv; done)); (focus (cbv; done))) | (apply Ok.dcall (cR); (focus (cbv; done)); (focus (cbv; done)); (focus (cbv; done))))
      rw [Ar.eq_eq hA, Ar.not_eq hA]
      by_cases h0 : rc = 0
      · rw [decide_eq_true h0]
        have cE' := cE (hrd h0)
        repeat (first | (apply Ok.run1 hmix hA false 2000; focus (cbv; done)) | (apply Ok.one hmix hA; focus (cbv; done)) | (rw [Ar.notT hA]) | (rw [Ar.notF hA]) | (refine Ok.condT ?_ ?_; focus (cbv; done)) | (refine Ok.condF ?_ ?_; focus (cbv; done)) | (refine Ok.drawnE (by as_aux_lemma => kernel_rfl) ?_) | (apply Ok.call (cE'); (focus (cbv; done)); (focus (cbv; done)); (focus (cbv; done))) | (apply Ok.dcall (cE'); (focus (cbv; done)); (focus (cbv; done)); (focus (cbv; done))))
        exact Ok.fin1 (by cbv) (by cbv) (by simp [h0])
      · rw [decide_eq_false h0]
        repeat (first | (apply Ok.run1 hmix hA false 2000; focus (cbv; done)) | (apply Ok.one hmix hA; focus (cbv; done)) | (rw [Ar.notT hA]) | (rw [Ar.notF hA]) | (refine Ok.condT ?_ ?_; focus (cbv; done)) | (refine Ok.condF ?_ ?_; focus (cbv; done)) | (refine Ok.drawnE (by as_aux_lemma => kernel_rfl) ?_))
        exact Ok.fin1 (by cbv) (by cbv) (by simp [h0])
    · repeat' (first | (apply Ok.run1 hmix hA false 2000; focus (cbv; done)) | (apply Ok.one hmix hA; focus (cbv; done)) | (rw [Ar.notT hA]) | (rw [Ar.notF hA]) | (refine Ok.condT ?_ ?_; focus (cbv; done)) | (refine Ok.condF ?_ ?_; focus (cbv; done)) | (refine Ok.drawnE (by as_aux_lemma => kernel_rfl) ?_) | (apply Ok.cond; (focus (cbv; done)); all_goals (intro hh; (try rw [hh]))) | (apply Ok.splitG; (focus (cbv; done)); all_goals (intro hh; (try rw [hh]))) | (apply Ok.splitP; (focus (cbv; done)); all_goals (intro hh; (try rw [hh]))) | (apply Ok.fin1; (focus (cbv; done)); (focus (cbv; done))) | (apply Ok.fin2; (focus (cbv; done)); (focus (cbv; done))) | (apply Ok.fin3; (focus (cbv; done)); (focus (cbv; done))))
      all_goals (simp only [q1, q2, q3, q4, hll, hgt, decide_eq_true_eq, decide_eq_false_iff_not] at *)
      all_goals (first | (exfalso; omega) | (simp_all; done) | skip)
theorem typ_Check {E : Enc} (hE : E = .std) (t : Ty) (hsz : szT t ≤ 2 ^ 40) : CallsV Try.prog 37 [E.tyc t] (.pv (.int .i64 (ckT t 0))) [] := by
  obtain ⟨A, hA⟩ : ∃ A : Ar, A = .std := ⟨_, rfl⟩
  have c := typ_check hE _ t 0 (Nat.le_refl _) hsz (by omega)
  obtain ⟨k, l⟩ := t
  refine CallsV.ok (fn := Try.f37) (by kernel_rfl) (by kernel_rfl) rfl (by cbv) (by cbv) ?_
  repeat (first | (apply Ok.run1 hmix hA false 2000; focus (cbv; done)) | (apply Ok.one hmix hA; focus (cbv; done)) | (rw [Ar.notT hA]) | (rw [Ar.notF hA]) | (refine Ok.condT ?_ ?_; focus (cbv; done)) | (refine Ok.condF ?_ ?_; focus (cbv; done)) | (refine Ok.drawnE (by as_aux_lemma => kernel_rfl) ?_) | (apply Ok.call (c); (focus (cbv; done)); (focus (cbv; done)); (focus (cbv; done))) | (apply Ok.dcall (c); (focus (cbv; done)); (focus (cbv; done)); (focus (cbv; done))))
  exact Ok.fin (by cbv) (FS.out (by cbv) (PLe.refl _))
end Go.Proofs.Ytnojmocoifodjaa.Pv
set_option maxRecDepth 100000
set_option maxHeartbeats 4000000
set_option linter.unusedVariables false
set_option linter.unusedSimpArgs false
namespace Go.Proofs.Ytnojmocoifodjaa.Pv
open Go Go.Proofs
theorem slices_EqualFunc {E : Enc} (hE : E = .std) (f : Nat) (l m : List Ty) (hf : ∀ x y, x ∈ l → y ∈ m → CallsV Try.prog f [E.tyc x, E.tyc y] (.pv (.bool (sameT x y))) []) (hl : l.length ≤ 2 ^ 60) (hm : m.length ≤ 2 ^ 60) :
    CallsV Try.prog 75 [.view (E .tys l), .view (E .tys m), .func f []] (.pv (.bool (sameTs l m))) [] := by
  obtain ⟨A, hA⟩ : ∃ A : Ar, A = .std := ⟨_, rfl⟩
  obtain ⟨n, hn⟩ : ∃ n, n = l.length := ⟨_, rfl⟩
  obtain ⟨n', hn'⟩ : ∃ n, n = m.length := ⟨_, rfl⟩
  have hll : A .lenP (E .tys l) = Int.ofNat n := by rw [Ar.lenP_eq hA, E.tys_eq hE, List.length_map, hn]; rfl
  have hlm : A .lenP (E .tys m) = Int.ofNat n' := by rw [Ar.lenP_eq hA, E.tys_eq hE, List.length_map, hn']; rfl
  refine CallsV.ok (fn := Try.f75) (by kernel_rfl) (by kernel_rfl) rfl (by cbv) (by cbv) ?_
  repeat (first | (apply Ok.run1 hmix hA false 2000; focus (cbv; done)) | (apply Ok.one hmix hA; focus (cbv; done)) | (rw [Ar.notT hA]) | (rw [Ar.notF hA]) | (refine Ok.condT ?_ ?_; focus (cbv; done)) | (refine Ok.condF ?_ ?_; focus (cbv; done)) | (refine Ok.drawnE (by as_aux_lemma => kernel_rfl) ?_))
  rw [hll, hlm, ofNat_eq hA, Ar.not_eq hA]
  by_cases hnn : n = n'
  case neg =>
    rw [decide_eq_false hnn, sameTs_len (by omega)]
    repeat (first | (apply Ok.run1 hmix hA false 2000; focus (cbv; done)) | (apply Ok.one hmix hA; focus (cbv; done)) | (rw [Ar.notT hA]) | (rw [Ar.notF hA]) | (refine Ok.condT ?_ ?_; focus (cbv; done)) | (refine Ok.condF ?_ ?_; focus (cbv; done)) | (refine Ok.drawnE (by as_aux_lemma => kernel_rfl) ?_))
    exact Ok.fin (by cbv) (FS.out (by cbv) (PLe.refl _))
  rw [decide_eq_true hnn]
  repeat (first | (apply Ok.run1 hmix hA false 2000; focus (cbv; done)) | (apply Ok.one hmix hA; focus (cbv; done)) | (rw [Ar.notT hA]) | (rw [Ar.notF hA]) | (refine Ok.condT ?_ ?_; focus (cbv; done)) | (refine Ok.condF ?_ ?_; focus (cbv; done)) | (refine Ok.drawnE (by as_aux_lemma => kernel_rfl) ?_))
  rw [hll]
  refine Ok.loopAt [0, 1, 2, 15, 16, 17] [] (fun mm s h => ∃ k, mm = n - k ∧ k ≤ n ∧ sameTs (l.drop k) (m.drop k) = sameTs l m ∧ s = mkS 32 [(0, .pv (.view (E .tys l))), (1, .pv (.view (E .tys m))), (2, .pv (.func f [])), (15, .pv (.view (E .tys l))), (16, .pv (.int .i64 (Int.ofNat n))), (17, .pv (.int .i64 (Int.ofNat k)))] ∧ h = []) (n - 0) (by cbv) ⟨0, rfl, Nat.zero_le _, rfl, by cbv, by cbv⟩ ?_
  rintro mm s h ⟨k, rfl, hk, hc, rfl, rfl⟩
  refine Ok.run hmix hA false 2000 (by cbv) ?_
  rw [ofNat_lt hA]
  by_cases hkl : k < n
  · rw [decide_eq_true hkl]
    repeat (first | (apply Ok.run1 hmix hA false 2000; focus (cbv; done)) | (apply Ok.one hmix hA; focus (cbv; done)) | (rw [Ar.notT hA]) | (rw [Ar.notF hA]) | (refine Ok.condT ?_ ?_; focus (cbv; done)) | (refine Ok.condF ?_ ?_; focus (cbv; done)) | (refine Ok.drawnE (by as_aux_lemma => kernel_rfl) ?_))
    have hx : l[k]? = some (l[k]'(by omega)) := List.getElem?_eq_getElem (by omega)
    have hxm : l[k]'(by omega) ∈ l := List.getElem_mem (by omega)
    have hdl : l.drop k = l[k]'(by omega) :: l.drop (k + 1) := List.drop_eq_getElem_cons (by omega)
    generalize l[k]'(by omega) = x at hx hdl hxm
    have hy : m[k]? = some (m[k]'(by omega)) := List.getElem?_eq_getElem (by omega)
    have hym : m[k]'(by omega) ∈ m := List.getElem_mem (by omega)
    have hdm : m.drop k = m[k]'(by omega) :: m.drop (k + 1) := List.drop_eq_getElem_cons (by omega)
    generalize m[k]'(by omega) = y at hy hdm hym
    rw [hdl, hdm, sameTs] at hc
    have cxy := hf x y hxm hym
    obtain ⟨c, hcc⟩ : ∃ c, c = sameT x y := ⟨_, rfl⟩
    rw [← hcc] at cxy hc
    refine Ok.op (idx_view (E.tyc x) (by cbv) (by cbv) (by simp) (by rw [E.tys_eq hE]; simp [hx]) rfl) ?_
    repeat (first | (apply Ok.run1 hmix hA false 2000; focus (cbv; done)) | (apply Ok.one hmix hA; focus (cbv; done)) | (rw [Ar.notT hA]) | (rw [Ar.notF hA]) | (refine Ok.condT ?_ ?_; focus (cbv; done)) | (refine Ok.condF ?_ ?_; focus (cbv; done)) | (refine Ok.drawnE (by as_aux_lemma => kernel_rfl) ?_))
    refine Ok.op (idx_view (E.tyc y) (by cbv) (by cbv) (by simp) (by rw [E.tys_eq hE]; simp [hy]) rfl) ?_
    repeat (first | (apply Ok.run1 hmix hA false 2000; focus (cbv; done)) | (apply Ok.one hmix hA; focus (cbv; done)) | (rw [Ar.notT hA]) | (rw [Ar.notF hA]) | (refine Ok.condT ?_ ?_; focus (cbv; done)) | (refine Ok.condF ?_ ?_; focus (cbv; done)) | (refine Ok.drawnE (by as_aux_lemma => kernel_rfl) ?_) | (apply Ok.call (cxy); (focus (cbv; done)); (focus (cbv; done)); (focus (cbv; done))) | (apply Ok.dcall (cxy); (focus (cbv; done)); (focus (cbv; done)); (focus (cbv; done))))
    rw [Ar.not_eq hA]
    cases c
    · rw [← hc]
      repeat (first | (apply Ok.run1 hmix hA false 2000; focus (cbv; done)) | (apply Ok.one hmix hA; focus (cbv; done)) | (rw [Ar.notT hA]) | (rw [Ar.notF hA]) | (refine Ok.condT ?_ ?_; focus (cbv; done)) | (refine Ok.condF ?_ ?_; focus (cbv; done)) | (refine Ok.drawnE (by as_aux_lemma => kernel_rfl) ?_))
      refine Ok.leaveRet ?_
      repeat (first | (apply Ok.run1 hmix hA false 2000; focus (cbv; done)) | (apply Ok.one hmix hA; focus (cbv; done)) | (rw [Ar.notT hA]) | (rw [Ar.notF hA]) | (refine Ok.condT ?_ ?_; focus (cbv; done)) | (refine Ok.condF ?_ ?_; focus (cbv; done)) | (refine Ok.drawnE (by as_aux_lemma => kernel_rfl) ?_))
      exact Ok.fin (by cbv) (FS.out (by cbv) (PLe.refl _))
    · repeat (first | (apply Ok.run1 hmix hA false 2000; focus (cbv; done)) | (apply Ok.one hmix hA; focus (cbv; done)) | (rw [Ar.notT hA]) | (rw [Ar.notF hA]) | (refine Ok.condT ?_ ?_; focus (cbv; done)) | (refine Ok.condF ?_ ?_; focus (cbv; done)) | (refine Ok.drawnE (by as_aux_lemma => kernel_rfl) ?_))
      rw [Ar.succ_eq hA (by omega)]
      exact Ok.back (n - (k + 1)) [0, 1, 2, 15, 16, 17] [] (by omega) (by cbv) ⟨k + 1, rfl, by omega, by simpa using hc, by cbv, by cbv⟩
  · rw [decide_eq_false hkl]
    have hke : k = l.length := by omega
    rw [hke, List.drop_length, show l.length = m.length by omega, List.drop_length] at hc
    rw [← hc]
    repeat (first | (apply Ok.run1 hmix hA false 2000; focus (cbv; done)) | (apply Ok.one hmix hA; focus (cbv; done)) | (rw [Ar.notT hA]) | (rw [Ar.notF hA]) | (refine Ok.condT ?_ ?_; focus (cbv; done)) | (refine Ok.condF ?_ ?_; focus (cbv; done)) | (refine Ok.drawnE (by as_aux_lemma => kernel_rfl) ?_))
    refine Ok.leave ?_
    repeat (first | (apply Ok.run1 hmix hA false 2000; focus (cbv; done)) | (apply Ok.one hmix hA; focus (cbv; done)) | (rw [Ar.notT hA]) | (rw [Ar.notF hA]) | (refine Ok.condT ?_ ?_; focus (cbv; done)) | (refine Ok.condF ?_ ?_; focus (cbv; done)) | (refine Ok.drawnE (by as_aux_lemma => kernel_rfl) ?_))
    exact Ok.fin (by cbv) (FS.out (by cbv) (PLe.refl _))
theorem typ_Same {E : Enc} (hE : E = .std) : ∀ (n : Nat) (v w : Ty), SizeOf.sizeOf v ≤ n → szT v ≤ 2 ^ 50 → szT w ≤ 2 ^ 50 → CallsV Try.prog 38 [E.tyc v, E.tyc w] (.pv (.bool (sameT v w))) [] := by
  intro n
  induction n with
  | zero => intro v w h; cases v; simp at h
  | succ n ih =>
    rintro ⟨k1, l⟩ ⟨k2, m⟩ hn hsz hsw
    obtain ⟨A, hA⟩ : ∃ A : Ar, A = .std := ⟨_, rfl⟩
    rw [szT] at hsz hsw
    have hlen := szTs_len l
    have hlem := szTs_len m
    have hsub : ∀ x y, x ∈ l → y ∈ m → CallsV Try.prog 38 [E.tyc x, E.tyc y] (.pv (.bool (sameT x y))) [] := fun x y hx hy => by
      have h1 := List.sizeOf_lt_of_mem hx
      have h2 := szTs_mem hx
      have h3 := szTs_mem hy
      simp at hn
      exact ih x y (by omega) (by omega) (by omega)
    have cC := slices_EqualFunc hE 38 l m hsub (by omega) (by omega)
    rw [sameT]
    generalize sameTs l m = c at cC ⊢
    clear hsub ih
    have hk : A .eq k1 k2 = decide (k1 = k2) := Ar.eq_eq hA _ _
    generalize decide (k1 = k2) = b at hk ⊢
    refine CallsV.ok (fn := Try.f38) (by kernel_rfl) (by kernel_rfl) rfl (by cbv) (by cbv) ?_
    refine Ok.run hmix hA false 2000 (by cbv) ?_
    rw [hk]
    cases b
    · repeat (first | (apply Ok.run1 hmix hA false 2000; focus (cbv; done)) | (apply Ok.one hmix hA; focus (cbv; done)) | (rw [Ar.notT hA]) | (rw [Ar.notF hA]) | (refine Ok.condT ?_ ?_; focus (cbv; done)) | (refine Ok.condF ?_ ?_; focus (cbv; done)) | (refine Ok.drawnE (by as_aux_lemma => kernel_rfl) ?_) | (apply Ok.call (cC); (focus (cbv; done)); (focus (cbv; done)); (focus (cbv; done))) | (apply Ok.dcall (cC); (focus (cbv; done)); (focus (cbv; done)); (focus (cbv; done))))
      exact Ok.fin (by cbv) (FS.out (by cbv) (PLe.refl _))
    · repeat (first | (apply Ok.run1 hmix hA false 2000; focus (cbv; done)) | (apply Ok.one hmix hA; focus (cbv; done)) | (rw [Ar.notT hA]) | (rw [Ar.notF hA]) | (refine Ok.condT ?_ ?_; focus (cbv; done)) | (refine Ok.condF ?_ ?_; focus (cbv; done)) | (refine Ok.drawnE (by as_aux_lemma => kernel_rfl) ?_) | (apply Ok.call (cC); (focus (cbv; done)); (focus (cbv; done)); (focus (cbv; done))) | (apply Ok.dcall (cC); (focus (cbv; done)); (focus (cbv; done)); (focus (cbv; done))))
      exact Ok.fin (by cbv) (FS.out (by cbv) (PLe.refl _))
end Go.Proofs.Ytnojmocoifodjaa.Pv
set_option maxRecDepth 100000
set_option maxHeartbeats 4000000
set_option linter.unusedVariables false
set_option linter.unusedSimpArgs false
namespace Go.Proofs.Ytnojmocoifodjaa.Pv
open Go Go.Proofs
theorem joinB_text : ∀ l : List Ty, joinB [44] (l.map textT) = textTs true l
  | [] => rfl
  | [x] => by simp [joinB, textTs]
  | x :: y :: l => by
    have ih := joinB_text (y :: l)
    simp only [List.map_cons] at ih ⊢
    rw [joinB, ih]
    simp [textTs]
theorem typ_word (k : Int) : CallsV Try.prog 72 [.int .i64 k] (.pv (.str (wordT k))) [] := by
  obtain ⟨A, hA⟩ : ∃ A : Ar, A = .std := ⟨_, rfl⟩
  refine CallsV.ok (fn := Try.f72) (by kernel_rfl) (by kernel_rfl) rfl (by cbv) (by cbv) ?_
  repeat' (first | (apply Ok.run1 hmix hA false 2000; focus (cbv; done)) | (apply Ok.one hmix hA; focus (cbv; done)) | (rw [Ar.notT hA]) | (rw [Ar.notF hA]) | (refine Ok.condT ?_ ?_; focus (cbv; done)) | (refine Ok.condF ?_ ?_; focus (cbv; done)) | (refine Ok.drawnE (by as_aux_lemma => kernel_rfl) ?_) | (apply Ok.cond; (focus (cbv; done)); all_goals (intro hh; (try rw [hh]))) | (apply Ok.splitG; (focus (cbv; done)); all_goals (intro hh; (try rw [hh]))) | (apply Ok.splitP; (focus (cbv; done)); all_goals (intro hh; (try rw [hh]))) | (apply Ok.fin1; (focus (cbv; done)); (focus (cbv; done))) | (apply Ok.fin2; (focus (cbv; done)); (focus (cbv; done))) | (apply Ok.fin3; (focus (cbv; done)); (focus (cbv; done))))
  all_goals (subst hA; simp_all [Ar.std, wordT, sInt, sBool, sText])
theorem typ_Text {E : Enc} (hE : E = .std) : ∀ (n : Nat) (t : Ty), SizeOf.sizeOf t ≤ n → szT t ≤ 2 ^ 30 → CallsV Try.prog 36 [E.tyc t] (.pv (.str (textT t))) [] := by
  intro n
  induction n with
  | zero => intro t h; cases t; simp at h
  | succ n ih =>
    rintro ⟨kd, l⟩ hn hsz
    obtain ⟨A, hA⟩ : ∃ A : Ar, A = .std := ⟨_, rfl⟩
    rw [szT] at hsz
    have hlen := szTs_len l
    obtain ⟨ln, hln⟩ : ∃ n, n = l.length := ⟨_, rfl⟩
    have hll : A .lenP (E .tys l) = Int.ofNat ln := by rw [Ar.lenP_eq hA, E.tys_eq hE, List.length_map, hln]; rfl
    have hsub : ∀ x, x ∈ l → CallsV Try.prog 36 [E.tyc x] (.pv (.str (textT x))) [] := fun x hx => by
      have h1 := List.sizeOf_lt_of_mem hx
      have h2 := szTs_mem hx
      simp at hn
      exact ih x (by omega) (by omega)
    obtain ⟨tx, htx⟩ : ∃ s, s = textTs true l := ⟨_, rfl⟩
    have htl : tx.length ≤ 8 * szTs l := by rw [htx]; exact textTs_len l true
    have cJ : CallsV Try.prog 73 [.view ((l.map textT).map .str), .str [44]] (.pv (.str tx)) [] := by
      rw [htx, ← joinB_text]
      exact strings_Join [44] (l.map textT) (by rw [joinB_text, ← htx]; omega) (by simp; omega)
    have cW := typ_word kd
    rw [textT]
    clear ih
    refine CallsV.ok (fn := Try.f36) (by kernel_rfl) (by kernel_rfl) rfl (by cbv) (by cbv) ?_
    refine Ok.run hmix hA false 2000 (by cbv) ?_
    rw [Ar.eq_eq hA, Ar.not_eq hA]
    by_cases h4 : kd = 4
    case neg =>
      rw [decide_eq_false h4, if_neg h4]
      repeat (first | (apply Ok.run1 hmix hA false 2000; focus (cbv; done)) | (apply Ok.one hmix hA; focus (cbv; done)) | (rw [Ar.notT hA]) | (rw [Ar.notF hA]) | (refine Ok.condT ?_ ?_; focus (cbv; done)) | (refine Ok.condF ?_ ?_; focus (cbv; done)) | (refine Ok.drawnE (by as_aux_lemma => kernel_rfl) ?_) | (apply Ok.call (cW); (focus (cbv; done)); (focus (cbv; done)); (focus (cbv; done))) | (apply Ok.dcall (cW); (focus (cbv; done)); (focus (cbv; done)); (focus (cbv; done))))
      exact Ok.fin (by cbv) (FS.out (by cbv) (PLe.refl _))
    rw [decide_eq_true h4, if_pos h4, ← htx]
    repeat (first | (apply Ok.run1 hmix hA false 2000; focus (cbv; done)) | (apply Ok.one hmix hA; focus (cbv; done)) | (rw [Ar.notT hA]) | (rw [Ar.notF hA]) | (refine Ok.condT ?_ ?_; focus (cbv; done)) | (refine Ok.condF ?_ ?_; focus (cbv; done)) | (refine Ok.drawnE (by as_aux_lemma => kernel_rfl) ?_))
    rw [hll]
    refine Ok.le (Le.nil 3 23 9 1 (by cbv) (by cbv) (by decide)) ?_
    refine Ok.loopAt [3, 13, 14, 15] [23] (fun m s h => ∃ (k k' : Nat) (es : List PV), m = ln - k ∧ k ≤ ln ∧ k' = k ∧ es = ((l.take k).map textT).map .str ∧
      s = mkS 29 [(3, .ref 23 k'), (13, .pv (.view (E .tys l))), (14, .pv (.int .i64 (Int.ofNat ln))), (15, .pv (.int .i64 (Int.ofNat k)))] ∧ h = [(23, .row 9 1 es true)]) (ln - 0) (by cbv) ⟨0, 0, [], rfl, Nat.zero_le _, rfl, rfl, by cbv, by cbv⟩ ?_
    rintro m s h ⟨k, k', es, rfl, hk, hk', hes, rfl, rfl⟩
    have hesl : k' = es.length := by rw [hes]; simp; omega
    refine Ok.run hmix hA false 2000 (by cbv) ?_
    rw [ofNat_lt hA]
    by_cases hkl : k < ln
    · rw [decide_eq_true hkl]
      repeat (first | (apply Ok.run1 hmix hA false 2000; focus (cbv; done)) | (apply Ok.one hmix hA; focus (cbv; done)) | (rw [Ar.notT hA]) | (rw [Ar.notF hA]) | (refine Ok.condT ?_ ?_; focus (cbv; done)) | (refine Ok.condF ?_ ?_; focus (cbv; done)) | (refine Ok.drawnE (by as_aux_lemma => kernel_rfl) ?_))
      have hx : l[k]? = some (l[k]'(by omega)) := List.getElem?_eq_getElem (by omega)
      have hxm : l[k]'(by omega) ∈ l := List.getElem_mem (by omega)
      have htk : l.take (k + 1) = l.take k ++ [l[k]'(by omega)] := by rw [List.take_add_one, hx]; rfl
      generalize l[k]'(by omega) = x at hx hxm htk
      have cx := hsub x hxm
      obtain ⟨tt, htt⟩ : ∃ s, s = textT x := ⟨_, rfl⟩
      rw [← htt] at cx
      refine Ok.op (idx_view (E.tyc x) (by cbv) (by cbv) (by simp) (by rw [E.tys_eq hE]; simp [hx]) rfl) ?_
      repeat (first | (apply Ok.run1 hmix hA false 2000; focus (cbv; done)) | (apply Ok.one hmix hA; focus (cbv; done)) | (rw [Ar.notT hA]) | (rw [Ar.notF hA]) | (refine Ok.condT ?_ ?_; focus (cbv; done)) | (refine Ok.condF ?_ ?_; focus (cbv; done)) | (refine Ok.drawnE (by as_aux_lemma => kernel_rfl) ?_) | (apply Ok.call (cx); (focus (cbv; done)); (focus (cbv; done)); (focus (cbv; done))) | (apply Ok.dcall (cx); (focus (cbv; done)); (focus (cbv; done)); (focus (cbv; done))))
      obtain ⟨es3, hes3⟩ : ∃ es3, es3 = es ++ [.str tt] := ⟨_, rfl⟩
      obtain ⟨n3, hn3⟩ : ∃ n3, n3 = k' + 1 := ⟨_, rfl⟩
      refine Ok.op (app_ref (by cbv) (by cbv) hesl (by cbv) (by cbv) (by decide) (by simp only [List.length_singleton]; omega) (by unfold maxLen; simp only [List.length_singleton]; omega) n3 (by exact hn3) es3 (by rw [hes3])) ?_
      repeat (first | (apply Ok.run1 hmix hA false 2000; focus (cbv; done)) | (apply Ok.one hmix hA; focus (cbv; done)) | (rw [Ar.notT hA]) | (rw [Ar.notF hA]) | (refine Ok.condT ?_ ?_; focus (cbv; done)) | (refine Ok.condF ?_ ?_; focus (cbv; done)) | (refine Ok.drawnE (by as_aux_lemma => kernel_rfl) ?_))
      rw [Ar.succ_eq hA (by omega)]
      exact Ok.back (ln - (k + 1)) [3, 13, 14, 15] [23] (by omega) (by cbv) ⟨k + 1, n3, es3, rfl, by omega, by omega, by rw [hes3, hes, htk, htt]; simp, by cbv, by cbv⟩
    · rw [decide_eq_false hkl]
      have hke : k = l.length := by omega
      rw [hke, List.take_length] at hes
      rw [← hes] at cJ
      repeat (first | (apply Ok.run1 hmix hA false 2000; focus (cbv; done)) | (apply Ok.one hmix hA; focus (cbv; done)) | (rw [Ar.notT hA]) | (rw [Ar.notF hA]) | (refine Ok.condT ?_ ?_; focus (cbv; done)) | (refine Ok.condF ?_ ?_; focus (cbv; done)) | (refine Ok.drawnE (by as_aux_lemma => kernel_rfl) ?_))
      refine Ok.leave ?_
      refine Ok.run hmix hA false 2000 (by cbv) ?_
      refine Ok.call (ids := [23]) (cJ) (by cbv) (by simp [callArgs, frz2, frz1, frz0, frzL, rowOf, hget, ev, PV.rlx, ← hesl]) (by cbv) ?_
      refine Ok.run hmix hA false 2000 (by cbv) ?_
      refine Ok.op (sadd_op (by cbv) (by cbv) (by simp; omega) _ rfl) ?_
      refine Ok.run hmix hA false 2000 (by cbv) ?_
      refine Ok.op (sadd_op (by cbv) (by cbv) (by simp; omega) _ rfl) ?_
      repeat (first | (apply Ok.run1 hmix hA false 2000; focus (cbv; done)) | (apply Ok.one hmix hA; focus (cbv; done)) | (rw [Ar.notT hA]) | (rw [Ar.notF hA]) | (refine Ok.condT ?_ ?_; focus (cbv; done)) | (refine Ok.condF ?_ ?_; focus (cbv; done)) | (refine Ok.drawnE (by as_aux_lemma => kernel_rfl) ?_))
      exact Ok.fin (by cbv) (FS.out (by cbv) (PLe.refl _))
theorem ref6_checkType {E : Enc} (hE : E = .std) : ∀ (n : Nat) (t : Ty) (d : Nat), SizeOf.sizeOf t ≤ n → szT t ≤ 2 ^ 40 → d ≤ 1000 → CallsV Try.prog 76 [E.tyc t, .int .i64 (Int.ofNat d)] (.pv (.int .i64 (ckT t d))) [] := by
  intro n
  induction n with
  | zero => intro t d h; cases t; simp at h
  | succ n ih =>
    rintro ⟨kd, l⟩ d hn hsz hd
    obtain ⟨A, hA⟩ : ∃ A : Ar, A = .std := ⟨_, rfl⟩
    rw [szT] at hsz
    have hlen := szTs_len l
    obtain ⟨ln, hln⟩ : ∃ n, n = l.length := ⟨_, rfl⟩
    have hll : A .lenP (E .tys l) = Int.ofNat ln := by rw [Ar.lenP_eq hA, E.tys_eq hE, List.length_map, hln]; rfl
    have hgt : A .lt 0 (Int.ofNat ln) = decide (0 < ln) := ofNat_lt hA 0 ln
    have hg8 : A .lt 8 (Int.ofNat ln) = decide (8 < ln) := ofNat_lt hA 8 ln
    have he0 : A .eq (Int.ofNat ln) 0 = decide (ln = 0) := ofNat_eq hA ln 0
    have hd4 : A .lt 4 (Int.ofNat d) = decide (4 < d) := ofNat_lt hA 4 d
    have q1 : A .lt kd 1 = decide (kd < 1) := Ar.lt_eq hA _ _
    have q2 : A .lt 4 kd = decide (4 < kd) := Ar.lt_eq hA _ _
    have q3 : A .not (A .eq kd 4) = !decide (kd = 4) := by rw [Ar.not_eq hA, Ar.eq_eq hA]
    have hsub : d ≤ 4 → ∀ x, x ∈ l → CallsV Try.prog 76 [E.tyc x, .int .i64 (Int.ofNat (d + 1))] (.pv (.int .i64 (ckT x (d + 1)))) [] := fun hd4 x hx => by
      have h1 := List.sizeOf_lt_of_mem hx
      have h2 := szTs_mem hx
      simp at hn
      exact ih x (d + 1) (by omega) (by omega) (by omega)
    clear ih
    have hck : ckT ⟨kd, l⟩ d = if kd < 1 ∨ 4 < kd ∨ (kd ≠ 4 ∧ 0 < ln) then 5 else if kd ≠ 4 then 0 else if ln = 0 then 1 else if 8 < ln then 10 else if 4 < d then 9 else ckTs l (d + 1) := by
      rw [ckT, ← hln]
      unfold rowC
      by_cases h4 : kd = 4
      · subst h4
        simp only [show ¬ ((4 : Int) = 1 ∨ (4 : Int) = 2 ∨ (4 : Int) = 3) by omega, show ¬ ((4 : Int) < 1 ∨ (4 : Int) < 4 ∨ ((4 : Int) ≠ 4 ∧ 0 < ln)) by omega, if_false, if_true, ne_eq, not_true_eq_false]
        by_cases a1 : ln = 0
        · simp [a1]
        · by_cases a2 : 8 < ln
          · simp [a1, a2, show (ln : Int) > 8 by omega]
          · by_cases a3 : 4 < d
            · simp [a1, a2, show ¬ (ln : Int) > 8 by omega, show (d : Int) > 4 by omega, a3]
            · simp [a1, a2, show ¬ (ln : Int) > 8 by omega, show ¬ (d : Int) > 4 by omega, a3]
      · by_cases h5 : kd = 1 ∨ kd = 2 ∨ kd = 3
        · rw [if_pos h5]
          by_cases a1 : 0 < ln
          · rw [if_pos a1, if_pos (by omega)]
          · rw [if_neg a1, if_neg (by omega), if_pos h4]
        · rw [if_neg h5, if_neg h4, if_pos (by omega)]
    rw [hck]
    refine CallsV.ok (fn := Try.f76) (by kernel_rfl) (by kernel_rfl) rfl (by cbv) (by cbv) ?_
    refine Ok.run hmix hA false 2000 (by cbv) ?_
    rw [q1]
    by_cases h1 : kd < 1
    · rw [decide_eq_true h1, if_pos (by omega)]
      repeat (first | (apply Ok.run1 hmix hA false 2000; focus (cbv; done)) | (apply Ok.one hmix hA; focus (cbv; done)) | (rw [Ar.notT hA]) | (rw [Ar.notF hA]) | (refine Ok.condT ?_ ?_; focus (cbv; done)) | (refine Ok.condF ?_ ?_; focus (cbv; done)) | (refine Ok.drawnE (by as_aux_lemma => kernel_rfl) ?_))
      exact Ok.fin (by cbv) (FS.out (by cbv) (PLe.refl _))
    rw [decide_eq_false h1]
    repeat (first | (apply Ok.run1 hmix hA false 2000; focus (cbv; done)) | (apply Ok.one hmix hA; focus (cbv; done)) | (rw [Ar.notT hA]) | (rw [Ar.notF hA]) | (refine Ok.condT ?_ ?_; focus (cbv; done)) | (refine Ok.condF ?_ ?_; focus (cbv; done)) | (refine Ok.drawnE (by as_aux_lemma => kernel_rfl) ?_))
    rw [q2]
    by_cases h2 : 4 < kd
    · rw [decide_eq_true h2, if_pos (by omega)]
      repeat (first | (apply Ok.run1 hmix hA false 2000; focus (cbv; done)) | (apply Ok.one hmix hA; focus (cbv; done)) | (rw [Ar.notT hA]) | (rw [Ar.notF hA]) | (refine Ok.condT ?_ ?_; focus (cbv; done)) | (refine Ok.condF ?_ ?_; focus (cbv; done)) | (refine Ok.drawnE (by as_aux_lemma => kernel_rfl) ?_))
      exact Ok.fin (by cbv) (FS.out (by cbv) (PLe.refl _))
    rw [decide_eq_false h2]
    repeat (first | (apply Ok.run1 hmix hA false 2000; focus (cbv; done)) | (apply Ok.one hmix hA; focus (cbv; done)) | (rw [Ar.notT hA]) | (rw [Ar.notF hA]) | (refine Ok.condT ?_ ?_; focus (cbv; done)) | (refine Ok.condF ?_ ?_; focus (cbv; done)) | (refine Ok.drawnE (by as_aux_lemma => kernel_rfl) ?_))
    rw [q3]
    by_cases h4 : kd = 4
    case neg =>
      rw [decide_eq_false h4]
      repeat (first | (apply Ok.run1 hmix hA false 2000; focus (cbv; done)) | (apply Ok.one hmix hA; focus (cbv; done)) | (rw [Ar.notT hA]) | (rw [Ar.notF hA]) | (refine Ok.condT ?_ ?_; focus (cbv; done)) | (refine Ok.condF ?_ ?_; focus (cbv; done)) | (refine Ok.drawnE (by as_aux_lemma => kernel_rfl) ?_))
      rw [hll, hgt]
      by_cases h5 : 0 < ln
      · rw [decide_eq_true h5, if_pos (by omega)]
        repeat (first | (apply Ok.run1 hmix hA false 2000; focus (cbv; done)) | (apply Ok.one hmix hA; focus (cbv; done)) | (rw [Ar.notT hA]) | (rw [Ar.notF hA]) | (refine Ok.condT ?_ ?_; focus (cbv; done)) | (refine Ok.condF ?_ ?_; focus (cbv; done)) | (refine Ok.drawnE (by as_aux_lemma => kernel_rfl) ?_))
        exact Ok.fin (by cbv) (FS.out (by cbv) (PLe.refl _))
      · rw [decide_eq_false h5, if_neg (by omega), if_pos h4]
        repeat (first | (apply Ok.run1 hmix hA false 2000; focus (cbv; done)) | (apply Ok.one hmix hA; focus (cbv; done)) | (rw [Ar.notT hA]) | (rw [Ar.notF hA]) | (refine Ok.condT ?_ ?_; focus (cbv; done)) | (refine Ok.condF ?_ ?_; focus (cbv; done)) | (refine Ok.drawnE (by as_aux_lemma => kernel_rfl) ?_))
        rw [q3, decide_eq_false h4]
        repeat (first | (apply Ok.run1 hmix hA false 2000; focus (cbv; done)) | (apply Ok.one hmix hA; focus (cbv; done)) | (rw [Ar.notT hA]) | (rw [Ar.notF hA]) | (refine Ok.condT ?_ ?_; focus (cbv; done)) | (refine Ok.condF ?_ ?_; focus (cbv; done)) | (refine Ok.drawnE (by as_aux_lemma => kernel_rfl) ?_))
        exact Ok.fin (by cbv) (FS.out (by cbv) (PLe.refl _))
    rw [decide_eq_true h4, if_neg (by omega), if_neg (by simpa using h4)]
    repeat (first | (apply Ok.run1 hmix hA false 2000; focus (cbv; done)) | (apply Ok.one hmix hA; focus (cbv; done)) | (rw [Ar.notT hA]) | (rw [Ar.notF hA]) | (refine Ok.condT ?_ ?_; focus (cbv; done)) | (refine Ok.condF ?_ ?_; focus (cbv; done)) | (refine Ok.drawnE (by as_aux_lemma => kernel_rfl) ?_))
    rw [q3, decide_eq_true h4]
    repeat (first | (apply Ok.run1 hmix hA false 2000; focus (cbv; done)) | (apply Ok.one hmix hA; focus (cbv; done)) | (rw [Ar.notT hA]) | (rw [Ar.notF hA]) | (refine Ok.condT ?_ ?_; focus (cbv; done)) | (refine Ok.condF ?_ ?_; focus (cbv; done)) | (refine Ok.drawnE (by as_aux_lemma => kernel_rfl) ?_))
    rw [hll, he0]
    by_cases h6 : ln = 0
    · rw [decide_eq_true h6, if_pos h6]
      repeat (first | (apply Ok.run1 hmix hA false 2000; focus (cbv; done)) | (apply Ok.one hmix hA; focus (cbv; done)) | (rw [Ar.notT hA]) | (rw [Ar.notF hA]) | (refine Ok.condT ?_ ?_; focus (cbv; done)) | (refine Ok.condF ?_ ?_; focus (cbv; done)) | (refine Ok.drawnE (by as_aux_lemma => kernel_rfl) ?_))
      exact Ok.fin (by cbv) (FS.out (by cbv) (PLe.refl _))
    rw [decide_eq_false h6, if_neg h6]
    repeat (first | (apply Ok.run1 hmix hA false 2000; focus (cbv; done)) | (apply Ok.one hmix hA; focus (cbv; done)) | (rw [Ar.notT hA]) | (rw [Ar.notF hA]) | (refine Ok.condT ?_ ?_; focus (cbv; done)) | (refine Ok.condF ?_ ?_; focus (cbv; done)) | (refine Ok.drawnE (by as_aux_lemma => kernel_rfl) ?_))
    rw [hll, hg8]
    by_cases h7 : 8 < ln
    · rw [decide_eq_true h7, if_pos h7]
      repeat (first | (apply Ok.run1 hmix hA false 2000; focus (cbv; done)) | (apply Ok.one hmix hA; focus (cbv; done)) | (rw [Ar.notT hA]) | (rw [Ar.notF hA]) | (refine Ok.condT ?_ ?_; focus (cbv; done)) | (refine Ok.condF ?_ ?_; focus (cbv; done)) | (refine Ok.drawnE (by as_aux_lemma => kernel_rfl) ?_))
      exact Ok.fin (by cbv) (FS.out (by cbv) (PLe.refl _))
    rw [decide_eq_false h7, if_neg h7]
    repeat (first | (apply Ok.run1 hmix hA false 2000; focus (cbv; done)) | (apply Ok.one hmix hA; focus (cbv; done)) | (rw [Ar.notT hA]) | (rw [Ar.notF hA]) | (refine Ok.condT ?_ ?_; focus (cbv; done)) | (refine Ok.condF ?_ ?_; focus (cbv; done)) | (refine Ok.drawnE (by as_aux_lemma => kernel_rfl) ?_))
    rw [hd4]
    by_cases h8 : 4 < d
    · rw [decide_eq_true h8, if_pos h8]
      repeat (first | (apply Ok.run1 hmix hA false 2000; focus (cbv; done)) | (apply Ok.one hmix hA; focus (cbv; done)) | (rw [Ar.notT hA]) | (rw [Ar.notF hA]) | (refine Ok.condT ?_ ?_; focus (cbv; done)) | (refine Ok.condF ?_ ?_; focus (cbv; done)) | (refine Ok.drawnE (by as_aux_lemma => kernel_rfl) ?_))
      exact Ok.fin (by cbv) (FS.out (by cbv) (PLe.refl _))
    rw [decide_eq_false h8, if_neg h8]
    repeat (first | (apply Ok.run1 hmix hA false 2000; focus (cbv; done)) | (apply Ok.one hmix hA; focus (cbv; done)) | (rw [Ar.notT hA]) | (rw [Ar.notF hA]) | (refine Ok.condT ?_ ?_; focus (cbv; done)) | (refine Ok.condF ?_ ?_; focus (cbv; done)) | (refine Ok.drawnE (by as_aux_lemma => kernel_rfl) ?_))
    have hsub := hsub (by omega)
    obtain ⟨d1, hd1⟩ : ∃ d1, d1 = d + 1 := ⟨_, rfl⟩
    rw [← hd1] at hsub ⊢
    refine Ok.loopAt [1, 2, 5] [2] (fun m s h => ∃ k, m = ln - k ∧ k ≤ ln ∧ ckTs (l.drop k) d1 = ckTs l d1 ∧ s = mkS 62 [(1, .pv (.int .i64 (Int.ofNat d))), (2, .ptr 2 0), (5, .pv (.int .i64 (Int.ofNat k)))] ∧
      h = [(2, .box [.pv (.int .i64 kd), .pv (.view (E .tys l))] true)]) (ln - 0) (by cbv) ⟨0, rfl, Nat.zero_le _, rfl, by cbv, by cbv⟩ ?_
    rintro m s h ⟨k, rfl, hk, hc, rfl, rfl⟩
    refine Ok.run hmix hA false 2000 (by cbv) ?_
    rw [hll, ofNat_lt hA]
    by_cases hkl : k < ln
    · rw [decide_eq_true hkl]
      repeat (first | (apply Ok.run1 hmix hA false 2000; focus (cbv; done)) | (apply Ok.one hmix hA; focus (cbv; done)) | (rw [Ar.notT hA]) | (rw [Ar.notF hA]) | (refine Ok.condT ?_ ?_; focus (cbv; done)) | (refine Ok.condF ?_ ?_; focus (cbv; done)) | (refine Ok.drawnE (by as_aux_lemma => kernel_rfl) ?_))
      have hx : l[k]? = some (l[k]'(by omega)) := List.getElem?_eq_getElem (by omega)
      have hxm : l[k]'(by omega) ∈ l := List.getElem_mem (by omega)
      have hdl : l.drop k = l[k]'(by omega) :: l.drop (k + 1) := List.drop_eq_getElem_cons (by omega)
      generalize l[k]'(by omega) = x at hx hdl hxm
      rw [hdl, ckTs] at hc
      have cx := hsub x hxm
      obtain ⟨c, hcc⟩ : ∃ c, c = ckT x d1 := ⟨_, rfl⟩
      rw [← hcc] at cx hc
      refine Ok.op (idx_view (E.tyc x) (by cbv) (by cbv) (by simp) (by rw [E.tys_eq hE]; simp [hx]) rfl) ?_
      refine Ok.run hmix hA false 2000 (by cbv) ?_
      rw [Ar.succ_eq (k := d) hA (by omega), ← hd1]
      repeat (first | (apply Ok.run1 hmix hA false 2000; focus (cbv; done)) | (apply Ok.one hmix hA; focus (cbv; done)) | (rw [Ar.notT hA]) | (rw [Ar.notF hA]) | (refine Ok.condT ?_ ?_; focus (cbv; done)) | (refine Ok.condF ?_ ?_; focus (cbv; done)) | (refine Ok.drawnE (by as_aux_lemma => kernel_rfl) ?_) | (apply Ok.call (cx); (focus (cbv; done)); (focus (cbv; done)); (focus (cbv; done))) | (apply Ok.dcall (cx); (focus (cbv; done)); (focus (cbv; done)); (focus (cbv; done))))
      rw [Ar.eq_eq hA, Ar.not_eq hA]
      by_cases h0 : c = 0
      · rw [if_neg (by simpa using h0)] at hc
        rw [decide_eq_true h0]
        repeat (first | (apply Ok.run1 hmix hA false 2000; focus (cbv; done)) | (apply Ok.one hmix hA; focus (cbv; done)) | (rw [Ar.notT hA]) | (rw [Ar.notF hA]) | (refine Ok.condT ?_ ?_; focus (cbv; done)) | (refine Ok.condF ?_ ?_; focus (cbv; done)) | (refine Ok.drawnE (by as_aux_lemma => kernel_rfl) ?_))
        rw [Ar.succ_eq (k := k) hA (by omega)]
        exact Ok.back (ln - (k + 1)) [1, 2, 5] [2] (by omega) (by cbv) ⟨k + 1, rfl, by omega, hc, by cbv, by cbv⟩
      · rw [if_pos h0] at hc
        rw [decide_eq_false h0, ← hc]
        repeat (first | (apply Ok.run1 hmix hA false 2000; focus (cbv; done)) | (apply Ok.one hmix hA; focus (cbv; done)) | (rw [Ar.notT hA]) | (rw [Ar.notF hA]) | (refine Ok.condT ?_ ?_; focus (cbv; done)) | (refine Ok.condF ?_ ?_; focus (cbv; done)) | (refine Ok.drawnE (by as_aux_lemma => kernel_rfl) ?_))
        refine Ok.leaveRet ?_
        repeat (first | (apply Ok.run1 hmix hA false 2000; focus (cbv; done)) | (apply Ok.one hmix hA; focus (cbv; done)) | (rw [Ar.notT hA]) | (rw [Ar.notF hA]) | (refine Ok.condT ?_ ?_; focus (cbv; done)) | (refine Ok.condF ?_ ?_; focus (cbv; done)) | (refine Ok.drawnE (by as_aux_lemma => kernel_rfl) ?_))
        exact Ok.fin (by cbv) (FS.out (by cbv) (PLe.refl _))
    · rw [decide_eq_false hkl]
      have hke : k = l.length := by omega
      rw [hke, List.drop_length] at hc
      rw [← hc]
      repeat (first | (apply Ok.run1 hmix hA false 2000; focus (cbv; done)) | (apply Ok.one hmix hA; focus (cbv; done)) | (rw [Ar.notT hA]) | (rw [Ar.notF hA]) | (refine Ok.condT ?_ ?_; focus (cbv; done)) | (refine Ok.condF ?_ ?_; focus (cbv; done)) | (refine Ok.drawnE (by as_aux_lemma => kernel_rfl) ?_))
      refine Ok.leave ?_
      repeat (first | (apply Ok.run1 hmix hA false 2000; focus (cbv; done)) | (apply Ok.one hmix hA; focus (cbv; done)) | (rw [Ar.notT hA]) | (rw [Ar.notF hA]) | (refine Ok.condT ?_ ?_; focus (cbv; done)) | (refine Ok.condF ?_ ?_; focus (cbv; done)) | (refine Ok.drawnE (by as_aux_lemma => kernel_rfl) ?_))
      exact Ok.fin (by cbv) (FS.out (by cbv) (PLe.refl _))
end Go.Proofs.Ytnojmocoifodjaa.Pv
set_option maxRecDepth 100000
set_option maxHeartbeats 4000000
set_option linter.unusedVariables false
set_option linter.unusedSimpArgs false
namespace Go.Proofs.Ytnojmocoifodjaa.Pv
open Go Go.Proofs
theorem strip_isSome (w s : List UInt8) : (strip w s).isSome = decide (s.take w.length = w) := by
  unfold strip
  split <;> simp_all
theorem lite_HasPrefix (s w : List UInt8) : CallsV Try.prog 161 [.str s, .str w] (.pv (.bool (strip w s).isSome)) [] := by
  obtain ⟨A, hA⟩ : ∃ A : Ar, A = .std := ⟨_, rfl⟩
  obtain ⟨ns, hns⟩ : ∃ n, n = s.length := ⟨_, rfl⟩
  obtain ⟨nw, hnw⟩ : ∃ n, n = w.length := ⟨_, rfl⟩
  have e1 : A .lenS s = Int.ofNat ns := by rw [hns]; exact lenS_nat hA s
  have e2 : A .lenS w = Int.ofNat nw := by rw [hnw]; exact lenS_nat hA w
  obtain ⟨p, hp⟩ : ∃ p, p = s.take nw := ⟨_, rfl⟩
  have hb : (strip w s).isSome = decide (p = w) := by rw [strip_isSome, hp, hnw]
  rw [hb]
  obtain ⟨b, hbb⟩ : ∃ b, b = decide (p = w) := ⟨_, rfl⟩
  rw [← hbb]
  refine CallsV.ok (fn := Try.f161) (by kernel_rfl) (by kernel_rfl) rfl (by cbv) (by cbv) ?_
  refine Ok.run hmix hA false 2000 (by cbv) ?_
  rw [e1, e2, ofNat_le hA]
  by_cases hle : nw ≤ ns
  · rw [decide_eq_true hle]
    repeat (first | (apply Ok.run1 hmix hA false 2000; focus (cbv; done)) | (apply Ok.one hmix hA; focus (cbv; done)) | (rw [Ar.notT hA]) | (rw [Ar.notF hA]) | (refine Ok.condT ?_ ?_; focus (cbv; done)) | (refine Ok.condF ?_ ?_; focus (cbv; done)) | (refine Ok.drawnE (by as_aux_lemma => kernel_rfl) ?_))
    rw [e2]
    refine Ok.op (sslc_op (a := 0) (b := nw) (by cbv) (by cbv) (by rfl) (by exact bound_nat _ _ _) (by omega) (by omega) p (by rw [hp]; simp)) ?_
    repeat (first | (apply Ok.run1 hmix hA false 2000; focus (cbv; done)) | (apply Ok.one hmix hA; focus (cbv; done)) | (rw [Ar.notT hA]) | (rw [Ar.notF hA]) | (refine Ok.condT ?_ ?_; focus (cbv; done)) | (refine Ok.condF ?_ ?_; focus (cbv; done)) | (refine Ok.drawnE (by as_aux_lemma => kernel_rfl) ?_))
    rw [Ar.seq_eq hA, ← hbb]
    repeat (first | (apply Ok.run1 hmix hA false 2000; focus (cbv; done)) | (apply Ok.one hmix hA; focus (cbv; done)) | (rw [Ar.notT hA]) | (rw [Ar.notF hA]) | (refine Ok.condT ?_ ?_; focus (cbv; done)) | (refine Ok.condF ?_ ?_; focus (cbv; done)) | (refine Ok.drawnE (by as_aux_lemma => kernel_rfl) ?_))
    exact Ok.fin (by cbv) (FS.out (by cbv) (PLe.refl _))
  · rw [decide_eq_false hle]
    have : b = false := by
      rw [hbb]
      apply decide_eq_false
      intro h
      have := congrArg List.length h
      rw [hp, List.length_take] at this
      omega
    rw [this]
    repeat (first | (apply Ok.run1 hmix hA false 2000; focus (cbv; done)) | (apply Ok.one hmix hA; focus (cbv; done)) | (rw [Ar.notT hA]) | (rw [Ar.notF hA]) | (refine Ok.condT ?_ ?_; focus (cbv; done)) | (refine Ok.condF ?_ ?_; focus (cbv; done)) | (refine Ok.drawnE (by as_aux_lemma => kernel_rfl) ?_))
    exact Ok.fin (by cbv) (FS.out (by cbv) (PLe.refl _))
def cutR (w s : List UInt8) : List UInt8 := (strip w s).getD s
theorem lite_CutPrefix (s w : List UInt8) : CallsV Try.prog 142 [.str s, .str w] (.tup [.pv (.str (cutR w s)), .pv (.bool (strip w s).isSome)]) [] := by
  obtain ⟨A, hA⟩ : ∃ A : Ar, A = .std := ⟨_, rfl⟩
  obtain ⟨nw, hnw⟩ : ∃ n, n = w.length := ⟨_, rfl⟩
  have e2 : A .lenS w = Int.ofNat nw := by rw [hnw]; exact lenS_nat hA w
  have c := lite_HasPrefix s w
  unfold cutR
  cases hs : strip w s with
  | none =>
    rw [hs] at c
    refine CallsV.ok (fn := Try.f142) (by kernel_rfl) (by kernel_rfl) rfl (by cbv) (by cbv) ?_
    repeat (first | (apply Ok.run1 hmix hA false 2000; focus (cbv; done)) | (apply Ok.one hmix hA; focus (cbv; done)) | (rw [Ar.notT hA]) | (rw [Ar.notF hA]) | (refine Ok.condT ?_ ?_; focus (cbv; done)) | (refine Ok.condF ?_ ?_; focus (cbv; done)) | (refine Ok.drawnE (by as_aux_lemma => kernel_rfl) ?_) | (apply Ok.call (c); (focus (cbv; done)); (focus (cbv; done)); (focus (cbv; done))) | (apply Ok.dcall (c); (focus (cbv; done)); (focus (cbv; done)); (focus (cbv; done))))
    try rw [Ar.not_eq hA]
    repeat (first | (apply Ok.run1 hmix hA false 2000; focus (cbv; done)) | (apply Ok.one hmix hA; focus (cbv; done)) | (rw [Ar.notT hA]) | (rw [Ar.notF hA]) | (refine Ok.condT ?_ ?_; focus (cbv; done)) | (refine Ok.condF ?_ ?_; focus (cbv; done)) | (refine Ok.drawnE (by as_aux_lemma => kernel_rfl) ?_))
    (first | (apply Ok.fin1; (focus (cbv; done)); (focus (cbv; done))) | (apply Ok.fin2; (focus (cbv; done)); (focus (cbv; done))) | (apply Ok.fin3; (focus (cbv; done)); (focus (cbv; done))))
    all_goals rfl
  | some r =>
    rw [hs] at c
    have h1 := strip_eq hs
    have hl : nw ≤ s.length := by rw [h1, hnw]; simp
    refine CallsV.ok (fn := Try.f142) (by kernel_rfl) (by kernel_rfl) rfl (by cbv) (by cbv) ?_
    repeat (first | (apply Ok.run1 hmix hA false 2000; focus (cbv; done)) | (apply Ok.one hmix hA; focus (cbv; done)) | (rw [Ar.notT hA]) | (rw [Ar.notF hA]) | (refine Ok.condT ?_ ?_; focus (cbv; done)) | (refine Ok.condF ?_ ?_; focus (cbv; done)) | (refine Ok.drawnE (by as_aux_lemma => kernel_rfl) ?_) | (apply Ok.call (c); (focus (cbv; done)); (focus (cbv; done)); (focus (cbv; done))) | (apply Ok.dcall (c); (focus (cbv; done)); (focus (cbv; done)); (focus (cbv; done))))
    try rw [Ar.not_eq hA]
    repeat (first | (apply Ok.run1 hmix hA false 2000; focus (cbv; done)) | (apply Ok.one hmix hA; focus (cbv; done)) | (rw [Ar.notT hA]) | (rw [Ar.notF hA]) | (refine Ok.condT ?_ ?_; focus (cbv; done)) | (refine Ok.condF ?_ ?_; focus (cbv; done)) | (refine Ok.drawnE (by as_aux_lemma => kernel_rfl) ?_))
    rw [e2]
    refine Ok.op (sslc_op (a := nw) (b := s.length) (by cbv) (by cbv) (by exact bound_nat _ _ _) (by rfl) (by omega) (by omega) r (by rw [List.take_length, h1, hnw]; simp)) ?_
    repeat (first | (apply Ok.run1 hmix hA false 2000; focus (cbv; done)) | (apply Ok.one hmix hA; focus (cbv; done)) | (rw [Ar.notT hA]) | (rw [Ar.notF hA]) | (refine Ok.condT ?_ ?_; focus (cbv; done)) | (refine Ok.condF ?_ ?_; focus (cbv; done)) | (refine Ok.drawnE (by as_aux_lemma => kernel_rfl) ?_))
    (first | (apply Ok.fin1; (focus (cbv; done)); (focus (cbv; done))) | (apply Ok.fin2; (focus (cbv; done)); (focus (cbv; done))) | (apply Ok.fin3; (focus (cbv; done)); (focus (cbv; done))))
    all_goals rfl
theorem strings_CutPrefix (s w : List UInt8) : CallsV Try.prog 102 [.str s, .str w] (.tup [.pv (.str (cutR w s)), .pv (.bool (strip w s).isSome)]) [] := by
  obtain ⟨A, hA⟩ : ∃ A : Ar, A = .std := ⟨_, rfl⟩
  have c := lite_CutPrefix s w
  generalize cutR w s = r at c ⊢
  generalize (strip w s).isSome = b at c ⊢
  refine CallsV.ok (fn := Try.f102) (by kernel_rfl) (by kernel_rfl) rfl (by cbv) (by cbv) ?_
  repeat (first | (apply Ok.run1 hmix hA false 2000; focus (cbv; done)) | (apply Ok.one hmix hA; focus (cbv; done)) | (rw [Ar.notT hA]) | (rw [Ar.notF hA]) | (refine Ok.condT ?_ ?_; focus (cbv; done)) | (refine Ok.condF ?_ ?_; focus (cbv; done)) | (refine Ok.drawnE (by as_aux_lemma => kernel_rfl) ?_) | (apply Ok.call (c); (focus (cbv; done)); (focus (cbv; done)); (focus (cbv; done))) | (apply Ok.dcall (c); (focus (cbv; done)); (focus (cbv; done)); (focus (cbv; done))))
  (first | (apply Ok.fin1; (focus (cbv; done)); (focus (cbv; done))) | (apply Ok.fin2; (focus (cbv; done)); (focus (cbv; done))) | (apply Ok.fin3; (focus (cbv; done)); (focus (cbv; done))))
  all_goals rfl
end Go.Proofs.Ytnojmocoifodjaa.Pv
set_option maxRecDepth 100000
set_option maxHeartbeats 4000000
set_option linter.unusedVariables false
set_option linter.unusedSimpArgs false
namespace Go.Proofs.Ytnojmocoifodjaa.Pv
open Go Go.Proofs
def rT (q : Option (Ty × List UInt8)) : Ty := match q with
  | some (t, _) => t
  | none => .zero
def rS (q : Option (Ty × List UInt8)) : List UInt8 := match q with
  | some (_, r) => r
  | none => []
theorem strip_none_cut {w s : List UInt8} (h : strip w s = none) : cutR w s = s := by simp [cutR, h]
theorem strip_some_cut {w s r : List UInt8} (h : strip w s = some r) : cutR w s = r := by simp [cutR, h]
theorem cut_none {s w : List UInt8} (h : strip w s = none) : CallsV Try.prog 102 [.str s, .str w] (.tup [.pv (.str s), .pv (.bool false)]) [] := by
  have c := strings_CutPrefix s w
  rw [strip_none_cut h, h] at c
  exact c
theorem cut_some {s w r : List UInt8} (h : strip w s = some r) : CallsV Try.prog 102 [.str s, .str w] (.tup [.pv (.str r), .pv (.bool true)]) [] := by
  have c := strings_CutPrefix s w
  rw [strip_some_cut h, h] at c
  exact c
theorem cut_any (s w : List UInt8) : ∃ r b, CallsV Try.prog 102 [.str s, .str w] (.tup [.pv (.str r), .pv (.bool b)]) [] := ⟨_, _, strings_CutPrefix s w⟩
theorem typ_read {E : Enc} (hE : E = .std) : ∀ (n : Nat) (s : List UInt8), 2 * s.length + 2 ≤ n → s.length ≤ 2 ^ 20 → CallsV Try.prog 70 [.str s] (.tup [.pv (E.tyc (rT (rd n s))), .pv (.str (rS (rd n s))), .pv (.bool (rd n s).isSome)]) [] := by
  intro n
  induction n using Nat.strongRecOn with
  | _ n ih =>
  intro s hfu hsl
  obtain ⟨n, rfl⟩ : ∃ k, n = k + 1 := ⟨n - 1, by omega⟩
  obtain ⟨A, hA⟩ : ∃ A : Ar, A = .std := ⟨_, rfl⟩
  have ht0 : E .tys [] = [] := by rw [E.tys_eq hE]; rfl
  have cw1 : CallsV Try.prog 72 [.int .i64 1] (.pv (.str sInt)) [] := typ_word 1
  have cw2 : CallsV Try.prog 72 [.int .i64 2] (.pv (.str sBool)) [] := typ_word 2
  have cw3 : CallsV Try.prog 72 [.int .i64 3] (.pv (.str sText)) [] := typ_word 3
  obtain ⟨res, hres⟩ : ∃ q, q = rd (n + 1) s := ⟨_, rfl⟩
  rw [← hres]
  have hrd := hres
  rw [rd] at hrd
  refine CallsV.ok (fn := Try.f70) (by kernel_rfl) (by kernel_rfl) rfl (by cbv) (by cbv) ?_
  repeat (first | (apply Ok.run1 hmix hA false 2000; focus (cbv; done)) | (apply Ok.one hmix hA; focus (cbv; done)) | (rw [Ar.notT hA]) | (rw [Ar.notF hA]) | (refine Ok.condT ?_ ?_; focus (cbv; done)) | (refine Ok.condF ?_ ?_; focus (cbv; done)) | (refine Ok.drawnE (by as_aux_lemma => kernel_rfl) ?_))
  rw [lenN_nat hA]
  refine Ok.loopAt [0, 2, 3, 4, 17, 18, 19] [2, 17] (fun m sl h => ∃ k, m = 3 - k ∧ k ≤ 3 ∧ (1 ≤ k → strip sInt s = none) ∧ (2 ≤ k → strip sBool s = none) ∧ (3 ≤ k → strip sText s = none) ∧
    sl = mkS 81 [(0, .pv (.str s)), (2, .ptr 2 0), (3, .pv (.str [])), (4, .pv (.bool false)), (17, .ref 17 3), (18, .pv (.int .i64 (Int.ofNat 3))), (19, .pv (.int .i64 (Int.ofNat k)))] ∧
    h = [(2, .box [.pv (.int .i64 0), .pv .nil] true), (17, .row 3 1 [.int .i64 1, .int .i64 2, .int .i64 3] true)]) (3 - 0) (by cbv) ⟨0, rfl, by omega, by omega, by omega, by omega, by cbv, by cbv⟩ ?_
  rintro m sl h ⟨k, rfl, hk, a1, a2, a3, rfl, rfl⟩
  refine Ok.run hmix hA false 2000 (by cbv) ?_
  rw [ofNat_lt hA]
  by_cases hk3 : k < 3
  · rw [decide_eq_true hk3]
    rcases (show k = 0 ∨ k = 1 ∨ k = 2 by omega) with rfl | rfl | rfl
    · cases hs : strip sInt s with
      | some r =>
        simp only [hs] at hrd
        have cc := cut_some hs
        repeat (first | (apply Ok.run1 hmix hA false 2000; focus (cbv; done)) | (apply Ok.one hmix hA; focus (cbv; done)) | (rw [Ar.notT hA]) | (rw [Ar.notF hA]) | (refine Ok.condT ?_ ?_; focus (cbv; done)) | (refine Ok.condF ?_ ?_; focus (cbv; done)) | (refine Ok.drawnE (by as_aux_lemma => kernel_rfl) ?_) | (apply Ok.op; (focus (cbv; done))) | (apply Ok.dop; (focus (cbv; done))) | (apply Ok.call (cw1); (focus (cbv; done)); (focus (cbv; done)); (focus (cbv; done))) | (apply Ok.dcall (cw1); (focus (cbv; done)); (focus (cbv; done)); (focus (cbv; done))) | (apply Ok.call (cc); (focus (cbv; done)); (focus (cbv; done)); (focus (cbv; done))) | (apply Ok.dcall (cc); (focus (cbv; done)); (focus (cbv; done)); (focus (cbv; done))))
        refine Ok.leaveRet ?_
        repeat (first | (apply Ok.run1 hmix hA false 2000; focus (cbv; done)) | (apply Ok.one hmix hA; focus (cbv; done)) | (rw [Ar.notT hA]) | (rw [Ar.notF hA]) | (refine Ok.condT ?_ ?_; focus (cbv; done)) | (refine Ok.condF ?_ ?_; focus (cbv; done)) | (refine Ok.drawnE (by as_aux_lemma => kernel_rfl) ?_))
        rw [hrd]
        (first | (apply Ok.fin1; (focus (cbv; done)); (focus (cbv; done))) | (apply Ok.fin2; (focus (cbv; done)); (focus (cbv; done))) | (apply Ok.fin3; (focus (cbv; done)); (focus (cbv; done))))
        all_goals first | rfl | simp [rT, rS, Enc.tyc, ht0]
      | none =>
        have cc := cut_none hs
        repeat (first | (apply Ok.run1 hmix hA false 2000; focus (cbv; done)) | (apply Ok.one hmix hA; focus (cbv; done)) | (rw [Ar.notT hA]) | (rw [Ar.notF hA]) | (refine Ok.condT ?_ ?_; focus (cbv; done)) | (refine Ok.condF ?_ ?_; focus (cbv; done)) | (refine Ok.drawnE (by as_aux_lemma => kernel_rfl) ?_) | (apply Ok.op; (focus (cbv; done))) | (apply Ok.dop; (focus (cbv; done))) | (apply Ok.call (cw1); (focus (cbv; done)); (focus (cbv; done)); (focus (cbv; done))) | (apply Ok.dcall (cw1); (focus (cbv; done)); (focus (cbv; done)); (focus (cbv; done))) | (apply Ok.call (cc); (focus (cbv; done)); (focus (cbv; done)); (focus (cbv; done))) | (apply Ok.dcall (cc); (focus (cbv; done)); (focus (cbv; done)); (focus (cbv; done))))
        rw [Ar.succ_eq (k := 0) hA (by omega)]
        exact Ok.back (3 - 1) [0, 2, 3, 4, 17, 18, 19] [2, 17] (by omega) (by cbv) ⟨1, rfl, by omega, fun _ => rfl, by omega, by omega, by cbv, by cbv⟩
    · cases hs : strip sBool s with
      | some r =>
        simp only [a1 (by omega), hs] at hrd
        have cc := cut_some hs
        repeat (first | (apply Ok.run1 hmix hA false 2000; focus (cbv; done)) | (apply Ok.one hmix hA; focus (cbv; done)) | (rw [Ar.notT hA]) | (rw [Ar.notF hA]) | (refine Ok.condT ?_ ?_; focus (cbv; done)) | (refine Ok.condF ?_ ?_; focus (cbv; done)) | (refine Ok.drawnE (by as_aux_lemma => kernel_rfl) ?_) | (apply Ok.op; (focus (cbv; done))) | (apply Ok.dop; (focus (cbv; done))) | (apply Ok.call (cw2); (focus (cbv; done)); (focus (cbv; done)); (focus (cbv; done))) | (apply Ok.dcall (cw2); (focus (cbv; done)); (focus (cbv; done)); (focus (cbv; done))) | (apply Ok.call (cc); (focus (cbv; done)); (focus (cbv; done)); (focus (cbv; done))) | (apply Ok.dcall (cc); (focus (cbv; done)); (focus (cbv; done)); (focus (cbv; done))))
        refine Ok.leaveRet ?_
        repeat (first | (apply Ok.run1 hmix hA false 2000; focus (cbv; done)) | (apply Ok.one hmix hA; focus (cbv; done)) | (rw [Ar.notT hA]) | (rw [Ar.notF hA]) | (refine Ok.condT ?_ ?_; focus (cbv; done)) | (refine Ok.condF ?_ ?_; focus (cbv; done)) | (refine Ok.drawnE (by as_aux_lemma => kernel_rfl) ?_))
        rw [hrd]
        (first | (apply Ok.fin1; (focus (cbv; done)); (focus (cbv; done))) | (apply Ok.fin2; (focus (cbv; done)); (focus (cbv; done))) | (apply Ok.fin3; (focus (cbv; done)); (focus (cbv; done))))
        all_goals first | rfl | simp [rT, rS, Enc.tyc, ht0]
      | none =>
        have cc := cut_none hs
        repeat (first | (apply Ok.run1 hmix hA false 2000; focus (cbv; done)) | (apply Ok.one hmix hA; focus (cbv; done)) | (rw [Ar.notT hA]) | (rw [Ar.notF hA]) | (refine Ok.condT ?_ ?_; focus (cbv; done)) | (refine Ok.condF ?_ ?_; focus (cbv; done)) | (refine Ok.drawnE (by as_aux_lemma => kernel_rfl) ?_) | (apply Ok.op; (focus (cbv; done))) | (apply Ok.dop; (focus (cbv; done))) | (apply Ok.call (cw2); (focus (cbv; done)); (focus (cbv; done)); (focus (cbv; done))) | (apply Ok.dcall (cw2); (focus (cbv; done)); (focus (cbv; done)); (focus (cbv; done))) | (apply Ok.call (cc); (focus (cbv; done)); (focus (cbv; done)); (focus (cbv; done))) | (apply Ok.dcall (cc); (focus (cbv; done)); (focus (cbv; done)); (focus (cbv; done))))
        rw [Ar.succ_eq (k := 1) hA (by omega)]
        exact Ok.back (3 - 2) [0, 2, 3, 4, 17, 18, 19] [2, 17] (by omega) (by cbv) ⟨2, rfl, by omega, fun _ => a1 (by omega), fun _ => rfl, by omega, by cbv, by cbv⟩
    · cases hs : strip sText s with
      | some r =>
        simp only [a1 (by omega), a2 (by omega), hs] at hrd
        have cc := cut_some hs
        repeat (first | (apply Ok.run1 hmix hA false 2000; focus (cbv; done)) | (apply Ok.one hmix hA; focus (cbv; done)) | (rw [Ar.notT hA]) | (rw [Ar.notF hA]) | (refine Ok.condT ?_ ?_; focus (cbv; done)) | (refine Ok.condF ?_ ?_; focus (cbv; done)) | (refine Ok.drawnE (by as_aux_lemma => kernel_rfl) ?_) | (apply Ok.op; (focus (cbv; done))) | (apply Ok.dop; (focus (cbv; done))) | (apply Ok.call (cw3); (focus (cbv; done)); (focus (cbv; done)); (focus (cbv; done))) | (apply Ok.dcall (cw3); (focus (cbv; done)); (focus (cbv; done)); (focus (cbv; done))) | (apply Ok.call (cc); (focus (cbv; done)); (focus (cbv; done)); (focus (cbv; done))) | (apply Ok.dcall (cc); (focus (cbv; done)); (focus (cbv; done)); (focus (cbv; done))))
        refine Ok.leaveRet ?_
        repeat (first | (apply Ok.run1 hmix hA false 2000; focus (cbv; done)) | (apply Ok.one hmix hA; focus (cbv; done)) | (rw [Ar.notT hA]) | (rw [Ar.notF hA]) | (refine Ok.condT ?_ ?_; focus (cbv; done)) | (refine Ok.condF ?_ ?_; focus (cbv; done)) | (refine Ok.drawnE (by as_aux_lemma => kernel_rfl) ?_))
        rw [hrd]
        (first | (apply Ok.fin1; (focus (cbv; done)); (focus (cbv; done))) | (apply Ok.fin2; (focus (cbv; done)); (focus (cbv; done))) | (apply Ok.fin3; (focus (cbv; done)); (focus (cbv; done))))
        all_goals first | rfl | simp [rT, rS, Enc.tyc, ht0]
      | none =>
        have cc := cut_none hs
        repeat (first | (apply Ok.run1 hmix hA false 2000; focus (cbv; done)) | (apply Ok.one hmix hA; focus (cbv; done)) | (rw [Ar.notT hA]) | (rw [Ar.notF hA]) | (refine Ok.condT ?_ ?_; focus (cbv; done)) | (refine Ok.condF ?_ ?_; focus (cbv; done)) | (refine Ok.drawnE (by as_aux_lemma => kernel_rfl) ?_) | (apply Ok.op; (focus (cbv; done))) | (apply Ok.dop; (focus (cbv; done))) | (apply Ok.call (cw3); (focus (cbv; done)); (focus (cbv; done)); (focus (cbv; done))) | (apply Ok.dcall (cw3); (focus (cbv; done)); (focus (cbv; done)); (focus (cbv; done))) | (apply Ok.call (cc); (focus (cbv; done)); (focus (cbv; done)); (focus (cbv; done))) | (apply Ok.dcall (cc); (focus (cbv; done)); (focus (cbv; done)); (focus (cbv; done))))
        rw [Ar.succ_eq (k := 2) hA (by omega)]
        exact Ok.back (3 - 3) [0, 2, 3, 4, 17, 18, 19] [2, 17] (by omega) (by cbv) ⟨3, rfl, by omega, fun _ => a1 (by omega), fun _ => a2 (by omega), fun _ => rfl, by cbv, by cbv⟩
  rw [decide_eq_false hk3]
  simp only [a1 (by omega), a2 (by omega), a3 (by omega)] at hrd
  clear a1 a2 a3 cw1 cw2 cw3
  repeat (first | (apply Ok.run1 hmix hA false 2000; focus (cbv; done)) | (apply Ok.one hmix hA; focus (cbv; done)) | (rw [Ar.notT hA]) | (rw [Ar.notF hA]) | (refine Ok.condT ?_ ?_; focus (cbv; done)) | (refine Ok.condF ?_ ?_; focus (cbv; done)) | (refine Ok.drawnE (by as_aux_lemma => kernel_rfl) ?_))
  refine Ok.leave ?_
  cases hs : strip [40] s with
  | none =>
    have cc := cut_none hs
    obtain ⟨r1, b1, cd⟩ := cut_any s [41]
    simp only [hs] at hrd
    repeat (first | (apply Ok.run1 hmix hA false 2000; focus (cbv; done)) | (apply Ok.one hmix hA; focus (cbv; done)) | (rw [Ar.notT hA]) | (rw [Ar.notF hA]) | (refine Ok.condT ?_ ?_; focus (cbv; done)) | (refine Ok.condF ?_ ?_; focus (cbv; done)) | (refine Ok.drawnE (by as_aux_lemma => kernel_rfl) ?_) | (apply Ok.call (cc); (focus (cbv; done)); (focus (cbv; done)); (focus (cbv; done))) | (apply Ok.dcall (cc); (focus (cbv; done)); (focus (cbv; done)); (focus (cbv; done))) | (apply Ok.call (cd); (focus (cbv; done)); (focus (cbv; done)); (focus (cbv; done))) | (apply Ok.dcall (cd); (focus (cbv; done)); (focus (cbv; done)); (focus (cbv; done))))
    refine Ok.loopAt [2, 3, 4, 10] [2] (fun m sl h => m = 0 ∧ sl = mkS 81 [(2, .ptr 2 0), (3, .pv (.str [])), (4, .pv (.bool false)), (10, .pv (.bool false))] ∧ h = [(2, .box [.pv (.int .i64 0), .pv .nil] true)]) 0 (by cbv) ⟨rfl, by cbv, by cbv⟩ ?_
    rintro m sl h ⟨rfl, rfl, rfl⟩
    repeat (first | (apply Ok.run1 hmix hA false 2000; focus (cbv; done)) | (apply Ok.one hmix hA; focus (cbv; done)) | (rw [Ar.notT hA]) | (rw [Ar.notF hA]) | (refine Ok.condT ?_ ?_; focus (cbv; done)) | (refine Ok.condF ?_ ?_; focus (cbv; done)) | (refine Ok.drawnE (by as_aux_lemma => kernel_rfl) ?_))
    refine Ok.leave ?_
    repeat (first | (apply Ok.run1 hmix hA false 2000; focus (cbv; done)) | (apply Ok.one hmix hA; focus (cbv; done)) | (rw [Ar.notT hA]) | (rw [Ar.notF hA]) | (refine Ok.condT ?_ ?_; focus (cbv; done)) | (refine Ok.condF ?_ ?_; focus (cbv; done)) | (refine Ok.drawnE (by as_aux_lemma => kernel_rfl) ?_))
    rw [hrd]
    (first | (apply Ok.fin1; (focus (cbv; done)); (focus (cbv; done))) | (apply Ok.fin2; (focus (cbv; done)); (focus (cbv; done))) | (apply Ok.fin3; (focus (cbv; done)); (focus (cbv; done))))
    all_goals first | rfl | simp [rT, rS, Enc.tyc, ht0, Ty.zero]
  | some r =>
    have cc := cut_some hs
    have hsr := strip_eq hs
    simp only [hs] at hrd
    cases hs2 : strip [41] r with
    | some e =>
      have cd := cut_some hs2
      simp only [hs2] at hrd
      repeat (first | (apply Ok.run1 hmix hA false 2000; focus (cbv; done)) | (apply Ok.one hmix hA; focus (cbv; done)) | (rw [Ar.notT hA]) | (rw [Ar.notF hA]) | (refine Ok.condT ?_ ?_; focus (cbv; done)) | (refine Ok.condF ?_ ?_; focus (cbv; done)) | (refine Ok.drawnE (by as_aux_lemma => kernel_rfl) ?_) | (apply Ok.call (cc); (focus (cbv; done)); (focus (cbv; done)); (focus (cbv; done))) | (apply Ok.dcall (cc); (focus (cbv; done)); (focus (cbv; done)); (focus (cbv; done))) | (apply Ok.call (cd); (focus (cbv; done)); (focus (cbv; done)); (focus (cbv; done))) | (apply Ok.dcall (cd); (focus (cbv; done)); (focus (cbv; done)); (focus (cbv; done))))
      rw [hrd]
      (first | (apply Ok.fin1; (focus (cbv; done)); (focus (cbv; done))) | (apply Ok.fin2; (focus (cbv; done)); (focus (cbv; done))) | (apply Ok.fin3; (focus (cbv; done)); (focus (cbv; done))))
      all_goals first | rfl | simp [rT, rS, Enc.tyc, ht0]
    | none =>
      have cd := cut_none hs2
      simp only [hs2] at hrd
      repeat (first | (apply Ok.run1 hmix hA false 2000; focus (cbv; done)) | (apply Ok.one hmix hA; focus (cbv; done)) | (rw [Ar.notT hA]) | (rw [Ar.notF hA]) | (refine Ok.condT ?_ ?_; focus (cbv; done)) | (refine Ok.condF ?_ ?_; focus (cbv; done)) | (refine Ok.drawnE (by as_aux_lemma => kernel_rfl) ?_) | (apply Ok.call (cc); (focus (cbv; done)); (focus (cbv; done)); (focus (cbv; done))) | (apply Ok.dcall (cc); (focus (cbv; done)); (focus (cbv; done)); (focus (cbv; done))) | (apply Ok.call (cd); (focus (cbv; done)); (focus (cbv; done)); (focus (cbv; done))) | (apply Ok.dcall (cd); (focus (cbv; done)); (focus (cbv; done)); (focus (cbv; done))))
      have hr1 : s.length = r.length + 1 := by rw [hsr]; simp
      refine Ok.le (Le.nilBox 11 1 65 24 2 (by cbv) (by cbv) (by cbv) (by decide)) ?_
      refine Ok.loopAt [2, 3, 4, 9, 10, 11] [2, 11, 65] (fun m sl h => ∃ (q : Nat) (acc : List Ty) (r' : List UInt8) (ok : Bool) (j : Nat) (es : List PV), m = (if ok then q + 1 else 0) ∧ (if ok then rdL q acc r' else none) = res ∧ (ok = true → 2 * r'.length + 3 ≤ q ∧ q ≤ n) ∧ acc.length + r'.length ≤ s.length ∧ j = acc.length ∧ es = E .tys acc ∧
        sl = mkS 81 [(2, .ptr 2 0), (3, .pv (.str [])), (4, .pv (.bool false)), (9, .pv (.str r')), (10, .pv (.bool ok)), (11, .ptr 11 0)] ∧
        h = [(2, .box [.pv (.int .i64 0), .pv .nil] true), (11, .box [.pv (.int .i64 4), .ref 65 j] true), (65, .row 24 2 es true)]) (n + 1) (by cbv) ⟨n, [], r, true, 0, [], rfl, hrd.symm, fun _ => ⟨by omega, Nat.le_refl _⟩, by simp; omega, rfl, by rw [ht0], by cbv, by cbv⟩ ?_
      clear cc cd hs hs2 hrd
      rintro m sl h ⟨q, acc, r', ok, j, es, hm, hq, hfu2, hacc, hj, hes, rfl, rfl⟩
      have hesl : j = es.length := by rw [hes, E.tys_eq hE, List.length_map, hj]
      cases ok with
      | false =>
        have hq : res = none := hq.symm
        repeat (first | (apply Ok.run1 hmix hA false 2000; focus (cbv; done)) | (apply Ok.one hmix hA; focus (cbv; done)) | (rw [Ar.notT hA]) | (rw [Ar.notF hA]) | (refine Ok.condT ?_ ?_; focus (cbv; done)) | (refine Ok.condF ?_ ?_; focus (cbv; done)) | (refine Ok.drawnE (by as_aux_lemma => kernel_rfl) ?_))
        refine Ok.leave ?_
        repeat (first | (apply Ok.run1 hmix hA false 2000; focus (cbv; done)) | (apply Ok.one hmix hA; focus (cbv; done)) | (rw [Ar.notT hA]) | (rw [Ar.notF hA]) | (refine Ok.condT ?_ ?_; focus (cbv; done)) | (refine Ok.condF ?_ ?_; focus (cbv; done)) | (refine Ok.drawnE (by as_aux_lemma => kernel_rfl) ?_))
        rw [hq]
        (first | (apply Ok.fin1; (focus (cbv; done)); (focus (cbv; done))) | (apply Ok.fin2; (focus (cbv; done)); (focus (cbv; done))) | (apply Ok.fin3; (focus (cbv; done)); (focus (cbv; done))))
        all_goals first | rfl | simp [rT, rS, Enc.tyc, ht0, Ty.zero]
      | true =>
        obtain ⟨hf3, hqn⟩ := hfu2 rfl
        have hm : m = q + 1 := hm
        have hq : rdL q acc r' = res := hq
        obtain ⟨q, rfl⟩ : ∃ k, q = k + 1 := ⟨q - 1, by omega⟩
        rw [rdL] at hq
        have cR := ih q (by omega) r' (by omega) (by omega)
        cases hrr : rd q r' with
        | none =>
          rw [hrr] at cR
          simp only [hrr] at hq
          repeat (first | (apply Ok.run1 hmix hA false 2000; focus (cbv; done)) | (apply Ok.one hmix hA; focus (cbv; done)) | (rw [Ar.notT hA]) | (rw [Ar.notF hA]) | (refine Ok.condT ?_ ?_; focus (cbv; done)) | (refine Ok.condF ?_ ?_; focus (cbv; done)) | (refine Ok.drawnE (by as_aux_lemma => kernel_rfl) ?_) | (apply Ok.call (cR); (focus (cbv; done)); (focus (cbv; done)); (focus (cbv; done))) | (apply Ok.dcall (cR); (focus (cbv; done)); (focus (cbv; done)); (focus (cbv; done))))
          refine Ok.leave ?_
          repeat (first | (apply Ok.run1 hmix hA false 2000; focus (cbv; done)) | (apply Ok.one hmix hA; focus (cbv; done)) | (rw [Ar.notT hA]) | (rw [Ar.notF hA]) | (refine Ok.condT ?_ ?_; focus (cbv; done)) | (refine Ok.condF ?_ ?_; focus (cbv; done)) | (refine Ok.drawnE (by as_aux_lemma => kernel_rfl) ?_))
          rw [← hq]
          (first | (apply Ok.fin1; (focus (cbv; done)); (focus (cbv; done))) | (apply Ok.fin2; (focus (cbv; done)); (focus (cbv; done))) | (apply Ok.fin3; (focus (cbv; done)); (focus (cbv; done))))
          all_goals first | rfl | simp [rT, rS, Enc.tyc, ht0, Ty.zero]
        | some tp =>
          obtain ⟨p, r2⟩ := tp
          rw [hrr] at cR
          simp only [hrr] at hq
          obtain ⟨_, hp2⟩ := rd_text q r' p r2 hrr
          have hp1 := szT_pos p
          obtain ⟨es3, hes3⟩ : ∃ es3, es3 = es ++ [E.tyc p] := ⟨_, rfl⟩
          obtain ⟨n3, hn3⟩ : ∃ n3, n3 = j + 1 := ⟨_, rfl⟩
          have hes4 : es3 = E .tys (acc ++ [p]) := by rw [hes3, hes, E.tys_eq hE, E.tys_eq hE, List.map_append]; rfl
          have hn4 : n3 = es3.length := by rw [hn3, hes3, hesl]; simp
          repeat (first | (apply Ok.run1 hmix hA false 2000; focus (cbv; done)) | (apply Ok.one hmix hA; focus (cbv; done)) | (rw [Ar.notT hA]) | (rw [Ar.notF hA]) | (refine Ok.condT ?_ ?_; focus (cbv; done)) | (refine Ok.condF ?_ ?_; focus (cbv; done)) | (refine Ok.drawnE (by as_aux_lemma => kernel_rfl) ?_) | (apply Ok.call (cR); (focus (cbv; done)); (focus (cbv; done)); (focus (cbv; done))) | (apply Ok.dcall (cR); (focus (cbv; done)); (focus (cbv; done)); (focus (cbv; done))))
          refine Ok.op (app_ref (by cbv) (by cbv) hesl (by cbv) (by cbv) (by decide) (by simp only [List.length_singleton]; omega) (by unfold maxLen; simp only [List.length_singleton]; omega) n3 (by exact hn3) es3 (by rw [hes3]; rfl)) ?_
          cases hs3 : strip [41] r2 with
          | some e =>
            have cd := cut_some hs3
            simp only [hs3] at hq
            repeat (first | (apply Ok.run1 hmix hA false 2000; focus (cbv; done)) | (apply Ok.one hmix hA; focus (cbv; done)) | (rw [Ar.notT hA]) | (rw [Ar.notF hA]) | (refine Ok.condT ?_ ?_; focus (cbv; done)) | (refine Ok.condF ?_ ?_; focus (cbv; done)) | (refine Ok.drawnE (by as_aux_lemma => kernel_rfl) ?_) | (apply Ok.call (cd); (focus (cbv; done)); (focus (cbv; done)); (focus (cbv; done))) | (apply Ok.dcall (cd); (focus (cbv; done)); (focus (cbv; done)); (focus (cbv; done))))
            refine Ok.leaveRet ?_
            repeat (first | (apply Ok.run1 hmix hA false 2000; focus (cbv; done)) | (apply Ok.one hmix hA; focus (cbv; done)) | (rw [Ar.notT hA]) | (rw [Ar.notF hA]) | (refine Ok.condT ?_ ?_; focus (cbv; done)) | (refine Ok.condF ?_ ?_; focus (cbv; done)) | (refine Ok.drawnE (by as_aux_lemma => kernel_rfl) ?_))
            rw [← hq]
            refine Ok.fin3 (p1 := .agg [.int .i64 4, .view es3]) (p2 := .str e) (p3 := .bool true) (ids := [65]) (by cbv) (by simp [frzL, frz2, frz1, frz0, rowOf, hget, PV.rlx, ← hn4]) ?_ ?_ ?_
            all_goals first | rfl | simp [rT, rS, Enc.tyc, hes4]
          | none =>
            have cd := cut_none hs3
            simp only [hs3] at hq
            cases hs4 : strip [44] r2 with
            | some r3 =>
              have ce := cut_some hs4
              simp only [hs4] at hq
              have hr3 : r2.length = r3.length + 1 := by rw [strip_eq hs4]; simp
              repeat (first | (apply Ok.run1 hmix hA false 2000; focus (cbv; done)) | (apply Ok.one hmix hA; focus (cbv; done)) | (rw [Ar.notT hA]) | (rw [Ar.notF hA]) | (refine Ok.condT ?_ ?_; focus (cbv; done)) | (refine Ok.condF ?_ ?_; focus (cbv; done)) | (refine Ok.drawnE (by as_aux_lemma => kernel_rfl) ?_) | (apply Ok.call (cd); (focus (cbv; done)); (focus (cbv; done)); (focus (cbv; done))) | (apply Ok.dcall (cd); (focus (cbv; done)); (focus (cbv; done)); (focus (cbv; done))) | (apply Ok.call (ce); (focus (cbv; done)); (focus (cbv; done)); (focus (cbv; done))) | (apply Ok.dcall (ce); (focus (cbv; done)); (focus (cbv; done)); (focus (cbv; done))))
              exact Ok.back (q + 1) [2, 3, 4, 9, 10, 11] [2, 11, 65] (by omega) (by cbv) ⟨q, acc ++ [p], r3, true, n3, es3, rfl, hq, fun _ => ⟨by omega, by omega⟩, by simp; omega, by simp; omega, hes4, by cbv, by cbv⟩
            | none =>
              have ce := cut_none hs4
              simp only [hs4] at hq
              repeat (first | (apply Ok.run1 hmix hA false 2000; focus (cbv; done)) | (apply Ok.one hmix hA; focus (cbv; done)) | (rw [Ar.notT hA]) | (rw [Ar.notF hA]) | (refine Ok.condT ?_ ?_; focus (cbv; done)) | (refine Ok.condF ?_ ?_; focus (cbv; done)) | (refine Ok.drawnE (by as_aux_lemma => kernel_rfl) ?_) | (apply Ok.call (cd); (focus (cbv; done)); (focus (cbv; done)); (focus (cbv; done))) | (apply Ok.dcall (cd); (focus (cbv; done)); (focus (cbv; done)); (focus (cbv; done))) | (apply Ok.call (ce); (focus (cbv; done)); (focus (cbv; done)); (focus (cbv; done))) | (apply Ok.dcall (ce); (focus (cbv; done)); (focus (cbv; done)); (focus (cbv; done))))
              exact Ok.back 0 [2, 3, 4, 9, 10, 11] [2, 11, 65] (by omega) (by cbv) ⟨q, acc ++ [p], r2, false, n3, es3, rfl, hq, (fun h => by cases h), by simp; omega, by simp; omega, hes4, by cbv, by cbv⟩
end Go.Proofs.Ytnojmocoifodjaa.Pv
set_option maxRecDepth 100000
set_option maxHeartbeats 4000000
set_option linter.unusedVariables false
set_option linter.unusedSimpArgs false
namespace Go.Proofs.Ytnojmocoifodjaa.Pv
open Go Go.Proofs
def parM (s : List UInt8) : Ty × Int := match rd (2 * s.length + 2) s with
  | none => (.zero, 2)
  | some (t, r) => if r ≠ [] then (.zero, 2) else if ckT t 0 ≠ 0 then (.zero, ckT t 0) else (t, 0)
theorem typ_Parse {E : Enc} (hE : E = .std) (s : List UInt8) (hs : s.length ≤ 2 ^ 20) : CallsV Try.prog 33 [.str s] (.tup [.pv (E.tyc (parM s).1), .pv (.int .i64 (parM s).2)]) [] := by
  obtain ⟨A, hA⟩ : ∃ A : Ar, A = .std := ⟨_, rfl⟩
  have ht0 : E .tys [] = [] := by rw [E.tys_eq hE]; rfl
  have c := typ_read hE (2 * s.length + 2) s (Nat.le_refl _) hs
  unfold parM
  cases hq : rd (2 * s.length + 2) s with
  | none =>
    rw [hq] at c
    refine CallsV.ok (fn := Try.f33) (by kernel_rfl) (by kernel_rfl) rfl (by cbv) (by cbv) ?_
    repeat (first | (apply Ok.run1 hmix hA false 2000; focus (cbv; done)) | (apply Ok.one hmix hA; focus (cbv; done)) | (rw [Ar.notT hA]) | (rw [Ar.notF hA]) | (refine Ok.condT ?_ ?_; focus (cbv; done)) | (refine Ok.condF ?_ ?_; focus (cbv; done)) | (refine Ok.drawnE (by as_aux_lemma => kernel_rfl) ?_) | (apply Ok.call (c); (focus (cbv; done)); (focus (cbv; done)); (focus (cbv; done))) | (apply Ok.dcall (c); (focus (cbv; done)); (focus (cbv; done)); (focus (cbv; done))))
    (first | (apply Ok.fin1; (focus (cbv; done)); (focus (cbv; done))) | (apply Ok.fin2; (focus (cbv; done)); (focus (cbv; done))) | (apply Ok.fin3; (focus (cbv; done)); (focus (cbv; done))))
    all_goals first | rfl | simp [Enc.tyc, ht0, Ty.zero]
  | some tr =>
    obtain ⟨t, r⟩ := tr
    rw [hq] at c
    obtain ⟨_, hsz⟩ := rd_text _ s t r hq
    have ck := typ_Check hE t (by omega)
    obtain ⟨e, he⟩ : ∃ e, e = ckT t 0 := ⟨_, rfl⟩
    dsimp only
    rw [← he] at ck ⊢
    obtain ⟨kd, l⟩ := t
    refine CallsV.ok (fn := Try.f33) (by kernel_rfl) (by kernel_rfl) rfl (by cbv) (by cbv) ?_
    repeat (first | (apply Ok.run1 hmix hA false 2000; focus (cbv; done)) | (apply Ok.one hmix hA; focus (cbv; done)) | (rw [Ar.notT hA]) | (rw [Ar.notF hA]) | (refine Ok.condT ?_ ?_; focus (cbv; done)) | (refine Ok.condF ?_ ?_; focus (cbv; done)) | (refine Ok.drawnE (by as_aux_lemma => kernel_rfl) ?_) | (apply Ok.call (c); (focus (cbv; done)); (focus (cbv; done)); (focus (cbv; done))) | (apply Ok.dcall (c); (focus (cbv; done)); (focus (cbv; done)); (focus (cbv; done))))
    rw [Ar.seq_eq hA, Ar.not_eq hA]
    by_cases hr : r = []
    · rw [decide_eq_true hr, if_neg (by simpa using hr)]
      repeat (first | (apply Ok.run1 hmix hA false 2000; focus (cbv; done)) | (apply Ok.one hmix hA; focus (cbv; done)) | (rw [Ar.notT hA]) | (rw [Ar.notF hA]) | (refine Ok.condT ?_ ?_; focus (cbv; done)) | (refine Ok.condF ?_ ?_; focus (cbv; done)) | (refine Ok.drawnE (by as_aux_lemma => kernel_rfl) ?_) | (apply Ok.call (ck); (focus (cbv; done)); (focus (cbv; done)); (focus (cbv; done))) | (apply Ok.dcall (ck); (focus (cbv; done)); (focus (cbv; done)); (focus (cbv; done))))
      rw [Ar.eq_eq hA, Ar.not_eq hA]
      by_cases h0 : e = 0
      · rw [decide_eq_true h0, if_neg (by simpa using h0)]
        repeat (first | (apply Ok.run1 hmix hA false 2000; focus (cbv; done)) | (apply Ok.one hmix hA; focus (cbv; done)) | (rw [Ar.notT hA]) | (rw [Ar.notF hA]) | (refine Ok.condT ?_ ?_; focus (cbv; done)) | (refine Ok.condF ?_ ?_; focus (cbv; done)) | (refine Ok.drawnE (by as_aux_lemma => kernel_rfl) ?_))
        (first | (apply Ok.fin1; (focus (cbv; done)); (focus (cbv; done))) | (apply Ok.fin2; (focus (cbv; done)); (focus (cbv; done))) | (apply Ok.fin3; (focus (cbv; done)); (focus (cbv; done))))
        all_goals rfl
      · rw [decide_eq_false h0, if_pos h0]
        repeat (first | (apply Ok.run1 hmix hA false 2000; focus (cbv; done)) | (apply Ok.one hmix hA; focus (cbv; done)) | (rw [Ar.notT hA]) | (rw [Ar.notF hA]) | (refine Ok.condT ?_ ?_; focus (cbv; done)) | (refine Ok.condF ?_ ?_; focus (cbv; done)) | (refine Ok.drawnE (by as_aux_lemma => kernel_rfl) ?_))
        (first | (apply Ok.fin1; (focus (cbv; done)); (focus (cbv; done))) | (apply Ok.fin2; (focus (cbv; done)); (focus (cbv; done))) | (apply Ok.fin3; (focus (cbv; done)); (focus (cbv; done))))
        all_goals first | rfl | simp [Enc.tyc, ht0, Ty.zero]
    · rw [decide_eq_false hr, if_pos hr]
      repeat (first | (apply Ok.run1 hmix hA false 2000; focus (cbv; done)) | (apply Ok.one hmix hA; focus (cbv; done)) | (rw [Ar.notT hA]) | (rw [Ar.notF hA]) | (refine Ok.condT ?_ ?_; focus (cbv; done)) | (refine Ok.condF ?_ ?_; focus (cbv; done)) | (refine Ok.drawnE (by as_aux_lemma => kernel_rfl) ?_))
      (first | (apply Ok.fin1; (focus (cbv; done)); (focus (cbv; done))) | (apply Ok.fin2; (focus (cbv; done)); (focus (cbv; done))) | (apply Ok.fin3; (focus (cbv; done)); (focus (cbv; done))))
      all_goals first | rfl | simp [Enc.tyc, ht0, Ty.zero]
theorem ref6_front (s w : List UInt8) (a : Nat) (ha : a ≤ s.length) (hs : s.length ≤ 2 ^ 20) (hw : w.length ≤ 100) : CallsV Try.prog 103 [.str s, .int .i64 (Int.ofNat a), .str w] (.pv (.bool (strip w (s.drop a)).isSome)) [] := by
  obtain ⟨A, hA⟩ : ∃ A : Ar, A = .std := ⟨_, rfl⟩
  obtain ⟨ns, hns⟩ : ∃ n, n = s.length := ⟨_, rfl⟩
  obtain ⟨nw, hnw⟩ : ∃ n, n = w.length := ⟨_, rfl⟩
  have e1 : A .lenS s = Int.ofNat ns := by rw [hns]; exact lenS_nat hA s
  have e2 : A .lenS w = Int.ofNat nw := by rw [hnw]; exact lenS_nat hA w
  obtain ⟨e, he⟩ : ∃ e, e = a + nw := ⟨_, rfl⟩
  have e3 : A .add .i64 (Int.ofNat a) (Int.ofNat nw) = Int.ofNat e := by rw [he]; exact ofNat_add hA (by omega)
  have e4 : A .le 0 (Int.ofNat a) = true := by rw [show (0 : Int) = Int.ofNat 0 from rfl, ofNat_le hA]; simp
  obtain ⟨p, hp⟩ : ∃ p, p = (s.take e).drop a := ⟨_, rfl⟩
  have hb : (strip w (s.drop a)).isSome = decide (p = w) := by
    rw [strip_isSome, hp, List.drop_take, ← hnw, show e - a = nw by omega]
  rw [hb]
  obtain ⟨b, hbb⟩ : ∃ b, b = decide (p = w) := ⟨_, rfl⟩
  rw [← hbb]
  refine CallsV.ok (fn := Try.f103) (by kernel_rfl) (by kernel_rfl) rfl (by cbv) (by cbv) ?_
  refine Ok.run hmix hA false 2000 (by cbv) ?_
  rw [e4]
  repeat (first | (apply Ok.run1 hmix hA false 2000; focus (cbv; done)) | (apply Ok.one hmix hA; focus (cbv; done)) | (rw [Ar.notT hA]) | (rw [Ar.notF hA]) | (refine Ok.condT ?_ ?_; focus (cbv; done)) | (refine Ok.condF ?_ ?_; focus (cbv; done)) | (refine Ok.drawnE (by as_aux_lemma => kernel_rfl) ?_))
  rw [e1, e2, e3, ofNat_le hA]
  by_cases hle : e ≤ ns
  · rw [decide_eq_true hle]
    repeat (first | (apply Ok.run1 hmix hA false 2000; focus (cbv; done)) | (apply Ok.one hmix hA; focus (cbv; done)) | (rw [Ar.notT hA]) | (rw [Ar.notF hA]) | (refine Ok.condT ?_ ?_; focus (cbv; done)) | (refine Ok.condF ?_ ?_; focus (cbv; done)) | (refine Ok.drawnE (by as_aux_lemma => kernel_rfl) ?_))
    rw [e2, e3]
    refine Ok.op (sslc_op (a := a) (b := e) (by cbv) (by cbv) (by exact bound_nat _ _ _) (by exact bound_nat _ _ _) (by omega) (by omega) p hp) ?_
    repeat (first | (apply Ok.run1 hmix hA false 2000; focus (cbv; done)) | (apply Ok.one hmix hA; focus (cbv; done)) | (rw [Ar.notT hA]) | (rw [Ar.notF hA]) | (refine Ok.condT ?_ ?_; focus (cbv; done)) | (refine Ok.condF ?_ ?_; focus (cbv; done)) | (refine Ok.drawnE (by as_aux_lemma => kernel_rfl) ?_))
    rw [Ar.seq_eq hA, ← hbb]
    repeat (first | (apply Ok.run1 hmix hA false 2000; focus (cbv; done)) | (apply Ok.one hmix hA; focus (cbv; done)) | (rw [Ar.notT hA]) | (rw [Ar.notF hA]) | (refine Ok.condT ?_ ?_; focus (cbv; done)) | (refine Ok.condF ?_ ?_; focus (cbv; done)) | (refine Ok.drawnE (by as_aux_lemma => kernel_rfl) ?_))
    exact Ok.fin (by cbv) (FS.out (by cbv) (PLe.refl _))
  · rw [decide_eq_false hle]
    have : b = false := by
      rw [hbb]
      apply decide_eq_false
      intro h
      have := congrArg List.length h
      rw [hp, List.length_drop, List.length_take] at this
      omega
    rw [this]
    repeat (first | (apply Ok.run1 hmix hA false 2000; focus (cbv; done)) | (apply Ok.one hmix hA; focus (cbv; done)) | (rw [Ar.notT hA]) | (rw [Ar.notF hA]) | (refine Ok.condT ?_ ?_; focus (cbv; done)) | (refine Ok.condF ?_ ?_; focus (cbv; done)) | (refine Ok.drawnE (by as_aux_lemma => kernel_rfl) ?_))
    exact Ok.fin (by cbv) (FS.out (by cbv) (PLe.refl _))
def posM (ls : Nat) (q : Option (Ty × List UInt8)) : Int := match q with
  | some (_, r) => Int.ofNat (ls - r.length)
  | none => -1
theorem ref6_SameType {E : Enc} (hE : E = .std) : ∀ (n : Nat) (v w : Ty), SizeOf.sizeOf v ≤ n → szT v ≤ 2 ^ 50 → szT w ≤ 2 ^ 50 → CallsV Try.prog 35 [E.tyc v, E.tyc w] (.pv (.bool (sameT v w))) [] := by
  intro n
  induction n with
  | zero => intro v w h; cases v; simp at h
  | succ n ih =>
    rintro ⟨k1, l⟩ ⟨k2, m⟩ hn hsz hsw
    obtain ⟨A, hA⟩ : ∃ A : Ar, A = .std := ⟨_, rfl⟩
    rw [szT] at hsz hsw
    have hlen := szTs_len l
    have hlem := szTs_len m
    obtain ⟨ln, hln⟩ : ∃ n, n = l.length := ⟨_, rfl⟩
    obtain ⟨lm, hlm⟩ : ∃ n, n = m.length := ⟨_, rfl⟩
    have hll : A .lenP (E .tys l) = Int.ofNat ln := by rw [Ar.lenP_eq hA, E.tys_eq hE, List.length_map, hln]; rfl
    have hlm' : A .lenP (E .tys m) = Int.ofNat lm := by rw [Ar.lenP_eq hA, E.tys_eq hE, List.length_map, hlm]; rfl
    have hsub : ∀ x y, x ∈ l → y ∈ m → CallsV Try.prog 35 [E.tyc x, E.tyc y] (.pv (.bool (sameT x y))) [] := fun x y hx hy => by
      have h1 := List.sizeOf_lt_of_mem hx
      have h2 := szTs_mem hx
      have h3 := szTs_mem hy
      simp at hn
      exact ih x y (by omega) (by omega) (by omega)
    clear ih
    rw [sameT]
    refine CallsV.ok (fn := Try.f35) (by kernel_rfl) (by kernel_rfl) rfl (by cbv) (by cbv) ?_
    refine Ok.run hmix hA false 2000 (by cbv) ?_
    rw [Ar.eq_eq hA, Ar.not_eq hA]
    by_cases hk : k1 = k2
    case neg =>
      rw [decide_eq_false hk]
      repeat (first | (apply Ok.run1 hmix hA false 2000; focus (cbv; done)) | (apply Ok.one hmix hA; focus (cbv; done)) | (rw [Ar.notT hA]) | (rw [Ar.notF hA]) | (refine Ok.condT ?_ ?_; focus (cbv; done)) | (refine Ok.condF ?_ ?_; focus (cbv; done)) | (refine Ok.drawnE (by as_aux_lemma => kernel_rfl) ?_))
      exact Ok.fin (by cbv) (FS.out (by cbv) (PLe.refl _))
    rw [decide_eq_true hk]
    repeat (first | (apply Ok.run1 hmix hA false 2000; focus (cbv; done)) | (apply Ok.one hmix hA; focus (cbv; done)) | (rw [Ar.notT hA]) | (rw [Ar.notF hA]) | (refine Ok.condT ?_ ?_; focus (cbv; done)) | (refine Ok.condF ?_ ?_; focus (cbv; done)) | (refine Ok.drawnE (by as_aux_lemma => kernel_rfl) ?_))
    rw [hll, hlm', ofNat_eq hA, Ar.not_eq hA]
    by_cases hlq : ln = lm
    case neg =>
      rw [decide_eq_false hlq, sameTs_len (by omega)]
      repeat (first | (apply Ok.run1 hmix hA false 2000; focus (cbv; done)) | (apply Ok.one hmix hA; focus (cbv; done)) | (rw [Ar.notT hA]) | (rw [Ar.notF hA]) | (refine Ok.condT ?_ ?_; focus (cbv; done)) | (refine Ok.condF ?_ ?_; focus (cbv; done)) | (refine Ok.drawnE (by as_aux_lemma => kernel_rfl) ?_))
      exact Ok.fin (by cbv) (FS.out (by cbv) (PLe.refl _))
    rw [decide_eq_true hlq]
    repeat (first | (apply Ok.run1 hmix hA false 2000; focus (cbv; done)) | (apply Ok.one hmix hA; focus (cbv; done)) | (rw [Ar.notT hA]) | (rw [Ar.notF hA]) | (refine Ok.condT ?_ ?_; focus (cbv; done)) | (refine Ok.condF ?_ ?_; focus (cbv; done)) | (refine Ok.drawnE (by as_aux_lemma => kernel_rfl) ?_))
    refine Ok.loopAt [2, 3, 5] [2, 3] (fun mm s h => ∃ k, mm = ln - k ∧ k ≤ ln ∧ sameTs (l.drop k) (m.drop k) = sameTs l m ∧ s = mkS 39 [(2, .ptr 2 0), (3, .ptr 3 0), (5, .pv (.int .i64 (Int.ofNat k)))] ∧
      h = [(2, .box [.pv (.int .i64 k1), .pv (.view (E .tys l))] true), (3, .box [.pv (.int .i64 k2), .pv (.view (E .tys m))] true)]) (ln - 0) (by cbv) ⟨0, rfl, Nat.zero_le _, rfl, by cbv, by cbv⟩ ?_
    rintro mm s h ⟨k, rfl, hk', hc, rfl, rfl⟩
    refine Ok.run hmix hA false 2000 (by cbv) ?_
    rw [hll, ofNat_lt hA]
    by_cases hkl : k < ln
    · rw [decide_eq_true hkl]
      repeat (first | (apply Ok.run1 hmix hA false 2000; focus (cbv; done)) | (apply Ok.one hmix hA; focus (cbv; done)) | (rw [Ar.notT hA]) | (rw [Ar.notF hA]) | (refine Ok.condT ?_ ?_; focus (cbv; done)) | (refine Ok.condF ?_ ?_; focus (cbv; done)) | (refine Ok.drawnE (by as_aux_lemma => kernel_rfl) ?_))
      have hx : l[k]? = some (l[k]'(by omega)) := List.getElem?_eq_getElem (by omega)
      have hxm : l[k]'(by omega) ∈ l := List.getElem_mem (by omega)
      have hdl : l.drop k = l[k]'(by omega) :: l.drop (k + 1) := List.drop_eq_getElem_cons (by omega)
      generalize l[k]'(by omega) = x at hx hdl hxm
      have hy : m[k]? = some (m[k]'(by omega)) := List.getElem?_eq_getElem (by omega)
      have hym : m[k]'(by omega) ∈ m := List.getElem_mem (by omega)
      have hdm : m.drop k = m[k]'(by omega) :: m.drop (k + 1) := List.drop_eq_getElem_cons (by omega)
      generalize m[k]'(by omega) = y at hy hdm hym
      rw [hdl, hdm, sameTs] at hc
      have cxy := hsub x y hxm hym
      obtain ⟨c, hcc⟩ : ∃ c, c = sameT x y := ⟨_, rfl⟩
      rw [← hcc] at cxy hc
      refine Ok.dop (idx_view (E.tyc x) (by cbv) (by cbv) (by simp) (by rw [E.tys_eq hE]; simp [hx]) rfl) ?_
      repeat (first | (apply Ok.run1 hmix hA false 2000; focus (cbv; done)) | (apply Ok.one hmix hA; focus (cbv; done)) | (rw [Ar.notT hA]) | (rw [Ar.notF hA]) | (refine Ok.condT ?_ ?_; focus (cbv; done)) | (refine Ok.condF ?_ ?_; focus (cbv; done)) | (refine Ok.drawnE (by as_aux_lemma => kernel_rfl) ?_))
      refine Ok.dop (idx_view (E.tyc y) (by cbv) (by cbv) (by simp) (by rw [E.tys_eq hE]; simp [hy]) rfl) ?_
      repeat (first | (apply Ok.run1 hmix hA false 2000; focus (cbv; done)) | (apply Ok.one hmix hA; focus (cbv; done)) | (rw [Ar.notT hA]) | (rw [Ar.notF hA]) | (refine Ok.condT ?_ ?_; focus (cbv; done)) | (refine Ok.condF ?_ ?_; focus (cbv; done)) | (refine Ok.drawnE (by as_aux_lemma => kernel_rfl) ?_) | (apply Ok.call (cxy); (focus (cbv; done)); (focus (cbv; done)); (focus (cbv; done))) | (apply Ok.dcall (cxy); (focus (cbv; done)); (focus (cbv; done)); (focus (cbv; done))))
      cases c
      · rw [← hc]
        repeat (first | (apply Ok.run1 hmix hA false 2000; focus (cbv; done)) | (apply Ok.one hmix hA; focus (cbv; done)) | (rw [Ar.notT hA]) | (rw [Ar.notF hA]) | (refine Ok.condT ?_ ?_; focus (cbv; done)) | (refine Ok.condF ?_ ?_; focus (cbv; done)) | (refine Ok.drawnE (by as_aux_lemma => kernel_rfl) ?_))
        refine Ok.leaveRet ?_
        repeat (first | (apply Ok.run1 hmix hA false 2000; focus (cbv; done)) | (apply Ok.one hmix hA; focus (cbv; done)) | (rw [Ar.notT hA]) | (rw [Ar.notF hA]) | (refine Ok.condT ?_ ?_; focus (cbv; done)) | (refine Ok.condF ?_ ?_; focus (cbv; done)) | (refine Ok.drawnE (by as_aux_lemma => kernel_rfl) ?_))
        exact Ok.fin (by cbv) (FS.out (by cbv) (PLe.refl _))
      · repeat (first | (apply Ok.run1 hmix hA false 2000; focus (cbv; done)) | (apply Ok.one hmix hA; focus (cbv; done)) | (rw [Ar.notT hA]) | (rw [Ar.notF hA]) | (refine Ok.condT ?_ ?_; focus (cbv; done)) | (refine Ok.condF ?_ ?_; focus (cbv; done)) | (refine Ok.drawnE (by as_aux_lemma => kernel_rfl) ?_))
        rw [Ar.succ_eq hA (by omega)]
        exact Ok.back (ln - (k + 1)) [2, 3, 5] [2, 3] (by omega) (by cbv) ⟨k + 1, rfl, by omega, by simpa using hc, by cbv, by cbv⟩
    · rw [decide_eq_false hkl]
      have hke : k = l.length := by omega
      rw [hke, List.drop_length, show l.length = m.length by omega, List.drop_length] at hc
      rw [← hc]
      repeat (first | (apply Ok.run1 hmix hA false 2000; focus (cbv; done)) | (apply Ok.one hmix hA; focus (cbv; done)) | (rw [Ar.notT hA]) | (rw [Ar.notF hA]) | (refine Ok.condT ?_ ?_; focus (cbv; done)) | (refine Ok.condF ?_ ?_; focus (cbv; done)) | (refine Ok.drawnE (by as_aux_lemma => kernel_rfl) ?_))
      refine Ok.leave ?_
      repeat (first | (apply Ok.run1 hmix hA false 2000; focus (cbv; done)) | (apply Ok.one hmix hA; focus (cbv; done)) | (rw [Ar.notT hA]) | (rw [Ar.notF hA]) | (refine Ok.condT ?_ ?_; focus (cbv; done)) | (refine Ok.condF ?_ ?_; focus (cbv; done)) | (refine Ok.drawnE (by as_aux_lemma => kernel_rfl) ?_))
      exact Ok.fin (by cbv) (FS.out (by cbv) (PLe.refl _))
theorem ref6_CheckType {E : Enc} (hE : E = .std) (t : Ty) (hsz : szT t ≤ 2 ^ 40) : CallsV Try.prog 40 [E.tyc t] (.pv (.int .i64 (ckT t 0))) [] := by
  obtain ⟨A, hA⟩ : ∃ A : Ar, A = .std := ⟨_, rfl⟩
  have c := ref6_checkType hE _ t 0 (Nat.le_refl _) hsz (by omega)
  obtain ⟨k, l⟩ := t
  refine CallsV.ok (fn := Try.f40) (by kernel_rfl) (by kernel_rfl) rfl (by cbv) (by cbv) ?_
  repeat (first | (apply Ok.run1 hmix hA false 2000; focus (cbv; done)) | (apply Ok.one hmix hA; focus (cbv; done)) | (rw [Ar.notT hA]) | (rw [Ar.notF hA]) | (refine Ok.condT ?_ ?_; focus (cbv; done)) | (refine Ok.condF ?_ ?_; focus (cbv; done)) | (refine Ok.drawnE (by as_aux_lemma => kernel_rfl) ?_) | (apply Ok.call (c); (focus (cbv; done)); (focus (cbv; done)); (focus (cbv; done))) | (apply Ok.dcall (c); (focus (cbv; done)); (focus (cbv; done)); (focus (cbv; done))))
  exact Ok.fin (by cbv) (FS.out (by cbv) (PLe.refl _))
end Go.Proofs.Ytnojmocoifodjaa.Pv
set_option maxRecDepth 100000
set_option maxHeartbeats 4000000
set_option linter.unusedVariables false
set_option linter.unusedSimpArgs false
namespace Go.Proofs.Ytnojmocoifodjaa.Pv
open Go Go.Proofs
theorem strip_par {s : List UInt8} : strip [40, 41] s = match strip [40] s with
  | some r => strip [41] r
  | none => none := by
  match s with
  | [] => rfl
  | [a] =>
    unfold strip
    by_cases h : a = 40 <;> simp [h]
  | a :: b :: t =>
    unfold strip
    by_cases h : a = 40 <;> by_cases h2 : b = 41 <;> simp [h, h2]
theorem strip_drop {s w r : List UInt8} {a : Nat} (ha : a ≤ s.length) (h : strip w (s.drop a) = some r) : s.length - r.length = a + w.length ∧ a + w.length ≤ s.length ∧ r = s.drop (a + w.length) := by
  have h1 := strip_eq h
  have h2 := congrArg List.length h1
  rw [List.length_drop, List.length_append] at h2
  refine ⟨by omega, by omega, ?_⟩
  rw [← List.drop_drop, h1, List.drop_left]
theorem ref6_typeAt {E : Enc} (hE : E = .std) (s : List UInt8) (hs : s.length ≤ 2 ^ 20) : ∀ (n a : Nat), a ≤ s.length → 2 * (s.length - a) + 2 ≤ n → CallsV Try.prog 71 [.str s, .int .i64 (Int.ofNat a)] (.tup [.pv (E.tyc (rT (rd n (s.drop a)))), .pv (.int .i64 (posM s.length (rd n (s.drop a))))]) [] := by
  intro n
  induction n using Nat.strongRecOn with
  | _ n ih =>
  intro a ha hfu
  obtain ⟨n, rfl⟩ : ∃ k, n = k + 1 := ⟨n - 1, by omega⟩
  obtain ⟨A, hA⟩ : ∃ A : Ar, A = .std := ⟨_, rfl⟩
  have ht0 : E .tys [] = [] := by rw [E.tys_eq hE]; rfl
  have fr : ∀ (b : Nat) (w : List UInt8), b ≤ s.length → w.length ≤ 100 → CallsV Try.prog 103 [.str s, .int .i64 (Int.ofNat b), .str w] (.pv (.bool (strip w (s.drop b)).isSome)) [] := fun b w hb hw => ref6_front s w b hb hs hw
  have fT : ∀ (b : Nat) (w r : List UInt8), b ≤ s.length → w.length ≤ 100 → strip w (s.drop b) = some r → CallsV Try.prog 103 [.str s, .int .i64 (Int.ofNat b), .str w] (.pv (.bool true)) [] := fun b w r hb hw h => by have := fr b w hb hw; rw [h] at this; exact this
  have fF : ∀ (b : Nat) (w : List UInt8), b ≤ s.length → w.length ≤ 100 → strip w (s.drop b) = none → CallsV Try.prog 103 [.str s, .int .i64 (Int.ofNat b), .str w] (.pv (.bool false)) [] := fun b w hb hw h => by have := fr b w hb hw; rw [h] at this; exact this
  have add : ∀ (b c : Nat), b ≤ s.length → c ≤ 100 → A .add .i64 (Int.ofNat b) (Int.ofNat c) = Int.ofNat (b + c) := fun b c hb hc => ofNat_add hA (by omega)
  obtain ⟨res, hres⟩ : ∃ q, q = rd (n + 1) (s.drop a) := ⟨_, rfl⟩
  rw [← hres]
  have hrd := hres
  rw [rd] at hrd
  obtain ⟨ls, hls⟩ : ∃ n, n = s.length := ⟨_, rfl⟩
  rw [← hls]
  refine CallsV.ok (fn := Try.f71) (by kernel_rfl) (by kernel_rfl) rfl (by cbv) (by cbv) ?_
  cases h1 : strip sInt (s.drop a) with
  | some r =>
    have c1 := fT a sInt r ha (by decide) h1
    simp only [h1] at hrd
    obtain ⟨p1, p2, _⟩ := strip_drop ha h1
    repeat (first | (apply Ok.run1 hmix hA false 2000; focus (cbv; done)) | (apply Ok.one hmix hA; focus (cbv; done)) | (rw [Ar.notT hA]) | (rw [Ar.notF hA]) | (refine Ok.condT ?_ ?_; focus (cbv; done)) | (refine Ok.condF ?_ ?_; focus (cbv; done)) | (refine Ok.drawnE (by as_aux_lemma => kernel_rfl) ?_) | (apply Ok.call (c1); (focus (cbv; done)); (focus (cbv; done)); (focus (cbv; done))) | (apply Ok.dcall (c1); (focus (cbv; done)); (focus (cbv; done)); (focus (cbv; done))))
    rw [show A .add .i64 (Int.ofNat a) 3 = Int.ofNat (a + 3) from add a 3 ha (by omega), hrd]
    obtain ⟨a3, ha3⟩ : ∃ b, b = a + 3 := ⟨_, rfl⟩
    rw [← ha3]
    (first | (apply Ok.fin1; (focus (cbv; done)); (focus (cbv; done))) | (apply Ok.fin2; (focus (cbv; done)); (focus (cbv; done))) | (apply Ok.fin3; (focus (cbv; done)); (focus (cbv; done))))
    · simp [rT, Enc.tyc, ht0]
    · simp only [posM]; rw [hls, p1, ha3]; rfl
  | none =>
  have c1 := fF a sInt ha (by decide) h1
  simp only [h1] at hrd
  cases h2 : strip sBool (s.drop a) with
  | some r =>
    have c2 := fT a sBool r ha (by decide) h2
    simp only [h2] at hrd
    obtain ⟨p1, p2, _⟩ := strip_drop ha h2
    repeat (first | (apply Ok.run1 hmix hA false 2000; focus (cbv; done)) | (apply Ok.one hmix hA; focus (cbv; done)) | (rw [Ar.notT hA]) | (rw [Ar.notF hA]) | (refine Ok.condT ?_ ?_; focus (cbv; done)) | (refine Ok.condF ?_ ?_; focus (cbv; done)) | (refine Ok.drawnE (by as_aux_lemma => kernel_rfl) ?_) | (apply Ok.call (c1); (focus (cbv; done)); (focus (cbv; done)); (focus (cbv; done))) | (apply Ok.dcall (c1); (focus (cbv; done)); (focus (cbv; done)); (focus (cbv; done))) | (apply Ok.call (c2); (focus (cbv; done)); (focus (cbv; done)); (focus (cbv; done))) | (apply Ok.dcall (c2); (focus (cbv; done)); (focus (cbv; done)); (focus (cbv; done))))
    rw [show A .add .i64 (Int.ofNat a) 4 = Int.ofNat (a + 4) from add a 4 ha (by omega), hrd]
    obtain ⟨a3, ha3⟩ : ∃ b, b = a + 4 := ⟨_, rfl⟩
    rw [← ha3]
    (first | (apply Ok.fin1; (focus (cbv; done)); (focus (cbv; done))) | (apply Ok.fin2; (focus (cbv; done)); (focus (cbv; done))) | (apply Ok.fin3; (focus (cbv; done)); (focus (cbv; done))))
    · simp [rT, Enc.tyc, ht0]
    · simp only [posM]; rw [hls, p1, ha3]; rfl
  | none =>
  have c2 := fF a sBool ha (by decide) h2
  simp only [h2] at hrd
  cases h3 : strip sText (s.drop a) with
  | some r =>
    have c3 := fT a sText r ha (by decide) h3
    simp only [h3] at hrd
    obtain ⟨p1, p2, _⟩ := strip_drop ha h3
    repeat (first | (apply Ok.run1 hmix hA false 2000; focus (cbv; done)) | (apply Ok.one hmix hA; focus (cbv; done)) | (rw [Ar.notT hA]) | (rw [Ar.notF hA]) | (refine Ok.condT ?_ ?_; focus (cbv; done)) | (refine Ok.condF ?_ ?_; focus (cbv; done)) | (refine Ok.drawnE (by as_aux_lemma => kernel_rfl) ?_) | (apply Ok.call (c1); (focus (cbv; done)); (focus (cbv; done)); (focus (cbv; done))) | (apply Ok.dcall (c1); (focus (cbv; done)); (focus (cbv; done)); (focus (cbv; done))) | (apply Ok.call (c2); (focus (cbv; done)); (focus (cbv; done)); (focus (cbv; done))) | (apply Ok.dcall (c2); (focus (cbv; done)); (focus (cbv; done)); (focus (cbv; done))) | (apply Ok.call (c3); (focus (cbv; done)); (focus (cbv; done)); (focus (cbv; done))) | (apply Ok.dcall (c3); (focus (cbv; done)); (focus (cbv; done)); (focus (cbv; done))))
    rw [show A .add .i64 (Int.ofNat a) 4 = Int.ofNat (a + 4) from add a 4 ha (by omega), hrd]
    obtain ⟨a3, ha3⟩ : ∃ b, b = a + 4 := ⟨_, rfl⟩
    rw [← ha3]
    (first | (apply Ok.fin1; (focus (cbv; done)); (focus (cbv; done))) | (apply Ok.fin2; (focus (cbv; done)); (focus (cbv; done))) | (apply Ok.fin3; (focus (cbv; done)); (focus (cbv; done))))
    · simp [rT, Enc.tyc, ht0]
    · simp only [posM]; rw [hls, p1, ha3]; rfl
  | none =>
  have c3 := fF a sText ha (by decide) h3
  simp only [h3] at hrd
  cases h4 : strip [40] (s.drop a) with
  | none =>
    have c4 := fF a [40, 41] ha (by decide) (by rw [strip_par, h4])
    have c5 := fF a [40] ha (by decide) h4
    simp only [h4] at hrd
    repeat (first | (apply Ok.run1 hmix hA false 2000; focus (cbv; done)) | (apply Ok.one hmix hA; focus (cbv; done)) | (rw [Ar.notT hA]) | (rw [Ar.notF hA]) | (refine Ok.condT ?_ ?_; focus (cbv; done)) | (refine Ok.condF ?_ ?_; focus (cbv; done)) | (refine Ok.drawnE (by as_aux_lemma => kernel_rfl) ?_) | (apply Ok.call (c1); (focus (cbv; done)); (focus (cbv; done)); (focus (cbv; done))) | (apply Ok.dcall (c1); (focus (cbv; done)); (focus (cbv; done)); (focus (cbv; done))) | (apply Ok.call (c2); (focus (cbv; done)); (focus (cbv; done)); (focus (cbv; done))) | (apply Ok.dcall (c2); (focus (cbv; done)); (focus (cbv; done)); (focus (cbv; done))) | (apply Ok.call (c3); (focus (cbv; done)); (focus (cbv; done)); (focus (cbv; done))) | (apply Ok.dcall (c3); (focus (cbv; done)); (focus (cbv; done)); (focus (cbv; done))) | (apply Ok.call (c4); (focus (cbv; done)); (focus (cbv; done)); (focus (cbv; done))) | (apply Ok.dcall (c4); (focus (cbv; done)); (focus (cbv; done)); (focus (cbv; done))) | (apply Ok.call (c5); (focus (cbv; done)); (focus (cbv; done)); (focus (cbv; done))) | (apply Ok.dcall (c5); (focus (cbv; done)); (focus (cbv; done)); (focus (cbv; done))))
    rw [hrd]
    (first | (apply Ok.fin1; (focus (cbv; done)); (focus (cbv; done))) | (apply Ok.fin2; (focus (cbv; done)); (focus (cbv; done))) | (apply Ok.fin3; (focus (cbv; done)); (focus (cbv; done))))
    · simp [rT, Enc.tyc, ht0, Ty.zero]
    · rfl
  | some r =>
  simp only [h4] at hrd
  obtain ⟨p1, p2, p3⟩ := strip_drop ha h4
  have c5 := fT a [40] r ha (by decide) h4
  cases h5 : strip [41] r with
  | some e =>
    simp only [h5] at hrd
    have h6 : strip [40, 41] (s.drop a) = some e := by rw [strip_par, h4]; exact h5
    have c4 := fT a [40, 41] e ha (by decide) h6
    obtain ⟨q1, q2, _⟩ := strip_drop ha h6
    repeat (first | (apply Ok.run1 hmix hA false 2000; focus (cbv; done)) | (apply Ok.one hmix hA; focus (cbv; done)) | (rw [Ar.notT hA]) | (rw [Ar.notF hA]) | (refine Ok.condT ?_ ?_; focus (cbv; done)) | (refine Ok.condF ?_ ?_; focus (cbv; done)) | (refine Ok.drawnE (by as_aux_lemma => kernel_rfl) ?_) | (apply Ok.call (c1); (focus (cbv; done)); (focus (cbv; done)); (focus (cbv; done))) | (apply Ok.dcall (c1); (focus (cbv; done)); (focus (cbv; done)); (focus (cbv; done))) | (apply Ok.call (c2); (focus (cbv; done)); (focus (cbv; done)); (focus (cbv; done))) | (apply Ok.dcall (c2); (focus (cbv; done)); (focus (cbv; done)); (focus (cbv; done))) | (apply Ok.call (c3); (focus (cbv; done)); (focus (cbv; done)); (focus (cbv; done))) | (apply Ok.dcall (c3); (focus (cbv; done)); (focus (cbv; done)); (focus (cbv; done))) | (apply Ok.call (c4); (focus (cbv; done)); (focus (cbv; done)); (focus (cbv; done))) | (apply Ok.dcall (c4); (focus (cbv; done)); (focus (cbv; done)); (focus (cbv; done))))
    rw [show A .add .i64 (Int.ofNat a) 2 = Int.ofNat (a + 2) from add a 2 ha (by omega), hrd]
    obtain ⟨a3, ha3⟩ : ∃ b, b = a + 2 := ⟨_, rfl⟩
    rw [← ha3]
    (first | (apply Ok.fin1; (focus (cbv; done)); (focus (cbv; done))) | (apply Ok.fin2; (focus (cbv; done)); (focus (cbv; done))) | (apply Ok.fin3; (focus (cbv; done)); (focus (cbv; done))))
    · simp [rT, Enc.tyc, ht0]
    · simp only [posM]; rw [hls, q1, ha3]; rfl
  | none =>
  simp only [h5] at hrd
  have c4 := fF a [40, 41] ha (by decide) (by rw [strip_par, h4]; exact h5)
  obtain ⟨a1, ha1⟩ : ∃ b, b = a + 1 := ⟨_, rfl⟩
  repeat (first | (apply Ok.run1 hmix hA false 2000; focus (cbv; done)) | (apply Ok.one hmix hA; focus (cbv; done)) | (rw [Ar.notT hA]) | (rw [Ar.notF hA]) | (refine Ok.condT ?_ ?_; focus (cbv; done)) | (refine Ok.condF ?_ ?_; focus (cbv; done)) | (refine Ok.drawnE (by as_aux_lemma => kernel_rfl) ?_) | (apply Ok.call (c1); (focus (cbv; done)); (focus (cbv; done)); (focus (cbv; done))) | (apply Ok.dcall (c1); (focus (cbv; done)); (focus (cbv; done)); (focus (cbv; done))) | (apply Ok.call (c2); (focus (cbv; done)); (focus (cbv; done)); (focus (cbv; done))) | (apply Ok.dcall (c2); (focus (cbv; done)); (focus (cbv; done)); (focus (cbv; done))) | (apply Ok.call (c3); (focus (cbv; done)); (focus (cbv; done)); (focus (cbv; done))) | (apply Ok.dcall (c3); (focus (cbv; done)); (focus (cbv; done)); (focus (cbv; done))) | (apply Ok.call (c4); (focus (cbv; done)); (focus (cbv; done)); (focus (cbv; done))) | (apply Ok.dcall (c4); (focus (cbv; done)); (focus (cbv; done)); (focus (cbv; done))) | (apply Ok.call (c5); (focus (cbv; done)); (focus (cbv; done)); (focus (cbv; done))) | (apply Ok.dcall (c5); (focus (cbv; done)); (focus (cbv; done)); (focus (cbv; done))))
  rw [show A .add .i64 (Int.ofNat a) 1 = Int.ofNat a1 by rw [ha1]; exact add a 1 ha (by omega)]
  refine Ok.le (Le.nilBox 6 1 59 38 2 (by cbv) (by cbv) (by cbv) (by decide)) ?_
  refine Ok.loopAt [0, 1, 4, 5, 6] [4, 6, 59] (fun m sl h => ∃ (q : Nat) (acc : List Ty) (b j : Nat) (es : List PV), m = q ∧ rdL q acc (s.drop b) = res ∧ b ≤ s.length ∧ 2 * (s.length - b) + 3 ≤ q ∧ q ≤ n ∧ acc.length + (s.length - b) ≤ s.length ∧ j = acc.length ∧ es = E .tys acc ∧
    sl = mkS 76 [(0, .pv (.str s)), (1, .pv (.int .i64 (Int.ofNat b))), (4, .ptr 4 0), (5, .pv (.int .i64 0)), (6, .ptr 6 0)] ∧
    h = [(4, .box [.pv (.int .i64 0), .pv .nil] true), (6, .box [.pv (.int .i64 4), .ref 59 j] true), (59, .row 38 2 es true)]) n (by cbv) ⟨n, [], a1, 0, [], rfl, (by rw [ha1, hrd, p3]; try rfl), (by rw [List.length_singleton] at p2; omega), (by rw [List.length_singleton] at p2; omega), Nat.le_refl _, (by rw [List.length_nil]; omega), rfl, by rw [ht0], by cbv, by cbv⟩ ?_
  clear c1 c2 c3 c4 c5 h1 h2 h3 h4 h5 hrd p1 p2 p3
  rintro m sl h ⟨q, acc, b, j, es, hm, hq, hb, hfu2, hqn, hacc, hj, hes, rfl, rfl⟩
  have hesl : j = es.length := by rw [hes, E.tys_eq hE, List.length_map, hj]
  obtain ⟨q, rfl⟩ : ∃ k, q = k + 1 := ⟨q - 1, by omega⟩
  rw [rdL] at hq
  have cR := ih q (by omega) b hb (by omega)
  have neg1 : A .lt (-1) 0 = true := by rw [Ar.lt_eq hA]; rfl
  cases hrr : rd q (s.drop b) with
  | none =>
    rw [hrr] at cR
    simp only [hrr] at hq
    repeat (first | (apply Ok.run1 hmix hA false 2000; focus (cbv; done)) | (apply Ok.one hmix hA; focus (cbv; done)) | (rw [Ar.notT hA]) | (rw [Ar.notF hA]) | (refine Ok.condT ?_ ?_; focus (cbv; done)) | (refine Ok.condF ?_ ?_; focus (cbv; done)) | (refine Ok.drawnE (by as_aux_lemma => kernel_rfl) ?_) | (apply Ok.call (cR); (focus (cbv; done)); (focus (cbv; done)); (focus (cbv; done))) | (apply Ok.dcall (cR); (focus (cbv; done)); (focus (cbv; done)); (focus (cbv; done))))
    rw [neg1]
    repeat (first | (apply Ok.run1 hmix hA false 2000; focus (cbv; done)) | (apply Ok.one hmix hA; focus (cbv; done)) | (rw [Ar.notT hA]) | (rw [Ar.notF hA]) | (refine Ok.condT ?_ ?_; focus (cbv; done)) | (refine Ok.condF ?_ ?_; focus (cbv; done)) | (refine Ok.drawnE (by as_aux_lemma => kernel_rfl) ?_))
    refine Ok.leaveRet ?_
    repeat (first | (apply Ok.run1 hmix hA false 2000; focus (cbv; done)) | (apply Ok.one hmix hA; focus (cbv; done)) | (rw [Ar.notT hA]) | (rw [Ar.notF hA]) | (refine Ok.condT ?_ ?_; focus (cbv; done)) | (refine Ok.condF ?_ ?_; focus (cbv; done)) | (refine Ok.drawnE (by as_aux_lemma => kernel_rfl) ?_))
    rw [← hq]
    (first | (apply Ok.fin1; (focus (cbv; done)); (focus (cbv; done))) | (apply Ok.fin2; (focus (cbv; done)); (focus (cbv; done))) | (apply Ok.fin3; (focus (cbv; done)); (focus (cbv; done))))
    · simp [rT, Enc.tyc, ht0, Ty.zero]
    · rfl
  | some tp =>
    obtain ⟨p, r2⟩ := tp
    rw [hrr] at cR
    simp only [hrr] at hq
    obtain ⟨ht1, hp2⟩ := rd_text q (s.drop b) p r2 hrr
    have hp1 := szT_pos p
    obtain ⟨b2, hb2⟩ : ∃ k, k = s.length - r2.length := ⟨_, rfl⟩
    have hlen := congrArg List.length ht1
    rw [List.length_drop, List.length_append] at hlen
    rw [List.length_drop] at hp2
    have hr2 : r2 = s.drop b2 := by
      rw [show b2 = b + (textT p).length by omega, ← List.drop_drop, ht1, List.drop_left]
    have cR : CallsV Try.prog 71 [.str s, .int .i64 (Int.ofNat b)] (.tup [.pv (E.tyc p), .pv (.int .i64 (Int.ofNat b2))]) [] := by rw [hb2]; exact cR
    have nn : A .lt (Int.ofNat b2) 0 = false := by rw [show (0 : Int) = Int.ofNat 0 from rfl, ofNat_lt hA]; simp
    obtain ⟨es3, hes3⟩ : ∃ es3, es3 = es ++ [E.tyc p] := ⟨_, rfl⟩
    obtain ⟨n3, hn3⟩ : ∃ n3, n3 = j + 1 := ⟨_, rfl⟩
    have hes4 : es3 = E .tys (acc ++ [p]) := by rw [hes3, hes, E.tys_eq hE, E.tys_eq hE, List.map_append]; rfl
    have hn4 : n3 = es3.length := by rw [hn3, hes3, hesl]; simp
    repeat (first | (apply Ok.run1 hmix hA false 2000; focus (cbv; done)) | (apply Ok.one hmix hA; focus (cbv; done)) | (rw [Ar.notT hA]) | (rw [Ar.notF hA]) | (refine Ok.condT ?_ ?_; focus (cbv; done)) | (refine Ok.condF ?_ ?_; focus (cbv; done)) | (refine Ok.drawnE (by as_aux_lemma => kernel_rfl) ?_) | (apply Ok.call (cR); (focus (cbv; done)); (focus (cbv; done)); (focus (cbv; done))) | (apply Ok.dcall (cR); (focus (cbv; done)); (focus (cbv; done)); (focus (cbv; done))))
    rw [nn]
    repeat (first | (apply Ok.run1 hmix hA false 2000; focus (cbv; done)) | (apply Ok.one hmix hA; focus (cbv; done)) | (rw [Ar.notT hA]) | (rw [Ar.notF hA]) | (refine Ok.condT ?_ ?_; focus (cbv; done)) | (refine Ok.condF ?_ ?_; focus (cbv; done)) | (refine Ok.drawnE (by as_aux_lemma => kernel_rfl) ?_))
    refine Ok.op (app_ref (by cbv) (by cbv) hesl (by cbv) (by cbv) (by decide) (by simp only [List.length_singleton]; omega) (by unfold maxLen; simp only [List.length_singleton]; omega) n3 (by exact hn3) es3 (by rw [hes3]; rfl)) ?_
    obtain ⟨b3, hb3⟩ : ∃ k, k = b2 + 1 := ⟨_, rfl⟩
    have hadd : A .add .i64 (Int.ofNat b2) 1 = Int.ofNat b3 := by rw [hb3]; exact add b2 1 (by omega) (by omega)
    rw [hr2] at hq
    cases hs3 : strip [41] (s.drop b2) with
    | some e =>
      have cd := fT b2 [41] e (by omega) (by decide) hs3
      obtain ⟨p1, p2, _⟩ := strip_drop (by omega) hs3
      simp only [hs3] at hq
      repeat (first | (apply Ok.run1 hmix hA false 2000; focus (cbv; done)) | (apply Ok.one hmix hA; focus (cbv; done)) | (rw [Ar.notT hA]) | (rw [Ar.notF hA]) | (refine Ok.condT ?_ ?_; focus (cbv; done)) | (refine Ok.condF ?_ ?_; focus (cbv; done)) | (refine Ok.drawnE (by as_aux_lemma => kernel_rfl) ?_) | (apply Ok.call (cd); (focus (cbv; done)); (focus (cbv; done)); (focus (cbv; done))) | (apply Ok.dcall (cd); (focus (cbv; done)); (focus (cbv; done)); (focus (cbv; done))))
      rw [hadd]
      repeat (first | (apply Ok.run1 hmix hA false 2000; focus (cbv; done)) | (apply Ok.one hmix hA; focus (cbv; done)) | (rw [Ar.notT hA]) | (rw [Ar.notF hA]) | (refine Ok.condT ?_ ?_; focus (cbv; done)) | (refine Ok.condF ?_ ?_; focus (cbv; done)) | (refine Ok.drawnE (by as_aux_lemma => kernel_rfl) ?_))
      refine Ok.leaveRet ?_
      repeat (first | (apply Ok.run1 hmix hA false 2000; focus (cbv; done)) | (apply Ok.one hmix hA; focus (cbv; done)) | (rw [Ar.notT hA]) | (rw [Ar.notF hA]) | (refine Ok.condT ?_ ?_; focus (cbv; done)) | (refine Ok.condF ?_ ?_; focus (cbv; done)) | (refine Ok.drawnE (by as_aux_lemma => kernel_rfl) ?_))
      rw [← hq]
      refine Ok.fin2 (p1 := .agg [.int .i64 4, .view es3]) (p2 := .int .i64 (Int.ofNat b3)) (ids := [59]) (by cbv) (by simp [frzL, frz2, frz1, frz0, rowOf, hget, PV.rlx, ← hn4]) ?_ ?_
      · simp [rT, Enc.tyc, hes4]
      · simp only [posM]; rw [hls, p1, hb3]; rfl
    | none =>
      have cd := fF b2 [41] (by omega) (by decide) hs3
      simp only [hs3] at hq
      cases hs4 : strip [44] (s.drop b2) with
      | some r3 =>
        have ce := fT b2 [44] r3 (by omega) (by decide) hs4
        obtain ⟨p1, p2, p3⟩ := strip_drop (by omega) hs4
        simp only [hs4] at hq
        simp only [List.length_singleton] at p1 p2 p3
        repeat (first | (apply Ok.run1 hmix hA false 2000; focus (cbv; done)) | (apply Ok.one hmix hA; focus (cbv; done)) | (rw [Ar.notT hA]) | (rw [Ar.notF hA]) | (refine Ok.condT ?_ ?_; focus (cbv; done)) | (refine Ok.condF ?_ ?_; focus (cbv; done)) | (refine Ok.drawnE (by as_aux_lemma => kernel_rfl) ?_) | (apply Ok.call (cd); (focus (cbv; done)); (focus (cbv; done)); (focus (cbv; done))) | (apply Ok.dcall (cd); (focus (cbv; done)); (focus (cbv; done)); (focus (cbv; done))) | (apply Ok.call (ce); (focus (cbv; done)); (focus (cbv; done)); (focus (cbv; done))) | (apply Ok.dcall (ce); (focus (cbv; done)); (focus (cbv; done)); (focus (cbv; done))))
        rw [hadd]
        exact Ok.back q [0, 1, 4, 5, 6] [4, 6, 59] (by omega) (by cbv) ⟨q, acc ++ [p], b3, n3, es3, rfl, by rw [hb3, ← p3]; exact hq, by omega, by omega, by omega, by simp; omega, by simp; omega, hes4, by cbv, by cbv⟩
      | none =>
        have ce := fF b2 [44] (by omega) (by decide) hs4
        simp only [hs4] at hq
        repeat (first | (apply Ok.run1 hmix hA false 2000; focus (cbv; done)) | (apply Ok.one hmix hA; focus (cbv; done)) | (rw [Ar.notT hA]) | (rw [Ar.notF hA]) | (refine Ok.condT ?_ ?_; focus (cbv; done)) | (refine Ok.condF ?_ ?_; focus (cbv; done)) | (refine Ok.drawnE (by as_aux_lemma => kernel_rfl) ?_) | (apply Ok.call (cd); (focus (cbv; done)); (focus (cbv; done)); (focus (cbv; done))) | (apply Ok.dcall (cd); (focus (cbv; done)); (focus (cbv; done)); (focus (cbv; done))) | (apply Ok.call (ce); (focus (cbv; done)); (focus (cbv; done)); (focus (cbv; done))) | (apply Ok.dcall (ce); (focus (cbv; done)); (focus (cbv; done)); (focus (cbv; done))))
        refine Ok.leaveRet ?_
        repeat (first | (apply Ok.run1 hmix hA false 2000; focus (cbv; done)) | (apply Ok.one hmix hA; focus (cbv; done)) | (rw [Ar.notT hA]) | (rw [Ar.notF hA]) | (refine Ok.condT ?_ ?_; focus (cbv; done)) | (refine Ok.condF ?_ ?_; focus (cbv; done)) | (refine Ok.drawnE (by as_aux_lemma => kernel_rfl) ?_))
        rw [← hq]
        (first | (apply Ok.fin1; (focus (cbv; done)); (focus (cbv; done))) | (apply Ok.fin2; (focus (cbv; done)); (focus (cbv; done))) | (apply Ok.fin3; (focus (cbv; done)); (focus (cbv; done))))
        · simp [rT, Enc.tyc, ht0, Ty.zero]
        · rfl
theorem ref6_ParseType {E : Enc} (hE : E = .std) (s : List UInt8) (hs : s.length ≤ 2 ^ 20) : CallsV Try.prog 34 [.str s] (.tup [.pv (E.tyc (parM s).1), .pv (.int .i64 (parM s).2)]) [] := by
  obtain ⟨A, hA⟩ : ∃ A : Ar, A = .std := ⟨_, rfl⟩
  have ht0 : E .tys [] = [] := by rw [E.tys_eq hE]; rfl
  have c := ref6_typeAt hE s hs (2 * s.length + 2) 0 (by omega) (by omega)
  rw [List.drop_zero] at c
  obtain ⟨ls, hls⟩ : ∃ n, n = s.length := ⟨_, rfl⟩
  have e1 : A .lenS s = Int.ofNat ls := by rw [hls]; exact lenS_nat hA s
  unfold parM
  rw [← hls] at c ⊢
  cases hq : rd (2 * ls + 2) s with
  | none =>
    rw [hq] at c
    have hne : A .not (A .eq (-1) (Int.ofNat ls)) = true := by
      rw [Ar.eq_eq hA, Ar.not_eq hA, decide_eq_false (by intro h; cases h)]
      rfl
    refine CallsV.ok (fn := Try.f34) (by kernel_rfl) (by kernel_rfl) rfl (by cbv) (by cbv) ?_
    repeat (first | (apply Ok.run1 hmix hA false 2000; focus (cbv; done)) | (apply Ok.one hmix hA; focus (cbv; done)) | (rw [Ar.notT hA]) | (rw [Ar.notF hA]) | (refine Ok.condT ?_ ?_; focus (cbv; done)) | (refine Ok.condF ?_ ?_; focus (cbv; done)) | (refine Ok.drawnE (by as_aux_lemma => kernel_rfl) ?_) | (apply Ok.call (c); (focus (cbv; done)); (focus (cbv; done)); (focus (cbv; done))) | (apply Ok.dcall (c); (focus (cbv; done)); (focus (cbv; done)); (focus (cbv; done))))
    rw [e1, hne]
    repeat (first | (apply Ok.run1 hmix hA false 2000; focus (cbv; done)) | (apply Ok.one hmix hA; focus (cbv; done)) | (rw [Ar.notT hA]) | (rw [Ar.notF hA]) | (refine Ok.condT ?_ ?_; focus (cbv; done)) | (refine Ok.condF ?_ ?_; focus (cbv; done)) | (refine Ok.drawnE (by as_aux_lemma => kernel_rfl) ?_))
    (first | (apply Ok.fin1; (focus (cbv; done)); (focus (cbv; done))) | (apply Ok.fin2; (focus (cbv; done)); (focus (cbv; done))) | (apply Ok.fin3; (focus (cbv; done)); (focus (cbv; done))))
    all_goals first | rfl | simp [Enc.tyc, ht0, Ty.zero]
  | some tr =>
    obtain ⟨t, r⟩ := tr
    rw [hq] at c
    obtain ⟨ht1, hsz⟩ := rd_text _ s t r hq
    have ck := ref6_CheckType hE t (by omega)
    obtain ⟨e, he⟩ : ∃ e, e = ckT t 0 := ⟨_, rfl⟩
    dsimp only
    rw [← he] at ck ⊢
    obtain ⟨b, hb⟩ : ∃ b, b = ls - r.length := ⟨_, rfl⟩
    have c : CallsV Try.prog 71 [.str s, .int .i64 0] (.tup [.pv (E.tyc t), .pv (.int .i64 (Int.ofNat b))]) [] := by rw [hb]; exact c
    have hrl : r.length ≤ ls := by omega
    have hne : A .not (A .eq (Int.ofNat b) (Int.ofNat ls)) = !decide (r = []) := by
      rw [ofNat_eq hA, Ar.not_eq hA]
      by_cases hr : r = []
      · simp [hr] at hb ⊢; omega
      · have : 0 < r.length := List.length_pos_iff.2 hr
        simp [hr]; omega
    obtain ⟨kd, l⟩ := t
    refine CallsV.ok (fn := Try.f34) (by kernel_rfl) (by kernel_rfl) rfl (by cbv) (by cbv) ?_
    repeat (first | (apply Ok.run1 hmix hA false 2000; focus (cbv; done)) | (apply Ok.one hmix hA; focus (cbv; done)) | (rw [Ar.notT hA]) | (rw [Ar.notF hA]) | (refine Ok.condT ?_ ?_; focus (cbv; done)) | (refine Ok.condF ?_ ?_; focus (cbv; done)) | (refine Ok.drawnE (by as_aux_lemma => kernel_rfl) ?_) | (apply Ok.call (c); (focus (cbv; done)); (focus (cbv; done)); (focus (cbv; done))) | (apply Ok.dcall (c); (focus (cbv; done)); (focus (cbv; done)); (focus (cbv; done))))
    rw [e1, hne]
    by_cases hr : r = []
    · rw [decide_eq_true hr, if_neg (by simpa using hr)]
      repeat (first | (apply Ok.run1 hmix hA false 2000; focus (cbv; done)) | (apply Ok.one hmix hA; focus (cbv; done)) | (rw [Ar.notT hA]) | (rw [Ar.notF hA]) | (refine Ok.condT ?_ ?_; focus (cbv; done)) | (refine Ok.condF ?_ ?_; focus (cbv; done)) | (refine Ok.drawnE (by as_aux_lemma => kernel_rfl) ?_) | (apply Ok.call (ck); (focus (cbv; done)); (focus (cbv; done)); (focus (cbv; done))) | (apply Ok.dcall (ck); (focus (cbv; done)); (focus (cbv; done)); (focus (cbv; done))))
      rw [Ar.eq_eq hA, Ar.not_eq hA]
      by_cases h0 : e = 0
      · rw [decide_eq_true h0, if_neg (by simpa using h0)]
        repeat (first | (apply Ok.run1 hmix hA false 2000; focus (cbv; done)) | (apply Ok.one hmix hA; focus (cbv; done)) | (rw [Ar.notT hA]) | (rw [Ar.notF hA]) | (refine Ok.condT ?_ ?_; focus (cbv; done)) | (refine Ok.condF ?_ ?_; focus (cbv; done)) | (refine Ok.drawnE (by as_aux_lemma => kernel_rfl) ?_))
        (first | (apply Ok.fin1; (focus (cbv; done)); (focus (cbv; done))) | (apply Ok.fin2; (focus (cbv; done)); (focus (cbv; done))) | (apply Ok.fin3; (focus (cbv; done)); (focus (cbv; done))))
        all_goals rfl
      · rw [decide_eq_false h0, if_pos h0]
        repeat (first | (apply Ok.run1 hmix hA false 2000; focus (cbv; done)) | (apply Ok.one hmix hA; focus (cbv; done)) | (rw [Ar.notT hA]) | (rw [Ar.notF hA]) | (refine Ok.condT ?_ ?_; focus (cbv; done)) | (refine Ok.condF ?_ ?_; focus (cbv; done)) | (refine Ok.drawnE (by as_aux_lemma => kernel_rfl) ?_))
        (first | (apply Ok.fin1; (focus (cbv; done)); (focus (cbv; done))) | (apply Ok.fin2; (focus (cbv; done)); (focus (cbv; done))) | (apply Ok.fin3; (focus (cbv; done)); (focus (cbv; done))))
        all_goals first | rfl | simp [Enc.tyc, ht0, Ty.zero]
    · rw [decide_eq_false hr, if_pos hr]
      repeat (first | (apply Ok.run1 hmix hA false 2000; focus (cbv; done)) | (apply Ok.one hmix hA; focus (cbv; done)) | (rw [Ar.notT hA]) | (rw [Ar.notF hA]) | (refine Ok.condT ?_ ?_; focus (cbv; done)) | (refine Ok.condF ?_ ?_; focus (cbv; done)) | (refine Ok.drawnE (by as_aux_lemma => kernel_rfl) ?_))
      (first | (apply Ok.fin1; (focus (cbv; done)); (focus (cbv; done))) | (apply Ok.fin2; (focus (cbv; done)); (focus (cbv; done))) | (apply Ok.fin3; (focus (cbv; done)); (focus (cbv; done))))
      all_goals first | rfl | simp [Enc.tyc, ht0, Ty.zero]
end Go.Proofs.Ytnojmocoifodjaa.Pv
set_option maxRecDepth 100000
set_option maxHeartbeats 4000000
set_option linter.unusedVariables false
set_option linter.unusedSimpArgs false
namespace Go.Proofs.Ytnojmocoifodjaa.Pv
open Go Go.Proofs
theorem law1_known : CallsV Try.prog 32 [] (.pv (.bool true)) [] := ev_ok 30 (by kernel_rfl)
theorem law1_TypeDeep (n : Nat) : CallsV Try.prog 6 [.int .u8 (Int.ofNat n)] (.pv (.bool true)) [] := by
  obtain ⟨r, hr⟩ : ∃ r, r = n % 10 := ⟨_, rfl⟩
  have hlt : r < 10 := by omega
  refine CallsV.ok (fn := Try.f6) (by kernel_rfl) (by kernel_rfl) rfl (by cbv) (by cbv) ?_
  refine Ok.run hmix (A := Ar.std) rfl true 2000 (by cbv) ?_
  refine Ok.call (law1_known) (by cbv) (by cbv) (by cbv) ?_
  refine Ok.run hmix (A := Ar.std) rfl true 2000 (by cbv) ?_
  refine Ok.condF (by cbv) ?_
  refine Ok.run hmix (A := Ar.std) rfl true 2000 (by cbv) ?_
  refine Ok.op (rem_op (by cbv) (by cbv) (by decide) (Int.ofNat r) (by rw [hr]; rfl)) ?_
  clear hr
  match r, hlt with
  | 0, _ => exact Ok.evl (by as_aux_lemma => kernel_rfl)
  | 1, _ => exact Ok.evl (by as_aux_lemma => kernel_rfl)
  | 2, _ => exact Ok.evl (by as_aux_lemma => kernel_rfl)
  | 3, _ => exact Ok.evl (by as_aux_lemma => kernel_rfl)
  | 4, _ => exact Ok.evl (by as_aux_lemma => kernel_rfl)
  | 5, _ => exact Ok.evl (by as_aux_lemma => kernel_rfl)
  | 6, _ => exact Ok.evl (by as_aux_lemma => kernel_rfl)
  | 7, _ => exact Ok.evl (by as_aux_lemma => kernel_rfl)
  | 8, _ => exact Ok.evl (by as_aux_lemma => kernel_rfl)
  | 9, _ => exact Ok.evl (by as_aux_lemma => kernel_rfl)
end Go.Proofs.Ytnojmocoifodjaa.Pv
set_option maxRecDepth 100000
set_option maxHeartbeats 4000000
set_option linter.unusedVariables false
set_option linter.unusedSimpArgs false
namespace Go.Proofs.Ytnojmocoifodjaa.Pv
open Go Go.Proofs
theorem law1_Of {E : Enc} (hE : E = .std) : ∀ (n : Nat) (t : Ty), SizeOf.sizeOf t ≤ n → szT t ≤ 2 ^ 28 → CallsV Try.prog 17 [E.tyc t] (.pv (E.tyc t)) [] := by
  intro n
  induction n with
  | zero => intro t h; cases t; simp at h
  | succ n ih =>
    rintro ⟨kd, l⟩ hn hsz
    obtain ⟨A, hA⟩ : ∃ A : Ar, A = .std := ⟨_, rfl⟩
    rw [szT] at hsz
    have hlen := szTs_len l
    obtain ⟨ln, hln⟩ : ∃ n, n = l.length := ⟨_, rfl⟩
    have hll : A .lenP (E .tys l) = Int.ofNat ln := by rw [Ar.lenP_eq hA, E.tys_eq hE, List.length_map, hln]; rfl
    have ht0 : E .tys [] = [] := by rw [E.tys_eq hE]; rfl
    have hsub : ∀ x, x ∈ l → CallsV Try.prog 17 [E.tyc x] (.pv (E.tyc x)) [] := fun x hx => by
      have h1 := List.sizeOf_lt_of_mem hx
      have h2 := szTs_mem hx
      simp at hn
      exact ih x (by omega) (by omega)
    clear ih
    refine CallsV.ok (fn := Try.f17) (by kernel_rfl) (by kernel_rfl) rfl (by cbv) (by cbv) ?_
    repeat (first | (apply Ok.run1 hmix hA false 2000; focus (cbv; done)) | (apply Ok.one hmix hA; focus (cbv; done)) | (rw [Ar.notT hA]) | (rw [Ar.notF hA]) | (refine Ok.condT ?_ ?_; focus (cbv; done)) | (refine Ok.condF ?_ ?_; focus (cbv; done)) | (refine Ok.drawnE (by as_aux_lemma => kernel_rfl) ?_))
    refine Ok.le (Le.nilBox 3 1 24 38 2 (by cbv) (by cbv) (by cbv) (by decide)) ?_
    refine Ok.loopAt [1, 2, 3, 4] [1, 2, 3, 24] (fun m s h => ∃ (k j : Nat) (es : List PV), m = ln - k ∧ k ≤ ln ∧ j = k ∧ es = E .tys (l.take k) ∧
      s = mkS 27 [(1, .ptr 1 0), (2, .ptr 2 0), (3, .ptr 3 0), (4, .pv (.int .i64 (Int.ofNat k)))] ∧
      h = [(1, .box [.pv (.int .i64 kd), .pv (.view (E .tys l))] true), (2, .box [.pv (.int .i64 0), .pv .nil] true), (3, .box [.pv (.int .i64 kd), .ref 24 j] true), (24, .row 38 2 es true)]) (ln - 0) (by cbv) ⟨0, 0, [], rfl, Nat.zero_le _, rfl, by rw [List.take_zero, ht0], by cbv, by cbv⟩ ?_
    rintro m s h ⟨k, j, es, rfl, hk, hj, hes, rfl, rfl⟩
    have hesl : j = es.length := by rw [hes, E.tys_eq hE, List.length_map, List.length_take, hj]; omega
    refine Ok.run hmix hA false 2000 (by cbv) ?_
    rw [hll, ofNat_lt hA]
    by_cases hkl : k < ln
    · rw [decide_eq_true hkl]
      repeat (first | (apply Ok.run1 hmix hA false 2000; focus (cbv; done)) | (apply Ok.one hmix hA; focus (cbv; done)) | (rw [Ar.notT hA]) | (rw [Ar.notF hA]) | (refine Ok.condT ?_ ?_; focus (cbv; done)) | (refine Ok.condF ?_ ?_; focus (cbv; done)) | (refine Ok.drawnE (by as_aux_lemma => kernel_rfl) ?_))
      have hx : l[k]? = some (l[k]'(by omega)) := List.getElem?_eq_getElem (by omega)
      have hxm : l[k]'(by omega) ∈ l := List.getElem_mem (by omega)
      have htk : l.take (k + 1) = l.take k ++ [l[k]'(by omega)] := by rw [List.take_add_one, hx]; rfl
      generalize l[k]'(by omega) = x at hx hxm htk
      have cx := hsub x hxm
      obtain ⟨es3, hes3⟩ : ∃ es3, es3 = es ++ [E.tyc x] := ⟨_, rfl⟩
      obtain ⟨n3, hn3⟩ : ∃ n3, n3 = j + 1 := ⟨_, rfl⟩
      refine Ok.dop (idx_view (E.tyc x) (by cbv) (by cbv) (by simp) (by rw [E.tys_eq hE]; simp [hx]) rfl) ?_
      repeat (first | (apply Ok.run1 hmix hA false 2000; focus (cbv; done)) | (apply Ok.one hmix hA; focus (cbv; done)) | (rw [Ar.notT hA]) | (rw [Ar.notF hA]) | (refine Ok.condT ?_ ?_; focus (cbv; done)) | (refine Ok.condF ?_ ?_; focus (cbv; done)) | (refine Ok.drawnE (by as_aux_lemma => kernel_rfl) ?_) | (apply Ok.call (cx); (focus (cbv; done)); (focus (cbv; done)); (focus (cbv; done))) | (apply Ok.dcall (cx); (focus (cbv; done)); (focus (cbv; done)); (focus (cbv; done))))
      refine Ok.dop (app_ref (by cbv) (by cbv) hesl (by cbv) (by cbv) (by decide) (by simp only [List.length_singleton]; omega) (by unfold maxLen; simp only [List.length_singleton]; omega) n3 (by exact hn3) es3 (by rw [hes3]; rfl)) ?_
      repeat (first | (apply Ok.run1 hmix hA false 2000; focus (cbv; done)) | (apply Ok.one hmix hA; focus (cbv; done)) | (rw [Ar.notT hA]) | (rw [Ar.notF hA]) | (refine Ok.condT ?_ ?_; focus (cbv; done)) | (refine Ok.condF ?_ ?_; focus (cbv; done)) | (refine Ok.drawnE (by as_aux_lemma => kernel_rfl) ?_))
      rw [Ar.succ_eq hA (by omega)]
      exact Ok.back (ln - (k + 1)) [1, 2, 3, 4] [1, 2, 3, 24] (by omega) (by cbv) ⟨k + 1, n3, es3, rfl, by omega, by omega, by rw [hes3, hes, htk, E.tys_eq hE, E.tys_eq hE, List.map_append]; rfl, by cbv, by cbv⟩
    · rw [decide_eq_false hkl]
      have hke : k = l.length := by omega
      rw [hke, List.take_length] at hes
      repeat (first | (apply Ok.run1 hmix hA false 2000; focus (cbv; done)) | (apply Ok.one hmix hA; focus (cbv; done)) | (rw [Ar.notT hA]) | (rw [Ar.notF hA]) | (refine Ok.condT ?_ ?_; focus (cbv; done)) | (refine Ok.condF ?_ ?_; focus (cbv; done)) | (refine Ok.drawnE (by as_aux_lemma => kernel_rfl) ?_))
      refine Ok.leave ?_
      repeat (first | (apply Ok.run1 hmix hA false 2000; focus (cbv; done)) | (apply Ok.one hmix hA; focus (cbv; done)) | (rw [Ar.notT hA]) | (rw [Ar.notF hA]) | (refine Ok.condT ?_ ?_; focus (cbv; done)) | (refine Ok.condF ?_ ?_; focus (cbv; done)) | (refine Ok.drawnE (by as_aux_lemma => kernel_rfl) ?_))
      refine Ok.fin1 (p := .agg [.int .i64 kd, .view es]) (ids := [24]) (by cbv) (by simp [frzL, frz2, frz1, frz0, rowOf, hget, PV.rlx, ← hesl]) ?_
      simp [Enc.tyc, hes]
theorem parM_sz (s : List UInt8) : szT (parM s).1 ≤ s.length + 1 := by
  unfold parM
  cases hq : rd (2 * s.length + 2) s with
  | none => simp [Ty.zero, szT, szTs]
  | some tr =>
    obtain ⟨t, r⟩ := tr
    obtain ⟨_, hsz⟩ := rd_text _ s t r hq
    dsimp only
    repeat' split
    all_goals first | (simp [Ty.zero, szT, szTs]; done) | (simp only []; omega)
theorem parM_text (s : List UInt8) (h : (parM s).2 = 0) : textT (parM s).1 = s := by
  unfold parM at h ⊢
  cases hq : rd (2 * s.length + 2) s with
  | none => rw [hq] at h; exact absurd h (by decide)
  | some tr =>
    obtain ⟨t, r⟩ := tr
    obtain ⟨ht, _⟩ := rd_text _ s t r hq
    rw [hq] at h
    dsimp only at h ⊢
    by_cases hr : r = []
    · subst hr
      rw [if_neg (by simp)] at h ⊢
      by_cases h0 : ckT t 0 = 0
      · rw [if_neg (by simpa using h0)]
        rw [List.append_nil] at ht
        exact ht.symm
      · rw [if_pos h0] at h
        exact absurd h h0
    · rw [if_pos hr] at h
      exact absurd h (by decide)
theorem law1_TypeTexts (s : List UInt8) : CallsV Try.prog 5 [.str s] (.pv (.bool true)) [] := by
  obtain ⟨A, hA⟩ : ∃ A : Ar, A = .std := ⟨_, rfl⟩
  obtain ⟨E, hE⟩ : ∃ E : Enc, E = .std := ⟨_, rfl⟩
  obtain ⟨ns, hns⟩ : ∃ n, n = s.length := ⟨_, rfl⟩
  have e1 : A .lt 200 (A .lenS s) = decide (200 < ns) := by
    rw [lenS_nat hA, ← hns]
    exact ofNat_lt hA 200 ns
  have ck := law1_known
  by_cases hbig : 200 < ns
  · refine CallsV.ok (fn := Try.f5) (by kernel_rfl) (by kernel_rfl) rfl (by cbv) (by cbv) ?_
    repeat (first | (apply Ok.run1 hmix hA false 2000; focus (cbv; done)) | (apply Ok.one hmix hA; focus (cbv; done)) | (rw [Ar.notT hA]) | (rw [Ar.notF hA]) | (refine Ok.condT ?_ ?_; focus (cbv; done)) | (refine Ok.condF ?_ ?_; focus (cbv; done)) | (refine Ok.drawnE (by as_aux_lemma => kernel_rfl) ?_) | (apply Ok.call (ck); (focus (cbv; done)); (focus (cbv; done)); (focus (cbv; done))) | (apply Ok.dcall (ck); (focus (cbv; done)); (focus (cbv; done)); (focus (cbv; done))))
    rw [e1, decide_eq_true hbig]
    repeat (first | (apply Ok.run1 hmix hA false 2000; focus (cbv; done)) | (apply Ok.one hmix hA; focus (cbv; done)) | (rw [Ar.notT hA]) | (rw [Ar.notF hA]) | (refine Ok.condT ?_ ?_; focus (cbv; done)) | (refine Ok.condF ?_ ?_; focus (cbv; done)) | (refine Ok.drawnE (by as_aux_lemma => kernel_rfl) ?_))
    exact Ok.fin (by cbv) (FS.out (by cbv) (PLe.refl _))
  have c1 := typ_Parse hE s (by omega)
  have c2 := ref6_ParseType hE s (by omega)
  have hsz := parM_sz s
  have htx := parM_text s
  generalize parM s = q at c1 c2 hsz htx
  obtain ⟨t, e⟩ := q
  dsimp only at c1 c2 hsz htx
  have c3 := law1_Of hE _ t (Nat.le_refl _) (by omega)
  have c4 := ref6_SameType hE _ t t (Nat.le_refl _) (by omega) (by omega)
  rw [sameT_refl] at c4
  have c5 := typ_Text hE _ t (Nat.le_refl _) (by omega)
  have e2 : A .eq e e = true := by rw [Ar.eq_eq hA]; simp
  obtain ⟨kd, l⟩ := t
  obtain ⟨tx, htx'⟩ : ∃ tx, tx = textT ⟨kd, l⟩ := ⟨_, rfl⟩
  rw [← htx'] at c5 htx
  refine CallsV.ok (fn := Try.f5) (by kernel_rfl) (by kernel_rfl) rfl (by cbv) (by cbv) ?_
  repeat (first | (apply Ok.run1 hmix hA false 2000; focus (cbv; done)) | (apply Ok.one hmix hA; focus (cbv; done)) | (rw [Ar.notT hA]) | (rw [Ar.notF hA]) | (refine Ok.condT ?_ ?_; focus (cbv; done)) | (refine Ok.condF ?_ ?_; focus (cbv; done)) | (refine Ok.drawnE (by as_aux_lemma => kernel_rfl) ?_) | (apply Ok.call (ck); (focus (cbv; done)); (focus (cbv; done)); (focus (cbv; done))) | (apply Ok.dcall (ck); (focus (cbv; done)); (focus (cbv; done)); (focus (cbv; done))))
  rw [e1, decide_eq_false hbig]
  repeat (first | (apply Ok.run1 hmix hA false 2000; focus (cbv; done)) | (apply Ok.one hmix hA; focus (cbv; done)) | (rw [Ar.notT hA]) | (rw [Ar.notF hA]) | (refine Ok.condT ?_ ?_; focus (cbv; done)) | (refine Ok.condF ?_ ?_; focus (cbv; done)) | (refine Ok.drawnE (by as_aux_lemma => kernel_rfl) ?_) | (apply Ok.call (c1); (focus (cbv; done)); (focus (cbv; done)); (focus (cbv; done))) | (apply Ok.dcall (c1); (focus (cbv; done)); (focus (cbv; done)); (focus (cbv; done))) | (apply Ok.call (c2); (focus (cbv; done)); (focus (cbv; done)); (focus (cbv; done))) | (apply Ok.dcall (c2); (focus (cbv; done)); (focus (cbv; done)); (focus (cbv; done))))
  rw [e2]
  repeat (first | (apply Ok.run1 hmix hA false 2000; focus (cbv; done)) | (apply Ok.one hmix hA; focus (cbv; done)) | (rw [Ar.notT hA]) | (rw [Ar.notF hA]) | (refine Ok.condT ?_ ?_; focus (cbv; done)) | (refine Ok.condF ?_ ?_; focus (cbv; done)) | (refine Ok.drawnE (by as_aux_lemma => kernel_rfl) ?_) | (apply Ok.call (c3); (focus (cbv; done)); (focus (cbv; done)); (focus (cbv; done))) | (apply Ok.dcall (c3); (focus (cbv; done)); (focus (cbv; done)); (focus (cbv; done))) | (apply Ok.call (c4); (focus (cbv; done)); (focus (cbv; done)); (focus (cbv; done))) | (apply Ok.dcall (c4); (focus (cbv; done)); (focus (cbv; done)); (focus (cbv; done))))
  rw [Ar.eq_eq hA, Ar.not_eq hA]
  by_cases h0 : e = 0
  · rw [decide_eq_true h0]
    repeat (first | (apply Ok.run1 hmix hA false 2000; focus (cbv; done)) | (apply Ok.one hmix hA; focus (cbv; done)) | (rw [Ar.notT hA]) | (rw [Ar.notF hA]) | (refine Ok.condT ?_ ?_; focus (cbv; done)) | (refine Ok.condF ?_ ?_; focus (cbv; done)) | (refine Ok.drawnE (by as_aux_lemma => kernel_rfl) ?_) | (apply Ok.call (c5); (focus (cbv; done)); (focus (cbv; done)); (focus (cbv; done))) | (apply Ok.dcall (c5); (focus (cbv; done)); (focus (cbv; done)); (focus (cbv; done))))
    rw [htx h0, show A .seq s s = true by rw [Ar.seq_eq hA]; simp]
    repeat (first | (apply Ok.run1 hmix hA false 2000; focus (cbv; done)) | (apply Ok.one hmix hA; focus (cbv; done)) | (rw [Ar.notT hA]) | (rw [Ar.notF hA]) | (refine Ok.condT ?_ ?_; focus (cbv; done)) | (refine Ok.condF ?_ ?_; focus (cbv; done)) | (refine Ok.drawnE (by as_aux_lemma => kernel_rfl) ?_))
    exact Ok.fin (by cbv) (FS.out (by cbv) (PLe.refl _))
  · rw [decide_eq_false h0]
    repeat (first | (apply Ok.run1 hmix hA false 2000; focus (cbv; done)) | (apply Ok.one hmix hA; focus (cbv; done)) | (rw [Ar.notT hA]) | (rw [Ar.notF hA]) | (refine Ok.condT ?_ ?_; focus (cbv; done)) | (refine Ok.condF ?_ ?_; focus (cbv; done)) | (refine Ok.drawnE (by as_aux_lemma => kernel_rfl) ?_))
    exact Ok.fin (by cbv) (FS.out (by cbv) (PLe.refl _))
end Go.Proofs.Ytnojmocoifodjaa.Pv
set_option linter.unusedVariables false
namespace Go.Proofs.Ytnojmocoifodjaa.Pv
open Go Go.Proofs Go.RowKit
theorem TypeTexts_walk {W : World} {a : ByteArray} (h : a.size ≤ maxLen) : Calls Try.prog 5 #[.string a] W (fun e W' => e = .returned (.bool true) ∧ Below W.heap.size W W') := by
  have hv : RV (old W) W (.str a.data.toList) (.string a) := .str a.data.toList h
  exact (law1_TypeTexts a.data.toList).yes rfl (fun i q hq => by
    match i with
    | 0 => simp only [List.getElem?_cons_zero, Option.some.injEq] at hq; subst hq; exact hv
    | i + 1 => simp at hq)
end Go.Proofs.Ytnojmocoifodjaa.Pv
