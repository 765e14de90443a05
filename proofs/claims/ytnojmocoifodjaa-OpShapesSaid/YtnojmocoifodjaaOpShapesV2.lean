/- The law OpShapes of this seat: a part of its proof (an abstract evaluator of the code that is proved sound, and contracts of functions), with no condition. -/
import Derived.Test.YtnojmocoifodjaaOpShapesV1
import Derived.Shelf.Strings.Builder1
import Derived.Shelf.Strings.Builder2
import Derived.Shelf.Strings.OnBuilder
import Derived.Shelf.Small.Strs
import Derived.Ground.Names2Prog
import Derived.Shelf.Slices.SearchI
import Derived.Test.YtnojmocoifodjaaProg
import Derived.OpenShut
import Derived.KernelRfl
set_option linter.unusedVariables false
set_option linter.unusedSimpArgs false
namespace Go.Proofs.Ytnojmocoifodjaa.Pv
open Go Go.RowKit
section
variable {P : Program} {B : Nat} {S : Stb} {β : Bta} {h : Heap} {W : World}

theorem len_str {s : Slots} {ρ : Operand → Value} (Hs : Sl S β h W s ρ) {x : Operand} {x' : Opd} (hx : opd x = some x') : True := trivial

/-- Every operation that is compiled, but for a call. -/
theorem sem_ok (H : HRel B S β h W) (hB : B ≤ W.heap.size) {d : Nat} {s : Slots} {ρ : Operand → Value} (Hs : Sl S β h W s ρ) {o : Oper} {i : I} (hc : compI P o = some i) {out : Out} (hs : sem i d s h = some out) :
    Fine P B S β h W ((execOp ρ o).run P W) out := by
  obtain ⟨dst, op, ty, pos, af, g⟩ := o
  unfold compI at hc
  unfold execOp
  cases op <;> simp only [] at hc ⊢
  case move x =>
    obtain ⟨x', hx, rfl⟩ := Option.map_eq_some_iff.1 hc
    simp only [sem, Option.some.injEq] at hs; subst hs
    exact ok_mov H Hs hx
  case assign x =>
    obtain ⟨x', hx, rfl⟩ := Option.map_eq_some_iff.1 hc
    simp only [sem, Option.some.injEq] at hs; subst hs
    exact ok_mov H Hs hx
  case pick c a b =>
    split at hc
    · rename_i c' a' b' h1 h2 h3
      cases hc
      simp only [sem] at hs
      split at hs
      · rename_i t ht
        cases hs
        have := bool_of (Hs.opd h1) ht
        rw [this]
        refine Fine.same (v := if t then ρ a else ρ b) H (by simp [asBool]) ?_
        cases t
        · exact Hs.opd h3
        · exact Hs.opd h2
      · cases hs
    · cases hc
  case alloc e =>
    obtain ⟨cs, hz, rfl⟩ := Option.map_eq_some_iff.1 hc
    simp only [sem] at hs
    split at hs
    · cases hs
    · rename_i hd
      cases hs
      exact ok_new H hB (by cases hh : h d <;> simp_all) hz
  case box e x =>
    obtain ⟨x', hx, rfl⟩ := Option.map_eq_some_iff.1 hc
    simp only [sem] at hs
    split at hs
    · cases hs
    · rename_i hd
      cases hs
      rw [not_or] at hd
      exact ok_box H hB (by cases hh : h d <;> simp_all) Hs hx (by simpa using hd.2)
  case build t ps =>
    split at hc
    · rename_i z pl hz hpl
      obtain ⟨l, hl, rfl⟩ := Option.map_eq_some_iff.1 hc
      simp only [sem] at hs
      split at hs
      · rename_i cs hf
        cases hs
        exact ok_build H Hs hz hpl hl hf
      · cases hs
    · cases hc
  case buildSlice t n ps =>
    split at hc
    · rename_i e he
      split at hc
      · rename_i sz z l h1 h2 h3
        split at hc
        · rename_i hcond
          obtain ⟨a1, a2, a3, a4⟩ := hcond
          cases hc
          exact ok_lit H hB Hs he h1 h2 h3 a1 a2 a3 a4 hs
        · cases hc
      · cases hc
    · cases hc
  case load t a =>
    cases hu : P.underlying t with
    | none => simp [hu] at hc
    | some dd =>
      simp only [hu, Option.map_some] at hc
      split at hc
      · rename_i n x' h1 h2 h3
        cases hc
        exact ok_load H Hs hu h2 h3 (.inl ⟨Option.some.inj h1, rfl⟩) hs
      · rename_i n x' h1 h2 h3
        cases hc
        exact ok_load H Hs hu h2 h3 (.inr ⟨Option.some.inj h1, rfl⟩) hs
      · cases hc
  case store t a x =>
    split at hc
    · rename_i n a' x' h1 h2 h3
      cases hc
      exact ok_store H hB Hs h1 h2 h3 hs
    · cases hc
  case binOp op t x y yt =>
    split at hc
    · rename_i x' y' hx hy
      split at hc
      · rename_i ht
        cases hc
        exact ok_beq (neg := false) H Hs ht hx hy hs
      · rename_i ht
        cases hc
        exact ok_beq (neg := true) H Hs ht hx hy hs
      · cases hc
        exact ok_bin H Hs hx hy hs
      · cases hc
        exact ok_bin H Hs hx hy hs
      · rename_i ht
        split at hc
        · rename_i hn
          cases hc
          exact ok_isnil (neg := false) H Hs ht hx hn hs
        · cases hc
      · rename_i ht
        split at hc
        · rename_i hn
          cases hc
          exact ok_isnil (neg := true) H Hs ht hx hn hs
        · cases hc
      · cases hc
    · cases hc
  case unOp op t x =>
    obtain ⟨x', hx, rfl⟩ := Option.map_eq_some_iff.1 hc
    exact ok_un H Hs hx hs
  case fieldAddr st x f =>
    split at hc
    · rename_i off n x' h1 h2
      split at hc
      · cases hc
      · rename_i hn
        cases hc
        exact ok_fld H Hs h1 hn h2 hs
    · cases hc
  case indexAddr t x ix =>
    split at hc
    · rename_i e x' i' h1 h2 h3
      obtain ⟨n, hn, rfl⟩ := Option.map_eq_some_iff.1 hc
      exact ok_idx H Hs h1 hn h2 h3 hs
    · cases hc
  case index t x ix =>
    split at hc
    · rename_i x' i' h1 h2 h3
      cases hc
      exact ok_sidx H Hs h1 h2 h3 hs
    · cases hc
  case extract x ix =>
    obtain ⟨x', hx, rfl⟩ := Option.map_eq_some_iff.1 hc
    exact ok_ext H Hs hx hs
  case slice t x lo hi mx =>
    split at hc
    · rename_i x' lo' hi' mx' h1 h2 h3 h4
      split at hc
      · rename_i hu
        split at hc
        · cases hc
        · rename_i hmx
          cases hc
          have hmn : mx = none := by
            cases mx with
            | none => rfl
            | some q =>
              simp only [optM] at h4
              cases hq : opd q with
              | none => simp [hq] at h4
              | some q' => simp [hq] at h4; subst h4; simp at hmx
          subst hmn
          exact ok_sslc H Hs hu h1 h2 h3 hs
      · rename_i e hu
        obtain ⟨n, hn, rfl⟩ := Option.map_eq_some_iff.1 hc
        exact ok_slc H Hs hu hn h1 h2 h3 h4 hs
      · cases hc
    · cases hc
  case makeFunc fn first caps =>
    cases fn <;> simp only [] at hc <;> try (cases hc; done)
    rename_i f
    split at hc
    · rename_i hfirst
      obtain ⟨l, hl, rfl⟩ := Option.map_eq_some_iff.1 hc
      simp only [sem, Option.some.injEq] at hs; subst hs
      have : first = #[] := by simpa using hfirst
      subst this
      have := ok_mkf (P := P) (f := f) H Hs hl
      simpa using this
    · cases hc
  case nilCheck x =>
    obtain ⟨x', hx, rfl⟩ := Option.map_eq_some_iff.1 hc
    exact ok_nck (dst := dst) (ty := ty) (pos := pos) (af := af) (g := g) H Hs hx hs
  case convert src dst' x =>
    split at hc
    · rename_i k0 k x' h1 h2 h3
      cases hc
      exact ok_conv H Hs h1 h2 h3 hs
    · rename_i e x' h1 h2 h3
      split at hc
      · rename_i h4
        cases hc
        exact ok_bts H hB Hs h1 h2 h4 h3 hs
      · cases hc
    · rename_i e x' h1 h2 h3
      split at hc
      · rename_i h4
        cases hc
        exact ok_stb H Hs h1 h4 h2 h3 hs
      · cases hc
    · cases hc
  case call c =>
    obtain ⟨callee, args, ats⟩ := c
    cases callee <;> try simp only [] at hc
    case value f =>
      split at hc
      · cases hc
        exact absurd hs (by simp [sem])
      · cases hc
    case builtin b =>
      cases b <;> (try simp only [] at hc) <;> try (cases hc; done)
      case append =>
        split at hc
        · rename_i x y t t' ha hat
          split at hc
          · rename_i htt
            subst htt
            split at hc
            · rename_i e he
              split at hc
              · rename_i i x' y' hi hx hy
                split at hc
                · rename_i hcond
                  cases hc
                  have h1 : args = #[x, y] := by apply Array.ext'; simpa using ha
                  have h2 : ats = #[t, t] := by apply Array.ext'; simpa using hat
                  subst h1; subst h2
                  have := ok_app (ty := ty) H hB Hs (elOf_some he) hi hcond.2 hcond.1 hx hy hs
                  simpa [resolve, invoke, builtin] using this
                · cases hc
              · cases hc
            · cases hc
          · cases hc
        · cases hc
      case len =>
        split at hc
        · rename_i x t ha hat
          have h1 : args = #[x] := by apply Array.ext'; simpa using ha
          have h2 : ats = #[t] := by apply Array.ext'; simpa using hat
          subst h1; subst h2
          split at hc
          · rename_i x' hu hx
            cases hc
            have := ok_slen (ty := ty) H Hs hu hx hs
            simpa [resolve, invoke, builtin] using this
          · rename_i e x' hu hx
            cases hc
            have := ok_len (ty := ty) H Hs hu hx hs
            simpa [resolve, invoke, builtin] using this
          · cases hc
        · cases hc
    all_goals (cases hc)
  all_goals (cases hc)
end
end Go.Proofs.Ytnojmocoifodjaa.Pv
set_option linter.unusedVariables false
set_option linter.unusedSimpArgs false
namespace Go.Proofs.Ytnojmocoifodjaa.Pv
open Go Go.RowKit

mutual
def AV.sh (k : Nat) : AV → AV
  | .pv p => .pv p
  | .ref b n => .ref (k + b) n
  | .ptr b o => .ptr (k + b) o
  | .eptr b n i o => .eptr (k + b) n i o
  | .agg cs => .agg (AV.shL k cs)
  | .tup cs => .tup (AV.shL k cs)
  | .fn f cs => .fn f (AV.shL k cs)
def AV.shL (k : Nat) : List AV → List AV
  | [] => []
  | x :: l => AV.sh k x :: AV.shL k l
end
theorem AV.shL_eq (k : Nat) : ∀ l, AV.shL k l = l.map (AV.sh k)
  | [] => rfl
  | x :: l => by simp [AV.shL, AV.shL_eq k l]
def Blk.sh (k : Nat) : Blk → Blk
  | .box cs m => .box (AV.shL k cs) m
  | .row e sz es m => .row e sz es m
def heapL (L : List Blk) : Heap := fun i => L[i]?
def hatt (h : Heap) (k : Nat) (L : List Blk) : Heap := fun q => if k ≤ q ∧ q < k + L.length then (L[q - k]?).map (Blk.sh k) else h q
def batt (β β1 : Bta) (k n : Nat) : Bta := fun q => if k ≤ q ∧ q < k + n then β1 (q - k) else β q
section
variable {P : Program} {B C : Nat} {S : Stb} {β β1 : Bta} {h : Heap} {W : World} {L : List Blk} {k : Nat}
theorem hatt_in {b : Nat} {x : Blk} (hb : heapL L b = some x) : hatt h k L (k + b) = some (x.sh k) := by
  have hlt : b < L.length := (List.getElem?_eq_some_iff.1 hb).1
  unfold hatt
  rw [if_pos ⟨by omega, by omega⟩, Nat.add_sub_cancel_left]
  show (heapL L b).map _ = _
  rw [hb]; rfl
theorem batt_in {b : Nat} (hlt : b < L.length) : batt β β1 k L.length (k + b) = β1 b := by
  unfold batt
  rw [if_pos ⟨by omega, by omega⟩, Nat.add_sub_cancel_left]
theorem heapL_lt {b : Nat} {x : Blk} (hb : heapL L b = some x) : b < L.length := (List.getElem?_eq_some_iff.1 hb).1

theorem RA.shift {x : AV} {v : Value} (H : RA S W β1 (heapL L) x v) : RA S W (batt β β1 k L.length) (hatt h k L) (x.sh k) v := by
  induction H with
  | pv hp => exact .pv hp
  | ref hb hn hv hc =>
    refine .ref (hatt_in hb) hn hv (fun hh => ?_)
    have hlt := heapL_lt hb
    unfold Cur at hc ⊢
    rw [batt_in hlt]
    exact hc hh
  | ptr hb hk => exact .ptr (hatt_in hb) (by rw [batt_in (heapL_lt hb)]; exact hk)
  | eptr hb hn hv hc => exact .eptr (hatt_in hb) hn hv (fun hh => by rw [batt_in (heapL_lt hb)]; exact hc hh)
  | agg hn hR ih =>
    rw [AV.sh, AV.shL_eq]
    refine .agg (by simpa using hn) (fun i x hx => ?_)
    rw [List.getElem?_map] at hx
    obtain ⟨y, hy, rfl⟩ := Option.map_eq_some_iff.1 hx
    exact ih i y hy
  | tup hn hR ih =>
    rw [AV.sh, AV.shL_eq]
    refine .tup (by simpa using hn) (fun i x hx => ?_)
    rw [List.getElem?_map] at hx
    obtain ⟨y, hy, rfl⟩ := Option.map_eq_some_iff.1 hx
    exact ih i y hy
  | fn hn hR ih =>
    rw [AV.sh, AV.shL_eq]
    refine .fn (by simpa using hn) (fun i x hx => ?_)
    rw [List.getElem?_map] at hx
    obtain ⟨y, hy, rfl⟩ := Option.map_eq_some_iff.1 hx
    exact ih i y hy
theorem Blk.sh_mut (x : Blk) : (x.sh k).mut = x.mut := by cases x <;> rfl
theorem Blk.sh_known (x : Blk) : (x.sh k).known = x.known := by cases x <;> simp [Blk.sh, Blk.known, AV.shL_eq]
theorem BlkRel.shift {b : Nat} {x : Blk} (hlt : b < L.length) (H : BlkRel S W β1 (heapL L) b x) : BlkRel S W (batt β β1 k L.length) (hatt h k L) (k + b) (x.sh k) := by
  cases x with
  | box cs m =>
    obtain ⟨g, cur, e, h1, h2, h3, h4⟩ := H
    refine ⟨g, cur, e, by rw [batt_in hlt]; exact h1, h2, by simpa [AV.shL_eq] using h3, fun j c hc => ?_⟩
    rw [AV.shL_eq, List.getElem?_map] at hc
    obtain ⟨y, hy, rfl⟩ := Option.map_eq_some_iff.1 hc
    exact (h4 j y hy).shift
  | row e sz es m =>
    obtain ⟨h0, h1, h2⟩ := H
    refine ⟨h0, h1, ?_⟩
    rw [batt_in hlt]
    exact h2
theorem hatt_cases {q : Nat} {y : Blk} (hq : hatt h k L q = some y) : (∃ b x, q = k + b ∧ heapL L b = some x ∧ y = x.sh k) ∨ (¬ (k ≤ q ∧ q < k + L.length) ∧ h q = some y) := by
  unfold hatt at hq
  split at hq
  · rename_i hr
    obtain ⟨x, hx, rfl⟩ := Option.map_eq_some_iff.1 hq
    exact .inl ⟨q - k, x, by omega, hx, rfl⟩
  · exact .inr ⟨‹_›, hq⟩
theorem Evo.att (hnone : ∀ i, i < L.length → h (k + i) = none) : Evo S S W W β (batt β β1 k L.length) h (hatt h k L) := by
  refine ⟨Stay.refl _ _, fun i y hy => ⟨y, ?_, ?_⟩⟩
  · have : ¬ (k ≤ i ∧ i < k + L.length) := by
      rintro ⟨h1, h2⟩
      have := hnone (i - k) (by omega)
      rw [show k + (i - k) = i by omega, hy] at this; cases this
    unfold hatt; rw [if_neg this]; exact hy
  · have : ¬ (k ≤ i ∧ i < k + L.length) := by
      rintro ⟨h1, h2⟩
      have := hnone (i - k) (by omega)
      rw [show k + (i - k) = i by omega, hy] at this; cases this
    have e : batt β β1 k L.length i = β i := by unfold batt; rw [if_neg this]
    rw [e]; exact Blk.le_refl _ _ _
theorem HRel.att (H : HRel B S β h W) (H1 : HRel C S β1 (heapL L) W) (hBC : B ≤ C) (hfr : ∀ b g, (h b).isSome → β b = some g → g < C) (hnone : ∀ i, i < L.length → h (k + i) = none) :
    HRel B S (batt β β1 k L.length) (hatt h k L) W := by
  have hout : ∀ q, ¬ (k ≤ q ∧ q < k + L.length) → batt β β1 k L.length q = β q := fun q hq => by unfold batt; rw [if_neg hq]
  have E := Evo.att (S := S) (W := W) (β := β) (β1 := β1) hnone
  have hsome : ∀ {q : Nat} {y : Blk}, h q = some y → ¬ (k ≤ q ∧ q < k + L.length) := by
    rintro q y hy ⟨h1, h2⟩
    have := hnone (q - k) (by omega)
    rw [show k + (q - k) = q by omega, hy] at this; cases this
  refine ⟨fun q y hy => ?_, fun i j g hi hj h1 h2 => ?_, fun i g hi h1 => ?_, fun i y g o hy hg ho => ?_, H.bnd⟩
  · rcases hatt_cases hy with ⟨b, x, rfl, hx, rfl⟩ | ⟨hq, hy⟩
    · exact (H1.blk b x hx).shift (heapL_lt hx)
    · exact (H.blk q y hy).evo E H.blk (hout q hq) (fun _ _ => rfl)
  · obtain ⟨y, hy⟩ := Option.isSome_iff_exists.1 hi
    obtain ⟨z, hz⟩ := Option.isSome_iff_exists.1 hj
    rcases hatt_cases hy with ⟨b, x, rfl, hx, rfl⟩ | ⟨hq, hy⟩ <;> rcases hatt_cases hz with ⟨b', x', rfl, hx', rfl⟩ | ⟨hq', hz⟩
    · rw [batt_in (heapL_lt hx)] at h1
      rw [batt_in (heapL_lt hx')] at h2
      rw [H1.inj b b' g (by simp [hx]) (by simp [hx']) h1 h2]
    · rw [batt_in (heapL_lt hx)] at h1
      rw [hout j hq'] at h2
      have a1 := H1.fresh b g (by simp [hx]) h1
      have a2 := hfr j g (by simp [hz]) h2
      omega
    · rw [batt_in (heapL_lt hx')] at h2
      rw [hout i hq] at h1
      have a1 := H1.fresh b' g (by simp [hx']) h2
      have a2 := hfr i g (by simp [hy]) h1
      omega
    · rw [hout i hq] at h1
      rw [hout j hq'] at h2
      exact H.inj i j g (by simp [hy]) (by simp [hz]) h1 h2
  · obtain ⟨y, hy⟩ := Option.isSome_iff_exists.1 hi
    rcases hatt_cases hy with ⟨b, x, rfl, hx, rfl⟩ | ⟨hq, hy⟩
    · rw [batt_in (heapL_lt hx)] at h1
      exact Nat.le_trans hBC (H1.fresh b g (by simp [hx]) h1)
    · rw [hout i hq] at h1
      exact H.fresh i g (by simp [hy]) h1
  · rcases hatt_cases hy with ⟨b, x, rfl, hx, rfl⟩ | ⟨hq, hy⟩
    · rw [batt_in (heapL_lt hx)] at hg
      rw [Blk.sh_mut, Blk.sh_known]
      exact H1.sinv b x g o hx hg ho
    · rw [hout i hq] at hg
      exact H.sinv i y g o hy hg ho
end

/-! ### What a call answers -/
/-- In every world in which the arguments read so, the call returns r; what was there stands. -/
def CallsV (P : Program) (f : FuncId) (args : List PV) (r : AV) (L : List Blk) : Prop :=
  (∃ fn, P.funcs[f]? = some fn ∧ (fn.name == "runtime.NumGoroutine") = false ∧ fn.body.isSome = true) ∧
  ∀ (S : Stb) (W : World) (vs : Array Value), (∀ k o, S k o → k < W.heap.size) → vs.size = args.length → (∀ (i : Nat) (p : PV), args[i]? = some p → RV S W p (vs.getD i undef)) →
    Calls P f vs W (fun e W' => ∃ v β S', e = .returned v ∧ Below W.heap.size W W' ∧ (∀ k o, S k o → S' k o) ∧ (∀ k o, k < W.heap.size → S' k o → S k o) ∧ HRel W.heap.size S' β (heapL L) W' ∧ RA S' W' β (heapL L) r v)
end Go.Proofs.Ytnojmocoifodjaa.Pv
set_option linter.unusedVariables false
set_option linter.unusedSimpArgs false
namespace Go.Proofs.Ytnojmocoifodjaa.Pv
open Go Go.RowKit

/-! ### Operations with their places -/
structure Ins where
  dst : Option Nat
  g : Option (Nat × Bool)
  af : List Nat
  i : I
def compG (ops : Array Oper) : Option (Nat × Bool) → Option (Option (Nat × Bool))
  | none => some none
  | some (j, w) => match (ops[j]?).bind (·.dst) with
    | some d => some (some (d, w))
    | none => none
def compIns (P : Program) (ops : Array Oper) (o : Oper) : Option Ins :=
  match compI P o, compG ops o.guard with
  | some i, some g => some { dst := o.dst, g, af := (o.after.toList.filter (Region.binds .any)).map (·.on), i }
  | _, _ => none
def putS (s : Slots) (d : Option Nat) (v : AV) : Slots := match d with
  | some d => s.set d v
  | none => s
/-- A call's arguments laid still. -/
def callArgs (s : Slots) (h : Heap) (f : Opd) (ars : List Opd) : Option (Nat × List PV × List Nat) :=
  match frz2 h (ev s f), frzL (frz2 h) (ars.map (ev s)) with
  | some (.func g caps, r1), some (ps, r2) => some (g, ps ++ caps, r1 ++ r2)
  | _, _ => none
def base (d : Option Nat) : Nat := 1000 * (d.getD 0 + 1)
def callOut (d : Option Nat) (ids : List Nat) (r : AV) (L : List Blk) : Out :=
  { v := r.sh (base d), rd := ids, up := [.frz ids, .att (base d) (L.map (Blk.sh (base d)))] }
/-- Is the operation wanted? -/
inductive Gd | yes | no | bad
  deriving DecidableEq
def gd (s : Slots) : Option (Nat × Bool) → Gd
  | none => .yes
  | some (t, w) => match s.getD t (.pv .junk) with
    | .pv (.bool b) => if b = w then .yes else .no
    | .tup [] => .no
    | _ => .bad
def skipOut : Out := { v := .tup [] }
def I.isCall : I → Bool
  | .call _ _ => true
  | _ => false
/-- One operation's outcome. -/
def SO (P : Program) (x : Ins) (s : Slots) (h : Heap) (o : Out) : Prop :=
  (gd s x.g = .no ∧ o = skipOut) ∨
  (gd s x.g = .yes ∧ match x.i with
    | .call f ars => ∃ g ps ids r L, callArgs s h f ars = some (g, ps, ids) ∧ CallsV P g ps r L ∧ (∀ i, i < L.length → h (base x.dst + i) = none) ∧ o = callOut x.dst ids r L
    | i => sem i (x.dst.getD 0) s h = some o)

/-! ### The frame in memory -/
structure Fr (W0 : World) (S0 : Stb) (s : Slots) (h : Heap) (a : Act) (W : World) (S : Stb) (β : Bta) : Prop where
  H : HRel W0.heap.size S β h W
  sl : ∀ n, RA S W β h (s.getD n (.pv .junk)) (a.tmps.getD n undef)
  sz : a.tmps.size = s.length
  df : a.defers = []
  lo : Below W0.heap.size W0 W
  up : ∀ k o, S0 k o → S k o
  dn : ∀ k o, k < W0.heap.size → S k o → S0 k o
theorem Fr.Sl {W0 : World} {S0 : Stb} {s : Slots} {h : Heap} {a : Act} {W : World} {S : Stb} {β : Bta} (F : Fr W0 S0 s h a W S β) : Sl S β h W s a.eval :=
  ⟨fun n => F.sl n, fun _ => rfl, fun _ => rfl⟩
theorem undef_ok {S : Stb} {W : World} {β : Bta} {h : Heap} : RA S W β h (.tup []) undef := .tup rfl (fun i x hx => by simp at hx)
/-- A slot is written. -/
theorem Fr.put {W0 : World} {S0 : Stb} {s : Slots} {h : Heap} {a : Act} {W : World} {S : Stb} {β : Bta} (F : Fr W0 S0 s h a W S β) (d : Option Nat) {x : AV} {v : Value} (hx : RA S W β h x v) : Fr W0 S0 (putS s d x) h (a.put d v) W S β := by
  cases d with
  | none => exact F
  | some d =>
    refine ⟨F.H, fun n => ?_, by simp [putS, Act.put, F.sz], by simp [Act.put, F.df], F.lo, F.up, F.dn⟩
    simp only [putS, Act.put]
    have hs := F.sl n
    by_cases hn : d = n
    · subst hn
      by_cases hlt : d < s.length
      · have h1 : (s.set d x).getD d (.pv .junk) = x := by simp [List.getD, hlt]
        have h2 : (a.tmps.setIfInBounds d v).getD d undef = v := by simp [F.sz, hlt]
        rw [h1, h2]; exact hx
      · have h1 : s.set d x = s := List.set_eq_of_length_le (by omega)
        have h2 : a.tmps.setIfInBounds d v = a.tmps := Array.setIfInBounds_eq_of_size_le (by rw [F.sz]; omega)
        rw [h1, h2]; exact hs
    · have h1 : (s.set d x).getD n (.pv .junk) = s.getD n (.pv .junk) := by simp [List.getD, List.getElem?_set_ne hn]
      have h2 : (a.tmps.setIfInBounds d v).getD n undef = a.tmps.getD n undef := by simp only [Array.getD_eq_getD_getElem?, Array.getElem?_setIfInBounds_ne hn]
      rw [h1, h2]; exact hs
theorem Fr.evo {W0 : World} {S0 : Stb} {s : Slots} {h h' : Heap} {a : Act} {W W' : World} {S S' : Stb} {β β' : Bta} (F : Fr W0 S0 s h a W S β) (H' : HRel W0.heap.size S' β' h' W') (E : Evo S S' W W' β β' h h') (hb : Below W0.heap.size W W')
    (hdn : ∀ k o, k < W0.heap.size → S' k o → S k o) : Fr W0 S0 s h' a W' S' β' :=
  ⟨H', fun n => (F.sl n).evo E F.H.blk, F.sz, F.df, F.lo.trans hb, fun k o h => E.st.s k o (F.up k o h), fun k o hk h => F.dn k o hk (hdn k o hk h)⟩
theorem gd_ok {W0 : World} {S0 : Stb} {s : Slots} {h : Heap} {a : Act} {W : World} {S : Stb} {β : Bta} (F : Fr W0 S0 s h a W S β) {ops : Array Oper} {o : Oper} {g : Option (Nat × Bool)} (hg : compG ops o.guard = some g) :
    (gd s g = .yes → Region.wanted o (yielded ops a.tmps) = true) ∧ (gd s g = .no → Region.wanted o (yielded ops a.tmps) = false) := by
  unfold compG at hg
  unfold Region.wanted
  cases hgo : o.guard with
  | none => simp only [hgo] at hg; cases hg; exact ⟨fun _ => rfl, fun h => by simp [gd] at h⟩
  | some jw =>
    obtain ⟨j, w⟩ := jw
    simp only [hgo] at hg
    cases hd : (ops[j]?).bind (·.dst) with
    | none => simp [hd] at hg
    | some d =>
      simp only [hd] at hg
      cases hg
      have hs := F.sl d
      have hy : yielded ops a.tmps j = match a.tmps[d]? with | some (.bool b) => some b | _ => none := by
        unfold yielded; rw [hd]; rfl
      have hbool : ∀ b, s.getD d (.pv .junk) = .pv (.bool b) → yielded ops a.tmps j = some b := by
        intro b hb
        rw [hb] at hs
        have hv : a.tmps.getD d undef = .bool b := by
          generalize a.tmps.getD d undef = v at hs ⊢
          cases hs with | pv hp => cases hp; rfl
        have hlt : d < a.tmps.size := by
          rcases Nat.lt_or_ge d a.tmps.size with h1 | h1
          · exact h1
          · have : a.tmps.getD d undef = undef := by simp [Array.getElem?_eq_none h1]
            rw [this] at hv; cases hv
        have hg : a.tmps[d]? = some (.bool b) := by rw [getD_some hlt, hv]
        rw [hy, hg]
      have htup : s.getD d (.pv .junk) = .tup [] → yielded ops a.tmps j = none := by
        intro hb
        rw [hb] at hs
        have hv : a.tmps.getD d undef = .tuple #[] := by
          generalize a.tmps.getD d undef = v at hs ⊢
          cases hs with | tup hn hR => rename_i vs; have : vs = #[] := Array.eq_empty_of_size_eq_zero hn; rw [this]
        rw [hy]
        cases hq : a.tmps[d]? with
        | none => rfl
        | some q =>
          have : a.tmps.getD d undef = q := by simp [hq]
          rw [hv] at this; subst this; rfl
      constructor
      · intro hgd
        simp only [gd] at hgd
        split at hgd
        · rename_i b hb
          split at hgd
          · rename_i hbw; simp [hbool b hb, hbw]
          · cases hgd
        · cases hgd
        · cases hgd
      · intro hgd
        simp only [gd] at hgd
        split at hgd
        · rename_i b hb
          split at hgd
          · cases hgd
          · rename_i hbw; simp [hbool b hb, hbw]
        · rename_i hb; simp [htup hb]
        · cases hgd

theorem run_call {P : Program} {W : World} {ρ : Operand → Value} {o : Oper} {f : Operand} {args : Array Operand} {ats : Array TypeId} (ho : o.op = .call { callee := .value f, args, argTypes := ats }) {g : Nat} {caps : Array Value} (hf : ρ f = .func (.func g) #[] caps)
    {fn : Func} (h1 : P.funcs[g]? = some fn) (h2 : (fn.name == "runtime.NumGoroutine") = false) (h3 : fn.body.isSome = true) : (execOp ρ o).run P W = .ok (.enter g (args.map ρ ++ caps)) W := by
  have h4 : fn.body.isNone = false := by cases hb : fn.body <;> simp_all
  unfold execOp
  rw [ho]
  simp [resolve, Deferred.ofValue, hf, invoke, callFunc, h1, h4]
  simp at h2
  simp [h2]
  intro hb; rw [hb] at h3; simp at h3
theorem compI_call {P : Program} {o : Oper} {f : Opd} {ars : List Opd} (hi : compI P o = some (.call f ars)) : ∃ f0 args0 ats0, o.op = .call { callee := .value f0, args := args0, argTypes := ats0 } ∧ opd f0 = some f ∧ listM opd args0.toList = some ars := by
  obtain ⟨dst, op, ty, pos, af, g⟩ := o
  unfold compI at hi
  cases op
  case call c =>
    obtain ⟨callee, args, ats⟩ := c
    cases callee
    case value f0 =>
      simp only [] at hi
      split at hi
      · rename_i h1 h2
        cases hi
        exact ⟨_, _, _, rfl, h1, h2⟩
      · cases hi
    case builtin b =>
      cases b
      all_goals (simp only [] at hi)
      all_goals (try (cases hi; done))
      all_goals ((repeat' (split at hi)) <;> (try (cases hi; done)))
    case invoke r n => cases hi
  all_goals (try (simp only [] at hi))
  all_goals (try (cases hi; done))
  all_goals (try (simp at hi; done))
  all_goals ((repeat' (split at hi)) <;> (try (simp at hi; done)))
  all_goals (first | (cases ‹Op.makeFunc _ _ _ = Op.call _›) | skip)

/-- One operation, in memory. -/
theorem SO_ok {P : Program} {W0 : World} {S0 : Stb} {s : Slots} {h : Heap} {a : Act} {W : World} {S : Stb} {β : Bta} (F : Fr W0 S0 s h a W S β) {ops : Array Oper} {o : Oper} {x : Ins} (hx : compIns P ops o = some x) {out : Out} (hs : SO P x s h out) {Q : Exit → Act → World → Prop} {K : Act → World → Prop}
    (hK : ∀ a' W' S' β', Fr W0 S0 (putS s x.dst out.v) (out.heap h) a' W' S' β' → K a' W') :
    if Region.wanted o (yielded ops a.tmps) then o.wp P a W K Q ∨ (o.asks P a W ∧ LetsOut Q) else K (a.put o.dst undef) W := by
  unfold compIns at hx
  split at hx
  · rename_i i g hi hg
    cases hx
    obtain ⟨g1, g2⟩ := gd_ok F hg
    rcases hs with ⟨hno, rfl⟩ | ⟨hyes, hs⟩
    · rw [g2 hno]
      simp only [Bool.false_eq_true, if_false]
      exact hK _ _ S β (F.put o.dst undef_ok)
    · rw [g1 hyes]
      simp only [if_true]
      refine .inl ?_
      have hB : W0.heap.size ≤ W.heap.size := F.lo.size
      by_cases hcall : ∃ f ars, i = .call f ars
      · obtain ⟨f, ars, rfl⟩ := hcall
        simp only [] at hs
        obtain ⟨gg, ps, ids, r, L, h1, h2, h3, rfl⟩ := hs
        obtain ⟨f0, args0, ats0, hop, hf0, ha0⟩ := compI_call hi
        unfold callArgs at h1
        split at h1
        · rename_i g' caps r1 ps' r2 hfz haz
          cases h1
          have H1 := F.H.frz (r1 ++ r2)
          have hfv := frz2_ok F.H (F.Sl.opd hf0) hfz (r1 ++ r2) (fun _ h => List.mem_append_left _ h)
          obtain ⟨l1, l2⟩ := listM_ok ha0
          obtain ⟨q1, q2⟩ := frzL_ok (R := RV (sfrz S β h (r1 ++ r2)) W) (L := r1 ++ r2) haz (fun _ h => List.mem_append_right _ h) (fun i => (args0.map a.eval).getD i undef) (by
            intro i y hy p r hp hr
            rw [List.getElem?_map] at hy
            obtain ⟨y', hy', rfl⟩ := Option.map_eq_some_iff.1 hy
            obtain ⟨x, hx1, hx2⟩ := l2 i y' hy'
            have : (args0.map a.eval).getD i undef = a.eval x := by rw [getD_toList]; simp at hx1 ⊢; simp [hx1]
            rw [this]
            exact frz2_ok F.H (F.Sl.opd hx2) hp _ hr)
          generalize hvf : a.eval f0 = vf at hfv
          cases hfv with
          | func _ _ cvs c1 c2 =>
            obtain ⟨⟨fn, d1, d2, d3⟩, hcalls⟩ := h2
            have hrun := run_call (P := P) (W := W) (ρ := a.eval) hop hvf d1 d2 d3
            unfold Oper.wp
            rw [hrun, Oper.upon_enter]
            have l1' : ars.length = args0.size := by simpa using l1
            have hsz : (args0.map a.eval).size = ps'.length := by simp at q1 ⊢; omega
            refine Calls.mono (hcalls (sfrz S β h (r1 ++ r2)) W _ H1.bnd (by simp; simp at hsz; omega) (fun i p hp => ?_)) (fun e W' hpost => ?_)
            · rw [List.getElem?_append] at hp
              split at hp
              · rename_i hlt
                have hlt2 : i < (args0.map a.eval).toList.length := by rw [Array.length_toList, hsz]; exact hlt
                have : (args0.map a.eval ++ cvs).getD i undef = (args0.map a.eval).getD i undef := by
                  rw [getD_toList, getD_toList, Array.toList_append, List.getElem?_append_left hlt2]
                rw [this]; exact q2 i p hp
              · rename_i hge
                have hle2 : (args0.map a.eval).toList.length = ps'.length := by rw [Array.length_toList, hsz]
                have : (args0.map a.eval ++ cvs).getD i undef = cvs.getD (i - ps'.length) undef := by
                  rw [getD_toList, getD_toList, Array.toList_append, List.getElem?_append_right (by omega), hle2]
                rw [this]; exact c2 _ p hp
            · obtain ⟨v, β1, S', rfl, e1, e2, e3, e4, e5⟩ := hpost
              simp only []
              -- the frame in the world behind the call
              have hL : (∀ i, i < (L.map (Blk.sh (base o.dst))).length → (hfrz h (r1 ++ r2)) (base o.dst + i) = none) := by
                intro i hi
                have := h3 i (by simpa using hi)
                simp [hfrz, this]
              have st1 : Stay S (sfrz S β h (r1 ++ r2)) W W := Stay.frz _ _ _ _ _
              have Hb : HRel W0.heap.size (sfrz S β h (r1 ++ r2)) β (hfrz h (r1 ++ r2)) W' := H1.below e1
              have st2 : Stay (sfrz S β h (r1 ++ r2)) S' W' W' := ⟨e2, fun _ _ _ => rfl⟩
              have Es : Evo (sfrz S β h (r1 ++ r2)) S' W' W' β β (hfrz h (r1 ++ r2)) (hfrz h (r1 ++ r2)) := ⟨st2, fun b x hx => ⟨x, hx, Blk.le_refl _ _ _⟩⟩
              have Hs' : HRel W0.heap.size S' β (hfrz h (r1 ++ r2)) W' := by
                refine ⟨fun b x hx => (Hb.blk b x hx).evo Es Hb.blk rfl (fun _ _ => rfl), Hb.inj, Hb.fresh, fun b x k q hx hk hq => ?_, e4.bnd⟩
                exact H1.sinv b x k q hx hk (e3 k q (H1.lt (by simp [hx]) hk) hq)
              have Ha := Hs'.att (k := base o.dst) e4 hB (fun b g hb hg => H1.lt hb hg) (by intro i hi; exact hL i (by simpa using hi))
              have Ea := Evo.att (S := S') (W := W') (β := β) (β1 := β1) (k := base o.dst) (L := L) (h := hfrz h (r1 ++ r2)) (by intro i hi; exact hL i (by simpa using hi))
              have Etot : Evo S S' W W' β (batt β β1 (base o.dst) L.length) h (hatt (hfrz h (r1 ++ r2)) (base o.dst) L) :=
                (((Evo.frz S W β h (r1 ++ r2)).trans (Evo.below H1 e1)).trans Es).trans Ea
              have hheap : (callOut o.dst (r1 ++ r2) r L).heap h = hatt (hfrz h (r1 ++ r2)) (base o.dst) L := by
                funext q
                simp only [callOut, Out.heap, Upd.ap, List.foldl_cons, List.foldl_nil, List.length_map, List.getElem?_map, hatt]
              have F' := F.evo Ha Etot (e1.mono hB) (fun k q hk hq => F.H.dn _ k q hk (e3 k q (Nat.lt_of_lt_of_le hk hB) hq))
              have F2 := F'.put o.dst (x := r.sh (base o.dst)) (v := v) e5.shift
              refine hK _ _ S' (batt β β1 (base o.dst) L.length) ?_
              rw [hheap]
              exact F2
        · cases h1
      · have hs' : sem i (o.dst.getD 0) s h = some out := by
          cases i <;> first | exact hs | exact absurd ⟨_, _, rfl⟩ hcall
        obtain ⟨nx, v, W', S', β', b1, b2, b3, b4, b5, b6, b7⟩ := sem_ok F.H hB F.Sl hi hs'
        have F' := (F.evo b3 b4 b6 b7).put o.dst b5
        unfold Oper.wp
        rw [b1]
        rcases b2 with rfl | ⟨rfl, rfl⟩
        · rw [Oper.upon_value]; exact hK _ _ S' β' F'
        · rw [Oper.upon_skip]; exact hK _ _ S' β' F'
  · cases hx
end Go.Proofs.Ytnojmocoifodjaa.Pv
set_option linter.unusedVariables false
set_option linter.unusedSimpArgs false
namespace Go.Proofs.Ytnojmocoifodjaa.Pv
open Go Go.RowKit

/-! ### What an operation looks at -/
def Opd.use : Opd → List Nat
  | .t n => [n]
  | .c _ => []
def optUse : Option Opd → List Nat
  | some x => x.use
  | none => []
def I.uses : I → List Nat
  | .mov x | .box _ x | .load _ x | .un _ x | .fld _ x | .len _ x | .ext _ x | .nck x | .conv _ x | .isnil _ x | .bts x | .stb x => x.use
  | .pick c a b => c.use ++ a.use ++ b.use
  | .new _ _ => []
  | .build _ ps => ps.flatMap fun p => p.2.2.use
  | .lit _ _ ps => ps.flatMap Opd.use
  | .store _ a x | .bin _ a x | .beq _ a x | .idx _ a x | .sidx a x | .app _ _ _ a x => a.use ++ x.use
  | .slc _ x lo hi mx => x.use ++ optUse lo ++ optUse hi ++ optUse mx
  | .sslc x lo hi => x.use ++ optUse lo ++ optUse hi
  | .call f ars => f.use ++ ars.flatMap Opd.use
  | .mkf _ caps => caps.flatMap Opd.use
def Ins.uses (x : Ins) : List Nat := x.i.uses ++ (match x.g with | some (t, _) => [t] | none => [])
def Upd.chg : Upd → List Nat
  | .new b _ | .row b _ | .box b _ => [b]
  | .frz _ => []
  | .att k L => List.range' k L.length
def Upd.fzs : Upd → List Nat
  | .frz l => l
  | _ => []
def Out.chg (o : Out) : List Nat := o.up.flatMap Upd.chg
def Out.fzs (o : Out) : List Nat := o.up.flatMap Upd.fzs

/-- The same but for stillness. -/
def Feq (x y : Option Blk) : Prop := x.map Blk.frz = y.map Blk.frz
theorem rowOf_feq {h h' : Heap} {b : Nat} (hh : Feq (h' b) (h b)) : rowOf h' b = rowOf h b := by
  unfold rowOf Feq at *
  cases h1 : h b <;> cases h2 : h' b <;> simp [h1, h2] at hh ⊢
  rename_i x y
  cases x <;> cases y <;> simp [Blk.frz] at hh ⊢
  exact ⟨hh.1, hh.2.1, hh.2.2⟩
theorem boxOf_feq {h h' : Heap} {b : Nat} (hh : Feq (h' b) (h b)) : boxOf h' b = boxOf h b := by
  unfold boxOf Feq at *
  cases h1 : h b <;> cases h2 : h' b <;> simp [h1, h2] at hh ⊢
  rename_i x y
  cases x <;> cases y <;> simp [Blk.frz] at hh ⊢
  exact hh
theorem frz0_local {h h' : Heap} {x : AV} {p : PV} {ids : List Nat} (hf : frz0 h x = some (p, ids)) (hh : ∀ b, b ∈ ids → Feq (h' b) (h b)) : frz0 h' x = some (p, ids) := by
  cases x <;> simp only [frz0] at hf ⊢ <;> try exact hf
  rename_i b n
  cases hr : rowOf h b with
  | none => simp [hr] at hf
  | some t =>
    obtain ⟨e, sz, es⟩ := t
    simp only [hr] at hf
    split at hf
    · rename_i hn
      cases hf
      rw [rowOf_feq (hh b (by simp)), hr]
      simp [hn]
    · cases hf
theorem frzL_local {f f' : AV → Option (PV × List Nat)} : ∀ {l : List AV} {ps : List PV} {ids : List Nat}, frzL f l = some (ps, ids) → (∀ x p r, x ∈ l → f x = some (p, r) → (∀ b, b ∈ r → b ∈ ids) → f' x = some (p, r)) → frzL f' l = some (ps, ids)
  | [], ps, ids, hf, _ => hf
  | x :: l, ps, ids, hf, hh => by
    simp only [frzL] at hf ⊢
    split at hf
    · rename_i p r qs rs h1 h2
      cases hf
      rw [hh x p r (by simp) h1 (fun b hb => List.mem_append_left _ hb), frzL_local h2 (fun y q r' hy hq hr => hh y q r' (by simp [hy]) hq (fun b hb => List.mem_append_right _ (hr b hb)))]
    · cases hf
theorem frz1_local {h h' : Heap} {x : AV} {p : PV} {ids : List Nat} (hf : frz1 h x = some (p, ids)) (hh : ∀ b, b ∈ ids → Feq (h' b) (h b)) : frz1 h' x = some (p, ids) := by
  cases x <;> simp only [frz1] at hf ⊢ <;> try exact frz0_local hf hh
  · rename_i b off
    cases hr : boxOf h b with
    | none => simp [hr] at hf
    | some cs =>
      simp only [hr] at hf
      split at hf
      · rename_i ps rs hl
        cases hf
        rw [boxOf_feq (hh b (by simp)), hr]
        simp only []
        rw [frzL_local hl (fun y q r hy hq hr => frz0_local hq (fun b hb => hh b (List.mem_cons_of_mem _ (hr b hb))))]
      · cases hf
  · split at hf
    · rename_i ps rs hl
      cases hf
      rw [frzL_local hl (fun y q r hy hq hr => frz0_local hq (fun b hb => hh b (hr b hb)))]
    · cases hf
theorem frz2_local {h h' : Heap} {x : AV} {p : PV} {ids : List Nat} (hf : frz2 h x = some (p, ids)) (hh : ∀ b, b ∈ ids → Feq (h' b) (h b)) : frz2 h' x = some (p, ids) := by
  cases x <;> simp only [frz2] at hf ⊢ <;> try exact frz1_local hf hh
  split at hf
  · rename_i ps rs hl
    cases hf
    rw [frzL_local hl (fun y q r hy hq hr => frz1_local hq (fun b hb => hh b (hr b hb)))]
  · cases hf
theorem listOf_local {h h' : Heap} {x : AV} {es : List PV} {ids : List Nat} (hf : listOf h x = some (es, ids)) (hh : ∀ b, b ∈ ids → Feq (h' b) (h b)) : listOf h' x = some (es, ids) := by
  unfold listOf at hf ⊢
  split at hf <;> try exact hf
  rename_i b n
  cases hr : rowOf h b with
  | none => simp [hr] at hf
  | some t =>
    obtain ⟨e, sz, es⟩ := t
    simp only [hr] at hf
    split at hf
    · rename_i hn
      cases hf
      skip
      rw [rowOf_feq (hh b (by simp)), hr]
      simp [hn]
    · cases hf
theorem ev_local {s s' : Slots} {x : Opd} (hh : ∀ n, n ∈ x.use → s'.getD n (.pv .junk) = s.getD n (.pv .junk)) : ev s' x = ev s x := by
  cases x with
  | t n => exact hh n (by simp [Opd.use])
  | c p => rfl
theorem map_ev_local {s s' : Slots} : ∀ {l : List Opd}, (∀ n, n ∈ l.flatMap Opd.use → s'.getD n (.pv .junk) = s.getD n (.pv .junk)) → l.map (ev s') = l.map (ev s)
  | [], _ => rfl
  | x :: l, hh => by
    simp only [List.map_cons]
    rw [ev_local (fun n hn => hh n (by simp [hn])), map_ev_local (fun n hn => hh n (by simp only [List.flatMap_cons]; exact List.mem_append_right _ hn))]
theorem optmap_ev_local {s s' : Slots} {x : Option Opd} (hh : ∀ n, n ∈ optUse x → s'.getD n (.pv .junk) = s.getD n (.pv .junk)) : x.map (ev s') = x.map (ev s) := by
  cases x with
  | none => rfl
  | some x => simp only [Option.map_some]; rw [ev_local hh]

/-- The same heap, but for stillness, where the operation looks; the very same where it writes. -/
structure Near (h h' : Heap) (o : Out) : Prop where
  rd : ∀ b, b ∈ o.rd → Feq (h' b) (h b)
  wr : ∀ b, b ∈ o.chg → h' b = h b
theorem sem_slots {i : I} {d : Nat} {s s' : Slots} {h : Heap} (hh : ∀ n, n ∈ i.uses → s'.getD n (.pv .junk) = s.getD n (.pv .junk)) : sem i d s' h = sem i d s h := by
  cases i <;> simp only [I.uses] at hh <;> unfold sem <;> simp only []
  case mov x => rw [ev_local hh]
  case box e x => rw [ev_local hh]
  case load k x => rw [ev_local hh]
  case un op x => rw [ev_local hh]
  case fld o x => rw [ev_local hh]
  case len b x => cases b <;> simp only [] <;> rw [ev_local hh]
  case ext j x => rw [ev_local hh]
  case nck x => rw [ev_local hh]
  case conv k x => rw [ev_local hh]
  case isnil k x => rw [ev_local hh]
  case bts x => rw [ev_local hh]
  case stb x => rw [ev_local hh]
  case pick c a b => rw [ev_local (x := c) (fun n hn => hh n (by simp [hn])), ev_local (x := a) (fun n hn => hh n (by simp [hn])), ev_local (x := b) (fun n hn => hh n (by simp [hn]))]
  case build z ps =>
    have : ps.map (fun (o, n, x) => (o, n, ev s' x)) = ps.map (fun (o, n, x) => (o, n, ev s x)) := by
      apply List.map_congr_left
      rintro ⟨o, n, x⟩ hp
      simp only []
      rw [ev_local (fun m hm => hh m (List.mem_flatMap.2 ⟨_, hp, hm⟩))]
    rw [this]
  case lit e sz ps => rw [map_ev_local hh]
  case store n a x => rw [ev_local (x := a) (fun n hn => hh n (by simp [hn])), ev_local (x := x) (fun n hn => hh n (by simp [hn]))]
  case bin op a x => rw [ev_local (x := a) (fun n hn => hh n (by simp [hn])), ev_local (x := x) (fun n hn => hh n (by simp [hn]))]
  case beq op a x => rw [ev_local (x := a) (fun n hn => hh n (by simp [hn])), ev_local (x := x) (fun n hn => hh n (by simp [hn]))]
  case idx sz a x => rw [ev_local (x := a) (fun n hn => hh n (by simp [hn])), ev_local (x := x) (fun n hn => hh n (by simp [hn]))]
  case sidx a x => rw [ev_local (x := a) (fun n hn => hh n (by simp [hn])), ev_local (x := x) (fun n hn => hh n (by simp [hn]))]
  case app e sz b a x => rw [ev_local (x := a) (fun n hn => hh n (by simp [hn])), ev_local (x := x) (fun n hn => hh n (by simp [hn]))]
  case slc sz x lo hi mx => rw [ev_local (x := x) (fun n hn => hh n (by simp [hn])), optmap_ev_local (x := lo) (fun n hn => hh n (by simp [hn])), optmap_ev_local (x := hi) (fun n hn => hh n (by simp [hn])), optmap_ev_local (x := mx) (fun n hn => hh n (by simp [hn]))]
  case sslc x lo hi => rw [ev_local (x := x) (fun n hn => hh n (by simp [hn])), optmap_ev_local (x := lo) (fun n hn => hh n (by simp [hn])), optmap_ev_local (x := hi) (fun n hn => hh n (by simp [hn]))]
  case mkf f caps => rw [map_ev_local hh]
theorem sem_heap {i : I} {d : Nat} {s : Slots} {h h' : Heap} {o : Out} (hs : sem i d s h = some o) (N : Near h h' o) : sem i d s h' = some o := by
  cases i
  case mov x => exact hs
  case pick c a b => exact hs
  case build z ps => exact hs
  case bin op x y => exact hs
  case beq n x y => exact hs
  case un op x => exact hs
  case sidx x y => exact hs
  case len b x => cases b <;> exact hs
  case ext j x => exact hs
  case sslc x lo hi => exact hs
  case call f ars => exact hs
  case mkf f caps => exact hs
  case nck x => exact hs
  case conv k x => exact hs
  case bts x => exact hs
  case isnil neg x =>
    simp only [sem] at hs ⊢
    split at hs
    · exact hs
    · exact hs
    · exact hs
    · exact hs
    · rename_i b n heq
      cases hr : rowOf h b with
      | none => simp [hr] at hs
      | some t =>
        obtain ⟨e', sz, es⟩ := t
        simp only [hr] at hs
        split at hs
        · cases hs
          rw [rowOf_feq (N.rd b (by simp)), hr]
          simp only []
          rw [if_pos ‹_›]
        · cases hs
    · cases hs
  case stb x =>
    simp only [sem] at hs ⊢
    split at hs
    · rename_i es rs hl
      have : o.rd = rs := by
        split at hs
        · split at hs
          · cases hs; rfl
          · cases hs
        · cases hs
      rw [listOf_local hl (fun q hq => N.rd q (by rw [this]; exact hq))]
      exact hs
    · cases hs
  case new e cs =>
    simp only [sem] at hs ⊢
    split at hs
    · cases hs
    · cases hs
      rw [N.wr d (by simp [Out.chg, Upd.chg])]
      simp [*]
  case box e x =>
    simp only [sem] at hs ⊢
    split at hs
    · cases hs
    · cases hs
      rw [N.wr d (by simp [Out.chg, Upd.chg])]
      rw [if_neg ‹_›]
  case lit e sz ps =>
    simp only [sem] at hs ⊢
    split at hs
    · cases hs
    · split at hs
      · rename_i es rs hf
        split at hs
        · cases hs
          rw [N.wr d (by simp [Out.chg, Upd.chg]), if_neg ‹_›, frzL_local hf (fun y q r hy hq hr => frz1_local hq (fun b hb => N.rd b (hr b hb)))]
          simp only []
          rw [if_pos ‹_›]
        · cases hs
      · cases hs
  case load k x =>
    simp only [sem] at hs ⊢
    split at hs
    · rename_i b off heq
      cases hb : boxOf h b with
      | none => simp [hb] at hs
      | some cs =>
        simp only [hb] at hs
        have : o.rd = [b] := by
          cases k <;> simp only [] at hs <;> split at hs <;> first | (cases hs; done) | (cases hs; rfl)
        rw [boxOf_feq (N.rd b (by simp [this])), hb]
        exact hs
    · exact hs
    · rename_i b n i off heq
      cases hb : rowOf h b with
      | none => simp [hb] at hs
      | some t =>
        obtain ⟨e, sz, es⟩ := t
        simp only [hb] at hs
        have : o.rd = [b] := by
          split at hs
          · split at hs
            · cases k <;> simp only [] at hs <;> split at hs <;> first | (cases hs; done) | (cases hs; rfl)
            · cases hs
          · cases hs
        rw [rowOf_feq (N.rd b (by simp [this])), hb]
        exact hs
    · cases hs
  case store n a x =>
    simp only [sem] at hs ⊢
    split at hs
    · rename_i b off heq
      cases hb : boxOf h b with
      | none => simp [hb] at hs
      | some cs =>
        simp only [hb] at hs
        split at hs
        · cases hs
          have e := N.wr b (by simp [Out.chg, Upd.chg])
          have e1 : boxOf h' b = some cs := by unfold boxOf at hb ⊢; rw [e]; exact hb
          have e2 : mutOf h' b = mutOf h b := by unfold mutOf; rw [e]
          simp only [e1, e2]
          rw [if_pos ‹_›]
        · cases hs
    · rename_i b m i off heq
      cases hr : rowOf h b with
      | none => simp [hr] at hs
      | some t =>
        obtain ⟨e', sz, es⟩ := t
        cases hf : frz1 h (ev s x) with
        | none => simp [hr, hf] at hs
        | some pr =>
          obtain ⟨p, rs⟩ := pr
          simp only [hr, hf] at hs
          split at hs
          · split at hs
            · split at hs
              · cases hs
                have e := N.wr b (by simp [Out.chg, Upd.chg])
                have e1 : rowOf h' b = rowOf h b := by unfold rowOf; rw [e]
                have e2 : mutOf h' b = mutOf h b := by unfold mutOf; rw [e]
                rw [e1, hr, frz1_local hf (fun q hq => N.rd q (by simp [hq]))]
                simp only [e2]
                rw [if_pos ‹_›]
                simp only [*]
                simp
              · cases hs
            · cases hs
          · cases hs
    · cases hs
  case fld off x =>
    simp only [sem] at hs ⊢
    split at hs
    · exact hs
    · exact hs
    · rename_i b n i o' heq
      cases hr : rowOf h b with
      | none => simp [hr] at hs
      | some t =>
        obtain ⟨e', sz, es⟩ := t
        simp only [hr] at hs
        split at hs
        · cases hs
          rw [rowOf_feq (N.rd b (by simp)), hr]
          simp only []
          rw [if_pos ‹_›]
        · cases hs
    · cases hs
  case idx sz x y =>
    simp only [sem] at hs ⊢
    split at hs
    · split at hs
      · rw [if_pos ‹_›]
        split at hs
        · exact hs
        · rename_i b n heq
          cases hr : rowOf h b with
          | none => simp [hr] at hs
          | some t =>
            obtain ⟨e', sz', es⟩ := t
            simp only [hr] at hs
            split at hs
            · cases hs
              skip
              rw [rowOf_feq (N.rd b (by simp)), hr]
              simp only []
              rw [if_pos ‹_›]
            · cases hs
        · cases hs
      · cases hs
    · cases hs
  case app e sz bytes x y =>
    simp only [sem] at hs ⊢
    split at hs
    · rename_i ys rs hl
      split at hs
      · rename_i hok
        split at hs
        · rename_i b n heq
          cases hr : rowOf h b with
          | none => simp [hr] at hs
          | some t =>
            obtain ⟨e', sz', es⟩ := t
            simp only [hr] at hs
            split at hs
            · cases hs
              rw [listOf_local hl (fun q hq => N.rd q (by simp [hq]))]
              simp only []
              rw [if_pos hok]
              rw [rowOf_feq (N.rd b (by simp)), hr]
              simp only []
              rw [if_pos ‹_›]
            · cases hs
        · split at hs
          · cases hs
          · cases hs
            rw [listOf_local hl (fun q hq => N.rd q hq)]
            simp only []
            rw [if_pos hok, N.wr d (by simp [Out.chg, Upd.chg]), if_neg ‹_›]
        · split at hs
          · cases hs
          · cases hs
            rw [listOf_local hl (fun q hq => N.rd q hq)]
            simp only []
            rw [if_pos hok, N.wr d (by simp [Out.chg, Upd.chg]), if_neg ‹_›]
        · cases hs
      · cases hs
    · cases hs
  case slc sz x lo hi mx =>
    simp only [sem] at hs ⊢
    split at hs
    · rename_i es rs hl
      have : o.rd = rs := by
        split at hs
        · split at hs
          · split at hs
            · cases hs; rfl
            · cases hs
          · cases hs
        · cases hs
      rw [listOf_local hl (fun q hq => N.rd q (by rw [this]; exact hq))]
      exact hs
    · cases hs
end Go.Proofs.Ytnojmocoifodjaa.Pv
set_option linter.unusedVariables false
set_option linter.unusedSimpArgs false
namespace Go.Proofs.Ytnojmocoifodjaa.Pv
open Go Go.RowKit

theorem Blk.frz_frz (x : Blk) : x.frz.frz = x.frz := by cases x <;> rfl
theorem Upd.ap_no (u : Upd) (h : Heap) {q : Nat} (h1 : q ∉ u.chg) : u.ap h q = if q ∈ u.fzs then (h q).map Blk.frz else h q := by
  cases u with
  | new b x => simp only [Upd.chg, List.mem_singleton] at h1; simp [Upd.ap, Upd.fzs, hupd_ne _ _ h1]
  | frz l => by_cases hq : q ∈ l <;> simp [Upd.ap, Upd.fzs, hfrz, hq]
  | row b es =>
    simp only [Upd.chg, List.mem_singleton] at h1
    simp only [Upd.ap, Upd.fzs, List.not_mem_nil, if_false]
    cases hg : h b with
    | none => rfl
    | some x => cases x <;> simp [hupd_ne _ _ h1]
  | box b es =>
    simp only [Upd.chg, List.mem_singleton] at h1
    simp only [Upd.ap, Upd.fzs, List.not_mem_nil, if_false]
    cases hg : h b with
    | none => rfl
    | some x => cases x <;> simp [hupd_ne _ _ h1]
  | att k L =>
    simp only [Upd.chg, List.mem_range'_1, not_and, Nat.not_lt] at h1
    simp only [Upd.ap, Upd.fzs, List.not_mem_nil, if_false]
    rw [if_neg]
    rintro ⟨a, b⟩
    have := h1 a
    omega
theorem Upd.ap_at (u : Upd) {h h' : Heap} {q : Nat} (e : h q = h' q) : u.ap h q = u.ap h' q := by
  cases u with
  | new b x => simp only [Upd.ap, hupd]; split <;> simp [e]
  | frz l => simp only [Upd.ap, hfrz, e]
  | row b es =>
    simp only [Upd.ap]
    by_cases hq : q = b
    · subst hq
      rw [← e]
      cases hh : h q with
      | none => simp only []; rw [hh] at e; rw [hh, ← e]
      | some x => cases x <;> simp [hh] <;> (rw [hh] at e; exact e)
    · have := fun g : Heap => (Upd.row b es).ap_no g (q := q) (by simp [Upd.chg, hq])
      simp only [Upd.fzs, List.not_mem_nil, if_false] at this
      exact (this h).trans (e.trans (this h').symm)
  | box b cs =>
    simp only [Upd.ap]
    by_cases hq : q = b
    · subst hq
      rw [← e]
      cases hh : h q with
      | none => simp only []; rw [hh] at e; rw [hh, ← e]
      | some x => cases x <;> simp [hh] <;> (rw [hh] at e; exact e)
    · have := fun g : Heap => (Upd.box b cs).ap_no g (q := q) (by simp [Upd.chg, hq])
      simp only [Upd.fzs, List.not_mem_nil, if_false] at this
      exact (this h).trans (e.trans (this h').symm)
  | att k L => simp only [Upd.ap]; split <;> simp [e]
theorem ups_at : ∀ (l : List Upd) {h h' : Heap} {q : Nat}, h q = h' q → (l.foldl Upd.ap h) q = (l.foldl Upd.ap h') q
  | [], _, _, _, e => e
  | u :: l, h, h', q, e => ups_at l (u.ap_at e)
theorem ups_no : ∀ (l : List Upd) (h : Heap) {q : Nat}, q ∉ l.flatMap Upd.chg → (l.foldl Upd.ap h) q = if q ∈ l.flatMap Upd.fzs then (h q).map Blk.frz else h q
  | [], h, q, _ => by simp
  | u :: l, h, q, h1 => by
    simp only [List.flatMap_cons, List.mem_append, not_or] at h1
    simp only [List.foldl_cons, List.flatMap_cons, List.mem_append]
    rw [ups_no l _ h1.2, u.ap_no h h1.1]
    by_cases h2 : q ∈ u.fzs <;> by_cases h3 : q ∈ l.flatMap Upd.fzs
    · rw [if_pos h3, if_pos h2, if_pos (.inl h2)]
      cases h q <;> simp [Blk.frz_frz]
    · rw [if_neg h3, if_pos h2, if_pos (.inl h2)]
    · rw [if_pos h3, if_neg h2, if_pos (.inr h3)]
    · rw [if_neg h3, if_neg h2, if_neg (by simp only [not_or]; exact ⟨h2, h3⟩)]
theorem Out.heap_at (o : Out) {h h' : Heap} {q : Nat} (e : h q = h' q) : o.heap h q = o.heap h' q := ups_at o.up e
theorem Out.heap_no (o : Out) (h : Heap) {q : Nat} (h1 : q ∉ o.chg) : o.heap h q = if q ∈ o.fzs then (h q).map Blk.frz else h q := ups_no o.up h h1

/-- Two operations that do not meet. -/
def disj (a b : List Nat) : Bool := a.all fun x => !b.contains x
theorem disj_spec {a b : List Nat} (h : disj a b = true) {x : Nat} (hx : x ∈ a) : x ∉ b := by
  have := List.all_eq_true.1 h x hx
  simpa using this
def Ind (x : Ins) (o : Out) (y : Ins) (p : Out) : Bool :=
  disj x.dst.toList y.dst.toList && disj x.dst.toList y.uses && disj y.dst.toList x.uses &&
  disj o.chg (p.rd ++ p.chg ++ p.fzs) && disj p.chg (o.rd ++ o.fzs)

theorem putS_getD {s : Slots} {d : Option Nat} {v : AV} {n : Nat} (hn : ∀ k, d = some k → n ≠ k) : (putS s d v).getD n (.pv .junk) = s.getD n (.pv .junk) := by
  cases d with
  | none => rfl
  | some k =>
    have := hn k rfl
    simp [putS, List.getD, List.getElem?_set_ne (Ne.symm this)]
theorem putS_comm {s : Slots} {d e : Option Nat} {v u : AV} (hn : ∀ k, d = some k → e ≠ some k) : putS (putS s d v) e u = putS (putS s e u) d v := by
  cases d with
  | none => rfl
  | some k =>
    cases e with
    | none => rfl
    | some j =>
      have hne : j ≠ k := fun h => hn k rfl (by rw [h])
      simp only [putS]
      exact List.set_comm v u (Ne.symm hne)

theorem callArgs_local {s s' : Slots} {h h' : Heap} {f : Opd} {ars : List Opd} {g : Nat} {ps : List PV} {ids : List Nat} (hc : callArgs s h f ars = some (g, ps, ids)) (hh : ∀ n, n ∈ (I.call f ars).uses → s'.getD n (.pv .junk) = s.getD n (.pv .junk)) (hN : ∀ b, b ∈ ids → Feq (h' b) (h b)) :
    callArgs s' h' f ars = some (g, ps, ids) := by
  unfold callArgs at hc ⊢
  simp only [I.uses] at hh
  rw [ev_local (fun n hn => hh n (List.mem_append_left _ hn)), map_ev_local (fun n hn => hh n (List.mem_append_right _ hn))]
  split at hc
  · rename_i g' caps r1 ps' r2 h1 h2
    cases hc
    rw [frz2_local h1 (fun b hb => hN b (List.mem_append_left _ hb)), frzL_local h2 (fun y q r hy hq hr => frz2_local hq (fun b hb => hN b (List.mem_append_right _ (hr b hb))))]
  · cases hc
theorem SO.near {P : Program} {x : Ins} {s s' : Slots} {h h' : Heap} {o : Out} (hs : SO P x s h o) (hh : ∀ n, n ∈ x.uses → s'.getD n (.pv .junk) = s.getD n (.pv .junk)) (N : Near h h' o) : SO P x s' h' o := by
  have hg : gd s' x.g = gd s x.g := by
    unfold gd
    cases hgx : x.g with
    | none => rfl
    | some tw =>
      obtain ⟨t, w⟩ := tw
      simp only []
      rw [hh t (by simp [Ins.uses, hgx])]
  have hu : ∀ n, n ∈ x.i.uses → s'.getD n (.pv .junk) = s.getD n (.pv .junk) := fun n hn => hh n (List.mem_append_left _ hn)
  rcases hs with ⟨h1, h2⟩ | ⟨h1, h2⟩
  · exact .inl ⟨hg.trans h1, h2⟩
  · refine .inr ⟨hg.trans h1, ?_⟩
    obtain ⟨dst, g, af, i⟩ := x
    cases i
    case call f ars =>
      obtain ⟨gg, ps, ids, r, L, a1, a2, a3, rfl⟩ := h2
      refine ⟨gg, ps, ids, r, L, callArgs_local a1 hu (fun b hb => N.rd b hb), a2, fun i hi => ?_, rfl⟩
      have := N.wr (base dst + i) (by simp [Out.chg, callOut, Upd.chg, List.mem_range'_1]; omega)
      rw [this]; exact a3 i hi
    all_goals exact sem_heap (by rw [sem_slots hu]; exact h2) N

theorem near_of {h : Heap} {o p : Out} (h1 : disj o.chg (p.rd ++ p.chg ++ p.fzs) = true) (h2 : disj p.chg (o.rd ++ o.fzs) = true) : Near h (o.heap h) p ∧ ∀ g, o.heap h = g → Near g h p := by
  have key : ∀ b, b ∈ p.rd → Feq (o.heap h b) (h b) := by
    intro b hb
    have hn : b ∉ o.chg := fun hc => disj_spec h1 hc (by simp [hb])
    rw [o.heap_no h hn]
    unfold Feq
    split
    · cases h b <;> simp [Blk.frz_frz]
    · rfl
  have key2 : ∀ b, b ∈ p.chg → o.heap h b = h b := by
    intro b hb
    have hn : b ∉ o.chg := fun hc => disj_spec h1 hc (by simp [hb])
    have hf : b ∉ o.fzs := fun hc => disj_spec h2 hb (by simp [hc])
    rw [o.heap_no h hn, if_neg hf]
  exact ⟨⟨key, key2⟩, fun g hg => by subst hg; exact ⟨fun b hb => (key b hb).symm, fun b hb => (key2 b hb).symm⟩⟩

/-- Two operations that do not meet may change places. -/
theorem SO.swap {P : Program} {x y : Ins} {s : Slots} {h : Heap} {o p : Out} (hx : SO P x s h o) (hy : SO P y (putS s x.dst o.v) (o.heap h) p) (hi : Ind x o y p = true) :
    SO P y s h p ∧ SO P x (putS s y.dst p.v) (p.heap h) o ∧ putS (putS s y.dst p.v) x.dst o.v = putS (putS s x.dst o.v) y.dst p.v ∧ o.heap (p.heap h) = p.heap (o.heap h) := by
  simp only [Ind, Bool.and_eq_true] at hi
  obtain ⟨⟨⟨⟨d1, d2⟩, d3⟩, d4⟩, d5⟩ := hi
  have hxy : ∀ k, x.dst = some k → y.dst ≠ some k := by
    intro k hk hy
    exact disj_spec d1 (x := k) (by simp [hk]) (by simp [hy])
  have N := near_of (h := h) d4 d5
  have d4' : disj p.chg (o.rd ++ o.chg ++ o.fzs) = true := by
    refine List.all_eq_true.2 (fun b hb => ?_)
    have n1 := disj_spec d5 hb
    have n2 : b ∉ o.chg := fun hc => disj_spec d4 hc (by simp [hb])
    simp at n1 ⊢
    exact ⟨n1.1, n2, n1.2⟩
  have d5' : disj o.chg (p.rd ++ p.fzs) = true := by
    refine List.all_eq_true.2 (fun b hb => ?_)
    have n1 := disj_spec d4 hb
    simp at n1 ⊢
    exact ⟨n1.1, n1.2.2⟩
  have N' := near_of (h := h) d4' d5'
  refine ⟨?_, ?_, putS_comm (fun k hk hx => hxy k hx hk), ?_⟩
  · refine hy.near (fun n hn => (putS_getD (fun k hk => ?_)).symm) (N.2 _ rfl)
    rintro rfl
    exact disj_spec d2 (x := n) (by simp [hk]) hn
  · refine hx.near (fun n hn => putS_getD (fun k hk => ?_)) N'.1
    rintro rfl
    exact disj_spec d3 (x := n) (by simp [hk]) hn
  · funext q
    by_cases h1 : q ∈ o.chg
    · have n1 := disj_spec d4 h1
      simp at n1
      have e1 : ∀ g : Heap, p.heap g q = g q := fun g => by rw [p.heap_no g n1.2.1, if_neg n1.2.2]
      rw [e1]
      exact o.heap_at (e1 h)
    · by_cases h2 : q ∈ p.chg
      · have n1 := disj_spec d5 h2
        simp at n1
        have e1 : ∀ g : Heap, o.heap g q = g q := fun g => by rw [o.heap_no g h1, if_neg n1.2]
        rw [e1]
        exact (p.heap_at (e1 h)).symm
      · rw [o.heap_no _ h1, p.heap_no _ h2, p.heap_no _ h2, o.heap_no _ h1]
        by_cases h3 : q ∈ o.fzs <;> by_cases h4 : q ∈ p.fzs <;> simp [h3, h4]

/-! ### Runs of operations -/
def RunL (P : Program) : List (Ins × Out) → Slots → Heap → Slots → Heap → Prop
  | [], s, h, s', h' => s' = s ∧ h' = h
  | (x, o) :: l, s, h, s', h' => SO P x s h o ∧ RunL P l (putS s x.dst o.v) (o.heap h) s' h'
/-- One of them is taken first. -/
theorem RunL.first {P : Program} {y : Ins} {p : Out} {l2 : List (Ins × Out)} {s' : Slots} {h' : Heap} : ∀ (l1 : List (Ins × Out)) (s : Slots) (h : Heap), (∀ x o, (x, o) ∈ l1 → Ind x o y p = true) → RunL P (l1 ++ (y, p) :: l2) s h s' h' → RunL P ((y, p) :: l1 ++ l2) s h s' h'
  | [], s, h, _, hr => hr
  | (x, o) :: l1, s, h, hi, hr => by
    obtain ⟨h1, h2⟩ := hr
    obtain ⟨h3, h4⟩ := RunL.first l1 _ _ (fun x' o' hm => hi x' o' (by simp [hm])) h2
    obtain ⟨a1, a2, a3, a4⟩ := SO.swap h1 h3 (hi x o (by simp))
    refine ⟨a1, a2, ?_⟩
    rw [a3, a4]
    exact h4
end Go.Proofs.Ytnojmocoifodjaa.Pv
set_option linter.unusedVariables false
set_option linter.unusedSimpArgs false
namespace Go.Proofs.Ytnojmocoifodjaa.Pv
open Go Go.RowKit

/-! ### Regions -/
def preds : List (List Nat) → List Ins → List (List Nat)
  | acc, [] => acc
  | acc, x :: l => preds (acc ++ [x.af ++ x.af.flatMap fun e => acc.getD e []]) l
/-- Each pair of operations is in order, or does not meet. -/
def okD (is : List Ins) (outs : List Out) : Bool :=
  let pr := preds [] is
  outs.length == is.length &&
  (List.range is.length).all fun j => match is[j]?, outs[j]? with
    | some y, some p => y.af.all (· < j) && (List.range j).all fun i => (pr.getD j []).contains i || match is[i]?, outs[i]? with
      | some x, some o => Ind x o y p
      | _, _ => false
    | _, _ => false
def wpD (P : Program) : List Ins → Slots → Heap → List Out → (List Out → Slots → Heap → Prop) → Prop
  | [], s, h, acc, K => K acc s h
  | x :: l, s, h, acc, K => ∃ o, SO P x s h o ∧ wpD P l (putS s x.dst o.v) (o.heap h) (acc ++ [o]) K
def wpR (P : Program) : List Ins → Slots → Heap → (Slots → Heap → Prop) → Prop
  | [], s, h, K => K s h
  | x :: l, s, h, K => ∃ o, SO P x s h o ∧ wpR P l (putS s x.dst o.v) (o.heap h) K

theorem RunL.of_wpD {P : Program} {K : List Out → Slots → Heap → Prop} : ∀ (l : List Ins) (s : Slots) (h : Heap) (acc : List Out), wpD P l s h acc K → ∃ outs s' h', outs.length = l.length ∧ RunL P (l.zip outs) s h s' h' ∧ K (acc ++ outs) s' h'
  | [], s, h, acc, hw => ⟨[], s, h, rfl, ⟨rfl, rfl⟩, by simpa [wpD] using hw⟩
  | x :: l, s, h, acc, hw => by
    obtain ⟨o, h1, h2⟩ := hw
    obtain ⟨outs, s', h', a1, a2, a3⟩ := RunL.of_wpD l _ _ _ h2
    exact ⟨o :: outs, s', h', by simp [a1], ⟨h1, a2⟩, by simpa using a3⟩

/-- What Q asks of the frame. -/
def Holds (W0 : World) (S0 : Stb) (K : Slots → Heap → Prop) (a : Act) (W : World) : Prop := ∃ s h S β, K s h ∧ Fr W0 S0 s h a W S β

theorem wpR_ok {P : Program} {W0 : World} {S0 : Stb} {ops : Array Oper} {Q : Exit → Act → World → Prop} {K : Slots → Heap → Prop} (hQ : ∀ a W, Holds W0 S0 K a W → Q .normal a W) :
    ∀ (l : List Nat) (xs : List Ins) (s : Slots) (h : Heap) (a : Act) (W : World) (S : Stb) (β : Bta), l.length = xs.length → (∀ (j i : Nat) (x : Ins), l[j]? = some i → xs[j]? = some x → ∃ o, ops[i]? = some o ∧ compIns P ops o = some x) →
      Fr W0 S0 s h a W S β → wpR P xs s h K → wpOps P ops Q l a W
  | [], [], s, h, a, W, S, β, _, _, F, hw => hQ _ _ ⟨s, h, S, β, hw, F⟩
  | [], _ :: _, _, _, _, _, _, _, hl, _, _, _ => by simp at hl
  | _ :: _, [], _, _, _, _, _, _, hl, _, _, _ => by simp at hl
  | i :: l, x :: xs, s, h, a, W, S, β, hl, hx, F, hw => by
    obtain ⟨o, ho, hc⟩ := hx 0 i x (by simp) (by simp)
    obtain ⟨out, h1, h2⟩ := hw
    rw [wpOps_cons]
    unfold wpOp
    simp only [ho]
    exact SO_ok F hc h1 (fun a' W' S' β' F' => wpR_ok hQ l xs _ _ _ _ _ _ (by simpa using hl) (fun j i x hj hxj => hx (j + 1) i x (by simpa using hj) (by simpa using hxj)) F' h2)

theorem flatMap_eq {α γ : Type} {f g : α → List γ} : ∀ {l : List α}, (∀ x, x ∈ l → f x = g x) → l.flatMap f = l.flatMap g
  | [], _ => rfl
  | x :: l, h => by simp only [List.flatMap_cons]; rw [h x (by simp), flatMap_eq (fun y hy => h y (by simp [hy]))]
theorem preds_get : ∀ (l : List Ins) (acc : List (List Nat)) (j : Nat), j < acc.length → (preds acc l)[j]? = acc[j]?
  | [], acc, j, _ => rfl
  | x :: l, acc, j, hj => by
    rw [preds, preds_get l _ j (by simp; omega), List.getElem?_append_left hj]
theorem preds_at : ∀ (l : List Ins) (acc : List (List Nat)) (j : Nat) (x : Ins), l[j]? = some x → (∀ (q : Nat), q ∈ x.af → q < acc.length + j) →
    (preds acc l).getD (acc.length + j) [] = x.af ++ x.af.flatMap fun e => (preds acc l).getD e []
  | [], acc, j, x, hx, _ => by simp at hx
  | y :: l, acc, 0, x, hx, haf => by
    simp at hx; subst hx
    have h1 : (preds acc (y :: l))[acc.length]? = some (y.af ++ y.af.flatMap fun e => acc.getD e []) := by
      rw [preds, preds_get l _ _ (by simp)]; simp
    rw [Nat.add_zero, List.getD, h1]
    simp only [Option.getD_some]
    congr 1
    apply flatMap_eq
    intro e he
    have := haf e he
    rw [List.getD, List.getD, preds, preds_get l _ _ (by simp; omega), List.getElem?_append_left (by omega)]
  | y :: l, acc, j + 1, x, hx, haf => by
    have := preds_at l (acc ++ [y.af ++ y.af.flatMap fun e => acc.getD e []]) j x (by simpa using hx) (fun q hq => by have := haf q hq; simp; omega)
    simp only [List.length_append, List.length_singleton] at this
    rw [show acc.length + (j + 1) = acc.length + 1 + j by omega]
    exact this

theorem filter_split {p : Nat → Bool} {n i : Nat} (hi : i < n) (hp : p i = true) : (List.range n).filter p = (List.range i).filter p ++ i :: ((List.range' (i + 1) (n - (i + 1))).filter p) := by
  have : List.range n = List.range i ++ i :: List.range' (i + 1) (n - (i + 1)) := by
    rw [List.range_eq_range', List.range_eq_range']
    have h1 : n = i + (1 + (n - (i + 1))) := by omega
    conv => lhs; rw [h1]
    rw [← List.range'_append_1, ← List.range'_append_1]
    simp [List.range'_succ]
  rw [this, List.filter_append, List.filter_cons, if_pos hp]

section
variable {P : Program} {W0 : World} {S0 : Stb} {ops : Array Oper} {Q : Exit → Act → World → Prop} {K : Slots → Heap → Prop} {is : List Ins} {outs : List Out}
def todo (n : Nat) (listed : Array Bool) : List Nat := (List.range n).filter fun i => !listed.getD i true
def its (is : List Ins) (outs : List Out) (l : List Nat) : List (Ins × Out) := l.filterMap fun i => match is[i]?, outs[i]? with
  | some x, some o => some (x, o)
  | _, _ => none
theorem wpAny_ok (hQ : ∀ a W, Holds W0 S0 K a W → Q .normal a W) (hn : ops.size = is.length) (hx : ∀ (i : Nat) (x : Ins), is[i]? = some x → ∃ o, ops[i]? = some o ∧ compIns P ops o = some x) (hok : okD is outs = true) {sf : Slots} {hf : Heap} (hK : K sf hf) :
    ∀ (fuel : Nat) (listed : Array Bool) (s : Slots) (h : Heap) (a : Act) (W : World) (S : Stb) (β : Bta), listed.size = ops.size → (todo ops.size listed).length = fuel →
      (∀ j, listed.getD j false = true → ∀ q, q ∈ (preds [] is).getD j [] → listed.getD q false = true) →
      RunL P (its is outs (todo ops.size listed)) s h sf hf → Fr W0 S0 s h a W S β → wpAny P .any ops Q fuel listed a W := by
  have hok' := hok
  simp only [okD, Bool.and_eq_true, beq_iff_eq] at hok'
  obtain ⟨hlen, hall⟩ := hok'
  have hpair : ∀ (j : Nat) (y : Ins) (p : Out), is[j]? = some y → outs[j]? = some p → (∀ q, q ∈ y.af → q < j) ∧ ∀ (i : Nat) (x : Ins) (o : Out), i < j → is[i]? = some x → outs[i]? = some o → i ∈ (preds [] is).getD j [] ∨ Ind x o y p = true := by
    intro j y p hy hp
    have hj := (List.getElem?_eq_some_iff.1 hy).1
    have := List.all_eq_true.1 hall j (List.mem_range.2 hj)
    simp only [hy, hp, Bool.and_eq_true, List.all_eq_true, decide_eq_true_eq] at this
    refine ⟨this.1, fun i x o hi hix hio => ?_⟩
    have := this.2 i (List.mem_range.2 hi)
    simp only [hix, hio, Bool.or_eq_true, List.contains_iff_mem] at this
    exact this
  have hget : ∀ i, i < ops.size → ∃ x o, is[i]? = some x ∧ outs[i]? = some o := by
    intro i hi
    exact ⟨_, _, List.getElem?_eq_getElem (by omega), List.getElem?_eq_getElem (by omega)⟩
  intro fuel
  induction fuel with
  | zero =>
    intro listed s h a W S β hsz hl hdown hrun F
    have hnil : todo ops.size listed = [] := List.eq_nil_of_length_eq_zero hl
    rw [hnil] at hrun
    obtain ⟨rfl, rfl⟩ := hrun
    refine ⟨?_, hQ _ _ ⟨_, _, S, β, hK, F⟩⟩
    cases hr : Region.ready .any ops listed with
    | nil => rfl
    | cons i rs =>
      have hm : i ∈ Region.ready .any ops listed := by rw [hr]; simp
      rw [mem_ready] at hm
      obtain ⟨h0, o, ho, _⟩ := hm
      have hlt := (Array.getElem?_eq_some_iff.1 ho).1
      have : i ∈ todo ops.size listed := List.mem_filter.2 ⟨List.mem_range.2 hlt, by rw [h0]; rfl⟩
      rw [hnil] at this; cases this
  | succ fuel ih =>
    intro listed s h a W S β hsz hl hdown hrun F
    refine ⟨fun h0 => ?_, fun i hi => ?_⟩
    · -- the first one left is ready
      exfalso
      cases ht : todo ops.size listed with
      | nil => rw [ht] at hl; simp at hl
      | cons r rest =>
        have hr : r ∈ todo ops.size listed := by rw [ht]; simp
        obtain ⟨hr1, hr2⟩ := List.mem_filter.1 hr
        have hrlt := List.mem_range.1 hr1
        obtain ⟨x, o, hix, hio⟩ := hget r hrlt
        obtain ⟨op, hop, hcomp⟩ := hx r x hix
        have hsm : ∀ q, q < r → listed.getD q false = true := by
          intro q hq
          cases hlq : listed.getD q false with
          | true => rfl
          | false =>
            exfalso
            have hq2 : listed.getD q true = false := by
              have hqs : q < listed.size := by omega
              simp only [Array.getD_eq_getD_getElem?, Array.getElem?_eq_getElem hqs, Option.getD_some] at hlq ⊢
              exact hlq
            have hspl := filter_split (p := fun i => !listed.getD i true) hrlt hr2
            have : q ∈ (List.range r).filter (fun i => !listed.getD i true) := List.mem_filter.2 ⟨List.mem_range.2 hq, by simp only [hq2]; rfl⟩
            have hh : todo ops.size listed = (List.range r).filter (fun i => !listed.getD i true) ++ _ := hspl
            rw [ht] at hh
            cases hf : (List.range r).filter (fun i => !listed.getD i true) with
            | nil => rw [hf] at this; cases this
            | cons z zs =>
              rw [hf] at hh
              injection hh with h1 _
              have hz : z ∈ (List.range r).filter (fun i => !listed.getD i true) := by rw [hf]; simp
              have := List.mem_range.1 (List.mem_filter.1 hz).1
              omega
        have : r ∈ Region.ready .any ops listed := by
          rw [mem_ready]
          refine ⟨by simpa using hr2, op, hop, fun e he hb => hsm _ ?_⟩
          refine (hpair r x o hix hio).1 e.on ?_
          unfold compIns at hcomp
          split at hcomp
          · cases hcomp
            exact List.mem_map.2 ⟨e, List.mem_filter.2 ⟨by simpa using he, hb⟩, rfl⟩
          · cases hcomp
        rw [h0] at this; cases this
    · rw [mem_ready] at hi
      obtain ⟨h0, op, hop, hpre⟩ := hi
      have hilt := (Array.getElem?_eq_some_iff.1 hop).1
      obtain ⟨x, o, hix, hio⟩ := hget i hilt
      obtain ⟨op', hop', hcomp⟩ := hx i x hix
      rw [hop] at hop'; cases hop'
      have hp : (fun i => !listed.getD i true) i = true := by simp only [h0]; rfl
      have hspl : todo ops.size listed = _ := filter_split (p := fun i => !listed.getD i true) hilt hp
      have haf : ∀ q, q ∈ x.af → listed.getD q false = true := by
        intro q hq
        unfold compIns at hcomp
        split at hcomp
        · cases hcomp
          obtain ⟨e, he, rfl⟩ := List.mem_map.1 hq
          obtain ⟨he1, he2⟩ := List.mem_filter.1 he
          exact hpre e (by simpa using he1) he2
        · cases hcomp
      have hpreds : ∀ q, q ∈ (preds [] is).getD i [] → listed.getD q false = true := by
        intro q hq
        have := preds_at is [] i x hix (fun q hq => by have := (hpair i x o hix hio).1 q hq; simpa using this)
        simp only [List.length_nil, Nat.zero_add] at this
        rw [this] at hq
        rcases List.mem_append.1 hq with hq | hq
        · exact haf q hq
        · obtain ⟨e, he, hqe⟩ := List.mem_flatMap.1 hq
          exact hdown e (haf e he) q hqe
      have hrun' : RunL P ((x, o) :: its is outs ((List.range i).filter (fun i => !listed.getD i true)) ++ its is outs ((List.range' (i + 1) (ops.size - (i + 1))).filter (fun i => !listed.getD i true))) s h sf hf := by
        refine RunL.first _ s h (fun x' o' hm => ?_) ?_
        · obtain ⟨q, hq, hqq⟩ := List.mem_filterMap.1 hm
          obtain ⟨hq1, hq2⟩ := List.mem_filter.1 hq
          have hqi := List.mem_range.1 hq1
          obtain ⟨xq, oq, e1, e2⟩ := hget q (by omega)
          simp only [e1, e2, Option.some.injEq, Prod.mk.injEq] at hqq
          obtain ⟨rfl, rfl⟩ := hqq
          rcases (hpair i x o hix hio).2 q xq oq hqi e1 e2 with hc | hc
          · have hl := hpreds q hc
            exfalso
            have hqs : q < listed.size := by omega
            simp only [Array.getD_eq_getD_getElem?, Array.getElem?_eq_getElem hqs, Option.getD_some] at hl hq2
            rw [hl] at hq2; cases hq2
          · exact hc
        · rw [hspl] at hrun
          simp only [its, List.filterMap_append, List.filterMap_cons, hix, hio] at hrun
          exact hrun
      obtain ⟨hso, hrest⟩ := hrun'
      unfold wpOp
      simp only [hop]
      refine SO_ok F hcomp hso (fun a' W' S' β' F' => ?_)
      have hset : ∀ (j : Nat) (d : Bool), j ≠ i → (listed.setIfInBounds i true).getD j d = listed.getD j d := fun j d hj => getD_set_ne d (Ne.symm hj)
      have hseti : ∀ d, (listed.setIfInBounds i true).getD i d = true := by
        intro d
        have : i < listed.size := by omega
        simp [this]
      have htodo : todo ops.size (listed.setIfInBounds i true) = (List.range i).filter (fun i => !listed.getD i true) ++ (List.range' (i + 1) (ops.size - (i + 1))).filter (fun i => !listed.getD i true) := by
        have e1 : List.range ops.size = List.range i ++ i :: List.range' (i + 1) (ops.size - (i + 1)) := by
          rw [List.range_eq_range', List.range_eq_range']
          have h1 : ops.size = i + (1 + (ops.size - (i + 1))) := by omega
          conv => lhs; rw [h1]
          rw [← List.range'_append_1, ← List.range'_append_1]
          simp [List.range'_succ]
        unfold todo
        rw [e1, List.filter_append, List.filter_cons, if_neg (by rw [hseti]; simp)]
        congr 1
        · exact List.filter_congr (fun q hq => by have := List.mem_range.1 hq; rw [hset q true (by omega)])
        · exact List.filter_congr (fun q hq => by have := (List.mem_range'_1.1 hq).1; rw [hset q true (by omega)])
      refine ih _ _ _ _ _ _ _ (by simpa using hsz) ?_ ?_ ?_ F'
      · rw [htodo]
        have hl' : ((List.range i).filter (fun i => !listed.getD i true) ++ i :: (List.range' (i + 1) (ops.size - (i + 1))).filter (fun i => !listed.getD i true)).length = fuel + 1 := by rw [← hspl]; exact hl
        simp only [List.length_append, List.length_cons] at hl' ⊢
        omega
      · intro j hj q hq
        by_cases hji : j = i
        · subst hji
          exact getD_set_true (hpreds q hq)
        · rw [hset j false hji] at hj
          exact getD_set_true (hdown j hj q hq)
      · rw [htodo]
        simp only [its, List.filterMap_append] at hrest ⊢
        exact hrest
end
end Go.Proofs.Ytnojmocoifodjaa.Pv
set_option linter.unusedVariables false
set_option linter.unusedSimpArgs false
namespace Go.Proofs.Ytnojmocoifodjaa.Pv
open Go Go.RowKit

/-! ### Which blocks a value names -/
mutual
def AV.ids : AV → List Nat
  | .pv _ => []
  | .ref b _ | .ptr b _ | .eptr b _ _ _ => [b]
  | .agg cs | .tup cs | .fn _ cs => AV.idsL cs
def AV.idsL : List AV → List Nat
  | [] => []
  | x :: l => AV.ids x ++ AV.idsL l
end
theorem AV.idsL_mem {b : Nat} : ∀ {l : List AV} {i : Nat} {x : AV}, l[i]? = some x → b ∈ x.ids → b ∈ AV.idsL l
  | [], i, x, h, _ => by simp at h
  | y :: l, 0, x, h, hb => by simp at h; subst h; exact List.mem_append_left _ hb
  | y :: l, i + 1, x, h, hb => List.mem_append_right _ (AV.idsL_mem (l := l) (i := i) (by simpa using h) hb)
def Blk.ids : Blk → List Nat
  | .box cs _ => AV.idsL cs
  | .row .. => []
section
variable {P : Program} {B : Nat} {S : Stb} {β β' : Bta} {h h' : Heap} {W : World}
/-- A value in a heap in which fewer blocks are named, perhaps by other names. -/
theorem RA.kept {x : AV} {v : Value} (H : RA S W β h x v) (hk : ∀ b, b ∈ x.ids → h' b = h b ∧ β' b = β b) : RA S W β' h' x v := by
  induction H with
  | pv hp => exact .pv hp
  | @ref b n v e sz es m hb hn hv hc =>
    obtain ⟨h1, h2⟩ := hk b (by simp [AV.ids])
    exact .ref (h1.trans hb) hn hv (fun hh => by unfold Cur at hc ⊢; rw [h2]; exact hc hh)
  | @ptr b off k cs m hb hk' =>
    obtain ⟨h1, h2⟩ := hk b (by simp [AV.ids])
    exact .ptr (h1.trans hb) (h2.trans hk')
  | @eptr b n i off v e sz es m hb hn hv hc =>
    obtain ⟨h1, h2⟩ := hk b (by simp [AV.ids])
    exact .eptr (h1.trans hb) hn hv (fun hh => by rw [h2]; exact hc hh)
  | agg hn hR ih => exact .agg hn (fun i x hx => ih i x hx (fun b hb => hk b (by simp only [AV.ids]; exact AV.idsL_mem hx hb)))
  | tup hn hR ih => exact .tup hn (fun i x hx => ih i x hx (fun b hb => hk b (by simp only [AV.ids]; exact AV.idsL_mem hx hb)))
  | fn hn hR ih => exact .fn hn (fun i x hx => ih i x hx (fun b hb => hk b (by simp only [AV.ids]; exact AV.idsL_mem hx hb)))
end

/-! ### Forgetting -/
structure Wk where
  keep : Option (List Nat × List Nat) := none
  nils : List (Nat × Nat × TypeId × Nat) := []
def dropS (keep : List Nat) (s : Slots) : Slots := s.mapIdx fun i x => if keep.contains i then x else .pv .junk
def dropH (kb : List Nat) (h : Heap) : Heap := fun b => if kb.contains b then h b else none
def dropOk (keep kb : List Nat) (s : Slots) (h : Heap) : Bool :=
  keep.all (fun i => (s.getD i (.pv .junk)).ids.all kb.contains) && kb.all (fun b => match h b with
    | some x => x.ids.all kb.contains
    | none => true)
def nilRows : List (Nat × Nat × TypeId × Nat) → Slots → Heap → Option (Slots × Heap)
  | [], s, h => some (s, h)
  | (n, b, e, sz) :: l, s, h => match s.getD n (.pv .junk) with
    | .pv .nil => if (h b).isSome ∨ sz = 0 then none else nilRows l (s.set n (.ref b 0)) (hupd h b (.row e sz [] true))
    | _ => none
def Wk.ap (w : Wk) (s : Slots) (h : Heap) : Option (Slots × Heap) := match w.keep with
  | none => nilRows w.nils s h
  | some (keep, kb) => if dropOk keep kb s h then nilRows w.nils (dropS keep s) (dropH kb h) else none
section
variable {W0 : World} {S0 : Stb} {s s' : Slots} {h h' : Heap} {a : Act} {W : World} {S : Stb} {β : Bta}
theorem Fr.drop (F : Fr W0 S0 s h a W S β) {keep kb : List Nat} (hd : dropOk keep kb s h = true) : Fr W0 S0 (dropS keep s) (dropH kb h) a W S β := by
  simp only [dropOk, Bool.and_eq_true, List.all_eq_true, List.contains_iff_mem] at hd
  obtain ⟨h1, h2⟩ := hd
  have hin : ∀ b x, dropH kb h b = some x → b ∈ kb ∧ h b = some x := by
    intro b x hx
    unfold dropH at hx
    by_cases hc : kb.contains b = true
    · rw [if_pos hc] at hx; exact ⟨by simpa using hc, hx⟩
    · rw [if_neg hc] at hx; cases hx
  have hin2 : ∀ b, b ∈ kb → dropH kb h b = h b := fun b hb => by unfold dropH; rw [if_pos (by simpa using hb)]
  have hsome : ∀ b, (dropH kb h b).isSome → (h b).isSome := fun b hb => by
    obtain ⟨x, hx⟩ := Option.isSome_iff_exists.1 hb
    simp [(hin b x hx).2]
  refine ⟨⟨fun b x hx => ?_, fun b b' k hb hb' => F.H.inj b b' k (hsome b hb) (hsome b' hb'), fun b k hb => F.H.fresh b k (hsome b hb), fun b x k o hx => F.H.sinv b x k o (hin b x hx).2, F.H.bnd⟩, fun n => ?_, by simp [dropS, F.sz], F.df, F.lo, F.up, F.dn⟩
  · obtain ⟨hbk, hx'⟩ := hin b x hx
    have := F.H.blk b x hx'
    cases x with
    | box cs m =>
      obtain ⟨k, cur, e, g1, g2, g3, g4⟩ := this
      refine ⟨k, cur, e, g1, g2, g3, fun j c hc => (g4 j c hc).kept (fun q hq => ⟨hin2 q ?_, rfl⟩)⟩
      have := h2 b hbk
      rw [hx'] at this
      exact by simpa using List.all_eq_true.1 this q (AV.idsL_mem hc hq)
    | row e sz es m => exact this
  · have hs := F.sl n
    unfold dropS
    by_cases hk : n ∈ keep
    · have hg : (s.mapIdx fun i x => if keep.contains i then x else AV.pv .junk).getD n (.pv .junk) = s.getD n (.pv .junk) := by
        simp only [List.getD, List.getElem?_mapIdx]
        cases s[n]? with
        | none => rfl
        | some x => simp [hk]
      rw [hg]
      exact hs.kept (fun b hb => ⟨hin2 b (h1 n hk b hb), rfl⟩)
    · have hg : (s.mapIdx fun i x => if keep.contains i then x else AV.pv .junk).getD n (.pv .junk) = .pv .junk := by
        simp only [List.getD, List.getElem?_mapIdx]
        cases s[n]? with
        | none => rfl
        | some x => simp [hk]
      rw [hg]
      exact .pv (.junk _)
theorem Fr.nils : ∀ (l : List (Nat × Nat × TypeId × Nat)) {s : Slots} {h : Heap} {β : Bta}, Fr W0 S0 s h a W S β → nilRows l s h = some (s', h') → ∃ β', Fr W0 S0 s' h' a W S β'
  | [], s, h, β, F, hn => by simp only [nilRows, Option.some.injEq, Prod.mk.injEq] at hn; obtain ⟨rfl, rfl⟩ := hn; exact ⟨β, F⟩
  | (n, b, e, sz) :: l, s, h, β, F, hn => by
    simp only [nilRows] at hn
    split at hn
    · rename_i hnil
      split at hn
      · cases hn
      · rename_i hcond
        rw [not_or] at hcond
        have hb : h b = none := by cases hh : h b <;> simp_all
        have E := Evo.attach (S := S) (W := W) (β := β) hb none (.row e sz [] true)
        have H' : HRel W0.heap.size S (bupd β b none) (hupd h b (.row e sz [] true)) W := F.H.attach hb ⟨by omega, fun i x hx => by simp at hx, .inl ⟨bupd_self _ _ _, rfl⟩⟩ (fun g hg => by cases hg)
        have F1 : Fr W0 S0 s (hupd h b (.row e sz [] true)) a W S (bupd β b none) := F.evo H' E (Below.refl _ _) (fun _ _ _ h => h)
        refine Fr.nils l (s := s.set n (.ref b 0)) (h := hupd h b (.row e sz [] true)) (β := bupd β b none) ?_ hn
        refine ⟨F1.H, fun m => ?_, by simpa using F1.sz, F1.df, F1.lo, F1.up, F1.dn⟩
        by_cases hm : n = m
        · subst hm
          have hs := F1.sl n
          rw [hnil] at hs
          by_cases hlt : n < s.length
          · have h1 : (s.set n (.ref b 0)).getD n (.pv .junk) = .ref b 0 := by simp [List.getD, hlt]
            rw [h1]
            generalize a.tmps.getD n undef = v at hs ⊢
            cases hs with
            | pv hp =>
              cases hp
              exact .ref (hupd_self _ _ _) (Nat.le_refl _) ⟨none, 0, rfl, Nat.le_refl _, Nat.zero_le _⟩ (fun _ => .inl ⟨bupd_self _ _ _, rfl, none, rfl⟩)
          · have : s.getD n (.pv .junk) = .pv .junk := by simp [List.getD, List.getElem?_eq_none (Nat.le_of_not_lt hlt)]
            rw [this] at hnil; cases hnil
        · have h1 : (s.set n (.ref b 0)).getD m (.pv .junk) = s.getD m (.pv .junk) := by simp [List.getD, List.getElem?_set_ne hm]
          rw [h1]; exact F1.sl m
    · cases hn
theorem Fr.wk (F : Fr W0 S0 s h a W S β) {w : Wk} (hw : w.ap s h = some (s', h')) : ∃ β', Fr W0 S0 s' h' a W S β' := by
  unfold Wk.ap at hw
  split at hw
  · exact Fr.nils _ F hw
  · split at hw
    · exact Fr.nils _ (F.drop ‹_›) hw
    · cases hw
end

/-- What is weaker of a frame. -/
def Le (s : Slots) (h : Heap) (s' : Slots) (h' : Heap) : Prop :=
  ∀ (W0 : World) (S0 : Stb) (a : Act) (W : World) (S : Stb) (β : Bta), Fr W0 S0 s h a W S β → ∃ S' β', Fr W0 S0 s' h' a W S' β'
theorem Le.refl (s : Slots) (h : Heap) : Le s h s h := fun _ _ _ _ S β F => ⟨S, β, F⟩
theorem Le.trans {s s' s'' : Slots} {h h' h'' : Heap} (H : Le s h s' h') (H' : Le s' h' s'' h'') : Le s h s'' h'' := fun W0 S0 a W S β F => by
  obtain ⟨S1, β1, F1⟩ := H W0 S0 a W S β F
  exact H' W0 S0 a W S1 β1 F1
theorem Le.wk {s s' : Slots} {h h' : Heap} {w : Wk} (hw : w.ap s h = some (s', h')) : Le s h s' h' := fun _ _ _ _ S β F => by
  obtain ⟨β', F'⟩ := F.wk hw
  exact ⟨S, β', F'⟩
/-- p says less than q. -/
def PLe (q p : PV) : Prop := ∀ S W v, RV S W q v → RV S W p v
theorem PLe.refl (p : PV) : PLe p p := fun _ _ _ h => h
theorem PLe.junk (p : PV) : PLe p .junk := fun _ _ v _ => .junk v
theorem PLe.nil : PLe .nil (.view []) := fun _ _ _ h => h.nil_view
theorem PLe.cap0 : PLe .cap0 (.view []) := fun _ _ _ h => h.cap0_view
theorem PLe.trans {p q r : PV} (h : PLe p q) (h' : PLe q r) : PLe p r := fun S W v hv => h' S W v (h S W v hv)
theorem PLe.agg {cs ds : List PV} (hn : cs.length = ds.length) (h : ∀ (i : Nat) (p q : PV), cs[i]? = some p → ds[i]? = some q → PLe p q) : PLe (.agg cs) (.agg ds) := by
  intro S W v hv
  cases hv with
  | agg _ vs h1 h2 =>
    refine .agg _ _ (by omega) (fun i q hq => ?_)
    have hlt : i < cs.length := by have := (List.getElem?_eq_some_iff.1 hq).1; omega
    exact h i _ q (List.getElem?_eq_getElem hlt) hq _ _ _ (h2 i _ (List.getElem?_eq_getElem hlt))
theorem Fr.setPv {W0 : World} {S0 : Stb} {s : Slots} {h' : Heap} {a : Act} {W : World} {S' : Stb} {β' : Bta} (F : Fr W0 S0 s h' a W S' β') {n : Nat} {x : AV} (hx : RA S' W β' h' x (a.tmps.getD n undef)) : Fr W0 S0 (s.set n x) h' a W S' β' := by
  refine ⟨F.H, fun m => ?_, by simpa using F.sz, F.df, F.lo, F.up, F.dn⟩
  by_cases hm : n = m
  · subst hm
    by_cases hlt : n < s.length
    · have h1 : (s.set n x).getD n (.pv .junk) = x := by simp [List.getD, hlt]
      rw [h1]; exact hx
    · have : s.set n x = s := List.set_eq_of_length_le (by omega)
      rw [this]; exact F.sl n
  · have h1 : (s.set n x).getD m (.pv .junk) = s.getD m (.pv .junk) := by simp [List.getD, List.getElem?_set_ne hm]
    rw [h1]; exact F.sl m
theorem Le.pv {s : Slots} {h : Heap} (n : Nat) {p q : PV} (hs : s.getD n (.pv .junk) = .pv p) (hp : PLe p q) : Le s h (s.set n (.pv q)) h := fun W0 S0 a W S β F => by
  have := F.sl n
  rw [hs] at this
  refine ⟨S, β, F.setPv ?_⟩
  generalize a.tmps.getD n undef = v at this ⊢
  cases this with
  | pv hr => exact .pv (hp _ _ _ hr)
theorem Fr.frz {W0 : World} {S0 : Stb} {s : Slots} {h : Heap} {a : Act} {W : World} {S : Stb} {β : Bta} (F : Fr W0 S0 s h a W S β) (ids : List Nat) : Fr W0 S0 s (hfrz h ids) a W (sfrz S β h ids) β :=
  F.evo (F.H.frz ids) (Evo.frz S W β h ids) (Below.refl _ _) (F.H.dn ids)
theorem Le.frz {s : Slots} {h : Heap} (n : Nat) {p : PV} {ids : List Nat} (hf : frz2 h (s.getD n (.pv .junk)) = some (p, ids)) : Le s h (s.set n (.pv p)) (hfrz h ids) := fun W0 S0 a W S β F =>
  ⟨_, β, (F.frz ids).setPv (.pv (frz2_ok F.H (F.sl n) hf ids (fun _ h => h)))⟩

/-! ### Code -/
inductive C
  | nop | ret
  | exit (id : Nat)
  | seq (a b : C)
  | cond (x : Opd) (a b : C)
  | blk (id : Nat) (c : C)
  | loop (c : C)
  | reg (is : List Ins)
  | drw (is : List Ins)
def comp (P : Program) : Code → Option C
  | .skip | .label _ => some .nop
  | .ret => some .ret
  | .exit id => some (.exit id)
  | .seq a b => match comp P a, comp P b with
    | some a, some b => some (.seq a b)
    | _, _ => none
  | .cond c a b => match opd c, comp P a, comp P b with
    | some c, some a, some b => some (.cond c a b)
    | _, _, _ => none
  | .block id c => (comp P c).map (.blk id)
  | .loop c => (comp P c).map .loop
  | .region _ ops draw => (listM (compIns P ops) ops.toList).map fun is => if draw then .drw is else .reg is
  | _ => none
inductive Ex | normal | exit (id : Nat) | ret
abbrev Post := Ex → Slots → Heap → Prop
def thenQ (K : Slots → Heap → Prop) (Q : Post) : Post
  | .normal => K
  | e => Q e
def blkQ (id : Nat) (Q : Post) : Post
  | .exit i => if i = id then Q .normal else Q (.exit i)
  | e => Q e
/-- What Q says of the machine. -/
def up (W0 : World) (S0 : Stb) (Q : Post) : Exit → Act → World → Prop
  | .normal, a, w => Holds W0 S0 (Q .normal) a w
  | .exit id, a, w => Holds W0 S0 (Q (.exit id)) a w
  | .ret, a, w => Holds W0 S0 (Q .ret) a w
  | _, _, _ => False
theorem its_from : ∀ (is xs : List Ins) (outs os : List Out) (n : Nat), xs.length = os.length → (∀ i, is[n + i]? = xs[i]?) → (∀ i, outs[n + i]? = os[i]?) → its is outs (List.range' n xs.length) = xs.zip os
  | is, [], outs, os, n, hl, h1, h2 => by simp [its]
  | is, x :: xs, outs, [], n, hl, h1, h2 => by simp at hl
  | is, x :: xs, outs, o :: os, n, hl, h1, h2 => by
    have e1 := h1 0
    have e2 := h2 0
    have ih := its_from is xs outs os (n + 1) (by simpa using hl) (fun i => by have := h1 (i + 1); rw [← Nat.add_assoc, Nat.add_right_comm] at this; simpa using this) (fun i => by have := h2 (i + 1); rw [← Nat.add_assoc, Nat.add_right_comm] at this; simpa using this)
    simp only [Nat.add_zero, List.getElem?_cons_zero] at e1 e2
    unfold its at ih ⊢
    rw [List.length_cons, List.range'_succ, List.filterMap_cons]
    simp only [e1, e2]
    rw [ih]; rfl
theorem its_zip {is : List Ins} {outs : List Out} (hl : outs.length = is.length) : its is outs (List.range is.length) = is.zip outs := by
  rw [List.range_eq_range']
  exact its_from is is outs outs 0 hl.symm (fun i => by simp) (fun i => by simp)
theorem Fr.drew {W0 : World} {S0 : Stb} {s : Slots} {h : Heap} {a : Act} {W : World} {S : Stb} {β : Bta} (F : Fr W0 S0 s h a W S β) : Fr W0 S0 s h a { W with drawn := W.drawn + 1 } S β := by
  have hb : Below W.heap.size W { W with drawn := W.drawn + 1 } := ⟨rfl, rfl, rfl, Nat.le_refl _, fun _ _ => rfl⟩
  exact F.evo (F.H.below hb) (Evo.below F.H hb) (hb.mono F.lo.size) (fun _ _ _ h => h)
theorem compIns_list {P : Program} {ops : Array Oper} {is : List Ins} (hc : listM (compIns P ops) ops.toList = some is) : ops.size = is.length ∧ ∀ (i : Nat) (x : Ins), is[i]? = some x → ∃ o, ops[i]? = some o ∧ compIns P ops o = some x := by
  obtain ⟨h1, h2⟩ := listM_ok hc
  refine ⟨by simpa using h1.symm, fun i x hx => ?_⟩
  obtain ⟨o, ho, hco⟩ := h2 i x hx
  exact ⟨o, by simpa using ho, hco⟩

/-- From the frame (s, h), the code ends in Q. -/
def WP (P : Program) (c : C) (s : Slots) (h : Heap) (Q : Post) : Prop :=
  ∀ code, comp P code = some c → ∀ (W0 : World) (S0 : Stb) (a : Act) (W : World) (S : Stb) (β : Bta), Fr W0 S0 s h a W S β → code.wp P (up W0 S0 Q) a W
section
variable {P : Program} {s : Slots} {h : Heap} {Q : Post}
theorem WP.mono {c : C} {Q' : Post} (hw : WP P c s h Q) (hq : ∀ e s h, Q e s h → Q' e s h) : WP P c s h Q' := fun code hc W0 S0 a W S β F =>
  wp_mono (hw code hc W0 S0 a W S β F) (fun e a w he => by
    cases e <;> simp only [up] at he ⊢ <;> first | exact he | (obtain ⟨s, h, S, β, h1, h2⟩ := he; exact ⟨s, h, S, β, hq _ _ _ h1, h2⟩))
theorem WP.le {c : C} {s' : Slots} {h' : Heap} (hl : Le s h s' h') (hw : WP P c s' h' Q) : WP P c s h Q := fun code hc W0 S0 a W S β F => by
  obtain ⟨S', β', F'⟩ := hl _ _ _ _ _ _ F
  exact hw code hc _ _ _ _ _ _ F'
theorem comp_region {id : Nat} {ops : Array Oper} {draw : Bool} {c : C} (hc : comp P (.region id ops draw) = some c) : ∃ is, listM (compIns P ops) ops.toList = some is ∧ c = if draw then .drw is else .reg is := by
  obtain ⟨is, h1, rfl⟩ := Option.map_eq_some_iff.1 hc
  exact ⟨is, h1, rfl⟩
theorem WP.nop (hq : Q .normal s h) : WP P .nop s h Q := by
  intro code hc W0 S0 a W S β F
  cases code <;> (try simp only [comp] at hc) <;> (try (first | (exact wp_skip ⟨s, h, S, β, hq, F⟩) | (exact wp_label ⟨s, h, S, β, hq, F⟩)))
  all_goals (try (cases hc; done))
  all_goals (first
    | (obtain ⟨is, h1, h2⟩ := comp_region (P := P) (id := 0) hc; split at h2 <;> cases h2; done)
    | (obtain ⟨x, h1, h2⟩ := Option.map_eq_some_iff.1 hc; cases h2; done)
    | (split at hc <;> cases hc; done))
theorem WP.ret (hq : Q .ret s h) : WP P .ret s h Q := by
  intro code hc W0 S0 a W S β F
  cases code <;> (try simp only [comp] at hc) <;> (try exact wp_ret ⟨s, h, S, β, hq, F⟩)
  all_goals (try (cases hc; done))
  all_goals (first
    | (obtain ⟨is, h1, h2⟩ := comp_region (P := P) (id := 0) hc; split at h2 <;> cases h2; done)
    | (obtain ⟨x, h1, h2⟩ := Option.map_eq_some_iff.1 hc; cases h2; done)
    | (split at hc <;> cases hc; done))
theorem WP.exit {id : Nat} (hq : Q (.exit id) s h) : WP P (.exit id) s h Q := by
  intro code hc W0 S0 a W S β F
  cases code <;> (try simp only [comp] at hc) <;> (try (cases hc; exact wp_exit ⟨s, h, S, β, hq, F⟩))
  all_goals (try (cases hc; done))
  all_goals (first
    | (obtain ⟨is, h1, h2⟩ := comp_region (P := P) (id := 0) hc; split at h2 <;> cases h2; done)
    | (obtain ⟨x, h1, h2⟩ := Option.map_eq_some_iff.1 hc; cases h2; done)
    | (split at hc <;> cases hc; done))
theorem WP.seq {x y : C} (hw : WP P x s h (thenQ (fun s h => WP P y s h Q) Q)) : WP P (.seq x y) s h Q := by
  intro code hc W0 S0 a W S β F
  cases code
  case seq u v =>
    simp only [comp] at hc
    split at hc
    · rename_i cx cy h1 h2
      cases hc
      refine wp_seq (wp_mono (hw u h1 W0 S0 a W S β F) (fun e a w he => ?_))
      cases e <;> simp only [up, thenQ, Exit.then] at he ⊢ <;> try exact he
      obtain ⟨s', h', S', β', hq, F'⟩ := he
      exact hq v h2 _ _ _ _ _ _ F'
    · cases hc
  all_goals (try simp only [comp] at hc)
  all_goals (try (cases hc; done))
  all_goals (first
    | (obtain ⟨is, h1, h2⟩ := comp_region (P := P) (id := 0) hc; split at h2 <;> cases h2; done)
    | (obtain ⟨x, h1, h2⟩ := Option.map_eq_some_iff.1 hc; cases h2; done)
    | (split at hc <;> cases hc; done))
theorem WP.cond {x : Opd} {p q : C} (t : Bool) (ht : ev s x = .pv (.bool t)) (hw : if t then WP P p s h Q else WP P q s h Q) : WP P (.cond x p q) s h Q := by
  intro code hc W0 S0 a W S β F
  cases code
  case cond u v w =>
    simp only [comp] at hc
    split at hc
    · rename_i x' cp cq h1 h2 h3
      cases hc
      have hv := bool_of (F.Sl.opd h1) ht
      refine wp_cond hv ?_
      cases t
      · exact hw w h3 _ _ _ _ _ _ F
      · exact hw v h2 _ _ _ _ _ _ F
    · cases hc
  all_goals (try simp only [comp] at hc)
  all_goals (try (cases hc; done))
  all_goals (first
    | (obtain ⟨is, h1, h2⟩ := comp_region (P := P) (id := 0) hc; split at h2 <;> cases h2; done)
    | (obtain ⟨x, h1, h2⟩ := Option.map_eq_some_iff.1 hc; cases h2; done)
    | (split at hc <;> cases hc; done))
theorem WP.blk {id : Nat} {x : C} (hw : WP P x s h (blkQ id Q)) : WP P (.blk id x) s h Q := by
  intro code hc W0 S0 a W S β F
  cases code
  case block id' u =>
    obtain ⟨cx, h1, h2⟩ := Option.map_eq_some_iff.1 hc
    cases h2
    refine wp_block (wp_mono (hw u h1 W0 S0 a W S β F) (fun e a w he => ?_))
    cases e <;> simp only [up, blkQ, Exit.inBlock] at he ⊢ <;> try exact he
    rename_i i
    split
    · rename_i hi; subst hi; simpa using he
    · rename_i hi; simpa [hi] using he
  all_goals (try simp only [comp] at hc)
  all_goals (try (cases hc; done))
  all_goals (first
    | (obtain ⟨is, h1, h2⟩ := comp_region (P := P) (id := 0) hc; split at h2 <;> cases h2; done)
    | (obtain ⟨x, h1, h2⟩ := Option.map_eq_some_iff.1 hc; cases h2; done)
    | (split at hc <;> cases hc; done))
/-- A loop: rounds counted down. -/
theorem WP.loop {x : C} (I : Nat → Slots → Heap → Prop) (n : Nat) (h0 : I n s h) (hr : ∀ n s h, I n s h → WP P x s h (thenQ (fun s h => ∃ m, m < n ∧ I m s h) Q)) : WP P (.loop x) s h Q := by
  intro code hc W0 S0 a W S β F
  cases code
  case loop u =>
    obtain ⟨cx, h1, h2⟩ := Option.map_eq_some_iff.1 hc
    cases h2
    intro b k cs
    have key : ∀ n (s : Slots) (h : Heap) (a : Act) (W : World) (S : Stb) (β : Bta), I n s h → Fr W0 S0 s h a W S β →
        ∃ e a' w', up W0 S0 Q e a' w' ∧ Arrives P (lone (b.at a (.code u :: .inLoop u :: k)) cs W) b k cs e a' w' := by
      intro n
      induction n using Nat.strongRecOn with
      | _ n ihn =>
        intro s h a W S β hI F
        obtain ⟨e, a₁, w₁, hq, harr⟩ := hr n s h hI u h1 W0 S0 a W S β F b (.inLoop u :: k) cs
        cases e with
        | normal =>
          obtain ⟨s2, h2, S2, β2, ⟨m, hm, hl2⟩, F2⟩ := hq
          obtain ⟨e₂, a₂, w₂, hq₂, harr₂⟩ := ihn m hm s2 h2 a₁ w₁ S2 β2 hl2 F2
          exact ⟨e₂, a₂, w₂, hq₂, .of_steps (Steps.trans harr (.one step_inLoop)) harr₂⟩
        | exit id => exact ⟨.exit id, a₁, w₁, hq, .pass (x := .inLoop u) rfl (fun _ _ => .inl (by simp)) harr⟩
        | ret => exact ⟨.ret, a₁, w₁, hq, .pass (x := .inLoop u) rfl (fun _ _ => .inl (by simp)) harr⟩
        | goto l => exact hq.elim
        | panic ch => exact hq.elim
        | outgrown => exact hq.elim
    obtain ⟨e, a', w', hq, harr⟩ := key n s h a W S β h0 F
    exact ⟨e, a', w', hq, .of_steps (.one step_loop) harr⟩
  all_goals (try simp only [comp] at hc)
  all_goals (try (cases hc; done))
  all_goals (first
    | (obtain ⟨is, h1, h2⟩ := comp_region (P := P) (id := 0) hc; split at h2 <;> cases h2; done)
    | (obtain ⟨x, h1, h2⟩ := Option.map_eq_some_iff.1 hc; cases h2; done)
    | (split at hc <;> cases hc; done))
/-- Within a loop, at its body's head. -/
def WPin (P : Program) (c : C) (s : Slots) (h : Heap) (Q : Post) : Prop :=
  ∀ u, comp P u = some c → ∀ (W0 : World) (S0 : Stb) (a : Act) (W : World) (S : Stb) (β : Bta), Fr W0 S0 s h a W S β → ∀ b k cs,
    ∃ e a' w', up W0 S0 Q e a' w' ∧ Arrives P (lone (b.at a (.code u :: .inLoop u :: k)) cs W) b k cs e a' w'
theorem WPin.of {x : C} (hw : WP P x s h (thenQ (fun s h => WPin P x s h Q) Q)) : WPin P x s h Q := by
  intro u h1 W0 S0 a W S β F b k cs
  obtain ⟨e, a₁, w₁, hq, harr⟩ := hw u h1 W0 S0 a W S β F b (.inLoop u :: k) cs
  cases e with
  | normal =>
    obtain ⟨s2, h2, S2, β2, hl2, F2⟩ := hq
    obtain ⟨e₂, a₂, w₂, hq₂, harr₂⟩ := hl2 u h1 W0 S0 a₁ w₁ S2 β2 F2 b k cs
    exact ⟨e₂, a₂, w₂, hq₂, .of_steps (Steps.trans harr (.one step_inLoop)) harr₂⟩
  | exit id => exact ⟨.exit id, a₁, w₁, hq, .pass (x := .inLoop u) rfl (fun _ _ => .inl (by simp)) harr⟩
  | ret => exact ⟨.ret, a₁, w₁, hq, .pass (x := .inLoop u) rfl (fun _ _ => .inl (by simp)) harr⟩
  | goto l => exact hq.elim
  | panic ch => exact hq.elim
  | outgrown => exact hq.elim
theorem WP.unroll {x : C} (hw : WPin P x s h Q) : WP P (.loop x) s h Q := by
  intro code hc W0 S0 a W S β F
  cases code
  case loop u =>
    obtain ⟨cx, h1, h2⟩ := Option.map_eq_some_iff.1 hc
    cases h2
    intro b k cs
    obtain ⟨e, a', w', hq, harr⟩ := hw u h1 W0 S0 a W S β F b k cs
    exact ⟨e, a', w', hq, .of_steps (.one step_loop) harr⟩
  all_goals (try simp only [comp] at hc)
  all_goals (try (cases hc; done))
  all_goals (first
    | (obtain ⟨is, h1, h2⟩ := comp_region (P := P) (id := 0) hc; split at h2 <;> cases h2; done)
    | (obtain ⟨x, h1, h2⟩ := Option.map_eq_some_iff.1 hc; cases h2; done)
    | (split at hc <;> cases hc; done))
theorem WP.reg {is : List Ins} (hw : wpR P is s h (Q .normal)) : WP P (.reg is) s h Q := by
  intro code hc W0 S0 a W S β F
  cases code
  case region id ops draw =>
    obtain ⟨is', h1, h2⟩ := comp_region (P := P) (id := 0) hc
    cases draw
    · simp only [Bool.false_eq_true, if_false, C.reg.injEq] at h2
      subst h2
      obtain ⟨hn, hx⟩ := compIns_list h1
      refine wp_region (wpR_ok (K := Q .normal) (fun a W hh => hh) (List.range ops.size) is s h a W S β (by simpa using hn) ?_ F hw)
      intro j i x hj hxj
      rcases Nat.lt_or_ge j ops.size with hlt | hge
      · rw [List.getElem?_range hlt] at hj; cases hj
        exact hx j x hxj
      · rw [List.getElem?_eq_none (by simpa using hge)] at hj; cases hj
    · cases h2
  all_goals (try simp only [comp] at hc)
  all_goals (try (cases hc; done))
  all_goals (first
    | (obtain ⟨x, h1, h2⟩ := Option.map_eq_some_iff.1 hc; cases h2; done)
    | (split at hc <;> cases hc; done))
theorem WP.drw {is : List Ins} (hmix : P.follows .mixedOrders = true) (hw : wpD P is s h [] (fun outs s h => okD is outs = true ∧ Q .normal s h)) : WP P (.drw is) s h Q := by
  intro code hc W0 S0 a W S β F
  cases code
  case region id ops draw =>
    obtain ⟨is', h1, h2⟩ := comp_region (P := P) (id := 0) hc
    cases draw
    · cases h2
    · simp only [if_true, C.drw.injEq] at h2
      subst h2
      obtain ⟨hn, hx⟩ := compIns_list h1
      obtain ⟨outs, sf, hf, b1, b2, b3, b4⟩ := RunL.of_wpD is s h [] hw
      refine wp_region_any hmix ?_
      simp only [List.nil_append] at b3
      have htodo : todo ops.size (Array.replicate ops.size false) = List.range is.length := by
        unfold todo
        rw [hn, List.filter_eq_self]
        intro i hi
        have := List.mem_range.1 hi
        simp [this]
      refine wpAny_ok (K := Q .normal) (is := is) (outs := outs) (fun a W hh => hh) hn hx b3 b4 _ _ s h a _ S β (by simp) ?_ ?_ ?_ F.drew
      · rw [htodo]; simpa using hn.symm
      · intro j hj
        simp only [Array.getD_eq_getD_getElem?, Array.getElem?_replicate] at hj
        split at hj <;> simp at hj
      · rw [htodo, its_zip b1]; exact b2
  all_goals (try simp only [comp] at hc)
  all_goals (try (cases hc; done))
  all_goals (first
    | (obtain ⟨x, h1, h2⟩ := Option.map_eq_some_iff.1 hc; cases h2; done)
    | (split at hc <;> cases hc; done))
end
end Go.Proofs.Ytnojmocoifodjaa.Pv
set_option linter.unusedVariables false
set_option linter.unusedSimpArgs false
namespace Go.Proofs.Ytnojmocoifodjaa.Pv
open Go Go.RowKit

/-! ### What is handed back -/
inductive Rs | tmp (n : Nat) | cell (k : Option Nat) (n : Nat)
def compR (P : Program) : ResultVar → Option Rs
  | .tmp t => some (.tmp t)
  | .cell a t => match (P.underlying t).map isAggD, szOf P t with
    | some true, some n => some (.cell (some n) a)
    | some false, some _ => some (.cell none a)
    | _, _ => none
def resV (s : Slots) (h : Heap) : Rs → Option AV
  | .tmp n => some (s.getD n (.pv .junk))
  | .cell k n => match s.getD n (.pv .junk) with
    | .ptr b off => match boxOf h b with
      | some cs => match k with
        | none => cs[off]?
        | some n => if off + n ≤ cs.length then some (.agg ((cs.drop off).take n)) else none
      | none => none
    | _ => none
def resVs (s : Slots) (h : Heap) : List Rs → Option AV
  | [r] => resV s h r
  | l => (listM (resV s h) l).map .tup
def getR (tmps : Array Value) : ResultVar → Sem Value
  | .tmp t => pure (tmps.getD t undef)
  | .cell q t => do loadVar t (← asAddr (tmps.getD q undef))
section
variable {P : Program} {W0 : World} {S0 : Stb} {s : Slots} {h : Heap} {a : Act} {W : World} {S : Stb} {β : Bta}
theorem res_ok (F : Fr W0 S0 s h a W S β) {r : ResultVar} {r' : Rs} (hr : compR P r = some r') {x : AV} (hx : resV s h r' = some x) :
    ∃ v, (getR a.tmps r).run P W = .ok v W ∧ RA S W β h x v := by
  cases r with
  | tmp t =>
    simp only [compR, Option.some.injEq] at hr; subst hr
    simp only [resV, Option.some.injEq] at hx; subst hx
    exact ⟨_, rfl, F.sl t⟩
  | cell q t =>
    have hs := F.sl q
    simp only [compR] at hr
    cases hu : P.underlying t with
    | none => simp [hu] at hr
    | some d =>
      have key : ∀ (k : Option Nat), resV s h (.cell k q) = some x → ∃ (g off : Nat) (cs : List AV) (cur : Nat → Value) (m : Nat), a.tmps.getD q undef = .pointer (some ⟨g, off, none⟩) ∧ (∀ (j : Nat) (c : AV), (List.drop off cs)[j]? = some c → W.cell? ⟨g, off + j, none⟩ = some (cur j) ∧ RA S W β h c (cur j)) ∧
          (match k with | none => cs[off]? | some n => if off + n ≤ cs.length then some (AV.agg ((cs.drop off).take n)) else none) = some x ∧ m = cs.length := by
        intro k hk
        simp only [resV] at hk
        split at hk
        · rename_i b off heq
          rw [heq] at hs
          obtain ⟨g, cs0, m0, hv, hg, hbox⟩ := ptr_of hs rfl
          simp only [boxOf, hbox] at hk
          obtain ⟨g', cur, e, h1, h2, h3, h4⟩ := F.H.blk _ _ hbox
          rw [hg] at h1; cases h1
          refine ⟨g, off, cs0, fun j => cur.getD (off + j) undef, _, hv, fun j c hc => ?_, hk, rfl⟩
          rw [List.getElem?_drop] at hc
          have := (List.getElem?_eq_some_iff.1 hc).1
          exact ⟨by rw [cell_row h2]; exact getD_some (by omega), h4 _ _ hc⟩
        · cases hk
      have hagg : (isAgg t).run P W = .ok (isAggD d) W := by
        unfold isAgg
        rw [Sem.run_bind, run_underlying hu W]
        cases d <;> rfl
      simp only [hu, Option.map_some] at hr
      split at hr
      · rename_i n h1 h2
        cases hr
        obtain ⟨g, off, cs, cur, m, e1, e2, e3, e4⟩ := key _ hx
        simp only [] at e3
        split at e3
        · rename_i hle
          cases e3
          refine ⟨.agg ((List.range n).map cur).toArray, ?_, .agg (by simp; omega) ?_⟩
          · simp only [getR]
            rw [e1]
            have := run_loadVar_mid (P := P) W g off t ((List.range n).map cur) d (by
              intro j v hj
              simp only [List.getElem?_map] at hj
              rcases Nat.lt_or_ge j n with hjn | hjn
              · rw [List.getElem?_range hjn] at hj
                simp at hj; subst hj
                exact (e2 j _ (List.getElem?_eq_getElem (by simp; omega))).1
              · rw [List.getElem?_eq_none (by simp; omega)] at hj; simp at hj) hu (by cases d <;> simp_all [isAggD, TypeDesc.isRow]) (by unfold szOf at h2; rw [h2]; simp)
            simp [getR, asAddr, this]
          · intro j c hj
            rw [List.getElem?_take] at hj
            split at hj
            · rename_i hjn
              have : (((List.range n).map cur).toArray).getD j undef = cur j := by simp [hjn]
              rw [this]
              exact (e2 j c hj).2
            · cases hj
        · cases e3
      · rename_i n h1 h2
        cases hr
        obtain ⟨g, off, cs, cur, m, e1, e2, e3, e4⟩ := key _ hx
        simp only [] at e3
        obtain ⟨f1, f2⟩ := e2 0 x (by rw [List.getElem?_drop]; exact e3)
        rw [Nat.add_zero] at f1
        refine ⟨cur 0, ?_, f2⟩
        simp only [getR]
        rw [e1]
        have h1 : isAggD d = false := Option.some.inj h1
        rw [h1] at hagg
        simp [getR, asAddr, loadVar, hagg, f1, Result.andThen]
      · cases hr
theorem resL_ok (F : Fr W0 S0 s h a W S β) : ∀ {l : List ResultVar} {rs : List Rs}, listM (compR P) l = some rs → ∀ {xs : List AV}, listM (resV s h) rs = some xs →
    ∃ vs : List Value, (l.mapM (getR a.tmps)).run P W = .ok vs W ∧ vs.length = xs.length ∧ ∀ (i : Nat) (x : AV), xs[i]? = some x → RA S W β h x ((vs[i]?).getD undef)
  | [], rs, hl, xs, hx => by
    simp only [listM, Option.some.injEq] at hl; subst hl
    simp only [listM, Option.some.injEq] at hx; subst hx
    exact ⟨[], rfl, rfl, fun i x hx => by simp at hx⟩
  | r :: l, rs, hl, xs, hx => by
    simp only [listM] at hl
    split at hl
    · rename_i r' m h1 h2
      cases hl
      simp only [listM] at hx
      split at hx
      · rename_i x xs' h3 h4
        cases hx
        obtain ⟨v, b1, b2⟩ := res_ok F h1 h3
        obtain ⟨vs, c1, c2, c3⟩ := resL_ok F h2 h4
        refine ⟨v :: vs, ?_, by simp [c2], fun i y hy => ?_⟩
        · rw [List.mapM_cons, Sem.run_bind, b1]
          simp [Result.andThen, Sem.run_bind, c1]
        · cases i with
          | zero => simp at hy; subst hy; simpa using b2
          | succ i => simpa using c3 i y (by simpa using hy)
      · cases hx
    · cases hl
theorem results_eq (fn : Func) (tmps : Array Value) : results fn tmps = (do
    let vs ← fn.results.toList.mapM (getR tmps)
    pure (if h : vs.toArray.size = 1 then vs.toArray[0] else .tuple vs.toArray)) := by
  have e : getR tmps = (fun | .tmp t => pure (tmps.getD t undef) | .cell a t => (do loadVar t (← asAddr (tmps.getD a undef)))) := by funext x; cases x <;> rfl
  rw [e]
  unfold results
  rw [Array.mapM_eq_mapM_toList]
  simp
  refine congrArg _ (congrArg (fun f => List.mapM f _) (funext fun x => ?_))
  cases x <;> rfl
theorem resVs_ok (F : Fr W0 S0 s h a W S β) {fn : Func} {rs : List Rs} (hr : listM (compR P) fn.results.toList = some rs) {x : AV} (hx : resVs s h rs = some x) :
    ∃ v, (results fn a.tmps).run P W = .ok v W ∧ RA S W β h x v := by
  have key : ∀ xs, listM (resV s h) rs = some xs → (∀ y, xs = [y] → x = y) → (xs.length ≠ 1 → x = .tup xs) → ∃ v, (results fn a.tmps).run P W = .ok v W ∧ RA S W β h x v := by
    intro xs hxs h1 h2
    obtain ⟨vs, b1, b2, b3⟩ := resL_ok F hr hxs
    rw [results_eq]
    refine ⟨_, by rw [Sem.run_bind, b1]; rfl, ?_⟩
    by_cases hl : xs.length = 1
    · match xs, vs, hl, b2 with
      | [y], [v], _, _ =>
        rw [h1 y rfl]
        simpa using b3 0 y rfl
    · rw [dif_neg (by simpa [b2] using hl), h2 hl]
      refine .tup (by simpa using b2) (fun i y hy => ?_)
      have := b3 i y hy
      rw [getD_toList]
      exact this
  unfold resVs at hx
  split at hx
  · rename_i r
    exact key [x] (by simp [listM, hx]) (fun y hy => by cases hy; rfl) (fun h => absurd rfl h)
  · rename_i hne
    obtain ⟨xs, hxs, rfl⟩ := Option.map_eq_some_iff.1 hx
    have hlen := (listM_ok hxs).1
    refine key xs hxs (fun y hy => ?_) (fun _ => rfl)
    subst hy
    exfalso
    match rs, hlen with
    | [r], _ => exact hne r rfl
end

/-! ### The value that leaves -/
/-- What holds of x in (h) holds of y in (h'), with more cells laid still. -/
def FS (h : Heap) (x : AV) (h' : Heap) (y : AV) : Prop :=
  ∀ (B : Nat) (S : Stb) (β : Bta) (W : World) (v : Value), HRel B S β h W → RA S W β h x v →
    ∃ S' β', (∀ k o, S k o → S' k o) ∧ (∀ k o, k < B → S' k o → S k o) ∧ HRel B S' β' h' W ∧ RA S' W β' h' y v
theorem FS.refl (h : Heap) (x : AV) : FS h x h x := fun B S β W v H hx => ⟨S, β, fun _ _ h => h, fun _ _ _ h => h, H, hx⟩
theorem FS.trans {h h' h'' : Heap} {x y z : AV} (a : FS h x h' y) (b : FS h' y h'' z) : FS h x h'' z := fun B S β W v H hx => by
  obtain ⟨S1, β1, a1, a2, H1, x1⟩ := a B S β W v H hx
  obtain ⟨S2, β2, b1, b2, H2, x2⟩ := b B S1 β1 W v H1 x1
  exact ⟨S2, β2, fun k o h => b1 k o (a1 k o h), fun k o hk h => a2 k o hk (b2 k o hk h), H2, x2⟩
theorem HRel.empty {B : Nat} {S : Stb} {β : Bta} {h : Heap} {W : World} (H : HRel B S β h W) : HRel B S (fun _ => none) (heapL []) W :=
  ⟨fun b x hx => by simp [heapL] at hx, fun b b' k hb => by simp [heapL] at hb, fun b k hb => by simp [heapL] at hb, fun b x k o hx => by simp [heapL] at hx, H.bnd⟩
theorem FS.pv (h : Heap) {p q : PV} (hp : PLe p q) : FS h (.pv p) (heapL []) (.pv q) := fun B S β W v H hx => by
  cases hx with
  | pv hr => exact ⟨S, _, fun _ _ h => h, fun _ _ _ h => h, H.empty, .pv (hp _ _ _ hr)⟩
theorem FS.frz {h : Heap} {x : AV} {p : PV} {ids : List Nat} (hf : frz2 h x = some (p, ids)) : FS h x (hfrz h ids) (.pv p) := fun B S β W v H hx =>
  ⟨_, β, fun _ _ h => .inl h, H.dn ids, H.frz ids, .pv (frz2_ok H hx hf ids (fun _ h => h))⟩
theorem FS.out {h : Heap} {x : AV} {p q : PV} {ids : List Nat} (hf : frz2 h x = some (p, ids)) (hp : PLe p q) : FS h x (heapL []) (.pv q) := (FS.frz hf).trans (FS.pv _ hp)
/-- Several values, each laid still. -/
theorem FS.outs {h : Heap} {xs : List AV} {ps qs : List PV} {ids : List Nat} (hf : frzL (frz2 h) xs = some (ps, ids)) (hq : qs.length = ps.length) (hp : ∀ (i : Nat) (p q : PV), ps[i]? = some p → qs[i]? = some q → PLe p q) : FS h (.tup xs) (heapL []) (.tup (qs.map .pv)) := by
  intro B S β W v H hx
  cases hx with
  | @tup _ vs hn hR =>
    obtain ⟨h5, h6⟩ := frzL_ok (R := RV (sfrz S β h ids) W) (L := ids) hf (fun _ h => h) (fun j => vs.getD j undef) (fun i y hy q r hq hr' => frz2_ok H (hR i y hy) hq ids hr')
    refine ⟨_, _, fun _ _ h => .inl h, H.dn ids, (H.frz ids).empty, .tup (by simp; omega) (fun i y hy => ?_)⟩
    obtain ⟨q, hqi, rfl⟩ := pvmap_get hy
    have hlt : i < ps.length := by have := (List.getElem?_eq_some_iff.1 hqi).1; omega
    exact .pv (hp i _ q (List.getElem?_eq_getElem hlt) hqi _ _ _ (h6 i _ (List.getElem?_eq_getElem hlt)))
/-- A row that is handed over, to be written on. -/
theorem FS.row {h : Heap} {b n : Nat} {e : TypeId} {sz : Nat} {es : List PV} {m : Bool} (hb : h b = some (.row e sz es m)) : FS h (.ref b n) (heapL [.row e sz es m]) (.ref 0 n) := by
  intro B S β W v H hx
  have hL : ∀ q y, heapL [.row e sz es m] q = some y → q = 0 ∧ y = .row e sz es m := by
    intro q y hq
    unfold heapL at hq
    cases q with
    | zero => simp at hq; exact ⟨rfl, hq.symm⟩
    | succ q => simp at hq
  have hsome : ∀ q, (heapL [.row e sz es m] q).isSome → q = 0 := fun q hq => by
    obtain ⟨y, hy⟩ := Option.isSome_iff_exists.1 hq
    exact (hL q y hy).1
  have hbs : (h b).isSome := by simp [hb]
  refine ⟨S, fun i => if i = 0 then β b else none, fun _ _ h => h, fun _ _ _ h => h, ⟨fun q y hq => ?_, fun q q' k hq hq' h1 h2 => ?_, fun q k hq h1 => ?_, fun q y k o hq h1 h2 => ?_, H.bnd⟩, ?_⟩
  · obtain ⟨rfl, rfl⟩ := hL q y hq
    have := H.blk b _ hb
    simpa [BlkRel] using this
  · rw [hsome q hq, hsome q' hq']
  · have := hsome q hq; subst this
    exact H.fresh b k hbs (by simpa using h1)
  · obtain ⟨rfl, rfl⟩ := hL q y hq
    exact H.sinv b _ k o hb (by simpa using h1) h2
  · cases hx with
    | ref hb' hn hv hc =>
      rw [hb] at hb'; cases hb'
      exact .ref (by rfl) hn hv (fun hh => by have := hc hh; simpa [Cur] using this)

/-! ### A function -/
def RetQ (rs : List Rs) (r : AV) (L : List Blk) : Post
  | .normal, s, h | .ret, s, h => ∃ x, resVs s h rs = some x ∧ FS h x (heapL L) r
  | .exit _, _, _ => False
def start (args : List PV) (n : Nat) : Slots := args.map .pv ++ List.replicate (n - args.length) (.tup [])
theorem CallsV.of {P : Program} {f : FuncId} {args : List PV} {r : AV} {L : List Blk} {fn : Func} {body : Code} {c : C} {rs : List Rs}
    (hf : P.funcs[f]? = some fn) (hname : (fn.name == "runtime.NumGoroutine") = false) (hb : fn.body = some body) (hc : comp P body = some c) (hr : listM (compR P) fn.results.toList = some rs)
    (hw : WP P c (start args fn.ntmps) (fun _ => none) (RetQ rs r L)) : CallsV P f args r L := by
  refine ⟨⟨fn, hf, hname, by rw [hb]; rfl⟩, fun S W vs hS hn hR => ?_⟩
  refine calls_of_wp hf hb (wp_mono (hw body hc W S _ W S (fun _ => none) ⟨⟨fun b x hx => (by cases hx), fun b b' k hb => (by cases hb), fun b k hb => (by cases hb), fun b x k o hx => (by cases hx), hS⟩, fun n => ?_, ?_, rfl, Below.refl _ _, fun _ _ h => h, fun _ _ _ h => h⟩) (fun e a w he => ?_))
  · rw [getD_toList]
    simp only [start, Array.toList_append, Array.toList_replicate, List.getD]
    rcases Nat.lt_or_ge n args.length with h1 | h1
    · rw [List.getElem?_append_left (by simpa using h1), List.getElem?_append_left (by simp; omega), List.getElem?_map, List.getElem?_eq_getElem h1]
      have := hR n _ (List.getElem?_eq_getElem h1)
      rw [getD_toList] at this
      exact .pv this
    · rw [List.getElem?_append_right (by simpa using h1), List.getElem?_append_right (by simp; omega)]
      simp only [List.length_map, List.getElem?_replicate, Array.length_toList, hn]
      split
      · exact undef_ok
      · exact .pv (.junk _)
  · simp [start, hn]
  · cases e with
    | normal | ret =>
      obtain ⟨s, h, S', β, ⟨x, hx, hfs⟩, F⟩ := he
      obtain ⟨v, hv, hra⟩ := resVs_ok F hr hx
      obtain ⟨S2, β2, b1, b2, b3, b4⟩ := hfs _ _ _ _ _ F.H hra
      exact ⟨F.df, v, hv, v, β2, S2, rfl, F.lo, fun k o h => b1 k o (F.up k o h), fun k o hk h => F.dn k o hk (b2 k o hk h), b3, b4⟩
    | exit id => obtain ⟨s, h, S', β, hq, F⟩ := he; exact hq.elim
    | goto l => exact he.elim
    | panic ch => exact he.elim
    | outgrown => exact he.elim
end Go.Proofs.Ytnojmocoifodjaa.Pv
set_option linter.unusedVariables false
set_option linter.unusedSimpArgs false
namespace Go.Proofs.Ytnojmocoifodjaa.Pv
open Go Go.RowKit

/-! ### Heaps ars lists -/
abbrev HL := List (Nat × Blk)
def hget : HL → Nat → Option Blk
  | [], _ => none
  | (b, x) :: l, i => if i = b then some x else hget l i
def hput : HL → Nat → Blk → HL
  | [], b, x => [(b, x)]
  | (c, y) :: l, b, x => if c = b then (b, x) :: l else (c, y) :: hput l b x
theorem hget_put : ∀ (l : HL) (b : Nat) (x : Blk), hget (hput l b x) = hupd (hget l) b x
  | [], b, x => by funext i; simp [hput, hget, hupd]
  | (c, y) :: l, b, x => by
    funext i
    unfold hput
    split
    · rename_i h; subst h
      simp only [hget, hupd]
      split <;> simp_all
    · rename_i h
      have := congrFun (hget_put l b x) i
      simp only [hget, hupd] at this ⊢
      split
      · rename_i h2; subst h2; simp [h]
      · exact this
def frzHL (l : HL) (ids : List Nat) : HL := match ids with
  | [] => l
  | _ => l.map fun (b, x) => (b, if b ∈ ids then x.frz else x)
theorem hget_frz (l : HL) (ids : List Nat) : hget (frzHL l ids) = hfrz (hget l) ids := by
  unfold frzHL
  split
  · funext i; simp [hfrz]
  · rename_i ids _
    funext i
    induction l with
    | nil => simp [hget, hfrz]
    | cons a l ih =>
      obtain ⟨b, x⟩ := a
      simp only [List.map_cons, hget, hfrz] at ih ⊢
      split
      · rename_i h; subst h; split <;> rfl
      · rw [ih]
def attHL (l : HL) (k : Nat) : List Blk → HL
  | [] => l
  | x :: L => hput (attHL l (k + 1) L) k x
theorem hget_att (l : HL) : ∀ (L : List Blk) (k : Nat), hget (attHL l k L) = Upd.ap (hget l) (.att k L)
  | [], k => by funext q; simp only [attHL, Upd.ap, List.length_nil]; rw [if_neg (by omega)]
  | x :: L, k => by
    funext q
    rw [attHL, hget_put, hget_att l L (k + 1)]
    simp only [hupd, Upd.ap, List.length_cons]
    by_cases h1 : q = k
    · subst h1; simp
    · rw [if_neg h1]
      by_cases h2 : k + 1 ≤ q ∧ q < k + 1 + L.length
      · rw [if_pos h2, if_pos ⟨by omega, by omega⟩, show q - k = (q - (k + 1)) + 1 by omega, List.getElem?_cons_succ]
      · rw [if_neg h2, if_neg (by omega)]
def Upd.apL (l : HL) : Upd → HL
  | .new b x => hput l b x
  | .frz ids => frzHL l ids
  | .row b es => match hget l b with
    | some (.row e sz _ m) => hput l b (.row e sz es m)
    | _ => l
  | .box b cs => match hget l b with
    | some (.box _ m) => hput l b (.box cs m)
    | _ => l
  | .att k L => attHL l k L
theorem Upd.apL_ok (l : HL) (u : Upd) : hget (u.apL l) = u.ap (hget l) := by
  cases u with
  | new b x => exact hget_put _ _ _
  | frz ids => exact hget_frz _ _
  | row b es => simp only [Upd.apL, Upd.ap]; split <;> rename_i h <;> simp only [h]; exact hget_put _ _ _
  | box b cs => simp only [Upd.apL, Upd.ap]; split <;> rename_i h <;> simp only [h]; exact hget_put _ _ _
  | att k L => exact hget_att _ _ _
def Out.heapL (o : Out) (l : HL) : HL := o.up.foldl Upd.apL l
theorem ups_L : ∀ (us : List Upd) (l : HL), hget (us.foldl Upd.apL l) = us.foldl Upd.ap (hget l)
  | [], _ => rfl
  | u :: us, l => by simp only [List.foldl_cons]; rw [ups_L us, Upd.apL_ok]
theorem Out.heapL_ok (o : Out) (l : HL) : hget (o.heapL l) = o.heap (hget l) := ups_L o.up l

/-! ### Plain operations run -/
def stepO (x : Ins) (s : Slots) (h : Heap) : Option Out := match gd s x.g with
  | .no => some skipOut
  | .yes => sem x.i (x.dst.getD 0) s h
  | .bad => none
theorem stepO_ok {P : Program} {x : Ins} {s : Slots} {h : Heap} {o : Out} (hs : stepO x s h = some o) : SO P x s h o := by
  unfold stepO at hs
  split at hs
  · rename_i hg; cases hs; exact .inl ⟨hg, rfl⟩
  · rename_i hg
    refine .inr ⟨hg, ?_⟩
    split
    · rename_i f ars heq; rw [heq] at hs; cases hs
    · exact hs
  · cases hs
/-- n operations, one after the other. -/
def runR : Nat → List Ins → Slots → HL → Option (List Ins × Slots × HL)
  | 0, l, s, h => some (l, s, h)
  | _ + 1, [], _, _ => none
  | n + 1, x :: l, s, h => match stepO x s (hget h) with
    | some o => runR n l (putS s x.dst o.v) (o.heapL h)
    | none => none
theorem wpR_run {P : Program} {K : Slots → Heap → Prop} : ∀ (n : Nat) {is l : List Ins} {s s' : Slots} {h h' : HL}, runR n is s h = some (l, s', h') → wpR P l s' (hget h') K → wpR P is s (hget h) K
  | 0, is, l, s, s', h, h', hr, hw => by simp only [runR, Option.some.injEq, Prod.mk.injEq] at hr; obtain ⟨rfl, rfl, rfl⟩ := hr; exact hw
  | n + 1, [], l, s, s', h, h', hr, hw => by simp [runR] at hr
  | n + 1, x :: is, l, s, s', h, h', hr, hw => by
    simp only [runR] at hr
    split at hr
    · rename_i o ho
      refine ⟨o, stepO_ok ho, ?_⟩
      rw [← Out.heapL_ok]
      exact wpR_run n hr hw
    · cases hr
end Go.Proofs.Ytnojmocoifodjaa.Pv
set_option linter.unusedVariables false
set_option linter.unusedSimpArgs false
namespace Go.Proofs.Ytnojmocoifodjaa.Pv
open Go Go.RowKit

/-! ### The code ars a machine that is stepped until a call, a branch, a loop or a risky operation is met -/
inductive Kf | seq (c : C) | blk (id : Nat) | lp (c : C)
inductive Conf
  | code (c : C) (k : List Kf) (s : Slots) (h : HL)
  | reg (is : List Ins) (k : List Kf) (s : Slots) (h : HL)
  | drw (all is : List Ins) (acc : List Out) (k : List Kf) (s : Slots) (h : HL)
  | out (e : Ex) (k : List Kf) (s : Slots) (h : HL)
def kpost (P : Program) : List Kf → Post → Post
  | [], Q => Q
  | .seq c :: k, Q => thenQ (fun s h => WP P c s h (kpost P k Q)) (kpost P k Q)
  | .blk id :: k, Q => blkQ id (kpost P k Q)
  | .lp c :: k, Q => thenQ (fun s h => WPin P c s h (kpost P k Q)) (kpost P k Q)
def Ok (P : Program) (Q : Post) : Conf → Prop
  | .code c k s h => WP P c s (hget h) (kpost P k Q)
  | .reg is k s h => wpR P is s (hget h) (kpost P k Q .normal)
  | .drw all is acc k s h => wpD P is s (hget h) acc (fun outs s h => okD all outs = true ∧ kpost P k Q .normal s h)
  | .out e k s h => kpost P k Q e s (hget h)

/-- Arithmetic behind a veil: what a step may not open. -/
inductive ArOp | lt | le | eq | slt | seq | add | sub | mul | conv | lenP | lenN | lenS | not | or | beq | snoc | inc | cat
abbrev ArOp.ty : ArOp → Type
  | .lt | .le | .eq => Int → Int → Bool
  | .slt | .seq => List UInt8 → List UInt8 → Bool
  | .add | .sub | .mul => IntKind → Int → Int → Int
  | .conv => IntKind → Int → Int
  | .lenP => List PV → Int
  | .lenN => Nat → Int
  | .lenS => List UInt8 → Int
  | .not => Bool → Bool
  | .or | .beq => Bool → Bool → Bool
  | .snoc => List PV → PV → List PV
  | .inc => Nat → Nat
  | .cat => List UInt8 → List UInt8 → List UInt8
abbrev Ar := (o : ArOp) → o.ty
def Ar.std : Ar
  | .lt => fun a b => decide (a < b)
  | .le => fun a b => decide (a ≤ b)
  | .eq => fun a b => decide (a = b)
  | .slt => fun a b => Op.bytesLess a b
  | .seq => fun a b => decide (a = b)
  | .add => fun k a b => k.wrap (a + b)
  | .sub => fun k a b => k.wrap (a - b)
  | .mul => fun k a b => k.wrap (a * b)
  | .conv => fun k a => k.wrap a
  | .lenP => fun l => l.length
  | .lenN => fun n => n
  | .lenS => fun l => l.length
  | .not => fun b => !b
  | .or => fun a b => a || b
  | .beq => fun a b => a == b
  | .snoc => fun l x => l ++ [x]
  | .inc => fun n => n + 1
  | .cat => fun a b => a ++ b
def semBinA (A : Ar) (op : BinOp) (p q : PV) : Option PV := match op with
  | .add => match p, q with
    | .int k a, .int k' b => if k ≠ k' then none else some (.int k (A .add k a b))
    | p, q => semBin .add p q
  | .sub => match p, q with
    | .int k a, .int k' b => if k ≠ k' then none else some (.int k (A .sub k a b))
    | p, q => semBin .sub p q
  | .mul => match p, q with
    | .int k a, .int k' b => if k ≠ k' then none else some (.int k (A .mul k a b))
    | p, q => semBin .mul p q
  | .eql => match p, q with
    | .int k a, .int k' b => if k ≠ k' then none else some (.bool (A .eq a b))
    | .str a, .str b => some (.bool (A .seq a b))
    | p, q => semBin .eql p q
  | .neq => match p, q with
    | .int k a, .int k' b => if k ≠ k' then none else some (.bool (A .not (A .eq a b)))
    | .str a, .str b => some (.bool (A .not (A .seq a b)))
    | p, q => semBin .neq p q
  | .lss => match p, q with
    | .int k a, .int k' b => if k ≠ k' then none else some (.bool (A .lt a b))
    | .str a, .str b => some (.bool (A .slt a b))
    | p, q => semBin .lss p q
  | .leq => match p, q with
    | .int k a, .int k' b => if k ≠ k' then none else some (.bool (A .le a b))
    | .str a, .str b => some (.bool (A .or (A .slt a b) (A .seq a b)))
    | p, q => semBin .leq p q
  | .gtr => match p, q with
    | .int k a, .int k' b => if k ≠ k' then none else some (.bool (A .lt b a))
    | .str a, .str b => some (.bool (A .not (A .or (A .slt a b) (A .seq a b))))
    | p, q => semBin .gtr p q
  | .geq => match p, q with
    | .int k a, .int k' b => if k ≠ k' then none else some (.bool (A .le b a))
    | .str a, .str b => some (.bool (A .not (A .slt a b)))
    | p, q => semBin .geq p q
  | op => semBin op p q
theorem semBinA_std (op : BinOp) (p q : PV) : semBinA .std op p q = semBin op p q := by
  cases op <;> cases p <;> cases q <;> simp [semBinA, semBin, Ar.std]
def semA (A : Ar) (i : I) (d : Nat) (s : Slots) (h : Heap) : Option Out := match i with
  | .bin op x y => match ev s x, ev s y with
    | .pv p, .pv q => match semBinA A op p q with
      | some r => some { v := .pv r }
      | none => none
    | _, _ => none
  | .beq neg x y => match ev s x, ev s y with
    | .pv (.bool p), .pv (.bool q) => some { v := .pv (.bool (if neg then A .not (A .beq p q) else A .beq p q)) }
    | _, _ => none
  | .un op x => match op with
    | .not => match ev s x with
      | .pv (.bool b) => some { v := .pv (.bool (A .not b)) }
      | _ => none
    | .neg => match ev s x with
      | .pv (.int k n) => some { v := .pv (.int k (A .sub k 0 n)) }
      | _ => none
    | _ => none
  | .len str x => match str with
    | false => match ev s x with
      | .pv (.view es) => some { v := .pv (.int .i64 (A .lenP es)) }
      | .pv .nil | .pv .cap0 | .pv .niln | .pv .emp => some { v := .pv (.int .i64 0) }
      | .ref _ n => some { v := .pv (.int .i64 (A .lenN n)) }
      | _ => none
    | true => match ev s x with
      | .pv (.str l) => some { v := .pv (.int .i64 (A .lenS l)) }
      | _ => none
  | .conv k x => match ev s x with
    | .pv (.int _ n) => some { v := .pv (.int k (A .conv k n)) }
    | _ => none
  | i => sem i d s h
theorem semA_std (i : I) (d : Nat) (s : Slots) (h : Heap) : semA .std i d s h = sem i d s h := by
  cases i
  case bin op x y => simp only [semA, sem, semBinA_std]; rfl
  case beq neg x y => simp only [semA, sem, Ar.std]; rfl
  case un op x =>
    cases op <;> simp only [semA, sem, Ar.std] <;> split <;> first | rfl | (simp_all; done) | skip
  case len str x => cases str <;> simp only [semA, sem, Ar.std] <;> rfl
  case conv k x => simp only [semA, sem, Ar.std]; rfl
  all_goals rfl
def stepA (A : Ar) (x : Ins) (s : Slots) (h : Heap) : Option Out := match gd s x.g with
  | .no => some skipOut
  | .yes => semA A x.i (x.dst.getD 0) s h
  | .bad => none
theorem stepA_std (x : Ins) (s : Slots) (h : Heap) : stepA .std x s h = stepO x s h := by
  unfold stepA stepO
  simp only [semA_std]
  try rfl
/-- b: does it go on at a guard, at a choice? -/
def risky (b : Bool) (s : Slots) (x : Ins) : Bool := match b, x.g with
  | false, some _ => true
  | _, g => match gd s g with
    | .no => false
    | .bad => true
    | .yes => match x.i with
      | .call .. | .idx .. | .sidx .. | .slc .. | .sslc .. | .app .. | .isnil .. | .bts .. | .stb .. => true
      | .pick .. => !b
      | .fld _ x | .load _ x | .store _ x _ => match ev s x with
        | .eptr .. => true
        | _ => false
      | .bin op a _ => match op with
        | .add => match ev s a with
          | .pv (.str _) => true
          | _ => false
        | .quo | .rem | .shl | .shr => true
        | _ => false
      | _ => false
def Conf.step (A : Ar) (b : Bool) : Conf → Option Conf
  | .code c k s h => match c with
    | .nop => some (.out .normal k s h)
    | .ret => some (.out .ret k s h)
    | .exit id => some (.out (.exit id) k s h)
    | .seq a b => some (.code a (.seq b :: k) s h)
    | .cond .. => none
    | .blk id c => some (.code c (.blk id :: k) s h)
    | .loop _ => none
    | .reg is => some (.reg is k s h)
    | .drw is => some (.drw is is [] k s h)
  | .reg is k s h => match is with
    | [] => some (.out .normal k s h)
    | x :: l => if risky b s x then none else match stepA A x s (hget h) with
      | some o => some (.reg l k (putS s x.dst o.v) (o.heapL h))
      | none => none
  | .drw all is acc k s h => match is with
    | [] => none
    | x :: l => if risky b s x then none else match stepA A x s (hget h) with
      | some o => some (.drw all l (acc ++ [o]) k (putS s x.dst o.v) (o.heapL h))
      | none => none
  | .out e k s h => match k with
    | [] => none
    | .seq c :: k => match e with
      | .normal => some (.code c k s h)
      | e => some (.out e k s h)
    | .blk id :: k => match e with
      | .exit i => if i = id then some (.out .normal k s h) else some (.out (.exit i) k s h)
      | e => some (.out e k s h)
    | .lp c :: k => match e with
      | .normal => some (.code c (.lp c :: k) s h)
      | e => some (.out e k s h)
def run (A : Ar) (b : Bool) : Nat → Conf → Conf
  | 0, c => c
  | n + 1, c => match c.step A b with
    | some c' => run A b n c'
    | none => c
section
variable {P : Program} {Q : Post}
theorem Ok.step (hmix : P.follows .mixedOrders = true) {A : Ar} (hA : A = .std) {b : Bool} {c c' : Conf} (hs : c.step A b = some c') (hw : Ok P Q c') : Ok P Q c := by
  subst hA
  cases c with
  | code c k s h =>
    cases c with
    | nop => cases hs; exact WP.nop hw
    | ret => cases hs; exact WP.ret hw
    | exit id => cases hs; exact WP.exit hw
    | seq a b => cases hs; exact WP.seq hw
    | cond x a b => cases hs
    | blk id c => cases hs; exact WP.blk hw
    | loop c => cases hs
    | reg is => cases hs; exact WP.reg hw
    | drw is => cases hs; exact WP.drw hmix hw
  | reg is k s h =>
    cases is with
    | nil => cases hs; exact hw
    | cons x l =>
      simp only [Conf.step] at hs
      split at hs
      · cases hs
      · split at hs
        · rename_i o ho
          cases hs
          refine ⟨o, stepO_ok (by rw [← stepA_std]; exact ho), ?_⟩
          rw [← Out.heapL_ok]
          exact hw
        · cases hs
  | drw all is acc k s h =>
    cases is with
    | nil => cases hs
    | cons x l =>
      simp only [Conf.step] at hs
      split at hs
      · cases hs
      · split at hs
        · rename_i o ho
          cases hs
          refine ⟨o, stepO_ok (by rw [← stepA_std]; exact ho), ?_⟩
          rw [← Out.heapL_ok]
          exact hw
        · cases hs
  | out e k s h =>
    cases k with
    | nil => cases hs
    | cons f k =>
      cases f with
      | seq c => cases e <;> cases hs <;> exact hw
      | lp c => cases e <;> cases hs <;> first | exact WPin.of hw | exact hw
      | blk id =>
        cases e with
        | normal => cases hs; exact hw
        | ret => cases hs; exact hw
        | exit i =>
          simp only [Conf.step] at hs
          show blkQ id (kpost P k Q) (.exit i) s (hget h)
          unfold blkQ
          simp only []
          by_cases hi : i = id
          · rw [if_pos hi] at hs; cases hs
            rw [if_pos hi]; exact hw
          · rw [if_neg hi] at hs; cases hs
            rw [if_neg hi]; exact hw
theorem Ok.run (hmix : P.follows .mixedOrders = true) {A : Ar} (hA : A = .std) (b : Bool) : ∀ (n : Nat) {c c' : Conf}, Pv.run A b n c = c' → Ok P Q c' → Ok P Q c
  | 0, c, c', hr, hw => by cases hr; exact hw
  | n + 1, c, c', hr, hw => by
    simp only [Pv.run] at hr
    split at hr
    · rename_i c1 h1
      exact Ok.step hmix hA h1 (Ok.run hmix hA b n hr hw)
    · cases hr; exact hw
/-- A branch. -/
theorem Ok.cond {x : Opd} {a b : C} {k : List Kf} {s : Slots} {h : HL} {t : Bool} (ht : ev s x = .pv (.bool t)) (h1 : t = true → Ok P Q (.code a k s h)) (h2 : t = false → Ok P Q (.code b k s h)) : Ok P Q (.code (.cond x a b) k s h) :=
  WP.cond t ht (by
    cases t
    · exact h2 rfl
    · exact h1 rfl)
/-- A loop, round by round. -/
theorem Ok.unroll {c : C} {k : List Kf} {s : Slots} {h : HL} (hw : Ok P Q (.code c (.lp c :: k) s h)) : Ok P Q (.code (.loop c) k s h) := WP.unroll (WPin.of hw)
/-- One operation that is not a call. -/
theorem Ok.op {x : Ins} {l : List Ins} {k : List Kf} {s : Slots} {h : HL} {o : Out} (ho : stepO x s (hget h) = some o) (hw : Ok P Q (.reg l k (putS s x.dst o.v) (o.heapL h))) : Ok P Q (.reg (x :: l) k s h) := by
  refine ⟨o, stepO_ok ho, ?_⟩
  rw [← Out.heapL_ok]
  exact hw
theorem Ok.dop {x : Ins} {all l : List Ins} {acc : List Out} {k : List Kf} {s : Slots} {h : HL} {o : Out} (ho : stepO x s (hget h) = some o) (hw : Ok P Q (.drw all l (acc ++ [o]) k (putS s x.dst o.v) (o.heapL h))) : Ok P Q (.drw all (x :: l) acc k s h) := by
  refine ⟨o, stepO_ok ho, ?_⟩
  rw [← Out.heapL_ok]
  exact hw
def freeAt (h : HL) (b n : Nat) : Bool := h.all fun x => x.1 < b || b + n ≤ x.1
theorem freeAt_ok {h : HL} {b n : Nat} (hf : freeAt h b n = true) : ∀ i, i < n → hget h (b + i) = none := by
  intro i hi
  induction h with
  | nil => rfl
  | cons a l ih =>
    obtain ⟨c, x⟩ := a
    simp only [freeAt, List.all_cons, Bool.and_eq_true, Bool.or_eq_true, decide_eq_true_eq] at hf ih
    simp only [hget]
    rw [if_neg (by omega)]
    exact ih hf.2
theorem SO_call {f : Opd} {ars : List Opd} {x : Ins} (hx : x.i = .call f ars) {s : Slots} {h : HL} {g : Nat} {ps : List PV} {ids : List Nat} {r : AV} {L : List Blk} (hc : CallsV P g ps r L) (hg : gd s x.g = .yes) (ha : callArgs s (hget h) f ars = some (g, ps, ids)) (hfr : freeAt h (base x.dst) L.length = true) :
    SO P x s (hget h) (callOut x.dst ids r L) := by
  refine .inr ⟨hg, ?_⟩
  rw [hx]
  exact ⟨g, ps, ids, r, L, ha, hc, freeAt_ok hfr, rfl⟩
/-- A call. -/
theorem Ok.call {d : Option Nat} {gu : Option (Nat × Bool)} {af : List Nat} {f : Opd} {ars : List Opd} {l : List Ins} {k : List Kf} {s : Slots} {h : HL} {g : Nat} {ps : List PV} {ids : List Nat} {r : AV} {L : List Blk} (hc : CallsV P g ps r L) (hg : gd s gu = .yes)
    (ha : callArgs s (hget h) f ars = some (g, ps, ids)) (hfr : freeAt h (base d) L.length = true) (hw : Ok P Q (.reg l k (putS s d (callOut d ids r L).v) ((callOut d ids r L).heapL h))) : Ok P Q (.reg (⟨d, gu, af, .call f ars⟩ :: l) k s h) := by
  refine ⟨_, SO_call rfl hc hg ha hfr, ?_⟩
  rw [← Out.heapL_ok]
  exact hw
theorem Ok.dcall {all : List Ins} {acc : List Out} {d : Option Nat} {gu : Option (Nat × Bool)} {af : List Nat} {f : Opd} {ars : List Opd} {l : List Ins} {k : List Kf} {s : Slots} {h : HL} {g : Nat} {ps : List PV} {ids : List Nat} {r : AV} {L : List Blk} (hc : CallsV P g ps r L) (hg : gd s gu = .yes)
    (ha : callArgs s (hget h) f ars = some (g, ps, ids)) (hfr : freeAt h (base d) L.length = true) (hw : Ok P Q (.drw all l (acc ++ [callOut d ids r L]) k (putS s d (callOut d ids r L).v) ((callOut d ids r L).heapL h))) : Ok P Q (.drw all (⟨d, gu, af, .call f ars⟩ :: l) acc k s h) := by
  refine ⟨_, SO_call rfl hc hg ha hfr, ?_⟩
  rw [← Out.heapL_ok]
  exact hw
theorem Ok.drawn {all : List Ins} {acc : List Out} {k : List Kf} {s : Slots} {h : HL} (hok : okD all acc = true) (hw : Ok P Q (.out .normal k s h)) : Ok P Q (.drw all [] acc k s h) := ⟨hok, hw⟩
/-- A weaker frame. -/
theorem Ok.le {c : C} {k : List Kf} {s s' : Slots} {h h' : HL} (hl : Le s (hget h) s' (hget h')) (hw : Ok P Q (.code c k s' h')) : Ok P Q (.code c k s h) := WP.le hl hw
/-- A loop, with what holds at its head. -/
theorem Ok.loop {c : C} {k : List Kf} {s : Slots} {h : HL} (I : Nat → Slots → HL → Prop) (n : Nat) (h0 : I n s h)
    (hr : ∀ n s h, I n s h → Ok P (thenQ (fun s h => ∃ m, m < n ∧ ∃ s' h', Le s h s' (hget h') ∧ I m s' h') (kpost P k Q)) (.code c [] s h)) : Ok P Q (.code (.loop c) k s h) := by
  refine WP.loop (fun n s h => ∃ s' h', Le s h s' (hget h') ∧ I n s' h') n ⟨s, h, Le.refl _ _, h0⟩ (fun n s h hI => ?_)
  obtain ⟨s', h', hle, hI⟩ := hI
  exact WP.le hle (hr n s' h' hI)
end

/-! ### A function -/
theorem hget_nil : hget [] = fun _ => none := rfl
theorem CallsV.ok {P : Program} {f : FuncId} {args : List PV} {r : AV} {L : List Blk} {fn : Func} {body : Code} {c : C} {rs : List Rs}
    (hf : P.funcs[f]? = some fn) (hname : (fn.name == "runtime.NumGoroutine") = false) (hb : fn.body = some body) (hc : comp P body = some c) (hr : listM (compR P) fn.results.toList = some rs)
    (hw : Ok P (RetQ rs r L) (.code c [] (start args fn.ntmps) [])) : CallsV P f args r L := CallsV.of hf hname hb hc hr hw

/-! ### Weaker frames, by lists -/
def keepHL (kb : List Nat) (h : HL) : HL := h.filter fun x => kb.contains x.1
theorem hget_keep (kb : List Nat) (h : HL) : hget (keepHL kb h) = dropH kb (hget h) := by
  funext i
  induction h with
  | nil => simp [keepHL, hget, dropH]
  | cons a l ih =>
    obtain ⟨b, x⟩ := a
    simp only [keepHL, List.filter_cons, dropH, hget] at ih ⊢
    by_cases hb : kb.contains b = true
    · rw [if_pos hb]
      simp only [hget]
      by_cases hi : i = b
      · subst hi; rw [if_pos rfl, if_pos hb, if_pos rfl]
      · rw [if_neg hi, if_neg hi, ih]
    · rw [if_neg hb, ih]
      by_cases hi : i = b
      · subst hi; rw [if_neg hb, if_neg hb]
      · rw [if_neg hi]
def okKeep (keep kb : List Nat) (s : Slots) (h : HL) : Bool :=
  keep.all (fun i => (s.getD i (.pv .junk)).ids.all kb.contains) && kb.all (fun b => match hget h b with
    | some x => x.ids.all kb.contains
    | none => true)
theorem Le.keep (keep kb : List Nat) {s : Slots} {h : HL} (hk : okKeep keep kb s h = true) : Le s (hget h) (dropS keep s) (hget (keepHL kb h)) := fun W0 S0 a W S β F => by
  rw [hget_keep]
  exact ⟨S, β, F.drop hk⟩
theorem Le.nil {s : Slots} {h : HL} (n b : Nat) (e : TypeId) (sz : Nat) (h1 : s.getD n (.pv .junk) = .pv .nil) (h2 : hget h b = none) (h3 : sz ≠ 0) : Le s (hget h) (s.set n (.ref b 0)) (hget (hput h b (.row e sz [] true))) := by
  rw [hget_put]
  refine Le.wk (w := { nils := [(n, b, e, sz)] }) ?_
  simp [Wk.ap, nilRows, h2, h3]
  simp [List.getD] at h1
  simp [h1]

theorem CallsV.fs {P : Program} {f : FuncId} {args : List PV} {r r' : AV} {L L' : List Blk} (hc : CallsV P f args r L) (hf : FS (heapL L) r (heapL L') r') : CallsV P f args r' L' := by
  obtain ⟨h1, h2⟩ := hc
  refine ⟨h1, fun S W vs hS hn hR => (h2 S W vs hS hn hR).mono (fun e W' hp => ?_)⟩
  obtain ⟨v, β, S', rfl, a1, a2, a3, a4, a5⟩ := hp
  obtain ⟨S2, β2, b1, b2, b3, b4⟩ := hf _ _ _ _ _ a4 a5
  exact ⟨v, β2, S2, rfl, a1, fun k o h => b1 k o (a2 k o h), fun k o hk h => a3 k o hk (b2 k o hk h), b3, b4⟩
theorem FS.ref {h : Heap} {b n : Nat} {e : TypeId} {sz : Nat} {es : List PV} {m : Bool} (hb : h b = some (.row e sz es m)) (hn : n = es.length) : FS h (.ref b n) (heapL []) (.pv (.view es)) :=
  FS.out (ids := [b]) (by simp [frz2, frz1, frz0, rowOf, hb, hn]) (PLe.refl _)
theorem CallsV.still {P : Program} {f : FuncId} {args : List PV} {n : Nat} {e : TypeId} {sz : Nat} {es : List PV} {m : Bool} (hc : CallsV P f args (.ref 0 n) [.row e sz es m]) (hn : n = es.length) : CallsV P f args (.pv (.view es)) [] :=
  hc.fs (FS.ref (by rfl) hn)
theorem CallsV.le {P : Program} {f : FuncId} {args : List PV} {p q : PV} (hc : CallsV P f args (.pv p) []) (hp : PLe p q) : CallsV P f args (.pv q) [] := hc.fs (FS.pv _ hp)

/-- A nil in a variable, ars a row that is to be. -/
theorem Le.nilBox {s : Slots} {h : HL} (b i nb : Nat) (e : TypeId) (sz : Nat) {cs : List AV} {m : Bool} (h1 : hget h b = some (.box cs m)) (h2 : cs[i]? = some (.pv .nil)) (h3 : hget h nb = none) (h4 : sz ≠ 0) :
    Le s (hget h) s (hget (hput (hput h nb (.row e sz [] true)) b (.box (cs.set i (.ref nb 0)) m))) := fun W0 S0 a W S β F => by
  rw [hget_put, hget_put]
  have hne : b ≠ nb := by rintro rfl; rw [h1] at h3; cases h3
  have E1 := Evo.attach (S := S) (W := W) (β := β) h3 none (.row e sz [] true)
  have H1 : HRel W0.heap.size S (bupd β nb none) (hupd (hget h) nb (.row e sz [] true)) W := F.H.attach h3 ⟨by omega, fun i x hx => by simp at hx, .inl ⟨bupd_self _ _ _, rfl⟩⟩ (fun g hg => by cases hg)
  have F1 : Fr W0 S0 s (hupd (hget h) nb (.row e sz [] true)) a W S (bupd β nb none) := F.evo H1 E1 (Below.refl _ _) (fun _ _ _ h => h)
  generalize hh1 : hupd (hget h) nb (.row e sz [] true) = g1 at *
  generalize hβ1 : bupd β nb none = β1 at *
  have hb1 : g1 b = some (.box cs m) := by rw [← hh1, hupd_ne _ _ hne]; exact h1
  have hn1 : g1 nb = some (.row e sz [] true) := by rw [← hh1]; exact hupd_self _ _ _
  have hβn : β1 nb = none := by rw [← hβ1]; exact bupd_self _ _ _
  have E2 : Evo S S W W β1 β1 g1 (hupd g1 b (.box (cs.set i (.ref nb 0)) m)) := by
    refine ⟨Stay.refl _ _, fun q x hx => ?_⟩
    by_cases hq : q = b
    · subst hq
      rw [hb1] at hx; cases hx
      exact ⟨_, hupd_self _ _ _, by simp, rfl⟩
    · exact ⟨x, by rw [hupd_ne _ _ hq]; exact hx, Blk.le_refl _ _ _⟩
  have hsome : ∀ q, (hupd g1 b (.box (cs.set i (.ref nb 0)) m) q).isSome → (g1 q).isSome := by
    intro q hq
    by_cases hqb : q = b
    · subst hqb; simp [hb1]
    · rwa [hupd_ne _ _ hqb] at hq
  refine ⟨S, β1, F1.evo ⟨fun q x hx => ?_, fun q q' k hq hq' => H1.inj q q' k (hsome q hq) (hsome q' hq'), fun q k hq => H1.fresh q k (hsome q hq), fun q x k o hx hk ho => ?_, H1.bnd⟩ E2 (Below.refl _ _) (fun _ _ _ h => h)⟩
  · by_cases hqb : q = b
    · subst hqb
      rw [hupd_self] at hx; cases hx
      obtain ⟨k, cur, e', a1, a2, a3, a4⟩ := H1.blk q _ hb1
      refine ⟨k, cur, e', a1, a2, by simpa using a3, fun j c hc => ?_⟩
      rw [List.getElem?_set] at hc
      split at hc
      · rename_i hij
        subst hij
        split at hc
        · cases hc
          have := a4 i _ h2
          generalize cur.getD i undef = v at this ⊢
          cases this with
          | pv hp =>
            cases hp
            exact .ref (by rw [hupd_ne _ _ (Ne.symm hne)]; exact hn1) (Nat.le_refl _) ⟨none, 0, rfl, Nat.le_refl _, Nat.zero_le _⟩ (fun _ => .inl ⟨hβn, rfl, none, rfl⟩)
        · cases hc
      · exact (a4 j c hc).evo E2 H1.blk
    · rw [hupd_ne _ _ hqb] at hx
      exact (H1.blk q x hx).evo E2 H1.blk rfl (fun _ _ => rfl)
  · by_cases hqb : q = b
    · subst hqb
      rw [hupd_self] at hx; cases hx
      have := H1.sinv q _ k o hb1 hk ho
      simpa [Blk.mut, Blk.known] using this
    · rw [hupd_ne _ _ hqb] at hx
      exact H1.sinv q x k o hx hk ho

/-! ### Blocks by other names -/
mutual
def AV.rn (σ : Nat → Nat) : AV → AV
  | .pv p => .pv p
  | .ref b n => .ref (σ b) n
  | .ptr b o => .ptr (σ b) o
  | .eptr b n i o => .eptr (σ b) n i o
  | .agg cs => .agg (AV.rnL σ cs)
  | .tup cs => .tup (AV.rnL σ cs)
  | .fn f cs => .fn f (AV.rnL σ cs)
def AV.rnL (σ : Nat → Nat) : List AV → List AV
  | [] => []
  | x :: l => AV.rn σ x :: AV.rnL σ l
end
theorem AV.rnL_eq (σ : Nat → Nat) : ∀ l, AV.rnL σ l = l.map (AV.rn σ)
  | [] => rfl
  | x :: l => by simp [AV.rnL, AV.rnL_eq σ l]
def Blk.rn (σ : Nat → Nat) : Blk → Blk
  | .box cs m => .box (AV.rnL σ cs) m
  | .row e sz es m => .row e sz es m
def swp (b c : Nat) (q : Nat) : Nat := if q = b then c else if q = c then b else q
theorem swp_swp (b c q : Nat) : swp b c (swp b c q) = q := by
  unfold swp
  split <;> split <;> simp_all
def rnHL (σ : Nat → Nat) (h : HL) : HL := h.map fun x => (σ x.1, x.2.rn σ)
theorem hget_rn {σ : Nat → Nat} (hσ : ∀ q, σ (σ q) = q) (h : HL) (q : Nat) : hget (rnHL σ h) q = (hget h (σ q)).map (Blk.rn σ) := by
  induction h with
  | nil => rfl
  | cons a l ih =>
    obtain ⟨b, x⟩ := a
    simp only [rnHL, List.map_cons, hget] at ih ⊢
    by_cases hq : q = σ b
    · subst hq; rw [if_pos rfl, if_pos (hσ b)]; rfl
    · rw [if_neg hq, if_neg (fun h => hq (by rw [← h, hσ]))]
      exact ih
section
variable {S : Stb} {W : World} {β β' : Bta} {h h' : Heap} {σ : Nat → Nat}
theorem RA.rn (hh : ∀ q x, h q = some x → h' (σ q) = some (x.rn σ)) (hb : ∀ q, β' (σ q) = β q) {x : AV} {v : Value} (H : RA S W β h x v) : RA S W β' h' (x.rn σ) v := by
  induction H with
  | pv hp => exact .pv hp
  | ref hb1 hn hv hc =>
    refine .ref (hh _ _ hb1) hn hv (fun hl => ?_)
    unfold Cur at hc ⊢
    rw [hb]
    exact hc hl
  | ptr hb1 hk => exact .ptr (hh _ _ hb1) (by rw [hb]; exact hk)
  | eptr hb1 hn hv hc => exact .eptr (hh _ _ hb1) hn hv (fun hl => by rw [hb]; exact hc hl)
  | agg hn hR ih =>
    rw [AV.rn, AV.rnL_eq]
    refine .agg (by simpa using hn) (fun i x hx => ?_)
    rw [List.getElem?_map] at hx
    obtain ⟨y, hy, rfl⟩ := Option.map_eq_some_iff.1 hx
    exact ih i y hy
  | tup hn hR ih =>
    rw [AV.rn, AV.rnL_eq]
    refine .tup (by simpa using hn) (fun i x hx => ?_)
    rw [List.getElem?_map] at hx
    obtain ⟨y, hy, rfl⟩ := Option.map_eq_some_iff.1 hx
    exact ih i y hy
  | fn hn hR ih =>
    rw [AV.rn, AV.rnL_eq]
    refine .fn (by simpa using hn) (fun i x hx => ?_)
    rw [List.getElem?_map] at hx
    obtain ⟨y, hy, rfl⟩ := Option.map_eq_some_iff.1 hx
    exact ih i y hy
end
/-- The frame with two blocks' names exchanged. -/
theorem Le.swap (b c : Nat) (s : Slots) (h : HL) : Le s (hget h) (s.map (AV.rn (swp b c))) (hget (rnHL (swp b c) h)) := fun W0 S0 a W S β F => by
  generalize hσ : swp b c = σ
  have hss : ∀ q, σ (σ q) = q := fun q => by rw [← hσ]; exact swp_swp b c q
  have hh : ∀ q x, hget h q = some x → hget (rnHL σ h) (σ q) = some (x.rn σ) := fun q x hx => by rw [hget_rn hss, hss, hx]; rfl
  have hb : ∀ q, (fun q => β (σ q)) (σ q) = β q := fun q => by simp only [hss]
  have hmut : ∀ x : Blk, (x.rn σ).mut = x.mut := fun x => by cases x <;> rfl
  have hkn : ∀ x : Blk, (x.rn σ).known = x.known := fun x => by cases x <;> simp [Blk.rn, Blk.known, AV.rnL_eq]
  have hsome : ∀ q, (hget (rnHL σ h) q).isSome → (hget h (σ q)).isSome := fun q hq => by rw [hget_rn hss] at hq; simpa using hq
  refine ⟨S, fun q => β (σ q), ⟨fun q x hx => ?_, fun q q' k hq hq' h1 h2 => ?_, fun q k hq h1 => F.H.fresh _ k (hsome q hq) h1, fun q x k o hx h1 h2 => ?_, F.H.bnd⟩, fun n => ?_, by simpa using F.sz, F.df, F.lo, F.up, F.dn⟩
  · rw [hget_rn hss] at hx
    obtain ⟨y, hy, rfl⟩ := Option.map_eq_some_iff.1 hx
    have := F.H.blk _ y hy
    cases y with
    | box cs m =>
      obtain ⟨k, cur, e, a1, a2, a3, a4⟩ := this
      refine ⟨k, cur, e, a1, a2, by simpa [AV.rnL_eq] using a3, fun j z hz => ?_⟩
      rw [AV.rnL_eq, List.getElem?_map] at hz
      obtain ⟨w, hw, rfl⟩ := Option.map_eq_some_iff.1 hz
      exact RA.rn (β' := fun q => β (σ q)) hh hb (a4 j w hw)
    | row e sz es m => exact this
  · have := F.H.inj _ _ k (hsome q hq) (hsome q' hq') h1 h2
    rw [← hss q, this, hss]
  · rw [hget_rn hss] at hx
    obtain ⟨y, hy, rfl⟩ := Option.map_eq_some_iff.1 hx
    rw [hmut, hkn]
    exact F.H.sinv _ y k o hy h1 h2
  · have := RA.rn (β' := fun q => β (σ q)) hh hb (F.sl n)
    have e : (s.map (AV.rn σ)).getD n (.pv .junk) = (s.getD n (.pv .junk)).rn σ := by
      simp only [List.getD, List.getElem?_map]
      cases s[n]? <;> rfl
    rw [e]; exact this
end Go.Proofs.Ytnojmocoifodjaa.Pv
set_option linter.unusedVariables false
namespace Go.Proofs.Ytnojmocoifodjaa.Pv
open Go

/-! ### More of stepping -/
def mkS (n : Nat) (l : List (Nat × AV)) : Slots := (List.range n).map fun i => (l.lookup i).getD (.pv .junk)
theorem idx_view {d : Option Nat} {af : List Nat} {sz : Nat} {x i : Opd} {s : Slots} {h : Heap} {es : List PV} {k : IntKind} {j : Int} (e : PV) (h1 : ev s x = .pv (.view es)) (h2 : ev s i = .pv (.int k j)) (h3 : 0 ≤ j) (h4 : es[j.toNat]? = some e) (h5 : e.cells.length = sz) :
    stepO ⟨d, none, af, .idx sz x i⟩ s h = some { v := .pv (.vptr e.cells) } := by
  simp [stepO, gd, sem, h1, h2, h3, h4, h5]
/-- A loop: what is forgotten at its head; what holds there. -/
theorem Ok.loopAt {P : Program} {Q : Post} {c : C} {k : List Kf} {s : Slots} {h : HL} (keep kb : List Nat) (I : Nat → Slots → HL → Prop) (n : Nat) (hk : okKeep keep kb s h = true) (h0 : I n (dropS keep s) (keepHL kb h))
    (hr : ∀ n s h, I n s h → Ok P (thenQ (fun s h => ∃ m, m < n ∧ ∃ s' h', Le s h s' (hget h') ∧ I m s' h') (kpost P k Q)) (.code c [] s h)) : Ok P Q (.code (.loop c) k s h) :=
  Ok.le (Le.keep keep kb hk) (Ok.loop I n h0 hr)

theorem Ok.condT {P : Program} {Q : Post} {x : Opd} {a b : C} {k : List Kf} {s : Slots} {h : HL} (ht : ev s x = .pv (.bool true)) (hw : Ok P Q (.code a k s h)) : Ok P Q (.code (.cond x a b) k s h) := Ok.cond ht (fun _ => hw) (fun hh => by cases hh)
theorem Ok.condF {P : Program} {Q : Post} {x : Opd} {a b : C} {k : List Kf} {s : Slots} {h : HL} (ht : ev s x = .pv (.bool false)) (hw : Ok P Q (.code b k s h)) : Ok P Q (.code (.cond x a b) k s h) := Ok.cond ht (fun hh => by cases hh) (fun _ => hw)
theorem PLe.of {p q : PV} (h : p = q) : PLe p q := h ▸ PLe.refl p
theorem Ok.back {P : Program} {K : Post} {s : Slots} {h : HL} {I : Nat → Slots → HL → Prop} {n : Nat} (m : Nat) (keep kb : List Nat) (hm : m < n) (hk : okKeep keep kb s h = true) (hI : I m (dropS keep s) (keepHL kb h)) :
    Ok P (thenQ (fun s h => ∃ m, m < n ∧ ∃ s' h', Le s h s' (hget h') ∧ I m s' h') K) (.out .normal [] s h) := ⟨m, hm, _, _, Le.keep keep kb hk, hI⟩
theorem Ok.leave {P : Program} {Q : Post} {K : Slots → Heap → Prop} {k : List Kf} {s : Slots} {h : HL} {id : Nat} (hw : Ok P Q (.out (.exit id) k s h)) : Ok P (thenQ K (kpost P k Q)) (.out (.exit id) [] s h) := hw
theorem Ok.leaveRet {P : Program} {Q : Post} {K : Slots → Heap → Prop} {k : List Kf} {s : Slots} {h : HL} (hw : Ok P Q (.out .ret k s h)) : Ok P (thenQ K (kpost P k Q)) (.out .ret [] s h) := hw
theorem Ok.fin {P : Program} {rs : List Rs} {r x : AV} {L : List Blk} {s : Slots} {h : HL} (hx : resVs s (hget h) rs = some x) (hf : FS (hget h) x (heapL L) r) : Ok P (RetQ rs r L) (.out .ret [] s h) := ⟨x, hx, hf⟩

/-! ### The program's data ars trees -/
structure Ty where
  kind : Int
  of : List Ty
structure Vl where
  kind : Int
  i : Int
  b : Bool
  s : List UInt8
  t : List Vl
structure Ex4 where
  op : List UInt8
  v : Vl
  n : Int
  a : List Ex4
structure In where
  op : List UInt8
  v : Vl
  n : Int
structure Opn where
  kind : Int
  name : List UInt8
  ty : Ty
  e : List Ex4
  key : Ex4
  fold : Int
  n : Int
mutual
def Ty.pvR : Ty → PV
  | .mk k of => .agg [.int .i64 k, .view (Ty.pvs of)]
def Ty.pvs : List Ty → List PV
  | [] => []
  | x :: l => x.pvR :: Ty.pvs l
end
mutual
def Vl.pvR : Vl → PV
  | .mk k i b s t => .agg [.int .i64 k, .int .i64 i, .bool b, .str s, .view (Vl.pvs t)]
def Vl.pvs : List Vl → List PV
  | [] => []
  | x :: l => x.pvR :: Vl.pvs l
end
mutual
def Ex4.pvR : Ex4 → PV
  | .mk op v n a => .agg [.str op, .int .i64 v.kind, .int .i64 v.i, .bool v.b, .str v.s, .view (Vl.pvs v.t), .int .i64 n, .view (Ex4.pvs a)]
def Ex4.pvs : List Ex4 → List PV
  | [] => []
  | x :: l => x.pvR :: Ex4.pvs l
end
def In.pvR (x : In) : PV := .agg [.str x.op, .int .i64 x.v.kind, .int .i64 x.v.i, .bool x.v.b, .str x.v.s, .view (Vl.pvs x.v.t), .int .i64 x.n]
def Vl.zero : Vl := ⟨0, 0, false, [], []⟩
structure Nd where
  uid : List UInt8
  op : Opn
  ins : List Int
  par : Int
  max : Int
  group : List UInt8
  alone : Bool
structure Inp where
  name : List UInt8
  rows : List Vl
structure Bd where
  node : Int
  x : Vl
def Opn.cells (o : Opn) : List PV := [.int .i64 o.kind, .str o.name, .int .i64 o.ty.kind, .view (Ty.pvs o.ty.of), .view (Ex4.pvs o.e), .str o.key.op, .int .i64 o.key.v.kind, .int .i64 o.key.v.i, .bool o.key.v.b, .str o.key.v.s, .view (Vl.pvs o.key.v.t), .int .i64 o.key.n, .view (Ex4.pvs o.key.a), .int .i64 o.fold, .int .i64 o.n]
def Nd.pvR (x : Nd) : PV := .agg (.str x.uid :: (x.op.cells ++ [.view (x.ins.map fun n => .int .i64 n), .int .i64 x.par, .int .i64 x.max, .str x.group, .bool x.alone]))
def Inp.pvR (x : Inp) : PV := .agg [.str x.name, .view (Vl.pvs x.rows)]
def Bd.pvR (x : Bd) : PV := .agg [.int .i64 x.node, .int .i64 x.x.kind, .int .i64 x.x.i, .bool x.x.b, .str x.x.s, .view (Vl.pvs x.x.t)]
/-- Lists of data ars lists of trees, behind a veil. -/
inductive EncOp | tys | vls | exs | ins | inss | nds | zs | sts | vss | zss | inps | bds | bos
abbrev EncOp.ty : EncOp → Type
  | .tys => List Ty → List PV
  | .vls => List Vl → List PV
  | .exs => List Ex4 → List PV
  | .ins => List In → List PV
  | .inss => List (List In) → List PV
  | .nds => List Nd → List PV
  | .zs => List Int → List PV
  | .sts => List (List UInt8) → List PV
  | .vss => List (List Vl) → List PV
  | .zss => List (List Int) → List PV
  | .inps => List Inp → List PV
  | .bds => List Bd → List PV
  | .bos => List Bool → List PV
abbrev Enc := (o : EncOp) → o.ty
def Enc.std : Enc
  | .tys => Ty.pvs
  | .vls => Vl.pvs
  | .exs => Ex4.pvs
  | .ins => fun l => l.map In.pvR
  | .inss => fun l => l.map fun p => .view (p.map In.pvR)
  | .nds => fun l => l.map Nd.pvR
  | .zs => fun l => l.map fun n => .int .i64 n
  | .sts => fun l => l.map .str
  | .vss => fun l => l.map fun p => .view (Vl.pvs p)
  | .zss => fun l => l.map fun p => .view (p.map fun n => .int .i64 n)
  | .inps => fun l => l.map Inp.pvR
  | .bds => fun l => l.map Bd.pvR
  | .bos => fun l => l.map .bool
def Enc.tyc (E : Enc) (t : Ty) : PV := .agg [.int .i64 t.kind, .view (E .tys t.of)]
def Enc.vl (E : Enc) (v : Vl) : PV := .agg [.int .i64 v.kind, .int .i64 v.i, .bool v.b, .str v.s, .view (E .vls v.t)]
def Enc.ex (E : Enc) (e : Ex4) : PV := .agg [.str e.op, .int .i64 e.v.kind, .int .i64 e.v.i, .bool e.v.b, .str e.v.s, .view (E .vls e.v.t), .int .i64 e.n, .view (E .exs e.a)]
def Enc.inn (E : Enc) (x : In) : PV := .agg [.str x.op, .int .i64 x.v.kind, .int .i64 x.v.i, .bool x.v.b, .str x.v.s, .view (E .vls x.v.t), .int .i64 x.n]
def Enc.opn (E : Enc) (o : Opn) : PV := .agg [.int .i64 o.kind, .str o.name, .int .i64 o.ty.kind, .view (E .tys o.ty.of), .view (E .exs o.e), .str o.key.op, .int .i64 o.key.v.kind, .int .i64 o.key.v.i, .bool o.key.v.b, .str o.key.v.s, .view (E .vls o.key.v.t), .int .i64 o.key.n, .view (E .exs o.key.a), .int .i64 o.fold, .int .i64 o.n]
def Enc.nd (E : Enc) (x : Nd) : PV := .agg [.str x.uid, .int .i64 x.op.kind, .str x.op.name, .int .i64 x.op.ty.kind, .view (E .tys x.op.ty.of), .view (E .exs x.op.e), .str x.op.key.op, .int .i64 x.op.key.v.kind, .int .i64 x.op.key.v.i, .bool x.op.key.v.b, .str x.op.key.v.s, .view (E .vls x.op.key.v.t), .int .i64 x.op.key.n, .view (E .exs x.op.key.a), .int .i64 x.op.fold, .int .i64 x.op.n, .view (E .zs x.ins), .int .i64 x.par, .int .i64 x.max, .str x.group, .bool x.alone]
def Enc.inp (E : Enc) (x : Inp) : PV := .agg [.str x.name, .view (E .vls x.rows)]
def Enc.bd (E : Enc) (x : Bd) : PV := .agg [.int .i64 x.node, .int .i64 x.x.kind, .int .i64 x.x.i, .bool x.x.b, .str x.x.s, .view (E .vls x.x.t)]
section
variable {E : Enc} (hE : E = .std)
include hE
theorem Enc.tys_eq (l : List Ty) : E .tys l = l.map E.tyc := by
  subst hE
  induction l with
  | nil => rfl
  | cons x l ih => rw [List.map_cons, ← ih]; cases x; rfl
theorem Enc.vls_eq (l : List Vl) : E .vls l = l.map E.vl := by
  subst hE
  induction l with
  | nil => rfl
  | cons x l ih => rw [List.map_cons, ← ih]; cases x; rfl
theorem Enc.exs_eq (l : List Ex4) : E .exs l = l.map E.ex := by
  subst hE
  induction l with
  | nil => rfl
  | cons x l ih => rw [List.map_cons, ← ih]; cases x; rfl
theorem Enc.ins_eq (l : List In) : E .ins l = l.map E.inn := by subst hE; rfl
theorem Enc.inss_eq (l : List (List In)) : E .inss l = l.map fun p => .view (E .ins p) := by subst hE; rfl
theorem Enc.nds_eq (l : List Nd) : E .nds l = l.map E.nd := by subst hE; rfl
theorem Enc.zs_eq (l : List Int) : E .zs l = l.map fun n => .int .i64 n := by subst hE; rfl
theorem Enc.sts_eq (l : List (List UInt8)) : E .sts l = l.map .str := by subst hE; rfl
theorem Enc.vss_eq (l : List (List Vl)) : E .vss l = l.map fun p => .view (E .vls p) := by subst hE; rfl
theorem Enc.zss_eq (l : List (List Int)) : E .zss l = l.map fun p => .view (E .zs p) := by subst hE; rfl
theorem Enc.inps_eq (l : List Inp) : E .inps l = l.map E.inp := by subst hE; rfl
theorem Enc.bds_eq (l : List Bd) : E .bds l = l.map E.bd := by subst hE; rfl
theorem Enc.bos_eq (l : List Bool) : E .bos l = l.map .bool := by subst hE; rfl
end

/-! ### Arithmetic, unveiled -/
section
variable {A : Ar} (hA : A = .std)
include hA
theorem Ar.lt_eq (a b : Int) : A .lt a b = decide (a < b) := by subst hA; rfl
theorem Ar.le_eq (a b : Int) : A .le a b = decide (a ≤ b) := by subst hA; rfl
theorem Ar.eq_eq (a b : Int) : A .eq a b = decide (a = b) := by subst hA; rfl
theorem Ar.seq_eq (a b : List UInt8) : A .seq a b = decide (a = b) := by subst hA; rfl
theorem Ar.slt_eq (a b : List UInt8) : A .slt a b = Op.bytesLess a b := by subst hA; rfl
theorem Ar.add_eq (k : IntKind) (a b : Int) : A .add k a b = k.wrap (a + b) := by subst hA; rfl
theorem Ar.sub_eq (k : IntKind) (a b : Int) : A .sub k a b = k.wrap (a - b) := by subst hA; rfl
theorem Ar.mul_eq (k : IntKind) (a b : Int) : A .mul k a b = k.wrap (a * b) := by subst hA; rfl
theorem Ar.conv_eq (k : IntKind) (a : Int) : A .conv k a = k.wrap a := by subst hA; rfl
theorem Ar.lenP_eq (l : List PV) : A .lenP l = l.length := by subst hA; rfl
theorem Ar.lenN_eq (n : Nat) : A .lenN n = n := by subst hA; rfl
theorem Ar.lenS_eq (l : List UInt8) : A .lenS l = l.length := by subst hA; rfl
theorem Ar.not_eq (b : Bool) : A .not b = !b := by subst hA; rfl
theorem Ar.or_eq (a b : Bool) : A .or a b = (a || b) := by subst hA; rfl
theorem Ar.beq_eq (a b : Bool) : A .beq a b = (a == b) := by subst hA; rfl
theorem Ar.snoc_eq (l : List PV) (x : PV) : A .snoc l x = l ++ [x] := by subst hA; rfl
theorem Ar.inc_eq (n : Nat) : A .inc n = n + 1 := by subst hA; rfl
theorem Ar.cat_eq (a b : List UInt8) : A .cat a b = a ++ b := by subst hA; rfl
theorem Ar.succ_eq {k : Nat} (h : k < 2 ^ 62) : A .add .i64 (Int.ofNat k) 1 = Int.ofNat (k + 1) := by
  rw [Ar.add_eq hA]
  show IntKind.wrap .i64 ((k : Int) + 1) = ((k + 1 : Nat) : Int)
  have h1 : ((k : Int) + 1) % 2 ^ 64 = k + 1 := Int.emod_eq_of_lt (by omega) (by omega)
  have h2 : ¬ ((k : Int) + 1 ≥ 2 ^ 63) := by omega
  simp only [IntKind.wrap, IntKind.bits, IntKind.signed, h1]
  rw [if_neg (by simpa using h2)]
  omega
end
/-- An element more on a row. -/
theorem app_ref {d : Option Nat} {af : List Nat} {e : TypeId} {sz bytes : Nat} {x y : Opd} {s : Slots} {h : HL} {b n : Nat} {es ys : List PV} {rs : List Nat} {m : Bool} (h1 : ev s x = .ref b n) (h2 : hget h b = some (.row e sz es m)) (hn : n = es.length) (h3 : listOf (hget h) (ev s y) = some (ys, rs)) (hok : ys.all (PV.okc sz) = true) (hb : b ∉ rs)
    (hl1 : (n + ys.length) * bytes ≤ 140737488355328) (hl2 : n + ys.length ≤ maxLen) (n' : Nat) (hn' : n' = n + ys.length) (es' : List PV) (hes' : es' = es ++ ys) :
    stepO ⟨d, none, af, .app e sz bytes x y⟩ s (hget h) = some { v := .ref b n', rd := b :: rs, up := [.frz rs, .row b es'] } := by
  subst hn' hes' hn
  simp only [stepO, gd, sem, h1, h3, rowOf, h2]
  rw [if_pos hok, if_pos ⟨trivial, trivial, trivial, hb, hl1, hl2⟩]

/-- Pointers into a row. -/
theorem idx_ref {d : Option Nat} {af : List Nat} {e : TypeId} {sz : Nat} {x i : Opd} {s : Slots} {h : HL} {b n : Nat} {es : List PV} {m : Bool} {k : IntKind} {j : Int} (h1 : ev s x = .ref b n) (h2 : ev s i = .pv (.int k j)) (h3 : hget h b = some (.row e sz es m)) (hn : n = es.length) (i' : Nat) (hi : j = i') (hlt : i' < n) :
    stepO ⟨d, none, af, .idx sz x i⟩ s (hget h) = some { v := .eptr b n i' 0, rd := [b] } := by
  subst hi
  have : i' < es.length := by omega
  simp [stepO, gd, sem, h1, h2, rowOf, h3, hn, this]
theorem fld_eptr {d : Option Nat} {af : List Nat} {e : TypeId} {off sz : Nat} {x : Opd} {s : Slots} {h : HL} {b n i o : Nat} {es : List PV} {m : Bool} (h1 : ev s x = .eptr b n i o) (h3 : hget h b = some (.row e sz es m)) (hn : n = es.length) :
    stepO ⟨d, none, af, .fld off x⟩ s (hget h) = some { v := .eptr b n i (o + off), rd := [b] } := by
  simp [stepO, gd, sem, h1, rowOf, h3, hn]
theorem load_eptr {d : Option Nat} {af : List Nat} {e : TypeId} {sz : Nat} {x : Opd} {s : Slots} {h : HL} {b n i o : Nat} {es : List PV} {m : Bool} (h1 : ev s x = .eptr b n i o) (h3 : hget h b = some (.row e sz es m)) (hn : n = es.length) (y : PV) (hy : es[i]? = some y) (c : PV) (hc : y.cells[o]? = some c) :
    stepO ⟨d, none, af, .load none x⟩ s (hget h) = some { v := .pv c, rd := [b] } := by
  simp [stepO, gd, sem, h1, rowOf, h3, hn, hy, hc]
theorem loadN_eptr {d : Option Nat} {af : List Nat} {e : TypeId} {sz k : Nat} {x : Opd} {s : Slots} {h : HL} {b n i o : Nat} {es : List PV} {m : Bool} (h1 : ev s x = .eptr b n i o) (h3 : hget h b = some (.row e sz es m)) (hn : n = es.length) (y : PV) (hy : es[i]? = some y) (hc : o + k ≤ y.cells.length) :
    stepO ⟨d, none, af, .load (some k) x⟩ s (hget h) = some { v := .pv (.agg ((y.cells.drop o).take k)), rd := [b] } := by
  simp [stepO, gd, sem, h1, rowOf, h3, hn, hy, hc]
theorem store_eptr {d : Option Nat} {af : List Nat} {e : TypeId} {sz k : Nat} {x v : Opd} {s : Slots} {h : HL} {b n i o : Nat} {es : List PV} (h1 : ev s x = .eptr b n i o) (h3 : hget h b = some (.row e sz es true)) (hn : n = es.length) (y : PV) (hy : es[i]? = some y) {p : PV} {rs : List Nat} (hv : frz1 (hget h) (ev s v) = some (p, rs)) (hb : b ∉ rs)
    (hk : p.cells.length = k ∧ 0 < k ∧ o + k ≤ y.cells.length ∧ p.cells.all PV.one = true) (es' : List PV) (hes : es' = es.set i (y.withCells (putCells y.cells o p.cells))) :
    stepO ⟨d, none, af, .store k x v⟩ s (hget h) = some { v := .pv .junk, rd := b :: rs, up := [.frz rs, .row b es'] } := by
  subst hes
  simp only [stepO, gd, sem, h1, rowOf, h3, hv, mutOf, Blk.mut]
  rw [if_pos ⟨hn, trivial, hb⟩]
  simp only [hy]
  rw [if_pos hk]

theorem Ok.backLe {P : Program} {K : Post} {s s' : Slots} {h h' : HL} {I : Nat → Slots → HL → Prop} {n : Nat} (m : Nat) (hm : m < n) (hle : Le s (hget h) s' (hget h')) (hI : I m s' h') :
    Ok P (thenQ (fun s h => ∃ m, m < n ∧ ∃ s' h', Le s h s' (hget h') ∧ I m s' h') K) (.out .normal [] s h) := ⟨m, hm, _, _, hle, hI⟩
/-- Forgotten, then two blocks' names exchanged. -/
theorem Le.keepSwap (keep kb : List Nat) (b c : Nat) {s : Slots} {h : HL} (hk : okKeep keep kb s h = true) : Le s (hget h) ((dropS keep s).map (AV.rn (swp b c))) (hget (rnHL (swp b c) (keepHL kb h))) :=
  (Le.keep keep kb hk).trans (Le.swap b c _ _)
theorem Enc.ins_okc {E : Enc} (hE : E = .std) (l : List In) : (E .ins l).all (PV.okc 7) = true := by
  rw [E.ins_eq hE, List.all_map, List.all_eq_true]
  intro x _
  simp [Enc.inn, PV.okc, PV.cells, PV.one]
end Go.Proofs.Ytnojmocoifodjaa.Pv
set_option linter.unusedVariables false
set_option linter.unusedSimpArgs false
namespace Go.Proofs.Ytnojmocoifodjaa.Pv
open Go
/-! ### Types: plain laws -/
mutual
def sameT : Ty → Ty → Bool
  | .mk k l, .mk k' l' => decide (k = k') && sameTs l l'
def sameTs : List Ty → List Ty → Bool
  | [], [] => true
  | x :: l, y :: m => sameT x y && sameTs l m
  | _, _ => false
end
mutual
theorem sameT_iff : ∀ a b, sameT a b = true ↔ a = b
  | .mk k l, .mk k' l' => by rw [sameT, Bool.and_eq_true, sameTs_iff l l', decide_eq_true_eq, Ty.mk.injEq]
theorem sameTs_iff : ∀ a b, sameTs a b = true ↔ a = b
  | [], [] => by simp [sameTs]
  | x :: l, y :: m => by rw [sameTs, Bool.and_eq_true, sameT_iff x y, sameTs_iff l m, List.cons.injEq]
  | [], _ :: _ => by simp [sameTs]
  | _ :: _, [] => by simp [sameTs]
end
theorem sameT_refl (a : Ty) : sameT a a = true := (sameT_iff a a).2 rfl
theorem sameTs_len : ∀ {l m : List Ty}, ¬ l.length = m.length → sameTs l m = false
  | [], [], h => by simp at h
  | x :: l, y :: m, h => by rw [sameTs, sameTs_len (l := l) (m := m) (by simpa using h)]; simp
  | [], _ :: _, _ => rfl
  | _ :: _, [], _ => rfl
mutual
def szT : Ty → Nat
  | .mk k l => 1 + szTs l
def szTs : List Ty → Nat
  | [] => 0
  | x :: l => szT x + szTs l
end
theorem szT_pos : ∀ t, 1 ≤ szT t
  | .mk k l => by rw [szT]; omega
theorem szTs_len : ∀ l, l.length ≤ szTs l
  | [] => by simp
  | x :: l => by have := szTs_len l; have := szT_pos x; rw [szTs, List.length_cons]; omega
theorem szTs_mem : ∀ {l : List Ty} {e : Ty}, e ∈ l → szT e ≤ szTs l
  | [], e, he => by simp at he
  | x :: l, e, he => by
    rw [szTs]
    rcases List.mem_cons.1 he with rfl | he
    · omega
    · have := szTs_mem he; omega
theorem szTs_append : ∀ (l m : List Ty), szTs (l ++ m) = szTs l + szTs m
  | [], m => by simp [szTs]
  | x :: l, m => by rw [List.cons_append, szTs, szTs, szTs_append l m]; omega
def Ty.zero : Ty := ⟨0, []⟩
def rowC (n deep : Int) : Int := if n = 0 then 1 else if n > 8 then 10 else if deep > 4 then 9 else 0
mutual
def ckT : Ty → Nat → Int
  | .mk k l, d => if k = 1 ∨ k = 2 ∨ k = 3 then (if 0 < l.length then 5 else 0) else if k = 4 then (if rowC l.length d ≠ 0 then rowC l.length d else ckTs l (d + 1)) else 5
def ckTs : List Ty → Nat → Int
  | [], _ => 0
  | x :: l, d => if ckT x d ≠ 0 then ckT x d else ckTs l d
end
/-! texts -/
def strip (w s : List UInt8) : Option (List UInt8) := if s.take w.length = w then some (s.drop w.length) else none
def sInt : List UInt8 := [105, 110, 116]
def sBool : List UInt8 := [98, 111, 111, 108]
def sText : List UInt8 := [116, 101, 120, 116]
def wordT (k : Int) : List UInt8 := if k = 1 then sInt else if k = 2 then sBool else if k = 3 then sText else []
mutual
def textT : Ty → List UInt8
  | .mk k l => if k = 4 then [40] ++ textTs true l ++ [41] else wordT k
def textTs : Bool → List Ty → List UInt8
  | _, [] => []
  | b, x :: l => (if b then [] else [44]) ++ textT x ++ textTs false l
end
mutual
def rd : Nat → List UInt8 → Option (Ty × List UInt8)
  | 0, _ => none
  | n + 1, s => match strip sInt s with
    | some r => some (⟨1, []⟩, r)
    | none => match strip sBool s with
      | some r => some (⟨2, []⟩, r)
      | none => match strip sText s with
        | some r => some (⟨3, []⟩, r)
        | none => match strip [40] s with
          | none => none
          | some r => match strip [41] r with
            | some e => some (⟨4, []⟩, e)
            | none => rdL n [] r
def rdL : Nat → List Ty → List UInt8 → Option (Ty × List UInt8)
  | 0, _, _ => none
  | n + 1, acc, r => match rd n r with
    | none => none
    | some (p, r1) => match strip [41] r1 with
      | some e => some (⟨4, acc ++ [p]⟩, e)
      | none => match strip [44] r1 with
        | some r2 => rdL n (acc ++ [p]) r2
        | none => none
end
theorem strip_eq {w s r : List UInt8} (h : strip w s = some r) : s = w ++ r := by
  unfold strip at h
  split at h
  · rename_i hw
    cases h
    conv => lhs; rw [← List.take_append_drop w.length s]
    rw [hw]
  · cases h
theorem textTs_append : ∀ (l : List Ty) (b : Bool) (x : Ty), textTs b (l ++ [x]) = textTs b l ++ (if b && l.isEmpty then [] else [44]) ++ textT x
  | [], b, x => by cases b <;> simp [textTs]
  | y :: l, b, x => by rw [List.cons_append, textTs, textTs_append l false x, textTs]; simp
mutual
theorem rd_text : ∀ (n : Nat) (s : List UInt8) (t : Ty) (r : List UInt8), rd n s = some (t, r) → s = textT t ++ r ∧ szT t + r.length ≤ s.length
  | 0, s, t, r, h => by simp [rd] at h
  | n + 1, s, t, r, h => by
    rw [rd] at h
    split at h
    · rename_i r' h1; cases h; have := strip_eq h1; subst this; simp [textT, wordT, szT, szTs, sInt]; omega
    split at h
    · rename_i r' h1; cases h; have := strip_eq h1; subst this; simp [textT, wordT, szT, szTs, sBool]; omega
    split at h
    · rename_i r' h1; cases h; have := strip_eq h1; subst this; simp [textT, wordT, szT, szTs, sText]; omega
    split at h
    · cases h
    rename_i r1 h1
    have e1 := strip_eq h1
    subst e1
    split at h
    · rename_i r' h2; cases h; have := strip_eq h2; subst this; simp [textT, textTs, szT, szTs]; omega
    · obtain ⟨l, x, rfl, h3, h4⟩ := rdL_text n [] r1 t r h
      refine ⟨?_, by simp [szT, szTs_append, szTs] at h4 ⊢; omega⟩
      have h5 := h4.1
      simp [textTs] at h5
      rw [textT, if_pos rfl, h3, List.nil_append, h5]
      simp
theorem rdL_text : ∀ (n : Nat) (acc : List Ty) (s : List UInt8) (t : Ty) (r : List UInt8), rdL n acc s = some (t, r) → ∃ l x, t = ⟨4, acc ++ l⟩ ∧ s = x ++ [41] ++ r ∧ textTs true (acc ++ l) = textTs true acc ++ (if acc.isEmpty then [] else [44]) ++ x ∧ szTs l + r.length + 1 ≤ s.length
  | 0, acc, s, t, r, h => by simp [rdL] at h
  | n + 1, acc, s, t, r, h => by
    rw [rdL] at h
    split at h
    · cases h
    rename_i p r1 h1
    obtain ⟨e1, z1⟩ := rd_text n s p r1 h1
    split at h
    · rename_i e h2
      cases h
      have e2 := strip_eq h2
      refine ⟨[p], textT p, rfl, by rw [e1, e2]; simp, ?_, ?_⟩
      · rw [textTs_append]; simp
      · simp [szTs, e2] at z1 ⊢; omega
    split at h
    · rename_i r2 h3
      have e3 := strip_eq h3
      obtain ⟨l, x, h4, h5, h6, h7⟩ := rdL_text n (acc ++ [p]) r2 t r h
      refine ⟨p :: l, textT p ++ [44] ++ x, by simpa using h4, ?_, ?_, ?_⟩
      · rw [e1, e3, h5]; simp
      · rw [show acc ++ p :: l = acc ++ [p] ++ l by simp, h6, textTs_append]; simp
      · simp [szTs, e3] at z1 ⊢; omega
    · cases h
end
mutual
theorem textT_len : ∀ t, (textT t).length + 1 ≤ 8 * szT t
  | .mk k l => by
    rw [textT, szT]
    split
    · have := textTs_len l true
      simp; omega
    · unfold wordT sInt sBool sText
      repeat' split
      all_goals simp
      all_goals omega
theorem textTs_len : ∀ l b, (textTs b l).length ≤ 8 * szTs l
  | [], b => by simp [textTs]
  | x :: l, b => by
    have h1 := textT_len x
    have h2 := textTs_len l false
    have h3 := szT_pos x
    rw [textTs, szTs]
    cases b <;> simp <;> omega
end
end Go.Proofs.Ytnojmocoifodjaa.Pv
/-
  DERIVED: THE SHELF's CONTRACTS AT THIS DUMP, IN PLAIN WORDS (tools/lay-plain.mjs out of 'TryLib.lean', which tools/lay-shelf.mjs wrote): THE SAME DECLARATIONS UNDER THE SAME NAMES: 'import', 'namespace', 'open', 'def', 'theorem' AND NOTHING ELSE: no command of the shelf's: FOR A HAND-IN. Each laying: the table of numbers ('.._ren') and one theorem, a field a fact of the dump's own or the kernel's comparison; each contract: ONE APPLICATION.
-/
namespace Go.Proofs
open Go.Shelf
def Try.lays156_ren : Go.Shelf.Ren := ⟨fun | 156 => 73 | 165 => 104 | 166 => 105 | 169 => 106 | 240 => 143 | 241 => 144 | 276 => 162 | 277 => 163 | n => n, fun | 31 => 80 | 9 => 9 | 3 => 3 | 4 => 4 | 0 => 0 | 20 => 20 | 72 => 163 | 76 => 167 | 70 => 161 | 37 => 61 | 75 => 166 | 127 => 208 | 164 => 235 | 5 => 5 | 80 => 169 | n => n, fun | n => n⟩
theorem Try.lays156 : Go.Proofs.Lays.n156 Try.prog Try.lays156_ren := {
  mixed := by kernel_rfl
  f156 := Try.func73.trans (congrArg some (by kernel_rfl))
  f165 := Try.func104.trans (congrArg some (by kernel_rfl))
  f166 := Try.func105.trans (congrArg some (by kernel_rfl))
  f169 := Try.func106.trans (congrArg some (by kernel_rfl))
  f240 := Try.func143.trans (congrArg some (by kernel_rfl))
  f241 := Try.func144.trans (congrArg some (by kernel_rfl))
  f276 := Try.func162.trans (congrArg some (by kernel_rfl))
  f277 := Try.func163.trans (congrArg some (by kernel_rfl))
  t0 := Try.underlying0
  a0 := Try.isAgg0
  z0 := Try.sizeOf0
  v0 := Try.zeroValue0
  t3 := Try.underlying3
  a3 := Try.isAgg3
  z3 := Try.sizeOf3
  v3 := Try.zeroValue3
  t4 := Try.underlying4
  a4 := Try.isAgg4
  z4 := Try.sizeOf4
  v4 := Try.zeroValue4
  t9 := Try.underlying9
  a9 := Try.isAgg9
  z9 := Try.sizeOf9
  v9 := Try.zeroValue9
  t20 := Try.underlying20
  a20 := Try.isAgg20
  z20 := Try.sizeOf20
  v20 := Try.zeroValue20
  t31 := Try.underlying80
  a31 := Try.isAgg80
  z31 := Try.sizeOf80
  v31 := Try.zeroValue80
  t37 := Try.underlying61
  a37 := Try.isAgg61
  z37 := Try.sizeOf61
  v37 := Try.zeroValue61
  t70 := Try.underlying161
  a70 := Try.isAgg161
  z70 := Try.sizeOf161
  v70 := Try.zeroValue161
  t72 := Try.underlying163
  a72 := Try.isAgg163
  z72 := Try.sizeOf163
  v72 := Try.zeroValue163
  t75 := Try.underlying166
  a75 := Try.isAgg166
  z75 := Try.sizeOf166
  v75 := Try.zeroValue166
  t76 := Try.underlying167
  a76 := Try.isAgg167
  z76 := Try.sizeOf167
  v76 := Try.zeroValue167
  t127 := Try.underlying208
  a127 := Try.isAgg208
  z127 := Try.sizeOf208
  v127 := Try.zeroValue208
  t164 := Try.underlying235
  a164 := Try.isAgg235
  z164 := Try.sizeOf235
  v164 := Try.zeroValue235 }
theorem Try.Builder_Extra_156 : Builder.Extra Try.prog Try.lays156_ren := {
  sizeBuilder := by kernel_rfl
  liesBuilder := by kernel_rfl
  t5 := Try.underlying5
  a5 := Try.isAgg5
  z5 := Try.sizeOf5
  v5 := Try.zeroValue5
  infoByte := by kernel_rfl
  cellsByte := by kernel_rfl
  sizeByte := by kernel_rfl
  neB5 := by decide }
open Go.RowKit in
/-- No element: the empty string; the world is as it was. (Whatever the slice's address and capacity: a nil slice too.) (LAID: no walk: one application.) -/
theorem Try.strings_Join_none (a : Option Addr) (c : Nat) (sep : ByteArray) (w : World) :
    Calls Try.prog 73 #[.slice a 0 c, .string sep] w fun e w' => e = .returned (.string ⟨#[]⟩) ∧ w' = w := Any.strings_Join_none Try.lays156 Try.Builder_Extra_156 a c sep w
open Go.RowKit in
/-- strings.Join: "Join concatenates the elements of its first argument to create a single string. The separator string sep is placed between elements in the resulting string.": HOWEVER MANY ELEMENTS. Below the heap's end the world is as it was. (LAID: no walk: one application.) -/
theorem Try.strings_Join (bk o c : Nat) (xs : List ByteArray) (sep : ByteArray) (w : World) (hcells : ∀ (j : Nat) x, xs[j]? = some x → w.cell? ⟨bk, o + j, none⟩ = some (.string x)) (hbk : bk < w.heap.size) (hN : xs.length ≤ 140737488355328) (hcap : xs.length ≤ c) (hlen : (Lib.join (xs.map (·.data.toList)) sep.data.toList).length ≤ 140737488355328) :
    Calls Try.prog 73 #[.slice (some ⟨bk, o, none⟩) xs.length c, .string sep] w fun e w' => e = .returned (.string ⟨(Lib.join (xs.map (·.data.toList)) sep.data.toList).toArray⟩) ∧ Below w.heap.size w w' := Any.strings_Join Try.lays156 Try.Builder_Extra_156 bk o c xs sep w hcells hbk hN hcap hlen
def Try.lays106_ren : Go.Shelf.Ren := ⟨fun | 106 => 186 | 213 => 191 | 265 => 193 | n => n, fun | 9 => 9 | 3 => 3 | n => n, fun | n => n⟩
theorem Try.lays106 : Go.Proofs.Lays.n106 Try.prog Try.lays106_ren := {
  mixed := by kernel_rfl
  f106 := Try.func186.trans (congrArg some (by kernel_rfl))
  f213 := Try.func191.trans (congrArg some (by kernel_rfl))
  f265 := Try.func193.trans (congrArg some (by kernel_rfl))
  t3 := Try.underlying3
  a3 := Try.isAgg3
  z3 := Try.sizeOf3
  v3 := Try.zeroValue3
  t9 := Try.underlying9
  a9 := Try.isAgg9
  z9 := Try.sizeOf9
  v9 := Try.zeroValue9 }
open Go.RowKit in
/-- strings.Compare: "Compare returns an integer comparing two strings lexicographically. The result will be 0 if a == b, -1 if a < b, and +1 if a > b.": IT RETURNS 'Lib.compareBytes a b'; the world is as it was. (LAID: no walk: one application.) -/
theorem Try.strings_Compare (a b : ByteArray) (w : World) :
    Calls Try.prog 186 #[.string a, .string b] w fun e w' => e = .returned (.int .i64 (Lib.compareBytes a.data.toList b.data.toList)) ∧ w' = w := Any.strings_Compare Try.lays106 a b w
end Go.Proofs
set_option linter.unusedVariables false
set_option linter.unusedSimpArgs false
namespace Go.Proofs.Ytnojmocoifodjaa.Pv
open Go Go.RowKit
/-- What stands in memory when a call begins. -/
def old (W : World) : Stb := fun k _ => k < W.heap.size
theorem CallsV.strict {P : Program} {f : FuncId} {args : List PV} {p : PV} (hc : CallsV P f args (.pv p) []) {W : World} {vs : Array Value} (hn : vs.size = args.length) (hR : ∀ (i : Nat) (q : PV), args[i]? = some q → RV (old W) W q (vs.getD i undef)) :
    Calls P f vs W (fun e W' => ∃ v S', e = .returned v ∧ RV S' W' p v ∧ Below W.heap.size W W') := by
  refine (hc.2 (old W) W vs (fun k o h => h) hn hR).mono (fun e W' h => ?_)
  obtain ⟨v, β, S', rfl, a1, a2, a3, a4, a5⟩ := h
  cases a5 with
  | pv hp => exact ⟨v, S', rfl, hp, a1⟩
theorem CallsV.yes {P : Program} {f : FuncId} {args : List PV} (hc : CallsV P f args (.pv (.bool true)) []) {W : World} {vs : Array Value} (hn : vs.size = args.length) (hR : ∀ (i : Nat) (q : PV), args[i]? = some q → RV (old W) W q (vs.getD i undef)) :
    Calls P f vs W (fun e W' => e = .returned (.bool true) ∧ Below W.heap.size W W') :=
  (hc.strict hn hR).mono (fun e W' h => by
    obtain ⟨v, S', rfl, hp, hb⟩ := h
    cases hp
    exact ⟨rfl, hb⟩)
/-- A row of whole numbers that came in. -/
def IsRow (k : IntKind) (w : World) (a : Option Addr) (len cap : Nat) (zs : List Int) : Prop :=
  (a = none ∧ len = 0 ∧ cap = 0 ∧ zs = []) ∨
  ∃ x, a = some x ∧ len ≤ cap ∧ cap ≤ maxLen ∧ zs.length = cap ∧ (∀ i, i < zs.length → w.cell? (x.add i) = some (.int k (zs.getD i 0))) ∧ ∀ n ∈ zs, (Lit.int k n).wf = true
theorem cell_lt {w : World} {b o : Nat} {v : Value} (h : w.cell? ⟨b, o, none⟩ = some v) : b < w.heap.size := by
  unfold World.cell? at h
  cases hb : w.heap[b]? with
  | none => simp [hb] at h
  | some o => exact (Array.getElem?_eq_some_iff.1 hb).1
theorem IsRow.rv {k : IntKind} {w : World} {a : Option Addr} {len cap : Nat} {zs : List Int} (h : IsRow k w a len cap zs) : RV (old w) w (.view ((zs.take len).map fun n => .int k n)) (.slice a len cap) := by
  rcases h with ⟨rfl, rfl, rfl, rfl⟩ | ⟨x, rfl, h1, h2, h3, h4, h5⟩
  · exact .view0 _ _
  · by_cases h0 : len = 0
    · subst h0; exact .view0 _ _
    · obtain ⟨b, off, rfl, hc⟩ := ints_at h4 (by omega)
      have hb : b < w.heap.size := cell_lt (hc 0 (by omega))
      have hl : ((zs.take len).map fun n => PV.int k n).length = len := by rw [List.length_map, List.length_take]; omega
      have hget : ∀ (i : Nat) (e : PV), ((zs.take len).map fun n => PV.int k n)[i]? = some e → i < zs.length ∧ e = .int k (zs.getD i 0) := by
        intro i e he
        rw [List.getElem?_map] at he
        obtain ⟨z, hz, rfl⟩ := Option.map_eq_some_iff.1 he
        rw [List.getElem?_take] at hz
        split at hz
        · have := (List.getElem?_eq_some_iff.1 hz).1
          exact ⟨this, by simp [List.getD, hz]⟩
        · cases hz
      have key := RV.view (S := old w) (W := w) ((zs.take len).map fun n => PV.int k n) b off 1 cap (fun i _ => .int k (zs.getD i 0)) (by omega) h2
        (fun i e he => by obtain ⟨_, rfl⟩ := hget i e he; rfl)
        (fun i e j p he hp => hb)
        (fun i e j p he hp => by
          obtain ⟨h6, rfl⟩ := hget i e he
          have hj : j = 0 := by have := (List.getElem?_eq_some_iff.1 hp).1; simp [PV.cells] at this; exact this
          subst hj
          rw [Nat.mul_one, Nat.add_zero]
          exact hc i h6)
        (fun i e j p he hp => by
          obtain ⟨h6, rfl⟩ := hget i e he
          have hj : j = 0 := by have := (List.getElem?_eq_some_iff.1 hp).1; simp [PV.cells] at this; exact this
          subst hj
          simp [PV.cells] at hp
          subst hp
          exact .int _ _)
      rw [hl] at key
      exact key
end Go.Proofs.Ytnojmocoifodjaa.Pv
set_option linter.unusedVariables false
set_option linter.unusedSimpArgs false
namespace Go.Proofs.Ytnojmocoifodjaa.Pv
open Go Go.Proofs Go.RowKit
def joinB (sep : List UInt8) : List (List UInt8) → List UInt8
  | [] => []
  | [x] => x
  | x :: y :: l => x ++ sep ++ joinB sep (y :: l)
theorem joinB_eq (sep : List UInt8) : ∀ l : List (List UInt8), Lib.join l sep = joinB sep l
  | [] => rfl
  | [x] => by simp [Lib.join, joinB]
  | x :: y :: l => by rw [joinB, ← joinB_eq sep (y :: l)]; simp [Lib.join]
theorem CallsV.plain {P : Program} {f : FuncId} {args : List PV} {p : PV} (h0 : ∃ fn, P.funcs[f]? = some fn ∧ (fn.name == "runtime.NumGoroutine") = false ∧ fn.body.isSome = true)
    (h : ∀ (S : Stb) (W : World) (vs : Array Value), (∀ k o, S k o → k < W.heap.size) → vs.size = args.length → (∀ (i : Nat) (p : PV), args[i]? = some p → RV S W p (vs.getD i undef)) → Calls P f vs W (fun e W' => ∃ v, e = .returned v ∧ Below W.heap.size W W' ∧ RV S W' p v)) : CallsV P f args (.pv p) [] :=
  ⟨h0, fun S W vs hS hn hR => (h S W vs hS hn hR).mono (fun e W' hp => by
    obtain ⟨v, rfl, hb, hr⟩ := hp
    exact ⟨v, fun _ => none, S, rfl, hb, fun _ _ h => h, fun _ _ _ h => h, ⟨fun b x hx => by simp [heapL] at hx, fun b b' k hb => by simp [heapL] at hb, fun b k hb => by simp [heapL] at hb, fun b x k o hx => by simp [heapL] at hx, fun k o h => Nat.lt_of_lt_of_le (hS k o h) hb.size⟩, .pv hr⟩)⟩
theorem strings_Join (sep : List UInt8) (l : List (List UInt8)) (hsep : (joinB sep l).length ≤ 2 ^ 40) (hl : l.length ≤ 2 ^ 40) : CallsV Try.prog 73 [.view (l.map .str), .str sep] (.pv (.str (joinB sep l))) [] := by
  refine CallsV.plain ⟨Try.f73, by kernel_rfl, by kernel_rfl, by kernel_rfl⟩ (fun S W vs hS hn hR => ?_)
  obtain ⟨a0, a1, rfl⟩ : ∃ a b, vs = #[a, b] := by
    have : vs.toList.length = 2 := by simpa using hn
    match h : vs.toList, this with
    | [a, b], _ => exact ⟨a, b, by rw [← Array.toList_inj]; exact h⟩
  have h0 := hR 0 _ rfl
  have h1 := hR 1 _ rfl
  have h0 : RV S W (.view (l.map .str)) a0 := h0
  have h1 : RV S W (.str sep) a1 := h1
  cases h1 with
  | str s hs =>
  have hmax : (joinB sep l).length ≤ maxLen := by unfold maxLen; omega
  have none' : ∀ (A : Option Addr) (c : Nat), l = [] → Calls Try.prog 73 #[.slice A 0 c, .string (bs sep)] W (fun e W' => ∃ v, e = .returned v ∧ Below W.heap.size W W' ∧ RV S W' (.str (joinB sep l)) v) := by
    intro A c hl0
    subst hl0
    refine (Try.strings_Join_none A c (bs sep) W).mono (fun e W' hp => ?_)
    obtain ⟨rfl, rfl⟩ := hp
    exact ⟨_, rfl, Below.refl _ _, .str [] (by simp)⟩
  generalize hq : l.map PV.str = q at h0
  cases h0 with
  | view0 A c => exact none' A c (by simpa using hq)
  | view es k o sz c u hc hm hsz hS' hW hR' =>
    subst hq
    by_cases hl0 : l = []
    · subst hl0; exact none' _ _ rfl
    have hlen : (l.map PV.str).length = l.length := by simp
    have hsz1 : sz = 1 := by
      obtain ⟨x, m, rfl⟩ := List.exists_cons_of_ne_nil hl0
      exact (hsz 0 (.str x) rfl).symm
    subst hsz1
    have hcell : ∀ (j : Nat) (x : ByteArray), (l.map bs)[j]? = some x → W.cell? ⟨k, o + j, none⟩ = some (.string x) := by
      intro j x hx
      rw [List.getElem?_map] at hx
      obtain ⟨y, hy, rfl⟩ := Option.map_eq_some_iff.1 hx
      have h2 := hW j (.str y) 0 (.str y) (by simp [hy]) rfl
      have h3 := hR' j (.str y) 0 (.str y) (by simp [hy]) rfl
      rw [Nat.mul_one, Nat.add_zero] at h2
      rw [h2]
      generalize u j 0 = v at h3
      cases h3
      rfl
    have hk : k < W.heap.size := by
      obtain ⟨x, m, rfl⟩ := List.exists_cons_of_ne_nil hl0
      exact hS _ _ (hS' 0 (.str x) 0 (.str x) rfl rfl)
    have hJ : Lib.join ((l.map bs).map (fun x => x.data.toList)) (bs sep).data.toList = joinB sep l := by
      rw [joinB_eq, List.map_map]
      have : l.map ((fun x : ByteArray => x.data.toList) ∘ bs) = l := by
        conv => rhs; rw [← List.map_id l]
        rfl
      rw [this]; rfl
    have hj := Try.strings_Join k o c (l.map bs) (bs sep) W hcell hk (by simp; omega) (by simpa using hc) (by rw [hJ]; omega)
    rw [hlen]
    simp only [List.length_map] at hj
    refine hj.mono (fun e W' hp => ?_)
    obtain ⟨rfl, hb⟩ := hp
    refine ⟨_, rfl, hb, ?_⟩
    rw [hJ]
    exact .str _ hmax
def cmpS (a b : List UInt8) : Int := Lib.compareBytes a b
theorem strings_Compare (a b : List UInt8) : CallsV Try.prog 186 [.str a, .str b] (.pv (.int .i64 (cmpS a b))) [] := by
  refine CallsV.plain ⟨Try.f186, by kernel_rfl, by kernel_rfl, by kernel_rfl⟩ (fun S W vs hS hn hR => ?_)
  obtain ⟨a0, a1, rfl⟩ : ∃ a b, vs = #[a, b] := by
    have : vs.toList.length = 2 := by simpa using hn
    match h : vs.toList, this with
    | [a, b], _ => exact ⟨a, b, by rw [← Array.toList_inj]; exact h⟩
  have h0 := hR 0 _ rfl
  have h1 := hR 1 _ rfl
  have h0 : RV S W (.str a) a0 := h0
  have h1 : RV S W (.str b) a1 := h1
  cases h0 with
  | str s hs =>
  cases h1 with
  | str s' hs' =>
  refine (Try.strings_Compare (bs a) (bs b) W).mono (fun e W' hp => ?_)
  obtain ⟨rfl, rfl⟩ := hp
  exact ⟨_, rfl, Below.refl _ _, .int _ _⟩
end Go.Proofs.Ytnojmocoifodjaa.Pv
