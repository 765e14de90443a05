/- The law OpShapes of this seat: a part of its proof (an abstract evaluator of the code that is proved sound, and contracts of functions), with no condition. -/
import Derived.Test.YtnojmocoifodjaaOpShapesV2
import Derived.Test.YtnojmocoifodjaaProg
import Derived.KernelRfl
set_option linter.unusedVariables false
set_option linter.unusedSimpArgs false
namespace Go.Proofs.Ytnojmocoifodjaa.Pv
open Go Go.RowKit

/-! ### A block is given up: rows stay ars lists -/
mutual
def AV.ret (h : Heap) (b : Nat) : AV → AV
  | .pv p => .pv p
  | .ref c n => if c = b then match rowOf h b with
      | some (_, _, es) => if n = es.length then .pv (.view es) else .pv .junk
      | none => .pv .junk
    else .ref c n
  | .ptr c o => if c = b then .pv .junk else .ptr c o
  | .eptr c n i o => if c = b then .pv .junk else .eptr c n i o
  | .agg cs => .agg (AV.retL h b cs)
  | .tup cs => .tup (AV.retL h b cs)
  | .fn f cs => .fn f (AV.retL h b cs)
def AV.retL (h : Heap) (b : Nat) : List AV → List AV
  | [] => []
  | x :: l => AV.ret h b x :: AV.retL h b l
end
theorem AV.retL_eq (h : Heap) (b : Nat) : ∀ l, AV.retL h b l = l.map (AV.ret h b)
  | [] => rfl
  | x :: l => by simp [AV.retL, AV.retL_eq h b l]
def Blk.ret (h : Heap) (b : Nat) : Blk → Blk
  | .box cs m => .box (AV.retL h b cs) m
  | .row e sz es m => .row e sz es m
def retHL (h : HL) (b : Nat) : HL := (h.filter fun x => !(x.1 == b)).map fun x => (x.1, x.2.ret (hget h) b)
theorem hget_ret (h : HL) (b q : Nat) : hget (retHL h b) q = if q = b then none else (hget h q).map (Blk.ret (hget h) b) := by
  unfold retHL
  suffices H : ∀ (g : Heap) (l : HL), hget ((l.filter fun x => !(x.1 == b)).map fun x => (x.1, x.2.ret g b)) q = if q = b then none else (hget l q).map (Blk.ret g b) from H _ h
  intro g l
  induction l with
  | nil => simp [hget]
  | cons a l ih =>
    obtain ⟨c, x⟩ := a
    simp only [List.filter_cons]
    by_cases hc : c = b
    · subst hc
      simp only [beq_self_eq_true, Bool.not_true, Bool.false_eq_true, if_false]
      rw [ih]
      by_cases hq : q = c
      · simp [hq]
      · simp [hq, hget]
    · rw [if_pos (by simpa using hc)]
      simp only [List.map_cons, hget]
      by_cases hq : q = c
      · subst hq; simp [hc]
      · simp only [if_neg hq]; exact ih
section
variable {S : Stb} {W : World} {β : Bta} {h : Heap} {b : Nat}
theorem RA.ret {B : Nat} (H : HRel B S β h W) {h' : Heap} (hh : ∀ q x, q ≠ b → h q = some x → h' q = some (x.ret h b)) {x : AV} {v : Value} (hx : RA S W β h x v) : RA (sfrz S β h [b]) W β h' (x.ret h b) v := by
  induction hx with
  | pv hp => exact .pv (hp.stay (Evo.frz S W β h [b]).st)
  | @ref c n v e sz es m hb hn hv hc =>
    rw [AV.ret]
    by_cases hcb : c = b
    · subst hcb
      rw [if_pos rfl]
      have hr : rowOf h c = some (e, sz, es) := by simp [rowOf, hb]
      rw [hr]
      simp only []
      split
      · rename_i hl
        exact .pv (frz2_ok H (.ref hb hn hv hc) (p := .view es) (ids := [c]) (by simp [frz2, frz1, frz0, hr, hl]) [c] (fun _ h => h))
      · exact .pv (.junk _)
    · rw [if_neg hcb]
      exact .ref (hh _ _ hcb hb) hn hv hc
  | @ptr c off k cs m hb hk =>
    rw [AV.ret]
    by_cases hcb : c = b
    · rw [if_pos hcb]; exact .pv (.junk _)
    · rw [if_neg hcb]; exact .ptr (hh _ _ hcb hb) hk
  | @eptr c n i off v e sz es m hb hn hv hc =>
    rw [AV.ret]
    by_cases hcb : c = b
    · rw [if_pos hcb]; exact .pv (.junk _)
    · rw [if_neg hcb]; exact .eptr (hh _ _ hcb hb) hn hv hc
  | agg hn hR ih =>
    rw [AV.ret, AV.retL_eq]
    refine .agg (by simpa using hn) (fun i x hx => ?_)
    rw [List.getElem?_map] at hx
    obtain ⟨y, hy, rfl⟩ := Option.map_eq_some_iff.1 hx
    exact ih i y hy
  | tup hn hR ih =>
    rw [AV.ret, AV.retL_eq]
    refine .tup (by simpa using hn) (fun i x hx => ?_)
    rw [List.getElem?_map] at hx
    obtain ⟨y, hy, rfl⟩ := Option.map_eq_some_iff.1 hx
    exact ih i y hy
  | fn hn hR ih =>
    rw [AV.ret, AV.retL_eq]
    refine .fn (by simpa using hn) (fun i x hx => ?_)
    rw [List.getElem?_map] at hx
    obtain ⟨y, hy, rfl⟩ := Option.map_eq_some_iff.1 hx
    exact ih i y hy
end
theorem Le.ret (b : Nat) (s : Slots) (h : HL) : Le s (hget h) (s.map (AV.ret (hget h) b)) (hget (retHL h b)) := fun W0 S0 a W S β F => by
  have hq : ∀ q, q ≠ b → hget (retHL h b) q = (hget h q).map (Blk.ret (hget h) b) := fun q hq => by rw [hget_ret, if_neg hq]
  have hb : hget (retHL h b) b = none := by rw [hget_ret, if_pos rfl]
  generalize hget (retHL h b) = h' at *
  generalize hget h = g at *
  have hh : ∀ q x, q ≠ b → g q = some x → h' q = some (x.ret g b) := fun q x hqb hx => by rw [hq q hqb, hx]; rfl
  have hinv : ∀ q y, h' q = some y → q ≠ b ∧ ∃ x, g q = some x ∧ y = x.ret g b := fun q y hy => by
    by_cases hqb : q = b
    · subst hqb; rw [hb] at hy; cases hy
    · rw [hq q hqb] at hy
      obtain ⟨x, hx, rfl⟩ := Option.map_eq_some_iff.1 hy
      exact ⟨hqb, x, hx, rfl⟩
  have hsome : ∀ q, (h' q).isSome → (g q).isSome := fun q hs => by
    obtain ⟨y, hy⟩ := Option.isSome_iff_exists.1 hs
    obtain ⟨_, x, hx, _⟩ := hinv q y hy
    simp [hx]
  have F1 := F.frz [b]
  have hmut : ∀ x : Blk, (x.ret g b).mut = x.mut := fun x => by cases x <;> rfl
  have hkn : ∀ x : Blk, (x.ret g b).known = x.known := fun x => by cases x <;> simp [Blk.ret, Blk.known, AV.retL_eq]
  refine ⟨sfrz S β g [b], β, ⟨fun q y hy => ?_, fun q q' k h1 h2 => F.H.inj q q' k (hsome q h1) (hsome q' h2), fun q k h1 => F.H.fresh q k (hsome q h1), fun q y k o hy hk ho => ?_, F1.H.bnd⟩, fun n => ?_, by simpa using F.sz, F.df, F.lo, F1.up, F1.dn⟩
  · obtain ⟨hqb, x, hx, rfl⟩ := hinv q y hy
    have := F.H.blk q x hx
    cases x with
    | box cs m =>
      obtain ⟨k, cur, e, a1, a2, a3, a4⟩ := this
      refine ⟨k, cur, e, a1, a2, by simpa [AV.retL_eq] using a3, fun j z hz => ?_⟩
      rw [AV.retL_eq, List.getElem?_map] at hz
      obtain ⟨w, hw, rfl⟩ := Option.map_eq_some_iff.1 hz
      exact RA.ret F.H hh (a4 j w hw)
    | row e sz es m =>
      obtain ⟨a1, a2, a3⟩ := this
      refine ⟨a1, a2, a3.imp id (fun ⟨k, cur, b1, b2, b3, b4⟩ => ⟨k, cur, b1, b2, b3, fun i x j p hx hp => (b4 i x j p hx hp).stay (Evo.frz S W β g [b]).st⟩)⟩
  · obtain ⟨hqb, x, hx, rfl⟩ := hinv q y hy
    rw [hmut, hkn]
    exact F1.H.sinv q x k o (by simp [hfrz, hqb, hx]) hk ho
  · have := RA.ret (h' := h') F.H hh (F.sl n)
    have e : (s.map (AV.ret g b)).getD n (.pv .junk) = (s.getD n (.pv .junk)).ret g b := by
      simp only [List.getD, List.getElem?_map]
      cases s[n]? <;> rfl
    rw [e]; exact this
def retAll : List Nat → Slots → HL → Slots × HL
  | [], s, h => (s, h)
  | b :: l, s, h => retAll l (s.map (AV.ret (hget h) b)) (retHL h b)
theorem Le.retAll : ∀ (l : List Nat) (s : Slots) (h : HL), Le s (hget h) (Pv.retAll l s h).1 (hget (Pv.retAll l s h).2)
  | [], s, h => Le.refl _ _
  | b :: l, s, h => (Le.ret b s h).trans (Le.retAll l _ _)

/-! ### The code, run -/
abbrev CallF := Nat → List PV → Option (AV × List Blk)
def CallF.ok (P : Program) (call : CallF) : Prop := ∀ g ps r L, call g ps = some (r, L) → CallsV P g ps r L
inductive OO | ok (o : Out) | no (ds : List Nat)
def between (h : HL) (b n : Nat) : List Nat := h.filterMap fun x => if b ≤ x.1 ∧ x.1 < b + n then some x.1 else none
def opO (call : CallF) (x : Ins) (s : Slots) (h : HL) : OO := match gd s x.g with
  | .no => .ok skipOut
  | .bad => .no []
  | .yes => match x.i with
    | .call f ars => match callArgs s (hget h) f ars with
      | some (g, ps, ids) => match call g ps with
        | some (r, L) => if freeAt h (base x.dst) L.length then .ok (callOut x.dst ids r L) else .no (between h (base x.dst) L.length)
        | none => .no []
      | none => .no []
    | i => match sem i (x.dst.getD 0) s (hget h) with
      | some o => .ok o
      | none => .no (between h (x.dst.getD 0) 1)
theorem opO_ok {P : Program} {call : CallF} (hc : call.ok P) {x : Ins} {s : Slots} {h : HL} {o : Out} (ho : opO call x s h = .ok o) : SO P x s (hget h) o := by
  unfold opO at ho
  split at ho
  · rename_i hg; cases ho; exact .inl ⟨hg, rfl⟩
  · cases ho
  · rename_i hg
    split at ho
    · rename_i f ars hi
      split at ho
      · rename_i g ps ids ha
        split at ho
        · rename_i r L hcl
          split at ho
          · rename_i hf
            cases ho
            exact SO_call hi (hc _ _ _ _ hcl) hg ha hf
          · cases ho
        · cases ho
      · cases ho
    · rename_i hnc
      split at ho
      · rename_i o' hs
        cases ho
        refine .inr ⟨hg, ?_⟩
        split
        · rename_i f ars heq; exact absurd heq (hnc f ars)
        · exact hs
      · cases ho
inductive RR | ok (outs : List Out) (s : Slots) (h : HL) | no (ds : List Nat)
def exR (call : CallF) : List Ins → Slots → HL → RR
  | [], s, h => .ok [] s h
  | x :: l, s, h => match opO call x s h with
    | .ok o => match exR call l (putS s x.dst o.v) (o.heapL h) with
      | .ok outs s' h' => .ok (o :: outs) s' h'
      | .no ds => .no ds
    | .no ds => .no ds
theorem exR_ok {P : Program} {call : CallF} (hc : call.ok P) {K : Slots → Heap → Prop} : ∀ {is : List Ins} {s : Slots} {h : HL} {outs : List Out} {s' : Slots} {h' : HL}, exR call is s h = .ok outs s' h' → K s' (hget h') → wpR P is s (hget h) K
  | [], s, h, outs, s', h', he, hk => by simp only [exR, RR.ok.injEq] at he; obtain ⟨_, rfl, rfl⟩ := he; exact hk
  | x :: l, s, h, outs, s', h', he, hk => by
    simp only [exR] at he
    split at he
    · rename_i o ho
      split at he
      · rename_i outs2 s2 h2 h3
        cases he
        refine ⟨o, opO_ok hc ho, ?_⟩
        rw [← Out.heapL_ok]
        exact exR_ok hc h3 hk
      · cases he
    · cases he
theorem exD_ok {P : Program} {call : CallF} (hc : call.ok P) {K : List Out → Slots → Heap → Prop} : ∀ {is : List Ins} {s : Slots} {h : HL} {outs acc : List Out} {s' : Slots} {h' : HL}, exR call is s h = .ok outs s' h' → K (acc ++ outs) s' (hget h') → wpD P is s (hget h) acc K
  | [], s, h, outs, acc, s', h', he, hk => by simp only [exR, RR.ok.injEq] at he; obtain ⟨rfl, rfl, rfl⟩ := he; simpa [wpD] using hk
  | x :: l, s, h, outs, acc, s', h', he, hk => by
    simp only [exR] at he
    split at he
    · rename_i o ho
      split at he
      · rename_i outs2 s2 h2 h3
        cases he
        refine ⟨o, opO_ok hc ho, ?_⟩
        rw [← Out.heapL_ok]
        exact exD_ok hc h3 (by simpa using hk)
      · cases he
    · cases he
/-! Whether a drawing region's operations may go in any order: what hangs on the code alone is asked apart. -/
def stat (x y : Ins) : Bool := disj x.dst.toList y.dst.toList && disj x.dst.toList y.uses && disj y.dst.toList x.uses
def dyn (o p : Out) : Bool := disj o.chg (p.rd ++ p.chg ++ p.fzs) && disj p.chg (o.rd ++ o.fzs)
theorem Ind_eq (x : Ins) (o : Out) (y : Ins) (p : Out) : Ind x o y p = (stat x y && dyn o p) := by
  unfold Ind stat dyn
  simp only [Bool.and_assoc]
/-! The operations ahead of each, as the bits of a number. -/
def maskOf (acc : List Nat) : List Nat → Nat
  | [] => 0
  | e :: l => Nat.lor (Nat.lor (Nat.shiftLeft 1 e) (acc.getD e 0)) (maskOf acc l)
def predsM : List Nat → List Ins → List Nat
  | acc, [] => acc
  | acc, x :: l => predsM (acc ++ [maskOf acc x.af]) l
theorem testBit_one (e i : Nat) : (Nat.shiftLeft 1 e).testBit i = decide (e = i) := by
  show (1 <<< e).testBit i = _
  rw [Nat.one_shiftLeft, Nat.testBit_two_pow]
theorem maskOf_iff {acc : List (List Nat)} {accM : List Nat} (hR : ∀ j i, i ∈ acc.getD j [] ↔ (accM.getD j 0).testBit i = true) : ∀ (l : List Nat) (i : Nat), i ∈ (l ++ l.flatMap fun e => acc.getD e []) ↔ (maskOf accM l).testBit i = true
  | [], i => by simp [maskOf]
  | e :: l, i => by
    have ih := maskOf_iff hR l i
    have h1 := hR e i
    show _ ↔ ((1 <<< e ||| accM.getD e 0) ||| maskOf accM l).testBit i = true
    rw [Nat.testBit_or, Nat.testBit_or, Bool.or_eq_true, Bool.or_eq_true, ← ih, ← h1]
    have h2 : (1 <<< e).testBit i = true ↔ e = i := by rw [Nat.one_shiftLeft, Nat.testBit_two_pow]; simp
    rw [h2]
    simp only [List.mem_append, List.mem_cons, List.flatMap_cons]
    constructor
    · rintro ((rfl | h) | (h | h))
      · exact .inl (.inl rfl)
      · exact .inr (.inl h)
      · exact .inl (.inr h)
      · exact .inr (.inr h)
    · rintro ((rfl | h) | (h | h))
      · exact .inl (.inl rfl)
      · exact .inr (.inl h)
      · exact .inl (.inr h)
      · exact .inr (.inr h)
theorem predsM_iff : ∀ (l : List Ins) (acc : List (List Nat)) (accM : List Nat), acc.length = accM.length → (∀ j i, i ∈ acc.getD j [] ↔ (accM.getD j 0).testBit i = true) → ∀ j i, i ∈ (preds acc l).getD j [] ↔ ((predsM accM l).getD j 0).testBit i = true
  | [], acc, accM, _, hR, j, i => hR j i
  | x :: l, acc, accM, hl, hR, j, i => by
    rw [preds, predsM]
    refine predsM_iff l _ _ (by simp [hl]) (fun j i => ?_) j i
    rcases Nat.lt_trichotomy j acc.length with h | h | h
    · have := hR j i
      simp only [List.getD, List.getElem?_append_left h, List.getElem?_append_left (show j < accM.length by omega)] at this ⊢
      exact this
    · subst h
      have e1 : (acc ++ [x.af ++ x.af.flatMap fun e => acc.getD e []]).getD acc.length [] = x.af ++ x.af.flatMap fun e => acc.getD e [] := by simp [List.getD]
      have e2 : (accM ++ [maskOf accM x.af]).getD acc.length 0 = maskOf accM x.af := by simp [List.getD, hl]
      rw [e1, e2]
      exact maskOf_iff hR x.af i
    · simp only [List.getD]
      rw [List.getElem?_eq_none (by simp; omega), List.getElem?_eq_none (by simp; omega)]
      simp
def unord (is : List Ins) (j : Nat) : List Nat := (List.range j).filter fun i => !(((predsM [] is).getD j 0).testBit i)
theorem unord_mem {is : List Ins} {i j : Nat} (hi : i < j) (hc : ¬ ((preds [] is).getD j []).contains i = true) : i ∈ unord is j := by
  refine List.mem_filter.2 ⟨List.mem_range.2 hi, ?_⟩
  have := predsM_iff is [] [] rfl (fun j i => by simp) j i
  rw [List.contains_iff_mem, this] at hc
  simpa using hc
def okS (is : List Ins) : Bool := (List.range is.length).all fun j => match is[j]? with
  | some y => y.af.all (· < j) && (unord is j).all fun i => match is[i]? with
    | some x => stat x y
    | none => false
  | none => false
def Out.still (o : Out) : Bool := match o.up with
  | [] => true
  | _ => o.chg.isEmpty
theorem Out.still_ok {o : Out} (h : o.still = true) : o.chg = [] := by
  unfold Out.still at h
  split at h
  · rename_i hu; simp [Out.chg, hu]
  · simpa using h
def okE (is : List Ins) (outs : List Out) : Bool := outs.length == is.length && okS is && (outs.all Out.still || (List.range is.length).all fun j => match outs[j]? with
  | some p => (unord is j).all fun i => match outs[i]? with
    | some o => dyn o p
    | none => false
  | none => false)
theorem okE_ok {is : List Ins} {outs : List Out} (h : okE is outs = true) : okD is outs = true := by
  simp only [okE, Bool.and_eq_true, beq_iff_eq] at h
  obtain ⟨⟨h1, h2⟩, h3⟩ := h
  simp only [okD, Bool.and_eq_true, beq_iff_eq]
  refine ⟨h1, List.all_eq_true.2 (fun j hj => ?_)⟩
  have hjl := List.mem_range.1 hj
  have a1 := List.all_eq_true.1 h2 j hj
  obtain ⟨y, hy⟩ : ∃ y, is[j]? = some y := ⟨_, List.getElem?_eq_getElem hjl⟩
  obtain ⟨p, hp⟩ : ∃ p, outs[j]? = some p := ⟨_, List.getElem?_eq_getElem (by omega)⟩
  simp only [hy, hp, Bool.and_eq_true] at a1 ⊢
  refine ⟨a1.1, List.all_eq_true.2 (fun i hi => ?_)⟩
  have hil := List.mem_range.1 hi
  obtain ⟨x, hx⟩ : ∃ x, is[i]? = some x := ⟨_, List.getElem?_eq_getElem (by omega)⟩
  obtain ⟨o, ho⟩ : ∃ o, outs[i]? = some o := ⟨_, List.getElem?_eq_getElem (by omega)⟩
  simp only [hx, ho, Bool.or_eq_true]
  by_cases hc : ((preds [] is).getD j []).contains i = true
  · exact .inl hc
  · right
    have hu : i ∈ unord is j := unord_mem hil hc
    have a2 := List.all_eq_true.1 a1.2 i hu
    simp only [hx] at a2
    rw [Ind_eq, Bool.and_eq_true]
    refine ⟨a2, ?_⟩
    simp only [Bool.or_eq_true] at h3
    rcases h3 with h3 | h3
    · have e1 := Out.still_ok (List.all_eq_true.1 h3 o (List.mem_of_getElem? ho))
      have e2 := Out.still_ok (List.all_eq_true.1 h3 p (List.mem_of_getElem? hp))
      simp [dyn, e1, e2, disj]
    · have a3 := List.all_eq_true.1 h3 j hj
      simp only [hp] at a3
      have a4 := List.all_eq_true.1 a3 i hu
      simpa only [ho] using a4
/-- The sites that a region fills anew. -/
def sites : List Ins → List (Nat × Nat)
  | [] => []
  | x :: l => match x.i with
    | .new .. | .box .. | .lit .. => (x.dst.getD 0, 1) :: sites l
    | .call .. => (base x.dst, 1000) :: sites l
    | _ => sites l
def clash (l : List (Nat × Nat)) : HL → List Nat
  | [] => []
  | x :: h => if l.any fun r => decide (r.1 ≤ x.1) && decide (x.1 < r.1 + r.2) then x.1 :: clash l h else clash l h
def exG (call : CallF) (is : List Ins) (d : Bool) : Nat → Slots → HL → Option (Slots × HL)
  | 0, _, _ => none
  | n + 1, s, h => match exR call is s h with
    | .ok outs s' h' => if d then if okE is outs then some (s', h') else none else some (s', h')
    | .no [] => none
    | .no ds => match retAll ds s h with
      | (s, h) => exG call is d n s h
def exP (call : CallF) (is : List Ins) (d : Bool) (s : Slots) (h : HL) : Option (Slots × HL) := match h with
  | [] => exG call is d 3 s []
  | h => match clash (sites is) h with
    | [] => exG call is d 3 s h
    | ds => match retAll ds s h with
      | (s, h) => exG call is d 3 s h
section
variable {P : Program} {call : CallF} {Q : Post}
theorem exG_ok (hmix : P.follows .mixedOrders = true) (hc : call.ok P) {is : List Ins} {d : Bool} : ∀ {n : Nat} {s : Slots} {h : HL} {s' : Slots} {h' : HL}, exG call is d n s h = some (s', h') → Q .normal s' (hget h') → WP P (if d then .drw is else .reg is) s (hget h) Q
  | 0, s, h, s', h', he, hq => by simp [exG] at he
  | n + 1, s, h, s', h', he, hq => by
    simp only [exG] at he
    split at he
    · rename_i outs s2 h2 h3
      cases d with
      | false =>
        simp only [Bool.false_eq_true, if_false, Option.some.injEq, Prod.mk.injEq] at he
        obtain ⟨rfl, rfl⟩ := he
        exact WP.reg (exR_ok hc h3 hq)
      | true =>
        simp only [if_true] at he
        split at he
        · rename_i hok
          cases he
          exact WP.drw hmix (exD_ok hc h3 ⟨by simpa using okE_ok hok, hq⟩)
        · cases he
    · cases he
    · rename_i ds hne h3
      exact WP.le (Le.retAll ds s h) (exG_ok hmix hc he hq)
theorem exP_ok (hmix : P.follows .mixedOrders = true) (hc : call.ok P) {is : List Ins} {d : Bool} {s : Slots} {h : HL} {s' : Slots} {h' : HL} (he : exP call is d s h = some (s', h')) (hq : Q .normal s' (hget h')) : WP P (if d then .drw is else .reg is) s (hget h) Q := by
  unfold exP at he
  split at he
  · exact exG_ok hmix hc he hq
  · split at he
    · exact exG_ok hmix hc he hq
    · rename_i ds hne
      exact WP.le (Le.retAll _ s h) (exG_ok hmix hc he hq)
def ex (call : CallF) : Nat → C → Slots → HL → Option (Ex × Slots × HL)
  | 0, _, _, _ => none
  | n + 1, c, s, h => match c with
    | .nop => some (.normal, s, h)
    | .ret => some (.ret, s, h)
    | .exit id => some (.exit id, s, h)
    | .seq a b => match ex call n a s h with
      | some (.normal, s, h) => ex call n b s h
      | r => r
    | .cond x a b => match ev s x with
      | .pv (.bool true) => ex call n a s h
      | .pv (.bool false) => ex call n b s h
      | _ => none
    | .blk id c => match ex call n c s h with
      | some (.exit i, s, h) => if i = id then some (.normal, s, h) else some (.exit i, s, h)
      | r => r
    | .loop c => match ex call n c s h with
      | some (.normal, s, h) => ex call n (.loop c) s h
      | r => r
    | .reg is => match exP call is false s h with
      | some (s, h) => some (.normal, s, h)
      | none => none
    | .drw is => match exP call is true s h with
      | some (s, h) => some (.normal, s, h)
      | none => none
theorem ex_ok (hmix : P.follows .mixedOrders = true) (hc : call.ok P) : ∀ (n : Nat) {c : C} {s : Slots} {h : HL} {e : Ex} {s' : Slots} {h' : HL} {Q : Post}, ex call n c s h = some (e, s', h') → Q e s' (hget h') → WP P c s (hget h) Q := by
  intro n
  induction n using Nat.strongRecOn with
  | _ n ih =>
  intro c s h e s' h' Q he hq
  cases n with
  | zero => simp [ex] at he
  | succ n =>
  cases c with
  | nop => simp only [ex, Option.some.injEq, Prod.mk.injEq] at he; obtain ⟨rfl, rfl, rfl⟩ := he; exact WP.nop hq
  | ret => simp only [ex, Option.some.injEq, Prod.mk.injEq] at he; obtain ⟨rfl, rfl, rfl⟩ := he; exact WP.ret hq
  | exit id => simp only [ex, Option.some.injEq, Prod.mk.injEq] at he; obtain ⟨rfl, rfl, rfl⟩ := he; exact WP.exit hq
  | seq a b =>
    simp only [ex] at he
    split at he
    · rename_i s2 h2 h3
      exact WP.seq (ih n (by omega) h3 (show thenQ _ Q .normal s2 (hget h2) from ih n (by omega) he hq))
    · rename_i hne
      refine WP.seq (ih n (by omega) he ?_)
      cases e with
      | normal => exact absurd he (hne s' h')
      | exit i => exact hq
      | ret => exact hq
  | cond x a b =>
    simp only [ex] at he
    split at he
    · rename_i hx; exact WP.cond true hx (ih n (by omega) he hq)
    · rename_i hx; exact WP.cond false hx (ih n (by omega) he hq)
    · cases he
  | blk id c =>
    simp only [ex] at he
    split at he
    · rename_i i s2 h2 h3
      refine WP.blk (ih n (by omega) h3 ?_)
      simp only [blkQ]
      split at he
      · rename_i hi
        cases he
        rw [if_pos hi]; exact hq
      · rename_i hi
        cases he
        rw [if_neg hi]; exact hq
    · rename_i hne
      refine WP.blk (ih n (by omega) he ?_)
      cases e with
      | normal => exact hq
      | exit i => exact absurd he (hne i s' h')
      | ret => exact hq
  | loop c =>
    refine WP.loop (fun m s h => m ≤ n + 1 ∧ ∃ hl, ex call m (.loop c) s hl = some (e, s', h') ∧ h = hget hl) (n + 1) ⟨Nat.le_refl _, h, he, rfl⟩ (fun m s h hI => ?_)
    obtain ⟨hm, hl, h1, rfl⟩ := hI
    cases m with
    | zero => simp [ex] at h1
    | succ m =>
      simp only [ex] at h1
      split at h1
      · rename_i s2 h2 h3
        exact ih m (by omega) h3 (show thenQ _ Q .normal s2 (hget h2) from ⟨m, by omega, by omega, h2, h1, rfl⟩)
      · rename_i hne
        refine ih m (by omega) h1 ?_
        cases e with
        | normal => exact absurd h1 (hne s' h')
        | exit i => exact hq
        | ret => exact hq
  | reg is =>
    simp only [ex] at he
    split at he
    · rename_i s2 h2 h3
      cases he
      exact exP_ok (d := false) hmix hc h3 hq
    · cases he
  | drw is =>
    simp only [ex] at he
    split at he
    · rename_i s2 h2 h3
      cases he
      exact exP_ok (d := true) hmix hc h3 hq
    · cases he
end

/-! ### A function, run -/
def fnOf (P : Program) (f : Nat) : Option (Nat × C × List Rs) := match P.funcs[f]? with
  | some fn => if fn.name == "runtime.NumGoroutine" then none else match fn.body with
    | some b => match comp P b, listM (compR P) fn.results.toList with
      | some c, some rs => some (fn.ntmps, c, rs)
      | _, _ => none
    | none => none
  | none => none
/-- What goes out, laid still or handed over. -/
def outV (x : AV) (h : Heap) : Option (AV × List Blk) := match x with
  | .pv p => some (.pv p, [])
  | .ref b n => match h b with
    | some (.row e sz es m) => some (.ref 0 n, [.row e sz es m])
    | _ => none
  | .tup xs => match frzL (frz2 h) xs with
    | some (ps, _) => some (.tup (ps.map .pv), [])
    | none => none
  | x => match frz2 h x with
    | some (p, _) => some (.pv p, [])
    | none => none
theorem outV_ok {x r : AV} {h : Heap} {L : List Blk} (ho : outV x h = some (r, L)) : FS h x (heapL L) r := by
  unfold outV at ho
  split at ho
  · cases ho; exact FS.pv _ (PLe.refl _)
  · split at ho
    · rename_i hb; cases ho; exact FS.row hb
    · cases ho
  · split at ho
    · rename_i ps ids hf
      cases ho
      exact FS.outs hf rfl (fun i p q hp hq => by rw [hp] at hq; cases hq; exact PLe.refl _)
    · cases ho
  · split at ho
    · rename_i p ids hf
      cases ho
      exact FS.out hf (PLe.refl _)
    · cases ho
def evB (orc : CallF) (fuel : Nat) (args : List PV) (t : Nat × C × List Rs) : Option (AV × List Blk) := match t with
  | (n, c, rs) => match ex orc fuel c (start args n) [] with
    | some (.ret, s, h) | some (.normal, s, h) => match resVs s (hget h) rs with
      | some x => outV x (hget h)
      | none => none
    | _ => none
/-! Values made plain before they are handed on (the kernel is lazy). -/
def fcNat {γ : Type} (n : Nat) (k : Nat → γ) : γ := match n with
  | 0 => k 0
  | n + 1 => k (n + 1)
theorem fcNat_eq {γ : Type} (n : Nat) (k : Nat → γ) : fcNat n k = k n := by cases n <;> rfl
def fcInt {γ : Type} (n : Int) (k : Int → γ) : γ := match n with
  | .ofNat n => fcNat n fun n => k (.ofNat n)
  | .negSucc n => fcNat n fun n => k (.negSucc n)
theorem fcInt_eq {γ : Type} (n : Int) (k : Int → γ) : fcInt n k = k n := by cases n <;> simp [fcInt, fcNat_eq]
def fcBool {γ : Type} (b : Bool) (k : Bool → γ) : γ := match b with
  | true => k true
  | false => k false
theorem fcBool_eq {γ : Type} (b : Bool) (k : Bool → γ) : fcBool b k = k b := by cases b <;> rfl
def fcStr {γ : Type} : List UInt8 → (List UInt8 → γ) → γ
  | [], k => k []
  | c :: l, k => fcStr l fun l => k (c :: l)
theorem fcStr_eq {γ : Type} : ∀ (l : List UInt8) (k : List UInt8 → γ), fcStr l k = k l
  | [], k => rfl
  | c :: l, k => by rw [fcStr, fcStr_eq l]
mutual
def PV.fc {γ : Type} : PV → (PV → γ) → γ
  | .junk, k => k .junk
  | .bool b, k => fcBool b fun b => k (.bool b)
  | .int t n, k => fcInt n fun n => k (.int t n)
  | .str s, k => fcStr s fun s => k (.str s)
  | .nil, k => k .nil
  | .cap0, k => k .cap0
  | .niln, k => k .niln
  | .emp, k => k .emp
  | .view es, k => PV.fcs es fun es => k (.view es)
  | .vptr cs, k => PV.fcs cs fun cs => k (.vptr cs)
  | .func f cs, k => fcNat f fun f => PV.fcs cs fun cs => k (.func f cs)
  | .agg cs, k => PV.fcs cs fun cs => k (.agg cs)
def PV.fcs {γ : Type} : List PV → (List PV → γ) → γ
  | [], k => k []
  | x :: l, k => PV.fc x fun x => PV.fcs l fun l => k (x :: l)
end
mutual
theorem PV.fc_eq {γ : Type} : ∀ (p : PV) (k : PV → γ), PV.fc p k = k p
  | .junk, k => by rw [PV.fc]
  | .bool b, k => by rw [PV.fc, fcBool_eq]
  | .int t n, k => by rw [PV.fc, fcInt_eq]
  | .str s, k => by rw [PV.fc, fcStr_eq]
  | .nil, k => by rw [PV.fc]
  | .cap0, k => by rw [PV.fc]
  | .niln, k => by rw [PV.fc]
  | .emp, k => by rw [PV.fc]
  | .view es, k => by rw [PV.fc, PV.fcs_eq es]
  | .vptr cs, k => by rw [PV.fc, PV.fcs_eq cs]
  | .func f cs, k => by rw [PV.fc, fcNat_eq, PV.fcs_eq cs]
  | .agg cs, k => by rw [PV.fc, PV.fcs_eq cs]
theorem PV.fcs_eq {γ : Type} : ∀ (l : List PV) (k : List PV → γ), PV.fcs l k = k l
  | [], k => by rw [PV.fcs]
  | x :: l, k => by rw [PV.fcs, PV.fc_eq x, PV.fcs_eq l]
end
def fcB {γ : Type} (b : Bool) (l : List PV) (k : List PV → γ) : γ := match b with
  | true => PV.fcs l k
  | false => k l
theorem fcB_eq {γ : Type} (b : Bool) (l : List PV) (k : List PV → γ) : fcB b l k = k l := by
  cases b
  · rfl
  · exact PV.fcs_eq l k
def fcR (b : Bool) (r : AV × List Blk) (k : AV × List Blk → Option (AV × List Blk)) : Option (AV × List Blk) := match b with
  | false => k r
  | true => match r with
    | (.pv p, []) => PV.fc p fun p => k (.pv p, [])
    | (.ref b n, [.row e sz es m]) => fcNat n fun n => PV.fcs es fun es => k (.ref b n, [.row e sz es m])
    | (.tup xs, []) => fcT xs fun xs => k (.tup xs, [])
    | r => k r
where fcT : List AV → (List AV → Option (AV × List Blk)) → Option (AV × List Blk)
  | [], k => k []
  | .pv p :: l, k => PV.fc p fun p => fcT l fun l => k (.pv p :: l)
  | x :: l, k => fcT l fun l => k (x :: l)
theorem fcT_eq : ∀ (l : List AV) (k : List AV → Option (AV × List Blk)), fcR.fcT l k = k l
  | [], k => rfl
  | x :: l, k => by
    cases x <;> simp only [fcR.fcT, PV.fc_eq, fcT_eq l]
theorem fcR_eq (b : Bool) (r : AV × List Blk) (k : AV × List Blk → Option (AV × List Blk)) : fcR b r k = k r := by
  unfold fcR
  split
  · rfl
  · split <;> simp only [PV.fc_eq, PV.fcs_eq, fcNat_eq, fcT_eq]
def evF (P : Program) (orc : CallF) (fc : Bool) (fuel : Nat) : Nat → CallF
  | 0 => orc
  | n + 1 => fun f args => fcB fc args fun args => match orc f args with
    | some r => some r
    | none => match fnOf P f with
      | some t => match evB (evF P orc fc fuel n) fuel args t with
        | some r => fcR fc r some
        | none => none
      | none => none
theorem evB_ok {P : Program} (hmix : P.follows .mixedOrders = true) {orc : CallF} (ho : orc.ok P) {fuel : Nat} {f : Nat} {t : Nat × C × List Rs} (hf : fnOf P f = some t) {args : List PV} {r : AV} {L : List Blk} (he : evB orc fuel args t = some (r, L)) : CallsV P f args r L := by
  unfold fnOf at hf
  split at hf
  · rename_i fn hfn
    split at hf
    · cases hf
    · rename_i hname
      split at hf
      · rename_i b hb
        split at hf
        · rename_i c rs h1 h2
          cases hf
          unfold evB at he
          have key : ∀ (e : Ex) (s : Slots) (h : HL), (e = .ret ∨ e = .normal) → ex orc fuel c (start args fn.ntmps) [] = some (e, s, h) → (match resVs s (hget h) rs with | some x => outV x (hget h) | none => none) = some (r, L) → CallsV P f args r L := by
            intro e s h hee h3 h4
            split at h4
            · rename_i x hx
              refine CallsV.ok hfn (by simpa using hname) hb h1 h2 ?_
              refine ex_ok hmix ho fuel h3 ?_
              rcases hee with rfl | rfl
              · exact ⟨x, hx, outV_ok h4⟩
              · exact ⟨x, hx, outV_ok h4⟩
            · cases h4
          simp only [] at he
          split at he
          · rename_i s h h3; exact key _ _ _ (.inl rfl) h3 he
          · rename_i s h h3; exact key _ _ _ (.inr rfl) h3 he
          · cases he
        · cases hf
      · cases hf
  · cases hf
theorem evF_ok {P : Program} (hmix : P.follows .mixedOrders = true) {orc : CallF} (ho : orc.ok P) (fc : Bool) (fuel : Nat) : ∀ n, CallF.ok P (evF P orc fc fuel n)
  | 0 => ho
  | n + 1 => fun f args r L he => by
    simp only [evF, fcB_eq] at he
    split at he
    · rename_i r' hr
      cases he
      exact ho _ _ _ _ hr
    · split at he
      · rename_i t ht
        split at he
        · rename_i r' hr'
          rw [fcR_eq] at he
          cases he
          exact evB_ok hmix (evF_ok hmix ho fc fuel n) ht hr'
        · cases he
      · cases he
def noC : CallF := fun _ _ => none
theorem noC_ok (P : Program) : noC.ok P := fun g ps r L h => by cases h

/-! ### From the middle of a walk to its end -/
def exK (call : CallF) (fuel : Nat) : List Kf → Ex → Slots → HL → Option (Ex × Slots × HL)
  | [], e, s, h => some (e, s, h)
  | .lp c :: k, e, s, h => match e with
    | .normal => none
    | e => exK call fuel k e s h
  | .seq c :: k, e, s, h => match e with
    | .normal => match ex call fuel c s h with
      | some (e, s, h) => exK call fuel k e s h
      | none => none
    | e => exK call fuel k e s h
  | .blk id :: k, e, s, h => match e with
    | .exit i => if i = id then exK call fuel k .normal s h else exK call fuel k (.exit i) s h
    | e => exK call fuel k e s h
def exC (call : CallF) (fuel : Nat) : Conf → Option (Ex × Slots × HL)
  | .code c k s h => match ex call fuel c s h with
    | some (e, s, h) => exK call fuel k e s h
    | none => none
  | .reg is k s h => match exR call is s h with
    | .ok _ s h => exK call fuel k .normal s h
    | .no _ => none
  | .drw all is acc k s h => match exR call is s h with
    | .ok outs s h => if okE all (acc ++ outs) then exK call fuel k .normal s h else none
    | .no _ => none
  | .out e k s h => exK call fuel k e s h
def exE (call : CallF) (fuel : Nat) (rs : List Rs) (c : Conf) : Option (AV × List Blk) := match exC call fuel c with
  | some (.ret, s, h) | some (.normal, s, h) => match resVs s (hget h) rs with
    | some x => outV x (hget h)
    | none => none
  | _ => none
section
variable {P : Program} {call : CallF} {Q : Post}
theorem exK_ok (hmix : P.follows .mixedOrders = true) (hc : call.ok P) (fuel : Nat) : ∀ {k : List Kf} {e : Ex} {s : Slots} {h : HL} {e' : Ex} {s' : Slots} {h' : HL}, exK call fuel k e s h = some (e', s', h') → Q e' s' (hget h') → kpost P k Q e s (hget h)
  | [], e, s, h, e', s', h', he, hq => by simp only [exK, Option.some.injEq, Prod.mk.injEq] at he; obtain ⟨rfl, rfl, rfl⟩ := he; exact hq
  | .lp c :: k, e, s, h, e', s', h', he, hq => by
    cases e with
    | normal => simp only [exK] at he; cases he
    | exit i => simp only [exK] at he; exact exK_ok (k := k) (e := .exit i) hmix hc fuel he hq
    | ret => simp only [exK] at he; exact exK_ok (k := k) (e := .ret) hmix hc fuel he hq
  | .seq c :: k, e, s, h, e', s', h', he, hq => by
    cases e with
    | normal =>
      simp only [exK] at he
      split at he
      · rename_i e2 s2 h2 h3
        exact ex_ok hmix hc fuel h3 (exK_ok (k := k) hmix hc fuel he hq)
      · cases he
    | exit i => simp only [exK] at he; exact exK_ok (k := k) (e := .exit i) hmix hc fuel he hq
    | ret => simp only [exK] at he; exact exK_ok (k := k) (e := .ret) hmix hc fuel he hq
  | .blk id :: k, e, s, h, e', s', h', he, hq => by
    cases e with
    | exit i =>
      simp only [exK] at he
      simp only [kpost, blkQ]
      split at he
      · rename_i hi
        rw [if_pos hi]; exact exK_ok (k := k) hmix hc fuel he hq
      · rename_i hi
        rw [if_neg hi]; exact exK_ok (k := k) hmix hc fuel he hq
    | normal => simp only [exK] at he; exact exK_ok (k := k) (e := .normal) hmix hc fuel he hq
    | ret => simp only [exK] at he; exact exK_ok (k := k) (e := .ret) hmix hc fuel he hq
theorem exC_ok (hmix : P.follows .mixedOrders = true) (hc : call.ok P) (fuel : Nat) {c : Conf} {e' : Ex} {s' : Slots} {h' : HL} (he : exC call fuel c = some (e', s', h')) (hq : Q e' s' (hget h')) : Ok P Q c := by
  cases c with
  | code c k s h =>
    simp only [exC] at he
    split at he
    · rename_i e2 s2 h2 h3
      exact ex_ok hmix hc fuel h3 (exK_ok hmix hc fuel he hq)
    · cases he
  | reg is k s h =>
    simp only [exC] at he
    split at he
    · rename_i outs s2 h2 h3
      exact exR_ok hc h3 (exK_ok hmix hc fuel he hq)
    · cases he
  | drw all is acc k s h =>
    simp only [exC] at he
    split at he
    · rename_i outs s2 h2 h3
      split at he
      · rename_i hok
        exact exD_ok hc h3 ⟨okE_ok hok, exK_ok hmix hc fuel he hq⟩
      · cases he
    · cases he
  | out e k s h => exact exK_ok hmix hc fuel he hq
/-- The rest of a walk, run. -/
theorem Ok.eval (hmix : P.follows .mixedOrders = true) (hc : call.ok P) (fuel : Nat) {rs : List Rs} {r : AV} {L : List Blk} {c : Conf} (he : exE call fuel rs c = some (r, L)) : Ok P (RetQ rs r L) c := by
  unfold exE at he
  have key : ∀ (e : Ex) (s : Slots) (h : HL), (e = .ret ∨ e = .normal) → exC call fuel c = some (e, s, h) → (match resVs s (hget h) rs with | some x => outV x (hget h) | none => none) = some (r, L) → Ok P (RetQ rs r L) c := by
    intro e s h hee h3 h4
    split at h4
    · rename_i x hx
      refine exC_ok hmix hc fuel h3 ?_
      rcases hee with rfl | rfl
      · exact ⟨x, hx, outV_ok h4⟩
      · exact ⟨x, hx, outV_ok h4⟩
    · cases h4
  split at he
  · rename_i s h h3; exact key _ _ _ (.inl rfl) h3 he
  · rename_i s h h3; exact key _ _ _ (.inr rfl) h3 he
  · cases he
end
end Go.Proofs.Ytnojmocoifodjaa.Pv
set_option linter.unusedVariables false
namespace Go.Proofs.Ytnojmocoifodjaa.Pv
open Go Go.Proofs
def strsOf : List PV → Option (List (List UInt8))
  | [] => some []
  | .str s :: l => match strsOf l with
    | some m => some (s :: m)
    | none => none
  | _ :: _ => none
theorem strsOf_ok : ∀ {es : List PV} {l : List (List UInt8)}, strsOf es = some l → es = l.map .str
  | [], l, h => by simp only [strsOf, Option.some.injEq] at h; subst h; rfl
  | .str s :: es, l, h => by
    simp only [strsOf] at h
    split at h
    · rename_i m hm; cases h; rw [strsOf_ok hm]; rfl
    · cases h
  | .junk :: _, _, h | .bool _ :: _, _, h | .int _ _ :: _, _, h | .nil :: _, _, h | .cap0 :: _, _, h | .niln :: _, _, h | .emp :: _, _, h | .view _ :: _, _, h | .vptr _ :: _, _, h | .func _ _ :: _, _, h | .agg _ :: _, _, h => by simp [strsOf] at h
def orcL : CallF := fun g ps => if g = 73 then match ps with
  | [.view es, .str sep] => match strsOf es with
    | some l => if (joinB sep l).length ≤ 1000000 ∧ l.length ≤ 1000000 then some (.pv (.str (joinB sep l)), []) else none
    | none => none
  | _ => none
  else if g = 186 then match ps with
  | [.str a, .str b] => some (.pv (.int .i64 (cmpS a b)), [])
  | _ => none
  else none
theorem orcL_ok : orcL.ok Try.prog := by
  intro g ps r L h
  unfold orcL at h
  split at h
  · rename_i hg
    subst hg
    split at h
    · rename_i es sep
      split at h
      · rename_i l hl
        split at h
        · rename_i hb
          cases h
          rw [strsOf_ok hl]
          exact strings_Join sep l (by omega) (by omega)
        · cases h
      · cases h
    · cases h
  · split at h
    · rename_i hg
      subst hg
      split at h
      · cases h
        exact strings_Compare _ _
      · cases h
    · cases h
theorem hmix : Try.prog.follows .mixedOrders = true := by kernel_rfl
theorem ev_ok {f : Nat} {args : List PV} {r : AV} {L : List Blk} (n : Nat) (h : evF Try.prog orcL true 1000 n f args = some (r, L)) : CallsV Try.prog f args r L := evF_ok hmix orcL_ok true 1000 n _ _ _ _ h
/-- Without making values plain: for what holds variables. -/
theorem evs_ok {f : Nat} {args : List PV} {r : AV} {L : List Blk} (n : Nat) (h : evF Try.prog orcL false 1000 n f args = some (r, L)) : CallsV Try.prog f args r L := evF_ok hmix orcL_ok false 1000 n _ _ _ _ h
/-- The evaluator as an oracle. -/
noncomputable def evL : CallF := evF Try.prog orcL true 1000 30
theorem evL_ok : evL.ok Try.prog := evF_ok hmix orcL_ok true 1000 30
theorem Ok.evl {rs : List Rs} {r : AV} {L : List Blk} {c : Conf} (he : exE evL 1000 rs c = some (r, L)) : Ok Try.prog (RetQ rs r L) c := Ok.eval hmix evL_ok 1000 he
end Go.Proofs.Ytnojmocoifodjaa.Pv
set_option linter.unusedVariables false
namespace Go.Proofs.Ytnojmocoifodjaa.Pv
open Go
/-- Steps, one at least. -/
def run1 (A : Ar) (b : Bool) (n : Nat) (c : Conf) : Option Conf := match c.step A b with
  | some c' => some (run A b n c')
  | none => none
theorem Ok.run1 {P : Program} {Q : Post} (hmix : P.follows .mixedOrders = true) {A : Ar} (hA : A = .std) (b : Bool) (n : Nat) {c c' : Conf} (hr : Pv.run1 A b n c = some c') (hw : Ok P Q c') : Ok P Q c := by
  unfold Pv.run1 at hr
  split at hr
  · rename_i c1 h1
    cases hr
    exact Ok.step hmix hA h1 (Ok.run hmix hA b n rfl hw)
  · cases hr
theorem Ok.drawnE {P : Program} {Q : Post} {all : List Ins} {acc : List Out} {k : List Kf} {s : Slots} {h : HL} (hok : okE all acc = true) (hw : Ok P Q (.out .normal k s h)) : Ok P Q (.drw all [] acc k s h) := ⟨okE_ok hok, hw⟩
/-! Guards and choices: whether they are decided; parting at them. -/
def litB : AV → Bool
  | .pv (.bool true) => true
  | .pv (.bool false) => true
  | .tup [] => true
  | _ => false
def gok (s : Slots) (x : Ins) : Bool := (match x.g with
  | none => true
  | some (n, _) => litB (s.getD n (.pv .junk))) && (match gd s x.g with
  | .yes => match x.i with
    | .pick c _ _ => litB (ev s c)
    | _ => true
  | _ => true)
def headI : Conf → Option (Slots × Ins)
  | .reg (x :: _) _ s _ => some (s, x)
  | .drw _ (x :: _) _ _ s _ => some (s, x)
  | _ => none
def one (A : Ar) (c : Conf) : Option Conf := match headI c with
  | some (s, x) => match gok s x with
    | true => c.step A true
    | false => none
  | none => none
theorem Ok.one {P : Program} {Q : Post} (hmix : P.follows .mixedOrders = true) {A : Ar} (hA : A = .std) {c c' : Conf} (hr : Pv.one A c = some c') (hw : Ok P Q c') : Ok P Q c := by
  unfold Pv.one at hr
  split at hr
  · split at hr
    · exact Ok.step hmix hA hr hw
    · cases hr
  · cases hr
def boolOf : AV → Option Bool
  | .pv (.bool b) => some b
  | _ => none
def choiceG (c : Conf) : Option Bool := match headI c with
  | some (s, x) => match x.g with
    | some (n, _) => boolOf (s.getD n (.pv .junk))
    | none => none
  | none => none
def choiceK (c : Conf) : Option Bool := match headI c with
  | some (s, x) => match x.i with
    | .pick c _ _ => boolOf (ev s c)
    | _ => none
  | none => none
theorem Ok.splitG {P : Program} {Q : Post} {c : Conf} {t : Bool} (ht : choiceG c = some t) (h1 : t = true → Ok P Q c) (h2 : t = false → Ok P Q c) : Ok P Q c := by
  cases t
  · exact h2 rfl
  · exact h1 rfl
theorem Ok.splitP {P : Program} {Q : Post} {c : Conf} {t : Bool} (ht : choiceK c = some t) (h1 : t = true → Ok P Q c) (h2 : t = false → Ok P Q c) : Ok P Q c := by
  cases t
  · exact h2 rfl
  · exact h1 rfl
theorem Ok.fin1 {P : Program} {rs : List Rs} {x : AV} {p q : PV} {ids : List Nat} {s : Slots} {h : HL} (hx : resVs s (hget h) rs = some x) (hf : frz2 (hget h) x = some (p, ids)) (hp : p = q) : Ok P (RetQ rs (.pv q) []) (.out .ret [] s h) := Ok.fin hx (FS.out hf (PLe.of hp))
theorem Ok.finN {P : Program} {rs : List Rs} {p q : PV} {s : Slots} {h : HL} (hx : resVs s (hget h) rs = some (.pv p)) (hp : p = q) : Ok P (RetQ rs (.pv q) []) (.out .ret [] s h) := Ok.fin hx (FS.pv _ (PLe.of hp))
theorem Ok.fin2 {P : Program} {rs : List Rs} {x1 x2 : AV} {p1 p2 q1 q2 : PV} {ids : List Nat} {s : Slots} {h : HL} (hx : resVs s (hget h) rs = some (.tup [x1, x2])) (hf : frzL (frz2 (hget h)) [x1, x2] = some ([p1, p2], ids)) (h1 : p1 = q1) (h2 : p2 = q2) : Ok P (RetQ rs (.tup [.pv q1, .pv q2]) []) (.out .ret [] s h) := by
  subst h1 h2
  exact Ok.fin hx (FS.outs hf rfl (fun i p q hp hq => by rw [hp] at hq; cases hq; exact PLe.refl _))
theorem Ok.fin3 {P : Program} {rs : List Rs} {x1 x2 x3 : AV} {p1 p2 p3 q1 q2 q3 : PV} {ids : List Nat} {s : Slots} {h : HL} (hx : resVs s (hget h) rs = some (.tup [x1, x2, x3])) (hf : frzL (frz2 (hget h)) [x1, x2, x3] = some ([p1, p2, p3], ids)) (h1 : p1 = q1) (h2 : p2 = q2) (h3 : p3 = q3) : Ok P (RetQ rs (.tup [.pv q1, .pv q2, .pv q3]) []) (.out .ret [] s h) := by
  subst h1 h2 h3
  exact Ok.fin hx (FS.outs hf rfl (fun i p q hp hq => by rw [hp] at hq; cases hq; exact PLe.refl _))
theorem ofNat_add {A : Ar} (hA : A = .std) {a b : Nat} (h : a + b < 2 ^ 62) : A .add .i64 (Int.ofNat a) (Int.ofNat b) = Int.ofNat (a + b) := by
  rw [Ar.add_eq hA]
  show IntKind.wrap .i64 ((a : Int) + (b : Int)) = ((a + b : Nat) : Int)
  rw [IntWalk.i64_in _ ⟨by omega, by omega⟩]; omega
theorem ofNat_conv {A : Ar} (hA : A = .std) {a : Nat} (h : a < 2 ^ 62) : A .conv .i64 (Int.ofNat a) = Int.ofNat a := by
  rw [Ar.conv_eq hA]
  show IntKind.wrap .i64 (a : Int) = (a : Int)
  rw [IntWalk.i64_in _ ⟨by omega, by omega⟩]
theorem ofNat_lt {A : Ar} (hA : A = .std) (a b : Nat) : A .lt (Int.ofNat a) (Int.ofNat b) = decide (a < b) := by
  rw [Ar.lt_eq hA]
  have : (Int.ofNat a < Int.ofNat b) ↔ a < b := Int.ofNat_lt
  simp only [this]
theorem ofNat_le {A : Ar} (hA : A = .std) (a b : Nat) : A .le (Int.ofNat a) (Int.ofNat b) = decide (a ≤ b) := by
  rw [Ar.le_eq hA]
  have : (Int.ofNat a ≤ Int.ofNat b) ↔ a ≤ b := Int.ofNat_le
  simp only [this]
theorem ofNat_eq {A : Ar} (hA : A = .std) (a b : Nat) : A .eq (Int.ofNat a) (Int.ofNat b) = decide (a = b) := by
  rw [Ar.eq_eq hA]
  have : (Int.ofNat a = Int.ofNat b) ↔ a = b := Int.ofNat_inj
  simp only [this]
theorem sadd_op {d : Option Nat} {af : List Nat} {x y : Opd} {s : Slots} {h : HL} {a b : List UInt8} (h1 : ev s x = .pv (.str a)) (h2 : ev s y = .pv (.str b)) (hl : a.length + b.length ≤ 2 ^ 60) (r : List UInt8) (hr : r = a ++ b) :
    stepO ⟨d, none, af, .bin .add x y⟩ s (hget h) = some { v := .pv (.str r) } := by
  subst hr
  have hm : a.length + b.length ≤ maxLen := by unfold maxLen; omega
  simp only [stepO, gd, sem, h1, h2, semBin]
  rw [if_pos hm]
theorem sslc_op {d : Option Nat} {g : Option (Nat × Bool)} {af : List Nat} {x : Opd} {lo hi : Option Opd} {s : Slots} {h : HL} {l : List UInt8} {a b : Nat} (hg : gd s g = .yes) (h1 : ev s x = .pv (.str l)) (hlo : bound (lo.map (ev s)) 0 = some a) (hhi : bound (hi.map (ev s)) l.length = some b) (hab : a ≤ b) (hbl : b ≤ l.length) (r : List UInt8) (hr : r = (l.take b).drop a) :
    stepO ⟨d, g, af, .sslc x lo hi⟩ s (hget h) = some { v := .pv (.str r) } := by
  subst hr
  simp only [stepO, hg, sem, h1, hlo, hhi]
  rw [if_pos ⟨hbl, hab⟩]
theorem bound_nat (k : IntKind) (n d : Nat) : bound (some (.pv (.int k (Int.ofNat n)))) d = some n := by
  simp [bound]
theorem Ar.notT {A : Ar} (hA : A = .std) : A .not true = false := by rw [Ar.not_eq hA]; rfl
theorem Ar.notF {A : Ar} (hA : A = .std) : A .not false = true := by rw [Ar.not_eq hA]; rfl
theorem lenN_nat {A : Ar} (hA : A = .std) (n : Nat) : A .lenN n = Int.ofNat n := Ar.lenN_eq hA n
theorem lenS_nat {A : Ar} (hA : A = .std) (s : List UInt8) : A .lenS s = Int.ofNat s.length := Ar.lenS_eq hA s
theorem slc_full {d : Option Nat} {af : List Nat} {sz : Nat} {x hi mx : Opd} {s : Slots} {h : HL} {es : List PV} {n : Nat} (h1 : ev s x = .pv (.view es)) (h2 : ev s hi = .pv (.int .i64 (Int.ofNat n))) (h3 : ev s mx = .pv (.int .i64 (Int.ofNat n))) (hn : n = es.length) (hall : ∀ e, e ∈ es → e.cells.length = sz) (r : PV) (hr : r = if n = 0 then .cap0 else .view es) :
    stepO ⟨d, none, af, .slc sz x none (some hi) (some mx)⟩ s (hget h) = some { v := .pv r, rd := [], up := [.frz []] } := by
  subst hr hn
  have hb : ∀ k, bound (some (.pv (.int .i64 (Int.ofNat es.length)))) k = some es.length := fun k => bound_nat _ _ _
  have ha : es.all (fun e => e.cells.length == sz) = true := List.all_eq_true.2 (fun e he => by simpa using hall e he)
  have h0 : bound (Option.map (ev s) none) 0 = some 0 := rfl
  simp only [stepO, gd, sem, h1, listOf, PV.rlx, Option.map_some, h2, h3, hb, h0]
  rw [if_pos ⟨Nat.le_refl _, Nat.le_refl _, Nat.zero_le _, fun _ => rfl, ha⟩]
  simp
theorem idx_viewG {d : Option Nat} {g : Option (Nat × Bool)} {af : List Nat} {sz : Nat} {x i : Opd} {s : Slots} {h : Heap} {es : List PV} {k : IntKind} {j : Int} (e : PV) (hg : gd s g = .yes) (h1 : ev s x = .pv (.view es)) (h2 : ev s i = .pv (.int k j)) (h3 : 0 ≤ j) (h4 : es[j.toNat]? = some e) (h5 : e.cells.length = sz) :
    stepO ⟨d, g, af, .idx sz x i⟩ s h = some { v := .pv (.vptr e.cells) } := by
  simp [stepO, hg, sem, h1, h2, h3, h4, h5]
theorem ofNat_sub {A : Ar} (hA : A = .std) {a b : Nat} (h : b ≤ a) (h2 : a < 2 ^ 62) : A .sub .i64 (Int.ofNat a) (Int.ofNat b) = Int.ofNat (a - b) := by
  rw [Ar.sub_eq hA]
  show IntKind.wrap .i64 ((a : Int) - (b : Int)) = ((a - b : Nat) : Int)
  rw [IntWalk.i64_in _ ⟨by omega, by omega⟩]; omega
theorem rem_op {d : Option Nat} {af : List Nat} {x y : Opd} {s : Slots} {h : HL} {k : IntKind} {a c : Int} (h1 : ev s x = .pv (.int k a)) (h2 : ev s y = .pv (.int k c)) (hc : c ≠ 0) (r : Int) (hr : r = a.tmod c) :
    stepO ⟨d, none, af, .bin .rem x y⟩ s (hget h) = some { v := .pv (.int k r) } := by
  subst hr
  simp [stepO, gd, sem, h1, h2, semBin, hc]
end Go.Proofs.Ytnojmocoifodjaa.Pv
set_option maxRecDepth 100000
set_option maxHeartbeats 4000000
set_option linter.unusedVariables false
set_option linter.unusedSimpArgs false
namespace Go.Proofs.Ytnojmocoifodjaa.Pv
open Go Go.Proofs
def bJmp : List UInt8 := [106, 109, 112]
def bJf : List UInt8 := [106, 102]
def In.shift (b : Nat) (x : In) : In := if x.op = bJmp ∨ x.op = bJf then { x with n := IntKind.wrap .i64 (x.n + b) } else x
def joinTo (out : List In) : List (List In) → List In
  | [] => out
  | p :: l => joinTo (out ++ p.map (In.shift out.length)) l
theorem joinTo_le : ∀ (l : List (List In)) (out : List In), out.length ≤ (joinTo out l).length
  | [], out => Nat.le_refl _
  | p :: l, out => Nat.le_trans (by simp) (joinTo_le l _)
theorem joinTo_len : ∀ (l : List (List In)) (out : List In), (joinTo out l).length = out.length + (l.map List.length).sum
  | [], out => by simp [joinTo]
  | p :: l, out => by simp [joinTo, joinTo_len l]; omega
theorem gen_join {E : Enc} (hE : E = .std) (l : List (List In)) (hb : (joinTo [] l).length ≤ 2 ^ 30) (hl : l.length ≤ 2 ^ 30) : CallsV Try.prog 59 [.view (E .inss l)] (.ref 0 (joinTo [] l).length) [.row 99 7 (E .ins (joinTo [] l)) true] := by
  obtain ⟨A, hA⟩ : ∃ A : Ar, A = .std := ⟨_, rfl⟩
  refine CallsV.ok (fn := Try.f59) (by kernel_rfl) (by kernel_rfl) rfl (by cbv) (by cbv) ?_
  refine Ok.run hmix hA false 2000 (by cbv) ?_
  refine Ok.le (Le.nil 3 39 99 7 (by cbv) (by cbv) (by decide)) ?_
  refine Ok.loopAt [3, 9, 10, 11] [39] (fun m s h => ∃ (k : Nat) (out : List In) (n : Nat) (es : List PV), m = l.length - k ∧ k ≤ l.length ∧ joinTo out (l.drop k) = joinTo [] l ∧ n = out.length ∧ es = E .ins out ∧
    s = mkS 43 [(3, .ref 39 n), (9, .pv (.view (E .inss l))), (10, .pv (.int .i64 (A .lenP (E .inss l)))), (11, .pv (.int .i64 (Int.ofNat k)))] ∧ h = [(39, .row 99 7 es true)]) (l.length - 0) (by cbv) ⟨0, [], 0, [], rfl, Nat.zero_le _, rfl, rfl, by rw [E.ins_eq hE]; rfl, by cbv, by cbv⟩ ?_
  rintro m s h ⟨k, out, n, es, rfl, hk, hout, hn, hes, rfl, rfl⟩
  refine Ok.run hmix hA false 2000 (by cbv) ?_
  refine Ok.cond (by cbv) ?_ ?_
  · intro h1
    rw [Ar.lt_eq hA, Ar.lenP_eq hA, decide_eq_true_eq, E.inss_eq hE, List.length_map] at h1
    refine Ok.run hmix hA false 2000 (by cbv) ?_
    have hkl : k < l.length := by simpa using h1
    have hx : l[k]? = some l[k] := List.getElem?_eq_getElem hkl
    generalize hp : l[k] = p at hx
    have hdrop : l.drop k = p :: l.drop (k + 1) := by rw [← hp]; exact List.drop_eq_getElem_cons hkl
    refine Ok.op (idx_view (.view (E .ins p)) (by cbv) (by cbv) (by simp) (by rw [E.inss_eq hE]; simp [hx]) rfl) ?_
    refine Ok.run hmix hA false 2000 (by cbv) ?_
    refine Ok.loopAt [3, 6, 9, 10, 11, 17, 18, 19] [39] (fun m s h => ∃ (j : Nat) (out2 : List In) (n2 : Nat) (es2 : List PV), m = p.length - j ∧ j ≤ p.length ∧ out2 = out ++ (p.take j).map (In.shift n) ∧ n2 = out2.length ∧ es2 = E .ins out2 ∧
      s = mkS 43 [(3, .ref 39 n2), (6, .pv (.int .i64 (A .lenN n))), (9, .pv (.view (E .inss l))), (10, .pv (.int .i64 (A .lenP (E .inss l)))), (11, .pv (.int .i64 (Int.ofNat k))), (17, .pv (.view (E .ins p))), (18, .pv (.int .i64 (A .lenP (E .ins p)))), (19, .pv (.int .i64 (Int.ofNat j)))] ∧ h = [(39, .row 99 7 es2 true)]) (p.length - 0) (by cbv) ⟨0, out, n, es, rfl, Nat.zero_le _, by simp, hn, hes, by cbv, by cbv⟩ ?_
    rintro m s h ⟨j, out2, n2, es2, rfl, hj, hout2, hn2, hes2, rfl, rfl⟩
    have hfull : (out ++ p.map (In.shift n)).length ≤ 2 ^ 30 := by
      have := joinTo_le (l.drop (k + 1)) (out ++ p.map (In.shift out.length))
      rw [hdrop] at hout
      rw [joinTo] at hout
      rw [hout] at this
      rw [hn]
      omega
    have hpl : p.length ≤ 2 ^ 30 := by have := hfull; rw [List.length_append, List.length_map] at this; omega
    refine Ok.run hmix hA false 2000 (by cbv) ?_
    refine Ok.cond (by cbv) ?_ ?_
    · intro h2
      rw [Ar.lt_eq hA, Ar.lenP_eq hA, decide_eq_true_eq, E.ins_eq hE, List.length_map] at h2
      have hjl : j < p.length := by simpa using h2
      have hy : p[j]? = some p[j] := List.getElem?_eq_getElem hjl
      have htake : p.take (j + 1) = p.take j ++ [p[j]] := by rw [List.take_add_one, hy]; rfl
      generalize hq : p[j] = x at hy htake
      have hlen2 : n2 + 1 ≤ 2 ^ 30 := by
        rw [hn2, hout2]
        simp at hfull ⊢
        omega
      refine Ok.run hmix hA false 2000 (by cbv) ?_
      refine Ok.op (idx_view (E.inn x) (by cbv) (by cbv) (by simp) (by rw [E.ins_eq hE]; simp [hy]) rfl) ?_
      refine Ok.run hmix hA false 2000 (by cbv) ?_
      obtain ⟨op, ⟨vk, vi, vb, vs, vt⟩, nn⟩ := x
      by_cases hj1 : op = bJmp
      · have e1 : A .seq op [106, 109, 112] = true := by rw [Ar.seq_eq hA, hj1]; rfl
        have hsh : In.shift n ⟨op, ⟨vk, vi, vb, vs, vt⟩, nn⟩ = ⟨op, ⟨vk, vi, vb, vs, vt⟩, IntKind.wrap .i64 (nn + n)⟩ := by simp [In.shift, hj1]
        rw [e1]
        refine Ok.run hmix hA true 2000 (by cbv) ?_
        refine Ok.cond (by cbv) ?_ ?_
        · intro _
          refine Ok.run hmix hA true 2000 (by cbv) ?_
          obtain ⟨es3, hes3⟩ : ∃ es3, es3 = es2 ++ [E.inn (In.shift n ⟨op, ⟨vk, vi, vb, vs, vt⟩, nn⟩)] := ⟨_, rfl⟩
          obtain ⟨n3, hn3⟩ : ∃ n3, n3 = n2 + 1 := ⟨_, rfl⟩
          refine Ok.op (app_ref (by cbv) (by cbv) (by rw [hn2, hes2, E.ins_eq hE, List.length_map]) (by cbv) (by cbv) (by decide) (by simp only [List.length_singleton]; omega) (by unfold maxLen; simp only [List.length_singleton]; omega) n3 hn3 es3 (by rw [hes3, hsh]; first | rfl | (rw [Ar.add_eq hA, Ar.lenN_eq hA]; rfl))) ?_
          refine Ok.run hmix hA true 2000 (by cbv) ?_
          refine Ok.back (p.length - (j + 1)) [3, 6, 9, 10, 11, 17, 18, 19] [39] (by omega) (by cbv) ⟨j + 1, out ++ (p.take (j + 1)).map (In.shift n), n3, es3, rfl, by omega, rfl, ?_, ?_, ?_, by cbv⟩
          · rw [hn3, hn2, hout2, htake]; simp; omega
          · rw [hes3, hes2, E.ins_eq hE, E.ins_eq hE, hout2, htake]; simp
          · rw [Ar.succ_eq hA (by omega)]; cbv
        · intro hh; cases hh
      · have e1 : A .seq op [106, 109, 112] = false := by rw [Ar.seq_eq hA]; exact decide_eq_false hj1
        rw [e1]
        refine Ok.run hmix hA true 6 (by cbv) ?_
        by_cases hj2 : op = bJf
        · have e2 : A .seq op [106, 102] = true := by rw [Ar.seq_eq hA, hj2]; rfl
          have hsh : In.shift n ⟨op, ⟨vk, vi, vb, vs, vt⟩, nn⟩ = ⟨op, ⟨vk, vi, vb, vs, vt⟩, IntKind.wrap .i64 (nn + n)⟩ := by simp [In.shift, hj2]
          rw [e2]
          refine Ok.run hmix hA true 2000 (by cbv) ?_
          refine Ok.cond (by cbv) ?_ ?_
          · intro _
            refine Ok.run hmix hA true 2000 (by cbv) ?_
            obtain ⟨es3, hes3⟩ : ∃ es3, es3 = es2 ++ [E.inn (In.shift n ⟨op, ⟨vk, vi, vb, vs, vt⟩, nn⟩)] := ⟨_, rfl⟩
            obtain ⟨n3, hn3⟩ : ∃ n3, n3 = n2 + 1 := ⟨_, rfl⟩
            refine Ok.op (app_ref (by cbv) (by cbv) (by rw [hn2, hes2, E.ins_eq hE, List.length_map]) (by cbv) (by cbv) (by decide) (by simp only [List.length_singleton]; omega) (by unfold maxLen; simp only [List.length_singleton]; omega) n3 hn3 es3 (by rw [hes3, hsh]; first | rfl | (rw [Ar.add_eq hA, Ar.lenN_eq hA]; rfl))) ?_
            refine Ok.run hmix hA true 2000 (by cbv) ?_
            refine Ok.back (p.length - (j + 1)) [3, 6, 9, 10, 11, 17, 18, 19] [39] (by omega) (by cbv) ⟨j + 1, out ++ (p.take (j + 1)).map (In.shift n), n3, es3, rfl, by omega, rfl, ?_, ?_, ?_, by cbv⟩
            · rw [hn3, hn2, hout2, htake]; simp; omega
            · rw [hes3, hes2, E.ins_eq hE, E.ins_eq hE, hout2, htake]; simp
            · rw [Ar.succ_eq hA (by omega)]; cbv
          · intro hh; cases hh
        · have e2 : A .seq op [106, 102] = false := by rw [Ar.seq_eq hA]; exact decide_eq_false hj2
          have hsh : In.shift n ⟨op, ⟨vk, vi, vb, vs, vt⟩, nn⟩ = ⟨op, ⟨vk, vi, vb, vs, vt⟩, nn⟩ := by simp [In.shift, hj1, hj2]
          rw [e2]
          refine Ok.run hmix hA true 2000 (by cbv) ?_
          refine Ok.cond (by cbv) ?_ ?_
          · intro hh; cases hh
          · intro _
            refine Ok.run hmix hA true 2000 (by cbv) ?_
            obtain ⟨es3, hes3⟩ : ∃ es3, es3 = es2 ++ [E.inn (In.shift n ⟨op, ⟨vk, vi, vb, vs, vt⟩, nn⟩)] := ⟨_, rfl⟩
            obtain ⟨n3, hn3⟩ : ∃ n3, n3 = n2 + 1 := ⟨_, rfl⟩
            refine Ok.op (app_ref (by cbv) (by cbv) (by rw [hn2, hes2, E.ins_eq hE, List.length_map]) (by cbv) (by cbv) (by decide) (by simp only [List.length_singleton]; omega) (by unfold maxLen; simp only [List.length_singleton]; omega) n3 hn3 es3 (by rw [hes3, hsh]; first | rfl | (rw [Ar.add_eq hA, Ar.lenN_eq hA]; rfl))) ?_
            refine Ok.run hmix hA true 2000 (by cbv) ?_
            refine Ok.back (p.length - (j + 1)) [3, 6, 9, 10, 11, 17, 18, 19] [39] (by omega) (by cbv) ⟨j + 1, out ++ (p.take (j + 1)).map (In.shift n), n3, es3, rfl, by omega, rfl, ?_, ?_, ?_, by cbv⟩
            · rw [hn3, hn2, hout2, htake]; simp; omega
            · rw [hes3, hes2, E.ins_eq hE, E.ins_eq hE, hout2, htake]; simp
            · rw [Ar.succ_eq hA (by omega)]; cbv
    · intro h2
      have hje : j = p.length := by
        rw [Ar.lt_eq hA, Ar.lenP_eq hA, decide_eq_false_iff_not, E.ins_eq hE, List.length_map] at h2
        simp at h2; omega
      subst hje
      refine Ok.run hmix hA false 2000 (by cbv) ?_
      refine Ok.leave ?_
      refine Ok.run hmix hA false 2000 (by cbv) ?_
      refine Ok.back (l.length - (k + 1)) [3, 9, 10, 11] [39] (by omega) (by cbv) ⟨k + 1, out2, n2, es2, rfl, by omega, ?_, hn2, hes2, ?_, by cbv⟩
      · rw [hdrop, joinTo] at hout
        rw [hout2, List.take_length, hn, hout]
      · rw [Ar.succ_eq hA (by omega)]; cbv
  · intro h1
    have hke : k = l.length := by
      rw [Ar.lt_eq hA, Ar.lenP_eq hA, decide_eq_false_iff_not, E.inss_eq hE, List.length_map] at h1
      simp at h1; omega
    subst hke
    rw [List.drop_length, joinTo] at hout
    refine Ok.run hmix hA false 2000 (by cbv) ?_
    refine Ok.leave ?_
    refine Ok.run hmix hA false 2000 (by cbv) ?_
    rw [← hout]
    subst hn hes
    exact Ok.fin (by cbv) (FS.row (by cbv))

theorem gen_join' {E : Enc} (hE : E = .std) (l : List (List In)) (hb : (joinTo [] l).length ≤ 2 ^ 30) (hl : l.length ≤ 2 ^ 30) : CallsV Try.prog 59 [.view (E .inss l)] (.pv (.view (E .ins (joinTo [] l)))) [] :=
  (gen_join hE l hb hl).still (by rw [E.ins_eq hE, List.length_map])
theorem gen_one {E : Enc} (hE : E = .std) (op : List UInt8) (n : Int) : CallsV Try.prog 62 [.str op, .int .i64 n] (.pv (.view (E .ins [⟨op, .zero, n⟩]))) [] := by
  obtain ⟨A, hA⟩ : ∃ A : Ar, A = .std := ⟨_, rfl⟩
  rw [E.ins_eq hE]
  have h0 : E .vls [] = [] := by rw [E.vls_eq hE]; rfl
  refine CallsV.ok (fn := Try.f62) (by kernel_rfl) (by kernel_rfl) rfl (by cbv) (by cbv) ?_
  refine Ok.run hmix hA false 2000 (by cbv) ?_
  refine Ok.fin (by cbv) (FS.out (by cbv) (PLe.of ?_))
  simp [Enc.inn, Vl.zero, h0]
theorem gen_push {E : Enc} (hE : E = .std) (v : Vl) : CallsV Try.prog 65 [E.vl v] (.pv (.view (E .ins [⟨[112, 117, 115, 104], v, 0⟩]))) [] := by
  obtain ⟨A, hA⟩ : ∃ A : Ar, A = .std := ⟨_, rfl⟩
  rw [E.ins_eq hE]
  refine CallsV.ok (fn := Try.f65) (by kernel_rfl) (by kernel_rfl) rfl (by cbv) (by cbv) ?_
  refine Ok.run hmix hA false 2000 (by cbv) ?_
  exact Ok.fin (by cbv) (FS.out (by cbv) (PLe.of rfl))
theorem val_Bool {E : Enc} (hE : E = .std) (b : Bool) : CallsV Try.prog 30 [.bool b] (.pv (E.vl ⟨2, 0, b, [], []⟩)) [] := by
  obtain ⟨A, hA⟩ : ∃ A : Ar, A = .std := ⟨_, rfl⟩
  have h0 : E .vls [] = [] := by rw [E.vls_eq hE]; rfl
  refine CallsV.ok (fn := Try.f30) (by kernel_rfl) (by kernel_rfl) rfl (by cbv) (by cbv) ?_
  refine Ok.run hmix hA false 2000 (by cbv) ?_
  refine Ok.fin (by cbv) (FS.out (by cbv) (PLe.of ?_))
  simp [Enc.vl, h0]
theorem val_Int {E : Enc} (hE : E = .std) (n : Int) : CallsV Try.prog 44 [.int .i64 n] (.pv (E.vl ⟨1, n, false, [], []⟩)) [] := by
  obtain ⟨A, hA⟩ : ∃ A : Ar, A = .std := ⟨_, rfl⟩
  have h0 : E .vls [] = [] := by rw [E.vls_eq hE]; rfl
  refine CallsV.ok (fn := Try.f44) (by kernel_rfl) (by kernel_rfl) rfl (by cbv) (by cbv) ?_
  refine Ok.run hmix hA false 2000 (by cbv) ?_
  refine Ok.fin (by cbv) (FS.out (by cbv) (PLe.of ?_))
  simp [Enc.vl, h0]
theorem gen_emits {E : Enc} (hE : E = .std) (n : Int) : CallsV Try.prog 61 [.int .i64 n] (.pv (.view (E .ins [⟨[101, 109, 105, 116], .zero, n⟩, ⟨[114, 101, 116], .zero, 0⟩]))) [] := by
  obtain ⟨A, hA⟩ : ∃ A : Ar, A = .std := ⟨_, rfl⟩
  refine CallsV.ok (fn := Try.f61) (by kernel_rfl) (by kernel_rfl) rfl (by cbv) (by cbv) ?_
  refine Ok.run hmix hA false 2000 (by cbv) ?_
  refine Ok.call (gen_one hE _ _) (by cbv) (by cbv) (by cbv) ?_
  refine Ok.run hmix hA false 2000 (by cbv) ?_
  refine Ok.call (gen_one hE _ _) (by cbv) (by cbv) (by cbv) ?_
  refine Ok.run hmix hA false 2000 (by cbv) ?_
  (have c0 := gen_join' hE [[⟨[101, 109, 105, 116], .zero, n⟩], [⟨[114, 101, 116], .zero, 0⟩]] (by simp [joinTo_len]) (by simp); simp only [E.inss_eq hE, List.map_cons, List.map_nil] at c0; refine Ok.call c0 (by cbv) (by cbv) (by cbv) ?_)
  refine Ok.run hmix hA false 2000 (by cbv) ?_
  exact Ok.fin (by cbv) (FS.out (by cbv) (PLe.refl _))
end Go.Proofs.Ytnojmocoifodjaa.Pv
set_option maxRecDepth 100000
set_option maxHeartbeats 4000000
set_option linter.unusedVariables false
set_option linter.unusedSimpArgs false
namespace Go.Proofs.Ytnojmocoifodjaa.Pv
open Go Go.Proofs
def setN (l : List In) (i : Nat) (n : Int) : List In := l.modify i fun x => { x with n := n }
theorem setN_len (l : List In) (i : Nat) (n : Int) : (setN l i n).length = l.length := by simp [setN]
def iJf : In := ⟨bJf, .zero, 0⟩
def iJmp : In := ⟨bJmp, .zero, 0⟩
def choiceP (a b c : List In) : List In :=
  setN (setN (joinTo [] [a, [iJf], b, [iJmp], c]) a.length ((a.length + 1 + b.length + 1 : Nat) : Int)) (a.length + 1 + b.length) ((a.length + 1 + b.length + 1 + c.length : Nat) : Int)
theorem setN_pv {E : Enc} (hE : E = .std) {l : List In} {i : Nat} {x : In} (hx : l[i]? = some x) (n : Int) : E .ins (setN l i n) = (E .ins l).set i ((E.inn x).withCells (putCells (E.inn x).cells 6 [.int .i64 n])) := by
  rw [E.ins_eq hE, E.ins_eq hE]
  unfold setN
  apply List.ext_getElem?
  intro j
  simp only [List.getElem?_map, List.getElem?_modify, List.getElem?_set, List.length_map]
  by_cases h : i = j
  · subst h
    have hlt := (List.getElem?_eq_some_iff.1 hx).1
    have hli : l[i] = x := by simpa [hlt] using hx
    simp [hli, hlt, Enc.inn, PV.withCells, PV.cells, putCells]
  · simp [h]
theorem gen_choice {E : Enc} (hE : E = .std) (a b c : List In) (hl : a.length + b.length + c.length ≤ 2 ^ 29) : CallsV Try.prog 66 [.view (E .ins a), .view (E .ins b), .view (E .ins c)] (.pv (.view (E .ins (choiceP a b c)))) [] := by
  obtain ⟨A, hA⟩ : ∃ A : Ar, A = .std := ⟨_, rfl⟩
  obtain ⟨out, hout⟩ : ∃ out, out = joinTo [] [a, [iJf], b, [iJmp], c] := ⟨_, rfl⟩
  have hlen : out.length = a.length + 1 + b.length + 1 + c.length := by rw [hout, joinTo_len]; simp; omega
  obtain ⟨no, hno⟩ : ∃ no, no = out.length := ⟨_, rfl⟩
  obtain ⟨la, hla⟩ : ∃ la, la = a.length := ⟨_, rfl⟩
  obtain ⟨jm, hjm⟩ : ∃ jm, jm = la + 1 + b.length := ⟨_, rfl⟩
  have ela : A .lenP (E .ins a) = Int.ofNat la := by rw [Ar.lenP_eq hA, E.ins_eq hE, hla]; simp
  have elb : A .add .i64 (A .add .i64 (Int.ofNat la) 1) (A .lenP (E .ins b)) = Int.ofNat jm := by
    rw [Ar.succ_eq hA (by omega), Ar.lenP_eq hA, E.ins_eq hE, List.length_map]
    exact (ofNat_add hA (by omega)).trans (by rw [hjm])
  have c0 := gen_join hE [a, [iJf], b, [iJmp], c] (by rw [← hout]; omega) (by simp)
  rw [← hout, ← hno] at c0
  simp only [E.inss_eq hE, List.map_cons, List.map_nil] at c0
  have hxa : ∃ x, out[la]? = some x := ⟨_, List.getElem?_eq_getElem (by omega)⟩
  obtain ⟨xa, hxa⟩ := hxa
  obtain ⟨out2, hout2⟩ : ∃ o, o = setN out la (Int.ofNat (jm + 1)) := ⟨_, rfl⟩
  obtain ⟨xb, hxb⟩ : ∃ x, out2[jm]? = some x := ⟨_, List.getElem?_eq_getElem (by rw [hout2, setN_len]; omega)⟩
  obtain ⟨out3, hout3⟩ : ∃ o, o = setN out2 jm (Int.ofNat no) := ⟨_, rfl⟩
  have hch : choiceP a b c = out3 := by
    rw [hout3, hout2, hout, hno, hlen, hjm, hla]; rfl
  rw [hch]
  refine CallsV.ok (fn := Try.f66) (by kernel_rfl) (by kernel_rfl) rfl (by cbv) (by cbv) ?_
  refine Ok.run hmix hA false 2000 (by cbv) ?_
  refine Ok.call (gen_one hE [106, 102] 0) (by cbv) (by cbv) (by cbv) ?_
  refine Ok.run hmix hA false 2000 (by cbv) ?_
  refine Ok.call (gen_one hE [106, 109, 112] 0) (by cbv) (by cbv) (by cbv) ?_
  refine Ok.run hmix hA false 2000 (by cbv) ?_
  refine Ok.call c0 (by cbv) (by cbv) (by cbv) ?_
  refine Ok.run hmix hA false 2000 (by cbv) ?_
  rw [ela]
  rw [elb]
  rw [Ar.succ_eq (k := jm) hA (by omega)]
  refine Ok.op (idx_ref (by cbv) (by cbv) (by cbv) (by rw [E.ins_eq hE, List.length_map, hno]) la rfl (by omega)) ?_
  refine Ok.run hmix hA false 2000 (by cbv) ?_
  refine Ok.op (fld_eptr (by cbv) (by cbv) (by rw [E.ins_eq hE, List.length_map, hno])) ?_
  refine Ok.run hmix hA false 2000 (by cbv) ?_
  refine Ok.op (store_eptr (by cbv) (by cbv) (by rw [E.ins_eq hE, List.length_map, hno]) (E.inn xa) (by rw [E.ins_eq hE]; simp [hxa]) (by cbv) (by decide) (by exact ⟨rfl, by decide, by simp [Enc.inn, PV.cells], rfl⟩) (E .ins out2) (by rw [hout2, setN_pv hE hxa]; rfl)) ?_
  refine Ok.run hmix hA false 2000 (by cbv) ?_
  refine Ok.op (idx_ref (by cbv) (by cbv) (by cbv) (by rw [E.ins_eq hE, List.length_map, hno, hout2, setN_len]) jm rfl (by omega)) ?_
  refine Ok.run hmix hA false 2000 (by cbv) ?_
  refine Ok.op (fld_eptr (by cbv) (by cbv) (by rw [E.ins_eq hE, List.length_map, hno, hout2, setN_len])) ?_
  refine Ok.run hmix hA false 2000 (by cbv) ?_
  rw [Ar.lenN_eq hA]
  refine Ok.op (store_eptr (by cbv) (by cbv) (by rw [E.ins_eq hE, List.length_map, hno, hout2, setN_len]) (E.inn xb) (by rw [E.ins_eq hE]; simp [hxb]) (by cbv) (by decide) (by exact ⟨rfl, by decide, by simp [Enc.inn, PV.cells], rfl⟩) (E .ins out3) (by rw [hout3, setN_pv hE hxb]; rfl)) ?_
  refine Ok.run hmix hA false 2000 (by cbv) ?_
  exact Ok.fin (by cbv) (FS.ref (by cbv) (by rw [E.ins_eq hE, List.length_map, hno, hout3, setN_len, hout2, setN_len]))
end Go.Proofs.Ytnojmocoifodjaa.Pv
set_option maxRecDepth 100000
set_option maxHeartbeats 4000000
set_option linter.unusedVariables false
set_option linter.unusedSimpArgs false
namespace Go.Proofs.Ytnojmocoifodjaa.Pv
open Go Go.Proofs
/-- What gen.each puts together. -/
def eachP (out : List In) : List (List In) → List In
  | [] => out
  | p :: ps => eachP (joinTo [] [out, p]) ps
theorem eachP_len : ∀ (ps : List (List In)) (out : List In), (eachP out ps).length = out.length + (ps.map List.length).sum
  | [], out => by simp [eachP]
  | p :: ps, out => by rw [eachP, eachP_len ps, joinTo_len]; simp; omega
theorem gen_each {E : Enc} (hE : E = .std) (f : Nat) (l : List Ex4) (g : Ex4 → List In) (hg : ∀ e, e ∈ l → CallsV Try.prog f [E.ex e] (.pv (.view (E .ins (g e)))) []) (hb : (eachP [] (l.map g)).length ≤ 2 ^ 29) (hl : l.length ≤ 2 ^ 29) :
    CallsV Try.prog 60 [.view (E .exs l), .func f []] (.pv (.view (E .ins (eachP [] (l.map g))))) [] := by
  obtain ⟨A, hA⟩ : ∃ A : Ar, A = .std := ⟨_, rfl⟩
  have h0 : E .ins [] = [] := by rw [E.ins_eq hE]; rfl
  refine CallsV.ok (fn := Try.f60) (by kernel_rfl) (by kernel_rfl) rfl (by cbv) (by cbv) ?_
  refine Ok.run hmix hA false 2000 (by cbv) ?_
  refine Ok.le (Le.pv 5 (by cbv) PLe.nil) ?_
  refine Ok.loopAt [1, 5, 8, 9, 10] [] (fun m s h => ∃ (k : Nat) (out : List In) (es : List PV), m = l.length - k ∧ k ≤ l.length ∧ eachP out ((l.drop k).map g) = eachP [] (l.map g) ∧ es = E .ins out ∧
    s = mkS 22 [(1, .pv (.func f [])), (5, .pv (.view es)), (8, .pv (.view (E .exs l))), (9, .pv (.int .i64 (A .lenP (E .exs l)))), (10, .pv (.int .i64 (Int.ofNat k)))] ∧ h = []) (l.length - 0) (by cbv) ⟨0, [], [], rfl, Nat.zero_le _, rfl, h0.symm, by cbv, by cbv⟩ ?_
  rintro m s h ⟨k, out, es, rfl, hk, hout, rfl, rfl, rfl⟩
  refine Ok.run hmix hA false 2000 (by cbv) ?_
  refine Ok.cond (by cbv) ?_ ?_
  · intro h1
    rw [Ar.lt_eq hA, Ar.lenP_eq hA, decide_eq_true_eq, E.exs_eq hE, List.length_map] at h1
    have hkl : k < l.length := by simpa using h1
    have hx : l[k]? = some l[k] := List.getElem?_eq_getElem hkl
    have hm : l[k] ∈ l := List.getElem_mem hkl
    have hdrop : l.drop k = l[k] :: l.drop (k + 1) := List.drop_eq_getElem_cons hkl
    generalize l[k] = e at hx hm hdrop
    rw [hdrop, List.map_cons, eachP] at hout
    have hge := hg e hm
    obtain ⟨p, hp⟩ : ∃ p, p = g e := ⟨_, rfl⟩
    rw [← hp] at hge hout
    have hlen : (joinTo [] [out, p]).length ≤ 2 ^ 29 := by rw [← hout, eachP_len] at hb; omega
    have c0 := gen_join' hE [out, p] (by omega) (by simp)
    obtain ⟨q, hq⟩ : ∃ q, q = joinTo [] [out, p] := ⟨_, rfl⟩
    rw [← hq] at c0 hout
    simp only [E.inss_eq hE, List.map_cons, List.map_nil] at c0
    refine Ok.run hmix hA false 2000 (by cbv) ?_
    refine Ok.op (idx_view (E.ex e) (by cbv) (by cbv) (by simp) (by rw [E.exs_eq hE]; simp [hx]) rfl) ?_
    refine Ok.run hmix hA false 2000 (by cbv) ?_
    refine Ok.call (hge) (by cbv) (by cbv) (by cbv) ?_
    refine Ok.run hmix hA false 2000 (by cbv) ?_
    refine Ok.call (c0) (by cbv) (by cbv) (by cbv) ?_
    refine Ok.run hmix hA false 2000 (by cbv) ?_
    refine Ok.back (l.length - (k + 1)) [1, 5, 8, 9, 10] [] (by omega) (by cbv) ⟨k + 1, q, E .ins q, rfl, by omega, hout, rfl, ?_, by cbv⟩
    rw [Ar.succ_eq hA (by omega)]; cbv
  · intro h1
    have hke : k = l.length := by
      rw [Ar.lt_eq hA, Ar.lenP_eq hA, decide_eq_false_iff_not, E.exs_eq hE, List.length_map] at h1
      simp at h1; omega
    subst hke
    rw [List.drop_length] at hout
    have : out = eachP [] (l.map g) := hout
    rw [← this]
    refine Ok.run hmix hA false 2000 (by cbv) ?_
    refine Ok.leave ?_
    refine Ok.run hmix hA false 2000 (by cbv) ?_
    exact Ok.fin (by cbv) (FS.out (by cbv) (PLe.refl _))
end Go.Proofs.Ytnojmocoifodjaa.Pv
set_option maxRecDepth 100000
set_option maxHeartbeats 4000000
set_option linter.unusedVariables false
set_option linter.unusedSimpArgs false
namespace Go.Proofs.Ytnojmocoifodjaa.Pv
open Go Go.Proofs
def bLit : List UInt8 := [108, 105, 116]
def bX : List UInt8 := [120]
def bAt : List UInt8 := [97, 116]
def bTup : List UInt8 := [116, 117, 112]
def bAnd : List UInt8 := [97, 110, 100]
def bOr : List UInt8 := [111, 114]
def bIf : List UInt8 := [105, 102]
def bPush : List UInt8 := [112, 117, 115, 104]
def vBool (b : Bool) : Vl := ⟨2, 0, b, [], []⟩
def vInt (n : Int) : Vl := ⟨1, n, false, [], []⟩
mutual
def genE : Ex4 → List In
  | .mk op v n a =>
    if op = bLit then [⟨bPush, v, 0⟩]
    else if op = bX then [⟨bX, .zero, 0⟩]
    else if op = bAt then joinTo [] [(genAll a).getD 0 [], [⟨bAt, .zero, n⟩]]
    else if op = bTup then joinTo [] [eachP [] (genAll a), [⟨bTup, .zero, (genAll a).length⟩]]
    else if op = bAnd then choiceP ((genAll a).getD 0 []) ((genAll a).getD 1 []) [⟨bPush, vBool false, 0⟩]
    else if op = bOr then choiceP ((genAll a).getD 0 []) [⟨bPush, vBool true, 0⟩] ((genAll a).getD 1 [])
    else if op = bIf then choiceP ((genAll a).getD 0 []) ((genAll a).getD 1 []) ((genAll a).getD 2 [])
    else joinTo [] [eachP [] (genAll a), [⟨op, .zero, 0⟩]]
def genAll : List Ex4 → List (List In)
  | [] => []
  | e :: l => genE e :: genAll l
end
theorem genAll_eq : ∀ l, genAll l = l.map genE
  | [] => rfl
  | e :: l => by rw [genAll, genAll_eq l, List.map_cons]
/-- How many arguments are looked at. -/
def arity (op : List UInt8) : Nat := if op = bAt then 1 else if op = bAnd ∨ op = bOr then 2 else if op = bIf then 3 else 0
mutual
/-- Has each Op what is looked at? -/
def wfE : Ex4 → Prop
  | .mk op v n a => arity op ≤ a.length ∧ wfEs a
def wfEs : List Ex4 → Prop
  | [] => True
  | e :: l => wfE e ∧ wfEs l
end
theorem wfEs_mem : ∀ {l : List Ex4} {e : Ex4}, wfEs l → e ∈ l → wfE e
  | [], e, h, he => by simp at he
  | x :: l, e, h, he => by
    rcases List.mem_cons.1 he with rfl | he
    · exact h.1
    · exact wfEs_mem h.2 he
mutual
/-- What is made, at most. -/
def sizE : Ex4 → Nat
  | .mk op v n a => 5 + sizEs a
def sizEs : List Ex4 → Nat
  | [] => 0
  | e :: l => sizE e + sizEs l
end
theorem sizEs_mem : ∀ {l : List Ex4} {e : Ex4}, e ∈ l → sizE e ≤ sizEs l
  | [], e, he => by simp at he
  | x :: l, e, he => by
    rw [sizEs]
    rcases List.mem_cons.1 he with rfl | he
    · omega
    · have := sizEs_mem he; omega
theorem choiceP_len (a b c : List In) : (choiceP a b c).length = a.length + b.length + c.length + 2 := by
  unfold choiceP
  rw [setN_len, setN_len, joinTo_len]
  simp; omega
theorem sumAll : ∀ {l : List Ex4}, (∀ e, e ∈ l → (genE e).length ≤ sizE e) → ((genAll l).map List.length).sum ≤ sizEs l
  | [], _ => by simp [genAll, sizEs]
  | e :: l, h => by
    have h1 := h e (by simp)
    have h2 := sumAll (l := l) (fun x hx => h x (by simp [hx]))
    simp [genAll, sizEs] at h2 ⊢; omega
theorem getAll {l : List Ex4} (i : Nat) : ((genAll l).getD i []).length ≤ ((genAll l).map List.length).sum := by
  generalize genAll l = m
  induction m generalizing i with
  | nil => simp
  | cons p m ih =>
    cases i with
    | zero => simp
    | succ i => have := ih i; simp at this ⊢; omega
theorem getAll2 {m : List (List In)} {i j : Nat} (hij : i < j) : (m.getD i []).length + (m.getD j []).length ≤ (m.map List.length).sum := by
  induction m generalizing i j with
  | nil => simp
  | cons p m ih =>
    cases j with
    | zero => omega
    | succ j =>
      cases i with
      | zero =>
        have : ∀ (m : List (List In)) (j : Nat), (m.getD j []).length ≤ (m.map List.length).sum := by
          intro m
          induction m with
          | nil => simp
          | cons q m ih => intro j; cases j with
            | zero => simp
            | succ j => have := ih j; simp at this ⊢; omega
        have := this m j
        simp at this ⊢; omega
      | succ i => have := @ih i j (by omega); simp at this ⊢; omega
theorem getAll3 {m : List (List In)} : (m.getD 0 []).length + (m.getD 1 []).length + (m.getD 2 []).length ≤ (m.map List.length).sum := by
  match m with
  | [] => simp
  | [a] => simp
  | [a, b] => simp
  | a :: b :: c :: m => simp; omega
theorem genE_le : ∀ (n : Nat) (e : Ex4), SizeOf.sizeOf e ≤ n → (genE e).length ≤ sizE e
  | 0, .mk op v k a, h => by simp at h
  | n + 1, .mk op v k a, h => by
    have hs := sumAll (l := a) (fun e he => genE_le n e (by have := List.sizeOf_lt_of_mem he; simp at h; omega))
    have h0 := getAll (l := a) 0
    have h01 := getAll2 (m := genAll a) (i := 0) (j := 1) (by omega)
    have h3 := getAll3 (m := genAll a)
    rw [genE, sizE]
    repeat' split
    all_goals (try (simp only [choiceP_len, joinTo_len, eachP_len, List.map_cons, List.map_nil, List.sum_cons, List.sum_nil, List.length_cons, List.length_nil]))
    all_goals omega
end Go.Proofs.Ytnojmocoifodjaa.Pv
set_option maxRecDepth 100000
set_option maxHeartbeats 4000000
set_option linter.unusedVariables false
set_option linter.unusedSimpArgs false
namespace Go.Proofs.Ytnojmocoifodjaa.Pv
open Go Go.Proofs
theorem gen_Expr {E : Enc} (hE : E = .std) : ∀ (n : Nat) (e : Ex4), SizeOf.sizeOf e ≤ n → wfE e → sizE e ≤ 2 ^ 27 → CallsV Try.prog 25 [E.ex e] (.pv (.view (E .ins (genE e)))) [] := by
  intro n
  induction n with
  | zero => intro e h; cases e; simp at h
  | succ n ih =>
    rintro ⟨op, v, k, a⟩ hn hwf hsz
    obtain ⟨A, hA⟩ : ∃ A : Ar, A = .std := ⟨_, rfl⟩
    obtain ⟨har, hwa⟩ := hwf
    rw [sizE] at hsz
    have hsub : ∀ e, e ∈ a → CallsV Try.prog 25 [E.ex e] (.pv (.view (E .ins (genE e)))) [] := fun e he => by
      have h1 := List.sizeOf_lt_of_mem he
      have h2 := sizEs_mem he
      simp at hn
      exact ih e (by omega) (wfEs_mem hwa he) (by omega)
    have hsum : ((genAll a).map List.length).sum ≤ sizEs a := sumAll (fun e he => genE_le _ e (Nat.le_refl _))
    have hal : a.length ≤ sizEs a := by
      clear har hwa hsub hsum hn hsz
      induction a with
      | nil => simp
      | cons e a iha => rw [sizEs, List.length_cons]; cases e; rw [sizE]; omega
    have hat : ∀ i, i < a.length → ∃ e, a[i]? = some e ∧ (genAll a).getD i [] = genE e ∧ CallsV Try.prog 25 [E.ex e] (.pv (.view (E .ins (genE e)))) [] := fun i hi =>
      ⟨a[i], List.getElem?_eq_getElem hi, by rw [genAll_eq]; simp [List.getD, hi], hsub _ (List.getElem_mem hi)⟩
    have hg0 := getAll (l := a) 0
    have hg1 := getAll (l := a) 1
    have hg2 := getAll (l := a) 2
    have hEe : eachP [] (genAll a) = eachP [] (a.map genE) := by rw [genAll_eq]
    have ceach := gen_each hE 25 a genE hsub (by rw [← hEe, eachP_len]; simp; omega) (by omega)
    rw [← hEe] at ceach
    obtain ⟨pe, hpe⟩ : ∃ p, p = eachP [] (genAll a) := ⟨_, rfl⟩
    have hpel : pe.length ≤ 2 ^ 28 := by rw [hpe, eachP_len]; simp; omega
    rw [← hpe] at ceach
    have hla : A .lenP (E .exs a) = Int.ofNat a.length := by rw [Ar.lenP_eq hA, E.exs_eq hE, List.length_map]; rfl
    refine CallsV.ok (fn := Try.f25) (by kernel_rfl) (by kernel_rfl) rfl (by cbv) (by cbv) ?_
    refine Ok.run hmix hA false 2000 (by cbv) ?_
    refine Ok.cond (by cbv) ?_ ?_
    · intro h1
      have h1 : op = bLit := by rw [Ar.seq_eq hA, decide_eq_true_eq] at h1; exact h1
      refine Ok.run hmix hA false 2000 (by cbv) ?_
      refine Ok.call (gen_push hE v) (by cbv) (by cbv) (by cbv) ?_
      refine Ok.run hmix hA false 2000 (by cbv) ?_
      rw [genE, if_pos h1]
      exact Ok.fin (by cbv) (FS.out (by cbv) (PLe.refl _))
    · intro h1
      have h1 : ¬ op = bLit := by rw [Ar.seq_eq hA, decide_eq_false_iff_not] at h1; exact h1
      rw [genE, if_neg h1]
      refine Ok.run hmix hA false 2000 (by cbv) ?_
      refine Ok.cond (by cbv) ?_ ?_
      · intro h2
        have h2 : op = bX := by rw [Ar.seq_eq hA, decide_eq_true_eq] at h2; exact h2
        rw [if_pos h2]
        refine Ok.run hmix hA false 2000 (by cbv) ?_
        refine Ok.call (gen_one hE [120] 0) (by cbv) (by cbv) (by cbv) ?_
        refine Ok.run hmix hA false 2000 (by cbv) ?_
        exact Ok.fin (by cbv) (FS.out (by cbv) (PLe.refl _))
      · intro h2
        have h2 : ¬ op = bX := by rw [Ar.seq_eq hA, decide_eq_false_iff_not] at h2; exact h2
        rw [if_neg h2]
        refine Ok.run hmix hA false 2000 (by cbv) ?_
        refine Ok.cond (by cbv) ?_ ?_
        · intro h3
          have h3 : op = bAt := by rw [Ar.seq_eq hA, decide_eq_true_eq] at h3; exact h3
          rw [if_pos h3]
          obtain ⟨e0, he0, hp0, c0⟩ := hat 0 (by simp [arity, h3] at har; omega)
          rw [hp0] at hg0 ⊢
          generalize genE e0 = p0 at c0 hg0
          have cj := gen_join' hE [p0, [⟨bAt, .zero, k⟩]] (by rw [joinTo_len]; simp; omega) (by simp)
          generalize joinTo [] [p0, [⟨bAt, .zero, k⟩]] = q at cj
          simp only [E.inss_eq hE, List.map_cons, List.map_nil] at cj
          refine Ok.run hmix hA false 2000 (by cbv) ?_
          refine Ok.dop (idx_view (E.ex e0) (by cbv) (by cbv) (by simp) (by rw [E.exs_eq hE]; simp [he0]) rfl) ?_
          refine Ok.run hmix hA false 2000 (by cbv) ?_
          refine Ok.dcall (c0) (by cbv) (by cbv) (by cbv) ?_
          refine Ok.run hmix hA false 2000 (by cbv) ?_
          refine Ok.dcall (gen_one hE [97, 116] k) (by cbv) (by cbv) (by cbv) ?_
          refine Ok.run hmix hA false 2000 (by cbv) ?_
          refine Ok.dcall (cj) (by cbv) (by cbv) (by cbv) ?_
          refine Ok.run hmix hA false 2000 (by cbv) ?_
          refine Ok.drawn (by kernel_rfl) ?_
          refine Ok.run hmix hA false 2000 (by cbv) ?_
          exact Ok.fin (by cbv) (FS.out (by cbv) (PLe.refl _))
        · intro h3
          have h3 : ¬ op = bAt := by rw [Ar.seq_eq hA, decide_eq_false_iff_not] at h3; exact h3
          rw [if_neg h3]
          refine Ok.run hmix hA false 2000 (by cbv) ?_
          refine Ok.cond (by cbv) ?_ ?_
          · intro h4
            have h4 : op = bTup := by rw [Ar.seq_eq hA, decide_eq_true_eq] at h4; exact h4
            rw [if_pos h4]
            have cj := gen_join' hE [pe, [⟨bTup, .zero, (genAll a).length⟩]] (by rw [joinTo_len]; simp; omega) (by simp)
            rw [← hpe]
            generalize joinTo [] [pe, [⟨bTup, .zero, (genAll a).length⟩]] = q at cj
            have hall : (genAll a).length = a.length := by rw [genAll_eq, List.length_map]
            rw [hall] at cj
            simp only [E.inss_eq hE, List.map_cons, List.map_nil] at cj
            refine Ok.run hmix hA false 2000 (by cbv) ?_
            refine Ok.dcall (ceach) (by cbv) (by cbv) (by cbv) ?_
            refine Ok.run hmix hA false 2000 (by cbv) ?_
            rw [hla]
            refine Ok.dcall (gen_one hE [116, 117, 112] (Int.ofNat a.length)) (by cbv) (by cbv) (by cbv) ?_
            refine Ok.run hmix hA false 2000 (by cbv) ?_
            refine Ok.dcall (cj) (by cbv) (by cbv) (by cbv) ?_
            refine Ok.run hmix hA false 2000 (by cbv) ?_
            refine Ok.drawn (by kernel_rfl) ?_
            refine Ok.run hmix hA false 2000 (by cbv) ?_
            exact Ok.fin (by cbv) (FS.out (by cbv) (PLe.refl _))
          · intro h4
            have h4 : ¬ op = bTup := by rw [Ar.seq_eq hA, decide_eq_false_iff_not] at h4; exact h4
            rw [if_neg h4]
            refine Ok.run hmix hA false 2000 (by cbv) ?_
            refine Ok.cond (by cbv) ?_ ?_
            · intro h5
              have h5 : op = bAnd := by rw [Ar.seq_eq hA, decide_eq_true_eq] at h5; exact h5
              rw [if_pos h5]
              obtain ⟨e0, he0, hp0, c0⟩ := hat 0 (by simp [arity, h5, bAnd, bAt] at har; omega)
              obtain ⟨e1, he1, hp1, c1⟩ := hat 1 (by simp [arity, h5, bAnd, bAt] at har; omega)
              rw [hp0, hp1]
              rw [hp0] at hg0
              rw [hp1] at hg1
              generalize genE e0 = p0 at c0 hg0
              generalize genE e1 = p1 at c1 hg1
              have cc := gen_choice hE p0 p1 [⟨bPush, vBool false, 0⟩] (by simp; omega)
              generalize choiceP p0 p1 [⟨bPush, vBool false, 0⟩] = q at cc
              refine Ok.run hmix hA false 2000 (by cbv) ?_
              refine Ok.dop (idx_view (E.ex e0) (by cbv) (by cbv) (by simp) (by rw [E.exs_eq hE]; simp [he0]) rfl) ?_
              refine Ok.run hmix hA false 2000 (by cbv) ?_
              refine Ok.dcall (c0) (by cbv) (by cbv) (by cbv) ?_
              refine Ok.run hmix hA false 2000 (by cbv) ?_
              refine Ok.dop (idx_view (E.ex e1) (by cbv) (by cbv) (by simp) (by rw [E.exs_eq hE]; simp [he1]) rfl) ?_
              refine Ok.run hmix hA false 2000 (by cbv) ?_
              refine Ok.dcall (c1) (by cbv) (by cbv) (by cbv) ?_
              refine Ok.run hmix hA false 2000 (by cbv) ?_
              refine Ok.dcall (val_Bool hE false) (by cbv) (by cbv) (by cbv) ?_
              refine Ok.run hmix hA false 2000 (by cbv) ?_
              refine Ok.dcall (gen_push hE (vBool false)) (by cbv) (by cbv) (by cbv) ?_
              refine Ok.run hmix hA false 2000 (by cbv) ?_
              refine Ok.dcall (cc) (by cbv) (by cbv) (by cbv) ?_
              refine Ok.run hmix hA false 2000 (by cbv) ?_
              refine Ok.drawn (by kernel_rfl) ?_
              refine Ok.run hmix hA false 2000 (by cbv) ?_
              exact Ok.fin (by cbv) (FS.out (by cbv) (PLe.refl _))
            · intro h5
              have h5 : ¬ op = bAnd := by rw [Ar.seq_eq hA, decide_eq_false_iff_not] at h5; exact h5
              rw [if_neg h5]
              refine Ok.run hmix hA false 2000 (by cbv) ?_
              refine Ok.cond (by cbv) ?_ ?_
              · intro h6
                have h6 : op = bOr := by rw [Ar.seq_eq hA, decide_eq_true_eq] at h6; exact h6
                rw [if_pos h6]
                obtain ⟨e0, he0, hp0, c0⟩ := hat 0 (by simp [arity, h6, bAnd, bAt, bOr] at har; omega)
                obtain ⟨e1, he1, hp1, c1⟩ := hat 1 (by simp [arity, h6, bAnd, bAt, bOr] at har; omega)
                rw [hp0, hp1]
                rw [hp0] at hg0
                rw [hp1] at hg1
                generalize genE e0 = p0 at c0 hg0
                generalize genE e1 = p1 at c1 hg1
                have cc := gen_choice hE p0 [⟨bPush, vBool true, 0⟩] p1 (by simp; omega)
                generalize choiceP p0 [⟨bPush, vBool true, 0⟩] p1 = q at cc
                refine Ok.run hmix hA false 2000 (by cbv) ?_
                refine Ok.dop (idx_view (E.ex e0) (by cbv) (by cbv) (by simp) (by rw [E.exs_eq hE]; simp [he0]) rfl) ?_
                refine Ok.run hmix hA false 2000 (by cbv) ?_
                refine Ok.dcall (c0) (by cbv) (by cbv) (by cbv) ?_
                refine Ok.run hmix hA false 2000 (by cbv) ?_
                refine Ok.dcall (val_Bool hE true) (by cbv) (by cbv) (by cbv) ?_
                refine Ok.run hmix hA false 2000 (by cbv) ?_
                refine Ok.dcall (gen_push hE (vBool true)) (by cbv) (by cbv) (by cbv) ?_
                refine Ok.run hmix hA false 2000 (by cbv) ?_
                refine Ok.dop (idx_view (E.ex e1) (by cbv) (by cbv) (by simp) (by rw [E.exs_eq hE]; simp [he1]) rfl) ?_
                refine Ok.run hmix hA false 2000 (by cbv) ?_
                refine Ok.dcall (c1) (by cbv) (by cbv) (by cbv) ?_
                refine Ok.run hmix hA false 2000 (by cbv) ?_
                refine Ok.dcall (cc) (by cbv) (by cbv) (by cbv) ?_
                refine Ok.run hmix hA false 2000 (by cbv) ?_
                refine Ok.drawn (by kernel_rfl) ?_
                refine Ok.run hmix hA false 2000 (by cbv) ?_
                exact Ok.fin (by cbv) (FS.out (by cbv) (PLe.refl _))
              · intro h6
                have h6 : ¬ op = bOr := by rw [Ar.seq_eq hA, decide_eq_false_iff_not] at h6; exact h6
                rw [if_neg h6]
                refine Ok.run hmix hA false 2000 (by cbv) ?_
                refine Ok.cond (by cbv) ?_ ?_
                · intro h7
                  have h7 : op = bIf := by rw [Ar.seq_eq hA, decide_eq_true_eq] at h7; exact h7
                  rw [if_pos h7]
                  obtain ⟨e0, he0, hp0, c0⟩ := hat 0 (by simp [arity, h7, bAnd, bAt, bOr, bIf] at har; omega)
                  obtain ⟨e1, he1, hp1, c1⟩ := hat 1 (by simp [arity, h7, bAnd, bAt, bOr, bIf] at har; omega)
                  obtain ⟨e2, he2, hp2, c2⟩ := hat 2 (by simp [arity, h7, bAnd, bAt, bOr, bIf] at har; omega)
                  rw [hp0, hp1, hp2]
                  rw [hp0] at hg0
                  rw [hp1] at hg1
                  rw [hp2] at hg2
                  generalize genE e0 = p0 at c0 hg0
                  generalize genE e1 = p1 at c1 hg1
                  generalize genE e2 = p2 at c2 hg2
                  have cc := gen_choice hE p0 p1 p2 (by omega)
                  generalize choiceP p0 p1 p2 = q at cc
                  refine Ok.run hmix hA false 2000 (by cbv) ?_
                  refine Ok.dop (idx_view (E.ex e0) (by cbv) (by cbv) (by simp) (by rw [E.exs_eq hE]; simp [he0]) rfl) ?_
                  refine Ok.run hmix hA false 2000 (by cbv) ?_
                  refine Ok.dcall (c0) (by cbv) (by cbv) (by cbv) ?_
                  refine Ok.run hmix hA false 2000 (by cbv) ?_
                  refine Ok.dop (idx_view (E.ex e1) (by cbv) (by cbv) (by simp) (by rw [E.exs_eq hE]; simp [he1]) rfl) ?_
                  refine Ok.run hmix hA false 2000 (by cbv) ?_
                  refine Ok.dcall (c1) (by cbv) (by cbv) (by cbv) ?_
                  refine Ok.run hmix hA false 2000 (by cbv) ?_
                  refine Ok.dop (idx_view (E.ex e2) (by cbv) (by cbv) (by simp) (by rw [E.exs_eq hE]; simp [he2]) rfl) ?_
                  refine Ok.run hmix hA false 2000 (by cbv) ?_
                  refine Ok.dcall (c2) (by cbv) (by cbv) (by cbv) ?_
                  refine Ok.run hmix hA false 2000 (by cbv) ?_
                  refine Ok.dcall (cc) (by cbv) (by cbv) (by cbv) ?_
                  refine Ok.run hmix hA false 2000 (by cbv) ?_
                  refine Ok.drawn (by kernel_rfl) ?_
                  refine Ok.run hmix hA false 2000 (by cbv) ?_
                  exact Ok.fin (by cbv) (FS.out (by cbv) (PLe.refl _))
                · intro h7
                  have h7 : ¬ op = bIf := by rw [Ar.seq_eq hA, decide_eq_false_iff_not] at h7; exact h7
                  rw [if_neg h7]
                  have cj := gen_join' hE [pe, [⟨op, .zero, 0⟩]] (by rw [joinTo_len]; simp; omega) (by simp)
                  rw [← hpe]
                  generalize joinTo [] [pe, [⟨op, .zero, 0⟩]] = q at cj
                  simp only [E.inss_eq hE, List.map_cons, List.map_nil] at cj
                  refine Ok.run hmix hA false 2000 (by cbv) ?_
                  refine Ok.dcall (ceach) (by cbv) (by cbv) (by cbv) ?_
                  refine Ok.run hmix hA false 2000 (by cbv) ?_
                  refine Ok.dcall (gen_one hE op 0) (by cbv) (by cbv) (by cbv) ?_
                  refine Ok.run hmix hA false 2000 (by cbv) ?_
                  refine Ok.dcall (cj) (by cbv) (by cbv) (by cbv) ?_
                  refine Ok.run hmix hA false 2000 (by cbv) ?_
                  refine Ok.drawn (by kernel_rfl) ?_
                  refine Ok.run hmix hA false 2000 (by cbv) ?_
                  exact Ok.fin (by cbv) (FS.out (by cbv) (PLe.refl _))
end Go.Proofs.Ytnojmocoifodjaa.Pv
set_option maxRecDepth 100000
set_option maxHeartbeats 4000000
set_option linter.unusedVariables false
set_option linter.unusedSimpArgs false
namespace Go.Proofs.Ytnojmocoifodjaa.Pv
open Go Go.Proofs
def bEmit : List UInt8 := [101, 109, 105, 116]
def bRet : List UInt8 := [114, 101, 116]
def iX : In := ⟨bX, .zero, 0⟩
def emitsP (n : Int) : List In := [⟨bEmit, .zero, n⟩, ⟨bRet, .zero, 0⟩]
def genOf (o : Opn) : List In :=
  if o.kind = 2 ∨ o.kind = 4 ∨ o.kind = 5 then joinTo [] [eachP [] (genAll o.e), emitsP o.e.length]
  else if o.kind = 3 then
    setN (joinTo [] [eachP [] (genAll o.e), [iJf], [iX], emitsP 1]) (eachP [] (genAll o.e)).length (((eachP [] (genAll o.e)).length + 3 : Nat) : Int)
  else joinTo [] [[iX], emitsP 1]
def genKey (o : Opn) : List In := joinTo [] [genE o.key, emitsP 1]
theorem genAll_le (a : List Ex4) : ((genAll a).map List.length).sum ≤ sizEs a := sumAll (fun e he => genE_le _ e (Nat.le_refl _))
theorem sizEs_len : ∀ a : List Ex4, a.length ≤ sizEs a
  | [] => by simp
  | e :: a => by have := sizEs_len a; rw [sizEs, List.length_cons]; cases e; rw [sizE]; omega
theorem gen_each' {E : Enc} (hE : E = .std) (a : List Ex4) (hwa : wfEs a) (hsz : sizEs a ≤ 2 ^ 27) : CallsV Try.prog 60 [.view (E .exs a), .func 25 []] (.pv (.view (E .ins (eachP [] (genAll a))))) [] := by
  have h1 := genAll_le a
  have h2 := sizEs_len a
  have hEe : eachP [] (genAll a) = eachP [] (a.map genE) := by rw [genAll_eq]
  have := gen_each hE 25 a genE (fun e he => gen_Expr hE _ e (Nat.le_refl _) (wfEs_mem hwa he) (Nat.le_trans (sizEs_mem he) (by omega))) (by rw [← hEe, eachP_len]; simp; omega) (by omega)
  rw [← hEe] at this
  exact this
theorem gen_Of {E : Enc} (hE : E = .std) (o : Opn) (hwa : wfEs o.e) (hsz : sizEs o.e ≤ 2 ^ 27) : CallsV Try.prog 20 [E.opn o] (.pv (.view (E .ins (genOf o)))) [] := by
  obtain ⟨kind, name, ty, e, key, fold, n⟩ := o
  obtain ⟨A, hA⟩ : ∃ A : Ar, A = .std := ⟨_, rfl⟩
  have h1 := genAll_le e
  have h2 := sizEs_len e
  have ceach := gen_each' hE e hwa hsz
  obtain ⟨pe, hpe⟩ : ∃ p, p = eachP [] (genAll e) := ⟨_, rfl⟩
  have hpel : pe.length ≤ 2 ^ 28 := by rw [hpe, eachP_len]; simp at hsz ⊢; omega
  rw [← hpe] at ceach
  have hla : A .lenP (E .exs e) = Int.ofNat e.length := by rw [Ar.lenP_eq hA, E.exs_eq hE, List.length_map]; rfl
  have hcj : ∃ q, q = joinTo [] [pe, emitsP e.length] ∧ CallsV Try.prog 59 [.view [.view (E .ins pe), .view (E .ins (emitsP e.length))]] (.pv (.view (E .ins q))) [] := by
    refine ⟨_, rfl, ?_⟩
    have cj := gen_join' hE [pe, emitsP e.length] (by rw [joinTo_len]; simp [emitsP]; omega) (by simp)
    simpa only [E.inss_eq hE, List.map_cons, List.map_nil] using cj
  obtain ⟨q, hq, cj⟩ := hcj
  refine CallsV.ok (fn := Try.f20) (by kernel_rfl) (by kernel_rfl) rfl (by cbv) (by cbv) ?_
  by_cases k2 : kind = 2
  · have hs : genOf ⟨kind, name, ty, e, key, fold, n⟩ = q := by simp [genOf, k2, hq, hpe]
    rw [hs]
    have e2 : A .eq kind 2 = true := by rw [Ar.eq_eq hA]; exact decide_eq_true k2
    refine Ok.run hmix hA false 2000 (by cbv) ?_
    rw [e2]
    refine Ok.condT (by cbv) ?_
    refine Ok.run hmix hA false 2000 (by cbv) ?_
    refine Ok.condT (by cbv) ?_
    refine Ok.run hmix hA false 2000 (by cbv) ?_
    refine Ok.dcall (ceach) (by cbv) (by cbv) (by cbv) ?_
    refine Ok.run hmix hA false 2000 (by cbv) ?_
    rw [hla]
    refine Ok.dcall (gen_emits hE (Int.ofNat e.length)) (by cbv) (by cbv) (by cbv) ?_
    refine Ok.run hmix hA false 2000 (by cbv) ?_
    refine Ok.dcall (cj) (by cbv) (by cbv) (by cbv) ?_
    refine Ok.run hmix hA false 2000 (by cbv) ?_
    refine Ok.drawn (by kernel_rfl) ?_
    refine Ok.run hmix hA false 2000 (by cbv) ?_
    exact Ok.fin (by cbv) (FS.out (by cbv) (PLe.refl _))
  have e2 : A .eq kind 2 = false := by rw [Ar.eq_eq hA]; exact decide_eq_false k2
  refine Ok.run hmix hA false 2000 (by cbv) ?_
  rw [e2]
  refine Ok.condF (by cbv) ?_
  refine Ok.run hmix hA false 2000 (by cbv) ?_
  by_cases k4 : kind = 4
  · have hs : genOf ⟨kind, name, ty, e, key, fold, n⟩ = q := by simp [genOf, k4, hq, hpe]
    rw [hs]
    have e4 : A .eq kind 4 = true := by rw [Ar.eq_eq hA]; exact decide_eq_true k4
    rw [e4]
    refine Ok.condT (by cbv) ?_
    refine Ok.run hmix hA false 2000 (by cbv) ?_
    refine Ok.condT (by cbv) ?_
    refine Ok.run hmix hA false 2000 (by cbv) ?_
    refine Ok.dcall (ceach) (by cbv) (by cbv) (by cbv) ?_
    refine Ok.run hmix hA false 2000 (by cbv) ?_
    rw [hla]
    refine Ok.dcall (gen_emits hE (Int.ofNat e.length)) (by cbv) (by cbv) (by cbv) ?_
    refine Ok.run hmix hA false 2000 (by cbv) ?_
    refine Ok.dcall (cj) (by cbv) (by cbv) (by cbv) ?_
    refine Ok.run hmix hA false 2000 (by cbv) ?_
    refine Ok.drawn (by kernel_rfl) ?_
    refine Ok.run hmix hA false 2000 (by cbv) ?_
    exact Ok.fin (by cbv) (FS.out (by cbv) (PLe.refl _))
  have e4 : A .eq kind 4 = false := by rw [Ar.eq_eq hA]; exact decide_eq_false k4
  rw [e4]
  refine Ok.condF (by cbv) ?_
  refine Ok.run hmix hA false 2000 (by cbv) ?_
  by_cases k5 : kind = 5
  · have hs : genOf ⟨kind, name, ty, e, key, fold, n⟩ = q := by simp [genOf, k5, hq, hpe]
    rw [hs]
    have e5 : A .eq kind 5 = true := by rw [Ar.eq_eq hA]; exact decide_eq_true k5
    rw [e5]
    refine Ok.condT (by cbv) ?_
    refine Ok.run hmix hA false 2000 (by cbv) ?_
    refine Ok.dcall (ceach) (by cbv) (by cbv) (by cbv) ?_
    refine Ok.run hmix hA false 2000 (by cbv) ?_
    rw [hla]
    refine Ok.dcall (gen_emits hE (Int.ofNat e.length)) (by cbv) (by cbv) (by cbv) ?_
    refine Ok.run hmix hA false 2000 (by cbv) ?_
    refine Ok.dcall (cj) (by cbv) (by cbv) (by cbv) ?_
    refine Ok.run hmix hA false 2000 (by cbv) ?_
    refine Ok.drawn (by kernel_rfl) ?_
    refine Ok.run hmix hA false 2000 (by cbv) ?_
    exact Ok.fin (by cbv) (FS.out (by cbv) (PLe.refl _))
  have e5 : A .eq kind 5 = false := by rw [Ar.eq_eq hA]; exact decide_eq_false k5
  rw [e5]
  refine Ok.condF (by cbv) ?_
  refine Ok.run hmix hA false 2000 (by cbv) ?_
  by_cases k3 : kind = 3
  · have e3 : A .eq kind 3 = true := by rw [Ar.eq_eq hA]; exact decide_eq_true k3
    rw [e3]
    refine Ok.condT (by cbv) ?_
    obtain ⟨out, hout⟩ : ∃ out, out = joinTo [] [pe, [iJf], [iX], emitsP 1] := ⟨_, rfl⟩
    have hlen : out.length = pe.length + 4 := by rw [hout, joinTo_len]; simp [emitsP]
    obtain ⟨no, hno⟩ : ∃ no, no = out.length := ⟨_, rfl⟩
    obtain ⟨la, hla⟩ : ∃ la, la = pe.length := ⟨_, rfl⟩
    have ea : A .sub .i64 (Int.ofNat no) 4 = Int.ofNat la := by
      rw [Ar.sub_eq hA]
      show IntKind.wrap .i64 ((no : Int) - 4) = (la : Int)
      rw [IntWalk.i64_in _ ⟨by omega, by omega⟩]; omega
    obtain ⟨l3, hl3⟩ : ∃ l3, l3 = la + 3 := ⟨_, rfl⟩
    have eb : A .sub .i64 (Int.ofNat no) 1 = Int.ofNat l3 := by
      rw [Ar.sub_eq hA]
      show IntKind.wrap .i64 ((no : Int) - 1) = (l3 : Int)
      rw [IntWalk.i64_in _ ⟨by omega, by omega⟩]; omega
    have eno : A .lenN no = Int.ofNat no := Ar.lenN_eq hA no
    have c0 := gen_join hE [pe, [iJf], [iX], emitsP 1] (by rw [← hout]; omega) (by simp)
    rw [← hout, ← hno] at c0
    simp only [E.inss_eq hE, List.map_cons, List.map_nil] at c0
    obtain ⟨xa, hxa⟩ : ∃ x, out[la]? = some x := ⟨_, List.getElem?_eq_getElem (by omega)⟩
    obtain ⟨out2, hout2⟩ : ∃ o, o = setN out la (Int.ofNat l3) := ⟨_, rfl⟩
    have hs : genOf ⟨kind, name, ty, e, key, fold, n⟩ = out2 := by
      rw [hout2, hout, hl3, hla, hpe]; simp [genOf, k3]
    rw [hs]
    refine Ok.run hmix hA false 2000 (by cbv) ?_
    refine Ok.call (ceach) (by cbv) (by cbv) (by cbv) ?_
    refine Ok.run hmix hA false 2000 (by cbv) ?_
    refine Ok.call (gen_one hE [106, 102] 0) (by cbv) (by cbv) (by cbv) ?_
    refine Ok.run hmix hA false 2000 (by cbv) ?_
    refine Ok.call (gen_one hE [120] 0) (by cbv) (by cbv) (by cbv) ?_
    refine Ok.run hmix hA false 2000 (by cbv) ?_
    refine Ok.call (gen_emits hE 1) (by cbv) (by cbv) (by cbv) ?_
    refine Ok.run hmix hA false 2000 (by cbv) ?_
    refine Ok.call c0 (by cbv) (by cbv) (by cbv) ?_
    refine Ok.run hmix hA false 2000 (by cbv) ?_
    rw [eno, ea, eb]
    refine Ok.op (idx_ref (by cbv) (by cbv) (by cbv) (by rw [E.ins_eq hE, List.length_map, hno]) la rfl (by omega)) ?_
    refine Ok.run hmix hA false 2000 (by cbv) ?_
    refine Ok.op (fld_eptr (by cbv) (by cbv) (by rw [E.ins_eq hE, List.length_map, hno])) ?_
    refine Ok.run hmix hA false 2000 (by cbv) ?_
    refine Ok.op (store_eptr (by cbv) (by cbv) (by rw [E.ins_eq hE, List.length_map, hno]) (E.inn xa) (by rw [E.ins_eq hE]; simp [hxa]) (by cbv) (by decide) (by exact ⟨rfl, by decide, by simp [Enc.inn, PV.cells], rfl⟩) (E .ins out2) (by rw [hout2, setN_pv hE hxa]; rfl)) ?_
    refine Ok.run hmix hA false 2000 (by cbv) ?_
    exact Ok.fin (by cbv) (FS.ref (by cbv) (by rw [E.ins_eq hE, List.length_map, hno, hout2, setN_len]))
  · have e3 : A .eq kind 3 = false := by rw [Ar.eq_eq hA]; exact decide_eq_false k3
    rw [e3]
    refine Ok.condF (by cbv) ?_
    have hs : genOf ⟨kind, name, ty, e, key, fold, n⟩ = joinTo [] [[iX], emitsP 1] := by simp [genOf, k2, k3, k4, k5]
    rw [hs]
    refine Ok.run hmix hA false 2000 (by cbv) ?_
    refine Ok.call (gen_one hE [120] 0) (by cbv) (by cbv) (by cbv) ?_
    refine Ok.run hmix hA false 2000 (by cbv) ?_
    refine Ok.call (gen_emits hE 1) (by cbv) (by cbv) (by cbv) ?_
    refine Ok.run hmix hA false 2000 (by cbv) ?_
    (have c0 := gen_join' hE [[iX], emitsP 1] (by decide) (by decide); simp only [E.inss_eq hE, List.map_cons, List.map_nil] at c0; refine Ok.call c0 (by cbv) (by cbv) (by cbv) ?_)
    refine Ok.run hmix hA false 2000 (by cbv) ?_
    exact Ok.fin (by cbv) (FS.out (by cbv) (PLe.refl _))
theorem gen_Key {E : Enc} (hE : E = .std) (o : Opn) (hwa : wfE o.key) (hsz : sizE o.key ≤ 2 ^ 27) : CallsV Try.prog 23 [E.opn o] (.pv (.view (E .ins (genKey o)))) [] := by
  obtain ⟨kind, name, ty, e, ⟨op, v, k, a⟩, fold, n⟩ := o
  obtain ⟨A, hA⟩ : ∃ A : Ar, A = .std := ⟨_, rfl⟩
  have h1 := genE_le _ (Ex4.mk op v k a) (Nat.le_refl _)
  have c1 := gen_Expr hE _ (Ex4.mk op v k a) (Nat.le_refl _) hwa hsz
  unfold genKey
  simp only [] at h1 hsz ⊢
  generalize genE (Ex4.mk op v k a) = pe at h1 c1
  have cj := gen_join' hE [pe, emitsP 1] (by rw [joinTo_len]; simp [emitsP]; omega) (by simp)
  simp only [E.inss_eq hE, List.map_cons, List.map_nil] at cj
  generalize joinTo [] [pe, emitsP 1] = q at cj
  refine CallsV.ok (fn := Try.f23) (by kernel_rfl) (by kernel_rfl) rfl (by cbv) (by cbv) ?_
  refine Ok.run hmix hA false 2000 (by cbv) ?_
  refine Ok.call (c1) (by cbv) (by cbv) (by cbv) ?_
  refine Ok.run hmix hA false 2000 (by cbv) ?_
  refine Ok.call (gen_emits hE 1) (by cbv) (by cbv) (by cbv) ?_
  refine Ok.run hmix hA false 2000 (by cbv) ?_
  refine Ok.call (cj) (by cbv) (by cbv) (by cbv) ?_
  refine Ok.run hmix hA false 2000 (by cbv) ?_
  exact Ok.fin (by cbv) (FS.out (by cbv) (PLe.refl _))
theorem law4_X {E : Enc} (hE : E = .std) : CallsV Try.prog 27 [] (.pv (E.ex ⟨bX, .zero, 0, []⟩)) [] := by
  obtain ⟨A, hA⟩ : ∃ A : Ar, A = .std := ⟨_, rfl⟩
  have h0 : E .vls [] = [] := by rw [E.vls_eq hE]; rfl
  have h1 : E .exs [] = [] := by rw [E.exs_eq hE]; rfl
  refine CallsV.ok (fn := Try.f27) (by kernel_rfl) (by kernel_rfl) rfl (by cbv) (by cbv) ?_
  refine Ok.run hmix hA false 2000 (by cbv) ?_
  refine Ok.fin (by cbv) (FS.out (by cbv) (PLe.of ?_))
  simp [Enc.ex, Vl.zero, h0, h1, bX]
theorem law4_Op {E : Enc} (hE : E = .std) (op : List UInt8) (a : List Ex4) : CallsV Try.prog 28 [.str op, .view (E .exs a)] (.pv (E.ex ⟨op, .zero, 0, a⟩)) [] := by
  obtain ⟨A, hA⟩ : ∃ A : Ar, A = .std := ⟨_, rfl⟩
  have h0 : E .vls [] = [] := by rw [E.vls_eq hE]; rfl
  refine CallsV.ok (fn := Try.f28) (by kernel_rfl) (by kernel_rfl) rfl (by cbv) (by cbv) ?_
  refine Ok.run hmix hA false 2000 (by cbv) ?_
  refine Ok.fin (by cbv) (FS.out (by cbv) (PLe.of ?_))
  simp [Enc.ex, Vl.zero, h0]
theorem law4_Lit {E : Enc} (hE : E = .std) (v : Vl) : CallsV Try.prog 29 [E.vl v] (.pv (E.ex ⟨bLit, v, 0, []⟩)) [] := by
  obtain ⟨A, hA⟩ : ∃ A : Ar, A = .std := ⟨_, rfl⟩
  have h1 : E .exs [] = [] := by rw [E.exs_eq hE]; rfl
  refine CallsV.ok (fn := Try.f29) (by kernel_rfl) (by kernel_rfl) rfl (by cbv) (by cbv) ?_
  refine Ok.run hmix hA false 2000 (by cbv) ?_
  refine Ok.fin (by cbv) (FS.out (by cbv) (PLe.of ?_))
  simp [Enc.ex, h1, bLit]
end Go.Proofs.Ytnojmocoifodjaa.Pv
set_option maxRecDepth 100000
set_option maxHeartbeats 4000000
set_option linter.unusedVariables false
set_option linter.unusedSimpArgs false
namespace Go.Proofs.Ytnojmocoifodjaa.Pv
open Go Go.Proofs
mutual
def szV : Vl → Nat
  | .mk k i b s t => 1 + szVs t
def szVs : List Vl → Nat
  | [] => 0
  | v :: l => szV v + szVs l
end
theorem szVs_mem : ∀ {l : List Vl} {e : Vl}, e ∈ l → szV e ≤ szVs l
  | [], e, he => by simp at he
  | x :: l, e, he => by
    rw [szVs]
    rcases List.mem_cons.1 he with rfl | he
    · omega
    · have := szVs_mem he; omega
theorem szVs_len : ∀ a : List Vl, a.length ≤ szVs a
  | [] => by simp
  | e :: a => by have := szVs_len a; rw [szVs, List.length_cons]; cases e; rw [szV]; omega
theorem law2_Of {E : Enc} (hE : E = .std) : ∀ (n : Nat) (v : Vl), SizeOf.sizeOf v ≤ n → szV v ≤ 2 ^ 28 → CallsV Try.prog 69 [E.vl v] (.pv (E.vl v)) [] := by
  intro n
  induction n with
  | zero => intro v h; cases v; simp at h
  | succ n ih =>
    rintro ⟨kind, vi, vb, vs, l⟩ hn hsz
    obtain ⟨A, hA⟩ : ∃ A : Ar, A = .std := ⟨_, rfl⟩
    rw [szV] at hsz
    have hlen := szVs_len l
    have hsub : ∀ e, e ∈ l → CallsV Try.prog 69 [E.vl e] (.pv (E.vl e)) [] := fun e he => by
      have h1 := List.sizeOf_lt_of_mem he
      have h2 := szVs_mem he
      simp at hn
      exact ih e (by omega) (by omega)
    have hll : A .lenP (E .vls l) = Int.ofNat l.length := by rw [Ar.lenP_eq hA, E.vls_eq hE, List.length_map]; rfl
    refine CallsV.ok (fn := Try.f69) (by kernel_rfl) (by kernel_rfl) rfl (by cbv) (by cbv) ?_
    refine Ok.run hmix hA false 2000 (by cbv) ?_
    refine Ok.le (Le.nilBox 3 4 30 42 5 (by cbv) (by cbv) (by cbv) (by decide)) ?_
    refine Ok.loopAt [1, 2, 3, 4] [1, 2, 3, 30] (fun m s h => ∃ (k q : Nat) (es : List PV), m = l.length - k ∧ k ≤ l.length ∧ q = k ∧ es = E .vls (l.take k) ∧
      s = mkS 33 [(1, .ptr 1 0), (2, .ptr 2 0), (3, .ptr 3 0), (4, .pv (.int .i64 (Int.ofNat k)))] ∧
      h = [(1, .box [.pv (.int .i64 kind), .pv (.int .i64 vi), .pv (.bool vb), .pv (.str vs), .pv (.view (E .vls l))] true), (2, .box [.pv (.int .i64 0), .pv (.int .i64 0), .pv (.bool false), .pv (.str []), .pv .nil] true),
        (3, .box [.pv (.int .i64 kind), .pv (.int .i64 vi), .pv (.bool vb), .pv (.str vs), .ref 30 q] true), (30, .row 42 5 es true)]) (l.length - 0) (by cbv) ⟨0, 0, [], rfl, Nat.zero_le _, rfl, by rw [E.vls_eq hE]; rfl, by cbv, by cbv⟩ ?_
    rintro m s h ⟨k, q, es, rfl, hk, hq, hes, rfl, rfl⟩
    have hesl : q = es.length := by rw [hes, E.vls_eq hE, List.length_map, List.length_take]; omega
    refine Ok.run hmix hA false 2000 (by cbv) ?_
    refine Ok.cond (by cbv) ?_ ?_
    · intro h1
      rw [Ar.lt_eq hA, hll, decide_eq_true_eq] at h1
      have hkl : k < l.length := by simpa using h1
      have hx : l[k]? = some l[k] := List.getElem?_eq_getElem hkl
      have hm : l[k] ∈ l := List.getElem_mem hkl
      have htake : l.take (k + 1) = l.take k ++ [l[k]] := by rw [List.take_add_one, hx]; rfl
      generalize l[k] = e at hx hm htake
      have hge := hsub e hm
      refine Ok.run hmix hA false 2000 (by cbv) ?_
      refine Ok.dop (idx_view (E.vl e) (by cbv) (by cbv) (by simp) (by rw [E.vls_eq hE]; simp [hx]) rfl) ?_
      refine Ok.run hmix hA false 2000 (by cbv) ?_
      refine Ok.dcall (hge) (by cbv) (by cbv) (by cbv) ?_
      refine Ok.run hmix hA false 2000 (by cbv) ?_
      obtain ⟨es3, hes3⟩ : ∃ es3, es3 = es ++ [E.vl e] := ⟨_, rfl⟩
      obtain ⟨n3, hn3⟩ : ∃ n3, n3 = q + 1 := ⟨_, rfl⟩
      refine Ok.dop (app_ref (by cbv) (by cbv) hesl (by cbv) (by cbv) (by decide) (by simp only [List.length_singleton]; omega) (by unfold maxLen; simp only [List.length_singleton]; omega) n3 (by exact hn3) es3 (by rw [hes3]; rfl)) ?_
      refine Ok.run hmix hA false 2000 (by cbv) ?_
      refine Ok.drawn (by kernel_rfl) ?_
      refine Ok.run hmix hA false 2000 (by cbv) ?_
      refine Ok.back (l.length - (k + 1)) [1, 2, 3, 4] [1, 2, 3, 30] (by omega) (by cbv) ⟨k + 1, n3, es3, rfl, by omega, by omega, by rw [hes3, hes, htake, E.vls_eq hE, E.vls_eq hE]; simp, ?_, by cbv⟩
      rw [Ar.succ_eq hA (by omega)]; cbv
    · intro h1
      have hke : k = l.length := by
        rw [Ar.lt_eq hA, hll, decide_eq_false_iff_not] at h1
        simp at h1; omega
      subst hke
      rw [List.take_length] at hes
      subst hes
      refine Ok.run hmix hA false 2000 (by cbv) ?_
      refine Ok.leave ?_
      refine Ok.run hmix hA false 2000 (by cbv) ?_
      exact Ok.fin (by cbv) (FS.out (p := E.vl ⟨kind, vi, vb, vs, l⟩) (ids := [30]) (by simp [frz2, frz1, frzL, frz0, PV.rlx, rowOf, hget, ← hesl, Enc.vl]) (PLe.refl _))
end Go.Proofs.Ytnojmocoifodjaa.Pv
set_option maxRecDepth 100000
set_option maxHeartbeats 4000000
set_option linter.unusedVariables false
set_option linter.unusedSimpArgs false
namespace Go.Proofs.Ytnojmocoifodjaa.Pv
open Go Go.Proofs
def lessZ (b : Bool) : Int := if b then -1 else 1
mutual
def cmpV : Vl → Vl → Int
  | .mk k i b s t, .mk k' i' b' s' t' =>
    if ¬ k = k' then lessZ (decide (k < k'))
    else if ¬ i = i' then lessZ (decide (i < i'))
    else if ¬ b = b' then lessZ b'
    else if ¬ s = s' then lessZ (Op.bytesLess s s')
    else cmpVs t t'
def cmpVs : List Vl → List Vl → Int
  | [], [] => 0
  | [], _ :: _ => -1
  | _ :: _, [] => 1
  | x :: l, y :: m => if ¬ cmpV x y = 0 then cmpV x y else cmpVs l m
end
mutual
theorem cmpV_refl : ∀ v, cmpV v v = 0
  | .mk k i b s t => by simp [cmpV, cmpVs_refl t]
theorem cmpVs_refl : ∀ l, cmpVs l l = 0
  | [] => rfl
  | x :: l => by simp [cmpVs, cmpV_refl x, cmpVs_refl l]
end
theorem ref6_less (b : Bool) : CallsV Try.prog 160 [.bool b] (.pv (.int .i64 (lessZ b))) [] := by
  obtain ⟨A, hA⟩ : ∃ A : Ar, A = .std := ⟨_, rfl⟩
  refine CallsV.ok (fn := Try.f160) (by kernel_rfl) (by kernel_rfl) rfl (by cbv) (by cbv) ?_
  cases b
  · refine Ok.run hmix hA false 2000 (by cbv) ?_
    refine Ok.condF (by cbv) ?_
    refine Ok.run hmix hA false 2000 (by cbv) ?_
    exact Ok.fin (by cbv) (FS.out (by cbv) (PLe.refl _))
  · refine Ok.run hmix hA false 2000 (by cbv) ?_
    refine Ok.condT (by cbv) ?_
    refine Ok.run hmix hA false 2000 (by cbv) ?_
    have h1 : A .sub .i64 0 1 = -1 := by rw [Ar.sub_eq hA]; decide
    try rw [h1]
    exact Ok.fin (by cbv) (FS.out (by cbv) (PLe.refl _))
theorem ref6_Compare {E : Enc} (hE : E = .std) : ∀ (n : Nat) (v w : Vl), SizeOf.sizeOf v ≤ n → szV v ≤ 2 ^ 28 → szV w ≤ 2 ^ 28 → CallsV Try.prog 141 [E.vl v, E.vl w] (.pv (.int .i64 (cmpV v w))) [] := by
  intro n
  induction n with
  | zero => intro v w h; cases v; simp at h
  | succ n ih =>
    rintro ⟨k1, i1, b1, s1, l⟩ ⟨k2, i2, b2, s2, m⟩ hn hsz hsw
    obtain ⟨A, hA⟩ : ∃ A : Ar, A = .std := ⟨_, rfl⟩
    rw [szV] at hsz hsw
    have hlen := szVs_len l
    have hlem := szVs_len m
    have hll : A .lenP (E .vls l) = Int.ofNat l.length := by rw [Ar.lenP_eq hA, E.vls_eq hE, List.length_map]; rfl
    have hlm : A .lenP (E .vls m) = Int.ofNat m.length := by rw [Ar.lenP_eq hA, E.vls_eq hE, List.length_map]; rfl
    refine CallsV.ok (fn := Try.f141) (by kernel_rfl) (by kernel_rfl) rfl (by cbv) (by cbv) ?_
    refine Ok.run hmix hA false 2000 (by cbv) ?_
    refine Ok.cond (by cbv) ?_ ?_
    · intro h1
      have h1 : ¬ k1 = k2 := by rw [Ar.not_eq hA, Ar.eq_eq hA] at h1; simpa using h1
      rw [cmpV, if_pos h1]
      refine Ok.run hmix hA false 2000 (by cbv) ?_
      rw [Ar.lt_eq hA]
      obtain ⟨b, hb⟩ : ∃ b, b = decide (k1 < k2) := ⟨_, rfl⟩
      rw [← hb]
      refine Ok.call (ref6_less b) (by cbv) (by cbv) (by cbv) ?_
      refine Ok.run hmix hA false 2000 (by cbv) ?_
      exact Ok.fin (by cbv) (FS.out (by cbv) (PLe.refl _))
    intro h1
    have h1 : k1 = k2 := by rw [Ar.not_eq hA, Ar.eq_eq hA] at h1; simpa using h1
    refine Ok.run hmix hA false 2000 (by cbv) ?_
    refine Ok.cond (by cbv) ?_ ?_
    · intro h2
      have h2 : ¬ i1 = i2 := by rw [Ar.not_eq hA, Ar.eq_eq hA] at h2; simpa using h2
      rw [cmpV, if_neg (by simpa using h1), if_pos h2]
      refine Ok.run hmix hA false 2000 (by cbv) ?_
      rw [Ar.lt_eq hA]
      obtain ⟨b, hb⟩ : ∃ b, b = decide (i1 < i2) := ⟨_, rfl⟩
      rw [← hb]
      refine Ok.call (ref6_less b) (by cbv) (by cbv) (by cbv) ?_
      refine Ok.run hmix hA false 2000 (by cbv) ?_
      exact Ok.fin (by cbv) (FS.out (by cbv) (PLe.refl _))
    intro h2
    have h2 : i1 = i2 := by rw [Ar.not_eq hA, Ar.eq_eq hA] at h2; simpa using h2
    refine Ok.run hmix hA false 2000 (by cbv) ?_
    refine Ok.cond (by cbv) ?_ ?_
    · intro h3
      have h3 : ¬ b1 = b2 := by rw [Ar.not_eq hA, Ar.beq_eq hA] at h3; simpa using h3
      rw [cmpV, if_neg (by simpa using h1), if_neg (by simpa using h2), if_pos h3]
      refine Ok.run hmix hA false 2000 (by cbv) ?_
      refine Ok.call (ref6_less b2) (by cbv) (by cbv) (by cbv) ?_
      refine Ok.run hmix hA false 2000 (by cbv) ?_
      exact Ok.fin (by cbv) (FS.out (by cbv) (PLe.refl _))
    intro h3
    have h3 : b1 = b2 := by rw [Ar.not_eq hA, Ar.beq_eq hA] at h3; simpa using h3
    refine Ok.run hmix hA false 2000 (by cbv) ?_
    refine Ok.cond (by cbv) ?_ ?_
    · intro h4
      have h4 : ¬ s1 = s2 := by rw [Ar.not_eq hA, Ar.seq_eq hA] at h4; simpa using h4
      rw [cmpV, if_neg (by simpa using h1), if_neg (by simpa using h2), if_neg (by simpa using h3), if_pos h4]
      refine Ok.run hmix hA false 2000 (by cbv) ?_
      rw [Ar.slt_eq hA]
      obtain ⟨b, hb⟩ : ∃ b, b = Op.bytesLess s1 s2 := ⟨_, rfl⟩
      rw [← hb]
      refine Ok.call (ref6_less b) (by cbv) (by cbv) (by cbv) ?_
      refine Ok.run hmix hA false 2000 (by cbv) ?_
      exact Ok.fin (by cbv) (FS.out (by cbv) (PLe.refl _))
    intro h4
    have h4 : s1 = s2 := by rw [Ar.not_eq hA, Ar.seq_eq hA] at h4; simpa using h4
    rw [cmpV, if_neg (by simpa using h1), if_neg (by simpa using h2), if_neg (by simpa using h3), if_neg (by simpa using h4)]
    refine Ok.run hmix hA false 2000 (by cbv) ?_
    refine Ok.loopAt [2, 3, 5] [2, 3] (fun mm s h => ∃ (k : Nat), mm = l.length - k ∧ k ≤ l.length ∧ k ≤ m.length ∧ cmpVs (l.drop k) (m.drop k) = cmpVs l m ∧
      s = mkS 95 [(2, .ptr 2 0), (3, .ptr 3 0), (5, .pv (.int .i64 (Int.ofNat k)))] ∧
      h = [(2, .box [.pv (.int .i64 k1), .pv (.int .i64 i1), .pv (.bool b1), .pv (.str s1), .pv (.view (E .vls l))] true), (3, .box [.pv (.int .i64 k2), .pv (.int .i64 i2), .pv (.bool b2), .pv (.str s2), .pv (.view (E .vls m))] true)]) (l.length - 0) (by cbv) ⟨0, rfl, Nat.zero_le _, Nat.zero_le _, rfl, by cbv, by cbv⟩ ?_
    rintro mm s h ⟨k, rfl, hk, hkm, hcmp, rfl, rfl⟩
    have stop : ∀ (b : Bool), b = false → (b = decide (k < l.length ∧ k < m.length)) → (¬ (k < l.length ∧ k < m.length)) := fun b h1 h2 => by rw [h1] at h2; simpa using h2
    refine Ok.run hmix hA false 2000 (by cbv) ?_
    by_cases hkl : k < l.length
    · have e1 : A .lt (Int.ofNat k) (A .lenP (E .vls l)) = true := by rw [Ar.lt_eq hA, hll]; simpa using hkl
      rw [e1]
      by_cases hkm2 : k < m.length
      · have e2 : A .lt (Int.ofNat k) (A .lenP (E .vls m)) = true := by rw [Ar.lt_eq hA, hlm]; simpa using hkm2
        refine Ok.run hmix hA true 5 (by cbv) ?_
        rw [e2]
        refine Ok.run hmix hA true 2000 (by cbv) ?_
        refine Ok.condT (by cbv) ?_
        have hx : l[k]? = some l[k] := List.getElem?_eq_getElem hkl
        have hm : l[k] ∈ l := List.getElem_mem hkl
        have hdl : l.drop k = l[k] :: l.drop (k + 1) := List.drop_eq_getElem_cons hkl
        have hy : m[k]? = some m[k] := List.getElem?_eq_getElem hkm2
        have hmm : m[k] ∈ m := List.getElem_mem hkm2
        have hdm : m.drop k = m[k] :: m.drop (k + 1) := List.drop_eq_getElem_cons hkm2
        generalize l[k] = x at hx hm hdl
        generalize m[k] = y at hy hmm hdm
        have cxy : CallsV Try.prog 141 [E.vl x, E.vl y] (.pv (.int .i64 (cmpV x y))) [] := by
          have h1 := List.sizeOf_lt_of_mem hm
          have h2 := szVs_mem hm
          have h3 := szVs_mem hmm
          simp at hn
          exact ih x y (by omega) (by omega) (by omega)
        rw [hdl, hdm, cmpVs] at hcmp
        obtain ⟨c, hc⟩ : ∃ c, c = cmpV x y := ⟨_, rfl⟩
        rw [← hc] at cxy hcmp
        refine Ok.run hmix hA false 2000 (by cbv) ?_
        refine Ok.dop (idx_view (E.vl x) (by cbv) (by cbv) (by simp) (by rw [E.vls_eq hE]; simp [hx]) rfl) ?_
        refine Ok.run hmix hA false 2000 (by cbv) ?_
        refine Ok.dop (idx_view (E.vl y) (by cbv) (by cbv) (by simp) (by rw [E.vls_eq hE]; simp [hy]) rfl) ?_
        refine Ok.run hmix hA false 2000 (by cbv) ?_
        refine Ok.dcall (cxy) (by cbv) (by cbv) (by cbv) ?_
        refine Ok.run hmix hA false 2000 (by cbv) ?_
        refine Ok.drawn (by kernel_rfl) ?_
        refine Ok.run hmix hA false 2000 (by cbv) ?_
        refine Ok.cond (by cbv) ?_ ?_
        · intro h5
          have h5 : ¬ c = 0 := by rw [Ar.not_eq hA, Ar.eq_eq hA] at h5; simpa using h5
          rw [if_pos h5] at hcmp
          rw [← hcmp]
          refine Ok.run hmix hA false 2000 (by cbv) ?_
          refine Ok.leaveRet ?_
          refine Ok.run hmix hA false 2000 (by cbv) ?_
          exact Ok.fin (by cbv) (FS.out (by cbv) (PLe.refl _))
        · intro h5
          have h5 : c = 0 := by rw [Ar.not_eq hA, Ar.eq_eq hA] at h5; simpa using h5
          rw [if_neg (by simpa using h5)] at hcmp
          refine Ok.run hmix hA false 2000 (by cbv) ?_
          refine Ok.back (l.length - (k + 1)) [2, 3, 5] [2, 3] (by omega) (by cbv) ⟨k + 1, rfl, by omega, by omega, hcmp, ?_, by cbv⟩
          rw [Ar.succ_eq hA (by omega)]; cbv
      · have e2 : A .lt (Int.ofNat k) (A .lenP (E .vls m)) = false := by rw [Ar.lt_eq hA, hlm]; simpa using hkm2
        have hke : k = m.length := by omega
        refine Ok.run hmix hA true 5 (by cbv) ?_
        rw [e2]
        refine Ok.run hmix hA true 2000 (by cbv) ?_
        refine Ok.condF (by cbv) ?_
        refine Ok.run hmix hA false 2000 (by cbv) ?_
        refine Ok.leave ?_
        refine Ok.run hmix hA false 2000 (by cbv) ?_
        have e3 : A .not (A .eq (A .lenP (E .vls l)) (A .lenP (E .vls m))) = true := by rw [hll, hlm, Ar.not_eq hA, Ar.eq_eq hA]; simp; omega
        have e4 : A .lt (A .lenP (E .vls l)) (A .lenP (E .vls m)) = false := by rw [hll, hlm, Ar.lt_eq hA]; simp; omega
        rw [e3]
        refine Ok.condT (by cbv) ?_
        refine Ok.run hmix hA false 2000 (by cbv) ?_
        rw [e4]
        refine Ok.call (ref6_less false) (by cbv) (by cbv) (by cbv) ?_
        refine Ok.run hmix hA false 2000 (by cbv) ?_
        have : cmpVs l m = 1 := by
          rw [← hcmp, hke, List.drop_length]
          have : l.drop m.length ≠ [] := by simp; omega
          cases h : l.drop m.length with
          | nil => exact absurd h this
          | cons a t => rfl
        rw [this]
        exact Ok.fin (by cbv) (FS.out (by cbv) (PLe.refl _))
    · have e1 : A .lt (Int.ofNat k) (A .lenP (E .vls l)) = false := by rw [Ar.lt_eq hA, hll]; simpa using hkl
      have hke : k = l.length := by omega
      rw [e1]
      refine Ok.run hmix hA true 2000 (by cbv) ?_
      refine Ok.condF (by cbv) ?_
      refine Ok.run hmix hA false 2000 (by cbv) ?_
      refine Ok.leave ?_
      refine Ok.run hmix hA false 2000 (by cbv) ?_
      by_cases hlm2 : l.length = m.length
      · have e3 : A .not (A .eq (A .lenP (E .vls l)) (A .lenP (E .vls m))) = false := by rw [hll, hlm, Ar.not_eq hA, Ar.eq_eq hA]; simp; omega
        rw [e3]
        refine Ok.condF (by cbv) ?_
        refine Ok.run hmix hA false 2000 (by cbv) ?_
        have : cmpVs l m = 0 := by rw [← hcmp, hke, List.drop_length, hlm2, List.drop_length]; rfl
        rw [this]
        exact Ok.fin (by cbv) (FS.out (by cbv) (PLe.refl _))
      · have e3 : A .not (A .eq (A .lenP (E .vls l)) (A .lenP (E .vls m))) = true := by rw [hll, hlm, Ar.not_eq hA, Ar.eq_eq hA]; simp; omega
        have e4 : A .lt (A .lenP (E .vls l)) (A .lenP (E .vls m)) = true := by rw [hll, hlm, Ar.lt_eq hA]; simp; omega
        rw [e3]
        refine Ok.condT (by cbv) ?_
        refine Ok.run hmix hA false 2000 (by cbv) ?_
        rw [e4]
        refine Ok.call (ref6_less true) (by cbv) (by cbv) (by cbv) ?_
        refine Ok.run hmix hA false 2000 (by cbv) ?_
        have : cmpVs l m = -1 := by
          rw [← hcmp, hke, List.drop_length]
          have : m.drop l.length ≠ [] := by simp; omega
          cases h : m.drop l.length with
          | nil => exact absurd h this
          | cons a t => rfl
        rw [this]
        exact Ok.fin (by cbv) (FS.out (by cbv) (PLe.refl _))
end Go.Proofs.Ytnojmocoifodjaa.Pv
set_option maxRecDepth 100000
set_option maxHeartbeats 4000000
set_option linter.unusedVariables false
set_option linter.unusedSimpArgs false
namespace Go.Proofs.Ytnojmocoifodjaa.Pv
open Go Go.Proofs
def cmpI (x y : Int) : Int := if x < y then -1 else if y < x then 1 else 0
theorem cmp_isNaN (x : Int) : CallsV Try.prog 189 [.int .i64 x] (.pv (.bool false)) [] := by
  obtain ⟨A, hA⟩ : ∃ A : Ar, A = .std := ⟨_, rfl⟩
  refine CallsV.ok (fn := Try.f189) (by kernel_rfl) (by kernel_rfl) rfl (by cbv) (by cbv) ?_
  repeat' (first | (apply Ok.run1 hmix hA false 2000; focus (cbv; done)) | (apply Ok.one hmix hA; focus (cbv; done)) | (rw [Ar.notT hA]) | (rw [Ar.notF hA]) | (refine Ok.condT ?_ ?_; focus (cbv; done)) | (refine Ok.condF ?_ ?_; focus (cbv; done)) | (refine Ok.drawnE (by as_aux_lemma => kernel_rfl) ?_) | (apply Ok.cond; (focus (cbv; done)); all_goals (intro hh; (try rw [hh]))) | (apply Ok.splitG; (focus (cbv; done)); all_goals (intro hh; (try rw [hh]))) | (apply Ok.splitP; (focus (cbv; done)); all_goals (intro hh; (try rw [hh]))) | (apply Ok.fin1; (focus (cbv; done)); (focus (cbv; done))) | (apply Ok.fin2; (focus (cbv; done)); (focus (cbv; done))) | (apply Ok.fin3; (focus (cbv; done)); (focus (cbv; done))))
  all_goals (subst hA; simp_all [Ar.std])
theorem cmp_isNaN64 (x : Int) : CallsV Try.prog 190 [.int .i64 x] (.pv (.bool false)) [] := by
  obtain ⟨A, hA⟩ : ∃ A : Ar, A = .std := ⟨_, rfl⟩
  refine CallsV.ok (fn := Try.f190) (by kernel_rfl) (by kernel_rfl) rfl (by cbv) (by cbv) ?_
  repeat' (first | (apply Ok.run1 hmix hA false 2000; focus (cbv; done)) | (apply Ok.one hmix hA; focus (cbv; done)) | (rw [Ar.notT hA]) | (rw [Ar.notF hA]) | (refine Ok.condT ?_ ?_; focus (cbv; done)) | (refine Ok.condF ?_ ?_; focus (cbv; done)) | (refine Ok.drawnE (by as_aux_lemma => kernel_rfl) ?_) | (apply Ok.cond; (focus (cbv; done)); all_goals (intro hh; (try rw [hh]))) | (apply Ok.splitG; (focus (cbv; done)); all_goals (intro hh; (try rw [hh]))) | (apply Ok.splitP; (focus (cbv; done)); all_goals (intro hh; (try rw [hh]))) | (apply Ok.fin1; (focus (cbv; done)); (focus (cbv; done))) | (apply Ok.fin2; (focus (cbv; done)); (focus (cbv; done))) | (apply Ok.fin3; (focus (cbv; done)); (focus (cbv; done))))
  all_goals (subst hA; simp_all [Ar.std])
theorem cmp_Compare (x y : Int) : CallsV Try.prog 183 [.int .i64 x, .int .i64 y] (.pv (.int .i64 (cmpI x y))) [] := by
  obtain ⟨A, hA⟩ : ∃ A : Ar, A = .std := ⟨_, rfl⟩
  refine CallsV.ok (fn := Try.f183) (by kernel_rfl) (by kernel_rfl) rfl (by cbv) (by cbv) ?_
  repeat' (first | (apply Ok.run1 hmix hA false 2000; focus (cbv; done)) | (apply Ok.one hmix hA; focus (cbv; done)) | (rw [Ar.notT hA]) | (rw [Ar.notF hA]) | (refine Ok.condT ?_ ?_; focus (cbv; done)) | (refine Ok.condF ?_ ?_; focus (cbv; done)) | (refine Ok.drawnE (by as_aux_lemma => kernel_rfl) ?_) | (apply Ok.call (cmp_isNaN _); (focus (cbv; done)); (focus (cbv; done)); (focus (cbv; done))) | (apply Ok.dcall (cmp_isNaN _); (focus (cbv; done)); (focus (cbv; done)); (focus (cbv; done))) | (apply Ok.cond; (focus (cbv; done)); all_goals (intro hh; (try rw [hh]))) | (apply Ok.splitG; (focus (cbv; done)); all_goals (intro hh; (try rw [hh]))) | (apply Ok.splitP; (focus (cbv; done)); all_goals (intro hh; (try rw [hh]))) | (apply Ok.fin1; (focus (cbv; done)); (focus (cbv; done))) | (apply Ok.fin2; (focus (cbv; done)); (focus (cbv; done))) | (apply Ok.fin3; (focus (cbv; done)); (focus (cbv; done))))
  all_goals (subst hA; simp_all [Ar.std, cmpI])
  all_goals (repeat' split <;> omega)
theorem cmp_Compare64 (x y : Int) : CallsV Try.prog 184 [.int .i64 x, .int .i64 y] (.pv (.int .i64 (cmpI x y))) [] := by
  obtain ⟨A, hA⟩ : ∃ A : Ar, A = .std := ⟨_, rfl⟩
  refine CallsV.ok (fn := Try.f184) (by kernel_rfl) (by kernel_rfl) rfl (by cbv) (by cbv) ?_
  repeat' (first | (apply Ok.run1 hmix hA false 2000; focus (cbv; done)) | (apply Ok.one hmix hA; focus (cbv; done)) | (rw [Ar.notT hA]) | (rw [Ar.notF hA]) | (refine Ok.condT ?_ ?_; focus (cbv; done)) | (refine Ok.condF ?_ ?_; focus (cbv; done)) | (refine Ok.drawnE (by as_aux_lemma => kernel_rfl) ?_) | (apply Ok.call (cmp_isNaN64 _); (focus (cbv; done)); (focus (cbv; done)); (focus (cbv; done))) | (apply Ok.dcall (cmp_isNaN64 _); (focus (cbv; done)); (focus (cbv; done)); (focus (cbv; done))) | (apply Ok.cond; (focus (cbv; done)); all_goals (intro hh; (try rw [hh]))) | (apply Ok.splitG; (focus (cbv; done)); all_goals (intro hh; (try rw [hh]))) | (apply Ok.splitP; (focus (cbv; done)); all_goals (intro hh; (try rw [hh]))) | (apply Ok.fin1; (focus (cbv; done)); (focus (cbv; done))) | (apply Ok.fin2; (focus (cbv; done)); (focus (cbv; done))) | (apply Ok.fin3; (focus (cbv; done)); (focus (cbv; done))))
  all_goals (subst hA; simp_all [Ar.std, cmpI])
  all_goals (repeat' split <;> omega)
theorem val_truth (b : Bool) : CallsV Try.prog 185 [.bool b] (.pv (.int .i64 (if b then 1 else 0))) [] := by
  obtain ⟨A, hA⟩ : ∃ A : Ar, A = .std := ⟨_, rfl⟩
  refine CallsV.ok (fn := Try.f185) (by kernel_rfl) (by kernel_rfl) rfl (by cbv) (by cbv) ?_
  repeat' (first | (apply Ok.run1 hmix hA false 2000; focus (cbv; done)) | (apply Ok.one hmix hA; focus (cbv; done)) | (rw [Ar.notT hA]) | (rw [Ar.notF hA]) | (refine Ok.condT ?_ ?_; focus (cbv; done)) | (refine Ok.condF ?_ ?_; focus (cbv; done)) | (refine Ok.drawnE (by as_aux_lemma => kernel_rfl) ?_) | (apply Ok.cond; (focus (cbv; done)); all_goals (intro hh; (try rw [hh]))) | (apply Ok.splitG; (focus (cbv; done)); all_goals (intro hh; (try rw [hh]))) | (apply Ok.splitP; (focus (cbv; done)); all_goals (intro hh; (try rw [hh]))) | (apply Ok.fin1; (focus (cbv; done)); (focus (cbv; done))) | (apply Ok.fin2; (focus (cbv; done)); (focus (cbv; done))) | (apply Ok.fin3; (focus (cbv; done)); (focus (cbv; done))))
  all_goals (subst hA; simp_all [Ar.std])
def cmpOr : List Int → Int
  | [] => 0
  | x :: l => if x ≠ 0 then x else cmpOr l
theorem cmp_Or (l : List Int) (es : List PV) (hes : es = l.map fun x => .int .i64 x) (hl : l.length ≤ 2 ^ 30) : CallsV Try.prog 182 [.view es] (.pv (.int .i64 (cmpOr l))) [] := by
  obtain ⟨A, hA⟩ : ∃ A : Ar, A = .std := ⟨_, rfl⟩
  obtain ⟨n, hn⟩ : ∃ n, n = l.length := ⟨_, rfl⟩
  have hll : A .lenP es = Int.ofNat n := by rw [Ar.lenP_eq hA, hes, List.length_map, hn]; rfl
  refine CallsV.ok (fn := Try.f182) (by kernel_rfl) (by kernel_rfl) rfl (by cbv) (by cbv) ?_
  repeat (first | (apply Ok.run1 hmix hA false 2000; focus (cbv; done)) | (apply Ok.one hmix hA; focus (cbv; done)) | (rw [Ar.notT hA]) | (rw [Ar.notF hA]) | (refine Ok.condT ?_ ?_; focus (cbv; done)) | (refine Ok.condF ?_ ?_; focus (cbv; done)) | (refine Ok.drawnE (by as_aux_lemma => kernel_rfl) ?_))
  rw [hll]
  refine Ok.loopAt [3, 6, 7, 8] [] (fun m s h => ∃ k, m = n - k ∧ k ≤ n ∧ cmpOr (l.drop k) = cmpOr l ∧ s = mkS 18 [(3, .pv (.int .i64 0)), (6, .pv (.view es)), (7, .pv (.int .i64 (Int.ofNat n))), (8, .pv (.int .i64 (Int.ofNat k)))] ∧ h = []) (n - 0) (by cbv) ⟨0, rfl, Nat.zero_le _, rfl, by cbv, by cbv⟩ ?_
  rintro m s h ⟨k, rfl, hk, hc, rfl, rfl⟩
  refine Ok.run hmix hA false 2000 (by cbv) ?_
  rw [ofNat_lt hA]
  by_cases hkl : k < n
  · rw [decide_eq_true hkl]
    repeat (first | (apply Ok.run1 hmix hA false 2000; focus (cbv; done)) | (apply Ok.one hmix hA; focus (cbv; done)) | (rw [Ar.notT hA]) | (rw [Ar.notF hA]) | (refine Ok.condT ?_ ?_; focus (cbv; done)) | (refine Ok.condF ?_ ?_; focus (cbv; done)) | (refine Ok.drawnE (by as_aux_lemma => kernel_rfl) ?_))
    have hx : l[k]? = some (l[k]'(by omega)) := List.getElem?_eq_getElem (by omega)
    have hdl : l.drop k = l[k]'(by omega) :: l.drop (k + 1) := List.drop_eq_getElem_cons (by omega)
    generalize l[k]'(by omega) = x at hx hdl
    rw [hdl, cmpOr] at hc
    refine Ok.op (idx_view (.int .i64 x) (by cbv) (by cbv) (by simp) (by rw [hes]; simp [hx]) rfl) ?_
    refine Ok.run hmix hA false 2000 (by cbv) ?_
    rw [Ar.eq_eq hA, Ar.not_eq hA]
    by_cases h0 : x = 0
    · rw [if_neg (by simpa using h0)] at hc
      rw [decide_eq_true h0]
      repeat (first | (apply Ok.run1 hmix hA false 2000; focus (cbv; done)) | (apply Ok.one hmix hA; focus (cbv; done)) | (rw [Ar.notT hA]) | (rw [Ar.notF hA]) | (refine Ok.condT ?_ ?_; focus (cbv; done)) | (refine Ok.condF ?_ ?_; focus (cbv; done)) | (refine Ok.drawnE (by as_aux_lemma => kernel_rfl) ?_))
      rw [Ar.succ_eq hA (by omega)]
      exact Ok.back (n - (k + 1)) [3, 6, 7, 8] [] (by omega) (by cbv) ⟨k + 1, rfl, by omega, hc, by cbv, by cbv⟩
    · rw [if_pos h0] at hc
      rw [decide_eq_false h0, ← hc]
      repeat (first | (apply Ok.run1 hmix hA false 2000; focus (cbv; done)) | (apply Ok.one hmix hA; focus (cbv; done)) | (rw [Ar.notT hA]) | (rw [Ar.notF hA]) | (refine Ok.condT ?_ ?_; focus (cbv; done)) | (refine Ok.condF ?_ ?_; focus (cbv; done)) | (refine Ok.drawnE (by as_aux_lemma => kernel_rfl) ?_))
      refine Ok.leaveRet ?_
      repeat (first | (apply Ok.run1 hmix hA false 2000; focus (cbv; done)) | (apply Ok.one hmix hA; focus (cbv; done)) | (rw [Ar.notT hA]) | (rw [Ar.notF hA]) | (refine Ok.condT ?_ ?_; focus (cbv; done)) | (refine Ok.condF ?_ ?_; focus (cbv; done)) | (refine Ok.drawnE (by as_aux_lemma => kernel_rfl) ?_))
      exact Ok.fin (by cbv) (FS.out (by cbv) (PLe.refl _))
  · rw [decide_eq_false hkl]
    have hke : k = l.length := by omega
    rw [hke, List.drop_length] at hc
    have hke : k = n := by omega
    subst hke
    repeat (first | (apply Ok.run1 hmix hA false 2000; focus (cbv; done)) | (apply Ok.one hmix hA; focus (cbv; done)) | (rw [Ar.notT hA]) | (rw [Ar.notF hA]) | (refine Ok.condT ?_ ?_; focus (cbv; done)) | (refine Ok.condF ?_ ?_; focus (cbv; done)) | (refine Ok.drawnE (by as_aux_lemma => kernel_rfl) ?_))
    refine Ok.leave ?_
    repeat (first | (apply Ok.run1 hmix hA false 2000; focus (cbv; done)) | (apply Ok.one hmix hA; focus (cbv; done)) | (rw [Ar.notT hA]) | (rw [Ar.notF hA]) | (refine Ok.condT ?_ ?_; focus (cbv; done)) | (refine Ok.condF ?_ ?_; focus (cbv; done)) | (refine Ok.drawnE (by as_aux_lemma => kernel_rfl) ?_))
    rw [← hc]
    exact Ok.fin (by cbv) (FS.out (by cbv) (PLe.refl _))
theorem slices_CompareFunc {E : Enc} (hE : E = .std) (f : Nat) (l m : List Vl) (hf : ∀ x y, x ∈ l → y ∈ m → CallsV Try.prog f [E.vl x, E.vl y] (.pv (.int .i64 (cmpV x y))) []) (hl : l.length ≤ 2 ^ 60) (hm : m.length ≤ 2 ^ 60) :
    CallsV Try.prog 192 [.view (E .vls l), .view (E .vls m), .func f []] (.pv (.int .i64 (cmpVs l m))) [] := by
  obtain ⟨A, hA⟩ : ∃ A : Ar, A = .std := ⟨_, rfl⟩
  obtain ⟨n, hn⟩ : ∃ n, n = l.length := ⟨_, rfl⟩
  obtain ⟨n', hn'⟩ : ∃ n, n = m.length := ⟨_, rfl⟩
  have hll : A .lenP (E .vls l) = Int.ofNat n := by rw [Ar.lenP_eq hA, E.vls_eq hE, List.length_map, hn]; rfl
  have hlm : A .lenP (E .vls m) = Int.ofNat n' := by rw [Ar.lenP_eq hA, E.vls_eq hE, List.length_map, hn']; rfl
  refine CallsV.ok (fn := Try.f192) (by kernel_rfl) (by kernel_rfl) rfl (by cbv) (by cbv) ?_
  repeat (first | (apply Ok.run1 hmix hA false 2000; focus (cbv; done)) | (apply Ok.one hmix hA; focus (cbv; done)) | (rw [Ar.notT hA]) | (rw [Ar.notF hA]) | (refine Ok.condT ?_ ?_; focus (cbv; done)) | (refine Ok.condF ?_ ?_; focus (cbv; done)) | (refine Ok.drawnE (by as_aux_lemma => kernel_rfl) ?_))
  rw [hll]
  refine Ok.loopAt [0, 1, 2, 11, 12, 13] [] (fun mm s h => ∃ k, mm = n - k ∧ k ≤ n ∧ k ≤ n' ∧ cmpVs (l.drop k) (m.drop k) = cmpVs l m ∧ s = mkS 39 [(0, .pv (.view (E .vls l))), (1, .pv (.view (E .vls m))), (2, .pv (.func f [])), (11, .pv (.view (E .vls l))), (12, .pv (.int .i64 (Int.ofNat n))), (13, .pv (.int .i64 (Int.ofNat k)))] ∧ h = []) (n - 0) (by cbv) ⟨0, rfl, Nat.zero_le _, Nat.zero_le _, rfl, by cbv, by cbv⟩ ?_
  rintro mm s h ⟨k, rfl, hk, hkm, hc, rfl, rfl⟩
  refine Ok.run hmix hA false 2000 (by cbv) ?_
  rw [ofNat_lt hA]
  by_cases hkl : k < n
  · rw [decide_eq_true hkl]
    repeat (first | (apply Ok.run1 hmix hA false 2000; focus (cbv; done)) | (apply Ok.one hmix hA; focus (cbv; done)) | (rw [Ar.notT hA]) | (rw [Ar.notF hA]) | (refine Ok.condT ?_ ?_; focus (cbv; done)) | (refine Ok.condF ?_ ?_; focus (cbv; done)) | (refine Ok.drawnE (by as_aux_lemma => kernel_rfl) ?_))
    have hx : l[k]? = some (l[k]'(by omega)) := List.getElem?_eq_getElem (by omega)
    have hxm : l[k]'(by omega) ∈ l := List.getElem_mem (by omega)
    have hdl : l.drop k = l[k]'(by omega) :: l.drop (k + 1) := List.drop_eq_getElem_cons (by omega)
    generalize l[k]'(by omega) = x at hx hdl hxm
    refine Ok.op (idx_view (E.vl x) (by cbv) (by cbv) (by simp) (by rw [E.vls_eq hE]; simp [hx]) rfl) ?_
    refine Ok.run hmix hA false 2000 (by cbv) ?_
    rw [hlm, ofNat_le hA]
    by_cases hkm2 : k < n'
    · rw [decide_eq_false (by omega)]
      have hy : m[k]? = some (m[k]'(by omega)) := List.getElem?_eq_getElem (by omega)
      have hym : m[k]'(by omega) ∈ m := List.getElem_mem (by omega)
      have hdm : m.drop k = m[k]'(by omega) :: m.drop (k + 1) := List.drop_eq_getElem_cons (by omega)
      generalize m[k]'(by omega) = y at hy hdm hym
      have cxy := hf x y hxm hym
      rw [hdl, hdm, cmpVs] at hc
      obtain ⟨c, hcc⟩ : ∃ c, c = cmpV x y := ⟨_, rfl⟩
      rw [← hcc] at cxy hc
      repeat (first | (apply Ok.run1 hmix hA false 2000; focus (cbv; done)) | (apply Ok.one hmix hA; focus (cbv; done)) | (rw [Ar.notT hA]) | (rw [Ar.notF hA]) | (refine Ok.condT ?_ ?_; focus (cbv; done)) | (refine Ok.condF ?_ ?_; focus (cbv; done)) | (refine Ok.drawnE (by as_aux_lemma => kernel_rfl) ?_))
      refine Ok.op (idx_view (E.vl y) (by cbv) (by cbv) (by simp) (by rw [E.vls_eq hE]; simp [hy]) rfl) ?_
      repeat (first | (apply Ok.run1 hmix hA false 2000; focus (cbv; done)) | (apply Ok.one hmix hA; focus (cbv; done)) | (rw [Ar.notT hA]) | (rw [Ar.notF hA]) | (refine Ok.condT ?_ ?_; focus (cbv; done)) | (refine Ok.condF ?_ ?_; focus (cbv; done)) | (refine Ok.drawnE (by as_aux_lemma => kernel_rfl) ?_) | (apply Ok.call (cxy); (focus (cbv; done)); (focus (cbv; done)); (focus (cbv; done))) | (apply Ok.dcall (cxy); (focus (cbv; done)); (focus (cbv; done)); (focus (cbv; done))))
      rw [Ar.eq_eq hA, Ar.not_eq hA]
      by_cases h0 : c = 0
      · rw [if_neg (by simpa using h0)] at hc
        rw [decide_eq_true h0]
        repeat (first | (apply Ok.run1 hmix hA false 2000; focus (cbv; done)) | (apply Ok.one hmix hA; focus (cbv; done)) | (rw [Ar.notT hA]) | (rw [Ar.notF hA]) | (refine Ok.condT ?_ ?_; focus (cbv; done)) | (refine Ok.condF ?_ ?_; focus (cbv; done)) | (refine Ok.drawnE (by as_aux_lemma => kernel_rfl) ?_))
        rw [Ar.succ_eq hA (by omega)]
        exact Ok.back (n - (k + 1)) [0, 1, 2, 11, 12, 13] [] (by omega) (by cbv) ⟨k + 1, rfl, by omega, by omega, hc, by cbv, by cbv⟩
      · rw [if_pos h0] at hc
        rw [decide_eq_false h0, ← hc]
        repeat (first | (apply Ok.run1 hmix hA false 2000; focus (cbv; done)) | (apply Ok.one hmix hA; focus (cbv; done)) | (rw [Ar.notT hA]) | (rw [Ar.notF hA]) | (refine Ok.condT ?_ ?_; focus (cbv; done)) | (refine Ok.condF ?_ ?_; focus (cbv; done)) | (refine Ok.drawnE (by as_aux_lemma => kernel_rfl) ?_))
        refine Ok.leaveRet ?_
        repeat (first | (apply Ok.run1 hmix hA false 2000; focus (cbv; done)) | (apply Ok.one hmix hA; focus (cbv; done)) | (rw [Ar.notT hA]) | (rw [Ar.notF hA]) | (refine Ok.condT ?_ ?_; focus (cbv; done)) | (refine Ok.condF ?_ ?_; focus (cbv; done)) | (refine Ok.drawnE (by as_aux_lemma => kernel_rfl) ?_))
        exact Ok.fin (by cbv) (FS.out (by cbv) (PLe.refl _))
    · rw [decide_eq_true (by omega)]
      have hke : k = m.length := by omega
      have h1 : cmpVs l m = 1 := by
        rw [← hc, hke, List.drop_length]
        rw [hke] at hdl
        rw [hdl]; rfl
      rw [h1]
      repeat (first | (apply Ok.run1 hmix hA false 2000; focus (cbv; done)) | (apply Ok.one hmix hA; focus (cbv; done)) | (rw [Ar.notT hA]) | (rw [Ar.notF hA]) | (refine Ok.condT ?_ ?_; focus (cbv; done)) | (refine Ok.condF ?_ ?_; focus (cbv; done)) | (refine Ok.drawnE (by as_aux_lemma => kernel_rfl) ?_))
      refine Ok.leaveRet ?_
      repeat (first | (apply Ok.run1 hmix hA false 2000; focus (cbv; done)) | (apply Ok.one hmix hA; focus (cbv; done)) | (rw [Ar.notT hA]) | (rw [Ar.notF hA]) | (refine Ok.condT ?_ ?_; focus (cbv; done)) | (refine Ok.condF ?_ ?_; focus (cbv; done)) | (refine Ok.drawnE (by as_aux_lemma => kernel_rfl) ?_))
      exact Ok.fin (by cbv) (FS.out (by cbv) (PLe.refl _))
  · rw [decide_eq_false hkl]
    have hke : k = l.length := by omega
    rw [hke, List.drop_length] at hc
    have hke : k = n := by omega
    subst hke
    repeat (first | (apply Ok.run1 hmix hA false 2000; focus (cbv; done)) | (apply Ok.one hmix hA; focus (cbv; done)) | (rw [Ar.notT hA]) | (rw [Ar.notF hA]) | (refine Ok.condT ?_ ?_; focus (cbv; done)) | (refine Ok.condF ?_ ?_; focus (cbv; done)) | (refine Ok.drawnE (by as_aux_lemma => kernel_rfl) ?_))
    refine Ok.leave ?_
    refine Ok.run hmix hA false 2000 (by cbv) ?_
    rw [hll, hlm, ofNat_lt hA]
    by_cases h2 : k < n'
    · rw [decide_eq_true h2]
      have h3 : m.drop l.length = m[l.length]'(by omega) :: m.drop (l.length + 1) := List.drop_eq_getElem_cons (by omega)
      rw [h3, cmpVs] at hc
      rw [← hc]
      repeat (first | (apply Ok.run1 hmix hA false 2000; focus (cbv; done)) | (apply Ok.one hmix hA; focus (cbv; done)) | (rw [Ar.notT hA]) | (rw [Ar.notF hA]) | (refine Ok.condT ?_ ?_; focus (cbv; done)) | (refine Ok.condF ?_ ?_; focus (cbv; done)) | (refine Ok.drawnE (by as_aux_lemma => kernel_rfl) ?_))
      exact Ok.fin (by cbv) (FS.out (by cbv) (PLe.refl _))
    · rw [decide_eq_false h2]
      have h3 : m.drop l.length = [] := List.drop_eq_nil_iff.2 (by omega)
      rw [h3, cmpVs] at hc
      rw [← hc]
      repeat (first | (apply Ok.run1 hmix hA false 2000; focus (cbv; done)) | (apply Ok.one hmix hA; focus (cbv; done)) | (rw [Ar.notT hA]) | (rw [Ar.notF hA]) | (refine Ok.condT ?_ ?_; focus (cbv; done)) | (refine Ok.condF ?_ ?_; focus (cbv; done)) | (refine Ok.drawnE (by as_aux_lemma => kernel_rfl) ?_))
      exact Ok.fin (by cbv) (FS.out (by cbv) (PLe.refl _))
end Go.Proofs.Ytnojmocoifodjaa.Pv
set_option maxRecDepth 100000
set_option maxHeartbeats 4000000
set_option linter.unusedVariables false
set_option linter.unusedSimpArgs false
namespace Go.Proofs.Ytnojmocoifodjaa.Pv
open Go Go.Proofs
theorem cmpS_eq : ∀ a b : List UInt8, cmpS a b = if a = b then 0 else lessZ (Op.bytesLess a b)
  | [], [] => rfl
  | [], _ :: _ => rfl
  | _ :: _, [] => rfl
  | a :: s, b :: t => by
    have ih := cmpS_eq s t
    unfold cmpS at ih ⊢
    rw [Lib.compareBytes, ih]
    rw [show Op.bytesLess (a :: s) (b :: t) = (decide (a < b) || (a == b && Op.bytesLess s t)) from rfl]
    by_cases h1 : a < b
    · have h2 : a ≠ b := by rintro rfl; exact absurd h1 (UInt8.lt_irrefl _)
      simp [h1, h2, lessZ]
    · by_cases h2 : b < a
      · have h3 : a ≠ b := by rintro rfl; exact absurd h2 (UInt8.lt_irrefl _)
        simp [h1, h2, h3, lessZ]
      · have h3 : a = b := by
          have h4 := UInt8.not_lt.1 h1
          have h5 := UInt8.not_lt.1 h2
          exact UInt8.le_antisymm h5 h4
        subst h3
        simp [h1]
theorem cmpV_or (k i : Int) (b : Bool) (s : List UInt8) (t : List Vl) (k' i' : Int) (b' : Bool) (s' : List UInt8) (t' : List Vl) :
    cmpV ⟨k, i, b, s, t⟩ ⟨k', i', b', s', t'⟩ = if cmpOr [cmpI k k', cmpI i i', cmpI (if b then 1 else 0) (if b' then 1 else 0), cmpS s s'] ≠ 0 then cmpOr [cmpI k k', cmpI i i', cmpI (if b then 1 else 0) (if b' then 1 else 0), cmpS s s'] else cmpVs t t' := by
  have hI : ∀ x y : Int, cmpI x y = if x = y then 0 else lessZ (decide (x < y)) := by
    intro x y
    unfold cmpI lessZ
    repeat' split
    all_goals simp_all
    all_goals omega
  have hL : ∀ c, lessZ c ≠ 0 := by intro c; cases c <;> decide
  have hB : cmpI (if b then 1 else 0) (if b' then 1 else 0) = if b = b' then 0 else lessZ b' := by cases b <;> cases b' <;> decide
  rw [hI, hI, hB, cmpS_eq, cmpV]
  by_cases h1 : k = k'
  · by_cases h2 : i = i'
    · by_cases h3 : b = b'
      · by_cases h4 : s = s'
        · simp [h1, h2, h3, h4, cmpOr]
        · simp [h1, h2, h3, h4, cmpOr, hL]
      · simp [h1, h2, h3, cmpOr, hL]
    · simp [h1, h2, cmpOr, hL]
  · simp [h1, cmpOr, hL]
theorem val_Compare {E : Enc} (hE : E = .std) : ∀ (n : Nat) (v w : Vl), SizeOf.sizeOf v ≤ n → szV v ≤ 2 ^ 28 → szV w ≤ 2 ^ 28 → CallsV Try.prog 178 [E.vl v, E.vl w] (.pv (.int .i64 (cmpV v w))) [] := by
  intro n
  induction n with
  | zero => intro v w h; cases v; simp at h
  | succ n ih =>
    rintro ⟨k1, i1, b1, s1, l⟩ ⟨k2, i2, b2, s2, m⟩ hn hsz hsw
    obtain ⟨A, hA⟩ : ∃ A : Ar, A = .std := ⟨_, rfl⟩
    rw [szV] at hsz hsw
    have hlen := szVs_len l
    have hlem := szVs_len m
    have hsub : ∀ x y, x ∈ l → y ∈ m → CallsV Try.prog 178 [E.vl x, E.vl y] (.pv (.int .i64 (cmpV x y))) [] := fun x y hx hy => by
      have h1 := List.sizeOf_lt_of_mem hx
      have h2 := szVs_mem hx
      have h3 := szVs_mem hy
      simp at hn
      exact ih x y (by omega) (by omega) (by omega)
    have cC := slices_CompareFunc hE 178 l m hsub (by omega) (by omega)
    have cR : CallsV Try.prog 187 [.view (E .vls l), .view (E .vls m), .func 178 []] (.pv (.int .i64 (cmpVs l m))) [] := by
      clear hsub ih
      refine CallsV.ok (fn := Try.f187) (by kernel_rfl) (by kernel_rfl) rfl (by cbv) (by cbv) ?_
      repeat (first | (apply Ok.run1 hmix hA false 2000; focus (cbv; done)) | (apply Ok.one hmix hA; focus (cbv; done)) | (rw [Ar.notT hA]) | (rw [Ar.notF hA]) | (refine Ok.condT ?_ ?_; focus (cbv; done)) | (refine Ok.condF ?_ ?_; focus (cbv; done)) | (refine Ok.drawnE (by as_aux_lemma => kernel_rfl) ?_) | (apply Ok.call (cC); (focus (cbv; done)); (focus (cbv; done)); (focus (cbv; done))) | (apply Ok.dcall (cC); (focus (cbv; done)); (focus (cbv; done)); (focus (cbv; done))))
      exact Ok.fin (by cbv) (FS.out (by cbv) (PLe.refl _))
    rw [cmpV_or]
    obtain ⟨c1, h1⟩ : ∃ c, c = cmpI k1 k2 := ⟨_, rfl⟩
    obtain ⟨c2, h2⟩ : ∃ c, c = cmpI i1 i2 := ⟨_, rfl⟩
    obtain ⟨t1, ht1⟩ : ∃ c, c = (if b1 then (1 : Int) else 0) := ⟨_, rfl⟩
    obtain ⟨t2, ht2⟩ : ∃ c, c = (if b2 then (1 : Int) else 0) := ⟨_, rfl⟩
    obtain ⟨c3, h3⟩ : ∃ c, c = cmpI t1 t2 := ⟨_, rfl⟩
    obtain ⟨c4, h4⟩ : ∃ c, c = cmpS s1 s2 := ⟨_, rfl⟩
    have d1 := cmp_Compare k1 k2
    have d2 := cmp_Compare64 i1 i2
    have e1 := val_truth b1
    have e2 := val_truth b2
    have d3 := cmp_Compare t1 t2
    have d4 := strings_Compare s1 s2
    have dO := cmp_Or [c1, c2, c3, c4] [.int .i64 c1, .int .i64 c2, .int .i64 c3, .int .i64 c4] rfl (by simp)
    rw [← ht1, ← ht2, ← h1, ← h2, ← h3, ← h4]
    rw [← h1] at d1
    rw [← h2] at d2
    rw [← ht1] at e1
    rw [← ht2] at e2
    rw [← h3] at d3
    rw [← h4] at d4
    obtain ⟨c, hc⟩ : ∃ c, c = cmpOr [c1, c2, c3, c4] := ⟨_, rfl⟩
    rw [← hc] at dO ⊢
    clear hsub ih cC
    refine CallsV.ok (fn := Try.f178) (by kernel_rfl) (by kernel_rfl) rfl (by cbv) (by cbv) ?_
    ((repeat (first | (apply Ok.run1 hmix hA false 2000; focus (cbv; done)) | (apply Ok.one hmix hA; focus (cbv; done)) | (rw [Ar.notT hA]) | (rw [Ar.notF hA]) | (refine Ok.condT ?_ ?_; focus (cbv; done)) | (refine Ok.condF ?_ ?_; focus (cbv; done)) | (refine Ok.drawnE (by as_aux_lemma => kernel_rfl) ?_))); ((first | (apply Ok.call (d1); (focus (cbv; done)); (focus (cbv; done)); (focus (cbv; done))) | (apply Ok.dcall (d1); (focus (cbv; done)); (focus (cbv; done)); (focus (cbv; done))))); (repeat (first | (apply Ok.run1 hmix hA false 2000; focus (cbv; done)) | (apply Ok.one hmix hA; focus (cbv; done)) | (rw [Ar.notT hA]) | (rw [Ar.notF hA]) | (refine Ok.condT ?_ ?_; focus (cbv; done)) | (refine Ok.condF ?_ ?_; focus (cbv; done)) | (refine Ok.drawnE (by as_aux_lemma => kernel_rfl) ?_))); ((first | (apply Ok.call (d2); (focus (cbv; done)); (focus (cbv; done)); (focus (cbv; done))) | (apply Ok.dcall (d2); (focus (cbv; done)); (focus (cbv; done)); (focus (cbv; done))))); (repeat (first | (apply Ok.run1 hmix hA false 2000; focus (cbv; done)) | (apply Ok.one hmix hA; focus (cbv; done)) | (rw [Ar.notT hA]) | (rw [Ar.notF hA]) | (refine Ok.condT ?_ ?_; focus (cbv; done)) | (refine Ok.condF ?_ ?_; focus (cbv; done)) | (refine Ok.drawnE (by as_aux_lemma => kernel_rfl) ?_))); ((first | (apply Ok.call (e1); (focus (cbv; done)); (focus (cbv; done)); (focus (cbv; done))) | (apply Ok.dcall (e1); (focus (cbv; done)); (focus (cbv; done)); (focus (cbv; done))))); (repeat (first | (apply Ok.run1 hmix hA false 2000; focus (cbv; done)) | (apply Ok.one hmix hA; focus (cbv; done)) | (rw [Ar.notT hA]) | (rw [Ar.notF hA]) | (refine Ok.condT ?_ ?_; focus (cbv; done)) | (refine Ok.condF ?_ ?_; focus (cbv; done)) | (refine Ok.drawnE (by as_aux_lemma => kernel_rfl) ?_))); ((first | (apply Ok.call (e2); (focus (cbv; done)); (focus (cbv; done)); (focus (cbv; done))) | (apply Ok.dcall (e2); (focus (cbv; done)); (focus (cbv; done)); (focus (cbv; done))))); (repeat (first | (apply Ok.run1 hmix hA false 2000; focus (cbv; done)) | (apply Ok.one hmix hA; focus (cbv; done)) | (rw [Ar.notT hA]) | (rw [Ar.notF hA]) | (refine Ok.condT ?_ ?_; focus (cbv; done)) | (refine Ok.condF ?_ ?_; focus (cbv; done)) | (refine Ok.drawnE (by as_aux_lemma => kernel_rfl) ?_))); ((first | (apply Ok.call (d3); (focus (cbv; done)); (focus (cbv; done)); (focus (cbv; done))) | (apply Ok.dcall (d3); (focus (cbv; done)); (focus (cbv; done)); (focus (cbv; done))))); (repeat (first | (apply Ok.run1 hmix hA false 2000; focus (cbv; done)) | (apply Ok.one hmix hA; focus (cbv; done)) | (rw [Ar.notT hA]) | (rw [Ar.notF hA]) | (refine Ok.condT ?_ ?_; focus (cbv; done)) | (refine Ok.condF ?_ ?_; focus (cbv; done)) | (refine Ok.drawnE (by as_aux_lemma => kernel_rfl) ?_))); ((first | (apply Ok.call (d4); (focus (cbv; done)); (focus (cbv; done)); (focus (cbv; done))) | (apply Ok.dcall (d4); (focus (cbv; done)); (focus (cbv; done)); (focus (cbv; done))))); (repeat (first | (apply Ok.run1 hmix hA false 2000; focus (cbv; done)) | (apply Ok.one hmix hA; focus (cbv; done)) | (rw [Ar.notT hA]) | (rw [Ar.notF hA]) | (refine Ok.condT ?_ ?_; focus (cbv; done)) | (refine Ok.condF ?_ ?_; focus (cbv; done)) | (refine Ok.drawnE (by as_aux_lemma => kernel_rfl) ?_))); ((first | (apply Ok.call (dO); (focus (cbv; done)); (focus (cbv; done)); (focus (cbv; done))) | (apply Ok.dcall (dO); (focus (cbv; done)); (focus (cbv; done)); (focus (cbv; done))))); (repeat (first | (apply Ok.run1 hmix hA false 2000; focus (cbv; done)) | (apply Ok.one hmix hA; focus (cbv; done)) | (rw [Ar.notT hA]) | (rw [Ar.notF hA]) | (refine Ok.condT ?_ ?_; focus (cbv; done)) | (refine Ok.condF ?_ ?_; focus (cbv; done)) | (refine Ok.drawnE (by as_aux_lemma => kernel_rfl) ?_))))
    rw [Ar.eq_eq hA, Ar.not_eq hA]
    by_cases h0 : c = 0
    · rw [decide_eq_true h0, if_neg (by simpa using h0)]
      repeat (first | (apply Ok.run1 hmix hA false 2000; focus (cbv; done)) | (apply Ok.one hmix hA; focus (cbv; done)) | (rw [Ar.notT hA]) | (rw [Ar.notF hA]) | (refine Ok.condT ?_ ?_; focus (cbv; done)) | (refine Ok.condF ?_ ?_; focus (cbv; done)) | (refine Ok.drawnE (by as_aux_lemma => kernel_rfl) ?_) | (apply Ok.call (cR); (focus (cbv; done)); (focus (cbv; done)); (focus (cbv; done))) | (apply Ok.dcall (cR); (focus (cbv; done)); (focus (cbv; done)); (focus (cbv; done))))
      exact Ok.fin (by cbv) (FS.out (by cbv) (PLe.refl _))
    · rw [decide_eq_false h0, if_pos h0]
      repeat (first | (apply Ok.run1 hmix hA false 2000; focus (cbv; done)) | (apply Ok.one hmix hA; focus (cbv; done)) | (rw [Ar.notT hA]) | (rw [Ar.notF hA]) | (refine Ok.condT ?_ ?_; focus (cbv; done)) | (refine Ok.condF ?_ ?_; focus (cbv; done)) | (refine Ok.drawnE (by as_aux_lemma => kernel_rfl) ?_))
      exact Ok.fin (by cbv) (FS.out (by cbv) (PLe.refl _))
theorem val_Same {E : Enc} (hE : E = .std) (v w : Vl) (h1 : szV v ≤ 2 ^ 28) (h2 : szV w ≤ 2 ^ 28) : CallsV Try.prog 157 [E.vl v, E.vl w] (.pv (.bool (decide (cmpV v w = 0)))) [] := by
  obtain ⟨A, hA⟩ : ∃ A : Ar, A = .std := ⟨_, rfl⟩
  have c := val_Compare hE _ v w (Nat.le_refl _) h1 h2
  generalize cmpV v w = r at c
  refine CallsV.ok (fn := Try.f157) (by kernel_rfl) (by kernel_rfl) rfl (by cbv) (by cbv) ?_
  repeat' (first | (apply Ok.run1 hmix hA false 2000; focus (cbv; done)) | (apply Ok.one hmix hA; focus (cbv; done)) | (rw [Ar.notT hA]) | (rw [Ar.notF hA]) | (refine Ok.condT ?_ ?_; focus (cbv; done)) | (refine Ok.condF ?_ ?_; focus (cbv; done)) | (refine Ok.drawnE (by as_aux_lemma => kernel_rfl) ?_) | (apply Ok.call (c); (focus (cbv; done)); (focus (cbv; done)); (focus (cbv; done))) | (apply Ok.dcall (c); (focus (cbv; done)); (focus (cbv; done)); (focus (cbv; done))) | (apply Ok.cond; (focus (cbv; done)); all_goals (intro hh; (try rw [hh]))) | (apply Ok.splitG; (focus (cbv; done)); all_goals (intro hh; (try rw [hh]))) | (apply Ok.splitP; (focus (cbv; done)); all_goals (intro hh; (try rw [hh]))) | (apply Ok.fin1; (focus (cbv; done)); (focus (cbv; done))) | (apply Ok.fin2; (focus (cbv; done)); (focus (cbv; done))) | (apply Ok.fin3; (focus (cbv; done)); (focus (cbv; done))))
  all_goals (subst hA; simp_all [Ar.std])
end Go.Proofs.Ytnojmocoifodjaa.Pv
set_option linter.unusedVariables false
set_option linter.unusedSimpArgs false
namespace Go.Proofs.Ytnojmocoifodjaa.Pv
open Go
/-! ### Values and expressions: plain laws -/
def spareV (v : Vl) : Bool := decide (v.kind ≠ 1 ∧ v.i ≠ 0) || (decide (v.kind ≠ 2) && v.b) || decide (v.kind ≠ 3 ∧ v.s ≠ []) || decide (v.kind ≠ 4 ∧ 0 < v.t.length)
mutual
def ckV : Vl → Nat → Int
  | .mk k i b s t, d => if k < 1 ∨ 4 < k then 5 else if spareV ⟨k, i, b, s, t⟩ then 2 else if 255 < s.length then 4 else if k ≠ 4 then 0
    else if rowC t.length d ≠ 0 then rowC t.length d else ckVs t (d + 1)
def ckVs : List Vl → Nat → Int
  | [], _ => 0
  | x :: l, d => if ckV x d ≠ 0 then ckV x d else ckVs l d
end
mutual
def typV : Vl → Ty
  | .mk k i b s t => ⟨k, typVs t⟩
def typVs : List Vl → List Ty
  | [] => []
  | x :: l => typV x :: typVs l
end
theorem typVs_eq : ∀ l, typVs l = l.map typV
  | [] => rfl
  | x :: l => by rw [typVs, typVs_eq l, List.map_cons]
/-! ops -/
structure Shp where
  least : Int
  most : Int
  of : List Int
  alike : Bool
  out : Int
def Shp.zero : Shp := ⟨0, 0, [], false, 0⟩
def Shp.cells (s : Shp) : List PV := [.int .i64 s.least, .int .i64 s.most, .view (s.of.map fun k => .int .i64 k), .bool s.alike, .int .i64 s.out]
def shpT : List (List UInt8 × Shp) := [
  ([108, 105, 116], ⟨0, 0, [], false, 0⟩),
  ([120], ⟨0, 0, [], false, 0⟩),
  ([97, 116], ⟨1, 1, [4], false, 0⟩),
  ([116, 117, 112], ⟨1, 8, [], false, 4⟩),
  ([110, 101, 103], ⟨1, 1, [1], false, 1⟩),
  ([110, 111, 116], ⟨1, 1, [2], false, 2⟩),
  ([108, 101, 110], ⟨1, 1, [3], false, 1⟩),
  ([97, 100, 100], ⟨2, 2, [1, 1], false, 1⟩),
  ([115, 117, 98], ⟨2, 2, [1, 1], false, 1⟩),
  ([109, 117, 108], ⟨2, 2, [1, 1], false, 1⟩),
  ([100, 105, 118], ⟨2, 2, [1, 1], false, 1⟩),
  ([114, 101, 109], ⟨2, 2, [1, 1], false, 1⟩),
  ([101, 113], ⟨2, 2, [0, 0], true, 2⟩),
  ([108, 116], ⟨2, 2, [0, 0], true, 2⟩),
  ([97, 110, 100], ⟨2, 2, [2, 2], false, 2⟩),
  ([111, 114], ⟨2, 2, [2, 2], false, 2⟩),
  ([99, 97, 116], ⟨2, 2, [3, 3], false, 3⟩),
  ([105, 102], ⟨3, 3, [2, 0, 0], true, 0⟩)]
def findS : List (List UInt8 × Shp) → List UInt8 → Option Shp
  | [], _ => none
  | (k, s) :: l, op => if k = op then some s else findS l op
def shpOf (op : List UInt8) : Option Shp := findS shpT op
theorem findS_mem : ∀ {l : List (List UInt8 × Shp)} {op : List UInt8} {s : Shp}, findS l op = some s → (op, s) ∈ l
  | [], op, s, h => by simp [findS] at h
  | (k, s') :: l, op, s, h => by
    rw [findS] at h
    split at h
    · rename_i hk
      cases h
      simp [hk]
    · simp [findS_mem h]
/-- What every shape keeps to. -/
def Shp.good (op : List UInt8) (s : Shp) : Bool := decide (0 ≤ s.least) && decide ((s.of.length : Int) ≤ s.least) && (!s.alike || decide (2 ≤ s.least)) && (decide (op ≠ [97, 116]) || decide (1 ≤ s.least)) && (decide (op ≠ [105, 102]) || decide (2 ≤ s.least)) && decide (s.most ≤ 8)
theorem shpOf_good {op : List UInt8} {s : Shp} (h : shpOf op = some s) : s.good op = true := by
  have hm := findS_mem h
  have : shpT.all (fun x => x.2.good x.1) = true := by decide
  exact List.all_eq_true.1 this _ hm
def oLit : List UInt8 := [108, 105, 116]
def oX : List UInt8 := [120]
def oAt : List UInt8 := [97, 116]
def oTup : List UInt8 := [116, 117, 112]
def oIf : List UInt8 := [105, 102]
def typOfM (v : Vl) : Ty := if ckV v 0 ≠ 0 then .zero else typV v
def fitsL : List Int → List Ty → Bool
  | [], _ => true
  | k :: ks, t :: ts => (decide (k = 0) || decide (t.kind = k)) && fitsL ks ts
  | _ :: _, [] => true
def fitsX (s : Shp) (l : List Ty) : Bool := fitsL s.of l && (!s.alike || sameT (l.getD (l.length - 1) .zero) (l.getD (l.length - 2) .zero))
def fieldsX (op : List UInt8) (v : Vl) (n : Int) (la : Nat) (s : Shp) : Bool := (decide (s.least ≤ la) && decide ((la : Int) ≤ s.most)) && (decide (op = oLit) || decide (cmpV v .zero = 0)) && (decide (op = oAt) || decide (n = 0))
def comesX (op : List UInt8) (v : Vl) (n : Int) (s : Shp) (l : List Ty) (tin : Ty) : Ty × Int :=
  if op = oLit then (typOfM v, 0)
  else if op = oX then (tin, 0)
  else if op = oAt then (if n < 0 ∨ ((l.getD 0 .zero).of.length : Int) ≤ n then (.zero, 1) else ((l.getD 0 .zero).of.getD n.toNat .zero, 0))
  else if op = oTup then (if ckT ⟨4, l⟩ 0 ≠ 0 then (.zero, ckT ⟨4, l⟩ 0) else (⟨4, l⟩, 0))
  else if op = oIf then (l.getD 1 .zero, 0)
  else (⟨s.out, []⟩, 0)
mutual
def chkX : Ex4 → Ty → Nat → Ty × Int
  | .mk op v n a, tin, d => match shpOf op with
    | none => (.zero, 6)
    | some s => if 12 < d then (.zero, 9) else if fieldsX op v n a.length s = false then (.zero, 1)
      else if op = oLit ∧ ckV v 0 ≠ 0 then (.zero, ckV v 0)
      else if (chkXs a tin (d + 1)).2 ≠ 0 then (.zero, (chkXs a tin (d + 1)).2)
      else if fitsX s (chkXs a tin (d + 1)).1 = false then (.zero, 5)
      else comesX op v n s (chkXs a tin (d + 1)).1 tin
def chkXs : List Ex4 → Ty → Nat → List Ty × Int
  | [], _, _ => ([], 0)
  | x :: l, tin, d => if (chkX x tin d).2 ≠ 0 then ([], (chkX x tin d).2) else ((chkX x tin d).1 :: (chkXs l tin d).1, (chkXs l tin d).2)
end
mutual
def sizX : Ex4 → Nat
  | .mk _ _ _ a => 1 + sizXs a
def sizXs : List Ex4 → Nat
  | [] => 0
  | x :: l => sizX x + sizXs l
end
def chkXTop (e : Ex4) (tin : Ty) : Ty × Int := if ckT tin 0 ≠ 0 then (.zero, 5) else if 256 < sizX e then (.zero, 10) else chkX e tin 0
end Go.Proofs.Ytnojmocoifodjaa.Pv
set_option maxRecDepth 100000
set_option maxHeartbeats 4000000
set_option linter.unusedVariables false
set_option linter.unusedSimpArgs false
namespace Go.Proofs.Ytnojmocoifodjaa.Pv
open Go Go.Proofs
theorem ref6_Same {E : Enc} (hE : E = .std) (v w : Vl) (h1 : szV v ≤ 2 ^ 28) (h2 : szV w ≤ 2 ^ 28) : CallsV Try.prog 99 [E.vl v, E.vl w] (.pv (.bool (decide (cmpV v w = 0)))) [] := by
  obtain ⟨A, hA⟩ : ∃ A : Ar, A = .std := ⟨_, rfl⟩
  have c := ref6_Compare hE _ v w (Nat.le_refl _) h1 h2
  generalize cmpV v w = r at c
  refine CallsV.ok (fn := Try.f99) (by kernel_rfl) (by kernel_rfl) rfl (by cbv) (by cbv) ?_
  refine Ok.run hmix hA false 2000 (by cbv) ?_
  refine Ok.call (c) (by cbv) (by cbv) (by cbv) ?_
  refine Ok.run hmix hA false 2000 (by cbv) ?_
  rw [Ar.eq_eq hA]
  obtain ⟨b, hb⟩ : ∃ b, b = decide (r = 0) := ⟨_, rfl⟩
  rw [← hb]
  exact Ok.fin (by cbv) (FS.out (by cbv) (PLe.refl _))
def sameVs : List Vl → List Vl → Bool
  | [], [] => true
  | x :: l, y :: m => decide (cmpV x y = 0) && sameVs l m
  | _, _ => false
theorem sameVs_refl : ∀ l, sameVs l l = true
  | [] => rfl
  | x :: l => by simp [sameVs, cmpV_refl, sameVs_refl l]
theorem sameVs_len : ∀ {l m : List Vl}, ¬ l.length = m.length → sameVs l m = false
  | [], [], h => by simp at h
  | x :: l, y :: m, h => by rw [sameVs, sameVs_len (l := l) (m := m) (by simpa using h)]; simp
  | [], _ :: _, _ => rfl
  | _ :: _, [], _ => rfl
theorem law2_SameAll {E : Enc} (hE : E = .std) (l m : List Vl) (hsz : szVs l ≤ 2 ^ 28) (hsw : szVs m ≤ 2 ^ 28) : CallsV Try.prog 58 [.view (E .vls l), .view (E .vls m)] (.pv (.bool (sameVs l m))) [] := by
  obtain ⟨A, hA⟩ : ∃ A : Ar, A = .std := ⟨_, rfl⟩
  have hlen := szVs_len l
  have hll : A .lenP (E .vls l) = Int.ofNat l.length := by rw [Ar.lenP_eq hA, E.vls_eq hE, List.length_map]; rfl
  have hlm : A .lenP (E .vls m) = Int.ofNat m.length := by rw [Ar.lenP_eq hA, E.vls_eq hE, List.length_map]; rfl
  refine CallsV.ok (fn := Try.f58) (by kernel_rfl) (by kernel_rfl) rfl (by cbv) (by cbv) ?_
  refine Ok.run hmix hA false 2000 (by cbv) ?_
  refine Ok.cond (by cbv) ?_ ?_
  · intro h1
    rw [Ar.not_eq hA, Ar.eq_eq hA, hll, hlm] at h1
    have h1 : ¬ l.length = m.length := by simp at h1; omega
    rw [sameVs_len h1]
    refine Ok.run hmix hA false 2000 (by cbv) ?_
    exact Ok.fin (by cbv) (FS.out (by cbv) (PLe.refl _))
  intro h1
  rw [Ar.not_eq hA, Ar.eq_eq hA, hll, hlm] at h1
  have h1 : l.length = m.length := by simp at h1; omega
  refine Ok.run hmix hA false 2000 (by cbv) ?_
  refine Ok.loopAt [0, 1, 5] [] (fun mm s h => ∃ (k : Nat), mm = l.length - k ∧ k ≤ l.length ∧ sameVs (l.drop k) (m.drop k) = sameVs l m ∧
    s = mkS 28 [(0, .pv (.view (E .vls l))), (1, .pv (.view (E .vls m))), (5, .pv (.int .i64 (Int.ofNat k)))] ∧ h = []) (l.length - 0) (by cbv) ⟨0, rfl, Nat.zero_le _, rfl, by cbv, by cbv⟩ ?_
  rintro mm s h ⟨k, rfl, hk, hs, rfl, rfl⟩
  refine Ok.run hmix hA false 2000 (by cbv) ?_
  refine Ok.cond (by cbv) ?_ ?_
  · intro h2
    rw [Ar.lt_eq hA, hll, decide_eq_true_eq] at h2
    have hkl : k < l.length := by simpa using h2
    have hkm2 : k < m.length := by omega
    have hx : l[k]? = some l[k] := List.getElem?_eq_getElem hkl
    have hm : l[k] ∈ l := List.getElem_mem hkl
    have hdl : l.drop k = l[k] :: l.drop (k + 1) := List.drop_eq_getElem_cons hkl
    have hy : m[k]? = some m[k] := List.getElem?_eq_getElem hkm2
    have hmm : m[k] ∈ m := List.getElem_mem hkm2
    have hdm : m.drop k = m[k] :: m.drop (k + 1) := List.drop_eq_getElem_cons hkm2
    generalize l[k] = x at hx hm hdl
    generalize m[k] = y at hy hmm hdm
    have h3 := szVs_mem hm
    have h4 := szVs_mem hmm
    have cO := law2_Of hE _ x (Nat.le_refl _) (by omega)
    have cS := ref6_Same hE x y (by omega) (by omega)
    rw [hdl, hdm, sameVs] at hs
    obtain ⟨b, hb⟩ : ∃ b, b = decide (cmpV x y = 0) := ⟨_, rfl⟩
    rw [← hb] at cS hs
    refine Ok.run hmix hA false 2000 (by cbv) ?_
    refine Ok.dop (idx_view (E.vl x) (by cbv) (by cbv) (by simp) (by rw [E.vls_eq hE]; simp [hx]) rfl) ?_
    refine Ok.run hmix hA false 2000 (by cbv) ?_
    refine Ok.dcall (cO) (by cbv) (by cbv) (by cbv) ?_
    refine Ok.run hmix hA false 2000 (by cbv) ?_
    refine Ok.dop (idx_view (E.vl y) (by cbv) (by cbv) (by simp) (by rw [E.vls_eq hE]; simp [hy]) rfl) ?_
    refine Ok.run hmix hA false 2000 (by cbv) ?_
    refine Ok.dcall (cS) (by cbv) (by cbv) (by cbv) ?_
    refine Ok.run hmix hA false 2000 (by cbv) ?_
    refine Ok.drawn (by kernel_rfl) ?_
    refine Ok.run hmix hA false 2000 (by cbv) ?_
    refine Ok.cond (by cbv) ?_ ?_
    · intro h5
      rw [Ar.not_eq hA] at h5
      have h5 : b = false := by simpa using h5
      rw [← hs, h5]
      refine Ok.run hmix hA false 2000 (by cbv) ?_
      refine Ok.leaveRet ?_
      refine Ok.run hmix hA false 2000 (by cbv) ?_
      exact Ok.fin (by cbv) (FS.out (by cbv) (PLe.refl _))
    · intro h5
      rw [Ar.not_eq hA] at h5
      have h5 : b = true := by simpa using h5
      rw [h5, Bool.true_and] at hs
      refine Ok.run hmix hA false 2000 (by cbv) ?_
      refine Ok.back (l.length - (k + 1)) [0, 1, 5] [] (by omega) (by cbv) ⟨k + 1, rfl, by omega, hs, ?_, by cbv⟩
      rw [Ar.succ_eq hA (by omega)]; cbv
  · intro h2
    rw [Ar.lt_eq hA, hll, decide_eq_false_iff_not] at h2
    have hke : k = l.length := by simp at h2; omega
    rw [← hs, hke, List.drop_length, h1, List.drop_length]
    refine Ok.run hmix hA false 2000 (by cbv) ?_
    refine Ok.leave ?_
    refine Ok.run hmix hA false 2000 (by cbv) ?_
    exact Ok.fin (by cbv) (FS.out (by cbv) (PLe.refl _))
def szI (p : List In) : Nat := (p.map fun x => szV x.v).sum
theorem szI_mem {p : List In} {x : In} (hx : x ∈ p) : szV x.v ≤ szI p := by
  induction p with
  | nil => simp at hx
  | cons y p ih =>
    unfold szI at ih ⊢
    rcases List.mem_cons.1 hx with rfl | hx
    · simp
    · have := ih hx; simp at this ⊢; omega
theorem law11_Same {E : Enc} (hE : E = .std) (p : List In) (hl : p.length ≤ 2 ^ 30) (hsz : ∀ x, x ∈ p → szV x.v ≤ 2 ^ 27) : CallsV Try.prog 19 [.view (E .ins p), .view (E .ins p)] (.pv (.bool true)) [] := by
  obtain ⟨A, hA⟩ : ∃ A : Ar, A = .std := ⟨_, rfl⟩
  have hll : A .lenP (E .ins p) = Int.ofNat p.length := by rw [Ar.lenP_eq hA, E.ins_eq hE, List.length_map]; rfl
  have e1 : A .not (A .eq (A .lenP (E .ins p)) (A .lenP (E .ins p))) = false := by rw [Ar.not_eq hA, Ar.eq_eq hA]; simp
  refine CallsV.ok (fn := Try.f19) (by kernel_rfl) (by kernel_rfl) rfl (by cbv) (by cbv) ?_
  refine Ok.run hmix hA false 2000 (by cbv) ?_
  rw [e1]
  refine Ok.condF (by cbv) ?_
  refine Ok.run hmix hA false 2000 (by cbv) ?_
  refine Ok.loopAt [0, 1, 5] [] (fun mm s h => ∃ (k : Nat), mm = p.length - k ∧ k ≤ p.length ∧
    s = mkS 57 [(0, .pv (.view (E .ins p))), (1, .pv (.view (E .ins p))), (5, .pv (.int .i64 (Int.ofNat k)))] ∧ h = []) (p.length - 0) (by cbv) ⟨0, rfl, Nat.zero_le _, by cbv, by cbv⟩ ?_
  rintro mm s h ⟨k, rfl, hk, rfl, rfl⟩
  refine Ok.run hmix hA false 2000 (by cbv) ?_
  refine Ok.cond (by cbv) ?_ ?_
  · intro h2
    rw [Ar.lt_eq hA, hll, decide_eq_true_eq] at h2
    have hkl : k < p.length := by simpa using h2
    have hx : p[k]? = some p[k] := List.getElem?_eq_getElem hkl
    have hm : p[k] ∈ p := List.getElem_mem hkl
    generalize p[k] = x at hx hm
    have hxs := hsz x hm
    obtain ⟨op, ⟨vk, vi, vb, vs, vt⟩, nn⟩ := x
    simp only [] at hxs
    have cS := law2_SameAll hE [⟨vk, vi, vb, vs, vt⟩] [⟨vk, vi, vb, vs, vt⟩] (by simp only [szVs]; omega) (by simp only [szVs]; omega)
    rw [sameVs_refl, E.vls_eq hE, List.map_cons, List.map_nil] at cS
    have e2 : A .not (A .seq op op) = false := by rw [Ar.not_eq hA, Ar.seq_eq hA]; simp
    have e3 : A .not (A .eq nn nn) = false := by rw [Ar.not_eq hA, Ar.eq_eq hA]; simp
    have e4 : A .not true = false := by rw [Ar.not_eq hA]; rfl
    have hidx : ∀ (s : Slots) (h : HL) (d : Option Nat) (af : List Nat) (x i : Opd), ev s x = .pv (.view (E .ins p)) → ev s i = .pv (.int .i64 (Int.ofNat k)) → stepO ⟨d, none, af, .idx 7 x i⟩ s (hget h) = some { v := .pv (.vptr (E.inn ⟨op, ⟨vk, vi, vb, vs, vt⟩, nn⟩).cells) } :=
      fun s h d af x i h1 h2 => idx_view (E.inn ⟨op, ⟨vk, vi, vb, vs, vt⟩, nn⟩) h1 h2 (by simp) (by rw [E.ins_eq hE]; simp [hx]) rfl
    have hidg : ∀ (s : Slots) (h : HL) (d : Option Nat) (g : Option (Nat × Bool)) (af : List Nat) (x i : Opd), gd s g = .yes → ev s x = .pv (.view (E .ins p)) → ev s i = .pv (.int .i64 (Int.ofNat k)) → stepO ⟨d, g, af, .idx 7 x i⟩ s (hget h) = some { v := .pv (.vptr (E.inn ⟨op, ⟨vk, vi, vb, vs, vt⟩, nn⟩).cells) } := by
      intro s h d g af x i hg h1 h2
      have := hidx s h d af x i h1 h2
      unfold stepO at this ⊢
      simp only [gd] at this
      simp only [hg]
      exact this
    refine Ok.run hmix hA false 2000 (by cbv) ?_
    refine Ok.dop (hidx _ _ _ _ _ _ (by cbv) (by cbv)) ?_
    refine Ok.run hmix hA false 2000 (by cbv) ?_
    refine Ok.dop (hidx _ _ _ _ _ _ (by cbv) (by cbv)) ?_
    refine Ok.run hmix hA false 2000 (by cbv) ?_
    rw [e2]
    refine Ok.run hmix hA true 2000 (by cbv) ?_
    refine Ok.dop (hidg _ _ _ _ _ _ _ (by cbv) (by cbv) (by cbv)) ?_
    refine Ok.run hmix hA true 2000 (by cbv) ?_
    refine Ok.dop (hidg _ _ _ _ _ _ _ (by cbv) (by cbv) (by cbv)) ?_
    refine Ok.run hmix hA true 3 (by cbv) ?_
    rw [e3]
    refine Ok.run hmix hA true 2000 (by cbv) ?_
    refine Ok.dop (hidg _ _ _ _ _ _ _ (by cbv) (by cbv) (by cbv)) ?_
    refine Ok.run hmix hA true 2000 (by cbv) ?_
    refine Ok.dop (hidg _ _ _ _ _ _ _ (by cbv) (by cbv) (by cbv)) ?_
    refine Ok.run hmix hA true 2000 (by cbv) ?_
    refine Ok.dcall (cS) (by cbv) (by cbv) (by cbv) ?_
    refine Ok.run hmix hA true 1 (by cbv) ?_
    rw [e4]
    refine Ok.run hmix hA true 2000 (by cbv) ?_
    refine Ok.drawn (by kernel_rfl) ?_
    refine Ok.run hmix hA false 2000 (by cbv) ?_
    refine Ok.condF (by cbv) ?_
    refine Ok.run hmix hA false 2000 (by cbv) ?_
    refine Ok.back (p.length - (k + 1)) [0, 1, 5] [] (by omega) (by cbv) ⟨k + 1, rfl, by omega, ?_, by cbv⟩
    rw [Ar.succ_eq hA (by omega)]; cbv
  · intro h2
    refine Ok.run hmix hA false 2000 (by cbv) ?_
    refine Ok.leave ?_
    refine Ok.run hmix hA false 2000 (by cbv) ?_
    exact Ok.fin (by cbv) (FS.out (by cbv) (PLe.refl _))
end Go.Proofs.Ytnojmocoifodjaa.Pv
set_option maxRecDepth 100000
set_option maxHeartbeats 4000000
set_option linter.unusedVariables false
set_option linter.unusedSimpArgs false
namespace Go.Proofs.Ytnojmocoifodjaa.Pv
open Go Go.Proofs
theorem ref14_one {E : Enc} (hE : E = .std) (op : List UInt8) (n : Int) : CallsV Try.prog 63 [.str op, .int .i64 n] (.pv (E.inn ⟨op, .zero, n⟩)) [] := by
  obtain ⟨A, hA⟩ : ∃ A : Ar, A = .std := ⟨_, rfl⟩
  have h0 : E .vls [] = [] := by rw [E.vls_eq hE]; rfl
  refine CallsV.ok (fn := Try.f63) (by kernel_rfl) (by kernel_rfl) rfl (by cbv) (by cbv) ?_
  refine Ok.run hmix hA false 2000 (by cbv) ?_
  refine Ok.fin (by cbv) (FS.out (by cbv) (PLe.of ?_))
  simp [Enc.inn, Vl.zero, h0]
theorem ref6_Yes {E : Enc} (hE : E = .std) (b : Bool) : CallsV Try.prog 101 [.bool b] (.pv (E.vl (vBool b))) [] := by
  obtain ⟨A, hA⟩ : ∃ A : Ar, A = .std := ⟨_, rfl⟩
  have h0 : E .vls [] = [] := by rw [E.vls_eq hE]; rfl
  refine CallsV.ok (fn := Try.f101) (by kernel_rfl) (by kernel_rfl) rfl (by cbv) (by cbv) ?_
  refine Ok.run hmix hA false 2000 (by cbv) ?_
  refine Ok.fin (by cbv) (FS.out (by cbv) (PLe.of ?_))
  simp [Enc.vl, vBool, h0]
theorem ref14_yes {E : Enc} (hE : E = .std) (b : Bool) : CallsV Try.prog 68 [.bool b] (.pv (E.inn ⟨bPush, vBool b, 0⟩)) [] := by
  obtain ⟨A, hA⟩ : ∃ A : Ar, A = .std := ⟨_, rfl⟩
  refine CallsV.ok (fn := Try.f68) (by kernel_rfl) (by kernel_rfl) rfl (by cbv) (by cbv) ?_
  refine Ok.run hmix hA false 2000 (by cbv) ?_
  refine Ok.call (ref6_Yes hE b) (by cbv) (by cbv) (by cbv) ?_
  refine Ok.run hmix hA false 2000 (by cbv) ?_
  exact Ok.fin (by cbv) (FS.out (by cbv) (PLe.of rfl))
theorem ref14_moved {E : Enc} (hE : E = .std) (p : List In) (n : Nat) (hpl : p.length ≤ 2 ^ 30) : CallsV Try.prog 100 [.view (E .ins p), .int .i64 (Int.ofNat n)] (.pv (.view (E .ins (p.map (In.shift n))))) [] := by
  obtain ⟨A, hA⟩ : ∃ A : Ar, A = .std := ⟨_, rfl⟩
  have hll : A .lenP (E .ins p) = Int.ofNat p.length := by rw [Ar.lenP_eq hA, E.ins_eq hE, List.length_map]; rfl
  refine CallsV.ok (fn := Try.f100) (by kernel_rfl) (by kernel_rfl) rfl (by cbv) (by cbv) ?_
  refine Ok.run hmix hA false 2000 (by cbv) ?_
  refine Ok.le (Le.nil 5 34 106 7 (by cbv) (by cbv) (by decide)) ?_
  refine Ok.loopAt [0, 1, 5, 6] [34] (fun m s h => ∃ (j : Nat) (out2 : List In) (n2 : Nat) (es2 : List PV), m = p.length - j ∧ j ≤ p.length ∧ out2 = (p.take j).map (In.shift n) ∧ n2 = out2.length ∧ es2 = E .ins out2 ∧
      s = mkS 36 [(0, .pv (.view (E .ins p))), (1, .pv (.int .i64 (Int.ofNat n))), (5, .ref 34 n2), (6, .pv (.int .i64 (Int.ofNat j)))] ∧ h = [(34, .row 106 7 es2 true)]) (p.length - 0) (by cbv) ⟨0, [], 0, [], rfl, Nat.zero_le _, by simp, rfl, by rw [E.ins_eq hE]; rfl, by cbv, by cbv⟩ ?_
  rintro m s h ⟨j, out2, n2, es2, rfl, hj, hout2, hn2, hes2, rfl, rfl⟩
  refine Ok.run hmix hA false 2000 (by cbv) ?_
  refine Ok.cond (by cbv) ?_ ?_
  · intro h2
    rw [Ar.lt_eq hA, hll, decide_eq_true_eq] at h2
    have hjl : j < p.length := by simpa using h2
    have hy : p[j]? = some p[j] := List.getElem?_eq_getElem hjl
    have htake : p.take (j + 1) = p.take j ++ [p[j]] := by rw [List.take_add_one, hy]; rfl
    generalize hq : p[j] = x at hy htake
    have hlen2 : n2 + 1 ≤ 2 ^ 30 := by
      rw [hn2, hout2, List.length_map, List.length_take]; omega
    have hn2j : n2 = j := by rw [hn2, hout2, List.length_map, List.length_take]; omega
    refine Ok.run hmix hA false 2000 (by cbv) ?_
    refine Ok.op (idx_view (E.inn x) (by cbv) (by cbv) (by simp) (by rw [E.ins_eq hE]; simp [hy]) rfl) ?_
    refine Ok.run hmix hA false 2000 (by cbv) ?_
    obtain ⟨op, ⟨vk, vi, vb, vs, vt⟩, nn⟩ := x
    by_cases hj1 : op = bJmp
    · have e1 : A .seq op [106, 109, 112] = true := by rw [Ar.seq_eq hA, hj1]; rfl
      have hsh : In.shift n ⟨op, ⟨vk, vi, vb, vs, vt⟩, nn⟩ = ⟨op, ⟨vk, vi, vb, vs, vt⟩, IntKind.wrap .i64 (nn + n)⟩ := by simp [In.shift, hj1]
      rw [e1]
      refine Ok.run hmix hA true 2000 (by cbv) ?_
      refine Ok.cond (by cbv) ?_ ?_
      · intro _
        refine Ok.run hmix hA true 2000 (by cbv) ?_
        obtain ⟨es3, hes3⟩ : ∃ es3, es3 = es2 ++ [E.inn (In.shift n ⟨op, ⟨vk, vi, vb, vs, vt⟩, nn⟩)] := ⟨_, rfl⟩
        obtain ⟨n3, hn3⟩ : ∃ n3, n3 = n2 + 1 := ⟨_, rfl⟩
        refine Ok.op (app_ref (by cbv) (by cbv) (by rw [hn2, hes2, E.ins_eq hE, List.length_map]) (by cbv) (by cbv) (by decide) (by simp only [List.length_singleton]; omega) (by unfold maxLen; simp only [List.length_singleton]; omega) n3 (by exact hn3) es3 (by rw [hes3, hsh]; first | rfl | (rw [Ar.add_eq hA]; rfl))) ?_
        refine Ok.run hmix hA true 2000 (by cbv) ?_
        refine Ok.back (p.length - (j + 1)) [0, 1, 5, 6] [34] (by omega) (by cbv) ⟨j + 1, (p.take (j + 1)).map (In.shift n), n3, es3, rfl, by omega, rfl, ?_, ?_, ?_, by cbv⟩
        · rw [hn3, hn2, hout2, htake]; simp
        · rw [hes3, hes2, E.ins_eq hE, E.ins_eq hE, hout2, htake]; simp
        · rw [Ar.succ_eq hA (by omega)]; cbv
      · intro hh; cases hh
    · have e1 : A .seq op [106, 109, 112] = false := by rw [Ar.seq_eq hA]; exact decide_eq_false hj1
      rw [e1]
      refine Ok.run hmix hA true 6 (by cbv) ?_
      by_cases hj2 : op = bJf
      · have e2 : A .seq op [106, 102] = true := by rw [Ar.seq_eq hA, hj2]; rfl
        have hsh : In.shift n ⟨op, ⟨vk, vi, vb, vs, vt⟩, nn⟩ = ⟨op, ⟨vk, vi, vb, vs, vt⟩, IntKind.wrap .i64 (nn + n)⟩ := by simp [In.shift, hj2]
        rw [e2]
        refine Ok.run hmix hA true 2000 (by cbv) ?_
        refine Ok.cond (by cbv) ?_ ?_
        · intro _
          refine Ok.run hmix hA true 2000 (by cbv) ?_
          obtain ⟨es3, hes3⟩ : ∃ es3, es3 = es2 ++ [E.inn (In.shift n ⟨op, ⟨vk, vi, vb, vs, vt⟩, nn⟩)] := ⟨_, rfl⟩
          obtain ⟨n3, hn3⟩ : ∃ n3, n3 = n2 + 1 := ⟨_, rfl⟩
          refine Ok.op (app_ref (by cbv) (by cbv) (by rw [hn2, hes2, E.ins_eq hE, List.length_map]) (by cbv) (by cbv) (by decide) (by simp only [List.length_singleton]; omega) (by unfold maxLen; simp only [List.length_singleton]; omega) n3 (by exact hn3) es3 (by rw [hes3, hsh]; first | rfl | (rw [Ar.add_eq hA]; rfl))) ?_
          refine Ok.run hmix hA true 2000 (by cbv) ?_
          refine Ok.back (p.length - (j + 1)) [0, 1, 5, 6] [34] (by omega) (by cbv) ⟨j + 1, (p.take (j + 1)).map (In.shift n), n3, es3, rfl, by omega, rfl, ?_, ?_, ?_, by cbv⟩
          · rw [hn3, hn2, hout2, htake]; simp
          · rw [hes3, hes2, E.ins_eq hE, E.ins_eq hE, hout2, htake]; simp
          · rw [Ar.succ_eq hA (by omega)]; cbv
        · intro hh; cases hh
      · have e2 : A .seq op [106, 102] = false := by rw [Ar.seq_eq hA]; exact decide_eq_false hj2
        have hsh : In.shift n ⟨op, ⟨vk, vi, vb, vs, vt⟩, nn⟩ = ⟨op, ⟨vk, vi, vb, vs, vt⟩, nn⟩ := by simp [In.shift, hj1, hj2]
        rw [e2]
        refine Ok.run hmix hA true 2000 (by cbv) ?_
        refine Ok.cond (by cbv) ?_ ?_
        · intro hh; cases hh
        · intro _
          refine Ok.run hmix hA true 2000 (by cbv) ?_
          obtain ⟨es3, hes3⟩ : ∃ es3, es3 = es2 ++ [E.inn (In.shift n ⟨op, ⟨vk, vi, vb, vs, vt⟩, nn⟩)] := ⟨_, rfl⟩
          obtain ⟨n3, hn3⟩ : ∃ n3, n3 = n2 + 1 := ⟨_, rfl⟩
          refine Ok.op (app_ref (by cbv) (by cbv) (by rw [hn2, hes2, E.ins_eq hE, List.length_map]) (by cbv) (by cbv) (by decide) (by simp only [List.length_singleton]; omega) (by unfold maxLen; simp only [List.length_singleton]; omega) n3 (by exact hn3) es3 (by rw [hes3, hsh]; first | rfl | (rw [Ar.add_eq hA]; rfl))) ?_
          refine Ok.run hmix hA true 2000 (by cbv) ?_
          refine Ok.back (p.length - (j + 1)) [0, 1, 5, 6] [34] (by omega) (by cbv) ⟨j + 1, (p.take (j + 1)).map (In.shift n), n3, es3, rfl, by omega, rfl, ?_, ?_, ?_, by cbv⟩
          · rw [hn3, hn2, hout2, htake]; simp
          · rw [hes3, hes2, E.ins_eq hE, E.ins_eq hE, hout2, htake]; simp
          · rw [Ar.succ_eq hA (by omega)]; cbv
  · intro h2
    have hje : j = p.length := by
      rw [Ar.lt_eq hA, hll, decide_eq_false_iff_not] at h2
      simp at h2; omega
    rw [hje, List.take_length] at hout2
    rw [← hout2]
    refine Ok.run hmix hA false 2000 (by cbv) ?_
    refine Ok.leave ?_
    refine Ok.run hmix hA false 2000 (by cbv) ?_
    subst hes2
    exact Ok.fin (by cbv) (FS.ref (by cbv) (by rw [E.ins_eq hE, List.length_map, hn2]))
def joinR (p q : List In) : List In := p ++ q.map (In.shift p.length)
/-- A list of instructions that is appended. -/
theorem app_ins {E : Enc} (hE : E = .std) {d : Option Nat} {af : List Nat} {e : TypeId} {bytes : Nat} {x y : Opd} {s : Slots} {h : HL} {b n : Nat} {m : Bool} (p q : List In) (h1 : ev s x = .ref b n) (h2 : hget h b = some (.row e 7 (E .ins p) m)) (hn : n = p.length) (h3 : ev s y = .pv (.view (E .ins q)))
    (hb : bytes ≤ 128) (hl : p.length + q.length ≤ 2 ^ 30) (r : List In) (hr : r = p ++ q) (n' : Nat) (hn' : n' = r.length) :
    stepO ⟨d, none, af, .app e 7 bytes x y⟩ s (hget h) = some { v := .ref b n', rd := [b], up := [.frz [], .row b (E .ins r)] } := by
  have hq : (E .ins q).length = q.length := by rw [E.ins_eq hE, List.length_map]
  refine app_ref h1 h2 (by rw [hn, E.ins_eq hE, List.length_map]) (ys := E .ins q) (rs := []) (by rw [h3]; rfl) (E.ins_okc hE q) (by simp) ?_ (by unfold maxLen; omega) n' (by rw [hn', hr, hq, hn, List.length_append]) (E .ins r) (by rw [hr, E.ins_eq hE, E.ins_eq hE, E.ins_eq hE, List.map_append])
  rw [hq, hn]
  have : (p.length + q.length) * bytes ≤ 2 ^ 30 * 128 := Nat.mul_le_mul hl hb
  omega
theorem ref14_join {E : Enc} (hE : E = .std) (p q : List In) (hl : p.length + q.length ≤ 2 ^ 30) : CallsV Try.prog 64 [.view (E .ins p), .view (E .ins q)] (.ref 0 (joinR p q).length) [.row 106 7 (E .ins (joinR p q)) true] := by
  obtain ⟨A, hA⟩ : ∃ A : Ar, A = .std := ⟨_, rfl⟩
  obtain ⟨lp, hlp⟩ : ∃ lp, lp = p.length := ⟨_, rfl⟩
  have hll : A .lenP (E .ins p) = Int.ofNat lp := by rw [Ar.lenP_eq hA, E.ins_eq hE, List.length_map, hlp]; rfl
  have cm := ref14_moved hE q lp (by omega)
  obtain ⟨q', hq'⟩ : ∃ q', q' = q.map (In.shift lp) := ⟨_, rfl⟩
  have hql : q'.length = q.length := by rw [hq', List.length_map]
  rw [← hq'] at cm
  obtain ⟨r, hr⟩ : ∃ r, r = p ++ q' := ⟨_, rfl⟩
  obtain ⟨n', hn'⟩ : ∃ n', n' = r.length := ⟨_, rfl⟩
  have hj : joinR p q = r := by rw [joinR, hr, hq', hlp]
  rw [hj, ← hn']
  have h0 : ([] : List PV) = E .ins [] := by rw [E.ins_eq hE]; rfl
  refine CallsV.ok (fn := Try.f64) (by kernel_rfl) (by kernel_rfl) rfl (by cbv) (by cbv) ?_
  refine Ok.run hmix hA false 2000 (by cbv) ?_
  refine Ok.op (app_ins hE [] p (by cbv) (by rw [← h0]; cbv) rfl (by cbv) (by decide) (by simp; omega) p (by simp) lp (by exact hlp)) ?_
  refine Ok.run hmix hA false 2000 (by cbv) ?_
  rw [hll]
  refine Ok.call (cm) (by cbv) (by cbv) (by cbv) ?_
  refine Ok.run hmix hA false 2000 (by cbv) ?_
  refine Ok.op (app_ins hE p q' (by cbv) (by cbv) hlp (by cbv) (by decide) (by omega) r hr n' hn') ?_
  refine Ok.run hmix hA false 2000 (by cbv) ?_
  exact Ok.fin (by cbv) (FS.row (by cbv))
end Go.Proofs.Ytnojmocoifodjaa.Pv
set_option maxRecDepth 100000
set_option maxHeartbeats 4000000
set_option linter.unusedVariables false
set_option linter.unusedSimpArgs false
namespace Go.Proofs.Ytnojmocoifodjaa.Pv
open Go Go.Proofs
theorem frz2_ref {h : Heap} {b n : Nat} {e : TypeId} {sz : Nat} {es : List PV} {m : Bool} (hb : h b = some (.row e sz es m)) (hn : n = es.length) : frz2 h (.ref b n) = some (.view es, [b]) := by
  simp [frz2, frz1, frz0, rowOf, hb, hn]
theorem frzL_nil {h : Heap} : frzL (frz2 h) [] = some ([], []) := rfl
theorem frzL_cons {h : Heap} {x : AV} {l : List AV} {p : PV} {r : List Nat} {ps : List PV} {rs : List Nat} (h1 : frz2 h x = some (p, r)) (h2 : frzL (frz2 h) l = some (ps, rs)) : frzL (frz2 h) (x :: l) = some (p :: ps, r ++ rs) := by
  simp [frzL, h1, h2]
theorem callArgs_of {s : Slots} {h : Heap} {f : Opd} {xs : List Opd} {g : Nat} {r1 : List Nat} {ps : List PV} {r2 : List Nat} (h1 : frz2 h (ev s f) = some (.func g [], r1)) (h2 : frzL (frz2 h) (xs.map (ev s)) = some (ps, r2)) : callArgs s h f xs = some (g, ps, r1 ++ r2) := by
  simp [callArgs, h1, h2]
def chooseR (a b c : List In) : List In :=
  joinR (joinR (a ++ [⟨bJf, .zero, ((a.length + 1 + b.length + 1 : Nat) : Int)⟩]) b ++ [⟨bJmp, .zero, ((a.length + 1 + b.length + 1 + c.length : Nat) : Int)⟩]) c
theorem joinR_len (p q : List In) : (joinR p q).length = p.length + q.length := by simp [joinR]
theorem ref14_choose {E : Enc} (hE : E = .std) (a b c : List In) (hl : a.length + b.length + c.length ≤ 2 ^ 29) : CallsV Try.prog 67 [.view (E .ins a), .view (E .ins b), .view (E .ins c)] (.pv (.view (E .ins (chooseR a b c)))) [] := by
  obtain ⟨A, hA⟩ : ∃ A : Ar, A = .std := ⟨_, rfl⟩
  obtain ⟨la, hla⟩ : ∃ la, la = a.length := ⟨_, rfl⟩
  obtain ⟨f, hf⟩ : ∃ f, f = la + 1 + b.length + 1 := ⟨_, rfl⟩
  obtain ⟨f2, hf2⟩ : ∃ f2, f2 = f + c.length := ⟨_, rfl⟩
  have ela : A .lenP (E .ins a) = Int.ofNat la := by rw [Ar.lenP_eq hA, E.ins_eq hE, hla]; simp
  have elb : A .add .i64 (A .add .i64 (A .add .i64 (Int.ofNat la) 1) (A .lenP (E .ins b))) 1 = Int.ofNat f := by
    rw [Ar.succ_eq hA (by omega), Ar.lenP_eq hA, E.ins_eq hE, List.length_map]
    have : A .add .i64 (Int.ofNat (la + 1)) ((b.length : Nat) : Int) = Int.ofNat (la + 1 + b.length) := ofNat_add hA (by omega)
    rw [this, Ar.succ_eq hA (by omega), hf]
  have elc : A .add .i64 (Int.ofNat f) (A .lenP (E .ins c)) = Int.ofNat f2 := by
    rw [Ar.lenP_eq hA, E.ins_eq hE, List.length_map]
    exact (ofNat_add hA (by omega)).trans (by rw [hf2])
  obtain ⟨p1, hp1⟩ : ∃ p, p = a ++ [(⟨bJf, .zero, Int.ofNat f⟩ : In)] := ⟨_, rfl⟩
  obtain ⟨n1, hn1⟩ : ∃ n, n = p1.length := ⟨_, rfl⟩
  have hl1 : p1.length = a.length + 1 := by rw [hp1]; simp
  have cj1 := ref14_join hE p1 b (by omega)
  obtain ⟨p2, hp2⟩ : ∃ p, p = joinR p1 b := ⟨_, rfl⟩
  have hl2 : p2.length = a.length + 1 + b.length := by rw [hp2, joinR_len, hl1]
  obtain ⟨n2, hn2⟩ : ∃ n, n = p2.length := ⟨_, rfl⟩
  rw [← hp2, ← hn2] at cj1
  obtain ⟨p3, hp3⟩ : ∃ p, p = p2 ++ [(⟨bJmp, .zero, Int.ofNat f2⟩ : In)] := ⟨_, rfl⟩
  obtain ⟨n3, hn3⟩ : ∃ n, n = p3.length := ⟨_, rfl⟩
  have hl3 : p3.length = a.length + 1 + b.length + 1 := by rw [hp3]; simp [hl2]
  have cj2 := ref14_join hE p3 c (by omega)
  obtain ⟨p4, hp4⟩ : ∃ p, p = joinR p3 c := ⟨_, rfl⟩
  obtain ⟨n4, hn4⟩ : ∃ n, n = p4.length := ⟨_, rfl⟩
  rw [← hp4, ← hn4] at cj2
  have hres : chooseR a b c = p4 := by rw [hp4, hp3, hp2, hp1, hf2, hf, hla]; rfl
  rw [hres]
  have hlen : ∀ (p : List In), (E .ins p).length = p.length := fun p => by rw [E.ins_eq hE, List.length_map]
  have h0 : ([] : List PV) = E .ins [] := by rw [E.ins_eq hE]; rfl
  refine CallsV.ok (fn := Try.f67) (by kernel_rfl) (by kernel_rfl) rfl (by cbv) (by cbv) ?_
  refine Ok.run hmix hA false 2000 (by cbv) ?_
  rw [ela, elb]
  refine Ok.op (app_ins hE [] a (by cbv) (by rw [← h0]; cbv) rfl (by cbv) (by decide) (by simp; omega) a (by simp) la (by exact hla)) ?_
  refine Ok.run hmix hA false 2000 (by cbv) ?_
  refine Ok.call (ref14_one hE [106, 102] (Int.ofNat f)) (by cbv) (by cbv) (by cbv) ?_
  refine Ok.run hmix hA false 2000 (by cbv) ?_
  refine Ok.op (app_ref (by cbv) (by cbv) (by rw [hlen, hla]) (by cbv) (by cbv) (by decide) (by simp only [List.length_singleton]; omega) (by unfold maxLen; simp only [List.length_singleton]; omega) n1 (by simp only [List.length_singleton]; omega) (E .ins p1) (by rw [hp1, E.ins_eq hE, E.ins_eq hE, List.map_append]; rfl)) ?_
  refine Ok.run hmix hA false 2000 (by cbv) ?_
  refine Ok.call cj1 (by cbv) (callArgs_of (by cbv) (frzL_cons (frz2_ref (by cbv) (by rw [hlen, hn1])) (frzL_cons (by cbv) frzL_nil))) (by cbv) ?_
  refine Ok.run hmix hA false 2000 (by cbv) ?_
  rw [elc]
  refine Ok.call (ref14_one hE [106, 109, 112] (Int.ofNat f2)) (by cbv) (by cbv) (by cbv) ?_
  refine Ok.run hmix hA false 2000 (by cbv) ?_
  refine Ok.op (app_ref (by cbv) (by cbv) (by rw [hlen, hn2]) (by cbv) (by cbv) (by decide) (by simp only [List.length_singleton]; omega) (by unfold maxLen; simp only [List.length_singleton]; omega) n3 (by simp only [List.length_singleton]; omega) (E .ins p3) (by rw [hp3, E.ins_eq hE, E.ins_eq hE, List.map_append]; rfl)) ?_
  refine Ok.run hmix hA false 2000 (by cbv) ?_
  refine Ok.call cj2 (by cbv) (callArgs_of (by cbv) (frzL_cons (frz2_ref (by cbv) (by rw [hlen, hn3])) (frzL_cons (by cbv) frzL_nil))) (by cbv) ?_
  refine Ok.run hmix hA false 2000 (by cbv) ?_
  exact Ok.fin (by cbv) (FS.ref (by cbv) (by rw [hlen, hn4]))
end Go.Proofs.Ytnojmocoifodjaa.Pv
set_option maxRecDepth 100000
set_option maxHeartbeats 4000000
set_option linter.unusedVariables false
set_option linter.unusedSimpArgs false
namespace Go.Proofs.Ytnojmocoifodjaa.Pv
open Go Go.Proofs
def foldR (out : List In) : List (List In) → List In
  | [] => out
  | p :: ps => foldR (joinR out p) ps
theorem foldR_len : ∀ (ps : List (List In)) (out : List In), (foldR out ps).length = out.length + (ps.map List.length).sum
  | [], out => by simp [foldR]
  | p :: ps, out => by rw [foldR, foldR_len ps, joinR_len]; simp; omega
mutual
def genR : Ex4 → List In
  | .mk op v n a =>
    if op = bLit then [⟨bPush, v, 0⟩]
    else if op = bX then [⟨bX, .zero, 0⟩]
    else if op = bAnd then chooseR ((genRs a).getD 0 []) ((genRs a).getD 1 []) [⟨bPush, vBool false, 0⟩]
    else if op = bOr then chooseR ((genRs a).getD 0 []) [⟨bPush, vBool true, 0⟩] ((genRs a).getD 1 [])
    else if op = bIf then chooseR ((genRs a).getD 0 []) ((genRs a).getD 1 []) ((genRs a).getD 2 [])
    else if op = bAt then foldR [] (genRs a) ++ [⟨bAt, .zero, n⟩]
    else if op = bTup then foldR [] (genRs a) ++ [⟨bTup, .zero, a.length⟩]
    else foldR [] (genRs a) ++ [⟨op, .zero, 0⟩]
def genRs : List Ex4 → List (List In)
  | [] => []
  | e :: l => genR e :: genRs l
end
theorem genRs_eq : ∀ l, genRs l = l.map genR
  | [] => rfl
  | e :: l => by rw [genRs, genRs_eq l, List.map_cons]
theorem chooseR_len (a b c : List In) : (chooseR a b c).length = a.length + b.length + c.length + 2 := by
  unfold chooseR
  rw [joinR_len, List.length_append, joinR_len, List.length_append]
  simp; omega
theorem sumRs : ∀ {l : List Ex4}, (∀ e, e ∈ l → (genR e).length ≤ sizE e) → ((genRs l).map List.length).sum ≤ sizEs l
  | [], _ => by simp [genRs, sizEs]
  | e :: l, h => by
    have h1 := h e (by simp)
    have h2 := sumRs (l := l) (fun x hx => h x (by simp [hx]))
    simp [genRs, sizEs] at h2 ⊢; omega
theorem getD_le (m : List (List In)) (i : Nat) : (m.getD i []).length ≤ (m.map List.length).sum := by
  induction m generalizing i with
  | nil => simp
  | cons p m ih =>
    cases i with
    | zero => simp
    | succ i => have := ih i; simp at this ⊢; omega
theorem genR_le : ∀ (n : Nat) (e : Ex4), SizeOf.sizeOf e ≤ n → (genR e).length ≤ sizE e
  | 0, .mk op v k a, h => by simp at h
  | n + 1, .mk op v k a, h => by
    have hs := sumRs (l := a) (fun e he => genR_le n e (by have := List.sizeOf_lt_of_mem he; simp at h; omega))
    have h0 := getD_le (genRs a) 0
    have h01 := getAll2 (m := genRs a) (i := 0) (j := 1) (by omega)
    have h3 := getAll3 (m := genRs a)
    rw [genR, sizE]
    repeat' split
    all_goals (try (simp only [chooseR_len, foldR_len, List.length_append, List.map_cons, List.map_nil, List.sum_cons, List.sum_nil, List.length_cons, List.length_nil]))
    all_goals omega
theorem ref14_GenExpr {E : Enc} (hE : E = .std) : ∀ (n : Nat) (e : Ex4), SizeOf.sizeOf e ≤ n → wfE e → sizE e ≤ 2 ^ 27 → CallsV Try.prog 26 [E.ex e] (.pv (.view (E .ins (genR e)))) [] := by
  intro n
  induction n with
  | zero => intro e h; cases e; simp at h
  | succ n ih =>
    rintro ⟨op, ⟨vk, vi, vb, vs, vt⟩, k, a⟩ hn0 hwf hsz
    obtain ⟨A, hA⟩ : ∃ A : Ar, A = .std := ⟨_, rfl⟩
    obtain ⟨har, hwa⟩ := hwf
    rw [sizE] at hsz
    have hat : ∀ i, i < a.length → ∃ e, a[i]? = some e ∧ (genRs a).getD i [] = genR e ∧ CallsV Try.prog 26 [E.ex e] (.pv (.view (E .ins (genR e)))) [] := fun i hi => by
      have he := List.getElem_mem hi
      have h1 := List.sizeOf_lt_of_mem he
      have h2 := sizEs_mem he
      simp only [Ex4.mk.sizeOf_spec] at hn0
      exact ⟨a[i], List.getElem?_eq_getElem hi, by rw [genRs_eq]; simp [List.getD, hi], ih _ (by omega) (wfEs_mem hwa he) (by omega)⟩
    have hsum : ((genRs a).map List.length).sum ≤ sizEs a := sumRs (fun e he => genR_le _ e (Nat.le_refl _))
    have hal := sizEs_len a
    have hg0 := getD_le (genRs a) 0
    have hg1 := getD_le (genRs a) 1
    have hg2 := getD_le (genRs a) 2
    have hla : A .lenP (E .exs a) = Int.ofNat a.length := by rw [Ar.lenP_eq hA, E.exs_eq hE, List.length_map]; rfl
    have hnil : E .ins [] = [] := by rw [E.ins_eq hE]; rfl
    have hinl : ∀ (p : List In), (E .ins p).length = p.length := fun p => by rw [E.ins_eq hE, List.length_map]
    refine CallsV.ok (fn := Try.f26) (by kernel_rfl) (by kernel_rfl) rfl (by cbv) (by cbv) ?_
    refine Ok.run hmix hA false 2000 (by cbv) ?_
    refine Ok.cond (by cbv) ?_ ?_
    · intro h1
      have h1 : op = bLit := by rw [Ar.seq_eq hA, decide_eq_true_eq] at h1; exact h1
      rw [genR, if_pos h1]
      refine Ok.run hmix hA false 2000 (by cbv) ?_
      exact Ok.fin (by cbv) (FS.out (by cbv) (PLe.of (by rw [E.ins_eq hE]; rfl)))
    · intro h1
      have h1 : ¬ op = bLit := by rw [Ar.seq_eq hA, decide_eq_false_iff_not] at h1; exact h1
      refine Ok.run hmix hA false 2000 (by cbv) ?_
      refine Ok.cond (by cbv) ?_ ?_
      · intro h2
        have h2 : op = bX := by rw [Ar.seq_eq hA, decide_eq_true_eq] at h2; exact h2
        rw [genR, if_neg h1, if_pos h2]
        refine Ok.run hmix hA false 2000 (by cbv) ?_
        refine Ok.call (ref14_one hE [120] 0) (by cbv) (by cbv) (by cbv) ?_
        refine Ok.run hmix hA false 2000 (by cbv) ?_
        exact Ok.fin (by cbv) (FS.out (by cbv) (PLe.of (by rw [E.ins_eq hE]; rfl)))
      · intro h2
        have h2 : ¬ op = bX := by rw [Ar.seq_eq hA, decide_eq_false_iff_not] at h2; exact h2
        refine Ok.run hmix hA false 2000 (by cbv) ?_
        refine Ok.cond (by cbv) ?_ ?_
        · intro h3
          have h3 : op = bAnd := by rw [Ar.seq_eq hA, decide_eq_true_eq] at h3; exact h3
          rw [genR, if_neg h1, if_neg h2, if_pos h3]
          obtain ⟨e0, he0, hp0, c0⟩ := hat 0 (by simp [arity, h3, bAnd, bAt] at har; omega)
          obtain ⟨e1, he1, hp1, c1⟩ := hat 1 (by simp [arity, h3, bAnd, bAt] at har; omega)
          rw [hp0, hp1]
          rw [hp0] at hg0
          rw [hp1] at hg1
          generalize genR e0 = p0 at c0 hg0
          generalize genR e1 = p1 at c1 hg1
          have cc := ref14_choose hE p0 p1 [⟨bPush, vBool false, 0⟩] (by simp; omega)
          generalize chooseR p0 p1 [⟨bPush, vBool false, 0⟩] = q at cc
          have hy : PV.view [E.inn ⟨bPush, vBool false, 0⟩] = .view (E .ins [⟨bPush, vBool false, 0⟩]) := by rw [E.ins_eq hE]; rfl
          rw [← hy] at cc
          refine Ok.run hmix hA false 2000 (by cbv) ?_
          refine Ok.dop (idx_view (E.ex e0) (by cbv) (by cbv) (by simp) (by rw [E.exs_eq hE]; simp [he0]) rfl) ?_
          refine Ok.run hmix hA false 2000 (by cbv) ?_
          refine Ok.dcall (c0) (by cbv) (by cbv) (by cbv) ?_
          refine Ok.run hmix hA false 2000 (by cbv) ?_
          refine Ok.dop (idx_view (E.ex e1) (by cbv) (by cbv) (by simp) (by rw [E.exs_eq hE]; simp [he1]) rfl) ?_
          refine Ok.run hmix hA false 2000 (by cbv) ?_
          refine Ok.dcall (c1) (by cbv) (by cbv) (by cbv) ?_
          refine Ok.run hmix hA false 2000 (by cbv) ?_
          refine Ok.dcall (ref14_yes hE false) (by cbv) (by cbv) (by cbv) ?_
          refine Ok.run hmix hA false 2000 (by cbv) ?_
          refine Ok.dcall (cc) (by cbv) (by cbv) (by cbv) ?_
          refine Ok.run hmix hA false 2000 (by cbv) ?_
          refine Ok.drawn (by kernel_rfl) ?_
          refine Ok.run hmix hA false 2000 (by cbv) ?_
          exact Ok.fin (by cbv) (FS.out (by cbv) (PLe.refl _))
        · intro h3
          have h3 : ¬ op = bAnd := by rw [Ar.seq_eq hA, decide_eq_false_iff_not] at h3; exact h3
          refine Ok.run hmix hA false 2000 (by cbv) ?_
          refine Ok.cond (by cbv) ?_ ?_
          · intro h4
            have h4 : op = bOr := by rw [Ar.seq_eq hA, decide_eq_true_eq] at h4; exact h4
            rw [genR, if_neg h1, if_neg h2, if_neg h3, if_pos h4]
            obtain ⟨e0, he0, hp0, c0⟩ := hat 0 (by simp [arity, h4, bAnd, bAt, bOr] at har; omega)
            obtain ⟨e1, he1, hp1, c1⟩ := hat 1 (by simp [arity, h4, bAnd, bAt, bOr] at har; omega)
            rw [hp0, hp1]
            rw [hp0] at hg0
            rw [hp1] at hg1
            generalize genR e0 = p0 at c0 hg0
            generalize genR e1 = p1 at c1 hg1
            have cc := ref14_choose hE p0 [⟨bPush, vBool true, 0⟩] p1 (by simp; omega)
            generalize chooseR p0 [⟨bPush, vBool true, 0⟩] p1 = q at cc
            have hy : PV.view [E.inn ⟨bPush, vBool true, 0⟩] = .view (E .ins [⟨bPush, vBool true, 0⟩]) := by rw [E.ins_eq hE]; rfl
            rw [← hy] at cc
            refine Ok.run hmix hA false 2000 (by cbv) ?_
            refine Ok.dop (idx_view (E.ex e0) (by cbv) (by cbv) (by simp) (by rw [E.exs_eq hE]; simp [he0]) rfl) ?_
            refine Ok.run hmix hA false 2000 (by cbv) ?_
            refine Ok.dcall (c0) (by cbv) (by cbv) (by cbv) ?_
            refine Ok.run hmix hA false 2000 (by cbv) ?_
            refine Ok.dcall (ref14_yes hE true) (by cbv) (by cbv) (by cbv) ?_
            refine Ok.run hmix hA false 2000 (by cbv) ?_
            refine Ok.dop (idx_view (E.ex e1) (by cbv) (by cbv) (by simp) (by rw [E.exs_eq hE]; simp [he1]) rfl) ?_
            refine Ok.run hmix hA false 2000 (by cbv) ?_
            refine Ok.dcall (c1) (by cbv) (by cbv) (by cbv) ?_
            refine Ok.run hmix hA false 2000 (by cbv) ?_
            refine Ok.dcall (cc) (by cbv) (by cbv) (by cbv) ?_
            refine Ok.run hmix hA false 2000 (by cbv) ?_
            refine Ok.drawn (by kernel_rfl) ?_
            refine Ok.run hmix hA false 2000 (by cbv) ?_
            exact Ok.fin (by cbv) (FS.out (by cbv) (PLe.refl _))
          · intro h4
            have h4 : ¬ op = bOr := by rw [Ar.seq_eq hA, decide_eq_false_iff_not] at h4; exact h4
            refine Ok.run hmix hA false 2000 (by cbv) ?_
            refine Ok.cond (by cbv) ?_ ?_
            · intro h5
              have h5 : op = bIf := by rw [Ar.seq_eq hA, decide_eq_true_eq] at h5; exact h5
              rw [genR, if_neg h1, if_neg h2, if_neg h3, if_neg h4, if_pos h5]
              obtain ⟨e0, he0, hp0, c0⟩ := hat 0 (by simp [arity, h5, bAnd, bAt, bOr, bIf] at har; omega)
              obtain ⟨e1, he1, hp1, c1⟩ := hat 1 (by simp [arity, h5, bAnd, bAt, bOr, bIf] at har; omega)
              obtain ⟨e2, he2, hp2, c2⟩ := hat 2 (by simp [arity, h5, bAnd, bAt, bOr, bIf] at har; omega)
              rw [hp0, hp1, hp2]
              rw [hp0] at hg0
              rw [hp1] at hg1
              rw [hp2] at hg2
              generalize genR e0 = p0 at c0 hg0
              generalize genR e1 = p1 at c1 hg1
              generalize genR e2 = p2 at c2 hg2
              have cc := ref14_choose hE p0 p1 p2 (by omega)
              generalize chooseR p0 p1 p2 = q at cc
              refine Ok.run hmix hA false 2000 (by cbv) ?_
              refine Ok.dop (idx_view (E.ex e0) (by cbv) (by cbv) (by simp) (by rw [E.exs_eq hE]; simp [he0]) rfl) ?_
              refine Ok.run hmix hA false 2000 (by cbv) ?_
              refine Ok.dcall (c0) (by cbv) (by cbv) (by cbv) ?_
              refine Ok.run hmix hA false 2000 (by cbv) ?_
              refine Ok.dop (idx_view (E.ex e1) (by cbv) (by cbv) (by simp) (by rw [E.exs_eq hE]; simp [he1]) rfl) ?_
              refine Ok.run hmix hA false 2000 (by cbv) ?_
              refine Ok.dcall (c1) (by cbv) (by cbv) (by cbv) ?_
              refine Ok.run hmix hA false 2000 (by cbv) ?_
              refine Ok.dop (idx_view (E.ex e2) (by cbv) (by cbv) (by simp) (by rw [E.exs_eq hE]; simp [he2]) rfl) ?_
              refine Ok.run hmix hA false 2000 (by cbv) ?_
              refine Ok.dcall (c2) (by cbv) (by cbv) (by cbv) ?_
              refine Ok.run hmix hA false 2000 (by cbv) ?_
              refine Ok.dcall (cc) (by cbv) (by cbv) (by cbv) ?_
              refine Ok.run hmix hA false 2000 (by cbv) ?_
              refine Ok.drawn (by kernel_rfl) ?_
              refine Ok.run hmix hA false 2000 (by cbv) ?_
              exact Ok.fin (by cbv) (FS.out (by cbv) (PLe.refl _))
            · intro h5
              have h5 : ¬ op = bIf := by rw [Ar.seq_eq hA, decide_eq_false_iff_not] at h5; exact h5
              refine Ok.run hmix hA false 2000 (by cbv) ?_
              refine Ok.le (Le.nil 3 3 106 7 (by cbv) (by cbv) (by decide)) ?_
              refine Ok.loopAt [1, 3, 4] [1, 3] (fun mm s h => ∃ (j : Nat) (out : List In) (n : Nat), mm = a.length - j ∧ j ≤ a.length ∧ foldR out ((genRs a).drop j) = foldR [] (genRs a) ∧ n = out.length ∧
                s = mkS 105 [(1, .ptr 1 0), (3, .ref 3 n), (4, .pv (.int .i64 (Int.ofNat j)))] ∧
                h = [(1, .box [.pv (.str op), .pv (.int .i64 vk), .pv (.int .i64 vi), .pv (.bool vb), .pv (.str vs), .pv (.view (E .vls vt)), .pv (.int .i64 k), .pv (.view (E .exs a))] true), (3, .row 106 7 (E .ins out) true)]) (a.length - 0) (by cbv) ⟨0, [], 0, rfl, Nat.zero_le _, rfl, rfl, by cbv, by rw [hnil]; cbv⟩ ?_
              rintro mm s h ⟨j, out, n, rfl, hj, hout, hn, rfl, rfl⟩
              have hol : out.length ≤ 2 ^ 28 := by
                have : out.length ≤ (foldR out ((genRs a).drop j)).length := by rw [foldR_len]; omega
                rw [hout, foldR_len] at this
                simp at this; omega
              refine Ok.run hmix hA false 2000 (by cbv) ?_
              refine Ok.cond (by cbv) ?_ ?_
              · intro h8
                rw [Ar.lt_eq hA, hla, decide_eq_true_eq] at h8
                have hjl : j < a.length := by simpa using h8
                obtain ⟨e0, he0, hp0, c0⟩ := hat j hjl
                have hjr : j < (genRs a).length := by rw [genRs_eq, List.length_map]; exact hjl
                have hd : (genRs a).drop j = genR e0 :: (genRs a).drop (j + 1) := by
                  rw [List.drop_eq_getElem_cons hjr]
                  congr 1
                  rw [← hp0]; simp [List.getD, hjr]
                rw [hd, foldR] at hout
                generalize genR e0 = p0 at c0 hout
                have hjl2 : (joinR out p0).length ≤ 2 ^ 28 := by
                  have : (joinR out p0).length ≤ (foldR (joinR out p0) ((genRs a).drop (j + 1))).length := by rw [foldR_len]; omega
                  rw [hout, foldR_len] at this
                  simp at this; omega
                have cj := ref14_join hE out p0 (by rw [joinR_len] at hjl2; omega)
                obtain ⟨q, hq⟩ : ∃ q, q = joinR out p0 := ⟨_, rfl⟩
                obtain ⟨nq, hnq⟩ : ∃ n, n = q.length := ⟨_, rfl⟩
                rw [← hq, ← hnq] at cj
                rw [← hq] at hout
                refine Ok.run hmix hA false 2000 (by cbv) ?_
                refine Ok.op (idx_view (E.ex e0) (by cbv) (by cbv) (by simp) (by rw [E.exs_eq hE]; simp [he0]) rfl) ?_
                refine Ok.run hmix hA false 2000 (by cbv) ?_
                refine Ok.call (c0) (by cbv) (by cbv) (by cbv) ?_
                refine Ok.run hmix hA false 2000 (by cbv) ?_
                refine Ok.call cj (by cbv) (callArgs_of (by cbv) (frzL_cons (frz2_ref (by cbv) (by rw [hn, hinl])) (frzL_cons (by cbv) frzL_nil))) (by cbv) ?_
                refine Ok.run hmix hA false 2000 (by cbv) ?_
                refine Ok.backLe (a.length - (j + 1)) (by omega) (Le.keepSwap [1, 3, 4] [1, 80000] 3 80000 (by cbv)) ⟨j + 1, q, nq, rfl, by omega, hout, hnq, ?_, by cbv⟩
                rw [Ar.succ_eq hA (by omega)]; cbv
              intro h8
              have hje : j = a.length := by
                rw [Ar.lt_eq hA, hla, decide_eq_false_iff_not] at h8
                simp at h8; omega
              rw [hje, show (genRs a).drop a.length = [] by rw [genRs_eq]; simp, foldR] at hout
              refine Ok.run hmix hA false 2000 (by cbv) ?_
              refine Ok.leave ?_
              refine Ok.run hmix hA false 2000 (by cbv) ?_
              refine Ok.cond (by cbv) ?_ ?_
              · intro h6
                have h6 : op = bAt := by rw [Ar.seq_eq hA, decide_eq_true_eq] at h6; exact h6
                have hres : genR ⟨op, ⟨vk, vi, vb, vs, vt⟩, k, a⟩ = out ++ [⟨bAt, .zero, k⟩] := by rw [genR, if_neg h1, if_neg h2, if_neg h3, if_neg h4, if_neg h5, if_pos h6, hout]
                obtain ⟨r, hr⟩ : ∃ r, r = out ++ [(⟨bAt, .zero, k⟩ : In)] := ⟨_, rfl⟩
                rw [hres, ← hr]
                obtain ⟨n3, hn3⟩ : ∃ n3, n3 = n + 1 := ⟨_, rfl⟩
                refine Ok.run hmix hA false 2000 (by cbv) ?_
                refine Ok.call (ref14_one hE [97, 116] k) (by cbv) (by cbv) (by cbv) ?_
                refine Ok.run hmix hA false 2000 (by cbv) ?_
                refine Ok.op (app_ref (by cbv) (by cbv) (by rw [hn, hinl]) (by cbv) (by cbv) (by decide) (by simp only [List.length_singleton]; omega) (by unfold maxLen; simp only [List.length_singleton]; omega) n3 (by exact hn3) (E .ins r) (by rw [hr, E.ins_eq hE, E.ins_eq hE, List.map_append]; rfl)) ?_
                refine Ok.run hmix hA false 2000 (by cbv) ?_
                exact Ok.fin (by cbv) (FS.ref (by cbv) (by rw [hn3, hn, hinl, hr]; simp))
              · intro h6
                have h6 : ¬ op = bAt := by rw [Ar.seq_eq hA, decide_eq_false_iff_not] at h6; exact h6
                refine Ok.run hmix hA false 2000 (by cbv) ?_
                refine Ok.cond (by cbv) ?_ ?_
                · intro h7
                  have h7 : op = bTup := by rw [Ar.seq_eq hA, decide_eq_true_eq] at h7; exact h7
                  obtain ⟨la, hla0⟩ : ∃ la, la = a.length := ⟨_, rfl⟩
                  have hres : genR ⟨op, ⟨vk, vi, vb, vs, vt⟩, k, a⟩ = out ++ [⟨bTup, .zero, Int.ofNat la⟩] := by rw [genR, if_neg h1, if_neg h2, if_neg h3, if_neg h4, if_neg h5, if_neg h6, if_pos h7, hout, hla0]; rfl
                  obtain ⟨r, hr⟩ : ∃ r, r = out ++ [(⟨bTup, .zero, Int.ofNat la⟩ : In)] := ⟨_, rfl⟩
                  rw [hres, ← hr]
                  obtain ⟨n3, hn3⟩ : ∃ n3, n3 = n + 1 := ⟨_, rfl⟩
                  refine Ok.run hmix hA false 2000 (by cbv) ?_
                  rw [hla, ← hla0]
                  refine Ok.call (ref14_one hE [116, 117, 112] (Int.ofNat la)) (by cbv) (by cbv) (by cbv) ?_
                  refine Ok.run hmix hA false 2000 (by cbv) ?_
                  refine Ok.op (app_ref (by cbv) (by cbv) (by rw [hn, hinl]) (by cbv) (by cbv) (by decide) (by simp only [List.length_singleton]; omega) (by unfold maxLen; simp only [List.length_singleton]; omega) n3 (by exact hn3) (E .ins r) (by rw [hr, E.ins_eq hE, E.ins_eq hE, List.map_append]; rfl)) ?_
                  refine Ok.run hmix hA false 2000 (by cbv) ?_
                  exact Ok.fin (by cbv) (FS.ref (by cbv) (by rw [hn3, hn, hinl, hr]; simp))
                · intro h7
                  have h7 : ¬ op = bTup := by rw [Ar.seq_eq hA, decide_eq_false_iff_not] at h7; exact h7
                  have hres : genR ⟨op, ⟨vk, vi, vb, vs, vt⟩, k, a⟩ = out ++ [⟨op, .zero, 0⟩] := by rw [genR, if_neg h1, if_neg h2, if_neg h3, if_neg h4, if_neg h5, if_neg h6, if_neg h7, hout]
                  obtain ⟨r, hr⟩ : ∃ r, r = out ++ [(⟨op, .zero, 0⟩ : In)] := ⟨_, rfl⟩
                  rw [hres, ← hr]
                  obtain ⟨n3, hn3⟩ : ∃ n3, n3 = n + 1 := ⟨_, rfl⟩
                  refine Ok.run hmix hA false 2000 (by cbv) ?_
                  refine Ok.call (ref14_one hE op 0) (by cbv) (by cbv) (by cbv) ?_
                  refine Ok.run hmix hA false 2000 (by cbv) ?_
                  refine Ok.op (app_ref (by cbv) (by cbv) (by rw [hn, hinl]) (by cbv) (by cbv) (by decide) (by simp only [List.length_singleton]; omega) (by unfold maxLen; simp only [List.length_singleton]; omega) n3 (by exact hn3) (E .ins r) (by rw [hr, E.ins_eq hE, E.ins_eq hE, List.map_append]; rfl)) ?_
                  refine Ok.run hmix hA false 2000 (by cbv) ?_
                  exact Ok.fin (by cbv) (FS.ref (by cbv) (by rw [hn3, hn, hinl, hr]; simp))
end Go.Proofs.Ytnojmocoifodjaa.Pv
