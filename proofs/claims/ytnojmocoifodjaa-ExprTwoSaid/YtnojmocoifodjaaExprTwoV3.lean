/- The law ExprTwo of this seat: a part of its proof (an abstract evaluator of the code that is proved sound, and contracts of functions), with no condition. -/
import Derived.Test.YtnojmocoifodjaaExprTwoV2
set_option linter.unusedVariables false
set_option linter.unusedSimpArgs false
namespace Go.Proofs.Ytnojmocoifodjaa.Pv
open Go Go.RowKit

/-! ### A block is given up: rows stay ars lists -/
mutual
def AV.ret (h : Heap) (b : Nat) : AV → AV
  | .pv p => .pv p
  | .ref c n => if c = b then match rowOf h b with
      | some (_, _, es) => if n = es.length then .pv (.view es) else .pv .junk
      | none => .pv .junk
    else .ref c n
  | .ptr c o => if c = b then .pv .junk else .ptr c o
  | .eptr c n i o => if c = b then .pv .junk else .eptr c n i o
  | .agg cs => .agg (AV.retL h b cs)
  | .tup cs => .tup (AV.retL h b cs)
  | .fn f cs => .fn f (AV.retL h b cs)
def AV.retL (h : Heap) (b : Nat) : List AV → List AV
  | [] => []
  | x :: l => AV.ret h b x :: AV.retL h b l
end
theorem AV.retL_eq (h : Heap) (b : Nat) : ∀ l, AV.retL h b l = l.map (AV.ret h b)
  | [] => rfl
  | x :: l => by simp [AV.retL, AV.retL_eq h b l]
def Blk.ret (h : Heap) (b : Nat) : Blk → Blk
  | .box cs m => .box (AV.retL h b cs) m
  | .row e sz es m => .row e sz es m
def retHL (h : HL) (b : Nat) : HL := (h.filter fun x => !(x.1 == b)).map fun x => (x.1, x.2.ret (hget h) b)
theorem hget_ret (h : HL) (b q : Nat) : hget (retHL h b) q = if q = b then none else (hget h q).map (Blk.ret (hget h) b) := by
  unfold retHL
  suffices H : ∀ (g : Heap) (l : HL), hget ((l.filter fun x => !(x.1 == b)).map fun x => (x.1, x.2.ret g b)) q = if q = b then none else (hget l q).map (Blk.ret g b) from H _ h
  intro g l
  induction l with
  | nil => simp [hget]
  | cons a l ih =>
    obtain ⟨c, x⟩ := a
    simp only [List.filter_cons]
    by_cases hc : c = b
    · subst hc
      simp only [beq_self_eq_true, Bool.not_true, Bool.false_eq_true, if_false]
      rw [ih]
      by_cases hq : q = c
      · simp [hq]
      · simp [hq, hget]
    · rw [if_pos (by simpa using hc)]
      simp only [List.map_cons, hget]
      by_cases hq : q = c
      · subst hq; simp [hc]
      · simp only [if_neg hq]; exact ih
section
variable {S : Stb} {W : World} {β : Bta} {h : Heap} {b : Nat}
theorem RA.ret {B : Nat} (H : HRel B S β h W) {h' : Heap} (hh : ∀ q x, q ≠ b → h q = some x → h' q = some (x.ret h b)) {x : AV} {v : Value} (hx : RA S W β h x v) : RA (sfrz S β h [b]) W β h' (x.ret h b) v := by
  induction hx with
  | pv hp => exact .pv (hp.stay (Evo.frz S W β h [b]).st)
  | @ref c n v e sz es m hb hn hv hc =>
    rw [AV.ret]
    by_cases hcb : c = b
    · subst hcb
      rw [if_pos rfl]
      have hr : rowOf h c = some (e, sz, es) := by simp [rowOf, hb]
      rw [hr]
      simp only []
      split
      · rename_i hl
        exact .pv (frz2_ok H (.ref hb hn hv hc) (p := .view es) (ids := [c]) (by simp [frz2, frz1, frz0, hr, hl]) [c] (fun _ h => h))
      · exact .pv (.junk _)
    · rw [if_neg hcb]
      exact .ref (hh _ _ hcb hb) hn hv hc
  | @ptr c off k cs m hb hk =>
    rw [AV.ret]
    by_cases hcb : c = b
    · rw [if_pos hcb]; exact .pv (.junk _)
    · rw [if_neg hcb]; exact .ptr (hh _ _ hcb hb) hk
  | @eptr c n i off v e sz es m hb hn hv hc =>
    rw [AV.ret]
    by_cases hcb : c = b
    · rw [if_pos hcb]; exact .pv (.junk _)
    · rw [if_neg hcb]; exact .eptr (hh _ _ hcb hb) hn hv hc
  | agg hn hR ih =>
    rw [AV.ret, AV.retL_eq]
    refine .agg (by simpa using hn) (fun i x hx => ?_)
    rw [List.getElem?_map] at hx
    obtain ⟨y, hy, rfl⟩ := Option.map_eq_some_iff.1 hx
    exact ih i y hy
  | tup hn hR ih =>
    rw [AV.ret, AV.retL_eq]
    refine .tup (by simpa using hn) (fun i x hx => ?_)
    rw [List.getElem?_map] at hx
    obtain ⟨y, hy, rfl⟩ := Option.map_eq_some_iff.1 hx
    exact ih i y hy
  | fn hn hR ih =>
    rw [AV.ret, AV.retL_eq]
    refine .fn (by simpa using hn) (fun i x hx => ?_)
    rw [List.getElem?_map] at hx
    obtain ⟨y, hy, rfl⟩ := Option.map_eq_some_iff.1 hx
    exact ih i y hy
end
theorem Le.ret (b : Nat) (s : Slots) (h : HL) : Le s (hget h) (s.map (AV.ret (hget h) b)) (hget (retHL h b)) := fun W0 S0 a W S β F => by
  have hq : ∀ q, q ≠ b → hget (retHL h b) q = (hget h q).map (Blk.ret (hget h) b) := fun q hq => by rw [hget_ret, if_neg hq]
  have hb : hget (retHL h b) b = none := by rw [hget_ret, if_pos rfl]
  generalize hget (retHL h b) = h' at *
  generalize hget h = g at *
  have hh : ∀ q x, q ≠ b → g q = some x → h' q = some (x.ret g b) := fun q x hqb hx => by rw [hq q hqb, hx]; rfl
  have hinv : ∀ q y, h' q = some y → q ≠ b ∧ ∃ x, g q = some x ∧ y = x.ret g b := fun q y hy => by
    by_cases hqb : q = b
    · subst hqb; rw [hb] at hy; cases hy
    · rw [hq q hqb] at hy
      obtain ⟨x, hx, rfl⟩ := Option.map_eq_some_iff.1 hy
      exact ⟨hqb, x, hx, rfl⟩
  have hsome : ∀ q, (h' q).isSome → (g q).isSome := fun q hs => by
    obtain ⟨y, hy⟩ := Option.isSome_iff_exists.1 hs
    obtain ⟨_, x, hx, _⟩ := hinv q y hy
    simp [hx]
  have F1 := F.frz [b]
  have hmut : ∀ x : Blk, (x.ret g b).mut = x.mut := fun x => by cases x <;> rfl
  have hkn : ∀ x : Blk, (x.ret g b).known = x.known := fun x => by cases x <;> simp [Blk.ret, Blk.known, AV.retL_eq]
  refine ⟨sfrz S β g [b], β, ⟨fun q y hy => ?_, fun q q' k h1 h2 => F.H.inj q q' k (hsome q h1) (hsome q' h2), fun q k h1 => F.H.fresh q k (hsome q h1), fun q y k o hy hk ho => ?_, F1.H.bnd⟩, fun n => ?_, by simpa using F.sz, F.df, F.lo, F1.up, F1.dn⟩
  · obtain ⟨hqb, x, hx, rfl⟩ := hinv q y hy
    have := F.H.blk q x hx
    cases x with
    | box cs m =>
      obtain ⟨k, cur, e, a1, a2, a3, a4⟩ := this
      refine ⟨k, cur, e, a1, a2, by simpa [AV.retL_eq] using a3, fun j z hz => ?_⟩
      rw [AV.retL_eq, List.getElem?_map] at hz
      obtain ⟨w, hw, rfl⟩ := Option.map_eq_some_iff.1 hz
      exact RA.ret F.H hh (a4 j w hw)
    | row e sz es m =>
      obtain ⟨a1, a2, a3⟩ := this
      refine ⟨a1, a2, a3.imp id (fun ⟨k, cur, b1, b2, b3, b4⟩ => ⟨k, cur, b1, b2, b3, fun i x j p hx hp => (b4 i x j p hx hp).stay (Evo.frz S W β g [b]).st⟩)⟩
  · obtain ⟨hqb, x, hx, rfl⟩ := hinv q y hy
    rw [hmut, hkn]
    exact F1.H.sinv q x k o (by simp [hfrz, hqb, hx]) hk ho
  · have := RA.ret (h' := h') F.H hh (F.sl n)
    have e : (s.map (AV.ret g b)).getD n (.pv .junk) = (s.getD n (.pv .junk)).ret g b := by
      simp only [List.getD, List.getElem?_map]
      cases s[n]? <;> rfl
    rw [e]; exact this
def retAll : List Nat → Slots → HL → Slots × HL
  | [], s, h => (s, h)
  | b :: l, s, h => retAll l (s.map (AV.ret (hget h) b)) (retHL h b)
theorem Le.retAll : ∀ (l : List Nat) (s : Slots) (h : HL), Le s (hget h) (Pv.retAll l s h).1 (hget (Pv.retAll l s h).2)
  | [], s, h => Le.refl _ _
  | b :: l, s, h => (Le.ret b s h).trans (Le.retAll l _ _)

/-! ### The code, run -/
abbrev CallF := Nat → List PV → Option (AV × List Blk)
def CallF.ok (P : Program) (call : CallF) : Prop := ∀ g ps r L, call g ps = some (r, L) → CallsV P g ps r L
inductive OO | ok (o : Out) | no (ds : List Nat)
def between (h : HL) (b n : Nat) : List Nat := h.filterMap fun x => if b ≤ x.1 ∧ x.1 < b + n then some x.1 else none
def opO (call : CallF) (x : Ins) (s : Slots) (h : HL) : OO := match gd s x.g with
  | .no => .ok skipOut
  | .bad => .no []
  | .yes => match x.i with
    | .call f ars => match callArgs s (hget h) f ars with
      | some (g, ps, ids) => match call g ps with
        | some (r, L) => if freeAt h (base x.dst) L.length then .ok (callOut x.dst ids r L) else .no (between h (base x.dst) L.length)
        | none => .no []
      | none => .no []
    | i => match sem i (x.dst.getD 0) s (hget h) with
      | some o => .ok o
      | none => .no (between h (x.dst.getD 0) 1)
theorem opO_ok {P : Program} {call : CallF} (hc : call.ok P) {x : Ins} {s : Slots} {h : HL} {o : Out} (ho : opO call x s h = .ok o) : SO P x s (hget h) o := by
  unfold opO at ho
  split at ho
  · rename_i hg; cases ho; exact .inl ⟨hg, rfl⟩
  · cases ho
  · rename_i hg
    split at ho
    · rename_i f ars hi
      split at ho
      · rename_i g ps ids ha
        split at ho
        · rename_i r L hcl
          split at ho
          · rename_i hf
            cases ho
            exact SO_call hi (hc _ _ _ _ hcl) hg ha hf
          · cases ho
        · cases ho
      · cases ho
    · rename_i hnc
      split at ho
      · rename_i o' hs
        cases ho
        refine .inr ⟨hg, ?_⟩
        split
        · rename_i f ars heq; exact absurd heq (hnc f ars)
        · exact hs
      · cases ho
inductive RR | ok (outs : List Out) (s : Slots) (h : HL) | no (ds : List Nat)
def exR (call : CallF) : List Ins → Slots → HL → RR
  | [], s, h => .ok [] s h
  | x :: l, s, h => match opO call x s h with
    | .ok o => match exR call l (putS s x.dst o.v) (o.heapL h) with
      | .ok outs s' h' => .ok (o :: outs) s' h'
      | .no ds => .no ds
    | .no ds => .no ds
theorem exR_ok {P : Program} {call : CallF} (hc : call.ok P) {K : Slots → Heap → Prop} : ∀ {is : List Ins} {s : Slots} {h : HL} {outs : List Out} {s' : Slots} {h' : HL}, exR call is s h = .ok outs s' h' → K s' (hget h') → wpR P is s (hget h) K
  | [], s, h, outs, s', h', he, hk => by simp only [exR, RR.ok.injEq] at he; obtain ⟨_, rfl, rfl⟩ := he; exact hk
  | x :: l, s, h, outs, s', h', he, hk => by
    simp only [exR] at he
    split at he
    · rename_i o ho
      split at he
      · rename_i outs2 s2 h2 h3
        cases he
        refine ⟨o, opO_ok hc ho, ?_⟩
        rw [← Out.heapL_ok]
        exact exR_ok hc h3 hk
      · cases he
    · cases he
theorem exD_ok {P : Program} {call : CallF} (hc : call.ok P) {K : List Out → Slots → Heap → Prop} : ∀ {is : List Ins} {s : Slots} {h : HL} {outs acc : List Out} {s' : Slots} {h' : HL}, exR call is s h = .ok outs s' h' → K (acc ++ outs) s' (hget h') → wpD P is s (hget h) acc K
  | [], s, h, outs, acc, s', h', he, hk => by simp only [exR, RR.ok.injEq] at he; obtain ⟨rfl, rfl, rfl⟩ := he; simpa [wpD] using hk
  | x :: l, s, h, outs, acc, s', h', he, hk => by
    simp only [exR] at he
    split at he
    · rename_i o ho
      split at he
      · rename_i outs2 s2 h2 h3
        cases he
        refine ⟨o, opO_ok hc ho, ?_⟩
        rw [← Out.heapL_ok]
        exact exD_ok hc h3 (by simpa using hk)
      · cases he
    · cases he
/-! Whether a drawing region's operations may go in any order: what hangs on the code alone is asked apart. -/
def stat (x y : Ins) : Bool := disj x.dst.toList y.dst.toList && disj x.dst.toList y.uses && disj y.dst.toList x.uses
def dyn (o p : Out) : Bool := disj o.chg (p.rd ++ p.chg ++ p.fzs) && disj p.chg (o.rd ++ o.fzs)
theorem Ind_eq (x : Ins) (o : Out) (y : Ins) (p : Out) : Ind x o y p = (stat x y && dyn o p) := by
  unfold Ind stat dyn
  simp only [Bool.and_assoc]
/-! The operations ahead of each, as the bits of a number. -/
def maskOf (acc : List Nat) : List Nat → Nat
  | [] => 0
  | e :: l => Nat.lor (Nat.lor (Nat.shiftLeft 1 e) (acc.getD e 0)) (maskOf acc l)
def predsM : List Nat → List Ins → List Nat
  | acc, [] => acc
  | acc, x :: l => predsM (acc ++ [maskOf acc x.af]) l
theorem testBit_one (e i : Nat) : (Nat.shiftLeft 1 e).testBit i = decide (e = i) := by
  show (1 <<< e).testBit i = _
  rw [Nat.one_shiftLeft, Nat.testBit_two_pow]
theorem maskOf_iff {acc : List (List Nat)} {accM : List Nat} (hR : ∀ j i, i ∈ acc.getD j [] ↔ (accM.getD j 0).testBit i = true) : ∀ (l : List Nat) (i : Nat), i ∈ (l ++ l.flatMap fun e => acc.getD e []) ↔ (maskOf accM l).testBit i = true
  | [], i => by simp [maskOf]
  | e :: l, i => by
    have ih := maskOf_iff hR l i
    have h1 := hR e i
    show _ ↔ ((1 <<< e ||| accM.getD e 0) ||| maskOf accM l).testBit i = true
    rw [Nat.testBit_or, Nat.testBit_or, Bool.or_eq_true, Bool.or_eq_true, ← ih, ← h1]
    have h2 : (1 <<< e).testBit i = true ↔ e = i := by rw [Nat.one_shiftLeft, Nat.testBit_two_pow]; simp
    rw [h2]
    simp only [List.mem_append, List.mem_cons, List.flatMap_cons]
    constructor
    · rintro ((rfl | h) | (h | h))
      · exact .inl (.inl rfl)
      · exact .inr (.inl h)
      · exact .inl (.inr h)
      · exact .inr (.inr h)
    · rintro ((rfl | h) | (h | h))
      · exact .inl (.inl rfl)
      · exact .inr (.inl h)
      · exact .inl (.inr h)
      · exact .inr (.inr h)
theorem predsM_iff : ∀ (l : List Ins) (acc : List (List Nat)) (accM : List Nat), acc.length = accM.length → (∀ j i, i ∈ acc.getD j [] ↔ (accM.getD j 0).testBit i = true) → ∀ j i, i ∈ (preds acc l).getD j [] ↔ ((predsM accM l).getD j 0).testBit i = true
  | [], acc, accM, _, hR, j, i => hR j i
  | x :: l, acc, accM, hl, hR, j, i => by
    rw [preds, predsM]
    refine predsM_iff l _ _ (by simp [hl]) (fun j i => ?_) j i
    rcases Nat.lt_trichotomy j acc.length with h | h | h
    · have := hR j i
      simp only [List.getD, List.getElem?_append_left h, List.getElem?_append_left (show j < accM.length by omega)] at this ⊢
      exact this
    · subst h
      have e1 : (acc ++ [x.af ++ x.af.flatMap fun e => acc.getD e []]).getD acc.length [] = x.af ++ x.af.flatMap fun e => acc.getD e [] := by simp [List.getD]
      have e2 : (accM ++ [maskOf accM x.af]).getD acc.length 0 = maskOf accM x.af := by simp [List.getD, hl]
      rw [e1, e2]
      exact maskOf_iff hR x.af i
    · simp only [List.getD]
      rw [List.getElem?_eq_none (by simp; omega), List.getElem?_eq_none (by simp; omega)]
      simp
def unord (is : List Ins) (j : Nat) : List Nat := (List.range j).filter fun i => !(((predsM [] is).getD j 0).testBit i)
theorem unord_mem {is : List Ins} {i j : Nat} (hi : i < j) (hc : ¬ ((preds [] is).getD j []).contains i = true) : i ∈ unord is j := by
  refine List.mem_filter.2 ⟨List.mem_range.2 hi, ?_⟩
  have := predsM_iff is [] [] rfl (fun j i => by simp) j i
  rw [List.contains_iff_mem, this] at hc
  simpa using hc
def okS (is : List Ins) : Bool := (List.range is.length).all fun j => match is[j]? with
  | some y => y.af.all (· < j) && (unord is j).all fun i => match is[i]? with
    | some x => stat x y
    | none => false
  | none => false
def Out.still (o : Out) : Bool := match o.up with
  | [] => true
  | _ => o.chg.isEmpty
theorem Out.still_ok {o : Out} (h : o.still = true) : o.chg = [] := by
  unfold Out.still at h
  split at h
  · rename_i hu; simp [Out.chg, hu]
  · simpa using h
def okE (is : List Ins) (outs : List Out) : Bool := outs.length == is.length && okS is && (outs.all Out.still || (List.range is.length).all fun j => match outs[j]? with
  | some p => (unord is j).all fun i => match outs[i]? with
    | some o => dyn o p
    | none => false
  | none => false)
theorem okE_ok {is : List Ins} {outs : List Out} (h : okE is outs = true) : okD is outs = true := by
  simp only [okE, Bool.and_eq_true, beq_iff_eq] at h
  obtain ⟨⟨h1, h2⟩, h3⟩ := h
  simp only [okD, Bool.and_eq_true, beq_iff_eq]
  refine ⟨h1, List.all_eq_true.2 (fun j hj => ?_)⟩
  have hjl := List.mem_range.1 hj
  have a1 := List.all_eq_true.1 h2 j hj
  obtain ⟨y, hy⟩ : ∃ y, is[j]? = some y := ⟨_, List.getElem?_eq_getElem hjl⟩
  obtain ⟨p, hp⟩ : ∃ p, outs[j]? = some p := ⟨_, List.getElem?_eq_getElem (by omega)⟩
  simp only [hy, hp, Bool.and_eq_true] at a1 ⊢
  refine ⟨a1.1, List.all_eq_true.2 (fun i hi => ?_)⟩
  have hil := List.mem_range.1 hi
  obtain ⟨x, hx⟩ : ∃ x, is[i]? = some x := ⟨_, List.getElem?_eq_getElem (by omega)⟩
  obtain ⟨o, ho⟩ : ∃ o, outs[i]? = some o := ⟨_, List.getElem?_eq_getElem (by omega)⟩
  simp only [hx, ho, Bool.or_eq_true]
  by_cases hc : ((preds [] is).getD j []).contains i = true
  · exact .inl hc
  · right
    have hu : i ∈ unord is j := unord_mem hil hc
    have a2 := List.all_eq_true.1 a1.2 i hu
    simp only [hx] at a2
    rw [Ind_eq, Bool.and_eq_true]
    refine ⟨a2, ?_⟩
    simp only [Bool.or_eq_true] at h3
    rcases h3 with h3 | h3
    · have e1 := Out.still_ok (List.all_eq_true.1 h3 o (List.mem_of_getElem? ho))
      have e2 := Out.still_ok (List.all_eq_true.1 h3 p (List.mem_of_getElem? hp))
      simp [dyn, e1, e2, disj]
    · have a3 := List.all_eq_true.1 h3 j hj
      simp only [hp] at a3
      have a4 := List.all_eq_true.1 a3 i hu
      simpa only [ho] using a4
/-- The sites that a region fills anew. -/
def sites : List Ins → List (Nat × Nat)
  | [] => []
  | x :: l => match x.i with
    | .new .. | .box .. | .lit .. => (x.dst.getD 0, 1) :: sites l
    | .call .. => (base x.dst, 1000) :: sites l
    | _ => sites l
def clash (l : List (Nat × Nat)) : HL → List Nat
  | [] => []
  | x :: h => if l.any fun r => decide (r.1 ≤ x.1) && decide (x.1 < r.1 + r.2) then x.1 :: clash l h else clash l h
def exG (call : CallF) (is : List Ins) (d : Bool) : Nat → Slots → HL → Option (Slots × HL)
  | 0, _, _ => none
  | n + 1, s, h => match exR call is s h with
    | .ok outs s' h' => if d then if okE is outs then some (s', h') else none else some (s', h')
    | .no [] => none
    | .no ds => match retAll ds s h with
      | (s, h) => exG call is d n s h
def exP (call : CallF) (is : List Ins) (d : Bool) (s : Slots) (h : HL) : Option (Slots × HL) := match h with
  | [] => exG call is d 3 s []
  | h => match clash (sites is) h with
    | [] => exG call is d 3 s h
    | ds => match retAll ds s h with
      | (s, h) => exG call is d 3 s h
section
variable {P : Program} {call : CallF} {Q : Post}
theorem exG_ok (hmix : P.follows .mixedOrders = true) (hc : call.ok P) {is : List Ins} {d : Bool} : ∀ {n : Nat} {s : Slots} {h : HL} {s' : Slots} {h' : HL}, exG call is d n s h = some (s', h') → Q .normal s' (hget h') → WP P (if d then .drw is else .reg is) s (hget h) Q
  | 0, s, h, s', h', he, hq => by simp [exG] at he
  | n + 1, s, h, s', h', he, hq => by
    simp only [exG] at he
    split at he
    · rename_i outs s2 h2 h3
      cases d with
      | false =>
        simp only [Bool.false_eq_true, if_false, Option.some.injEq, Prod.mk.injEq] at he
        obtain ⟨rfl, rfl⟩ := he
        exact WP.reg (exR_ok hc h3 hq)
      | true =>
        simp only [if_true] at he
        split at he
        · rename_i hok
          cases he
          exact WP.drw hmix (exD_ok hc h3 ⟨by simpa using okE_ok hok, hq⟩)
        · cases he
    · cases he
    · rename_i ds hne h3
      exact WP.le (Le.retAll ds s h) (exG_ok hmix hc he hq)
theorem exP_ok (hmix : P.follows .mixedOrders = true) (hc : call.ok P) {is : List Ins} {d : Bool} {s : Slots} {h : HL} {s' : Slots} {h' : HL} (he : exP call is d s h = some (s', h')) (hq : Q .normal s' (hget h')) : WP P (if d then .drw is else .reg is) s (hget h) Q := by
  unfold exP at he
  split at he
  · exact exG_ok hmix hc he hq
  · split at he
    · exact exG_ok hmix hc he hq
    · rename_i ds hne
      exact WP.le (Le.retAll _ s h) (exG_ok hmix hc he hq)
def ex (call : CallF) : Nat → C → Slots → HL → Option (Ex × Slots × HL)
  | 0, _, _, _ => none
  | n + 1, c, s, h => match c with
    | .nop => some (.normal, s, h)
    | .ret => some (.ret, s, h)
    | .exit id => some (.exit id, s, h)
    | .seq a b => match ex call n a s h with
      | some (.normal, s, h) => ex call n b s h
      | r => r
    | .cond x a b => match ev s x with
      | .pv (.bool true) => ex call n a s h
      | .pv (.bool false) => ex call n b s h
      | _ => none
    | .blk id c => match ex call n c s h with
      | some (.exit i, s, h) => if i = id then some (.normal, s, h) else some (.exit i, s, h)
      | r => r
    | .loop c => match ex call n c s h with
      | some (.normal, s, h) => ex call n (.loop c) s h
      | r => r
    | .reg is => match exP call is false s h with
      | some (s, h) => some (.normal, s, h)
      | none => none
    | .drw is => match exP call is true s h with
      | some (s, h) => some (.normal, s, h)
      | none => none
theorem ex_ok (hmix : P.follows .mixedOrders = true) (hc : call.ok P) : ∀ (n : Nat) {c : C} {s : Slots} {h : HL} {e : Ex} {s' : Slots} {h' : HL} {Q : Post}, ex call n c s h = some (e, s', h') → Q e s' (hget h') → WP P c s (hget h) Q := by
  intro n
  induction n using Nat.strongRecOn with
  | _ n ih =>
  intro c s h e s' h' Q he hq
  cases n with
  | zero => simp [ex] at he
  | succ n =>
  cases c with
  | nop => simp only [ex, Option.some.injEq, Prod.mk.injEq] at he; obtain ⟨rfl, rfl, rfl⟩ := he; exact WP.nop hq
  | ret => simp only [ex, Option.some.injEq, Prod.mk.injEq] at he; obtain ⟨rfl, rfl, rfl⟩ := he; exact WP.ret hq
  | exit id => simp only [ex, Option.some.injEq, Prod.mk.injEq] at he; obtain ⟨rfl, rfl, rfl⟩ := he; exact WP.exit hq
  | seq a b =>
    simp only [ex] at he
    split at he
    · rename_i s2 h2 h3
      exact WP.seq (ih n (by omega) h3 (show thenQ _ Q .normal s2 (hget h2) from ih n (by omega) he hq))
    · rename_i hne
      refine WP.seq (ih n (by omega) he ?_)
      cases e with
      | normal => exact absurd he (hne s' h')
      | exit i => exact hq
      | ret => exact hq
  | cond x a b =>
    simp only [ex] at he
    split at he
    · rename_i hx; exact WP.cond true hx (ih n (by omega) he hq)
    · rename_i hx; exact WP.cond false hx (ih n (by omega) he hq)
    · cases he
  | blk id c =>
    simp only [ex] at he
    split at he
    · rename_i i s2 h2 h3
      refine WP.blk (ih n (by omega) h3 ?_)
      simp only [blkQ]
      split at he
      · rename_i hi
        cases he
        rw [if_pos hi]; exact hq
      · rename_i hi
        cases he
        rw [if_neg hi]; exact hq
    · rename_i hne
      refine WP.blk (ih n (by omega) he ?_)
      cases e with
      | normal => exact hq
      | exit i => exact absurd he (hne i s' h')
      | ret => exact hq
  | loop c =>
    refine WP.loop (fun m s h => m ≤ n + 1 ∧ ∃ hl, ex call m (.loop c) s hl = some (e, s', h') ∧ h = hget hl) (n + 1) ⟨Nat.le_refl _, h, he, rfl⟩ (fun m s h hI => ?_)
    obtain ⟨hm, hl, h1, rfl⟩ := hI
    cases m with
    | zero => simp [ex] at h1
    | succ m =>
      simp only [ex] at h1
      split at h1
      · rename_i s2 h2 h3
        exact ih m (by omega) h3 (show thenQ _ Q .normal s2 (hget h2) from ⟨m, by omega, by omega, h2, h1, rfl⟩)
      · rename_i hne
        refine ih m (by omega) h1 ?_
        cases e with
        | normal => exact absurd h1 (hne s' h')
        | exit i => exact hq
        | ret => exact hq
  | reg is =>
    simp only [ex] at he
    split at he
    · rename_i s2 h2 h3
      cases he
      exact exP_ok (d := false) hmix hc h3 hq
    · cases he
  | drw is =>
    simp only [ex] at he
    split at he
    · rename_i s2 h2 h3
      cases he
      exact exP_ok (d := true) hmix hc h3 hq
    · cases he
end

/-! ### A function, run -/
def fnOf (P : Program) (f : Nat) : Option (Nat × C × List Rs) := match P.funcs[f]? with
  | some fn => if fn.name == "runtime.NumGoroutine" then none else match fn.body with
    | some b => match comp P b, listM (compR P) fn.results.toList with
      | some c, some rs => some (fn.ntmps, c, rs)
      | _, _ => none
    | none => none
  | none => none
/-- What goes out, laid still or handed over. -/
def outV (x : AV) (h : Heap) : Option (AV × List Blk) := match x with
  | .pv p => some (.pv p, [])
  | .ref b n => match h b with
    | some (.row e sz es m) => some (.ref 0 n, [.row e sz es m])
    | _ => none
  | .tup xs => match frzL (frz2 h) xs with
    | some (ps, _) => some (.tup (ps.map .pv), [])
    | none => none
  | x => match frz2 h x with
    | some (p, _) => some (.pv p, [])
    | none => none
theorem outV_ok {x r : AV} {h : Heap} {L : List Blk} (ho : outV x h = some (r, L)) : FS h x (heapL L) r := by
  unfold outV at ho
  split at ho
  · cases ho; exact FS.pv _ (PLe.refl _)
  · split at ho
    · rename_i hb; cases ho; exact FS.row hb
    · cases ho
  · split at ho
    · rename_i ps ids hf
      cases ho
      exact FS.outs hf rfl (fun i p q hp hq => by rw [hp] at hq; cases hq; exact PLe.refl _)
    · cases ho
  · split at ho
    · rename_i p ids hf
      cases ho
      exact FS.out hf (PLe.refl _)
    · cases ho
def evB (orc : CallF) (fuel : Nat) (args : List PV) (t : Nat × C × List Rs) : Option (AV × List Blk) := match t with
  | (n, c, rs) => match ex orc fuel c (start args n) [] with
    | some (.ret, s, h) | some (.normal, s, h) => match resVs s (hget h) rs with
      | some x => outV x (hget h)
      | none => none
    | _ => none
/-! Values made plain before they are handed on (the kernel is lazy). -/
def fcNat {γ : Type} (n : Nat) (k : Nat → γ) : γ := match n with
  | 0 => k 0
  | n + 1 => k (n + 1)
theorem fcNat_eq {γ : Type} (n : Nat) (k : Nat → γ) : fcNat n k = k n := by cases n <;> rfl
def fcInt {γ : Type} (n : Int) (k : Int → γ) : γ := match n with
  | .ofNat n => fcNat n fun n => k (.ofNat n)
  | .negSucc n => fcNat n fun n => k (.negSucc n)
theorem fcInt_eq {γ : Type} (n : Int) (k : Int → γ) : fcInt n k = k n := by cases n <;> simp [fcInt, fcNat_eq]
def fcBool {γ : Type} (b : Bool) (k : Bool → γ) : γ := match b with
  | true => k true
  | false => k false
theorem fcBool_eq {γ : Type} (b : Bool) (k : Bool → γ) : fcBool b k = k b := by cases b <;> rfl
def fcStr {γ : Type} : List UInt8 → (List UInt8 → γ) → γ
  | [], k => k []
  | c :: l, k => fcStr l fun l => k (c :: l)
theorem fcStr_eq {γ : Type} : ∀ (l : List UInt8) (k : List UInt8 → γ), fcStr l k = k l
  | [], k => rfl
  | c :: l, k => by rw [fcStr, fcStr_eq l]
mutual
def PV.fc {γ : Type} : PV → (PV → γ) → γ
  | .junk, k => k .junk
  | .bool b, k => fcBool b fun b => k (.bool b)
  | .int t n, k => fcInt n fun n => k (.int t n)
  | .str s, k => fcStr s fun s => k (.str s)
  | .nil, k => k .nil
  | .cap0, k => k .cap0
  | .view es, k => PV.fcs es fun es => k (.view es)
  | .vptr cs, k => PV.fcs cs fun cs => k (.vptr cs)
  | .func f cs, k => fcNat f fun f => PV.fcs cs fun cs => k (.func f cs)
  | .agg cs, k => PV.fcs cs fun cs => k (.agg cs)
def PV.fcs {γ : Type} : List PV → (List PV → γ) → γ
  | [], k => k []
  | x :: l, k => PV.fc x fun x => PV.fcs l fun l => k (x :: l)
end
mutual
theorem PV.fc_eq {γ : Type} : ∀ (p : PV) (k : PV → γ), PV.fc p k = k p
  | .junk, k => by rw [PV.fc]
  | .bool b, k => by rw [PV.fc, fcBool_eq]
  | .int t n, k => by rw [PV.fc, fcInt_eq]
  | .str s, k => by rw [PV.fc, fcStr_eq]
  | .nil, k => by rw [PV.fc]
  | .cap0, k => by rw [PV.fc]
  | .view es, k => by rw [PV.fc, PV.fcs_eq es]
  | .vptr cs, k => by rw [PV.fc, PV.fcs_eq cs]
  | .func f cs, k => by rw [PV.fc, fcNat_eq, PV.fcs_eq cs]
  | .agg cs, k => by rw [PV.fc, PV.fcs_eq cs]
theorem PV.fcs_eq {γ : Type} : ∀ (l : List PV) (k : List PV → γ), PV.fcs l k = k l
  | [], k => by rw [PV.fcs]
  | x :: l, k => by rw [PV.fcs, PV.fc_eq x, PV.fcs_eq l]
end
def fcB {γ : Type} (b : Bool) (l : List PV) (k : List PV → γ) : γ := match b with
  | true => PV.fcs l k
  | false => k l
theorem fcB_eq {γ : Type} (b : Bool) (l : List PV) (k : List PV → γ) : fcB b l k = k l := by
  cases b
  · rfl
  · exact PV.fcs_eq l k
def fcR (b : Bool) (r : AV × List Blk) (k : AV × List Blk → Option (AV × List Blk)) : Option (AV × List Blk) := match b with
  | false => k r
  | true => match r with
    | (.pv p, []) => PV.fc p fun p => k (.pv p, [])
    | (.ref b n, [.row e sz es m]) => fcNat n fun n => PV.fcs es fun es => k (.ref b n, [.row e sz es m])
    | (.tup xs, []) => fcT xs fun xs => k (.tup xs, [])
    | r => k r
where fcT : List AV → (List AV → Option (AV × List Blk)) → Option (AV × List Blk)
  | [], k => k []
  | .pv p :: l, k => PV.fc p fun p => fcT l fun l => k (.pv p :: l)
  | x :: l, k => fcT l fun l => k (x :: l)
theorem fcT_eq : ∀ (l : List AV) (k : List AV → Option (AV × List Blk)), fcR.fcT l k = k l
  | [], k => rfl
  | x :: l, k => by
    cases x <;> simp only [fcR.fcT, PV.fc_eq, fcT_eq l]
theorem fcR_eq (b : Bool) (r : AV × List Blk) (k : AV × List Blk → Option (AV × List Blk)) : fcR b r k = k r := by
  unfold fcR
  split
  · rfl
  · split <;> simp only [PV.fc_eq, PV.fcs_eq, fcNat_eq, fcT_eq]
def evF (P : Program) (orc : CallF) (fc : Bool) (fuel : Nat) : Nat → CallF
  | 0 => orc
  | n + 1 => fun f args => fcB fc args fun args => match orc f args with
    | some r => some r
    | none => match fnOf P f with
      | some t => match evB (evF P orc fc fuel n) fuel args t with
        | some r => fcR fc r some
        | none => none
      | none => none
theorem evB_ok {P : Program} (hmix : P.follows .mixedOrders = true) {orc : CallF} (ho : orc.ok P) {fuel : Nat} {f : Nat} {t : Nat × C × List Rs} (hf : fnOf P f = some t) {args : List PV} {r : AV} {L : List Blk} (he : evB orc fuel args t = some (r, L)) : CallsV P f args r L := by
  unfold fnOf at hf
  split at hf
  · rename_i fn hfn
    split at hf
    · cases hf
    · rename_i hname
      split at hf
      · rename_i b hb
        split at hf
        · rename_i c rs h1 h2
          cases hf
          unfold evB at he
          have key : ∀ (e : Ex) (s : Slots) (h : HL), (e = .ret ∨ e = .normal) → ex orc fuel c (start args fn.ntmps) [] = some (e, s, h) → (match resVs s (hget h) rs with | some x => outV x (hget h) | none => none) = some (r, L) → CallsV P f args r L := by
            intro e s h hee h3 h4
            split at h4
            · rename_i x hx
              refine CallsV.ok hfn (by simpa using hname) hb h1 h2 ?_
              refine ex_ok hmix ho fuel h3 ?_
              rcases hee with rfl | rfl
              · exact ⟨x, hx, outV_ok h4⟩
              · exact ⟨x, hx, outV_ok h4⟩
            · cases h4
          simp only [] at he
          split at he
          · rename_i s h h3; exact key _ _ _ (.inl rfl) h3 he
          · rename_i s h h3; exact key _ _ _ (.inr rfl) h3 he
          · cases he
        · cases hf
      · cases hf
  · cases hf
theorem evF_ok {P : Program} (hmix : P.follows .mixedOrders = true) {orc : CallF} (ho : orc.ok P) (fc : Bool) (fuel : Nat) : ∀ n, CallF.ok P (evF P orc fc fuel n)
  | 0 => ho
  | n + 1 => fun f args r L he => by
    simp only [evF, fcB_eq] at he
    split at he
    · rename_i r' hr
      cases he
      exact ho _ _ _ _ hr
    · split at he
      · rename_i t ht
        split at he
        · rename_i r' hr'
          rw [fcR_eq] at he
          cases he
          exact evB_ok hmix (evF_ok hmix ho fc fuel n) ht hr'
        · cases he
      · cases he
def noC : CallF := fun _ _ => none
theorem noC_ok (P : Program) : noC.ok P := fun g ps r L h => by cases h

/-! ### From the middle of a walk to its end -/
def exK (call : CallF) (fuel : Nat) : List Kf → Ex → Slots → HL → Option (Ex × Slots × HL)
  | [], e, s, h => some (e, s, h)
  | .lp c :: k, e, s, h => match e with
    | .normal => none
    | e => exK call fuel k e s h
  | .seq c :: k, e, s, h => match e with
    | .normal => match ex call fuel c s h with
      | some (e, s, h) => exK call fuel k e s h
      | none => none
    | e => exK call fuel k e s h
  | .blk id :: k, e, s, h => match e with
    | .exit i => if i = id then exK call fuel k .normal s h else exK call fuel k (.exit i) s h
    | e => exK call fuel k e s h
def exC (call : CallF) (fuel : Nat) : Conf → Option (Ex × Slots × HL)
  | .code c k s h => match ex call fuel c s h with
    | some (e, s, h) => exK call fuel k e s h
    | none => none
  | .reg is k s h => match exR call is s h with
    | .ok _ s h => exK call fuel k .normal s h
    | .no _ => none
  | .drw all is acc k s h => match exR call is s h with
    | .ok outs s h => if okE all (acc ++ outs) then exK call fuel k .normal s h else none
    | .no _ => none
  | .out e k s h => exK call fuel k e s h
def exE (call : CallF) (fuel : Nat) (rs : List Rs) (c : Conf) : Option (AV × List Blk) := match exC call fuel c with
  | some (.ret, s, h) | some (.normal, s, h) => match resVs s (hget h) rs with
    | some x => outV x (hget h)
    | none => none
  | _ => none
section
variable {P : Program} {call : CallF} {Q : Post}
theorem exK_ok (hmix : P.follows .mixedOrders = true) (hc : call.ok P) (fuel : Nat) : ∀ {k : List Kf} {e : Ex} {s : Slots} {h : HL} {e' : Ex} {s' : Slots} {h' : HL}, exK call fuel k e s h = some (e', s', h') → Q e' s' (hget h') → kpost P k Q e s (hget h)
  | [], e, s, h, e', s', h', he, hq => by simp only [exK, Option.some.injEq, Prod.mk.injEq] at he; obtain ⟨rfl, rfl, rfl⟩ := he; exact hq
  | .lp c :: k, e, s, h, e', s', h', he, hq => by
    cases e with
    | normal => simp only [exK] at he; cases he
    | exit i => simp only [exK] at he; exact exK_ok (k := k) (e := .exit i) hmix hc fuel he hq
    | ret => simp only [exK] at he; exact exK_ok (k := k) (e := .ret) hmix hc fuel he hq
  | .seq c :: k, e, s, h, e', s', h', he, hq => by
    cases e with
    | normal =>
      simp only [exK] at he
      split at he
      · rename_i e2 s2 h2 h3
        exact ex_ok hmix hc fuel h3 (exK_ok (k := k) hmix hc fuel he hq)
      · cases he
    | exit i => simp only [exK] at he; exact exK_ok (k := k) (e := .exit i) hmix hc fuel he hq
    | ret => simp only [exK] at he; exact exK_ok (k := k) (e := .ret) hmix hc fuel he hq
  | .blk id :: k, e, s, h, e', s', h', he, hq => by
    cases e with
    | exit i =>
      simp only [exK] at he
      simp only [kpost, blkQ]
      split at he
      · rename_i hi
        rw [if_pos hi]; exact exK_ok (k := k) hmix hc fuel he hq
      · rename_i hi
        rw [if_neg hi]; exact exK_ok (k := k) hmix hc fuel he hq
    | normal => simp only [exK] at he; exact exK_ok (k := k) (e := .normal) hmix hc fuel he hq
    | ret => simp only [exK] at he; exact exK_ok (k := k) (e := .ret) hmix hc fuel he hq
theorem exC_ok (hmix : P.follows .mixedOrders = true) (hc : call.ok P) (fuel : Nat) {c : Conf} {e' : Ex} {s' : Slots} {h' : HL} (he : exC call fuel c = some (e', s', h')) (hq : Q e' s' (hget h')) : Ok P Q c := by
  cases c with
  | code c k s h =>
    simp only [exC] at he
    split at he
    · rename_i e2 s2 h2 h3
      exact ex_ok hmix hc fuel h3 (exK_ok hmix hc fuel he hq)
    · cases he
  | reg is k s h =>
    simp only [exC] at he
    split at he
    · rename_i outs s2 h2 h3
      exact exR_ok hc h3 (exK_ok hmix hc fuel he hq)
    · cases he
  | drw all is acc k s h =>
    simp only [exC] at he
    split at he
    · rename_i outs s2 h2 h3
      split at he
      · rename_i hok
        exact exD_ok hc h3 ⟨okE_ok hok, exK_ok hmix hc fuel he hq⟩
      · cases he
    · cases he
  | out e k s h => exact exK_ok hmix hc fuel he hq
/-- The rest of a walk, run. -/
theorem Ok.eval (hmix : P.follows .mixedOrders = true) (hc : call.ok P) (fuel : Nat) {rs : List Rs} {r : AV} {L : List Blk} {c : Conf} (he : exE call fuel rs c = some (r, L)) : Ok P (RetQ rs r L) c := by
  unfold exE at he
  have key : ∀ (e : Ex) (s : Slots) (h : HL), (e = .ret ∨ e = .normal) → exC call fuel c = some (e, s, h) → (match resVs s (hget h) rs with | some x => outV x (hget h) | none => none) = some (r, L) → Ok P (RetQ rs r L) c := by
    intro e s h hee h3 h4
    split at h4
    · rename_i x hx
      refine exC_ok hmix hc fuel h3 ?_
      rcases hee with rfl | rfl
      · exact ⟨x, hx, outV_ok h4⟩
      · exact ⟨x, hx, outV_ok h4⟩
    · cases h4
  split at he
  · rename_i s h h3; exact key _ _ _ (.inl rfl) h3 he
  · rename_i s h h3; exact key _ _ _ (.inr rfl) h3 he
  · cases he
end
end Go.Proofs.Ytnojmocoifodjaa.Pv
set_option linter.unusedVariables false
namespace Go.Proofs.Ytnojmocoifodjaa.Pv
open Go Go.Proofs
def strsOf : List PV → Option (List (List UInt8))
  | [] => some []
  | .str s :: l => match strsOf l with
    | some m => some (s :: m)
    | none => none
  | _ :: _ => none
theorem strsOf_ok : ∀ {es : List PV} {l : List (List UInt8)}, strsOf es = some l → es = l.map .str
  | [], l, h => by simp only [strsOf, Option.some.injEq] at h; subst h; rfl
  | .str s :: es, l, h => by
    simp only [strsOf] at h
    split at h
    · rename_i m hm; cases h; rw [strsOf_ok hm]; rfl
    · cases h
  | .junk :: _, _, h | .bool _ :: _, _, h | .int _ _ :: _, _, h | .nil :: _, _, h | .cap0 :: _, _, h | .view _ :: _, _, h | .vptr _ :: _, _, h | .func _ _ :: _, _, h | .agg _ :: _, _, h => by simp [strsOf] at h
def orcL : CallF := fun g ps => if g = 73 then match ps with
  | [.view es, .str sep] => match strsOf es with
    | some l => if (joinB sep l).length ≤ 1000000 ∧ l.length ≤ 1000000 then some (.pv (.str (joinB sep l)), []) else none
    | none => none
  | _ => none
  else if g = 186 then match ps with
  | [.str a, .str b] => some (.pv (.int .i64 (cmpS a b)), [])
  | _ => none
  else none
theorem orcL_ok : orcL.ok Try.prog := by
  intro g ps r L h
  unfold orcL at h
  split at h
  · rename_i hg
    subst hg
    split at h
    · rename_i es sep
      split at h
      · rename_i l hl
        split at h
        · rename_i hb
          cases h
          rw [strsOf_ok hl]
          exact strings_Join sep l (by omega) (by omega)
        · cases h
      · cases h
    · cases h
  · split at h
    · rename_i hg
      subst hg
      split at h
      · cases h
        exact strings_Compare _ _
      · cases h
    · cases h
theorem hmix : Try.prog.follows .mixedOrders = true := by kernel_rfl
theorem ev_ok {f : Nat} {args : List PV} {r : AV} {L : List Blk} (n : Nat) (h : evF Try.prog orcL true 1000 n f args = some (r, L)) : CallsV Try.prog f args r L := evF_ok hmix orcL_ok true 1000 n _ _ _ _ h
/-- Without making values plain: for what holds variables. -/
theorem evs_ok {f : Nat} {args : List PV} {r : AV} {L : List Blk} (n : Nat) (h : evF Try.prog orcL false 1000 n f args = some (r, L)) : CallsV Try.prog f args r L := evF_ok hmix orcL_ok false 1000 n _ _ _ _ h
/-- The evaluator as an oracle. -/
noncomputable def evL : CallF := evF Try.prog orcL true 1000 30
theorem evL_ok : evL.ok Try.prog := evF_ok hmix orcL_ok true 1000 30
theorem Ok.evl {rs : List Rs} {r : AV} {L : List Blk} {c : Conf} (he : exE evL 1000 rs c = some (r, L)) : Ok Try.prog (RetQ rs r L) c := Ok.eval hmix evL_ok 1000 he
end Go.Proofs.Ytnojmocoifodjaa.Pv
set_option linter.unusedVariables false
namespace Go.Proofs.Ytnojmocoifodjaa.Pv
open Go
/-- Steps, one at least. -/
def run1 (A : Ar) (b : Bool) (n : Nat) (c : Conf) : Option Conf := match c.step A b with
  | some c' => some (run A b n c')
  | none => none
theorem Ok.run1 {P : Program} {Q : Post} (hmix : P.follows .mixedOrders = true) {A : Ar} (hA : A = .std) (b : Bool) (n : Nat) {c c' : Conf} (hr : Pv.run1 A b n c = some c') (hw : Ok P Q c') : Ok P Q c := by
  unfold Pv.run1 at hr
  split at hr
  · rename_i c1 h1
    cases hr
    exact Ok.step hmix hA h1 (Ok.run hmix hA b n rfl hw)
  · cases hr
theorem Ok.drawnE {P : Program} {Q : Post} {all : List Ins} {acc : List Out} {k : List Kf} {s : Slots} {h : HL} (hok : okE all acc = true) (hw : Ok P Q (.out .normal k s h)) : Ok P Q (.drw all [] acc k s h) := ⟨okE_ok hok, hw⟩
/-! Guards and choices: whether they are decided; parting at them. -/
def litB : AV → Bool
  | .pv (.bool true) => true
  | .pv (.bool false) => true
  | .tup [] => true
  | _ => false
def gok (s : Slots) (x : Ins) : Bool := (match x.g with
  | none => true
  | some (n, _) => litB (s.getD n (.pv .junk))) && (match gd s x.g with
  | .yes => match x.i with
    | .pick c _ _ => litB (ev s c)
    | _ => true
  | _ => true)
def headI : Conf → Option (Slots × Ins)
  | .reg (x :: _) _ s _ => some (s, x)
  | .drw _ (x :: _) _ _ s _ => some (s, x)
  | _ => none
def one (A : Ar) (c : Conf) : Option Conf := match headI c with
  | some (s, x) => match gok s x with
    | true => c.step A true
    | false => none
  | none => none
theorem Ok.one {P : Program} {Q : Post} (hmix : P.follows .mixedOrders = true) {A : Ar} (hA : A = .std) {c c' : Conf} (hr : Pv.one A c = some c') (hw : Ok P Q c') : Ok P Q c := by
  unfold Pv.one at hr
  split at hr
  · split at hr
    · exact Ok.step hmix hA hr hw
    · cases hr
  · cases hr
def boolOf : AV → Option Bool
  | .pv (.bool b) => some b
  | _ => none
def choiceG (c : Conf) : Option Bool := match headI c with
  | some (s, x) => match x.g with
    | some (n, _) => boolOf (s.getD n (.pv .junk))
    | none => none
  | none => none
def choiceK (c : Conf) : Option Bool := match headI c with
  | some (s, x) => match x.i with
    | .pick c _ _ => boolOf (ev s c)
    | _ => none
  | none => none
theorem Ok.splitG {P : Program} {Q : Post} {c : Conf} {t : Bool} (ht : choiceG c = some t) (h1 : t = true → Ok P Q c) (h2 : t = false → Ok P Q c) : Ok P Q c := by
  cases t
  · exact h2 rfl
  · exact h1 rfl
theorem Ok.splitP {P : Program} {Q : Post} {c : Conf} {t : Bool} (ht : choiceK c = some t) (h1 : t = true → Ok P Q c) (h2 : t = false → Ok P Q c) : Ok P Q c := by
  cases t
  · exact h2 rfl
  · exact h1 rfl
theorem Ok.fin1 {P : Program} {rs : List Rs} {x : AV} {p q : PV} {ids : List Nat} {s : Slots} {h : HL} (hx : resVs s (hget h) rs = some x) (hf : frz2 (hget h) x = some (p, ids)) (hp : p = q) : Ok P (RetQ rs (.pv q) []) (.out .ret [] s h) := Ok.fin hx (FS.out hf (PLe.of hp))
theorem Ok.finN {P : Program} {rs : List Rs} {p q : PV} {s : Slots} {h : HL} (hx : resVs s (hget h) rs = some (.pv p)) (hp : p = q) : Ok P (RetQ rs (.pv q) []) (.out .ret [] s h) := Ok.fin hx (FS.pv _ (PLe.of hp))
theorem Ok.fin2 {P : Program} {rs : List Rs} {x1 x2 : AV} {p1 p2 q1 q2 : PV} {ids : List Nat} {s : Slots} {h : HL} (hx : resVs s (hget h) rs = some (.tup [x1, x2])) (hf : frzL (frz2 (hget h)) [x1, x2] = some ([p1, p2], ids)) (h1 : p1 = q1) (h2 : p2 = q2) : Ok P (RetQ rs (.tup [.pv q1, .pv q2]) []) (.out .ret [] s h) := by
  subst h1 h2
  exact Ok.fin hx (FS.outs hf rfl (fun i p q hp hq => by rw [hp] at hq; cases hq; exact PLe.refl _))
theorem Ok.fin3 {P : Program} {rs : List Rs} {x1 x2 x3 : AV} {p1 p2 p3 q1 q2 q3 : PV} {ids : List Nat} {s : Slots} {h : HL} (hx : resVs s (hget h) rs = some (.tup [x1, x2, x3])) (hf : frzL (frz2 (hget h)) [x1, x2, x3] = some ([p1, p2, p3], ids)) (h1 : p1 = q1) (h2 : p2 = q2) (h3 : p3 = q3) : Ok P (RetQ rs (.tup [.pv q1, .pv q2, .pv q3]) []) (.out .ret [] s h) := by
  subst h1 h2 h3
  exact Ok.fin hx (FS.outs hf rfl (fun i p q hp hq => by rw [hp] at hq; cases hq; exact PLe.refl _))
theorem ofNat_add {A : Ar} (hA : A = .std) {a b : Nat} (h : a + b < 2 ^ 62) : A .add .i64 (Int.ofNat a) (Int.ofNat b) = Int.ofNat (a + b) := by
  rw [Ar.add_eq hA]
  show IntKind.wrap .i64 ((a : Int) + (b : Int)) = ((a + b : Nat) : Int)
  rw [IntWalk.i64_in _ ⟨by omega, by omega⟩]; omega
theorem ofNat_conv {A : Ar} (hA : A = .std) {a : Nat} (h : a < 2 ^ 62) : A .conv .i64 (Int.ofNat a) = Int.ofNat a := by
  rw [Ar.conv_eq hA]
  show IntKind.wrap .i64 (a : Int) = (a : Int)
  rw [IntWalk.i64_in _ ⟨by omega, by omega⟩]
theorem ofNat_lt {A : Ar} (hA : A = .std) (a b : Nat) : A .lt (Int.ofNat a) (Int.ofNat b) = decide (a < b) := by
  rw [Ar.lt_eq hA]
  have : (Int.ofNat a < Int.ofNat b) ↔ a < b := Int.ofNat_lt
  simp only [this]
theorem ofNat_le {A : Ar} (hA : A = .std) (a b : Nat) : A .le (Int.ofNat a) (Int.ofNat b) = decide (a ≤ b) := by
  rw [Ar.le_eq hA]
  have : (Int.ofNat a ≤ Int.ofNat b) ↔ a ≤ b := Int.ofNat_le
  simp only [this]
theorem ofNat_eq {A : Ar} (hA : A = .std) (a b : Nat) : A .eq (Int.ofNat a) (Int.ofNat b) = decide (a = b) := by
  rw [Ar.eq_eq hA]
  have : (Int.ofNat a = Int.ofNat b) ↔ a = b := Int.ofNat_inj
  simp only [this]
theorem sadd_op {d : Option Nat} {af : List Nat} {x y : Opd} {s : Slots} {h : HL} {a b : List UInt8} (h1 : ev s x = .pv (.str a)) (h2 : ev s y = .pv (.str b)) (hl : a.length + b.length ≤ 2 ^ 60) (r : List UInt8) (hr : r = a ++ b) :
    stepO ⟨d, none, af, .bin .add x y⟩ s (hget h) = some { v := .pv (.str r) } := by
  subst hr
  have hm : a.length + b.length ≤ maxLen := by unfold maxLen; omega
  simp only [stepO, gd, sem, h1, h2, semBin]
  rw [if_pos hm]
theorem sslc_op {d : Option Nat} {g : Option (Nat × Bool)} {af : List Nat} {x : Opd} {lo hi : Option Opd} {s : Slots} {h : HL} {l : List UInt8} {a b : Nat} (hg : gd s g = .yes) (h1 : ev s x = .pv (.str l)) (hlo : bound (lo.map (ev s)) 0 = some a) (hhi : bound (hi.map (ev s)) l.length = some b) (hab : a ≤ b) (hbl : b ≤ l.length) (r : List UInt8) (hr : r = (l.take b).drop a) :
    stepO ⟨d, g, af, .sslc x lo hi⟩ s (hget h) = some { v := .pv (.str r) } := by
  subst hr
  simp only [stepO, hg, sem, h1, hlo, hhi]
  rw [if_pos ⟨hbl, hab⟩]
theorem bound_nat (k : IntKind) (n d : Nat) : bound (some (.pv (.int k (Int.ofNat n)))) d = some n := by
  simp [bound]
theorem Ar.notT {A : Ar} (hA : A = .std) : A .not true = false := by rw [Ar.not_eq hA]; rfl
theorem Ar.notF {A : Ar} (hA : A = .std) : A .not false = true := by rw [Ar.not_eq hA]; rfl
theorem lenN_nat {A : Ar} (hA : A = .std) (n : Nat) : A .lenN n = Int.ofNat n := Ar.lenN_eq hA n
theorem lenS_nat {A : Ar} (hA : A = .std) (s : List UInt8) : A .lenS s = Int.ofNat s.length := Ar.lenS_eq hA s
theorem slc_full {d : Option Nat} {af : List Nat} {sz : Nat} {x hi mx : Opd} {s : Slots} {h : HL} {es : List PV} {n : Nat} (h1 : ev s x = .pv (.view es)) (h2 : ev s hi = .pv (.int .i64 (Int.ofNat n))) (h3 : ev s mx = .pv (.int .i64 (Int.ofNat n))) (hn : n = es.length) (hall : ∀ e, e ∈ es → e.cells.length = sz) (r : PV) (hr : r = if n = 0 then .cap0 else .view es) :
    stepO ⟨d, none, af, .slc sz x none (some hi) (some mx)⟩ s (hget h) = some { v := .pv r, rd := [], up := [.frz []] } := by
  subst hr hn
  have hb : ∀ k, bound (some (.pv (.int .i64 (Int.ofNat es.length)))) k = some es.length := fun k => bound_nat _ _ _
  have ha : es.all (fun e => e.cells.length == sz) = true := List.all_eq_true.2 (fun e he => by simpa using hall e he)
  have h0 : bound (Option.map (ev s) none) 0 = some 0 := rfl
  simp only [stepO, gd, sem, h1, listOf, Option.map_some, h2, h3, hb, h0]
  rw [if_pos ⟨Nat.le_refl _, Nat.le_refl _, Nat.zero_le _, fun _ => rfl, ha⟩]
  simp
theorem idx_viewG {d : Option Nat} {g : Option (Nat × Bool)} {af : List Nat} {sz : Nat} {x i : Opd} {s : Slots} {h : Heap} {es : List PV} {k : IntKind} {j : Int} (e : PV) (hg : gd s g = .yes) (h1 : ev s x = .pv (.view es)) (h2 : ev s i = .pv (.int k j)) (h3 : 0 ≤ j) (h4 : es[j.toNat]? = some e) (h5 : e.cells.length = sz) :
    stepO ⟨d, g, af, .idx sz x i⟩ s h = some { v := .pv (.vptr e.cells) } := by
  simp [stepO, hg, sem, h1, h2, h3, h4, h5]
theorem ofNat_sub {A : Ar} (hA : A = .std) {a b : Nat} (h : b ≤ a) (h2 : a < 2 ^ 62) : A .sub .i64 (Int.ofNat a) (Int.ofNat b) = Int.ofNat (a - b) := by
  rw [Ar.sub_eq hA]
  show IntKind.wrap .i64 ((a : Int) - (b : Int)) = ((a - b : Nat) : Int)
  rw [IntWalk.i64_in _ ⟨by omega, by omega⟩]; omega
theorem rem_op {d : Option Nat} {af : List Nat} {x y : Opd} {s : Slots} {h : HL} {k : IntKind} {a c : Int} (h1 : ev s x = .pv (.int k a)) (h2 : ev s y = .pv (.int k c)) (hc : c ≠ 0) (r : Int) (hr : r = a.tmod c) :
    stepO ⟨d, none, af, .bin .rem x y⟩ s (hget h) = some { v := .pv (.int k r) } := by
  subst hr
  simp [stepO, gd, sem, h1, h2, semBin, hc]
end Go.Proofs.Ytnojmocoifodjaa.Pv
set_option linter.unusedVariables false
set_option linter.unusedSimpArgs false
namespace Go.Proofs.Ytnojmocoifodjaa.Pv
open Go
/-! ### Types: plain laws -/
mutual
def sameT : Ty → Ty → Bool
  | .mk k l, .mk k' l' => decide (k = k') && sameTs l l'
def sameTs : List Ty → List Ty → Bool
  | [], [] => true
  | x :: l, y :: m => sameT x y && sameTs l m
  | _, _ => false
end
mutual
theorem sameT_iff : ∀ a b, sameT a b = true ↔ a = b
  | .mk k l, .mk k' l' => by rw [sameT, Bool.and_eq_true, sameTs_iff l l', decide_eq_true_eq, Ty.mk.injEq]
theorem sameTs_iff : ∀ a b, sameTs a b = true ↔ a = b
  | [], [] => by simp [sameTs]
  | x :: l, y :: m => by rw [sameTs, Bool.and_eq_true, sameT_iff x y, sameTs_iff l m, List.cons.injEq]
  | [], _ :: _ => by simp [sameTs]
  | _ :: _, [] => by simp [sameTs]
end
theorem sameT_refl (a : Ty) : sameT a a = true := (sameT_iff a a).2 rfl
theorem sameTs_len : ∀ {l m : List Ty}, ¬ l.length = m.length → sameTs l m = false
  | [], [], h => by simp at h
  | x :: l, y :: m, h => by rw [sameTs, sameTs_len (l := l) (m := m) (by simpa using h)]; simp
  | [], _ :: _, _ => rfl
  | _ :: _, [], _ => rfl
mutual
def szT : Ty → Nat
  | .mk k l => 1 + szTs l
def szTs : List Ty → Nat
  | [] => 0
  | x :: l => szT x + szTs l
end
theorem szT_pos : ∀ t, 1 ≤ szT t
  | .mk k l => by rw [szT]; omega
theorem szTs_len : ∀ l, l.length ≤ szTs l
  | [] => by simp
  | x :: l => by have := szTs_len l; have := szT_pos x; rw [szTs, List.length_cons]; omega
theorem szTs_mem : ∀ {l : List Ty} {e : Ty}, e ∈ l → szT e ≤ szTs l
  | [], e, he => by simp at he
  | x :: l, e, he => by
    rw [szTs]
    rcases List.mem_cons.1 he with rfl | he
    · omega
    · have := szTs_mem he; omega
theorem szTs_append : ∀ (l m : List Ty), szTs (l ++ m) = szTs l + szTs m
  | [], m => by simp [szTs]
  | x :: l, m => by rw [List.cons_append, szTs, szTs, szTs_append l m]; omega
def Ty.zero : Ty := ⟨0, []⟩
def rowC (n deep : Int) : Int := if n = 0 then 1 else if n > 8 then 10 else if deep > 4 then 9 else 0
mutual
def ckT : Ty → Nat → Int
  | .mk k l, d => if k = 1 ∨ k = 2 ∨ k = 3 then (if 0 < l.length then 5 else 0) else if k = 4 then (if rowC l.length d ≠ 0 then rowC l.length d else ckTs l (d + 1)) else 5
def ckTs : List Ty → Nat → Int
  | [], _ => 0
  | x :: l, d => if ckT x d ≠ 0 then ckT x d else ckTs l d
end
/-! texts -/
def strip (w s : List UInt8) : Option (List UInt8) := if s.take w.length = w then some (s.drop w.length) else none
def sInt : List UInt8 := [105, 110, 116]
def sBool : List UInt8 := [98, 111, 111, 108]
def sText : List UInt8 := [116, 101, 120, 116]
def wordT (k : Int) : List UInt8 := if k = 1 then sInt else if k = 2 then sBool else if k = 3 then sText else []
mutual
def textT : Ty → List UInt8
  | .mk k l => if k = 4 then [40] ++ textTs true l ++ [41] else wordT k
def textTs : Bool → List Ty → List UInt8
  | _, [] => []
  | b, x :: l => (if b then [] else [44]) ++ textT x ++ textTs false l
end
mutual
def rd : Nat → List UInt8 → Option (Ty × List UInt8)
  | 0, _ => none
  | n + 1, s => match strip sInt s with
    | some r => some (⟨1, []⟩, r)
    | none => match strip sBool s with
      | some r => some (⟨2, []⟩, r)
      | none => match strip sText s with
        | some r => some (⟨3, []⟩, r)
        | none => match strip [40] s with
          | none => none
          | some r => match strip [41] r with
            | some e => some (⟨4, []⟩, e)
            | none => rdL n [] r
def rdL : Nat → List Ty → List UInt8 → Option (Ty × List UInt8)
  | 0, _, _ => none
  | n + 1, acc, r => match rd n r with
    | none => none
    | some (p, r1) => match strip [41] r1 with
      | some e => some (⟨4, acc ++ [p]⟩, e)
      | none => match strip [44] r1 with
        | some r2 => rdL n (acc ++ [p]) r2
        | none => none
end
theorem strip_eq {w s r : List UInt8} (h : strip w s = some r) : s = w ++ r := by
  unfold strip at h
  split at h
  · rename_i hw
    cases h
    conv => lhs; rw [← List.take_append_drop w.length s]
    rw [hw]
  · cases h
theorem textTs_append : ∀ (l : List Ty) (b : Bool) (x : Ty), textTs b (l ++ [x]) = textTs b l ++ (if b && l.isEmpty then [] else [44]) ++ textT x
  | [], b, x => by cases b <;> simp [textTs]
  | y :: l, b, x => by rw [List.cons_append, textTs, textTs_append l false x, textTs]; simp
mutual
theorem rd_text : ∀ (n : Nat) (s : List UInt8) (t : Ty) (r : List UInt8), rd n s = some (t, r) → s = textT t ++ r ∧ szT t + r.length ≤ s.length
  | 0, s, t, r, h => by simp [rd] at h
  | n + 1, s, t, r, h => by
    rw [rd] at h
    split at h
    · rename_i r' h1; cases h; have := strip_eq h1; subst this; simp [textT, wordT, szT, szTs, sInt]; omega
    split at h
    · rename_i r' h1; cases h; have := strip_eq h1; subst this; simp [textT, wordT, szT, szTs, sBool]; omega
    split at h
    · rename_i r' h1; cases h; have := strip_eq h1; subst this; simp [textT, wordT, szT, szTs, sText]; omega
    split at h
    · cases h
    rename_i r1 h1
    have e1 := strip_eq h1
    subst e1
    split at h
    · rename_i r' h2; cases h; have := strip_eq h2; subst this; simp [textT, textTs, szT, szTs]; omega
    · obtain ⟨l, x, rfl, h3, h4⟩ := rdL_text n [] r1 t r h
      refine ⟨?_, by simp [szT, szTs_append, szTs] at h4 ⊢; omega⟩
      have h5 := h4.1
      simp [textTs] at h5
      rw [textT, if_pos rfl, h3, List.nil_append, h5]
      simp
theorem rdL_text : ∀ (n : Nat) (acc : List Ty) (s : List UInt8) (t : Ty) (r : List UInt8), rdL n acc s = some (t, r) → ∃ l x, t = ⟨4, acc ++ l⟩ ∧ s = x ++ [41] ++ r ∧ textTs true (acc ++ l) = textTs true acc ++ (if acc.isEmpty then [] else [44]) ++ x ∧ szTs l + r.length + 1 ≤ s.length
  | 0, acc, s, t, r, h => by simp [rdL] at h
  | n + 1, acc, s, t, r, h => by
    rw [rdL] at h
    split at h
    · cases h
    rename_i p r1 h1
    obtain ⟨e1, z1⟩ := rd_text n s p r1 h1
    split at h
    · rename_i e h2
      cases h
      have e2 := strip_eq h2
      refine ⟨[p], textT p, rfl, by rw [e1, e2]; simp, ?_, ?_⟩
      · rw [textTs_append]; simp
      · simp [szTs, e2] at z1 ⊢; omega
    split at h
    · rename_i r2 h3
      have e3 := strip_eq h3
      obtain ⟨l, x, h4, h5, h6, h7⟩ := rdL_text n (acc ++ [p]) r2 t r h
      refine ⟨p :: l, textT p ++ [44] ++ x, by simpa using h4, ?_, ?_, ?_⟩
      · rw [e1, e3, h5]; simp
      · rw [show acc ++ p :: l = acc ++ [p] ++ l by simp, h6, textTs_append]; simp
      · simp [szTs, e3] at z1 ⊢; omega
    · cases h
end
mutual
theorem textT_len : ∀ t, (textT t).length + 1 ≤ 8 * szT t
  | .mk k l => by
    rw [textT, szT]
    split
    · have := textTs_len l true
      simp; omega
    · unfold wordT sInt sBool sText
      repeat' split
      all_goals simp
      all_goals omega
theorem textTs_len : ∀ l b, (textTs b l).length ≤ 8 * szTs l
  | [], b => by simp [textTs]
  | x :: l, b => by
    have h1 := textT_len x
    have h2 := textTs_len l false
    have h3 := szT_pos x
    rw [textTs, szTs]
    cases b <;> simp <;> omega
end
end Go.Proofs.Ytnojmocoifodjaa.Pv
set_option maxRecDepth 100000
set_option maxHeartbeats 4000000
set_option linter.unusedVariables false
set_option linter.unusedSimpArgs false
namespace Go.Proofs.Ytnojmocoifodjaa.Pv
open Go Go.Proofs
theorem typ_Row (n d : Int) : CallsV Try.prog 107 [.int .i64 n, .int .i64 d] (.pv (.int .i64 (rowC n d))) [] := by
  obtain ⟨A, hA⟩ : ∃ A : Ar, A = .std := ⟨_, rfl⟩
  refine CallsV.ok (fn := Try.f107) (by kernel_rfl) (by kernel_rfl) rfl (by cbv) (by cbv) ?_
  repeat' (first | (apply Ok.run1 hmix hA false 2000; focus (cbv; done)) | (apply Ok.one hmix hA; focus (cbv; done)) | (rw [Ar.notT hA]) | (rw [Ar.notF hA]) | (refine Ok.condT ?_ ?_; focus (cbv; done)) | (refine Ok.condF ?_ ?_; focus (cbv; done)) | (refine Ok.drawnE (by as_aux_lemma => kernel_rfl) ?_) | (apply Ok.cond; (focus (cbv; done)); all_goals (intro hh; (try rw [hh]))) | (apply Ok.splitG; (focus (cbv; done)); all_goals (intro hh; (try rw [hh]))) | (apply Ok.splitP; (focus (cbv; done)); all_goals (intro hh; (try rw [hh]))) | (apply Ok.fin1; (focus (cbv; done)); (focus (cbv; done))) | (apply Ok.fin2; (focus (cbv; done)); (focus (cbv; done))) | (apply Ok.fin3; (focus (cbv; done)); (focus (cbv; done))))
  all_goals (subst hA; simp_all [Ar.std, rowC])
  all_goals (repeat' split <;> omega)
def eachC (g : Ty → Int) : List Ty → Int
  | [] => 0
  | x :: l => if g x ≠ 0 then g x else eachC g l
theorem ckTs_each (d : Nat) : ∀ l, ckTs l d = eachC (fun x => ckT x d) l
  | [] => rfl
  | x :: l => by rw [ckTs, eachC, ckTs_each d l]
theorem typ_each {E : Enc} (hE : E = .std) (f : Nat) (q : PV) (g : Ty → Int) (l : List Ty) (hf : ∀ x, x ∈ l → CallsV Try.prog f [E.tyc x, q] (.pv (.int .i64 (g x))) []) (hl : l.length ≤ 2 ^ 60) :
    CallsV Try.prog 108 [.view (E .tys l), .func f [q]] (.pv (.int .i64 (eachC g l))) [] := by
  obtain ⟨A, hA⟩ : ∃ A : Ar, A = .std := ⟨_, rfl⟩
  obtain ⟨n, hn⟩ : ∃ n, n = l.length := ⟨_, rfl⟩
  have hll : A .lenP (E .tys l) = Int.ofNat n := by rw [Ar.lenP_eq hA, E.tys_eq hE, List.length_map, hn]; rfl
  refine CallsV.ok (fn := Try.f108) (by kernel_rfl) (by kernel_rfl) rfl (by cbv) (by cbv) ?_
  repeat (first | (apply Ok.run1 hmix hA false 2000; focus (cbv; done)) | (apply Ok.one hmix hA; focus (cbv; done)) | (rw [Ar.notT hA]) | (rw [Ar.notF hA]) | (refine Ok.condT ?_ ?_; focus (cbv; done)) | (refine Ok.condF ?_ ?_; focus (cbv; done)) | (refine Ok.drawnE (by as_aux_lemma => kernel_rfl) ?_))
  rw [hll]
  refine Ok.loopAt [1, 8, 9, 10] [] (fun m s h => ∃ k, m = n - k ∧ k ≤ n ∧ eachC g (l.drop k) = eachC g l ∧ s = mkS 21 [(1, .pv (.func f [q])), (8, .pv (.view (E .tys l))), (9, .pv (.int .i64 (Int.ofNat n))), (10, .pv (.int .i64 (Int.ofNat k)))] ∧ h = []) (n - 0) (by cbv) ⟨0, rfl, Nat.zero_le _, rfl, by cbv, by cbv⟩ ?_
  rintro m s h ⟨k, rfl, hk, hc, rfl, rfl⟩
  refine Ok.run hmix hA false 2000 (by cbv) ?_
  rw [ofNat_lt hA]
  by_cases hkl : k < n
  · rw [decide_eq_true hkl]
    repeat (first | (apply Ok.run1 hmix hA false 2000; focus (cbv; done)) | (apply Ok.one hmix hA; focus (cbv; done)) | (rw [Ar.notT hA]) | (rw [Ar.notF hA]) | (refine Ok.condT ?_ ?_; focus (cbv; done)) | (refine Ok.condF ?_ ?_; focus (cbv; done)) | (refine Ok.drawnE (by as_aux_lemma => kernel_rfl) ?_))
    have hx : l[k]? = some (l[k]'(by omega)) := List.getElem?_eq_getElem (by omega)
    have hxm : l[k]'(by omega) ∈ l := List.getElem_mem (by omega)
    have hdl : l.drop k = l[k]'(by omega) :: l.drop (k + 1) := List.drop_eq_getElem_cons (by omega)
    generalize l[k]'(by omega) = x at hx hdl hxm
    rw [hdl, eachC] at hc
    have cx := hf x hxm
    obtain ⟨c, hcc⟩ : ∃ c, c = g x := ⟨_, rfl⟩
    rw [← hcc] at cx hc
    refine Ok.op (idx_view (E.tyc x) (by cbv) (by cbv) (by simp) (by rw [E.tys_eq hE]; simp [hx]) rfl) ?_
    repeat (first | (apply Ok.run1 hmix hA false 2000; focus (cbv; done)) | (apply Ok.one hmix hA; focus (cbv; done)) | (rw [Ar.notT hA]) | (rw [Ar.notF hA]) | (refine Ok.condT ?_ ?_; focus (cbv; done)) | (refine Ok.condF ?_ ?_; focus (cbv; done)) | (refine Ok.drawnE (by as_aux_lemma => kernel_rfl) ?_) | (apply Ok.call (cx); (focus (cbv; done)); (focus (cbv; done)); (focus (cbv; done))) | (apply Ok.dcall (cx); (focus (cbv; done)); (focus (cbv; done)); (focus (cbv; done))))
    rw [Ar.eq_eq hA, Ar.not_eq hA]
    by_cases h0 : c = 0
    · rw [if_neg (by simpa using h0)] at hc
      rw [decide_eq_true h0]
      repeat (first | (apply Ok.run1 hmix hA false 2000; focus (cbv; done)) | (apply Ok.one hmix hA; focus (cbv; done)) | (rw [Ar.notT hA]) | (rw [Ar.notF hA]) | (refine Ok.condT ?_ ?_; focus (cbv; done)) | (refine Ok.condF ?_ ?_; focus (cbv; done)) | (refine Ok.drawnE (by as_aux_lemma => kernel_rfl) ?_))
      rw [Ar.succ_eq hA (by omega)]
      exact Ok.back (n - (k + 1)) [1, 8, 9, 10] [] (by omega) (by cbv) ⟨k + 1, rfl, by omega, hc, by cbv, by cbv⟩
    · rw [if_pos h0] at hc
      rw [decide_eq_false h0, ← hc]
      repeat (first | (apply Ok.run1 hmix hA false 2000; focus (cbv; done)) | (apply Ok.one hmix hA; focus (cbv; done)) | (rw [Ar.notT hA]) | (rw [Ar.notF hA]) | (refine Ok.condT ?_ ?_; focus (cbv; done)) | (refine Ok.condF ?_ ?_; focus (cbv; done)) | (refine Ok.drawnE (by as_aux_lemma => kernel_rfl) ?_))
      refine Ok.leaveRet ?_
      repeat (first | (apply Ok.run1 hmix hA false 2000; focus (cbv; done)) | (apply Ok.one hmix hA; focus (cbv; done)) | (rw [Ar.notT hA]) | (rw [Ar.notF hA]) | (refine Ok.condT ?_ ?_; focus (cbv; done)) | (refine Ok.condF ?_ ?_; focus (cbv; done)) | (refine Ok.drawnE (by as_aux_lemma => kernel_rfl) ?_))
      exact Ok.fin (by cbv) (FS.out (by cbv) (PLe.refl _))
  · rw [decide_eq_false hkl]
    have hke : k = l.length := by omega
    rw [hke, List.drop_length] at hc
    rw [← hc]
    repeat (first | (apply Ok.run1 hmix hA false 2000; focus (cbv; done)) | (apply Ok.one hmix hA; focus (cbv; done)) | (rw [Ar.notT hA]) | (rw [Ar.notF hA]) | (refine Ok.condT ?_ ?_; focus (cbv; done)) | (refine Ok.condF ?_ ?_; focus (cbv; done)) | (refine Ok.drawnE (by as_aux_lemma => kernel_rfl) ?_))
    refine Ok.leave ?_
    repeat (first | (apply Ok.run1 hmix hA false 2000; focus (cbv; done)) | (apply Ok.one hmix hA; focus (cbv; done)) | (rw [Ar.notT hA]) | (rw [Ar.notF hA]) | (refine Ok.condT ?_ ?_; focus (cbv; done)) | (refine Ok.condF ?_ ?_; focus (cbv; done)) | (refine Ok.drawnE (by as_aux_lemma => kernel_rfl) ?_))
    exact Ok.fin (by cbv) (FS.out (by cbv) (PLe.refl _))
theorem typ_check {E : Enc} (hE : E = .std) : ∀ (n : Nat) (t : Ty) (d : Nat), SizeOf.sizeOf t ≤ n → szT t ≤ 2 ^ 40 → d ≤ 1000 → CallsV Try.prog 74 [E.tyc t, .int .i64 (Int.ofNat d)] (.pv (.int .i64 (ckT t d))) [] := by
  intro n
  induction n with
  | zero => intro t d h; cases t; simp at h
  | succ n ih =>
    rintro ⟨kd, l⟩ d hn hsz hd
    obtain ⟨A, hA⟩ : ∃ A : Ar, A = .std := ⟨_, rfl⟩
    rw [szT] at hsz
    have hlen := szTs_len l
    obtain ⟨ln, hln⟩ : ∃ n, n = l.length := ⟨_, rfl⟩
    have hll : A .lenP (E .tys l) = Int.ofNat ln := by rw [Ar.lenP_eq hA, E.tys_eq hE, List.length_map, hln]; rfl
    have hgt : A .lt 0 (Int.ofNat ln) = decide (0 < ln) := ofNat_lt hA 0 ln
    have cR := typ_Row (Int.ofNat ln) (Int.ofNat d)
    obtain ⟨rc, hrc⟩ : ∃ c, c = rowC (Int.ofNat ln) (Int.ofNat d) := ⟨_, rfl⟩
    rw [← hrc] at cR
    have hrd : rc = 0 → d ≤ 4 := by
      intro h
      rw [h] at hrc
      unfold rowC at hrc
      repeat' split at hrc
      all_goals first | omega | (rename_i h4; simp at h4; omega)
    have hsub : d ≤ 4 → ∀ x, x ∈ l → CallsV Try.prog 109 [E.tyc x, .vptr [.int .i64 (Int.ofNat d)]] (.pv (.int .i64 (ckT x (d + 1)))) [] := fun hd4 x hx => by
      have h1 := List.sizeOf_lt_of_mem hx
      have h2 := szTs_mem hx
      simp at hn
      have c := ih x (d + 1) (by omega) (by omega) (by omega)
      obtain ⟨xk, xl⟩ := x
      obtain ⟨d1, hd1⟩ : ∃ d1, d1 = d + 1 := ⟨_, rfl⟩
      rw [← hd1] at c ⊢
      have hs : A .add .i64 (Int.ofNat d) 1 = Int.ofNat d1 := by rw [Ar.succ_eq hA (by omega), hd1]
      clear ih
      refine CallsV.ok (fn := Try.f109) (by kernel_rfl) (by kernel_rfl) rfl (by cbv) (by cbv) ?_
      repeat (first | (apply Ok.run1 hmix hA false 2000; focus (cbv; done)) | (apply Ok.one hmix hA; focus (cbv; done)) | (rw [Ar.notT hA]) | (rw [Ar.notF hA]) | (refine Ok.condT ?_ ?_; focus (cbv; done)) | (refine Ok.condF ?_ ?_; focus (cbv; done)) | (refine Ok.drawnE (by as_aux_lemma => kernel_rfl) ?_))
      rw [hs]
      repeat (first | (apply Ok.run1 hmix hA false 2000; focus (cbv; done)) | (apply Ok.one hmix hA; focus (cbv; done)) | (rw [Ar.notT hA]) | (rw [Ar.notF hA]) | (refine Ok.condT ?_ ?_; focus (cbv; done)) | (refine Ok.condF ?_ ?_; focus (cbv; done)) | (refine Ok.drawnE (by as_aux_lemma => kernel_rfl) ?_) | (apply Ok.call (c); (focus (cbv; done)); (focus (cbv; done)); (focus (cbv; done))) | (apply Ok.dcall (c); (focus (cbv; done)); (focus (cbv; done)); (focus (cbv; done))))
      exact Ok.fin (by cbv) (FS.out (by cbv) (PLe.refl _))
    have cE : d ≤ 4 → CallsV Try.prog 108 [.view (E .tys l), .func 109 [.vptr [.int .i64 (Int.ofNat d)]]] (.pv (.int .i64 (ckTs l (d + 1)))) [] := fun hd4 => by
      rw [ckTs_each]
      exact typ_each hE _ _ (fun x => ckT x (d + 1)) l (hsub hd4) (by omega)
    clear hsub ih
    have hck : ckT ⟨kd, l⟩ d = if kd = 1 ∨ kd = 2 ∨ kd = 3 then (if 0 < ln then 5 else 0) else if kd = 4 then (if rc ≠ 0 then rc else ckTs l (d + 1)) else 5 := by rw [ckT, hln, hrc, hln]; rfl
    rw [hck]
    generalize ckTs l (d + 1) = ce at cE hck ⊢
    refine CallsV.ok (fn := Try.f74) (by kernel_rfl) (by kernel_rfl) rfl (by cbv) (by cbv) ?_
    repeat (first | (apply Ok.run1 hmix hA false 2000; focus (cbv; done)) | (apply Ok.one hmix hA; focus (cbv; done)) | (rw [Ar.notT hA]) | (rw [Ar.notF hA]) | (refine Ok.condT ?_ ?_; focus (cbv; done)) | (refine Ok.condF ?_ ?_; focus (cbv; done)) | (refine Ok.drawnE (by as_aux_lemma => kernel_rfl) ?_))
    have q1 : A .eq kd 1 = decide (kd = 1) := Ar.eq_eq hA _ _
    have q2 : A .eq kd 2 = decide (kd = 2) := Ar.eq_eq hA _ _
    have q3 : A .eq kd 3 = decide (kd = 3) := Ar.eq_eq hA _ _
    have q4 : A .eq kd 4 = decide (kd = 4) := Ar.eq_eq hA _ _
    by_cases h4 : kd = 4
    · subst h4
      rw [show A .eq 4 1 = false by rw [Ar.eq_eq hA]; rfl]
      repeat (first | (apply Ok.run1 hmix hA false 2000; focus (cbv; done)) | (apply Ok.one hmix hA; focus (cbv; done)) | (rw [Ar.notT hA]) | (rw [Ar.notF hA]) | (refine Ok.condT ?_ ?_; focus (cbv; done)) | (refine Ok.condF ?_ ?_; focus (cbv; done)) | (refine Ok.drawnE (by as_aux_lemma => kernel_rfl) ?_))
      rw [show A .eq 4 2 = false by rw [Ar.eq_eq hA]; rfl]
      repeat (first | (apply Ok.run1 hmix hA false 2000; focus (cbv; done)) | (apply Ok.one hmix hA; focus (cbv; done)) | (rw [Ar.notT hA]) | (rw [Ar.notF hA]) | (refine Ok.condT ?_ ?_; focus (cbv; done)) | (refine Ok.condF ?_ ?_; focus (cbv; done)) | (refine Ok.drawnE (by as_aux_lemma => kernel_rfl) ?_))
      rw [show A .eq 4 3 = false by rw [Ar.eq_eq hA]; rfl]
      repeat (first | (apply Ok.run1 hmix hA false 2000; focus (cbv; done)) | (apply Ok.one hmix hA; focus (cbv; done)) | (rw [Ar.notT hA]) | (rw [Ar.notF hA]) | (refine Ok.condT ?_ ?_; focus (cbv; done)) | (refine Ok.condF ?_ ?_; focus (cbv; done)) | (refine Ok.drawnE (by as_aux_lemma => kernel_rfl) ?_))
      rw [show A .eq 4 4 = true by rw [Ar.eq_eq hA]; rfl]
      repeat (first | (apply Ok.run1 hmix hA false 2000; focus (cbv; done)) | (apply Ok.one hmix hA; focus (cbv; done)) | (rw [Ar.notT hA]) | (rw [Ar.notF hA]) | (refine Ok.condT ?_ ?_; focus (cbv; done)) | (refine Ok.condF ?_ ?_; focus (cbv; done)) | (refine Ok.drawnE (by as_aux_lemma => kernel_rfl) ?_))
      rw [hll]
      repeat (first | (apply Ok.run1 hmix hA false 2000; focus (cbv; done)) | (apply Ok.one hmix hA; focus (cbv; done)) | (rw [Ar.notT hA]) | (rw [Ar.notF hA]) | (refine Ok.condT ?_ ?_; focus (cbv; done)) | (refine Ok.condF ?_ ?_; focus (cbv; done)) | (refine Ok.drawnE (by as_aux_lemma => kernel_rfl) ?_) | (apply Ok.call (cR); (focus (cbv; done)); (focus (cbv; done)); (focus (cbv; done))) | (apply Ok.dcall (cR); (focus (cbv; done)); (focus (cbv; done)); (focus (cbv; done))))
      rw [Ar.eq_eq hA, Ar.not_eq hA]
      by_cases h0 : rc = 0
      · rw [decide_eq_true h0]
        have cE' := cE (hrd h0)
        repeat (first | (apply Ok.run1 hmix hA false 2000; focus (cbv; done)) | (apply Ok.one hmix hA; focus (cbv; done)) | (rw [Ar.notT hA]) | (rw [Ar.notF hA]) | (refine Ok.condT ?_ ?_; focus (cbv; done)) | (refine Ok.condF ?_ ?_; focus (cbv; done)) | (refine Ok.drawnE (by as_aux_lemma => kernel_rfl) ?_) | (apply Ok.call (cE'); (focus (cbv; done)); (focus (cbv; done)); (focus (cbv; done))) | (apply Ok.dcall (cE'); (focus (cbv; done)); (focus (cbv; done)); (focus (cbv; done))))
        exact Ok.fin1 (by cbv) (by cbv) (by simp [h0])
      · rw [decide_eq_false h0]
        repeat (first | (apply Ok.run1 hmix hA false 2000; focus (cbv; done)) | (apply Ok.one hmix hA; focus (cbv; done)) | (rw [Ar.notT hA]) | (rw [Ar.notF hA]) | (refine Ok.condT ?_ ?_; focus (cbv; done)) | (refine Ok.condF ?_ ?_; focus (cbv; done)) | (refine Ok.drawnE (by as_aux_lemma => kernel_rfl) ?_))
        exact Ok.fin1 (by cbv) (by cbv) (by simp [h0])
    · repeat' (first | (apply Ok.run1 hmix hA false 2000; focus (cbv; done)) | (apply Ok.one hmix hA; focus (cbv; done)) | (rw [Ar.notT hA]) | (rw [Ar.notF hA]) | (refine Ok.condT ?_ ?_; focus (cbv; done)) | (refine Ok.condF ?_ ?_; focus (cbv; done)) | (refine Ok.drawnE (by as_aux_lemma => kernel_rfl) ?_) | (apply Ok.cond; (focus (cbv; done)); all_goals (intro hh; (try rw [hh]))) | (apply Ok.splitG; (focus (cbv; done)); all_goals (intro hh; (try rw [hh]))) | (apply Ok.splitP; (focus (cbv; done)); all_goals (intro hh; (try rw [hh]))) | (apply Ok.fin1; (focus (cbv; done)); (focus (cbv; done))) | (apply Ok.fin2; (focus (cbv; done)); (focus (cbv; done))) | (apply Ok.fin3; (focus (cbv; done)); (focus (cbv; done))))
      all_goals (simp only [q1, q2, q3, q4, hll, hgt, decide_eq_true_eq, decide_eq_false_iff_not] at *)
      all_goals (first | (exfalso; omega) | (simp_all; done) | skip)
theorem typ_Check {E : Enc} (hE : E = .std) (t : Ty) (hsz : szT t ≤ 2 ^ 40) : CallsV Try.prog 37 [E.tyc t] (.pv (.int .i64 (ckT t 0))) [] := by
  obtain ⟨A, hA⟩ : ∃ A : Ar, A = .std := ⟨_, rfl⟩
  have c := typ_check hE _ t 0 (Nat.le_refl _) hsz (by omega)
  obtain ⟨k, l⟩ := t
  refine CallsV.ok (fn := Try.f37) (by kernel_rfl) (by kernel_rfl) rfl (by cbv) (by cbv) ?_
  repeat (first | (apply Ok.run1 hmix hA false 2000; focus (cbv; done)) | (apply Ok.one hmix hA; focus (cbv; done)) | (rw [Ar.notT hA]) | (rw [Ar.notF hA]) | (refine Ok.condT ?_ ?_; focus (cbv; done)) | (refine Ok.condF ?_ ?_; focus (cbv; done)) | (refine Ok.drawnE (by as_aux_lemma => kernel_rfl) ?_) | (apply Ok.call (c); (focus (cbv; done)); (focus (cbv; done)); (focus (cbv; done))) | (apply Ok.dcall (c); (focus (cbv; done)); (focus (cbv; done)); (focus (cbv; done))))
  exact Ok.fin (by cbv) (FS.out (by cbv) (PLe.refl _))
end Go.Proofs.Ytnojmocoifodjaa.Pv
set_option maxRecDepth 100000
set_option maxHeartbeats 4000000
set_option linter.unusedVariables false
set_option linter.unusedSimpArgs false
namespace Go.Proofs.Ytnojmocoifodjaa.Pv
open Go Go.Proofs
theorem slices_EqualFunc {E : Enc} (hE : E = .std) (f : Nat) (l m : List Ty) (hf : ∀ x y, x ∈ l → y ∈ m → CallsV Try.prog f [E.tyc x, E.tyc y] (.pv (.bool (sameT x y))) []) (hl : l.length ≤ 2 ^ 60) (hm : m.length ≤ 2 ^ 60) :
    CallsV Try.prog 75 [.view (E .tys l), .view (E .tys m), .func f []] (.pv (.bool (sameTs l m))) [] := by
  obtain ⟨A, hA⟩ : ∃ A : Ar, A = .std := ⟨_, rfl⟩
  obtain ⟨n, hn⟩ : ∃ n, n = l.length := ⟨_, rfl⟩
  obtain ⟨n', hn'⟩ : ∃ n, n = m.length := ⟨_, rfl⟩
  have hll : A .lenP (E .tys l) = Int.ofNat n := by rw [Ar.lenP_eq hA, E.tys_eq hE, List.length_map, hn]; rfl
  have hlm : A .lenP (E .tys m) = Int.ofNat n' := by rw [Ar.lenP_eq hA, E.tys_eq hE, List.length_map, hn']; rfl
  refine CallsV.ok (fn := Try.f75) (by kernel_rfl) (by kernel_rfl) rfl (by cbv) (by cbv) ?_
  repeat (first | (apply Ok.run1 hmix hA false 2000; focus (cbv; done)) | (apply Ok.one hmix hA; focus (cbv; done)) | (rw [Ar.notT hA]) | (rw [Ar.notF hA]) | (refine Ok.condT ?_ ?_; focus (cbv; done)) | (refine Ok.condF ?_ ?_; focus (cbv; done)) | (refine Ok.drawnE (by as_aux_lemma => kernel_rfl) ?_))
  rw [hll, hlm, ofNat_eq hA, Ar.not_eq hA]
  by_cases hnn : n = n'
  case neg =>
    rw [decide_eq_false hnn, sameTs_len (by omega)]
    repeat (first | (apply Ok.run1 hmix hA false 2000; focus (cbv; done)) | (apply Ok.one hmix hA; focus (cbv; done)) | (rw [Ar.notT hA]) | (rw [Ar.notF hA]) | (refine Ok.condT ?_ ?_; focus (cbv; done)) | (refine Ok.condF ?_ ?_; focus (cbv; done)) | (refine Ok.drawnE (by as_aux_lemma => kernel_rfl) ?_))
    exact Ok.fin (by cbv) (FS.out (by cbv) (PLe.refl _))
  rw [decide_eq_true hnn]
  repeat (first | (apply Ok.run1 hmix hA false 2000; focus (cbv; done)) | (apply Ok.one hmix hA; focus (cbv; done)) | (rw [Ar.notT hA]) | (rw [Ar.notF hA]) | (refine Ok.condT ?_ ?_; focus (cbv; done)) | (refine Ok.condF ?_ ?_; focus (cbv; done)) | (refine Ok.drawnE (by as_aux_lemma => kernel_rfl) ?_))
  rw [hll]
  refine Ok.loopAt [0, 1, 2, 15, 16, 17] [] (fun mm s h => ∃ k, mm = n - k ∧ k ≤ n ∧ sameTs (l.drop k) (m.drop k) = sameTs l m ∧ s = mkS 32 [(0, .pv (.view (E .tys l))), (1, .pv (.view (E .tys m))), (2, .pv (.func f [])), (15, .pv (.view (E .tys l))), (16, .pv (.int .i64 (Int.ofNat n))), (17, .pv (.int .i64 (Int.ofNat k)))] ∧ h = []) (n - 0) (by cbv) ⟨0, rfl, Nat.zero_le _, rfl, by cbv, by cbv⟩ ?_
  rintro mm s h ⟨k, rfl, hk, hc, rfl, rfl⟩
  refine Ok.run hmix hA false 2000 (by cbv) ?_
  rw [ofNat_lt hA]
  by_cases hkl : k < n
  · rw [decide_eq_true hkl]
    repeat (first | (apply Ok.run1 hmix hA false 2000; focus (cbv; done)) | (apply Ok.one hmix hA; focus (cbv; done)) | (rw [Ar.notT hA]) | (rw [Ar.notF hA]) | (refine Ok.condT ?_ ?_; focus (cbv; done)) | (refine Ok.condF ?_ ?_; focus (cbv; done)) | (refine Ok.drawnE (by as_aux_lemma => kernel_rfl) ?_))
    have hx : l[k]? = some (l[k]'(by omega)) := List.getElem?_eq_getElem (by omega)
    have hxm : l[k]'(by omega) ∈ l := List.getElem_mem (by omega)
    have hdl : l.drop k = l[k]'(by omega) :: l.drop (k + 1) := List.drop_eq_getElem_cons (by omega)
    generalize l[k]'(by omega) = x at hx hdl hxm
    have hy : m[k]? = some (m[k]'(by omega)) := List.getElem?_eq_getElem (by omega)
    have hym : m[k]'(by omega) ∈ m := List.getElem_mem (by omega)
    have hdm : m.drop k = m[k]'(by omega) :: m.drop (k + 1) := List.drop_eq_getElem_cons (by omega)
    generalize m[k]'(by omega) = y at hy hdm hym
    rw [hdl, hdm, sameTs] at hc
    have cxy := hf x y hxm hym
    obtain ⟨c, hcc⟩ : ∃ c, c = sameT x y := ⟨_, rfl⟩
    rw [← hcc] at cxy hc
    refine Ok.op (idx_view (E.tyc x) (by cbv) (by cbv) (by simp) (by rw [E.tys_eq hE]; simp [hx]) rfl) ?_
    repeat (first | (apply Ok.run1 hmix hA false 2000; focus (cbv; done)) | (apply Ok.one hmix hA; focus (cbv; done)) | (rw [Ar.notT hA]) | (rw [Ar.notF hA]) | (refine Ok.condT ?_ ?_; focus (cbv; done)) | (refine Ok.condF ?_ ?_; focus (cbv; done)) | (refine Ok.drawnE (by as_aux_lemma => kernel_rfl) ?_))
    refine Ok.op (idx_view (E.tyc y) (by cbv) (by cbv) (by simp) (by rw [E.tys_eq hE]; simp [hy]) rfl) ?_
    repeat (first | (apply Ok.run1 hmix hA false 2000; focus (cbv; done)) | (apply Ok.one hmix hA; focus (cbv; done)) | (rw [Ar.notT hA]) | (rw [Ar.notF hA]) | (refine Ok.condT ?_ ?_; focus (cbv; done)) | (refine Ok.condF ?_ ?_; focus (cbv; done)) | (refine Ok.drawnE (by as_aux_lemma => kernel_rfl) ?_) | (apply Ok.call (cxy); (focus (cbv; done)); (focus (cbv; done)); (focus (cbv; done))) | (apply Ok.dcall (cxy); (focus (cbv; done)); (focus (cbv; done)); (focus (cbv; done))))
    rw [Ar.not_eq hA]
    cases c
    · rw [← hc]
      repeat (first | (apply Ok.run1 hmix hA false 2000; focus (cbv; done)) | (apply Ok.one hmix hA; focus (cbv; done)) | (rw [Ar.notT hA]) | (rw [Ar.notF hA]) | (refine Ok.condT ?_ ?_; focus (cbv; done)) | (refine Ok.condF ?_ ?_; focus (cbv; done)) | (refine Ok.drawnE (by as_aux_lemma => kernel_rfl) ?_))
      refine Ok.leaveRet ?_
      repeat (first | (apply Ok.run1 hmix hA false 2000; focus (cbv; done)) | (apply Ok.one hmix hA; focus (cbv; done)) | (rw [Ar.notT hA]) | (rw [Ar.notF hA]) | (refine Ok.condT ?_ ?_; focus (cbv; done)) | (refine Ok.condF ?_ ?_; focus (cbv; done)) | (refine Ok.drawnE (by as_aux_lemma => kernel_rfl) ?_))
      exact Ok.fin (by cbv) (FS.out (by cbv) (PLe.refl _))
    · repeat (first | (apply Ok.run1 hmix hA false 2000; focus (cbv; done)) | (apply Ok.one hmix hA; focus (cbv; done)) | (rw [Ar.notT hA]) | (rw [Ar.notF hA]) | (refine Ok.condT ?_ ?_; focus (cbv; done)) | (refine Ok.condF ?_ ?_; focus (cbv; done)) | (refine Ok.drawnE (by as_aux_lemma => kernel_rfl) ?_))
      rw [Ar.succ_eq hA (by omega)]
      exact Ok.back (n - (k + 1)) [0, 1, 2, 15, 16, 17] [] (by omega) (by cbv) ⟨k + 1, rfl, by omega, by simpa using hc, by cbv, by cbv⟩
  · rw [decide_eq_false hkl]
    have hke : k = l.length := by omega
    rw [hke, List.drop_length, show l.length = m.length by omega, List.drop_length] at hc
    rw [← hc]
    repeat (first | (apply Ok.run1 hmix hA false 2000; focus (cbv; done)) | (apply Ok.one hmix hA; focus (cbv; done)) | (rw [Ar.notT hA]) | (rw [Ar.notF hA]) | (refine Ok.condT ?_ ?_; focus (cbv; done)) | (refine Ok.condF ?_ ?_; focus (cbv; done)) | (refine Ok.drawnE (by as_aux_lemma => kernel_rfl) ?_))
    refine Ok.leave ?_
    repeat (first | (apply Ok.run1 hmix hA false 2000; focus (cbv; done)) | (apply Ok.one hmix hA; focus (cbv; done)) | (rw [Ar.notT hA]) | (rw [Ar.notF hA]) | (refine Ok.condT ?_ ?_; focus (cbv; done)) | (refine Ok.condF ?_ ?_; focus (cbv; done)) | (refine Ok.drawnE (by as_aux_lemma => kernel_rfl) ?_))
    exact Ok.fin (by cbv) (FS.out (by cbv) (PLe.refl _))
theorem typ_Same {E : Enc} (hE : E = .std) : ∀ (n : Nat) (v w : Ty), SizeOf.sizeOf v ≤ n → szT v ≤ 2 ^ 50 → szT w ≤ 2 ^ 50 → CallsV Try.prog 38 [E.tyc v, E.tyc w] (.pv (.bool (sameT v w))) [] := by
  intro n
  induction n with
  | zero => intro v w h; cases v; simp at h
  | succ n ih =>
    rintro ⟨k1, l⟩ ⟨k2, m⟩ hn hsz hsw
    obtain ⟨A, hA⟩ : ∃ A : Ar, A = .std := ⟨_, rfl⟩
    rw [szT] at hsz hsw
    have hlen := szTs_len l
    have hlem := szTs_len m
    have hsub : ∀ x y, x ∈ l → y ∈ m → CallsV Try.prog 38 [E.tyc x, E.tyc y] (.pv (.bool (sameT x y))) [] := fun x y hx hy => by
      have h1 := List.sizeOf_lt_of_mem hx
      have h2 := szTs_mem hx
      have h3 := szTs_mem hy
      simp at hn
      exact ih x y (by omega) (by omega) (by omega)
    have cC := slices_EqualFunc hE 38 l m hsub (by omega) (by omega)
    rw [sameT]
    generalize sameTs l m = c at cC ⊢
    clear hsub ih
    have hk : A .eq k1 k2 = decide (k1 = k2) := Ar.eq_eq hA _ _
    generalize decide (k1 = k2) = b at hk ⊢
    refine CallsV.ok (fn := Try.f38) (by kernel_rfl) (by kernel_rfl) rfl (by cbv) (by cbv) ?_
    refine Ok.run hmix hA false 2000 (by cbv) ?_
    rw [hk]
    cases b
    · repeat (first | (apply Ok.run1 hmix hA false 2000; focus (cbv; done)) | (apply Ok.one hmix hA; focus (cbv; done)) | (rw [Ar.notT hA]) | (rw [Ar.notF hA]) | (refine Ok.condT ?_ ?_; focus (cbv; done)) | (refine Ok.condF ?_ ?_; focus (cbv; done)) | (refine Ok.drawnE (by as_aux_lemma => kernel_rfl) ?_) | (apply Ok.call (cC); (focus (cbv; done)); (focus (cbv; done)); (focus (cbv; done))) | (apply Ok.dcall (cC); (focus (cbv; done)); (focus (cbv; done)); (focus (cbv; done))))
      exact Ok.fin (by cbv) (FS.out (by cbv) (PLe.refl _))
    · repeat (first | (apply Ok.run1 hmix hA false 2000; focus (cbv; done)) | (apply Ok.one hmix hA; focus (cbv; done)) | (rw [Ar.notT hA]) | (rw [Ar.notF hA]) | (refine Ok.condT ?_ ?_; focus (cbv; done)) | (refine Ok.condF ?_ ?_; focus (cbv; done)) | (refine Ok.drawnE (by as_aux_lemma => kernel_rfl) ?_) | (apply Ok.call (cC); (focus (cbv; done)); (focus (cbv; done)); (focus (cbv; done))) | (apply Ok.dcall (cC); (focus (cbv; done)); (focus (cbv; done)); (focus (cbv; done))))
      exact Ok.fin (by cbv) (FS.out (by cbv) (PLe.refl _))
end Go.Proofs.Ytnojmocoifodjaa.Pv
set_option maxRecDepth 100000
set_option maxHeartbeats 4000000
set_option linter.unusedVariables false
set_option linter.unusedSimpArgs false
namespace Go.Proofs.Ytnojmocoifodjaa.Pv
open Go Go.Proofs
theorem joinB_text : ∀ l : List Ty, joinB [44] (l.map textT) = textTs true l
  | [] => rfl
  | [x] => by simp [joinB, textTs]
  | x :: y :: l => by
    have ih := joinB_text (y :: l)
    simp only [List.map_cons] at ih ⊢
    rw [joinB, ih]
    simp [textTs]
theorem typ_word (k : Int) : CallsV Try.prog 72 [.int .i64 k] (.pv (.str (wordT k))) [] := by
  obtain ⟨A, hA⟩ : ∃ A : Ar, A = .std := ⟨_, rfl⟩
  refine CallsV.ok (fn := Try.f72) (by kernel_rfl) (by kernel_rfl) rfl (by cbv) (by cbv) ?_
  repeat' (first | (apply Ok.run1 hmix hA false 2000; focus (cbv; done)) | (apply Ok.one hmix hA; focus (cbv; done)) | (rw [Ar.notT hA]) | (rw [Ar.notF hA]) | (refine Ok.condT ?_ ?_; focus (cbv; done)) | (refine Ok.condF ?_ ?_; focus (cbv; done)) | (refine Ok.drawnE (by as_aux_lemma => kernel_rfl) ?_) | (apply Ok.cond; (focus (cbv; done)); all_goals (intro hh; (try rw [hh]))) | (apply Ok.splitG; (focus (cbv; done)); all_goals (intro hh; (try rw [hh]))) | (apply Ok.splitP; (focus (cbv; done)); all_goals (intro hh; (try rw [hh]))) | (apply Ok.fin1; (focus (cbv; done)); (focus (cbv; done))) | (apply Ok.fin2; (focus (cbv; done)); (focus (cbv; done))) | (apply Ok.fin3; (focus (cbv; done)); (focus (cbv; done))))
  all_goals (subst hA; simp_all [Ar.std, wordT, sInt, sBool, sText])
theorem typ_Text {E : Enc} (hE : E = .std) : ∀ (n : Nat) (t : Ty), SizeOf.sizeOf t ≤ n → szT t ≤ 2 ^ 30 → CallsV Try.prog 36 [E.tyc t] (.pv (.str (textT t))) [] := by
  intro n
  induction n with
  | zero => intro t h; cases t; simp at h
  | succ n ih =>
    rintro ⟨kd, l⟩ hn hsz
    obtain ⟨A, hA⟩ : ∃ A : Ar, A = .std := ⟨_, rfl⟩
    rw [szT] at hsz
    have hlen := szTs_len l
    obtain ⟨ln, hln⟩ : ∃ n, n = l.length := ⟨_, rfl⟩
    have hll : A .lenP (E .tys l) = Int.ofNat ln := by rw [Ar.lenP_eq hA, E.tys_eq hE, List.length_map, hln]; rfl
    have hsub : ∀ x, x ∈ l → CallsV Try.prog 36 [E.tyc x] (.pv (.str (textT x))) [] := fun x hx => by
      have h1 := List.sizeOf_lt_of_mem hx
      have h2 := szTs_mem hx
      simp at hn
      exact ih x (by omega) (by omega)
    obtain ⟨tx, htx⟩ : ∃ s, s = textTs true l := ⟨_, rfl⟩
    have htl : tx.length ≤ 8 * szTs l := by rw [htx]; exact textTs_len l true
    have cJ : CallsV Try.prog 73 [.view ((l.map textT).map .str), .str [44]] (.pv (.str tx)) [] := by
      rw [htx, ← joinB_text]
      exact strings_Join [44] (l.map textT) (by rw [joinB_text, ← htx]; omega) (by simp; omega)
    have cW := typ_word kd
    rw [textT]
    clear ih
    refine CallsV.ok (fn := Try.f36) (by kernel_rfl) (by kernel_rfl) rfl (by cbv) (by cbv) ?_
    refine Ok.run hmix hA false 2000 (by cbv) ?_
    rw [Ar.eq_eq hA, Ar.not_eq hA]
    by_cases h4 : kd = 4
    case neg =>
      rw [decide_eq_false h4, if_neg h4]
      repeat (first | (apply Ok.run1 hmix hA false 2000; focus (cbv; done)) | (apply Ok.one hmix hA; focus (cbv; done)) | (rw [Ar.notT hA]) | (rw [Ar.notF hA]) | (refine Ok.condT ?_ ?_; focus (cbv; done)) | (refine Ok.condF ?_ ?_; focus (cbv; done)) | (refine Ok.drawnE (by as_aux_lemma => kernel_rfl) ?_) | (apply Ok.call (cW); (focus (cbv; done)); (focus (cbv; done)); (focus (cbv; done))) | (apply Ok.dcall (cW); (focus (cbv; done)); (focus (cbv; done)); (focus (cbv; done))))
      exact Ok.fin (by cbv) (FS.out (by cbv) (PLe.refl _))
    rw [decide_eq_true h4, if_pos h4, ← htx]
    repeat (first | (apply Ok.run1 hmix hA false 2000; focus (cbv; done)) | (apply Ok.one hmix hA; focus (cbv; done)) | (rw [Ar.notT hA]) | (rw [Ar.notF hA]) | (refine Ok.condT ?_ ?_; focus (cbv; done)) | (refine Ok.condF ?_ ?_; focus (cbv; done)) | (refine Ok.drawnE (by as_aux_lemma => kernel_rfl) ?_))
    rw [hll]
    refine Ok.le (Le.nil 3 23 9 1 (by cbv) (by cbv) (by decide)) ?_
    refine Ok.loopAt [3, 13, 14, 15] [23] (fun m s h => ∃ (k k' : Nat) (es : List PV), m = ln - k ∧ k ≤ ln ∧ k' = k ∧ es = ((l.take k).map textT).map .str ∧
      s = mkS 29 [(3, .ref 23 k'), (13, .pv (.view (E .tys l))), (14, .pv (.int .i64 (Int.ofNat ln))), (15, .pv (.int .i64 (Int.ofNat k)))] ∧ h = [(23, .row 9 1 es true)]) (ln - 0) (by cbv) ⟨0, 0, [], rfl, Nat.zero_le _, rfl, rfl, by cbv, by cbv⟩ ?_
    rintro m s h ⟨k, k', es, rfl, hk, hk', hes, rfl, rfl⟩
    have hesl : k' = es.length := by rw [hes]; simp; omega
    refine Ok.run hmix hA false 2000 (by cbv) ?_
    rw [ofNat_lt hA]
    by_cases hkl : k < ln
    · rw [decide_eq_true hkl]
      repeat (first | (apply Ok.run1 hmix hA false 2000; focus (cbv; done)) | (apply Ok.one hmix hA; focus (cbv; done)) | (rw [Ar.notT hA]) | (rw [Ar.notF hA]) | (refine Ok.condT ?_ ?_; focus (cbv; done)) | (refine Ok.condF ?_ ?_; focus (cbv; done)) | (refine Ok.drawnE (by as_aux_lemma => kernel_rfl) ?_))
      have hx : l[k]? = some (l[k]'(by omega)) := List.getElem?_eq_getElem (by omega)
      have hxm : l[k]'(by omega) ∈ l := List.getElem_mem (by omega)
      have htk : l.take (k + 1) = l.take k ++ [l[k]'(by omega)] := by rw [List.take_add_one, hx]; rfl
      generalize l[k]'(by omega) = x at hx hxm htk
      have cx := hsub x hxm
      obtain ⟨tt, htt⟩ : ∃ s, s = textT x := ⟨_, rfl⟩
      rw [← htt] at cx
      refine Ok.op (idx_view (E.tyc x) (by cbv) (by cbv) (by simp) (by rw [E.tys_eq hE]; simp [hx]) rfl) ?_
      repeat (first | (apply Ok.run1 hmix hA false 2000; focus (cbv; done)) | (apply Ok.one hmix hA; focus (cbv; done)) | (rw [Ar.notT hA]) | (rw [Ar.notF hA]) | (refine Ok.condT ?_ ?_; focus (cbv; done)) | (refine Ok.condF ?_ ?_; focus (cbv; done)) | (refine Ok.drawnE (by as_aux_lemma => kernel_rfl) ?_) | (apply Ok.call (cx); (focus (cbv; done)); (focus (cbv; done)); (focus (cbv; done))) | (apply Ok.dcall (cx); (focus (cbv; done)); (focus (cbv; done)); (focus (cbv; done))))
      obtain ⟨es3, hes3⟩ : ∃ es3, es3 = es ++ [.str tt] := ⟨_, rfl⟩
      obtain ⟨n3, hn3⟩ : ∃ n3, n3 = k' + 1 := ⟨_, rfl⟩
      refine Ok.op (app_ref (by cbv) (by cbv) hesl (by cbv) (by cbv) (by decide) (by simp only [List.length_singleton]; omega) (by unfold maxLen; simp only [List.length_singleton]; omega) n3 (by exact hn3) es3 (by rw [hes3])) ?_
      repeat (first | (apply Ok.run1 hmix hA false 2000; focus (cbv; done)) | (apply Ok.one hmix hA; focus (cbv; done)) | (rw [Ar.notT hA]) | (rw [Ar.notF hA]) | (refine Ok.condT ?_ ?_; focus (cbv; done)) | (refine Ok.condF ?_ ?_; focus (cbv; done)) | (refine Ok.drawnE (by as_aux_lemma => kernel_rfl) ?_))
      rw [Ar.succ_eq hA (by omega)]
      exact Ok.back (ln - (k + 1)) [3, 13, 14, 15] [23] (by omega) (by cbv) ⟨k + 1, n3, es3, rfl, by omega, by omega, by rw [hes3, hes, htk, htt]; simp, by cbv, by cbv⟩
    · rw [decide_eq_false hkl]
      have hke : k = l.length := by omega
      rw [hke, List.take_length] at hes
      rw [← hes] at cJ
      repeat (first | (apply Ok.run1 hmix hA false 2000; focus (cbv; done)) | (apply Ok.one hmix hA; focus (cbv; done)) | (rw [Ar.notT hA]) | (rw [Ar.notF hA]) | (refine Ok.condT ?_ ?_; focus (cbv; done)) | (refine Ok.condF ?_ ?_; focus (cbv; done)) | (refine Ok.drawnE (by as_aux_lemma => kernel_rfl) ?_))
      refine Ok.leave ?_
      refine Ok.run hmix hA false 2000 (by cbv) ?_
      refine Ok.call (ids := [23]) (cJ) (by cbv) (by simp [callArgs, frz2, frz1, frz0, frzL, rowOf, hget, ev, PV.rlx, ← hesl]) (by cbv) ?_
      refine Ok.run hmix hA false 2000 (by cbv) ?_
      refine Ok.op (sadd_op (by cbv) (by cbv) (by simp; omega) _ rfl) ?_
      refine Ok.run hmix hA false 2000 (by cbv) ?_
      refine Ok.op (sadd_op (by cbv) (by cbv) (by simp; omega) _ rfl) ?_
      repeat (first | (apply Ok.run1 hmix hA false 2000; focus (cbv; done)) | (apply Ok.one hmix hA; focus (cbv; done)) | (rw [Ar.notT hA]) | (rw [Ar.notF hA]) | (refine Ok.condT ?_ ?_; focus (cbv; done)) | (refine Ok.condF ?_ ?_; focus (cbv; done)) | (refine Ok.drawnE (by as_aux_lemma => kernel_rfl) ?_))
      exact Ok.fin (by cbv) (FS.out (by cbv) (PLe.refl _))
theorem ref6_checkType {E : Enc} (hE : E = .std) : ∀ (n : Nat) (t : Ty) (d : Nat), SizeOf.sizeOf t ≤ n → szT t ≤ 2 ^ 40 → d ≤ 1000 → CallsV Try.prog 76 [E.tyc t, .int .i64 (Int.ofNat d)] (.pv (.int .i64 (ckT t d))) [] := by
  intro n
  induction n with
  | zero => intro t d h; cases t; simp at h
  | succ n ih =>
    rintro ⟨kd, l⟩ d hn hsz hd
    obtain ⟨A, hA⟩ : ∃ A : Ar, A = .std := ⟨_, rfl⟩
    rw [szT] at hsz
    have hlen := szTs_len l
    obtain ⟨ln, hln⟩ : ∃ n, n = l.length := ⟨_, rfl⟩
    have hll : A .lenP (E .tys l) = Int.ofNat ln := by rw [Ar.lenP_eq hA, E.tys_eq hE, List.length_map, hln]; rfl
    have hgt : A .lt 0 (Int.ofNat ln) = decide (0 < ln) := ofNat_lt hA 0 ln
    have hg8 : A .lt 8 (Int.ofNat ln) = decide (8 < ln) := ofNat_lt hA 8 ln
    have he0 : A .eq (Int.ofNat ln) 0 = decide (ln = 0) := ofNat_eq hA ln 0
    have hd4 : A .lt 4 (Int.ofNat d) = decide (4 < d) := ofNat_lt hA 4 d
    have q1 : A .lt kd 1 = decide (kd < 1) := Ar.lt_eq hA _ _
    have q2 : A .lt 4 kd = decide (4 < kd) := Ar.lt_eq hA _ _
    have q3 : A .not (A .eq kd 4) = !decide (kd = 4) := by rw [Ar.not_eq hA, Ar.eq_eq hA]
    have hsub : d ≤ 4 → ∀ x, x ∈ l → CallsV Try.prog 76 [E.tyc x, .int .i64 (Int.ofNat (d + 1))] (.pv (.int .i64 (ckT x (d + 1)))) [] := fun hd4 x hx => by
      have h1 := List.sizeOf_lt_of_mem hx
      have h2 := szTs_mem hx
      simp at hn
      exact ih x (d + 1) (by omega) (by omega) (by omega)
    clear ih
    have hck : ckT ⟨kd, l⟩ d = if kd < 1 ∨ 4 < kd ∨ (kd ≠ 4 ∧ 0 < ln) then 5 else if kd ≠ 4 then 0 else if ln = 0 then 1 else if 8 < ln then 10 else if 4 < d then 9 else ckTs l (d + 1) := by
      rw [ckT, ← hln]
      unfold rowC
      by_cases h4 : kd = 4
      · subst h4
        simp only [show ¬ ((4 : Int) = 1 ∨ (4 : Int) = 2 ∨ (4 : Int) = 3) by omega, show ¬ ((4 : Int) < 1 ∨ (4 : Int) < 4 ∨ ((4 : Int) ≠ 4 ∧ 0 < ln)) by omega, if_false, if_true, ne_eq, not_true_eq_false]
        by_cases a1 : ln = 0
        · simp [a1]
        · by_cases a2 : 8 < ln
          · simp [a1, a2, show (ln : Int) > 8 by omega]
          · by_cases a3 : 4 < d
            · simp [a1, a2, show ¬ (ln : Int) > 8 by omega, show (d : Int) > 4 by omega, a3]
            · simp [a1, a2, show ¬ (ln : Int) > 8 by omega, show ¬ (d : Int) > 4 by omega, a3]
      · by_cases h5 : kd = 1 ∨ kd = 2 ∨ kd = 3
        · rw [if_pos h5]
          by_cases a1 : 0 < ln
          · rw [if_pos a1, if_pos (by omega)]
          · rw [if_neg a1, if_neg (by omega), if_pos h4]
        · rw [if_neg h5, if_neg h4, if_pos (by omega)]
    rw [hck]
    refine CallsV.ok (fn := Try.f76) (by kernel_rfl) (by kernel_rfl) rfl (by cbv) (by cbv) ?_
    refine Ok.run hmix hA false 2000 (by cbv) ?_
    rw [q1]
    by_cases h1 : kd < 1
    · rw [decide_eq_true h1, if_pos (by omega)]
      repeat (first | (apply Ok.run1 hmix hA false 2000; focus (cbv; done)) | (apply Ok.one hmix hA; focus (cbv; done)) | (rw [Ar.notT hA]) | (rw [Ar.notF hA]) | (refine Ok.condT ?_ ?_; focus (cbv; done)) | (refine Ok.condF ?_ ?_; focus (cbv; done)) | (refine Ok.drawnE (by as_aux_lemma => kernel_rfl) ?_))
      exact Ok.fin (by cbv) (FS.out (by cbv) (PLe.refl _))
    rw [decide_eq_false h1]
    repeat (first | (apply Ok.run1 hmix hA false 2000; focus (cbv; done)) | (apply Ok.one hmix hA; focus (cbv; done)) | (rw [Ar.notT hA]) | (rw [Ar.notF hA]) | (refine Ok.condT ?_ ?_; focus (cbv; done)) | (refine Ok.condF ?_ ?_; focus (cbv; done)) | (refine Ok.drawnE (by as_aux_lemma => kernel_rfl) ?_))
    rw [q2]
    by_cases h2 : 4 < kd
    · rw [decide_eq_true h2, if_pos (by omega)]
      repeat (first | (apply Ok.run1 hmix hA false 2000; focus (cbv; done)) | (apply Ok.one hmix hA; focus (cbv; done)) | (rw [Ar.notT hA]) | (rw [Ar.notF hA]) | (refine Ok.condT ?_ ?_; focus (cbv; done)) | (refine Ok.condF ?_ ?_; focus (cbv; done)) | (refine Ok.drawnE (by as_aux_lemma => kernel_rfl) ?_))
      exact Ok.fin (by cbv) (FS.out (by cbv) (PLe.refl _))
    rw [decide_eq_false h2]
    repeat (first | (apply Ok.run1 hmix hA false 2000; focus (cbv; done)) | (apply Ok.one hmix hA; focus (cbv; done)) | (rw [Ar.notT hA]) | (rw [Ar.notF hA]) | (refine Ok.condT ?_ ?_; focus (cbv; done)) | (refine Ok.condF ?_ ?_; focus (cbv; done)) | (refine Ok.drawnE (by as_aux_lemma => kernel_rfl) ?_))
    rw [q3]
    by_cases h4 : kd = 4
    case neg =>
      rw [decide_eq_false h4]
      repeat (first | (apply Ok.run1 hmix hA false 2000; focus (cbv; done)) | (apply Ok.one hmix hA; focus (cbv; done)) | (rw [Ar.notT hA]) | (rw [Ar.notF hA]) | (refine Ok.condT ?_ ?_; focus (cbv; done)) | (refine Ok.condF ?_ ?_; focus (cbv; done)) | (refine Ok.drawnE (by as_aux_lemma => kernel_rfl) ?_))
      rw [hll, hgt]
      by_cases h5 : 0 < ln
      · rw [decide_eq_true h5, if_pos (by omega)]
        repeat (first | (apply Ok.run1 hmix hA false 2000; focus (cbv; done)) | (apply Ok.one hmix hA; focus (cbv; done)) | (rw [Ar.notT hA]) | (rw [Ar.notF hA]) | (refine Ok.condT ?_ ?_; focus (cbv; done)) | (refine Ok.condF ?_ ?_; focus (cbv; done)) | (refine Ok.drawnE (by as_aux_lemma => kernel_rfl) ?_))
        exact Ok.fin (by cbv) (FS.out (by cbv) (PLe.refl _))
      · rw [decide_eq_false h5, if_neg (by omega), if_pos h4]
        repeat (first | (apply Ok.run1 hmix hA false 2000; focus (cbv; done)) | (apply Ok.one hmix hA; focus (cbv; done)) | (rw [Ar.notT hA]) | (rw [Ar.notF hA]) | (refine Ok.condT ?_ ?_; focus (cbv; done)) | (refine Ok.condF ?_ ?_; focus (cbv; done)) | (refine Ok.drawnE (by as_aux_lemma => kernel_rfl) ?_))
        rw [q3, decide_eq_false h4]
        repeat (first | (apply Ok.run1 hmix hA false 2000; focus (cbv; done)) | (apply Ok.one hmix hA; focus (cbv; done)) | (rw [Ar.notT hA]) | (rw [Ar.notF hA]) | (refine Ok.condT ?_ ?_; focus (cbv; done)) | (refine Ok.condF ?_ ?_; focus (cbv; done)) | (refine Ok.drawnE (by as_aux_lemma => kernel_rfl) ?_))
        exact Ok.fin (by cbv) (FS.out (by cbv) (PLe.refl _))
    rw [decide_eq_true h4, if_neg (by omega), if_neg (by simpa using h4)]
    repeat (first | (apply Ok.run1 hmix hA false 2000; focus (cbv; done)) | (apply Ok.one hmix hA; focus (cbv; done)) | (rw [Ar.notT hA]) | (rw [Ar.notF hA]) | (refine Ok.condT ?_ ?_; focus (cbv; done)) | (refine Ok.condF ?_ ?_; focus (cbv; done)) | (refine Ok.drawnE (by as_aux_lemma => kernel_rfl) ?_))
    rw [q3, decide_eq_true h4]
    repeat (first | (apply Ok.run1 hmix hA false 2000; focus (cbv; done)) | (apply Ok.one hmix hA; focus (cbv; done)) | (rw [Ar.notT hA]) | (rw [Ar.notF hA]) | (refine Ok.condT ?_ ?_; focus (cbv; done)) | (refine Ok.condF ?_ ?_; focus (cbv; done)) | (refine Ok.drawnE (by as_aux_lemma => kernel_rfl) ?_))
    rw [hll, he0]
    by_cases h6 : ln = 0
    · rw [decide_eq_true h6, if_pos h6]
      repeat (first | (apply Ok.run1 hmix hA false 2000; focus (cbv; done)) | (apply Ok.one hmix hA; focus (cbv; done)) | (rw [Ar.notT hA]) | (rw [Ar.notF hA]) | (refine Ok.condT ?_ ?_; focus (cbv; done)) | (refine Ok.condF ?_ ?_; focus (cbv; done)) | (refine Ok.drawnE (by as_aux_lemma => kernel_rfl) ?_))
      exact Ok.fin (by cbv) (FS.out (by cbv) (PLe.refl _))
    rw [decide_eq_false h6, if_neg h6]
    repeat (first | (apply Ok.run1 hmix hA false 2000; focus (cbv; done)) | (apply Ok.one hmix hA; focus (cbv; done)) | (rw [Ar.notT hA]) | (rw [Ar.notF hA]) | (refine Ok.condT ?_ ?_; focus (cbv; done)) | (refine Ok.condF ?_ ?_; focus (cbv; done)) | (refine Ok.drawnE (by as_aux_lemma => kernel_rfl) ?_))
    rw [hll, hg8]
    by_cases h7 : 8 < ln
    · rw [decide_eq_true h7, if_pos h7]
      repeat (first | (apply Ok.run1 hmix hA false 2000; focus (cbv; done)) | (apply Ok.one hmix hA; focus (cbv; done)) | (rw [Ar.notT hA]) | (rw [Ar.notF hA]) | (refine Ok.condT ?_ ?_; focus (cbv; done)) | (refine Ok.condF ?_ ?_; focus (cbv; done)) | (refine Ok.drawnE (by as_aux_lemma => kernel_rfl) ?_))
      exact Ok.fin (by cbv) (FS.out (by cbv) (PLe.refl _))
    rw [decide_eq_false h7, if_neg h7]
    repeat (first | (apply Ok.run1 hmix hA false 2000; focus (cbv; done)) | (apply Ok.one hmix hA; focus (cbv; done)) | (rw [Ar.notT hA]) | (rw [Ar.notF hA]) | (refine Ok.condT ?_ ?_; focus (cbv; done)) | (refine Ok.condF ?_ ?_; focus (cbv; done)) | (refine Ok.drawnE (by as_aux_lemma => kernel_rfl) ?_))
    rw [hd4]
    by_cases h8 : 4 < d
    · rw [decide_eq_true h8, if_pos h8]
      repeat (first | (apply Ok.run1 hmix hA false 2000; focus (cbv; done)) | (apply Ok.one hmix hA; focus (cbv; done)) | (rw [Ar.notT hA]) | (rw [Ar.notF hA]) | (refine Ok.condT ?_ ?_; focus (cbv; done)) | (refine Ok.condF ?_ ?_; focus (cbv; done)) | (refine Ok.drawnE (by as_aux_lemma => kernel_rfl) ?_))
      exact Ok.fin (by cbv) (FS.out (by cbv) (PLe.refl _))
    rw [decide_eq_false h8, if_neg h8]
    repeat (first | (apply Ok.run1 hmix hA false 2000; focus (cbv; done)) | (apply Ok.one hmix hA; focus (cbv; done)) | (rw [Ar.notT hA]) | (rw [Ar.notF hA]) | (refine Ok.condT ?_ ?_; focus (cbv; done)) | (refine Ok.condF ?_ ?_; focus (cbv; done)) | (refine Ok.drawnE (by as_aux_lemma => kernel_rfl) ?_))
    have hsub := hsub (by omega)
    obtain ⟨d1, hd1⟩ : ∃ d1, d1 = d + 1 := ⟨_, rfl⟩
    rw [← hd1] at hsub ⊢
    refine Ok.loopAt [1, 2, 5] [2] (fun m s h => ∃ k, m = ln - k ∧ k ≤ ln ∧ ckTs (l.drop k) d1 = ckTs l d1 ∧ s = mkS 62 [(1, .pv (.int .i64 (Int.ofNat d))), (2, .ptr 2 0), (5, .pv (.int .i64 (Int.ofNat k)))] ∧
      h = [(2, .box [.pv (.int .i64 kd), .pv (.view (E .tys l))] true)]) (ln - 0) (by cbv) ⟨0, rfl, Nat.zero_le _, rfl, by cbv, by cbv⟩ ?_
    rintro m s h ⟨k, rfl, hk, hc, rfl, rfl⟩
    refine Ok.run hmix hA false 2000 (by cbv) ?_
    rw [hll, ofNat_lt hA]
    by_cases hkl : k < ln
    · rw [decide_eq_true hkl]
      repeat (first | (apply Ok.run1 hmix hA false 2000; focus (cbv; done)) | (apply Ok.one hmix hA; focus (cbv; done)) | (rw [Ar.notT hA]) | (rw [Ar.notF hA]) | (refine Ok.condT ?_ ?_; focus (cbv; done)) | (refine Ok.condF ?_ ?_; focus (cbv; done)) | (refine Ok.drawnE (by as_aux_lemma => kernel_rfl) ?_))
      have hx : l[k]? = some (l[k]'(by omega)) := List.getElem?_eq_getElem (by omega)
      have hxm : l[k]'(by omega) ∈ l := List.getElem_mem (by omega)
      have hdl : l.drop k = l[k]'(by omega) :: l.drop (k + 1) := List.drop_eq_getElem_cons (by omega)
      generalize l[k]'(by omega) = x at hx hdl hxm
      rw [hdl, ckTs] at hc
      have cx := hsub x hxm
      obtain ⟨c, hcc⟩ : ∃ c, c = ckT x d1 := ⟨_, rfl⟩
      rw [← hcc] at cx hc
      refine Ok.op (idx_view (E.tyc x) (by cbv) (by cbv) (by simp) (by rw [E.tys_eq hE]; simp [hx]) rfl) ?_
      refine Ok.run hmix hA false 2000 (by cbv) ?_
      rw [Ar.succ_eq (k := d) hA (by omega), ← hd1]
      repeat (first | (apply Ok.run1 hmix hA false 2000; focus (cbv; done)) | (apply Ok.one hmix hA; focus (cbv; done)) | (rw [Ar.notT hA]) | (rw [Ar.notF hA]) | (refine Ok.condT ?_ ?_; focus (cbv; done)) | (refine Ok.condF ?_ ?_; focus (cbv; done)) | (refine Ok.drawnE (by as_aux_lemma => kernel_rfl) ?_) | (apply Ok.call (cx); (focus (cbv; done)); (focus (cbv; done)); (focus (cbv; done))) | (apply Ok.dcall (cx); (focus (cbv; done)); (focus (cbv; done)); (focus (cbv; done))))
      rw [Ar.eq_eq hA, Ar.not_eq hA]
      by_cases h0 : c = 0
      · rw [if_neg (by simpa using h0)] at hc
        rw [decide_eq_true h0]
        repeat (first | (apply Ok.run1 hmix hA false 2000; focus (cbv; done)) | (apply Ok.one hmix hA; focus (cbv; done)) | (rw [Ar.notT hA]) | (rw [Ar.notF hA]) | (refine Ok.condT ?_ ?_; focus (cbv; done)) | (refine Ok.condF ?_ ?_; focus (cbv; done)) | (refine Ok.drawnE (by as_aux_lemma => kernel_rfl) ?_))
        rw [Ar.succ_eq (k := k) hA (by omega)]
        exact Ok.back (ln - (k + 1)) [1, 2, 5] [2] (by omega) (by cbv) ⟨k + 1, rfl, by omega, hc, by cbv, by cbv⟩
      · rw [if_pos h0] at hc
        rw [decide_eq_false h0, ← hc]
        repeat (first | (apply Ok.run1 hmix hA false 2000; focus (cbv; done)) | (apply Ok.one hmix hA; focus (cbv; done)) | (rw [Ar.notT hA]) | (rw [Ar.notF hA]) | (refine Ok.condT ?_ ?_; focus (cbv; done)) | (refine Ok.condF ?_ ?_; focus (cbv; done)) | (refine Ok.drawnE (by as_aux_lemma => kernel_rfl) ?_))
        refine Ok.leaveRet ?_
        repeat (first | (apply Ok.run1 hmix hA false 2000; focus (cbv; done)) | (apply Ok.one hmix hA; focus (cbv; done)) | (rw [Ar.notT hA]) | (rw [Ar.notF hA]) | (refine Ok.condT ?_ ?_; focus (cbv; done)) | (refine Ok.condF ?_ ?_; focus (cbv; done)) | (refine Ok.drawnE (by as_aux_lemma => kernel_rfl) ?_))
        exact Ok.fin (by cbv) (FS.out (by cbv) (PLe.refl _))
    · rw [decide_eq_false hkl]
      have hke : k = l.length := by omega
      rw [hke, List.drop_length] at hc
      rw [← hc]
      repeat (first | (apply Ok.run1 hmix hA false 2000; focus (cbv; done)) | (apply Ok.one hmix hA; focus (cbv; done)) | (rw [Ar.notT hA]) | (rw [Ar.notF hA]) | (refine Ok.condT ?_ ?_; focus (cbv; done)) | (refine Ok.condF ?_ ?_; focus (cbv; done)) | (refine Ok.drawnE (by as_aux_lemma => kernel_rfl) ?_))
      refine Ok.leave ?_
      repeat (first | (apply Ok.run1 hmix hA false 2000; focus (cbv; done)) | (apply Ok.one hmix hA; focus (cbv; done)) | (rw [Ar.notT hA]) | (rw [Ar.notF hA]) | (refine Ok.condT ?_ ?_; focus (cbv; done)) | (refine Ok.condF ?_ ?_; focus (cbv; done)) | (refine Ok.drawnE (by as_aux_lemma => kernel_rfl) ?_))
      exact Ok.fin (by cbv) (FS.out (by cbv) (PLe.refl _))
end Go.Proofs.Ytnojmocoifodjaa.Pv
set_option maxRecDepth 100000
set_option maxHeartbeats 4000000
set_option linter.unusedVariables false
set_option linter.unusedSimpArgs false
namespace Go.Proofs.Ytnojmocoifodjaa.Pv
open Go Go.Proofs
theorem strip_isSome (w s : List UInt8) : (strip w s).isSome = decide (s.take w.length = w) := by
  unfold strip
  split <;> simp_all
theorem lite_HasPrefix (s w : List UInt8) : CallsV Try.prog 161 [.str s, .str w] (.pv (.bool (strip w s).isSome)) [] := by
  obtain ⟨A, hA⟩ : ∃ A : Ar, A = .std := ⟨_, rfl⟩
  obtain ⟨ns, hns⟩ : ∃ n, n = s.length := ⟨_, rfl⟩
  obtain ⟨nw, hnw⟩ : ∃ n, n = w.length := ⟨_, rfl⟩
  have e1 : A .lenS s = Int.ofNat ns := by rw [hns]; exact lenS_nat hA s
  have e2 : A .lenS w = Int.ofNat nw := by rw [hnw]; exact lenS_nat hA w
  obtain ⟨p, hp⟩ : ∃ p, p = s.take nw := ⟨_, rfl⟩
  have hb : (strip w s).isSome = decide (p = w) := by rw [strip_isSome, hp, hnw]
  rw [hb]
  obtain ⟨b, hbb⟩ : ∃ b, b = decide (p = w) := ⟨_, rfl⟩
  rw [← hbb]
  refine CallsV.ok (fn := Try.f161) (by kernel_rfl) (by kernel_rfl) rfl (by cbv) (by cbv) ?_
  refine Ok.run hmix hA false 2000 (by cbv) ?_
  rw [e1, e2, ofNat_le hA]
  by_cases hle : nw ≤ ns
  · rw [decide_eq_true hle]
    repeat (first | (apply Ok.run1 hmix hA false 2000; focus (cbv; done)) | (apply Ok.one hmix hA; focus (cbv; done)) | (rw [Ar.notT hA]) | (rw [Ar.notF hA]) | (refine Ok.condT ?_ ?_; focus (cbv; done)) | (refine Ok.condF ?_ ?_; focus (cbv; done)) | (refine Ok.drawnE (by as_aux_lemma => kernel_rfl) ?_))
    rw [e2]
    refine Ok.op (sslc_op (a := 0) (b := nw) (by cbv) (by cbv) (by rfl) (by exact bound_nat _ _ _) (by omega) (by omega) p (by rw [hp]; simp)) ?_
    repeat (first | (apply Ok.run1 hmix hA false 2000; focus (cbv; done)) | (apply Ok.one hmix hA; focus (cbv; done)) | (rw [Ar.notT hA]) | (rw [Ar.notF hA]) | (refine Ok.condT ?_ ?_; focus (cbv; done)) | (refine Ok.condF ?_ ?_; focus (cbv; done)) | (refine Ok.drawnE (by as_aux_lemma => kernel_rfl) ?_))
    rw [Ar.seq_eq hA, ← hbb]
    repeat (first | (apply Ok.run1 hmix hA false 2000; focus (cbv; done)) | (apply Ok.one hmix hA; focus (cbv; done)) | (rw [Ar.notT hA]) | (rw [Ar.notF hA]) | (refine Ok.condT ?_ ?_; focus (cbv; done)) | (refine Ok.condF ?_ ?_; focus (cbv; done)) | (refine Ok.drawnE (by as_aux_lemma => kernel_rfl) ?_))
    exact Ok.fin (by cbv) (FS.out (by cbv) (PLe.refl _))
  · rw [decide_eq_false hle]
    have : b = false := by
      rw [hbb]
      apply decide_eq_false
      intro h
      have := congrArg List.length h
      rw [hp, List.length_take] at this
      omega
    rw [this]
    repeat (first | (apply Ok.run1 hmix hA false 2000; focus (cbv; done)) | (apply Ok.one hmix hA; focus (cbv; done)) | (rw [Ar.notT hA]) | (rw [Ar.notF hA]) | (refine Ok.condT ?_ ?_; focus (cbv; done)) | (refine Ok.condF ?_ ?_; focus (cbv; done)) | (refine Ok.drawnE (by as_aux_lemma => kernel_rfl) ?_))
    exact Ok.fin (by cbv) (FS.out (by cbv) (PLe.refl _))
def cutR (w s : List UInt8) : List UInt8 := (strip w s).getD s
theorem lite_CutPrefix (s w : List UInt8) : CallsV Try.prog 142 [.str s, .str w] (.tup [.pv (.str (cutR w s)), .pv (.bool (strip w s).isSome)]) [] := by
  obtain ⟨A, hA⟩ : ∃ A : Ar, A = .std := ⟨_, rfl⟩
  obtain ⟨nw, hnw⟩ : ∃ n, n = w.length := ⟨_, rfl⟩
  have e2 : A .lenS w = Int.ofNat nw := by rw [hnw]; exact lenS_nat hA w
  have c := lite_HasPrefix s w
  unfold cutR
  cases hs : strip w s with
  | none =>
    rw [hs] at c
    refine CallsV.ok (fn := Try.f142) (by kernel_rfl) (by kernel_rfl) rfl (by cbv) (by cbv) ?_
    repeat (first | (apply Ok.run1 hmix hA false 2000; focus (cbv; done)) | (apply Ok.one hmix hA; focus (cbv; done)) | (rw [Ar.notT hA]) | (rw [Ar.notF hA]) | (refine Ok.condT ?_ ?_; focus (cbv; done)) | (refine Ok.condF ?_ ?_; focus (cbv; done)) | (refine Ok.drawnE (by as_aux_lemma => kernel_rfl) ?_) | (apply Ok.call (c); (focus (cbv; done)); (focus (cbv; done)); (focus (cbv; done))) | (apply Ok.dcall (c); (focus (cbv; done)); (focus (cbv; done)); (focus (cbv; done))))
    try rw [Ar.not_eq hA]
    repeat (first | (apply Ok.run1 hmix hA false 2000; focus (cbv; done)) | (apply Ok.one hmix hA; focus (cbv; done)) | (rw [Ar.notT hA]) | (rw [Ar.notF hA]) | (refine Ok.condT ?_ ?_; focus (cbv; done)) | (refine Ok.condF ?_ ?_; focus (cbv; done)) | (refine Ok.drawnE (by as_aux_lemma => kernel_rfl) ?_))
    (first | (apply Ok.fin1; (focus (cbv; done)); (focus (cbv; done))) | (apply Ok.fin2; (focus (cbv; done)); (focus (cbv; done))) | (apply Ok.fin3; (focus (cbv; done)); (focus (cbv; done))))
    all_goals rfl
  | some r =>
    rw [hs] at c
    have h1 := strip_eq hs
    have hl : nw ≤ s.length := by rw [h1, hnw]; simp
    refine CallsV.ok (fn := Try.f142) (by kernel_rfl) (by kernel_rfl) rfl (by cbv) (by cbv) ?_
    repeat (first | (apply Ok.run1 hmix hA false 2000; focus (cbv; done)) | (apply Ok.one hmix hA; focus (cbv; done)) | (rw [Ar.notT hA]) | (rw [Ar.notF hA]) | (refine Ok.condT ?_ ?_; focus (cbv; done)) | (refine Ok.condF ?_ ?_; focus (cbv; done)) | (refine Ok.drawnE (by as_aux_lemma => kernel_rfl) ?_) | (apply Ok.call (c); (focus (cbv; done)); (focus (cbv; done)); (focus (cbv; done))) | (apply Ok.dcall (c); (focus (cbv; done)); (focus (cbv; done)); (focus (cbv; done))))
    try rw [Ar.not_eq hA]
    repeat (first | (apply Ok.run1 hmix hA false 2000; focus (cbv; done)) | (apply Ok.one hmix hA; focus (cbv; done)) | (rw [Ar.notT hA]) | (rw [Ar.notF hA]) | (refine Ok.condT ?_ ?_; focus (cbv; done)) | (refine Ok.condF ?_ ?_; focus (cbv; done)) | (refine Ok.drawnE (by as_aux_lemma => kernel_rfl) ?_))
    rw [e2]
    refine Ok.op (sslc_op (a := nw) (b := s.length) (by cbv) (by cbv) (by exact bound_nat _ _ _) (by rfl) (by omega) (by omega) r (by rw [List.take_length, h1, hnw]; simp)) ?_
    repeat (first | (apply Ok.run1 hmix hA false 2000; focus (cbv; done)) | (apply Ok.one hmix hA; focus (cbv; done)) | (rw [Ar.notT hA]) | (rw [Ar.notF hA]) | (refine Ok.condT ?_ ?_; focus (cbv; done)) | (refine Ok.condF ?_ ?_; focus (cbv; done)) | (refine Ok.drawnE (by as_aux_lemma => kernel_rfl) ?_))
    (first | (apply Ok.fin1; (focus (cbv; done)); (focus (cbv; done))) | (apply Ok.fin2; (focus (cbv; done)); (focus (cbv; done))) | (apply Ok.fin3; (focus (cbv; done)); (focus (cbv; done))))
    all_goals rfl
theorem strings_CutPrefix (s w : List UInt8) : CallsV Try.prog 102 [.str s, .str w] (.tup [.pv (.str (cutR w s)), .pv (.bool (strip w s).isSome)]) [] := by
  obtain ⟨A, hA⟩ : ∃ A : Ar, A = .std := ⟨_, rfl⟩
  have c := lite_CutPrefix s w
  generalize cutR w s = r at c ⊢
  generalize (strip w s).isSome = b at c ⊢
  refine CallsV.ok (fn := Try.f102) (by kernel_rfl) (by kernel_rfl) rfl (by cbv) (by cbv) ?_
  repeat (first | (apply Ok.run1 hmix hA false 2000; focus (cbv; done)) | (apply Ok.one hmix hA; focus (cbv; done)) | (rw [Ar.notT hA]) | (rw [Ar.notF hA]) | (refine Ok.condT ?_ ?_; focus (cbv; done)) | (refine Ok.condF ?_ ?_; focus (cbv; done)) | (refine Ok.drawnE (by as_aux_lemma => kernel_rfl) ?_) | (apply Ok.call (c); (focus (cbv; done)); (focus (cbv; done)); (focus (cbv; done))) | (apply Ok.dcall (c); (focus (cbv; done)); (focus (cbv; done)); (focus (cbv; done))))
  (first | (apply Ok.fin1; (focus (cbv; done)); (focus (cbv; done))) | (apply Ok.fin2; (focus (cbv; done)); (focus (cbv; done))) | (apply Ok.fin3; (focus (cbv; done)); (focus (cbv; done))))
  all_goals rfl
end Go.Proofs.Ytnojmocoifodjaa.Pv
set_option maxRecDepth 100000
set_option maxHeartbeats 4000000
set_option linter.unusedVariables false
set_option linter.unusedSimpArgs false
namespace Go.Proofs.Ytnojmocoifodjaa.Pv
open Go Go.Proofs
def rT (q : Option (Ty × List UInt8)) : Ty := match q with
  | some (t, _) => t
  | none => .zero
def rS (q : Option (Ty × List UInt8)) : List UInt8 := match q with
  | some (_, r) => r
  | none => []
theorem strip_none_cut {w s : List UInt8} (h : strip w s = none) : cutR w s = s := by simp [cutR, h]
theorem strip_some_cut {w s r : List UInt8} (h : strip w s = some r) : cutR w s = r := by simp [cutR, h]
theorem cut_none {s w : List UInt8} (h : strip w s = none) : CallsV Try.prog 102 [.str s, .str w] (.tup [.pv (.str s), .pv (.bool false)]) [] := by
  have c := strings_CutPrefix s w
  rw [strip_none_cut h, h] at c
  exact c
theorem cut_some {s w r : List UInt8} (h : strip w s = some r) : CallsV Try.prog 102 [.str s, .str w] (.tup [.pv (.str r), .pv (.bool true)]) [] := by
  have c := strings_CutPrefix s w
  rw [strip_some_cut h, h] at c
  exact c
theorem cut_any (s w : List UInt8) : ∃ r b, CallsV Try.prog 102 [.str s, .str w] (.tup [.pv (.str r), .pv (.bool b)]) [] := ⟨_, _, strings_CutPrefix s w⟩
theorem typ_read {E : Enc} (hE : E = .std) : ∀ (n : Nat) (s : List UInt8), 2 * s.length + 2 ≤ n → s.length ≤ 2 ^ 20 → CallsV Try.prog 70 [.str s] (.tup [.pv (E.tyc (rT (rd n s))), .pv (.str (rS (rd n s))), .pv (.bool (rd n s).isSome)]) [] := by
  intro n
  induction n using Nat.strongRecOn with
  | _ n ih =>
  intro s hfu hsl
  obtain ⟨n, rfl⟩ : ∃ k, n = k + 1 := ⟨n - 1, by omega⟩
  obtain ⟨A, hA⟩ : ∃ A : Ar, A = .std := ⟨_, rfl⟩
  have ht0 : E .tys [] = [] := by rw [E.tys_eq hE]; rfl
  have cw1 : CallsV Try.prog 72 [.int .i64 1] (.pv (.str sInt)) [] := typ_word 1
  have cw2 : CallsV Try.prog 72 [.int .i64 2] (.pv (.str sBool)) [] := typ_word 2
  have cw3 : CallsV Try.prog 72 [.int .i64 3] (.pv (.str sText)) [] := typ_word 3
  obtain ⟨res, hres⟩ : ∃ q, q = rd (n + 1) s := ⟨_, rfl⟩
  rw [← hres]
  have hrd := hres
  rw [rd] at hrd
  refine CallsV.ok (fn := Try.f70) (by kernel_rfl) (by kernel_rfl) rfl (by cbv) (by cbv) ?_
  repeat (first | (apply Ok.run1 hmix hA false 2000; focus (cbv; done)) | (apply Ok.one hmix hA; focus (cbv; done)) | (rw [Ar.notT hA]) | (rw [Ar.notF hA]) | (refine Ok.condT ?_ ?_; focus (cbv; done)) | (refine Ok.condF ?_ ?_; focus (cbv; done)) | (refine Ok.drawnE (by as_aux_lemma => kernel_rfl) ?_))
  rw [lenN_nat hA]
  refine Ok.loopAt [0, 2, 3, 4, 17, 18, 19] [2, 17] (fun m sl h => ∃ k, m = 3 - k ∧ k ≤ 3 ∧ (1 ≤ k → strip sInt s = none) ∧ (2 ≤ k → strip sBool s = none) ∧ (3 ≤ k → strip sText s = none) ∧
    sl = mkS 81 [(0, .pv (.str s)), (2, .ptr 2 0), (3, .pv (.str [])), (4, .pv (.bool false)), (17, .ref 17 3), (18, .pv (.int .i64 (Int.ofNat 3))), (19, .pv (.int .i64 (Int.ofNat k)))] ∧
    h = [(2, .box [.pv (.int .i64 0), .pv .nil] true), (17, .row 3 1 [.int .i64 1, .int .i64 2, .int .i64 3] true)]) (3 - 0) (by cbv) ⟨0, rfl, by omega, by omega, by omega, by omega, by cbv, by cbv⟩ ?_
  rintro m sl h ⟨k, rfl, hk, a1, a2, a3, rfl, rfl⟩
  refine Ok.run hmix hA false 2000 (by cbv) ?_
  rw [ofNat_lt hA]
  by_cases hk3 : k < 3
  · rw [decide_eq_true hk3]
    rcases (show k = 0 ∨ k = 1 ∨ k = 2 by omega) with rfl | rfl | rfl
    · cases hs : strip sInt s with
      | some r =>
        simp only [hs] at hrd
        have cc := cut_some hs
        repeat (first | (apply Ok.run1 hmix hA false 2000; focus (cbv; done)) | (apply Ok.one hmix hA; focus (cbv; done)) | (rw [Ar.notT hA]) | (rw [Ar.notF hA]) | (refine Ok.condT ?_ ?_; focus (cbv; done)) | (refine Ok.condF ?_ ?_; focus (cbv; done)) | (refine Ok.drawnE (by as_aux_lemma => kernel_rfl) ?_) | (apply Ok.op; (focus (cbv; done))) | (apply Ok.dop; (focus (cbv; done))) | (apply Ok.call (cw1); (focus (cbv; done)); (focus (cbv; done)); (focus (cbv; done))) | (apply Ok.dcall (cw1); (focus (cbv; done)); (focus (cbv; done)); (focus (cbv; done))) | (apply Ok.call (cc); (focus (cbv; done)); (focus (cbv; done)); (focus (cbv; done))) | (apply Ok.dcall (cc); (focus (cbv; done)); (focus (cbv; done)); (focus (cbv; done))))
        refine Ok.leaveRet ?_
        repeat (first | (apply Ok.run1 hmix hA false 2000; focus (cbv; done)) | (apply Ok.one hmix hA; focus (cbv; done)) | (rw [Ar.notT hA]) | (rw [Ar.notF hA]) | (refine Ok.condT ?_ ?_; focus (cbv; done)) | (refine Ok.condF ?_ ?_; focus (cbv; done)) | (refine Ok.drawnE (by as_aux_lemma => kernel_rfl) ?_))
        rw [hrd]
        (first | (apply Ok.fin1; (focus (cbv; done)); (focus (cbv; done))) | (apply Ok.fin2; (focus (cbv; done)); (focus (cbv; done))) | (apply Ok.fin3; (focus (cbv; done)); (focus (cbv; done))))
        all_goals first | rfl | simp [rT, rS, Enc.tyc, ht0]
      | none =>
        have cc := cut_none hs
        repeat (first | (apply Ok.run1 hmix hA false 2000; focus (cbv; done)) | (apply Ok.one hmix hA; focus (cbv; done)) | (rw [Ar.notT hA]) | (rw [Ar.notF hA]) | (refine Ok.condT ?_ ?_; focus (cbv; done)) | (refine Ok.condF ?_ ?_; focus (cbv; done)) | (refine Ok.drawnE (by as_aux_lemma => kernel_rfl) ?_) | (apply Ok.op; (focus (cbv; done))) | (apply Ok.dop; (focus (cbv; done))) | (apply Ok.call (cw1); (focus (cbv; done)); (focus (cbv; done)); (focus (cbv; done))) | (apply Ok.dcall (cw1); (focus (cbv; done)); (focus (cbv; done)); (focus (cbv; done))) | (apply Ok.call (cc); (focus (cbv; done)); (focus (cbv; done)); (focus (cbv; done))) | (apply Ok.dcall (cc); (focus (cbv; done)); (focus (cbv; done)); (focus (cbv; done))))
        rw [Ar.succ_eq (k := 0) hA (by omega)]
        exact Ok.back (3 - 1) [0, 2, 3, 4, 17, 18, 19] [2, 17] (by omega) (by cbv) ⟨1, rfl, by omega, fun _ => rfl, by omega, by omega, by cbv, by cbv⟩
    · cases hs : strip sBool s with
      | some r =>
        simp only [a1 (by omega), hs] at hrd
        have cc := cut_some hs
        repeat (first | (apply Ok.run1 hmix hA false 2000; focus (cbv; done)) | (apply Ok.one hmix hA; focus (cbv; done)) | (rw [Ar.notT hA]) | (rw [Ar.notF hA]) | (refine Ok.condT ?_ ?_; focus (cbv; done)) | (refine Ok.condF ?_ ?_; focus (cbv; done)) | (refine Ok.drawnE (by as_aux_lemma => kernel_rfl) ?_) | (apply Ok.op; (focus (cbv; done))) | (apply Ok.dop; (focus (cbv; done))) | (apply Ok.call (cw2); (focus (cbv; done)); (focus (cbv; done)); (focus (cbv; done))) | (apply Ok.dcall (cw2); (focus (cbv; done)); (focus (cbv; done)); (focus (cbv; done))) | (apply Ok.call (cc); (focus (cbv; done)); (focus (cbv; done)); (focus (cbv; done))) | (apply Ok.dcall (cc); (focus (cbv; done)); (focus (cbv; done)); (focus (cbv; done))))
        refine Ok.leaveRet ?_
        repeat (first | (apply Ok.run1 hmix hA false 2000; focus (cbv; done)) | (apply Ok.one hmix hA; focus (cbv; done)) | (rw [Ar.notT hA]) | (rw [Ar.notF hA]) | (refine Ok.condT ?_ ?_; focus (cbv; done)) | (refine Ok.condF ?_ ?_; focus (cbv; done)) | (refine Ok.drawnE (by as_aux_lemma => kernel_rfl) ?_))
        rw [hrd]
        (first | (apply Ok.fin1; (focus (cbv; done)); (focus (cbv; done))) | (apply Ok.fin2; (focus (cbv; done)); (focus (cbv; done))) | (apply Ok.fin3; (focus (cbv; done)); (focus (cbv; done))))
        all_goals first | rfl | simp [rT, rS, Enc.tyc, ht0]
      | none =>
        have cc := cut_none hs
        repeat (first | (apply Ok.run1 hmix hA false 2000; focus (cbv; done)) | (apply Ok.one hmix hA; focus (cbv; done)) | (rw [Ar.notT hA]) | (rw [Ar.notF hA]) | (refine Ok.condT ?_ ?_; focus (cbv; done)) | (refine Ok.condF ?_ ?_; focus (cbv; done)) | (refine Ok.drawnE (by as_aux_lemma => kernel_rfl) ?_) | (apply Ok.op; (focus (cbv; done))) | (apply Ok.dop; (focus (cbv; done))) | (apply Ok.call (cw2); (focus (cbv; done)); (focus (cbv; done)); (focus (cbv; done))) | (apply Ok.dcall (cw2); (focus (cbv; done)); (focus (cbv; done)); (focus (cbv; done))) | (apply Ok.call (cc); (focus (cbv; done)); (focus (cbv; done)); (focus (cbv; done))) | (apply Ok.dcall (cc); (focus (cbv; done)); (focus (cbv; done)); (focus (cbv; done))))
        rw [Ar.succ_eq (k := 1) hA (by omega)]
        exact Ok.back (3 - 2) [0, 2, 3, 4, 17, 18, 19] [2, 17] (by omega) (by cbv) ⟨2, rfl, by omega, fun _ => a1 (by omega), fun _ => rfl, by omega, by cbv, by cbv⟩
    · cases hs : strip sText s with
      | some r =>
        simp only [a1 (by omega), a2 (by omega), hs] at hrd
        have cc := cut_some hs
        repeat (first | (apply Ok.run1 hmix hA false 2000; focus (cbv; done)) | (apply Ok.one hmix hA; focus (cbv; done)) | (rw [Ar.notT hA]) | (rw [Ar.notF hA]) | (refine Ok.condT ?_ ?_; focus (cbv; done)) | (refine Ok.condF ?_ ?_; focus (cbv; done)) | (refine Ok.drawnE (by as_aux_lemma => kernel_rfl) ?_) | (apply Ok.op; (focus (cbv; done))) | (apply Ok.dop; (focus (cbv; done))) | (apply Ok.call (cw3); (focus (cbv; done)); (focus (cbv; done)); (focus (cbv; done))) | (apply Ok.dcall (cw3); (focus (cbv; done)); (focus (cbv; done)); (focus (cbv; done))) | (apply Ok.call (cc); (focus (cbv; done)); (focus (cbv; done)); (focus (cbv; done))) | (apply Ok.dcall (cc); (focus (cbv; done)); (focus (cbv; done)); (focus (cbv; done))))
        refine Ok.leaveRet ?_
        repeat (first | (apply Ok.run1 hmix hA false 2000; focus (cbv; done)) | (apply Ok.one hmix hA; focus (cbv; done)) | (rw [Ar.notT hA]) | (rw [Ar.notF hA]) | (refine Ok.condT ?_ ?_; focus (cbv; done)) | (refine Ok.condF ?_ ?_; focus (cbv; done)) | (refine Ok.drawnE (by as_aux_lemma => kernel_rfl) ?_))
        rw [hrd]
        (first | (apply Ok.fin1; (focus (cbv; done)); (focus (cbv; done))) | (apply Ok.fin2; (focus (cbv; done)); (focus (cbv; done))) | (apply Ok.fin3; (focus (cbv; done)); (focus (cbv; done))))
        all_goals first | rfl | simp [rT, rS, Enc.tyc, ht0]
      | none =>
        have cc := cut_none hs
        repeat (first | (apply Ok.run1 hmix hA false 2000; focus (cbv; done)) | (apply Ok.one hmix hA; focus (cbv; done)) | (rw [Ar.notT hA]) | (rw [Ar.notF hA]) | (refine Ok.condT ?_ ?_; focus (cbv; done)) | (refine Ok.condF ?_ ?_; focus (cbv; done)) | (refine Ok.drawnE (by as_aux_lemma => kernel_rfl) ?_) | (apply Ok.op; (focus (cbv; done))) | (apply Ok.dop; (focus (cbv; done))) | (apply Ok.call (cw3); (focus (cbv; done)); (focus (cbv; done)); (focus (cbv; done))) | (apply Ok.dcall (cw3); (focus (cbv; done)); (focus (cbv; done)); (focus (cbv; done))) | (apply Ok.call (cc); (focus (cbv; done)); (focus (cbv; done)); (focus (cbv; done))) | (apply Ok.dcall (cc); (focus (cbv; done)); (focus (cbv; done)); (focus (cbv; done))))
        rw [Ar.succ_eq (k := 2) hA (by omega)]
        exact Ok.back (3 - 3) [0, 2, 3, 4, 17, 18, 19] [2, 17] (by omega) (by cbv) ⟨3, rfl, by omega, fun _ => a1 (by omega), fun _ => a2 (by omega), fun _ => rfl, by cbv, by cbv⟩
  rw [decide_eq_false hk3]
  simp only [a1 (by omega), a2 (by omega), a3 (by omega)] at hrd
  clear a1 a2 a3 cw1 cw2 cw3
  repeat (first | (apply Ok.run1 hmix hA false 2000; focus (cbv; done)) | (apply Ok.one hmix hA; focus (cbv; done)) | (rw [Ar.notT hA]) | (rw [Ar.notF hA]) | (refine Ok.condT ?_ ?_; focus (cbv; done)) | (refine Ok.condF ?_ ?_; focus (cbv; done)) | (refine Ok.drawnE (by as_aux_lemma => kernel_rfl) ?_))
  refine Ok.leave ?_
  cases hs : strip [40] s with
  | none =>
    have cc := cut_none hs
    obtain ⟨r1, b1, cd⟩ := cut_any s [41]
    simp only [hs] at hrd
    repeat (first | (apply Ok.run1 hmix hA false 2000; focus (cbv; done)) | (apply Ok.one hmix hA; focus (cbv; done)) | (rw [Ar.notT hA]) | (rw [Ar.notF hA]) | (refine Ok.condT ?_ ?_; focus (cbv; done)) | (refine Ok.condF ?_ ?_; focus (cbv; done)) | (refine Ok.drawnE (by as_aux_lemma => kernel_rfl) ?_) | (apply Ok.call (cc); (focus (cbv; done)); (focus (cbv; done)); (focus (cbv; done))) | (apply Ok.dcall (cc); (focus (cbv; done)); (focus (cbv; done)); (focus (cbv; done))) | (apply Ok.call (cd); (focus (cbv; done)); (focus (cbv; done)); (focus (cbv; done))) | (apply Ok.dcall (cd); (focus (cbv; done)); (focus (cbv; done)); (focus (cbv; done))))
    refine Ok.loopAt [2, 3, 4, 10] [2] (fun m sl h => m = 0 ∧ sl = mkS 81 [(2, .ptr 2 0), (3, .pv (.str [])), (4, .pv (.bool false)), (10, .pv (.bool false))] ∧ h = [(2, .box [.pv (.int .i64 0), .pv .nil] true)]) 0 (by cbv) ⟨rfl, by cbv, by cbv⟩ ?_
    rintro m sl h ⟨rfl, rfl, rfl⟩
    repeat (first | (apply Ok.run1 hmix hA false 2000; focus (cbv; done)) | (apply Ok.one hmix hA; focus (cbv; done)) | (rw [Ar.notT hA]) | (rw [Ar.notF hA]) | (refine Ok.condT ?_ ?_; focus (cbv; done)) | (refine Ok.condF ?_ ?_; focus (cbv; done)) | (refine Ok.drawnE (by as_aux_lemma => kernel_rfl) ?_))
    refine Ok.leave ?_
    repeat (first | (apply Ok.run1 hmix hA false 2000; focus (cbv; done)) | (apply Ok.one hmix hA; focus (cbv; done)) | (rw [Ar.notT hA]) | (rw [Ar.notF hA]) | (refine Ok.condT ?_ ?_; focus (cbv; done)) | (refine Ok.condF ?_ ?_; focus (cbv; done)) | (refine Ok.drawnE (by as_aux_lemma => kernel_rfl) ?_))
    rw [hrd]
    (first | (apply Ok.fin1; (focus (cbv; done)); (focus (cbv; done))) | (apply Ok.fin2; (focus (cbv; done)); (focus (cbv; done))) | (apply Ok.fin3; (focus (cbv; done)); (focus (cbv; done))))
    all_goals first | rfl | simp [rT, rS, Enc.tyc, ht0, Ty.zero]
  | some r =>
    have cc := cut_some hs
    have hsr := strip_eq hs
    simp only [hs] at hrd
    cases hs2 : strip [41] r with
    | some e =>
      have cd := cut_some hs2
      simp only [hs2] at hrd
      repeat (first | (apply Ok.run1 hmix hA false 2000; focus (cbv; done)) | (apply Ok.one hmix hA; focus (cbv; done)) | (rw [Ar.notT hA]) | (rw [Ar.notF hA]) | (refine Ok.condT ?_ ?_; focus (cbv; done)) | (refine Ok.condF ?_ ?_; focus (cbv; done)) | (refine Ok.drawnE (by as_aux_lemma => kernel_rfl) ?_) | (apply Ok.call (cc); (focus (cbv; done)); (focus (cbv; done)); (focus (cbv; done))) | (apply Ok.dcall (cc); (focus (cbv; done)); (focus (cbv; done)); (focus (cbv; done))) | (apply Ok.call (cd); (focus (cbv; done)); (focus (cbv; done)); (focus (cbv; done))) | (apply Ok.dcall (cd); (focus (cbv; done)); (focus (cbv; done)); (focus (cbv; done))))
      rw [hrd]
      (first | (apply Ok.fin1; (focus (cbv; done)); (focus (cbv; done))) | (apply Ok.fin2; (focus (cbv; done)); (focus (cbv; done))) | (apply Ok.fin3; (focus (cbv; done)); (focus (cbv; done))))
      all_goals first | rfl | simp [rT, rS, Enc.tyc, ht0]
    | none =>
      have cd := cut_none hs2
      simp only [hs2] at hrd
      repeat (first | (apply Ok.run1 hmix hA false 2000; focus (cbv; done)) | (apply Ok.one hmix hA; focus (cbv; done)) | (rw [Ar.notT hA]) | (rw [Ar.notF hA]) | (refine Ok.condT ?_ ?_; focus (cbv; done)) | (refine Ok.condF ?_ ?_; focus (cbv; done)) | (refine Ok.drawnE (by as_aux_lemma => kernel_rfl) ?_) | (apply Ok.call (cc); (focus (cbv; done)); (focus (cbv; done)); (focus (cbv; done))) | (apply Ok.dcall (cc); (focus (cbv; done)); (focus (cbv; done)); (focus (cbv; done))) | (apply Ok.call (cd); (focus (cbv; done)); (focus (cbv; done)); (focus (cbv; done))) | (apply Ok.dcall (cd); (focus (cbv; done)); (focus (cbv; done)); (focus (cbv; done))))
      have hr1 : s.length = r.length + 1 := by rw [hsr]; simp
      refine Ok.le (Le.nilBox 11 1 65 24 2 (by cbv) (by cbv) (by cbv) (by decide)) ?_
      refine Ok.loopAt [2, 3, 4, 9, 10, 11] [2, 11, 65] (fun m sl h => ∃ (q : Nat) (acc : List Ty) (r' : List UInt8) (ok : Bool) (j : Nat) (es : List PV), m = (if ok then q + 1 else 0) ∧ (if ok then rdL q acc r' else none) = res ∧ (ok = true → 2 * r'.length + 3 ≤ q ∧ q ≤ n) ∧ acc.length + r'.length ≤ s.length ∧ j = acc.length ∧ es = E .tys acc ∧
        sl = mkS 81 [(2, .ptr 2 0), (3, .pv (.str [])), (4, .pv (.bool false)), (9, .pv (.str r')), (10, .pv (.bool ok)), (11, .ptr 11 0)] ∧
        h = [(2, .box [.pv (.int .i64 0), .pv .nil] true), (11, .box [.pv (.int .i64 4), .ref 65 j] true), (65, .row 24 2 es true)]) (n + 1) (by cbv) ⟨n, [], r, true, 0, [], rfl, hrd.symm, fun _ => ⟨by omega, Nat.le_refl _⟩, by simp; omega, rfl, by rw [ht0], by cbv, by cbv⟩ ?_
      clear cc cd hs hs2 hrd
      rintro m sl h ⟨q, acc, r', ok, j, es, hm, hq, hfu2, hacc, hj, hes, rfl, rfl⟩
      have hesl : j = es.length := by rw [hes, E.tys_eq hE, List.length_map, hj]
      cases ok with
      | false =>
        have hq : res = none := hq.symm
        repeat (first | (apply Ok.run1 hmix hA false 2000; focus (cbv; done)) | (apply Ok.one hmix hA; focus (cbv; done)) | (rw [Ar.notT hA]) | (rw [Ar.notF hA]) | (refine Ok.condT ?_ ?_; focus (cbv; done)) | (refine Ok.condF ?_ ?_; focus (cbv; done)) | (refine Ok.drawnE (by as_aux_lemma => kernel_rfl) ?_))
        refine Ok.leave ?_
        repeat (first | (apply Ok.run1 hmix hA false 2000; focus (cbv; done)) | (apply Ok.one hmix hA; focus (cbv; done)) | (rw [Ar.notT hA]) | (rw [Ar.notF hA]) | (refine Ok.condT ?_ ?_; focus (cbv; done)) | (refine Ok.condF ?_ ?_; focus (cbv; done)) | (refine Ok.drawnE (by as_aux_lemma => kernel_rfl) ?_))
        rw [hq]
        (first | (apply Ok.fin1; (focus (cbv; done)); (focus (cbv; done))) | (apply Ok.fin2; (focus (cbv; done)); (focus (cbv; done))) | (apply Ok.fin3; (focus (cbv; done)); (focus (cbv; done))))
        all_goals first | rfl | simp [rT, rS, Enc.tyc, ht0, Ty.zero]
      | true =>
        obtain ⟨hf3, hqn⟩ := hfu2 rfl
        have hm : m = q + 1 := hm
        have hq : rdL q acc r' = res := hq
        obtain ⟨q, rfl⟩ : ∃ k, q = k + 1 := ⟨q - 1, by omega⟩
        rw [rdL] at hq
        have cR := ih q (by omega) r' (by omega) (by omega)
        cases hrr : rd q r' with
        | none =>
          rw [hrr] at cR
          simp only [hrr] at hq
          repeat (first | (apply Ok.run1 hmix hA false 2000; focus (cbv; done)) | (apply Ok.one hmix hA; focus (cbv; done)) | (rw [Ar.notT hA]) | (rw [Ar.notF hA]) | (refine Ok.condT ?_ ?_; focus (cbv; done)) | (refine Ok.condF ?_ ?_; focus (cbv; done)) | (refine Ok.drawnE (by as_aux_lemma => kernel_rfl) ?_) | (apply Ok.call (cR); (focus (cbv; done)); (focus (cbv; done)); (focus (cbv; done))) | (apply Ok.dcall (cR); (focus (cbv; done)); (focus (cbv; done)); (focus (cbv; done))))
          refine Ok.leave ?_
          repeat (first | (apply Ok.run1 hmix hA false 2000; focus (cbv; done)) | (apply Ok.one hmix hA; focus (cbv; done)) | (rw [Ar.notT hA]) | (rw [Ar.notF hA]) | (refine Ok.condT ?_ ?_; focus (cbv; done)) | (refine Ok.condF ?_ ?_; focus (cbv; done)) | (refine Ok.drawnE (by as_aux_lemma => kernel_rfl) ?_))
          rw [← hq]
          (first | (apply Ok.fin1; (focus (cbv; done)); (focus (cbv; done))) | (apply Ok.fin2; (focus (cbv; done)); (focus (cbv; done))) | (apply Ok.fin3; (focus (cbv; done)); (focus (cbv; done))))
          all_goals first | rfl | simp [rT, rS, Enc.tyc, ht0, Ty.zero]
        | some tp =>
          obtain ⟨p, r2⟩ := tp
          rw [hrr] at cR
          simp only [hrr] at hq
          obtain ⟨_, hp2⟩ := rd_text q r' p r2 hrr
          have hp1 := szT_pos p
          obtain ⟨es3, hes3⟩ : ∃ es3, es3 = es ++ [E.tyc p] := ⟨_, rfl⟩
          obtain ⟨n3, hn3⟩ : ∃ n3, n3 = j + 1 := ⟨_, rfl⟩
          have hes4 : es3 = E .tys (acc ++ [p]) := by rw [hes3, hes, E.tys_eq hE, E.tys_eq hE, List.map_append]; rfl
          have hn4 : n3 = es3.length := by rw [hn3, hes3, hesl]; simp
          repeat (first | (apply Ok.run1 hmix hA false 2000; focus (cbv; done)) | (apply Ok.one hmix hA; focus (cbv; done)) | (rw [Ar.notT hA]) | (rw [Ar.notF hA]) | (refine Ok.condT ?_ ?_; focus (cbv; done)) | (refine Ok.condF ?_ ?_; focus (cbv; done)) | (refine Ok.drawnE (by as_aux_lemma => kernel_rfl) ?_) | (apply Ok.call (cR); (focus (cbv; done)); (focus (cbv; done)); (focus (cbv; done))) | (apply Ok.dcall (cR); (focus (cbv; done)); (focus (cbv; done)); (focus (cbv; done))))
          refine Ok.op (app_ref (by cbv) (by cbv) hesl (by cbv) (by cbv) (by decide) (by simp only [List.length_singleton]; omega) (by unfold maxLen; simp only [List.length_singleton]; omega) n3 (by exact hn3) es3 (by rw [hes3]; rfl)) ?_
          cases hs3 : strip [41] r2 with
          | some e =>
            have cd := cut_some hs3
            simp only [hs3] at hq
            repeat (first | (apply Ok.run1 hmix hA false 2000; focus (cbv; done)) | (apply Ok.one hmix hA; focus (cbv; done)) | (rw [Ar.notT hA]) | (rw [Ar.notF hA]) | (refine Ok.condT ?_ ?_; focus (cbv; done)) | (refine Ok.condF ?_ ?_; focus (cbv; done)) | (refine Ok.drawnE (by as_aux_lemma => kernel_rfl) ?_) | (apply Ok.call (cd); (focus (cbv; done)); (focus (cbv; done)); (focus (cbv; done))) | (apply Ok.dcall (cd); (focus (cbv; done)); (focus (cbv; done)); (focus (cbv; done))))
            refine Ok.leaveRet ?_
            repeat (first | (apply Ok.run1 hmix hA false 2000; focus (cbv; done)) | (apply Ok.one hmix hA; focus (cbv; done)) | (rw [Ar.notT hA]) | (rw [Ar.notF hA]) | (refine Ok.condT ?_ ?_; focus (cbv; done)) | (refine Ok.condF ?_ ?_; focus (cbv; done)) | (refine Ok.drawnE (by as_aux_lemma => kernel_rfl) ?_))
            rw [← hq]
            refine Ok.fin3 (p1 := .agg [.int .i64 4, .view es3]) (p2 := .str e) (p3 := .bool true) (ids := [65]) (by cbv) (by simp [frzL, frz2, frz1, frz0, rowOf, hget, PV.rlx, ← hn4]) ?_ ?_ ?_
            all_goals first | rfl | simp [rT, rS, Enc.tyc, hes4]
          | none =>
            have cd := cut_none hs3
            simp only [hs3] at hq
            cases hs4 : strip [44] r2 with
            | some r3 =>
              have ce := cut_some hs4
              simp only [hs4] at hq
              have hr3 : r2.length = r3.length + 1 := by rw [strip_eq hs4]; simp
              repeat (first | (apply Ok.run1 hmix hA false 2000; focus (cbv; done)) | (apply Ok.one hmix hA; focus (cbv; done)) | (rw [Ar.notT hA]) | (rw [Ar.notF hA]) | (refine Ok.condT ?_ ?_; focus (cbv; done)) | (refine Ok.condF ?_ ?_; focus (cbv; done)) | (refine Ok.drawnE (by as_aux_lemma => kernel_rfl) ?_) | (apply Ok.call (cd); (focus (cbv; done)); (focus (cbv; done)); (focus (cbv; done))) | (apply Ok.dcall (cd); (focus (cbv; done)); (focus (cbv; done)); (focus (cbv; done))) | (apply Ok.call (ce); (focus (cbv; done)); (focus (cbv; done)); (focus (cbv; done))) | (apply Ok.dcall (ce); (focus (cbv; done)); (focus (cbv; done)); (focus (cbv; done))))
              exact Ok.back (q + 1) [2, 3, 4, 9, 10, 11] [2, 11, 65] (by omega) (by cbv) ⟨q, acc ++ [p], r3, true, n3, es3, rfl, hq, fun _ => ⟨by omega, by omega⟩, by simp; omega, by simp; omega, hes4, by cbv, by cbv⟩
            | none =>
              have ce := cut_none hs4
              simp only [hs4] at hq
              repeat (first | (apply Ok.run1 hmix hA false 2000; focus (cbv; done)) | (apply Ok.one hmix hA; focus (cbv; done)) | (rw [Ar.notT hA]) | (rw [Ar.notF hA]) | (refine Ok.condT ?_ ?_; focus (cbv; done)) | (refine Ok.condF ?_ ?_; focus (cbv; done)) | (refine Ok.drawnE (by as_aux_lemma => kernel_rfl) ?_) | (apply Ok.call (cd); (focus (cbv; done)); (focus (cbv; done)); (focus (cbv; done))) | (apply Ok.dcall (cd); (focus (cbv; done)); (focus (cbv; done)); (focus (cbv; done))) | (apply Ok.call (ce); (focus (cbv; done)); (focus (cbv; done)); (focus (cbv; done))) | (apply Ok.dcall (ce); (focus (cbv; done)); (focus (cbv; done)); (focus (cbv; done))))
              exact Ok.back 0 [2, 3, 4, 9, 10, 11] [2, 11, 65] (by omega) (by cbv) ⟨q, acc ++ [p], r2, false, n3, es3, rfl, hq, (fun h => by cases h), by simp; omega, by simp; omega, hes4, by cbv, by cbv⟩
end Go.Proofs.Ytnojmocoifodjaa.Pv
set_option maxRecDepth 100000
set_option maxHeartbeats 4000000
set_option linter.unusedVariables false
set_option linter.unusedSimpArgs false
namespace Go.Proofs.Ytnojmocoifodjaa.Pv
open Go Go.Proofs
def parM (s : List UInt8) : Ty × Int := match rd (2 * s.length + 2) s with
  | none => (.zero, 2)
  | some (t, r) => if r ≠ [] then (.zero, 2) else if ckT t 0 ≠ 0 then (.zero, ckT t 0) else (t, 0)
theorem typ_Parse {E : Enc} (hE : E = .std) (s : List UInt8) (hs : s.length ≤ 2 ^ 20) : CallsV Try.prog 33 [.str s] (.tup [.pv (E.tyc (parM s).1), .pv (.int .i64 (parM s).2)]) [] := by
  obtain ⟨A, hA⟩ : ∃ A : Ar, A = .std := ⟨_, rfl⟩
  have ht0 : E .tys [] = [] := by rw [E.tys_eq hE]; rfl
  have c := typ_read hE (2 * s.length + 2) s (Nat.le_refl _) hs
  unfold parM
  cases hq : rd (2 * s.length + 2) s with
  | none =>
    rw [hq] at c
    refine CallsV.ok (fn := Try.f33) (by kernel_rfl) (by kernel_rfl) rfl (by cbv) (by cbv) ?_
    repeat (first | (apply Ok.run1 hmix hA false 2000; focus (cbv; done)) | (apply Ok.one hmix hA; focus (cbv; done)) | (rw [Ar.notT hA]) | (rw [Ar.notF hA]) | (refine Ok.condT ?_ ?_; focus (cbv; done)) | (refine Ok.condF ?_ ?_; focus (cbv; done)) | (refine Ok.drawnE (by as_aux_lemma => kernel_rfl) ?_) | (apply Ok.call (c); (focus (cbv; done)); (focus (cbv; done)); (focus (cbv; done))) | (apply Ok.dcall (c); (focus (cbv; done)); (focus (cbv; done)); (focus (cbv; done))))
    (first | (apply Ok.fin1; (focus (cbv; done)); (focus (cbv; done))) | (apply Ok.fin2; (focus (cbv; done)); (focus (cbv; done))) | (apply Ok.fin3; (focus (cbv; done)); (focus (cbv; done))))
    all_goals first | rfl | simp [Enc.tyc, ht0, Ty.zero]
  | some tr =>
    obtain ⟨t, r⟩ := tr
    rw [hq] at c
    obtain ⟨_, hsz⟩ := rd_text _ s t r hq
    have ck := typ_Check hE t (by omega)
    obtain ⟨e, he⟩ : ∃ e, e = ckT t 0 := ⟨_, rfl⟩
    dsimp only
    rw [← he] at ck ⊢
    obtain ⟨kd, l⟩ := t
    refine CallsV.ok (fn := Try.f33) (by kernel_rfl) (by kernel_rfl) rfl (by cbv) (by cbv) ?_
    repeat (first | (apply Ok.run1 hmix hA false 2000; focus (cbv; done)) | (apply Ok.one hmix hA; focus (cbv; done)) | (rw [Ar.notT hA]) | (rw [Ar.notF hA]) | (refine Ok.condT ?_ ?_; focus (cbv; done)) | (refine Ok.condF ?_ ?_; focus (cbv; done)) | (refine Ok.drawnE (by as_aux_lemma => kernel_rfl) ?_) | (apply Ok.call (c); (focus (cbv; done)); (focus (cbv; done)); (focus (cbv; done))) | (apply Ok.dcall (c); (focus (cbv; done)); (focus (cbv; done)); (focus (cbv; done))))
    rw [Ar.seq_eq hA, Ar.not_eq hA]
    by_cases hr : r = []
    · rw [decide_eq_true hr, if_neg (by simpa using hr)]
      repeat (first | (apply Ok.run1 hmix hA false 2000; focus (cbv; done)) | (apply Ok.one hmix hA; focus (cbv; done)) | (rw [Ar.notT hA]) | (rw [Ar.notF hA]) | (refine Ok.condT ?_ ?_; focus (cbv; done)) | (refine Ok.condF ?_ ?_; focus (cbv; done)) | (refine Ok.drawnE (by as_aux_lemma => kernel_rfl) ?_) | (apply Ok.call (ck); (focus (cbv; done)); (focus (cbv; done)); (focus (cbv; done))) | (apply Ok.dcall (ck); (focus (cbv; done)); (focus (cbv; done)); (focus (cbv; done))))
      rw [Ar.eq_eq hA, Ar.not_eq hA]
      by_cases h0 : e = 0
      · rw [decide_eq_true h0, if_neg (by simpa using h0)]
        repeat (first | (apply Ok.run1 hmix hA false 2000; focus (cbv; done)) | (apply Ok.one hmix hA; focus (cbv; done)) | (rw [Ar.notT hA]) | (rw [Ar.notF hA]) | (refine Ok.condT ?_ ?_; focus (cbv; done)) | (refine Ok.condF ?_ ?_; focus (cbv; done)) | (refine Ok.drawnE (by as_aux_lemma => kernel_rfl) ?_))
        (first | (apply Ok.fin1; (focus (cbv; done)); (focus (cbv; done))) | (apply Ok.fin2; (focus (cbv; done)); (focus (cbv; done))) | (apply Ok.fin3; (focus (cbv; done)); (focus (cbv; done))))
        all_goals rfl
      · rw [decide_eq_false h0, if_pos h0]
        repeat (first | (apply Ok.run1 hmix hA false 2000; focus (cbv; done)) | (apply Ok.one hmix hA; focus (cbv; done)) | (rw [Ar.notT hA]) | (rw [Ar.notF hA]) | (refine Ok.condT ?_ ?_; focus (cbv; done)) | (refine Ok.condF ?_ ?_; focus (cbv; done)) | (refine Ok.drawnE (by as_aux_lemma => kernel_rfl) ?_))
        (first | (apply Ok.fin1; (focus (cbv; done)); (focus (cbv; done))) | (apply Ok.fin2; (focus (cbv; done)); (focus (cbv; done))) | (apply Ok.fin3; (focus (cbv; done)); (focus (cbv; done))))
        all_goals first | rfl | simp [Enc.tyc, ht0, Ty.zero]
    · rw [decide_eq_false hr, if_pos hr]
      repeat (first | (apply Ok.run1 hmix hA false 2000; focus (cbv; done)) | (apply Ok.one hmix hA; focus (cbv; done)) | (rw [Ar.notT hA]) | (rw [Ar.notF hA]) | (refine Ok.condT ?_ ?_; focus (cbv; done)) | (refine Ok.condF ?_ ?_; focus (cbv; done)) | (refine Ok.drawnE (by as_aux_lemma => kernel_rfl) ?_))
      (first | (apply Ok.fin1; (focus (cbv; done)); (focus (cbv; done))) | (apply Ok.fin2; (focus (cbv; done)); (focus (cbv; done))) | (apply Ok.fin3; (focus (cbv; done)); (focus (cbv; done))))
      all_goals first | rfl | simp [Enc.tyc, ht0, Ty.zero]
theorem ref6_front (s w : List UInt8) (a : Nat) (ha : a ≤ s.length) (hs : s.length ≤ 2 ^ 20) (hw : w.length ≤ 100) : CallsV Try.prog 103 [.str s, .int .i64 (Int.ofNat a), .str w] (.pv (.bool (strip w (s.drop a)).isSome)) [] := by
  obtain ⟨A, hA⟩ : ∃ A : Ar, A = .std := ⟨_, rfl⟩
  obtain ⟨ns, hns⟩ : ∃ n, n = s.length := ⟨_, rfl⟩
  obtain ⟨nw, hnw⟩ : ∃ n, n = w.length := ⟨_, rfl⟩
  have e1 : A .lenS s = Int.ofNat ns := by rw [hns]; exact lenS_nat hA s
  have e2 : A .lenS w = Int.ofNat nw := by rw [hnw]; exact lenS_nat hA w
  obtain ⟨e, he⟩ : ∃ e, e = a + nw := ⟨_, rfl⟩
  have e3 : A .add .i64 (Int.ofNat a) (Int.ofNat nw) = Int.ofNat e := by rw [he]; exact ofNat_add hA (by omega)
  have e4 : A .le 0 (Int.ofNat a) = true := by rw [show (0 : Int) = Int.ofNat 0 from rfl, ofNat_le hA]; simp
  obtain ⟨p, hp⟩ : ∃ p, p = (s.take e).drop a := ⟨_, rfl⟩
  have hb : (strip w (s.drop a)).isSome = decide (p = w) := by
    rw [strip_isSome, hp, List.drop_take, ← hnw, show e - a = nw by omega]
  rw [hb]
  obtain ⟨b, hbb⟩ : ∃ b, b = decide (p = w) := ⟨_, rfl⟩
  rw [← hbb]
  refine CallsV.ok (fn := Try.f103) (by kernel_rfl) (by kernel_rfl) rfl (by cbv) (by cbv) ?_
  refine Ok.run hmix hA false 2000 (by cbv) ?_
  rw [e4]
  repeat (first | (apply Ok.run1 hmix hA false 2000; focus (cbv; done)) | (apply Ok.one hmix hA; focus (cbv; done)) | (rw [Ar.notT hA]) | (rw [Ar.notF hA]) | (refine Ok.condT ?_ ?_; focus (cbv; done)) | (refine Ok.condF ?_ ?_; focus (cbv; done)) | (refine Ok.drawnE (by as_aux_lemma => kernel_rfl) ?_))
  rw [e1, e2, e3, ofNat_le hA]
  by_cases hle : e ≤ ns
  · rw [decide_eq_true hle]
    repeat (first | (apply Ok.run1 hmix hA false 2000; focus (cbv; done)) | (apply Ok.one hmix hA; focus (cbv; done)) | (rw [Ar.notT hA]) | (rw [Ar.notF hA]) | (refine Ok.condT ?_ ?_; focus (cbv; done)) | (refine Ok.condF ?_ ?_; focus (cbv; done)) | (refine Ok.drawnE (by as_aux_lemma => kernel_rfl) ?_))
    rw [e2, e3]
    refine Ok.op (sslc_op (a := a) (b := e) (by cbv) (by cbv) (by exact bound_nat _ _ _) (by exact bound_nat _ _ _) (by omega) (by omega) p hp) ?_
    repeat (first | (apply Ok.run1 hmix hA false 2000; focus (cbv; done)) | (apply Ok.one hmix hA; focus (cbv; done)) | (rw [Ar.notT hA]) | (rw [Ar.notF hA]) | (refine Ok.condT ?_ ?_; focus (cbv; done)) | (refine Ok.condF ?_ ?_; focus (cbv; done)) | (refine Ok.drawnE (by as_aux_lemma => kernel_rfl) ?_))
    rw [Ar.seq_eq hA, ← hbb]
    repeat (first | (apply Ok.run1 hmix hA false 2000; focus (cbv; done)) | (apply Ok.one hmix hA; focus (cbv; done)) | (rw [Ar.notT hA]) | (rw [Ar.notF hA]) | (refine Ok.condT ?_ ?_; focus (cbv; done)) | (refine Ok.condF ?_ ?_; focus (cbv; done)) | (refine Ok.drawnE (by as_aux_lemma => kernel_rfl) ?_))
    exact Ok.fin (by cbv) (FS.out (by cbv) (PLe.refl _))
  · rw [decide_eq_false hle]
    have : b = false := by
      rw [hbb]
      apply decide_eq_false
      intro h
      have := congrArg List.length h
      rw [hp, List.length_drop, List.length_take] at this
      omega
    rw [this]
    repeat (first | (apply Ok.run1 hmix hA false 2000; focus (cbv; done)) | (apply Ok.one hmix hA; focus (cbv; done)) | (rw [Ar.notT hA]) | (rw [Ar.notF hA]) | (refine Ok.condT ?_ ?_; focus (cbv; done)) | (refine Ok.condF ?_ ?_; focus (cbv; done)) | (refine Ok.drawnE (by as_aux_lemma => kernel_rfl) ?_))
    exact Ok.fin (by cbv) (FS.out (by cbv) (PLe.refl _))
def posM (ls : Nat) (q : Option (Ty × List UInt8)) : Int := match q with
  | some (_, r) => Int.ofNat (ls - r.length)
  | none => -1
theorem ref6_SameType {E : Enc} (hE : E = .std) : ∀ (n : Nat) (v w : Ty), SizeOf.sizeOf v ≤ n → szT v ≤ 2 ^ 50 → szT w ≤ 2 ^ 50 → CallsV Try.prog 35 [E.tyc v, E.tyc w] (.pv (.bool (sameT v w))) [] := by
  intro n
  induction n with
  | zero => intro v w h; cases v; simp at h
  | succ n ih =>
    rintro ⟨k1, l⟩ ⟨k2, m⟩ hn hsz hsw
    obtain ⟨A, hA⟩ : ∃ A : Ar, A = .std := ⟨_, rfl⟩
    rw [szT] at hsz hsw
    have hlen := szTs_len l
    have hlem := szTs_len m
    obtain ⟨ln, hln⟩ : ∃ n, n = l.length := ⟨_, rfl⟩
    obtain ⟨lm, hlm⟩ : ∃ n, n = m.length := ⟨_, rfl⟩
    have hll : A .lenP (E .tys l) = Int.ofNat ln := by rw [Ar.lenP_eq hA, E.tys_eq hE, List.length_map, hln]; rfl
    have hlm' : A .lenP (E .tys m) = Int.ofNat lm := by rw [Ar.lenP_eq hA, E.tys_eq hE, List.length_map, hlm]; rfl
    have hsub : ∀ x y, x ∈ l → y ∈ m → CallsV Try.prog 35 [E.tyc x, E.tyc y] (.pv (.bool (sameT x y))) [] := fun x y hx hy => by
      have h1 := List.sizeOf_lt_of_mem hx
      have h2 := szTs_mem hx
      have h3 := szTs_mem hy
      simp at hn
      exact ih x y (by omega) (by omega) (by omega)
    clear ih
    rw [sameT]
    refine CallsV.ok (fn := Try.f35) (by kernel_rfl) (by kernel_rfl) rfl (by cbv) (by cbv) ?_
    refine Ok.run hmix hA false 2000 (by cbv) ?_
    rw [Ar.eq_eq hA, Ar.not_eq hA]
    by_cases hk : k1 = k2
    case neg =>
      rw [decide_eq_false hk]
      repeat (first | (apply Ok.run1 hmix hA false 2000; focus (cbv; done)) | (apply Ok.one hmix hA; focus (cbv; done)) | (rw [Ar.notT hA]) | (rw [Ar.notF hA]) | (refine Ok.condT ?_ ?_; focus (cbv; done)) | (refine Ok.condF ?_ ?_; focus (cbv; done)) | (refine Ok.drawnE (by as_aux_lemma => kernel_rfl) ?_))
      exact Ok.fin (by cbv) (FS.out (by cbv) (PLe.refl _))
    rw [decide_eq_true hk]
    repeat (first | (apply Ok.run1 hmix hA false 2000; focus (cbv; done)) | (apply Ok.one hmix hA; focus (cbv; done)) | (rw [Ar.notT hA]) | (rw [Ar.notF hA]) | (refine Ok.condT ?_ ?_; focus (cbv; done)) | (refine Ok.condF ?_ ?_; focus (cbv; done)) | (refine Ok.drawnE (by as_aux_lemma => kernel_rfl) ?_))
    rw [hll, hlm', ofNat_eq hA, Ar.not_eq hA]
    by_cases hlq : ln = lm
    case neg =>
      rw [decide_eq_false hlq, sameTs_len (by omega)]
      repeat (first | (apply Ok.run1 hmix hA false 2000; focus (cbv; done)) | (apply Ok.one hmix hA; focus (cbv; done)) | (rw [Ar.notT hA]) | (rw [Ar.notF hA]) | (refine Ok.condT ?_ ?_; focus (cbv; done)) | (refine Ok.condF ?_ ?_; focus (cbv; done)) | (refine Ok.drawnE (by as_aux_lemma => kernel_rfl) ?_))
      exact Ok.fin (by cbv) (FS.out (by cbv) (PLe.refl _))
    rw [decide_eq_true hlq]
    repeat (first | (apply Ok.run1 hmix hA false 2000; focus (cbv; done)) | (apply Ok.one hmix hA; focus (cbv; done)) | (rw [Ar.notT hA]) | (rw [Ar.notF hA]) | (refine Ok.condT ?_ ?_; focus (cbv; done)) | (refine Ok.condF ?_ ?_; focus (cbv; done)) | (refine Ok.drawnE (by as_aux_lemma => kernel_rfl) ?_))
    refine Ok.loopAt [2, 3, 5] [2, 3] (fun mm s h => ∃ k, mm = ln - k ∧ k ≤ ln ∧ sameTs (l.drop k) (m.drop k) = sameTs l m ∧ s = mkS 39 [(2, .ptr 2 0), (3, .ptr 3 0), (5, .pv (.int .i64 (Int.ofNat k)))] ∧
      h = [(2, .box [.pv (.int .i64 k1), .pv (.view (E .tys l))] true), (3, .box [.pv (.int .i64 k2), .pv (.view (E .tys m))] true)]) (ln - 0) (by cbv) ⟨0, rfl, Nat.zero_le _, rfl, by cbv, by cbv⟩ ?_
    rintro mm s h ⟨k, rfl, hk', hc, rfl, rfl⟩
    refine Ok.run hmix hA false 2000 (by cbv) ?_
    rw [hll, ofNat_lt hA]
    by_cases hkl : k < ln
    · rw [decide_eq_true hkl]
      repeat (first | (apply Ok.run1 hmix hA false 2000; focus (cbv; done)) | (apply Ok.one hmix hA; focus (cbv; done)) | (rw [Ar.notT hA]) | (rw [Ar.notF hA]) | (refine Ok.condT ?_ ?_; focus (cbv; done)) | (refine Ok.condF ?_ ?_; focus (cbv; done)) | (refine Ok.drawnE (by as_aux_lemma => kernel_rfl) ?_))
      have hx : l[k]? = some (l[k]'(by omega)) := List.getElem?_eq_getElem (by omega)
      have hxm : l[k]'(by omega) ∈ l := List.getElem_mem (by omega)
      have hdl : l.drop k = l[k]'(by omega) :: l.drop (k + 1) := List.drop_eq_getElem_cons (by omega)
      generalize l[k]'(by omega) = x at hx hdl hxm
      have hy : m[k]? = some (m[k]'(by omega)) := List.getElem?_eq_getElem (by omega)
      have hym : m[k]'(by omega) ∈ m := List.getElem_mem (by omega)
      have hdm : m.drop k = m[k]'(by omega) :: m.drop (k + 1) := List.drop_eq_getElem_cons (by omega)
      generalize m[k]'(by omega) = y at hy hdm hym
      rw [hdl, hdm, sameTs] at hc
      have cxy := hsub x y hxm hym
      obtain ⟨c, hcc⟩ : ∃ c, c = sameT x y := ⟨_, rfl⟩
      rw [← hcc] at cxy hc
      refine Ok.dop (idx_view (E.tyc x) (by cbv) (by cbv) (by simp) (by rw [E.tys_eq hE]; simp [hx]) rfl) ?_
      repeat (first | (apply Ok.run1 hmix hA false 2000; focus (cbv; done)) | (apply Ok.one hmix hA; focus (cbv; done)) | (rw [Ar.notT hA]) | (rw [Ar.notF hA]) | (refine Ok.condT ?_ ?_; focus (cbv; done)) | (refine Ok.condF ?_ ?_; focus (cbv; done)) | (refine Ok.drawnE (by as_aux_lemma => kernel_rfl) ?_))
      refine Ok.dop (idx_view (E.tyc y) (by cbv) (by cbv) (by simp) (by rw [E.tys_eq hE]; simp [hy]) rfl) ?_
      repeat (first | (apply Ok.run1 hmix hA false 2000; focus (cbv; done)) | (apply Ok.one hmix hA; focus (cbv; done)) | (rw [Ar.notT hA]) | (rw [Ar.notF hA]) | (refine Ok.condT ?_ ?_; focus (cbv; done)) | (refine Ok.condF ?_ ?_; focus (cbv; done)) | (refine Ok.drawnE (by as_aux_lemma => kernel_rfl) ?_) | (apply Ok.call (cxy); (focus (cbv; done)); (focus (cbv; done)); (focus (cbv; done))) | (apply Ok.dcall (cxy); (focus (cbv; done)); (focus (cbv; done)); (focus (cbv; done))))
      cases c
      · rw [← hc]
        repeat (first | (apply Ok.run1 hmix hA false 2000; focus (cbv; done)) | (apply Ok.one hmix hA; focus (cbv; done)) | (rw [Ar.notT hA]) | (rw [Ar.notF hA]) | (refine Ok.condT ?_ ?_; focus (cbv; done)) | (refine Ok.condF ?_ ?_; focus (cbv; done)) | (refine Ok.drawnE (by as_aux_lemma => kernel_rfl) ?_))
        refine Ok.leaveRet ?_
        repeat (first | (apply Ok.run1 hmix hA false 2000; focus (cbv; done)) | (apply Ok.one hmix hA; focus (cbv; done)) | (rw [Ar.notT hA]) | (rw [Ar.notF hA]) | (refine Ok.condT ?_ ?_; focus (cbv; done)) | (refine Ok.condF ?_ ?_; focus (cbv; done)) | (refine Ok.drawnE (by as_aux_lemma => kernel_rfl) ?_))
        exact Ok.fin (by cbv) (FS.out (by cbv) (PLe.refl _))
      · repeat (first | (apply Ok.run1 hmix hA false 2000; focus (cbv; done)) | (apply Ok.one hmix hA; focus (cbv; done)) | (rw [Ar.notT hA]) | (rw [Ar.notF hA]) | (refine Ok.condT ?_ ?_; focus (cbv; done)) | (refine Ok.condF ?_ ?_; focus (cbv; done)) | (refine Ok.drawnE (by as_aux_lemma => kernel_rfl) ?_))
        rw [Ar.succ_eq hA (by omega)]
        exact Ok.back (ln - (k + 1)) [2, 3, 5] [2, 3] (by omega) (by cbv) ⟨k + 1, rfl, by omega, by simpa using hc, by cbv, by cbv⟩
    · rw [decide_eq_false hkl]
      have hke : k = l.length := by omega
      rw [hke, List.drop_length, show l.length = m.length by omega, List.drop_length] at hc
      rw [← hc]
      repeat (first | (apply Ok.run1 hmix hA false 2000; focus (cbv; done)) | (apply Ok.one hmix hA; focus (cbv; done)) | (rw [Ar.notT hA]) | (rw [Ar.notF hA]) | (refine Ok.condT ?_ ?_; focus (cbv; done)) | (refine Ok.condF ?_ ?_; focus (cbv; done)) | (refine Ok.drawnE (by as_aux_lemma => kernel_rfl) ?_))
      refine Ok.leave ?_
      repeat (first | (apply Ok.run1 hmix hA false 2000; focus (cbv; done)) | (apply Ok.one hmix hA; focus (cbv; done)) | (rw [Ar.notT hA]) | (rw [Ar.notF hA]) | (refine Ok.condT ?_ ?_; focus (cbv; done)) | (refine Ok.condF ?_ ?_; focus (cbv; done)) | (refine Ok.drawnE (by as_aux_lemma => kernel_rfl) ?_))
      exact Ok.fin (by cbv) (FS.out (by cbv) (PLe.refl _))
theorem ref6_CheckType {E : Enc} (hE : E = .std) (t : Ty) (hsz : szT t ≤ 2 ^ 40) : CallsV Try.prog 40 [E.tyc t] (.pv (.int .i64 (ckT t 0))) [] := by
  obtain ⟨A, hA⟩ : ∃ A : Ar, A = .std := ⟨_, rfl⟩
  have c := ref6_checkType hE _ t 0 (Nat.le_refl _) hsz (by omega)
  obtain ⟨k, l⟩ := t
  refine CallsV.ok (fn := Try.f40) (by kernel_rfl) (by kernel_rfl) rfl (by cbv) (by cbv) ?_
  repeat (first | (apply Ok.run1 hmix hA false 2000; focus (cbv; done)) | (apply Ok.one hmix hA; focus (cbv; done)) | (rw [Ar.notT hA]) | (rw [Ar.notF hA]) | (refine Ok.condT ?_ ?_; focus (cbv; done)) | (refine Ok.condF ?_ ?_; focus (cbv; done)) | (refine Ok.drawnE (by as_aux_lemma => kernel_rfl) ?_) | (apply Ok.call (c); (focus (cbv; done)); (focus (cbv; done)); (focus (cbv; done))) | (apply Ok.dcall (c); (focus (cbv; done)); (focus (cbv; done)); (focus (cbv; done))))
  exact Ok.fin (by cbv) (FS.out (by cbv) (PLe.refl _))
end Go.Proofs.Ytnojmocoifodjaa.Pv
set_option maxRecDepth 100000
set_option maxHeartbeats 4000000
set_option linter.unusedVariables false
set_option linter.unusedSimpArgs false
namespace Go.Proofs.Ytnojmocoifodjaa.Pv
open Go Go.Proofs
theorem strip_par {s : List UInt8} : strip [40, 41] s = match strip [40] s with
  | some r => strip [41] r
  | none => none := by
  match s with
  | [] => rfl
  | [a] =>
    unfold strip
    by_cases h : a = 40 <;> simp [h]
  | a :: b :: t =>
    unfold strip
    by_cases h : a = 40 <;> by_cases h2 : b = 41 <;> simp [h, h2]
theorem strip_drop {s w r : List UInt8} {a : Nat} (ha : a ≤ s.length) (h : strip w (s.drop a) = some r) : s.length - r.length = a + w.length ∧ a + w.length ≤ s.length ∧ r = s.drop (a + w.length) := by
  have h1 := strip_eq h
  have h2 := congrArg List.length h1
  rw [List.length_drop, List.length_append] at h2
  refine ⟨by omega, by omega, ?_⟩
  rw [← List.drop_drop, h1, List.drop_left]
theorem ref6_typeAt {E : Enc} (hE : E = .std) (s : List UInt8) (hs : s.length ≤ 2 ^ 20) : ∀ (n a : Nat), a ≤ s.length → 2 * (s.length - a) + 2 ≤ n → CallsV Try.prog 71 [.str s, .int .i64 (Int.ofNat a)] (.tup [.pv (E.tyc (rT (rd n (s.drop a)))), .pv (.int .i64 (posM s.length (rd n (s.drop a))))]) [] := by
  intro n
  induction n using Nat.strongRecOn with
  | _ n ih =>
  intro a ha hfu
  obtain ⟨n, rfl⟩ : ∃ k, n = k + 1 := ⟨n - 1, by omega⟩
  obtain ⟨A, hA⟩ : ∃ A : Ar, A = .std := ⟨_, rfl⟩
  have ht0 : E .tys [] = [] := by rw [E.tys_eq hE]; rfl
  have fr : ∀ (b : Nat) (w : List UInt8), b ≤ s.length → w.length ≤ 100 → CallsV Try.prog 103 [.str s, .int .i64 (Int.ofNat b), .str w] (.pv (.bool (strip w (s.drop b)).isSome)) [] := fun b w hb hw => ref6_front s w b hb hs hw
  have fT : ∀ (b : Nat) (w r : List UInt8), b ≤ s.length → w.length ≤ 100 → strip w (s.drop b) = some r → CallsV Try.prog 103 [.str s, .int .i64 (Int.ofNat b), .str w] (.pv (.bool true)) [] := fun b w r hb hw h => by have := fr b w hb hw; rw [h] at this; exact this
  have fF : ∀ (b : Nat) (w : List UInt8), b ≤ s.length → w.length ≤ 100 → strip w (s.drop b) = none → CallsV Try.prog 103 [.str s, .int .i64 (Int.ofNat b), .str w] (.pv (.bool false)) [] := fun b w hb hw h => by have := fr b w hb hw; rw [h] at this; exact this
  have add : ∀ (b c : Nat), b ≤ s.length → c ≤ 100 → A .add .i64 (Int.ofNat b) (Int.ofNat c) = Int.ofNat (b + c) := fun b c hb hc => ofNat_add hA (by omega)
  obtain ⟨res, hres⟩ : ∃ q, q = rd (n + 1) (s.drop a) := ⟨_, rfl⟩
  rw [← hres]
  have hrd := hres
  rw [rd] at hrd
  obtain ⟨ls, hls⟩ : ∃ n, n = s.length := ⟨_, rfl⟩
  rw [← hls]
  refine CallsV.ok (fn := Try.f71) (by kernel_rfl) (by kernel_rfl) rfl (by cbv) (by cbv) ?_
  cases h1 : strip sInt (s.drop a) with
  | some r =>
    have c1 := fT a sInt r ha (by decide) h1
    simp only [h1] at hrd
    obtain ⟨p1, p2, _⟩ := strip_drop ha h1
    repeat (first | (apply Ok.run1 hmix hA false 2000; focus (cbv; done)) | (apply Ok.one hmix hA; focus (cbv; done)) | (rw [Ar.notT hA]) | (rw [Ar.notF hA]) | (refine Ok.condT ?_ ?_; focus (cbv; done)) | (refine Ok.condF ?_ ?_; focus (cbv; done)) | (refine Ok.drawnE (by as_aux_lemma => kernel_rfl) ?_) | (apply Ok.call (c1); (focus (cbv; done)); (focus (cbv; done)); (focus (cbv; done))) | (apply Ok.dcall (c1); (focus (cbv; done)); (focus (cbv; done)); (focus (cbv; done))))
    rw [show A .add .i64 (Int.ofNat a) 3 = Int.ofNat (a + 3) from add a 3 ha (by omega), hrd]
    obtain ⟨a3, ha3⟩ : ∃ b, b = a + 3 := ⟨_, rfl⟩
    rw [← ha3]
    (first | (apply Ok.fin1; (focus (cbv; done)); (focus (cbv; done))) | (apply Ok.fin2; (focus (cbv; done)); (focus (cbv; done))) | (apply Ok.fin3; (focus (cbv; done)); (focus (cbv; done))))
    · simp [rT, Enc.tyc, ht0]
    · simp only [posM]; rw [hls, p1, ha3]; rfl
  | none =>
  have c1 := fF a sInt ha (by decide) h1
  simp only [h1] at hrd
  cases h2 : strip sBool (s.drop a) with
  | some r =>
    have c2 := fT a sBool r ha (by decide) h2
    simp only [h2] at hrd
    obtain ⟨p1, p2, _⟩ := strip_drop ha h2
    repeat (first | (apply Ok.run1 hmix hA false 2000; focus (cbv; done)) | (apply Ok.one hmix hA; focus (cbv; done)) | (rw [Ar.notT hA]) | (rw [Ar.notF hA]) | (refine Ok.condT ?_ ?_; focus (cbv; done)) | (refine Ok.condF ?_ ?_; focus (cbv; done)) | (refine Ok.drawnE (by as_aux_lemma => kernel_rfl) ?_) | (apply Ok.call (c1); (focus (cbv; done)); (focus (cbv; done)); (focus (cbv; done))) | (apply Ok.dcall (c1); (focus (cbv; done)); (focus (cbv; done)); (focus (cbv; done))) | (apply Ok.call (c2); (focus (cbv; done)); (focus (cbv; done)); (focus (cbv; done))) | (apply Ok.dcall (c2); (focus (cbv; done)); (focus (cbv; done)); (focus (cbv; done))))
    rw [show A .add .i64 (Int.ofNat a) 4 = Int.ofNat (a + 4) from add a 4 ha (by omega), hrd]
    obtain ⟨a3, ha3⟩ : ∃ b, b = a + 4 := ⟨_, rfl⟩
    rw [← ha3]
    (first | (apply Ok.fin1; (focus (cbv; done)); (focus (cbv; done))) | (apply Ok.fin2; (focus (cbv; done)); (focus (cbv; done))) | (apply Ok.fin3; (focus (cbv; done)); (focus (cbv; done))))
    · simp [rT, Enc.tyc, ht0]
    · simp only [posM]; rw [hls, p1, ha3]; rfl
  | none =>
  have c2 := fF a sBool ha (by decide) h2
  simp only [h2] at hrd
  cases h3 : strip sText (s.drop a) with
  | some r =>
    have c3 := fT a sText r ha (by decide) h3
    simp only [h3] at hrd
    obtain ⟨p1, p2, _⟩ := strip_drop ha h3
    repeat (first | (apply Ok.run1 hmix hA false 2000; focus (cbv; done)) | (apply Ok.one hmix hA; focus (cbv; done)) | (rw [Ar.notT hA]) | (rw [Ar.notF hA]) | (refine Ok.condT ?_ ?_; focus (cbv; done)) | (refine Ok.condF ?_ ?_; focus (cbv; done)) | (refine Ok.drawnE (by as_aux_lemma => kernel_rfl) ?_) | (apply Ok.call (c1); (focus (cbv; done)); (focus (cbv; done)); (focus (cbv; done))) | (apply Ok.dcall (c1); (focus (cbv; done)); (focus (cbv; done)); (focus (cbv; done))) | (apply Ok.call (c2); (focus (cbv; done)); (focus (cbv; done)); (focus (cbv; done))) | (apply Ok.dcall (c2); (focus (cbv; done)); (focus (cbv; done)); (focus (cbv; done))) | (apply Ok.call (c3); (focus (cbv; done)); (focus (cbv; done)); (focus (cbv; done))) | (apply Ok.dcall (c3); (focus (cbv; done)); (focus (cbv; done)); (focus (cbv; done))))
    rw [show A .add .i64 (Int.ofNat a) 4 = Int.ofNat (a + 4) from add a 4 ha (by omega), hrd]
    obtain ⟨a3, ha3⟩ : ∃ b, b = a + 4 := ⟨_, rfl⟩
    rw [← ha3]
    (first | (apply Ok.fin1; (focus (cbv; done)); (focus (cbv; done))) | (apply Ok.fin2; (focus (cbv; done)); (focus (cbv; done))) | (apply Ok.fin3; (focus (cbv; done)); (focus (cbv; done))))
    · simp [rT, Enc.tyc, ht0]
    · simp only [posM]; rw [hls, p1, ha3]; rfl
  | none =>
  have c3 := fF a sText ha (by decide) h3
  simp only [h3] at hrd
  cases h4 : strip [40] (s.drop a) with
  | none =>
    have c4 := fF a [40, 41] ha (by decide) (by rw [strip_par, h4])
    have c5 := fF a [40] ha (by decide) h4
    simp only [h4] at hrd
    repeat (first | (apply Ok.run1 hmix hA false 2000; focus (cbv; done)) | (apply Ok.one hmix hA; focus (cbv; done)) | (rw [Ar.notT hA]) | (rw [Ar.notF hA]) | (refine Ok.condT ?_ ?_; focus (cbv; done)) | (refine Ok.condF ?_ ?_; focus (cbv; done)) | (refine Ok.drawnE (by as_aux_lemma => kernel_rfl) ?_) | (apply Ok.call (c1); (focus (cbv; done)); (focus (cbv; done)); (focus (cbv; done))) | (apply Ok.dcall (c1); (focus (cbv; done)); (focus (cbv; done)); (focus (cbv; done))) | (apply Ok.call (c2); (focus (cbv; done)); (focus (cbv; done)); (focus (cbv; done))) | (apply Ok.dcall (c2); (focus (cbv; done)); (focus (cbv; done)); (focus (cbv; done))) | (apply Ok.call (c3); (focus (cbv; done)); (focus (cbv; done)); (focus (cbv; done))) | (apply Ok.dcall (c3); (focus (cbv; done)); (focus (cbv; done)); (focus (cbv; done))) | (apply Ok.call (c4); (focus (cbv; done)); (focus (cbv; done)); (focus (cbv; done))) | (apply Ok.dcall (c4); (focus (cbv; done)); (focus (cbv; done)); (focus (cbv; done))) | (apply Ok.call (c5); (focus (cbv; done)); (focus (cbv; done)); (focus (cbv; done))) | (apply Ok.dcall (c5); (focus (cbv; done)); (focus (cbv; done)); (focus (cbv; done))))
    rw [hrd]
    (first | (apply Ok.fin1; (focus (cbv; done)); (focus (cbv; done))) | (apply Ok.fin2; (focus (cbv; done)); (focus (cbv; done))) | (apply Ok.fin3; (focus (cbv; done)); (focus (cbv; done))))
    · simp [rT, Enc.tyc, ht0, Ty.zero]
    · rfl
  | some r =>
  simp only [h4] at hrd
  obtain ⟨p1, p2, p3⟩ := strip_drop ha h4
  have c5 := fT a [40] r ha (by decide) h4
  cases h5 : strip [41] r with
  | some e =>
    simp only [h5] at hrd
    have h6 : strip [40, 41] (s.drop a) = some e := by rw [strip_par, h4]; exact h5
    have c4 := fT a [40, 41] e ha (by decide) h6
    obtain ⟨q1, q2, _⟩ := strip_drop ha h6
    repeat (first | (apply Ok.run1 hmix hA false 2000; focus (cbv; done)) | (apply Ok.one hmix hA; focus (cbv; done)) | (rw [Ar.notT hA]) | (rw [Ar.notF hA]) | (refine Ok.condT ?_ ?_; focus (cbv; done)) | (refine Ok.condF ?_ ?_; focus (cbv; done)) | (refine Ok.drawnE (by as_aux_lemma => kernel_rfl) ?_) | (apply Ok.call (c1); (focus (cbv; done)); (focus (cbv; done)); (focus (cbv; done))) | (apply Ok.dcall (c1); (focus (cbv; done)); (focus (cbv; done)); (focus (cbv; done))) | (apply Ok.call (c2); (focus (cbv; done)); (focus (cbv; done)); (focus (cbv; done))) | (apply Ok.dcall (c2); (focus (cbv; done)); (focus (cbv; done)); (focus (cbv; done))) | (apply Ok.call (c3); (focus (cbv; done)); (focus (cbv; done)); (focus (cbv; done))) | (apply Ok.dcall (c3); (focus (cbv; done)); (focus (cbv; done)); (focus (cbv; done))) | (apply Ok.call (c4); (focus (cbv; done)); (focus (cbv; done)); (focus (cbv; done))) | (apply Ok.dcall (c4); (focus (cbv; done)); (focus (cbv; done)); (focus (cbv; done))))
    rw [show A .add .i64 (Int.ofNat a) 2 = Int.ofNat (a + 2) from add a 2 ha (by omega), hrd]
    obtain ⟨a3, ha3⟩ : ∃ b, b = a + 2 := ⟨_, rfl⟩
    rw [← ha3]
    (first | (apply Ok.fin1; (focus (cbv; done)); (focus (cbv; done))) | (apply Ok.fin2; (focus (cbv; done)); (focus (cbv; done))) | (apply Ok.fin3; (focus (cbv; done)); (focus (cbv; done))))
    · simp [rT, Enc.tyc, ht0]
    · simp only [posM]; rw [hls, q1, ha3]; rfl
  | none =>
  simp only [h5] at hrd
  have c4 := fF a [40, 41] ha (by decide) (by rw [strip_par, h4]; exact h5)
  obtain ⟨a1, ha1⟩ : ∃ b, b = a + 1 := ⟨_, rfl⟩
  repeat (first | (apply Ok.run1 hmix hA false 2000; focus (cbv; done)) | (apply Ok.one hmix hA; focus (cbv; done)) | (rw [Ar.notT hA]) | (rw [Ar.notF hA]) | (refine Ok.condT ?_ ?_; focus (cbv; done)) | (refine Ok.condF ?_ ?_; focus (cbv; done)) | (refine Ok.drawnE (by as_aux_lemma => kernel_rfl) ?_) | (apply Ok.call (c1); (focus (cbv; done)); (focus (cbv; done)); (focus (cbv; done))) | (apply Ok.dcall (c1); (focus (cbv; done)); (focus (cbv; done)); (focus (cbv; done))) | (apply Ok.call (c2); (focus (cbv; done)); (focus (cbv; done)); (focus (cbv; done))) | (apply Ok.dcall (c2); (focus (cbv; done)); (focus (cbv; done)); (focus (cbv; done))) | (apply Ok.call (c3); (focus (cbv; done)); (focus (cbv; done)); (focus (cbv; done))) | (apply Ok.dcall (c3); (focus (cbv; done)); (focus (cbv; done)); (focus (cbv; done))) | (apply Ok.call (c4); (focus (cbv; done)); (focus (cbv; done)); (focus (cbv; done))) | (apply Ok.dcall (c4); (focus (cbv; done)); (focus (cbv; done)); (focus (cbv; done))) | (apply Ok.call (c5); (focus (cbv; done)); (focus (cbv; done)); (focus (cbv; done))) | (apply Ok.dcall (c5); (focus (cbv; done)); (focus (cbv; done)); (focus (cbv; done))))
  rw [show A .add .i64 (Int.ofNat a) 1 = Int.ofNat a1 by rw [ha1]; exact add a 1 ha (by omega)]
  refine Ok.le (Le.nilBox 6 1 59 38 2 (by cbv) (by cbv) (by cbv) (by decide)) ?_
  refine Ok.loopAt [0, 1, 4, 5, 6] [4, 6, 59] (fun m sl h => ∃ (q : Nat) (acc : List Ty) (b j : Nat) (es : List PV), m = q ∧ rdL q acc (s.drop b) = res ∧ b ≤ s.length ∧ 2 * (s.length - b) + 3 ≤ q ∧ q ≤ n ∧ acc.length + (s.length - b) ≤ s.length ∧ j = acc.length ∧ es = E .tys acc ∧
    sl = mkS 76 [(0, .pv (.str s)), (1, .pv (.int .i64 (Int.ofNat b))), (4, .ptr 4 0), (5, .pv (.int .i64 0)), (6, .ptr 6 0)] ∧
    h = [(4, .box [.pv (.int .i64 0), .pv .nil] true), (6, .box [.pv (.int .i64 4), .ref 59 j] true), (59, .row 38 2 es true)]) n (by cbv) ⟨n, [], a1, 0, [], rfl, (by rw [ha1, hrd, p3]; try rfl), (by rw [List.length_singleton] at p2; omega), (by rw [List.length_singleton] at p2; omega), Nat.le_refl _, (by rw [List.length_nil]; omega), rfl, by rw [ht0], by cbv, by cbv⟩ ?_
  clear c1 c2 c3 c4 c5 h1 h2 h3 h4 h5 hrd p1 p2 p3
  rintro m sl h ⟨q, acc, b, j, es, hm, hq, hb, hfu2, hqn, hacc, hj, hes, rfl, rfl⟩
  have hesl : j = es.length := by rw [hes, E.tys_eq hE, List.length_map, hj]
  obtain ⟨q, rfl⟩ : ∃ k, q = k + 1 := ⟨q - 1, by omega⟩
  rw [rdL] at hq
  have cR := ih q (by omega) b hb (by omega)
  have neg1 : A .lt (-1) 0 = true := by rw [Ar.lt_eq hA]; rfl
  cases hrr : rd q (s.drop b) with
  | none =>
    rw [hrr] at cR
    simp only [hrr] at hq
    repeat (first | (apply Ok.run1 hmix hA false 2000; focus (cbv; done)) | (apply Ok.one hmix hA; focus (cbv; done)) | (rw [Ar.notT hA]) | (rw [Ar.notF hA]) | (refine Ok.condT ?_ ?_; focus (cbv; done)) | (refine Ok.condF ?_ ?_; focus (cbv; done)) | (refine Ok.drawnE (by as_aux_lemma => kernel_rfl) ?_) | (apply Ok.call (cR); (focus (cbv; done)); (focus (cbv; done)); (focus (cbv; done))) | (apply Ok.dcall (cR); (focus (cbv; done)); (focus (cbv; done)); (focus (cbv; done))))
    rw [neg1]
    repeat (first | (apply Ok.run1 hmix hA false 2000; focus (cbv; done)) | (apply Ok.one hmix hA; focus (cbv; done)) | (rw [Ar.notT hA]) | (rw [Ar.notF hA]) | (refine Ok.condT ?_ ?_; focus (cbv; done)) | (refine Ok.condF ?_ ?_; focus (cbv; done)) | (refine Ok.drawnE (by as_aux_lemma => kernel_rfl) ?_))
    refine Ok.leaveRet ?_
    repeat (first | (apply Ok.run1 hmix hA false 2000; focus (cbv; done)) | (apply Ok.one hmix hA; focus (cbv; done)) | (rw [Ar.notT hA]) | (rw [Ar.notF hA]) | (refine Ok.condT ?_ ?_; focus (cbv; done)) | (refine Ok.condF ?_ ?_; focus (cbv; done)) | (refine Ok.drawnE (by as_aux_lemma => kernel_rfl) ?_))
    rw [← hq]
    (first | (apply Ok.fin1; (focus (cbv; done)); (focus (cbv; done))) | (apply Ok.fin2; (focus (cbv; done)); (focus (cbv; done))) | (apply Ok.fin3; (focus (cbv; done)); (focus (cbv; done))))
    · simp [rT, Enc.tyc, ht0, Ty.zero]
    · rfl
  | some tp =>
    obtain ⟨p, r2⟩ := tp
    rw [hrr] at cR
    simp only [hrr] at hq
    obtain ⟨ht1, hp2⟩ := rd_text q (s.drop b) p r2 hrr
    have hp1 := szT_pos p
    obtain ⟨b2, hb2⟩ : ∃ k, k = s.length - r2.length := ⟨_, rfl⟩
    have hlen := congrArg List.length ht1
    rw [List.length_drop, List.length_append] at hlen
    rw [List.length_drop] at hp2
    have hr2 : r2 = s.drop b2 := by
      rw [show b2 = b + (textT p).length by omega, ← List.drop_drop, ht1, List.drop_left]
    have cR : CallsV Try.prog 71 [.str s, .int .i64 (Int.ofNat b)] (.tup [.pv (E.tyc p), .pv (.int .i64 (Int.ofNat b2))]) [] := by rw [hb2]; exact cR
    have nn : A .lt (Int.ofNat b2) 0 = false := by rw [show (0 : Int) = Int.ofNat 0 from rfl, ofNat_lt hA]; simp
    obtain ⟨es3, hes3⟩ : ∃ es3, es3 = es ++ [E.tyc p] := ⟨_, rfl⟩
    obtain ⟨n3, hn3⟩ : ∃ n3, n3 = j + 1 := ⟨_, rfl⟩
    have hes4 : es3 = E .tys (acc ++ [p]) := by rw [hes3, hes, E.tys_eq hE, E.tys_eq hE, List.map_append]; rfl
    have hn4 : n3 = es3.length := by rw [hn3, hes3, hesl]; simp
    repeat (first | (apply Ok.run1 hmix hA false 2000; focus (cbv; done)) | (apply Ok.one hmix hA; focus (cbv; done)) | (rw [Ar.notT hA]) | (rw [Ar.notF hA]) | (refine Ok.condT ?_ ?_; focus (cbv; done)) | (refine Ok.condF ?_ ?_; focus (cbv; done)) | (refine Ok.drawnE (by as_aux_lemma => kernel_rfl) ?_) | (apply Ok.call (cR); (focus (cbv; done)); (focus (cbv; done)); (focus (cbv; done))) | (apply Ok.dcall (cR); (focus (cbv; done)); (focus (cbv; done)); (focus (cbv; done))))
    rw [nn]
    repeat (first | (apply Ok.run1 hmix hA false 2000; focus (cbv; done)) | (apply Ok.one hmix hA; focus (cbv; done)) | (rw [Ar.notT hA]) | (rw [Ar.notF hA]) | (refine Ok.condT ?_ ?_; focus (cbv; done)) | (refine Ok.condF ?_ ?_; focus (cbv; done)) | (refine Ok.drawnE (by as_aux_lemma => kernel_rfl) ?_))
    refine Ok.op (app_ref (by cbv) (by cbv) hesl (by cbv) (by cbv) (by decide) (by simp only [List.length_singleton]; omega) (by unfold maxLen; simp only [List.length_singleton]; omega) n3 (by exact hn3) es3 (by rw [hes3]; rfl)) ?_
    obtain ⟨b3, hb3⟩ : ∃ k, k = b2 + 1 := ⟨_, rfl⟩
    have hadd : A .add .i64 (Int.ofNat b2) 1 = Int.ofNat b3 := by rw [hb3]; exact add b2 1 (by omega) (by omega)
    rw [hr2] at hq
    cases hs3 : strip [41] (s.drop b2) with
    | some e =>
      have cd := fT b2 [41] e (by omega) (by decide) hs3
      obtain ⟨p1, p2, _⟩ := strip_drop (by omega) hs3
      simp only [hs3] at hq
      repeat (first | (apply Ok.run1 hmix hA false 2000; focus (cbv; done)) | (apply Ok.one hmix hA; focus (cbv; done)) | (rw [Ar.notT hA]) | (rw [Ar.notF hA]) | (refine Ok.condT ?_ ?_; focus (cbv; done)) | (refine Ok.condF ?_ ?_; focus (cbv; done)) | (refine Ok.drawnE (by as_aux_lemma => kernel_rfl) ?_) | (apply Ok.call (cd); (focus (cbv; done)); (focus (cbv; done)); (focus (cbv; done))) | (apply Ok.dcall (cd); (focus (cbv; done)); (focus (cbv; done)); (focus (cbv; done))))
      rw [hadd]
      repeat (first | (apply Ok.run1 hmix hA false 2000; focus (cbv; done)) | (apply Ok.one hmix hA; focus (cbv; done)) | (rw [Ar.notT hA]) | (rw [Ar.notF hA]) | (refine Ok.condT ?_ ?_; focus (cbv; done)) | (refine Ok.condF ?_ ?_; focus (cbv; done)) | (refine Ok.drawnE (by as_aux_lemma => kernel_rfl) ?_))
      refine Ok.leaveRet ?_
      repeat (first | (apply Ok.run1 hmix hA false 2000; focus (cbv; done)) | (apply Ok.one hmix hA; focus (cbv; done)) | (rw [Ar.notT hA]) | (rw [Ar.notF hA]) | (refine Ok.condT ?_ ?_; focus (cbv; done)) | (refine Ok.condF ?_ ?_; focus (cbv; done)) | (refine Ok.drawnE (by as_aux_lemma => kernel_rfl) ?_))
      rw [← hq]
      refine Ok.fin2 (p1 := .agg [.int .i64 4, .view es3]) (p2 := .int .i64 (Int.ofNat b3)) (ids := [59]) (by cbv) (by simp [frzL, frz2, frz1, frz0, rowOf, hget, PV.rlx, ← hn4]) ?_ ?_
      · simp [rT, Enc.tyc, hes4]
      · simp only [posM]; rw [hls, p1, hb3]; rfl
    | none =>
      have cd := fF b2 [41] (by omega) (by decide) hs3
      simp only [hs3] at hq
      cases hs4 : strip [44] (s.drop b2) with
      | some r3 =>
        have ce := fT b2 [44] r3 (by omega) (by decide) hs4
        obtain ⟨p1, p2, p3⟩ := strip_drop (by omega) hs4
        simp only [hs4] at hq
        simp only [List.length_singleton] at p1 p2 p3
        repeat (first | (apply Ok.run1 hmix hA false 2000; focus (cbv; done)) | (apply Ok.one hmix hA; focus (cbv; done)) | (rw [Ar.notT hA]) | (rw [Ar.notF hA]) | (refine Ok.condT ?_ ?_; focus (cbv; done)) | (refine Ok.condF ?_ ?_; focus (cbv; done)) | (refine Ok.drawnE (by as_aux_lemma => kernel_rfl) ?_) | (apply Ok.call (cd); (focus (cbv; done)); (focus (cbv; done)); (focus (cbv; done))) | (apply Ok.dcall (cd); (focus (cbv; done)); (focus (cbv; done)); (focus (cbv; done))) | (apply Ok.call (ce); (focus (cbv; done)); (focus (cbv; done)); (focus (cbv; done))) | (apply Ok.dcall (ce); (focus (cbv; done)); (focus (cbv; done)); (focus (cbv; done))))
        rw [hadd]
        exact Ok.back q [0, 1, 4, 5, 6] [4, 6, 59] (by omega) (by cbv) ⟨q, acc ++ [p], b3, n3, es3, rfl, by rw [hb3, ← p3]; exact hq, by omega, by omega, by omega, by simp; omega, by simp; omega, hes4, by cbv, by cbv⟩
      | none =>
        have ce := fF b2 [44] (by omega) (by decide) hs4
        simp only [hs4] at hq
        repeat (first | (apply Ok.run1 hmix hA false 2000; focus (cbv; done)) | (apply Ok.one hmix hA; focus (cbv; done)) | (rw [Ar.notT hA]) | (rw [Ar.notF hA]) | (refine Ok.condT ?_ ?_; focus (cbv; done)) | (refine Ok.condF ?_ ?_; focus (cbv; done)) | (refine Ok.drawnE (by as_aux_lemma => kernel_rfl) ?_) | (apply Ok.call (cd); (focus (cbv; done)); (focus (cbv; done)); (focus (cbv; done))) | (apply Ok.dcall (cd); (focus (cbv; done)); (focus (cbv; done)); (focus (cbv; done))) | (apply Ok.call (ce); (focus (cbv; done)); (focus (cbv; done)); (focus (cbv; done))) | (apply Ok.dcall (ce); (focus (cbv; done)); (focus (cbv; done)); (focus (cbv; done))))
        refine Ok.leaveRet ?_
        repeat (first | (apply Ok.run1 hmix hA false 2000; focus (cbv; done)) | (apply Ok.one hmix hA; focus (cbv; done)) | (rw [Ar.notT hA]) | (rw [Ar.notF hA]) | (refine Ok.condT ?_ ?_; focus (cbv; done)) | (refine Ok.condF ?_ ?_; focus (cbv; done)) | (refine Ok.drawnE (by as_aux_lemma => kernel_rfl) ?_))
        rw [← hq]
        (first | (apply Ok.fin1; (focus (cbv; done)); (focus (cbv; done))) | (apply Ok.fin2; (focus (cbv; done)); (focus (cbv; done))) | (apply Ok.fin3; (focus (cbv; done)); (focus (cbv; done))))
        · simp [rT, Enc.tyc, ht0, Ty.zero]
        · rfl
theorem ref6_ParseType {E : Enc} (hE : E = .std) (s : List UInt8) (hs : s.length ≤ 2 ^ 20) : CallsV Try.prog 34 [.str s] (.tup [.pv (E.tyc (parM s).1), .pv (.int .i64 (parM s).2)]) [] := by
  obtain ⟨A, hA⟩ : ∃ A : Ar, A = .std := ⟨_, rfl⟩
  have ht0 : E .tys [] = [] := by rw [E.tys_eq hE]; rfl
  have c := ref6_typeAt hE s hs (2 * s.length + 2) 0 (by omega) (by omega)
  rw [List.drop_zero] at c
  obtain ⟨ls, hls⟩ : ∃ n, n = s.length := ⟨_, rfl⟩
  have e1 : A .lenS s = Int.ofNat ls := by rw [hls]; exact lenS_nat hA s
  unfold parM
  rw [← hls] at c ⊢
  cases hq : rd (2 * ls + 2) s with
  | none =>
    rw [hq] at c
    have hne : A .not (A .eq (-1) (Int.ofNat ls)) = true := by
      rw [Ar.eq_eq hA, Ar.not_eq hA, decide_eq_false (by intro h; cases h)]
      rfl
    refine CallsV.ok (fn := Try.f34) (by kernel_rfl) (by kernel_rfl) rfl (by cbv) (by cbv) ?_
    repeat (first | (apply Ok.run1 hmix hA false 2000; focus (cbv; done)) | (apply Ok.one hmix hA; focus (cbv; done)) | (rw [Ar.notT hA]) | (rw [Ar.notF hA]) | (refine Ok.condT ?_ ?_; focus (cbv; done)) | (refine Ok.condF ?_ ?_; focus (cbv; done)) | (refine Ok.drawnE (by as_aux_lemma => kernel_rfl) ?_) | (apply Ok.call (c); (focus (cbv; done)); (focus (cbv; done)); (focus (cbv; done))) | (apply Ok.dcall (c); (focus (cbv; done)); (focus (cbv; done)); (focus (cbv; done))))
    rw [e1, hne]
    repeat (first | (apply Ok.run1 hmix hA false 2000; focus (cbv; done)) | (apply Ok.one hmix hA; focus (cbv; done)) | (rw [Ar.notT hA]) | (rw [Ar.notF hA]) | (refine Ok.condT ?_ ?_; focus (cbv; done)) | (refine Ok.condF ?_ ?_; focus (cbv; done)) | (refine Ok.drawnE (by as_aux_lemma => kernel_rfl) ?_))
    (first | (apply Ok.fin1; (focus (cbv; done)); (focus (cbv; done))) | (apply Ok.fin2; (focus (cbv; done)); (focus (cbv; done))) | (apply Ok.fin3; (focus (cbv; done)); (focus (cbv; done))))
    all_goals first | rfl | simp [Enc.tyc, ht0, Ty.zero]
  | some tr =>
    obtain ⟨t, r⟩ := tr
    rw [hq] at c
    obtain ⟨ht1, hsz⟩ := rd_text _ s t r hq
    have ck := ref6_CheckType hE t (by omega)
    obtain ⟨e, he⟩ : ∃ e, e = ckT t 0 := ⟨_, rfl⟩
    dsimp only
    rw [← he] at ck ⊢
    obtain ⟨b, hb⟩ : ∃ b, b = ls - r.length := ⟨_, rfl⟩
    have c : CallsV Try.prog 71 [.str s, .int .i64 0] (.tup [.pv (E.tyc t), .pv (.int .i64 (Int.ofNat b))]) [] := by rw [hb]; exact c
    have hrl : r.length ≤ ls := by omega
    have hne : A .not (A .eq (Int.ofNat b) (Int.ofNat ls)) = !decide (r = []) := by
      rw [ofNat_eq hA, Ar.not_eq hA]
      by_cases hr : r = []
      · simp [hr] at hb ⊢; omega
      · have : 0 < r.length := List.length_pos_iff.2 hr
        simp [hr]; omega
    obtain ⟨kd, l⟩ := t
    refine CallsV.ok (fn := Try.f34) (by kernel_rfl) (by kernel_rfl) rfl (by cbv) (by cbv) ?_
    repeat (first | (apply Ok.run1 hmix hA false 2000; focus (cbv; done)) | (apply Ok.one hmix hA; focus (cbv; done)) | (rw [Ar.notT hA]) | (rw [Ar.notF hA]) | (refine Ok.condT ?_ ?_; focus (cbv; done)) | (refine Ok.condF ?_ ?_; focus (cbv; done)) | (refine Ok.drawnE (by as_aux_lemma => kernel_rfl) ?_) | (apply Ok.call (c); (focus (cbv; done)); (focus (cbv; done)); (focus (cbv; done))) | (apply Ok.dcall (c); (focus (cbv; done)); (focus (cbv; done)); (focus (cbv; done))))
    rw [e1, hne]
    by_cases hr : r = []
    · rw [decide_eq_true hr, if_neg (by simpa using hr)]
      repeat (first | (apply Ok.run1 hmix hA false 2000; focus (cbv; done)) | (apply Ok.one hmix hA; focus (cbv; done)) | (rw [Ar.notT hA]) | (rw [Ar.notF hA]) | (refine Ok.condT ?_ ?_; focus (cbv; done)) | (refine Ok.condF ?_ ?_; focus (cbv; done)) | (refine Ok.drawnE (by as_aux_lemma => kernel_rfl) ?_) | (apply Ok.call (ck); (focus (cbv; done)); (focus (cbv; done)); (focus (cbv; done))) | (apply Ok.dcall (ck); (focus (cbv; done)); (focus (cbv; done)); (focus (cbv; done))))
      rw [Ar.eq_eq hA, Ar.not_eq hA]
      by_cases h0 : e = 0
      · rw [decide_eq_true h0, if_neg (by simpa using h0)]
        repeat (first | (apply Ok.run1 hmix hA false 2000; focus (cbv; done)) | (apply Ok.one hmix hA; focus (cbv; done)) | (rw [Ar.notT hA]) | (rw [Ar.notF hA]) | (refine Ok.condT ?_ ?_; focus (cbv; done)) | (refine Ok.condF ?_ ?_; focus (cbv; done)) | (refine Ok.drawnE (by as_aux_lemma => kernel_rfl) ?_))
        (first | (apply Ok.fin1; (focus (cbv; done)); (focus (cbv; done))) | (apply Ok.fin2; (focus (cbv; done)); (focus (cbv; done))) | (apply Ok.fin3; (focus (cbv; done)); (focus (cbv; done))))
        all_goals rfl
      · rw [decide_eq_false h0, if_pos h0]
        repeat (first | (apply Ok.run1 hmix hA false 2000; focus (cbv; done)) | (apply Ok.one hmix hA; focus (cbv; done)) | (rw [Ar.notT hA]) | (rw [Ar.notF hA]) | (refine Ok.condT ?_ ?_; focus (cbv; done)) | (refine Ok.condF ?_ ?_; focus (cbv; done)) | (refine Ok.drawnE (by as_aux_lemma => kernel_rfl) ?_))
        (first | (apply Ok.fin1; (focus (cbv; done)); (focus (cbv; done))) | (apply Ok.fin2; (focus (cbv; done)); (focus (cbv; done))) | (apply Ok.fin3; (focus (cbv; done)); (focus (cbv; done))))
        all_goals first | rfl | simp [Enc.tyc, ht0, Ty.zero]
    · rw [decide_eq_false hr, if_pos hr]
      repeat (first | (apply Ok.run1 hmix hA false 2000; focus (cbv; done)) | (apply Ok.one hmix hA; focus (cbv; done)) | (rw [Ar.notT hA]) | (rw [Ar.notF hA]) | (refine Ok.condT ?_ ?_; focus (cbv; done)) | (refine Ok.condF ?_ ?_; focus (cbv; done)) | (refine Ok.drawnE (by as_aux_lemma => kernel_rfl) ?_))
      (first | (apply Ok.fin1; (focus (cbv; done)); (focus (cbv; done))) | (apply Ok.fin2; (focus (cbv; done)); (focus (cbv; done))) | (apply Ok.fin3; (focus (cbv; done)); (focus (cbv; done))))
      all_goals first | rfl | simp [Enc.tyc, ht0, Ty.zero]
end Go.Proofs.Ytnojmocoifodjaa.Pv
set_option maxRecDepth 100000
set_option maxHeartbeats 4000000
set_option linter.unusedVariables false
set_option linter.unusedSimpArgs false
namespace Go.Proofs.Ytnojmocoifodjaa.Pv
open Go Go.Proofs
theorem law1_known : CallsV Try.prog 32 [] (.pv (.bool true)) [] := ev_ok 30 (by kernel_rfl)
theorem law1_TypeDeep (n : Nat) : CallsV Try.prog 6 [.int .u8 (Int.ofNat n)] (.pv (.bool true)) [] := by
  obtain ⟨r, hr⟩ : ∃ r, r = n % 10 := ⟨_, rfl⟩
  have hlt : r < 10 := by omega
  refine CallsV.ok (fn := Try.f6) (by kernel_rfl) (by kernel_rfl) rfl (by cbv) (by cbv) ?_
  refine Ok.run hmix (A := Ar.std) rfl true 2000 (by cbv) ?_
  refine Ok.call (law1_known) (by cbv) (by cbv) (by cbv) ?_
  refine Ok.run hmix (A := Ar.std) rfl true 2000 (by cbv) ?_
  refine Ok.condF (by cbv) ?_
  refine Ok.run hmix (A := Ar.std) rfl true 2000 (by cbv) ?_
  refine Ok.op (rem_op (by cbv) (by cbv) (by decide) (Int.ofNat r) (by rw [hr]; rfl)) ?_
  clear hr
  match r, hlt with
  | 0, _ => exact Ok.evl (by as_aux_lemma => kernel_rfl)
  | 1, _ => exact Ok.evl (by as_aux_lemma => kernel_rfl)
  | 2, _ => exact Ok.evl (by as_aux_lemma => kernel_rfl)
  | 3, _ => exact Ok.evl (by as_aux_lemma => kernel_rfl)
  | 4, _ => exact Ok.evl (by as_aux_lemma => kernel_rfl)
  | 5, _ => exact Ok.evl (by as_aux_lemma => kernel_rfl)
  | 6, _ => exact Ok.evl (by as_aux_lemma => kernel_rfl)
  | 7, _ => exact Ok.evl (by as_aux_lemma => kernel_rfl)
  | 8, _ => exact Ok.evl (by as_aux_lemma => kernel_rfl)
  | 9, _ => exact Ok.evl (by as_aux_lemma => kernel_rfl)
end Go.Proofs.Ytnojmocoifodjaa.Pv
set_option maxRecDepth 100000
set_option maxHeartbeats 4000000
set_option linter.unusedVariables false
set_option linter.unusedSimpArgs false
namespace Go.Proofs.Ytnojmocoifodjaa.Pv
open Go Go.Proofs
theorem law1_Of {E : Enc} (hE : E = .std) : ∀ (n : Nat) (t : Ty), SizeOf.sizeOf t ≤ n → szT t ≤ 2 ^ 28 → CallsV Try.prog 17 [E.tyc t] (.pv (E.tyc t)) [] := by
  intro n
  induction n with
  | zero => intro t h; cases t; simp at h
  | succ n ih =>
    rintro ⟨kd, l⟩ hn hsz
    obtain ⟨A, hA⟩ : ∃ A : Ar, A = .std := ⟨_, rfl⟩
    rw [szT] at hsz
    have hlen := szTs_len l
    obtain ⟨ln, hln⟩ : ∃ n, n = l.length := ⟨_, rfl⟩
    have hll : A .lenP (E .tys l) = Int.ofNat ln := by rw [Ar.lenP_eq hA, E.tys_eq hE, List.length_map, hln]; rfl
    have ht0 : E .tys [] = [] := by rw [E.tys_eq hE]; rfl
    have hsub : ∀ x, x ∈ l → CallsV Try.prog 17 [E.tyc x] (.pv (E.tyc x)) [] := fun x hx => by
      have h1 := List.sizeOf_lt_of_mem hx
      have h2 := szTs_mem hx
      simp at hn
      exact ih x (by omega) (by omega)
    clear ih
    refine CallsV.ok (fn := Try.f17) (by kernel_rfl) (by kernel_rfl) rfl (by cbv) (by cbv) ?_
    repeat (first | (apply Ok.run1 hmix hA false 2000; focus (cbv; done)) | (apply Ok.one hmix hA; focus (cbv; done)) | (rw [Ar.notT hA]) | (rw [Ar.notF hA]) | (refine Ok.condT ?_ ?_; focus (cbv; done)) | (refine Ok.condF ?_ ?_; focus (cbv; done)) | (refine Ok.drawnE (by as_aux_lemma => kernel_rfl) ?_))
    refine Ok.le (Le.nilBox 3 1 24 38 2 (by cbv) (by cbv) (by cbv) (by decide)) ?_
    refine Ok.loopAt [1, 2, 3, 4] [1, 2, 3, 24] (fun m s h => ∃ (k j : Nat) (es : List PV), m = ln - k ∧ k ≤ ln ∧ j = k ∧ es = E .tys (l.take k) ∧
      s = mkS 27 [(1, .ptr 1 0), (2, .ptr 2 0), (3, .ptr 3 0), (4, .pv (.int .i64 (Int.ofNat k)))] ∧
      h = [(1, .box [.pv (.int .i64 kd), .pv (.view (E .tys l))] true), (2, .box [.pv (.int .i64 0), .pv .nil] true), (3, .box [.pv (.int .i64 kd), .ref 24 j] true), (24, .row 38 2 es true)]) (ln - 0) (by cbv) ⟨0, 0, [], rfl, Nat.zero_le _, rfl, by rw [List.take_zero, ht0], by cbv, by cbv⟩ ?_
    rintro m s h ⟨k, j, es, rfl, hk, hj, hes, rfl, rfl⟩
    have hesl : j = es.length := by rw [hes, E.tys_eq hE, List.length_map, List.length_take, hj]; omega
    refine Ok.run hmix hA false 2000 (by cbv) ?_
    rw [hll, ofNat_lt hA]
    by_cases hkl : k < ln
    · rw [decide_eq_true hkl]
      repeat (first | (apply Ok.run1 hmix hA false 2000; focus (cbv; done)) | (apply Ok.one hmix hA; focus (cbv; done)) | (rw [Ar.notT hA]) | (rw [Ar.notF hA]) | (refine Ok.condT ?_ ?_; focus (cbv; done)) | (refine Ok.condF ?_ ?_; focus (cbv; done)) | (refine Ok.drawnE (by as_aux_lemma => kernel_rfl) ?_))
      have hx : l[k]? = some (l[k]'(by omega)) := List.getElem?_eq_getElem (by omega)
      have hxm : l[k]'(by omega) ∈ l := List.getElem_mem (by omega)
      have htk : l.take (k + 1) = l.take k ++ [l[k]'(by omega)] := by rw [List.take_add_one, hx]; rfl
      generalize l[k]'(by omega) = x at hx hxm htk
      have cx := hsub x hxm
      obtain ⟨es3, hes3⟩ : ∃ es3, es3 = es ++ [E.tyc x] := ⟨_, rfl⟩
      obtain ⟨n3, hn3⟩ : ∃ n3, n3 = j + 1 := ⟨_, rfl⟩
      refine Ok.dop (idx_view (E.tyc x) (by cbv) (by cbv) (by simp) (by rw [E.tys_eq hE]; simp [hx]) rfl) ?_
      repeat (first | (apply Ok.run1 hmix hA false 2000; focus (cbv; done)) | (apply Ok.one hmix hA; focus (cbv; done)) | (rw [Ar.notT hA]) | (rw [Ar.notF hA]) | (refine Ok.condT ?_ ?_; focus (cbv; done)) | (refine Ok.condF ?_ ?_; focus (cbv; done)) | (refine Ok.drawnE (by as_aux_lemma => kernel_rfl) ?_) | (apply Ok.call (cx); (focus (cbv; done)); (focus (cbv; done)); (focus (cbv; done))) | (apply Ok.dcall (cx); (focus (cbv; done)); (focus (cbv; done)); (focus (cbv; done))))
      refine Ok.dop (app_ref (by cbv) (by cbv) hesl (by cbv) (by cbv) (by decide) (by simp only [List.length_singleton]; omega) (by unfold maxLen; simp only [List.length_singleton]; omega) n3 (by exact hn3) es3 (by rw [hes3]; rfl)) ?_
      repeat (first | (apply Ok.run1 hmix hA false 2000; focus (cbv; done)) | (apply Ok.one hmix hA; focus (cbv; done)) | (rw [Ar.notT hA]) | (rw [Ar.notF hA]) | (refine Ok.condT ?_ ?_; focus (cbv; done)) | (refine Ok.condF ?_ ?_; focus (cbv; done)) | (refine Ok.drawnE (by as_aux_lemma => kernel_rfl) ?_))
      rw [Ar.succ_eq hA (by omega)]
      exact Ok.back (ln - (k + 1)) [1, 2, 3, 4] [1, 2, 3, 24] (by omega) (by cbv) ⟨k + 1, n3, es3, rfl, by omega, by omega, by rw [hes3, hes, htk, E.tys_eq hE, E.tys_eq hE, List.map_append]; rfl, by cbv, by cbv⟩
    · rw [decide_eq_false hkl]
      have hke : k = l.length := by omega
      rw [hke, List.take_length] at hes
      repeat (first | (apply Ok.run1 hmix hA false 2000; focus (cbv; done)) | (apply Ok.one hmix hA; focus (cbv; done)) | (rw [Ar.notT hA]) | (rw [Ar.notF hA]) | (refine Ok.condT ?_ ?_; focus (cbv; done)) | (refine Ok.condF ?_ ?_; focus (cbv; done)) | (refine Ok.drawnE (by as_aux_lemma => kernel_rfl) ?_))
      refine Ok.leave ?_
      repeat (first | (apply Ok.run1 hmix hA false 2000; focus (cbv; done)) | (apply Ok.one hmix hA; focus (cbv; done)) | (rw [Ar.notT hA]) | (rw [Ar.notF hA]) | (refine Ok.condT ?_ ?_; focus (cbv; done)) | (refine Ok.condF ?_ ?_; focus (cbv; done)) | (refine Ok.drawnE (by as_aux_lemma => kernel_rfl) ?_))
      refine Ok.fin1 (p := .agg [.int .i64 kd, .view es]) (ids := [24]) (by cbv) (by simp [frzL, frz2, frz1, frz0, rowOf, hget, PV.rlx, ← hesl]) ?_
      simp [Enc.tyc, hes]
theorem parM_sz (s : List UInt8) : szT (parM s).1 ≤ s.length + 1 := by
  unfold parM
  cases hq : rd (2 * s.length + 2) s with
  | none => simp [Ty.zero, szT, szTs]
  | some tr =>
    obtain ⟨t, r⟩ := tr
    obtain ⟨_, hsz⟩ := rd_text _ s t r hq
    dsimp only
    repeat' split
    all_goals first | (simp [Ty.zero, szT, szTs]; done) | (simp only []; omega)
theorem parM_text (s : List UInt8) (h : (parM s).2 = 0) : textT (parM s).1 = s := by
  unfold parM at h ⊢
  cases hq : rd (2 * s.length + 2) s with
  | none => rw [hq] at h; exact absurd h (by decide)
  | some tr =>
    obtain ⟨t, r⟩ := tr
    obtain ⟨ht, _⟩ := rd_text _ s t r hq
    rw [hq] at h
    dsimp only at h ⊢
    by_cases hr : r = []
    · subst hr
      rw [if_neg (by simp)] at h ⊢
      by_cases h0 : ckT t 0 = 0
      · rw [if_neg (by simpa using h0)]
        rw [List.append_nil] at ht
        exact ht.symm
      · rw [if_pos h0] at h
        exact absurd h h0
    · rw [if_pos hr] at h
      exact absurd h (by decide)
theorem law1_TypeTexts (s : List UInt8) : CallsV Try.prog 5 [.str s] (.pv (.bool true)) [] := by
  obtain ⟨A, hA⟩ : ∃ A : Ar, A = .std := ⟨_, rfl⟩
  obtain ⟨E, hE⟩ : ∃ E : Enc, E = .std := ⟨_, rfl⟩
  obtain ⟨ns, hns⟩ : ∃ n, n = s.length := ⟨_, rfl⟩
  have e1 : A .lt 200 (A .lenS s) = decide (200 < ns) := by
    rw [lenS_nat hA, ← hns]
    exact ofNat_lt hA 200 ns
  have ck := law1_known
  by_cases hbig : 200 < ns
  · refine CallsV.ok (fn := Try.f5) (by kernel_rfl) (by kernel_rfl) rfl (by cbv) (by cbv) ?_
    repeat (first | (apply Ok.run1 hmix hA false 2000; focus (cbv; done)) | (apply Ok.one hmix hA; focus (cbv; done)) | (rw [Ar.notT hA]) | (rw [Ar.notF hA]) | (refine Ok.condT ?_ ?_; focus (cbv; done)) | (refine Ok.condF ?_ ?_; focus (cbv; done)) | (refine Ok.drawnE (by as_aux_lemma => kernel_rfl) ?_) | (apply Ok.call (ck); (focus (cbv; done)); (focus (cbv; done)); (focus (cbv; done))) | (apply Ok.dcall (ck); (focus (cbv; done)); (focus (cbv; done)); (focus (cbv; done))))
    rw [e1, decide_eq_true hbig]
    repeat (first | (apply Ok.run1 hmix hA false 2000; focus (cbv; done)) | (apply Ok.one hmix hA; focus (cbv; done)) | (rw [Ar.notT hA]) | (rw [Ar.notF hA]) | (refine Ok.condT ?_ ?_; focus (cbv; done)) | (refine Ok.condF ?_ ?_; focus (cbv; done)) | (refine Ok.drawnE (by as_aux_lemma => kernel_rfl) ?_))
    exact Ok.fin (by cbv) (FS.out (by cbv) (PLe.refl _))
  have c1 := typ_Parse hE s (by omega)
  have c2 := ref6_ParseType hE s (by omega)
  have hsz := parM_sz s
  have htx := parM_text s
  generalize parM s = q at c1 c2 hsz htx
  obtain ⟨t, e⟩ := q
  dsimp only at c1 c2 hsz htx
  have c3 := law1_Of hE _ t (Nat.le_refl _) (by omega)
  have c4 := ref6_SameType hE _ t t (Nat.le_refl _) (by omega) (by omega)
  rw [sameT_refl] at c4
  have c5 := typ_Text hE _ t (Nat.le_refl _) (by omega)
  have e2 : A .eq e e = true := by rw [Ar.eq_eq hA]; simp
  obtain ⟨kd, l⟩ := t
  obtain ⟨tx, htx'⟩ : ∃ tx, tx = textT ⟨kd, l⟩ := ⟨_, rfl⟩
  rw [← htx'] at c5 htx
  refine CallsV.ok (fn := Try.f5) (by kernel_rfl) (by kernel_rfl) rfl (by cbv) (by cbv) ?_
  repeat (first | (apply Ok.run1 hmix hA false 2000; focus (cbv; done)) | (apply Ok.one hmix hA; focus (cbv; done)) | (rw [Ar.notT hA]) | (rw [Ar.notF hA]) | (refine Ok.condT ?_ ?_; focus (cbv; done)) | (refine Ok.condF ?_ ?_; focus (cbv; done)) | (refine Ok.drawnE (by as_aux_lemma => kernel_rfl) ?_) | (apply Ok.call (ck); (focus (cbv; done)); (focus (cbv; done)); (focus (cbv; done))) | (apply Ok.dcall (ck); (focus (cbv; done)); (focus (cbv; done)); (focus (cbv; done))))
  rw [e1, decide_eq_false hbig]
  repeat (first | (apply Ok.run1 hmix hA false 2000; focus (cbv; done)) | (apply Ok.one hmix hA; focus (cbv; done)) | (rw [Ar.notT hA]) | (rw [Ar.notF hA]) | (refine Ok.condT ?_ ?_; focus (cbv; done)) | (refine Ok.condF ?_ ?_; focus (cbv; done)) | (refine Ok.drawnE (by as_aux_lemma => kernel_rfl) ?_) | (apply Ok.call (c1); (focus (cbv; done)); (focus (cbv; done)); (focus (cbv; done))) | (apply Ok.dcall (c1); (focus (cbv; done)); (focus (cbv; done)); (focus (cbv; done))) | (apply Ok.call (c2); (focus (cbv; done)); (focus (cbv; done)); (focus (cbv; done))) | (apply Ok.dcall (c2); (focus (cbv; done)); (focus (cbv; done)); (focus (cbv; done))))
  rw [e2]
  repeat (first | (apply Ok.run1 hmix hA false 2000; focus (cbv; done)) | (apply Ok.one hmix hA; focus (cbv; done)) | (rw [Ar.notT hA]) | (rw [Ar.notF hA]) | (refine Ok.condT ?_ ?_; focus (cbv; done)) | (refine Ok.condF ?_ ?_; focus (cbv; done)) | (refine Ok.drawnE (by as_aux_lemma => kernel_rfl) ?_) | (apply Ok.call (c3); (focus (cbv; done)); (focus (cbv; done)); (focus (cbv; done))) | (apply Ok.dcall (c3); (focus (cbv; done)); (focus (cbv; done)); (focus (cbv; done))) | (apply Ok.call (c4); (focus (cbv; done)); (focus (cbv; done)); (focus (cbv; done))) | (apply Ok.dcall (c4); (focus (cbv; done)); (focus (cbv; done)); (focus (cbv; done))))
  rw [Ar.eq_eq hA, Ar.not_eq hA]
  by_cases h0 : e = 0
  · rw [decide_eq_true h0]
    repeat (first | (apply Ok.run1 hmix hA false 2000; focus (cbv; done)) | (apply Ok.one hmix hA; focus (cbv; done)) | (rw [Ar.notT hA]) | (rw [Ar.notF hA]) | (refine Ok.condT ?_ ?_; focus (cbv; done)) | (refine Ok.condF ?_ ?_; focus (cbv; done)) | (refine Ok.drawnE (by as_aux_lemma => kernel_rfl) ?_) | (apply Ok.call (c5); (focus (cbv; done)); (focus (cbv; done)); (focus (cbv; done))) | (apply Ok.dcall (c5); (focus (cbv; done)); (focus (cbv; done)); (focus (cbv; done))))
    rw [htx h0, show A .seq s s = true by rw [Ar.seq_eq hA]; simp]
    repeat (first | (apply Ok.run1 hmix hA false 2000; focus (cbv; done)) | (apply Ok.one hmix hA; focus (cbv; done)) | (rw [Ar.notT hA]) | (rw [Ar.notF hA]) | (refine Ok.condT ?_ ?_; focus (cbv; done)) | (refine Ok.condF ?_ ?_; focus (cbv; done)) | (refine Ok.drawnE (by as_aux_lemma => kernel_rfl) ?_))
    exact Ok.fin (by cbv) (FS.out (by cbv) (PLe.refl _))
  · rw [decide_eq_false h0]
    repeat (first | (apply Ok.run1 hmix hA false 2000; focus (cbv; done)) | (apply Ok.one hmix hA; focus (cbv; done)) | (rw [Ar.notT hA]) | (rw [Ar.notF hA]) | (refine Ok.condT ?_ ?_; focus (cbv; done)) | (refine Ok.condF ?_ ?_; focus (cbv; done)) | (refine Ok.drawnE (by as_aux_lemma => kernel_rfl) ?_))
    exact Ok.fin (by cbv) (FS.out (by cbv) (PLe.refl _))
end Go.Proofs.Ytnojmocoifodjaa.Pv
