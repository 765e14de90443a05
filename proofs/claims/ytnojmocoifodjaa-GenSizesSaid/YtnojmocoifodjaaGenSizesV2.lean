/- The law GenSizes of this seat: a part of its proof (an abstract evaluator of the code that is proved sound, and contracts of functions), with no condition. -/
import Derived.Test.YtnojmocoifodjaaGenSizesV1
import Derived.Test.YtnojmocoifodjaaProg
import Derived.KernelRfl
set_option linter.unusedVariables false
set_option linter.unusedSimpArgs false
namespace Go.Proofs.Ytnojmocoifodjaa.Pv
open Go Go.RowKit

/-! ### Operations with their places -/
structure Ins where
  dst : Option Nat
  g : Option (Nat × Bool)
  af : List Nat
  i : I
def compG (ops : Array Oper) : Option (Nat × Bool) → Option (Option (Nat × Bool))
  | none => some none
  | some (j, w) => match (ops[j]?).bind (·.dst) with
    | some d => some (some (d, w))
    | none => none
def compIns (P : Program) (ops : Array Oper) (o : Oper) : Option Ins :=
  match compI P o, compG ops o.guard with
  | some i, some g => some { dst := o.dst, g, af := (o.after.toList.filter (Region.binds .any)).map (·.on), i }
  | _, _ => none
def putS (s : Slots) (d : Option Nat) (v : AV) : Slots := match d with
  | some d => s.set d v
  | none => s
/-- A call's arguments laid still. -/
def callArgs (s : Slots) (h : Heap) (f : Opd) (ars : List Opd) : Option (Nat × List PV × List Nat) :=
  match frz2 h (ev s f), frzL (frz2 h) (ars.map (ev s)) with
  | some (.func g caps, r1), some (ps, r2) => some (g, ps ++ caps, r1 ++ r2)
  | _, _ => none
def base (d : Option Nat) : Nat := 1000 * (d.getD 0 + 1)
def callOut (d : Option Nat) (ids : List Nat) (r : AV) (L : List Blk) : Out :=
  { v := r.sh (base d), rd := ids, up := [.frz ids, .att (base d) (L.map (Blk.sh (base d)))] }
/-- Is the operation wanted? -/
inductive Gd | yes | no | bad
  deriving DecidableEq
def gd (s : Slots) : Option (Nat × Bool) → Gd
  | none => .yes
  | some (t, w) => match s.getD t (.pv .junk) with
    | .pv (.bool b) => if b = w then .yes else .no
    | .tup [] => .no
    | _ => .bad
def skipOut : Out := { v := .tup [] }
def I.isCall : I → Bool
  | .call _ _ => true
  | _ => false
/-- One operation's outcome. -/
def SO (P : Program) (x : Ins) (s : Slots) (h : Heap) (o : Out) : Prop :=
  (gd s x.g = .no ∧ o = skipOut) ∨
  (gd s x.g = .yes ∧ match x.i with
    | .call f ars => ∃ g ps ids r L, callArgs s h f ars = some (g, ps, ids) ∧ CallsV P g ps r L ∧ (∀ i, i < L.length → h (base x.dst + i) = none) ∧ o = callOut x.dst ids r L
    | i => sem i (x.dst.getD 0) s h = some o)

/-! ### The frame in memory -/
structure Fr (W0 : World) (S0 : Stb) (s : Slots) (h : Heap) (a : Act) (W : World) (S : Stb) (β : Bta) : Prop where
  H : HRel W0.heap.size S β h W
  sl : ∀ n, RA S W β h (s.getD n (.pv .junk)) (a.tmps.getD n undef)
  sz : a.tmps.size = s.length
  df : a.defers = []
  lo : Below W0.heap.size W0 W
  up : ∀ k o, S0 k o → S k o
  dn : ∀ k o, k < W0.heap.size → S k o → S0 k o
theorem Fr.Sl {W0 : World} {S0 : Stb} {s : Slots} {h : Heap} {a : Act} {W : World} {S : Stb} {β : Bta} (F : Fr W0 S0 s h a W S β) : Sl S β h W s a.eval :=
  ⟨fun n => F.sl n, fun _ => rfl, fun _ => rfl⟩
theorem undef_ok {S : Stb} {W : World} {β : Bta} {h : Heap} : RA S W β h (.tup []) undef := .tup rfl (fun i x hx => by simp at hx)
/-- A slot is written. -/
theorem Fr.put {W0 : World} {S0 : Stb} {s : Slots} {h : Heap} {a : Act} {W : World} {S : Stb} {β : Bta} (F : Fr W0 S0 s h a W S β) (d : Option Nat) {x : AV} {v : Value} (hx : RA S W β h x v) : Fr W0 S0 (putS s d x) h (a.put d v) W S β := by
  cases d with
  | none => exact F
  | some d =>
    refine ⟨F.H, fun n => ?_, by simp [putS, Act.put, F.sz], by simp [Act.put, F.df], F.lo, F.up, F.dn⟩
    simp only [putS, Act.put]
    have hs := F.sl n
    by_cases hn : d = n
    · subst hn
      by_cases hlt : d < s.length
      · have h1 : (s.set d x).getD d (.pv .junk) = x := by simp [List.getD, hlt]
        have h2 : (a.tmps.setIfInBounds d v).getD d undef = v := by simp [F.sz, hlt]
        rw [h1, h2]; exact hx
      · have h1 : s.set d x = s := List.set_eq_of_length_le (by omega)
        have h2 : a.tmps.setIfInBounds d v = a.tmps := Array.setIfInBounds_eq_of_size_le (by rw [F.sz]; omega)
        rw [h1, h2]; exact hs
    · have h1 : (s.set d x).getD n (.pv .junk) = s.getD n (.pv .junk) := by simp [List.getD, List.getElem?_set_ne hn]
      have h2 : (a.tmps.setIfInBounds d v).getD n undef = a.tmps.getD n undef := by simp only [Array.getD_eq_getD_getElem?, Array.getElem?_setIfInBounds_ne hn]
      rw [h1, h2]; exact hs
theorem Fr.evo {W0 : World} {S0 : Stb} {s : Slots} {h h' : Heap} {a : Act} {W W' : World} {S S' : Stb} {β β' : Bta} (F : Fr W0 S0 s h a W S β) (H' : HRel W0.heap.size S' β' h' W') (E : Evo S S' W W' β β' h h') (hb : Below W0.heap.size W W')
    (hdn : ∀ k o, k < W0.heap.size → S' k o → S k o) : Fr W0 S0 s h' a W' S' β' :=
  ⟨H', fun n => (F.sl n).evo E F.H.blk, F.sz, F.df, F.lo.trans hb, fun k o h => E.st.s k o (F.up k o h), fun k o hk h => F.dn k o hk (hdn k o hk h)⟩
theorem gd_ok {W0 : World} {S0 : Stb} {s : Slots} {h : Heap} {a : Act} {W : World} {S : Stb} {β : Bta} (F : Fr W0 S0 s h a W S β) {ops : Array Oper} {o : Oper} {g : Option (Nat × Bool)} (hg : compG ops o.guard = some g) :
    (gd s g = .yes → Region.wanted o (yielded ops a.tmps) = true) ∧ (gd s g = .no → Region.wanted o (yielded ops a.tmps) = false) := by
  unfold compG at hg
  unfold Region.wanted
  cases hgo : o.guard with
  | none => simp only [hgo] at hg; cases hg; exact ⟨fun _ => rfl, fun h => by simp [gd] at h⟩
  | some jw =>
    obtain ⟨j, w⟩ := jw
    simp only [hgo] at hg
    cases hd : (ops[j]?).bind (·.dst) with
    | none => simp [hd] at hg
    | some d =>
      simp only [hd] at hg
      cases hg
      have hs := F.sl d
      have hy : yielded ops a.tmps j = match a.tmps[d]? with | some (.bool b) => some b | _ => none := by
        unfold yielded; rw [hd]; rfl
      have hbool : ∀ b, s.getD d (.pv .junk) = .pv (.bool b) → yielded ops a.tmps j = some b := by
        intro b hb
        rw [hb] at hs
        have hv : a.tmps.getD d undef = .bool b := by
          generalize a.tmps.getD d undef = v at hs ⊢
          cases hs with | pv hp => cases hp; rfl
        have hlt : d < a.tmps.size := by
          rcases Nat.lt_or_ge d a.tmps.size with h1 | h1
          · exact h1
          · have : a.tmps.getD d undef = undef := by simp [Array.getElem?_eq_none h1]
            rw [this] at hv; cases hv
        have hg : a.tmps[d]? = some (.bool b) := by rw [getD_some hlt, hv]
        rw [hy, hg]
      have htup : s.getD d (.pv .junk) = .tup [] → yielded ops a.tmps j = none := by
        intro hb
        rw [hb] at hs
        have hv : a.tmps.getD d undef = .tuple #[] := by
          generalize a.tmps.getD d undef = v at hs ⊢
          cases hs with | tup hn hR => rename_i vs; have : vs = #[] := Array.eq_empty_of_size_eq_zero hn; rw [this]
        rw [hy]
        cases hq : a.tmps[d]? with
        | none => rfl
        | some q =>
          have : a.tmps.getD d undef = q := by simp [hq]
          rw [hv] at this; subst this; rfl
      constructor
      · intro hgd
        simp only [gd] at hgd
        split at hgd
        · rename_i b hb
          split at hgd
          · rename_i hbw; simp [hbool b hb, hbw]
          · cases hgd
        · cases hgd
        · cases hgd
      · intro hgd
        simp only [gd] at hgd
        split at hgd
        · rename_i b hb
          split at hgd
          · cases hgd
          · rename_i hbw; simp [hbool b hb, hbw]
        · rename_i hb; simp [htup hb]
        · cases hgd

theorem run_call {P : Program} {W : World} {ρ : Operand → Value} {o : Oper} {f : Operand} {args : Array Operand} {ats : Array TypeId} (ho : o.op = .call { callee := .value f, args, argTypes := ats }) {g : Nat} {caps : Array Value} (hf : ρ f = .func (.func g) #[] caps)
    {fn : Func} (h1 : P.funcs[g]? = some fn) (h2 : (fn.name == "runtime.NumGoroutine") = false) (h3 : fn.body.isSome = true) : (execOp ρ o).run P W = .ok (.enter g (args.map ρ ++ caps)) W := by
  have h4 : fn.body.isNone = false := by cases hb : fn.body <;> simp_all
  unfold execOp
  rw [ho]
  simp [resolve, Deferred.ofValue, hf, invoke, callFunc, h1, h4]
  simp at h2
  simp [h2]
  intro hb; rw [hb] at h3; simp at h3
theorem compI_call {P : Program} {o : Oper} {f : Opd} {ars : List Opd} (hi : compI P o = some (.call f ars)) : ∃ f0 args0 ats0, o.op = .call { callee := .value f0, args := args0, argTypes := ats0 } ∧ opd f0 = some f ∧ listM opd args0.toList = some ars := by
  obtain ⟨dst, op, ty, pos, af, g⟩ := o
  unfold compI at hi
  cases op
  case call c =>
    obtain ⟨callee, args, ats⟩ := c
    cases callee
    case value f0 =>
      simp only [] at hi
      split at hi
      · rename_i h1 h2
        cases hi
        exact ⟨_, _, _, rfl, h1, h2⟩
      · cases hi
    case builtin b =>
      cases b
      all_goals (simp only [] at hi)
      all_goals (try (cases hi; done))
      all_goals ((repeat' (split at hi)) <;> (try (cases hi; done)))
    case invoke r n => cases hi
  all_goals (try (simp only [] at hi))
  all_goals (try (cases hi; done))
  all_goals (try (simp at hi; done))
  all_goals ((repeat' (split at hi)) <;> (try (simp at hi; done)))
  all_goals (first | (cases ‹Op.makeFunc _ _ _ = Op.call _›) | skip)

/-- One operation, in memory. -/
theorem SO_ok {P : Program} {W0 : World} {S0 : Stb} {s : Slots} {h : Heap} {a : Act} {W : World} {S : Stb} {β : Bta} (F : Fr W0 S0 s h a W S β) {ops : Array Oper} {o : Oper} {x : Ins} (hx : compIns P ops o = some x) {out : Out} (hs : SO P x s h out) {Q : Exit → Act → World → Prop} {K : Act → World → Prop}
    (hK : ∀ a' W' S' β', Fr W0 S0 (putS s x.dst out.v) (out.heap h) a' W' S' β' → K a' W') :
    if Region.wanted o (yielded ops a.tmps) then o.wp P a W K Q ∨ (o.asks P a W ∧ LetsOut Q) else K (a.put o.dst undef) W := by
  unfold compIns at hx
  split at hx
  · rename_i i g hi hg
    cases hx
    obtain ⟨g1, g2⟩ := gd_ok F hg
    rcases hs with ⟨hno, rfl⟩ | ⟨hyes, hs⟩
    · rw [g2 hno]
      simp only [Bool.false_eq_true, if_false]
      exact hK _ _ S β (F.put o.dst undef_ok)
    · rw [g1 hyes]
      simp only [if_true]
      refine .inl ?_
      have hB : W0.heap.size ≤ W.heap.size := F.lo.size
      by_cases hcall : ∃ f ars, i = .call f ars
      · obtain ⟨f, ars, rfl⟩ := hcall
        simp only [] at hs
        obtain ⟨gg, ps, ids, r, L, h1, h2, h3, rfl⟩ := hs
        obtain ⟨f0, args0, ats0, hop, hf0, ha0⟩ := compI_call hi
        unfold callArgs at h1
        split at h1
        · rename_i g' caps r1 ps' r2 hfz haz
          cases h1
          have H1 := F.H.frz (r1 ++ r2)
          have hfv := frz2_ok F.H (F.Sl.opd hf0) hfz (r1 ++ r2) (fun _ h => List.mem_append_left _ h)
          obtain ⟨l1, l2⟩ := listM_ok ha0
          obtain ⟨q1, q2⟩ := frzL_ok (R := RV (sfrz S β h (r1 ++ r2)) W) (L := r1 ++ r2) haz (fun _ h => List.mem_append_right _ h) (fun i => (args0.map a.eval).getD i undef) (by
            intro i y hy p r hp hr
            rw [List.getElem?_map] at hy
            obtain ⟨y', hy', rfl⟩ := Option.map_eq_some_iff.1 hy
            obtain ⟨x, hx1, hx2⟩ := l2 i y' hy'
            have : (args0.map a.eval).getD i undef = a.eval x := by rw [getD_toList]; simp at hx1 ⊢; simp [hx1]
            rw [this]
            exact frz2_ok F.H (F.Sl.opd hx2) hp _ hr)
          generalize hvf : a.eval f0 = vf at hfv
          cases hfv with
          | func _ _ cvs c1 c2 =>
            obtain ⟨⟨fn, d1, d2, d3⟩, hcalls⟩ := h2
            have hrun := run_call (P := P) (W := W) (ρ := a.eval) hop hvf d1 d2 d3
            unfold Oper.wp
            rw [hrun, Oper.upon_enter]
            have l1' : ars.length = args0.size := by simpa using l1
            have hsz : (args0.map a.eval).size = ps'.length := by simp at q1 ⊢; omega
            refine Calls.mono (hcalls (sfrz S β h (r1 ++ r2)) W _ H1.bnd (by simp; simp at hsz; omega) (fun i p hp => ?_)) (fun e W' hpost => ?_)
            · rw [List.getElem?_append] at hp
              split at hp
              · rename_i hlt
                have hlt2 : i < (args0.map a.eval).toList.length := by rw [Array.length_toList, hsz]; exact hlt
                have : (args0.map a.eval ++ cvs).getD i undef = (args0.map a.eval).getD i undef := by
                  rw [getD_toList, getD_toList, Array.toList_append, List.getElem?_append_left hlt2]
                rw [this]; exact q2 i p hp
              · rename_i hge
                have hle2 : (args0.map a.eval).toList.length = ps'.length := by rw [Array.length_toList, hsz]
                have : (args0.map a.eval ++ cvs).getD i undef = cvs.getD (i - ps'.length) undef := by
                  rw [getD_toList, getD_toList, Array.toList_append, List.getElem?_append_right (by omega), hle2]
                rw [this]; exact c2 _ p hp
            · obtain ⟨v, β1, S', rfl, e1, e2, e3, e4, e5⟩ := hpost
              simp only []
              -- the frame in the world behind the call
              have hL : (∀ i, i < (L.map (Blk.sh (base o.dst))).length → (hfrz h (r1 ++ r2)) (base o.dst + i) = none) := by
                intro i hi
                have := h3 i (by simpa using hi)
                simp [hfrz, this]
              have st1 : Stay S (sfrz S β h (r1 ++ r2)) W W := Stay.frz _ _ _ _ _
              have Hb : HRel W0.heap.size (sfrz S β h (r1 ++ r2)) β (hfrz h (r1 ++ r2)) W' := H1.below e1
              have st2 : Stay (sfrz S β h (r1 ++ r2)) S' W' W' := ⟨e2, fun _ _ _ => rfl⟩
              have Es : Evo (sfrz S β h (r1 ++ r2)) S' W' W' β β (hfrz h (r1 ++ r2)) (hfrz h (r1 ++ r2)) := ⟨st2, fun b x hx => ⟨x, hx, Blk.le_refl _ _ _⟩⟩
              have Hs' : HRel W0.heap.size S' β (hfrz h (r1 ++ r2)) W' := by
                refine ⟨fun b x hx => (Hb.blk b x hx).evo Es Hb.blk rfl (fun _ _ => rfl), Hb.inj, Hb.fresh, fun b x k q hx hk hq => ?_, e4.bnd⟩
                exact H1.sinv b x k q hx hk (e3 k q (H1.lt (by simp [hx]) hk) hq)
              have Ha := Hs'.att (k := base o.dst) e4 hB (fun b g hb hg => H1.lt hb hg) (by intro i hi; exact hL i (by simpa using hi))
              have Ea := Evo.att (S := S') (W := W') (β := β) (β1 := β1) (k := base o.dst) (L := L) (h := hfrz h (r1 ++ r2)) (by intro i hi; exact hL i (by simpa using hi))
              have Etot : Evo S S' W W' β (batt β β1 (base o.dst) L.length) h (hatt (hfrz h (r1 ++ r2)) (base o.dst) L) :=
                (((Evo.frz S W β h (r1 ++ r2)).trans (Evo.below H1 e1)).trans Es).trans Ea
              have hheap : (callOut o.dst (r1 ++ r2) r L).heap h = hatt (hfrz h (r1 ++ r2)) (base o.dst) L := by
                funext q
                simp only [callOut, Out.heap, Upd.ap, List.foldl_cons, List.foldl_nil, List.length_map, List.getElem?_map, hatt]
              have F' := F.evo Ha Etot (e1.mono hB) (fun k q hk hq => F.H.dn _ k q hk (e3 k q (Nat.lt_of_lt_of_le hk hB) hq))
              have F2 := F'.put o.dst (x := r.sh (base o.dst)) (v := v) e5.shift
              refine hK _ _ S' (batt β β1 (base o.dst) L.length) ?_
              rw [hheap]
              exact F2
        · cases h1
      · have hs' : sem i (o.dst.getD 0) s h = some out := by
          cases i <;> first | exact hs | exact absurd ⟨_, _, rfl⟩ hcall
        obtain ⟨nx, v, W', S', β', b1, b2, b3, b4, b5, b6, b7⟩ := sem_ok F.H hB F.Sl hi hs'
        have F' := (F.evo b3 b4 b6 b7).put o.dst b5
        unfold Oper.wp
        rw [b1]
        rcases b2 with rfl | ⟨rfl, rfl⟩
        · rw [Oper.upon_value]; exact hK _ _ S' β' F'
        · rw [Oper.upon_skip]; exact hK _ _ S' β' F'
  · cases hx
end Go.Proofs.Ytnojmocoifodjaa.Pv
set_option linter.unusedVariables false
set_option linter.unusedSimpArgs false
namespace Go.Proofs.Ytnojmocoifodjaa.Pv
open Go Go.RowKit

/-! ### What an operation looks at -/
def Opd.use : Opd → List Nat
  | .t n => [n]
  | .c _ => []
def optUse : Option Opd → List Nat
  | some x => x.use
  | none => []
def I.uses : I → List Nat
  | .mov x | .box _ x | .load _ x | .un _ x | .fld _ x | .len _ x | .ext _ x | .nck x | .conv _ x => x.use
  | .pick c a b => c.use ++ a.use ++ b.use
  | .new _ _ => []
  | .build _ ps => ps.flatMap fun p => p.2.2.use
  | .lit _ _ ps => ps.flatMap Opd.use
  | .store _ a x | .bin _ a x | .beq _ a x | .idx _ a x | .sidx a x | .app _ _ _ a x => a.use ++ x.use
  | .slc _ x lo hi mx => x.use ++ optUse lo ++ optUse hi ++ optUse mx
  | .sslc x lo hi => x.use ++ optUse lo ++ optUse hi
  | .call f ars => f.use ++ ars.flatMap Opd.use
  | .mkf _ caps => caps.flatMap Opd.use
def Ins.uses (x : Ins) : List Nat := x.i.uses ++ (match x.g with | some (t, _) => [t] | none => [])
def Upd.chg : Upd → List Nat
  | .new b _ | .row b _ | .box b _ => [b]
  | .frz _ => []
  | .att k L => List.range' k L.length
def Upd.fzs : Upd → List Nat
  | .frz l => l
  | _ => []
def Out.chg (o : Out) : List Nat := o.up.flatMap Upd.chg
def Out.fzs (o : Out) : List Nat := o.up.flatMap Upd.fzs

/-- The same but for stillness. -/
def Feq (x y : Option Blk) : Prop := x.map Blk.frz = y.map Blk.frz
theorem rowOf_feq {h h' : Heap} {b : Nat} (hh : Feq (h' b) (h b)) : rowOf h' b = rowOf h b := by
  unfold rowOf Feq at *
  cases h1 : h b <;> cases h2 : h' b <;> simp [h1, h2] at hh ⊢
  rename_i x y
  cases x <;> cases y <;> simp [Blk.frz] at hh ⊢
  exact ⟨hh.1, hh.2.1, hh.2.2⟩
theorem boxOf_feq {h h' : Heap} {b : Nat} (hh : Feq (h' b) (h b)) : boxOf h' b = boxOf h b := by
  unfold boxOf Feq at *
  cases h1 : h b <;> cases h2 : h' b <;> simp [h1, h2] at hh ⊢
  rename_i x y
  cases x <;> cases y <;> simp [Blk.frz] at hh ⊢
  exact hh
theorem frz0_local {h h' : Heap} {x : AV} {p : PV} {ids : List Nat} (hf : frz0 h x = some (p, ids)) (hh : ∀ b, b ∈ ids → Feq (h' b) (h b)) : frz0 h' x = some (p, ids) := by
  cases x <;> simp only [frz0] at hf ⊢ <;> try exact hf
  rename_i b n
  cases hr : rowOf h b with
  | none => simp [hr] at hf
  | some t =>
    obtain ⟨e, sz, es⟩ := t
    simp only [hr] at hf
    split at hf
    · rename_i hn
      cases hf
      rw [rowOf_feq (hh b (by simp)), hr]
      simp [hn]
    · cases hf
theorem frzL_local {f f' : AV → Option (PV × List Nat)} : ∀ {l : List AV} {ps : List PV} {ids : List Nat}, frzL f l = some (ps, ids) → (∀ x p r, x ∈ l → f x = some (p, r) → (∀ b, b ∈ r → b ∈ ids) → f' x = some (p, r)) → frzL f' l = some (ps, ids)
  | [], ps, ids, hf, _ => hf
  | x :: l, ps, ids, hf, hh => by
    simp only [frzL] at hf ⊢
    split at hf
    · rename_i p r qs rs h1 h2
      cases hf
      rw [hh x p r (by simp) h1 (fun b hb => List.mem_append_left _ hb), frzL_local h2 (fun y q r' hy hq hr => hh y q r' (by simp [hy]) hq (fun b hb => List.mem_append_right _ (hr b hb)))]
    · cases hf
theorem frz1_local {h h' : Heap} {x : AV} {p : PV} {ids : List Nat} (hf : frz1 h x = some (p, ids)) (hh : ∀ b, b ∈ ids → Feq (h' b) (h b)) : frz1 h' x = some (p, ids) := by
  cases x <;> simp only [frz1] at hf ⊢ <;> try exact frz0_local hf hh
  · rename_i b off
    cases hr : boxOf h b with
    | none => simp [hr] at hf
    | some cs =>
      simp only [hr] at hf
      split at hf
      · rename_i ps rs hl
        cases hf
        rw [boxOf_feq (hh b (by simp)), hr]
        simp only []
        rw [frzL_local hl (fun y q r hy hq hr => frz0_local hq (fun b hb => hh b (List.mem_cons_of_mem _ (hr b hb))))]
      · cases hf
  · split at hf
    · rename_i ps rs hl
      cases hf
      rw [frzL_local hl (fun y q r hy hq hr => frz0_local hq (fun b hb => hh b (hr b hb)))]
    · cases hf
theorem frz2_local {h h' : Heap} {x : AV} {p : PV} {ids : List Nat} (hf : frz2 h x = some (p, ids)) (hh : ∀ b, b ∈ ids → Feq (h' b) (h b)) : frz2 h' x = some (p, ids) := by
  cases x <;> simp only [frz2] at hf ⊢ <;> try exact frz1_local hf hh
  split at hf
  · rename_i ps rs hl
    cases hf
    rw [frzL_local hl (fun y q r hy hq hr => frz1_local hq (fun b hb => hh b (hr b hb)))]
  · cases hf
theorem listOf_local {h h' : Heap} {x : AV} {es : List PV} {ids : List Nat} (hf : listOf h x = some (es, ids)) (hh : ∀ b, b ∈ ids → Feq (h' b) (h b)) : listOf h' x = some (es, ids) := by
  unfold listOf at hf ⊢
  split at hf <;> try exact hf
  rename_i b n
  cases hr : rowOf h b with
  | none => simp [hr] at hf
  | some t =>
    obtain ⟨e, sz, es⟩ := t
    simp only [hr] at hf
    split at hf
    · rename_i hn
      cases hf
      skip
      rw [rowOf_feq (hh b (by simp)), hr]
      simp [hn]
    · cases hf
theorem ev_local {s s' : Slots} {x : Opd} (hh : ∀ n, n ∈ x.use → s'.getD n (.pv .junk) = s.getD n (.pv .junk)) : ev s' x = ev s x := by
  cases x with
  | t n => exact hh n (by simp [Opd.use])
  | c p => rfl
theorem map_ev_local {s s' : Slots} : ∀ {l : List Opd}, (∀ n, n ∈ l.flatMap Opd.use → s'.getD n (.pv .junk) = s.getD n (.pv .junk)) → l.map (ev s') = l.map (ev s)
  | [], _ => rfl
  | x :: l, hh => by
    simp only [List.map_cons]
    rw [ev_local (fun n hn => hh n (by simp [hn])), map_ev_local (fun n hn => hh n (by simp only [List.flatMap_cons]; exact List.mem_append_right _ hn))]
theorem optmap_ev_local {s s' : Slots} {x : Option Opd} (hh : ∀ n, n ∈ optUse x → s'.getD n (.pv .junk) = s.getD n (.pv .junk)) : x.map (ev s') = x.map (ev s) := by
  cases x with
  | none => rfl
  | some x => simp only [Option.map_some]; rw [ev_local hh]

/-- The same heap, but for stillness, where the operation looks; the very same where it writes. -/
structure Near (h h' : Heap) (o : Out) : Prop where
  rd : ∀ b, b ∈ o.rd → Feq (h' b) (h b)
  wr : ∀ b, b ∈ o.chg → h' b = h b
theorem sem_slots {i : I} {d : Nat} {s s' : Slots} {h : Heap} (hh : ∀ n, n ∈ i.uses → s'.getD n (.pv .junk) = s.getD n (.pv .junk)) : sem i d s' h = sem i d s h := by
  cases i <;> simp only [I.uses] at hh <;> unfold sem <;> simp only []
  case mov x => rw [ev_local hh]
  case box e x => rw [ev_local hh]
  case load k x => rw [ev_local hh]
  case un op x => rw [ev_local hh]
  case fld o x => rw [ev_local hh]
  case len b x => cases b <;> simp only [] <;> rw [ev_local hh]
  case ext j x => rw [ev_local hh]
  case nck x => rw [ev_local hh]
  case conv k x => rw [ev_local hh]
  case pick c a b => rw [ev_local (x := c) (fun n hn => hh n (by simp [hn])), ev_local (x := a) (fun n hn => hh n (by simp [hn])), ev_local (x := b) (fun n hn => hh n (by simp [hn]))]
  case build z ps =>
    have : ps.map (fun (o, n, x) => (o, n, ev s' x)) = ps.map (fun (o, n, x) => (o, n, ev s x)) := by
      apply List.map_congr_left
      rintro ⟨o, n, x⟩ hp
      simp only []
      rw [ev_local (fun m hm => hh m (List.mem_flatMap.2 ⟨_, hp, hm⟩))]
    rw [this]
  case lit e sz ps => rw [map_ev_local hh]
  case store n a x => rw [ev_local (x := a) (fun n hn => hh n (by simp [hn])), ev_local (x := x) (fun n hn => hh n (by simp [hn]))]
  case bin op a x => rw [ev_local (x := a) (fun n hn => hh n (by simp [hn])), ev_local (x := x) (fun n hn => hh n (by simp [hn]))]
  case beq op a x => rw [ev_local (x := a) (fun n hn => hh n (by simp [hn])), ev_local (x := x) (fun n hn => hh n (by simp [hn]))]
  case idx sz a x => rw [ev_local (x := a) (fun n hn => hh n (by simp [hn])), ev_local (x := x) (fun n hn => hh n (by simp [hn]))]
  case sidx a x => rw [ev_local (x := a) (fun n hn => hh n (by simp [hn])), ev_local (x := x) (fun n hn => hh n (by simp [hn]))]
  case app e sz b a x => rw [ev_local (x := a) (fun n hn => hh n (by simp [hn])), ev_local (x := x) (fun n hn => hh n (by simp [hn]))]
  case slc sz x lo hi mx => rw [ev_local (x := x) (fun n hn => hh n (by simp [hn])), optmap_ev_local (x := lo) (fun n hn => hh n (by simp [hn])), optmap_ev_local (x := hi) (fun n hn => hh n (by simp [hn])), optmap_ev_local (x := mx) (fun n hn => hh n (by simp [hn]))]
  case sslc x lo hi => rw [ev_local (x := x) (fun n hn => hh n (by simp [hn])), optmap_ev_local (x := lo) (fun n hn => hh n (by simp [hn])), optmap_ev_local (x := hi) (fun n hn => hh n (by simp [hn]))]
  case mkf f caps => rw [map_ev_local hh]
theorem sem_heap {i : I} {d : Nat} {s : Slots} {h h' : Heap} {o : Out} (hs : sem i d s h = some o) (N : Near h h' o) : sem i d s h' = some o := by
  cases i
  case mov x => exact hs
  case pick c a b => exact hs
  case build z ps => exact hs
  case bin op x y => exact hs
  case beq n x y => exact hs
  case un op x => exact hs
  case sidx x y => exact hs
  case len b x => cases b <;> exact hs
  case ext j x => exact hs
  case sslc x lo hi => exact hs
  case call f ars => exact hs
  case mkf f caps => exact hs
  case nck x => exact hs
  case conv k x => exact hs
  case new e cs =>
    simp only [sem] at hs ⊢
    split at hs
    · cases hs
    · cases hs
      rw [N.wr d (by simp [Out.chg, Upd.chg])]
      simp [*]
  case box e x =>
    simp only [sem] at hs ⊢
    split at hs
    · cases hs
    · cases hs
      rw [N.wr d (by simp [Out.chg, Upd.chg])]
      rw [if_neg ‹_›]
  case lit e sz ps =>
    simp only [sem] at hs ⊢
    split at hs
    · cases hs
    · split at hs
      · rename_i es rs hf
        split at hs
        · cases hs
          rw [N.wr d (by simp [Out.chg, Upd.chg]), if_neg ‹_›, frzL_local hf (fun y q r hy hq hr => frz1_local hq (fun b hb => N.rd b (hr b hb)))]
          simp only []
          rw [if_pos ‹_›]
        · cases hs
      · cases hs
  case load k x =>
    simp only [sem] at hs ⊢
    split at hs
    · rename_i b off heq
      cases hb : boxOf h b with
      | none => simp [hb] at hs
      | some cs =>
        simp only [hb] at hs
        have : o.rd = [b] := by
          cases k <;> simp only [] at hs <;> split at hs <;> first | (cases hs; done) | (cases hs; rfl)
        rw [boxOf_feq (N.rd b (by simp [this])), hb]
        exact hs
    · exact hs
    · rename_i b n i off heq
      cases hb : rowOf h b with
      | none => simp [hb] at hs
      | some t =>
        obtain ⟨e, sz, es⟩ := t
        simp only [hb] at hs
        have : o.rd = [b] := by
          split at hs
          · split at hs
            · cases k <;> simp only [] at hs <;> split at hs <;> first | (cases hs; done) | (cases hs; rfl)
            · cases hs
          · cases hs
        rw [rowOf_feq (N.rd b (by simp [this])), hb]
        exact hs
    · cases hs
  case store n a x =>
    simp only [sem] at hs ⊢
    split at hs
    · rename_i b off heq
      cases hb : boxOf h b with
      | none => simp [hb] at hs
      | some cs =>
        simp only [hb] at hs
        split at hs
        · cases hs
          have e := N.wr b (by simp [Out.chg, Upd.chg])
          have e1 : boxOf h' b = some cs := by unfold boxOf at hb ⊢; rw [e]; exact hb
          have e2 : mutOf h' b = mutOf h b := by unfold mutOf; rw [e]
          simp only [e1, e2]
          rw [if_pos ‹_›]
        · cases hs
    · rename_i b m i off heq
      cases hr : rowOf h b with
      | none => simp [hr] at hs
      | some t =>
        obtain ⟨e', sz, es⟩ := t
        cases hf : frz1 h (ev s x) with
        | none => simp [hr, hf] at hs
        | some pr =>
          obtain ⟨p, rs⟩ := pr
          simp only [hr, hf] at hs
          split at hs
          · split at hs
            · split at hs
              · cases hs
                have e := N.wr b (by simp [Out.chg, Upd.chg])
                have e1 : rowOf h' b = rowOf h b := by unfold rowOf; rw [e]
                have e2 : mutOf h' b = mutOf h b := by unfold mutOf; rw [e]
                rw [e1, hr, frz1_local hf (fun q hq => N.rd q (by simp [hq]))]
                simp only [e2]
                rw [if_pos ‹_›]
                simp only [*]
                simp
              · cases hs
            · cases hs
          · cases hs
    · cases hs
  case fld off x =>
    simp only [sem] at hs ⊢
    split at hs
    · exact hs
    · exact hs
    · rename_i b n i o' heq
      cases hr : rowOf h b with
      | none => simp [hr] at hs
      | some t =>
        obtain ⟨e', sz, es⟩ := t
        simp only [hr] at hs
        split at hs
        · cases hs
          rw [rowOf_feq (N.rd b (by simp)), hr]
          simp only []
          rw [if_pos ‹_›]
        · cases hs
    · cases hs
  case idx sz x y =>
    simp only [sem] at hs ⊢
    split at hs
    · split at hs
      · rw [if_pos ‹_›]
        split at hs
        · exact hs
        · rename_i b n heq
          cases hr : rowOf h b with
          | none => simp [hr] at hs
          | some t =>
            obtain ⟨e', sz', es⟩ := t
            simp only [hr] at hs
            split at hs
            · cases hs
              skip
              rw [rowOf_feq (N.rd b (by simp)), hr]
              simp only []
              rw [if_pos ‹_›]
            · cases hs
        · cases hs
      · cases hs
    · cases hs
  case app e sz bytes x y =>
    simp only [sem] at hs ⊢
    split at hs
    · rename_i ys rs hl
      split at hs
      · rename_i hok
        split at hs
        · rename_i b n heq
          cases hr : rowOf h b with
          | none => simp [hr] at hs
          | some t =>
            obtain ⟨e', sz', es⟩ := t
            simp only [hr] at hs
            split at hs
            · cases hs
              rw [listOf_local hl (fun q hq => N.rd q (by simp [hq]))]
              simp only []
              rw [if_pos hok]
              rw [rowOf_feq (N.rd b (by simp)), hr]
              simp only []
              rw [if_pos ‹_›]
            · cases hs
        · split at hs
          · cases hs
          · cases hs
            rw [listOf_local hl (fun q hq => N.rd q hq)]
            simp only []
            rw [if_pos hok, N.wr d (by simp [Out.chg, Upd.chg]), if_neg ‹_›]
        · cases hs
      · cases hs
    · cases hs
  case slc sz x lo hi mx =>
    simp only [sem] at hs ⊢
    split at hs
    · rename_i es rs hl
      have : o.rd = rs := by
        split at hs
        · split at hs
          · split at hs
            · cases hs; rfl
            · cases hs
          · cases hs
        · cases hs
      rw [listOf_local hl (fun q hq => N.rd q (by rw [this]; exact hq))]
      exact hs
    · cases hs
end Go.Proofs.Ytnojmocoifodjaa.Pv
set_option linter.unusedVariables false
set_option linter.unusedSimpArgs false
namespace Go.Proofs.Ytnojmocoifodjaa.Pv
open Go Go.RowKit

theorem Blk.frz_frz (x : Blk) : x.frz.frz = x.frz := by cases x <;> rfl
theorem Upd.ap_no (u : Upd) (h : Heap) {q : Nat} (h1 : q ∉ u.chg) : u.ap h q = if q ∈ u.fzs then (h q).map Blk.frz else h q := by
  cases u with
  | new b x => simp only [Upd.chg, List.mem_singleton] at h1; simp [Upd.ap, Upd.fzs, hupd_ne _ _ h1]
  | frz l => by_cases hq : q ∈ l <;> simp [Upd.ap, Upd.fzs, hfrz, hq]
  | row b es =>
    simp only [Upd.chg, List.mem_singleton] at h1
    simp only [Upd.ap, Upd.fzs, List.not_mem_nil, if_false]
    cases hg : h b with
    | none => rfl
    | some x => cases x <;> simp [hupd_ne _ _ h1]
  | box b es =>
    simp only [Upd.chg, List.mem_singleton] at h1
    simp only [Upd.ap, Upd.fzs, List.not_mem_nil, if_false]
    cases hg : h b with
    | none => rfl
    | some x => cases x <;> simp [hupd_ne _ _ h1]
  | att k L =>
    simp only [Upd.chg, List.mem_range'_1, not_and, Nat.not_lt] at h1
    simp only [Upd.ap, Upd.fzs, List.not_mem_nil, if_false]
    rw [if_neg]
    rintro ⟨a, b⟩
    have := h1 a
    omega
theorem Upd.ap_at (u : Upd) {h h' : Heap} {q : Nat} (e : h q = h' q) : u.ap h q = u.ap h' q := by
  cases u with
  | new b x => simp only [Upd.ap, hupd]; split <;> simp [e]
  | frz l => simp only [Upd.ap, hfrz, e]
  | row b es =>
    simp only [Upd.ap]
    by_cases hq : q = b
    · subst hq
      rw [← e]
      cases hh : h q with
      | none => simp only []; rw [hh] at e; rw [hh, ← e]
      | some x => cases x <;> simp [hh] <;> (rw [hh] at e; exact e)
    · have := fun g : Heap => (Upd.row b es).ap_no g (q := q) (by simp [Upd.chg, hq])
      simp only [Upd.fzs, List.not_mem_nil, if_false] at this
      exact (this h).trans (e.trans (this h').symm)
  | box b cs =>
    simp only [Upd.ap]
    by_cases hq : q = b
    · subst hq
      rw [← e]
      cases hh : h q with
      | none => simp only []; rw [hh] at e; rw [hh, ← e]
      | some x => cases x <;> simp [hh] <;> (rw [hh] at e; exact e)
    · have := fun g : Heap => (Upd.box b cs).ap_no g (q := q) (by simp [Upd.chg, hq])
      simp only [Upd.fzs, List.not_mem_nil, if_false] at this
      exact (this h).trans (e.trans (this h').symm)
  | att k L => simp only [Upd.ap]; split <;> simp [e]
theorem ups_at : ∀ (l : List Upd) {h h' : Heap} {q : Nat}, h q = h' q → (l.foldl Upd.ap h) q = (l.foldl Upd.ap h') q
  | [], _, _, _, e => e
  | u :: l, h, h', q, e => ups_at l (u.ap_at e)
theorem ups_no : ∀ (l : List Upd) (h : Heap) {q : Nat}, q ∉ l.flatMap Upd.chg → (l.foldl Upd.ap h) q = if q ∈ l.flatMap Upd.fzs then (h q).map Blk.frz else h q
  | [], h, q, _ => by simp
  | u :: l, h, q, h1 => by
    simp only [List.flatMap_cons, List.mem_append, not_or] at h1
    simp only [List.foldl_cons, List.flatMap_cons, List.mem_append]
    rw [ups_no l _ h1.2, u.ap_no h h1.1]
    by_cases h2 : q ∈ u.fzs <;> by_cases h3 : q ∈ l.flatMap Upd.fzs
    · rw [if_pos h3, if_pos h2, if_pos (.inl h2)]
      cases h q <;> simp [Blk.frz_frz]
    · rw [if_neg h3, if_pos h2, if_pos (.inl h2)]
    · rw [if_pos h3, if_neg h2, if_pos (.inr h3)]
    · rw [if_neg h3, if_neg h2, if_neg (by simp only [not_or]; exact ⟨h2, h3⟩)]
theorem Out.heap_at (o : Out) {h h' : Heap} {q : Nat} (e : h q = h' q) : o.heap h q = o.heap h' q := ups_at o.up e
theorem Out.heap_no (o : Out) (h : Heap) {q : Nat} (h1 : q ∉ o.chg) : o.heap h q = if q ∈ o.fzs then (h q).map Blk.frz else h q := ups_no o.up h h1

/-- Two operations that do not meet. -/
def disj (a b : List Nat) : Bool := a.all fun x => !b.contains x
theorem disj_spec {a b : List Nat} (h : disj a b = true) {x : Nat} (hx : x ∈ a) : x ∉ b := by
  have := List.all_eq_true.1 h x hx
  simpa using this
def Ind (x : Ins) (o : Out) (y : Ins) (p : Out) : Bool :=
  disj x.dst.toList y.dst.toList && disj x.dst.toList y.uses && disj y.dst.toList x.uses &&
  disj o.chg (p.rd ++ p.chg ++ p.fzs) && disj p.chg (o.rd ++ o.fzs)

theorem putS_getD {s : Slots} {d : Option Nat} {v : AV} {n : Nat} (hn : ∀ k, d = some k → n ≠ k) : (putS s d v).getD n (.pv .junk) = s.getD n (.pv .junk) := by
  cases d with
  | none => rfl
  | some k =>
    have := hn k rfl
    simp [putS, List.getD, List.getElem?_set_ne (Ne.symm this)]
theorem putS_comm {s : Slots} {d e : Option Nat} {v u : AV} (hn : ∀ k, d = some k → e ≠ some k) : putS (putS s d v) e u = putS (putS s e u) d v := by
  cases d with
  | none => rfl
  | some k =>
    cases e with
    | none => rfl
    | some j =>
      have hne : j ≠ k := fun h => hn k rfl (by rw [h])
      simp only [putS]
      exact List.set_comm v u (Ne.symm hne)

theorem callArgs_local {s s' : Slots} {h h' : Heap} {f : Opd} {ars : List Opd} {g : Nat} {ps : List PV} {ids : List Nat} (hc : callArgs s h f ars = some (g, ps, ids)) (hh : ∀ n, n ∈ (I.call f ars).uses → s'.getD n (.pv .junk) = s.getD n (.pv .junk)) (hN : ∀ b, b ∈ ids → Feq (h' b) (h b)) :
    callArgs s' h' f ars = some (g, ps, ids) := by
  unfold callArgs at hc ⊢
  simp only [I.uses] at hh
  rw [ev_local (fun n hn => hh n (List.mem_append_left _ hn)), map_ev_local (fun n hn => hh n (List.mem_append_right _ hn))]
  split at hc
  · rename_i g' caps r1 ps' r2 h1 h2
    cases hc
    rw [frz2_local h1 (fun b hb => hN b (List.mem_append_left _ hb)), frzL_local h2 (fun y q r hy hq hr => frz2_local hq (fun b hb => hN b (List.mem_append_right _ (hr b hb))))]
  · cases hc
theorem SO.near {P : Program} {x : Ins} {s s' : Slots} {h h' : Heap} {o : Out} (hs : SO P x s h o) (hh : ∀ n, n ∈ x.uses → s'.getD n (.pv .junk) = s.getD n (.pv .junk)) (N : Near h h' o) : SO P x s' h' o := by
  have hg : gd s' x.g = gd s x.g := by
    unfold gd
    cases hgx : x.g with
    | none => rfl
    | some tw =>
      obtain ⟨t, w⟩ := tw
      simp only []
      rw [hh t (by simp [Ins.uses, hgx])]
  have hu : ∀ n, n ∈ x.i.uses → s'.getD n (.pv .junk) = s.getD n (.pv .junk) := fun n hn => hh n (List.mem_append_left _ hn)
  rcases hs with ⟨h1, h2⟩ | ⟨h1, h2⟩
  · exact .inl ⟨hg.trans h1, h2⟩
  · refine .inr ⟨hg.trans h1, ?_⟩
    obtain ⟨dst, g, af, i⟩ := x
    cases i
    case call f ars =>
      obtain ⟨gg, ps, ids, r, L, a1, a2, a3, rfl⟩ := h2
      refine ⟨gg, ps, ids, r, L, callArgs_local a1 hu (fun b hb => N.rd b hb), a2, fun i hi => ?_, rfl⟩
      have := N.wr (base dst + i) (by simp [Out.chg, callOut, Upd.chg, List.mem_range'_1]; omega)
      rw [this]; exact a3 i hi
    all_goals exact sem_heap (by rw [sem_slots hu]; exact h2) N

theorem near_of {h : Heap} {o p : Out} (h1 : disj o.chg (p.rd ++ p.chg ++ p.fzs) = true) (h2 : disj p.chg (o.rd ++ o.fzs) = true) : Near h (o.heap h) p ∧ ∀ g, o.heap h = g → Near g h p := by
  have key : ∀ b, b ∈ p.rd → Feq (o.heap h b) (h b) := by
    intro b hb
    have hn : b ∉ o.chg := fun hc => disj_spec h1 hc (by simp [hb])
    rw [o.heap_no h hn]
    unfold Feq
    split
    · cases h b <;> simp [Blk.frz_frz]
    · rfl
  have key2 : ∀ b, b ∈ p.chg → o.heap h b = h b := by
    intro b hb
    have hn : b ∉ o.chg := fun hc => disj_spec h1 hc (by simp [hb])
    have hf : b ∉ o.fzs := fun hc => disj_spec h2 hb (by simp [hc])
    rw [o.heap_no h hn, if_neg hf]
  exact ⟨⟨key, key2⟩, fun g hg => by subst hg; exact ⟨fun b hb => (key b hb).symm, fun b hb => (key2 b hb).symm⟩⟩

/-- Two operations that do not meet may change places. -/
theorem SO.swap {P : Program} {x y : Ins} {s : Slots} {h : Heap} {o p : Out} (hx : SO P x s h o) (hy : SO P y (putS s x.dst o.v) (o.heap h) p) (hi : Ind x o y p = true) :
    SO P y s h p ∧ SO P x (putS s y.dst p.v) (p.heap h) o ∧ putS (putS s y.dst p.v) x.dst o.v = putS (putS s x.dst o.v) y.dst p.v ∧ o.heap (p.heap h) = p.heap (o.heap h) := by
  simp only [Ind, Bool.and_eq_true] at hi
  obtain ⟨⟨⟨⟨d1, d2⟩, d3⟩, d4⟩, d5⟩ := hi
  have hxy : ∀ k, x.dst = some k → y.dst ≠ some k := by
    intro k hk hy
    exact disj_spec d1 (x := k) (by simp [hk]) (by simp [hy])
  have N := near_of (h := h) d4 d5
  have d4' : disj p.chg (o.rd ++ o.chg ++ o.fzs) = true := by
    refine List.all_eq_true.2 (fun b hb => ?_)
    have n1 := disj_spec d5 hb
    have n2 : b ∉ o.chg := fun hc => disj_spec d4 hc (by simp [hb])
    simp at n1 ⊢
    exact ⟨n1.1, n2, n1.2⟩
  have d5' : disj o.chg (p.rd ++ p.fzs) = true := by
    refine List.all_eq_true.2 (fun b hb => ?_)
    have n1 := disj_spec d4 hb
    simp at n1 ⊢
    exact ⟨n1.1, n1.2.2⟩
  have N' := near_of (h := h) d4' d5'
  refine ⟨?_, ?_, putS_comm (fun k hk hx => hxy k hx hk), ?_⟩
  · refine hy.near (fun n hn => (putS_getD (fun k hk => ?_)).symm) (N.2 _ rfl)
    rintro rfl
    exact disj_spec d2 (x := n) (by simp [hk]) hn
  · refine hx.near (fun n hn => putS_getD (fun k hk => ?_)) N'.1
    rintro rfl
    exact disj_spec d3 (x := n) (by simp [hk]) hn
  · funext q
    by_cases h1 : q ∈ o.chg
    · have n1 := disj_spec d4 h1
      simp at n1
      have e1 : ∀ g : Heap, p.heap g q = g q := fun g => by rw [p.heap_no g n1.2.1, if_neg n1.2.2]
      rw [e1]
      exact o.heap_at (e1 h)
    · by_cases h2 : q ∈ p.chg
      · have n1 := disj_spec d5 h2
        simp at n1
        have e1 : ∀ g : Heap, o.heap g q = g q := fun g => by rw [o.heap_no g h1, if_neg n1.2]
        rw [e1]
        exact (p.heap_at (e1 h)).symm
      · rw [o.heap_no _ h1, p.heap_no _ h2, p.heap_no _ h2, o.heap_no _ h1]
        by_cases h3 : q ∈ o.fzs <;> by_cases h4 : q ∈ p.fzs <;> simp [h3, h4]

/-! ### Runs of operations -/
def RunL (P : Program) : List (Ins × Out) → Slots → Heap → Slots → Heap → Prop
  | [], s, h, s', h' => s' = s ∧ h' = h
  | (x, o) :: l, s, h, s', h' => SO P x s h o ∧ RunL P l (putS s x.dst o.v) (o.heap h) s' h'
/-- One of them is taken first. -/
theorem RunL.first {P : Program} {y : Ins} {p : Out} {l2 : List (Ins × Out)} {s' : Slots} {h' : Heap} : ∀ (l1 : List (Ins × Out)) (s : Slots) (h : Heap), (∀ x o, (x, o) ∈ l1 → Ind x o y p = true) → RunL P (l1 ++ (y, p) :: l2) s h s' h' → RunL P ((y, p) :: l1 ++ l2) s h s' h'
  | [], s, h, _, hr => hr
  | (x, o) :: l1, s, h, hi, hr => by
    obtain ⟨h1, h2⟩ := hr
    obtain ⟨h3, h4⟩ := RunL.first l1 _ _ (fun x' o' hm => hi x' o' (by simp [hm])) h2
    obtain ⟨a1, a2, a3, a4⟩ := SO.swap h1 h3 (hi x o (by simp))
    refine ⟨a1, a2, ?_⟩
    rw [a3, a4]
    exact h4
end Go.Proofs.Ytnojmocoifodjaa.Pv
set_option linter.unusedVariables false
set_option linter.unusedSimpArgs false
namespace Go.Proofs.Ytnojmocoifodjaa.Pv
open Go Go.RowKit

/-! ### Regions -/
def preds : List (List Nat) → List Ins → List (List Nat)
  | acc, [] => acc
  | acc, x :: l => preds (acc ++ [x.af ++ x.af.flatMap fun e => acc.getD e []]) l
/-- Each pair of operations is in order, or does not meet. -/
def okD (is : List Ins) (outs : List Out) : Bool :=
  let pr := preds [] is
  outs.length == is.length &&
  (List.range is.length).all fun j => match is[j]?, outs[j]? with
    | some y, some p => y.af.all (· < j) && (List.range j).all fun i => (pr.getD j []).contains i || match is[i]?, outs[i]? with
      | some x, some o => Ind x o y p
      | _, _ => false
    | _, _ => false
def wpD (P : Program) : List Ins → Slots → Heap → List Out → (List Out → Slots → Heap → Prop) → Prop
  | [], s, h, acc, K => K acc s h
  | x :: l, s, h, acc, K => ∃ o, SO P x s h o ∧ wpD P l (putS s x.dst o.v) (o.heap h) (acc ++ [o]) K
def wpR (P : Program) : List Ins → Slots → Heap → (Slots → Heap → Prop) → Prop
  | [], s, h, K => K s h
  | x :: l, s, h, K => ∃ o, SO P x s h o ∧ wpR P l (putS s x.dst o.v) (o.heap h) K

theorem RunL.of_wpD {P : Program} {K : List Out → Slots → Heap → Prop} : ∀ (l : List Ins) (s : Slots) (h : Heap) (acc : List Out), wpD P l s h acc K → ∃ outs s' h', outs.length = l.length ∧ RunL P (l.zip outs) s h s' h' ∧ K (acc ++ outs) s' h'
  | [], s, h, acc, hw => ⟨[], s, h, rfl, ⟨rfl, rfl⟩, by simpa [wpD] using hw⟩
  | x :: l, s, h, acc, hw => by
    obtain ⟨o, h1, h2⟩ := hw
    obtain ⟨outs, s', h', a1, a2, a3⟩ := RunL.of_wpD l _ _ _ h2
    exact ⟨o :: outs, s', h', by simp [a1], ⟨h1, a2⟩, by simpa using a3⟩

/-- What Q asks of the frame. -/
def Holds (W0 : World) (S0 : Stb) (K : Slots → Heap → Prop) (a : Act) (W : World) : Prop := ∃ s h S β, K s h ∧ Fr W0 S0 s h a W S β

theorem wpR_ok {P : Program} {W0 : World} {S0 : Stb} {ops : Array Oper} {Q : Exit → Act → World → Prop} {K : Slots → Heap → Prop} (hQ : ∀ a W, Holds W0 S0 K a W → Q .normal a W) :
    ∀ (l : List Nat) (xs : List Ins) (s : Slots) (h : Heap) (a : Act) (W : World) (S : Stb) (β : Bta), l.length = xs.length → (∀ (j i : Nat) (x : Ins), l[j]? = some i → xs[j]? = some x → ∃ o, ops[i]? = some o ∧ compIns P ops o = some x) →
      Fr W0 S0 s h a W S β → wpR P xs s h K → wpOps P ops Q l a W
  | [], [], s, h, a, W, S, β, _, _, F, hw => hQ _ _ ⟨s, h, S, β, hw, F⟩
  | [], _ :: _, _, _, _, _, _, _, hl, _, _, _ => by simp at hl
  | _ :: _, [], _, _, _, _, _, _, hl, _, _, _ => by simp at hl
  | i :: l, x :: xs, s, h, a, W, S, β, hl, hx, F, hw => by
    obtain ⟨o, ho, hc⟩ := hx 0 i x (by simp) (by simp)
    obtain ⟨out, h1, h2⟩ := hw
    rw [wpOps_cons]
    unfold wpOp
    simp only [ho]
    exact SO_ok F hc h1 (fun a' W' S' β' F' => wpR_ok hQ l xs _ _ _ _ _ _ (by simpa using hl) (fun j i x hj hxj => hx (j + 1) i x (by simpa using hj) (by simpa using hxj)) F' h2)

theorem flatMap_eq {α γ : Type} {f g : α → List γ} : ∀ {l : List α}, (∀ x, x ∈ l → f x = g x) → l.flatMap f = l.flatMap g
  | [], _ => rfl
  | x :: l, h => by simp only [List.flatMap_cons]; rw [h x (by simp), flatMap_eq (fun y hy => h y (by simp [hy]))]
theorem preds_get : ∀ (l : List Ins) (acc : List (List Nat)) (j : Nat), j < acc.length → (preds acc l)[j]? = acc[j]?
  | [], acc, j, _ => rfl
  | x :: l, acc, j, hj => by
    rw [preds, preds_get l _ j (by simp; omega), List.getElem?_append_left hj]
theorem preds_at : ∀ (l : List Ins) (acc : List (List Nat)) (j : Nat) (x : Ins), l[j]? = some x → (∀ (q : Nat), q ∈ x.af → q < acc.length + j) →
    (preds acc l).getD (acc.length + j) [] = x.af ++ x.af.flatMap fun e => (preds acc l).getD e []
  | [], acc, j, x, hx, _ => by simp at hx
  | y :: l, acc, 0, x, hx, haf => by
    simp at hx; subst hx
    have h1 : (preds acc (y :: l))[acc.length]? = some (y.af ++ y.af.flatMap fun e => acc.getD e []) := by
      rw [preds, preds_get l _ _ (by simp)]; simp
    rw [Nat.add_zero, List.getD, h1]
    simp only [Option.getD_some]
    congr 1
    apply flatMap_eq
    intro e he
    have := haf e he
    rw [List.getD, List.getD, preds, preds_get l _ _ (by simp; omega), List.getElem?_append_left (by omega)]
  | y :: l, acc, j + 1, x, hx, haf => by
    have := preds_at l (acc ++ [y.af ++ y.af.flatMap fun e => acc.getD e []]) j x (by simpa using hx) (fun q hq => by have := haf q hq; simp; omega)
    simp only [List.length_append, List.length_singleton] at this
    rw [show acc.length + (j + 1) = acc.length + 1 + j by omega]
    exact this

theorem filter_split {p : Nat → Bool} {n i : Nat} (hi : i < n) (hp : p i = true) : (List.range n).filter p = (List.range i).filter p ++ i :: ((List.range' (i + 1) (n - (i + 1))).filter p) := by
  have : List.range n = List.range i ++ i :: List.range' (i + 1) (n - (i + 1)) := by
    rw [List.range_eq_range', List.range_eq_range']
    have h1 : n = i + (1 + (n - (i + 1))) := by omega
    conv => lhs; rw [h1]
    rw [← List.range'_append_1, ← List.range'_append_1]
    simp [List.range'_succ]
  rw [this, List.filter_append, List.filter_cons, if_pos hp]

section
variable {P : Program} {W0 : World} {S0 : Stb} {ops : Array Oper} {Q : Exit → Act → World → Prop} {K : Slots → Heap → Prop} {is : List Ins} {outs : List Out}
def todo (n : Nat) (listed : Array Bool) : List Nat := (List.range n).filter fun i => !listed.getD i true
def its (is : List Ins) (outs : List Out) (l : List Nat) : List (Ins × Out) := l.filterMap fun i => match is[i]?, outs[i]? with
  | some x, some o => some (x, o)
  | _, _ => none
theorem wpAny_ok (hQ : ∀ a W, Holds W0 S0 K a W → Q .normal a W) (hn : ops.size = is.length) (hx : ∀ (i : Nat) (x : Ins), is[i]? = some x → ∃ o, ops[i]? = some o ∧ compIns P ops o = some x) (hok : okD is outs = true) {sf : Slots} {hf : Heap} (hK : K sf hf) :
    ∀ (fuel : Nat) (listed : Array Bool) (s : Slots) (h : Heap) (a : Act) (W : World) (S : Stb) (β : Bta), listed.size = ops.size → (todo ops.size listed).length = fuel →
      (∀ j, listed.getD j false = true → ∀ q, q ∈ (preds [] is).getD j [] → listed.getD q false = true) →
      RunL P (its is outs (todo ops.size listed)) s h sf hf → Fr W0 S0 s h a W S β → wpAny P .any ops Q fuel listed a W := by
  have hok' := hok
  simp only [okD, Bool.and_eq_true, beq_iff_eq] at hok'
  obtain ⟨hlen, hall⟩ := hok'
  have hpair : ∀ (j : Nat) (y : Ins) (p : Out), is[j]? = some y → outs[j]? = some p → (∀ q, q ∈ y.af → q < j) ∧ ∀ (i : Nat) (x : Ins) (o : Out), i < j → is[i]? = some x → outs[i]? = some o → i ∈ (preds [] is).getD j [] ∨ Ind x o y p = true := by
    intro j y p hy hp
    have hj := (List.getElem?_eq_some_iff.1 hy).1
    have := List.all_eq_true.1 hall j (List.mem_range.2 hj)
    simp only [hy, hp, Bool.and_eq_true, List.all_eq_true, decide_eq_true_eq] at this
    refine ⟨this.1, fun i x o hi hix hio => ?_⟩
    have := this.2 i (List.mem_range.2 hi)
    simp only [hix, hio, Bool.or_eq_true, List.contains_iff_mem] at this
    exact this
  have hget : ∀ i, i < ops.size → ∃ x o, is[i]? = some x ∧ outs[i]? = some o := by
    intro i hi
    exact ⟨_, _, List.getElem?_eq_getElem (by omega), List.getElem?_eq_getElem (by omega)⟩
  intro fuel
  induction fuel with
  | zero =>
    intro listed s h a W S β hsz hl hdown hrun F
    have hnil : todo ops.size listed = [] := List.eq_nil_of_length_eq_zero hl
    rw [hnil] at hrun
    obtain ⟨rfl, rfl⟩ := hrun
    refine ⟨?_, hQ _ _ ⟨_, _, S, β, hK, F⟩⟩
    cases hr : Region.ready .any ops listed with
    | nil => rfl
    | cons i rs =>
      have hm : i ∈ Region.ready .any ops listed := by rw [hr]; simp
      rw [mem_ready] at hm
      obtain ⟨h0, o, ho, _⟩ := hm
      have hlt := (Array.getElem?_eq_some_iff.1 ho).1
      have : i ∈ todo ops.size listed := List.mem_filter.2 ⟨List.mem_range.2 hlt, by rw [h0]; rfl⟩
      rw [hnil] at this; cases this
  | succ fuel ih =>
    intro listed s h a W S β hsz hl hdown hrun F
    refine ⟨fun h0 => ?_, fun i hi => ?_⟩
    · -- the first one left is ready
      exfalso
      cases ht : todo ops.size listed with
      | nil => rw [ht] at hl; simp at hl
      | cons r rest =>
        have hr : r ∈ todo ops.size listed := by rw [ht]; simp
        obtain ⟨hr1, hr2⟩ := List.mem_filter.1 hr
        have hrlt := List.mem_range.1 hr1
        obtain ⟨x, o, hix, hio⟩ := hget r hrlt
        obtain ⟨op, hop, hcomp⟩ := hx r x hix
        have hsm : ∀ q, q < r → listed.getD q false = true := by
          intro q hq
          cases hlq : listed.getD q false with
          | true => rfl
          | false =>
            exfalso
            have hq2 : listed.getD q true = false := by
              have hqs : q < listed.size := by omega
              simp only [Array.getD_eq_getD_getElem?, Array.getElem?_eq_getElem hqs, Option.getD_some] at hlq ⊢
              exact hlq
            have hspl := filter_split (p := fun i => !listed.getD i true) hrlt hr2
            have : q ∈ (List.range r).filter (fun i => !listed.getD i true) := List.mem_filter.2 ⟨List.mem_range.2 hq, by simp only [hq2]; rfl⟩
            have hh : todo ops.size listed = (List.range r).filter (fun i => !listed.getD i true) ++ _ := hspl
            rw [ht] at hh
            cases hf : (List.range r).filter (fun i => !listed.getD i true) with
            | nil => rw [hf] at this; cases this
            | cons z zs =>
              rw [hf] at hh
              injection hh with h1 _
              have hz : z ∈ (List.range r).filter (fun i => !listed.getD i true) := by rw [hf]; simp
              have := List.mem_range.1 (List.mem_filter.1 hz).1
              omega
        have : r ∈ Region.ready .any ops listed := by
          rw [mem_ready]
          refine ⟨by simpa using hr2, op, hop, fun e he hb => hsm _ ?_⟩
          refine (hpair r x o hix hio).1 e.on ?_
          unfold compIns at hcomp
          split at hcomp
          · cases hcomp
            exact List.mem_map.2 ⟨e, List.mem_filter.2 ⟨by simpa using he, hb⟩, rfl⟩
          · cases hcomp
        rw [h0] at this; cases this
    · rw [mem_ready] at hi
      obtain ⟨h0, op, hop, hpre⟩ := hi
      have hilt := (Array.getElem?_eq_some_iff.1 hop).1
      obtain ⟨x, o, hix, hio⟩ := hget i hilt
      obtain ⟨op', hop', hcomp⟩ := hx i x hix
      rw [hop] at hop'; cases hop'
      have hp : (fun i => !listed.getD i true) i = true := by simp only [h0]; rfl
      have hspl : todo ops.size listed = _ := filter_split (p := fun i => !listed.getD i true) hilt hp
      have haf : ∀ q, q ∈ x.af → listed.getD q false = true := by
        intro q hq
        unfold compIns at hcomp
        split at hcomp
        · cases hcomp
          obtain ⟨e, he, rfl⟩ := List.mem_map.1 hq
          obtain ⟨he1, he2⟩ := List.mem_filter.1 he
          exact hpre e (by simpa using he1) he2
        · cases hcomp
      have hpreds : ∀ q, q ∈ (preds [] is).getD i [] → listed.getD q false = true := by
        intro q hq
        have := preds_at is [] i x hix (fun q hq => by have := (hpair i x o hix hio).1 q hq; simpa using this)
        simp only [List.length_nil, Nat.zero_add] at this
        rw [this] at hq
        rcases List.mem_append.1 hq with hq | hq
        · exact haf q hq
        · obtain ⟨e, he, hqe⟩ := List.mem_flatMap.1 hq
          exact hdown e (haf e he) q hqe
      have hrun' : RunL P ((x, o) :: its is outs ((List.range i).filter (fun i => !listed.getD i true)) ++ its is outs ((List.range' (i + 1) (ops.size - (i + 1))).filter (fun i => !listed.getD i true))) s h sf hf := by
        refine RunL.first _ s h (fun x' o' hm => ?_) ?_
        · obtain ⟨q, hq, hqq⟩ := List.mem_filterMap.1 hm
          obtain ⟨hq1, hq2⟩ := List.mem_filter.1 hq
          have hqi := List.mem_range.1 hq1
          obtain ⟨xq, oq, e1, e2⟩ := hget q (by omega)
          simp only [e1, e2, Option.some.injEq, Prod.mk.injEq] at hqq
          obtain ⟨rfl, rfl⟩ := hqq
          rcases (hpair i x o hix hio).2 q xq oq hqi e1 e2 with hc | hc
          · have hl := hpreds q hc
            exfalso
            have hqs : q < listed.size := by omega
            simp only [Array.getD_eq_getD_getElem?, Array.getElem?_eq_getElem hqs, Option.getD_some] at hl hq2
            rw [hl] at hq2; cases hq2
          · exact hc
        · rw [hspl] at hrun
          simp only [its, List.filterMap_append, List.filterMap_cons, hix, hio] at hrun
          exact hrun
      obtain ⟨hso, hrest⟩ := hrun'
      unfold wpOp
      simp only [hop]
      refine SO_ok F hcomp hso (fun a' W' S' β' F' => ?_)
      have hset : ∀ (j : Nat) (d : Bool), j ≠ i → (listed.setIfInBounds i true).getD j d = listed.getD j d := fun j d hj => getD_set_ne d (Ne.symm hj)
      have hseti : ∀ d, (listed.setIfInBounds i true).getD i d = true := by
        intro d
        have : i < listed.size := by omega
        simp [this]
      have htodo : todo ops.size (listed.setIfInBounds i true) = (List.range i).filter (fun i => !listed.getD i true) ++ (List.range' (i + 1) (ops.size - (i + 1))).filter (fun i => !listed.getD i true) := by
        have e1 : List.range ops.size = List.range i ++ i :: List.range' (i + 1) (ops.size - (i + 1)) := by
          rw [List.range_eq_range', List.range_eq_range']
          have h1 : ops.size = i + (1 + (ops.size - (i + 1))) := by omega
          conv => lhs; rw [h1]
          rw [← List.range'_append_1, ← List.range'_append_1]
          simp [List.range'_succ]
        unfold todo
        rw [e1, List.filter_append, List.filter_cons, if_neg (by rw [hseti]; simp)]
        congr 1
        · exact List.filter_congr (fun q hq => by have := List.mem_range.1 hq; rw [hset q true (by omega)])
        · exact List.filter_congr (fun q hq => by have := (List.mem_range'_1.1 hq).1; rw [hset q true (by omega)])
      refine ih _ _ _ _ _ _ _ (by simpa using hsz) ?_ ?_ ?_ F'
      · rw [htodo]
        have hl' : ((List.range i).filter (fun i => !listed.getD i true) ++ i :: (List.range' (i + 1) (ops.size - (i + 1))).filter (fun i => !listed.getD i true)).length = fuel + 1 := by rw [← hspl]; exact hl
        simp only [List.length_append, List.length_cons] at hl' ⊢
        omega
      · intro j hj q hq
        by_cases hji : j = i
        · subst hji
          exact getD_set_true (hpreds q hq)
        · rw [hset j false hji] at hj
          exact getD_set_true (hdown j hj q hq)
      · rw [htodo]
        simp only [its, List.filterMap_append] at hrest ⊢
        exact hrest
end
end Go.Proofs.Ytnojmocoifodjaa.Pv
set_option linter.unusedVariables false
set_option linter.unusedSimpArgs false
namespace Go.Proofs.Ytnojmocoifodjaa.Pv
open Go Go.RowKit

/-! ### Which blocks a value names -/
mutual
def AV.ids : AV → List Nat
  | .pv _ => []
  | .ref b _ | .ptr b _ | .eptr b _ _ _ => [b]
  | .agg cs | .tup cs | .fn _ cs => AV.idsL cs
def AV.idsL : List AV → List Nat
  | [] => []
  | x :: l => AV.ids x ++ AV.idsL l
end
theorem AV.idsL_mem {b : Nat} : ∀ {l : List AV} {i : Nat} {x : AV}, l[i]? = some x → b ∈ x.ids → b ∈ AV.idsL l
  | [], i, x, h, _ => by simp at h
  | y :: l, 0, x, h, hb => by simp at h; subst h; exact List.mem_append_left _ hb
  | y :: l, i + 1, x, h, hb => List.mem_append_right _ (AV.idsL_mem (l := l) (i := i) (by simpa using h) hb)
def Blk.ids : Blk → List Nat
  | .box cs _ => AV.idsL cs
  | .row .. => []
section
variable {P : Program} {B : Nat} {S : Stb} {β β' : Bta} {h h' : Heap} {W : World}
/-- A value in a heap in which fewer blocks are named, perhaps by other names. -/
theorem RA.kept {x : AV} {v : Value} (H : RA S W β h x v) (hk : ∀ b, b ∈ x.ids → h' b = h b ∧ β' b = β b) : RA S W β' h' x v := by
  induction H with
  | pv hp => exact .pv hp
  | @ref b n v e sz es m hb hn hv hc =>
    obtain ⟨h1, h2⟩ := hk b (by simp [AV.ids])
    exact .ref (h1.trans hb) hn hv (fun hh => by unfold Cur at hc ⊢; rw [h2]; exact hc hh)
  | @ptr b off k cs m hb hk' =>
    obtain ⟨h1, h2⟩ := hk b (by simp [AV.ids])
    exact .ptr (h1.trans hb) (h2.trans hk')
  | @eptr b n i off v e sz es m hb hn hv hc =>
    obtain ⟨h1, h2⟩ := hk b (by simp [AV.ids])
    exact .eptr (h1.trans hb) hn hv (fun hh => by rw [h2]; exact hc hh)
  | agg hn hR ih => exact .agg hn (fun i x hx => ih i x hx (fun b hb => hk b (by simp only [AV.ids]; exact AV.idsL_mem hx hb)))
  | tup hn hR ih => exact .tup hn (fun i x hx => ih i x hx (fun b hb => hk b (by simp only [AV.ids]; exact AV.idsL_mem hx hb)))
  | fn hn hR ih => exact .fn hn (fun i x hx => ih i x hx (fun b hb => hk b (by simp only [AV.ids]; exact AV.idsL_mem hx hb)))
end

/-! ### Forgetting -/
structure Wk where
  keep : Option (List Nat × List Nat) := none
  nils : List (Nat × Nat × TypeId × Nat) := []
def dropS (keep : List Nat) (s : Slots) : Slots := s.mapIdx fun i x => if keep.contains i then x else .pv .junk
def dropH (kb : List Nat) (h : Heap) : Heap := fun b => if kb.contains b then h b else none
def dropOk (keep kb : List Nat) (s : Slots) (h : Heap) : Bool :=
  keep.all (fun i => (s.getD i (.pv .junk)).ids.all kb.contains) && kb.all (fun b => match h b with
    | some x => x.ids.all kb.contains
    | none => true)
def nilRows : List (Nat × Nat × TypeId × Nat) → Slots → Heap → Option (Slots × Heap)
  | [], s, h => some (s, h)
  | (n, b, e, sz) :: l, s, h => match s.getD n (.pv .junk) with
    | .pv .nil => if (h b).isSome ∨ sz = 0 then none else nilRows l (s.set n (.ref b 0)) (hupd h b (.row e sz [] true))
    | _ => none
def Wk.ap (w : Wk) (s : Slots) (h : Heap) : Option (Slots × Heap) := match w.keep with
  | none => nilRows w.nils s h
  | some (keep, kb) => if dropOk keep kb s h then nilRows w.nils (dropS keep s) (dropH kb h) else none
section
variable {W0 : World} {S0 : Stb} {s s' : Slots} {h h' : Heap} {a : Act} {W : World} {S : Stb} {β : Bta}
theorem Fr.drop (F : Fr W0 S0 s h a W S β) {keep kb : List Nat} (hd : dropOk keep kb s h = true) : Fr W0 S0 (dropS keep s) (dropH kb h) a W S β := by
  simp only [dropOk, Bool.and_eq_true, List.all_eq_true, List.contains_iff_mem] at hd
  obtain ⟨h1, h2⟩ := hd
  have hin : ∀ b x, dropH kb h b = some x → b ∈ kb ∧ h b = some x := by
    intro b x hx
    unfold dropH at hx
    by_cases hc : kb.contains b = true
    · rw [if_pos hc] at hx; exact ⟨by simpa using hc, hx⟩
    · rw [if_neg hc] at hx; cases hx
  have hin2 : ∀ b, b ∈ kb → dropH kb h b = h b := fun b hb => by unfold dropH; rw [if_pos (by simpa using hb)]
  have hsome : ∀ b, (dropH kb h b).isSome → (h b).isSome := fun b hb => by
    obtain ⟨x, hx⟩ := Option.isSome_iff_exists.1 hb
    simp [(hin b x hx).2]
  refine ⟨⟨fun b x hx => ?_, fun b b' k hb hb' => F.H.inj b b' k (hsome b hb) (hsome b' hb'), fun b k hb => F.H.fresh b k (hsome b hb), fun b x k o hx => F.H.sinv b x k o (hin b x hx).2, F.H.bnd⟩, fun n => ?_, by simp [dropS, F.sz], F.df, F.lo, F.up, F.dn⟩
  · obtain ⟨hbk, hx'⟩ := hin b x hx
    have := F.H.blk b x hx'
    cases x with
    | box cs m =>
      obtain ⟨k, cur, e, g1, g2, g3, g4⟩ := this
      refine ⟨k, cur, e, g1, g2, g3, fun j c hc => (g4 j c hc).kept (fun q hq => ⟨hin2 q ?_, rfl⟩)⟩
      have := h2 b hbk
      rw [hx'] at this
      exact by simpa using List.all_eq_true.1 this q (AV.idsL_mem hc hq)
    | row e sz es m => exact this
  · have hs := F.sl n
    unfold dropS
    by_cases hk : n ∈ keep
    · have hg : (s.mapIdx fun i x => if keep.contains i then x else AV.pv .junk).getD n (.pv .junk) = s.getD n (.pv .junk) := by
        simp only [List.getD, List.getElem?_mapIdx]
        cases s[n]? with
        | none => rfl
        | some x => simp [hk]
      rw [hg]
      exact hs.kept (fun b hb => ⟨hin2 b (h1 n hk b hb), rfl⟩)
    · have hg : (s.mapIdx fun i x => if keep.contains i then x else AV.pv .junk).getD n (.pv .junk) = .pv .junk := by
        simp only [List.getD, List.getElem?_mapIdx]
        cases s[n]? with
        | none => rfl
        | some x => simp [hk]
      rw [hg]
      exact .pv (.junk _)
theorem Fr.nils : ∀ (l : List (Nat × Nat × TypeId × Nat)) {s : Slots} {h : Heap} {β : Bta}, Fr W0 S0 s h a W S β → nilRows l s h = some (s', h') → ∃ β', Fr W0 S0 s' h' a W S β'
  | [], s, h, β, F, hn => by simp only [nilRows, Option.some.injEq, Prod.mk.injEq] at hn; obtain ⟨rfl, rfl⟩ := hn; exact ⟨β, F⟩
  | (n, b, e, sz) :: l, s, h, β, F, hn => by
    simp only [nilRows] at hn
    split at hn
    · rename_i hnil
      split at hn
      · cases hn
      · rename_i hcond
        rw [not_or] at hcond
        have hb : h b = none := by cases hh : h b <;> simp_all
        have E := Evo.attach (S := S) (W := W) (β := β) hb none (.row e sz [] true)
        have H' : HRel W0.heap.size S (bupd β b none) (hupd h b (.row e sz [] true)) W := F.H.attach hb ⟨by omega, fun i x hx => by simp at hx, .inl ⟨bupd_self _ _ _, rfl⟩⟩ (fun g hg => by cases hg)
        have F1 : Fr W0 S0 s (hupd h b (.row e sz [] true)) a W S (bupd β b none) := F.evo H' E (Below.refl _ _) (fun _ _ _ h => h)
        refine Fr.nils l (s := s.set n (.ref b 0)) (h := hupd h b (.row e sz [] true)) (β := bupd β b none) ?_ hn
        refine ⟨F1.H, fun m => ?_, by simpa using F1.sz, F1.df, F1.lo, F1.up, F1.dn⟩
        by_cases hm : n = m
        · subst hm
          have hs := F1.sl n
          rw [hnil] at hs
          by_cases hlt : n < s.length
          · have h1 : (s.set n (.ref b 0)).getD n (.pv .junk) = .ref b 0 := by simp [List.getD, hlt]
            rw [h1]
            generalize a.tmps.getD n undef = v at hs ⊢
            cases hs with
            | pv hp =>
              cases hp
              exact .ref (hupd_self _ _ _) (Nat.le_refl _) ⟨none, 0, rfl, Nat.le_refl _, Nat.zero_le _⟩ (fun _ => .inl ⟨bupd_self _ _ _, rfl, rfl⟩)
          · have : s.getD n (.pv .junk) = .pv .junk := by simp [List.getD, List.getElem?_eq_none (Nat.le_of_not_lt hlt)]
            rw [this] at hnil; cases hnil
        · have h1 : (s.set n (.ref b 0)).getD m (.pv .junk) = s.getD m (.pv .junk) := by simp [List.getD, List.getElem?_set_ne hm]
          rw [h1]; exact F1.sl m
    · cases hn
theorem Fr.wk (F : Fr W0 S0 s h a W S β) {w : Wk} (hw : w.ap s h = some (s', h')) : ∃ β', Fr W0 S0 s' h' a W S β' := by
  unfold Wk.ap at hw
  split at hw
  · exact Fr.nils _ F hw
  · split at hw
    · exact Fr.nils _ (F.drop ‹_›) hw
    · cases hw
end

/-- What is weaker of a frame. -/
def Le (s : Slots) (h : Heap) (s' : Slots) (h' : Heap) : Prop :=
  ∀ (W0 : World) (S0 : Stb) (a : Act) (W : World) (S : Stb) (β : Bta), Fr W0 S0 s h a W S β → ∃ S' β', Fr W0 S0 s' h' a W S' β'
theorem Le.refl (s : Slots) (h : Heap) : Le s h s h := fun _ _ _ _ S β F => ⟨S, β, F⟩
theorem Le.trans {s s' s'' : Slots} {h h' h'' : Heap} (H : Le s h s' h') (H' : Le s' h' s'' h'') : Le s h s'' h'' := fun W0 S0 a W S β F => by
  obtain ⟨S1, β1, F1⟩ := H W0 S0 a W S β F
  exact H' W0 S0 a W S1 β1 F1
theorem Le.wk {s s' : Slots} {h h' : Heap} {w : Wk} (hw : w.ap s h = some (s', h')) : Le s h s' h' := fun _ _ _ _ S β F => by
  obtain ⟨β', F'⟩ := F.wk hw
  exact ⟨S, β', F'⟩
/-- p says less than q. -/
def PLe (q p : PV) : Prop := ∀ S W v, RV S W q v → RV S W p v
theorem PLe.refl (p : PV) : PLe p p := fun _ _ _ h => h
theorem PLe.junk (p : PV) : PLe p .junk := fun _ _ v _ => .junk v
theorem PLe.nil : PLe .nil (.view []) := fun _ _ _ h => h.nil_view
theorem PLe.cap0 : PLe .cap0 (.view []) := fun _ _ _ h => h.cap0_view
theorem PLe.trans {p q r : PV} (h : PLe p q) (h' : PLe q r) : PLe p r := fun S W v hv => h' S W v (h S W v hv)
theorem PLe.agg {cs ds : List PV} (hn : cs.length = ds.length) (h : ∀ (i : Nat) (p q : PV), cs[i]? = some p → ds[i]? = some q → PLe p q) : PLe (.agg cs) (.agg ds) := by
  intro S W v hv
  cases hv with
  | agg _ vs h1 h2 =>
    refine .agg _ _ (by omega) (fun i q hq => ?_)
    have hlt : i < cs.length := by have := (List.getElem?_eq_some_iff.1 hq).1; omega
    exact h i _ q (List.getElem?_eq_getElem hlt) hq _ _ _ (h2 i _ (List.getElem?_eq_getElem hlt))
theorem Fr.setPv {W0 : World} {S0 : Stb} {s : Slots} {h' : Heap} {a : Act} {W : World} {S' : Stb} {β' : Bta} (F : Fr W0 S0 s h' a W S' β') {n : Nat} {x : AV} (hx : RA S' W β' h' x (a.tmps.getD n undef)) : Fr W0 S0 (s.set n x) h' a W S' β' := by
  refine ⟨F.H, fun m => ?_, by simpa using F.sz, F.df, F.lo, F.up, F.dn⟩
  by_cases hm : n = m
  · subst hm
    by_cases hlt : n < s.length
    · have h1 : (s.set n x).getD n (.pv .junk) = x := by simp [List.getD, hlt]
      rw [h1]; exact hx
    · have : s.set n x = s := List.set_eq_of_length_le (by omega)
      rw [this]; exact F.sl n
  · have h1 : (s.set n x).getD m (.pv .junk) = s.getD m (.pv .junk) := by simp [List.getD, List.getElem?_set_ne hm]
    rw [h1]; exact F.sl m
theorem Le.pv {s : Slots} {h : Heap} (n : Nat) {p q : PV} (hs : s.getD n (.pv .junk) = .pv p) (hp : PLe p q) : Le s h (s.set n (.pv q)) h := fun W0 S0 a W S β F => by
  have := F.sl n
  rw [hs] at this
  refine ⟨S, β, F.setPv ?_⟩
  generalize a.tmps.getD n undef = v at this ⊢
  cases this with
  | pv hr => exact .pv (hp _ _ _ hr)
theorem Fr.frz {W0 : World} {S0 : Stb} {s : Slots} {h : Heap} {a : Act} {W : World} {S : Stb} {β : Bta} (F : Fr W0 S0 s h a W S β) (ids : List Nat) : Fr W0 S0 s (hfrz h ids) a W (sfrz S β h ids) β :=
  F.evo (F.H.frz ids) (Evo.frz S W β h ids) (Below.refl _ _) (F.H.dn ids)
theorem Le.frz {s : Slots} {h : Heap} (n : Nat) {p : PV} {ids : List Nat} (hf : frz2 h (s.getD n (.pv .junk)) = some (p, ids)) : Le s h (s.set n (.pv p)) (hfrz h ids) := fun W0 S0 a W S β F =>
  ⟨_, β, (F.frz ids).setPv (.pv (frz2_ok F.H (F.sl n) hf ids (fun _ h => h)))⟩

/-! ### Code -/
inductive C
  | nop | ret
  | exit (id : Nat)
  | seq (a b : C)
  | cond (x : Opd) (a b : C)
  | blk (id : Nat) (c : C)
  | loop (c : C)
  | reg (is : List Ins)
  | drw (is : List Ins)
def comp (P : Program) : Code → Option C
  | .skip | .label _ => some .nop
  | .ret => some .ret
  | .exit id => some (.exit id)
  | .seq a b => match comp P a, comp P b with
    | some a, some b => some (.seq a b)
    | _, _ => none
  | .cond c a b => match opd c, comp P a, comp P b with
    | some c, some a, some b => some (.cond c a b)
    | _, _, _ => none
  | .block id c => (comp P c).map (.blk id)
  | .loop c => (comp P c).map .loop
  | .region _ ops draw => (listM (compIns P ops) ops.toList).map fun is => if draw then .drw is else .reg is
  | _ => none
inductive Ex | normal | exit (id : Nat) | ret
abbrev Post := Ex → Slots → Heap → Prop
def thenQ (K : Slots → Heap → Prop) (Q : Post) : Post
  | .normal => K
  | e => Q e
def blkQ (id : Nat) (Q : Post) : Post
  | .exit i => if i = id then Q .normal else Q (.exit i)
  | e => Q e
/-- What Q says of the machine. -/
def up (W0 : World) (S0 : Stb) (Q : Post) : Exit → Act → World → Prop
  | .normal, a, w => Holds W0 S0 (Q .normal) a w
  | .exit id, a, w => Holds W0 S0 (Q (.exit id)) a w
  | .ret, a, w => Holds W0 S0 (Q .ret) a w
  | _, _, _ => False
theorem its_from : ∀ (is xs : List Ins) (outs os : List Out) (n : Nat), xs.length = os.length → (∀ i, is[n + i]? = xs[i]?) → (∀ i, outs[n + i]? = os[i]?) → its is outs (List.range' n xs.length) = xs.zip os
  | is, [], outs, os, n, hl, h1, h2 => by simp [its]
  | is, x :: xs, outs, [], n, hl, h1, h2 => by simp at hl
  | is, x :: xs, outs, o :: os, n, hl, h1, h2 => by
    have e1 := h1 0
    have e2 := h2 0
    have ih := its_from is xs outs os (n + 1) (by simpa using hl) (fun i => by have := h1 (i + 1); rw [← Nat.add_assoc, Nat.add_right_comm] at this; simpa using this) (fun i => by have := h2 (i + 1); rw [← Nat.add_assoc, Nat.add_right_comm] at this; simpa using this)
    simp only [Nat.add_zero, List.getElem?_cons_zero] at e1 e2
    unfold its at ih ⊢
    rw [List.length_cons, List.range'_succ, List.filterMap_cons]
    simp only [e1, e2]
    rw [ih]; rfl
theorem its_zip {is : List Ins} {outs : List Out} (hl : outs.length = is.length) : its is outs (List.range is.length) = is.zip outs := by
  rw [List.range_eq_range']
  exact its_from is is outs outs 0 hl.symm (fun i => by simp) (fun i => by simp)
theorem Fr.drew {W0 : World} {S0 : Stb} {s : Slots} {h : Heap} {a : Act} {W : World} {S : Stb} {β : Bta} (F : Fr W0 S0 s h a W S β) : Fr W0 S0 s h a { W with drawn := W.drawn + 1 } S β := by
  have hb : Below W.heap.size W { W with drawn := W.drawn + 1 } := ⟨rfl, rfl, rfl, Nat.le_refl _, fun _ _ => rfl⟩
  exact F.evo (F.H.below hb) (Evo.below F.H hb) (hb.mono F.lo.size) (fun _ _ _ h => h)
theorem compIns_list {P : Program} {ops : Array Oper} {is : List Ins} (hc : listM (compIns P ops) ops.toList = some is) : ops.size = is.length ∧ ∀ (i : Nat) (x : Ins), is[i]? = some x → ∃ o, ops[i]? = some o ∧ compIns P ops o = some x := by
  obtain ⟨h1, h2⟩ := listM_ok hc
  refine ⟨by simpa using h1.symm, fun i x hx => ?_⟩
  obtain ⟨o, ho, hco⟩ := h2 i x hx
  exact ⟨o, by simpa using ho, hco⟩

/-- From the frame (s, h), the code ends in Q. -/
def WP (P : Program) (c : C) (s : Slots) (h : Heap) (Q : Post) : Prop :=
  ∀ code, comp P code = some c → ∀ (W0 : World) (S0 : Stb) (a : Act) (W : World) (S : Stb) (β : Bta), Fr W0 S0 s h a W S β → code.wp P (up W0 S0 Q) a W
section
variable {P : Program} {s : Slots} {h : Heap} {Q : Post}
theorem WP.mono {c : C} {Q' : Post} (hw : WP P c s h Q) (hq : ∀ e s h, Q e s h → Q' e s h) : WP P c s h Q' := fun code hc W0 S0 a W S β F =>
  wp_mono (hw code hc W0 S0 a W S β F) (fun e a w he => by
    cases e <;> simp only [up] at he ⊢ <;> first | exact he | (obtain ⟨s, h, S, β, h1, h2⟩ := he; exact ⟨s, h, S, β, hq _ _ _ h1, h2⟩))
theorem WP.le {c : C} {s' : Slots} {h' : Heap} (hl : Le s h s' h') (hw : WP P c s' h' Q) : WP P c s h Q := fun code hc W0 S0 a W S β F => by
  obtain ⟨S', β', F'⟩ := hl _ _ _ _ _ _ F
  exact hw code hc _ _ _ _ _ _ F'
theorem comp_region {id : Nat} {ops : Array Oper} {draw : Bool} {c : C} (hc : comp P (.region id ops draw) = some c) : ∃ is, listM (compIns P ops) ops.toList = some is ∧ c = if draw then .drw is else .reg is := by
  obtain ⟨is, h1, rfl⟩ := Option.map_eq_some_iff.1 hc
  exact ⟨is, h1, rfl⟩
theorem WP.nop (hq : Q .normal s h) : WP P .nop s h Q := by
  intro code hc W0 S0 a W S β F
  cases code <;> (try simp only [comp] at hc) <;> (try (first | (exact wp_skip ⟨s, h, S, β, hq, F⟩) | (exact wp_label ⟨s, h, S, β, hq, F⟩)))
  all_goals (try (cases hc; done))
  all_goals (first
    | (obtain ⟨is, h1, h2⟩ := comp_region (P := P) (id := 0) hc; split at h2 <;> cases h2; done)
    | (obtain ⟨x, h1, h2⟩ := Option.map_eq_some_iff.1 hc; cases h2; done)
    | (split at hc <;> cases hc; done))
theorem WP.ret (hq : Q .ret s h) : WP P .ret s h Q := by
  intro code hc W0 S0 a W S β F
  cases code <;> (try simp only [comp] at hc) <;> (try exact wp_ret ⟨s, h, S, β, hq, F⟩)
  all_goals (try (cases hc; done))
  all_goals (first
    | (obtain ⟨is, h1, h2⟩ := comp_region (P := P) (id := 0) hc; split at h2 <;> cases h2; done)
    | (obtain ⟨x, h1, h2⟩ := Option.map_eq_some_iff.1 hc; cases h2; done)
    | (split at hc <;> cases hc; done))
theorem WP.exit {id : Nat} (hq : Q (.exit id) s h) : WP P (.exit id) s h Q := by
  intro code hc W0 S0 a W S β F
  cases code <;> (try simp only [comp] at hc) <;> (try (cases hc; exact wp_exit ⟨s, h, S, β, hq, F⟩))
  all_goals (try (cases hc; done))
  all_goals (first
    | (obtain ⟨is, h1, h2⟩ := comp_region (P := P) (id := 0) hc; split at h2 <;> cases h2; done)
    | (obtain ⟨x, h1, h2⟩ := Option.map_eq_some_iff.1 hc; cases h2; done)
    | (split at hc <;> cases hc; done))
theorem WP.seq {x y : C} (hw : WP P x s h (thenQ (fun s h => WP P y s h Q) Q)) : WP P (.seq x y) s h Q := by
  intro code hc W0 S0 a W S β F
  cases code
  case seq u v =>
    simp only [comp] at hc
    split at hc
    · rename_i cx cy h1 h2
      cases hc
      refine wp_seq (wp_mono (hw u h1 W0 S0 a W S β F) (fun e a w he => ?_))
      cases e <;> simp only [up, thenQ, Exit.then] at he ⊢ <;> try exact he
      obtain ⟨s', h', S', β', hq, F'⟩ := he
      exact hq v h2 _ _ _ _ _ _ F'
    · cases hc
  all_goals (try simp only [comp] at hc)
  all_goals (try (cases hc; done))
  all_goals (first
    | (obtain ⟨is, h1, h2⟩ := comp_region (P := P) (id := 0) hc; split at h2 <;> cases h2; done)
    | (obtain ⟨x, h1, h2⟩ := Option.map_eq_some_iff.1 hc; cases h2; done)
    | (split at hc <;> cases hc; done))
theorem WP.cond {x : Opd} {p q : C} (t : Bool) (ht : ev s x = .pv (.bool t)) (hw : if t then WP P p s h Q else WP P q s h Q) : WP P (.cond x p q) s h Q := by
  intro code hc W0 S0 a W S β F
  cases code
  case cond u v w =>
    simp only [comp] at hc
    split at hc
    · rename_i x' cp cq h1 h2 h3
      cases hc
      have hv := bool_of (F.Sl.opd h1) ht
      refine wp_cond hv ?_
      cases t
      · exact hw w h3 _ _ _ _ _ _ F
      · exact hw v h2 _ _ _ _ _ _ F
    · cases hc
  all_goals (try simp only [comp] at hc)
  all_goals (try (cases hc; done))
  all_goals (first
    | (obtain ⟨is, h1, h2⟩ := comp_region (P := P) (id := 0) hc; split at h2 <;> cases h2; done)
    | (obtain ⟨x, h1, h2⟩ := Option.map_eq_some_iff.1 hc; cases h2; done)
    | (split at hc <;> cases hc; done))
theorem WP.blk {id : Nat} {x : C} (hw : WP P x s h (blkQ id Q)) : WP P (.blk id x) s h Q := by
  intro code hc W0 S0 a W S β F
  cases code
  case block id' u =>
    obtain ⟨cx, h1, h2⟩ := Option.map_eq_some_iff.1 hc
    cases h2
    refine wp_block (wp_mono (hw u h1 W0 S0 a W S β F) (fun e a w he => ?_))
    cases e <;> simp only [up, blkQ, Exit.inBlock] at he ⊢ <;> try exact he
    rename_i i
    split
    · rename_i hi; subst hi; simpa using he
    · rename_i hi; simpa [hi] using he
  all_goals (try simp only [comp] at hc)
  all_goals (try (cases hc; done))
  all_goals (first
    | (obtain ⟨is, h1, h2⟩ := comp_region (P := P) (id := 0) hc; split at h2 <;> cases h2; done)
    | (obtain ⟨x, h1, h2⟩ := Option.map_eq_some_iff.1 hc; cases h2; done)
    | (split at hc <;> cases hc; done))
/-- A loop: rounds counted down. -/
theorem WP.loop {x : C} (I : Nat → Slots → Heap → Prop) (n : Nat) (h0 : I n s h) (hr : ∀ n s h, I n s h → WP P x s h (thenQ (fun s h => ∃ m, m < n ∧ I m s h) Q)) : WP P (.loop x) s h Q := by
  intro code hc W0 S0 a W S β F
  cases code
  case loop u =>
    obtain ⟨cx, h1, h2⟩ := Option.map_eq_some_iff.1 hc
    cases h2
    intro b k cs
    have key : ∀ n (s : Slots) (h : Heap) (a : Act) (W : World) (S : Stb) (β : Bta), I n s h → Fr W0 S0 s h a W S β →
        ∃ e a' w', up W0 S0 Q e a' w' ∧ Arrives P (lone (b.at a (.code u :: .inLoop u :: k)) cs W) b k cs e a' w' := by
      intro n
      induction n using Nat.strongRecOn with
      | _ n ihn =>
        intro s h a W S β hI F
        obtain ⟨e, a₁, w₁, hq, harr⟩ := hr n s h hI u h1 W0 S0 a W S β F b (.inLoop u :: k) cs
        cases e with
        | normal =>
          obtain ⟨s2, h2, S2, β2, ⟨m, hm, hl2⟩, F2⟩ := hq
          obtain ⟨e₂, a₂, w₂, hq₂, harr₂⟩ := ihn m hm s2 h2 a₁ w₁ S2 β2 hl2 F2
          exact ⟨e₂, a₂, w₂, hq₂, .of_steps (Steps.trans harr (.one step_inLoop)) harr₂⟩
        | exit id => exact ⟨.exit id, a₁, w₁, hq, .pass (x := .inLoop u) rfl (fun _ _ => .inl (by simp)) harr⟩
        | ret => exact ⟨.ret, a₁, w₁, hq, .pass (x := .inLoop u) rfl (fun _ _ => .inl (by simp)) harr⟩
        | goto l => exact hq.elim
        | panic ch => exact hq.elim
        | outgrown => exact hq.elim
    obtain ⟨e, a', w', hq, harr⟩ := key n s h a W S β h0 F
    exact ⟨e, a', w', hq, .of_steps (.one step_loop) harr⟩
  all_goals (try simp only [comp] at hc)
  all_goals (try (cases hc; done))
  all_goals (first
    | (obtain ⟨is, h1, h2⟩ := comp_region (P := P) (id := 0) hc; split at h2 <;> cases h2; done)
    | (obtain ⟨x, h1, h2⟩ := Option.map_eq_some_iff.1 hc; cases h2; done)
    | (split at hc <;> cases hc; done))
theorem WP.reg {is : List Ins} (hw : wpR P is s h (Q .normal)) : WP P (.reg is) s h Q := by
  intro code hc W0 S0 a W S β F
  cases code
  case region id ops draw =>
    obtain ⟨is', h1, h2⟩ := comp_region (P := P) (id := 0) hc
    cases draw
    · simp only [Bool.false_eq_true, if_false, C.reg.injEq] at h2
      subst h2
      obtain ⟨hn, hx⟩ := compIns_list h1
      refine wp_region (wpR_ok (K := Q .normal) (fun a W hh => hh) (List.range ops.size) is s h a W S β (by simpa using hn) ?_ F hw)
      intro j i x hj hxj
      rcases Nat.lt_or_ge j ops.size with hlt | hge
      · rw [List.getElem?_range hlt] at hj; cases hj
        exact hx j x hxj
      · rw [List.getElem?_eq_none (by simpa using hge)] at hj; cases hj
    · cases h2
  all_goals (try simp only [comp] at hc)
  all_goals (try (cases hc; done))
  all_goals (first
    | (obtain ⟨x, h1, h2⟩ := Option.map_eq_some_iff.1 hc; cases h2; done)
    | (split at hc <;> cases hc; done))
theorem WP.drw {is : List Ins} (hmix : P.follows .mixedOrders = true) (hw : wpD P is s h [] (fun outs s h => okD is outs = true ∧ Q .normal s h)) : WP P (.drw is) s h Q := by
  intro code hc W0 S0 a W S β F
  cases code
  case region id ops draw =>
    obtain ⟨is', h1, h2⟩ := comp_region (P := P) (id := 0) hc
    cases draw
    · cases h2
    · simp only [if_true, C.drw.injEq] at h2
      subst h2
      obtain ⟨hn, hx⟩ := compIns_list h1
      obtain ⟨outs, sf, hf, b1, b2, b3, b4⟩ := RunL.of_wpD is s h [] hw
      refine wp_region_any hmix ?_
      simp only [List.nil_append] at b3
      have htodo : todo ops.size (Array.replicate ops.size false) = List.range is.length := by
        unfold todo
        rw [hn, List.filter_eq_self]
        intro i hi
        have := List.mem_range.1 hi
        simp [this]
      refine wpAny_ok (K := Q .normal) (is := is) (outs := outs) (fun a W hh => hh) hn hx b3 b4 _ _ s h a _ S β (by simp) ?_ ?_ ?_ F.drew
      · rw [htodo]; simpa using hn.symm
      · intro j hj
        simp only [Array.getD_eq_getD_getElem?, Array.getElem?_replicate] at hj
        split at hj <;> simp at hj
      · rw [htodo, its_zip b1]; exact b2
  all_goals (try simp only [comp] at hc)
  all_goals (try (cases hc; done))
  all_goals (first
    | (obtain ⟨x, h1, h2⟩ := Option.map_eq_some_iff.1 hc; cases h2; done)
    | (split at hc <;> cases hc; done))
end
end Go.Proofs.Ytnojmocoifodjaa.Pv
set_option linter.unusedVariables false
set_option linter.unusedSimpArgs false
namespace Go.Proofs.Ytnojmocoifodjaa.Pv
open Go Go.RowKit

/-! ### What is handed back -/
inductive Rs | tmp (n : Nat) | cell (k : Option Nat) (n : Nat)
def compR (P : Program) : ResultVar → Option Rs
  | .tmp t => some (.tmp t)
  | .cell a t => match (P.underlying t).map isAggD, szOf P t with
    | some true, some n => some (.cell (some n) a)
    | some false, some _ => some (.cell none a)
    | _, _ => none
def resV (s : Slots) (h : Heap) : Rs → Option AV
  | .tmp n => some (s.getD n (.pv .junk))
  | .cell k n => match s.getD n (.pv .junk) with
    | .ptr b off => match boxOf h b with
      | some cs => match k with
        | none => cs[off]?
        | some n => if off + n ≤ cs.length then some (.agg ((cs.drop off).take n)) else none
      | none => none
    | _ => none
def resVs (s : Slots) (h : Heap) : List Rs → Option AV
  | [r] => resV s h r
  | l => (listM (resV s h) l).map .tup
def getR (tmps : Array Value) : ResultVar → Sem Value
  | .tmp t => pure (tmps.getD t undef)
  | .cell q t => do loadVar t (← asAddr (tmps.getD q undef))
section
variable {P : Program} {W0 : World} {S0 : Stb} {s : Slots} {h : Heap} {a : Act} {W : World} {S : Stb} {β : Bta}
theorem res_ok (F : Fr W0 S0 s h a W S β) {r : ResultVar} {r' : Rs} (hr : compR P r = some r') {x : AV} (hx : resV s h r' = some x) :
    ∃ v, (getR a.tmps r).run P W = .ok v W ∧ RA S W β h x v := by
  cases r with
  | tmp t =>
    simp only [compR, Option.some.injEq] at hr; subst hr
    simp only [resV, Option.some.injEq] at hx; subst hx
    exact ⟨_, rfl, F.sl t⟩
  | cell q t =>
    have hs := F.sl q
    simp only [compR] at hr
    cases hu : P.underlying t with
    | none => simp [hu] at hr
    | some d =>
      have key : ∀ (k : Option Nat), resV s h (.cell k q) = some x → ∃ (g off : Nat) (cs : List AV) (cur : Nat → Value) (m : Nat), a.tmps.getD q undef = .pointer (some ⟨g, off, none⟩) ∧ (∀ (j : Nat) (c : AV), (List.drop off cs)[j]? = some c → W.cell? ⟨g, off + j, none⟩ = some (cur j) ∧ RA S W β h c (cur j)) ∧
          (match k with | none => cs[off]? | some n => if off + n ≤ cs.length then some (AV.agg ((cs.drop off).take n)) else none) = some x ∧ m = cs.length := by
        intro k hk
        simp only [resV] at hk
        split at hk
        · rename_i b off heq
          rw [heq] at hs
          obtain ⟨g, cs0, m0, hv, hg, hbox⟩ := ptr_of hs rfl
          simp only [boxOf, hbox] at hk
          obtain ⟨g', cur, e, h1, h2, h3, h4⟩ := F.H.blk _ _ hbox
          rw [hg] at h1; cases h1
          refine ⟨g, off, cs0, fun j => cur.getD (off + j) undef, _, hv, fun j c hc => ?_, hk, rfl⟩
          rw [List.getElem?_drop] at hc
          have := (List.getElem?_eq_some_iff.1 hc).1
          exact ⟨by rw [cell_row h2]; exact getD_some (by omega), h4 _ _ hc⟩
        · cases hk
      have hagg : (isAgg t).run P W = .ok (isAggD d) W := by
        unfold isAgg
        rw [Sem.run_bind, run_underlying hu W]
        cases d <;> rfl
      simp only [hu, Option.map_some] at hr
      split at hr
      · rename_i n h1 h2
        cases hr
        obtain ⟨g, off, cs, cur, m, e1, e2, e3, e4⟩ := key _ hx
        simp only [] at e3
        split at e3
        · rename_i hle
          cases e3
          refine ⟨.agg ((List.range n).map cur).toArray, ?_, .agg (by simp; omega) ?_⟩
          · simp only [getR]
            rw [e1]
            have := run_loadVar_mid (P := P) W g off t ((List.range n).map cur) d (by
              intro j v hj
              simp only [List.getElem?_map] at hj
              rcases Nat.lt_or_ge j n with hjn | hjn
              · rw [List.getElem?_range hjn] at hj
                simp at hj; subst hj
                exact (e2 j _ (List.getElem?_eq_getElem (by simp; omega))).1
              · rw [List.getElem?_eq_none (by simp; omega)] at hj; simp at hj) hu (by cases d <;> simp_all [isAggD, TypeDesc.isRow]) (by unfold szOf at h2; rw [h2]; simp)
            simp [getR, asAddr, this]
          · intro j c hj
            rw [List.getElem?_take] at hj
            split at hj
            · rename_i hjn
              have : (((List.range n).map cur).toArray).getD j undef = cur j := by simp [hjn]
              rw [this]
              exact (e2 j c hj).2
            · cases hj
        · cases e3
      · rename_i n h1 h2
        cases hr
        obtain ⟨g, off, cs, cur, m, e1, e2, e3, e4⟩ := key _ hx
        simp only [] at e3
        obtain ⟨f1, f2⟩ := e2 0 x (by rw [List.getElem?_drop]; exact e3)
        rw [Nat.add_zero] at f1
        refine ⟨cur 0, ?_, f2⟩
        simp only [getR]
        rw [e1]
        have h1 : isAggD d = false := Option.some.inj h1
        rw [h1] at hagg
        simp [getR, asAddr, loadVar, hagg, f1, Result.andThen]
      · cases hr
theorem resL_ok (F : Fr W0 S0 s h a W S β) : ∀ {l : List ResultVar} {rs : List Rs}, listM (compR P) l = some rs → ∀ {xs : List AV}, listM (resV s h) rs = some xs →
    ∃ vs : List Value, (l.mapM (getR a.tmps)).run P W = .ok vs W ∧ vs.length = xs.length ∧ ∀ (i : Nat) (x : AV), xs[i]? = some x → RA S W β h x ((vs[i]?).getD undef)
  | [], rs, hl, xs, hx => by
    simp only [listM, Option.some.injEq] at hl; subst hl
    simp only [listM, Option.some.injEq] at hx; subst hx
    exact ⟨[], rfl, rfl, fun i x hx => by simp at hx⟩
  | r :: l, rs, hl, xs, hx => by
    simp only [listM] at hl
    split at hl
    · rename_i r' m h1 h2
      cases hl
      simp only [listM] at hx
      split at hx
      · rename_i x xs' h3 h4
        cases hx
        obtain ⟨v, b1, b2⟩ := res_ok F h1 h3
        obtain ⟨vs, c1, c2, c3⟩ := resL_ok F h2 h4
        refine ⟨v :: vs, ?_, by simp [c2], fun i y hy => ?_⟩
        · rw [List.mapM_cons, Sem.run_bind, b1]
          simp [Result.andThen, Sem.run_bind, c1]
        · cases i with
          | zero => simp at hy; subst hy; simpa using b2
          | succ i => simpa using c3 i y (by simpa using hy)
      · cases hx
    · cases hl
theorem results_eq (fn : Func) (tmps : Array Value) : results fn tmps = (do
    let vs ← fn.results.toList.mapM (getR tmps)
    pure (if h : vs.toArray.size = 1 then vs.toArray[0] else .tuple vs.toArray)) := by
  have e : getR tmps = (fun | .tmp t => pure (tmps.getD t undef) | .cell a t => (do loadVar t (← asAddr (tmps.getD a undef)))) := by funext x; cases x <;> rfl
  rw [e]
  unfold results
  rw [Array.mapM_eq_mapM_toList]
  simp
  refine congrArg _ (congrArg (fun f => List.mapM f _) (funext fun x => ?_))
  cases x <;> rfl
theorem resVs_ok (F : Fr W0 S0 s h a W S β) {fn : Func} {rs : List Rs} (hr : listM (compR P) fn.results.toList = some rs) {x : AV} (hx : resVs s h rs = some x) :
    ∃ v, (results fn a.tmps).run P W = .ok v W ∧ RA S W β h x v := by
  have key : ∀ xs, listM (resV s h) rs = some xs → (∀ y, xs = [y] → x = y) → (xs.length ≠ 1 → x = .tup xs) → ∃ v, (results fn a.tmps).run P W = .ok v W ∧ RA S W β h x v := by
    intro xs hxs h1 h2
    obtain ⟨vs, b1, b2, b3⟩ := resL_ok F hr hxs
    rw [results_eq]
    refine ⟨_, by rw [Sem.run_bind, b1]; rfl, ?_⟩
    by_cases hl : xs.length = 1
    · match xs, vs, hl, b2 with
      | [y], [v], _, _ =>
        rw [h1 y rfl]
        simpa using b3 0 y rfl
    · rw [dif_neg (by simpa [b2] using hl), h2 hl]
      refine .tup (by simpa using b2) (fun i y hy => ?_)
      have := b3 i y hy
      rw [getD_toList]
      exact this
  unfold resVs at hx
  split at hx
  · rename_i r
    exact key [x] (by simp [listM, hx]) (fun y hy => by cases hy; rfl) (fun h => absurd rfl h)
  · rename_i hne
    obtain ⟨xs, hxs, rfl⟩ := Option.map_eq_some_iff.1 hx
    have hlen := (listM_ok hxs).1
    refine key xs hxs (fun y hy => ?_) (fun _ => rfl)
    subst hy
    exfalso
    match rs, hlen with
    | [r], _ => exact hne r rfl
end

/-! ### The value that leaves -/
/-- What holds of x in (h) holds of y in (h'), with more cells laid still. -/
def FS (h : Heap) (x : AV) (h' : Heap) (y : AV) : Prop :=
  ∀ (B : Nat) (S : Stb) (β : Bta) (W : World) (v : Value), HRel B S β h W → RA S W β h x v →
    ∃ S' β', (∀ k o, S k o → S' k o) ∧ (∀ k o, k < B → S' k o → S k o) ∧ HRel B S' β' h' W ∧ RA S' W β' h' y v
theorem FS.refl (h : Heap) (x : AV) : FS h x h x := fun B S β W v H hx => ⟨S, β, fun _ _ h => h, fun _ _ _ h => h, H, hx⟩
theorem FS.trans {h h' h'' : Heap} {x y z : AV} (a : FS h x h' y) (b : FS h' y h'' z) : FS h x h'' z := fun B S β W v H hx => by
  obtain ⟨S1, β1, a1, a2, H1, x1⟩ := a B S β W v H hx
  obtain ⟨S2, β2, b1, b2, H2, x2⟩ := b B S1 β1 W v H1 x1
  exact ⟨S2, β2, fun k o h => b1 k o (a1 k o h), fun k o hk h => a2 k o hk (b2 k o hk h), H2, x2⟩
theorem HRel.empty {B : Nat} {S : Stb} {β : Bta} {h : Heap} {W : World} (H : HRel B S β h W) : HRel B S (fun _ => none) (heapL []) W :=
  ⟨fun b x hx => by simp [heapL] at hx, fun b b' k hb => by simp [heapL] at hb, fun b k hb => by simp [heapL] at hb, fun b x k o hx => by simp [heapL] at hx, H.bnd⟩
theorem FS.pv (h : Heap) {p q : PV} (hp : PLe p q) : FS h (.pv p) (heapL []) (.pv q) := fun B S β W v H hx => by
  cases hx with
  | pv hr => exact ⟨S, _, fun _ _ h => h, fun _ _ _ h => h, H.empty, .pv (hp _ _ _ hr)⟩
theorem FS.frz {h : Heap} {x : AV} {p : PV} {ids : List Nat} (hf : frz2 h x = some (p, ids)) : FS h x (hfrz h ids) (.pv p) := fun B S β W v H hx =>
  ⟨_, β, fun _ _ h => .inl h, H.dn ids, H.frz ids, .pv (frz2_ok H hx hf ids (fun _ h => h))⟩
theorem FS.out {h : Heap} {x : AV} {p q : PV} {ids : List Nat} (hf : frz2 h x = some (p, ids)) (hp : PLe p q) : FS h x (heapL []) (.pv q) := (FS.frz hf).trans (FS.pv _ hp)
/-- Several values, each laid still. -/
theorem FS.outs {h : Heap} {xs : List AV} {ps qs : List PV} {ids : List Nat} (hf : frzL (frz2 h) xs = some (ps, ids)) (hq : qs.length = ps.length) (hp : ∀ (i : Nat) (p q : PV), ps[i]? = some p → qs[i]? = some q → PLe p q) : FS h (.tup xs) (heapL []) (.tup (qs.map .pv)) := by
  intro B S β W v H hx
  cases hx with
  | @tup _ vs hn hR =>
    obtain ⟨h5, h6⟩ := frzL_ok (R := RV (sfrz S β h ids) W) (L := ids) hf (fun _ h => h) (fun j => vs.getD j undef) (fun i y hy q r hq hr' => frz2_ok H (hR i y hy) hq ids hr')
    refine ⟨_, _, fun _ _ h => .inl h, H.dn ids, (H.frz ids).empty, .tup (by simp; omega) (fun i y hy => ?_)⟩
    obtain ⟨q, hqi, rfl⟩ := pvmap_get hy
    have hlt : i < ps.length := by have := (List.getElem?_eq_some_iff.1 hqi).1; omega
    exact .pv (hp i _ q (List.getElem?_eq_getElem hlt) hqi _ _ _ (h6 i _ (List.getElem?_eq_getElem hlt)))
/-- A row that is handed over, to be written on. -/
theorem FS.row {h : Heap} {b n : Nat} {e : TypeId} {sz : Nat} {es : List PV} {m : Bool} (hb : h b = some (.row e sz es m)) : FS h (.ref b n) (heapL [.row e sz es m]) (.ref 0 n) := by
  intro B S β W v H hx
  have hL : ∀ q y, heapL [.row e sz es m] q = some y → q = 0 ∧ y = .row e sz es m := by
    intro q y hq
    unfold heapL at hq
    cases q with
    | zero => simp at hq; exact ⟨rfl, hq.symm⟩
    | succ q => simp at hq
  have hsome : ∀ q, (heapL [.row e sz es m] q).isSome → q = 0 := fun q hq => by
    obtain ⟨y, hy⟩ := Option.isSome_iff_exists.1 hq
    exact (hL q y hy).1
  have hbs : (h b).isSome := by simp [hb]
  refine ⟨S, fun i => if i = 0 then β b else none, fun _ _ h => h, fun _ _ _ h => h, ⟨fun q y hq => ?_, fun q q' k hq hq' h1 h2 => ?_, fun q k hq h1 => ?_, fun q y k o hq h1 h2 => ?_, H.bnd⟩, ?_⟩
  · obtain ⟨rfl, rfl⟩ := hL q y hq
    have := H.blk b _ hb
    simpa [BlkRel] using this
  · rw [hsome q hq, hsome q' hq']
  · have := hsome q hq; subst this
    exact H.fresh b k hbs (by simpa using h1)
  · obtain ⟨rfl, rfl⟩ := hL q y hq
    exact H.sinv b _ k o hb (by simpa using h1) h2
  · cases hx with
    | ref hb' hn hv hc =>
      rw [hb] at hb'; cases hb'
      exact .ref (by rfl) hn hv (fun hh => by have := hc hh; simpa [Cur] using this)

/-! ### A function -/
def RetQ (rs : List Rs) (r : AV) (L : List Blk) : Post
  | .normal, s, h | .ret, s, h => ∃ x, resVs s h rs = some x ∧ FS h x (heapL L) r
  | .exit _, _, _ => False
def start (args : List PV) (n : Nat) : Slots := args.map .pv ++ List.replicate (n - args.length) (.tup [])
theorem CallsV.of {P : Program} {f : FuncId} {args : List PV} {r : AV} {L : List Blk} {fn : Func} {body : Code} {c : C} {rs : List Rs}
    (hf : P.funcs[f]? = some fn) (hname : (fn.name == "runtime.NumGoroutine") = false) (hb : fn.body = some body) (hc : comp P body = some c) (hr : listM (compR P) fn.results.toList = some rs)
    (hw : WP P c (start args fn.ntmps) (fun _ => none) (RetQ rs r L)) : CallsV P f args r L := by
  refine ⟨⟨fn, hf, hname, by rw [hb]; rfl⟩, fun S W vs hS hn hR => ?_⟩
  refine calls_of_wp hf hb (wp_mono (hw body hc W S _ W S (fun _ => none) ⟨⟨fun b x hx => (by cases hx), fun b b' k hb => (by cases hb), fun b k hb => (by cases hb), fun b x k o hx => (by cases hx), hS⟩, fun n => ?_, ?_, rfl, Below.refl _ _, fun _ _ h => h, fun _ _ _ h => h⟩) (fun e a w he => ?_))
  · rw [getD_toList]
    simp only [start, Array.toList_append, Array.toList_replicate, List.getD]
    rcases Nat.lt_or_ge n args.length with h1 | h1
    · rw [List.getElem?_append_left (by simpa using h1), List.getElem?_append_left (by simp; omega), List.getElem?_map, List.getElem?_eq_getElem h1]
      have := hR n _ (List.getElem?_eq_getElem h1)
      rw [getD_toList] at this
      exact .pv this
    · rw [List.getElem?_append_right (by simpa using h1), List.getElem?_append_right (by simp; omega)]
      simp only [List.length_map, List.getElem?_replicate, Array.length_toList, hn]
      split
      · exact undef_ok
      · exact .pv (.junk _)
  · simp [start, hn]
  · cases e with
    | normal | ret =>
      obtain ⟨s, h, S', β, ⟨x, hx, hfs⟩, F⟩ := he
      obtain ⟨v, hv, hra⟩ := resVs_ok F hr hx
      obtain ⟨S2, β2, b1, b2, b3, b4⟩ := hfs _ _ _ _ _ F.H hra
      exact ⟨F.df, v, hv, v, β2, S2, rfl, F.lo, fun k o h => b1 k o (F.up k o h), fun k o hk h => F.dn k o hk (b2 k o hk h), b3, b4⟩
    | exit id => obtain ⟨s, h, S', β, hq, F⟩ := he; exact hq.elim
    | goto l => exact he.elim
    | panic ch => exact he.elim
    | outgrown => exact he.elim
end Go.Proofs.Ytnojmocoifodjaa.Pv
set_option linter.unusedVariables false
set_option linter.unusedSimpArgs false
namespace Go.Proofs.Ytnojmocoifodjaa.Pv
open Go Go.RowKit

/-! ### Heaps ars lists -/
abbrev HL := List (Nat × Blk)
def hget : HL → Nat → Option Blk
  | [], _ => none
  | (b, x) :: l, i => if i = b then some x else hget l i
def hput : HL → Nat → Blk → HL
  | [], b, x => [(b, x)]
  | (c, y) :: l, b, x => if c = b then (b, x) :: l else (c, y) :: hput l b x
theorem hget_put : ∀ (l : HL) (b : Nat) (x : Blk), hget (hput l b x) = hupd (hget l) b x
  | [], b, x => by funext i; simp [hput, hget, hupd]
  | (c, y) :: l, b, x => by
    funext i
    unfold hput
    split
    · rename_i h; subst h
      simp only [hget, hupd]
      split <;> simp_all
    · rename_i h
      have := congrFun (hget_put l b x) i
      simp only [hget, hupd] at this ⊢
      split
      · rename_i h2; subst h2; simp [h]
      · exact this
def frzHL (l : HL) (ids : List Nat) : HL := match ids with
  | [] => l
  | _ => l.map fun (b, x) => (b, if b ∈ ids then x.frz else x)
theorem hget_frz (l : HL) (ids : List Nat) : hget (frzHL l ids) = hfrz (hget l) ids := by
  unfold frzHL
  split
  · funext i; simp [hfrz]
  · rename_i ids _
    funext i
    induction l with
    | nil => simp [hget, hfrz]
    | cons a l ih =>
      obtain ⟨b, x⟩ := a
      simp only [List.map_cons, hget, hfrz] at ih ⊢
      split
      · rename_i h; subst h; split <;> rfl
      · rw [ih]
def attHL (l : HL) (k : Nat) : List Blk → HL
  | [] => l
  | x :: L => hput (attHL l (k + 1) L) k x
theorem hget_att (l : HL) : ∀ (L : List Blk) (k : Nat), hget (attHL l k L) = Upd.ap (hget l) (.att k L)
  | [], k => by funext q; simp only [attHL, Upd.ap, List.length_nil]; rw [if_neg (by omega)]
  | x :: L, k => by
    funext q
    rw [attHL, hget_put, hget_att l L (k + 1)]
    simp only [hupd, Upd.ap, List.length_cons]
    by_cases h1 : q = k
    · subst h1; simp
    · rw [if_neg h1]
      by_cases h2 : k + 1 ≤ q ∧ q < k + 1 + L.length
      · rw [if_pos h2, if_pos ⟨by omega, by omega⟩, show q - k = (q - (k + 1)) + 1 by omega, List.getElem?_cons_succ]
      · rw [if_neg h2, if_neg (by omega)]
def Upd.apL (l : HL) : Upd → HL
  | .new b x => hput l b x
  | .frz ids => frzHL l ids
  | .row b es => match hget l b with
    | some (.row e sz _ m) => hput l b (.row e sz es m)
    | _ => l
  | .box b cs => match hget l b with
    | some (.box _ m) => hput l b (.box cs m)
    | _ => l
  | .att k L => attHL l k L
theorem Upd.apL_ok (l : HL) (u : Upd) : hget (u.apL l) = u.ap (hget l) := by
  cases u with
  | new b x => exact hget_put _ _ _
  | frz ids => exact hget_frz _ _
  | row b es => simp only [Upd.apL, Upd.ap]; split <;> rename_i h <;> simp only [h]; exact hget_put _ _ _
  | box b cs => simp only [Upd.apL, Upd.ap]; split <;> rename_i h <;> simp only [h]; exact hget_put _ _ _
  | att k L => exact hget_att _ _ _
def Out.heapL (o : Out) (l : HL) : HL := o.up.foldl Upd.apL l
theorem ups_L : ∀ (us : List Upd) (l : HL), hget (us.foldl Upd.apL l) = us.foldl Upd.ap (hget l)
  | [], _ => rfl
  | u :: us, l => by simp only [List.foldl_cons]; rw [ups_L us, Upd.apL_ok]
theorem Out.heapL_ok (o : Out) (l : HL) : hget (o.heapL l) = o.heap (hget l) := ups_L o.up l

/-! ### Plain operations run -/
def stepO (x : Ins) (s : Slots) (h : Heap) : Option Out := match gd s x.g with
  | .no => some skipOut
  | .yes => sem x.i (x.dst.getD 0) s h
  | .bad => none
theorem stepO_ok {P : Program} {x : Ins} {s : Slots} {h : Heap} {o : Out} (hs : stepO x s h = some o) : SO P x s h o := by
  unfold stepO at hs
  split at hs
  · rename_i hg; cases hs; exact .inl ⟨hg, rfl⟩
  · rename_i hg
    refine .inr ⟨hg, ?_⟩
    split
    · rename_i f ars heq; rw [heq] at hs; cases hs
    · exact hs
  · cases hs
/-- n operations, one after the other. -/
def runR : Nat → List Ins → Slots → HL → Option (List Ins × Slots × HL)
  | 0, l, s, h => some (l, s, h)
  | _ + 1, [], _, _ => none
  | n + 1, x :: l, s, h => match stepO x s (hget h) with
    | some o => runR n l (putS s x.dst o.v) (o.heapL h)
    | none => none
theorem wpR_run {P : Program} {K : Slots → Heap → Prop} : ∀ (n : Nat) {is l : List Ins} {s s' : Slots} {h h' : HL}, runR n is s h = some (l, s', h') → wpR P l s' (hget h') K → wpR P is s (hget h) K
  | 0, is, l, s, s', h, h', hr, hw => by simp only [runR, Option.some.injEq, Prod.mk.injEq] at hr; obtain ⟨rfl, rfl, rfl⟩ := hr; exact hw
  | n + 1, [], l, s, s', h, h', hr, hw => by simp [runR] at hr
  | n + 1, x :: is, l, s, s', h, h', hr, hw => by
    simp only [runR] at hr
    split at hr
    · rename_i o ho
      refine ⟨o, stepO_ok ho, ?_⟩
      rw [← Out.heapL_ok]
      exact wpR_run n hr hw
    · cases hr
end Go.Proofs.Ytnojmocoifodjaa.Pv
set_option linter.unusedVariables false
set_option linter.unusedSimpArgs false
namespace Go.Proofs.Ytnojmocoifodjaa.Pv
open Go Go.RowKit

/-! ### The code ars a machine that is stepped until a call, a branch, a loop or a risky operation is met -/
inductive Kf | seq (c : C) | blk (id : Nat)
inductive Conf
  | code (c : C) (k : List Kf) (s : Slots) (h : HL)
  | reg (is : List Ins) (k : List Kf) (s : Slots) (h : HL)
  | drw (all is : List Ins) (acc : List Out) (k : List Kf) (s : Slots) (h : HL)
  | out (e : Ex) (k : List Kf) (s : Slots) (h : HL)
def kpost (P : Program) : List Kf → Post → Post
  | [], Q => Q
  | .seq c :: k, Q => thenQ (fun s h => WP P c s h (kpost P k Q)) (kpost P k Q)
  | .blk id :: k, Q => blkQ id (kpost P k Q)
def Ok (P : Program) (Q : Post) : Conf → Prop
  | .code c k s h => WP P c s (hget h) (kpost P k Q)
  | .reg is k s h => wpR P is s (hget h) (kpost P k Q .normal)
  | .drw all is acc k s h => wpD P is s (hget h) acc (fun outs s h => okD all outs = true ∧ kpost P k Q .normal s h)
  | .out e k s h => kpost P k Q e s (hget h)

/-- Arithmetic behind a veil: what a step may not open. -/
inductive ArOp | lt | le | eq | slt | seq | add | sub | mul | conv | lenP | lenN | lenS | not | or | beq
abbrev ArOp.ty : ArOp → Type
  | .lt | .le | .eq => Int → Int → Bool
  | .slt | .seq => List UInt8 → List UInt8 → Bool
  | .add | .sub | .mul => IntKind → Int → Int → Int
  | .conv => IntKind → Int → Int
  | .lenP => List PV → Int
  | .lenN => Nat → Int
  | .lenS => List UInt8 → Int
  | .not => Bool → Bool
  | .or | .beq => Bool → Bool → Bool
abbrev Ar := (o : ArOp) → o.ty
def Ar.std : Ar
  | .lt => fun a b => decide (a < b)
  | .le => fun a b => decide (a ≤ b)
  | .eq => fun a b => decide (a = b)
  | .slt => fun a b => Op.bytesLess a b
  | .seq => fun a b => decide (a = b)
  | .add => fun k a b => k.wrap (a + b)
  | .sub => fun k a b => k.wrap (a - b)
  | .mul => fun k a b => k.wrap (a * b)
  | .conv => fun k a => k.wrap a
  | .lenP => fun l => l.length
  | .lenN => fun n => n
  | .lenS => fun l => l.length
  | .not => fun b => !b
  | .or => fun a b => a || b
  | .beq => fun a b => a == b
def semBinA (A : Ar) (op : BinOp) (p q : PV) : Option PV := match op with
  | .add => match p, q with
    | .int k a, .int k' b => if k ≠ k' then none else some (.int k (A .add k a b))
    | p, q => semBin .add p q
  | .sub => match p, q with
    | .int k a, .int k' b => if k ≠ k' then none else some (.int k (A .sub k a b))
    | p, q => semBin .sub p q
  | .mul => match p, q with
    | .int k a, .int k' b => if k ≠ k' then none else some (.int k (A .mul k a b))
    | p, q => semBin .mul p q
  | .eql => match p, q with
    | .int k a, .int k' b => if k ≠ k' then none else some (.bool (A .eq a b))
    | .str a, .str b => some (.bool (A .seq a b))
    | p, q => semBin .eql p q
  | .neq => match p, q with
    | .int k a, .int k' b => if k ≠ k' then none else some (.bool (A .not (A .eq a b)))
    | .str a, .str b => some (.bool (A .not (A .seq a b)))
    | p, q => semBin .neq p q
  | .lss => match p, q with
    | .int k a, .int k' b => if k ≠ k' then none else some (.bool (A .lt a b))
    | .str a, .str b => some (.bool (A .slt a b))
    | p, q => semBin .lss p q
  | .leq => match p, q with
    | .int k a, .int k' b => if k ≠ k' then none else some (.bool (A .le a b))
    | .str a, .str b => some (.bool (A .or (A .slt a b) (A .seq a b)))
    | p, q => semBin .leq p q
  | .gtr => match p, q with
    | .int k a, .int k' b => if k ≠ k' then none else some (.bool (A .lt b a))
    | .str a, .str b => some (.bool (A .not (A .or (A .slt a b) (A .seq a b))))
    | p, q => semBin .gtr p q
  | .geq => match p, q with
    | .int k a, .int k' b => if k ≠ k' then none else some (.bool (A .le b a))
    | .str a, .str b => some (.bool (A .not (A .slt a b)))
    | p, q => semBin .geq p q
  | op => semBin op p q
theorem semBinA_std (op : BinOp) (p q : PV) : semBinA .std op p q = semBin op p q := by
  cases op <;> cases p <;> cases q <;> simp [semBinA, semBin, Ar.std]
def semA (A : Ar) (i : I) (d : Nat) (s : Slots) (h : Heap) : Option Out := match i with
  | .bin op x y => match ev s x, ev s y with
    | .pv p, .pv q => match semBinA A op p q with
      | some r => some { v := .pv r }
      | none => none
    | _, _ => none
  | .beq neg x y => match ev s x, ev s y with
    | .pv (.bool p), .pv (.bool q) => some { v := .pv (.bool (if neg then A .not (A .beq p q) else A .beq p q)) }
    | _, _ => none
  | .un op x => match op with
    | .not => match ev s x with
      | .pv (.bool b) => some { v := .pv (.bool (A .not b)) }
      | _ => none
    | .neg => match ev s x with
      | .pv (.int k n) => some { v := .pv (.int k (A .sub k 0 n)) }
      | _ => none
    | _ => none
  | .len str x => match str with
    | false => match ev s x with
      | .pv (.view es) => some { v := .pv (.int .i64 (A .lenP es)) }
      | .pv .nil | .pv .cap0 => some { v := .pv (.int .i64 0) }
      | .ref _ n => some { v := .pv (.int .i64 (A .lenN n)) }
      | _ => none
    | true => match ev s x with
      | .pv (.str l) => some { v := .pv (.int .i64 (A .lenS l)) }
      | _ => none
  | .conv k x => match ev s x with
    | .pv (.int _ n) => some { v := .pv (.int k (A .conv k n)) }
    | _ => none
  | i => sem i d s h
theorem semA_std (i : I) (d : Nat) (s : Slots) (h : Heap) : semA .std i d s h = sem i d s h := by
  cases i
  case bin op x y => simp only [semA, sem, semBinA_std]; rfl
  case beq neg x y => simp only [semA, sem, Ar.std]; rfl
  case un op x =>
    cases op <;> simp only [semA, sem, Ar.std] <;> split <;> first | rfl | (simp_all; done) | skip
  case len str x => cases str <;> simp only [semA, sem, Ar.std] <;> rfl
  case conv k x => simp only [semA, sem, Ar.std]; rfl
  all_goals rfl
def stepA (A : Ar) (x : Ins) (s : Slots) (h : Heap) : Option Out := match gd s x.g with
  | .no => some skipOut
  | .yes => semA A x.i (x.dst.getD 0) s h
  | .bad => none
theorem stepA_std (x : Ins) (s : Slots) (h : Heap) : stepA .std x s h = stepO x s h := by
  unfold stepA stepO
  simp only [semA_std]
  try rfl
/-- b: does it go on at a guard, at a choice? -/
def risky (b : Bool) (s : Slots) (x : Ins) : Bool := match b, x.g with
  | false, some _ => true
  | _, g => match gd s g with
    | .no => false
    | .bad => true
    | .yes => match x.i with
      | .call .. | .idx .. | .sidx .. | .slc .. | .sslc .. | .app .. => true
      | .pick .. => !b
      | .fld _ x | .load _ x | .store _ x _ => match ev s x with
        | .eptr .. => true
        | _ => false
      | .bin op a _ => match op with
        | .add => match ev s a with
          | .pv (.str _) => true
          | _ => false
        | .quo | .rem | .shl | .shr => true
        | _ => false
      | _ => false
def Conf.step (A : Ar) (b : Bool) : Conf → Option Conf
  | .code c k s h => match c with
    | .nop => some (.out .normal k s h)
    | .ret => some (.out .ret k s h)
    | .exit id => some (.out (.exit id) k s h)
    | .seq a b => some (.code a (.seq b :: k) s h)
    | .cond .. => none
    | .blk id c => some (.code c (.blk id :: k) s h)
    | .loop _ => none
    | .reg is => some (.reg is k s h)
    | .drw is => some (.drw is is [] k s h)
  | .reg is k s h => match is with
    | [] => some (.out .normal k s h)
    | x :: l => if risky b s x then none else match stepA A x s (hget h) with
      | some o => some (.reg l k (putS s x.dst o.v) (o.heapL h))
      | none => none
  | .drw all is acc k s h => match is with
    | [] => none
    | x :: l => if risky b s x then none else match stepA A x s (hget h) with
      | some o => some (.drw all l (acc ++ [o]) k (putS s x.dst o.v) (o.heapL h))
      | none => none
  | .out e k s h => match k with
    | [] => none
    | .seq c :: k => match e with
      | .normal => some (.code c k s h)
      | e => some (.out e k s h)
    | .blk id :: k => match e with
      | .exit i => if i = id then some (.out .normal k s h) else some (.out (.exit i) k s h)
      | e => some (.out e k s h)
def run (A : Ar) (b : Bool) : Nat → Conf → Conf
  | 0, c => c
  | n + 1, c => match c.step A b with
    | some c' => run A b n c'
    | none => c
section
variable {P : Program} {Q : Post}
theorem Ok.step (hmix : P.follows .mixedOrders = true) {A : Ar} (hA : A = .std) {b : Bool} {c c' : Conf} (hs : c.step A b = some c') (hw : Ok P Q c') : Ok P Q c := by
  subst hA
  cases c with
  | code c k s h =>
    cases c with
    | nop => cases hs; exact WP.nop hw
    | ret => cases hs; exact WP.ret hw
    | exit id => cases hs; exact WP.exit hw
    | seq a b => cases hs; exact WP.seq hw
    | cond x a b => cases hs
    | blk id c => cases hs; exact WP.blk hw
    | loop c => cases hs
    | reg is => cases hs; exact WP.reg hw
    | drw is => cases hs; exact WP.drw hmix hw
  | reg is k s h =>
    cases is with
    | nil => cases hs; exact hw
    | cons x l =>
      simp only [Conf.step] at hs
      split at hs
      · cases hs
      · split at hs
        · rename_i o ho
          cases hs
          refine ⟨o, stepO_ok (by rw [← stepA_std]; exact ho), ?_⟩
          rw [← Out.heapL_ok]
          exact hw
        · cases hs
  | drw all is acc k s h =>
    cases is with
    | nil => cases hs
    | cons x l =>
      simp only [Conf.step] at hs
      split at hs
      · cases hs
      · split at hs
        · rename_i o ho
          cases hs
          refine ⟨o, stepO_ok (by rw [← stepA_std]; exact ho), ?_⟩
          rw [← Out.heapL_ok]
          exact hw
        · cases hs
  | out e k s h =>
    cases k with
    | nil => cases hs
    | cons f k =>
      cases f with
      | seq c => cases e <;> cases hs <;> exact hw
      | blk id =>
        cases e with
        | normal => cases hs; exact hw
        | ret => cases hs; exact hw
        | exit i =>
          simp only [Conf.step] at hs
          show blkQ id (kpost P k Q) (.exit i) s (hget h)
          unfold blkQ
          simp only []
          by_cases hi : i = id
          · rw [if_pos hi] at hs; cases hs
            rw [if_pos hi]; exact hw
          · rw [if_neg hi] at hs; cases hs
            rw [if_neg hi]; exact hw
theorem Ok.run (hmix : P.follows .mixedOrders = true) {A : Ar} (hA : A = .std) (b : Bool) : ∀ (n : Nat) {c c' : Conf}, Pv.run A b n c = c' → Ok P Q c' → Ok P Q c
  | 0, c, c', hr, hw => by cases hr; exact hw
  | n + 1, c, c', hr, hw => by
    simp only [Pv.run] at hr
    split at hr
    · rename_i c1 h1
      exact Ok.step hmix hA h1 (Ok.run hmix hA b n hr hw)
    · cases hr; exact hw
/-- A branch. -/
theorem Ok.cond {x : Opd} {a b : C} {k : List Kf} {s : Slots} {h : HL} {t : Bool} (ht : ev s x = .pv (.bool t)) (h1 : t = true → Ok P Q (.code a k s h)) (h2 : t = false → Ok P Q (.code b k s h)) : Ok P Q (.code (.cond x a b) k s h) :=
  WP.cond t ht (by
    cases t
    · exact h2 rfl
    · exact h1 rfl)
/-- One operation that is not a call. -/
theorem Ok.op {x : Ins} {l : List Ins} {k : List Kf} {s : Slots} {h : HL} {o : Out} (ho : stepO x s (hget h) = some o) (hw : Ok P Q (.reg l k (putS s x.dst o.v) (o.heapL h))) : Ok P Q (.reg (x :: l) k s h) := by
  refine ⟨o, stepO_ok ho, ?_⟩
  rw [← Out.heapL_ok]
  exact hw
theorem Ok.dop {x : Ins} {all l : List Ins} {acc : List Out} {k : List Kf} {s : Slots} {h : HL} {o : Out} (ho : stepO x s (hget h) = some o) (hw : Ok P Q (.drw all l (acc ++ [o]) k (putS s x.dst o.v) (o.heapL h))) : Ok P Q (.drw all (x :: l) acc k s h) := by
  refine ⟨o, stepO_ok ho, ?_⟩
  rw [← Out.heapL_ok]
  exact hw
def freeAt (h : HL) (b n : Nat) : Bool := h.all fun x => x.1 < b || b + n ≤ x.1
theorem freeAt_ok {h : HL} {b n : Nat} (hf : freeAt h b n = true) : ∀ i, i < n → hget h (b + i) = none := by
  intro i hi
  induction h with
  | nil => rfl
  | cons a l ih =>
    obtain ⟨c, x⟩ := a
    simp only [freeAt, List.all_cons, Bool.and_eq_true, Bool.or_eq_true, decide_eq_true_eq] at hf ih
    simp only [hget]
    rw [if_neg (by omega)]
    exact ih hf.2
theorem SO_call {f : Opd} {ars : List Opd} {x : Ins} (hx : x.i = .call f ars) {s : Slots} {h : HL} {g : Nat} {ps : List PV} {ids : List Nat} {r : AV} {L : List Blk} (hc : CallsV P g ps r L) (hg : gd s x.g = .yes) (ha : callArgs s (hget h) f ars = some (g, ps, ids)) (hfr : freeAt h (base x.dst) L.length = true) :
    SO P x s (hget h) (callOut x.dst ids r L) := by
  refine .inr ⟨hg, ?_⟩
  rw [hx]
  exact ⟨g, ps, ids, r, L, ha, hc, freeAt_ok hfr, rfl⟩
/-- A call. -/
theorem Ok.call {d : Option Nat} {gu : Option (Nat × Bool)} {af : List Nat} {f : Opd} {ars : List Opd} {l : List Ins} {k : List Kf} {s : Slots} {h : HL} {g : Nat} {ps : List PV} {ids : List Nat} {r : AV} {L : List Blk} (hc : CallsV P g ps r L) (hg : gd s gu = .yes)
    (ha : callArgs s (hget h) f ars = some (g, ps, ids)) (hfr : freeAt h (base d) L.length = true) (hw : Ok P Q (.reg l k (putS s d (callOut d ids r L).v) ((callOut d ids r L).heapL h))) : Ok P Q (.reg (⟨d, gu, af, .call f ars⟩ :: l) k s h) := by
  refine ⟨_, SO_call rfl hc hg ha hfr, ?_⟩
  rw [← Out.heapL_ok]
  exact hw
theorem Ok.dcall {all : List Ins} {acc : List Out} {d : Option Nat} {gu : Option (Nat × Bool)} {af : List Nat} {f : Opd} {ars : List Opd} {l : List Ins} {k : List Kf} {s : Slots} {h : HL} {g : Nat} {ps : List PV} {ids : List Nat} {r : AV} {L : List Blk} (hc : CallsV P g ps r L) (hg : gd s gu = .yes)
    (ha : callArgs s (hget h) f ars = some (g, ps, ids)) (hfr : freeAt h (base d) L.length = true) (hw : Ok P Q (.drw all l (acc ++ [callOut d ids r L]) k (putS s d (callOut d ids r L).v) ((callOut d ids r L).heapL h))) : Ok P Q (.drw all (⟨d, gu, af, .call f ars⟩ :: l) acc k s h) := by
  refine ⟨_, SO_call rfl hc hg ha hfr, ?_⟩
  rw [← Out.heapL_ok]
  exact hw
theorem Ok.drawn {all : List Ins} {acc : List Out} {k : List Kf} {s : Slots} {h : HL} (hok : okD all acc = true) (hw : Ok P Q (.out .normal k s h)) : Ok P Q (.drw all [] acc k s h) := ⟨hok, hw⟩
/-- A weaker frame. -/
theorem Ok.le {c : C} {k : List Kf} {s s' : Slots} {h h' : HL} (hl : Le s (hget h) s' (hget h')) (hw : Ok P Q (.code c k s' h')) : Ok P Q (.code c k s h) := WP.le hl hw
/-- A loop, with what holds at its head. -/
theorem Ok.loop {c : C} {k : List Kf} {s : Slots} {h : HL} (I : Nat → Slots → HL → Prop) (n : Nat) (h0 : I n s h)
    (hr : ∀ n s h, I n s h → Ok P (thenQ (fun s h => ∃ m, m < n ∧ ∃ s' h', Le s h s' (hget h') ∧ I m s' h') (kpost P k Q)) (.code c [] s h)) : Ok P Q (.code (.loop c) k s h) := by
  refine WP.loop (fun n s h => ∃ s' h', Le s h s' (hget h') ∧ I n s' h') n ⟨s, h, Le.refl _ _, h0⟩ (fun n s h hI => ?_)
  obtain ⟨s', h', hle, hI⟩ := hI
  exact WP.le hle (hr n s' h' hI)
end

/-! ### A function -/
theorem hget_nil : hget [] = fun _ => none := rfl
theorem CallsV.ok {P : Program} {f : FuncId} {args : List PV} {r : AV} {L : List Blk} {fn : Func} {body : Code} {c : C} {rs : List Rs}
    (hf : P.funcs[f]? = some fn) (hname : (fn.name == "runtime.NumGoroutine") = false) (hb : fn.body = some body) (hc : comp P body = some c) (hr : listM (compR P) fn.results.toList = some rs)
    (hw : Ok P (RetQ rs r L) (.code c [] (start args fn.ntmps) [])) : CallsV P f args r L := CallsV.of hf hname hb hc hr hw

/-! ### Weaker frames, by lists -/
def keepHL (kb : List Nat) (h : HL) : HL := h.filter fun x => kb.contains x.1
theorem hget_keep (kb : List Nat) (h : HL) : hget (keepHL kb h) = dropH kb (hget h) := by
  funext i
  induction h with
  | nil => simp [keepHL, hget, dropH]
  | cons a l ih =>
    obtain ⟨b, x⟩ := a
    simp only [keepHL, List.filter_cons, dropH, hget] at ih ⊢
    by_cases hb : kb.contains b = true
    · rw [if_pos hb]
      simp only [hget]
      by_cases hi : i = b
      · subst hi; rw [if_pos rfl, if_pos hb, if_pos rfl]
      · rw [if_neg hi, if_neg hi, ih]
    · rw [if_neg hb, ih]
      by_cases hi : i = b
      · subst hi; rw [if_neg hb, if_neg hb]
      · rw [if_neg hi]
def okKeep (keep kb : List Nat) (s : Slots) (h : HL) : Bool :=
  keep.all (fun i => (s.getD i (.pv .junk)).ids.all kb.contains) && kb.all (fun b => match hget h b with
    | some x => x.ids.all kb.contains
    | none => true)
theorem Le.keep (keep kb : List Nat) {s : Slots} {h : HL} (hk : okKeep keep kb s h = true) : Le s (hget h) (dropS keep s) (hget (keepHL kb h)) := fun W0 S0 a W S β F => by
  rw [hget_keep]
  exact ⟨S, β, F.drop hk⟩
theorem Le.nil {s : Slots} {h : HL} (n b : Nat) (e : TypeId) (sz : Nat) (h1 : s.getD n (.pv .junk) = .pv .nil) (h2 : hget h b = none) (h3 : sz ≠ 0) : Le s (hget h) (s.set n (.ref b 0)) (hget (hput h b (.row e sz [] true))) := by
  rw [hget_put]
  refine Le.wk (w := { nils := [(n, b, e, sz)] }) ?_
  simp [Wk.ap, nilRows, h2, h3]
  simp [List.getD] at h1
  simp [h1]

theorem CallsV.fs {P : Program} {f : FuncId} {args : List PV} {r r' : AV} {L L' : List Blk} (hc : CallsV P f args r L) (hf : FS (heapL L) r (heapL L') r') : CallsV P f args r' L' := by
  obtain ⟨h1, h2⟩ := hc
  refine ⟨h1, fun S W vs hS hn hR => (h2 S W vs hS hn hR).mono (fun e W' hp => ?_)⟩
  obtain ⟨v, β, S', rfl, a1, a2, a3, a4, a5⟩ := hp
  obtain ⟨S2, β2, b1, b2, b3, b4⟩ := hf _ _ _ _ _ a4 a5
  exact ⟨v, β2, S2, rfl, a1, fun k o h => b1 k o (a2 k o h), fun k o hk h => a3 k o hk (b2 k o hk h), b3, b4⟩
theorem FS.ref {h : Heap} {b n : Nat} {e : TypeId} {sz : Nat} {es : List PV} {m : Bool} (hb : h b = some (.row e sz es m)) (hn : n = es.length) : FS h (.ref b n) (heapL []) (.pv (.view es)) :=
  FS.out (ids := [b]) (by simp [frz2, frz1, frz0, rowOf, hb, hn]) (PLe.refl _)
theorem CallsV.still {P : Program} {f : FuncId} {args : List PV} {n : Nat} {e : TypeId} {sz : Nat} {es : List PV} {m : Bool} (hc : CallsV P f args (.ref 0 n) [.row e sz es m]) (hn : n = es.length) : CallsV P f args (.pv (.view es)) [] :=
  hc.fs (FS.ref (by rfl) hn)
theorem CallsV.le {P : Program} {f : FuncId} {args : List PV} {p q : PV} (hc : CallsV P f args (.pv p) []) (hp : PLe p q) : CallsV P f args (.pv q) [] := hc.fs (FS.pv _ hp)

/-- A nil in a variable, ars a row that is to be. -/
theorem Le.nilBox {s : Slots} {h : HL} (b i nb : Nat) (e : TypeId) (sz : Nat) {cs : List AV} {m : Bool} (h1 : hget h b = some (.box cs m)) (h2 : cs[i]? = some (.pv .nil)) (h3 : hget h nb = none) (h4 : sz ≠ 0) :
    Le s (hget h) s (hget (hput (hput h nb (.row e sz [] true)) b (.box (cs.set i (.ref nb 0)) m))) := fun W0 S0 a W S β F => by
  rw [hget_put, hget_put]
  have hne : b ≠ nb := by rintro rfl; rw [h1] at h3; cases h3
  have E1 := Evo.attach (S := S) (W := W) (β := β) h3 none (.row e sz [] true)
  have H1 : HRel W0.heap.size S (bupd β nb none) (hupd (hget h) nb (.row e sz [] true)) W := F.H.attach h3 ⟨by omega, fun i x hx => by simp at hx, .inl ⟨bupd_self _ _ _, rfl⟩⟩ (fun g hg => by cases hg)
  have F1 : Fr W0 S0 s (hupd (hget h) nb (.row e sz [] true)) a W S (bupd β nb none) := F.evo H1 E1 (Below.refl _ _) (fun _ _ _ h => h)
  generalize hh1 : hupd (hget h) nb (.row e sz [] true) = g1 at *
  generalize hβ1 : bupd β nb none = β1 at *
  have hb1 : g1 b = some (.box cs m) := by rw [← hh1, hupd_ne _ _ hne]; exact h1
  have hn1 : g1 nb = some (.row e sz [] true) := by rw [← hh1]; exact hupd_self _ _ _
  have hβn : β1 nb = none := by rw [← hβ1]; exact bupd_self _ _ _
  have E2 : Evo S S W W β1 β1 g1 (hupd g1 b (.box (cs.set i (.ref nb 0)) m)) := by
    refine ⟨Stay.refl _ _, fun q x hx => ?_⟩
    by_cases hq : q = b
    · subst hq
      rw [hb1] at hx; cases hx
      exact ⟨_, hupd_self _ _ _, by simp, rfl⟩
    · exact ⟨x, by rw [hupd_ne _ _ hq]; exact hx, Blk.le_refl _ _ _⟩
  have hsome : ∀ q, (hupd g1 b (.box (cs.set i (.ref nb 0)) m) q).isSome → (g1 q).isSome := by
    intro q hq
    by_cases hqb : q = b
    · subst hqb; simp [hb1]
    · rwa [hupd_ne _ _ hqb] at hq
  refine ⟨S, β1, F1.evo ⟨fun q x hx => ?_, fun q q' k hq hq' => H1.inj q q' k (hsome q hq) (hsome q' hq'), fun q k hq => H1.fresh q k (hsome q hq), fun q x k o hx hk ho => ?_, H1.bnd⟩ E2 (Below.refl _ _) (fun _ _ _ h => h)⟩
  · by_cases hqb : q = b
    · subst hqb
      rw [hupd_self] at hx; cases hx
      obtain ⟨k, cur, e', a1, a2, a3, a4⟩ := H1.blk q _ hb1
      refine ⟨k, cur, e', a1, a2, by simpa using a3, fun j c hc => ?_⟩
      rw [List.getElem?_set] at hc
      split at hc
      · rename_i hij
        subst hij
        split at hc
        · cases hc
          have := a4 i _ h2
          generalize cur.getD i undef = v at this ⊢
          cases this with
          | pv hp =>
            cases hp
            exact .ref (by rw [hupd_ne _ _ (Ne.symm hne)]; exact hn1) (Nat.le_refl _) ⟨none, 0, rfl, Nat.le_refl _, Nat.zero_le _⟩ (fun _ => .inl ⟨hβn, rfl, rfl⟩)
        · cases hc
      · exact (a4 j c hc).evo E2 H1.blk
    · rw [hupd_ne _ _ hqb] at hx
      exact (H1.blk q x hx).evo E2 H1.blk rfl (fun _ _ => rfl)
  · by_cases hqb : q = b
    · subst hqb
      rw [hupd_self] at hx; cases hx
      have := H1.sinv q _ k o hb1 hk ho
      simpa [Blk.mut, Blk.known] using this
    · rw [hupd_ne _ _ hqb] at hx
      exact H1.sinv q x k o hx hk ho

/-! ### Blocks by other names -/
mutual
def AV.rn (σ : Nat → Nat) : AV → AV
  | .pv p => .pv p
  | .ref b n => .ref (σ b) n
  | .ptr b o => .ptr (σ b) o
  | .eptr b n i o => .eptr (σ b) n i o
  | .agg cs => .agg (AV.rnL σ cs)
  | .tup cs => .tup (AV.rnL σ cs)
  | .fn f cs => .fn f (AV.rnL σ cs)
def AV.rnL (σ : Nat → Nat) : List AV → List AV
  | [] => []
  | x :: l => AV.rn σ x :: AV.rnL σ l
end
theorem AV.rnL_eq (σ : Nat → Nat) : ∀ l, AV.rnL σ l = l.map (AV.rn σ)
  | [] => rfl
  | x :: l => by simp [AV.rnL, AV.rnL_eq σ l]
def Blk.rn (σ : Nat → Nat) : Blk → Blk
  | .box cs m => .box (AV.rnL σ cs) m
  | .row e sz es m => .row e sz es m
def swp (b c : Nat) (q : Nat) : Nat := if q = b then c else if q = c then b else q
theorem swp_swp (b c q : Nat) : swp b c (swp b c q) = q := by
  unfold swp
  split <;> split <;> simp_all
def rnHL (σ : Nat → Nat) (h : HL) : HL := h.map fun x => (σ x.1, x.2.rn σ)
theorem hget_rn {σ : Nat → Nat} (hσ : ∀ q, σ (σ q) = q) (h : HL) (q : Nat) : hget (rnHL σ h) q = (hget h (σ q)).map (Blk.rn σ) := by
  induction h with
  | nil => rfl
  | cons a l ih =>
    obtain ⟨b, x⟩ := a
    simp only [rnHL, List.map_cons, hget] at ih ⊢
    by_cases hq : q = σ b
    · subst hq; rw [if_pos rfl, if_pos (hσ b)]; rfl
    · rw [if_neg hq, if_neg (fun h => hq (by rw [← h, hσ]))]
      exact ih
section
variable {S : Stb} {W : World} {β β' : Bta} {h h' : Heap} {σ : Nat → Nat}
theorem RA.rn (hh : ∀ q x, h q = some x → h' (σ q) = some (x.rn σ)) (hb : ∀ q, β' (σ q) = β q) {x : AV} {v : Value} (H : RA S W β h x v) : RA S W β' h' (x.rn σ) v := by
  induction H with
  | pv hp => exact .pv hp
  | ref hb1 hn hv hc =>
    refine .ref (hh _ _ hb1) hn hv (fun hl => ?_)
    unfold Cur at hc ⊢
    rw [hb]
    exact hc hl
  | ptr hb1 hk => exact .ptr (hh _ _ hb1) (by rw [hb]; exact hk)
  | eptr hb1 hn hv hc => exact .eptr (hh _ _ hb1) hn hv (fun hl => by rw [hb]; exact hc hl)
  | agg hn hR ih =>
    rw [AV.rn, AV.rnL_eq]
    refine .agg (by simpa using hn) (fun i x hx => ?_)
    rw [List.getElem?_map] at hx
    obtain ⟨y, hy, rfl⟩ := Option.map_eq_some_iff.1 hx
    exact ih i y hy
  | tup hn hR ih =>
    rw [AV.rn, AV.rnL_eq]
    refine .tup (by simpa using hn) (fun i x hx => ?_)
    rw [List.getElem?_map] at hx
    obtain ⟨y, hy, rfl⟩ := Option.map_eq_some_iff.1 hx
    exact ih i y hy
  | fn hn hR ih =>
    rw [AV.rn, AV.rnL_eq]
    refine .fn (by simpa using hn) (fun i x hx => ?_)
    rw [List.getElem?_map] at hx
    obtain ⟨y, hy, rfl⟩ := Option.map_eq_some_iff.1 hx
    exact ih i y hy
end
/-- The frame with two blocks' names exchanged. -/
theorem Le.swap (b c : Nat) (s : Slots) (h : HL) : Le s (hget h) (s.map (AV.rn (swp b c))) (hget (rnHL (swp b c) h)) := fun W0 S0 a W S β F => by
  generalize hσ : swp b c = σ
  have hss : ∀ q, σ (σ q) = q := fun q => by rw [← hσ]; exact swp_swp b c q
  have hh : ∀ q x, hget h q = some x → hget (rnHL σ h) (σ q) = some (x.rn σ) := fun q x hx => by rw [hget_rn hss, hss, hx]; rfl
  have hb : ∀ q, (fun q => β (σ q)) (σ q) = β q := fun q => by simp only [hss]
  have hmut : ∀ x : Blk, (x.rn σ).mut = x.mut := fun x => by cases x <;> rfl
  have hkn : ∀ x : Blk, (x.rn σ).known = x.known := fun x => by cases x <;> simp [Blk.rn, Blk.known, AV.rnL_eq]
  have hsome : ∀ q, (hget (rnHL σ h) q).isSome → (hget h (σ q)).isSome := fun q hq => by rw [hget_rn hss] at hq; simpa using hq
  refine ⟨S, fun q => β (σ q), ⟨fun q x hx => ?_, fun q q' k hq hq' h1 h2 => ?_, fun q k hq h1 => F.H.fresh _ k (hsome q hq) h1, fun q x k o hx h1 h2 => ?_, F.H.bnd⟩, fun n => ?_, by simpa using F.sz, F.df, F.lo, F.up, F.dn⟩
  · rw [hget_rn hss] at hx
    obtain ⟨y, hy, rfl⟩ := Option.map_eq_some_iff.1 hx
    have := F.H.blk _ y hy
    cases y with
    | box cs m =>
      obtain ⟨k, cur, e, a1, a2, a3, a4⟩ := this
      refine ⟨k, cur, e, a1, a2, by simpa [AV.rnL_eq] using a3, fun j z hz => ?_⟩
      rw [AV.rnL_eq, List.getElem?_map] at hz
      obtain ⟨w, hw, rfl⟩ := Option.map_eq_some_iff.1 hz
      exact RA.rn (β' := fun q => β (σ q)) hh hb (a4 j w hw)
    | row e sz es m => exact this
  · have := F.H.inj _ _ k (hsome q hq) (hsome q' hq') h1 h2
    rw [← hss q, this, hss]
  · rw [hget_rn hss] at hx
    obtain ⟨y, hy, rfl⟩ := Option.map_eq_some_iff.1 hx
    rw [hmut, hkn]
    exact F.H.sinv _ y k o hy h1 h2
  · have := RA.rn (β' := fun q => β (σ q)) hh hb (F.sl n)
    have e : (s.map (AV.rn σ)).getD n (.pv .junk) = (s.getD n (.pv .junk)).rn σ := by
      simp only [List.getD, List.getElem?_map]
      cases s[n]? <;> rfl
    rw [e]; exact this
end Go.Proofs.Ytnojmocoifodjaa.Pv
set_option linter.unusedVariables false
namespace Go.Proofs.Ytnojmocoifodjaa.Pv
open Go

/-! ### More of stepping -/
def mkS (n : Nat) (l : List (Nat × AV)) : Slots := (List.range n).map fun i => (l.lookup i).getD (.pv .junk)
theorem idx_view {d : Option Nat} {af : List Nat} {sz : Nat} {x i : Opd} {s : Slots} {h : Heap} {es : List PV} {k : IntKind} {j : Int} (e : PV) (h1 : ev s x = .pv (.view es)) (h2 : ev s i = .pv (.int k j)) (h3 : 0 ≤ j) (h4 : es[j.toNat]? = some e) (h5 : e.cells.length = sz) :
    stepO ⟨d, none, af, .idx sz x i⟩ s h = some { v := .pv (.vptr e.cells) } := by
  simp [stepO, gd, sem, h1, h2, h3, h4, h5]
/-- A loop: what is forgotten at its head; what holds there. -/
theorem Ok.loopAt {P : Program} {Q : Post} {c : C} {k : List Kf} {s : Slots} {h : HL} (keep kb : List Nat) (I : Nat → Slots → HL → Prop) (n : Nat) (hk : okKeep keep kb s h = true) (h0 : I n (dropS keep s) (keepHL kb h))
    (hr : ∀ n s h, I n s h → Ok P (thenQ (fun s h => ∃ m, m < n ∧ ∃ s' h', Le s h s' (hget h') ∧ I m s' h') (kpost P k Q)) (.code c [] s h)) : Ok P Q (.code (.loop c) k s h) :=
  Ok.le (Le.keep keep kb hk) (Ok.loop I n h0 hr)

theorem Ok.condT {P : Program} {Q : Post} {x : Opd} {a b : C} {k : List Kf} {s : Slots} {h : HL} (ht : ev s x = .pv (.bool true)) (hw : Ok P Q (.code a k s h)) : Ok P Q (.code (.cond x a b) k s h) := Ok.cond ht (fun _ => hw) (fun hh => by cases hh)
theorem Ok.condF {P : Program} {Q : Post} {x : Opd} {a b : C} {k : List Kf} {s : Slots} {h : HL} (ht : ev s x = .pv (.bool false)) (hw : Ok P Q (.code b k s h)) : Ok P Q (.code (.cond x a b) k s h) := Ok.cond ht (fun hh => by cases hh) (fun _ => hw)
theorem PLe.of {p q : PV} (h : p = q) : PLe p q := h ▸ PLe.refl p
theorem Ok.back {P : Program} {K : Post} {s : Slots} {h : HL} {I : Nat → Slots → HL → Prop} {n : Nat} (m : Nat) (keep kb : List Nat) (hm : m < n) (hk : okKeep keep kb s h = true) (hI : I m (dropS keep s) (keepHL kb h)) :
    Ok P (thenQ (fun s h => ∃ m, m < n ∧ ∃ s' h', Le s h s' (hget h') ∧ I m s' h') K) (.out .normal [] s h) := ⟨m, hm, _, _, Le.keep keep kb hk, hI⟩
theorem Ok.leave {P : Program} {Q : Post} {K : Slots → Heap → Prop} {k : List Kf} {s : Slots} {h : HL} {id : Nat} (hw : Ok P Q (.out (.exit id) k s h)) : Ok P (thenQ K (kpost P k Q)) (.out (.exit id) [] s h) := hw
theorem Ok.leaveRet {P : Program} {Q : Post} {K : Slots → Heap → Prop} {k : List Kf} {s : Slots} {h : HL} (hw : Ok P Q (.out .ret k s h)) : Ok P (thenQ K (kpost P k Q)) (.out .ret [] s h) := hw
theorem Ok.fin {P : Program} {rs : List Rs} {r x : AV} {L : List Blk} {s : Slots} {h : HL} (hx : resVs s (hget h) rs = some x) (hf : FS (hget h) x (heapL L) r) : Ok P (RetQ rs r L) (.out .ret [] s h) := ⟨x, hx, hf⟩

/-! ### The program's data ars trees -/
structure Ty where
  kind : Int
  of : List Ty
structure Vl where
  kind : Int
  i : Int
  b : Bool
  s : List UInt8
  t : List Vl
structure Ex4 where
  op : List UInt8
  v : Vl
  n : Int
  a : List Ex4
structure In where
  op : List UInt8
  v : Vl
  n : Int
structure Opn where
  kind : Int
  name : List UInt8
  ty : Ty
  e : List Ex4
  key : Ex4
  fold : Int
  n : Int
mutual
def Ty.pvR : Ty → PV
  | .mk k of => .agg [.int .i64 k, .view (Ty.pvs of)]
def Ty.pvs : List Ty → List PV
  | [] => []
  | x :: l => x.pvR :: Ty.pvs l
end
mutual
def Vl.pvR : Vl → PV
  | .mk k i b s t => .agg [.int .i64 k, .int .i64 i, .bool b, .str s, .view (Vl.pvs t)]
def Vl.pvs : List Vl → List PV
  | [] => []
  | x :: l => x.pvR :: Vl.pvs l
end
mutual
def Ex4.pvR : Ex4 → PV
  | .mk op v n a => .agg [.str op, .int .i64 v.kind, .int .i64 v.i, .bool v.b, .str v.s, .view (Vl.pvs v.t), .int .i64 n, .view (Ex4.pvs a)]
def Ex4.pvs : List Ex4 → List PV
  | [] => []
  | x :: l => x.pvR :: Ex4.pvs l
end
def In.pvR (x : In) : PV := .agg [.str x.op, .int .i64 x.v.kind, .int .i64 x.v.i, .bool x.v.b, .str x.v.s, .view (Vl.pvs x.v.t), .int .i64 x.n]
def Vl.zero : Vl := ⟨0, 0, false, [], []⟩
/-- Lists of data ars lists of trees, behind a veil. -/
inductive EncOp | tys | vls | exs | ins | inss
abbrev EncOp.ty : EncOp → Type
  | .tys => List Ty → List PV
  | .vls => List Vl → List PV
  | .exs => List Ex4 → List PV
  | .ins => List In → List PV
  | .inss => List (List In) → List PV
abbrev Enc := (o : EncOp) → o.ty
def Enc.std : Enc
  | .tys => Ty.pvs
  | .vls => Vl.pvs
  | .exs => Ex4.pvs
  | .ins => fun l => l.map In.pvR
  | .inss => fun l => l.map fun p => .view (p.map In.pvR)
def Enc.tyc (E : Enc) (t : Ty) : PV := .agg [.int .i64 t.kind, .view (E .tys t.of)]
def Enc.vl (E : Enc) (v : Vl) : PV := .agg [.int .i64 v.kind, .int .i64 v.i, .bool v.b, .str v.s, .view (E .vls v.t)]
def Enc.ex (E : Enc) (e : Ex4) : PV := .agg [.str e.op, .int .i64 e.v.kind, .int .i64 e.v.i, .bool e.v.b, .str e.v.s, .view (E .vls e.v.t), .int .i64 e.n, .view (E .exs e.a)]
def Enc.inn (E : Enc) (x : In) : PV := .agg [.str x.op, .int .i64 x.v.kind, .int .i64 x.v.i, .bool x.v.b, .str x.v.s, .view (E .vls x.v.t), .int .i64 x.n]
def Enc.opn (E : Enc) (o : Opn) : PV := .agg [.int .i64 o.kind, .str o.name, .int .i64 o.ty.kind, .view (E .tys o.ty.of), .view (E .exs o.e), .str o.key.op, .int .i64 o.key.v.kind, .int .i64 o.key.v.i, .bool o.key.v.b, .str o.key.v.s, .view (E .vls o.key.v.t), .int .i64 o.key.n, .view (E .exs o.key.a), .int .i64 o.fold, .int .i64 o.n]
section
variable {E : Enc} (hE : E = .std)
include hE
theorem Enc.tys_eq (l : List Ty) : E .tys l = l.map E.tyc := by
  subst hE
  induction l with
  | nil => rfl
  | cons x l ih => rw [List.map_cons, ← ih]; cases x; rfl
theorem Enc.vls_eq (l : List Vl) : E .vls l = l.map E.vl := by
  subst hE
  induction l with
  | nil => rfl
  | cons x l ih => rw [List.map_cons, ← ih]; cases x; rfl
theorem Enc.exs_eq (l : List Ex4) : E .exs l = l.map E.ex := by
  subst hE
  induction l with
  | nil => rfl
  | cons x l ih => rw [List.map_cons, ← ih]; cases x; rfl
theorem Enc.ins_eq (l : List In) : E .ins l = l.map E.inn := by subst hE; rfl
theorem Enc.inss_eq (l : List (List In)) : E .inss l = l.map fun p => .view (E .ins p) := by subst hE; rfl
end

/-! ### Arithmetic, unveiled -/
section
variable {A : Ar} (hA : A = .std)
include hA
theorem Ar.lt_eq (a b : Int) : A .lt a b = decide (a < b) := by subst hA; rfl
theorem Ar.le_eq (a b : Int) : A .le a b = decide (a ≤ b) := by subst hA; rfl
theorem Ar.eq_eq (a b : Int) : A .eq a b = decide (a = b) := by subst hA; rfl
theorem Ar.seq_eq (a b : List UInt8) : A .seq a b = decide (a = b) := by subst hA; rfl
theorem Ar.slt_eq (a b : List UInt8) : A .slt a b = Op.bytesLess a b := by subst hA; rfl
theorem Ar.add_eq (k : IntKind) (a b : Int) : A .add k a b = k.wrap (a + b) := by subst hA; rfl
theorem Ar.sub_eq (k : IntKind) (a b : Int) : A .sub k a b = k.wrap (a - b) := by subst hA; rfl
theorem Ar.mul_eq (k : IntKind) (a b : Int) : A .mul k a b = k.wrap (a * b) := by subst hA; rfl
theorem Ar.conv_eq (k : IntKind) (a : Int) : A .conv k a = k.wrap a := by subst hA; rfl
theorem Ar.lenP_eq (l : List PV) : A .lenP l = l.length := by subst hA; rfl
theorem Ar.lenN_eq (n : Nat) : A .lenN n = n := by subst hA; rfl
theorem Ar.lenS_eq (l : List UInt8) : A .lenS l = l.length := by subst hA; rfl
theorem Ar.not_eq (b : Bool) : A .not b = !b := by subst hA; rfl
theorem Ar.or_eq (a b : Bool) : A .or a b = (a || b) := by subst hA; rfl
theorem Ar.beq_eq (a b : Bool) : A .beq a b = (a == b) := by subst hA; rfl
theorem Ar.succ_eq {k : Nat} (h : k < 2 ^ 62) : A .add .i64 (Int.ofNat k) 1 = Int.ofNat (k + 1) := by
  rw [Ar.add_eq hA]
  show IntKind.wrap .i64 ((k : Int) + 1) = ((k + 1 : Nat) : Int)
  have h1 : ((k : Int) + 1) % 2 ^ 64 = k + 1 := Int.emod_eq_of_lt (by omega) (by omega)
  have h2 : ¬ ((k : Int) + 1 ≥ 2 ^ 63) := by omega
  simp only [IntKind.wrap, IntKind.bits, IntKind.signed, h1]
  rw [if_neg (by simpa using h2)]
  omega
end
/-- An element more on a row. -/
theorem app_ref {d : Option Nat} {af : List Nat} {e : TypeId} {sz bytes : Nat} {x y : Opd} {s : Slots} {h : HL} {b n : Nat} {es ys : List PV} {rs : List Nat} {m : Bool} (h1 : ev s x = .ref b n) (h2 : hget h b = some (.row e sz es m)) (hn : n = es.length) (h3 : listOf (hget h) (ev s y) = some (ys, rs)) (hok : ys.all (PV.okc sz) = true) (hb : b ∉ rs)
    (hl1 : (n + ys.length) * bytes ≤ 140737488355328) (hl2 : n + ys.length ≤ maxLen) (n' : Nat) (hn' : n' = n + ys.length) (es' : List PV) (hes' : es' = es ++ ys) :
    stepO ⟨d, none, af, .app e sz bytes x y⟩ s (hget h) = some { v := .ref b n', rd := b :: rs, up := [.frz rs, .row b es'] } := by
  subst hn' hes' hn
  simp only [stepO, gd, sem, h1, h3, rowOf, h2]
  rw [if_pos hok, if_pos ⟨trivial, trivial, trivial, hb, hl1, hl2⟩]

/-- Pointers into a row. -/
theorem idx_ref {d : Option Nat} {af : List Nat} {e : TypeId} {sz : Nat} {x i : Opd} {s : Slots} {h : HL} {b n : Nat} {es : List PV} {m : Bool} {k : IntKind} {j : Int} (h1 : ev s x = .ref b n) (h2 : ev s i = .pv (.int k j)) (h3 : hget h b = some (.row e sz es m)) (hn : n = es.length) (i' : Nat) (hi : j = i') (hlt : i' < n) :
    stepO ⟨d, none, af, .idx sz x i⟩ s (hget h) = some { v := .eptr b n i' 0, rd := [b] } := by
  subst hi
  have : i' < es.length := by omega
  simp [stepO, gd, sem, h1, h2, rowOf, h3, hn, this]
theorem fld_eptr {d : Option Nat} {af : List Nat} {e : TypeId} {off sz : Nat} {x : Opd} {s : Slots} {h : HL} {b n i o : Nat} {es : List PV} {m : Bool} (h1 : ev s x = .eptr b n i o) (h3 : hget h b = some (.row e sz es m)) (hn : n = es.length) :
    stepO ⟨d, none, af, .fld off x⟩ s (hget h) = some { v := .eptr b n i (o + off), rd := [b] } := by
  simp [stepO, gd, sem, h1, rowOf, h3, hn]
theorem load_eptr {d : Option Nat} {af : List Nat} {e : TypeId} {sz : Nat} {x : Opd} {s : Slots} {h : HL} {b n i o : Nat} {es : List PV} {m : Bool} (h1 : ev s x = .eptr b n i o) (h3 : hget h b = some (.row e sz es m)) (hn : n = es.length) (y : PV) (hy : es[i]? = some y) (c : PV) (hc : y.cells[o]? = some c) :
    stepO ⟨d, none, af, .load none x⟩ s (hget h) = some { v := .pv c, rd := [b] } := by
  simp [stepO, gd, sem, h1, rowOf, h3, hn, hy, hc]
theorem loadN_eptr {d : Option Nat} {af : List Nat} {e : TypeId} {sz k : Nat} {x : Opd} {s : Slots} {h : HL} {b n i o : Nat} {es : List PV} {m : Bool} (h1 : ev s x = .eptr b n i o) (h3 : hget h b = some (.row e sz es m)) (hn : n = es.length) (y : PV) (hy : es[i]? = some y) (hc : o + k ≤ y.cells.length) :
    stepO ⟨d, none, af, .load (some k) x⟩ s (hget h) = some { v := .pv (.agg ((y.cells.drop o).take k)), rd := [b] } := by
  simp [stepO, gd, sem, h1, rowOf, h3, hn, hy, hc]
theorem store_eptr {d : Option Nat} {af : List Nat} {e : TypeId} {sz k : Nat} {x v : Opd} {s : Slots} {h : HL} {b n i o : Nat} {es : List PV} (h1 : ev s x = .eptr b n i o) (h3 : hget h b = some (.row e sz es true)) (hn : n = es.length) (y : PV) (hy : es[i]? = some y) {p : PV} {rs : List Nat} (hv : frz1 (hget h) (ev s v) = some (p, rs)) (hb : b ∉ rs)
    (hk : p.cells.length = k ∧ 0 < k ∧ o + k ≤ y.cells.length ∧ p.cells.all PV.one = true) (es' : List PV) (hes : es' = es.set i (y.withCells (putCells y.cells o p.cells))) :
    stepO ⟨d, none, af, .store k x v⟩ s (hget h) = some { v := .pv .junk, rd := b :: rs, up := [.frz rs, .row b es'] } := by
  subst hes
  simp only [stepO, gd, sem, h1, rowOf, h3, hv, mutOf, Blk.mut]
  rw [if_pos ⟨hn, trivial, hb⟩]
  simp only [hy]
  rw [if_pos hk]

theorem Ok.backLe {P : Program} {K : Post} {s s' : Slots} {h h' : HL} {I : Nat → Slots → HL → Prop} {n : Nat} (m : Nat) (hm : m < n) (hle : Le s (hget h) s' (hget h')) (hI : I m s' h') :
    Ok P (thenQ (fun s h => ∃ m, m < n ∧ ∃ s' h', Le s h s' (hget h') ∧ I m s' h') K) (.out .normal [] s h) := ⟨m, hm, _, _, hle, hI⟩
/-- Forgotten, then two blocks' names exchanged. -/
theorem Le.keepSwap (keep kb : List Nat) (b c : Nat) {s : Slots} {h : HL} (hk : okKeep keep kb s h = true) : Le s (hget h) ((dropS keep s).map (AV.rn (swp b c))) (hget (rnHL (swp b c) (keepHL kb h))) :=
  (Le.keep keep kb hk).trans (Le.swap b c _ _)
theorem Enc.ins_okc {E : Enc} (hE : E = .std) (l : List In) : (E .ins l).all (PV.okc 7) = true := by
  rw [E.ins_eq hE, List.all_map, List.all_eq_true]
  intro x _
  simp [Enc.inn, PV.okc, PV.cells, PV.one]
end Go.Proofs.Ytnojmocoifodjaa.Pv
set_option maxRecDepth 100000
set_option linter.unusedVariables false
set_option linter.unusedSimpArgs false
namespace Go.Proofs.Ytnojmocoifodjaa.Pv
open Go Go.Proofs
theorem hmix : Try.prog.follows .mixedOrders = true := by kernel_rfl
def bJmp : List UInt8 := [106, 109, 112]
def bJf : List UInt8 := [106, 102]
def In.shift (b : Nat) (x : In) : In := if x.op = bJmp ∨ x.op = bJf then { x with n := IntKind.wrap .i64 (x.n + b) } else x
def joinTo (out : List In) : List (List In) → List In
  | [] => out
  | p :: l => joinTo (out ++ p.map (In.shift out.length)) l
theorem joinTo_le : ∀ (l : List (List In)) (out : List In), out.length ≤ (joinTo out l).length
  | [], out => Nat.le_refl _
  | p :: l, out => Nat.le_trans (by simp) (joinTo_le l _)
theorem joinTo_len : ∀ (l : List (List In)) (out : List In), (joinTo out l).length = out.length + (l.map List.length).sum
  | [], out => by simp [joinTo]
  | p :: l, out => by simp [joinTo, joinTo_len l]; omega
theorem gen_join {E : Enc} (hE : E = .std) (l : List (List In)) (hb : (joinTo [] l).length ≤ 2 ^ 30) (hl : l.length ≤ 2 ^ 30) : CallsV Try.prog 59 [.view (E .inss l)] (.ref 0 (joinTo [] l).length) [.row 99 7 (E .ins (joinTo [] l)) true] := by
  obtain ⟨A, hA⟩ : ∃ A : Ar, A = .std := ⟨_, rfl⟩
  refine CallsV.ok (fn := Try.f59) (by kernel_rfl) (by kernel_rfl) rfl (by cbv) (by cbv) ?_
  refine Ok.run hmix hA false 2000 (by cbv) ?_
  refine Ok.le (Le.nil 3 39 99 7 (by cbv) (by cbv) (by decide)) ?_
  refine Ok.loopAt [3, 9, 10, 11] [39] (fun m s h => ∃ (k : Nat) (out : List In) (n : Nat) (es : List PV), m = l.length - k ∧ k ≤ l.length ∧ joinTo out (l.drop k) = joinTo [] l ∧ n = out.length ∧ es = E .ins out ∧
    s = mkS 43 [(3, .ref 39 n), (9, .pv (.view (E .inss l))), (10, .pv (.int .i64 (A .lenP (E .inss l)))), (11, .pv (.int .i64 (Int.ofNat k)))] ∧ h = [(39, .row 99 7 es true)]) (l.length - 0) (by cbv) ⟨0, [], 0, [], rfl, Nat.zero_le _, rfl, rfl, by rw [E.ins_eq hE]; rfl, by cbv, by cbv⟩ ?_
  rintro m s h ⟨k, out, n, es, rfl, hk, hout, hn, hes, rfl, rfl⟩
  refine Ok.run hmix hA false 2000 (by cbv) ?_
  refine Ok.cond (by cbv) ?_ ?_
  · intro h1
    rw [Ar.lt_eq hA, Ar.lenP_eq hA, decide_eq_true_eq, E.inss_eq hE, List.length_map] at h1
    refine Ok.run hmix hA false 2000 (by cbv) ?_
    have hkl : k < l.length := by simpa using h1
    have hx : l[k]? = some l[k] := List.getElem?_eq_getElem hkl
    generalize hp : l[k] = p at hx
    have hdrop : l.drop k = p :: l.drop (k + 1) := by rw [← hp]; exact List.drop_eq_getElem_cons hkl
    refine Ok.op (idx_view (.view (E .ins p)) (by cbv) (by cbv) (by simp) (by rw [E.inss_eq hE]; simp [hx]) rfl) ?_
    refine Ok.run hmix hA false 2000 (by cbv) ?_
    refine Ok.loopAt [3, 6, 9, 10, 11, 17, 18, 19] [39] (fun m s h => ∃ (j : Nat) (out2 : List In) (n2 : Nat) (es2 : List PV), m = p.length - j ∧ j ≤ p.length ∧ out2 = out ++ (p.take j).map (In.shift n) ∧ n2 = out2.length ∧ es2 = E .ins out2 ∧
      s = mkS 43 [(3, .ref 39 n2), (6, .pv (.int .i64 (A .lenN n))), (9, .pv (.view (E .inss l))), (10, .pv (.int .i64 (A .lenP (E .inss l)))), (11, .pv (.int .i64 (Int.ofNat k))), (17, .pv (.view (E .ins p))), (18, .pv (.int .i64 (A .lenP (E .ins p)))), (19, .pv (.int .i64 (Int.ofNat j)))] ∧ h = [(39, .row 99 7 es2 true)]) (p.length - 0) (by cbv) ⟨0, out, n, es, rfl, Nat.zero_le _, by simp, hn, hes, by cbv, by cbv⟩ ?_
    rintro m s h ⟨j, out2, n2, es2, rfl, hj, hout2, hn2, hes2, rfl, rfl⟩
    have hfull : (out ++ p.map (In.shift n)).length ≤ 2 ^ 30 := by
      have := joinTo_le (l.drop (k + 1)) (out ++ p.map (In.shift out.length))
      rw [hdrop] at hout
      rw [joinTo] at hout
      rw [hout] at this
      rw [hn]
      omega
    have hpl : p.length ≤ 2 ^ 30 := by have := hfull; rw [List.length_append, List.length_map] at this; omega
    refine Ok.run hmix hA false 2000 (by cbv) ?_
    refine Ok.cond (by cbv) ?_ ?_
    · intro h2
      rw [Ar.lt_eq hA, Ar.lenP_eq hA, decide_eq_true_eq, E.ins_eq hE, List.length_map] at h2
      have hjl : j < p.length := by simpa using h2
      have hy : p[j]? = some p[j] := List.getElem?_eq_getElem hjl
      have htake : p.take (j + 1) = p.take j ++ [p[j]] := by rw [List.take_add_one, hy]; rfl
      generalize hq : p[j] = x at hy htake
      have hlen2 : n2 + 1 ≤ 2 ^ 30 := by
        rw [hn2, hout2]
        simp at hfull ⊢
        omega
      refine Ok.run hmix hA false 2000 (by cbv) ?_
      refine Ok.op (idx_view (E.inn x) (by cbv) (by cbv) (by simp) (by rw [E.ins_eq hE]; simp [hy]) rfl) ?_
      refine Ok.run hmix hA false 2000 (by cbv) ?_
      obtain ⟨op, ⟨vk, vi, vb, vs, vt⟩, nn⟩ := x
      by_cases hj1 : op = bJmp
      · have e1 : A .seq op [106, 109, 112] = true := by rw [Ar.seq_eq hA, hj1]; rfl
        have hsh : In.shift n ⟨op, ⟨vk, vi, vb, vs, vt⟩, nn⟩ = ⟨op, ⟨vk, vi, vb, vs, vt⟩, IntKind.wrap .i64 (nn + n)⟩ := by simp [In.shift, hj1]
        rw [e1]
        refine Ok.run hmix hA true 2000 (by cbv) ?_
        refine Ok.cond (by cbv) ?_ ?_
        · intro _
          refine Ok.run hmix hA true 2000 (by cbv) ?_
          obtain ⟨es3, hes3⟩ : ∃ es3, es3 = es2 ++ [E.inn (In.shift n ⟨op, ⟨vk, vi, vb, vs, vt⟩, nn⟩)] := ⟨_, rfl⟩
          obtain ⟨n3, hn3⟩ : ∃ n3, n3 = n2 + 1 := ⟨_, rfl⟩
          refine Ok.op (app_ref (by cbv) (by cbv) (by rw [hn2, hes2, E.ins_eq hE, List.length_map]) (by cbv) (by cbv) (by decide) (by simp only [List.length_singleton]; omega) (by unfold maxLen; simp only [List.length_singleton]; omega) n3 hn3 es3 (by rw [hes3, hsh]; first | rfl | (rw [Ar.add_eq hA, Ar.lenN_eq hA]; rfl))) ?_
          refine Ok.run hmix hA true 2000 (by cbv) ?_
          refine Ok.back (p.length - (j + 1)) [3, 6, 9, 10, 11, 17, 18, 19] [39] (by omega) (by cbv) ⟨j + 1, out ++ (p.take (j + 1)).map (In.shift n), n3, es3, rfl, by omega, rfl, ?_, ?_, ?_, by cbv⟩
          · rw [hn3, hn2, hout2, htake]; simp; omega
          · rw [hes3, hes2, E.ins_eq hE, E.ins_eq hE, hout2, htake]; simp
          · rw [Ar.succ_eq hA (by omega)]; cbv
        · intro hh; cases hh
      · have e1 : A .seq op [106, 109, 112] = false := by rw [Ar.seq_eq hA]; exact decide_eq_false hj1
        rw [e1]
        refine Ok.run hmix hA true 6 (by cbv) ?_
        by_cases hj2 : op = bJf
        · have e2 : A .seq op [106, 102] = true := by rw [Ar.seq_eq hA, hj2]; rfl
          have hsh : In.shift n ⟨op, ⟨vk, vi, vb, vs, vt⟩, nn⟩ = ⟨op, ⟨vk, vi, vb, vs, vt⟩, IntKind.wrap .i64 (nn + n)⟩ := by simp [In.shift, hj2]
          rw [e2]
          refine Ok.run hmix hA true 2000 (by cbv) ?_
          refine Ok.cond (by cbv) ?_ ?_
          · intro _
            refine Ok.run hmix hA true 2000 (by cbv) ?_
            obtain ⟨es3, hes3⟩ : ∃ es3, es3 = es2 ++ [E.inn (In.shift n ⟨op, ⟨vk, vi, vb, vs, vt⟩, nn⟩)] := ⟨_, rfl⟩
            obtain ⟨n3, hn3⟩ : ∃ n3, n3 = n2 + 1 := ⟨_, rfl⟩
            refine Ok.op (app_ref (by cbv) (by cbv) (by rw [hn2, hes2, E.ins_eq hE, List.length_map]) (by cbv) (by cbv) (by decide) (by simp only [List.length_singleton]; omega) (by unfold maxLen; simp only [List.length_singleton]; omega) n3 hn3 es3 (by rw [hes3, hsh]; first | rfl | (rw [Ar.add_eq hA, Ar.lenN_eq hA]; rfl))) ?_
            refine Ok.run hmix hA true 2000 (by cbv) ?_
            refine Ok.back (p.length - (j + 1)) [3, 6, 9, 10, 11, 17, 18, 19] [39] (by omega) (by cbv) ⟨j + 1, out ++ (p.take (j + 1)).map (In.shift n), n3, es3, rfl, by omega, rfl, ?_, ?_, ?_, by cbv⟩
            · rw [hn3, hn2, hout2, htake]; simp; omega
            · rw [hes3, hes2, E.ins_eq hE, E.ins_eq hE, hout2, htake]; simp
            · rw [Ar.succ_eq hA (by omega)]; cbv
          · intro hh; cases hh
        · have e2 : A .seq op [106, 102] = false := by rw [Ar.seq_eq hA]; exact decide_eq_false hj2
          have hsh : In.shift n ⟨op, ⟨vk, vi, vb, vs, vt⟩, nn⟩ = ⟨op, ⟨vk, vi, vb, vs, vt⟩, nn⟩ := by simp [In.shift, hj1, hj2]
          rw [e2]
          refine Ok.run hmix hA true 2000 (by cbv) ?_
          refine Ok.cond (by cbv) ?_ ?_
          · intro hh; cases hh
          · intro _
            refine Ok.run hmix hA true 2000 (by cbv) ?_
            obtain ⟨es3, hes3⟩ : ∃ es3, es3 = es2 ++ [E.inn (In.shift n ⟨op, ⟨vk, vi, vb, vs, vt⟩, nn⟩)] := ⟨_, rfl⟩
            obtain ⟨n3, hn3⟩ : ∃ n3, n3 = n2 + 1 := ⟨_, rfl⟩
            refine Ok.op (app_ref (by cbv) (by cbv) (by rw [hn2, hes2, E.ins_eq hE, List.length_map]) (by cbv) (by cbv) (by decide) (by simp only [List.length_singleton]; omega) (by unfold maxLen; simp only [List.length_singleton]; omega) n3 hn3 es3 (by rw [hes3, hsh]; first | rfl | (rw [Ar.add_eq hA, Ar.lenN_eq hA]; rfl))) ?_
            refine Ok.run hmix hA true 2000 (by cbv) ?_
            refine Ok.back (p.length - (j + 1)) [3, 6, 9, 10, 11, 17, 18, 19] [39] (by omega) (by cbv) ⟨j + 1, out ++ (p.take (j + 1)).map (In.shift n), n3, es3, rfl, by omega, rfl, ?_, ?_, ?_, by cbv⟩
            · rw [hn3, hn2, hout2, htake]; simp; omega
            · rw [hes3, hes2, E.ins_eq hE, E.ins_eq hE, hout2, htake]; simp
            · rw [Ar.succ_eq hA (by omega)]; cbv
    · intro h2
      have hje : j = p.length := by
        rw [Ar.lt_eq hA, Ar.lenP_eq hA, decide_eq_false_iff_not, E.ins_eq hE, List.length_map] at h2
        simp at h2; omega
      subst hje
      refine Ok.run hmix hA false 2000 (by cbv) ?_
      refine Ok.leave ?_
      refine Ok.run hmix hA false 2000 (by cbv) ?_
      refine Ok.back (l.length - (k + 1)) [3, 9, 10, 11] [39] (by omega) (by cbv) ⟨k + 1, out2, n2, es2, rfl, by omega, ?_, hn2, hes2, ?_, by cbv⟩
      · rw [hdrop, joinTo] at hout
        rw [hout2, List.take_length, hn, hout]
      · rw [Ar.succ_eq hA (by omega)]; cbv
  · intro h1
    have hke : k = l.length := by
      rw [Ar.lt_eq hA, Ar.lenP_eq hA, decide_eq_false_iff_not, E.inss_eq hE, List.length_map] at h1
      simp at h1; omega
    subst hke
    rw [List.drop_length, joinTo] at hout
    refine Ok.run hmix hA false 2000 (by cbv) ?_
    refine Ok.leave ?_
    refine Ok.run hmix hA false 2000 (by cbv) ?_
    rw [← hout]
    subst hn hes
    exact Ok.fin (by cbv) (FS.row (by cbv))

theorem gen_join' {E : Enc} (hE : E = .std) (l : List (List In)) (hb : (joinTo [] l).length ≤ 2 ^ 30) (hl : l.length ≤ 2 ^ 30) : CallsV Try.prog 59 [.view (E .inss l)] (.pv (.view (E .ins (joinTo [] l)))) [] :=
  (gen_join hE l hb hl).still (by rw [E.ins_eq hE, List.length_map])
theorem gen_one {E : Enc} (hE : E = .std) (op : List UInt8) (n : Int) : CallsV Try.prog 62 [.str op, .int .i64 n] (.pv (.view (E .ins [⟨op, .zero, n⟩]))) [] := by
  obtain ⟨A, hA⟩ : ∃ A : Ar, A = .std := ⟨_, rfl⟩
  rw [E.ins_eq hE]
  have h0 : E .vls [] = [] := by rw [E.vls_eq hE]; rfl
  refine CallsV.ok (fn := Try.f62) (by kernel_rfl) (by kernel_rfl) rfl (by cbv) (by cbv) ?_
  refine Ok.run hmix hA false 2000 (by cbv) ?_
  refine Ok.fin (by cbv) (FS.out (by cbv) (PLe.of ?_))
  simp [Enc.inn, Vl.zero, h0]
theorem gen_push {E : Enc} (hE : E = .std) (v : Vl) : CallsV Try.prog 65 [E.vl v] (.pv (.view (E .ins [⟨[112, 117, 115, 104], v, 0⟩]))) [] := by
  obtain ⟨A, hA⟩ : ∃ A : Ar, A = .std := ⟨_, rfl⟩
  rw [E.ins_eq hE]
  refine CallsV.ok (fn := Try.f65) (by kernel_rfl) (by kernel_rfl) rfl (by cbv) (by cbv) ?_
  refine Ok.run hmix hA false 2000 (by cbv) ?_
  exact Ok.fin (by cbv) (FS.out (by cbv) (PLe.of rfl))
theorem val_Bool {E : Enc} (hE : E = .std) (b : Bool) : CallsV Try.prog 30 [.bool b] (.pv (E.vl ⟨2, 0, b, [], []⟩)) [] := by
  obtain ⟨A, hA⟩ : ∃ A : Ar, A = .std := ⟨_, rfl⟩
  have h0 : E .vls [] = [] := by rw [E.vls_eq hE]; rfl
  refine CallsV.ok (fn := Try.f30) (by kernel_rfl) (by kernel_rfl) rfl (by cbv) (by cbv) ?_
  refine Ok.run hmix hA false 2000 (by cbv) ?_
  refine Ok.fin (by cbv) (FS.out (by cbv) (PLe.of ?_))
  simp [Enc.vl, h0]
theorem val_Int {E : Enc} (hE : E = .std) (n : Int) : CallsV Try.prog 44 [.int .i64 n] (.pv (E.vl ⟨1, n, false, [], []⟩)) [] := by
  obtain ⟨A, hA⟩ : ∃ A : Ar, A = .std := ⟨_, rfl⟩
  have h0 : E .vls [] = [] := by rw [E.vls_eq hE]; rfl
  refine CallsV.ok (fn := Try.f44) (by kernel_rfl) (by kernel_rfl) rfl (by cbv) (by cbv) ?_
  refine Ok.run hmix hA false 2000 (by cbv) ?_
  refine Ok.fin (by cbv) (FS.out (by cbv) (PLe.of ?_))
  simp [Enc.vl, h0]
theorem gen_emits {E : Enc} (hE : E = .std) (n : Int) : CallsV Try.prog 61 [.int .i64 n] (.pv (.view (E .ins [⟨[101, 109, 105, 116], .zero, n⟩, ⟨[114, 101, 116], .zero, 0⟩]))) [] := by
  obtain ⟨A, hA⟩ : ∃ A : Ar, A = .std := ⟨_, rfl⟩
  refine CallsV.ok (fn := Try.f61) (by kernel_rfl) (by kernel_rfl) rfl (by cbv) (by cbv) ?_
  refine Ok.run hmix hA false 2000 (by cbv) ?_
  refine Ok.call (gen_one hE _ _) (by cbv) (by cbv) (by cbv) ?_
  refine Ok.run hmix hA false 2000 (by cbv) ?_
  refine Ok.call (gen_one hE _ _) (by cbv) (by cbv) (by cbv) ?_
  refine Ok.run hmix hA false 2000 (by cbv) ?_
  (have c0 := gen_join' hE [[⟨[101, 109, 105, 116], .zero, n⟩], [⟨[114, 101, 116], .zero, 0⟩]] (by simp [joinTo_len]) (by simp); simp only [E.inss_eq hE, List.map_cons, List.map_nil] at c0; refine Ok.call c0 (by cbv) (by cbv) (by cbv) ?_)
  refine Ok.run hmix hA false 2000 (by cbv) ?_
  exact Ok.fin (by cbv) (FS.out (by cbv) (PLe.refl _))
end Go.Proofs.Ytnojmocoifodjaa.Pv
set_option maxRecDepth 100000
set_option linter.unusedVariables false
set_option linter.unusedSimpArgs false
namespace Go.Proofs.Ytnojmocoifodjaa.Pv
open Go Go.Proofs
def setN (l : List In) (i : Nat) (n : Int) : List In := l.modify i fun x => { x with n := n }
theorem setN_len (l : List In) (i : Nat) (n : Int) : (setN l i n).length = l.length := by simp [setN]
def iJf : In := ⟨bJf, .zero, 0⟩
def iJmp : In := ⟨bJmp, .zero, 0⟩
def choiceP (a b c : List In) : List In :=
  setN (setN (joinTo [] [a, [iJf], b, [iJmp], c]) a.length ((a.length + 1 + b.length + 1 : Nat) : Int)) (a.length + 1 + b.length) ((a.length + 1 + b.length + 1 + c.length : Nat) : Int)
theorem ofNat_add {A : Ar} (hA : A = .std) {a b : Nat} (h : a + b < 2 ^ 62) : A .add .i64 (Int.ofNat a) (Int.ofNat b) = Int.ofNat (a + b) := by
  rw [Ar.add_eq hA]
  show IntKind.wrap .i64 ((a : Int) + (b : Int)) = ((a + b : Nat) : Int)
  rw [IntWalk.i64_in _ ⟨by omega, by omega⟩]; omega
theorem setN_pv {E : Enc} (hE : E = .std) {l : List In} {i : Nat} {x : In} (hx : l[i]? = some x) (n : Int) : E .ins (setN l i n) = (E .ins l).set i ((E.inn x).withCells (putCells (E.inn x).cells 6 [.int .i64 n])) := by
  rw [E.ins_eq hE, E.ins_eq hE]
  unfold setN
  apply List.ext_getElem?
  intro j
  simp only [List.getElem?_map, List.getElem?_modify, List.getElem?_set, List.length_map]
  by_cases h : i = j
  · subst h
    have hlt := (List.getElem?_eq_some_iff.1 hx).1
    have hli : l[i] = x := by simpa [hlt] using hx
    simp [hli, hlt, Enc.inn, PV.withCells, PV.cells, putCells]
  · simp [h]
theorem gen_choice {E : Enc} (hE : E = .std) (a b c : List In) (hl : a.length + b.length + c.length ≤ 2 ^ 29) : CallsV Try.prog 66 [.view (E .ins a), .view (E .ins b), .view (E .ins c)] (.pv (.view (E .ins (choiceP a b c)))) [] := by
  obtain ⟨A, hA⟩ : ∃ A : Ar, A = .std := ⟨_, rfl⟩
  obtain ⟨out, hout⟩ : ∃ out, out = joinTo [] [a, [iJf], b, [iJmp], c] := ⟨_, rfl⟩
  have hlen : out.length = a.length + 1 + b.length + 1 + c.length := by rw [hout, joinTo_len]; simp; omega
  obtain ⟨no, hno⟩ : ∃ no, no = out.length := ⟨_, rfl⟩
  obtain ⟨la, hla⟩ : ∃ la, la = a.length := ⟨_, rfl⟩
  obtain ⟨jm, hjm⟩ : ∃ jm, jm = la + 1 + b.length := ⟨_, rfl⟩
  have ela : A .lenP (E .ins a) = Int.ofNat la := by rw [Ar.lenP_eq hA, E.ins_eq hE, hla]; simp
  have elb : A .add .i64 (A .add .i64 (Int.ofNat la) 1) (A .lenP (E .ins b)) = Int.ofNat jm := by
    rw [Ar.succ_eq hA (by omega), Ar.lenP_eq hA, E.ins_eq hE, List.length_map]
    exact (ofNat_add hA (by omega)).trans (by rw [hjm])
  have c0 := gen_join hE [a, [iJf], b, [iJmp], c] (by rw [← hout]; omega) (by simp)
  rw [← hout, ← hno] at c0
  simp only [E.inss_eq hE, List.map_cons, List.map_nil] at c0
  have hxa : ∃ x, out[la]? = some x := ⟨_, List.getElem?_eq_getElem (by omega)⟩
  obtain ⟨xa, hxa⟩ := hxa
  obtain ⟨out2, hout2⟩ : ∃ o, o = setN out la (Int.ofNat (jm + 1)) := ⟨_, rfl⟩
  obtain ⟨xb, hxb⟩ : ∃ x, out2[jm]? = some x := ⟨_, List.getElem?_eq_getElem (by rw [hout2, setN_len]; omega)⟩
  obtain ⟨out3, hout3⟩ : ∃ o, o = setN out2 jm (Int.ofNat no) := ⟨_, rfl⟩
  have hch : choiceP a b c = out3 := by
    rw [hout3, hout2, hout, hno, hlen, hjm, hla]; rfl
  rw [hch]
  refine CallsV.ok (fn := Try.f66) (by kernel_rfl) (by kernel_rfl) rfl (by cbv) (by cbv) ?_
  refine Ok.run hmix hA false 2000 (by cbv) ?_
  refine Ok.call (gen_one hE [106, 102] 0) (by cbv) (by cbv) (by cbv) ?_
  refine Ok.run hmix hA false 2000 (by cbv) ?_
  refine Ok.call (gen_one hE [106, 109, 112] 0) (by cbv) (by cbv) (by cbv) ?_
  refine Ok.run hmix hA false 2000 (by cbv) ?_
  refine Ok.call c0 (by cbv) (by cbv) (by cbv) ?_
  refine Ok.run hmix hA false 2000 (by cbv) ?_
  rw [ela]
  rw [elb]
  rw [Ar.succ_eq (k := jm) hA (by omega)]
  refine Ok.op (idx_ref (by cbv) (by cbv) (by cbv) (by rw [E.ins_eq hE, List.length_map, hno]) la rfl (by omega)) ?_
  refine Ok.run hmix hA false 2000 (by cbv) ?_
  refine Ok.op (fld_eptr (by cbv) (by cbv) (by rw [E.ins_eq hE, List.length_map, hno])) ?_
  refine Ok.run hmix hA false 2000 (by cbv) ?_
  refine Ok.op (store_eptr (by cbv) (by cbv) (by rw [E.ins_eq hE, List.length_map, hno]) (E.inn xa) (by rw [E.ins_eq hE]; simp [hxa]) (by cbv) (by decide) (by exact ⟨rfl, by decide, by simp [Enc.inn, PV.cells], rfl⟩) (E .ins out2) (by rw [hout2, setN_pv hE hxa]; rfl)) ?_
  refine Ok.run hmix hA false 2000 (by cbv) ?_
  refine Ok.op (idx_ref (by cbv) (by cbv) (by cbv) (by rw [E.ins_eq hE, List.length_map, hno, hout2, setN_len]) jm rfl (by omega)) ?_
  refine Ok.run hmix hA false 2000 (by cbv) ?_
  refine Ok.op (fld_eptr (by cbv) (by cbv) (by rw [E.ins_eq hE, List.length_map, hno, hout2, setN_len])) ?_
  refine Ok.run hmix hA false 2000 (by cbv) ?_
  rw [Ar.lenN_eq hA]
  refine Ok.op (store_eptr (by cbv) (by cbv) (by rw [E.ins_eq hE, List.length_map, hno, hout2, setN_len]) (E.inn xb) (by rw [E.ins_eq hE]; simp [hxb]) (by cbv) (by decide) (by exact ⟨rfl, by decide, by simp [Enc.inn, PV.cells], rfl⟩) (E .ins out3) (by rw [hout3, setN_pv hE hxb]; rfl)) ?_
  refine Ok.run hmix hA false 2000 (by cbv) ?_
  exact Ok.fin (by cbv) (FS.ref (by cbv) (by rw [E.ins_eq hE, List.length_map, hno, hout3, setN_len, hout2, setN_len]))
end Go.Proofs.Ytnojmocoifodjaa.Pv
set_option maxRecDepth 100000
set_option linter.unusedVariables false
set_option linter.unusedSimpArgs false
namespace Go.Proofs.Ytnojmocoifodjaa.Pv
open Go Go.Proofs
/-- What gen.each puts together. -/
def eachP (out : List In) : List (List In) → List In
  | [] => out
  | p :: ps => eachP (joinTo [] [out, p]) ps
theorem eachP_len : ∀ (ps : List (List In)) (out : List In), (eachP out ps).length = out.length + (ps.map List.length).sum
  | [], out => by simp [eachP]
  | p :: ps, out => by rw [eachP, eachP_len ps, joinTo_len]; simp; omega
theorem gen_each {E : Enc} (hE : E = .std) (f : Nat) (l : List Ex4) (g : Ex4 → List In) (hg : ∀ e, e ∈ l → CallsV Try.prog f [E.ex e] (.pv (.view (E .ins (g e)))) []) (hb : (eachP [] (l.map g)).length ≤ 2 ^ 29) (hl : l.length ≤ 2 ^ 29) :
    CallsV Try.prog 60 [.view (E .exs l), .func f []] (.pv (.view (E .ins (eachP [] (l.map g))))) [] := by
  obtain ⟨A, hA⟩ : ∃ A : Ar, A = .std := ⟨_, rfl⟩
  have h0 : E .ins [] = [] := by rw [E.ins_eq hE]; rfl
  refine CallsV.ok (fn := Try.f60) (by kernel_rfl) (by kernel_rfl) rfl (by cbv) (by cbv) ?_
  refine Ok.run hmix hA false 2000 (by cbv) ?_
  refine Ok.le (Le.pv 5 (by cbv) PLe.nil) ?_
  refine Ok.loopAt [1, 5, 8, 9, 10] [] (fun m s h => ∃ (k : Nat) (out : List In) (es : List PV), m = l.length - k ∧ k ≤ l.length ∧ eachP out ((l.drop k).map g) = eachP [] (l.map g) ∧ es = E .ins out ∧
    s = mkS 22 [(1, .pv (.func f [])), (5, .pv (.view es)), (8, .pv (.view (E .exs l))), (9, .pv (.int .i64 (A .lenP (E .exs l)))), (10, .pv (.int .i64 (Int.ofNat k)))] ∧ h = []) (l.length - 0) (by cbv) ⟨0, [], [], rfl, Nat.zero_le _, rfl, h0.symm, by cbv, by cbv⟩ ?_
  rintro m s h ⟨k, out, es, rfl, hk, hout, rfl, rfl, rfl⟩
  refine Ok.run hmix hA false 2000 (by cbv) ?_
  refine Ok.cond (by cbv) ?_ ?_
  · intro h1
    rw [Ar.lt_eq hA, Ar.lenP_eq hA, decide_eq_true_eq, E.exs_eq hE, List.length_map] at h1
    have hkl : k < l.length := by simpa using h1
    have hx : l[k]? = some l[k] := List.getElem?_eq_getElem hkl
    have hm : l[k] ∈ l := List.getElem_mem hkl
    have hdrop : l.drop k = l[k] :: l.drop (k + 1) := List.drop_eq_getElem_cons hkl
    generalize l[k] = e at hx hm hdrop
    rw [hdrop, List.map_cons, eachP] at hout
    have hge := hg e hm
    obtain ⟨p, hp⟩ : ∃ p, p = g e := ⟨_, rfl⟩
    rw [← hp] at hge hout
    have hlen : (joinTo [] [out, p]).length ≤ 2 ^ 29 := by rw [← hout, eachP_len] at hb; omega
    have c0 := gen_join' hE [out, p] (by omega) (by simp)
    obtain ⟨q, hq⟩ : ∃ q, q = joinTo [] [out, p] := ⟨_, rfl⟩
    rw [← hq] at c0 hout
    simp only [E.inss_eq hE, List.map_cons, List.map_nil] at c0
    refine Ok.run hmix hA false 2000 (by cbv) ?_
    refine Ok.op (idx_view (E.ex e) (by cbv) (by cbv) (by simp) (by rw [E.exs_eq hE]; simp [hx]) rfl) ?_
    refine Ok.run hmix hA false 2000 (by cbv) ?_
    refine Ok.call (hge) (by cbv) (by cbv) (by cbv) ?_
    refine Ok.run hmix hA false 2000 (by cbv) ?_
    refine Ok.call (c0) (by cbv) (by cbv) (by cbv) ?_
    refine Ok.run hmix hA false 2000 (by cbv) ?_
    refine Ok.back (l.length - (k + 1)) [1, 5, 8, 9, 10] [] (by omega) (by cbv) ⟨k + 1, q, E .ins q, rfl, by omega, hout, rfl, ?_, by cbv⟩
    rw [Ar.succ_eq hA (by omega)]; cbv
  · intro h1
    have hke : k = l.length := by
      rw [Ar.lt_eq hA, Ar.lenP_eq hA, decide_eq_false_iff_not, E.exs_eq hE, List.length_map] at h1
      simp at h1; omega
    subst hke
    rw [List.drop_length] at hout
    have : out = eachP [] (l.map g) := hout
    rw [← this]
    refine Ok.run hmix hA false 2000 (by cbv) ?_
    refine Ok.leave ?_
    refine Ok.run hmix hA false 2000 (by cbv) ?_
    exact Ok.fin (by cbv) (FS.out (by cbv) (PLe.refl _))
end Go.Proofs.Ytnojmocoifodjaa.Pv
set_option maxRecDepth 100000
set_option linter.unusedVariables false
set_option linter.unusedSimpArgs false
namespace Go.Proofs.Ytnojmocoifodjaa.Pv
open Go Go.Proofs
def bLit : List UInt8 := [108, 105, 116]
def bX : List UInt8 := [120]
def bAt : List UInt8 := [97, 116]
def bTup : List UInt8 := [116, 117, 112]
def bAnd : List UInt8 := [97, 110, 100]
def bOr : List UInt8 := [111, 114]
def bIf : List UInt8 := [105, 102]
def bPush : List UInt8 := [112, 117, 115, 104]
def vBool (b : Bool) : Vl := ⟨2, 0, b, [], []⟩
def vInt (n : Int) : Vl := ⟨1, n, false, [], []⟩
mutual
def genE : Ex4 → List In
  | .mk op v n a =>
    if op = bLit then [⟨bPush, v, 0⟩]
    else if op = bX then [⟨bX, .zero, 0⟩]
    else if op = bAt then joinTo [] [(genAll a).getD 0 [], [⟨bAt, .zero, n⟩]]
    else if op = bTup then joinTo [] [eachP [] (genAll a), [⟨bTup, .zero, (genAll a).length⟩]]
    else if op = bAnd then choiceP ((genAll a).getD 0 []) ((genAll a).getD 1 []) [⟨bPush, vBool false, 0⟩]
    else if op = bOr then choiceP ((genAll a).getD 0 []) [⟨bPush, vBool true, 0⟩] ((genAll a).getD 1 [])
    else if op = bIf then choiceP ((genAll a).getD 0 []) ((genAll a).getD 1 []) ((genAll a).getD 2 [])
    else joinTo [] [eachP [] (genAll a), [⟨op, .zero, 0⟩]]
def genAll : List Ex4 → List (List In)
  | [] => []
  | e :: l => genE e :: genAll l
end
theorem genAll_eq : ∀ l, genAll l = l.map genE
  | [] => rfl
  | e :: l => by rw [genAll, genAll_eq l, List.map_cons]
/-- How many arguments are looked at. -/
def arity (op : List UInt8) : Nat := if op = bAt then 1 else if op = bAnd ∨ op = bOr then 2 else if op = bIf then 3 else 0
mutual
/-- Has each Op what is looked at? -/
def wfE : Ex4 → Prop
  | .mk op v n a => arity op ≤ a.length ∧ wfEs a
def wfEs : List Ex4 → Prop
  | [] => True
  | e :: l => wfE e ∧ wfEs l
end
theorem wfEs_mem : ∀ {l : List Ex4} {e : Ex4}, wfEs l → e ∈ l → wfE e
  | [], e, h, he => by simp at he
  | x :: l, e, h, he => by
    rcases List.mem_cons.1 he with rfl | he
    · exact h.1
    · exact wfEs_mem h.2 he
mutual
/-- What is made, at most. -/
def sizE : Ex4 → Nat
  | .mk op v n a => 5 + sizEs a
def sizEs : List Ex4 → Nat
  | [] => 0
  | e :: l => sizE e + sizEs l
end
theorem sizEs_mem : ∀ {l : List Ex4} {e : Ex4}, e ∈ l → sizE e ≤ sizEs l
  | [], e, he => by simp at he
  | x :: l, e, he => by
    rw [sizEs]
    rcases List.mem_cons.1 he with rfl | he
    · omega
    · have := sizEs_mem he; omega
theorem choiceP_len (a b c : List In) : (choiceP a b c).length = a.length + b.length + c.length + 2 := by
  unfold choiceP
  rw [setN_len, setN_len, joinTo_len]
  simp; omega
theorem sumAll : ∀ {l : List Ex4}, (∀ e, e ∈ l → (genE e).length ≤ sizE e) → ((genAll l).map List.length).sum ≤ sizEs l
  | [], _ => by simp [genAll, sizEs]
  | e :: l, h => by
    have h1 := h e (by simp)
    have h2 := sumAll (l := l) (fun x hx => h x (by simp [hx]))
    simp [genAll, sizEs] at h2 ⊢; omega
theorem getAll {l : List Ex4} (i : Nat) : ((genAll l).getD i []).length ≤ ((genAll l).map List.length).sum := by
  generalize genAll l = m
  induction m generalizing i with
  | nil => simp
  | cons p m ih =>
    cases i with
    | zero => simp
    | succ i => have := ih i; simp at this ⊢; omega
theorem getAll2 {m : List (List In)} {i j : Nat} (hij : i < j) : (m.getD i []).length + (m.getD j []).length ≤ (m.map List.length).sum := by
  induction m generalizing i j with
  | nil => simp
  | cons p m ih =>
    cases j with
    | zero => omega
    | succ j =>
      cases i with
      | zero =>
        have : ∀ (m : List (List In)) (j : Nat), (m.getD j []).length ≤ (m.map List.length).sum := by
          intro m
          induction m with
          | nil => simp
          | cons q m ih => intro j; cases j with
            | zero => simp
            | succ j => have := ih j; simp at this ⊢; omega
        have := this m j
        simp at this ⊢; omega
      | succ i => have := @ih i j (by omega); simp at this ⊢; omega
theorem getAll3 {m : List (List In)} : (m.getD 0 []).length + (m.getD 1 []).length + (m.getD 2 []).length ≤ (m.map List.length).sum := by
  match m with
  | [] => simp
  | [a] => simp
  | [a, b] => simp
  | a :: b :: c :: m => simp; omega
theorem genE_le : ∀ (n : Nat) (e : Ex4), SizeOf.sizeOf e ≤ n → (genE e).length ≤ sizE e
  | 0, .mk op v k a, h => by simp at h
  | n + 1, .mk op v k a, h => by
    have hs := sumAll (l := a) (fun e he => genE_le n e (by have := List.sizeOf_lt_of_mem he; simp at h; omega))
    have h0 := getAll (l := a) 0
    have h01 := getAll2 (m := genAll a) (i := 0) (j := 1) (by omega)
    have h3 := getAll3 (m := genAll a)
    rw [genE, sizE]
    repeat' split
    all_goals (try (simp only [choiceP_len, joinTo_len, eachP_len, List.map_cons, List.map_nil, List.sum_cons, List.sum_nil, List.length_cons, List.length_nil]))
    all_goals omega
end Go.Proofs.Ytnojmocoifodjaa.Pv
set_option maxRecDepth 100000
set_option linter.unusedVariables false
set_option linter.unusedSimpArgs false
namespace Go.Proofs.Ytnojmocoifodjaa.Pv
open Go Go.Proofs
theorem gen_Expr {E : Enc} (hE : E = .std) : ∀ (n : Nat) (e : Ex4), SizeOf.sizeOf e ≤ n → wfE e → sizE e ≤ 2 ^ 27 → CallsV Try.prog 25 [E.ex e] (.pv (.view (E .ins (genE e)))) [] := by
  intro n
  induction n with
  | zero => intro e h; cases e; simp at h
  | succ n ih =>
    rintro ⟨op, v, k, a⟩ hn hwf hsz
    obtain ⟨A, hA⟩ : ∃ A : Ar, A = .std := ⟨_, rfl⟩
    obtain ⟨har, hwa⟩ := hwf
    rw [sizE] at hsz
    have hsub : ∀ e, e ∈ a → CallsV Try.prog 25 [E.ex e] (.pv (.view (E .ins (genE e)))) [] := fun e he => by
      have h1 := List.sizeOf_lt_of_mem he
      have h2 := sizEs_mem he
      simp at hn
      exact ih e (by omega) (wfEs_mem hwa he) (by omega)
    have hsum : ((genAll a).map List.length).sum ≤ sizEs a := sumAll (fun e he => genE_le _ e (Nat.le_refl _))
    have hal : a.length ≤ sizEs a := by
      clear har hwa hsub hsum hn hsz
      induction a with
      | nil => simp
      | cons e a iha => rw [sizEs, List.length_cons]; cases e; rw [sizE]; omega
    have hat : ∀ i, i < a.length → ∃ e, a[i]? = some e ∧ (genAll a).getD i [] = genE e ∧ CallsV Try.prog 25 [E.ex e] (.pv (.view (E .ins (genE e)))) [] := fun i hi =>
      ⟨a[i], List.getElem?_eq_getElem hi, by rw [genAll_eq]; simp [List.getD, hi], hsub _ (List.getElem_mem hi)⟩
    have hg0 := getAll (l := a) 0
    have hg1 := getAll (l := a) 1
    have hg2 := getAll (l := a) 2
    have hEe : eachP [] (genAll a) = eachP [] (a.map genE) := by rw [genAll_eq]
    have ceach := gen_each hE 25 a genE hsub (by rw [← hEe, eachP_len]; simp; omega) (by omega)
    rw [← hEe] at ceach
    obtain ⟨pe, hpe⟩ : ∃ p, p = eachP [] (genAll a) := ⟨_, rfl⟩
    have hpel : pe.length ≤ 2 ^ 28 := by rw [hpe, eachP_len]; simp; omega
    rw [← hpe] at ceach
    have hla : A .lenP (E .exs a) = Int.ofNat a.length := by rw [Ar.lenP_eq hA, E.exs_eq hE, List.length_map]; rfl
    refine CallsV.ok (fn := Try.f25) (by kernel_rfl) (by kernel_rfl) rfl (by cbv) (by cbv) ?_
    refine Ok.run hmix hA false 2000 (by cbv) ?_
    refine Ok.cond (by cbv) ?_ ?_
    · intro h1
      have h1 : op = bLit := by rw [Ar.seq_eq hA, decide_eq_true_eq] at h1; exact h1
      refine Ok.run hmix hA false 2000 (by cbv) ?_
      refine Ok.call (gen_push hE v) (by cbv) (by cbv) (by cbv) ?_
      refine Ok.run hmix hA false 2000 (by cbv) ?_
      rw [genE, if_pos h1]
      exact Ok.fin (by cbv) (FS.out (by cbv) (PLe.refl _))
    · intro h1
      have h1 : ¬ op = bLit := by rw [Ar.seq_eq hA, decide_eq_false_iff_not] at h1; exact h1
      rw [genE, if_neg h1]
      refine Ok.run hmix hA false 2000 (by cbv) ?_
      refine Ok.cond (by cbv) ?_ ?_
      · intro h2
        have h2 : op = bX := by rw [Ar.seq_eq hA, decide_eq_true_eq] at h2; exact h2
        rw [if_pos h2]
        refine Ok.run hmix hA false 2000 (by cbv) ?_
        refine Ok.call (gen_one hE [120] 0) (by cbv) (by cbv) (by cbv) ?_
        refine Ok.run hmix hA false 2000 (by cbv) ?_
        exact Ok.fin (by cbv) (FS.out (by cbv) (PLe.refl _))
      · intro h2
        have h2 : ¬ op = bX := by rw [Ar.seq_eq hA, decide_eq_false_iff_not] at h2; exact h2
        rw [if_neg h2]
        refine Ok.run hmix hA false 2000 (by cbv) ?_
        refine Ok.cond (by cbv) ?_ ?_
        · intro h3
          have h3 : op = bAt := by rw [Ar.seq_eq hA, decide_eq_true_eq] at h3; exact h3
          rw [if_pos h3]
          obtain ⟨e0, he0, hp0, c0⟩ := hat 0 (by simp [arity, h3] at har; omega)
          rw [hp0] at hg0 ⊢
          generalize genE e0 = p0 at c0 hg0
          have cj := gen_join' hE [p0, [⟨bAt, .zero, k⟩]] (by rw [joinTo_len]; simp; omega) (by simp)
          generalize joinTo [] [p0, [⟨bAt, .zero, k⟩]] = q at cj
          simp only [E.inss_eq hE, List.map_cons, List.map_nil] at cj
          refine Ok.run hmix hA false 2000 (by cbv) ?_
          refine Ok.dop (idx_view (E.ex e0) (by cbv) (by cbv) (by simp) (by rw [E.exs_eq hE]; simp [he0]) rfl) ?_
          refine Ok.run hmix hA false 2000 (by cbv) ?_
          refine Ok.dcall (c0) (by cbv) (by cbv) (by cbv) ?_
          refine Ok.run hmix hA false 2000 (by cbv) ?_
          refine Ok.dcall (gen_one hE [97, 116] k) (by cbv) (by cbv) (by cbv) ?_
          refine Ok.run hmix hA false 2000 (by cbv) ?_
          refine Ok.dcall (cj) (by cbv) (by cbv) (by cbv) ?_
          refine Ok.run hmix hA false 2000 (by cbv) ?_
          refine Ok.drawn (by kernel_rfl) ?_
          refine Ok.run hmix hA false 2000 (by cbv) ?_
          exact Ok.fin (by cbv) (FS.out (by cbv) (PLe.refl _))
        · intro h3
          have h3 : ¬ op = bAt := by rw [Ar.seq_eq hA, decide_eq_false_iff_not] at h3; exact h3
          rw [if_neg h3]
          refine Ok.run hmix hA false 2000 (by cbv) ?_
          refine Ok.cond (by cbv) ?_ ?_
          · intro h4
            have h4 : op = bTup := by rw [Ar.seq_eq hA, decide_eq_true_eq] at h4; exact h4
            rw [if_pos h4]
            have cj := gen_join' hE [pe, [⟨bTup, .zero, (genAll a).length⟩]] (by rw [joinTo_len]; simp; omega) (by simp)
            rw [← hpe]
            generalize joinTo [] [pe, [⟨bTup, .zero, (genAll a).length⟩]] = q at cj
            have hall : (genAll a).length = a.length := by rw [genAll_eq, List.length_map]
            rw [hall] at cj
            simp only [E.inss_eq hE, List.map_cons, List.map_nil] at cj
            refine Ok.run hmix hA false 2000 (by cbv) ?_
            refine Ok.dcall (ceach) (by cbv) (by cbv) (by cbv) ?_
            refine Ok.run hmix hA false 2000 (by cbv) ?_
            rw [hla]
            refine Ok.dcall (gen_one hE [116, 117, 112] (Int.ofNat a.length)) (by cbv) (by cbv) (by cbv) ?_
            refine Ok.run hmix hA false 2000 (by cbv) ?_
            refine Ok.dcall (cj) (by cbv) (by cbv) (by cbv) ?_
            refine Ok.run hmix hA false 2000 (by cbv) ?_
            refine Ok.drawn (by kernel_rfl) ?_
            refine Ok.run hmix hA false 2000 (by cbv) ?_
            exact Ok.fin (by cbv) (FS.out (by cbv) (PLe.refl _))
          · intro h4
            have h4 : ¬ op = bTup := by rw [Ar.seq_eq hA, decide_eq_false_iff_not] at h4; exact h4
            rw [if_neg h4]
            refine Ok.run hmix hA false 2000 (by cbv) ?_
            refine Ok.cond (by cbv) ?_ ?_
            · intro h5
              have h5 : op = bAnd := by rw [Ar.seq_eq hA, decide_eq_true_eq] at h5; exact h5
              rw [if_pos h5]
              obtain ⟨e0, he0, hp0, c0⟩ := hat 0 (by simp [arity, h5, bAnd, bAt] at har; omega)
              obtain ⟨e1, he1, hp1, c1⟩ := hat 1 (by simp [arity, h5, bAnd, bAt] at har; omega)
              rw [hp0, hp1]
              rw [hp0] at hg0
              rw [hp1] at hg1
              generalize genE e0 = p0 at c0 hg0
              generalize genE e1 = p1 at c1 hg1
              have cc := gen_choice hE p0 p1 [⟨bPush, vBool false, 0⟩] (by simp; omega)
              generalize choiceP p0 p1 [⟨bPush, vBool false, 0⟩] = q at cc
              refine Ok.run hmix hA false 2000 (by cbv) ?_
              refine Ok.dop (idx_view (E.ex e0) (by cbv) (by cbv) (by simp) (by rw [E.exs_eq hE]; simp [he0]) rfl) ?_
              refine Ok.run hmix hA false 2000 (by cbv) ?_
              refine Ok.dcall (c0) (by cbv) (by cbv) (by cbv) ?_
              refine Ok.run hmix hA false 2000 (by cbv) ?_
              refine Ok.dop (idx_view (E.ex e1) (by cbv) (by cbv) (by simp) (by rw [E.exs_eq hE]; simp [he1]) rfl) ?_
              refine Ok.run hmix hA false 2000 (by cbv) ?_
              refine Ok.dcall (c1) (by cbv) (by cbv) (by cbv) ?_
              refine Ok.run hmix hA false 2000 (by cbv) ?_
              refine Ok.dcall (val_Bool hE false) (by cbv) (by cbv) (by cbv) ?_
              refine Ok.run hmix hA false 2000 (by cbv) ?_
              refine Ok.dcall (gen_push hE (vBool false)) (by cbv) (by cbv) (by cbv) ?_
              refine Ok.run hmix hA false 2000 (by cbv) ?_
              refine Ok.dcall (cc) (by cbv) (by cbv) (by cbv) ?_
              refine Ok.run hmix hA false 2000 (by cbv) ?_
              refine Ok.drawn (by kernel_rfl) ?_
              refine Ok.run hmix hA false 2000 (by cbv) ?_
              exact Ok.fin (by cbv) (FS.out (by cbv) (PLe.refl _))
            · intro h5
              have h5 : ¬ op = bAnd := by rw [Ar.seq_eq hA, decide_eq_false_iff_not] at h5; exact h5
              rw [if_neg h5]
              refine Ok.run hmix hA false 2000 (by cbv) ?_
              refine Ok.cond (by cbv) ?_ ?_
              · intro h6
                have h6 : op = bOr := by rw [Ar.seq_eq hA, decide_eq_true_eq] at h6; exact h6
                rw [if_pos h6]
                obtain ⟨e0, he0, hp0, c0⟩ := hat 0 (by simp [arity, h6, bAnd, bAt, bOr] at har; omega)
                obtain ⟨e1, he1, hp1, c1⟩ := hat 1 (by simp [arity, h6, bAnd, bAt, bOr] at har; omega)
                rw [hp0, hp1]
                rw [hp0] at hg0
                rw [hp1] at hg1
                generalize genE e0 = p0 at c0 hg0
                generalize genE e1 = p1 at c1 hg1
                have cc := gen_choice hE p0 [⟨bPush, vBool true, 0⟩] p1 (by simp; omega)
                generalize choiceP p0 [⟨bPush, vBool true, 0⟩] p1 = q at cc
                refine Ok.run hmix hA false 2000 (by cbv) ?_
                refine Ok.dop (idx_view (E.ex e0) (by cbv) (by cbv) (by simp) (by rw [E.exs_eq hE]; simp [he0]) rfl) ?_
                refine Ok.run hmix hA false 2000 (by cbv) ?_
                refine Ok.dcall (c0) (by cbv) (by cbv) (by cbv) ?_
                refine Ok.run hmix hA false 2000 (by cbv) ?_
                refine Ok.dcall (val_Bool hE true) (by cbv) (by cbv) (by cbv) ?_
                refine Ok.run hmix hA false 2000 (by cbv) ?_
                refine Ok.dcall (gen_push hE (vBool true)) (by cbv) (by cbv) (by cbv) ?_
                refine Ok.run hmix hA false 2000 (by cbv) ?_
                refine Ok.dop (idx_view (E.ex e1) (by cbv) (by cbv) (by simp) (by rw [E.exs_eq hE]; simp [he1]) rfl) ?_
                refine Ok.run hmix hA false 2000 (by cbv) ?_
                refine Ok.dcall (c1) (by cbv) (by cbv) (by cbv) ?_
                refine Ok.run hmix hA false 2000 (by cbv) ?_
                refine Ok.dcall (cc) (by cbv) (by cbv) (by cbv) ?_
                refine Ok.run hmix hA false 2000 (by cbv) ?_
                refine Ok.drawn (by kernel_rfl) ?_
                refine Ok.run hmix hA false 2000 (by cbv) ?_
                exact Ok.fin (by cbv) (FS.out (by cbv) (PLe.refl _))
              · intro h6
                have h6 : ¬ op = bOr := by rw [Ar.seq_eq hA, decide_eq_false_iff_not] at h6; exact h6
                rw [if_neg h6]
                refine Ok.run hmix hA false 2000 (by cbv) ?_
                refine Ok.cond (by cbv) ?_ ?_
                · intro h7
                  have h7 : op = bIf := by rw [Ar.seq_eq hA, decide_eq_true_eq] at h7; exact h7
                  rw [if_pos h7]
                  obtain ⟨e0, he0, hp0, c0⟩ := hat 0 (by simp [arity, h7, bAnd, bAt, bOr, bIf] at har; omega)
                  obtain ⟨e1, he1, hp1, c1⟩ := hat 1 (by simp [arity, h7, bAnd, bAt, bOr, bIf] at har; omega)
                  obtain ⟨e2, he2, hp2, c2⟩ := hat 2 (by simp [arity, h7, bAnd, bAt, bOr, bIf] at har; omega)
                  rw [hp0, hp1, hp2]
                  rw [hp0] at hg0
                  rw [hp1] at hg1
                  rw [hp2] at hg2
                  generalize genE e0 = p0 at c0 hg0
                  generalize genE e1 = p1 at c1 hg1
                  generalize genE e2 = p2 at c2 hg2
                  have cc := gen_choice hE p0 p1 p2 (by omega)
                  generalize choiceP p0 p1 p2 = q at cc
                  refine Ok.run hmix hA false 2000 (by cbv) ?_
                  refine Ok.dop (idx_view (E.ex e0) (by cbv) (by cbv) (by simp) (by rw [E.exs_eq hE]; simp [he0]) rfl) ?_
                  refine Ok.run hmix hA false 2000 (by cbv) ?_
                  refine Ok.dcall (c0) (by cbv) (by cbv) (by cbv) ?_
                  refine Ok.run hmix hA false 2000 (by cbv) ?_
                  refine Ok.dop (idx_view (E.ex e1) (by cbv) (by cbv) (by simp) (by rw [E.exs_eq hE]; simp [he1]) rfl) ?_
                  refine Ok.run hmix hA false 2000 (by cbv) ?_
                  refine Ok.dcall (c1) (by cbv) (by cbv) (by cbv) ?_
                  refine Ok.run hmix hA false 2000 (by cbv) ?_
                  refine Ok.dop (idx_view (E.ex e2) (by cbv) (by cbv) (by simp) (by rw [E.exs_eq hE]; simp [he2]) rfl) ?_
                  refine Ok.run hmix hA false 2000 (by cbv) ?_
                  refine Ok.dcall (c2) (by cbv) (by cbv) (by cbv) ?_
                  refine Ok.run hmix hA false 2000 (by cbv) ?_
                  refine Ok.dcall (cc) (by cbv) (by cbv) (by cbv) ?_
                  refine Ok.run hmix hA false 2000 (by cbv) ?_
                  refine Ok.drawn (by kernel_rfl) ?_
                  refine Ok.run hmix hA false 2000 (by cbv) ?_
                  exact Ok.fin (by cbv) (FS.out (by cbv) (PLe.refl _))
                · intro h7
                  have h7 : ¬ op = bIf := by rw [Ar.seq_eq hA, decide_eq_false_iff_not] at h7; exact h7
                  rw [if_neg h7]
                  have cj := gen_join' hE [pe, [⟨op, .zero, 0⟩]] (by rw [joinTo_len]; simp; omega) (by simp)
                  rw [← hpe]
                  generalize joinTo [] [pe, [⟨op, .zero, 0⟩]] = q at cj
                  simp only [E.inss_eq hE, List.map_cons, List.map_nil] at cj
                  refine Ok.run hmix hA false 2000 (by cbv) ?_
                  refine Ok.dcall (ceach) (by cbv) (by cbv) (by cbv) ?_
                  refine Ok.run hmix hA false 2000 (by cbv) ?_
                  refine Ok.dcall (gen_one hE op 0) (by cbv) (by cbv) (by cbv) ?_
                  refine Ok.run hmix hA false 2000 (by cbv) ?_
                  refine Ok.dcall (cj) (by cbv) (by cbv) (by cbv) ?_
                  refine Ok.run hmix hA false 2000 (by cbv) ?_
                  refine Ok.drawn (by kernel_rfl) ?_
                  refine Ok.run hmix hA false 2000 (by cbv) ?_
                  exact Ok.fin (by cbv) (FS.out (by cbv) (PLe.refl _))
end Go.Proofs.Ytnojmocoifodjaa.Pv
set_option maxRecDepth 100000
set_option linter.unusedVariables false
set_option linter.unusedSimpArgs false
namespace Go.Proofs.Ytnojmocoifodjaa.Pv
open Go Go.Proofs
def bEmit : List UInt8 := [101, 109, 105, 116]
def bRet : List UInt8 := [114, 101, 116]
def iX : In := ⟨bX, .zero, 0⟩
def emitsP (n : Int) : List In := [⟨bEmit, .zero, n⟩, ⟨bRet, .zero, 0⟩]
def genOf (o : Opn) : List In :=
  if o.kind = 2 ∨ o.kind = 4 ∨ o.kind = 5 then joinTo [] [eachP [] (genAll o.e), emitsP o.e.length]
  else if o.kind = 3 then
    setN (joinTo [] [eachP [] (genAll o.e), [iJf], [iX], emitsP 1]) (eachP [] (genAll o.e)).length (((eachP [] (genAll o.e)).length + 3 : Nat) : Int)
  else joinTo [] [[iX], emitsP 1]
def genKey (o : Opn) : List In := joinTo [] [genE o.key, emitsP 1]
theorem genAll_le (a : List Ex4) : ((genAll a).map List.length).sum ≤ sizEs a := sumAll (fun e he => genE_le _ e (Nat.le_refl _))
theorem sizEs_len : ∀ a : List Ex4, a.length ≤ sizEs a
  | [] => by simp
  | e :: a => by have := sizEs_len a; rw [sizEs, List.length_cons]; cases e; rw [sizE]; omega
theorem gen_each' {E : Enc} (hE : E = .std) (a : List Ex4) (hwa : wfEs a) (hsz : sizEs a ≤ 2 ^ 27) : CallsV Try.prog 60 [.view (E .exs a), .func 25 []] (.pv (.view (E .ins (eachP [] (genAll a))))) [] := by
  have h1 := genAll_le a
  have h2 := sizEs_len a
  have hEe : eachP [] (genAll a) = eachP [] (a.map genE) := by rw [genAll_eq]
  have := gen_each hE 25 a genE (fun e he => gen_Expr hE _ e (Nat.le_refl _) (wfEs_mem hwa he) (Nat.le_trans (sizEs_mem he) (by omega))) (by rw [← hEe, eachP_len]; simp; omega) (by omega)
  rw [← hEe] at this
  exact this
theorem gen_Of {E : Enc} (hE : E = .std) (o : Opn) (hwa : wfEs o.e) (hsz : sizEs o.e ≤ 2 ^ 27) : CallsV Try.prog 20 [E.opn o] (.pv (.view (E .ins (genOf o)))) [] := by
  obtain ⟨kind, name, ty, e, key, fold, n⟩ := o
  obtain ⟨A, hA⟩ : ∃ A : Ar, A = .std := ⟨_, rfl⟩
  have h1 := genAll_le e
  have h2 := sizEs_len e
  have ceach := gen_each' hE e hwa hsz
  obtain ⟨pe, hpe⟩ : ∃ p, p = eachP [] (genAll e) := ⟨_, rfl⟩
  have hpel : pe.length ≤ 2 ^ 28 := by rw [hpe, eachP_len]; simp at hsz ⊢; omega
  rw [← hpe] at ceach
  have hla : A .lenP (E .exs e) = Int.ofNat e.length := by rw [Ar.lenP_eq hA, E.exs_eq hE, List.length_map]; rfl
  have hcj : ∃ q, q = joinTo [] [pe, emitsP e.length] ∧ CallsV Try.prog 59 [.view [.view (E .ins pe), .view (E .ins (emitsP e.length))]] (.pv (.view (E .ins q))) [] := by
    refine ⟨_, rfl, ?_⟩
    have cj := gen_join' hE [pe, emitsP e.length] (by rw [joinTo_len]; simp [emitsP]; omega) (by simp)
    simpa only [E.inss_eq hE, List.map_cons, List.map_nil] using cj
  obtain ⟨q, hq, cj⟩ := hcj
  refine CallsV.ok (fn := Try.f20) (by kernel_rfl) (by kernel_rfl) rfl (by cbv) (by cbv) ?_
  by_cases k2 : kind = 2
  · have hs : genOf ⟨kind, name, ty, e, key, fold, n⟩ = q := by simp [genOf, k2, hq, hpe]
    rw [hs]
    have e2 : A .eq kind 2 = true := by rw [Ar.eq_eq hA]; exact decide_eq_true k2
    refine Ok.run hmix hA false 2000 (by cbv) ?_
    rw [e2]
    refine Ok.condT (by cbv) ?_
    refine Ok.run hmix hA false 2000 (by cbv) ?_
    refine Ok.condT (by cbv) ?_
    refine Ok.run hmix hA false 2000 (by cbv) ?_
    refine Ok.dcall (ceach) (by cbv) (by cbv) (by cbv) ?_
    refine Ok.run hmix hA false 2000 (by cbv) ?_
    rw [hla]
    refine Ok.dcall (gen_emits hE (Int.ofNat e.length)) (by cbv) (by cbv) (by cbv) ?_
    refine Ok.run hmix hA false 2000 (by cbv) ?_
    refine Ok.dcall (cj) (by cbv) (by cbv) (by cbv) ?_
    refine Ok.run hmix hA false 2000 (by cbv) ?_
    refine Ok.drawn (by kernel_rfl) ?_
    refine Ok.run hmix hA false 2000 (by cbv) ?_
    exact Ok.fin (by cbv) (FS.out (by cbv) (PLe.refl _))
  have e2 : A .eq kind 2 = false := by rw [Ar.eq_eq hA]; exact decide_eq_false k2
  refine Ok.run hmix hA false 2000 (by cbv) ?_
  rw [e2]
  refine Ok.condF (by cbv) ?_
  refine Ok.run hmix hA false 2000 (by cbv) ?_
  by_cases k4 : kind = 4
  · have hs : genOf ⟨kind, name, ty, e, key, fold, n⟩ = q := by simp [genOf, k4, hq, hpe]
    rw [hs]
    have e4 : A .eq kind 4 = true := by rw [Ar.eq_eq hA]; exact decide_eq_true k4
    rw [e4]
    refine Ok.condT (by cbv) ?_
    refine Ok.run hmix hA false 2000 (by cbv) ?_
    refine Ok.condT (by cbv) ?_
    refine Ok.run hmix hA false 2000 (by cbv) ?_
    refine Ok.dcall (ceach) (by cbv) (by cbv) (by cbv) ?_
    refine Ok.run hmix hA false 2000 (by cbv) ?_
    rw [hla]
    refine Ok.dcall (gen_emits hE (Int.ofNat e.length)) (by cbv) (by cbv) (by cbv) ?_
    refine Ok.run hmix hA false 2000 (by cbv) ?_
    refine Ok.dcall (cj) (by cbv) (by cbv) (by cbv) ?_
    refine Ok.run hmix hA false 2000 (by cbv) ?_
    refine Ok.drawn (by kernel_rfl) ?_
    refine Ok.run hmix hA false 2000 (by cbv) ?_
    exact Ok.fin (by cbv) (FS.out (by cbv) (PLe.refl _))
  have e4 : A .eq kind 4 = false := by rw [Ar.eq_eq hA]; exact decide_eq_false k4
  rw [e4]
  refine Ok.condF (by cbv) ?_
  refine Ok.run hmix hA false 2000 (by cbv) ?_
  by_cases k5 : kind = 5
  · have hs : genOf ⟨kind, name, ty, e, key, fold, n⟩ = q := by simp [genOf, k5, hq, hpe]
    rw [hs]
    have e5 : A .eq kind 5 = true := by rw [Ar.eq_eq hA]; exact decide_eq_true k5
    rw [e5]
    refine Ok.condT (by cbv) ?_
    refine Ok.run hmix hA false 2000 (by cbv) ?_
    refine Ok.dcall (ceach) (by cbv) (by cbv) (by cbv) ?_
    refine Ok.run hmix hA false 2000 (by cbv) ?_
    rw [hla]
    refine Ok.dcall (gen_emits hE (Int.ofNat e.length)) (by cbv) (by cbv) (by cbv) ?_
    refine Ok.run hmix hA false 2000 (by cbv) ?_
    refine Ok.dcall (cj) (by cbv) (by cbv) (by cbv) ?_
    refine Ok.run hmix hA false 2000 (by cbv) ?_
    refine Ok.drawn (by kernel_rfl) ?_
    refine Ok.run hmix hA false 2000 (by cbv) ?_
    exact Ok.fin (by cbv) (FS.out (by cbv) (PLe.refl _))
  have e5 : A .eq kind 5 = false := by rw [Ar.eq_eq hA]; exact decide_eq_false k5
  rw [e5]
  refine Ok.condF (by cbv) ?_
  refine Ok.run hmix hA false 2000 (by cbv) ?_
  by_cases k3 : kind = 3
  · have e3 : A .eq kind 3 = true := by rw [Ar.eq_eq hA]; exact decide_eq_true k3
    rw [e3]
    refine Ok.condT (by cbv) ?_
    obtain ⟨out, hout⟩ : ∃ out, out = joinTo [] [pe, [iJf], [iX], emitsP 1] := ⟨_, rfl⟩
    have hlen : out.length = pe.length + 4 := by rw [hout, joinTo_len]; simp [emitsP]
    obtain ⟨no, hno⟩ : ∃ no, no = out.length := ⟨_, rfl⟩
    obtain ⟨la, hla⟩ : ∃ la, la = pe.length := ⟨_, rfl⟩
    have ea : A .sub .i64 (Int.ofNat no) 4 = Int.ofNat la := by
      rw [Ar.sub_eq hA]
      show IntKind.wrap .i64 ((no : Int) - 4) = (la : Int)
      rw [IntWalk.i64_in _ ⟨by omega, by omega⟩]; omega
    obtain ⟨l3, hl3⟩ : ∃ l3, l3 = la + 3 := ⟨_, rfl⟩
    have eb : A .sub .i64 (Int.ofNat no) 1 = Int.ofNat l3 := by
      rw [Ar.sub_eq hA]
      show IntKind.wrap .i64 ((no : Int) - 1) = (l3 : Int)
      rw [IntWalk.i64_in _ ⟨by omega, by omega⟩]; omega
    have eno : A .lenN no = Int.ofNat no := Ar.lenN_eq hA no
    have c0 := gen_join hE [pe, [iJf], [iX], emitsP 1] (by rw [← hout]; omega) (by simp)
    rw [← hout, ← hno] at c0
    simp only [E.inss_eq hE, List.map_cons, List.map_nil] at c0
    obtain ⟨xa, hxa⟩ : ∃ x, out[la]? = some x := ⟨_, List.getElem?_eq_getElem (by omega)⟩
    obtain ⟨out2, hout2⟩ : ∃ o, o = setN out la (Int.ofNat l3) := ⟨_, rfl⟩
    have hs : genOf ⟨kind, name, ty, e, key, fold, n⟩ = out2 := by
      rw [hout2, hout, hl3, hla, hpe]; simp [genOf, k3]
    rw [hs]
    refine Ok.run hmix hA false 2000 (by cbv) ?_
    refine Ok.call (ceach) (by cbv) (by cbv) (by cbv) ?_
    refine Ok.run hmix hA false 2000 (by cbv) ?_
    refine Ok.call (gen_one hE [106, 102] 0) (by cbv) (by cbv) (by cbv) ?_
    refine Ok.run hmix hA false 2000 (by cbv) ?_
    refine Ok.call (gen_one hE [120] 0) (by cbv) (by cbv) (by cbv) ?_
    refine Ok.run hmix hA false 2000 (by cbv) ?_
    refine Ok.call (gen_emits hE 1) (by cbv) (by cbv) (by cbv) ?_
    refine Ok.run hmix hA false 2000 (by cbv) ?_
    refine Ok.call c0 (by cbv) (by cbv) (by cbv) ?_
    refine Ok.run hmix hA false 2000 (by cbv) ?_
    rw [eno, ea, eb]
    refine Ok.op (idx_ref (by cbv) (by cbv) (by cbv) (by rw [E.ins_eq hE, List.length_map, hno]) la rfl (by omega)) ?_
    refine Ok.run hmix hA false 2000 (by cbv) ?_
    refine Ok.op (fld_eptr (by cbv) (by cbv) (by rw [E.ins_eq hE, List.length_map, hno])) ?_
    refine Ok.run hmix hA false 2000 (by cbv) ?_
    refine Ok.op (store_eptr (by cbv) (by cbv) (by rw [E.ins_eq hE, List.length_map, hno]) (E.inn xa) (by rw [E.ins_eq hE]; simp [hxa]) (by cbv) (by decide) (by exact ⟨rfl, by decide, by simp [Enc.inn, PV.cells], rfl⟩) (E .ins out2) (by rw [hout2, setN_pv hE hxa]; rfl)) ?_
    refine Ok.run hmix hA false 2000 (by cbv) ?_
    exact Ok.fin (by cbv) (FS.ref (by cbv) (by rw [E.ins_eq hE, List.length_map, hno, hout2, setN_len]))
  · have e3 : A .eq kind 3 = false := by rw [Ar.eq_eq hA]; exact decide_eq_false k3
    rw [e3]
    refine Ok.condF (by cbv) ?_
    have hs : genOf ⟨kind, name, ty, e, key, fold, n⟩ = joinTo [] [[iX], emitsP 1] := by simp [genOf, k2, k3, k4, k5]
    rw [hs]
    refine Ok.run hmix hA false 2000 (by cbv) ?_
    refine Ok.call (gen_one hE [120] 0) (by cbv) (by cbv) (by cbv) ?_
    refine Ok.run hmix hA false 2000 (by cbv) ?_
    refine Ok.call (gen_emits hE 1) (by cbv) (by cbv) (by cbv) ?_
    refine Ok.run hmix hA false 2000 (by cbv) ?_
    (have c0 := gen_join' hE [[iX], emitsP 1] (by decide) (by decide); simp only [E.inss_eq hE, List.map_cons, List.map_nil] at c0; refine Ok.call c0 (by cbv) (by cbv) (by cbv) ?_)
    refine Ok.run hmix hA false 2000 (by cbv) ?_
    exact Ok.fin (by cbv) (FS.out (by cbv) (PLe.refl _))
theorem gen_Key {E : Enc} (hE : E = .std) (o : Opn) (hwa : wfE o.key) (hsz : sizE o.key ≤ 2 ^ 27) : CallsV Try.prog 23 [E.opn o] (.pv (.view (E .ins (genKey o)))) [] := by
  obtain ⟨kind, name, ty, e, ⟨op, v, k, a⟩, fold, n⟩ := o
  obtain ⟨A, hA⟩ : ∃ A : Ar, A = .std := ⟨_, rfl⟩
  have h1 := genE_le _ (Ex4.mk op v k a) (Nat.le_refl _)
  have c1 := gen_Expr hE _ (Ex4.mk op v k a) (Nat.le_refl _) hwa hsz
  unfold genKey
  simp only [] at h1 hsz ⊢
  generalize genE (Ex4.mk op v k a) = pe at h1 c1
  have cj := gen_join' hE [pe, emitsP 1] (by rw [joinTo_len]; simp [emitsP]; omega) (by simp)
  simp only [E.inss_eq hE, List.map_cons, List.map_nil] at cj
  generalize joinTo [] [pe, emitsP 1] = q at cj
  refine CallsV.ok (fn := Try.f23) (by kernel_rfl) (by kernel_rfl) rfl (by cbv) (by cbv) ?_
  refine Ok.run hmix hA false 2000 (by cbv) ?_
  refine Ok.call (c1) (by cbv) (by cbv) (by cbv) ?_
  refine Ok.run hmix hA false 2000 (by cbv) ?_
  refine Ok.call (gen_emits hE 1) (by cbv) (by cbv) (by cbv) ?_
  refine Ok.run hmix hA false 2000 (by cbv) ?_
  refine Ok.call (cj) (by cbv) (by cbv) (by cbv) ?_
  refine Ok.run hmix hA false 2000 (by cbv) ?_
  exact Ok.fin (by cbv) (FS.out (by cbv) (PLe.refl _))
theorem law4_X {E : Enc} (hE : E = .std) : CallsV Try.prog 27 [] (.pv (E.ex ⟨bX, .zero, 0, []⟩)) [] := by
  obtain ⟨A, hA⟩ : ∃ A : Ar, A = .std := ⟨_, rfl⟩
  have h0 : E .vls [] = [] := by rw [E.vls_eq hE]; rfl
  have h1 : E .exs [] = [] := by rw [E.exs_eq hE]; rfl
  refine CallsV.ok (fn := Try.f27) (by kernel_rfl) (by kernel_rfl) rfl (by cbv) (by cbv) ?_
  refine Ok.run hmix hA false 2000 (by cbv) ?_
  refine Ok.fin (by cbv) (FS.out (by cbv) (PLe.of ?_))
  simp [Enc.ex, Vl.zero, h0, h1, bX]
theorem law4_Op {E : Enc} (hE : E = .std) (op : List UInt8) (a : List Ex4) : CallsV Try.prog 28 [.str op, .view (E .exs a)] (.pv (E.ex ⟨op, .zero, 0, a⟩)) [] := by
  obtain ⟨A, hA⟩ : ∃ A : Ar, A = .std := ⟨_, rfl⟩
  have h0 : E .vls [] = [] := by rw [E.vls_eq hE]; rfl
  refine CallsV.ok (fn := Try.f28) (by kernel_rfl) (by kernel_rfl) rfl (by cbv) (by cbv) ?_
  refine Ok.run hmix hA false 2000 (by cbv) ?_
  refine Ok.fin (by cbv) (FS.out (by cbv) (PLe.of ?_))
  simp [Enc.ex, Vl.zero, h0]
theorem law4_Lit {E : Enc} (hE : E = .std) (v : Vl) : CallsV Try.prog 29 [E.vl v] (.pv (E.ex ⟨bLit, v, 0, []⟩)) [] := by
  obtain ⟨A, hA⟩ : ∃ A : Ar, A = .std := ⟨_, rfl⟩
  have h1 : E .exs [] = [] := by rw [E.exs_eq hE]; rfl
  refine CallsV.ok (fn := Try.f29) (by kernel_rfl) (by kernel_rfl) rfl (by cbv) (by cbv) ?_
  refine Ok.run hmix hA false 2000 (by cbv) ?_
  refine Ok.fin (by cbv) (FS.out (by cbv) (PLe.of ?_))
  simp [Enc.ex, h1, bLit]
end Go.Proofs.Ytnojmocoifodjaa.Pv
set_option maxRecDepth 100000
set_option linter.unusedVariables false
set_option linter.unusedSimpArgs false
namespace Go.Proofs.Ytnojmocoifodjaa.Pv
open Go Go.Proofs
mutual
def szV : Vl → Nat
  | .mk k i b s t => 1 + szVs t
def szVs : List Vl → Nat
  | [] => 0
  | v :: l => szV v + szVs l
end
theorem szVs_mem : ∀ {l : List Vl} {e : Vl}, e ∈ l → szV e ≤ szVs l
  | [], e, he => by simp at he
  | x :: l, e, he => by
    rw [szVs]
    rcases List.mem_cons.1 he with rfl | he
    · omega
    · have := szVs_mem he; omega
theorem szVs_len : ∀ a : List Vl, a.length ≤ szVs a
  | [] => by simp
  | e :: a => by have := szVs_len a; rw [szVs, List.length_cons]; cases e; rw [szV]; omega
theorem law2_Of {E : Enc} (hE : E = .std) : ∀ (n : Nat) (v : Vl), SizeOf.sizeOf v ≤ n → szV v ≤ 2 ^ 28 → CallsV Try.prog 69 [E.vl v] (.pv (E.vl v)) [] := by
  intro n
  induction n with
  | zero => intro v h; cases v; simp at h
  | succ n ih =>
    rintro ⟨kind, vi, vb, vs, l⟩ hn hsz
    obtain ⟨A, hA⟩ : ∃ A : Ar, A = .std := ⟨_, rfl⟩
    rw [szV] at hsz
    have hlen := szVs_len l
    have hsub : ∀ e, e ∈ l → CallsV Try.prog 69 [E.vl e] (.pv (E.vl e)) [] := fun e he => by
      have h1 := List.sizeOf_lt_of_mem he
      have h2 := szVs_mem he
      simp at hn
      exact ih e (by omega) (by omega)
    have hll : A .lenP (E .vls l) = Int.ofNat l.length := by rw [Ar.lenP_eq hA, E.vls_eq hE, List.length_map]; rfl
    refine CallsV.ok (fn := Try.f69) (by kernel_rfl) (by kernel_rfl) rfl (by cbv) (by cbv) ?_
    refine Ok.run hmix hA false 2000 (by cbv) ?_
    refine Ok.le (Le.nilBox 3 4 30 42 5 (by cbv) (by cbv) (by cbv) (by decide)) ?_
    refine Ok.loopAt [1, 2, 3, 4] [1, 2, 3, 30] (fun m s h => ∃ (k q : Nat) (es : List PV), m = l.length - k ∧ k ≤ l.length ∧ q = k ∧ es = E .vls (l.take k) ∧
      s = mkS 33 [(1, .ptr 1 0), (2, .ptr 2 0), (3, .ptr 3 0), (4, .pv (.int .i64 (Int.ofNat k)))] ∧
      h = [(1, .box [.pv (.int .i64 kind), .pv (.int .i64 vi), .pv (.bool vb), .pv (.str vs), .pv (.view (E .vls l))] true), (2, .box [.pv (.int .i64 0), .pv (.int .i64 0), .pv (.bool false), .pv (.str []), .pv .nil] true),
        (3, .box [.pv (.int .i64 kind), .pv (.int .i64 vi), .pv (.bool vb), .pv (.str vs), .ref 30 q] true), (30, .row 42 5 es true)]) (l.length - 0) (by cbv) ⟨0, 0, [], rfl, Nat.zero_le _, rfl, by rw [E.vls_eq hE]; rfl, by cbv, by cbv⟩ ?_
    rintro m s h ⟨k, q, es, rfl, hk, hq, hes, rfl, rfl⟩
    have hesl : q = es.length := by rw [hes, E.vls_eq hE, List.length_map, List.length_take]; omega
    refine Ok.run hmix hA false 2000 (by cbv) ?_
    refine Ok.cond (by cbv) ?_ ?_
    · intro h1
      rw [Ar.lt_eq hA, hll, decide_eq_true_eq] at h1
      have hkl : k < l.length := by simpa using h1
      have hx : l[k]? = some l[k] := List.getElem?_eq_getElem hkl
      have hm : l[k] ∈ l := List.getElem_mem hkl
      have htake : l.take (k + 1) = l.take k ++ [l[k]] := by rw [List.take_add_one, hx]; rfl
      generalize l[k] = e at hx hm htake
      have hge := hsub e hm
      refine Ok.run hmix hA false 2000 (by cbv) ?_
      refine Ok.dop (idx_view (E.vl e) (by cbv) (by cbv) (by simp) (by rw [E.vls_eq hE]; simp [hx]) rfl) ?_
      refine Ok.run hmix hA false 2000 (by cbv) ?_
      refine Ok.dcall (hge) (by cbv) (by cbv) (by cbv) ?_
      refine Ok.run hmix hA false 2000 (by cbv) ?_
      obtain ⟨es3, hes3⟩ : ∃ es3, es3 = es ++ [E.vl e] := ⟨_, rfl⟩
      obtain ⟨n3, hn3⟩ : ∃ n3, n3 = q + 1 := ⟨_, rfl⟩
      refine Ok.dop (app_ref (by cbv) (by cbv) hesl (by cbv) (by cbv) (by decide) (by simp only [List.length_singleton]; omega) (by unfold maxLen; simp only [List.length_singleton]; omega) n3 (by exact hn3) es3 (by rw [hes3]; rfl)) ?_
      refine Ok.run hmix hA false 2000 (by cbv) ?_
      refine Ok.drawn (by kernel_rfl) ?_
      refine Ok.run hmix hA false 2000 (by cbv) ?_
      refine Ok.back (l.length - (k + 1)) [1, 2, 3, 4] [1, 2, 3, 30] (by omega) (by cbv) ⟨k + 1, n3, es3, rfl, by omega, by omega, by rw [hes3, hes, htake, E.vls_eq hE, E.vls_eq hE]; simp, ?_, by cbv⟩
      rw [Ar.succ_eq hA (by omega)]; cbv
    · intro h1
      have hke : k = l.length := by
        rw [Ar.lt_eq hA, hll, decide_eq_false_iff_not] at h1
        simp at h1; omega
      subst hke
      rw [List.take_length] at hes
      subst hes
      refine Ok.run hmix hA false 2000 (by cbv) ?_
      refine Ok.leave ?_
      refine Ok.run hmix hA false 2000 (by cbv) ?_
      exact Ok.fin (by cbv) (FS.out (p := E.vl ⟨kind, vi, vb, vs, l⟩) (ids := [30]) (by simp [frz2, frz1, frzL, frz0, PV.rlx, rowOf, hget, ← hesl, Enc.vl]) (PLe.refl _))
end Go.Proofs.Ytnojmocoifodjaa.Pv
