/- The law OpShapes of this seat: a part of its proof (an abstract evaluator of the code that is proved sound, and contracts of functions), with no condition. -/
import Derived.WalkKit
import Derived.Laws.AppendOwn
import Derived.Laws.MakeOwn
import Derived.Orders
import Derived.Below
import Derived.Laws.Tables
import Derived.Deep.MidRow
import Derived.Laws.IdiomStrings
set_option linter.unusedVariables false
set_option linter.unusedSimpArgs false
namespace Go.Proofs.Ytnojmocoifodjaa.Pv
open Go Go.RowKit

/-! ### Values ars trees -/
inductive PV where
  | junk
  | bool (b : Bool)
  | int (k : IntKind) (n : Int)
  | str (s : List UInt8)
  | nil
  | cap0
  | niln
  | emp
  | view (es : List PV)
  | vptr (cs : List PV)
  | func (f : Nat) (caps : List PV)
  | agg (cs : List PV)
  deriving Inhabited

def PV.cells : PV → List PV
  | .agg cs => cs
  | p => [p]
def PV.one : PV → Bool
  | .agg _ | .junk => false
  | _ => true

/-- A constant ars a tree. -/
def PV.ofV : Value → PV
  | .bool b => .bool b
  | .int k n => .int k n
  | .string s => if s.size ≤ maxLen then .str s.data.toList else .junk
  | .slice none 0 0 => .nil
  | _ => .junk

/-- A text out of its bytes. -/
def bs (l : List UInt8) : ByteArray := ⟨l.toArray⟩
@[simp] theorem bs_size (l : List UInt8) : (bs l).size = l.length := rfl
@[simp] theorem bs_data (s : ByteArray) : bs s.data.toList = s := rfl
/-- A value reads ars a tree; S: the cells that stay ars they are. -/
inductive RV (S : Nat → Nat → Prop) (W : World) : PV → Value → Prop
  | junk (v : Value) : RV S W .junk v
  | bool (b : Bool) : RV S W (.bool b) (.bool b)
  | int (k : IntKind) (n : Int) : RV S W (.int k n) (.int k n)
  | str (s : List UInt8) (h : s.length ≤ maxLen) : RV S W (.str s) (.string (bs s))
  | nil : RV S W .nil (.slice none 0 0)
  | cap0 (A : Option Addr) : RV S W .cap0 (.slice A 0 0)
  | niln (c : Nat) : RV S W .niln (.slice none 0 c)
  | emp (b : Addr) (c : Nat) : RV S W .emp (.slice (some b) 0 c)
  | view0 (A : Option Addr) (c : Nat) : RV S W (.view []) (.slice A 0 c)
  | view (es : List PV) (k o sz c : Nat) (u : Nat → Nat → Value) (hc : es.length ≤ c) (hm : c ≤ maxLen)
      (hsz : ∀ (i : Nat) (e : PV), es[i]? = some e → e.cells.length = sz)
      (hS : ∀ (i : Nat) (e : PV) (j : Nat) (p : PV), es[i]? = some e → e.cells[j]? = some p → S k (o + i * sz + j))
      (hW : ∀ (i : Nat) (e : PV) (j : Nat) (p : PV), es[i]? = some e → e.cells[j]? = some p → W.cell? ⟨k, o + i * sz + j, none⟩ = some (u i j))
      (hR : ∀ (i : Nat) (e : PV) (j : Nat) (p : PV), es[i]? = some e → e.cells[j]? = some p → RV S W p (u i j)) : RV S W (.view es) (.slice (some ⟨k, o, none⟩) es.length c)
  | vptr (cs : List PV) (k o : Nat) (u : Nat → Value)
      (hS : ∀ (j : Nat) (p : PV), cs[j]? = some p → S k (o + j))
      (hW : ∀ (j : Nat) (p : PV), cs[j]? = some p → W.cell? ⟨k, o + j, none⟩ = some (u j))
      (hR : ∀ (j : Nat) (p : PV), cs[j]? = some p → RV S W p (u j)) : RV S W (.vptr cs) (.pointer (some ⟨k, o, none⟩))
  | func (f : Nat) (caps : List PV) (vs : Array Value) (hn : vs.size = caps.length) (hR : ∀ (i : Nat) (p : PV), caps[i]? = some p → RV S W p (vs.getD i undef)) : RV S W (.func f caps) (.func (.func f) #[] vs)
  | agg (cs : List PV) (vs : Array Value) (hn : vs.size = cs.length) (hR : ∀ (i : Nat) (p : PV), cs[i]? = some p → RV S W p (vs.getD i undef)) : RV S W (.agg cs) (.agg vs)

/-- What has stayed. -/
structure Stay (S S' : Nat → Nat → Prop) (W W' : World) : Prop where
  s : ∀ k o, S k o → S' k o
  c : ∀ k o, S k o → W'.cell? ⟨k, o, none⟩ = W.cell? ⟨k, o, none⟩
theorem Stay.refl (S : Nat → Nat → Prop) (W : World) : Stay S S W W := ⟨fun _ _ h => h, fun _ _ _ => rfl⟩
theorem Stay.trans {S S' S'' : Nat → Nat → Prop} {W W' W'' : World} (h : Stay S S' W W') (k : Stay S' S'' W' W'') : Stay S S'' W W'' :=
  ⟨fun a b c => k.s _ _ (h.s _ _ c), fun a b c => (k.c _ _ (h.s _ _ c)).trans (h.c _ _ c)⟩
theorem RV.stay {S S' : Nat → Nat → Prop} {W W' : World} (hs : Stay S S' W W') {p : PV} {v : Value} (h : RV S W p v) : RV S' W' p v := by
  induction h with
  | junk v => exact .junk v
  | bool b => exact .bool b
  | int k n => exact .int k n
  | str s h => exact .str s h
  | nil => exact .nil
  | cap0 A => exact .cap0 A
  | niln c => exact .niln c
  | emp b c => exact .emp b c
  | view0 A c => exact .view0 A c
  | view es k o sz c u hc hm hsz hS hW hR ih =>
    exact .view es k o sz c u hc hm hsz (fun i e j p he hp => hs.s _ _ (hS i e j p he hp)) (fun i e j p he hp => (hs.c _ _ (hS i e j p he hp)).trans (hW i e j p he hp)) ih
  | vptr cs k o u hS hW hR ih => exact .vptr cs k o u (fun j p hp => hs.s _ _ (hS j p hp)) (fun j p hp => (hs.c _ _ (hS j p hp)).trans (hW j p hp)) ih
  | func f caps vs hn hR ih => exact .func f caps vs hn ih
  | agg cs vs hn hR ih => exact .agg cs vs hn ih
theorem RV.ofV (S : Nat → Nat → Prop) (W : World) (v : Value) : RV S W (PV.ofV v) v := by
  unfold PV.ofV
  split
  · exact .bool _
  · exact .int _ _
  · split
    · rename_i s hs
      exact .str s.data.toList hs
    · exact .junk _
  · exact .nil
  · exact .junk _
/-- nil is an empty list. -/
theorem RV.nil_view {S : Nat → Nat → Prop} {W : World} {v : Value} (h : RV S W .nil v) : RV S W (.view []) v := by
  cases h; exact .view0 _ _
theorem RV.cap0_view {S : Nat → Nat → Prop} {W : World} {v : Value} (h : RV S W .cap0 v) : RV S W (.view []) v := by
  cases h; exact .view0 _ _

theorem RV.niln_view {S : Nat → Nat → Prop} {W : World} {v : Value} (h : RV S W .niln v) : RV S W (.view []) v := by
  cases h; exact .view0 _ _
theorem RV.emp_view {S : Nat → Nat → Prop} {W : World} {v : Value} (h : RV S W .emp v) : RV S W (.view []) v := by
  cases h; exact .view0 _ _
/-- An empty list is nil, or is not. -/
theorem RV.view_cases {S : Nat → Nat → Prop} {W : World} {v : Value} (h : RV S W (.view []) v) : RV S W .niln v ∨ RV S W .emp v := by
  cases h with
  | view0 A c =>
    cases A with
    | none => exact .inl (.niln c)
    | some b => exact .inr (.emp b c)
  | view es k o sz c u h1 h2 h3 h4 h5 h6 => exact .inr (.emp _ c)

/-! ### Frame values and the frame's own heap -/
inductive AV where
  | pv (p : PV)
  | ref (b n : Nat)
  | ptr (b off : Nat)
  | eptr (b n i off : Nat)
  | agg (cs : List AV)
  | tup (vs : List AV)
  | fn (f : Nat) (caps : List AV)
  deriving Inhabited
inductive Blk where
  | box (cs : List AV) (m : Bool)
  | row (e : TypeId) (sz : Nat) (es : List PV) (m : Bool)
abbrev Heap := Nat → Option Blk
def AV.cells : AV → List AV
  | .pv p => p.cells.map .pv
  | .agg cs => cs
  | x => [x]
def Blk.mut : Blk → Bool
  | .box _ m | .row _ _ _ m => m
def Blk.known : Blk → Nat
  | .box cs _ => cs.length
  | .row _ sz es _ => es.length * sz

/-- A current slice over row b. -/
def Cur (W : World) (β : Nat → Option Nat) (b sz n : Nat) (v : Value) : Prop :=
  (β b = none ∧ n = 0 ∧ ∃ A, v = .slice A 0 0) ∨ ∃ k c cur e, β b = some k ∧ v = .slice (some ⟨k, 0, none⟩) n c ∧ n ≤ c ∧ c ≤ maxLen ∧ W.heap[k]? = some (.cells cur e (0, 0)) ∧ cur.size = c * sz

inductive RA (S : Nat → Nat → Prop) (W : World) (β : Nat → Option Nat) (h : Heap) : AV → Value → Prop
  | pv {p : PV} {v : Value} (hp : RV S W p v) : RA S W β h (.pv p) v
  | ref {b n : Nat} {v : Value} {e : TypeId} {sz : Nat} {es : List PV} {m : Bool} (hb : h b = some (.row e sz es m)) (hn : n ≤ es.length)
      (hv : ∃ A c, v = .slice A n c ∧ n ≤ c ∧ c ≤ maxLen) (hc : n = es.length → Cur W β b sz n v) : RA S W β h (.ref b n) v
  | ptr {b off k : Nat} {cs : List AV} {m : Bool} (hb : h b = some (.box cs m)) (hk : β b = some k) : RA S W β h (.ptr b off) (.pointer (some ⟨k, off, none⟩))
  | eptr {b n i off : Nat} {v : Value} {e : TypeId} {sz : Nat} {es : List PV} {m : Bool} (hb : h b = some (.row e sz es m)) (hn : n ≤ es.length) (hv : ∃ a, v = .pointer a)
      (hc : n = es.length → ∃ k, β b = some k ∧ v = .pointer (some ⟨k, i * sz + off, none⟩)) : RA S W β h (.eptr b n i off) v
  | agg {cs : List AV} {vs : Array Value} (hn : vs.size = cs.length) (hR : ∀ (i : Nat) (x : AV), cs[i]? = some x → RA S W β h x (vs.getD i undef)) : RA S W β h (.agg cs) (.agg vs)
  | tup {cs : List AV} {vs : Array Value} (hn : vs.size = cs.length) (hR : ∀ (i : Nat) (x : AV), cs[i]? = some x → RA S W β h x (vs.getD i undef)) : RA S W β h (.tup cs) (.tuple vs)
  | fn {f : Nat} {cs : List AV} {vs : Array Value} (hn : vs.size = cs.length) (hR : ∀ (i : Nat) (x : AV), cs[i]? = some x → RA S W β h x (vs.getD i undef)) : RA S W β h (.fn f cs) (.func (.func f) #[] vs)

/-- How the frame's heap may go on. -/
def Blk.le (W W' : World) (k k' : Option Nat) : Blk → Blk → Prop
  | .box cs _, .box cs' _ => cs'.length = cs.length ∧ k' = k
  | .row e sz es _, .row e' sz' es' _ => e' = e ∧ sz' = sz ∧ es.length ≤ es'.length ∧ (es'.length = es.length → k' = k ∧ ∀ g cur, k = some g → W.heap[g]? = some (.cells cur e (0, 0)) → ∃ cur', W'.heap[g]? = some (.cells cur' e (0, 0)) ∧ cur'.size = cur.size)
  | _, _ => False
structure Evo (S S' : Nat → Nat → Prop) (W W' : World) (β β' : Nat → Option Nat) (h h' : Heap) : Prop where
  st : Stay S S' W W'
  b : ∀ b blk, h b = some blk → ∃ blk', h' b = some blk' ∧ Blk.le W W' (β b) (β' b) blk blk'

/-- What a block of the frame's heap is in memory. -/
def BlkRel (S : Nat → Nat → Prop) (W : World) (β : Nat → Option Nat) (h : Heap) (b : Nat) : Blk → Prop
  | .box cs m => ∃ k cur e, β b = some k ∧ W.heap[k]? = some (.cells cur e (0, 0)) ∧ cur.size = cs.length ∧ ∀ (j : Nat) (c : AV), cs[j]? = some c → RA S W β h c (cur.getD j undef)
  | .row e sz es m => 0 < sz ∧ (∀ (i : Nat) (x : PV), es[i]? = some x → x.cells.length = sz) ∧
      ((β b = none ∧ es = []) ∨ ∃ k cur, β b = some k ∧ W.heap[k]? = some (.cells cur e (0, 0)) ∧ es.length * sz ≤ cur.size ∧
        ∀ (i : Nat) (x : PV) (j : Nat) (p : PV), es[i]? = some x → x.cells[j]? = some p → RV S W p (cur.getD (i * sz + j) undef))

structure HRel (B : Nat) (S : Nat → Nat → Prop) (β : Nat → Option Nat) (h : Heap) (W : World) : Prop where
  blk : ∀ b x, h b = some x → BlkRel S W β h b x
  inj : ∀ b b' k, (h b).isSome → (h b').isSome → β b = some k → β b' = some k → b = b'
  fresh : ∀ b k, (h b).isSome → β b = some k → B ≤ k
  sinv : ∀ b x k o, h b = some x → β b = some k → S k o → x.mut = false ∧ o < x.known
  bnd : ∀ k o, S k o → k < W.heap.size

theorem RA.evo {S S' : Nat → Nat → Prop} {W W' : World} {β β' : Nat → Option Nat} {h h' : Heap} (E : Evo S S' W W' β β' h h') (HB : ∀ b x, h b = some x → BlkRel S W β h b x) {x : AV} {v : Value} (H : RA S W β h x v) : RA S' W' β' h' x v := by
  induction H with
  | pv hp => exact .pv (hp.stay E.st)
  | ref hb hn hv hc =>
    obtain ⟨blk', hb', hle⟩ := E.b _ _ hb
    cases blk' with
    | box cs m => exact hle.elim
    | row e' sz' es' m' =>
      obtain ⟨rfl, rfl, hl, heq⟩ := hle
      refine .ref hb' (Nat.le_trans hn hl) hv (fun hh => ?_)
      obtain ⟨hk, hsz⟩ := heq (by omega)
      rcases hc (by omega) with ⟨h1, h2, h3⟩ | ⟨k, c, cur, e2, h1, h2, h3, h4, h5, h6⟩
      · exact .inl ⟨hk.trans h1, h2, h3⟩
      · rcases (HB _ _ hb).2.2 with ⟨h7, _⟩ | ⟨k', cur', h7, h8, _⟩
        · rw [h1] at h7; cases h7
        · rw [h1] at h7
          cases h7
          rw [h5] at h8
          injection h8 with h8
          injection h8 with h9 h10 _
          subst h9
          subst h10
          obtain ⟨cur2, h11, h12⟩ := hsz k cur h1 h5
          exact .inr ⟨k, c, cur2, e2, hk.trans h1, h2, h3, h4, h11, by rw [h12, h6]⟩
  | ptr hb hk =>
    obtain ⟨blk', hb', hle⟩ := E.b _ _ hb
    cases blk' with
    | box cs m => exact .ptr hb' (hle.2.trans hk)
    | row e' sz' es' m' => exact hle.elim
  | eptr hb hn hv hc =>
    obtain ⟨blk', hb', hle⟩ := E.b _ _ hb
    cases blk' with
    | box cs m => exact hle.elim
    | row e' sz' es' m' =>
      obtain ⟨rfl, rfl, hl, heq⟩ := hle
      refine .eptr hb' (Nat.le_trans hn hl) hv (fun hh => ?_)
      obtain ⟨hk, hsz⟩ := heq (by omega)
      obtain ⟨k, h1, h2⟩ := hc (by omega)
      exact ⟨k, hk.trans h1, h2⟩
  | agg hn hR ih => exact .agg hn ih
  | tup hn hR ih => exact .tup hn ih
  | fn hn hR ih => exact .fn hn ih

theorem Blk.le_refl (W : World) (k : Option Nat) (x : Blk) : Blk.le W W k k x x := by
  cases x with
  | box cs m => exact ⟨rfl, rfl⟩
  | row e sz es m => exact ⟨rfl, rfl, Nat.le_refl _, fun _ => ⟨rfl, fun g cur _ hg => ⟨cur, hg, rfl⟩⟩⟩
theorem Evo.refl (S : Nat → Nat → Prop) (W : World) (β : Nat → Option Nat) (h : Heap) : Evo S S W W β β h h :=
  ⟨Stay.refl _ _, fun b blk hb => ⟨blk, hb, Blk.le_refl _ _ _⟩⟩
theorem Blk.le_trans {W W' W'' : World} {k k' k'' : Option Nat} {x y z : Blk} (h : Blk.le W W' k k' x y) (h' : Blk.le W' W'' k' k'' y z) : Blk.le W W'' k k'' x z := by
  cases x <;> cases y <;> cases z <;> simp only [Blk.le] at h h' ⊢
  · exact ⟨h'.1.trans h.1, h'.2.trans h.2⟩
  · obtain ⟨rfl, rfl, h1, h2⟩ := h
    obtain ⟨rfl, rfl, h3, h4⟩ := h'
    refine ⟨rfl, rfl, Nat.le_trans h1 h3, fun hl => ?_⟩
    obtain ⟨h5, h6⟩ := h2 (by omega)
    obtain ⟨h7, h8⟩ := h4 (by omega)
    refine ⟨h7.trans h5, fun g cur hg hc => ?_⟩
    obtain ⟨c1, hc1, hs1⟩ := h6 g cur hg hc
    obtain ⟨c2, hc2, hs2⟩ := h8 g c1 (h5.trans hg) hc1
    exact ⟨c2, hc2, hs2.trans hs1⟩
theorem Evo.trans {S S' S'' : Nat → Nat → Prop} {W W' W'' : World} {β β' β'' : Nat → Option Nat} {h h' h'' : Heap} (E : Evo S S' W W' β β' h h') (E' : Evo S' S'' W' W'' β' β'' h' h'') : Evo S S'' W W'' β β'' h h'' :=
  ⟨E.st.trans E'.st, fun b blk hb => by
    obtain ⟨b1, h1, l1⟩ := E.b b blk hb
    obtain ⟨b2, h2, l2⟩ := E'.b b b1 h1
    exact ⟨b2, h2, Blk.le_trans l1 l2⟩⟩
end Go.Proofs.Ytnojmocoifodjaa.Pv
set_option linter.unusedVariables false
set_option linter.unusedSimpArgs false
namespace Go.Proofs.Ytnojmocoifodjaa.Pv
open Go Go.RowKit

abbrev Stb := Nat → Nat → Prop
abbrev Bta := Nat → Option Nat
def hupd (h : Heap) (b : Nat) (x : Blk) : Heap := fun i => if i = b then some x else h i
def bupd (β : Bta) (b : Nat) (k : Option Nat) : Bta := fun i => if i = b then k else β i
@[simp] theorem hupd_self (h : Heap) (b : Nat) (x : Blk) : hupd h b x b = some x := by simp [hupd]
theorem hupd_ne (h : Heap) {b i : Nat} (x : Blk) (hi : i ≠ b) : hupd h b x i = h i := by simp [hupd, hi]
@[simp] theorem bupd_self (β : Bta) (b : Nat) (k : Option Nat) : bupd β b k b = k := by simp [bupd]
theorem bupd_ne (β : Bta) {b i : Nat} (k : Option Nat) (hi : i ≠ b) : bupd β b k i = β i := by simp [bupd, hi]

theorem BlkRel.lt {S : Stb} {W : World} {β : Bta} {h : Heap} {b : Nat} {x : Blk} (H : BlkRel S W β h b x) {k : Nat} (hk : β b = some k) : k < W.heap.size := by
  cases x with
  | box cs m =>
    obtain ⟨k', cur, e, h1, h2, _⟩ := H
    rw [hk] at h1; cases h1
    exact (Array.getElem?_eq_some_iff.1 h2).1
  | row e sz es m =>
    rcases H.2.2 with ⟨h1, _⟩ | ⟨k', cur, h1, h2, _⟩
    · rw [hk] at h1; cases h1
    · rw [hk] at h1; cases h1
      exact (Array.getElem?_eq_some_iff.1 h2).1
theorem HRel.lt {B : Nat} {S : Stb} {β : Bta} {h : Heap} {W : World} (H : HRel B S β h W) {b k : Nat} (hb : (h b).isSome) (hk : β b = some k) : k < W.heap.size := by
  obtain ⟨x, hx⟩ := Option.isSome_iff_exists.1 hb
  exact (H.blk b x hx).lt hk

/-- The blocks' relation goes on, block by block. -/
theorem BlkRel.evo {S S' : Stb} {W W' : World} {β β' : Bta} {h h' : Heap} (E : Evo S S' W W' β β' h h') (HB : ∀ b x, h b = some x → BlkRel S W β h b x) {b : Nat} {x : Blk}
    (H : BlkRel S W β h b x) (hβ : β' b = β b) (hw : ∀ k, β b = some k → W'.heap[k]? = W.heap[k]?) : BlkRel S' W' β' h' b x := by
  cases x with
  | box cs m =>
    obtain ⟨k, cur, e, h1, h2, h3, h4⟩ := H
    exact ⟨k, cur, e, hβ.trans h1, (hw k h1).trans h2, h3, fun j c hc => (h4 j c hc).evo E HB⟩
  | row e sz es m =>
    obtain ⟨h0, h1, h2⟩ := H
    refine ⟨h0, h1, ?_⟩
    rcases h2 with ⟨h3, h4⟩ | ⟨k, cur, h3, h4, h5, h6⟩
    · exact .inl ⟨hβ.trans h3, h4⟩
    · exact .inr ⟨k, cur, hβ.trans h3, (hw k h3).trans h4, h5, fun i x j p hx hp => (h6 i x j p hx hp).stay E.st⟩

/-- The world has grown; what was there stands. -/
theorem Stay.below {S : Stb} {W W' : World} (hb : Below W.heap.size W W') (hS : ∀ k o, S k o → k < W.heap.size) : Stay S S W W' :=
  ⟨fun _ _ h => h, fun k o h => World.cell?_of_block (a := ⟨k, o, none⟩) (hb.block k (hS k o h))⟩
theorem Evo.below {B : Nat} {S : Stb} {β : Bta} {h : Heap} {W W' : World} (H : HRel B S β h W) (hb : Below W.heap.size W W') : Evo S S W W' β β h h := by
  refine ⟨Stay.below hb H.bnd, fun b x hx => ⟨x, hx, ?_⟩⟩
  cases x with
  | box cs m => exact ⟨rfl, rfl⟩
  | row e sz es m => exact ⟨rfl, rfl, Nat.le_refl _, fun _ => ⟨rfl, fun g cur hg hc => ⟨cur, (hb.block g (H.lt (by simp [hx]) hg)).trans hc, rfl⟩⟩⟩
theorem HRel.below {B : Nat} {S : Stb} {β : Bta} {h : Heap} {W W' : World} (H : HRel B S β h W) (hb : Below W.heap.size W W') : HRel B S β h W' where
  blk b x hx := (H.blk b x hx).evo (Evo.below H hb) H.blk rfl (fun k hk => hb.block k (H.lt (by simp [hx]) hk))
  inj := H.inj
  fresh := H.fresh
  sinv := H.sinv
  bnd k o ho := Nat.lt_of_lt_of_le (H.bnd k o ho) hb.size

/-- A block more. -/
theorem Evo.attach {S : Stb} {W : World} {β : Bta} {h : Heap} {b : Nat} (hb : h b = none) (k : Option Nat) (x : Blk) : Evo S S W W β (bupd β b k) h (hupd h b x) := by
  refine ⟨Stay.refl _ _, fun i y hy => ⟨y, ?_, ?_⟩⟩
  · have : i ≠ b := by rintro rfl; rw [hb] at hy; cases hy
    rw [hupd_ne _ _ this]; exact hy
  · have : i ≠ b := by rintro rfl; rw [hb] at hy; cases hy
    rw [bupd_ne _ _ this]; exact Blk.le_refl _ _ _
theorem HRel.attach {B : Nat} {S : Stb} {β : Bta} {h : Heap} {W : World} (H : HRel B S β h W) {b : Nat} (hb : h b = none) {k : Option Nat} {x : Blk}
    (hx : BlkRel S W (bupd β b k) (hupd h b x) b x) (hk : ∀ g, k = some g → B ≤ g ∧ (∀ i, (h i).isSome → β i ≠ some g) ∧ (∀ o, S g o → x.mut = false ∧ o < x.known)) :
    HRel B S (bupd β b k) (hupd h b x) W where
  blk i y hy := by
    by_cases hi : i = b
    · subst hi; rw [hupd_self] at hy; cases hy; exact hx
    · rw [hupd_ne _ _ hi] at hy
      exact (H.blk i y hy).evo (Evo.attach hb k x) H.blk (bupd_ne _ _ hi) (fun _ _ => rfl)
  inj i j g hi hj h1 h2 := by
    by_cases ei : i = b <;> by_cases ej : j = b
    · exact ei.trans ej.symm
    · rw [ei, bupd_self] at h1
      rw [bupd_ne _ _ ej] at h2
      rw [hupd_ne _ _ ej] at hj
      exact absurd h2 ((hk g h1).2.1 j hj)
    · rw [ej, bupd_self] at h2
      rw [bupd_ne _ _ ei] at h1
      rw [hupd_ne _ _ ei] at hi
      exact absurd h1 ((hk g h2).2.1 i hi)
    · rw [bupd_ne _ _ ei] at h1
      rw [bupd_ne _ _ ej] at h2
      rw [hupd_ne _ _ ei] at hi
      rw [hupd_ne _ _ ej] at hj
      exact H.inj i j g hi hj h1 h2
  fresh i g hi h1 := by
    by_cases ei : i = b
    · rw [ei, bupd_self] at h1; exact (hk g h1).1
    · rw [bupd_ne _ _ ei] at h1
      rw [hupd_ne _ _ ei] at hi
      exact H.fresh i g hi h1
  sinv i y g o hy h1 hs := by
    by_cases ei : i = b
    · subst ei
      rw [hupd_self] at hy; cases hy
      rw [bupd_self] at h1
      exact (hk g h1).2.2 o hs
    · rw [bupd_ne _ _ ei] at h1
      rw [hupd_ne _ _ ei] at hy
      exact H.sinv i y g o hy h1 hs
  bnd := H.bnd

/-- A new block in memory, and in the frame's heap. -/
theorem HRel.alloc {B : Nat} {S : Stb} {β : Bta} {h : Heap} {W : World} (H : HRel B S β h W) (hB : B ≤ W.heap.size) {b : Nat} (hb : h b = none) (cur : Array Value) (e : TypeId) (x : Blk)
    (hx : BlkRel S (W.alloc (.cells cur e)) (bupd β b (some W.heap.size)) (hupd h b x) b x) :
    HRel B S (bupd β b (some W.heap.size)) (hupd h b x) (W.alloc (.cells cur e)) := by
  have hbel : Below W.heap.size W (W.alloc (.cells cur e)) := (Below.refl _ _).alloc (Nat.le_refl _) _
  refine (H.below hbel).attach hb hx ?_
  rintro g hg
  cases hg
  refine ⟨hB, fun i hi he => ?_, fun o ho => ?_⟩
  · exact absurd (H.lt hi he) (Nat.lt_irrefl _)
  · exact absurd (H.bnd _ _ ho) (Nat.lt_irrefl _)
theorem Evo.alloc {B : Nat} {S : Stb} {β : Bta} {h : Heap} {W : World} (H : HRel B S β h W) {b : Nat} (hb : h b = none) (cur : Array Value) (e : TypeId) (x : Blk) :
    Evo S S W (W.alloc (.cells cur e)) β (bupd β b (some W.heap.size)) h (hupd h b x) :=
  (Evo.below H ((Below.refl _ _).alloc (Nat.le_refl _) _)).trans (Evo.attach hb _ x)

/-- Blocks are laid still. -/
def Blk.frz : Blk → Blk
  | .box cs _ => .box cs false
  | .row e sz es _ => .row e sz es false
def hfrz (h : Heap) (l : List Nat) : Heap := fun b => if b ∈ l then (h b).map Blk.frz else h b
def sfrz (S : Stb) (β : Bta) (h : Heap) (l : List Nat) : Stb := fun k o => S k o ∨ ∃ b, b ∈ l ∧ ∃ x, h b = some x ∧ β b = some k ∧ o < x.known
theorem Blk.le_frz (W : World) (k : Option Nat) (x : Blk) : Blk.le W W k k x x.frz := by
  cases x with
  | box cs m => exact ⟨rfl, rfl⟩
  | row e sz es m => exact ⟨rfl, rfl, Nat.le_refl _, fun _ => ⟨rfl, fun g cur _ hg => ⟨cur, hg, rfl⟩⟩⟩
theorem Stay.frz (S : Stb) (W : World) (β : Bta) (h : Heap) (l : List Nat) : Stay S (sfrz S β h l) W W := ⟨fun _ _ h => .inl h, fun _ _ _ => rfl⟩
theorem hfrz_some {h : Heap} {l : List Nat} {b : Nat} {y : Blk} (hy : hfrz h l b = some y) : ∃ x, h b = some x ∧ (y = x ∨ (b ∈ l ∧ y = x.frz)) := by
  unfold hfrz at hy
  split at hy
  · cases hx : h b with
    | none => simp [hx] at hy
    | some x => simp [hx] at hy; exact ⟨x, rfl, .inr ⟨‹_›, hy.symm⟩⟩
  · exact ⟨y, hy, .inl rfl⟩
theorem hfrz_of {h : Heap} {l : List Nat} {b : Nat} {x : Blk} (hx : h b = some x) : hfrz h l b = some (if b ∈ l then x.frz else x) := by
  unfold hfrz
  split <;> simp [hx]
theorem Blk.frz_known (x : Blk) : x.frz.known = x.known := by cases x <;> rfl
theorem Blk.frz_mut (x : Blk) : x.frz.mut = false := by cases x <;> rfl
theorem Evo.frz (S : Stb) (W : World) (β : Bta) (h : Heap) (l : List Nat) : Evo S (sfrz S β h l) W W β β h (hfrz h l) := by
  refine ⟨Stay.frz _ _ _ _ _, fun i y hy => ⟨_, hfrz_of hy, ?_⟩⟩
  split
  · exact Blk.le_frz _ _ _
  · exact Blk.le_refl _ _ _
theorem BlkRel.frz {S : Stb} {W : World} {β : Bta} {h : Heap} {b : Nat} {x : Blk} (H : BlkRel S W β h b x) : BlkRel S W β h b x.frz := by
  cases x <;> exact H
theorem HRel.frz {B : Nat} {S : Stb} {β : Bta} {h : Heap} {W : World} (H : HRel B S β h W) (l : List Nat) : HRel B (sfrz S β h l) β (hfrz h l) W where
  blk i y hy := by
    obtain ⟨x, hx, rfl | ⟨_, rfl⟩⟩ := hfrz_some hy
    · exact (H.blk i y hx).evo (Evo.frz S W β h l) H.blk rfl (fun _ _ => rfl)
    · exact ((H.blk i x hx).evo (Evo.frz S W β h l) H.blk rfl (fun _ _ => rfl)).frz
  inj i j k hi hj := by
    obtain ⟨y, hy⟩ := Option.isSome_iff_exists.1 hi
    obtain ⟨z, hz⟩ := Option.isSome_iff_exists.1 hj
    obtain ⟨x, hx, _⟩ := hfrz_some hy
    obtain ⟨x', hx', _⟩ := hfrz_some hz
    exact H.inj i j k (by simp [hx]) (by simp [hx'])
  fresh i k hi := by
    obtain ⟨y, hy⟩ := Option.isSome_iff_exists.1 hi
    obtain ⟨x, hx, _⟩ := hfrz_some hy
    exact H.fresh i k (by simp [hx])
  sinv i y k o hy hk hs := by
    obtain ⟨x, hx, hxy⟩ := hfrz_some hy
    rcases hs with hs | ⟨b, hbl, z, hz, hbk, ho⟩
    · have := H.sinv i x k o hx hk hs
      rcases hxy with rfl | ⟨_, rfl⟩
      · exact this
      · exact ⟨x.frz_mut, by rw [x.frz_known]; exact this.2⟩
    · have e := H.inj i b k (by simp [hx]) (by simp [hz]) hk hbk
      subst e
      rw [hx] at hz; cases hz
      have : hfrz h l i = some x.frz := by rw [hfrz_of hx, if_pos hbl]
      rw [hy] at this; cases this
      exact ⟨x.frz_mut, by rw [x.frz_known]; exact ho⟩
  bnd k o hs := by
    rcases hs with hs | ⟨b, _, x, hx, hbk, ho⟩
    · exact H.bnd k o hs
    · exact H.lt (by simp [hx]) hbk
/-- New stable cells lie in the frame's own blocks. -/
theorem HRel.dn {B : Nat} {S : Stb} {β : Bta} {h : Heap} {W : World} (H : HRel B S β h W) (l : List Nat) : ∀ k o, k < B → sfrz S β h l k o → S k o := by
  rintro k o hk (hs | ⟨b, _, x, hx, hb, _⟩)
  · exact hs
  · have := H.fresh b k (by simp [hx]) hb
    omega
end Go.Proofs.Ytnojmocoifodjaa.Pv
set_option linter.unusedVariables false
set_option linter.unusedSimpArgs false
namespace Go.Proofs.Ytnojmocoifodjaa.Pv
open Go Go.RowKit

theorem mem_heap_ne {W : World} {k k' : Nat} : True := trivial

/-- A block's cells are written anew (same size, same type), the others stay. -/
structure Put (W W' : World) (k : Nat) (cur : Array Value) (e : TypeId) : Prop where
  below : Below k W W' 
  other : ∀ i, i ≠ k → W'.heap[i]? = W.heap[i]?
  new : W'.heap[k]? = some (.cells cur e (0, 0))

theorem Stay.put {S : Stb} {W W' : World} {k : Nat} {cur : Array Value} {e : TypeId} (hp : Put W W' k cur e) (hS : ∀ o, S k o → W'.cell? ⟨k, o, none⟩ = W.cell? ⟨k, o, none⟩) : Stay S S W W' := by
  refine ⟨fun _ _ h => h, fun g o h => ?_⟩
  by_cases hg : g = k
  · subst hg; exact hS o h
  · exact World.cell?_of_block (a := ⟨g, o, none⟩) (hp.other g hg)

/-- A box's cells are written. -/
theorem HRel.setBox {B : Nat} {S : Stb} {β : Bta} {h : Heap} {W W' : World} (H : HRel B S β h W) {b k : Nat} {cs cs' : List AV} (hb : h b = some (.box cs true)) (hk : β b = some k) {cur cur' : Array Value} {e : TypeId}
    (h0 : W.heap[k]? = some (.cells cur e (0, 0))) (hp : Put W W' k cur' e) (hl : cs'.length = cs.length) (hs : cur'.size = cs'.length) (hR : ∀ (j : Nat) (c : AV), cs'[j]? = some c → RA S W β h c (cur'.getD j undef)) :
    HRel B S β (hupd h b (.box cs' true)) W' ∧ Evo S S W W' β β h (hupd h b (.box cs' true)) := by
  have hnoS : ∀ o, ¬ S k o := fun o ho => by have := (H.sinv b _ k o hb hk ho).1; simp [Blk.mut] at this
  have hst : Stay S S W W' := Stay.put hp (fun o ho => absurd ho (hnoS o))
  have E : Evo S S W W' β β h (hupd h b (.box cs' true)) := by
    refine ⟨hst, fun i y hy => ?_⟩
    by_cases hi : i = b
    · subst hi
      rw [hb] at hy; cases hy
      exact ⟨_, hupd_self _ _ _, hl, rfl⟩
    · refine ⟨y, by rw [hupd_ne _ _ hi]; exact hy, ?_⟩
      cases y with
      | box c m => exact ⟨rfl, rfl⟩
      | row e2 sz es m =>
        refine ⟨rfl, rfl, Nat.le_refl _, fun _ => ⟨rfl, fun g c2 hg hc => ⟨c2, ?_, rfl⟩⟩⟩
        have : g ≠ k := by rintro rfl; exact hi (H.inj i b g (by simp [hy]) (by simp [hb]) hg hk)
        rw [hp.other g this]; exact hc
  refine ⟨⟨fun i y hy => ?_, fun i j g hi hj => ?_, fun i g hi => ?_, fun i y g o hy hg ho => ?_, fun g o ho => ?_⟩, E⟩
  · by_cases hi : i = b
    · subst hi
      rw [hupd_self] at hy; cases hy
      exact ⟨k, cur', e, hk, hp.new, hs, fun j c hc => (hR j c hc).evo E H.blk⟩
    · rw [hupd_ne _ _ hi] at hy
      refine (H.blk i y hy).evo E H.blk rfl (fun g hg => ?_)
      have : g ≠ k := by rintro rfl; exact hi (H.inj i b g (by simp [hy]) (by simp [hb]) hg hk)
      exact hp.other g this
  · have aux : ∀ i, (hupd h b (.box cs' true) i).isSome → (h i).isSome := by
      intro i hi
      by_cases e : i = b
      · subst e; simp [hb]
      · rwa [hupd_ne _ _ e] at hi
    exact H.inj i j g (aux i hi) (aux j hj)
  · refine H.fresh i g ?_
    by_cases e : i = b
    · subst e; simp [hb]
    · rwa [hupd_ne _ _ e] at hi
  · by_cases e : i = b
    · subst e
      rw [hk] at hg; cases hg
      exact absurd ho (hnoS o)
    · rw [hupd_ne _ _ e] at hy
      exact H.sinv i y g o hy hg ho
  · exact Nat.lt_of_lt_of_le (H.bnd g o ho) hp.below.size

/-- A row's cells are written: its elements, and their number, anew; perhaps in another block. -/
theorem HRel.setRow {B : Nat} {S : Stb} {β : Bta} {h : Heap} {W W' : World} (H : HRel B S β h W) {b : Nat} {e : TypeId} {sz : Nat} {es es' : List PV} {m : Bool} (hb : h b = some (.row e sz es m)) (k' : Option Nat)
    (hst : Stay S S W W') (hsize : W.heap.size ≤ W'.heap.size) (hoth : ∀ i, β b ≠ some i → k' ≠ some i → i < W.heap.size → W'.heap[i]? = W.heap[i]?)
    (hl : es.length ≤ es'.length) (hB : ∀ g, k' = some g → B ≤ g ∧ (∀ i, i ≠ b → (h i).isSome → β i ≠ some g) ∧ ∀ o, S g o → m = false ∧ o < es'.length * sz)
    (hsame : es'.length = es.length → k' = β b ∧ ∀ g cur, β b = some g → W.heap[g]? = some (.cells cur e (0, 0)) → ∃ cur', W'.heap[g]? = some (.cells cur' e (0, 0)) ∧ cur'.size = cur.size)
    (hcs : ∀ (i : Nat) (x : PV), es'[i]? = some x → x.cells.length = sz)
    (hR : (k' = none ∧ es' = []) ∨ ∃ k cur, k' = some k ∧ W'.heap[k]? = some (.cells cur e (0, 0)) ∧ es'.length * sz ≤ cur.size ∧
        ∀ (i : Nat) (x : PV) (j : Nat) (p : PV), es'[i]? = some x → x.cells[j]? = some p → RV S W' p (cur.getD (i * sz + j) undef)) :
    HRel B S (bupd β b k') (hupd h b (.row e sz es' m)) W' ∧ Evo S S W W' β (bupd β b k') h (hupd h b (.row e sz es' m)) := by
  have hne : ∀ i y, h i = some y → i ≠ b → ∀ g, β i = some g → W'.heap[g]? = W.heap[g]? := by
    intro i y hy hi g hg
    refine hoth g (fun hbg => hi (H.inj i b g (by simp [hy]) (by simp [hb]) hg hbg)) (fun hk => (hB g hk).2.1 i hi (by simp [hy]) hg) (H.lt (by simp [hy]) hg)
  have E : Evo S S W W' β (bupd β b k') h (hupd h b (.row e sz es' m)) := by
    refine ⟨hst, fun i y hy => ?_⟩
    by_cases hi : i = b
    · subst hi
      rw [hb] at hy; cases hy
      refine ⟨_, hupd_self _ _ _, rfl, rfl, hl, fun hh => ?_⟩
      rw [bupd_self]
      exact hsame hh
    · refine ⟨y, by rw [hupd_ne _ _ hi]; exact hy, ?_⟩
      rw [bupd_ne _ _ hi]
      cases y with
      | box c m => exact ⟨rfl, rfl⟩
      | row e2 sz es m => exact ⟨rfl, rfl, Nat.le_refl _, fun _ => ⟨rfl, fun g c2 hg hc => ⟨c2, (hne i _ hy hi g hg).trans hc, rfl⟩⟩⟩
  refine ⟨⟨fun i y hy => ?_, fun i j g hi hj h1 h2 => ?_, fun i g hi h1 => ?_, fun i y g o hy hg ho => ?_, fun g o ho => ?_⟩, E⟩
  · by_cases hi : i = b
    · subst hi
      rw [hupd_self] at hy; cases hy
      refine ⟨(H.blk i _ hb).1, hcs, ?_⟩
      rw [bupd_self]
      exact hR
    · rw [hupd_ne _ _ hi] at hy
      exact (H.blk i y hy).evo E H.blk (bupd_ne _ _ hi) (fun g hg => hne i y hy hi g hg)
  · by_cases ei : i = b <;> by_cases ej : j = b
    · exact ei.trans ej.symm
    · rw [ei, bupd_self] at h1
      rw [bupd_ne _ _ ej] at h2
      rw [hupd_ne _ _ ej] at hj
      exact absurd h2 ((hB g h1).2.1 j ej hj)
    · rw [ej, bupd_self] at h2
      rw [bupd_ne _ _ ei] at h1
      rw [hupd_ne _ _ ei] at hi
      exact absurd h1 ((hB g h2).2.1 i ei hi)
    · rw [bupd_ne _ _ ei] at h1
      rw [bupd_ne _ _ ej] at h2
      rw [hupd_ne _ _ ei] at hi
      rw [hupd_ne _ _ ej] at hj
      exact H.inj i j g hi hj h1 h2
  · by_cases ei : i = b
    · rw [ei, bupd_self] at h1; exact (hB g h1).1
    · rw [bupd_ne _ _ ei] at h1
      rw [hupd_ne _ _ ei] at hi
      exact H.fresh i g hi h1
  · by_cases ei : i = b
    · subst ei
      rw [hupd_self] at hy; cases hy
      rw [bupd_self] at hg
      exact (hB g hg).2.2 o ho
    · rw [bupd_ne _ _ ei] at hg
      rw [hupd_ne _ _ ei] at hy
      exact H.sinv i y g o hy hg ho
  · exact Nat.lt_of_lt_of_le (H.bnd g o ho) hsize
end Go.Proofs.Ytnojmocoifodjaa.Pv
set_option linter.unusedVariables false
set_option linter.unusedSimpArgs false
namespace Go.Proofs.Ytnojmocoifodjaa.Pv
open Go Go.RowKit

/-! ### Operations, types resolved -/
inductive Opd | t (n : Nat) | c (p : PV)
inductive I
  | mov (x : Opd)
  | pick (c a b : Opd)
  | new (e : TypeId) (cs : List PV)
  | box (e : TypeId) (x : Opd)
  | build (z : List PV) (ps : List (Nat × Nat × Opd))
  | lit (e : TypeId) (sz : Nat) (ps : List Opd)
  | load (k : Option Nat) (x : Opd)
  | store (n : Nat) (a x : Opd)
  | bin (op : BinOp) (x y : Opd)
  | beq (neg : Bool) (x y : Opd)
  | un (op : UnOp) (x : Opd)
  | fld (off : Nat) (x : Opd)
  | idx (sz : Nat) (x i : Opd)
  | sidx (x i : Opd)
  | len (str : Bool) (x : Opd)
  | ext (i : Nat) (x : Opd)
  | app (e : TypeId) (sz bytes : Nat) (x y : Opd)
  | slc (sz : Nat) (x : Opd) (lo hi mx : Option Opd)
  | sslc (x : Opd) (lo hi : Option Opd)
  | call (f : Opd) (args : List Opd)
  | mkf (f : Nat) (caps : List Opd)
  | nck (x : Opd)
  | conv (k : IntKind) (x : Opd)
  | isnil (neg : Bool) (x : Opd)
  | bts (x : Opd)
  | stb (x : Opd)

def opd : Operand → Option Opd
  | .tmp t => some (.t t)
  | .const v => some (.c (.ofV v))
  | .func f => some (.c (.func f []))
  | .global _ => none
def isAggD : TypeDesc → Bool
  | .struct _ | .array _ _ => true
  | _ => false
def optM {α β : Type} (f : α → Option β) : Option α → Option (Option β)
  | none => some none
  | some a => (f a).map some
def listM {α β : Type} (f : α → Option β) : List α → Option (List β)
  | [] => some []
  | a :: l => match f a, listM f l with
    | some b, some m => some (b :: m)
    | _, _ => none
def szOf (P : Program) (t : TypeId) : Option Nat := (P.info? t).map (·.size)
def zeroOf (P : Program) (t : TypeId) : Option (List PV) := (P.info? t).bind fun i => i.zero.map fun z => z.cells.toList.map PV.ofV
def fldOf (P : Program) (s : TypeId) (f : Nat) : Option (Nat × Nat) := match P.underlying s with
  | some (.struct fs) => (fs[f]?).bind fun fd => (szOf P fd.type).map fun n => (fd.offset, n)
  | _ => none
def placesOf (P : Program) (t : TypeId) : Option (List (Nat × Nat)) := match P.underlying t with
  | some (.struct fs) => fs.toList.mapM (fun f => (P.info? f.type).map fun i => (f.offset, i.size))
  | _ => none
def elOf (P : Program) (t : TypeId) : Option TypeId := match P.underlying t with
  | some (.slice e) => some e
  | _ => none
def tagOf (P : Program) (t : TypeId) : Nat := match P.underlying t with
  | some .bool => 1
  | some (.int _) => 2
  | some .string => 3
  | some (.slice _) => 4
  | _ => 0
def isNilC : Operand → Bool
  | .const (.slice none 0 0) => true
  | _ => false
def partsFrom : Nat → List (Nat × Operand) → Option (List Opd)
  | _, [] => some []
  | n, (i, x) :: l => if i = n then match opd x, partsFrom (n + 1) l with
    | some o, some m => some (o :: m)
    | _, _ => none
    else none
def compI (P : Program) (o : Oper) : Option I :=
  match o.op with
  | .move x | .assign x => (opd x).map .mov
  | .pick c a b => match opd c, opd a, opd b with
    | some c, some a, some b => some (.pick c a b)
    | _, _, _ => none
  | .alloc e => (zeroOf P e).map (.new e)
  | .box e x => (opd x).map (.box e)
  | .build t ps => match zeroOf P t, placesOf P t with
    | some z, some pl => (listM (fun (i, x) => match pl[i]?, opd x with | some (off, n), some x => some (off, n, x) | _, _ => none) ps.toList).map (.build z)
    | _, _ => none
  | .buildSlice t n ps => match elOf P t with
    | some e => match szOf P e, zeroOf P e, partsFrom 0 ps.toList with
      | some sz, some z, some l => if l.length = n ∧ n * sz ≤ 2 ^ 24 ∧ 0 < sz ∧ z.length = sz then some (.lit e sz l) else none
      | _, _, _ => none
    | none => none
  | .load t a => match (P.underlying t).map isAggD, szOf P t, opd a with
    | some true, some n, some x => some (.load (some n) x)
    | some false, some _, some x => some (.load none x)
    | _, _, _ => none
  | .store t a x => match szOf P t, opd a, opd x with
    | some n, some a, some x => some (.store n a x)
    | _, _, _ => none
  | .binOp op t x y _ => match opd x, opd y with
    | some x', some y' => match tagOf P t, op with
      | 1, .eql => some (.beq false x' y')
      | 1, .neq => some (.beq true x' y')
      | 2, _ | 3, _ => some (.bin op x' y')
      | 4, .eql => if isNilC y then some (.isnil false x') else none
      | 4, .neq => if isNilC y then some (.isnil true x') else none
      | _, _ => none
    | _, _ => none
  | .unOp op _ x => (opd x).map (.un op)
  | .fieldAddr s x f => match fldOf P s f, opd x with
    | some (off, n), some x => if n = 0 then none else some (.fld off x)
    | _, _ => none
  | .indexAddr t x i => match elOf P t, opd x, opd i with
    | some e, some x, some i => (szOf P e).map fun n => .idx n x i
    | _, _, _ => none
  | .index t x i => match tagOf P t, opd x, opd i with
    | 3, some x, some i => some (.sidx x i)
    | _, _, _ => none
  | .extract x i => (opd x).map (.ext i)
  | .slice t x lo hi mx => match opd x, optM opd lo, optM opd hi, optM opd mx with
    | some x, some lo, some hi, some mx => match P.underlying t with
      | some .string => if mx.isSome then none else some (.sslc x lo hi)
      | some (.slice e) => (szOf P e).map fun n => .slc n x lo hi mx
      | _ => none
    | _, _, _, _ => none
  | .makeFunc (.func f) first caps => if first.isEmpty then (listM opd caps.toList).map (.mkf f) else none
  | .nilCheck x => (opd x).map .nck
  | .convert src dst x => match P.underlying src, P.underlying dst, opd x with
    | some (.int _), some (.int k), some x => some (.conv k x)
    | some .string, some (.slice e), some x => match P.underlying e with
      | some (.int .u8) => some (.bts x)
      | _ => none
    | some (.slice e), some .string, some x => match P.underlying e with
      | some (.int .u8) => some (.stb x)
      | _ => none
    | _, _, _ => none
  | .call { callee := .builtin .len, args, argTypes } => match args.toList, argTypes.toList with
    | [x], [t] => match P.underlying t, opd x with
      | some .string, some x => some (.len true x)
      | some (.slice _), some x => some (.len false x)
      | _, _ => none
    | _, _ => none
  | .call { callee := .builtin .append, args, argTypes } => match args.toList, argTypes.toList with
    | [x, y], [t, t'] => if t = t' then match elOf P t with
      | some e => match P.info? e, opd x, opd y with
        | some i, some x, some y => if 0 < i.size ∧ (i.zero.map fun z => z.cells.size) = some i.size then some (.app e i.size i.bytes x y) else none
        | _, _, _ => none
      | none => none
      else none
    | _, _ => none
  | .call { callee := .value f, args, argTypes := _ } => match opd f, listM opd args.toList with
    | some f, some l => some (.call f l)
    | _, _ => none
  | _ => none

/-! ### What an operation makes -/
inductive Upd
  | new (b : Nat) (x : Blk)
  | frz (l : List Nat)
  | row (b : Nat) (es : List PV)
  | box (b : Nat) (cs : List AV)
  | att (k : Nat) (L : List Blk)
def rowOf (h : Heap) (b : Nat) : Option (TypeId × Nat × List PV) := match h b with
  | some (.row e sz es _) => some (e, sz, es)
  | _ => none
def boxOf (h : Heap) (b : Nat) : Option (List AV) := match h b with
  | some (.box cs _) => some cs
  | _ => none
def mutOf (h : Heap) (b : Nat) : Bool := match h b with
  | some x => x.mut
  | none => false
def Upd.ap (h : Heap) : Upd → Heap
  | .new b x => hupd h b x
  | .frz l => hfrz h l
  | .row b es => match h b with
    | some (.row e sz _ m) => hupd h b (.row e sz es m)
    | _ => h
  | .box b cs => match h b with
    | some (.box _ m) => hupd h b (.box cs m)
    | _ => h
  | .att k L => fun q => if k ≤ q ∧ q < k + L.length then L[q - k]? else h q
structure Out where
  v : AV
  rd : List Nat := []
  up : List Upd := []
def Out.heap (o : Out) (h : Heap) : Heap := o.up.foldl Upd.ap h

abbrev Slots := List AV
def ev (s : Slots) : Opd → AV
  | .t n => s.getD n (.pv .junk)
  | .c p => .pv p

/-- nil, laid still, is an empty list. -/
def PV.rlx : PV → PV
  | .nil | .cap0 | .niln | .emp => .view []
  | p => p
def frz0 (h : Heap) : AV → Option (PV × List Nat)
  | .pv p => some (p.rlx, [])
  | .ref b n => match rowOf h b with
    | some (_, _, es) => if n = es.length then some (.view es, [b]) else none
    | none => none
  | _ => none
def frzL (f : AV → Option (PV × List Nat)) : List AV → Option (List PV × List Nat)
  | [] => some ([], [])
  | x :: l => match f x, frzL f l with
    | some (p, r), some (ps, rs) => some (p :: ps, r ++ rs)
    | _, _ => none
def frz1 (h : Heap) : AV → Option (PV × List Nat)
  | .ptr b off => match boxOf h b with
    | some cs => match frzL (frz0 h) (cs.drop off) with
      | some (ps, rs) => some (.vptr ps, b :: rs)
      | none => none
    | none => none
  | .agg cs => match frzL (frz0 h) cs with
    | some (ps, rs) => some (.agg ps, rs)
    | none => none
  | x => frz0 h x
def frz2 (h : Heap) : AV → Option (PV × List Nat)
  | .fn f caps => match frzL (frz1 h) caps with
    | some (ps, rs) => some (.func f ps, rs)
    | none => none
  | x => frz1 h x

def semBin (op : BinOp) : PV → PV → Option PV
  | .int k a, .int k' b => match op with
    | .shl => if b < 0 then none else some (.int k (k.wrap (a * 2 ^ min b.toNat k.bits)))
    | .shr => if b < 0 then none else some (.int k (a.fdiv (2 ^ min b.toNat k.bits)))
    | _ => if k ≠ k' then none else match op with
      | .add => some (.int k (k.wrap (a + b)))
      | .sub => some (.int k (k.wrap (a - b)))
      | .mul => some (.int k (k.wrap (a * b)))
      | .quo => if b = 0 then none else some (.int k (k.wrap (a.tdiv b)))
      | .rem => if b = 0 then none else some (.int k (a.tmod b))
      | .eql => some (.bool (decide (a = b)))
      | .neq => some (.bool (decide (a ≠ b)))
      | .lss => some (.bool (decide (a < b)))
      | .leq => some (.bool (decide (a ≤ b)))
      | .gtr => some (.bool (decide (b < a)))
      | .geq => some (.bool (decide (b ≤ a)))
      | _ => none
  | .str a, .str b => match op with
    | .add => if a.length + b.length ≤ maxLen then some (.str (a ++ b)) else none
    | .eql => some (.bool (decide (a = b)))
    | .neq => some (.bool (decide (a ≠ b)))
    | .lss => some (.bool (Op.bytesLess a b))
    | .leq => some (.bool (Op.bytesLess a b || decide (a = b)))
    | .gtr => some (.bool (!(Op.bytesLess a b || decide (a = b))))
    | .geq => some (.bool (!Op.bytesLess a b))
    | _ => none
  | _, _ => none

def PV.okc (sz : Nat) (p : PV) : Bool := p.cells.length == sz && p.cells.all PV.one
def listOf (h : Heap) : AV → Option (List PV × List Nat)
  | .pv p => match p.rlx with
    | .view es => some (es, [])
    | _ => none
  | .ref b n => match rowOf h b with
    | some (_, _, es) => if n = es.length then some (es, [b]) else none
    | none => none
  | _ => none
def PV.withCells (e : PV) (l : List PV) : PV := match e with
  | .agg _ => .agg l
  | _ => l.headD .junk
def putCells {α : Type} (cs : List α) (off : Nat) (xs : List α) : List α := cs.take off ++ xs ++ cs.drop (off + xs.length)
def AV.one : AV → Bool
  | .pv p => p.one
  | .agg _ | .tup _ => false
  | _ => true
def AV.solid : AV → Bool
  | .pv .junk => false
  | _ => true
def fillA (cs : List AV) : List (Nat × Nat × AV) → Option (List AV)
  | [] => some cs
  | (off, n, x) :: l => if x.solid ∧ x.cells.length = n ∧ off + n ≤ cs.length then fillA (putCells cs off x.cells) l else none
def bound (x : Option AV) (dflt : Nat) : Option Nat := match x with
  | none => some dflt
  | some (.pv (.int _ i)) => if 0 ≤ i then some i.toNat else none
  | _ => none

/-- Bytes out of cells. -/
def bytesL : List PV → Option (List UInt8)
  | [] => some []
  | .int .u8 n :: l => match bytesL l with
    | some m => some (UInt8.ofNat n.toNat :: m)
    | none => none
  | _ :: _ => none
def byteP (c : UInt8) : PV := .int .u8 (Int.ofNat c.toNat)
def sem (i : I) (d : Nat) (s : Slots) (h : Heap) : Option Out :=
  match i with
  | .mov x => some { v := ev s x }
  | .pick c a b => match ev s c with
    | .pv (.bool t) => some { v := if t then ev s a else ev s b }
    | _ => none
  | .new e cs => if (h d).isSome then none else some { v := .ptr d 0, up := [.new d (.box (cs.map .pv) true)] }
  | .box e x => if (h d).isSome ∨ ¬ (ev s x).solid then none else some { v := .ptr d 0, up := [.new d (.box (ev s x).cells true)] }
  | .build z ps => match fillA (z.map .pv) (ps.map fun (o, n, x) => (o, n, ev s x)) with
    | some cs => some { v := .agg cs }
    | none => none
  | .lit e sz ps => if (h d).isSome then none else match frzL (frz1 h) (ps.map (ev s)) with
    | some (es, rs) => if es.all (PV.okc sz) then some { v := .ref d es.length, rd := rs, up := [.frz rs, .new d (.row e sz es true)] } else none
    | none => none
  | .load k x => match ev s x with
    | .ptr b off => match boxOf h b with
      | some cs => match k with
        | none => match cs[off]? with
          | some c => some { v := c, rd := [b] }
          | none => none
        | some n => if off + n ≤ cs.length then some { v := .agg ((cs.drop off).take n), rd := [b] } else none
      | none => none
    | .pv (.vptr cs) => match k with
      | none => match cs[0]? with
        | some c => some { v := .pv c }
        | none => none
      | some n => if n ≤ cs.length then some { v := .pv (.agg (cs.take n)) } else none
    | .eptr b n i off => match rowOf h b with
      | some (_, _, es) => if n = es.length then match es[i]? with
        | some e => match k with
          | none => match e.cells[off]? with
            | some c => some { v := .pv c, rd := [b] }
            | none => none
          | some n => if off + n ≤ e.cells.length then some { v := .pv (.agg ((e.cells.drop off).take n)), rd := [b] } else none
        | none => none
        else none
      | none => none
    | _ => none
  | .store n a x => match ev s a with
    | .ptr b off => match boxOf h b with
      | some cs => if mutOf h b ∧ (ev s x).cells.length = n ∧ off + n ≤ cs.length ∧ (ev s x).cells.all AV.one then some { v := .pv .junk, rd := [b], up := [.box b (putCells cs off (ev s x).cells)] } else none
      | none => none
    | .eptr b m i off => match rowOf h b, frz1 h (ev s x) with
      | some (_, sz, es), some (p, rs) => if m = es.length ∧ mutOf h b ∧ b ∉ rs then match es[i]? with
        | some e => if p.cells.length = n ∧ 0 < n ∧ off + n ≤ e.cells.length ∧ p.cells.all PV.one then some { v := .pv .junk, rd := b :: rs, up := [.frz rs, .row b (es.set i (e.withCells (putCells e.cells off p.cells)))] } else none
        | none => none
        else none
      | _, _ => none
    | _ => none
  | .bin op x y => match ev s x, ev s y with
    | .pv p, .pv q => match semBin op p q with
      | some r => some { v := .pv r }
      | none => none
    | _, _ => none
  | .beq neg x y => match ev s x, ev s y with
    | .pv (.bool p), .pv (.bool q) => some { v := .pv (.bool (if neg then !(p == q) else p == q)) }
    | _, _ => none
  | .un op x => match op, ev s x with
    | .not, .pv (.bool b) => some { v := .pv (.bool !b) }
    | .neg, .pv (.int k n) => some { v := .pv (.int k (k.wrap (0 - n))) }
    | _, _ => none
  | .fld off x => match ev s x with
    | .ptr b o => some { v := .ptr b (o + off) }
    | .pv (.vptr cs) => some { v := .pv (.vptr (cs.drop off)) }
    | .eptr b n i o => match rowOf h b with
      | some (_, _, es) => if n = es.length then some { v := .eptr b n i (o + off), rd := [b] } else none
      | none => none
    | _ => none
  | .idx sz x i => match ev s i with
    | .pv (.int _ j) => if 0 ≤ j then match ev s x with
      | .pv (.view es) => match es[j.toNat]? with
        | some e => if e.cells.length = sz then some { v := .pv (.vptr e.cells) } else none
        | none => none
      | .ref b n => match rowOf h b with
        | some (_, sz', es) => if n = es.length ∧ j.toNat < n ∧ sz' = sz then some { v := .eptr b n j.toNat 0, rd := [b] } else none
        | none => none
      | _ => none
      else none
    | _ => none
  | .sidx x i => match ev s x, ev s i with
    | .pv (.str l), .pv (.int _ j) => if 0 ≤ j then match l[j.toNat]? with
      | some c => some { v := .pv (.int .u8 c.toNat) }
      | none => none
      else none
    | _, _ => none
  | .len false x => match ev s x with
    | .pv (.view es) => some { v := .pv (.int .i64 es.length) }
    | .pv .nil | .pv .cap0 | .pv .niln | .pv .emp => some { v := .pv (.int .i64 0) }
    | .ref b n => some { v := .pv (.int .i64 n) }
    | _ => none
  | .len true x => match ev s x with
    | .pv (.str l) => some { v := .pv (.int .i64 l.length) }
    | _ => none
  | .ext i x => match ev s x with
    | .tup vs => match vs[i]? with
      | some v => some { v }
      | none => none
    | _ => none
  | .app e sz bytes x y => match listOf h (ev s y) with
    | some (ys, rs) => if ys.all (PV.okc sz) then match ev s x with
      | .ref b n => match rowOf h b with
        | some (e', sz', es) => if n = es.length ∧ e' = e ∧ sz' = sz ∧ b ∉ rs ∧ (n + ys.length) * bytes ≤ 140737488355328 ∧ n + ys.length ≤ maxLen then
            some { v := .ref b (n + ys.length), rd := b :: rs, up := [.frz rs, .row b (es ++ ys)] } else none
        | none => none
      | .pv .nil => if (h d).isSome ∨ ¬ ys.length * bytes ≤ 140737488355328 ∨ ¬ ys.length ≤ maxLen then none else some { v := .ref d ys.length, rd := rs, up := [.frz rs, .new d (.row e sz ys true)] }
      | .pv .cap0 => if (h d).isSome ∨ ¬ ys.length * bytes ≤ 140737488355328 ∨ ¬ ys.length ≤ maxLen then none else some { v := .ref d ys.length, rd := rs, up := [.frz rs, .new d (.row e sz ys true)] }
      | _ => none
      else none
    | none => none
  | .slc sz x lo hi mx => match listOf h (ev s x) with
    | some (es, rs) => match bound (mx.map (ev s)) es.length with
      | some m => match bound (hi.map (ev s)) es.length, bound (lo.map (ev s)) 0 with
        | some hh, some l => if m ≤ es.length ∧ hh ≤ m ∧ l ≤ hh ∧ (mx.isSome → hi.isSome) ∧ es.all (fun e => e.cells.length == sz) then
            some { v := .pv (if mx.isSome ∧ m = l then .cap0 else .view ((es.take hh).drop l)), rd := rs, up := [.frz rs] } else none
        | _, _ => none
      | none => none
    | none => none
  | .sslc x lo hi => match ev s x with
    | .pv (.str l) => match bound (hi.map (ev s)) l.length, bound (lo.map (ev s)) 0 with
      | some hh, some ll => if hh ≤ l.length ∧ ll ≤ hh then some { v := .pv (.str ((l.take hh).drop ll)) } else none
      | _, _ => none
    | _ => none
  | .call _ _ => none
  | .mkf f caps => some { v := .fn f (caps.map (ev s)) }
  | .nck x => match ev s x with
    | .ptr b o => some { v := .ptr b o }
    | .pv (.vptr cs) => some { v := .pv (.vptr cs) }
    | .eptr b n i o => none
    | .pv (.func f c) => some { v := .pv (.func f c) }
    | .fn f c => some { v := .fn f c }
    | _ => none
  | .conv k x => match ev s x with
    | .pv (.int _ n) => some { v := .pv (.int k (k.wrap n)) }
    | _ => none
  | .isnil neg x => match ev s x with
    | .pv .nil => some { v := .pv (.bool (!neg)) }
    | .pv .niln => some { v := .pv (.bool (!neg)) }
    | .pv .emp => some { v := .pv (.bool neg) }
    | .pv (.view (_ :: _)) => some { v := .pv (.bool neg) }
    | .ref b n => match rowOf h b with
      | some (_, _, es) => if n = es.length ∧ 0 < n then some { v := .pv (.bool neg), rd := [b] } else none
      | none => none
    | _ => none
  | .bts x => match ev s x with
    | .pv (.str l) => some { v := .pv (.view (l.map byteP)) }
    | _ => none
  | .stb x => match listOf h (ev s x) with
    | some (es, rs) => match bytesL es with
      | some l => if l.length ≤ maxLen then some { v := .pv (.str l), rd := rs, up := [.frz rs] } else none
      | none => none
    | none => none
end Go.Proofs.Ytnojmocoifodjaa.Pv
set_option linter.unusedVariables false
set_option linter.unusedSimpArgs false
namespace Go.Proofs.Ytnojmocoifodjaa.Pv
open Go Go.RowKit

theorem rowOf_some {h : Heap} {b : Nat} {e : TypeId} {sz : Nat} {es : List PV} (hh : rowOf h b = some (e, sz, es)) : ∃ m, h b = some (.row e sz es m) := by
  unfold rowOf at hh
  split at hh
  · rename_i m heq; cases hh; exact ⟨_, heq⟩
  · cases hh
theorem boxOf_some {h : Heap} {b : Nat} {cs : List AV} (hh : boxOf h b = some cs) : ∃ m, h b = some (.box cs m) := by
  unfold boxOf at hh
  split at hh
  · rename_i m heq; cases hh; exact ⟨_, heq⟩
  · cases hh
theorem cell_row {W : World} {g : Nat} {cur : Array Value} {e : TypeId} (h : W.heap[g]? = some (.cells cur e (0, 0))) (j : Nat) : W.cell? ⟨g, j, none⟩ = cur[j]? := by
  simp [World.cell?, h]
theorem getD_some {cur : Array Value} {j : Nat} (h : j < cur.size) : cur[j]? = some (cur.getD j undef) := by
  simp [h]
theorem mul_lt {i n sz j : Nat} (hi : i < n) (hj : j < sz) : i * sz + j < n * sz := by
  have : (i + 1) * sz ≤ n * sz := Nat.mul_le_mul_right _ hi
  rw [Nat.succ_mul] at this
  omega
section
variable {B : Nat} {S : Stb} {β : Bta} {h : Heap} {W : World}

theorem RA.ref_cases {b n : Nat} {v : Value} {e : TypeId} {sz : Nat} {es : List PV} (H : RA S W β h (.ref b n) v) (hr : rowOf h b = some (e, sz, es)) (hn : n = es.length) : Cur W β b sz n v := by
  obtain ⟨m, hb⟩ := rowOf_some hr
  cases H with
  | ref hb' hn' hv hc =>
    rw [hb] at hb'; cases hb'
    exact hc hn

theorem _root_.Go.Proofs.Ytnojmocoifodjaa.Pv.RV.rlx {S : Stb} {W : World} {p : PV} {v : Value} (hp : RV S W p v) : RV S W p.rlx v := by
  cases p <;> first | exact hp | exact hp.nil_view | exact hp.cap0_view | exact hp.niln_view | exact hp.emp_view
theorem frz0_ok (H : HRel B S β h W) {x : AV} {v : Value} (hx : RA S W β h x v) {p : PV} {ids : List Nat} (hf : frz0 h x = some (p, ids)) (L : List Nat) (hL : ∀ b, b ∈ ids → b ∈ L) : RV (sfrz S β h L) W p v := by
  cases hx with
  | pv hp => simp only [frz0, Option.some.injEq, Prod.mk.injEq] at hf; obtain ⟨rfl, rfl⟩ := hf; exact hp.rlx.stay (Stay.frz _ _ _ _ _)
  | @ref b n v e sz es m hb hn hv hc =>
    have hr : rowOf h b = some (e, sz, es) := by simp [rowOf, hb]
    simp only [frz0, hr] at hf
    split at hf
    · rename_i hne
      simp only [Option.some.injEq, Prod.mk.injEq] at hf
      obtain ⟨rfl, rfl⟩ := hf
      obtain ⟨hsz, hcl, hrow⟩ := H.blk _ _ hb
      rcases hc hne with ⟨h1, h2, A0, rfl⟩ | ⟨k, c, cur, e2, h1, rfl, h3, h4, h5, h6⟩
      · have : es = [] := List.eq_nil_of_length_eq_zero (by omega)
        subst this
        exact .view0 _ _
      · rcases hrow with ⟨h7, _⟩ | ⟨k', cur', h7, h8, h9, h10⟩
        · rw [h1] at h7; cases h7
        · rw [h1] at h7; cases h7
          subst hne
          have hlt : ∀ (i : Nat) (e' : PV) (j : Nat) (q : PV), es[i]? = some e' → e'.cells[j]? = some q → i * sz + j < es.length * sz := by
            intro i e' j q hi hq
            have h11 := (List.getElem?_eq_some_iff.1 hi).1
            have h12 := (List.getElem?_eq_some_iff.1 hq).1
            rw [hcl i e' hi] at h12
            exact mul_lt h11 h12
          refine .view es k 0 sz c (fun i j => cur'.getD (i * sz + j) undef) h3 h4 hcl ?_ ?_ ?_
          · intro i e' j q hi hq
            have := hlt i e' j q hi hq
            exact .inr ⟨b, hL b (by simp), _, hb, h1, by simp only [Blk.known]; omega⟩
          · intro i e' j q hi hq
            have := hlt i e' j q hi hq
            rw [cell_row h8, Nat.zero_add]
            exact getD_some (by omega)
          · intro i e' j q hi hq
            exact (h10 i e' j q hi hq).stay (Stay.frz _ _ _ _ _)
    · cases hf
  | ptr hb hk => simp [frz0] at hf
  | eptr hb hn hv hc => simp [frz0] at hf
  | agg hn hR => simp [frz0] at hf
  | tup hn hR => simp [frz0] at hf
  | fn hn hR => simp [frz0] at hf

theorem frzL_ok {f : AV → Option (PV × List Nat)} {R : PV → Value → Prop} {L : List Nat} : ∀ {xs : List AV} {ps : List PV} {ids : List Nat}, frzL f xs = some (ps, ids) →
    (∀ b, b ∈ ids → b ∈ L) → ∀ (vs : Nat → Value), (∀ (i : Nat) (x : AV), xs[i]? = some x → ∀ p r, f x = some (p, r) → (∀ b, b ∈ r → b ∈ L) → R p (vs i)) →
    ps.length = xs.length ∧ ∀ (i : Nat) (p : PV), ps[i]? = some p → R p (vs i) := by
  intro xs
  induction xs with
  | nil => intro ps ids hf hL vs hR; simp only [frzL, Option.some.injEq, Prod.mk.injEq] at hf; obtain ⟨rfl, rfl⟩ := hf; exact ⟨rfl, fun i p hp => by simp at hp⟩
  | cons x xs ih =>
    intro ps ids hf hL vs hR
    simp only [frzL] at hf
    split at hf
    · rename_i p r qs rs h1 h2
      simp only [Option.some.injEq, Prod.mk.injEq] at hf
      obtain ⟨rfl, rfl⟩ := hf
      obtain ⟨h3, h4⟩ := ih h2 (fun b hb => hL b (List.mem_append_right _ hb)) (fun i => vs (i + 1)) (fun i y hy => hR (i + 1) y (by simpa using hy))
      refine ⟨by simp [h3], fun i q hq => ?_⟩
      cases i with
      | zero =>
        simp at hq; subst hq
        exact hR 0 x (by simp) _ _ h1 (fun b hb => hL b (List.mem_append_left _ hb))
      | succ i => exact h4 i q (by simpa using hq)
    · cases hf

theorem frz1_ok (H : HRel B S β h W) {x : AV} {v : Value} (hx : RA S W β h x v) {p : PV} {ids : List Nat} (hf : frz1 h x = some (p, ids)) (L : List Nat) (hL : ∀ b, b ∈ ids → b ∈ L) : RV (sfrz S β h L) W p v := by
  cases hx with
  | pv hp => exact frz0_ok H (.pv hp) hf L hL
  | ref hb hn hv hc => exact frz0_ok H (.ref hb hn hv hc) hf L hL
  | @ptr b off k cs m hb hk =>
    have hr : boxOf h b = some cs := by simp [boxOf, hb]
    simp only [frz1, hr] at hf
    split at hf
    · rename_i ps rs hl
      simp only [Option.some.injEq, Prod.mk.injEq] at hf
      obtain ⟨rfl, rfl⟩ := hf
      obtain ⟨k', cur, e, h1, h2, h3, h4⟩ := H.blk _ _ hb
      rw [hk] at h1; cases h1
      obtain ⟨h5, h6⟩ := frzL_ok (R := RV (sfrz S β h L) W) (L := L) hl (fun b' hb' => hL b' (List.mem_cons_of_mem _ hb')) (fun j => cur.getD (off + j) undef) (by
        intro i y hy q r hq hr'
        rw [List.getElem?_drop] at hy
        exact frz0_ok H (h4 _ _ hy) hq L hr')
      have hlt : ∀ (j : Nat) (q : PV), ps[j]? = some q → off + j < cs.length := by
        intro j q hq
        have := (List.getElem?_eq_some_iff.1 hq).1
        rw [h5, List.length_drop] at this
        omega
      refine .vptr ps k off (fun j => cur.getD (off + j) undef) ?_ ?_ h6
      · intro j q hq
        exact .inr ⟨b, hL b (by simp), _, hb, hk, by simp only [Blk.known]; exact hlt j q hq⟩
      · intro j q hq
        rw [cell_row h2]
        exact getD_some (by have := hlt j q hq; omega)
    · cases hf
  | eptr hb hn hv hc => simp [frz1, frz0] at hf
  | @agg cs vs hn hR =>
    simp only [frz1] at hf
    split at hf
    · rename_i ps rs hl
      simp only [Option.some.injEq, Prod.mk.injEq] at hf
      obtain ⟨rfl, rfl⟩ := hf
      obtain ⟨h5, h6⟩ := frzL_ok (R := RV (sfrz S β h L) W) (L := L) hl hL (fun j => vs.getD j undef) (fun i y hy q r hq hr' => frz0_ok H (hR i y hy) hq L hr')
      exact .agg ps vs (by omega) h6
    · cases hf
  | tup hn hR => simp [frz1, frz0] at hf
  | fn hn hR => simp [frz1, frz0] at hf

theorem frz2_ok (H : HRel B S β h W) {x : AV} {v : Value} (hx : RA S W β h x v) {p : PV} {ids : List Nat} (hf : frz2 h x = some (p, ids)) (L : List Nat) (hL : ∀ b, b ∈ ids → b ∈ L) : RV (sfrz S β h L) W p v := by
  cases hx with
  | pv hp => exact frz1_ok H (.pv hp) hf L hL
  | ref hb hn hv hc => exact frz1_ok H (.ref hb hn hv hc) hf L hL
  | ptr hb hk => exact frz1_ok H (.ptr hb hk) hf L hL
  | eptr hb hn hv hc => exact frz1_ok H (.eptr hb hn hv hc) hf L hL
  | agg hn hR => exact frz1_ok H (.agg hn hR) hf L hL
  | tup hn hR => exact frz1_ok H (.tup hn hR) hf L hL
  | @fn f cs vs hn hR =>
    simp only [frz2] at hf
    split at hf
    · rename_i ps rs hl
      simp only [Option.some.injEq, Prod.mk.injEq] at hf
      obtain ⟨rfl, rfl⟩ := hf
      obtain ⟨h5, h6⟩ := frzL_ok (R := RV (sfrz S β h L) W) (L := L) hl hL (fun j => vs.getD j undef) (fun i y hy q r hq hr' => frz1_ok H (hR i y hy) hq L hr')
      exact .func f ps vs (by omega) h6
    · cases hf

/-- A list that is read: nil, a view, a row of the frame. -/
theorem listOf_ok (H : HRel B S β h W) {x : AV} {v : Value} (hx : RA S W β h x v) {es : List PV} {ids : List Nat} (hf : listOf h x = some (es, ids)) (L : List Nat) (hL : ∀ b, b ∈ ids → b ∈ L) : RV (sfrz S β h L) W (.view es) v := by
  unfold listOf at hf
  split at hf
  · rename_i p
    split at hf
    · rename_i es' heq
      cases hf
      exact frz0_ok H hx (by simp [frz0, heq]) L hL
    · cases hf
  · rename_i b n
    refine frz0_ok (p := .view es) (ids := ids) H hx ?_ L hL
    cases hr : rowOf h b with
    | none => simp [hr] at hf
    | some t =>
      obtain ⟨e, sz, es'⟩ := t
      simp only [hr] at hf
      split at hf
      · cases hf; simp [frz0, hr, *]
      · cases hf
  · cases hf
end
end Go.Proofs.Ytnojmocoifodjaa.Pv
set_option linter.unusedVariables false
set_option linter.unusedSimpArgs false
namespace Go.Proofs.Ytnojmocoifodjaa.Pv
open Go Go.RowKit

/-- What is shown of an operation: it gives a value that reads ars told, and the frame's heap goes on ars told. -/
def Fine (P : Program) (B : Nat) (S : Stb) (β : Bta) (h : Heap) (W : World) (run : Result Next) (o : Out) : Prop :=
  ∃ nx v W' S' β', run = .ok nx W' ∧ (nx = .value v ∨ (nx = .skip ∧ v = undef)) ∧ HRel B S' β' (o.heap h) W' ∧ Evo S S' W W' β β' h (o.heap h) ∧ RA S' W' β' (o.heap h) o.v v ∧ Below B W W' ∧ ∀ k q, k < B → S' k q → S k q

section
variable {P : Program} {B : Nat} {S : Stb} {β : Bta} {h : Heap} {W : World}
/-- Nothing is done in memory. -/
theorem Fine.same (H : HRel B S β h W) {x : AV} {rd : List Nat} {v : Value} {run : Result Next} (hrun : run = .ok (.value v) W) (hx : RA S W β h x v) : Fine P B S β h W run { v := x, rd := rd } :=
  ⟨_, v, W, S, β, hrun, .inl rfl, H, Evo.refl _ _ _ _, hx, Below.refl _ _, fun _ _ _ h => h⟩
/-- Blocks are laid still, nothing else. -/
theorem Fine.frz (H : HRel B S β h W) {p : PV} {ids : List Nat} {v : Value} {run : Result Next} (hrun : run = .ok (.value v) W) (hx : RV (sfrz S β h ids) W p v) : Fine P B S β h W run { v := .pv p, rd := ids, up := [.frz ids] } :=
  ⟨_, v, W, _, β, hrun, .inl rfl, H.frz ids, Evo.frz _ _ _ _ _, .pv hx, Below.refl _ _, H.dn ids⟩

/-- The slots and operands of the frame. -/
structure Sl (S : Stb) (β : Bta) (h : Heap) (W : World) (s : Slots) (ρ : Operand → Value) : Prop where
  tmp : ∀ n, RA S W β h (s.getD n (.pv .junk)) (ρ (.tmp n))
  const : ∀ v, ρ (.const v) = v
  func : ∀ f, ρ (.func f) = .func (.func f) #[] #[]
theorem Sl.opd {s : Slots} {ρ : Operand → Value} (Hs : Sl S β h W s ρ) {x : Operand} {x' : Opd} (hx : opd x = some x') : RA S W β h (ev s x') (ρ x) := by
  cases x with
  | tmp t => simp only [Pv.opd, Option.some.injEq] at hx; subst hx; exact Hs.tmp t
  | const v => simp only [Pv.opd, Option.some.injEq] at hx; subst hx; rw [Hs.const]; exact .pv (RV.ofV _ _ _)
  | func f => simp only [Pv.opd, Option.some.injEq] at hx; subst hx; rw [Hs.func]; exact .pv (.func f [] #[] rfl (fun i p hp => by simp at hp))
  | global g => simp [Pv.opd] at hx
theorem listM_ok {α β' : Type} {f : α → Option β'} : ∀ {l : List α} {m : List β'}, listM f l = some m → m.length = l.length ∧ ∀ (i : Nat) (x : β'), m[i]? = some x → ∃ y, l[i]? = some y ∧ f y = some x := by
  intro l
  induction l with
  | nil => intro m hm; simp only [listM, Option.some.injEq] at hm; subst hm; exact ⟨rfl, fun i x hx => by simp at hx⟩
  | cons a l ih =>
    intro m hm
    simp only [listM] at hm
    split at hm
    · rename_i b m' h1 h2
      cases hm
      obtain ⟨h3, h4⟩ := ih h2
      refine ⟨by simp [h3], fun i x hx => ?_⟩
      cases i with
      | zero => simp at hx; subst hx; exact ⟨a, by simp, h1⟩
      | succ i => obtain ⟨y, hy, hf⟩ := h4 i x (by simpa using hx); exact ⟨y, by simpa using hy, hf⟩
    · cases hm
theorem int_of {x : AV} {v : Value} {k : IntKind} {n : Int} (hx : RA S W β h x v) (e : x = .pv (.int k n)) : v = .int k n := by
  subst e; cases hx with | pv hp => cases hp; rfl
theorem bool_of {x : AV} {v : Value} {b : Bool} (hx : RA S W β h x v) (e : x = .pv (.bool b)) : v = .bool b := by
  subst e; cases hx with | pv hp => cases hp; rfl
theorem str_of {x : AV} {v : Value} {l : List UInt8} (hx : RA S W β h x v) (e : x = .pv (.str l)) : v = .string (bs l) ∧ l.length ≤ maxLen := by
  subst e; cases hx with | pv hp => cases hp with | str _ hl => exact ⟨rfl, hl⟩
theorem ptr_of {x : AV} {v : Value} {b off : Nat} (hx : RA S W β h x v) (e : x = .ptr b off) : ∃ k cs m, v = .pointer (some ⟨k, off, none⟩) ∧ β b = some k ∧ h b = some (.box cs m) := by
  subst e; cases hx with | ptr hb hk => exact ⟨_, _, _, rfl, hk, hb⟩
theorem vptr_of {x : AV} {v : Value} {cs : List PV} (hx : RA S W β h x v) (e : x = .pv (.vptr cs)) : ∃ k o, v = .pointer (some ⟨k, o, none⟩) ∧ (∀ j p, cs[j]? = some p → S k (o + j)) ∧ ∃ u : Nat → Value, (∀ j p, cs[j]? = some p → W.cell? ⟨k, o + j, none⟩ = some (u j)) ∧ ∀ j p, cs[j]? = some p → RV S W p (u j) := by
  subst e; cases hx with | pv hp => cases hp with | vptr _ k o u h1 h2 h3 => exact ⟨k, o, rfl, h1, u, h2, h3⟩
theorem eptr_of {x : AV} {v : Value} {b n i off : Nat} {e' : TypeId} {sz : Nat} {es : List PV} (hx : RA S W β h x v) (e : x = .eptr b n i off) (hr : rowOf h b = some (e', sz, es)) (hn : n = es.length) : ∃ k, β b = some k ∧ v = .pointer (some ⟨k, i * sz + off, none⟩) := by
  subst e
  obtain ⟨m, hb⟩ := rowOf_some hr
  cases hx with
  | eptr hb' hn' hv hc => rw [hb] at hb'; cases hb'; exact hc hn

/-- An agg's, a single value's cells. -/
theorem RA.cells {x : AV} {v : Value} (hx : RA S W β h x v) (h1 : x ≠ .pv .junk) : x.cells.length = v.cells.size ∧ ∀ (i : Nat) (c : AV), x.cells[i]? = some c → RA S W β h c (v.cells.getD i undef) := by
  have one : ∀ {y : AV} {u : Value}, RA S W β h y u → y.cells = [y] → u.cells = #[u] → y.cells.length = u.cells.size ∧ ∀ (i : Nat) (c : AV), y.cells[i]? = some c → RA S W β h c (u.cells.getD i undef) := by
    intro y u hy e1 e2
    rw [e1, e2]
    refine ⟨rfl, fun i c hc => ?_⟩
    cases i with
    | zero => simp at hc; subst hc; exact hy
    | succ i => simp at hc
  cases hx with
  | @pv p v hp =>
    cases hp with
    | junk v => exact absurd rfl h1
    | agg cs vs hn hR =>
      simp only [AV.cells, PV.cells, Value.cells, List.length_map]
      refine ⟨hn.symm, fun i c hc => ?_⟩
      rw [List.getElem?_map] at hc
      cases hp : cs[i]? with
      | none => simp [hp] at hc
      | some p => simp [hp] at hc; subst hc; exact .pv (hR i p hp)
    | bool b => exact one (.pv (.bool b)) rfl rfl
    | int k n => exact one (.pv (.int k n)) rfl rfl
    | str s hs => exact one (.pv (.str s hs)) rfl rfl
    | nil => exact one (.pv .nil) rfl rfl
    | cap0 A => exact one (.pv (.cap0 A)) rfl rfl
    | niln c => exact one (.pv (.niln c)) rfl rfl
    | emp b c => exact one (.pv (.emp b c)) rfl rfl
    | view0 A c => exact one (.pv (.view0 A c)) rfl rfl
    | view es k o sz c u a1 a2 a3 a4 a5 a6 => exact one (.pv (.view es k o sz c u a1 a2 a3 a4 a5 a6)) rfl rfl
    | vptr cs k o u a1 a2 a3 => exact one (.pv (.vptr cs k o u a1 a2 a3)) rfl rfl
    | func f caps vs a1 a2 => exact one (.pv (.func f caps vs a1 a2)) rfl rfl
  | ref hb hn hv hc =>
    have hv' := hv
    obtain ⟨A, c, rfl, _⟩ := hv'
    exact one (.ref hb hn hv hc) rfl rfl
  | ptr hb hk => exact one (.ptr hb hk) rfl rfl
  | eptr hb hn hv hc =>
    have hv' := hv
    obtain ⟨a, rfl⟩ := hv'
    exact one (.eptr hb hn hv hc) rfl rfl
  | agg hn hR => exact ⟨hn.symm, hR⟩
  | tup hn hR => exact one (.tup hn hR) rfl rfl
  | fn hn hR => exact one (.fn hn hR) rfl rfl

/-! ### The operations, one by one -/
theorem ok_mov (H : HRel B S β h W) {s : Slots} {ρ : Operand → Value} (Hs : Sl S β h W s ρ) {x : Operand} {x' : Opd} (hx : opd x = some x') : Fine P B S β h W ((pure (.value (ρ x)) : Sem Next).run P W) { v := ev s x' } :=
  Fine.same H rfl (Hs.opd hx)
theorem RA.solid {x : AV} (hx : x.solid = true) : x ≠ .pv .junk := by rintro rfl; simp [AV.solid] at hx

theorem putCells_length {α : Type} (cs xs : List α) (off : Nat) (h : off + xs.length ≤ cs.length) : (putCells cs off xs).length = cs.length := by
  simp [putCells, List.length_take, List.length_drop]; omega
theorem putCells_get {α : Type} (cs xs : List α) (off : Nat) (h : off + xs.length ≤ cs.length) (n : Nat) :
    (putCells cs off xs)[n]? = if n < off then cs[n]? else if n < off + xs.length then xs[n - off]? else cs[n]? := by
  unfold putCells
  rw [List.append_assoc, List.getElem?_append]
  have hl : (cs.take off).length = off := by simp; omega
  rw [hl]
  split
  · rw [List.getElem?_take_of_lt (by omega)]
  · rw [List.getElem?_append]
    split
    · rw [if_pos (by omega)]
    · rw [if_neg (by omega), List.getElem?_drop]
      congr 1
      omega
theorem fold_set (off : Nat) : ∀ (l : List Value) (k : Nat) (cs : Array Value), off + k + l.length ≤ cs.size →
    ((l.zipIdx k).foldl (fun cs (c, j) => cs.setIfInBounds (off + j) c) cs).toList = putCells cs.toList (off + k) l
  | [], k, cs, h => by simp [putCells]
  | a :: l, k, cs, h => by
    simp only [List.zipIdx_cons, List.foldl_cons]
    rw [fold_set off l (k + 1) _ (by simp at h ⊢; omega)]
    apply List.ext_getElem?
    intro n
    simp only [List.length_cons] at h
    rw [putCells_get _ _ _ (by simp; omega), putCells_get _ _ _ (by simp; omega)]
    simp only [Array.toList_setIfInBounds, List.getElem?_set, List.length_cons, Array.length_toList]
    by_cases h1 : n < off + k
    · rw [if_pos (by omega), if_pos h1, if_neg (by omega)]
    · by_cases h2 : n = off + k
      · subst h2
        rw [if_pos (show off + k < off + (k + 1) by omega), if_neg (show ¬ off + k < off + k by omega), if_pos (show off + k < off + k + (l.length + 1) by omega)]
        simp
        omega
      · rw [if_neg (by omega), if_neg h1]
        by_cases h3 : n < off + k + (l.length + 1)
        · rw [if_pos (by omega), if_pos h3, show n - (off + k) = (n - (off + (k + 1))) + 1 by omega, List.getElem?_cons_succ]
        · rw [if_neg (by omega), if_neg h3, if_neg (by omega)]
theorem getD_toList (a : Array Value) (n : Nat) : a.getD n undef = (a.toList[n]?).getD undef := by
  simp
/-- Cells put into cells. -/
theorem put_ok {cs xs : List AV} {cur ys : List Value} {off : Nat} (hc : cs.length = cur.length) (hx : xs.length = ys.length) (hl : off + xs.length ≤ cs.length)
    (hR : ∀ (i : Nat) (c : AV), cs[i]? = some c → RA S W β h c ((cur[i]?).getD undef)) (hY : ∀ (i : Nat) (c : AV), xs[i]? = some c → RA S W β h c ((ys[i]?).getD undef)) :
    ∀ (i : Nat) (c : AV), (putCells cs off xs)[i]? = some c → RA S W β h c (((putCells cur off ys)[i]?).getD undef) := by
  intro i c hi
  rw [putCells_get _ _ _ hl] at hi
  rw [putCells_get _ _ _ (by omega), ← hx]
  split
  · rw [if_pos ‹_›] at hi; exact hR i c hi
  · rw [if_neg ‹_›] at hi
    split
    · rw [if_pos ‹_›] at hi; exact hY _ c hi
    · rw [if_neg ‹_›] at hi; exact hR i c hi

theorem fill_ok {place : Nat → Option (Nat × Nat)} : ∀ (l : List (Nat × Nat × AV)) (parts : List (Nat × Value)) (cs : List AV) (cur : Array Value) (cs' : List AV),
    l.length = parts.length → (∀ (j off n : Nat) (x : AV), l[j]? = some (off, n, x) → ∃ i v, parts[j]? = some (i, v) ∧ place i = some (off, n) ∧ RA S W β h x v) →
    cs.length = cur.size → (∀ (i : Nat) (c : AV), cs[i]? = some c → RA S W β h c (cur.getD i undef)) → fillA cs l = some cs' →
    ∃ cur', Instr.fill place cur parts = some cur' ∧ cs'.length = cur'.size ∧ ∀ (i : Nat) (c : AV), cs'[i]? = some c → RA S W β h c (cur'.getD i undef)
  | [], [], cs, cur, cs', _, _, hc, hR, hf => by
    simp only [fillA, Option.some.injEq] at hf; subst hf
    exact ⟨cur, rfl, hc, hR⟩
  | [], _ :: _, _, _, _, hl, _, _, _, _ => by simp at hl
  | _ :: _, [], _, _, _, hl, _, _, _, _ => by simp at hl
  | (off, n, x) :: l, (i, v) :: parts, cs, cur, cs', hl, hp, hc, hR, hf => by
    simp only [fillA] at hf
    split at hf
    · rename_i hcond
      obtain ⟨h0, h1, h2⟩ := hcond
      obtain ⟨i', v', h3, h4, h5⟩ := hp 0 off n x (by simp)
      simp only [List.getElem?_cons_zero, Option.some.injEq, Prod.mk.injEq] at h3
      obtain ⟨rfl, rfl⟩ := h3
      obtain ⟨h6, h7⟩ := h5.cells (RA.solid h0)
      have hfs := fold_set off v.cells.toList 0 cur (by simp; omega)
      have hzip : v.cells.zipIdx.foldl (fun cs (c, j) => cs.setIfInBounds (off + j) c) cur = (v.cells.toList.zipIdx 0).foldl (fun cs (c, j) => cs.setIfInBounds (off + j) c) cur := by
        rw [← Array.foldl_toList]; simp
      obtain ⟨cur', h8, h9, h10⟩ := fill_ok l parts (putCells cs off x.cells) (v.cells.zipIdx.foldl (fun cs (c, j) => cs.setIfInBounds (off + j) c) cur) cs' (by simpa using hl)
        (fun j off' n' y hy => hp (j + 1) off' n' y (by simpa using hy))
        (by rw [putCells_length _ _ _ (by omega), ← Array.length_toList, hzip, hfs, Nat.add_zero, putCells_length _ _ _ (by simp; omega)]; simpa using hc)
        (by
          intro j c hj
          rw [getD_toList, hzip, hfs, Nat.add_zero]
          refine put_ok (cs := cs) (cur := cur.toList) (by simpa using hc) (by simpa using h6) (by omega) ?_ ?_ j c hj
          · intro j c hj; rw [← getD_toList]; exact hR j c hj
          · intro j c hj; rw [← getD_toList]; exact h7 j c hj) hf
      refine ⟨cur', ?_, h9, h10⟩
      simp only [Instr.fill, h4]
      rw [if_neg]
      · exact h8
      · simp; omega
    · cases hf

theorem zero_ok {z : Value} {cs : List PV} (hz : z.cells.toList.map PV.ofV = cs) : (cs.map AV.pv).length = z.cells.size ∧ ∀ (i : Nat) (c : AV), (cs.map AV.pv)[i]? = some c → RA S W β h c (z.cells.getD i undef) := by
  subst hz
  refine ⟨by simp, fun i c hc => ?_⟩
  rw [List.map_map, List.getElem?_map] at hc
  cases hv : z.cells.toList[i]? with
  | none => simp [hv] at hc
  | some v =>
    simp [hv] at hc
    subst hc
    rw [getD_toList, hv]
    exact .pv (RV.ofV _ _ _)

theorem ok_build (H : HRel B S β h W) {s : Slots} {ρ : Operand → Value} (Hs : Sl S β h W s ρ) {t : TypeId} {ps : Array (Nat × Operand)} {z : List PV} {pl : List (Nat × Nat)} {l : List (Nat × Nat × Opd)}
    (hz : zeroOf P t = some z) (hpl : placesOf P t = some pl) (hl : listM (fun (i, x) => match pl[i]?, opd x with | some (off, n), some x => some (off, n, x) | _, _ => none) ps.toList = some l)
    {cs : List AV} (hf : fillA (z.map .pv) (l.map fun (o, n, x) => (o, n, ev s x)) = some cs) :
    Fine P B S β h W ((do let v ← Instr.build t (ps.map fun (i, x) => (i, ρ x)); pure (.value v) : Sem Next).run P W) { v := .agg cs } := by
  unfold zeroOf at hz
  unfold placesOf at hpl
  cases hi : P.info? t with
  | none => simp [hi] at hz
  | some it =>
    cases hzz : it.zero with
    | none => simp [hi, hzz] at hz
    | some zv =>
      simp only [hi, hzz, Option.bind_some, Option.map_some, Option.some.injEq] at hz
      cases hu : P.underlying t with
      | none => simp [hu] at hpl
      | some d =>
        cases d <;> simp only [hu] at hpl <;> try (cases hpl; done)
        rename_i fields
        obtain ⟨h1, h2⟩ := listM_ok hl
        obtain ⟨h3, h4⟩ := zero_ok (S := S) (W := W) (β := β) (h := h) hz
        obtain ⟨cur', h5, h6, h7⟩ := fill_ok (S := S) (W := W) (β := β) (h := h) (place := (pl.toArray[·]?)) (l.map fun (o, n, x) => (o, n, ev s x)) (ps.map fun (i, x) => (i, ρ x)).toList (z.map .pv) zv.cells cs (by simp [h1])
          (by
            intro j off n x hj
            rw [List.getElem?_map] at hj
            cases hlj : l[j]? with
            | none => simp [hlj] at hj
            | some tr =>
              obtain ⟨o', n', x'⟩ := tr
              simp only [hlj, Option.map_some, Option.some.injEq, Prod.mk.injEq] at hj
              obtain ⟨rfl, rfl, rfl⟩ := hj
              obtain ⟨⟨i, y⟩, hy1, hy2⟩ := h2 j _ hlj
              refine ⟨i, ρ y, ?_, ?_, ?_⟩
              · simp at hy1 ⊢; exact ⟨i, y, hy1, rfl, rfl⟩
              · simp only [] at hy2
                split at hy2
                · rename_i h8 h9
                  cases hy2
                  simpa using h8
                · cases hy2
              · simp only [] at hy2
                split at hy2
                · rename_i h8 h9
                  cases hy2
                  exact Hs.opd h9
                · cases hy2) h3 h4 hf
        have hb : P.built t (ps.map fun (i, x) => (i, ρ x)).toList = some cur' := by
          simp only [Program.built, hi, hu, hzz, hpl, h5]
        have hrun := run_build (P := P) W t (ps.map fun (i, x) => (i, ρ x)) cur' hb
        refine Fine.same (v := .agg cur') H ?_ (.agg h6.symm h7)
        simp [hrun]
end
end Go.Proofs.Ytnojmocoifodjaa.Pv
set_option linter.unusedVariables false
set_option linter.unusedSimpArgs false
namespace Go.Proofs.Ytnojmocoifodjaa.Pv
open Go Go.RowKit
section
variable {P : Program} {B : Nat} {S : Stb} {β : Bta} {h : Heap} {W : World}

/-- A new block of cells. -/
theorem ok_alloc (H : HRel B S β h W) (hB : B ≤ W.heap.size) {d : Nat} (hd : h d = none) (e : TypeId) {cs : List AV} {cur : Array Value} (hn : cs.length = cur.size)
    (hR : ∀ (i : Nat) (c : AV), cs[i]? = some c → RA S W β h c (cur.getD i undef)) {run : Result Next} (hrun : run = .ok (.value (.pointer (some ⟨W.heap.size, 0, none⟩))) (W.alloc (.cells cur e))) :
    Fine P B S β h W run { v := .ptr d 0, up := [.new d (.box cs true)] } := by
  have E := Evo.alloc H hd cur e (.box cs true)
  refine ⟨_, _, _, S, bupd β d (some W.heap.size), hrun, .inl rfl, H.alloc hB hd cur e (.box cs true) ?_, E, ?_, (Below.refl _ _).alloc hB _, fun _ _ _ h => h⟩
  · exact ⟨W.heap.size, cur, e, bupd_self _ _ _, heap_alloc_new W _, hn.symm, fun j c hc => (hR j c hc).evo E H.blk⟩
  · exact .ptr (hupd_self _ _ _) (bupd_self _ _ _)
theorem ok_new (H : HRel B S β h W) (hB : B ≤ W.heap.size) {d : Nat} (hd : h d = none) {e : TypeId} {cs : List PV} (hz : zeroOf P e = some cs) :
    Fine P B S β h W ((do let v ← Instr.alloc e true (.tuple #[]); pure (.value v) : Sem Next).run P W) { v := .ptr d 0, up := [.new d (.box (cs.map .pv) true)] } := by
  unfold zeroOf at hz
  cases hi : P.info? e with
  | none => simp [hi] at hz
  | some it =>
    cases hzz : it.zero with
    | none => simp [hi, hzz] at hz
    | some zv =>
      simp only [hi, hzz, Option.bind_some, Option.map_some, Option.some.injEq] at hz
      obtain ⟨h3, h4⟩ := zero_ok (S := S) (W := W) (β := β) (h := h) hz
      refine ok_alloc H hB hd e h3 h4 ?_
      simp [Instr.alloc, zeroValue, typeInfo, hi, hzz, newVar, newRow]
theorem ok_box (H : HRel B S β h W) (hB : B ≤ W.heap.size) {d : Nat} (hd : h d = none) {s : Slots} {ρ : Operand → Value} (Hs : Sl S β h W s ρ) {e : TypeId} {x : Operand} {x' : Opd} (hx : opd x = some x') (hsol : (ev s x').solid = true) :
    Fine P B S β h W ((do let v ← Instr.box e (ρ x); pure (.value v) : Sem Next).run P W) { v := .ptr d 0, up := [.new d (.box (ev s x').cells true)] } := by
  obtain ⟨h3, h4⟩ := (Hs.opd hx).cells (RA.solid hsol)
  refine ok_alloc H hB hd e h3 h4 ?_
  simp [Instr.box, newVar, newRow]

/-! #### load -/
theorem run_load_one {t : TypeId} {d : TypeDesc} (hu : P.underlying t = some d) (ha : isAggD d = false) {k o : Nat} {v : Value} (hc : W.cell? ⟨k, o, none⟩ = some v) :
    (do let v ← Instr.loadAt t (.pointer (some ⟨k, o, none⟩)); pure (.value v) : Sem Next).run P W = .ok (.value v) W := by
  have hagg : (isAgg t).run P W = .ok false W := by
    unfold isAgg
    rw [Sem.run_bind, run_underlying hu W]
    cases d <;> simp_all [isAggD]
  simp [Instr.loadAt, Instr.sureAddr, loadVar, hagg, hc, Result.andThen]
theorem run_load_many {t : TypeId} {d : TypeDesc} (hu : P.underlying t = some d) (ha : isAggD d = true) {n : Nat} (hn : szOf P t = some n) {k o : Nat} (cs : List Value) (hl : cs.length = n) (hc : ∀ j v, cs[j]? = some v → W.cell? ⟨k, o + j, none⟩ = some v) :
    (do let v ← Instr.loadAt t (.pointer (some ⟨k, o, none⟩)); pure (.value v) : Sem Next).run P W = .ok (.value (.agg cs.toArray)) W := by
  have := run_loadVar_mid (P := P) W k o t cs d hc hu (by cases d <;> simp_all [isAggD, TypeDesc.isRow]) (by unfold szOf at hn; rw [hn, hl])
  simp [Instr.loadAt, Instr.sureAddr, this]

/-- The load of a pointer at known cells. -/
theorem ok_load_at (H : HRel B S β h W) {t : TypeId} {d : TypeDesc} (hu : P.underlying t = some d) {n : Nat} (hn : szOf P t = some n) {k o : Nat} {cs : List AV} {u : Nat → Value}
    (hc : ∀ (j : Nat) (c : AV), cs[j]? = some c → W.cell? ⟨k, o + j, none⟩ = some (u j)) (hR : ∀ (j : Nat) (c : AV), cs[j]? = some c → RA S W β h c (u j)) {rd : List Nat} :
    (isAggD d = false → ∀ c, cs[0]? = some c → Fine P B S β h W ((do let v ← Instr.loadAt t (.pointer (some ⟨k, o, none⟩)); pure (.value v) : Sem Next).run P W) { v := c, rd := rd }) ∧
    (isAggD d = true → n ≤ cs.length → Fine P B S β h W ((do let v ← Instr.loadAt t (.pointer (some ⟨k, o, none⟩)); pure (.value v) : Sem Next).run P W) { v := .agg (cs.take n), rd := rd }) := by
  refine ⟨fun ha c hc0 => ?_, fun ha hl => ?_⟩
  · have := hc 0 c hc0
    exact Fine.same H (run_load_one hu ha this) (hR 0 c hc0)
  · refine Fine.same H (run_load_many hu ha hn ((List.range n).map u) (by simp) ?_) (.agg (by simp; omega) ?_)
    · intro j v hj
      simp only [List.getElem?_map] at hj
      rcases Nat.lt_or_ge j n with hjn | hjn
      · rw [List.getElem?_range hjn] at hj
        simp at hj; subst hj
        exact hc j _ (List.getElem?_eq_getElem (by omega))
      · rw [List.getElem?_eq_none (by simp; omega)] at hj; simp at hj
    · intro j c hj
      rw [List.getElem?_take] at hj
      split at hj
      · rename_i hjn
        have : (((List.range n).map u).toArray).getD j undef = u j := by simp [hjn]
        rw [this]
        exact hR j c hj
      · cases hj

theorem pvmap_get {cs : List PV} {j : Nat} {c : AV} (hc : (cs.map AV.pv)[j]? = some c) : ∃ p, cs[j]? = some p ∧ c = .pv p := by
  rw [List.getElem?_map] at hc
  cases hp : cs[j]? with
  | none => simp [hp] at hc
  | some p => simp [hp] at hc; exact ⟨p, rfl, hc.symm⟩
theorem agg_pv {cs : List PV} {v : Value} (hx : RA S W β h (.agg (cs.map .pv)) v) : RA S W β h (.pv (.agg cs)) v := by
  cases hx with
  | agg hn hR =>
    refine .pv (.agg _ _ (by simpa using hn) (fun i p hp => ?_))
    have := hR i (.pv p) (by simp [hp])
    cases this with | pv hq => exact hq
theorem Fine.weaken {run : Result Next} {x y : AV} {rd : List Nat} (hf : Fine P B S β h W run { v := x, rd := rd }) (hxy : ∀ S W β h v, RA S W β h x v → RA S W β h y v) : Fine P B S β h W run { v := y, rd := rd } := by
  obtain ⟨nx, v, W', S', β', h1, h2, h3, h4, h5, h6⟩ := hf
  exact ⟨nx, v, W', S', β', h1, h2, h3, h4, hxy _ _ _ _ _ h5, h6⟩

theorem ok_load (H : HRel B S β h W) {s : Slots} {ρ : Operand → Value} (Hs : Sl S β h W s ρ) {t : TypeId} {d : TypeDesc} (hu : P.underlying t = some d) {n : Nat} (hn : szOf P t = some n) {x : Operand} {x' : Opd} (hx : opd x = some x') {k : Option Nat}
    (hk : (isAggD d = true ∧ k = some n) ∨ (isAggD d = false ∧ k = none)) {o : Out} (hs : sem (.load k x') 0 s h = some o) :
    Fine P B S β h W ((do let v ← Instr.loadAt t (ρ x); pure (.value v) : Sem Next).run P W) o := by
  have hX := Hs.opd hx
  unfold sem at hs
  simp only [] at hs
  split at hs
  · -- a box
    rename_i b off heq
    obtain ⟨g, cs0, m0, hv, hg, hbox⟩ := ptr_of hX heq
    cases hb : boxOf h b with
    | none => simp [hb] at hs
    | some cs =>
      obtain ⟨m, hbb⟩ := boxOf_some hb
      have hcs : cs0 = cs := by rw [hbox] at hbb; cases hbb; rfl
      subst hcs
      clear hbb
      obtain ⟨g', cur, e, h1, h2, h3, h4⟩ := H.blk _ _ hbox
      rw [hg] at h1; cases h1
      have hcell : ∀ (j : Nat) (c : AV), (cs0.drop off)[j]? = some c → W.cell? ⟨g, off + j, none⟩ = some (cur.getD (off + j) undef) := by
        intro j c hc
        rw [List.getElem?_drop] at hc
        have := (List.getElem?_eq_some_iff.1 hc).1
        rw [cell_row h2]
        exact getD_some (by omega)
      have hR : ∀ (j : Nat) (c : AV), (cs0.drop off)[j]? = some c → RA S W β h c (cur.getD (off + j) undef) := by
        intro j c hc
        rw [List.getElem?_drop] at hc
        exact h4 _ _ hc
      rw [hv]
      obtain ⟨a1, a2⟩ := ok_load_at (rd := [b]) H hu hn hcell hR
      simp only [hb] at hs
      rcases hk with ⟨hag, rfl⟩ | ⟨hag, rfl⟩
      · simp only [] at hs
        split at hs
        · cases hs
          exact a2 hag (by simp; omega)
        · cases hs
      · simp only [] at hs
        split at hs
        · rename_i c hc
          cases hs
          exact a1 hag c (by rw [List.getElem?_drop]; simpa using hc)
        · cases hs
  · -- what is read
    rename_i cs heq
    obtain ⟨g, off, hv, _, u, h1, h2⟩ := vptr_of hX heq
    rw [hv]
    obtain ⟨a1, a2⟩ := ok_load_at (P := P) (rd := []) (o := off) (cs := cs.map .pv) (u := u) H hu hn (fun j c hc => by obtain ⟨p, hp, _⟩ := pvmap_get hc; exact h1 j p hp) (fun j c hc => by obtain ⟨p, hp, rfl⟩ := pvmap_get hc; exact .pv (h2 j p hp))
    rcases hk with ⟨hag, rfl⟩ | ⟨hag, rfl⟩
    · simp only [] at hs
      split at hs
      · cases hs
        refine (a2 hag (by simp; omega)).weaken (fun S W β h v hx => ?_)
        rw [← List.map_take] at hx
        exact agg_pv hx
      · cases hs
    · simp only [] at hs
      split at hs
      · rename_i c hc
        cases hs
        exact a1 hag _ (by rw [List.getElem?_map, hc]; rfl)
      · cases hs
  · -- a row's element
    rename_i b m i off heq
    cases hr : rowOf h b with
    | none => simp [hr] at hs
    | some tr =>
      obtain ⟨e', sz, es⟩ := tr
      simp only [hr] at hs
      split at hs
      · rename_i hm
        obtain ⟨g, hg, hv⟩ := eptr_of hX heq hr hm
        obtain ⟨m', hbb⟩ := rowOf_some hr
        obtain ⟨hsz, hcl, hrow⟩ := H.blk _ _ hbb
        rcases hrow with ⟨h1, _⟩ | ⟨g', cur, h1, h2, h3, h4⟩
        · rw [hg] at h1; cases h1
        · rw [hg] at h1; cases h1
          rw [hv]
          split at hs
          · rename_i el hel
            have hlen := hcl i el hel
            have hil := (List.getElem?_eq_some_iff.1 hel).1
            have hcell : ∀ (j : Nat) (c : AV), ((el.cells.drop off).map AV.pv)[j]? = some c → W.cell? ⟨g, i * sz + off + j, none⟩ = some (cur.getD (i * sz + off + j) undef) := by
              intro j c hc
              obtain ⟨p, hp, _⟩ := pvmap_get hc
              rw [List.getElem?_drop] at hp
              have := (List.getElem?_eq_some_iff.1 hp).1
              have hh : i * sz + (off + j) < es.length * sz := mul_lt hil (by omega)
              rw [cell_row h2]
              exact getD_some (by omega)
            have hR : ∀ (j : Nat) (c : AV), ((el.cells.drop off).map AV.pv)[j]? = some c → RA S W β h c (cur.getD (i * sz + off + j) undef) := by
              intro j c hc
              obtain ⟨p, hp, rfl⟩ := pvmap_get hc
              rw [List.getElem?_drop] at hp
              have := h4 i el (off + j) p hel hp
              rw [Nat.add_assoc]
              exact .pv this
            obtain ⟨a1, a2⟩ := ok_load_at (P := P) (rd := [b]) H hu hn hcell hR
            rcases hk with ⟨hag, rfl⟩ | ⟨hag, rfl⟩
            · simp only [] at hs
              split at hs
              · cases hs
                refine (a2 hag (by simp; omega)).weaken (fun S W β h v hx => ?_)
                rw [← List.map_take] at hx
                exact agg_pv hx
              · cases hs
            · simp only [] at hs
              split at hs
              · rename_i c hc
                cases hs
                exact a1 hag _ (by rw [List.getElem?_map, List.getElem?_drop]; simp [hc])
              · cases hs
          · cases hs
      · cases hs
  · cases hs

/-! #### numbers, truths, texts -/
theorem eqGuard_int (op : BinOp) (t : TypeId) (x y : Operand) (k k' : IntKind) (a b : Int) : (eqGuard op t x y (.int k a) (.int k' b)).run P W = .ok () W := by
  cases op <;> simp [eqGuard]
theorem eqGuard_str (op : BinOp) (t : TypeId) (x y : Operand) (a b : ByteArray) : (eqGuard op t x y (.string a) (.string b)).run P W = .ok () W := by
  cases op <;> simp [eqGuard]
theorem eqGuard_bool (op : BinOp) (t : TypeId) (x y : Operand) (a b : Bool) : (eqGuard op t x y (.bool a) (.bool b)).run P W = .ok () W := by
  cases op <;> simp [eqGuard]
theorem bs_toList (l : List UInt8) : (bs l).toList = l := by rw [ByteArray.toList_eq]; rfl
theorem bs_append (a b : List UInt8) : bs a ++ bs b = bs (a ++ b) := by
  apply ByteArray.ext
  simp [bs]
theorem bs_extract (l : List UInt8) (i j : Nat) : (bs l).extract i j = bs ((l.take j).drop i) := by
  apply ByteArray.ext
  rw [ByteArray.data_extract]
  simp [bs, List.extract_toArray, List.drop_take]
theorem beq_dec {α : Type} [BEq α] [LawfulBEq α] [DecidableEq α] (a b : α) : (a == b) = decide (a = b) := by
  rw [Bool.eq_iff_iff]; simp
theorem run_bin_int {op : BinOp} {k k' : IntKind} {a b : Int} {r : PV} (hs : semBin op (.int k a) (.int k' b) = some r) (t : TypeId) :
    ∃ v, (binOp op t (.int k a) (.int k' b)).run P W = .ok v W ∧ RV S W r v := by
  cases op with
  | shl =>
    simp only [semBin] at hs
    split at hs
    · cases hs
    · cases hs
      exact ⟨_, by simp [binOp, Op.shift, *], .int _ _⟩
  | shr =>
    simp only [semBin] at hs
    split at hs
    · cases hs
    · cases hs
      exact ⟨_, by simp [binOp, Op.shift, *], .int _ _⟩
  | quo =>
    simp only [semBin, ne_eq, ite_not] at hs
    split at hs
    · subst_vars
      split at hs
      · cases hs
      · cases hs
        exact ⟨_, by simp [binOp, Op.intDiv, *], .int _ _⟩
    · cases hs
  | rem =>
    simp only [semBin, ne_eq, ite_not] at hs
    split at hs
    · subst_vars
      split at hs
      · cases hs
      · cases hs
        exact ⟨_, by simp [binOp, Op.intDiv, *], .int _ _⟩
    · cases hs
  | and | or | xor | andNot => simp [semBin] at hs
  | add | sub | mul =>
    simp only [semBin, ne_eq, ite_not] at hs
    split at hs
    · subst_vars
      cases hs
      exact ⟨_, by simp [binOp, Op.intArith], .int _ _⟩
    · cases hs
  | eql | neq | lss | leq | gtr | geq =>
    simp only [semBin, ne_eq, ite_not] at hs
    split at hs
    · subst_vars
      cases hs
      refine ⟨.bool _, ?_, .bool _⟩
      simp [binOp, Op.intCmp, bne, beq_dec]
    · cases hs
theorem run_bin_str {op : BinOp} {a b : List UInt8} {r : PV} (ha : a.length ≤ maxLen) (hb : b.length ≤ maxLen) (hs : semBin op (.str a) (.str b) = some r) (t : TypeId) :
    ∃ v, (binOp op t (.string (bs a)) (.string (bs b))).run P W = .ok v W ∧ RV S W r v := by
  have hbeq : ((bs a).toList == (bs b).toList) = decide (a = b) := by
    rw [bs_toList, bs_toList, Bool.eq_iff_iff]; simp
  cases op with
  | add =>
    simp only [semBin] at hs
    split at hs
    · rename_i hl
      cases hs
      refine ⟨.string (bs (a ++ b)), ?_, .str _ (by simpa using hl)⟩
      simp only [binOp]
      rw [run_string_add_sum W _ _ (by simp only [bs_size]; simp only [maxLen] at hl; omega), bs_append]
    · cases hs
  | eql | neq | lss | leq | gtr | geq =>
    simp only [semBin] at hs
    cases hs
    refine ⟨.bool _, ?_, .bool _⟩
    simp only [binOp, Op.stringOp, Sem.run_pure, hbeq, bs_toList]
    try simp [beq_dec]
  | sub | mul | quo | rem | and | or | xor | shl | shr | andNot => simp [semBin] at hs
theorem run_bin {op : BinOp} {p q r : PV} (hs : semBin op p q = some r) {a b : Value} (ha : RV S W p a) (hb : RV S W q b) (t : TypeId) (x y : Operand) :
    ∃ v, (do eqGuard op t x y a b; binOp op t a b : Sem Value).run P W = .ok v W ∧ RV S W r v := by
  cases ha <;> cases hb <;> try (simp [semBin] at hs; done)
  · rw [Sem.run_bind, eqGuard_int, Result.andThen_ok]
    exact run_bin_int hs t
  · rw [Sem.run_bind, eqGuard_str, Result.andThen_ok]
    exact run_bin_str ‹_› ‹_› hs t
end
end Go.Proofs.Ytnojmocoifodjaa.Pv
set_option linter.unusedVariables false
set_option linter.unusedSimpArgs false
namespace Go.Proofs.Ytnojmocoifodjaa.Pv
open Go Go.RowKit
section
variable {P : Program} {B : Nat} {S : Stb} {β : Bta} {h : Heap} {W : World}

theorem run_val {m : Sem Value} {v : Value} {W' : World} (hm : m.run P W = .ok v W') : (do let v ← m; pure (.value v) : Sem Next).run P W = .ok (.value v) W' := by
  rw [Sem.run_bind, hm]; rfl

theorem ok_bin (H : HRel B S β h W) {s : Slots} {ρ : Operand → Value} (Hs : Sl S β h W s ρ) {op : BinOp} {t : TypeId} {x y : Operand} {x' y' : Opd} (hx : opd x = some x') (hy : opd y = some y') {o : Out} (hs : sem (.bin op x' y') 0 s h = some o) :
    Fine P B S β h W ((do let v ← (do eqGuard op t x y (ρ x) (ρ y); binOp op t (ρ x) (ρ y)); pure (.value v) : Sem Next).run P W) o := by
  have hX := Hs.opd hx
  have hY := Hs.opd hy
  simp only [sem] at hs
  split at hs
  · rename_i p q h1 h2
    rw [h1] at hX; rw [h2] at hY
    cases hX with
    | pv hp =>
      cases hY with
      | pv hq =>
        split at hs
        · rename_i r hr
          cases hs
          obtain ⟨v, hv, hv2⟩ := run_bin (P := P) hr hp hq t x y
          exact Fine.same H (run_val hv) (.pv hv2)
        · cases hs
  · cases hs

theorem equalIn_bool' {t : TypeId} (hu : P.underlying t = some .bool) (d : Nat) (a b : Bool) : (Op.equalIn (d + 1) t (.bool a) (.bool b)).run P W = .ok (a == b) W := by
  simp [Op.equalIn, run_underlying hu]
theorem equalIn_bool {t : TypeId} (hu : P.underlying t = some .bool) (a b : Bool) : (Op.equal t (.bool a) (.bool b)).run P W = .ok (a == b) W := equalIn_bool' hu 9999 a b
theorem tagOf_bool {t : TypeId} (hc : tagOf P t = 1) : P.underlying t = some .bool := by
  unfold tagOf at hc
  split at hc <;> simp_all
theorem tagOf_str {t : TypeId} (hc : tagOf P t = 3) : P.underlying t = some .string := by
  unfold tagOf at hc
  split at hc <;> simp_all
theorem ok_beq (H : HRel B S β h W) {s : Slots} {ρ : Operand → Value} (Hs : Sl S β h W s ρ) {neg : Bool} {t : TypeId} (ht : tagOf P t = 1) {x y : Operand} {x' y' : Opd} (hx : opd x = some x') (hy : opd y = some y') {o : Out} (hs : sem (.beq neg x' y') 0 s h = some o) :
    Fine P B S β h W ((do let v ← (do eqGuard (if neg then .neq else .eql) t x y (ρ x) (ρ y); binOp (if neg then .neq else .eql) t (ρ x) (ρ y)); pure (.value v) : Sem Next).run P W) o := by
  have hX := Hs.opd hx
  have hY := Hs.opd hy
  simp only [sem] at hs
  split at hs
  · rename_i p q h1 h2
    cases hs
    rw [bool_of hX h1, bool_of hY h2]
    have := equalIn_bool (W := W) (tagOf_bool ht) p q
    refine Fine.same (v := .bool (if neg then !(p == q) else p == q)) H (run_val ?_) (.pv (.bool _))
    rw [Sem.run_bind, eqGuard_bool, Result.andThen_ok]
    cases neg <;> simp [binOp, this]
  · cases hs
theorem ok_un (H : HRel B S β h W) {s : Slots} {ρ : Operand → Value} (Hs : Sl S β h W s ρ) {op : UnOp} {x : Operand} {x' : Opd} (hx : opd x = some x') {o : Out} (hs : sem (.un op x') 0 s h = some o) :
    Fine P B S β h W ((do let v ← Op.unary op (ρ x); pure (.value v) : Sem Next).run P W) o := by
  have hX := Hs.opd hx
  simp only [sem] at hs
  split at hs
  · rename_i b h1
    cases hs
    rw [bool_of hX h1]
    exact Fine.same H (run_val (v := .bool !b) (by simp [Op.unary])) (.pv (.bool _))
  · rename_i k n h1
    cases hs
    rw [int_of hX h1]
    exact Fine.same H (run_val (v := .int k (k.wrap (0 - n))) (by simp [Op.unary, Op.intArith])) (.pv (.int _ _))
  · cases hs

theorem add_off (k o n : Nat) : (⟨k, o, none⟩ : Addr).add n = ⟨k, o + n, none⟩ := Addr.add_mid k o n
theorem run_fieldAt {t : TypeId} {f off n : Nat} (hf : fldOf P t f = some (off, n)) (hn : n ≠ 0) (k o : Nat) : (Instr.fieldAt t (.pointer (some ⟨k, o, none⟩)) f).run P W = .ok (.pointer (some ⟨k, o + off, none⟩)) W := by
  unfold fldOf at hf
  split at hf
  · rename_i fs hu
    cases hfd : fs[f]? with
    | none => simp [hfd] at hf
    | some fd =>
      simp only [hfd, Option.bind_some, szOf] at hf
      cases hi : P.info? fd.type with
      | none => simp [hi] at hf
      | some i =>
        simp [hi] at hf
        obtain ⟨rfl, rfl⟩ := hf
        simp [Instr.fieldAt, run_underlying hu, hfd, Instr.sureAddr, fieldPlace, Go.sizeOf, typeInfo, hi, hn, add_off]
  · cases hf
theorem ok_fld (H : HRel B S β h W) {s : Slots} {ρ : Operand → Value} (Hs : Sl S β h W s ρ) {t : TypeId} {f off n : Nat} (hf : fldOf P t f = some (off, n)) (hn : n ≠ 0) {x : Operand} {x' : Opd} (hx : opd x = some x') {o : Out} (hs : sem (.fld off x') 0 s h = some o) :
    Fine P B S β h W ((do let v ← Instr.fieldAt t (ρ x) f; pure (.value v) : Sem Next).run P W) o := by
  have hX := Hs.opd hx
  simp only [sem] at hs
  split at hs
  · rename_i b o' h1
    cases hs
    obtain ⟨k, cs, m, hv, hk, hb⟩ := ptr_of hX h1
    rw [hv]
    exact Fine.same H (run_val (run_fieldAt hf hn k o')) (.ptr hb hk)
  · rename_i cs h1
    cases hs
    obtain ⟨k, o', hv, h2, u, h3, h4⟩ := vptr_of hX h1
    rw [hv]
    refine Fine.same H (run_val (run_fieldAt hf hn k o')) (.pv (.vptr _ _ _ (fun j => u (off + j)) ?_ ?_ ?_))
    · intro j p hp; rw [List.getElem?_drop] at hp; rw [Nat.add_assoc]; exact h2 _ p hp
    · intro j p hp; rw [List.getElem?_drop] at hp; rw [Nat.add_assoc]; exact h3 _ p hp
    · intro j p hp; rw [List.getElem?_drop] at hp; exact h4 _ p hp
  · rename_i b m i o' h1
    split at hs
    · rename_i e sz es hr
      split at hs
      · rename_i hm
        cases hs
        obtain ⟨k, hk, hv⟩ := eptr_of hX h1 hr hm
        obtain ⟨mm, hb⟩ := rowOf_some hr
        rw [hv]
        refine Fine.same H (run_val (run_fieldAt hf hn k _)) (.eptr hb (by omega) ⟨_, rfl⟩ (fun _ => ⟨k, hk, by rw [Nat.add_assoc]⟩))
      · cases hs
    · cases hs
  · cases hs

theorem elOf_some {t e : TypeId} (he : elOf P t = some e) : P.underlying t = some (.slice e) := by
  unfold elOf at he
  split at he
  · cases he; assumption
  · cases he
theorem run_indexAt {t e : TypeId} (he : elOf P t = some e) {n : Nat} (hn : szOf P e = some n) (k o len c : Nat) (kd : IntKind) (j : Int) (h0 : 0 ≤ j) (h1 : j.toNat < len) :
    (Instr.indexAt t (.slice (some ⟨k, o, none⟩) len c) (.int kd j)).run P W = .ok (.pointer (some ⟨k, o + j.toNat * n, none⟩)) W := by
  have hu := elOf_some he
  unfold szOf at hn
  cases hi : P.info? e with
  | none => simp [hi] at hn
  | some i =>
    simp [hi] at hn
    have h2 : j < (len : Int) := by omega
    simp [Instr.indexAt, asIntOf, run_underlying hu, h0, h2, Go.sizeOf, typeInfo, hi, hn, add_off]
theorem ok_idx (H : HRel B S β h W) {s : Slots} {ρ : Operand → Value} (Hs : Sl S β h W s ρ) {t e : TypeId} (he : elOf P t = some e) {n : Nat} (hn : szOf P e = some n) {x y : Operand} {x' y' : Opd} (hx : opd x = some x') (hy : opd y = some y') {o : Out} (hs : sem (.idx n x' y') 0 s h = some o) :
    Fine P B S β h W ((do let v ← Instr.indexAt t (ρ x) (ρ y); pure (.value v) : Sem Next).run P W) o := by
  have hX := Hs.opd hx
  have hY := Hs.opd hy
  simp only [sem] at hs
  split at hs
  · rename_i kd j h1
    rw [int_of hY h1]
    split at hs
    · rename_i h0
      split at hs
      · rename_i es h2
        split at hs
        · rename_i el hel
          split at hs
          · rename_i hlen
            cases hs
            rw [h2] at hX
            generalize ρ x = vx at hX ⊢
            cases hX with
            | pv hp =>
              cases hp with
              | view0 A c => simp at hel
              | view _ k o sz c u a1 a2 a3 a4 a5 a6 =>
                have hsz := a3 _ el hel
                have hjl := (List.getElem?_eq_some_iff.1 hel).1
                refine Fine.same H (run_val (run_indexAt he hn k o _ c kd j h0 hjl)) (.pv (.vptr _ _ _ (fun jj => u j.toNat jj) ?_ ?_ ?_))
                · intro jj p hp; have := a4 _ el jj p hel hp; rw [← hlen, hsz]; exact this
                · intro jj p hp; have := a5 _ el jj p hel hp; rw [← hlen, hsz]; exact this
                · intro jj p hp; exact a6 _ el jj p hel hp
          · cases hs
        · cases hs
      · rename_i b m h2
        split at hs
        · rename_i e' sz es hr
          split at hs
          · rename_i hc
            obtain ⟨hm, hjm, hsz⟩ := hc
            cases hs
            rw [h2] at hX
            have hcur := RA.ref_cases hX hr hm
            obtain ⟨mm, hb⟩ := rowOf_some hr
            rcases hcur with ⟨_, h3, _⟩ | ⟨k, c, cur, e2, h3, h4, h5, h6, h7, h8⟩
            · omega
            · rw [h4]
              refine Fine.same H (run_val (run_indexAt he hn k 0 m c kd j h0 hjm)) (.eptr hb (by omega) ⟨_, rfl⟩ (fun _ => ⟨k, h3, by rw [hsz]; simp⟩))
          · cases hs
        · cases hs
      · cases hs
    · cases hs
  · cases hs
theorem ok_sidx (H : HRel B S β h W) {s : Slots} {ρ : Operand → Value} (Hs : Sl S β h W s ρ) {t : TypeId} (ht : tagOf P t = 3) {x y : Operand} {x' y' : Opd} (hx : opd x = some x') (hy : opd y = some y') {o : Out} (hs : sem (.sidx x' y') 0 s h = some o) :
    Fine P B S β h W ((do let v ← Instr.index t (ρ x) (ρ y); pure (.value v) : Sem Next).run P W) o := by
  have hX := Hs.opd hx
  have hY := Hs.opd hy
  simp only [sem] at hs
  split at hs
  · rename_i l kd j h1 h2
    rw [(str_of hX h1).1, int_of hY h2]
    split at hs
    · rename_i h0
      split at hs
      · rename_i c hc
        cases hs
        have hu := tagOf_str ht
        have hget : (bs l)[j.toNat]? = some c := by
          have := (List.getElem?_eq_some_iff.1 hc)
          obtain ⟨hlt, he⟩ := this
          rw [getElem?_pos (bs l) j.toNat (by simpa using hlt)]
          congr 1
        refine Fine.same (v := .int .u8 c.toNat) H (run_val ?_) (.pv (.int _ _))
        simp [Instr.index, asIntOf, run_underlying hu, h0, hget]
      · cases hs
    · cases hs
  · cases hs
theorem ok_slen (H : HRel B S β h W) {s : Slots} {ρ : Operand → Value} (Hs : Sl S β h W s ρ) {t ty : TypeId} (ht : P.underlying t = some .string) {x : Operand} {x' : Opd} (hx : opd x = some x') {o : Out} (hs : sem (.len true x') 0 s h = some o) :
    Fine P B S β h W ((do let v ← Builtin.len_ #[t] ty #[ρ x]; pure (.value v) : Sem Next).run P W) o := by
  have hX := Hs.opd hx
  simp only [sem] at hs
  split at hs
  · rename_i l h1
    cases hs
    obtain ⟨hv, _⟩ := str_of hX h1
    refine Fine.same (v := .int .i64 l.length) H (run_val ?_) (.pv (.int _ _))
    simp [Builtin.len_, run_underlying ht, hv, goInt]
  · cases hs
theorem ok_len (H : HRel B S β h W) {s : Slots} {ρ : Operand → Value} (Hs : Sl S β h W s ρ) {t ty e : TypeId} (ht : P.underlying t = some (.slice e)) {x : Operand} {x' : Opd} (hx : opd x = some x') {o : Out} (hs : sem (.len false x') 0 s h = some o) :
    Fine P B S β h W ((do let v ← Builtin.len_ #[t] ty #[ρ x]; pure (.value v) : Sem Next).run P W) o := by
  have hX := Hs.opd hx
  have hslice : ∀ A n c, ρ x = .slice A n c → (Builtin.len_ #[t] ty #[ρ x]).run P W = .ok (.int .i64 n) W := by
    intro A n c hv
    simp [Builtin.len_, run_underlying ht, hv, goInt]
  simp only [sem] at hs
  split at hs
  · rename_i es h1
    cases hs
    rw [h1] at hX
    cases hX with
    | pv hp =>
      generalize hv : ρ x = v at hp
      cases hp with
      | view0 A c => exact Fine.same H (run_val (by rw [← hv]; exact hslice _ _ _ hv)) (.pv (.int _ _))
      | view _ k o sz c u a1 a2 a3 a4 a5 a6 => exact Fine.same H (run_val (by rw [← hv]; exact hslice _ _ _ hv)) (.pv (.int _ _))
  · rename_i h1
    cases hs
    rw [h1] at hX
    cases hX with
    | pv hp =>
      generalize hv : ρ x = v at hp
      cases hp
      exact Fine.same H (run_val (by rw [← hv]; exact hslice _ _ _ hv)) (.pv (.int _ _))
  · rename_i h1
    cases hs
    rw [h1] at hX
    cases hX with
    | pv hp =>
      generalize hv : ρ x = v at hp
      cases hp
      exact Fine.same H (run_val (by rw [← hv]; exact hslice _ _ _ hv)) (.pv (.int _ _))
  · rename_i h1
    cases hs
    rw [h1] at hX
    cases hX with
    | pv hp =>
      generalize hv : ρ x = v at hp
      cases hp
      exact Fine.same H (run_val (by rw [← hv]; exact hslice _ _ _ hv)) (.pv (.int _ _))
  · rename_i h1
    cases hs
    rw [h1] at hX
    cases hX with
    | pv hp =>
      generalize hv : ρ x = v at hp
      cases hp
      exact Fine.same H (run_val (by rw [← hv]; exact hslice _ _ _ hv)) (.pv (.int _ _))
  · rename_i b n h1
    cases hs
    rw [h1] at hX
    generalize hv : ρ x = v at hX
    cases hX with
    | ref hb hn hvv hc =>
      obtain ⟨A, c, rfl, _⟩ := hvv
      exact Fine.same H (run_val (by rw [← hv]; exact hslice _ _ _ hv)) (.pv (.int _ _))
  · cases hs
theorem ok_ext (H : HRel B S β h W) {s : Slots} {ρ : Operand → Value} (Hs : Sl S β h W s ρ) {i : Nat} {x : Operand} {x' : Opd} (hx : opd x = some x') {o : Out} (hs : sem (.ext i x') 0 s h = some o) :
    Fine P B S β h W ((do let v ← Instr.extract (ρ x) i; pure (.value v) : Sem Next).run P W) o := by
  have hX := Hs.opd hx
  simp only [sem] at hs
  split at hs
  · rename_i vs h1
    split at hs
    · rename_i v hv
      cases hs
      rw [h1] at hX
      generalize ρ x = vx at hX ⊢
      cases hX with
      | @tup _ us hn hR =>
        have hlt := (List.getElem?_eq_some_iff.1 hv).1
        refine Fine.same (v := us.getD i undef) H (run_val ?_) (hR i v hv)
        have : us[i]? = some (us.getD i undef) := getD_some (by omega)
        simp only [Instr.extract, this]
        rfl
    · cases hs
  · cases hs
theorem ok_mkf (H : HRel B S β h W) {s : Slots} {ρ : Operand → Value} (Hs : Sl S β h W s ρ) {f : Nat} {caps : Array Operand} {l : List Opd} (hl : listM opd caps.toList = some l) :
    Fine P B S β h W ((do let v ← Instr.makeFunc (.func f) #[] (caps.map ρ); pure (.value v) : Sem Next).run P W) { v := .fn f (l.map (ev s)) } := by
  obtain ⟨h1, h2⟩ := listM_ok hl
  refine Fine.same (v := .func (.func f) #[] (caps.map ρ)) H (run_val (by simp [Instr.makeFunc])) (.fn (by simpa using h1.symm) ?_)
  intro i c hi
  rw [List.getElem?_map] at hi
  cases hli : l[i]? with
  | none => simp [hli] at hi
  | some y =>
    simp [hli] at hi
    subst hi
    obtain ⟨z, hz1, hz2⟩ := h2 i y hli
    have : (caps.map ρ).getD i undef = ρ z := by
      rw [getD_toList]; simp at hz1 ⊢; simp [hz1]
    rw [this]
    exact Hs.opd hz2
theorem ok_conv (H : HRel B S β h W) {s : Slots} {ρ : Operand → Value} (Hs : Sl S β h W s ρ) {src dst : TypeId} {k0 k : IntKind} (h1 : P.underlying src = some (.int k0)) (h2 : P.underlying dst = some (.int k)) {x : Operand} {x' : Opd} (hx : opd x = some x') {o : Out} (hs : sem (.conv k x') 0 s h = some o) :
    Fine P B S β h W ((do let v ← convert src dst (ρ x); pure (.value v) : Sem Next).run P W) o := by
  have hX := Hs.opd hx
  simp only [sem] at hs
  split at hs
  · rename_i kk n h3
    cases hs
    rw [int_of hX h3]
    refine Fine.same (v := .int k (k.wrap n)) H (run_val ?_) (.pv (.int _ _))
    simp [convert, run_underlying h1, run_underlying h2, Conv.intToInt]
  · cases hs
end
end Go.Proofs.Ytnojmocoifodjaa.Pv
set_option linter.unusedVariables false
set_option linter.unusedSimpArgs false
namespace Go.Proofs.Ytnojmocoifodjaa.Pv
open Go Go.RowKit
section
variable {P : Program} {B : Nat} {S : Stb} {β : Bta} {h : Heap} {W : World}

theorem RV.one {p : PV} {v : Value} (hp : RV S W p v) (h1 : p.one = true) : v.oneCell' = true := by
  cases hp <;> first | rfl | simp [PV.one] at h1
theorem RA.one {x : AV} {v : Value} (hx : RA S W β h x v) (h1 : x.one = true) : v.oneCell' = true := by
  cases hx with
  | pv hp => exact hp.one h1
  | ref hb hn hv hc => obtain ⟨A, c, rfl, _⟩ := hv; rfl
  | ptr hb hk => rfl
  | eptr hb hn hv hc => obtain ⟨a, rfl⟩ := hv; rfl
  | agg hn hR => simp [AV.one] at h1
  | tup hn hR => simp [AV.one] at h1
  | fn hn hR => rfl
theorem okc_len {sz : Nat} {p : PV} (hp : p.okc sz = true) : p.cells.length = sz := by simp [PV.okc] at hp; exact hp.1
theorem okc_one {sz : Nat} {p : PV} (hp : p.okc sz = true) {j : Nat} {q : PV} (hq : p.cells[j]? = some q) : q.one = true := by
  simp [PV.okc] at hp; exact hp.2 q (List.mem_of_getElem? hq)
theorem all_get {α : Type} {l : List α} {f : α → Bool} (hl : l.all f = true) {i : Nat} {x : α} (hx : l[i]? = some x) : f x = true := List.all_eq_true.1 hl x (List.mem_of_getElem? hx)

/-- The cells of what is appended. -/
theorem news_of {ys : List PV} {sz : Nat} (hsz : 0 < sz) (hok : ys.all (PV.okc sz) = true) {v : Value} (hv : RV S W (.view ys) v) (hne : ys ≠ []) :
    ∃ (k o c : Nat) (news : List Value), v = .slice (some ⟨k, o, none⟩) ys.length c ∧ ys.length ≤ c ∧ c ≤ maxLen ∧ news.length = ys.length * sz ∧ (∀ (j : Nat) (u : Value), news[j]? = some u → W.cell? ((⟨k, o, none⟩ : Addr).add j) = some u) ∧
      (∀ u : Value, u ∈ news → u.oneCell' = true) ∧ ∀ (i : Nat) (x : PV) (j : Nat) (p : PV), ys[i]? = some x → x.cells[j]? = some p → RV S W p ((news[i * sz + j]?).getD undef) := by
  cases hv with
  | view0 A c => exact absurd rfl hne
  | view _ k o sz' c u a1 a2 a3 a4 a5 a6 =>
    have hss : sz' = sz := by
      cases ys with
      | nil => exact absurd rfl hne
      | cons y ys =>
        have h1 := a3 0 y (by simp)
        have h2 := okc_len (all_get hok (i := 0) (x := y) (by simp))
        omega
    subst hss
    have hget : ∀ q, q < ys.length * sz' → ∃ x p, ys[q / sz']? = some x ∧ x.cells[q % sz']? = some p := by
      intro q hq
      have h1 : q / sz' < ys.length := Nat.div_lt_of_lt_mul (by rw [Nat.mul_comm]; exact hq)
      have h2 := a3 _ _ (List.getElem?_eq_getElem h1)
      have h3 : q % sz' < (ys[q / sz']'h1).cells.length := by rw [h2]; exact Nat.mod_lt _ hsz
      exact ⟨_, _, List.getElem?_eq_getElem h1, List.getElem?_eq_getElem h3⟩
    refine ⟨k, o, c, (List.range (ys.length * sz')).map (fun q => u (q / sz') (q % sz')), rfl, a1, a2, by simp, ?_, ?_, ?_⟩
    · intro j w hj
      rw [List.getElem?_map] at hj
      rcases Nat.lt_or_ge j (ys.length * sz') with hlt | hge
      · rw [List.getElem?_range hlt] at hj
        simp at hj; subst hj
        obtain ⟨x, p, h1, h2⟩ := hget j hlt
        have := a5 _ x _ p h1 h2
        rw [add_off]
        have e : o + j / sz' * sz' + j % sz' = o + j := by rw [Nat.add_assoc, Nat.mul_comm, Nat.div_add_mod]
        rw [e] at this
        exact this
      · rw [List.getElem?_eq_none (by simpa using hge)] at hj; simp at hj
    · intro w hw
      obtain ⟨q, hq, rfl⟩ := List.mem_map.1 hw
      obtain ⟨x, p, h1, h2⟩ := hget q (List.mem_range.1 hq)
      exact (a6 _ x _ p h1 h2).one (okc_one (all_get hok h1) h2)
    · intro i x j p hx hp
      have h1 := (List.getElem?_eq_some_iff.1 hx).1
      have h2 := (List.getElem?_eq_some_iff.1 hp).1
      rw [a3 i x hx] at h2
      have h3 := mul_lt h1 h2
      rw [List.getElem?_map, List.getElem?_range h3]
      have e1 : (i * sz' + j) / sz' = i := by rw [Nat.mul_comm, Nat.mul_add_div hsz, Nat.div_eq_of_lt h2, Nat.add_zero]
      have e2 : (i * sz' + j) % sz' = j := by rw [Nat.mul_comm, Nat.mul_add_mod, Nat.mod_eq_of_lt h2]
      simp only [Option.map_some, Option.getD_some, e1, e2]
      exact a6 i x j p hx hp

theorem run_append_zero {t ty e : TypeId} {i : TypeInfo} (ht : P.underlying t = some (.slice e)) (hi : P.info? e = some i) (a b : Option Addr) (n c c' : Nat) (hn : n ≤ c) :
    (Builtin.append_ #[t, t] ty #[.slice a n c, .slice b 0 c']).run P W = .ok (.slice a n c) W := by
  have hf : (Builtin.firstCells i.size 0 (.slice b 0 c')).run P W = .ok #[] W := by
    cases b <;> simp [Builtin.firstCells, loadCells, loadCellsFrom]
  cases a <;> simp [Builtin.append_, run_underlying ht, Go.sizeOf, typeInfo, hi, Builtin.lenOf, hn, hf, storeCells]

/-- Three ways of an append. -/
inductive App (W : World) (e : TypeId) (sz : Nat) (v : Value) (n m : Nat) (olds news : List Value) : Value → World → Prop
  | room (k c : Nat) (cur : Array Value) (hv : v = .slice (some ⟨k, 0, none⟩) n c) (hc : n + m ≤ c) (h0 : W.heap[k]? = some (.cells cur e (0, 0))) :
      App W e sz v n m olds news (.slice (some ⟨k, 0, none⟩) (n + m) c) (W.setRow k (cur.toList.take (n * sz) ++ news ++ cur.toList.drop (n * sz + news.length)).toArray)
  | grow (c : Nat) (rest : List Value) (hc : n + m ≤ c) (hm : c ≤ maxLen) (hr : rest.length = (c - (n + m)) * sz) :
      App W e sz v n m olds news (.slice (some ⟨W.heap.size, 0, none⟩) (n + m) c) (W.drew.alloc (.cells (olds ++ news ++ rest).toArray e))
theorem run_app {t ty e : TypeId} {i : TypeInfo} {z : Value} (ht : P.underlying t = some (.slice e)) (hi : P.info? e = some i) (hz : i.zero = some z) (hzs : z.cells.size = i.size)
    {v : Value} {n : Nat} {olds : List Value} (hv : ((∃ A, v = .slice A 0 0) ∧ n = 0 ∧ olds = []) ∨ ∃ k c cur, v = .slice (some ⟨k, 0, none⟩) n c ∧ n ≤ c ∧ c ≤ maxLen ∧ W.heap[k]? = some (.cells cur e (0, 0)) ∧ cur.size = c * i.size ∧ olds = cur.toList.take (n * i.size))
    {k o m c : Nat} {news : List Value} (hm : 0 < m) (hl : news.length = m * i.size) (hnews : ∀ (j : Nat) (u : Value), news[j]? = some u → W.cell? ((⟨k, o, none⟩ : Addr).add j) = some u) (h1 : ∀ u : Value, u ∈ news → u.oneCell' = true)
    (h63 : n + m ≤ maxLen) (hby : (n + m) * i.bytes ≤ 140737488355328) :
    ∃ v' W', (Builtin.append_ #[t, t] ty #[v, .slice (some ⟨k, o, none⟩) m c]).run P W = .ok v' W' ∧ App W e i.size v n m olds news v' W' := by
  have hgc : ∀ old, grownCap W (n + m) old e ≤ maxLen := fun old => grownCap_le_maxLen W (n + m) old e h63
  have hgg : ∀ old, n + m ≤ grownCap W (n + m) old e := fun old => grownCap_ge W (n + m) old e
  rcases hv with ⟨⟨A, rfl⟩, rfl, rfl⟩ | ⟨g, cc, cur, rfl, hnc, hcm, hg, hcs, rfl⟩
  · cases A with
    | none =>
      have := run_append_nil (P := P) W t ty e i z ht hi hz ⟨k, o, none⟩ m c news hl hnews hm (by simp only [maxLen] at h63; omega) (by simp only [Nat.zero_add] at hby; omega)
      refine ⟨_, _, this, ?_⟩
      have h2 := App.grow (W := W) (e := e) (sz := i.size) (v := .slice none 0 0) (n := 0) (m := m) (olds := []) (news := news) (grownCap W m 0 e) (Builtin.zeroCells z.cells (grownCap W m 0 e - m)).toList (by have := hgg 0; simpa using this) (by have := hgc 0; simpa using this) (by simp [size_zeroCells, hzs])
      simp only [Nat.zero_add, List.nil_append] at h2
      have e1 : (news ++ (Builtin.zeroCells z.cells (grownCap W m 0 e - m)).toList).toArray = news.toArray ++ Builtin.zeroCells z.cells (grownCap W m 0 e - m) := by apply Array.ext'; simp
      rw [e1] at h2
      simpa using h2
    | some b =>
      have := run_append_grow (P := P) W t ty e i z ht hi hz b 0 0 [] (by simp) (fun j u hu => by simp at hu) ⟨k, o, none⟩ m c news hl hnews (by omega) (by simp only [maxLen] at h63; omega) (growslice_fits (by omega) hby)
      refine ⟨_, _, this, ?_⟩
      have h2 := App.grow (W := W) (e := e) (sz := i.size) (v := .slice (some b) 0 0) (n := 0) (m := m) (olds := []) (news := news) (grownCap W (0 + m) 0 e) (Builtin.zeroCells z.cells (grownCap W (0 + m) 0 e - (0 + m))).toList (hgg 0) (hgc 0) (by simp [size_zeroCells, hzs])
      have e1 : (([] : List Value) ++ news ++ (Builtin.zeroCells z.cells (grownCap W (0 + m) 0 e - (0 + m))).toList).toArray = ([] : List Value).toArray ++ news.toArray ++ Builtin.zeroCells z.cells (grownCap W (0 + m) 0 e - (0 + m)) := by apply Array.ext'; simp
      rw [e1] at h2
      exact h2
  · by_cases hroom : n + m ≤ cc
    · have hfit : n * i.size + news.length ≤ cur.size := by rw [hl, hcs, ← Nat.add_mul]; exact Nat.mul_le_mul_right _ hroom
      have := run_append_room (P := P) W t ty e i ht hi g n cc cur hg ⟨k, o, none⟩ m c news hl hnews h1 hroom hfit
      exact ⟨_, _, this, .room g cc cur rfl hroom hg⟩
    · have holds : ∀ (j : Nat) (u : Value), (cur.toList.take (n * i.size))[j]? = some u → W.cell? ((⟨g, 0, none⟩ : Addr).add j) = some u := by
        intro j u hu
        rw [List.getElem?_take] at hu
        split at hu
        · rw [add_off, Nat.zero_add, cell_row hg]; simpa using hu
        · cases hu
      have hlo : (cur.toList.take (n * i.size)).length = n * i.size := by
        rw [List.length_take, Array.length_toList, hcs]
        exact Nat.min_eq_left (Nat.mul_le_mul_right _ hnc)
      have := run_append_grow (P := P) W t ty e i z ht hi hz ⟨g, 0, none⟩ n cc _ hlo holds ⟨k, o, none⟩ m c news hl hnews (by omega) (by simp only [maxLen] at h63; omega) (growslice_fits (by omega) hby)
      refine ⟨_, _, this, ?_⟩
      have h2 := App.grow (W := W) (e := e) (sz := i.size) (v := .slice (some ⟨g, 0, none⟩) n cc) (n := n) (m := m) (olds := cur.toList.take (n * i.size)) (news := news) (grownCap W (n + m) cc e) (Builtin.zeroCells z.cells (grownCap W (n + m) cc e - (n + m))).toList (hgg cc) (hgc cc) (by simp [size_zeroCells, hzs])
      have e1 : (cur.toList.take (n * i.size) ++ news ++ (Builtin.zeroCells z.cells (grownCap W (n + m) cc e - (n + m))).toList).toArray = (cur.toList.take (n * i.size)).toArray ++ news.toArray ++ Builtin.zeroCells z.cells (grownCap W (n + m) cc e - (n + m)) := by apply Array.ext'; simp
      rw [e1] at h2
      exact h2
end
end Go.Proofs.Ytnojmocoifodjaa.Pv
set_option linter.unusedVariables false
set_option linter.unusedSimpArgs false
namespace Go.Proofs.Ytnojmocoifodjaa.Pv
open Go Go.RowKit
section
variable {P : Program} {B : Nat} {S : Stb} {β : Bta} {h : Heap} {W : World}

theorem cat_ok {sz : Nat} {es ys : List PV} {olds news rest : List Value} (hl : olds.length = es.length * sz) (hcl : ∀ (i : Nat) (x : PV), es[i]? = some x → x.cells.length = sz) (hcl2 : ∀ (i : Nat) (x : PV), ys[i]? = some x → x.cells.length = sz) (hn : news.length = ys.length * sz)
    (hold : ∀ (i : Nat) (x : PV) (j : Nat) (p : PV), es[i]? = some x → x.cells[j]? = some p → RV S W p ((olds[i * sz + j]?).getD undef))
    (hnew : ∀ (i : Nat) (x : PV) (j : Nat) (p : PV), ys[i]? = some x → x.cells[j]? = some p → RV S W p ((news[i * sz + j]?).getD undef)) :
    ∀ (i : Nat) (x : PV) (j : Nat) (p : PV), (es ++ ys)[i]? = some x → x.cells[j]? = some p → RV S W p (((olds ++ news ++ rest)[i * sz + j]?).getD undef) := by
  intro i x j p hx hp
  have h2 := (List.getElem?_eq_some_iff.1 hp).1
  rw [List.getElem?_append] at hx
  split at hx
  · rename_i hlt
    rw [hcl i x hx] at h2
    have := mul_lt hlt h2
    rw [List.append_assoc, List.getElem?_append_left (by omega)]
    exact hold i x j p hx hp
  · rename_i hge
    have h3 := (List.getElem?_eq_some_iff.1 hx).1
    rw [hcl2 _ x hx] at h2
    have h4 := mul_lt h3 h2
    have e : i * sz = es.length * sz + (i - es.length) * sz := by rw [← Nat.add_mul]; congr 1; omega
    rw [List.append_assoc, List.getElem?_append_right (by omega), List.getElem?_append_left (by omega)]
    have : i * sz + j - olds.length = (i - es.length) * sz + j := by omega
    rw [this]
    exact hnew _ x j p hx hp

theorem below_setRow {k : Nat} (hB : B ≤ k) (C : Array Value) : Below B W (W.setRow k C) := ⟨rfl, rfl, rfl, by simp, fun i hi => setRow_other W k i C (by omega)⟩
theorem below_drew_alloc (hB : B ≤ W.heap.size) (o : Obj) : Below B W (W.drew.alloc o) := ((Below.refl B W).drew).alloc (by simpa using hB) o

/-- An append to a row of the frame, of one element or more. -/
theorem app_row (H : HRel B S β h W) (hB : B ≤ W.heap.size) {b : Nat} {e : TypeId} {sz : Nat} {es ys : List PV} {mm : Bool} (hb : h b = some (.row e sz es mm)) {v : Value} (hcur : Cur W β b sz es.length v) {olds news : List Value}
    (hol : ((∃ A, v = .slice A 0 0) ∧ es.length = 0 ∧ olds = []) ∨ ∃ k c cur, v = .slice (some ⟨k, 0, none⟩) es.length c ∧ es.length ≤ c ∧ c ≤ maxLen ∧ W.heap[k]? = some (.cells cur e (0, 0)) ∧ cur.size = c * sz ∧ olds = cur.toList.take (es.length * sz))
    (hm : 0 < ys.length) (hmx : es.length + ys.length ≤ maxLen) (hcl2 : ∀ (i : Nat) (x : PV), ys[i]? = some x → x.cells.length = sz) (hn : news.length = ys.length * sz)
    (hnew : ∀ (i : Nat) (x : PV) (j : Nat) (p : PV), ys[i]? = some x → x.cells[j]? = some p → RV S W p ((news[i * sz + j]?).getD undef))
    {v' : Value} {W' : World} (ha : App W e sz v es.length ys.length olds news v' W') :
    ∃ β', HRel B S β' (hupd h b (.row e sz (es ++ ys) mm)) W' ∧ Evo S S W W' β β' h (hupd h b (.row e sz (es ++ ys) mm)) ∧ RA S W' β' (hupd h b (.row e sz (es ++ ys) mm)) (.ref b (es.length + ys.length)) v' ∧ Below B W W' := by
  obtain ⟨hsz, hcl, hrow⟩ := H.blk _ _ hb
  have hlcat : (es ++ ys).length = es.length + ys.length := List.length_append
  have hcs : ∀ (i : Nat) (x : PV), (es ++ ys)[i]? = some x → x.cells.length = sz := by
    intro i x hx
    rw [List.getElem?_append] at hx
    split at hx
    · exact hcl i x hx
    · exact hcl2 _ x hx
  have hold : olds.length = es.length * sz ∧ ∀ (i : Nat) (x : PV) (j : Nat) (p : PV), es[i]? = some x → x.cells[j]? = some p → RV S W p ((olds[i * sz + j]?).getD undef) := by
    rcases hol with ⟨h1, h2, rfl⟩ | ⟨k, c, cur, h1, h2, h3, h4, h5, rfl⟩
    · have : es = [] := List.eq_nil_of_length_eq_zero h2
      subst this
      exact ⟨by simp, fun i x j p hx => by simp at hx⟩
    · have h5' : cur.toList.length = c * sz := by simpa using h5
      refine ⟨by rw [List.length_take, h5']; exact Nat.min_eq_left (Nat.mul_le_mul_right _ h2), fun i x j p hx hp => ?_⟩
      have a1 := (List.getElem?_eq_some_iff.1 hx).1
      have a2 := (List.getElem?_eq_some_iff.1 hp).1
      rw [hcl i x hx] at a2
      have a3 := mul_lt a1 a2
      rw [List.getElem?_take_of_lt a3]
      rcases hcur with ⟨_, g2, _⟩ | ⟨k', c', cur', e2, g1, g2, g3, g4, g5, g6⟩
      · omega
      · rw [h1] at g2; cases g2
        rcases hrow with ⟨g7, _⟩ | ⟨k'', cur'', g7, g8, g9, g10⟩
        · rw [g1] at g7; cases g7
        · rw [g1] at g7; cases g7
          rw [h4] at g8; cases g8
          have := g10 i x j p hx hp
          rwa [getD_toList] at this
  cases ha with
  | room k c cur hv hc h0 =>
    have hk : β b = some k := by
      rcases hcur with ⟨_, _, g2⟩ | ⟨k', c', cur', e2, g1, g2, g3, g4, g5, g6⟩
      · obtain ⟨A, g2⟩ := g2
        rw [hv] at g2
        injection g2 with _ _ g3
        omega
      · rw [hv] at g2; cases g2; exact g1
    have hol' : olds = cur.toList.take (es.length * sz) ∧ cur.size = c * sz ∧ c ≤ maxLen := by
      rcases hol with ⟨h1, _⟩ | ⟨k', c', cur', h1, h2, h3, h4, h5, h6⟩
      · obtain ⟨A, h1⟩ := h1
        rw [hv] at h1
        injection h1 with _ _ g3
        omega
      · rw [hv] at h1; cases h1
        rw [h0] at h4; cases h4
        exact ⟨h6, h5, h3⟩
    obtain ⟨ho1, ho2, ho3⟩ := hol'
    have hroom : (es.length + ys.length) * sz ≤ cur.size := by rw [ho2]; exact Nat.mul_le_mul_right _ hc
    have hstay : Stay S S W (W.setRow k (cur.toList.take (es.length * sz) ++ news ++ cur.toList.drop (es.length * sz + news.length)).toArray) := by
      refine ⟨fun _ _ h => h, fun g o hs => ?_⟩
      by_cases hg : g = k
      · subst hg
        have hlt := (H.sinv b _ g o hb hk hs).2
        simp only [Blk.known] at hlt
        rw [cell_setRow_same W g o cur _ e (0, 0) h0, cell_row h0]
        simp only [List.getElem?_toArray, List.append_assoc]
        have hlt2 : o < (cur.toList.take (es.length * sz)).length := by
          have hcz : cur.toList.length = cur.size := by simp
          rw [List.length_take, hcz, Nat.lt_min]
          rw [Nat.add_mul] at hroom
          omega
        rw [List.getElem?_append_left hlt2, List.getElem?_take_of_lt hlt]
        simp
      · exact cell_setRow_other W k _ ⟨g, o, none⟩ hg
    have hsizeC : (cur.toList.take (es.length * sz) ++ news ++ cur.toList.drop (es.length * sz + news.length)).toArray.size = cur.size := by
      rw [Nat.add_mul] at hroom
      simp only [List.size_toArray, List.length_append, List.length_take, List.length_drop, Array.length_toList]
      omega
    obtain ⟨h1, h2⟩ := HRel.setRow (es' := es ++ ys) (W' := W.setRow k (cur.toList.take (es.length * sz) ++ news ++ cur.toList.drop (es.length * sz + news.length)).toArray) H hb (some k) hstay (by simp)
      (fun i hi _ _ => setRow_other W k i _ (by rintro rfl; exact hi hk)) (by omega)
      (by
        rintro g hg; cases hg
        exact ⟨H.fresh b k (by simp [hb]) hk, fun i hi hi2 he => hi (H.inj i b k hi2 (by simp [hb]) he hk), fun o ho => by
          have := H.sinv b _ k o hb hk ho
          simp only [Blk.mut, Blk.known] at this
          refine ⟨this.1, ?_⟩
          rw [hlcat, Nat.add_mul]; omega⟩)
      (fun hh => by omega) hcs
      (.inr ⟨k, _, rfl, setRow_heap W k cur _ e (0, 0) h0, by rw [hsizeC, hlcat]; exact hroom, fun i x j p hx hp => by
        rw [getD_toList]
        have := (cat_ok (rest := cur.toList.drop (es.length * sz + news.length)) hold.1 hcl hcl2 hn hold.2 hnew i x j p hx hp).stay hstay
        rw [ho1] at this
        simpa using this⟩)
    refine ⟨_, h1, h2, ?_, below_setRow (H.fresh b k (by simp [hb]) hk) _⟩
    refine .ref (hupd_self _ _ _) (by omega) ⟨_, _, rfl, hc, ho3⟩ (fun _ => .inr ⟨k, c, _, e, bupd_self _ _ _, rfl, hc, ho3, setRow_heap W k cur _ e (0, 0) h0, by rw [hsizeC, ho2]⟩)
  | grow c rest hc hmc hr =>
    have hbel : Below W.heap.size W (W.drew.alloc (.cells (olds ++ news ++ rest).toArray e)) := below_drew_alloc (Nat.le_refl _) _
    have hstay : Stay S S W (W.drew.alloc (.cells (olds ++ news ++ rest).toArray e)) := Stay.below hbel H.bnd
    have hheap : (W.drew.alloc (.cells (olds ++ news ++ rest).toArray e)).heap[W.heap.size]? = some (.cells (olds ++ news ++ rest).toArray e (0, 0)) := heap_alloc_new W.drew _
    have hsizeC : (olds ++ news ++ rest).toArray.size = c * sz := by
      simp only [List.size_toArray, List.length_append, hold.1, hn, hr, ← Nat.add_mul]
      congr 1; omega
    obtain ⟨h1, h2⟩ := HRel.setRow (es' := es ++ ys) (W' := W.drew.alloc (.cells (olds ++ news ++ rest).toArray e)) H hb (some W.heap.size) hstay hbel.size
      (fun i _ _ hi => hbel.block i hi) (by omega)
      (by
        rintro g hg; cases hg
        refine ⟨hB, fun i _ hi2 he => absurd (H.lt hi2 he) (Nat.lt_irrefl _), fun o ho => absurd (H.bnd _ _ ho) (Nat.lt_irrefl _)⟩)
      (fun hh => by omega) hcs
      (.inr ⟨W.heap.size, _, rfl, hheap, by rw [hsizeC, hlcat]; exact Nat.mul_le_mul_right _ hc, fun i x j p hx hp => by
        rw [getD_toList]
        have := (cat_ok (rest := rest) hold.1 hcl hcl2 hn hold.2 hnew i x j p hx hp).stay hstay
        simpa using this⟩)
    refine ⟨_, h1, h2, ?_, below_drew_alloc hB _⟩
    refine .ref (hupd_self _ _ _) (by omega) ⟨_, _, rfl, hc, hmc⟩ (fun _ => .inr ⟨W.heap.size, c, _, e, bupd_self _ _ _, rfl, hc, hmc, hheap, hsizeC⟩)

theorem info_zero {e : TypeId} {i : TypeInfo} {n : Nat} (hz : (i.zero.map fun z => z.cells.size) = some n) : ∃ z, i.zero = some z ∧ z.cells.size = n := by
  cases hi : i.zero with
  | none => simp [hi] at hz
  | some z => simp [hi] at hz; exact ⟨z, rfl, hz⟩

theorem hupd_same {h : Heap} {b : Nat} {x : Blk} (hb : h b = some x) : hupd h b x = h := by
  funext i; by_cases hi : i = b
  · subst hi; simp [hb]
  · rw [hupd_ne _ _ hi]

theorem ok_app (H : HRel B S β h W) (hB : B ≤ W.heap.size) {d : Nat} {s : Slots} {ρ : Operand → Value} (Hs : Sl S β h W s ρ) {t ty e : TypeId} {i : TypeInfo} (ht : P.underlying t = some (.slice e)) (hi : P.info? e = some i) (hz : (i.zero.map fun z => z.cells.size) = some i.size) (hi0 : 0 < i.size)
    {x y : Operand} {x' y' : Opd} (hx : opd x = some x') (hy : opd y = some y') {o : Out} (hs : sem (.app e i.size i.bytes x' y') d s h = some o) :
    Fine P B S β h W ((do let v ← Builtin.append_ #[t, t] ty #[ρ x, ρ y]; pure (.value v) : Sem Next).run P W) o := by
  have hX := Hs.opd hx
  have hY := Hs.opd hy
  obtain ⟨z, hzz, hzs⟩ := info_zero (e := e) hz
  simp only [sem] at hs
  split at hs
  · rename_i ys rs hl
    split at hs
    · rename_i hok
      have hYv := listOf_ok H hY hl rs (fun _ h => h)
      have H1 := H.frz rs
      have E1 := Evo.frz S W β h rs
      have hX1 := hX.evo E1 H.blk
      have hcl2 : ∀ (i' : Nat) (x : PV), ys[i']? = some x → x.cells.length = i.size := fun i' x hx => okc_len (all_get hok hx)
      split at hs
      · -- a row of the frame's own
        rename_i b n heq
        cases hr : rowOf h b with
        | none => simp [hr] at hs
        | some tr =>
          obtain ⟨e', sz', es⟩ := tr
          simp only [hr] at hs
          split at hs
          · rename_i hcond
            obtain ⟨hn, he', hsz', hbrs, hbytes, hmax⟩ := hcond
            subst he'; subst hsz'; subst hn
            cases hs
            obtain ⟨mm, hb⟩ := rowOf_some hr
            have hb1 : hfrz h rs b = some (.row e' i.size es mm) := by rw [hfrz_of hb, if_neg hbrs]
            rw [heq] at hX1
            have hcur : Cur W β b i.size es.length (ρ x) := RA.ref_cases hX1 (e := e') (es := es) (by simp [rowOf, hb1]) rfl
            have hheap : Out.heap { v := AV.ref b (es.length + ys.length), rd := b :: rs, up := [Upd.frz rs, Upd.row b (es ++ ys)] } h = hupd (hfrz h rs) b (.row e' i.size (es ++ ys) mm) := by
              simp [Out.heap, Upd.ap, hb1]
            by_cases hy0 : ys = []
            · subst hy0
              obtain ⟨A, n, c, hvx, hnc⟩ : ∃ A n c, ρ x = .slice A n c ∧ n ≤ c := by
                rcases hcur with ⟨_, _, A0, h3⟩ | ⟨k, c, cur, e2, _, h3, h4, _⟩
                · exact ⟨_, _, _, h3, Nat.le_refl _⟩
                · exact ⟨_, _, _, h3, h4⟩
              obtain ⟨A', c', hvy⟩ : ∃ A' c', ρ y = .slice A' 0 c' := by
                generalize ρ y = vy at hYv ⊢
                cases hYv with
                | view0 A c => exact ⟨_, _, rfl⟩
                | view _ k o sz c u a1 a2 a3 a4 a5 a6 => exact ⟨_, _, rfl⟩
              have hrun := run_append_zero (P := P) (W := W) (ty := ty) ht hi A A' n c c' hnc
              rw [← hvx, ← hvy] at hrun
              refine ⟨_, ρ x, W, sfrz S β h rs, β, run_val hrun, .inl rfl, ?_, ?_, ?_, Below.refl _ _, H.dn rs⟩
              · rw [hheap, List.append_nil, hupd_same hb1]; exact H1
              · rw [hheap, List.append_nil, hupd_same hb1]; exact E1
              · rw [hheap, List.append_nil, hupd_same hb1]; simpa using hX1
            · obtain ⟨k, o, c, news, hvy, h3, h4, h5, h6, h7, h8⟩ := news_of hi0 hok hYv hy0
              have hlen : 0 < ys.length := List.length_pos_iff.2 hy0
              have hol : ∃ olds, ((∃ A, ρ x = .slice A 0 0) ∧ es.length = 0 ∧ olds = []) ∨ ∃ k c cur, ρ x = .slice (some ⟨k, 0, none⟩) es.length c ∧ es.length ≤ c ∧ c ≤ maxLen ∧ W.heap[k]? = some (.cells cur e' (0, 0)) ∧ cur.size = c * i.size ∧ olds = cur.toList.take (es.length * i.size) := by
                rcases hcur with ⟨_, g2, g3⟩ | ⟨k', c', cur', e2, g1, g2, g3, g4, g5, g6⟩
                · exact ⟨[], .inl ⟨g3, g2, rfl⟩⟩
                · rcases (H1.blk _ _ hb1).2.2 with ⟨g7, _⟩ | ⟨k'', cur'', g7, g8, _⟩
                  · rw [g1] at g7; cases g7
                  · rw [g1] at g7; cases g7
                    rw [g5] at g8; cases g8
                    exact ⟨_, .inr ⟨k', c', cur', g2, g3, g4, g5, g6, rfl⟩⟩
              obtain ⟨olds, hol⟩ := hol
              obtain ⟨v', W', hrun, happ⟩ := run_app (P := P) (ty := ty) ht hi hzz hzs hol hlen h5 h6 h7 hmax hbytes
              rw [← hvy] at hrun
              obtain ⟨β', b1, b2, b3, b4⟩ := app_row H1 hB hb1 hcur hol hlen hmax hcl2 h5 h8 happ
              refine ⟨_, v', W', sfrz S β h rs, β', run_val hrun, .inl rfl, ?_, ?_, ?_, b4, H.dn rs⟩
              · rw [hheap]; exact b1
              · rw [hheap]; exact E1.trans b2
              · rw [hheap]; exact b3
          · cases hs
      · -- nil: a new row
        rename_i heq
        split at hs
        · cases hs
        · rename_i hcond
          cases hs
          have hd : h d = none := by
            cases hh : h d with
            | none => rfl
            | some _ => simp [hh] at hcond
          have hbytes : ys.length * i.bytes ≤ 140737488355328 := by
            rcases Nat.lt_or_ge 140737488355328 (ys.length * i.bytes) with h1 | h1
            · exact absurd (Or.inr (Or.inl (by omega))) hcond
            · exact h1
          have hmax : ys.length ≤ maxLen := by
            rcases Nat.lt_or_ge maxLen ys.length with h1 | h1
            · exact absurd (Or.inr (Or.inr (by omega))) hcond
            · exact h1
          have hd1 : hfrz h rs d = none := by simp [hfrz, hd]
          obtain ⟨A0, hvx⟩ : ∃ A, ρ x = .slice A 0 0 := by
            rw [heq] at hX
            generalize ρ x = vx at hX ⊢
            cases hX with | pv hp => cases hp; exact ⟨_, rfl⟩
          have hheap : Out.heap { v := AV.ref d ys.length, rd := rs, up := [Upd.frz rs, Upd.new d (.row e i.size ys true)] } h = hupd (hfrz h rs) d (.row e i.size ys true) := by
            simp [Out.heap, Upd.ap]
          -- first an empty row, then the append
          have hrow0 : BlkRel (sfrz S β h rs) W (bupd β d none) (hupd (hfrz h rs) d (.row e i.size [] true)) d (.row e i.size [] true) :=
            ⟨hi0, fun i x hx => by simp at hx, .inl ⟨bupd_self _ _ _, rfl⟩⟩
          have H2 := H1.attach hd1 hrow0 (fun g hg => by cases hg)
          have E2 := Evo.attach (S := sfrz S β h rs) (W := W) (β := β) hd1 none (.row e i.size [] true)
          have hb2 : hupd (hfrz h rs) d (.row e i.size [] true) d = some (.row e i.size [] true) := hupd_self _ _ _
          have hcur : Cur W (bupd β d none) d i.size 0 (ρ x) := .inl ⟨bupd_self _ _ _, rfl, A0, hvx⟩
          have hup : hupd (hupd (hfrz h rs) d (.row e i.size [] true)) d (.row e i.size ys true) = hupd (hfrz h rs) d (.row e i.size ys true) := by
            funext q; by_cases hq : q = d
            · subst hq; simp
            · simp [hupd_ne _ _ hq]
          by_cases hy0 : ys = []
          · subst hy0
            obtain ⟨A', c', hvy⟩ : ∃ A' c', ρ y = .slice A' 0 c' := by
              generalize ρ y = vy at hYv ⊢
              cases hYv with
              | view0 A c => exact ⟨_, _, rfl⟩
              | view _ k o sz c u a1 a2 a3 a4 a5 a6 => exact ⟨_, _, rfl⟩
            have hrun := run_append_zero (P := P) (W := W) (ty := ty) ht hi A0 A' 0 0 c' (Nat.le_refl _)
            rw [← hvx, ← hvy] at hrun
            refine ⟨_, ρ x, W, sfrz S β h rs, bupd β d none, run_val hrun, .inl rfl, ?_, ?_, ?_, Below.refl _ _, H.dn rs⟩
            · rw [hheap]; exact H2
            · rw [hheap]; exact E1.trans E2
            · rw [hheap]
              exact .ref (hupd_self _ _ _) (Nat.le_refl _) ⟨A0, 0, hvx, Nat.le_refl _, Nat.zero_le _⟩ (fun _ => hcur)
          · obtain ⟨k, o, c, news, hvy, h3, h4, h5, h6, h7, h8⟩ := news_of hi0 hok hYv hy0
            have hlen : 0 < ys.length := List.length_pos_iff.2 hy0
            have hol : ((∃ A, ρ x = .slice A 0 0) ∧ (0 : Nat) = 0 ∧ ([] : List Value) = []) ∨ ∃ k c cur, ρ x = .slice (some ⟨k, 0, none⟩) 0 c ∧ 0 ≤ c ∧ c ≤ maxLen ∧ W.heap[k]? = some (.cells cur e (0, 0)) ∧ cur.size = c * i.size ∧ ([] : List Value) = cur.toList.take (0 * i.size) := .inl ⟨⟨A0, hvx⟩, rfl, rfl⟩
            obtain ⟨v', W', hrun, happ⟩ := run_app (P := P) (ty := ty) (n := 0) ht hi hzz hzs hol hlen h5 h6 h7 (by omega) (by rw [Nat.zero_add]; exact hbytes)
            rw [← hvy] at hrun
            obtain ⟨β', b1, b2, b3, b4⟩ := app_row (es := []) (ys := ys) H2 hB hb2 hcur hol hlen (by simpa using hmax) hcl2 h5 h8 happ
            simp only [List.nil_append, List.length_nil, Nat.zero_add, hup] at b1 b2 b3
            refine ⟨_, v', W', sfrz S β h rs, β', run_val hrun, .inl rfl, ?_, ?_, ?_, b4, H.dn rs⟩
            · rw [hheap]; exact b1
            · rw [hheap]; exact (E1.trans E2).trans b2
            · rw [hheap]; exact b3
      · -- no room: a new row
        rename_i heq
        split at hs
        · cases hs
        · rename_i hcond
          cases hs
          have hd : h d = none := by
            cases hh : h d with
            | none => rfl
            | some _ => simp [hh] at hcond
          have hbytes : ys.length * i.bytes ≤ 140737488355328 := by
            rcases Nat.lt_or_ge 140737488355328 (ys.length * i.bytes) with h1 | h1
            · exact absurd (Or.inr (Or.inl (by omega))) hcond
            · exact h1
          have hmax : ys.length ≤ maxLen := by
            rcases Nat.lt_or_ge maxLen ys.length with h1 | h1
            · exact absurd (Or.inr (Or.inr (by omega))) hcond
            · exact h1
          have hd1 : hfrz h rs d = none := by simp [hfrz, hd]
          obtain ⟨A0, hvx⟩ : ∃ A, ρ x = .slice A 0 0 := by
            rw [heq] at hX
            generalize ρ x = vx at hX ⊢
            cases hX with | pv hp => cases hp; exact ⟨_, rfl⟩
          have hheap : Out.heap { v := AV.ref d ys.length, rd := rs, up := [Upd.frz rs, Upd.new d (.row e i.size ys true)] } h = hupd (hfrz h rs) d (.row e i.size ys true) := by
            simp [Out.heap, Upd.ap]
          -- first an empty row, then the append
          have hrow0 : BlkRel (sfrz S β h rs) W (bupd β d none) (hupd (hfrz h rs) d (.row e i.size [] true)) d (.row e i.size [] true) :=
            ⟨hi0, fun i x hx => by simp at hx, .inl ⟨bupd_self _ _ _, rfl⟩⟩
          have H2 := H1.attach hd1 hrow0 (fun g hg => by cases hg)
          have E2 := Evo.attach (S := sfrz S β h rs) (W := W) (β := β) hd1 none (.row e i.size [] true)
          have hb2 : hupd (hfrz h rs) d (.row e i.size [] true) d = some (.row e i.size [] true) := hupd_self _ _ _
          have hcur : Cur W (bupd β d none) d i.size 0 (ρ x) := .inl ⟨bupd_self _ _ _, rfl, A0, hvx⟩
          have hup : hupd (hupd (hfrz h rs) d (.row e i.size [] true)) d (.row e i.size ys true) = hupd (hfrz h rs) d (.row e i.size ys true) := by
            funext q; by_cases hq : q = d
            · subst hq; simp
            · simp [hupd_ne _ _ hq]
          by_cases hy0 : ys = []
          · subst hy0
            obtain ⟨A', c', hvy⟩ : ∃ A' c', ρ y = .slice A' 0 c' := by
              generalize ρ y = vy at hYv ⊢
              cases hYv with
              | view0 A c => exact ⟨_, _, rfl⟩
              | view _ k o sz c u a1 a2 a3 a4 a5 a6 => exact ⟨_, _, rfl⟩
            have hrun := run_append_zero (P := P) (W := W) (ty := ty) ht hi A0 A' 0 0 c' (Nat.le_refl _)
            rw [← hvx, ← hvy] at hrun
            refine ⟨_, ρ x, W, sfrz S β h rs, bupd β d none, run_val hrun, .inl rfl, ?_, ?_, ?_, Below.refl _ _, H.dn rs⟩
            · rw [hheap]; exact H2
            · rw [hheap]; exact E1.trans E2
            · rw [hheap]
              exact .ref (hupd_self _ _ _) (Nat.le_refl _) ⟨A0, 0, hvx, Nat.le_refl _, Nat.zero_le _⟩ (fun _ => hcur)
          · obtain ⟨k, o, c, news, hvy, h3, h4, h5, h6, h7, h8⟩ := news_of hi0 hok hYv hy0
            have hlen : 0 < ys.length := List.length_pos_iff.2 hy0
            have hol : ((∃ A, ρ x = .slice A 0 0) ∧ (0 : Nat) = 0 ∧ ([] : List Value) = []) ∨ ∃ k c cur, ρ x = .slice (some ⟨k, 0, none⟩) 0 c ∧ 0 ≤ c ∧ c ≤ maxLen ∧ W.heap[k]? = some (.cells cur e (0, 0)) ∧ cur.size = c * i.size ∧ ([] : List Value) = cur.toList.take (0 * i.size) := .inl ⟨⟨A0, hvx⟩, rfl, rfl⟩
            obtain ⟨v', W', hrun, happ⟩ := run_app (P := P) (ty := ty) (n := 0) ht hi hzz hzs hol hlen h5 h6 h7 (by omega) (by rw [Nat.zero_add]; exact hbytes)
            rw [← hvy] at hrun
            obtain ⟨β', b1, b2, b3, b4⟩ := app_row (es := []) (ys := ys) H2 hB hb2 hcur hol hlen (by simpa using hmax) hcl2 h5 h8 happ
            simp only [List.nil_append, List.length_nil, Nat.zero_add, hup] at b1 b2 b3
            refine ⟨_, v', W', sfrz S β h rs, β', run_val hrun, .inl rfl, ?_, ?_, ?_, b4, H.dn rs⟩
            · rw [hheap]; exact b1
            · rw [hheap]; exact (E1.trans E2).trans b2
            · rw [hheap]; exact b3
      · cases hs
    · cases hs
  · cases hs
end
end Go.Proofs.Ytnojmocoifodjaa.Pv
set_option linter.unusedVariables false
set_option linter.unusedSimpArgs false
namespace Go.Proofs.Ytnojmocoifodjaa.Pv
open Go Go.RowKit
section
variable {P : Program} {B : Nat} {S : Stb} {β : Bta} {h : Heap} {W : World}

/-! #### a store -/
theorem run_storeAt {t : TypeId} {n : Nat} (hn : szOf P t = some n) {k o : Nat} {v : Value} {cur : Array Value} {e : TypeId} (h0 : W.heap[k]? = some (.cells cur e (0, 0))) (hl : v.cells.size = n) (hfit : o + n ≤ cur.size) (h1 : ∀ u, u ∈ v.cells.toList → u.oneCell' = true) :
    (do Instr.storeAt t (.pointer (some ⟨k, o, none⟩)) v; pure .skip : Sem Next).run P W = .ok .skip (W.setRow k (putCells cur.toList o v.cells.toList).toArray) := by
  unfold szOf at hn
  cases hi : P.info? t with
  | none => simp [hi] at hn
  | some i =>
    simp [hi] at hn
    have := run_storeCells_at P k o e v.cells.toList 0 cur W h0 (by simp; omega) h1
    simp only [Nat.add_zero] at this
    simp [Instr.storeAt, Instr.sureAddr, storeVar, Go.sizeOf, typeInfo, hi, hl, hn, this, putCells]
theorem put_setRow {k : Nat} {cur C : Array Value} {e : TypeId} (h0 : W.heap[k]? = some (.cells cur e (0, 0))) : Put W (W.setRow k C) k C e :=
  ⟨⟨rfl, rfl, rfl, by simp, fun i hi => setRow_other W k i C (by omega)⟩, fun i hi => setRow_other W k i C hi, setRow_heap W k cur C e (0, 0) h0⟩
theorem mutOf_true {b : Nat} (hm : mutOf h b = true) {cs : List AV} {m : Bool} (hb : h b = some (.box cs m)) : m = true := by
  simp [mutOf, hb, Blk.mut] at hm; exact hm
theorem mutOf_row {b : Nat} (hm : mutOf h b = true) {e : TypeId} {sz : Nat} {es : List PV} {m : Bool} (hb : h b = some (.row e sz es m)) : m = true := by
  simp [mutOf, hb, Blk.mut] at hm; exact hm
theorem all_one {x : AV} (hx : x.cells.all AV.one = true) : x.solid = true := by
  cases x with
  | pv p => cases p <;> first | rfl | simp [AV.cells, PV.cells, AV.one, PV.one] at hx
  | _ => rfl
theorem one_of_cells {x : AV} {v : Value} (hx : RA S W β h x v) (ha : x.cells.all AV.one = true) : ∀ u, u ∈ v.cells.toList → u.oneCell' = true := by
  obtain ⟨h1, h2⟩ := hx.cells (RA.solid (all_one ha))
  intro u hu
  obtain ⟨i, hi⟩ := List.mem_iff_getElem?.1 hu
  have hlt := (List.getElem?_eq_some_iff.1 hi).1
  have hc : x.cells[i]? = some (x.cells[i]'(by simp at hlt; omega)) := List.getElem?_eq_getElem _
  have := (h2 i _ hc).one (all_get ha hc)
  rw [getD_toList, hi] at this
  exact this
theorem one_cells {p : PV} (hp : p.one = true) : p.cells = [p] := by
  cases p <;> first | rfl | simp [PV.one] at hp

theorem withCells_cells {e : PV} {off : Nat} {xs : List PV} (h0 : 0 < xs.length) (hfit : off + xs.length ≤ e.cells.length) (hone : xs.all PV.one = true) : (e.withCells (putCells e.cells off xs)).cells = putCells e.cells off xs := by
  have hlen := putCells_length e.cells xs off hfit
  have key : e.cells = [e] → e.withCells (putCells e.cells off xs) = (putCells e.cells off xs).headD .junk → (e.withCells (putCells e.cells off xs)).cells = putCells e.cells off xs := by
    intro h1 h2
    rw [h1] at hfit hlen
    simp at hfit hlen
    obtain ⟨q, hq⟩ := List.length_eq_one_iff.1 hlen
    have hoff : off = 0 := by omega
    subst hoff
    have hq0 : (putCells e.cells 0 xs)[0]? = some q := by rw [h1, hq]; rfl
    rw [putCells_get _ _ _ (by rw [h1]; simp; omega), if_neg (by omega), if_pos (by omega)] at hq0
    rw [h2, h1, hq]
    exact one_cells (all_get hone hq0)
  cases e with
  | agg l => rfl
  | _ => exact key rfl rfl
theorem ok_store (H : HRel B S β h W) (hB : B ≤ W.heap.size) {d : Nat} {s : Slots} {ρ : Operand → Value} (Hs : Sl S β h W s ρ) {t : TypeId} {n : Nat} (hn : szOf P t = some n) {x y : Operand} {x' y' : Opd} (hx : opd x = some x') (hy : opd y = some y') {o : Out} (hs : sem (.store n x' y') d s h = some o) :
    Fine P B S β h W ((do Instr.storeAt t (ρ x) (ρ y); pure .skip : Sem Next).run P W) o := by
  have hX := Hs.opd hx
  have hY := Hs.opd hy
  simp only [sem] at hs
  split at hs
  · -- into a box
    rename_i b off heq
    obtain ⟨k, cs0, m0, hv, hk, hbox⟩ := ptr_of hX heq
    cases hb : boxOf h b with
    | none => simp [hb] at hs
    | some cs =>
      obtain ⟨m, hbb⟩ := boxOf_some hb
      have hcs : cs0 = cs := by rw [hbox] at hbb; cases hbb; rfl
      subst hcs
      simp only [hb] at hs
      split at hs
      · rename_i hcond
        obtain ⟨hmut, hlen, hfit, hone⟩ := hcond
        cases hs
        have hm := mutOf_true hmut hbox
        subst hm
        obtain ⟨k', cur, e, h1, h2, h3, h4⟩ := H.blk _ _ hbox
        rw [hk] at h1; cases h1
        obtain ⟨h5, h6⟩ := hY.cells (RA.solid (all_one hone))
        have hrun := run_storeAt (P := P) (v := ρ y) hn h2 (o := off) (by omega) (by omega) (one_of_cells hY hone)
        have hlp : (putCells cs0 off (ev s y').cells).length = cs0.length := putCells_length _ _ _ (by omega)
        have hlp2 : (putCells cur.toList off (ρ y).cells.toList).length = cur.size := by rw [putCells_length _ _ _ (by simp; omega)]; simp
        obtain ⟨b1, b2⟩ := HRel.setBox (cs' := putCells cs0 off (ev s y').cells) (cur' := (putCells cur.toList off (ρ y).cells.toList).toArray) H hbox hk h2 (put_setRow h2) hlp (by simp only [List.size_toArray]; omega) (by
          intro j c hj
          rw [getD_toList]
          simp only []
          exact put_ok (cs := cs0) (cur := cur.toList) (by simp; omega) (by simp; omega) (by omega) (fun i c hi => by rw [← getD_toList]; exact h4 i c hi) (fun i c hi => by rw [← getD_toList]; exact h6 i c hi) j c hj)
        have hheap : Out.heap { v := AV.pv PV.junk, rd := [b], up := [Upd.box b (putCells cs0 off (ev s y').cells)] } h = hupd h b (.box (putCells cs0 off (ev s y').cells) true) := by
          simp [Out.heap, Upd.ap, hbox]
        rw [hv]
        refine ⟨_, undef, _, S, β, hrun, .inr ⟨rfl, rfl⟩, ?_, ?_, .pv (.junk _), below_setRow (H.fresh b k (by simp [hbox]) hk) _, fun _ _ _ h => h⟩
        · rw [hheap]; exact b1
        · rw [hheap]; exact b2
      · cases hs
  · -- into a row
    rename_i b m i off heq
    cases hr : rowOf h b with
    | none => simp [hr] at hs
    | some tr =>
      obtain ⟨e', sz, es⟩ := tr
      cases hf : frz1 h (ev s y') with
      | none => simp [hr, hf] at hs
      | some pr =>
        obtain ⟨p, rs⟩ := pr
        simp only [hr, hf] at hs
        split at hs
        · rename_i hcond
          obtain ⟨hm, hmut, hbrs⟩ := hcond
          split at hs
          · rename_i el hel
            split at hs
            · rename_i hcond2
              obtain ⟨hlen, hn0, hfit, hone⟩ := hcond2
              cases hs
              obtain ⟨k, hk, hv⟩ := eptr_of hX heq hr hm
              obtain ⟨mm, hbb⟩ := rowOf_some hr
              have hmt := mutOf_row hmut hbb
              subst hmt
              have hP := frz1_ok H hY hf rs (fun _ h => h)
              have H1 := H.frz rs
              have E1 := Evo.frz S W β h rs
              have hb1 : hfrz h rs b = some (.row e' sz es true) := by rw [hfrz_of hbb, if_neg hbrs]
              obtain ⟨hsz, hcl, hrow⟩ := H1.blk _ _ hb1
              rcases hrow with ⟨g1, _⟩ | ⟨k', cur, g1, g2, g3, g4⟩
              · rw [hk] at g1; cases g1
              · rw [hk] at g1; cases g1
                have hpone : (AV.pv p).cells.all AV.one = true := by
                  simp only [AV.cells, List.all_map]
                  exact hone
                obtain ⟨h5, h6⟩ := (RA.pv (β := β) (h := hfrz h rs) hP).cells (RA.solid (all_one hpone))
                have h5' : p.cells.length = (ρ y).cells.size := by simpa [AV.cells] using h5
                have hil := (List.getElem?_eq_some_iff.1 hel).1
                have hel' := hcl i el hel
                have hfit2 : i * sz + off + n ≤ cur.size := by
                  have : (i + 1) * sz ≤ es.length * sz := Nat.mul_le_mul_right _ hil
                  rw [Nat.succ_mul] at this
                  omega
                have hrun := run_storeAt (P := P) (v := ρ y) hn g2 (o := i * sz + off) (by omega) hfit2 (one_of_cells (RA.pv (β := β) (h := hfrz h rs) hP) hpone)
                have hnoS : ∀ o, ¬ sfrz S β h rs k o := fun o ho => by have := (H1.sinv b _ k o hb1 hk ho).1; simp [Blk.mut] at this
                have hlp2 : (putCells cur.toList (i * sz + off) (ρ y).cells.toList).length = cur.size := by rw [putCells_length _ _ _ (by simp; omega)]; simp
                have hst : Stay (sfrz S β h rs) (sfrz S β h rs) W (W.setRow k (putCells cur.toList (i * sz + off) (ρ y).cells.toList).toArray) := Stay.put (put_setRow g2) (fun o ho => absurd ho (hnoS o))
                have hnewel := withCells_cells (e := el) (off := off) (xs := p.cells) (by omega) (by omega) hone
                have hlenset : (es.set i (el.withCells (putCells el.cells off p.cells))).length = es.length := List.length_set
                have hgetset : ∀ (q : Nat) (x : PV), (es.set i (el.withCells (putCells el.cells off p.cells)))[q]? = some x → (q = i ∧ x = el.withCells (putCells el.cells off p.cells)) ∨ (q ≠ i ∧ es[q]? = some x) := by
                  intro q x hq
                  rw [List.getElem?_set] at hq
                  by_cases hqi : i = q
                  · subst hqi
                    rw [if_pos rfl, if_pos hil] at hq
                    cases hq
                    exact .inl ⟨rfl, rfl⟩
                  · rw [if_neg hqi] at hq
                    exact .inr ⟨fun e => hqi e.symm, hq⟩
                have hcl' : ∀ (q : Nat) (x : PV), (es.set i (el.withCells (putCells el.cells off p.cells)))[q]? = some x → x.cells.length = sz := by
                  intro q x hq
                  rcases hgetset q x hq with ⟨_, rfl⟩ | ⟨_, hq⟩
                  · rw [hnewel, putCells_length _ _ _ (by omega)]; exact hel'
                  · exact hcl q x hq
                obtain ⟨b1, b2⟩ := HRel.setRow (es' := es.set i (el.withCells (putCells el.cells off p.cells))) (W' := W.setRow k (putCells cur.toList (i * sz + off) (ρ y).cells.toList).toArray) H1 hb1 (some k) hst (by simp)
                  (fun q hq _ _ => setRow_other W k q _ (by rintro rfl; exact hq hk)) (by omega)
                  (by
                    rintro g hg; cases hg
                    exact ⟨H1.fresh b k (by simp [hb1]) hk, fun q hq hq2 he => hq (H1.inj q b k hq2 (by simp [hb1]) he hk), fun o ho => absurd ho (hnoS o)⟩)
                  (fun _ => ⟨hk.symm, fun g c2 hg hc => by
                    rw [hk] at hg; cases hg
                    rw [g2] at hc; cases hc
                    exact ⟨_, setRow_heap W k cur _ e' (0, 0) g2, by simp only [List.size_toArray]; exact hlp2⟩⟩) hcl'
                  (.inr ⟨k, _, rfl, setRow_heap W k cur _ e' (0, 0) g2, by rw [hlenset]; simp only [List.size_toArray]; rw [hlp2]; exact g3, by
                    intro q x j c hq hc
                    rw [getD_toList]
                    simp only []
                    rw [putCells_get _ _ _ (by simp; omega)]
                    have hcl2 := (List.getElem?_eq_some_iff.1 hc).1
                    rcases hgetset q x hq with ⟨rfl, rfl⟩ | ⟨hqi, hq⟩
                    · rw [hnewel] at hc hcl2
                      rw [putCells_get _ _ _ (by omega)] at hc
                      rw [putCells_length _ _ _ (by omega)] at hcl2
                      simp only [Array.length_toList, ← h5']
                      by_cases hj1 : j < off
                      · rw [if_pos hj1] at hc
                        rw [if_pos (by omega), ← getD_toList]
                        exact (g4 q el j c hel hc).stay hst
                      · rw [if_neg hj1] at hc
                        by_cases hj2 : j < off + p.cells.length
                        · rw [if_pos hj2] at hc
                          rw [if_neg (by omega), if_pos (by omega)]
                          have := h6 (j - off) (.pv c) (by simp [AV.cells, hc])
                          cases this with
                          | pv hcc =>
                            rw [getD_toList] at hcc
                            have e1 : q * sz + j - (q * sz + off) = j - off := by omega
                            rw [e1]
                            exact hcc.stay hst
                        · rw [if_neg hj2] at hc
                          rw [if_neg (by omega), if_neg (by omega), ← getD_toList]
                          exact (g4 q el j c hel hc).stay hst
                    · have hxl := hcl q x hq
                      have hql := (List.getElem?_eq_some_iff.1 hq).1
                      have old := (g4 q x j c hq hc).stay hst
                      rw [getD_toList] at old
                      simp only [Array.length_toList, ← h5']
                      rcases Nat.lt_or_gt_of_ne hqi with hlt | hgt
                      · have : (q + 1) * sz ≤ i * sz := Nat.mul_le_mul_right _ hlt
                        rw [Nat.succ_mul] at this
                        rw [if_pos (by omega)]
                        exact old
                      · have : (i + 1) * sz ≤ q * sz := Nat.mul_le_mul_right _ hgt
                        rw [Nat.succ_mul] at this
                        rw [if_neg (by omega), if_neg (by omega)]
                        exact old⟩)
                have hbup : bupd β b (some k) = β := by
                  funext q; by_cases hq : q = b
                  · subst hq; rw [bupd_self, hk]
                  · rw [bupd_ne _ _ hq]
                rw [hbup] at b1 b2
                have hheap : Out.heap { v := AV.pv PV.junk, rd := b :: rs, up := [Upd.frz rs, Upd.row b (es.set i (el.withCells (putCells el.cells off p.cells)))] } h = hupd (hfrz h rs) b (.row e' sz (es.set i (el.withCells (putCells el.cells off p.cells))) true) := by
                  simp [Out.heap, Upd.ap, hb1]
                rw [hv]
                refine ⟨_, undef, _, sfrz S β h rs, β, hrun, .inr ⟨rfl, rfl⟩, ?_, ?_, .pv (.junk _), below_setRow (H1.fresh b k (by simp [hb1]) hk) _, H.dn rs⟩
                · rw [hheap]; exact b1
                · rw [hheap]; exact E1.trans b2
            · cases hs
          · cases hs
        · cases hs
  · cases hs
end
end Go.Proofs.Ytnojmocoifodjaa.Pv
set_option linter.unusedVariables false
set_option linter.unusedSimpArgs false
namespace Go.Proofs.Ytnojmocoifodjaa.Pv
open Go Go.RowKit
section
variable {P : Program} {B : Nat} {S : Stb} {β : Bta} {h : Heap} {W : World}

/-! #### a literal slice -/
theorem fill_lit {sz : Nat} : ∀ (ps : List PV) (vs : List Value) (k : Nat) (cur : Array Value), vs.length = ps.length → (∀ (i : Nat) (p : PV), ps[i]? = some p → p.okc sz = true ∧ RV S W p ((vs[i]?).getD undef)) →
    (k + ps.length) * sz ≤ cur.size →
    ∃ cur', Instr.fill (fun i => some (i * sz, sz)) cur ((vs.zipIdx k).map fun (v, i) => (i, v)) = some cur' ∧ cur'.size = cur.size ∧ (∀ q, q < k * sz → cur'[q]? = cur[q]?) ∧
      ∀ (i : Nat) (x : PV) (j : Nat) (p : PV), ps[i]? = some x → x.cells[j]? = some p → RV S W p (cur'.getD ((k + i) * sz + j) undef)
  | [], vs, k, cur, hl, _, _ => by
    have : vs = [] := List.eq_nil_of_length_eq_zero hl
    subst this
    exact ⟨cur, rfl, rfl, fun _ _ => rfl, fun i x j p hx => by simp at hx⟩
  | p :: ps, [], k, cur, hl, _, _ => by simp at hl
  | p :: ps, v :: vs, k, cur, hl, hR, hsz => by
    obtain ⟨hok, hv⟩ := hR 0 p (by simp)
    simp only [List.getElem?_cons_zero, Option.getD_some] at hv
    have hcl := okc_len hok
    have hone : (AV.pv p).cells.all AV.one = true := by
      simp only [AV.cells, List.all_map]
      simp only [PV.okc, Bool.and_eq_true] at hok
      exact hok.2
    obtain ⟨h5, h6⟩ := (RA.pv (β := fun _ => none) (h := fun _ => none) hv).cells (RA.solid (all_one hone))
    have h5' : p.cells.length = v.cells.size := by simpa [AV.cells] using h5
    simp only [List.length_cons] at hsz
    have hsz2 : k * sz + sz ≤ cur.size := by
      have : (k + 1) * sz ≤ (k + (ps.length + 1)) * sz := Nat.mul_le_mul_right _ (by omega)
      rw [Nat.succ_mul] at this
      omega
    have hfs := fold_set (k * sz) v.cells.toList 0 cur (by simp; omega)
    rw [Nat.add_zero] at hfs
    have hzip : v.cells.zipIdx.foldl (fun cs (c, j) => cs.setIfInBounds (k * sz + j) c) cur = (v.cells.toList.zipIdx 0).foldl (fun cs (c, j) => cs.setIfInBounds (k * sz + j) c) cur := by
      rw [← Array.foldl_toList]; simp
    have hsize1 : (v.cells.zipIdx.foldl (fun cs (c, j) => cs.setIfInBounds (k * sz + j) c) cur).size = cur.size := by
      rw [← Array.length_toList, hzip, hfs, putCells_length _ _ _ (by simp; omega)]; simp
    obtain ⟨cur', g1, g2, g3, g4⟩ := fill_lit ps vs (k + 1) (v.cells.zipIdx.foldl (fun cs (c, j) => cs.setIfInBounds (k * sz + j) c) cur) (by simpa using hl) (fun i q hq => by simpa using hR (i + 1) q (by simpa using hq)) (by rw [hsize1, show k + 1 + ps.length = k + (ps.length + 1) by omega]; exact hsz)
    refine ⟨cur', ?_, by rw [g2, hsize1], ?_, ?_⟩
    · simp only [List.zipIdx_cons, List.map_cons, Instr.fill]
      rw [if_neg]
      · exact g1
      · simp; omega
    · intro q hq
      rw [g3 q (by rw [Nat.succ_mul]; omega), ← Array.getElem?_toList, hzip, hfs, putCells_get _ _ _ (by simp; omega), if_pos hq]
      simp
    · intro i x j q hx hq
      cases i with
      | zero =>
        simp at hx; subst hx
        have hj := (List.getElem?_eq_some_iff.1 hq).1
        rw [Nat.add_zero, getD_toList, Array.getElem?_toList, g3 _ (by rw [Nat.succ_mul]; omega), ← Array.getElem?_toList, hzip, hfs, putCells_get _ _ _ (by simp; omega), if_neg (by omega), if_pos (by simp; omega)]
        have := h6 j (.pv q) (by simp [AV.cells, hq])
        cases this with
        | pv hcc =>
          rw [getD_toList] at hcc
          have e1 : k * sz + j - k * sz = j := by omega
          rw [e1]
          exact hcc
      | succ i =>
        have := g4 i x j q (by simpa using hx) hq
        rw [show k + (i + 1) = k + 1 + i by omega]
        exact this

theorem partsFrom_ok : ∀ (k : Nat) (l : List (Nat × Operand)) (m : List Opd), partsFrom k l = some m → ∃ xs : List Operand, l = (xs.zipIdx k).map (fun (x, i) => (i, x)) ∧ xs.length = m.length ∧ ∀ (i : Nat) (y : Opd), m[i]? = some y → ∃ x, xs[i]? = some x ∧ opd x = some y
  | _, [], m, hm => by simp only [partsFrom, Option.some.injEq] at hm; subst hm; exact ⟨[], rfl, rfl, fun i y hy => by simp at hy⟩
  | k, (i, x) :: l, m, hm => by
    simp only [partsFrom] at hm
    split at hm
    · rename_i hik
      subst hik
      split at hm
      · rename_i o m' h1 h2
        cases hm
        obtain ⟨xs, g1, g2, g3⟩ := partsFrom_ok (i + 1) l m' h2
        refine ⟨x :: xs, by simp [g1], by simp [g2], fun j y hy => ?_⟩
        cases j with
        | zero => simp at hy; subst hy; exact ⟨x, by simp, h1⟩
        | succ j => obtain ⟨z, hz1, hz2⟩ := g3 j y (by simpa using hy); exact ⟨z, by simpa using hz1, hz2⟩
      · cases hm
    · cases hm

theorem ok_lit (H : HRel B S β h W) (hB : B ≤ W.heap.size) {d : Nat} {s : Slots} {ρ : Operand → Value} (Hs : Sl S β h W s ρ) {t e : TypeId} {n sz : Nat} {z : List PV} {ps : Array (Nat × Operand)} {l : List Opd} (he : elOf P t = some e) (hsz : szOf P e = some sz) (hz : zeroOf P e = some z) (hp : partsFrom 0 ps.toList = some l)
    (hn : l.length = n) (h24 : n * sz ≤ 2 ^ 24) (hs0 : 0 < sz) (hzl : z.length = sz) {o : Out} (hs : sem (.lit e sz l) d s h = some o) :
    Fine P B S β h W ((do let v ← Instr.buildSlice t n (ps.map fun (i, x) => (i, ρ x)); pure (.value v) : Sem Next).run P W) o := by
  simp only [sem] at hs
  split at hs
  · cases hs
  · rename_i hd0
    have hd : h d = none := by
      cases hh : h d with
      | none => rfl
      | some _ => simp [hh] at hd0
    split at hs
    · rename_i es rs hf
      split at hs
      · rename_i hok
        cases hs
        obtain ⟨xs, hl1, hl2, hl3⟩ := partsFrom_ok 0 _ _ hp
        have hvs : ∀ (i : Nat) (y : AV), (l.map (ev s))[i]? = some y → ∃ x, xs[i]? = some x ∧ RA S W β h y (ρ x) := by
          intro i y hy
          rw [List.getElem?_map] at hy
          cases hli : l[i]? with
          | none => simp [hli] at hy
          | some q =>
            simp [hli] at hy; subst hy
            obtain ⟨x, hx1, hx2⟩ := hl3 i q hli
            exact ⟨x, hx1, Hs.opd hx2⟩
        obtain ⟨g1, g2⟩ := frzL_ok (R := RV (sfrz S β h rs) W) (L := rs) hf (fun _ h => h) (fun i => ((xs.map ρ)[i]?).getD undef) (by
          intro i y hy q r hq hr
          obtain ⟨x, hx, hra⟩ := hvs i y hy
          have : ((xs.map ρ)[i]?).getD undef = ρ x := by simp [hx]
          rw [this]
          exact frz1_ok H hra hq rs hr)
        have g1' : es.length = n := by simpa [hn] using g1
        have H1 := H.frz rs
        have E1 := Evo.frz S W β h rs
        have hd1 : hfrz h rs d = none := by simp [hfrz, hd]
        have hu := elOf_some he
        unfold szOf at hsz
        unfold zeroOf at hz
        cases hi : P.info? e with
        | none => simp [hi] at hsz
        | some it =>
          simp [hi] at hsz
          cases hzz : it.zero with
          | none => simp [hi, hzz] at hz
          | some zv =>
            simp only [hi, hzz, Option.bind_some, Option.map_some, Option.some.injEq] at hz
            have hzs : zv.cells.size = sz := by rw [← hzl, ← hz]; simp
            obtain ⟨cur', f1, f2, _, f4⟩ := fill_lit (S := sfrz S β h rs) (W := W) (sz := sz) es (xs.map ρ) 0 ((Array.range (n * sz)).map (fun i => zv.cells[i % zv.cells.size]!)) (by simp; omega)
              (fun i p hp => ⟨all_get hok hp, g2 i p hp⟩) (by simp [g1'])
            have hparts : (ps.map fun (i, x) => (i, ρ x)).toList = ((xs.map ρ).zipIdx 0).map (fun (v, i) => (i, v)) := by
              simp only [Array.toList_map, hl1]
              simp only [List.map_map, List.zipIdx_map]
              rfl
            have hrun : (Instr.buildSlice t n (ps.map fun (i, x) => (i, ρ x))).run P W = .ok (.slice (some ⟨W.heap.size, 0, none⟩) n n) (W.alloc (.cells cur' e)) := by
              have hle : ¬ (n * sz > 2 ^ 24) := by omega
              have hfl : Instr.fill (fun i => some (i * it.size, it.size)) ((Array.range (n * it.size)).map (fun i => zv.cells[i % zv.cells.size]!)) (ps.map fun (i, x) => (i, ρ x)).toList = some cur' := by
                rw [hparts, hsz]; exact f1
              subst hsz
              by_cases hz0 : n = 0
              · have hx0 : xs = [] := List.eq_nil_of_length_eq_zero (by omega)
                subst hx0
                have hps : ps = #[] := by apply Array.ext'; simpa using hl1
                subst hps
                subst hz0
                have hc0 : cur' = #[] := by
                  have : cur'.size = 0 := by rw [f2]; simp
                  exact Array.eq_empty_of_size_eq_zero this
                subst hc0
                simp [Instr.buildSlice, run_underlying hu, Go.sizeOf, typeInfo, hi, newRow, Instr.fill]
                rw [show Array.map (fun (x : Nat) => (default : Value)) (Array.range 0) = #[] from by apply Array.eq_empty_of_size_eq_zero; simp]
              · have hle' : ¬ (16777216 < n * it.size) := by omega
                have hne : n * it.size ≠ 0 := Nat.mul_ne_zero hz0 (by omega)
                simp [Instr.buildSlice, run_underlying hu, Go.sizeOf, typeInfo, hi, hne, newRow, hle', zeroValue, hzz]
                simp at hfl
                simp [hfl]
            have hheap : Out.heap { v := AV.ref d es.length, rd := rs, up := [Upd.frz rs, Upd.new d (.row e sz es true)] } h = hupd (hfrz h rs) d (.row e sz es true) := by
              simp [Out.heap, Upd.ap]
            have hcsz : cur'.size = n * sz := by rw [f2]; simp
            have hcl : ∀ (i : Nat) (x : PV), es[i]? = some x → x.cells.length = sz := fun i x hx => okc_len (all_get hok hx)
            have hblk : BlkRel (sfrz S β h rs) (W.alloc (.cells cur' e)) (bupd β d (some W.heap.size)) (hupd (hfrz h rs) d (.row e sz es true)) d (.row e sz es true) := by
              refine ⟨hs0, hcl, .inr ⟨W.heap.size, cur', bupd_self _ _ _, heap_alloc_new W _, by rw [hcsz, g1']; exact Nat.le_refl _, fun i x j p hx hp => ?_⟩⟩
              have := f4 i x j p hx hp
              rw [Nat.zero_add] at this
              exact this.stay (Stay.below ((Below.refl _ _).alloc (Nat.le_refl _) _) H1.bnd)
            have H2 := H1.alloc hB hd1 cur' e _ hblk
            have E2 := Evo.alloc H1 hd1 cur' e (.row e sz es true)
            refine ⟨_, _, _, sfrz S β h rs, bupd β d (some W.heap.size), run_val hrun, .inl rfl, ?_, ?_, ?_, (Below.refl _ _).alloc hB _, H.dn rs⟩
            · rw [hheap]; exact H2
            · rw [hheap]; exact E1.trans E2
            · rw [hheap]
              have hnm : n ≤ maxLen := by
                have : n * 1 ≤ n * sz := Nat.mul_le_mul_left _ hs0
                simp only [maxLen]; omega
              exact .ref (hupd_self _ _ _) (Nat.le_refl _) ⟨_, _, by rw [g1'], Nat.le_of_eq g1', hnm⟩ (fun _ => .inr ⟨W.heap.size, n, cur', e, bupd_self _ _ _, by rw [g1'], Nat.le_of_eq g1', hnm, heap_alloc_new W _, hcsz⟩)
      · cases hs
    · cases hs

theorem bound_ok {ρv : Option Value} {x : Option AV} {dflt n : Nat} (hb : bound x dflt = some n) (hx : ∀ y, x = some y → ∃ v, ρv = some v ∧ RA S W β h y v) (hnone : x = none → ρv = none) :
    (ρv = none ∧ n = dflt) ∨ ∃ k i, ρv = some (.int k i) ∧ 0 ≤ i ∧ i.toNat = n := by
  unfold bound at hb
  split at hb
  · cases hb; exact .inl ⟨hnone rfl, rfl⟩
  · rename_i k i
    split at hb
    · rename_i h0
      cases hb
      obtain ⟨v, hv, hra⟩ := hx _ rfl
      have := int_of hra rfl
      subst this
      exact .inr ⟨k, i, hv, h0, rfl⟩
    · cases hb
  · cases hb

/-! #### slices of slices, of texts -/
theorem run_sliceBound_ok (k : IntKind) (i : Int) (y : Nat) (code : BoundsCode) (h0 : 0 ≤ i) (h1 : i.toNat ≤ y) : (Instr.sliceBound (.int k i) y code).run P W = .ok i.toNat W := by
  have h2 : i ≤ (y : Int) := by omega
  simp [Instr.sliceBound, asIntOf, h0, h2]
theorem run_sliceBounds_ok {isSlice : Bool} {len cap l hh m : Nat} {low high max : Option Value}
    (hm : (max = none ∧ m = cap) ∨ ∃ k i, max = some (.int k i) ∧ 0 ≤ i ∧ i.toNat = m ∧ m ≤ cap)
    (hhi : (high = none ∧ max = none ∧ hh = len) ∨ ∃ k i, high = some (.int k i) ∧ 0 ≤ i ∧ i.toNat = hh ∧ hh ≤ m)
    (hlo : (low = none ∧ l = 0) ∨ ∃ k i, low = some (.int k i) ∧ 0 ≤ i ∧ i.toNat = l ∧ l ≤ hh) :
    (Instr.sliceBounds isSlice len cap low high max).run P W = .ok (l, hh, m) W := by
  have tail : ∀ (code : BoundsCode), ((match (generalizing := false) low with | some v => (do let l ← Instr.sliceBound v hh code; pure (l, hh, m)) | none => (do let l ← (pure 0 : Sem Nat); pure (l, hh, m)) : Sem (Nat × Nat × Nat))).run P W = .ok (l, hh, m) W := by
    intro code
    rcases hlo with ⟨rfl, rfl⟩ | ⟨k, i, rfl, h1, rfl, h3⟩
    · rfl
    · simp only [Sem.run_bind, run_sliceBound_ok k i hh code h1 h3, Result.andThen_ok, Sem.run_pure]
  rcases hm with ⟨rfl, rfl⟩ | ⟨k, i, rfl, h1, h2, h3⟩
  · rcases hhi with ⟨rfl, _, rfl⟩ | ⟨k', i', rfl, h1', h2', h3'⟩
    · simp only [Instr.sliceBounds, Sem.run_bind, Sem.run_pure, Result.andThen_ok]; exact tail _
    · have := run_sliceBound_ok (P := P) (W := W) k' i' m (if isSlice then .sliceAcap else .sliceAlen) h1' (by omega)
      rw [h2'] at this
      simp only [Instr.sliceBounds, Sem.run_bind, Sem.run_pure, Result.andThen_ok, this]; exact tail _
  · have hmx := run_sliceBound_ok (P := P) (W := W) k i cap (if isSlice then .slice3Acap else .slice3Alen) h1 (by omega)
    rw [h2] at hmx
    rcases hhi with ⟨_, hno, _⟩ | ⟨k', i', rfl, h1', h2', h3'⟩
    · cases hno
    · have := run_sliceBound_ok (P := P) (W := W) k' i' m .slice3B h1' (by omega)
      rw [h2'] at this
      simp only [Instr.sliceBounds, Sem.run_bind, Sem.run_pure, Result.andThen_ok, hmx, this]; exact tail _
theorem ok_slc (H : HRel B S β h W) {s : Slots} {ρ : Operand → Value} (Hs : Sl S β h W s ρ) {t e : TypeId} {n : Nat} (hu : P.underlying t = some (.slice e)) (hn : szOf P e = some n) {x : Operand} {lo hi mx : Option Operand} {x' : Opd} {lo' hi' mx' : Option Opd}
    (hx : opd x = some x') (hlo : optM opd lo = some lo') (hhi : optM opd hi = some hi') (hmx : optM opd mx = some mx') {o : Out} (hs : sem (.slc n x' lo' hi' mx') 0 s h = some o) :
    Fine P B S β h W ((do let v ← Instr.sliceAt t (ρ x) (lo.map ρ) (hi.map ρ) (mx.map ρ); pure (.value v) : Sem Next).run P W) o := by
  have hX := Hs.opd hx
  have hopt : ∀ {q : Option Operand} {q' : Option Opd}, optM opd q = some q' → (∀ y, q'.map (ev s) = some y → ∃ v, q.map ρ = some v ∧ RA S W β h y v) ∧ (q'.map (ev s) = none → q.map ρ = none) ∧ q'.isSome = q.isSome := by
    intro q q' hq
    cases q with
    | none => simp only [optM, Option.some.injEq] at hq; subst hq; exact ⟨fun y hy => by simp at hy, fun _ => rfl, rfl⟩
    | some a =>
      simp only [optM] at hq
      cases ha : opd a with
      | none => simp [ha] at hq
      | some a' =>
        simp [ha] at hq; subst hq
        exact ⟨fun y hy => by simp at hy; subst hy; exact ⟨_, rfl, Hs.opd ha⟩, fun hy => by simp at hy, rfl⟩
  obtain ⟨lo1, lo2, lo3⟩ := hopt hlo
  obtain ⟨hi1, hi2, hi3⟩ := hopt hhi
  obtain ⟨mx1, mx2, mx3⟩ := hopt hmx
  simp only [sem] at hs
  split at hs
  · rename_i es rs hl
    split at hs
    · rename_i m hm
      split at hs
      · rename_i hh l hhh hll
        split at hs
        · rename_i hcond
          obtain ⟨c1, c2, c3, c4, c5⟩ := hcond
          cases hs
          have hYv := listOf_ok H hX hl rs (fun _ h => h)
          have bm := bound_ok hm mx1 mx2
          have bh := bound_ok hhh hi1 hi2
          have bl := bound_ok hll lo1 lo2
          obtain ⟨A, c, hvx, hcap, hcm⟩ : ∃ A c, ρ x = .slice A es.length c ∧ es.length ≤ c ∧ True := by
            generalize ρ x = vx at hYv ⊢
            cases hYv with
            | view0 A c => exact ⟨A, c, rfl, Nat.zero_le _, trivial⟩
            | view _ k o sz c u a1 a2 a3 a4 a5 a6 => exact ⟨_, c, rfl, a1, trivial⟩
          have hso : (Go.sizeOf e).run P W = .ok n W := by
            unfold szOf at hn
            cases hi : P.info? e with
            | none => simp [hi] at hn
            | some it => simp [hi] at hn; simp [Go.sizeOf, typeInfo, hi, hn]
          have hne : mx'.isSome = false ∨ hi'.isSome = true := by
            cases hq : mx'.isSome with
            | false => exact .inl rfl
            | true => exact .inr (c4 hq)
          -- the capacity behind
          obtain ⟨M, hM, hMm⟩ : ∃ M, ((mx.map ρ = none ∧ M = c) ∨ ∃ k i, mx.map ρ = some (.int k i) ∧ 0 ≤ i ∧ i.toNat = M ∧ M ≤ c) ∧ hh ≤ M ∧ (mx'.isSome = true → M = m) := by
            rcases bm with ⟨b1, b2⟩ | ⟨k, i, b1, b2, b3⟩
            · refine ⟨c, .inl ⟨b1, rfl⟩, by omega, fun hq => ?_⟩
              rw [mx3] at hq
              cases mx with
              | none => simp at hq
              | some _ => simp at b1
            · exact ⟨m, .inr ⟨k, i, b1, b2, b3, by omega⟩, by omega, fun _ => rfl⟩
          have hHi : (hi.map ρ = none ∧ mx.map ρ = none ∧ hh = es.length) ∨ ∃ k i, hi.map ρ = some (.int k i) ∧ 0 ≤ i ∧ i.toNat = hh ∧ hh ≤ M := by
            rcases bh with ⟨b1, b2⟩ | ⟨k, i, b1, b2, b3⟩
            · refine .inl ⟨b1, ?_, b2⟩
              cases mx with
              | none => rfl
              | some q =>
                rcases hne with h1 | h1
                · rw [mx3] at h1; simp at h1
                · rw [hi3] at h1; cases hi with
                  | none => simp at h1
                  | some _ => simp at b1
            · exact .inr ⟨k, i, b1, b2, b3, hMm.1⟩
          have hLo : (lo.map ρ = none ∧ l = 0) ∨ ∃ k i, lo.map ρ = some (.int k i) ∧ 0 ≤ i ∧ i.toNat = l ∧ l ≤ hh := by
            rcases bl with b | ⟨k, i, b1, b2, b3⟩
            · exact .inl b
            · exact .inr ⟨k, i, b1, b2, b3, c3⟩
          have hb := run_sliceBounds_ok (P := P) (W := W) (isSlice := true) (len := es.length) (cap := c) hM hHi hLo
          have hrun : (Instr.sliceAt t (ρ x) (lo.map ρ) (hi.map ρ) (mx.map ρ)).run P W = .ok (.slice (if M = l then A else A.map (·.add (l * n))) (hh - l) (M - l)) W := by
            simp only [Instr.sliceAt, Instr.slice, Sem.run_bind, run_underlying hu, Result.andThen_ok, hvx, hb, hso, Sem.run_pure]
          refine Fine.frz H (run_val hrun) ?_
          have hlen : ((es.take hh).drop l).length = hh - l := by simp; omega
          split
          · rename_i hcap0
            obtain ⟨hq1, hq2⟩ := hcap0
            have := hMm.2 hq1
            have e1 : hh - l = 0 := by omega
            have e2 : M - l = 0 := by omega
            rw [e1, e2]
            exact .cap0 _
          · rcases Nat.eq_zero_or_pos (hh - l) with e1 | e1
            · have : (es.take hh).drop l = [] := List.eq_nil_of_length_eq_zero (by omega)
              rw [this, e1]
              exact .view0 _ _
            · have hML : ¬ M = l := by omega
              rw [if_neg hML]
              generalize ρ x = vx at hYv hvx
              subst hvx
              cases hYv with
              | view0 A c =>
                have q1 : m ≤ 0 := by simpa using c1
                clear hM hHi hLo hb hrun hMm bm bh bl
                omega
              | view _ k o sz _ u a1 a2 a3 a4 a5 a6 =>
                have hsz : sz = n := by
                  have h1 : 0 < es.length := by omega
                  have h2 := a3 0 _ (List.getElem?_eq_getElem h1)
                  have h3 := all_get c5 (List.getElem?_eq_getElem h1)
                  simp at h3
                  omega
                subst hsz
                simp only [Option.map_some, add_off]
                rw [← hlen]
                have hget : ∀ (i : Nat) (x : PV), ((es.take hh).drop l)[i]? = some x → es[l + i]? = some x := by
                  intro i x hi
                  rw [List.getElem?_drop, List.getElem?_take] at hi
                  split at hi
                  · exact hi
                  · cases hi
                refine .view _ k (o + l * sz) sz (M - l) (fun i j => u (l + i) j) (by rw [hlen]; omega) ?_ (fun i x hi => a3 _ x (hget i x hi)) ?_ ?_ ?_
                · rcases hM with ⟨_, rfl⟩ | ⟨_, _, _, _, _, hMc⟩ <;> omega
                · intro i x j p hi hp
                  have := a4 _ x j p (hget i x hi) hp
                  rwa [show o + l * sz + i * sz + j = o + (l + i) * sz + j by rw [Nat.add_mul]; omega]
                · intro i x j p hi hp
                  have := a5 _ x j p (hget i x hi) hp
                  rwa [show o + l * sz + i * sz + j = o + (l + i) * sz + j by rw [Nat.add_mul]; omega]
                · intro i x j p hi hp
                  exact a6 _ x j p (hget i x hi) hp
        · cases hs
      · cases hs
    · cases hs
  · cases hs
theorem ok_sslc (H : HRel B S β h W) {s : Slots} {ρ : Operand → Value} (Hs : Sl S β h W s ρ) {t : TypeId} (hu : P.underlying t = some .string) {x : Operand} {lo hi : Option Operand} {x' : Opd} {lo' hi' : Option Opd}
    (hx : opd x = some x') (hlo : optM opd lo = some lo') (hhi : optM opd hi = some hi') {o : Out} (hs : sem (.sslc x' lo' hi') 0 s h = some o) :
    Fine P B S β h W ((do let v ← Instr.sliceAt t (ρ x) (lo.map ρ) (hi.map ρ) none; pure (.value v) : Sem Next).run P W) o := by
  have hX := Hs.opd hx
  have hopt : ∀ {q : Option Operand} {q' : Option Opd}, optM opd q = some q' → (∀ y, q'.map (ev s) = some y → ∃ v, q.map ρ = some v ∧ RA S W β h y v) ∧ (q'.map (ev s) = none → q.map ρ = none) := by
    intro q q' hq
    cases q with
    | none => simp only [optM, Option.some.injEq] at hq; subst hq; exact ⟨fun y hy => by simp at hy, fun _ => rfl⟩
    | some a =>
      simp only [optM] at hq
      cases ha : opd a with
      | none => simp [ha] at hq
      | some a' =>
        simp [ha] at hq; subst hq
        exact ⟨fun y hy => by simp at hy; subst hy; exact ⟨_, rfl, Hs.opd ha⟩, fun hy => by simp at hy⟩
  obtain ⟨lo1, lo2⟩ := hopt hlo
  obtain ⟨hi1, hi2⟩ := hopt hhi
  simp only [sem] at hs
  split at hs
  · rename_i L hL
    split at hs
    · rename_i hh l hhh hll
      split at hs
      · rename_i hcond
        obtain ⟨c2, c3⟩ := hcond
        cases hs
        obtain ⟨hv, hLm⟩ := str_of hX hL
        have bh := bound_ok hhh hi1 hi2
        have bl := bound_ok hll lo1 lo2
        have hHi : (hi.map ρ = none ∧ (none : Option Value) = none ∧ hh = L.length) ∨ ∃ k i, hi.map ρ = some (.int k i) ∧ 0 ≤ i ∧ i.toNat = hh ∧ hh ≤ L.length := by
          rcases bh with ⟨b1, b2⟩ | ⟨k, i, b1, b2, b3⟩
          · exact .inl ⟨b1, rfl, b2⟩
          · exact .inr ⟨k, i, b1, b2, b3, c2⟩
        have hLo : (lo.map ρ = none ∧ l = 0) ∨ ∃ k i, lo.map ρ = some (.int k i) ∧ 0 ≤ i ∧ i.toNat = l ∧ l ≤ hh := by
          rcases bl with b | ⟨k, i, b1, b2, b3⟩
          · exact .inl b
          · exact .inr ⟨k, i, b1, b2, b3, c3⟩
        have hb := run_sliceBounds_ok (P := P) (W := W) (isSlice := false) (len := L.length) (cap := L.length) (m := L.length) (.inl ⟨rfl, rfl⟩) hHi hLo
        have hrun : (Instr.sliceAt t (ρ x) (lo.map ρ) (hi.map ρ) none).run P W = .ok (.string (bs ((L.take hh).drop l))) W := by
          simp only [Instr.sliceAt, Instr.slice, Sem.run_bind, run_underlying hu, Result.andThen_ok, hv, bs_size, hb, Sem.run_pure, bs_extract, Option.isSome_none, Bool.false_eq_true, if_false]
        exact Fine.same H (run_val hrun) (.pv (.str _ (by simp; omega)))
      · cases hs
    · cases hs
  · cases hs
theorem ok_nck (H : HRel B S β h W) {s : Slots} {ρ : Operand → Value} (Hs : Sl S β h W s ρ) {x : Operand} {x' : Opd} (hx : opd x = some x') {o : Out} (hs : sem (.nck x') 0 s h = some o) {dst : Option Tmp} {ty : TypeId} {pos : String} {af : Array Edge} {g : Option (Nat × Bool)} :
    Fine P B S β h W ((execOp ρ { dst, op := .nilCheck x, type := ty, pos, after := af, guard := g }).run P W) o := by
  have hX := Hs.opd hx
  simp only [sem] at hs
  split at hs
  · rename_i b o' h1
    cases hs
    obtain ⟨k, cs, m, hv, hk, hb⟩ := ptr_of hX h1
    exact Fine.same H (by simp [execOp, hv]) (.ptr hb hk)
  · rename_i cs h1
    cases hs
    have hX' := hX
    obtain ⟨k, o', hv, h2, u, h3, h4⟩ := vptr_of hX h1
    rw [h1, hv] at hX'
    exact Fine.same H (by simp [execOp, hv]) hX'
  · cases hs
  · rename_i f c h1
    cases hs
    rw [h1] at hX
    generalize hv : ρ x = v at hX
    have hX' := hX
    cases hX with
    | pv hp =>
      cases hp with
      | func _ _ vs a1 a2 => exact Fine.same H (by simp [execOp, hv]) hX'
  · rename_i f c h1
    cases hs
    rw [h1] at hX
    generalize hv : ρ x = v at hX
    have hX' := hX
    cases hX with
    | fn a1 a2 => exact Fine.same H (by simp [execOp, hv]) hX'
  · cases hs
end
end Go.Proofs.Ytnojmocoifodjaa.Pv
set_option linter.unusedVariables false
set_option linter.unusedSimpArgs false
namespace Go.Proofs.Ytnojmocoifodjaa.Pv
open Go Go.RowKit
section
variable {P : Program} {B : Nat} {S : Stb} {β : Bta} {h : Heap} {W : World}

/-! #### nil, bytes and texts -/
theorem equalIn_slice' {t e : TypeId} (hu : P.underlying t = some (.slice e)) (d : Nat) (A : Option Addr) (n c : Nat) : (Op.equalIn (d + 1) t (.slice A n c) (.slice none 0 0)).run P W = .ok A.isNone W := by
  cases A <;> simp [Op.equalIn, run_underlying hu]
theorem equalIn_slice {t e : TypeId} (hu : P.underlying t = some (.slice e)) (A : Option Addr) (n c : Nat) : (Op.equal t (.slice A n c) (.slice none 0 0)).run P W = .ok A.isNone W := equalIn_slice' hu 9999 A n c
theorem eqGuard_slice (op : BinOp) (t : TypeId) (x y : Operand) (A : Option Addr) (n c : Nat) (A' : Option Addr) (n' c' : Nat) : (eqGuard op t x y (.slice A n c) (.slice A' n' c')).run P W = .ok () W := by
  cases op <;> simp [eqGuard]
theorem tagOf_slice {t : TypeId} (hc : tagOf P t = 4) : ∃ e, P.underlying t = some (.slice e) := by
  unfold tagOf at hc
  split at hc <;> simp_all
theorem isNilC_eq {y : Operand} (h : isNilC y = true) : y = .const (.slice none 0 0) := by
  unfold isNilC at h
  split at h
  · rfl
  · cases h
theorem ok_isnil (H : HRel B S β h W) {s : Slots} {ρ : Operand → Value} (Hs : Sl S β h W s ρ) {neg : Bool} {t : TypeId} (ht : tagOf P t = 4) {x y : Operand} {x' : Opd} (hx : opd x = some x') (hy : isNilC y = true) {d : Nat} {o : Out} (hs : sem (.isnil neg x') d s h = some o) :
    Fine P B S β h W ((do let v ← (do eqGuard (if neg then .neq else .eql) t x y (ρ x) (ρ y); binOp (if neg then .neq else .eql) t (ρ x) (ρ y)); pure (.value v) : Sem Next).run P W) o := by
  have hX := Hs.opd hx
  have hyv : ρ y = .slice none 0 0 := by rw [isNilC_eq hy, Hs.const]
  obtain ⟨e, hu⟩ := tagOf_slice ht
  have key : ∀ (A : Option Addr) (n c : Nat) (b : Bool) (rd : List Nat), ρ x = .slice A n c → A.isNone = b → Fine P B S β h W ((do let v ← (do eqGuard (if neg then .neq else .eql) t x y (ρ x) (ρ y); binOp (if neg then .neq else .eql) t (ρ x) (ρ y)); pure (.value v) : Sem Next).run P W) { v := .pv (.bool (if neg then !b else b)), rd := rd } := by
    intro A n c b rd hv hb
    rw [hv, hyv]
    refine Fine.same (v := .bool (if neg then !b else b)) H (run_val ?_) (.pv (.bool _))
    rw [Sem.run_bind, eqGuard_slice, Result.andThen_ok]
    have := equalIn_slice (W := W) hu A n c
    rw [hb] at this
    cases neg <;> simp [binOp, this]
  simp only [sem] at hs
  split at hs
  · rename_i h1
    cases hs
    rw [h1] at hX
    have hv : ρ x = .slice none 0 0 := by
      generalize ρ x = v at hX ⊢
      cases hX with | pv hp => cases hp; rfl
    have := key none 0 0 true [] hv rfl
    cases neg <;> exact this
  · rename_i h1
    cases hs
    rw [h1] at hX
    have hv : ∃ c, ρ x = .slice none 0 c := by
      generalize ρ x = v at hX ⊢
      cases hX with | pv hp => cases hp; exact ⟨_, rfl⟩
    obtain ⟨c, hv⟩ := hv
    have := key none 0 c true [] hv rfl
    cases neg <;> exact this
  · rename_i h1
    cases hs
    rw [h1] at hX
    have hv : ∃ b c, ρ x = .slice (some b) 0 c := by
      generalize ρ x = v at hX ⊢
      cases hX with | pv hp => cases hp; exact ⟨_, _, rfl⟩
    obtain ⟨b, c, hv⟩ := hv
    have := key (some b) 0 c false [] hv rfl
    cases neg <;> exact this
  · rename_i p l h1
    cases hs
    rw [h1] at hX
    have hv : ∃ a n c, ρ x = .slice (some a) n c := by
      generalize ρ x = v at hX ⊢
      cases hX with | pv hp => cases hp; exact ⟨_, _, _, rfl⟩
    obtain ⟨a, n, c, hv⟩ := hv
    have := key (some a) n c false [] hv rfl
    cases neg <;> exact this
  · rename_i b n h1
    split at hs
    · rename_i e' sz es hr
      split at hs
      · rename_i hc
        cases hs
        rw [h1] at hX
        have hcur := RA.ref_cases hX hr hc.1
        rcases hcur with ⟨_, h2, _⟩ | ⟨k, c, cur, e2, _, hv, _⟩
        · omega
        · have := key (some ⟨k, 0, none⟩) n c false [b] hv rfl
          cases neg <;> exact this
      · cases hs
    · cases hs
  · cases hs
theorem HRel.wide (H : HRel B S β h W) {S' : Stb} (h1 : ∀ k o, S k o → S' k o) (h2 : ∀ k o, S' k o → S k o ∨ (k < W.heap.size ∧ ∀ b, (h b).isSome → β b ≠ some k)) : HRel B S' β h W where
  blk b x hx := (H.blk b x hx).evo (S' := S') (W' := W) (β' := β) (h' := h) ⟨⟨h1, fun _ _ _ => rfl⟩, fun b blk hb => ⟨blk, hb, Blk.le_refl _ _ _⟩⟩ H.blk rfl (fun _ _ => rfl)
  inj := H.inj
  fresh := H.fresh
  sinv b x k o hx hk ho := by
    rcases h2 k o ho with h3 | ⟨_, h3⟩
    · exact H.sinv b x k o hx hk h3
    · exact absurd hk (h3 b (by simp [hx]))
  bnd k o ho := by
    rcases h2 k o ho with h3 | ⟨h3, _⟩
    · exact H.bnd k o h3
    · exact h3
theorem ok_bts (H : HRel B S β h W) (hB : B ≤ W.heap.size) {d : Nat} {s : Slots} {ρ : Operand → Value} (Hs : Sl S β h W s ρ) {src dst e : TypeId} (h1 : P.underlying src = some .string) (h2 : P.underlying dst = some (.slice e)) (h3 : P.underlying e = some (.int .u8)) {x : Operand} {x' : Opd} (hx : opd x = some x') {o : Out} (hs : sem (.bts x') d s h = some o) :
    Fine P B S β h W ((do let v ← convert src dst (ρ x); pure (.value v) : Sem Next).run P W) o := by
  have hX := Hs.opd hx
  simp only [sem] at hs
  split at hs
  · rename_i l heq
    cases hs
    obtain ⟨hv, hl⟩ := str_of hX heq
    rw [hv]
    have hrun := run_bytes_of_string W src dst e (bs l) h1 h2 h3
    have hsz : (bs l).size = l.length := rfl
    rw [hsz] at hrun
    have hcap1 := grownCap_ge W l.length 0 e
    have hcap2 := grownCap_le_maxLen W l.length 0 e hl
    generalize grownCap W l.length 0 e = cap at hrun hcap1 hcap2
    have hat : ∀ (j : Nat) (c : UInt8), l[j]? = some c → (bytesRow (bs l) cap)[j]? = some (Value.int .u8 (c.toNat : Int)) := by
      intro j c hj
      obtain ⟨hjl, rfl⟩ := List.getElem?_eq_some_iff.1 hj
      exact bytesRow_at (bs l) cap j (by simpa [bs] using hjl)
    generalize bytesRow (bs l) cap = row at hrun hat
    have hcell : ∀ (j : Nat) (c : UInt8), l[j]? = some c → (W.drew.alloc (.cells row e (row.size, row.size + 1))).cell? ⟨W.heap.size, j, none⟩ = some (.int .u8 (c.toNat : Int)) := by
      intro j c hj
      have := World.cell?_alloc_mark W.drew row e (row.size, row.size + 1) j
      rw [hat j c hj] at this
      exact this
    have hd : Below W.heap.size W W.drew := ⟨rfl, rfl, rfl, Nat.le_refl _, fun _ _ => rfl⟩
    have hbl : Below W.heap.size W (W.drew.alloc (.cells row e (row.size, row.size + 1))) := hd.alloc (Nat.le_refl _) _
    have hsize : (W.drew.alloc (.cells row e (row.size, row.size + 1))).heap.size = W.heap.size + 1 := by
      show (W.heap.push _).size = _
      simp
    generalize W.drew.alloc (.cells row e (row.size, row.size + 1)) = W' at hrun hcell hbl hsize
    have H1 := H.below hbl
    have H2 := H1.wide (S' := fun k q => S k q ∨ k = W.heap.size ∧ q < l.length) (fun k q hk => .inl hk) (fun k q hk => hk.imp id (fun ⟨h5, _⟩ => ⟨by omega, fun b hb hbk => by
      have := H.lt hb hbk
      omega⟩))
    refine ⟨_, _, W', fun k q => S k q ∨ k = W.heap.size ∧ q < l.length, β, run_val hrun, .inl rfl, H2, ⟨⟨fun k q hk => .inl hk, fun k q hk => (Stay.below hbl H.bnd).c k q hk⟩, fun b x hx => (Evo.below H hbl).b b x hx⟩, .pv ?_, hbl.mono hB, fun k q hk hq => hq.elim id (fun h5 => by omega)⟩
    have hlen : (l.map byteP).length = l.length := by simp
    have hget : ∀ (i : Nat) (ee : PV) (j : Nat) (p : PV), (l.map byteP)[i]? = some ee → ee.cells[j]? = some p → j = 0 ∧ ∃ c, l[i]? = some c ∧ p = byteP c ∧ ee = byteP c := by
      intro i ee j p hi hj
      rw [List.getElem?_map] at hi
      obtain ⟨c, hc, rfl⟩ := Option.map_eq_some_iff.1 hi
      have hj0 : j = 0 := by have := (List.getElem?_eq_some_iff.1 hj).1; simp [byteP, PV.cells] at this; exact this
      subst hj0
      simp [byteP, PV.cells] at hj
      exact ⟨rfl, c, hc, hj.symm, rfl⟩
    have key := RV.view (S := fun k q => S k q ∨ k = W.heap.size ∧ q < l.length) (W := W') (l.map byteP) W.heap.size 0 1 cap (fun i _ => .int .u8 (((l[i]?).map fun c => (c.toNat : Int)).getD 0)) (by rw [hlen]; exact hcap1) hcap2
      (fun i ee hi => by
        rw [List.getElem?_map] at hi
        obtain ⟨c, _, rfl⟩ := Option.map_eq_some_iff.1 hi
        rfl)
      (fun i ee j p hi hj => by
        obtain ⟨rfl, c, hc, _⟩ := hget i ee j p hi hj
        have := (List.getElem?_eq_some_iff.1 hc).1
        exact .inr ⟨rfl, by omega⟩)
      (fun i ee j p hi hj => by
        obtain ⟨rfl, c, hc, _⟩ := hget i ee j p hi hj
        have := hcell i c hc
        simp only [hc, Option.map_some, Option.getD_some, Nat.mul_one, Nat.zero_add, Nat.add_zero]
        exact this)
      (fun i ee j p hi hj => by
        obtain ⟨rfl, c, hc, rfl, _⟩ := hget i ee j p hi hj
        simp only [hc, Option.map_some, Option.getD_some]
        exact .int _ _)
    rw [hlen] at key
    exact key
  · cases hs
theorem add_none' (b o n : Nat) : (Addr.mk b o none).add n = ⟨b, o + n, none⟩ := by
  unfold Addr.add
  split
  · rename_i h; subst h; rfl
  · rfl
theorem bytesL_ok : ∀ {es : List PV} {l : List UInt8}, bytesL es = some l → l.length = es.length ∧ ∀ (i : Nat) (p : PV), es[i]? = some p → ∃ n, p = .int .u8 n ∧ l[i]? = some (UInt8.ofNat n.toNat)
  | [], l, h => by simp only [bytesL, Option.some.injEq] at h; subst h; exact ⟨rfl, fun i p hp => by simp at hp⟩
  | .int .u8 n :: es, l, h => by
    simp only [bytesL] at h
    split at h
    · rename_i m hm
      cases h
      obtain ⟨h1, h2⟩ := bytesL_ok hm
      refine ⟨by simp [h1], fun i p hp => ?_⟩
      cases i with
      | zero => simp at hp; subst hp; exact ⟨n, rfl, by simp⟩
      | succ i => obtain ⟨k, a1, a2⟩ := h2 i p (by simpa using hp); exact ⟨k, a1, by simpa using a2⟩
    · cases h
  | .int .i8 _ :: _, _, h | .int .i16 _ :: _, _, h | .int .i32 _ :: _, _, h | .int .i64 _ :: _, _, h | .int .u16 _ :: _, _, h | .int .u32 _ :: _, _, h | .int .u64 _ :: _, _, h => by simp [bytesL] at h
  | .junk :: _, _, h | .bool _ :: _, _, h | .str _ :: _, _, h | .nil :: _, _, h | .cap0 :: _, _, h | .niln :: _, _, h | .emp :: _, _, h | .view _ :: _, _, h | .vptr _ :: _, _, h | .func _ _ :: _, _, h | .agg _ :: _, _, h => by simp [bytesL] at h
theorem bytesL_zs : ∀ {es : List PV} {l : List UInt8}, bytesL es = some l → ∃ zs : List Int, es = zs.map (fun n => PV.int .u8 n) ∧ l = zs.map fun n => UInt8.ofNat n.toNat
  | [], l, h => by simp only [bytesL, Option.some.injEq] at h; subst h; exact ⟨[], rfl, rfl⟩
  | p :: es, l, h => by
    obtain ⟨n, rfl, _⟩ := (bytesL_ok h).2 0 p rfl
    simp only [bytesL] at h
    split at h
    · rename_i m hm
      cases h
      obtain ⟨zs, rfl, rfl⟩ := bytesL_zs hm
      exact ⟨n :: zs, rfl, rfl⟩
    · cases h
theorem foldl_push_ofNat : ∀ (zs : List Int) (r : ByteArray), zs.foldl (fun r n => r.push (UInt8.ofNat n.toNat)) r = ⟨r.data ++ (zs.map fun n => UInt8.ofNat n.toNat).toArray⟩
  | [], r => by simp
  | n :: l, r => by
    simp only [List.foldl_cons]
    rw [foldl_push_ofNat l]
    simp [ByteArray.push]
theorem ok_stb (H : HRel B S β h W) {s : Slots} {ρ : Operand → Value} (Hs : Sl S β h W s ρ) {src dst e : TypeId} (h1 : P.underlying src = some (.slice e)) (h2 : P.underlying e = some (.int .u8)) (h3 : P.underlying dst = some .string) {x : Operand} {x' : Opd} (hx : opd x = some x') {d : Nat} {o : Out} (hs : sem (.stb x') d s h = some o) :
    Fine P B S β h W ((do let v ← convert src dst (ρ x); pure (.value v) : Sem Next).run P W) o := by
  have hX := Hs.opd hx
  simp only [sem] at hs
  split at hs
  · rename_i es rs hl
    split at hs
    · rename_i l hb
      split at hs
      · rename_i hm
        cases hs
        have hv := listOf_ok H hX hl rs (fun _ h => h)
        obtain ⟨g1, g2⟩ := bytesL_ok hb
        refine Fine.frz (v := .string (bs l)) H (run_val ?_) (.str l hm)
        generalize ρ x = v at hv ⊢
        have zero : ∀ (A : Option Addr) (c : Nat), es = [] → (convert src dst (.slice A 0 c)).run P W = .ok (.string (bs l)) W := by
          intro A c he
          subst he
          have hl0 : l = [] := List.eq_nil_of_length_eq_zero (by simpa using g1)
          subst hl0
          rw [run_convert_bytes_string W src dst e A 0 c h1 h2 h3]
          cases A with
          | none => simp [Conv.bytesToString, bs]; rfl
          | some a =>
            have hl := run_loadCells_list (P := P) W a (([] : List Int).map (Value.int .u8)) (fun j v hj => by simp at hj)
            rw [run_bytesToString W a 0 c [] hl]
            rfl
        cases hv with
        | view0 A c => exact zero A c rfl
        | view _ k off sz c u hc hmx hsz hS' hW hR' =>
          by_cases he : es = []
          · subst he; exact zero _ _ rfl
          rw [run_convert_bytes_string W src dst e (some ⟨k, off, none⟩) es.length c h1 h2 h3]
          have hsz1 : sz = 1 := by
            obtain ⟨p, m, rfl⟩ := List.exists_cons_of_ne_nil he
            obtain ⟨n, rfl, _⟩ := g2 0 p rfl
            exact (hsz 0 _ rfl).symm
          subst hsz1
          have hzs := bytesL_zs hb
          obtain ⟨zs, rfl, rfl⟩ := hzs
          have hl := run_loadCells_list (P := P) W ⟨k, off, none⟩ (zs.map (Value.int .u8)) (fun j v hj => by
            rw [List.getElem?_map] at hj
            obtain ⟨z, hz, rfl⟩ := Option.map_eq_some_iff.1 hj
            have a1 := hW j (.int .u8 z) 0 (.int .u8 z) (by simp [hz]) rfl
            have a2 := hR' j (.int .u8 z) 0 (.int .u8 z) (by simp [hz]) rfl
            rw [Nat.mul_one, Nat.add_zero] at a1
            generalize u j 0 = w at a1 a2
            cases a2
            rw [add_none']
            exact a1)
          simp only [List.length_map] at hl ⊢
          rw [run_bytesToString W ⟨k, off, none⟩ zs.length c zs hl, foldl_push_ofNat]
          have he0 : ByteArray.empty.data = #[] := rfl
          rw [he0]
          simp [bs]
      · cases hs
    · cases hs
  · cases hs
end
end Go.Proofs.Ytnojmocoifodjaa.Pv
