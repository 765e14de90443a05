/- The law ExprNest of this seat: a part of its proof (an abstract evaluator of the code that is proved sound, and contracts of functions), with no condition. -/
import Derived.Test.YtnojmocoifodjaaExprNestV3
import Derived.Test.YtnojmocoifodjaaExprNestV2
set_option maxRecDepth 100000
set_option maxHeartbeats 4000000
set_option linter.unusedVariables false
set_option linter.unusedSimpArgs false
namespace Go.Proofs.Ytnojmocoifodjaa.Pv
open Go Go.Proofs
def bEmit : List UInt8 := [101, 109, 105, 116]
def bRet : List UInt8 := [114, 101, 116]
def iX : In := ⟨bX, .zero, 0⟩
def emitsP (n : Int) : List In := [⟨bEmit, .zero, n⟩, ⟨bRet, .zero, 0⟩]
def genOf (o : Opn) : List In :=
  if o.kind = 2 ∨ o.kind = 4 ∨ o.kind = 5 then joinTo [] [eachP [] (genAll o.e), emitsP o.e.length]
  else if o.kind = 3 then
    setN (joinTo [] [eachP [] (genAll o.e), [iJf], [iX], emitsP 1]) (eachP [] (genAll o.e)).length (((eachP [] (genAll o.e)).length + 3 : Nat) : Int)
  else joinTo [] [[iX], emitsP 1]
def genKey (o : Opn) : List In := joinTo [] [genE o.key, emitsP 1]
theorem genAll_le (a : List Ex4) : ((genAll a).map List.length).sum ≤ sizEs a := sumAll (fun e he => genE_le _ e (Nat.le_refl _))
theorem sizEs_len : ∀ a : List Ex4, a.length ≤ sizEs a
  | [] => by simp
  | e :: a => by have := sizEs_len a; rw [sizEs, List.length_cons]; cases e; rw [sizE]; omega
theorem gen_each' {E : Enc} (hE : E = .std) (a : List Ex4) (hwa : wfEs a) (hsz : sizEs a ≤ 2 ^ 27) : CallsV Try.prog 60 [.view (E .exs a), .func 25 []] (.pv (.view (E .ins (eachP [] (genAll a))))) [] := by
  have h1 := genAll_le a
  have h2 := sizEs_len a
  have hEe : eachP [] (genAll a) = eachP [] (a.map genE) := by rw [genAll_eq]
  have := gen_each hE 25 a genE (fun e he => gen_Expr hE _ e (Nat.le_refl _) (wfEs_mem hwa he) (Nat.le_trans (sizEs_mem he) (by omega))) (by rw [← hEe, eachP_len]; simp; omega) (by omega)
  rw [← hEe] at this
  exact this
theorem gen_Of {E : Enc} (hE : E = .std) (o : Opn) (hwa : wfEs o.e) (hsz : sizEs o.e ≤ 2 ^ 27) : CallsV Try.prog 20 [E.opn o] (.pv (.view (E .ins (genOf o)))) [] := by
  obtain ⟨kind, name, ty, e, key, fold, n⟩ := o
  obtain ⟨A, hA⟩ : ∃ A : Ar, A = .std := ⟨_, rfl⟩
  have h1 := genAll_le e
  have h2 := sizEs_len e
  have ceach := gen_each' hE e hwa hsz
  obtain ⟨pe, hpe⟩ : ∃ p, p = eachP [] (genAll e) := ⟨_, rfl⟩
  have hpel : pe.length ≤ 2 ^ 28 := by rw [hpe, eachP_len]; simp at hsz ⊢; omega
  rw [← hpe] at ceach
  have hla : A .lenP (E .exs e) = Int.ofNat e.length := by rw [Ar.lenP_eq hA, E.exs_eq hE, List.length_map]; rfl
  have hcj : ∃ q, q = joinTo [] [pe, emitsP e.length] ∧ CallsV Try.prog 59 [.view [.view (E .ins pe), .view (E .ins (emitsP e.length))]] (.pv (.view (E .ins q))) [] := by
    refine ⟨_, rfl, ?_⟩
    have cj := gen_join' hE [pe, emitsP e.length] (by rw [joinTo_len]; simp [emitsP]; omega) (by simp)
    simpa only [E.inss_eq hE, List.map_cons, List.map_nil] using cj
  obtain ⟨q, hq, cj⟩ := hcj
  refine CallsV.ok (fn := Try.f20) (by kernel_rfl) (by kernel_rfl) rfl (by cbv) (by cbv) ?_
  by_cases k2 : kind = 2
  · have hs : genOf ⟨kind, name, ty, e, key, fold, n⟩ = q := by simp [genOf, k2, hq, hpe]
    rw [hs]
    have e2 : A .eq kind 2 = true := by rw [Ar.eq_eq hA]; exact decide_eq_true k2
    refine Ok.run hmix hA false 2000 (by cbv) ?_
    rw [e2]
    refine Ok.condT (by cbv) ?_
    refine Ok.run hmix hA false 2000 (by cbv) ?_
    refine Ok.condT (by cbv) ?_
    refine Ok.run hmix hA false 2000 (by cbv) ?_
    refine Ok.dcall (ceach) (by cbv) (by cbv) (by cbv) ?_
    refine Ok.run hmix hA false 2000 (by cbv) ?_
    rw [hla]
    refine Ok.dcall (gen_emits hE (Int.ofNat e.length)) (by cbv) (by cbv) (by cbv) ?_
    refine Ok.run hmix hA false 2000 (by cbv) ?_
    refine Ok.dcall (cj) (by cbv) (by cbv) (by cbv) ?_
    refine Ok.run hmix hA false 2000 (by cbv) ?_
    refine Ok.drawn (by kernel_rfl) ?_
    refine Ok.run hmix hA false 2000 (by cbv) ?_
    exact Ok.fin (by cbv) (FS.out (by cbv) (PLe.refl _))
  have e2 : A .eq kind 2 = false := by rw [Ar.eq_eq hA]; exact decide_eq_false k2
  refine Ok.run hmix hA false 2000 (by cbv) ?_
  rw [e2]
  refine Ok.condF (by cbv) ?_
  refine Ok.run hmix hA false 2000 (by cbv) ?_
  by_cases k4 : kind = 4
  · have hs : genOf ⟨kind, name, ty, e, key, fold, n⟩ = q := by simp [genOf, k4, hq, hpe]
    rw [hs]
    have e4 : A .eq kind 4 = true := by rw [Ar.eq_eq hA]; exact decide_eq_true k4
    rw [e4]
    refine Ok.condT (by cbv) ?_
    refine Ok.run hmix hA false 2000 (by cbv) ?_
    refine Ok.condT (by cbv) ?_
    refine Ok.run hmix hA false 2000 (by cbv) ?_
    refine Ok.dcall (ceach) (by cbv) (by cbv) (by cbv) ?_
    refine Ok.run hmix hA false 2000 (by cbv) ?_
    rw [hla]
    refine Ok.dcall (gen_emits hE (Int.ofNat e.length)) (by cbv) (by cbv) (by cbv) ?_
    refine Ok.run hmix hA false 2000 (by cbv) ?_
    refine Ok.dcall (cj) (by cbv) (by cbv) (by cbv) ?_
    refine Ok.run hmix hA false 2000 (by cbv) ?_
    refine Ok.drawn (by kernel_rfl) ?_
    refine Ok.run hmix hA false 2000 (by cbv) ?_
    exact Ok.fin (by cbv) (FS.out (by cbv) (PLe.refl _))
  have e4 : A .eq kind 4 = false := by rw [Ar.eq_eq hA]; exact decide_eq_false k4
  rw [e4]
  refine Ok.condF (by cbv) ?_
  refine Ok.run hmix hA false 2000 (by cbv) ?_
  by_cases k5 : kind = 5
  · have hs : genOf ⟨kind, name, ty, e, key, fold, n⟩ = q := by simp [genOf, k5, hq, hpe]
    rw [hs]
    have e5 : A .eq kind 5 = true := by rw [Ar.eq_eq hA]; exact decide_eq_true k5
    rw [e5]
    refine Ok.condT (by cbv) ?_
    refine Ok.run hmix hA false 2000 (by cbv) ?_
    refine Ok.dcall (ceach) (by cbv) (by cbv) (by cbv) ?_
    refine Ok.run hmix hA false 2000 (by cbv) ?_
    rw [hla]
    refine Ok.dcall (gen_emits hE (Int.ofNat e.length)) (by cbv) (by cbv) (by cbv) ?_
    refine Ok.run hmix hA false 2000 (by cbv) ?_
    refine Ok.dcall (cj) (by cbv) (by cbv) (by cbv) ?_
    refine Ok.run hmix hA false 2000 (by cbv) ?_
    refine Ok.drawn (by kernel_rfl) ?_
    refine Ok.run hmix hA false 2000 (by cbv) ?_
    exact Ok.fin (by cbv) (FS.out (by cbv) (PLe.refl _))
  have e5 : A .eq kind 5 = false := by rw [Ar.eq_eq hA]; exact decide_eq_false k5
  rw [e5]
  refine Ok.condF (by cbv) ?_
  refine Ok.run hmix hA false 2000 (by cbv) ?_
  by_cases k3 : kind = 3
  · have e3 : A .eq kind 3 = true := by rw [Ar.eq_eq hA]; exact decide_eq_true k3
    rw [e3]
    refine Ok.condT (by cbv) ?_
    obtain ⟨out, hout⟩ : ∃ out, out = joinTo [] [pe, [iJf], [iX], emitsP 1] := ⟨_, rfl⟩
    have hlen : out.length = pe.length + 4 := by rw [hout, joinTo_len]; simp [emitsP]
    obtain ⟨no, hno⟩ : ∃ no, no = out.length := ⟨_, rfl⟩
    obtain ⟨la, hla⟩ : ∃ la, la = pe.length := ⟨_, rfl⟩
    have ea : A .sub .i64 (Int.ofNat no) 4 = Int.ofNat la := by
      rw [Ar.sub_eq hA]
      show IntKind.wrap .i64 ((no : Int) - 4) = (la : Int)
      rw [IntWalk.i64_in _ ⟨by omega, by omega⟩]; omega
    obtain ⟨l3, hl3⟩ : ∃ l3, l3 = la + 3 := ⟨_, rfl⟩
    have eb : A .sub .i64 (Int.ofNat no) 1 = Int.ofNat l3 := by
      rw [Ar.sub_eq hA]
      show IntKind.wrap .i64 ((no : Int) - 1) = (l3 : Int)
      rw [IntWalk.i64_in _ ⟨by omega, by omega⟩]; omega
    have eno : A .lenN no = Int.ofNat no := Ar.lenN_eq hA no
    have c0 := gen_join hE [pe, [iJf], [iX], emitsP 1] (by rw [← hout]; omega) (by simp)
    rw [← hout, ← hno] at c0
    simp only [E.inss_eq hE, List.map_cons, List.map_nil] at c0
    obtain ⟨xa, hxa⟩ : ∃ x, out[la]? = some x := ⟨_, List.getElem?_eq_getElem (by omega)⟩
    obtain ⟨out2, hout2⟩ : ∃ o, o = setN out la (Int.ofNat l3) := ⟨_, rfl⟩
    have hs : genOf ⟨kind, name, ty, e, key, fold, n⟩ = out2 := by
      rw [hout2, hout, hl3, hla, hpe]; simp [genOf, k3]
    rw [hs]
    refine Ok.run hmix hA false 2000 (by cbv) ?_
    refine Ok.call (ceach) (by cbv) (by cbv) (by cbv) ?_
    refine Ok.run hmix hA false 2000 (by cbv) ?_
    refine Ok.call (gen_one hE [106, 102] 0) (by cbv) (by cbv) (by cbv) ?_
    refine Ok.run hmix hA false 2000 (by cbv) ?_
    refine Ok.call (gen_one hE [120] 0) (by cbv) (by cbv) (by cbv) ?_
    refine Ok.run hmix hA false 2000 (by cbv) ?_
    refine Ok.call (gen_emits hE 1) (by cbv) (by cbv) (by cbv) ?_
    refine Ok.run hmix hA false 2000 (by cbv) ?_
    refine Ok.call c0 (by cbv) (by cbv) (by cbv) ?_
    refine Ok.run hmix hA false 2000 (by cbv) ?_
    rw [eno, ea, eb]
    refine Ok.op (idx_ref (by cbv) (by cbv) (by cbv) (by rw [E.ins_eq hE, List.length_map, hno]) la rfl (by omega)) ?_
    refine Ok.run hmix hA false 2000 (by cbv) ?_
    refine Ok.op (fld_eptr (by cbv) (by cbv) (by rw [E.ins_eq hE, List.length_map, hno])) ?_
    refine Ok.run hmix hA false 2000 (by cbv) ?_
    refine Ok.op (store_eptr (by cbv) (by cbv) (by rw [E.ins_eq hE, List.length_map, hno]) (E.inn xa) (by rw [E.ins_eq hE]; simp [hxa]) (by cbv) (by decide) (by exact ⟨rfl, by decide, by simp [Enc.inn, PV.cells], rfl⟩) (E .ins out2) (by rw [hout2, setN_pv hE hxa]; rfl)) ?_
    refine Ok.run hmix hA false 2000 (by cbv) ?_
    exact Ok.fin (by cbv) (FS.ref (by cbv) (by rw [E.ins_eq hE, List.length_map, hno, hout2, setN_len]))
  · have e3 : A .eq kind 3 = false := by rw [Ar.eq_eq hA]; exact decide_eq_false k3
    rw [e3]
    refine Ok.condF (by cbv) ?_
    have hs : genOf ⟨kind, name, ty, e, key, fold, n⟩ = joinTo [] [[iX], emitsP 1] := by simp [genOf, k2, k3, k4, k5]
    rw [hs]
    refine Ok.run hmix hA false 2000 (by cbv) ?_
    refine Ok.call (gen_one hE [120] 0) (by cbv) (by cbv) (by cbv) ?_
    refine Ok.run hmix hA false 2000 (by cbv) ?_
    refine Ok.call (gen_emits hE 1) (by cbv) (by cbv) (by cbv) ?_
    refine Ok.run hmix hA false 2000 (by cbv) ?_
    (have c0 := gen_join' hE [[iX], emitsP 1] (by decide) (by decide); simp only [E.inss_eq hE, List.map_cons, List.map_nil] at c0; refine Ok.call c0 (by cbv) (by cbv) (by cbv) ?_)
    refine Ok.run hmix hA false 2000 (by cbv) ?_
    exact Ok.fin (by cbv) (FS.out (by cbv) (PLe.refl _))
theorem gen_Key {E : Enc} (hE : E = .std) (o : Opn) (hwa : wfE o.key) (hsz : sizE o.key ≤ 2 ^ 27) : CallsV Try.prog 23 [E.opn o] (.pv (.view (E .ins (genKey o)))) [] := by
  obtain ⟨kind, name, ty, e, ⟨op, v, k, a⟩, fold, n⟩ := o
  obtain ⟨A, hA⟩ : ∃ A : Ar, A = .std := ⟨_, rfl⟩
  have h1 := genE_le _ (Ex4.mk op v k a) (Nat.le_refl _)
  have c1 := gen_Expr hE _ (Ex4.mk op v k a) (Nat.le_refl _) hwa hsz
  unfold genKey
  simp only [] at h1 hsz ⊢
  generalize genE (Ex4.mk op v k a) = pe at h1 c1
  have cj := gen_join' hE [pe, emitsP 1] (by rw [joinTo_len]; simp [emitsP]; omega) (by simp)
  simp only [E.inss_eq hE, List.map_cons, List.map_nil] at cj
  generalize joinTo [] [pe, emitsP 1] = q at cj
  refine CallsV.ok (fn := Try.f23) (by kernel_rfl) (by kernel_rfl) rfl (by cbv) (by cbv) ?_
  refine Ok.run hmix hA false 2000 (by cbv) ?_
  refine Ok.call (c1) (by cbv) (by cbv) (by cbv) ?_
  refine Ok.run hmix hA false 2000 (by cbv) ?_
  refine Ok.call (gen_emits hE 1) (by cbv) (by cbv) (by cbv) ?_
  refine Ok.run hmix hA false 2000 (by cbv) ?_
  refine Ok.call (cj) (by cbv) (by cbv) (by cbv) ?_
  refine Ok.run hmix hA false 2000 (by cbv) ?_
  exact Ok.fin (by cbv) (FS.out (by cbv) (PLe.refl _))
theorem law4_X {E : Enc} (hE : E = .std) : CallsV Try.prog 27 [] (.pv (E.ex ⟨bX, .zero, 0, []⟩)) [] := by
  obtain ⟨A, hA⟩ : ∃ A : Ar, A = .std := ⟨_, rfl⟩
  have h0 : E .vls [] = [] := by rw [E.vls_eq hE]; rfl
  have h1 : E .exs [] = [] := by rw [E.exs_eq hE]; rfl
  refine CallsV.ok (fn := Try.f27) (by kernel_rfl) (by kernel_rfl) rfl (by cbv) (by cbv) ?_
  refine Ok.run hmix hA false 2000 (by cbv) ?_
  refine Ok.fin (by cbv) (FS.out (by cbv) (PLe.of ?_))
  simp [Enc.ex, Vl.zero, h0, h1, bX]
theorem law4_Op {E : Enc} (hE : E = .std) (op : List UInt8) (a : List Ex4) : CallsV Try.prog 28 [.str op, .view (E .exs a)] (.pv (E.ex ⟨op, .zero, 0, a⟩)) [] := by
  obtain ⟨A, hA⟩ : ∃ A : Ar, A = .std := ⟨_, rfl⟩
  have h0 : E .vls [] = [] := by rw [E.vls_eq hE]; rfl
  refine CallsV.ok (fn := Try.f28) (by kernel_rfl) (by kernel_rfl) rfl (by cbv) (by cbv) ?_
  refine Ok.run hmix hA false 2000 (by cbv) ?_
  refine Ok.fin (by cbv) (FS.out (by cbv) (PLe.of ?_))
  simp [Enc.ex, Vl.zero, h0]
theorem law4_Lit {E : Enc} (hE : E = .std) (v : Vl) : CallsV Try.prog 29 [E.vl v] (.pv (E.ex ⟨bLit, v, 0, []⟩)) [] := by
  obtain ⟨A, hA⟩ : ∃ A : Ar, A = .std := ⟨_, rfl⟩
  have h1 : E .exs [] = [] := by rw [E.exs_eq hE]; rfl
  refine CallsV.ok (fn := Try.f29) (by kernel_rfl) (by kernel_rfl) rfl (by cbv) (by cbv) ?_
  refine Ok.run hmix hA false 2000 (by cbv) ?_
  refine Ok.fin (by cbv) (FS.out (by cbv) (PLe.of ?_))
  simp [Enc.ex, h1, bLit]
end Go.Proofs.Ytnojmocoifodjaa.Pv
set_option maxRecDepth 100000
set_option maxHeartbeats 4000000
set_option linter.unusedVariables false
set_option linter.unusedSimpArgs false
namespace Go.Proofs.Ytnojmocoifodjaa.Pv
open Go Go.Proofs
mutual
def szV : Vl → Nat
  | .mk k i b s t => 1 + szVs t
def szVs : List Vl → Nat
  | [] => 0
  | v :: l => szV v + szVs l
end
theorem szVs_mem : ∀ {l : List Vl} {e : Vl}, e ∈ l → szV e ≤ szVs l
  | [], e, he => by simp at he
  | x :: l, e, he => by
    rw [szVs]
    rcases List.mem_cons.1 he with rfl | he
    · omega
    · have := szVs_mem he; omega
theorem szVs_len : ∀ a : List Vl, a.length ≤ szVs a
  | [] => by simp
  | e :: a => by have := szVs_len a; rw [szVs, List.length_cons]; cases e; rw [szV]; omega
theorem law2_Of {E : Enc} (hE : E = .std) : ∀ (n : Nat) (v : Vl), SizeOf.sizeOf v ≤ n → szV v ≤ 2 ^ 28 → CallsV Try.prog 69 [E.vl v] (.pv (E.vl v)) [] := by
  intro n
  induction n with
  | zero => intro v h; cases v; simp at h
  | succ n ih =>
    rintro ⟨kind, vi, vb, vs, l⟩ hn hsz
    obtain ⟨A, hA⟩ : ∃ A : Ar, A = .std := ⟨_, rfl⟩
    rw [szV] at hsz
    have hlen := szVs_len l
    have hsub : ∀ e, e ∈ l → CallsV Try.prog 69 [E.vl e] (.pv (E.vl e)) [] := fun e he => by
      have h1 := List.sizeOf_lt_of_mem he
      have h2 := szVs_mem he
      simp at hn
      exact ih e (by omega) (by omega)
    have hll : A .lenP (E .vls l) = Int.ofNat l.length := by rw [Ar.lenP_eq hA, E.vls_eq hE, List.length_map]; rfl
    refine CallsV.ok (fn := Try.f69) (by kernel_rfl) (by kernel_rfl) rfl (by cbv) (by cbv) ?_
    refine Ok.run hmix hA false 2000 (by cbv) ?_
    refine Ok.le (Le.nilBox 3 4 30 42 5 (by cbv) (by cbv) (by cbv) (by decide)) ?_
    refine Ok.loopAt [1, 2, 3, 4] [1, 2, 3, 30] (fun m s h => ∃ (k q : Nat) (es : List PV), m = l.length - k ∧ k ≤ l.length ∧ q = k ∧ es = E .vls (l.take k) ∧
      s = mkS 33 [(1, .ptr 1 0), (2, .ptr 2 0), (3, .ptr 3 0), (4, .pv (.int .i64 (Int.ofNat k)))] ∧
      h = [(1, .box [.pv (.int .i64 kind), .pv (.int .i64 vi), .pv (.bool vb), .pv (.str vs), .pv (.view (E .vls l))] true), (2, .box [.pv (.int .i64 0), .pv (.int .i64 0), .pv (.bool false), .pv (.str []), .pv .nil] true),
        (3, .box [.pv (.int .i64 kind), .pv (.int .i64 vi), .pv (.bool vb), .pv (.str vs), .ref 30 q] true), (30, .row 42 5 es true)]) (l.length - 0) (by cbv) ⟨0, 0, [], rfl, Nat.zero_le _, rfl, by rw [E.vls_eq hE]; rfl, by cbv, by cbv⟩ ?_
    rintro m s h ⟨k, q, es, rfl, hk, hq, hes, rfl, rfl⟩
    have hesl : q = es.length := by rw [hes, E.vls_eq hE, List.length_map, List.length_take]; omega
    refine Ok.run hmix hA false 2000 (by cbv) ?_
    refine Ok.cond (by cbv) ?_ ?_
    · intro h1
      rw [Ar.lt_eq hA, hll, decide_eq_true_eq] at h1
      have hkl : k < l.length := by simpa using h1
      have hx : l[k]? = some l[k] := List.getElem?_eq_getElem hkl
      have hm : l[k] ∈ l := List.getElem_mem hkl
      have htake : l.take (k + 1) = l.take k ++ [l[k]] := by rw [List.take_add_one, hx]; rfl
      generalize l[k] = e at hx hm htake
      have hge := hsub e hm
      refine Ok.run hmix hA false 2000 (by cbv) ?_
      refine Ok.dop (idx_view (E.vl e) (by cbv) (by cbv) (by simp) (by rw [E.vls_eq hE]; simp [hx]) rfl) ?_
      refine Ok.run hmix hA false 2000 (by cbv) ?_
      refine Ok.dcall (hge) (by cbv) (by cbv) (by cbv) ?_
      refine Ok.run hmix hA false 2000 (by cbv) ?_
      obtain ⟨es3, hes3⟩ : ∃ es3, es3 = es ++ [E.vl e] := ⟨_, rfl⟩
      obtain ⟨n3, hn3⟩ : ∃ n3, n3 = q + 1 := ⟨_, rfl⟩
      refine Ok.dop (app_ref (by cbv) (by cbv) hesl (by cbv) (by cbv) (by decide) (by simp only [List.length_singleton]; omega) (by unfold maxLen; simp only [List.length_singleton]; omega) n3 (by exact hn3) es3 (by rw [hes3]; rfl)) ?_
      refine Ok.run hmix hA false 2000 (by cbv) ?_
      refine Ok.drawn (by kernel_rfl) ?_
      refine Ok.run hmix hA false 2000 (by cbv) ?_
      refine Ok.back (l.length - (k + 1)) [1, 2, 3, 4] [1, 2, 3, 30] (by omega) (by cbv) ⟨k + 1, n3, es3, rfl, by omega, by omega, by rw [hes3, hes, htake, E.vls_eq hE, E.vls_eq hE]; simp, ?_, by cbv⟩
      rw [Ar.succ_eq hA (by omega)]; cbv
    · intro h1
      have hke : k = l.length := by
        rw [Ar.lt_eq hA, hll, decide_eq_false_iff_not] at h1
        simp at h1; omega
      subst hke
      rw [List.take_length] at hes
      subst hes
      refine Ok.run hmix hA false 2000 (by cbv) ?_
      refine Ok.leave ?_
      refine Ok.run hmix hA false 2000 (by cbv) ?_
      exact Ok.fin (by cbv) (FS.out (p := E.vl ⟨kind, vi, vb, vs, l⟩) (ids := [30]) (by simp [frz2, frz1, frzL, frz0, PV.rlx, rowOf, hget, ← hesl, Enc.vl]) (PLe.refl _))
end Go.Proofs.Ytnojmocoifodjaa.Pv
set_option maxRecDepth 100000
set_option maxHeartbeats 4000000
set_option linter.unusedVariables false
set_option linter.unusedSimpArgs false
namespace Go.Proofs.Ytnojmocoifodjaa.Pv
open Go Go.Proofs
def lessZ (b : Bool) : Int := if b then -1 else 1
mutual
def cmpV : Vl → Vl → Int
  | .mk k i b s t, .mk k' i' b' s' t' =>
    if ¬ k = k' then lessZ (decide (k < k'))
    else if ¬ i = i' then lessZ (decide (i < i'))
    else if ¬ b = b' then lessZ b'
    else if ¬ s = s' then lessZ (Op.bytesLess s s')
    else cmpVs t t'
def cmpVs : List Vl → List Vl → Int
  | [], [] => 0
  | [], _ :: _ => -1
  | _ :: _, [] => 1
  | x :: l, y :: m => if ¬ cmpV x y = 0 then cmpV x y else cmpVs l m
end
mutual
theorem cmpV_refl : ∀ v, cmpV v v = 0
  | .mk k i b s t => by simp [cmpV, cmpVs_refl t]
theorem cmpVs_refl : ∀ l, cmpVs l l = 0
  | [] => rfl
  | x :: l => by simp [cmpVs, cmpV_refl x, cmpVs_refl l]
end
theorem ref6_less (b : Bool) : CallsV Try.prog 160 [.bool b] (.pv (.int .i64 (lessZ b))) [] := by
  obtain ⟨A, hA⟩ : ∃ A : Ar, A = .std := ⟨_, rfl⟩
  refine CallsV.ok (fn := Try.f160) (by kernel_rfl) (by kernel_rfl) rfl (by cbv) (by cbv) ?_
  cases b
  · refine Ok.run hmix hA false 2000 (by cbv) ?_
    refine Ok.condF (by cbv) ?_
    refine Ok.run hmix hA false 2000 (by cbv) ?_
    exact Ok.fin (by cbv) (FS.out (by cbv) (PLe.refl _))
  · refine Ok.run hmix hA false 2000 (by cbv) ?_
    refine Ok.condT (by cbv) ?_
    refine Ok.run hmix hA false 2000 (by cbv) ?_
    have h1 : A .sub .i64 0 1 = -1 := by rw [Ar.sub_eq hA]; decide
    try rw [h1]
    exact Ok.fin (by cbv) (FS.out (by cbv) (PLe.refl _))
theorem ref6_Compare {E : Enc} (hE : E = .std) : ∀ (n : Nat) (v w : Vl), SizeOf.sizeOf v ≤ n → szV v ≤ 2 ^ 28 → szV w ≤ 2 ^ 28 → CallsV Try.prog 141 [E.vl v, E.vl w] (.pv (.int .i64 (cmpV v w))) [] := by
  intro n
  induction n with
  | zero => intro v w h; cases v; simp at h
  | succ n ih =>
    rintro ⟨k1, i1, b1, s1, l⟩ ⟨k2, i2, b2, s2, m⟩ hn hsz hsw
    obtain ⟨A, hA⟩ : ∃ A : Ar, A = .std := ⟨_, rfl⟩
    rw [szV] at hsz hsw
    have hlen := szVs_len l
    have hlem := szVs_len m
    have hll : A .lenP (E .vls l) = Int.ofNat l.length := by rw [Ar.lenP_eq hA, E.vls_eq hE, List.length_map]; rfl
    have hlm : A .lenP (E .vls m) = Int.ofNat m.length := by rw [Ar.lenP_eq hA, E.vls_eq hE, List.length_map]; rfl
    refine CallsV.ok (fn := Try.f141) (by kernel_rfl) (by kernel_rfl) rfl (by cbv) (by cbv) ?_
    refine Ok.run hmix hA false 2000 (by cbv) ?_
    refine Ok.cond (by cbv) ?_ ?_
    · intro h1
      have h1 : ¬ k1 = k2 := by rw [Ar.not_eq hA, Ar.eq_eq hA] at h1; simpa using h1
      rw [cmpV, if_pos h1]
      refine Ok.run hmix hA false 2000 (by cbv) ?_
      rw [Ar.lt_eq hA]
      obtain ⟨b, hb⟩ : ∃ b, b = decide (k1 < k2) := ⟨_, rfl⟩
      rw [← hb]
      refine Ok.call (ref6_less b) (by cbv) (by cbv) (by cbv) ?_
      refine Ok.run hmix hA false 2000 (by cbv) ?_
      exact Ok.fin (by cbv) (FS.out (by cbv) (PLe.refl _))
    intro h1
    have h1 : k1 = k2 := by rw [Ar.not_eq hA, Ar.eq_eq hA] at h1; simpa using h1
    refine Ok.run hmix hA false 2000 (by cbv) ?_
    refine Ok.cond (by cbv) ?_ ?_
    · intro h2
      have h2 : ¬ i1 = i2 := by rw [Ar.not_eq hA, Ar.eq_eq hA] at h2; simpa using h2
      rw [cmpV, if_neg (by simpa using h1), if_pos h2]
      refine Ok.run hmix hA false 2000 (by cbv) ?_
      rw [Ar.lt_eq hA]
      obtain ⟨b, hb⟩ : ∃ b, b = decide (i1 < i2) := ⟨_, rfl⟩
      rw [← hb]
      refine Ok.call (ref6_less b) (by cbv) (by cbv) (by cbv) ?_
      refine Ok.run hmix hA false 2000 (by cbv) ?_
      exact Ok.fin (by cbv) (FS.out (by cbv) (PLe.refl _))
    intro h2
    have h2 : i1 = i2 := by rw [Ar.not_eq hA, Ar.eq_eq hA] at h2; simpa using h2
    refine Ok.run hmix hA false 2000 (by cbv) ?_
    refine Ok.cond (by cbv) ?_ ?_
    · intro h3
      have h3 : ¬ b1 = b2 := by rw [Ar.not_eq hA, Ar.beq_eq hA] at h3; simpa using h3
      rw [cmpV, if_neg (by simpa using h1), if_neg (by simpa using h2), if_pos h3]
      refine Ok.run hmix hA false 2000 (by cbv) ?_
      refine Ok.call (ref6_less b2) (by cbv) (by cbv) (by cbv) ?_
      refine Ok.run hmix hA false 2000 (by cbv) ?_
      exact Ok.fin (by cbv) (FS.out (by cbv) (PLe.refl _))
    intro h3
    have h3 : b1 = b2 := by rw [Ar.not_eq hA, Ar.beq_eq hA] at h3; simpa using h3
    refine Ok.run hmix hA false 2000 (by cbv) ?_
    refine Ok.cond (by cbv) ?_ ?_
    · intro h4
      have h4 : ¬ s1 = s2 := by rw [Ar.not_eq hA, Ar.seq_eq hA] at h4; simpa using h4
      rw [cmpV, if_neg (by simpa using h1), if_neg (by simpa using h2), if_neg (by simpa using h3), if_pos h4]
      refine Ok.run hmix hA false 2000 (by cbv) ?_
      rw [Ar.slt_eq hA]
      obtain ⟨b, hb⟩ : ∃ b, b = Op.bytesLess s1 s2 := ⟨_, rfl⟩
      rw [← hb]
      refine Ok.call (ref6_less b) (by cbv) (by cbv) (by cbv) ?_
      refine Ok.run hmix hA false 2000 (by cbv) ?_
      exact Ok.fin (by cbv) (FS.out (by cbv) (PLe.refl _))
    intro h4
    have h4 : s1 = s2 := by rw [Ar.not_eq hA, Ar.seq_eq hA] at h4; simpa using h4
    rw [cmpV, if_neg (by simpa using h1), if_neg (by simpa using h2), if_neg (by simpa using h3), if_neg (by simpa using h4)]
    refine Ok.run hmix hA false 2000 (by cbv) ?_
    refine Ok.loopAt [2, 3, 5] [2, 3] (fun mm s h => ∃ (k : Nat), mm = l.length - k ∧ k ≤ l.length ∧ k ≤ m.length ∧ cmpVs (l.drop k) (m.drop k) = cmpVs l m ∧
      s = mkS 95 [(2, .ptr 2 0), (3, .ptr 3 0), (5, .pv (.int .i64 (Int.ofNat k)))] ∧
      h = [(2, .box [.pv (.int .i64 k1), .pv (.int .i64 i1), .pv (.bool b1), .pv (.str s1), .pv (.view (E .vls l))] true), (3, .box [.pv (.int .i64 k2), .pv (.int .i64 i2), .pv (.bool b2), .pv (.str s2), .pv (.view (E .vls m))] true)]) (l.length - 0) (by cbv) ⟨0, rfl, Nat.zero_le _, Nat.zero_le _, rfl, by cbv, by cbv⟩ ?_
    rintro mm s h ⟨k, rfl, hk, hkm, hcmp, rfl, rfl⟩
    have stop : ∀ (b : Bool), b = false → (b = decide (k < l.length ∧ k < m.length)) → (¬ (k < l.length ∧ k < m.length)) := fun b h1 h2 => by rw [h1] at h2; simpa using h2
    refine Ok.run hmix hA false 2000 (by cbv) ?_
    by_cases hkl : k < l.length
    · have e1 : A .lt (Int.ofNat k) (A .lenP (E .vls l)) = true := by rw [Ar.lt_eq hA, hll]; simpa using hkl
      rw [e1]
      by_cases hkm2 : k < m.length
      · have e2 : A .lt (Int.ofNat k) (A .lenP (E .vls m)) = true := by rw [Ar.lt_eq hA, hlm]; simpa using hkm2
        refine Ok.run hmix hA true 5 (by cbv) ?_
        rw [e2]
        refine Ok.run hmix hA true 2000 (by cbv) ?_
        refine Ok.condT (by cbv) ?_
        have hx : l[k]? = some l[k] := List.getElem?_eq_getElem hkl
        have hm : l[k] ∈ l := List.getElem_mem hkl
        have hdl : l.drop k = l[k] :: l.drop (k + 1) := List.drop_eq_getElem_cons hkl
        have hy : m[k]? = some m[k] := List.getElem?_eq_getElem hkm2
        have hmm : m[k] ∈ m := List.getElem_mem hkm2
        have hdm : m.drop k = m[k] :: m.drop (k + 1) := List.drop_eq_getElem_cons hkm2
        generalize l[k] = x at hx hm hdl
        generalize m[k] = y at hy hmm hdm
        have cxy : CallsV Try.prog 141 [E.vl x, E.vl y] (.pv (.int .i64 (cmpV x y))) [] := by
          have h1 := List.sizeOf_lt_of_mem hm
          have h2 := szVs_mem hm
          have h3 := szVs_mem hmm
          simp at hn
          exact ih x y (by omega) (by omega) (by omega)
        rw [hdl, hdm, cmpVs] at hcmp
        obtain ⟨c, hc⟩ : ∃ c, c = cmpV x y := ⟨_, rfl⟩
        rw [← hc] at cxy hcmp
        refine Ok.run hmix hA false 2000 (by cbv) ?_
        refine Ok.dop (idx_view (E.vl x) (by cbv) (by cbv) (by simp) (by rw [E.vls_eq hE]; simp [hx]) rfl) ?_
        refine Ok.run hmix hA false 2000 (by cbv) ?_
        refine Ok.dop (idx_view (E.vl y) (by cbv) (by cbv) (by simp) (by rw [E.vls_eq hE]; simp [hy]) rfl) ?_
        refine Ok.run hmix hA false 2000 (by cbv) ?_
        refine Ok.dcall (cxy) (by cbv) (by cbv) (by cbv) ?_
        refine Ok.run hmix hA false 2000 (by cbv) ?_
        refine Ok.drawn (by kernel_rfl) ?_
        refine Ok.run hmix hA false 2000 (by cbv) ?_
        refine Ok.cond (by cbv) ?_ ?_
        · intro h5
          have h5 : ¬ c = 0 := by rw [Ar.not_eq hA, Ar.eq_eq hA] at h5; simpa using h5
          rw [if_pos h5] at hcmp
          rw [← hcmp]
          refine Ok.run hmix hA false 2000 (by cbv) ?_
          refine Ok.leaveRet ?_
          refine Ok.run hmix hA false 2000 (by cbv) ?_
          exact Ok.fin (by cbv) (FS.out (by cbv) (PLe.refl _))
        · intro h5
          have h5 : c = 0 := by rw [Ar.not_eq hA, Ar.eq_eq hA] at h5; simpa using h5
          rw [if_neg (by simpa using h5)] at hcmp
          refine Ok.run hmix hA false 2000 (by cbv) ?_
          refine Ok.back (l.length - (k + 1)) [2, 3, 5] [2, 3] (by omega) (by cbv) ⟨k + 1, rfl, by omega, by omega, hcmp, ?_, by cbv⟩
          rw [Ar.succ_eq hA (by omega)]; cbv
      · have e2 : A .lt (Int.ofNat k) (A .lenP (E .vls m)) = false := by rw [Ar.lt_eq hA, hlm]; simpa using hkm2
        have hke : k = m.length := by omega
        refine Ok.run hmix hA true 5 (by cbv) ?_
        rw [e2]
        refine Ok.run hmix hA true 2000 (by cbv) ?_
        refine Ok.condF (by cbv) ?_
        refine Ok.run hmix hA false 2000 (by cbv) ?_
        refine Ok.leave ?_
        refine Ok.run hmix hA false 2000 (by cbv) ?_
        have e3 : A .not (A .eq (A .lenP (E .vls l)) (A .lenP (E .vls m))) = true := by rw [hll, hlm, Ar.not_eq hA, Ar.eq_eq hA]; simp; omega
        have e4 : A .lt (A .lenP (E .vls l)) (A .lenP (E .vls m)) = false := by rw [hll, hlm, Ar.lt_eq hA]; simp; omega
        rw [e3]
        refine Ok.condT (by cbv) ?_
        refine Ok.run hmix hA false 2000 (by cbv) ?_
        rw [e4]
        refine Ok.call (ref6_less false) (by cbv) (by cbv) (by cbv) ?_
        refine Ok.run hmix hA false 2000 (by cbv) ?_
        have : cmpVs l m = 1 := by
          rw [← hcmp, hke, List.drop_length]
          have : l.drop m.length ≠ [] := by simp; omega
          cases h : l.drop m.length with
          | nil => exact absurd h this
          | cons a t => rfl
        rw [this]
        exact Ok.fin (by cbv) (FS.out (by cbv) (PLe.refl _))
    · have e1 : A .lt (Int.ofNat k) (A .lenP (E .vls l)) = false := by rw [Ar.lt_eq hA, hll]; simpa using hkl
      have hke : k = l.length := by omega
      rw [e1]
      refine Ok.run hmix hA true 2000 (by cbv) ?_
      refine Ok.condF (by cbv) ?_
      refine Ok.run hmix hA false 2000 (by cbv) ?_
      refine Ok.leave ?_
      refine Ok.run hmix hA false 2000 (by cbv) ?_
      by_cases hlm2 : l.length = m.length
      · have e3 : A .not (A .eq (A .lenP (E .vls l)) (A .lenP (E .vls m))) = false := by rw [hll, hlm, Ar.not_eq hA, Ar.eq_eq hA]; simp; omega
        rw [e3]
        refine Ok.condF (by cbv) ?_
        refine Ok.run hmix hA false 2000 (by cbv) ?_
        have : cmpVs l m = 0 := by rw [← hcmp, hke, List.drop_length, hlm2, List.drop_length]; rfl
        rw [this]
        exact Ok.fin (by cbv) (FS.out (by cbv) (PLe.refl _))
      · have e3 : A .not (A .eq (A .lenP (E .vls l)) (A .lenP (E .vls m))) = true := by rw [hll, hlm, Ar.not_eq hA, Ar.eq_eq hA]; simp; omega
        have e4 : A .lt (A .lenP (E .vls l)) (A .lenP (E .vls m)) = true := by rw [hll, hlm, Ar.lt_eq hA]; simp; omega
        rw [e3]
        refine Ok.condT (by cbv) ?_
        refine Ok.run hmix hA false 2000 (by cbv) ?_
        rw [e4]
        refine Ok.call (ref6_less true) (by cbv) (by cbv) (by cbv) ?_
        refine Ok.run hmix hA false 2000 (by cbv) ?_
        have : cmpVs l m = -1 := by
          rw [← hcmp, hke, List.drop_length]
          have : m.drop l.length ≠ [] := by simp; omega
          cases h : m.drop l.length with
          | nil => exact absurd h this
          | cons a t => rfl
        rw [this]
        exact Ok.fin (by cbv) (FS.out (by cbv) (PLe.refl _))
end Go.Proofs.Ytnojmocoifodjaa.Pv
set_option maxRecDepth 100000
set_option maxHeartbeats 4000000
set_option linter.unusedVariables false
set_option linter.unusedSimpArgs false
namespace Go.Proofs.Ytnojmocoifodjaa.Pv
open Go Go.Proofs
def cmpI (x y : Int) : Int := if x < y then -1 else if y < x then 1 else 0
theorem cmp_isNaN (x : Int) : CallsV Try.prog 189 [.int .i64 x] (.pv (.bool false)) [] := by
  obtain ⟨A, hA⟩ : ∃ A : Ar, A = .std := ⟨_, rfl⟩
  refine CallsV.ok (fn := Try.f189) (by kernel_rfl) (by kernel_rfl) rfl (by cbv) (by cbv) ?_
  repeat' (first | (apply Ok.run1 hmix hA false 2000; focus (cbv; done)) | (apply Ok.one hmix hA; focus (cbv; done)) | (rw [Ar.notT hA]) | (rw [Ar.notF hA]) | (refine Ok.condT ?_ ?_; focus (cbv; done)) | (refine Ok.condF ?_ ?_; focus (cbv; done)) | (refine Ok.drawnE (by as_aux_lemma => kernel_rfl) ?_) | (apply Ok.cond; (focus (cbv; done)); all_goals (intro hh; (try rw [hh]))) | (apply Ok.splitG; (focus (cbv; done)); all_goals (intro hh; (try rw [hh]))) | (apply Ok.splitP; (focus (cbv; done)); all_goals (intro hh; (try rw [hh]))) | (apply Ok.fin1; (focus (cbv; done)); (focus (cbv; done))) | (apply Ok.fin2; (focus (cbv; done)); (focus (cbv; done))) | (apply Ok.fin3; (focus (cbv; done)); (focus (cbv; done))))
  all_goals (subst hA; simp_all [Ar.std])
theorem cmp_isNaN64 (x : Int) : CallsV Try.prog 190 [.int .i64 x] (.pv (.bool false)) [] := by
  obtain ⟨A, hA⟩ : ∃ A : Ar, A = .std := ⟨_, rfl⟩
  refine CallsV.ok (fn := Try.f190) (by kernel_rfl) (by kernel_rfl) rfl (by cbv) (by cbv) ?_
  repeat' (first | (apply Ok.run1 hmix hA false 2000; focus (cbv; done)) | (apply Ok.one hmix hA; focus (cbv; done)) | (rw [Ar.notT hA]) | (rw [Ar.notF hA]) | (refine Ok.condT ?_ ?_; focus (cbv; done)) | (refine Ok.condF ?_ ?_; focus (cbv; done)) | (refine Ok.drawnE (by as_aux_lemma => kernel_rfl) ?_) | (apply Ok.cond; (focus (cbv; done)); all_goals (intro hh; (try rw [hh]))) | (apply Ok.splitG; (focus (cbv; done)); all_goals (intro hh; (try rw [hh]))) | (apply Ok.splitP; (focus (cbv; done)); all_goals (intro hh; (try rw [hh]))) | (apply Ok.fin1; (focus (cbv; done)); (focus (cbv; done))) | (apply Ok.fin2; (focus (cbv; done)); (focus (cbv; done))) | (apply Ok.fin3; (focus (cbv; done)); (focus (cbv; done))))
  all_goals (subst hA; simp_all [Ar.std])
theorem cmp_Compare (x y : Int) : CallsV Try.prog 183 [.int .i64 x, .int .i64 y] (.pv (.int .i64 (cmpI x y))) [] := by
  obtain ⟨A, hA⟩ : ∃ A : Ar, A = .std := ⟨_, rfl⟩
  refine CallsV.ok (fn := Try.f183) (by kernel_rfl) (by kernel_rfl) rfl (by cbv) (by cbv) ?_
  repeat' (first | (apply Ok.run1 hmix hA false 2000; focus (cbv; done)) | (apply Ok.one hmix hA; focus (cbv; done)) | (rw [Ar.notT hA]) | (rw [Ar.notF hA]) | (refine Ok.condT ?_ ?_; focus (cbv; done)) | (refine Ok.condF ?_ ?_; focus (cbv; done)) | (refine Ok.drawnE (by as_aux_lemma => kernel_rfl) ?_) | (apply Ok.call (cmp_isNaN _); (focus (cbv; done)); (focus (cbv; done)); (focus (cbv; done))) | (apply Ok.dcall (cmp_isNaN _); (focus (cbv; done)); (focus (cbv; done)); (focus (cbv; done))) | (apply Ok.cond; (focus (cbv; done)); all_goals (intro hh; (try rw [hh]))) | (apply Ok.splitG; (focus (cbv; done)); all_goals (intro hh; (try rw [hh]))) | (apply Ok.splitP; (focus (cbv; done)); all_goals (intro hh; (try rw [hh]))) | (apply Ok.fin1; (focus (cbv; done)); (focus (cbv; done))) | (apply Ok.fin2; (focus (cbv; done)); (focus (cbv; done))) | (apply Ok.fin3; (focus (cbv; done)); (focus (cbv; done))))
  all_goals (subst hA; simp_all [Ar.std, cmpI])
  all_goals (repeat' split <;> omega)
theorem cmp_Compare64 (x y : Int) : CallsV Try.prog 184 [.int .i64 x, .int .i64 y] (.pv (.int .i64 (cmpI x y))) [] := by
  obtain ⟨A, hA⟩ : ∃ A : Ar, A = .std := ⟨_, rfl⟩
  refine CallsV.ok (fn := Try.f184) (by kernel_rfl) (by kernel_rfl) rfl (by cbv) (by cbv) ?_
  repeat' (first | (apply Ok.run1 hmix hA false 2000; focus (cbv; done)) | (apply Ok.one hmix hA; focus (cbv; done)) | (rw [Ar.notT hA]) | (rw [Ar.notF hA]) | (refine Ok.condT ?_ ?_; focus (cbv; done)) | (refine Ok.condF ?_ ?_; focus (cbv; done)) | (refine Ok.drawnE (by as_aux_lemma => kernel_rfl) ?_) | (apply Ok.call (cmp_isNaN64 _); (focus (cbv; done)); (focus (cbv; done)); (focus (cbv; done))) | (apply Ok.dcall (cmp_isNaN64 _); (focus (cbv; done)); (focus (cbv; done)); (focus (cbv; done))) | (apply Ok.cond; (focus (cbv; done)); all_goals (intro hh; (try rw [hh]))) | (apply Ok.splitG; (focus (cbv; done)); all_goals (intro hh; (try rw [hh]))) | (apply Ok.splitP; (focus (cbv; done)); all_goals (intro hh; (try rw [hh]))) | (apply Ok.fin1; (focus (cbv; done)); (focus (cbv; done))) | (apply Ok.fin2; (focus (cbv; done)); (focus (cbv; done))) | (apply Ok.fin3; (focus (cbv; done)); (focus (cbv; done))))
  all_goals (subst hA; simp_all [Ar.std, cmpI])
  all_goals (repeat' split <;> omega)
theorem val_truth (b : Bool) : CallsV Try.prog 185 [.bool b] (.pv (.int .i64 (if b then 1 else 0))) [] := by
  obtain ⟨A, hA⟩ : ∃ A : Ar, A = .std := ⟨_, rfl⟩
  refine CallsV.ok (fn := Try.f185) (by kernel_rfl) (by kernel_rfl) rfl (by cbv) (by cbv) ?_
  repeat' (first | (apply Ok.run1 hmix hA false 2000; focus (cbv; done)) | (apply Ok.one hmix hA; focus (cbv; done)) | (rw [Ar.notT hA]) | (rw [Ar.notF hA]) | (refine Ok.condT ?_ ?_; focus (cbv; done)) | (refine Ok.condF ?_ ?_; focus (cbv; done)) | (refine Ok.drawnE (by as_aux_lemma => kernel_rfl) ?_) | (apply Ok.cond; (focus (cbv; done)); all_goals (intro hh; (try rw [hh]))) | (apply Ok.splitG; (focus (cbv; done)); all_goals (intro hh; (try rw [hh]))) | (apply Ok.splitP; (focus (cbv; done)); all_goals (intro hh; (try rw [hh]))) | (apply Ok.fin1; (focus (cbv; done)); (focus (cbv; done))) | (apply Ok.fin2; (focus (cbv; done)); (focus (cbv; done))) | (apply Ok.fin3; (focus (cbv; done)); (focus (cbv; done))))
  all_goals (subst hA; simp_all [Ar.std])
def cmpOr : List Int → Int
  | [] => 0
  | x :: l => if x ≠ 0 then x else cmpOr l
theorem cmp_Or (l : List Int) (es : List PV) (hes : es = l.map fun x => .int .i64 x) (hl : l.length ≤ 2 ^ 30) : CallsV Try.prog 182 [.view es] (.pv (.int .i64 (cmpOr l))) [] := by
  obtain ⟨A, hA⟩ : ∃ A : Ar, A = .std := ⟨_, rfl⟩
  obtain ⟨n, hn⟩ : ∃ n, n = l.length := ⟨_, rfl⟩
  have hll : A .lenP es = Int.ofNat n := by rw [Ar.lenP_eq hA, hes, List.length_map, hn]; rfl
  refine CallsV.ok (fn := Try.f182) (by kernel_rfl) (by kernel_rfl) rfl (by cbv) (by cbv) ?_
  repeat (first | (apply Ok.run1 hmix hA false 2000; focus (cbv; done)) | (apply Ok.one hmix hA; focus (cbv; done)) | (rw [Ar.notT hA]) | (rw [Ar.notF hA]) | (refine Ok.condT ?_ ?_; focus (cbv; done)) | (refine Ok.condF ?_ ?_; focus (cbv; done)) | (refine Ok.drawnE (by as_aux_lemma => kernel_rfl) ?_))
  rw [hll]
  refine Ok.loopAt [3, 6, 7, 8] [] (fun m s h => ∃ k, m = n - k ∧ k ≤ n ∧ cmpOr (l.drop k) = cmpOr l ∧ s = mkS 18 [(3, .pv (.int .i64 0)), (6, .pv (.view es)), (7, .pv (.int .i64 (Int.ofNat n))), (8, .pv (.int .i64 (Int.ofNat k)))] ∧ h = []) (n - 0) (by cbv) ⟨0, rfl, Nat.zero_le _, rfl, by cbv, by cbv⟩ ?_
  rintro m s h ⟨k, rfl, hk, hc, rfl, rfl⟩
  refine Ok.run hmix hA false 2000 (by cbv) ?_
  rw [ofNat_lt hA]
  by_cases hkl : k < n
  · rw [decide_eq_true hkl]
    repeat (first | (apply Ok.run1 hmix hA false 2000; focus (cbv; done)) | (apply Ok.one hmix hA; focus (cbv; done)) | (rw [Ar.notT hA]) | (rw [Ar.notF hA]) | (refine Ok.condT ?_ ?_; focus (cbv; done)) | (refine Ok.condF ?_ ?_; focus (cbv; done)) | (refine Ok.drawnE (by as_aux_lemma => kernel_rfl) ?_))
    have hx : l[k]? = some (l[k]'(by omega)) := List.getElem?_eq_getElem (by omega)
    have hdl : l.drop k = l[k]'(by omega) :: l.drop (k + 1) := List.drop_eq_getElem_cons (by omega)
    generalize l[k]'(by omega) = x at hx hdl
    rw [hdl, cmpOr] at hc
    refine Ok.op (idx_view (.int .i64 x) (by cbv) (by cbv) (by simp) (by rw [hes]; simp [hx]) rfl) ?_
    refine Ok.run hmix hA false 2000 (by cbv) ?_
    rw [Ar.eq_eq hA, Ar.not_eq hA]
    by_cases h0 : x = 0
    · rw [if_neg (by simpa using h0)] at hc
      rw [decide_eq_true h0]
      repeat (first | (apply Ok.run1 hmix hA false 2000; focus (cbv; done)) | (apply Ok.one hmix hA; focus (cbv; done)) | (rw [Ar.notT hA]) | (rw [Ar.notF hA]) | (refine Ok.condT ?_ ?_; focus (cbv; done)) | (refine Ok.condF ?_ ?_; focus (cbv; done)) | (refine Ok.drawnE (by as_aux_lemma => kernel_rfl) ?_))
      rw [Ar.succ_eq hA (by omega)]
      exact Ok.back (n - (k + 1)) [3, 6, 7, 8] [] (by omega) (by cbv) ⟨k + 1, rfl, by omega, hc, by cbv, by cbv⟩
    · rw [if_pos h0] at hc
      rw [decide_eq_false h0, ← hc]
      repeat (first | (apply Ok.run1 hmix hA false 2000; focus (cbv; done)) | (apply Ok.one hmix hA; focus (cbv; done)) | (rw [Ar.notT hA]) | (rw [Ar.notF hA]) | (refine Ok.condT ?_ ?_; focus (cbv; done)) | (refine Ok.condF ?_ ?_; focus (cbv; done)) | (refine Ok.drawnE (by as_aux_lemma => kernel_rfl) ?_))
      refine Ok.leaveRet ?_
      repeat (first | (apply Ok.run1 hmix hA false 2000; focus (cbv; done)) | (apply Ok.one hmix hA; focus (cbv; done)) | (rw [Ar.notT hA]) | (rw [Ar.notF hA]) | (refine Ok.condT ?_ ?_; focus (cbv; done)) | (refine Ok.condF ?_ ?_; focus (cbv; done)) | (refine Ok.drawnE (by as_aux_lemma => kernel_rfl) ?_))
      exact Ok.fin (by cbv) (FS.out (by cbv) (PLe.refl _))
  · rw [decide_eq_false hkl]
    have hke : k = l.length := by omega
    rw [hke, List.drop_length] at hc
    have hke : k = n := by omega
    subst hke
    repeat (first | (apply Ok.run1 hmix hA false 2000; focus (cbv; done)) | (apply Ok.one hmix hA; focus (cbv; done)) | (rw [Ar.notT hA]) | (rw [Ar.notF hA]) | (refine Ok.condT ?_ ?_; focus (cbv; done)) | (refine Ok.condF ?_ ?_; focus (cbv; done)) | (refine Ok.drawnE (by as_aux_lemma => kernel_rfl) ?_))
    refine Ok.leave ?_
    repeat (first | (apply Ok.run1 hmix hA false 2000; focus (cbv; done)) | (apply Ok.one hmix hA; focus (cbv; done)) | (rw [Ar.notT hA]) | (rw [Ar.notF hA]) | (refine Ok.condT ?_ ?_; focus (cbv; done)) | (refine Ok.condF ?_ ?_; focus (cbv; done)) | (refine Ok.drawnE (by as_aux_lemma => kernel_rfl) ?_))
    rw [← hc]
    exact Ok.fin (by cbv) (FS.out (by cbv) (PLe.refl _))
theorem slices_CompareFunc {E : Enc} (hE : E = .std) (f : Nat) (l m : List Vl) (hf : ∀ x y, x ∈ l → y ∈ m → CallsV Try.prog f [E.vl x, E.vl y] (.pv (.int .i64 (cmpV x y))) []) (hl : l.length ≤ 2 ^ 60) (hm : m.length ≤ 2 ^ 60) :
    CallsV Try.prog 192 [.view (E .vls l), .view (E .vls m), .func f []] (.pv (.int .i64 (cmpVs l m))) [] := by
  obtain ⟨A, hA⟩ : ∃ A : Ar, A = .std := ⟨_, rfl⟩
  obtain ⟨n, hn⟩ : ∃ n, n = l.length := ⟨_, rfl⟩
  obtain ⟨n', hn'⟩ : ∃ n, n = m.length := ⟨_, rfl⟩
  have hll : A .lenP (E .vls l) = Int.ofNat n := by rw [Ar.lenP_eq hA, E.vls_eq hE, List.length_map, hn]; rfl
  have hlm : A .lenP (E .vls m) = Int.ofNat n' := by rw [Ar.lenP_eq hA, E.vls_eq hE, List.length_map, hn']; rfl
  refine CallsV.ok (fn := Try.f192) (by kernel_rfl) (by kernel_rfl) rfl (by cbv) (by cbv) ?_
  repeat (first | (apply Ok.run1 hmix hA false 2000; focus (cbv; done)) | (apply Ok.one hmix hA; focus (cbv; done)) | (rw [Ar.notT hA]) | (rw [Ar.notF hA]) | (refine Ok.condT ?_ ?_; focus (cbv; done)) | (refine Ok.condF ?_ ?_; focus (cbv; done)) | (refine Ok.drawnE (by as_aux_lemma => kernel_rfl) ?_))
  rw [hll]
  refine Ok.loopAt [0, 1, 2, 11, 12, 13] [] (fun mm s h => ∃ k, mm = n - k ∧ k ≤ n ∧ k ≤ n' ∧ cmpVs (l.drop k) (m.drop k) = cmpVs l m ∧ s = mkS 39 [(0, .pv (.view (E .vls l))), (1, .pv (.view (E .vls m))), (2, .pv (.func f [])), (11, .pv (.view (E .vls l))), (12, .pv (.int .i64 (Int.ofNat n))), (13, .pv (.int .i64 (Int.ofNat k)))] ∧ h = []) (n - 0) (by cbv) ⟨0, rfl, Nat.zero_le _, Nat.zero_le _, rfl, by cbv, by cbv⟩ ?_
  rintro mm s h ⟨k, rfl, hk, hkm, hc, rfl, rfl⟩
  refine Ok.run hmix hA false 2000 (by cbv) ?_
  rw [ofNat_lt hA]
  by_cases hkl : k < n
  · rw [decide_eq_true hkl]
    repeat (first | (apply Ok.run1 hmix hA false 2000; focus (cbv; done)) | (apply Ok.one hmix hA; focus (cbv; done)) | (rw [Ar.notT hA]) | (rw [Ar.notF hA]) | (refine Ok.condT ?_ ?_; focus (cbv; done)) | (refine Ok.condF ?_ ?_; focus (cbv; done)) | (refine Ok.drawnE (by as_aux_lemma => kernel_rfl) ?_))
    have hx : l[k]? = some (l[k]'(by omega)) := List.getElem?_eq_getElem (by omega)
    have hxm : l[k]'(by omega) ∈ l := List.getElem_mem (by omega)
    have hdl : l.drop k = l[k]'(by omega) :: l.drop (k + 1) := List.drop_eq_getElem_cons (by omega)
    generalize l[k]'(by omega) = x at hx hdl hxm
    refine Ok.op (idx_view (E.vl x) (by cbv) (by cbv) (by simp) (by rw [E.vls_eq hE]; simp [hx]) rfl) ?_
    refine Ok.run hmix hA false 2000 (by cbv) ?_
    rw [hlm, ofNat_le hA]
    by_cases hkm2 : k < n'
    · rw [decide_eq_false (by omega)]
      have hy : m[k]? = some (m[k]'(by omega)) := List.getElem?_eq_getElem (by omega)
      have hym : m[k]'(by omega) ∈ m := List.getElem_mem (by omega)
      have hdm : m.drop k = m[k]'(by omega) :: m.drop (k + 1) := List.drop_eq_getElem_cons (by omega)
      generalize m[k]'(by omega) = y at hy hdm hym
      have cxy := hf x y hxm hym
      rw [hdl, hdm, cmpVs] at hc
      obtain ⟨c, hcc⟩ : ∃ c, c = cmpV x y := ⟨_, rfl⟩
      rw [← hcc] at cxy hc
      repeat (first | (apply Ok.run1 hmix hA false 2000; focus (cbv; done)) | (apply Ok.one hmix hA; focus (cbv; done)) | (rw [Ar.notT hA]) | (rw [Ar.notF hA]) | (refine Ok.condT ?_ ?_; focus (cbv; done)) | (refine Ok.condF ?_ ?_; focus (cbv; done)) | (refine Ok.drawnE (by as_aux_lemma => kernel_rfl) ?_))
      refine Ok.op (idx_view (E.vl y) (by cbv) (by cbv) (by simp) (by rw [E.vls_eq hE]; simp [hy]) rfl) ?_
      repeat (first | (apply Ok.run1 hmix hA false 2000; focus (cbv; done)) | (apply Ok.one hmix hA; focus (cbv; done)) | (rw [Ar.notT hA]) | (rw [Ar.notF hA]) | (refine Ok.condT ?_ ?_; focus (cbv; done)) | (refine Ok.condF ?_ ?_; focus (cbv; done)) | (refine Ok.drawnE (by as_aux_lemma => kernel_rfl) ?_) | (apply Ok.call (cxy); (focus (cbv; done)); (focus (cbv; done)); (focus (cbv; done))) | (apply Ok.dcall (cxy); (focus (cbv; done)); (focus (cbv; done)); (focus (cbv; done))))
      rw [Ar.eq_eq hA, Ar.not_eq hA]
      by_cases h0 : c = 0
      · rw [if_neg (by simpa using h0)] at hc
        rw [decide_eq_true h0]
        repeat (first | (apply Ok.run1 hmix hA false 2000; focus (cbv; done)) | (apply Ok.one hmix hA; focus (cbv; done)) | (rw [Ar.notT hA]) | (rw [Ar.notF hA]) | (refine Ok.condT ?_ ?_; focus (cbv; done)) | (refine Ok.condF ?_ ?_; focus (cbv; done)) | (refine Ok.drawnE (by as_aux_lemma => kernel_rfl) ?_))
        rw [Ar.succ_eq hA (by omega)]
        exact Ok.back (n - (k + 1)) [0, 1, 2, 11, 12, 13] [] (by omega) (by cbv) ⟨k + 1, rfl, by omega, by omega, hc, by cbv, by cbv⟩
      · rw [if_pos h0] at hc
        rw [decide_eq_false h0, ← hc]
        repeat (first | (apply Ok.run1 hmix hA false 2000; focus (cbv; done)) | (apply Ok.one hmix hA; focus (cbv; done)) | (rw [Ar.notT hA]) | (rw [Ar.notF hA]) | (refine Ok.condT ?_ ?_; focus (cbv; done)) | (refine Ok.condF ?_ ?_; focus (cbv; done)) | (refine Ok.drawnE (by as_aux_lemma => kernel_rfl) ?_))
        refine Ok.leaveRet ?_
        repeat (first | (apply Ok.run1 hmix hA false 2000; focus (cbv; done)) | (apply Ok.one hmix hA; focus (cbv; done)) | (rw [Ar.notT hA]) | (rw [Ar.notF hA]) | (refine Ok.condT ?_ ?_; focus (cbv; done)) | (refine Ok.condF ?_ ?_; focus (cbv; done)) | (refine Ok.drawnE (by as_aux_lemma => kernel_rfl) ?_))
        exact Ok.fin (by cbv) (FS.out (by cbv) (PLe.refl _))
    · rw [decide_eq_true (by omega)]
      have hke : k = m.length := by omega
      have h1 : cmpVs l m = 1 := by
        rw [← hc, hke, List.drop_length]
        rw [hke] at hdl
        rw [hdl]; rfl
      rw [h1]
      repeat (first | (apply Ok.run1 hmix hA false 2000; focus (cbv; done)) | (apply Ok.one hmix hA; focus (cbv; done)) | (rw [Ar.notT hA]) | (rw [Ar.notF hA]) | (refine Ok.condT ?_ ?_; focus (cbv; done)) | (refine Ok.condF ?_ ?_; focus (cbv; done)) | (refine Ok.drawnE (by as_aux_lemma => kernel_rfl) ?_))
      refine Ok.leaveRet ?_
      repeat (first | (apply Ok.run1 hmix hA false 2000; focus (cbv; done)) | (apply Ok.one hmix hA; focus (cbv; done)) | (rw [Ar.notT hA]) | (rw [Ar.notF hA]) | (refine Ok.condT ?_ ?_; focus (cbv; done)) | (refine Ok.condF ?_ ?_; focus (cbv; done)) | (refine Ok.drawnE (by as_aux_lemma => kernel_rfl) ?_))
      exact Ok.fin (by cbv) (FS.out (by cbv) (PLe.refl _))
  · rw [decide_eq_false hkl]
    have hke : k = l.length := by omega
    rw [hke, List.drop_length] at hc
    have hke : k = n := by omega
    subst hke
    repeat (first | (apply Ok.run1 hmix hA false 2000; focus (cbv; done)) | (apply Ok.one hmix hA; focus (cbv; done)) | (rw [Ar.notT hA]) | (rw [Ar.notF hA]) | (refine Ok.condT ?_ ?_; focus (cbv; done)) | (refine Ok.condF ?_ ?_; focus (cbv; done)) | (refine Ok.drawnE (by as_aux_lemma => kernel_rfl) ?_))
    refine Ok.leave ?_
    refine Ok.run hmix hA false 2000 (by cbv) ?_
    rw [hll, hlm, ofNat_lt hA]
    by_cases h2 : k < n'
    · rw [decide_eq_true h2]
      have h3 : m.drop l.length = m[l.length]'(by omega) :: m.drop (l.length + 1) := List.drop_eq_getElem_cons (by omega)
      rw [h3, cmpVs] at hc
      rw [← hc]
      repeat (first | (apply Ok.run1 hmix hA false 2000; focus (cbv; done)) | (apply Ok.one hmix hA; focus (cbv; done)) | (rw [Ar.notT hA]) | (rw [Ar.notF hA]) | (refine Ok.condT ?_ ?_; focus (cbv; done)) | (refine Ok.condF ?_ ?_; focus (cbv; done)) | (refine Ok.drawnE (by as_aux_lemma => kernel_rfl) ?_))
      exact Ok.fin (by cbv) (FS.out (by cbv) (PLe.refl _))
    · rw [decide_eq_false h2]
      have h3 : m.drop l.length = [] := List.drop_eq_nil_iff.2 (by omega)
      rw [h3, cmpVs] at hc
      rw [← hc]
      repeat (first | (apply Ok.run1 hmix hA false 2000; focus (cbv; done)) | (apply Ok.one hmix hA; focus (cbv; done)) | (rw [Ar.notT hA]) | (rw [Ar.notF hA]) | (refine Ok.condT ?_ ?_; focus (cbv; done)) | (refine Ok.condF ?_ ?_; focus (cbv; done)) | (refine Ok.drawnE (by as_aux_lemma => kernel_rfl) ?_))
      exact Ok.fin (by cbv) (FS.out (by cbv) (PLe.refl _))
end Go.Proofs.Ytnojmocoifodjaa.Pv
set_option maxRecDepth 100000
set_option maxHeartbeats 4000000
set_option linter.unusedVariables false
set_option linter.unusedSimpArgs false
namespace Go.Proofs.Ytnojmocoifodjaa.Pv
open Go Go.Proofs
theorem cmpS_eq : ∀ a b : List UInt8, cmpS a b = if a = b then 0 else lessZ (Op.bytesLess a b)
  | [], [] => rfl
  | [], _ :: _ => rfl
  | _ :: _, [] => rfl
  | a :: s, b :: t => by
    have ih := cmpS_eq s t
    unfold cmpS at ih ⊢
    rw [Lib.compareBytes, ih]
    rw [show Op.bytesLess (a :: s) (b :: t) = (decide (a < b) || (a == b && Op.bytesLess s t)) from rfl]
    by_cases h1 : a < b
    · have h2 : a ≠ b := by rintro rfl; exact absurd h1 (UInt8.lt_irrefl _)
      simp [h1, h2, lessZ]
    · by_cases h2 : b < a
      · have h3 : a ≠ b := by rintro rfl; exact absurd h2 (UInt8.lt_irrefl _)
        simp [h1, h2, h3, lessZ]
      · have h3 : a = b := by
          have h4 := UInt8.not_lt.1 h1
          have h5 := UInt8.not_lt.1 h2
          exact UInt8.le_antisymm h5 h4
        subst h3
        simp [h1]
theorem cmpV_or (k i : Int) (b : Bool) (s : List UInt8) (t : List Vl) (k' i' : Int) (b' : Bool) (s' : List UInt8) (t' : List Vl) :
    cmpV ⟨k, i, b, s, t⟩ ⟨k', i', b', s', t'⟩ = if cmpOr [cmpI k k', cmpI i i', cmpI (if b then 1 else 0) (if b' then 1 else 0), cmpS s s'] ≠ 0 then cmpOr [cmpI k k', cmpI i i', cmpI (if b then 1 else 0) (if b' then 1 else 0), cmpS s s'] else cmpVs t t' := by
  have hI : ∀ x y : Int, cmpI x y = if x = y then 0 else lessZ (decide (x < y)) := by
    intro x y
    unfold cmpI lessZ
    repeat' split
    all_goals simp_all
    all_goals omega
  have hL : ∀ c, lessZ c ≠ 0 := by intro c; cases c <;> decide
  have hB : cmpI (if b then 1 else 0) (if b' then 1 else 0) = if b = b' then 0 else lessZ b' := by cases b <;> cases b' <;> decide
  rw [hI, hI, hB, cmpS_eq, cmpV]
  by_cases h1 : k = k'
  · by_cases h2 : i = i'
    · by_cases h3 : b = b'
      · by_cases h4 : s = s'
        · simp [h1, h2, h3, h4, cmpOr]
        · simp [h1, h2, h3, h4, cmpOr, hL]
      · simp [h1, h2, h3, cmpOr, hL]
    · simp [h1, h2, cmpOr, hL]
  · simp [h1, cmpOr, hL]
theorem val_Compare {E : Enc} (hE : E = .std) : ∀ (n : Nat) (v w : Vl), SizeOf.sizeOf v ≤ n → szV v ≤ 2 ^ 28 → szV w ≤ 2 ^ 28 → CallsV Try.prog 178 [E.vl v, E.vl w] (.pv (.int .i64 (cmpV v w))) [] := by
  intro n
  induction n with
  | zero => intro v w h; cases v; simp at h
  | succ n ih =>
    rintro ⟨k1, i1, b1, s1, l⟩ ⟨k2, i2, b2, s2, m⟩ hn hsz hsw
    obtain ⟨A, hA⟩ : ∃ A : Ar, A = .std := ⟨_, rfl⟩
    rw [szV] at hsz hsw
    have hlen := szVs_len l
    have hlem := szVs_len m
    have hsub : ∀ x y, x ∈ l → y ∈ m → CallsV Try.prog 178 [E.vl x, E.vl y] (.pv (.int .i64 (cmpV x y))) [] := fun x y hx hy => by
      have h1 := List.sizeOf_lt_of_mem hx
      have h2 := szVs_mem hx
      have h3 := szVs_mem hy
      simp at hn
      exact ih x y (by omega) (by omega) (by omega)
    have cC := slices_CompareFunc hE 178 l m hsub (by omega) (by omega)
    have cR : CallsV Try.prog 187 [.view (E .vls l), .view (E .vls m), .func 178 []] (.pv (.int .i64 (cmpVs l m))) [] := by
      clear hsub ih
      refine CallsV.ok (fn := Try.f187) (by kernel_rfl) (by kernel_rfl) rfl (by cbv) (by cbv) ?_
      repeat (first | (apply Ok.run1 hmix hA false 2000; focus (cbv; done)) | (apply Ok.one hmix hA; focus (cbv; done)) | (rw [Ar.notT hA]) | (rw [Ar.notF hA]) | (refine Ok.condT ?_ ?_; focus (cbv; done)) | (refine Ok.condF ?_ ?_; focus (cbv; done)) | (refine Ok.drawnE (by as_aux_lemma => kernel_rfl) ?_) | (apply Ok.call (cC); (focus (cbv; done)); (focus (cbv; done)); (focus (cbv; done))) | (apply Ok.dcall (cC); (focus (cbv; done)); (focus (cbv; done)); (focus (cbv; done))))
      exact Ok.fin (by cbv) (FS.out (by cbv) (PLe.refl _))
    rw [cmpV_or]
    obtain ⟨c1, h1⟩ : ∃ c, c = cmpI k1 k2 := ⟨_, rfl⟩
    obtain ⟨c2, h2⟩ : ∃ c, c = cmpI i1 i2 := ⟨_, rfl⟩
    obtain ⟨t1, ht1⟩ : ∃ c, c = (if b1 then (1 : Int) else 0) := ⟨_, rfl⟩
    obtain ⟨t2, ht2⟩ : ∃ c, c = (if b2 then (1 : Int) else 0) := ⟨_, rfl⟩
    obtain ⟨c3, h3⟩ : ∃ c, c = cmpI t1 t2 := ⟨_, rfl⟩
    obtain ⟨c4, h4⟩ : ∃ c, c = cmpS s1 s2 := ⟨_, rfl⟩
    have d1 := cmp_Compare k1 k2
    have d2 := cmp_Compare64 i1 i2
    have e1 := val_truth b1
    have e2 := val_truth b2
    have d3 := cmp_Compare t1 t2
    have d4 := strings_Compare s1 s2
    have dO := cmp_Or [c1, c2, c3, c4] [.int .i64 c1, .int .i64 c2, .int .i64 c3, .int .i64 c4] rfl (by simp)
    rw [← ht1, ← ht2, ← h1, ← h2, ← h3, ← h4]
    rw [← h1] at d1
    rw [← h2] at d2
    rw [← ht1] at e1
    rw [← ht2] at e2
    rw [← h3] at d3
    rw [← h4] at d4
    obtain ⟨c, hc⟩ : ∃ c, c = cmpOr [c1, c2, c3, c4] := ⟨_, rfl⟩
    rw [← hc] at dO ⊢
    clear hsub ih cC
    refine CallsV.ok (fn := Try.f178) (by kernel_rfl) (by kernel_rfl) rfl (by cbv) (by cbv) ?_
    ((repeat (first | (apply Ok.run1 hmix hA false 2000; focus (cbv; done)) | (apply Ok.one hmix hA; focus (cbv; done)) | (rw [Ar.notT hA]) | (rw [Ar.notF hA]) | (refine Ok.condT ?_ ?_; focus (cbv; done)) | (refine Ok.condF ?_ ?_; focus (cbv; done)) | (refine Ok.drawnE (by as_aux_lemma => kernel_rfl) ?_))); ((first | (apply Ok.call (d1); (focus (cbv; done)); (focus (cbv; done)); (focus (cbv; done))) | (apply Ok.dcall (d1); (focus (cbv; done)); (focus (cbv; done)); (focus (cbv; done))))); (repeat (first | (apply Ok.run1 hmix hA false 2000; focus (cbv; done)) | (apply Ok.one hmix hA; focus (cbv; done)) | (rw [Ar.notT hA]) | (rw [Ar.notF hA]) | (refine Ok.condT ?_ ?_; focus (cbv; done)) | (refine Ok.condF ?_ ?_; focus (cbv; done)) | (refine Ok.drawnE (by as_aux_lemma => kernel_rfl) ?_))); ((first | (apply Ok.call (d2); (focus (cbv; done)); (focus (cbv; done)); (focus (cbv; done))) | (apply Ok.dcall (d2); (focus (cbv; done)); (focus (cbv; done)); (focus (cbv; done))))); (repeat (first | (apply Ok.run1 hmix hA false 2000; focus (cbv; done)) | (apply Ok.one hmix hA; focus (cbv; done)) | (rw [Ar.notT hA]) | (rw [Ar.notF hA]) | (refine Ok.condT ?_ ?_; focus (cbv; done)) | (refine Ok.condF ?_ ?_; focus (cbv; done)) | (refine Ok.drawnE (by as_aux_lemma => kernel_rfl) ?_))); ((first | (apply Ok.call (e1); (focus (cbv; done)); (focus (cbv; done)); (focus (cbv; done))) | (apply Ok.dcall (e1); (focus (cbv; done)); (focus (cbv; done)); (focus (cbv; done))))); (repeat (first | (apply Ok.run1 hmix hA false 2000; focus (cbv; done)) | (apply Ok.one hmix hA; focus (cbv; done)) | (rw [Ar.notT hA]) | (rw [Ar.notF hA]) | (refine Ok.condT ?_ ?_; focus (cbv; done)) | (refine Ok.condF ?_ ?_; focus (cbv; done)) | (refine Ok.drawnE (by as_aux_lemma => kernel_rfl) ?_))); ((first | (apply Ok.call (e2); (focus (cbv; done)); (focus (cbv; done)); (focus (cbv; done))) | (apply Ok.dcall (e2); (focus (cbv; done)); (focus (cbv; done)); (focus (cbv; done))))); (repeat (first | (apply Ok.run1 hmix hA false 2000; focus (cbv; done)) | (apply Ok.one hmix hA; focus (cbv; done)) | (rw [Ar.notT hA]) | (rw [Ar.notF hA]) | (refine Ok.condT ?_ ?_; focus (cbv; done)) | (refine Ok.condF ?_ ?_; focus (cbv; done)) | (refine Ok.drawnE (by as_aux_lemma => kernel_rfl) ?_))); ((first | (apply Ok.call (d3); (focus (cbv; done)); (focus (cbv; done)); (focus (cbv; done))) | (apply Ok.dcall (d3); (focus (cbv; done)); (focus (cbv; done)); (focus (cbv; done))))); (repeat (first | (apply Ok.run1 hmix hA false 2000; focus (cbv; done)) | (apply Ok.one hmix hA; focus (cbv; done)) | (rw [Ar.notT hA]) | (rw [Ar.notF hA]) | (refine Ok.condT ?_ ?_; focus (cbv; done)) | (refine Ok.condF ?_ ?_; focus (cbv; done)) | (refine Ok.drawnE (by as_aux_lemma => kernel_rfl) ?_))); ((first | (apply Ok.call (d4); (focus (cbv; done)); (focus (cbv; done)); (focus (cbv; done))) | (apply Ok.dcall (d4); (focus (cbv; done)); (focus (cbv; done)); (focus (cbv; done))))); (repeat (first | (apply Ok.run1 hmix hA false 2000; focus (cbv; done)) | (apply Ok.one hmix hA; focus (cbv; done)) | (rw [Ar.notT hA]) | (rw [Ar.notF hA]) | (refine Ok.condT ?_ ?_; focus (cbv; done)) | (refine Ok.condF ?_ ?_; focus (cbv; done)) | (refine Ok.drawnE (by as_aux_lemma => kernel_rfl) ?_))); ((first | (apply Ok.call (dO); (focus (cbv; done)); (focus (cbv; done)); (focus (cbv; done))) | (apply Ok.dcall (dO); (focus (cbv; done)); (focus (cbv; done)); (focus (cbv; done))))); (repeat (first | (apply Ok.run1 hmix hA false 2000; focus (cbv; done)) | (apply Ok.one hmix hA; focus (cbv; done)) | (rw [Ar.notT hA]) | (rw [Ar.notF hA]) | (refine Ok.condT ?_ ?_; focus (cbv; done)) | (refine Ok.condF ?_ ?_; focus (cbv; done)) | (refine Ok.drawnE (by as_aux_lemma => kernel_rfl) ?_))))
    rw [Ar.eq_eq hA, Ar.not_eq hA]
    by_cases h0 : c = 0
    · rw [decide_eq_true h0, if_neg (by simpa using h0)]
      repeat (first | (apply Ok.run1 hmix hA false 2000; focus (cbv; done)) | (apply Ok.one hmix hA; focus (cbv; done)) | (rw [Ar.notT hA]) | (rw [Ar.notF hA]) | (refine Ok.condT ?_ ?_; focus (cbv; done)) | (refine Ok.condF ?_ ?_; focus (cbv; done)) | (refine Ok.drawnE (by as_aux_lemma => kernel_rfl) ?_) | (apply Ok.call (cR); (focus (cbv; done)); (focus (cbv; done)); (focus (cbv; done))) | (apply Ok.dcall (cR); (focus (cbv; done)); (focus (cbv; done)); (focus (cbv; done))))
      exact Ok.fin (by cbv) (FS.out (by cbv) (PLe.refl _))
    · rw [decide_eq_false h0, if_pos h0]
      repeat (first | (apply Ok.run1 hmix hA false 2000; focus (cbv; done)) | (apply Ok.one hmix hA; focus (cbv; done)) | (rw [Ar.notT hA]) | (rw [Ar.notF hA]) | (refine Ok.condT ?_ ?_; focus (cbv; done)) | (refine Ok.condF ?_ ?_; focus (cbv; done)) | (refine Ok.drawnE (by as_aux_lemma => kernel_rfl) ?_))
      exact Ok.fin (by cbv) (FS.out (by cbv) (PLe.refl _))
theorem val_Same {E : Enc} (hE : E = .std) (v w : Vl) (h1 : szV v ≤ 2 ^ 28) (h2 : szV w ≤ 2 ^ 28) : CallsV Try.prog 157 [E.vl v, E.vl w] (.pv (.bool (decide (cmpV v w = 0)))) [] := by
  obtain ⟨A, hA⟩ : ∃ A : Ar, A = .std := ⟨_, rfl⟩
  have c := val_Compare hE _ v w (Nat.le_refl _) h1 h2
  generalize cmpV v w = r at c
  refine CallsV.ok (fn := Try.f157) (by kernel_rfl) (by kernel_rfl) rfl (by cbv) (by cbv) ?_
  repeat' (first | (apply Ok.run1 hmix hA false 2000; focus (cbv; done)) | (apply Ok.one hmix hA; focus (cbv; done)) | (rw [Ar.notT hA]) | (rw [Ar.notF hA]) | (refine Ok.condT ?_ ?_; focus (cbv; done)) | (refine Ok.condF ?_ ?_; focus (cbv; done)) | (refine Ok.drawnE (by as_aux_lemma => kernel_rfl) ?_) | (apply Ok.call (c); (focus (cbv; done)); (focus (cbv; done)); (focus (cbv; done))) | (apply Ok.dcall (c); (focus (cbv; done)); (focus (cbv; done)); (focus (cbv; done))) | (apply Ok.cond; (focus (cbv; done)); all_goals (intro hh; (try rw [hh]))) | (apply Ok.splitG; (focus (cbv; done)); all_goals (intro hh; (try rw [hh]))) | (apply Ok.splitP; (focus (cbv; done)); all_goals (intro hh; (try rw [hh]))) | (apply Ok.fin1; (focus (cbv; done)); (focus (cbv; done))) | (apply Ok.fin2; (focus (cbv; done)); (focus (cbv; done))) | (apply Ok.fin3; (focus (cbv; done)); (focus (cbv; done))))
  all_goals (subst hA; simp_all [Ar.std])
end Go.Proofs.Ytnojmocoifodjaa.Pv
set_option linter.unusedVariables false
set_option linter.unusedSimpArgs false
namespace Go.Proofs.Ytnojmocoifodjaa.Pv
open Go
/-! ### Values and expressions: plain laws -/
def spareV (v : Vl) : Bool := decide (v.kind ≠ 1 ∧ v.i ≠ 0) || (decide (v.kind ≠ 2) && v.b) || decide (v.kind ≠ 3 ∧ v.s ≠ []) || decide (v.kind ≠ 4 ∧ 0 < v.t.length)
mutual
def ckV : Vl → Nat → Int
  | .mk k i b s t, d => if k < 1 ∨ 4 < k then 5 else if spareV ⟨k, i, b, s, t⟩ then 2 else if 255 < s.length then 4 else if k ≠ 4 then 0
    else if rowC t.length d ≠ 0 then rowC t.length d else ckVs t (d + 1)
def ckVs : List Vl → Nat → Int
  | [], _ => 0
  | x :: l, d => if ckV x d ≠ 0 then ckV x d else ckVs l d
end
mutual
def typV : Vl → Ty
  | .mk k i b s t => ⟨k, typVs t⟩
def typVs : List Vl → List Ty
  | [] => []
  | x :: l => typV x :: typVs l
end
theorem typVs_eq : ∀ l, typVs l = l.map typV
  | [] => rfl
  | x :: l => by rw [typVs, typVs_eq l, List.map_cons]
/-! ops -/
structure Shp where
  least : Int
  most : Int
  of : List Int
  alike : Bool
  out : Int
def Shp.zero : Shp := ⟨0, 0, [], false, 0⟩
def Shp.cells (s : Shp) : List PV := [.int .i64 s.least, .int .i64 s.most, .view (s.of.map fun k => .int .i64 k), .bool s.alike, .int .i64 s.out]
def shpT : List (List UInt8 × Shp) := [
  ([108, 105, 116], ⟨0, 0, [], false, 0⟩),
  ([120], ⟨0, 0, [], false, 0⟩),
  ([97, 116], ⟨1, 1, [4], false, 0⟩),
  ([116, 117, 112], ⟨1, 8, [], false, 4⟩),
  ([110, 101, 103], ⟨1, 1, [1], false, 1⟩),
  ([110, 111, 116], ⟨1, 1, [2], false, 2⟩),
  ([108, 101, 110], ⟨1, 1, [3], false, 1⟩),
  ([97, 100, 100], ⟨2, 2, [1, 1], false, 1⟩),
  ([115, 117, 98], ⟨2, 2, [1, 1], false, 1⟩),
  ([109, 117, 108], ⟨2, 2, [1, 1], false, 1⟩),
  ([100, 105, 118], ⟨2, 2, [1, 1], false, 1⟩),
  ([114, 101, 109], ⟨2, 2, [1, 1], false, 1⟩),
  ([101, 113], ⟨2, 2, [0, 0], true, 2⟩),
  ([108, 116], ⟨2, 2, [0, 0], true, 2⟩),
  ([97, 110, 100], ⟨2, 2, [2, 2], false, 2⟩),
  ([111, 114], ⟨2, 2, [2, 2], false, 2⟩),
  ([99, 97, 116], ⟨2, 2, [3, 3], false, 3⟩),
  ([105, 102], ⟨3, 3, [2, 0, 0], true, 0⟩)]
def findS : List (List UInt8 × Shp) → List UInt8 → Option Shp
  | [], _ => none
  | (k, s) :: l, op => if k = op then some s else findS l op
def shpOf (op : List UInt8) : Option Shp := findS shpT op
theorem findS_mem : ∀ {l : List (List UInt8 × Shp)} {op : List UInt8} {s : Shp}, findS l op = some s → (op, s) ∈ l
  | [], op, s, h => by simp [findS] at h
  | (k, s') :: l, op, s, h => by
    rw [findS] at h
    split at h
    · rename_i hk
      cases h
      simp [hk]
    · simp [findS_mem h]
/-- What every shape keeps to. -/
def Shp.good (op : List UInt8) (s : Shp) : Bool := decide (0 ≤ s.least) && decide ((s.of.length : Int) ≤ s.least) && (!s.alike || decide (2 ≤ s.least)) && (decide (op ≠ [97, 116]) || decide (1 ≤ s.least)) && (decide (op ≠ [105, 102]) || decide (2 ≤ s.least)) && decide (s.most ≤ 8)
theorem shpOf_good {op : List UInt8} {s : Shp} (h : shpOf op = some s) : s.good op = true := by
  have hm := findS_mem h
  have : shpT.all (fun x => x.2.good x.1) = true := by decide
  exact List.all_eq_true.1 this _ hm
def oLit : List UInt8 := [108, 105, 116]
def oX : List UInt8 := [120]
def oAt : List UInt8 := [97, 116]
def oTup : List UInt8 := [116, 117, 112]
def oIf : List UInt8 := [105, 102]
def typOfM (v : Vl) : Ty := if ckV v 0 ≠ 0 then .zero else typV v
def fitsL : List Int → List Ty → Bool
  | [], _ => true
  | k :: ks, t :: ts => (decide (k = 0) || decide (t.kind = k)) && fitsL ks ts
  | _ :: _, [] => true
def fitsX (s : Shp) (l : List Ty) : Bool := fitsL s.of l && (!s.alike || sameT (l.getD (l.length - 1) .zero) (l.getD (l.length - 2) .zero))
def fieldsX (op : List UInt8) (v : Vl) (n : Int) (la : Nat) (s : Shp) : Bool := (decide (s.least ≤ la) && decide ((la : Int) ≤ s.most)) && (decide (op = oLit) || decide (cmpV v .zero = 0)) && (decide (op = oAt) || decide (n = 0))
def comesX (op : List UInt8) (v : Vl) (n : Int) (s : Shp) (l : List Ty) (tin : Ty) : Ty × Int :=
  if op = oLit then (typOfM v, 0)
  else if op = oX then (tin, 0)
  else if op = oAt then (if n < 0 ∨ ((l.getD 0 .zero).of.length : Int) ≤ n then (.zero, 1) else ((l.getD 0 .zero).of.getD n.toNat .zero, 0))
  else if op = oTup then (if ckT ⟨4, l⟩ 0 ≠ 0 then (.zero, ckT ⟨4, l⟩ 0) else (⟨4, l⟩, 0))
  else if op = oIf then (l.getD 1 .zero, 0)
  else (⟨s.out, []⟩, 0)
mutual
def chkX : Ex4 → Ty → Nat → Ty × Int
  | .mk op v n a, tin, d => match shpOf op with
    | none => (.zero, 6)
    | some s => if 12 < d then (.zero, 9) else if fieldsX op v n a.length s = false then (.zero, 1)
      else if op = oLit ∧ ckV v 0 ≠ 0 then (.zero, ckV v 0)
      else if (chkXs a tin (d + 1)).2 ≠ 0 then (.zero, (chkXs a tin (d + 1)).2)
      else if fitsX s (chkXs a tin (d + 1)).1 = false then (.zero, 5)
      else comesX op v n s (chkXs a tin (d + 1)).1 tin
def chkXs : List Ex4 → Ty → Nat → List Ty × Int
  | [], _, _ => ([], 0)
  | x :: l, tin, d => if (chkX x tin d).2 ≠ 0 then ([], (chkX x tin d).2) else ((chkX x tin d).1 :: (chkXs l tin d).1, (chkXs l tin d).2)
end
mutual
def sizX : Ex4 → Nat
  | .mk _ _ _ a => 1 + sizXs a
def sizXs : List Ex4 → Nat
  | [] => 0
  | x :: l => sizX x + sizXs l
end
def chkXTop (e : Ex4) (tin : Ty) : Ty × Int := if ckT tin 0 ≠ 0 then (.zero, 5) else if 256 < sizX e then (.zero, 10) else chkX e tin 0
end Go.Proofs.Ytnojmocoifodjaa.Pv
set_option maxRecDepth 100000
set_option maxHeartbeats 4000000
set_option linter.unusedVariables false
set_option linter.unusedSimpArgs false
namespace Go.Proofs.Ytnojmocoifodjaa.Pv
open Go Go.Proofs
theorem vls_len {E : Enc} (hE : E = .std) (l : List Vl) : (E .vls l).length = l.length := by rw [E.vls_eq hE, List.length_map]
theorem tys_len {E : Enc} (hE : E = .std) (l : List Ty) : (E .tys l).length = l.length := by rw [E.tys_eq hE, List.length_map]
theorem exs_len {E : Enc} (hE : E = .std) (l : List Ex4) : (E .exs l).length = l.length := by rw [E.exs_eq hE, List.length_map]
theorem val_spare {E : Enc} (hE : E = .std) (v : Vl) : CallsV Try.prog 164 [E.vl v] (.pv (.bool (spareV v))) [] := by
  obtain ⟨A, hA⟩ : ∃ A : Ar, A = .std := ⟨_, rfl⟩
  obtain ⟨k, i, b, s, l⟩ := v
  have q4 : A .lt 0 (A .lenP (E .vls l)) = decide (0 < l.length) := by
    rw [Ar.lenP_eq hA, vls_len hE]
    exact ofNat_lt hA 0 l.length
  generalize hb4 : decide (0 < l.length) = b4 at q4
  obtain ⟨r, hr⟩ : ∃ r, r = spareV ⟨k, i, b, s, l⟩ := ⟨_, rfl⟩
  have hr' := hr
  rw [← hr]
  simp only [spareV] at hr'
  refine CallsV.ok (fn := Try.f164) (by kernel_rfl) (by kernel_rfl) rfl (by cbv) (by cbv) ?_
  repeat' (first | (apply Ok.run1 hmix hA false 2000; focus (cbv; done)) | (apply Ok.one hmix hA; focus (cbv; done)) | (rw [Ar.notT hA]) | (rw [Ar.notF hA]) | (refine Ok.condT ?_ ?_; focus (cbv; done)) | (refine Ok.condF ?_ ?_; focus (cbv; done)) | (refine Ok.drawnE (by as_aux_lemma => kernel_rfl) ?_) | (apply Ok.cond; (focus (cbv; done)); all_goals (intro hh; (try rw [hh]))) | (apply Ok.splitG; (focus (cbv; done)); all_goals (intro hh; (try rw [hh]))) | (apply Ok.splitP; (focus (cbv; done)); all_goals (intro hh; (try rw [hh]))) | (apply Ok.fin1; (focus (cbv; done)); (focus (cbv; done))) | (apply Ok.fin2; (focus (cbv; done)); (focus (cbv; done))) | (apply Ok.fin3; (focus (cbv; done)); (focus (cbv; done))))
  all_goals (simp only [Ar.eq_eq hA, Ar.not_eq hA, Ar.seq_eq hA, q4, Bool.not_eq_true', Bool.not_eq_false', decide_eq_true_eq, decide_eq_false_iff_not] at *)
  all_goals (simp_all)
theorem val_check {E : Enc} (hE : E = .std) : ∀ (n : Nat) (t : Vl) (d : Nat), SizeOf.sizeOf t ≤ n → szV t ≤ 2 ^ 40 → d ≤ 1000 → CallsV Try.prog 146 [E.vl t, .int .i64 (Int.ofNat d)] (.pv (.int .i64 (ckV t d))) [] := by
  intro n
  induction n with
  | zero => intro t d h; cases t; simp at h
  | succ n ih =>
    rintro ⟨kd, vi, vb, vs, l⟩ d hn hsz hd
    obtain ⟨A, hA⟩ : ∃ A : Ar, A = .std := ⟨_, rfl⟩
    rw [szV] at hsz
    have hlen := szVs_len l
    obtain ⟨ln, hln⟩ : ∃ n, n = l.length := ⟨_, rfl⟩
    have hll : A .lenP (E .vls l) = Int.ofNat ln := by rw [Ar.lenP_eq hA, vls_len hE, hln]; rfl
    have cS := val_spare hE ⟨kd, vi, vb, vs, l⟩
    have cR := typ_Row (Int.ofNat ln) (Int.ofNat d)
    obtain ⟨rc, hrc⟩ : ∃ c, c = rowC (Int.ofNat ln) (Int.ofNat d) := ⟨_, rfl⟩
    rw [← hrc] at cR
    have hrd : rc = 0 → d ≤ 4 := by
      intro h
      rw [h] at hrc
      unfold rowC at hrc
      repeat' split at hrc
      all_goals first | omega | (rename_i h4; simp at h4; omega)
    have hsub : d ≤ 4 → ∀ x, x ∈ l → CallsV Try.prog 146 [E.vl x, .int .i64 (Int.ofNat (d + 1))] (.pv (.int .i64 (ckV x (d + 1)))) [] := fun hd4 x hx => by
      have h1 := List.sizeOf_lt_of_mem hx
      have h2 := szVs_mem hx
      simp at hn
      exact ih x (d + 1) (by omega) (by omega) (by omega)
    clear ih
    obtain ⟨d1, hd1⟩ : ∃ d1, d1 = d + 1 := ⟨_, rfl⟩
    have hck : ckV ⟨kd, vi, vb, vs, l⟩ d = if kd < 1 ∨ 4 < kd then 5 else if spareV ⟨kd, vi, vb, vs, l⟩ then 2 else if 255 < vs.length then 4 else if kd ≠ 4 then 0 else if rc ≠ 0 then rc else ckVs l d1 := by rw [ckV, hln.symm, hd1]; rw [hrc]; rfl
    rw [hck]
    generalize spareV ⟨kd, vi, vb, vs, l⟩ = sp at cS
    have q1 : A .lt kd 1 = decide (kd < 1) := Ar.lt_eq hA _ _
    have q2 : A .lt 4 kd = decide (4 < kd) := Ar.lt_eq hA _ _
    have q3 : A .not (A .eq kd 4) = !decide (kd = 4) := by rw [Ar.not_eq hA, Ar.eq_eq hA]
    have q5 : A .lt 255 (A .lenS vs) = decide (255 < vs.length) := by rw [lenS_nat hA]; exact ofNat_lt hA 255 _
    refine CallsV.ok (fn := Try.f146) (by kernel_rfl) (by kernel_rfl) rfl (by cbv) (by cbv) ?_
    refine Ok.run hmix hA false 2000 (by cbv) ?_
    rw [q1]
    by_cases h1 : kd < 1
    · rw [decide_eq_true h1, if_pos (by omega)]
      repeat (first | (apply Ok.run1 hmix hA false 2000; focus (cbv; done)) | (apply Ok.one hmix hA; focus (cbv; done)) | (rw [Ar.notT hA]) | (rw [Ar.notF hA]) | (refine Ok.condT ?_ ?_; focus (cbv; done)) | (refine Ok.condF ?_ ?_; focus (cbv; done)) | (refine Ok.drawnE (by as_aux_lemma => kernel_rfl) ?_))
      exact Ok.fin (by cbv) (FS.out (by cbv) (PLe.refl _))
    rw [decide_eq_false h1]
    repeat (first | (apply Ok.run1 hmix hA false 2000; focus (cbv; done)) | (apply Ok.one hmix hA; focus (cbv; done)) | (rw [Ar.notT hA]) | (rw [Ar.notF hA]) | (refine Ok.condT ?_ ?_; focus (cbv; done)) | (refine Ok.condF ?_ ?_; focus (cbv; done)) | (refine Ok.drawnE (by as_aux_lemma => kernel_rfl) ?_))
    rw [q2]
    by_cases h2 : 4 < kd
    · rw [decide_eq_true h2, if_pos (by omega)]
      repeat (first | (apply Ok.run1 hmix hA false 2000; focus (cbv; done)) | (apply Ok.one hmix hA; focus (cbv; done)) | (rw [Ar.notT hA]) | (rw [Ar.notF hA]) | (refine Ok.condT ?_ ?_; focus (cbv; done)) | (refine Ok.condF ?_ ?_; focus (cbv; done)) | (refine Ok.drawnE (by as_aux_lemma => kernel_rfl) ?_))
      exact Ok.fin (by cbv) (FS.out (by cbv) (PLe.refl _))
    rw [decide_eq_false h2, if_neg (by omega)]
    repeat (first | (apply Ok.run1 hmix hA false 2000; focus (cbv; done)) | (apply Ok.one hmix hA; focus (cbv; done)) | (rw [Ar.notT hA]) | (rw [Ar.notF hA]) | (refine Ok.condT ?_ ?_; focus (cbv; done)) | (refine Ok.condF ?_ ?_; focus (cbv; done)) | (refine Ok.drawnE (by as_aux_lemma => kernel_rfl) ?_) | (apply Ok.call (cS); (focus (cbv; done)); (focus (cbv; done)); (focus (cbv; done))) | (apply Ok.dcall (cS); (focus (cbv; done)); (focus (cbv; done)); (focus (cbv; done))))
    cases sp with
    | true =>
      rw [if_pos rfl]
      repeat (first | (apply Ok.run1 hmix hA false 2000; focus (cbv; done)) | (apply Ok.one hmix hA; focus (cbv; done)) | (rw [Ar.notT hA]) | (rw [Ar.notF hA]) | (refine Ok.condT ?_ ?_; focus (cbv; done)) | (refine Ok.condF ?_ ?_; focus (cbv; done)) | (refine Ok.drawnE (by as_aux_lemma => kernel_rfl) ?_))
      exact Ok.fin (by cbv) (FS.out (by cbv) (PLe.refl _))
    | false =>
    rw [if_neg (by simp)]
    repeat (first | (apply Ok.run1 hmix hA false 2000; focus (cbv; done)) | (apply Ok.one hmix hA; focus (cbv; done)) | (rw [Ar.notT hA]) | (rw [Ar.notF hA]) | (refine Ok.condT ?_ ?_; focus (cbv; done)) | (refine Ok.condF ?_ ?_; focus (cbv; done)) | (refine Ok.drawnE (by as_aux_lemma => kernel_rfl) ?_))
    rw [q5]
    by_cases h3 : 255 < vs.length
    · rw [decide_eq_true h3, if_pos h3]
      repeat (first | (apply Ok.run1 hmix hA false 2000; focus (cbv; done)) | (apply Ok.one hmix hA; focus (cbv; done)) | (rw [Ar.notT hA]) | (rw [Ar.notF hA]) | (refine Ok.condT ?_ ?_; focus (cbv; done)) | (refine Ok.condF ?_ ?_; focus (cbv; done)) | (refine Ok.drawnE (by as_aux_lemma => kernel_rfl) ?_))
      exact Ok.fin (by cbv) (FS.out (by cbv) (PLe.refl _))
    rw [decide_eq_false h3, if_neg h3]
    repeat (first | (apply Ok.run1 hmix hA false 2000; focus (cbv; done)) | (apply Ok.one hmix hA; focus (cbv; done)) | (rw [Ar.notT hA]) | (rw [Ar.notF hA]) | (refine Ok.condT ?_ ?_; focus (cbv; done)) | (refine Ok.condF ?_ ?_; focus (cbv; done)) | (refine Ok.drawnE (by as_aux_lemma => kernel_rfl) ?_))
    rw [q3]
    by_cases h4 : kd = 4
    case neg =>
      rw [decide_eq_false h4, if_pos h4]
      repeat (first | (apply Ok.run1 hmix hA false 2000; focus (cbv; done)) | (apply Ok.one hmix hA; focus (cbv; done)) | (rw [Ar.notT hA]) | (rw [Ar.notF hA]) | (refine Ok.condT ?_ ?_; focus (cbv; done)) | (refine Ok.condF ?_ ?_; focus (cbv; done)) | (refine Ok.drawnE (by as_aux_lemma => kernel_rfl) ?_))
      exact Ok.fin (by cbv) (FS.out (by cbv) (PLe.refl _))
    rw [decide_eq_true h4, if_neg (by simpa using h4)]
    repeat (first | (apply Ok.run1 hmix hA false 2000; focus (cbv; done)) | (apply Ok.one hmix hA; focus (cbv; done)) | (rw [Ar.notT hA]) | (rw [Ar.notF hA]) | (refine Ok.condT ?_ ?_; focus (cbv; done)) | (refine Ok.condF ?_ ?_; focus (cbv; done)) | (refine Ok.drawnE (by as_aux_lemma => kernel_rfl) ?_))
    rw [hll]
    repeat (first | (apply Ok.run1 hmix hA false 2000; focus (cbv; done)) | (apply Ok.one hmix hA; focus (cbv; done)) | (rw [Ar.notT hA]) | (rw [Ar.notF hA]) | (refine Ok.condT ?_ ?_; focus (cbv; done)) | (refine Ok.condF ?_ ?_; focus (cbv; done)) | (refine Ok.drawnE (by as_aux_lemma => kernel_rfl) ?_) | (apply Ok.call (cR); (focus (cbv; done)); (focus (cbv; done)); (focus (cbv; done))) | (apply Ok.dcall (cR); (focus (cbv; done)); (focus (cbv; done)); (focus (cbv; done))))
    refine Ok.loopAt [1, 2, 5, 6] [2] (fun m s h => ∃ (k : Nat) (e : Int), m = ln - k ∧ k ≤ ln ∧ (if e ≠ 0 then e else ckVs (l.drop k) d1) = (if rc ≠ 0 then rc else ckVs l d1) ∧ (e = 0 → rc = 0) ∧ s = mkS 53 [(1, .pv (.int .i64 (Int.ofNat d))), (2, .ptr 2 0), (5, .pv (.int .i64 e)), (6, .pv (.int .i64 (Int.ofNat k)))] ∧
      h = [(2, .box [.pv (.int .i64 kd), .pv (.int .i64 vi), .pv (.bool vb), .pv (.str vs), .pv (.view (E .vls l))] true)]) (ln - 0) (by cbv) ⟨0, rc, rfl, Nat.zero_le _, rfl, id, by cbv, by cbv⟩ ?_
    rintro m s h ⟨k, e, rfl, hk, hc, he0, rfl, rfl⟩
    rw [← hc]
    refine Ok.run hmix hA false 2000 (by cbv) ?_
    rw [hll, ofNat_lt hA]
    by_cases hkl : k < ln
    · rw [decide_eq_true hkl]
      repeat (first | (apply Ok.run1 hmix hA false 2000; focus (cbv; done)) | (apply Ok.one hmix hA; focus (cbv; done)) | (rw [Ar.notT hA]) | (rw [Ar.notF hA]) | (refine Ok.condT ?_ ?_; focus (cbv; done)) | (refine Ok.condF ?_ ?_; focus (cbv; done)) | (refine Ok.drawnE (by as_aux_lemma => kernel_rfl) ?_))
      rw [Ar.eq_eq hA]
      by_cases he : e = 0
      · rw [decide_eq_true he, if_neg (by simpa using he)]
        rw [if_neg (by simpa using he)] at hc
        repeat (first | (apply Ok.run1 hmix hA false 2000; focus (cbv; done)) | (apply Ok.one hmix hA; focus (cbv; done)) | (rw [Ar.notT hA]) | (rw [Ar.notF hA]) | (refine Ok.condT ?_ ?_; focus (cbv; done)) | (refine Ok.condF ?_ ?_; focus (cbv; done)) | (refine Ok.drawnE (by as_aux_lemma => kernel_rfl) ?_))
        have hx : l[k]? = some (l[k]'(by omega)) := List.getElem?_eq_getElem (by omega)
        have hxm : l[k]'(by omega) ∈ l := List.getElem_mem (by omega)
        have hdl : l.drop k = l[k]'(by omega) :: l.drop (k + 1) := List.drop_eq_getElem_cons (by omega)
        generalize l[k]'(by omega) = x at hx hdl hxm
        rw [hdl, ckVs] at hc
        rw [hdl, ckVs]
        have cx := hsub (hrd (he0 he)) x hxm
        rw [← hd1] at cx
        obtain ⟨c, hcc⟩ : ∃ c, c = ckV x d1 := ⟨_, rfl⟩
        rw [← hcc] at cx hc ⊢
        refine Ok.op (idx_view (E.vl x) (by cbv) (by cbv) (by simp) (by rw [E.vls_eq hE]; simp [hx]) rfl) ?_
        refine Ok.run hmix hA false 2000 (by cbv) ?_
        rw [Ar.succ_eq (k := d) hA (by omega), ← hd1]
        repeat (first | (apply Ok.run1 hmix hA false 2000; focus (cbv; done)) | (apply Ok.one hmix hA; focus (cbv; done)) | (rw [Ar.notT hA]) | (rw [Ar.notF hA]) | (refine Ok.condT ?_ ?_; focus (cbv; done)) | (refine Ok.condF ?_ ?_; focus (cbv; done)) | (refine Ok.drawnE (by as_aux_lemma => kernel_rfl) ?_) | (apply Ok.call (cx); (focus (cbv; done)); (focus (cbv; done)); (focus (cbv; done))) | (apply Ok.dcall (cx); (focus (cbv; done)); (focus (cbv; done)); (focus (cbv; done))))
        rw [Ar.succ_eq (k := k) hA (by omega)]
        exact Ok.back (ln - (k + 1)) [1, 2, 5, 6] [2] (by omega) (by cbv) ⟨k + 1, c, rfl, by omega, (by first | exact hc | rfl), fun _ => he0 he, by cbv, by cbv⟩
      · rw [decide_eq_false he, if_pos he]
        repeat (first | (apply Ok.run1 hmix hA false 2000; focus (cbv; done)) | (apply Ok.one hmix hA; focus (cbv; done)) | (rw [Ar.notT hA]) | (rw [Ar.notF hA]) | (refine Ok.condT ?_ ?_; focus (cbv; done)) | (refine Ok.condF ?_ ?_; focus (cbv; done)) | (refine Ok.drawnE (by as_aux_lemma => kernel_rfl) ?_))
        refine Ok.leave ?_
        repeat (first | (apply Ok.run1 hmix hA false 2000; focus (cbv; done)) | (apply Ok.one hmix hA; focus (cbv; done)) | (rw [Ar.notT hA]) | (rw [Ar.notF hA]) | (refine Ok.condT ?_ ?_; focus (cbv; done)) | (refine Ok.condF ?_ ?_; focus (cbv; done)) | (refine Ok.drawnE (by as_aux_lemma => kernel_rfl) ?_))
        exact Ok.fin (by cbv) (FS.out (by cbv) (PLe.refl _))
    · rw [decide_eq_false hkl]
      have hke : k = l.length := by omega
      rw [hke, List.drop_length]
      have : (if e ≠ 0 then e else ckVs [] d1) = e := by
        by_cases he : e = 0
        · rw [if_neg (by simpa using he), he]; rfl
        · rw [if_pos he]
      rw [this]
      repeat (first | (apply Ok.run1 hmix hA false 2000; focus (cbv; done)) | (apply Ok.one hmix hA; focus (cbv; done)) | (rw [Ar.notT hA]) | (rw [Ar.notF hA]) | (refine Ok.condT ?_ ?_; focus (cbv; done)) | (refine Ok.condF ?_ ?_; focus (cbv; done)) | (refine Ok.drawnE (by as_aux_lemma => kernel_rfl) ?_))
      refine Ok.leave ?_
      repeat (first | (apply Ok.run1 hmix hA false 2000; focus (cbv; done)) | (apply Ok.one hmix hA; focus (cbv; done)) | (rw [Ar.notT hA]) | (rw [Ar.notF hA]) | (refine Ok.condT ?_ ?_; focus (cbv; done)) | (refine Ok.condF ?_ ?_; focus (cbv; done)) | (refine Ok.drawnE (by as_aux_lemma => kernel_rfl) ?_))
      exact Ok.fin (by cbv) (FS.out (by cbv) (PLe.refl _))
theorem val_Check {E : Enc} (hE : E = .std) (t : Vl) (hsz : szV t ≤ 2 ^ 40) : CallsV Try.prog 113 [E.vl t] (.pv (.int .i64 (ckV t 0))) [] := by
  obtain ⟨A, hA⟩ : ∃ A : Ar, A = .std := ⟨_, rfl⟩
  have c := val_check hE _ t 0 (Nat.le_refl _) hsz (by omega)
  generalize ckV t 0 = r at c ⊢
  obtain ⟨k, i, b, s, l⟩ := t
  refine CallsV.ok (fn := Try.f113) (by kernel_rfl) (by kernel_rfl) rfl (by cbv) (by cbv) ?_
  repeat (first | (apply Ok.run1 hmix hA false 2000; focus (cbv; done)) | (apply Ok.one hmix hA; focus (cbv; done)) | (rw [Ar.notT hA]) | (rw [Ar.notF hA]) | (refine Ok.condT ?_ ?_; focus (cbv; done)) | (refine Ok.condF ?_ ?_; focus (cbv; done)) | (refine Ok.drawnE (by as_aux_lemma => kernel_rfl) ?_) | (apply Ok.call (c); (focus (cbv; done)); (focus (cbv; done)); (focus (cbv; done))) | (apply Ok.dcall (c); (focus (cbv; done)); (focus (cbv; done)); (focus (cbv; done))))
  exact Ok.fin (by cbv) (FS.out (by cbv) (PLe.refl _))
end Go.Proofs.Ytnojmocoifodjaa.Pv
set_option maxRecDepth 100000
set_option maxHeartbeats 4000000
set_option linter.unusedVariables false
set_option linter.unusedSimpArgs false
namespace Go.Proofs.Ytnojmocoifodjaa.Pv
open Go Go.Proofs
theorem val_kind {E : Enc} (hE : E = .std) : ∀ (n : Nat) (t : Vl), SizeOf.sizeOf t ≤ n → szV t ≤ 2 ^ 28 → CallsV Try.prog 165 [E.vl t] (.pv (E.tyc (typV t))) [] := by
  intro n
  induction n with
  | zero => intro t h; cases t; simp at h
  | succ n ih =>
    rintro ⟨kd, vi, vb, vs, l⟩ hn hsz
    obtain ⟨A, hA⟩ : ∃ A : Ar, A = .std := ⟨_, rfl⟩
    rw [szV] at hsz
    have hlen := szVs_len l
    obtain ⟨ln, hln⟩ : ∃ n, n = l.length := ⟨_, rfl⟩
    have hll : A .lenP (E .vls l) = Int.ofNat ln := by rw [Ar.lenP_eq hA, vls_len hE, hln]; rfl
    have ht0 : E .tys [] = [] := by rw [E.tys_eq hE]; rfl
    have hsub : ∀ x, x ∈ l → CallsV Try.prog 165 [E.vl x] (.pv (E.tyc (typV x))) [] := fun x hx => by
      have h1 := List.sizeOf_lt_of_mem hx
      have h2 := szVs_mem hx
      simp at hn
      exact ih x (by omega) (by omega)
    clear ih
    rw [typV, typVs_eq]
    refine CallsV.ok (fn := Try.f165) (by kernel_rfl) (by kernel_rfl) rfl (by cbv) (by cbv) ?_
    repeat (first | (apply Ok.run1 hmix hA false 2000; focus (cbv; done)) | (apply Ok.one hmix hA; focus (cbv; done)) | (rw [Ar.notT hA]) | (rw [Ar.notF hA]) | (refine Ok.condT ?_ ?_; focus (cbv; done)) | (refine Ok.condF ?_ ?_; focus (cbv; done)) | (refine Ok.drawnE (by as_aux_lemma => kernel_rfl) ?_))
    rw [hll]
    refine Ok.le (Le.nilBox 3 1 21 24 2 (by cbv) (by cbv) (by cbv) (by decide)) ?_
    refine Ok.loopAt [2, 3, 10, 11, 12] [2, 3, 21] (fun m s h => ∃ (k j : Nat) (es : List PV), m = ln - k ∧ k ≤ ln ∧ j = k ∧ es = E .tys ((l.take k).map typV) ∧
      s = mkS 25 [(2, .ptr 2 0), (3, .ptr 3 0), (10, .pv (.view (E .vls l))), (11, .pv (.int .i64 (Int.ofNat ln))), (12, .pv (.int .i64 (Int.ofNat k)))] ∧
      h = [(2, .box [.pv (.int .i64 0), .pv .nil] true), (3, .box [.pv (.int .i64 kd), .ref 21 j] true), (21, .row 24 2 es true)]) (ln - 0) (by cbv) ⟨0, 0, [], rfl, Nat.zero_le _, rfl, by rw [List.take_zero, List.map_nil, ht0], by cbv, by cbv⟩ ?_
    rintro m s h ⟨k, j, es, rfl, hk, hj, hes, rfl, rfl⟩
    have hesl : j = es.length := by rw [hes, tys_len hE, List.length_map, List.length_take, hj]; omega
    refine Ok.run hmix hA false 2000 (by cbv) ?_
    rw [ofNat_lt hA]
    by_cases hkl : k < ln
    · rw [decide_eq_true hkl]
      repeat (first | (apply Ok.run1 hmix hA false 2000; focus (cbv; done)) | (apply Ok.one hmix hA; focus (cbv; done)) | (rw [Ar.notT hA]) | (rw [Ar.notF hA]) | (refine Ok.condT ?_ ?_; focus (cbv; done)) | (refine Ok.condF ?_ ?_; focus (cbv; done)) | (refine Ok.drawnE (by as_aux_lemma => kernel_rfl) ?_))
      have hx : l[k]? = some (l[k]'(by omega)) := List.getElem?_eq_getElem (by omega)
      have hxm : l[k]'(by omega) ∈ l := List.getElem_mem (by omega)
      have htk : l.take (k + 1) = l.take k ++ [l[k]'(by omega)] := by rw [List.take_add_one, hx]; rfl
      generalize l[k]'(by omega) = x at hx hxm htk
      have cx := hsub x hxm
      obtain ⟨tx, htx⟩ : ∃ t, t = typV x := ⟨_, rfl⟩
      rw [← htx] at cx
      obtain ⟨es3, hes3⟩ : ∃ es3, es3 = es ++ [E.tyc tx] := ⟨_, rfl⟩
      obtain ⟨n3, hn3⟩ : ∃ n3, n3 = j + 1 := ⟨_, rfl⟩
      refine Ok.op (idx_view (E.vl x) (by cbv) (by cbv) (by simp) (by rw [E.vls_eq hE]; simp [hx]) rfl) ?_
      repeat (first | (apply Ok.run1 hmix hA false 2000; focus (cbv; done)) | (apply Ok.one hmix hA; focus (cbv; done)) | (rw [Ar.notT hA]) | (rw [Ar.notF hA]) | (refine Ok.condT ?_ ?_; focus (cbv; done)) | (refine Ok.condF ?_ ?_; focus (cbv; done)) | (refine Ok.drawnE (by as_aux_lemma => kernel_rfl) ?_) | (apply Ok.call (cx); (focus (cbv; done)); (focus (cbv; done)); (focus (cbv; done))) | (apply Ok.dcall (cx); (focus (cbv; done)); (focus (cbv; done)); (focus (cbv; done))))
      refine Ok.dop (app_ref (by cbv) (by cbv) hesl (by cbv) (by cbv) (by decide) (by simp only [List.length_singleton]; omega) (by unfold maxLen; simp only [List.length_singleton]; omega) n3 (by exact hn3) es3 (by rw [hes3]; rfl)) ?_
      repeat (first | (apply Ok.run1 hmix hA false 2000; focus (cbv; done)) | (apply Ok.one hmix hA; focus (cbv; done)) | (rw [Ar.notT hA]) | (rw [Ar.notF hA]) | (refine Ok.condT ?_ ?_; focus (cbv; done)) | (refine Ok.condF ?_ ?_; focus (cbv; done)) | (refine Ok.drawnE (by as_aux_lemma => kernel_rfl) ?_))
      rw [Ar.succ_eq hA (by omega)]
      exact Ok.back (ln - (k + 1)) [2, 3, 10, 11, 12] [2, 3, 21] (by omega) (by cbv) ⟨k + 1, n3, es3, rfl, by omega, by omega, by rw [hes3, hes, htk, E.tys_eq hE, E.tys_eq hE, List.map_append, List.map_append, htx]; rfl, by cbv, by cbv⟩
    · rw [decide_eq_false hkl]
      have hke : k = l.length := by omega
      rw [hke, List.take_length] at hes
      repeat (first | (apply Ok.run1 hmix hA false 2000; focus (cbv; done)) | (apply Ok.one hmix hA; focus (cbv; done)) | (rw [Ar.notT hA]) | (rw [Ar.notF hA]) | (refine Ok.condT ?_ ?_; focus (cbv; done)) | (refine Ok.condF ?_ ?_; focus (cbv; done)) | (refine Ok.drawnE (by as_aux_lemma => kernel_rfl) ?_))
      refine Ok.leave ?_
      repeat (first | (apply Ok.run1 hmix hA false 2000; focus (cbv; done)) | (apply Ok.one hmix hA; focus (cbv; done)) | (rw [Ar.notT hA]) | (rw [Ar.notF hA]) | (refine Ok.condT ?_ ?_; focus (cbv; done)) | (refine Ok.condF ?_ ?_; focus (cbv; done)) | (refine Ok.drawnE (by as_aux_lemma => kernel_rfl) ?_))
      refine Ok.fin1 (p := .agg [.int .i64 kd, .view es]) (ids := [21]) (by cbv) (by simp [frzL, frz2, frz1, frz0, rowOf, hget, PV.rlx, ← hesl]) ?_
      simp [Enc.tyc, hes]
theorem val_TypeOf {E : Enc} (hE : E = .std) (t : Vl) (hsz : szV t ≤ 2 ^ 28) : CallsV Try.prog 147 [E.vl t] (.pv (E.tyc (typOfM t))) [] := by
  obtain ⟨A, hA⟩ : ∃ A : Ar, A = .std := ⟨_, rfl⟩
  have ht0 : E .tys [] = [] := by rw [E.tys_eq hE]; rfl
  have c := val_Check hE t (by omega)
  have ck := val_kind hE _ t (Nat.le_refl _) hsz
  unfold typOfM
  generalize ckV t 0 = r at c ⊢
  generalize typV t = ty at ck ⊢
  obtain ⟨k, i, b, s, l⟩ := t
  obtain ⟨tk, tl⟩ := ty
  refine CallsV.ok (fn := Try.f147) (by kernel_rfl) (by kernel_rfl) rfl (by cbv) (by cbv) ?_
  repeat (first | (apply Ok.run1 hmix hA false 2000; focus (cbv; done)) | (apply Ok.one hmix hA; focus (cbv; done)) | (rw [Ar.notT hA]) | (rw [Ar.notF hA]) | (refine Ok.condT ?_ ?_; focus (cbv; done)) | (refine Ok.condF ?_ ?_; focus (cbv; done)) | (refine Ok.drawnE (by as_aux_lemma => kernel_rfl) ?_) | (apply Ok.call (c); (focus (cbv; done)); (focus (cbv; done)); (focus (cbv; done))) | (apply Ok.dcall (c); (focus (cbv; done)); (focus (cbv; done)); (focus (cbv; done))))
  rw [Ar.eq_eq hA, Ar.not_eq hA]
  by_cases h0 : r = 0
  · rw [decide_eq_true h0, if_neg (by simpa using h0)]
    repeat (first | (apply Ok.run1 hmix hA false 2000; focus (cbv; done)) | (apply Ok.one hmix hA; focus (cbv; done)) | (rw [Ar.notT hA]) | (rw [Ar.notF hA]) | (refine Ok.condT ?_ ?_; focus (cbv; done)) | (refine Ok.condF ?_ ?_; focus (cbv; done)) | (refine Ok.drawnE (by as_aux_lemma => kernel_rfl) ?_) | (apply Ok.call (ck); (focus (cbv; done)); (focus (cbv; done)); (focus (cbv; done))) | (apply Ok.dcall (ck); (focus (cbv; done)); (focus (cbv; done)); (focus (cbv; done))))
    (first | (apply Ok.fin1; (focus (cbv; done)); (focus (cbv; done))) | (apply Ok.fin2; (focus (cbv; done)); (focus (cbv; done))) | (apply Ok.fin3; (focus (cbv; done)); (focus (cbv; done))))
    all_goals first | rfl | simp [Enc.tyc]
  · rw [decide_eq_false h0, if_pos h0]
    repeat (first | (apply Ok.run1 hmix hA false 2000; focus (cbv; done)) | (apply Ok.one hmix hA; focus (cbv; done)) | (rw [Ar.notT hA]) | (rw [Ar.notF hA]) | (refine Ok.condT ?_ ?_; focus (cbv; done)) | (refine Ok.condF ?_ ?_; focus (cbv; done)) | (refine Ok.drawnE (by as_aux_lemma => kernel_rfl) ?_))
    (first | (apply Ok.fin1; (focus (cbv; done)); (focus (cbv; done))) | (apply Ok.fin2; (focus (cbv; done)); (focus (cbv; done))) | (apply Ok.fin3; (focus (cbv; done)); (focus (cbv; done))))
    all_goals first | rfl | simp [Enc.tyc, ht0, Ty.zero]
theorem slices_ClipT {E : Enc} (hE : E = .std) (l : List Ty) : CallsV Try.prog 82 [.view (E .tys l)] (.pv (.view (E .tys l))) [] := by
  obtain ⟨A, hA⟩ : ∃ A : Ar, A = .std := ⟨_, rfl⟩
  obtain ⟨ln, hln⟩ : ∃ n, n = l.length := ⟨_, rfl⟩
  have hll : A .lenP (E .tys l) = Int.ofNat ln := by rw [Ar.lenP_eq hA, tys_len hE, hln]; rfl
  obtain ⟨es, hes⟩ : ∃ es, es = E .tys l := ⟨_, rfl⟩
  have hl : ln = es.length := by rw [hes, tys_len hE, hln]
  have hc : ∀ e, e ∈ es → e.cells.length = 2 := by
    intro e he
    rw [hes, E.tys_eq hE] at he
    obtain ⟨x, _, rfl⟩ := List.mem_map.1 he
    rfl
  rw [← hes] at hll ⊢
  obtain ⟨r, hr⟩ : ∃ r : PV, r = if ln = 0 then .cap0 else .view es := ⟨_, rfl⟩
  refine CallsV.ok (fn := Try.f82) (by kernel_rfl) (by kernel_rfl) rfl (by cbv) (by cbv) ?_
  refine Ok.run hmix hA false 2000 (by cbv) ?_
  rw [hll]
  refine Ok.op (slc_full (by cbv) (by cbv) (by cbv) hl hc r hr) ?_
  repeat (first | (apply Ok.run1 hmix hA false 2000; focus (cbv; done)) | (apply Ok.one hmix hA; focus (cbv; done)) | (rw [Ar.notT hA]) | (rw [Ar.notF hA]) | (refine Ok.condT ?_ ?_; focus (cbv; done)) | (refine Ok.condF ?_ ?_; focus (cbv; done)) | (refine Ok.drawnE (by as_aux_lemma => kernel_rfl) ?_))
  refine Ok.fin (by cbv) (FS.pv _ ?_)
  rw [hr]
  by_cases h0 : ln = 0
  · have : es = [] := List.eq_nil_of_length_eq_zero (by omega)
    rw [if_pos h0, this]
    exact PLe.cap0
  · rw [if_neg h0]; exact PLe.refl _
theorem expr_none {E : Enc} (hE : E = .std) (v : Vl) (hsz : szV v ≤ 2 ^ 28) : CallsV Try.prog 145 [E.vl v] (.pv (.bool (decide (cmpV v .zero = 0)))) [] := by
  obtain ⟨A, hA⟩ : ∃ A : Ar, A = .std := ⟨_, rfl⟩
  have h0 : E .vls [] = [] := by rw [E.vls_eq hE]; rfl
  have c := val_Same hE v .zero hsz (by simp [Vl.zero, szV, szVs])
  generalize decide (cmpV v .zero = 0) = b at c ⊢
  simp only [Enc.vl, Vl.zero, h0] at c
  obtain ⟨k, i, b', s, l⟩ := v
  refine CallsV.ok (fn := Try.f145) (by kernel_rfl) (by kernel_rfl) rfl (by cbv) (by cbv) ?_
  repeat (first | (apply Ok.run1 hmix hA false 2000; focus (cbv; done)) | (apply Ok.one hmix hA; focus (cbv; done)) | (rw [Ar.notT hA]) | (rw [Ar.notF hA]) | (refine Ok.condT ?_ ?_; focus (cbv; done)) | (refine Ok.condF ?_ ?_; focus (cbv; done)) | (refine Ok.drawnE (by as_aux_lemma => kernel_rfl) ?_) | (apply Ok.call (c); (focus (cbv; done)); (focus (cbv; done)); (focus (cbv; done))) | (apply Ok.dcall (c); (focus (cbv; done)); (focus (cbv; done)); (focus (cbv; done))))
  exact Ok.fin (by cbv) (FS.out (by cbv) (PLe.refl _))
def encS (x : List UInt8 × Shp) : PV := .agg (.str x.1 :: x.2.cells)
theorem expr_find (l : List (List UInt8 × Shp)) (op : List UInt8) (es : List PV) (hes : es = l.map encS) (hl : l.length ≤ 2 ^ 30) : CallsV Try.prog 110 [.view es, .str op] (.tup [.pv (.agg ((findS l op).getD .zero).cells), .pv (.bool (findS l op).isSome)]) [] := by
  obtain ⟨A, hA⟩ : ∃ A : Ar, A = .std := ⟨_, rfl⟩
  obtain ⟨n, hn⟩ : ∃ n, n = l.length := ⟨_, rfl⟩
  have hll : A .lenP es = Int.ofNat n := by rw [Ar.lenP_eq hA, hes, List.length_map, hn]; rfl
  obtain ⟨res, hres⟩ : ∃ r, r = findS l op := ⟨_, rfl⟩
  rw [← hres]
  refine CallsV.ok (fn := Try.f110) (by kernel_rfl) (by kernel_rfl) rfl (by cbv) (by cbv) ?_
  repeat (first | (apply Ok.run1 hmix hA false 2000; focus (cbv; done)) | (apply Ok.one hmix hA; focus (cbv; done)) | (rw [Ar.notT hA]) | (rw [Ar.notF hA]) | (refine Ok.condT ?_ ?_; focus (cbv; done)) | (refine Ok.condF ?_ ?_; focus (cbv; done)) | (refine Ok.drawnE (by as_aux_lemma => kernel_rfl) ?_))
  rw [hll]
  refine Ok.loopAt [1, 4, 5, 9, 10, 11] [4] (fun m s h => ∃ k, m = n - k ∧ k ≤ n ∧ findS (l.drop k) op = res ∧ s = mkS 23 [(1, .pv (.str op)), (4, .ptr 4 0), (5, .pv (.bool false)), (9, .pv (.view es)), (10, .pv (.int .i64 (Int.ofNat n))), (11, .pv (.int .i64 (Int.ofNat k)))] ∧
    h = [(4, .box [.pv (.int .i64 0), .pv (.int .i64 0), .pv .nil, .pv (.bool false), .pv (.int .i64 0)] true)]) (n - 0) (by cbv) ⟨0, rfl, Nat.zero_le _, hres.symm, by cbv, by cbv⟩ ?_
  rintro m s h ⟨k, rfl, hk, hc, rfl, rfl⟩
  refine Ok.run hmix hA false 2000 (by cbv) ?_
  rw [ofNat_lt hA]
  by_cases hkl : k < n
  · rw [decide_eq_true hkl]
    repeat (first | (apply Ok.run1 hmix hA false 2000; focus (cbv; done)) | (apply Ok.one hmix hA; focus (cbv; done)) | (rw [Ar.notT hA]) | (rw [Ar.notF hA]) | (refine Ok.condT ?_ ?_; focus (cbv; done)) | (refine Ok.condF ?_ ?_; focus (cbv; done)) | (refine Ok.drawnE (by as_aux_lemma => kernel_rfl) ?_))
    have hx : l[k]? = some (l[k]'(by omega)) := List.getElem?_eq_getElem (by omega)
    have hdl : l.drop k = l[k]'(by omega) :: l.drop (k + 1) := List.drop_eq_getElem_cons (by omega)
    generalize l[k]'(by omega) = x at hx hdl
    obtain ⟨key, least, most, of, alike, out⟩ := x
    rw [hdl, findS] at hc
    obtain ⟨ofs, hofs⟩ : ∃ o : List PV, o = of.map fun k => .int .i64 k := ⟨_, rfl⟩
    refine Ok.op (idx_view (.agg [.str key, .int .i64 least, .int .i64 most, .view ofs, .bool alike, .int .i64 out]) (by cbv) (by cbv) (by simp) (by rw [hes]; simp [hx, encS, Shp.cells, hofs]) rfl) ?_
    repeat (first | (apply Ok.run1 hmix hA false 2000; focus (cbv; done)) | (apply Ok.one hmix hA; focus (cbv; done)) | (rw [Ar.notT hA]) | (rw [Ar.notF hA]) | (refine Ok.condT ?_ ?_; focus (cbv; done)) | (refine Ok.condF ?_ ?_; focus (cbv; done)) | (refine Ok.drawnE (by as_aux_lemma => kernel_rfl) ?_))
    rw [Ar.seq_eq hA]
    by_cases h0 : key = op
    · rw [if_pos h0] at hc
      rw [decide_eq_true h0, ← hc]
      repeat (first | (apply Ok.run1 hmix hA false 2000; focus (cbv; done)) | (apply Ok.one hmix hA; focus (cbv; done)) | (rw [Ar.notT hA]) | (rw [Ar.notF hA]) | (refine Ok.condT ?_ ?_; focus (cbv; done)) | (refine Ok.condF ?_ ?_; focus (cbv; done)) | (refine Ok.drawnE (by as_aux_lemma => kernel_rfl) ?_))
      refine Ok.leaveRet ?_
      repeat (first | (apply Ok.run1 hmix hA false 2000; focus (cbv; done)) | (apply Ok.one hmix hA; focus (cbv; done)) | (rw [Ar.notT hA]) | (rw [Ar.notF hA]) | (refine Ok.condT ?_ ?_; focus (cbv; done)) | (refine Ok.condF ?_ ?_; focus (cbv; done)) | (refine Ok.drawnE (by as_aux_lemma => kernel_rfl) ?_))
      (first | (apply Ok.fin1; (focus (cbv; done)); (focus (cbv; done))) | (apply Ok.fin2; (focus (cbv; done)); (focus (cbv; done))) | (apply Ok.fin3; (focus (cbv; done)); (focus (cbv; done))))
      all_goals first | rfl | simp [Shp.cells, hofs]
    · rw [if_neg h0] at hc
      rw [decide_eq_false h0]
      repeat (first | (apply Ok.run1 hmix hA false 2000; focus (cbv; done)) | (apply Ok.one hmix hA; focus (cbv; done)) | (rw [Ar.notT hA]) | (rw [Ar.notF hA]) | (refine Ok.condT ?_ ?_; focus (cbv; done)) | (refine Ok.condF ?_ ?_; focus (cbv; done)) | (refine Ok.drawnE (by as_aux_lemma => kernel_rfl) ?_))
      rw [Ar.succ_eq hA (by omega)]
      exact Ok.back (n - (k + 1)) [1, 4, 5, 9, 10, 11] [4] (by omega) (by cbv) ⟨k + 1, rfl, by omega, hc, by cbv, by cbv⟩
  · rw [decide_eq_false hkl]
    have hke : k = l.length := by omega
    rw [hke, List.drop_length] at hc
    rw [← hc]
    repeat (first | (apply Ok.run1 hmix hA false 2000; focus (cbv; done)) | (apply Ok.one hmix hA; focus (cbv; done)) | (rw [Ar.notT hA]) | (rw [Ar.notF hA]) | (refine Ok.condT ?_ ?_; focus (cbv; done)) | (refine Ok.condF ?_ ?_; focus (cbv; done)) | (refine Ok.drawnE (by as_aux_lemma => kernel_rfl) ?_))
    refine Ok.leave ?_
    repeat (first | (apply Ok.run1 hmix hA false 2000; focus (cbv; done)) | (apply Ok.one hmix hA; focus (cbv; done)) | (rw [Ar.notT hA]) | (rw [Ar.notF hA]) | (refine Ok.condT ?_ ?_; focus (cbv; done)) | (refine Ok.condF ?_ ?_; focus (cbv; done)) | (refine Ok.drawnE (by as_aux_lemma => kernel_rfl) ?_))
    (first | (apply Ok.fin1; (focus (cbv; done)); (focus (cbv; done))) | (apply Ok.fin2; (focus (cbv; done)); (focus (cbv; done))) | (apply Ok.fin3; (focus (cbv; done)); (focus (cbv; done))))
    all_goals first | rfl | simp [Shp.cells, Shp.zero, findS]
theorem expr_shapes : CallsV Try.prog 111 [] (.ref 0 18) [.row 210 6 (shpT.map encS) true] := ev_ok 30 (by kernel_rfl)
end Go.Proofs.Ytnojmocoifodjaa.Pv
set_option maxRecDepth 100000
set_option maxHeartbeats 4000000
set_option linter.unusedVariables false
set_option linter.unusedSimpArgs false
namespace Go.Proofs.Ytnojmocoifodjaa.Pv
open Go Go.Proofs
theorem expr_fields {E : Enc} (hE : E = .std) (op : List UInt8) (v : Vl) (n : Int) (a : List Ex4) (s : Shp) (hsz : szV v ≤ 2 ^ 28) : CallsV Try.prog 112 [E.ex ⟨op, v, n, a⟩, .agg s.cells] (.pv (.bool (fieldsX op v n a.length s))) [] := by
  obtain ⟨A, hA⟩ : ∃ A : Ar, A = .std := ⟨_, rfl⟩
  obtain ⟨la, hla⟩ : ∃ n, n = a.length := ⟨_, rfl⟩
  have hll : A .lenP (E .exs a) = Int.ofNat la := by rw [Ar.lenP_eq hA, exs_len hE, hla]; rfl
  have cn := expr_none hE v hsz
  rw [← hla]
  obtain ⟨res, hres⟩ : ∃ r, r = fieldsX op v n la s := ⟨_, rfl⟩
  have hres' := hres
  unfold fieldsX at hres'
  rw [← hres]
  generalize decide (cmpV v .zero = 0) = bz at cn hres'
  obtain ⟨least, most, of, alike, out⟩ := s
  obtain ⟨vk, vi, vb, vs, vt⟩ := v
  obtain ⟨ofs, hofs⟩ : ∃ o : List PV, o = of.map fun k => .int .i64 k := ⟨_, rfl⟩
  have q1 : A .le least (Int.ofNat la) = decide (least ≤ la) := Ar.le_eq hA _ _
  have q2 : A .le (Int.ofNat la) most = decide ((la : Int) ≤ most) := Ar.le_eq hA _ _
  have q3 : A .seq op [108, 105, 116] = decide (op = oLit) := Ar.seq_eq hA _ _
  have q4 : A .seq op [97, 116] = decide (op = oAt) := Ar.seq_eq hA _ _
  have q5 : A .eq n 0 = decide (n = 0) := Ar.eq_eq hA _ _
  have hcells : (Shp.mk least most of alike out).cells = [.int .i64 least, .int .i64 most, .view ofs, .bool alike, .int .i64 out] := by rw [hofs]; rfl
  rw [hcells]
  dsimp only at hres'
  rw [← q1, ← q2, ← q3, ← q4, ← q5] at hres'
  clear hres q1 q2 q3 q4 q5
  refine CallsV.ok (fn := Try.f112) (by kernel_rfl) (by kernel_rfl) rfl (by cbv) (by cbv) ?_
  refine Ok.run hmix hA false 2000 (by cbv) ?_
  rw [hll]
  repeat' (first | (apply Ok.run1 hmix hA false 2000; focus (cbv; done)) | (apply Ok.one hmix hA; focus (cbv; done)) | (rw [Ar.notT hA]) | (rw [Ar.notF hA]) | (refine Ok.condT ?_ ?_; focus (cbv; done)) | (refine Ok.condF ?_ ?_; focus (cbv; done)) | (refine Ok.drawnE (by as_aux_lemma => kernel_rfl) ?_) | (apply Ok.call (cn); (focus (cbv; done)); (focus (cbv; done)); (focus (cbv; done))) | (apply Ok.dcall (cn); (focus (cbv; done)); (focus (cbv; done)); (focus (cbv; done))) | (apply Ok.cond; (focus (cbv; done)); all_goals (intro hh; (try rw [hh]))) | (apply Ok.splitG; (focus (cbv; done)); all_goals (intro hh; (try rw [hh]))) | (apply Ok.splitP; (focus (cbv; done)); all_goals (intro hh; (try rw [hh]))) | (apply Ok.fin1; (focus (cbv; done)); (focus (cbv; done))) | (apply Ok.fin2; (focus (cbv; done)); (focus (cbv; done))) | (apply Ok.fin3; (focus (cbv; done)); (focus (cbv; done))))
  all_goals (simp_all)
theorem fitsL_drop (ks : List Int) (l : List Ty) (k : Nat) (h : k < ks.length) (hl : k < l.length) : fitsL (ks.drop k) (l.drop k) = ((decide (ks[k] = 0) || decide (l[k].kind = ks[k])) && fitsL (ks.drop (k + 1)) (l.drop (k + 1))) := by
  rw [List.drop_eq_getElem_cons h, List.drop_eq_getElem_cons hl, fitsL]
theorem expr_fits {E : Enc} (hE : E = .std) (s : Shp) (l : List Ty) (hof : s.of.length ≤ l.length) (hal : s.alike = true → 2 ≤ l.length) (hl : l.length ≤ 2 ^ 30) (hsz : szTs l ≤ 2 ^ 40) : CallsV Try.prog 114 [.agg s.cells, .view (E .tys l)] (.pv (.bool (fitsX s l))) [] := by
  obtain ⟨A, hA⟩ : ∃ A : Ar, A = .std := ⟨_, rfl⟩
  obtain ⟨least, most, of, alike, out⟩ := s
  dsimp only at hof hal
  obtain ⟨ofs, hofs⟩ : ∃ o : List PV, o = of.map fun k => .int .i64 k := ⟨_, rfl⟩
  have hcells : (Shp.mk least most of alike out).cells = [.int .i64 least, .int .i64 most, .view ofs, .bool alike, .int .i64 out] := by rw [hofs]; rfl
  rw [hcells]
  obtain ⟨n, hn⟩ : ∃ n, n = of.length := ⟨_, rfl⟩
  obtain ⟨ln, hln⟩ : ∃ n, n = l.length := ⟨_, rfl⟩
  have hlo : A .lenP ofs = Int.ofNat n := by rw [Ar.lenP_eq hA, hofs, List.length_map, hn]; rfl
  have hll : A .lenP (E .tys l) = Int.ofNat ln := by rw [Ar.lenP_eq hA, tys_len hE, hln]; rfl
  obtain ⟨res, hres⟩ : ∃ r, r = fitsL of l := ⟨_, rfl⟩
  unfold fitsX
  dsimp only
  rw [← hres]
  refine CallsV.ok (fn := Try.f114) (by kernel_rfl) (by kernel_rfl) rfl (by cbv) (by cbv) ?_
  repeat (first | (apply Ok.run1 hmix hA false 2000; focus (cbv; done)) | (apply Ok.one hmix hA; focus (cbv; done)) | (rw [Ar.notT hA]) | (rw [Ar.notF hA]) | (refine Ok.condT ?_ ?_; focus (cbv; done)) | (refine Ok.condF ?_ ?_; focus (cbv; done)) | (refine Ok.drawnE (by as_aux_lemma => kernel_rfl) ?_))
  rw [hlo]
  refine Ok.loopAt [1, 2, 8, 9, 10] [2] (fun m sl h => ∃ k, m = n - k ∧ k ≤ n ∧ fitsL (of.drop k) (l.drop k) = res ∧ sl = mkS 45 [(1, .pv (.view (E .tys l))), (2, .ptr 2 0), (8, .pv (.view ofs)), (9, .pv (.int .i64 (Int.ofNat n))), (10, .pv (.int .i64 (Int.ofNat k)))] ∧
    h = [(2, .box [.pv (.int .i64 least), .pv (.int .i64 most), .pv (.view ofs), .pv (.bool alike), .pv (.int .i64 out)] true)]) (n - 0) (by cbv) ⟨0, rfl, Nat.zero_le _, by rw [List.drop_zero, List.drop_zero, hres], by cbv, by cbv⟩ ?_
  rintro m sl h ⟨k, rfl, hk, hc, rfl, rfl⟩
  refine Ok.run hmix hA false 2000 (by cbv) ?_
  rw [ofNat_lt hA]
  by_cases hkl : k < n
  · rw [decide_eq_true hkl]
    rw [fitsL_drop of l k (by omega) (by omega)] at hc
    have hx : of[k]? = some (of[k]'(by omega)) := List.getElem?_eq_getElem (by omega)
    have hy : l[k]? = some (l[k]'(by omega)) := List.getElem?_eq_getElem (by omega)
    generalize of[k]'(by omega) = kk at hx hc
    generalize l[k]'(by omega) = y at hy hc
    obtain ⟨yk, yl⟩ := y
    repeat (first | (apply Ok.run1 hmix hA false 2000; focus (cbv; done)) | (apply Ok.one hmix hA; focus (cbv; done)) | (rw [Ar.notT hA]) | (rw [Ar.notF hA]) | (refine Ok.condT ?_ ?_; focus (cbv; done)) | (refine Ok.condF ?_ ?_; focus (cbv; done)) | (refine Ok.drawnE (by as_aux_lemma => kernel_rfl) ?_))
    refine Ok.op (idx_view (.int .i64 kk) (by cbv) (by cbv) (by simp) (by rw [hofs]; simp [hx]) rfl) ?_
    refine Ok.run hmix hA false 2000 (by cbv) ?_
    rw [Ar.eq_eq hA, Ar.not_eq hA]
    by_cases h0 : kk = 0
    · rw [decide_eq_true h0]
      rw [decide_eq_true h0, Bool.true_or, Bool.true_and] at hc
      repeat (first | (apply Ok.run1 hmix hA false 2000; focus (cbv; done)) | (apply Ok.one hmix hA; focus (cbv; done)) | (rw [Ar.notT hA]) | (rw [Ar.notF hA]) | (refine Ok.condT ?_ ?_; focus (cbv; done)) | (refine Ok.condF ?_ ?_; focus (cbv; done)) | (refine Ok.drawnE (by as_aux_lemma => kernel_rfl) ?_))
      rw [Ar.succ_eq hA (by omega)]
      exact Ok.back (n - (k + 1)) [1, 2, 8, 9, 10] [2] (by omega) (by cbv) ⟨k + 1, rfl, by omega, hc, by cbv, by cbv⟩
    · rw [decide_eq_false h0]
      rw [decide_eq_false h0, Bool.false_or] at hc
      dsimp only at hc
      repeat (first | (apply Ok.run1 hmix hA false 2000; focus (cbv; done)) | (apply Ok.one hmix hA; focus (cbv; done)) | (rw [Ar.notT hA]) | (rw [Ar.notF hA]) | (refine Ok.condT ?_ ?_; focus (cbv; done)) | (refine Ok.condF ?_ ?_; focus (cbv; done)) | (refine Ok.drawnE (by as_aux_lemma => kernel_rfl) ?_))
      refine Ok.op (idx_viewG (E.tyc ⟨yk, yl⟩) (by cbv) (by cbv) (by cbv) (by simp) (by rw [E.tys_eq hE]; simp [hy]) rfl) ?_
      repeat (first | (apply Ok.run1 hmix hA false 2000; focus (cbv; done)) | (apply Ok.one hmix hA; focus (cbv; done)) | (rw [Ar.notT hA]) | (rw [Ar.notF hA]) | (refine Ok.condT ?_ ?_; focus (cbv; done)) | (refine Ok.condF ?_ ?_; focus (cbv; done)) | (refine Ok.drawnE (by as_aux_lemma => kernel_rfl) ?_))
      rw [Ar.eq_eq hA, Ar.not_eq hA]
      by_cases h1 : yk = kk
      · rw [decide_eq_true h1]
        rw [decide_eq_true h1, Bool.true_and] at hc
        repeat (first | (apply Ok.run1 hmix hA false 2000; focus (cbv; done)) | (apply Ok.one hmix hA; focus (cbv; done)) | (rw [Ar.notT hA]) | (rw [Ar.notF hA]) | (refine Ok.condT ?_ ?_; focus (cbv; done)) | (refine Ok.condF ?_ ?_; focus (cbv; done)) | (refine Ok.drawnE (by as_aux_lemma => kernel_rfl) ?_))
        rw [Ar.succ_eq hA (by omega)]
        exact Ok.back (n - (k + 1)) [1, 2, 8, 9, 10] [2] (by omega) (by cbv) ⟨k + 1, rfl, by omega, hc, by cbv, by cbv⟩
      · rw [decide_eq_false h1]
        rw [decide_eq_false h1, Bool.false_and] at hc
        rw [← hc]
        repeat (first | (apply Ok.run1 hmix hA false 2000; focus (cbv; done)) | (apply Ok.one hmix hA; focus (cbv; done)) | (rw [Ar.notT hA]) | (rw [Ar.notF hA]) | (refine Ok.condT ?_ ?_; focus (cbv; done)) | (refine Ok.condF ?_ ?_; focus (cbv; done)) | (refine Ok.drawnE (by as_aux_lemma => kernel_rfl) ?_))
        refine Ok.leaveRet ?_
        repeat (first | (apply Ok.run1 hmix hA false 2000; focus (cbv; done)) | (apply Ok.one hmix hA; focus (cbv; done)) | (rw [Ar.notT hA]) | (rw [Ar.notF hA]) | (refine Ok.condT ?_ ?_; focus (cbv; done)) | (refine Ok.condF ?_ ?_; focus (cbv; done)) | (refine Ok.drawnE (by as_aux_lemma => kernel_rfl) ?_))
        (first | (apply Ok.fin1; (focus (cbv; done)); (focus (cbv; done))) | (apply Ok.fin2; (focus (cbv; done)); (focus (cbv; done))) | (apply Ok.fin3; (focus (cbv; done)); (focus (cbv; done))))
        all_goals rfl
  · rw [decide_eq_false hkl]
    have hke : of.drop k = [] := List.drop_eq_nil_iff.2 (by omega)
    rw [hke, fitsL] at hc
    rw [← hc, Bool.true_and]
    clear hres hc
    cases alike with
    | false =>
      repeat (first | (apply Ok.run1 hmix hA false 2000; focus (cbv; done)) | (apply Ok.one hmix hA; focus (cbv; done)) | (rw [Ar.notT hA]) | (rw [Ar.notF hA]) | (refine Ok.condT ?_ ?_; focus (cbv; done)) | (refine Ok.condF ?_ ?_; focus (cbv; done)) | (refine Ok.drawnE (by as_aux_lemma => kernel_rfl) ?_))
      refine Ok.leave ?_
      repeat (first | (apply Ok.run1 hmix hA false 2000; focus (cbv; done)) | (apply Ok.one hmix hA; focus (cbv; done)) | (rw [Ar.notT hA]) | (rw [Ar.notF hA]) | (refine Ok.condT ?_ ?_; focus (cbv; done)) | (refine Ok.condF ?_ ?_; focus (cbv; done)) | (refine Ok.drawnE (by as_aux_lemma => kernel_rfl) ?_))
      (first | (apply Ok.fin1; (focus (cbv; done)); (focus (cbv; done))) | (apply Ok.fin2; (focus (cbv; done)); (focus (cbv; done))) | (apply Ok.fin3; (focus (cbv; done)); (focus (cbv; done))))
      all_goals rfl
    | true =>
      have h2 := hal rfl
      obtain ⟨i1, hi1⟩ : ∃ i, i = ln - 1 := ⟨_, rfl⟩
      obtain ⟨i2, hi2⟩ : ∃ i, i = ln - 2 := ⟨_, rfl⟩
      have s1 : A .sub .i64 (Int.ofNat ln) 1 = Int.ofNat i1 := by rw [hi1]; exact ofNat_sub (b := 1) hA (by omega) (by omega)
      have s2 : A .sub .i64 (Int.ofNat ln) 2 = Int.ofNat i2 := by rw [hi2]; exact ofNat_sub (b := 2) hA (by omega) (by omega)
      have hx1 : l[i1]? = some (l[i1]'(by omega)) := List.getElem?_eq_getElem (by omega)
      have hx2 : l[i2]? = some (l[i2]'(by omega)) := List.getElem?_eq_getElem (by omega)
      have hm1 : l[i1]'(by omega) ∈ l := List.getElem_mem (by omega)
      have hm2 : l[i2]'(by omega) ∈ l := List.getElem_mem (by omega)
      generalize l[i1]'(by omega) = t1 at hx1 hm1
      generalize l[i2]'(by omega) = t2 at hx2 hm2
      have g1 := szTs_mem hm1
      have g2 := szTs_mem hm2
      have cS := typ_Same hE _ t1 t2 (Nat.le_refl _) (by omega) (by omega)
      have e1 : l.getD (l.length - 1) Ty.zero = t1 := by rw [← hln, ← hi1, List.getD, hx1]; rfl
      have e2 : l.getD (l.length - 2) Ty.zero = t2 := by rw [← hln, ← hi2, List.getD, hx2]; rfl
      rw [e1, e2]
      generalize sameT t1 t2 = b at cS ⊢
      obtain ⟨k1, l1⟩ := t1
      obtain ⟨k2, l2⟩ := t2
      repeat (first | (apply Ok.run1 hmix hA false 2000; focus (cbv; done)) | (apply Ok.one hmix hA; focus (cbv; done)) | (rw [Ar.notT hA]) | (rw [Ar.notF hA]) | (refine Ok.condT ?_ ?_; focus (cbv; done)) | (refine Ok.condF ?_ ?_; focus (cbv; done)) | (refine Ok.drawnE (by as_aux_lemma => kernel_rfl) ?_))
      refine Ok.leave ?_
      repeat (first | (apply Ok.run1 hmix hA false 2000; focus (cbv; done)) | (apply Ok.one hmix hA; focus (cbv; done)) | (rw [Ar.notT hA]) | (rw [Ar.notF hA]) | (refine Ok.condT ?_ ?_; focus (cbv; done)) | (refine Ok.condF ?_ ?_; focus (cbv; done)) | (refine Ok.drawnE (by as_aux_lemma => kernel_rfl) ?_))
      rw [hll, s1]
      refine Ok.dop (idx_viewG (E.tyc ⟨k1, l1⟩) (by cbv) (by cbv) (by cbv) (by simp) (by rw [E.tys_eq hE]; simp [hx1]) rfl) ?_
      repeat (first | (apply Ok.run1 hmix hA false 2000; focus (cbv; done)) | (apply Ok.one hmix hA; focus (cbv; done)) | (rw [Ar.notT hA]) | (rw [Ar.notF hA]) | (refine Ok.condT ?_ ?_; focus (cbv; done)) | (refine Ok.condF ?_ ?_; focus (cbv; done)) | (refine Ok.drawnE (by as_aux_lemma => kernel_rfl) ?_))
      rw [hll, s2]
      refine Ok.dop (idx_viewG (E.tyc ⟨k2, l2⟩) (by cbv) (by cbv) (by cbv) (by simp) (by rw [E.tys_eq hE]; simp [hx2]) rfl) ?_
      repeat (first | (apply Ok.run1 hmix hA false 2000; focus (cbv; done)) | (apply Ok.one hmix hA; focus (cbv; done)) | (rw [Ar.notT hA]) | (rw [Ar.notF hA]) | (refine Ok.condT ?_ ?_; focus (cbv; done)) | (refine Ok.condF ?_ ?_; focus (cbv; done)) | (refine Ok.drawnE (by as_aux_lemma => kernel_rfl) ?_) | (apply Ok.call (cS); (focus (cbv; done)); (focus (cbv; done)); (focus (cbv; done))) | (apply Ok.dcall (cS); (focus (cbv; done)); (focus (cbv; done)); (focus (cbv; done))))
      (first | (apply Ok.fin1; (focus (cbv; done)); (focus (cbv; done))) | (apply Ok.fin2; (focus (cbv; done)); (focus (cbv; done))) | (apply Ok.fin3; (focus (cbv; done)); (focus (cbv; done))))
      all_goals rfl
end Go.Proofs.Ytnojmocoifodjaa.Pv
set_option maxRecDepth 100000
set_option maxHeartbeats 4000000
set_option linter.unusedVariables false
set_option linter.unusedSimpArgs false
namespace Go.Proofs.Ytnojmocoifodjaa.Pv
open Go Go.Proofs
theorem lgetD {α : Type} {l : List α} {i : Nat} {x d : α} (h : l[i]? = some x) : l.getD i d = x := by simp [List.getD, h]
theorem expr_comes {E : Enc} (hE : E = .std) (op : List UInt8) (v : Vl) (n : Int) (a : List Ex4) (s : Shp) (l : List Ty) (tin : Ty) (hv : szV v ≤ 2 ^ 28) (hsz : szTs l ≤ 2 ^ 39) (h1 : op = oAt → 1 ≤ l.length) (h2 : op = oIf → 2 ≤ l.length) :
    CallsV Try.prog 115 [E.ex ⟨op, v, n, a⟩, .agg s.cells, .view (E .tys l), E.tyc tin] (.tup [.pv (E.tyc (comesX op v n s l tin).1), .pv (.int .i64 (comesX op v n s l tin).2)]) [] := by
  obtain ⟨A, hA⟩ : ∃ A : Ar, A = .std := ⟨_, rfl⟩
  have ht0 : E .tys [] = [] := by rw [E.tys_eq hE]; rfl
  obtain ⟨least, most, of, alike, out⟩ := s
  obtain ⟨ofs, hofs⟩ : ∃ o : List PV, o = of.map fun k => .int .i64 k := ⟨_, rfl⟩
  have hcells : (Shp.mk least most of alike out).cells = [.int .i64 least, .int .i64 most, .view ofs, .bool alike, .int .i64 out] := by rw [hofs]; rfl
  rw [hcells]
  have q1 : A .seq op [108, 105, 116] = decide (op = oLit) := Ar.seq_eq hA _ _
  have q2 : A .seq op [120] = decide (op = oX) := Ar.seq_eq hA _ _
  have q3 : A .seq op [97, 116] = decide (op = oAt) := Ar.seq_eq hA _ _
  have q4 : A .seq op [116, 117, 112] = decide (op = oTup) := Ar.seq_eq hA _ _
  have q5 : A .seq op [105, 102] = decide (op = oIf) := Ar.seq_eq hA _ _
  have cT := val_TypeOf hE v hv
  obtain ⟨tk, tl⟩ := tin
  obtain ⟨vk, vi, vb, vs, vt⟩ := v
  unfold comesX
  by_cases k1 : op = oLit
  · rw [if_pos k1]
    generalize typOfM _ = ty at cT ⊢
    obtain ⟨yk, yl⟩ := ty
    refine CallsV.ok (fn := Try.f115) (by kernel_rfl) (by kernel_rfl) rfl (by cbv) (by cbv) ?_
    refine Ok.run hmix hA false 2000 (by cbv) ?_
    rw [q1, decide_eq_true k1]
    repeat (first | (apply Ok.run1 hmix hA false 2000; focus (cbv; done)) | (apply Ok.one hmix hA; focus (cbv; done)) | (rw [Ar.notT hA]) | (rw [Ar.notF hA]) | (refine Ok.condT ?_ ?_; focus (cbv; done)) | (refine Ok.condF ?_ ?_; focus (cbv; done)) | (refine Ok.drawnE (by as_aux_lemma => kernel_rfl) ?_) | (apply Ok.call (cT); (focus (cbv; done)); (focus (cbv; done)); (focus (cbv; done))) | (apply Ok.dcall (cT); (focus (cbv; done)); (focus (cbv; done)); (focus (cbv; done))))
    (first | (apply Ok.fin1; (focus (cbv; done)); (focus (cbv; done))) | (apply Ok.fin2; (focus (cbv; done)); (focus (cbv; done))) | (apply Ok.fin3; (focus (cbv; done)); (focus (cbv; done))))
    all_goals first | rfl | simp [Enc.tyc]
  rw [if_neg k1]
  clear cT
  by_cases k2 : op = oX
  · rw [if_pos k2]
    refine CallsV.ok (fn := Try.f115) (by kernel_rfl) (by kernel_rfl) rfl (by cbv) (by cbv) ?_
    refine Ok.run hmix hA false 2000 (by cbv) ?_
    rw [q1, decide_eq_false k1]
    repeat (first | (apply Ok.run1 hmix hA false 2000; focus (cbv; done)) | (apply Ok.one hmix hA; focus (cbv; done)) | (rw [Ar.notT hA]) | (rw [Ar.notF hA]) | (refine Ok.condT ?_ ?_; focus (cbv; done)) | (refine Ok.condF ?_ ?_; focus (cbv; done)) | (refine Ok.drawnE (by as_aux_lemma => kernel_rfl) ?_))
    rw [q2, decide_eq_true k2]
    repeat (first | (apply Ok.run1 hmix hA false 2000; focus (cbv; done)) | (apply Ok.one hmix hA; focus (cbv; done)) | (rw [Ar.notT hA]) | (rw [Ar.notF hA]) | (refine Ok.condT ?_ ?_; focus (cbv; done)) | (refine Ok.condF ?_ ?_; focus (cbv; done)) | (refine Ok.drawnE (by as_aux_lemma => kernel_rfl) ?_))
    (first | (apply Ok.fin1; (focus (cbv; done)); (focus (cbv; done))) | (apply Ok.fin2; (focus (cbv; done)); (focus (cbv; done))) | (apply Ok.fin3; (focus (cbv; done)); (focus (cbv; done))))
    all_goals first | rfl | simp [Enc.tyc]
  rw [if_neg k2]
  by_cases k3 : op = oAt
  · rw [if_pos k3]
    have hl := h1 k3
    have hx0 : l[0]? = some (l[0]'(by omega)) := List.getElem?_eq_getElem (by omega)
    generalize l[0]'(by omega) = t0 at hx0
    rw [lgetD hx0]
    obtain ⟨k0, l0⟩ := t0
    obtain ⟨n0, hn0⟩ : ∃ n, n = l0.length := ⟨_, rfl⟩
    have hl0 : A .lenP (E .tys l0) = Int.ofNat n0 := by rw [Ar.lenP_eq hA, tys_len hE, hn0]; rfl
    have q6 : A .lt n 0 = decide (n < 0) := Ar.lt_eq hA _ _
    have q7 : A .le (Int.ofNat n0) n = decide ((n0 : Int) ≤ n) := Ar.le_eq hA _ _
    refine CallsV.ok (fn := Try.f115) (by kernel_rfl) (by kernel_rfl) rfl (by cbv) (by cbv) ?_
    refine Ok.run hmix hA false 2000 (by cbv) ?_
    rw [q1, decide_eq_false k1]
    repeat (first | (apply Ok.run1 hmix hA false 2000; focus (cbv; done)) | (apply Ok.one hmix hA; focus (cbv; done)) | (rw [Ar.notT hA]) | (rw [Ar.notF hA]) | (refine Ok.condT ?_ ?_; focus (cbv; done)) | (refine Ok.condF ?_ ?_; focus (cbv; done)) | (refine Ok.drawnE (by as_aux_lemma => kernel_rfl) ?_))
    rw [q2, decide_eq_false k2]
    repeat (first | (apply Ok.run1 hmix hA false 2000; focus (cbv; done)) | (apply Ok.one hmix hA; focus (cbv; done)) | (rw [Ar.notT hA]) | (rw [Ar.notF hA]) | (refine Ok.condT ?_ ?_; focus (cbv; done)) | (refine Ok.condF ?_ ?_; focus (cbv; done)) | (refine Ok.drawnE (by as_aux_lemma => kernel_rfl) ?_))
    rw [q3, decide_eq_true k3]
    repeat (first | (apply Ok.run1 hmix hA false 2000; focus (cbv; done)) | (apply Ok.one hmix hA; focus (cbv; done)) | (rw [Ar.notT hA]) | (rw [Ar.notF hA]) | (refine Ok.condT ?_ ?_; focus (cbv; done)) | (refine Ok.condF ?_ ?_; focus (cbv; done)) | (refine Ok.drawnE (by as_aux_lemma => kernel_rfl) ?_))
    rw [q6]
    by_cases c1 : n < 0
    · rw [decide_eq_true c1, if_pos (.inl c1)]
      repeat (first | (apply Ok.run1 hmix hA false 2000; focus (cbv; done)) | (apply Ok.one hmix hA; focus (cbv; done)) | (rw [Ar.notT hA]) | (rw [Ar.notF hA]) | (refine Ok.condT ?_ ?_; focus (cbv; done)) | (refine Ok.condF ?_ ?_; focus (cbv; done)) | (refine Ok.drawnE (by as_aux_lemma => kernel_rfl) ?_))
      (first | (apply Ok.fin1; (focus (cbv; done)); (focus (cbv; done))) | (apply Ok.fin2; (focus (cbv; done)); (focus (cbv; done))) | (apply Ok.fin3; (focus (cbv; done)); (focus (cbv; done))))
      all_goals first | rfl | simp [Enc.tyc, ht0, Ty.zero]
    rw [decide_eq_false c1]
    repeat (first | (apply Ok.run1 hmix hA false 2000; focus (cbv; done)) | (apply Ok.one hmix hA; focus (cbv; done)) | (rw [Ar.notT hA]) | (rw [Ar.notF hA]) | (refine Ok.condT ?_ ?_; focus (cbv; done)) | (refine Ok.condF ?_ ?_; focus (cbv; done)) | (refine Ok.drawnE (by as_aux_lemma => kernel_rfl) ?_))
    refine Ok.dop (idx_viewG (E.tyc ⟨k0, l0⟩) (by cbv) (by cbv) (by cbv) (by simp) (by rw [E.tys_eq hE]; simp [hx0]) rfl) ?_
    repeat (first | (apply Ok.run1 hmix hA false 2000; focus (cbv; done)) | (apply Ok.one hmix hA; focus (cbv; done)) | (rw [Ar.notT hA]) | (rw [Ar.notF hA]) | (refine Ok.condT ?_ ?_; focus (cbv; done)) | (refine Ok.condF ?_ ?_; focus (cbv; done)) | (refine Ok.drawnE (by as_aux_lemma => kernel_rfl) ?_))
    rw [hl0, q7]
    by_cases c2 : (n0 : Int) ≤ n
    · rw [decide_eq_true c2, if_pos (.inr (by rw [hn0] at c2; exact c2))]
      repeat (first | (apply Ok.run1 hmix hA false 2000; focus (cbv; done)) | (apply Ok.one hmix hA; focus (cbv; done)) | (rw [Ar.notT hA]) | (rw [Ar.notF hA]) | (refine Ok.condT ?_ ?_; focus (cbv; done)) | (refine Ok.condF ?_ ?_; focus (cbv; done)) | (refine Ok.drawnE (by as_aux_lemma => kernel_rfl) ?_))
      (first | (apply Ok.fin1; (focus (cbv; done)); (focus (cbv; done))) | (apply Ok.fin2; (focus (cbv; done)); (focus (cbv; done))) | (apply Ok.fin3; (focus (cbv; done)); (focus (cbv; done))))
      all_goals first | rfl | simp [Enc.tyc, ht0, Ty.zero]
    rw [decide_eq_false c2, if_neg (by rw [hn0] at c2; show ¬ (n < 0 ∨ (l0.length : Int) ≤ n); omega)]
    obtain ⟨m, rfl⟩ : ∃ m : Nat, n = Int.ofNat m := ⟨n.toNat, by rw [Int.ofNat_eq_natCast]; omega⟩
    have hm : m < l0.length := by rw [hn0] at c2; rw [Int.ofNat_eq_natCast] at c2; omega
    have hxm : l0[m]? = some l0[m] := List.getElem?_eq_getElem hm
    generalize l0[m] = y at hxm
    rw [show ((Ty.mk k0 l0).of.getD (Int.ofNat m).toNat Ty.zero) = y from lgetD hxm]
    obtain ⟨yk, yl⟩ := y
    repeat (first | (apply Ok.run1 hmix hA false 2000; focus (cbv; done)) | (apply Ok.one hmix hA; focus (cbv; done)) | (rw [Ar.notT hA]) | (rw [Ar.notF hA]) | (refine Ok.condT ?_ ?_; focus (cbv; done)) | (refine Ok.condF ?_ ?_; focus (cbv; done)) | (refine Ok.drawnE (by as_aux_lemma => kernel_rfl) ?_))
    refine Ok.dop (idx_view (E.tyc ⟨k0, l0⟩) (by cbv) (by cbv) (by simp) (by rw [E.tys_eq hE]; simp [hx0]) rfl) ?_
    repeat (first | (apply Ok.run1 hmix hA false 2000; focus (cbv; done)) | (apply Ok.one hmix hA; focus (cbv; done)) | (rw [Ar.notT hA]) | (rw [Ar.notF hA]) | (refine Ok.condT ?_ ?_; focus (cbv; done)) | (refine Ok.condF ?_ ?_; focus (cbv; done)) | (refine Ok.drawnE (by as_aux_lemma => kernel_rfl) ?_))
    refine Ok.dop (idx_view (E.tyc ⟨yk, yl⟩) (by cbv) (by cbv) (by simp) (by rw [E.tys_eq hE]; simp [hxm]) rfl) ?_
    repeat (first | (apply Ok.run1 hmix hA false 2000; focus (cbv; done)) | (apply Ok.one hmix hA; focus (cbv; done)) | (rw [Ar.notT hA]) | (rw [Ar.notF hA]) | (refine Ok.condT ?_ ?_; focus (cbv; done)) | (refine Ok.condF ?_ ?_; focus (cbv; done)) | (refine Ok.drawnE (by as_aux_lemma => kernel_rfl) ?_))
    (first | (apply Ok.fin1; (focus (cbv; done)); (focus (cbv; done))) | (apply Ok.fin2; (focus (cbv; done)); (focus (cbv; done))) | (apply Ok.fin3; (focus (cbv; done)); (focus (cbv; done))))
    all_goals first | rfl | simp [Enc.tyc]
  rw [if_neg k3]
  by_cases k4 : op = oTup
  · rw [if_pos k4]
    have cC := typ_Check hE ⟨4, l⟩ (by rw [szT]; omega)
    generalize ckT ⟨4, l⟩ 0 = r at cC ⊢
    refine CallsV.ok (fn := Try.f115) (by kernel_rfl) (by kernel_rfl) rfl (by cbv) (by cbv) ?_
    refine Ok.run hmix hA false 2000 (by cbv) ?_
    rw [q1, decide_eq_false k1]
    repeat (first | (apply Ok.run1 hmix hA false 2000; focus (cbv; done)) | (apply Ok.one hmix hA; focus (cbv; done)) | (rw [Ar.notT hA]) | (rw [Ar.notF hA]) | (refine Ok.condT ?_ ?_; focus (cbv; done)) | (refine Ok.condF ?_ ?_; focus (cbv; done)) | (refine Ok.drawnE (by as_aux_lemma => kernel_rfl) ?_))
    rw [q2, decide_eq_false k2]
    repeat (first | (apply Ok.run1 hmix hA false 2000; focus (cbv; done)) | (apply Ok.one hmix hA; focus (cbv; done)) | (rw [Ar.notT hA]) | (rw [Ar.notF hA]) | (refine Ok.condT ?_ ?_; focus (cbv; done)) | (refine Ok.condF ?_ ?_; focus (cbv; done)) | (refine Ok.drawnE (by as_aux_lemma => kernel_rfl) ?_))
    rw [q3, decide_eq_false k3]
    repeat (first | (apply Ok.run1 hmix hA false 2000; focus (cbv; done)) | (apply Ok.one hmix hA; focus (cbv; done)) | (rw [Ar.notT hA]) | (rw [Ar.notF hA]) | (refine Ok.condT ?_ ?_; focus (cbv; done)) | (refine Ok.condF ?_ ?_; focus (cbv; done)) | (refine Ok.drawnE (by as_aux_lemma => kernel_rfl) ?_))
    rw [q4, decide_eq_true k4]
    repeat (first | (apply Ok.run1 hmix hA false 2000; focus (cbv; done)) | (apply Ok.one hmix hA; focus (cbv; done)) | (rw [Ar.notT hA]) | (rw [Ar.notF hA]) | (refine Ok.condT ?_ ?_; focus (cbv; done)) | (refine Ok.condF ?_ ?_; focus (cbv; done)) | (refine Ok.drawnE (by as_aux_lemma => kernel_rfl) ?_) | (apply Ok.call (cC); (focus (cbv; done)); (focus (cbv; done)); (focus (cbv; done))) | (apply Ok.dcall (cC); (focus (cbv; done)); (focus (cbv; done)); (focus (cbv; done))))
    rw [Ar.eq_eq hA, Ar.not_eq hA]
    by_cases c0 : r = 0
    · rw [decide_eq_true c0, if_neg (by simpa using c0)]
      repeat (first | (apply Ok.run1 hmix hA false 2000; focus (cbv; done)) | (apply Ok.one hmix hA; focus (cbv; done)) | (rw [Ar.notT hA]) | (rw [Ar.notF hA]) | (refine Ok.condT ?_ ?_; focus (cbv; done)) | (refine Ok.condF ?_ ?_; focus (cbv; done)) | (refine Ok.drawnE (by as_aux_lemma => kernel_rfl) ?_))
      (first | (apply Ok.fin1; (focus (cbv; done)); (focus (cbv; done))) | (apply Ok.fin2; (focus (cbv; done)); (focus (cbv; done))) | (apply Ok.fin3; (focus (cbv; done)); (focus (cbv; done))))
      all_goals first | rfl | simp [Enc.tyc]
    · rw [decide_eq_false c0, if_pos c0]
      repeat (first | (apply Ok.run1 hmix hA false 2000; focus (cbv; done)) | (apply Ok.one hmix hA; focus (cbv; done)) | (rw [Ar.notT hA]) | (rw [Ar.notF hA]) | (refine Ok.condT ?_ ?_; focus (cbv; done)) | (refine Ok.condF ?_ ?_; focus (cbv; done)) | (refine Ok.drawnE (by as_aux_lemma => kernel_rfl) ?_))
      (first | (apply Ok.fin1; (focus (cbv; done)); (focus (cbv; done))) | (apply Ok.fin2; (focus (cbv; done)); (focus (cbv; done))) | (apply Ok.fin3; (focus (cbv; done)); (focus (cbv; done))))
      all_goals first | rfl | simp [Enc.tyc, ht0, Ty.zero]
  rw [if_neg k4]
  by_cases k5 : op = oIf
  · rw [if_pos k5]
    have hl := h2 k5
    have hx1 : l[1]? = some (l[1]'(by omega)) := List.getElem?_eq_getElem (by omega)
    generalize l[1]'(by omega) = t1 at hx1
    rw [lgetD hx1]
    obtain ⟨k0, l0⟩ := t1
    refine CallsV.ok (fn := Try.f115) (by kernel_rfl) (by kernel_rfl) rfl (by cbv) (by cbv) ?_
    refine Ok.run hmix hA false 2000 (by cbv) ?_
    rw [q1, decide_eq_false k1]
    repeat (first | (apply Ok.run1 hmix hA false 2000; focus (cbv; done)) | (apply Ok.one hmix hA; focus (cbv; done)) | (rw [Ar.notT hA]) | (rw [Ar.notF hA]) | (refine Ok.condT ?_ ?_; focus (cbv; done)) | (refine Ok.condF ?_ ?_; focus (cbv; done)) | (refine Ok.drawnE (by as_aux_lemma => kernel_rfl) ?_))
    rw [q2, decide_eq_false k2]
    repeat (first | (apply Ok.run1 hmix hA false 2000; focus (cbv; done)) | (apply Ok.one hmix hA; focus (cbv; done)) | (rw [Ar.notT hA]) | (rw [Ar.notF hA]) | (refine Ok.condT ?_ ?_; focus (cbv; done)) | (refine Ok.condF ?_ ?_; focus (cbv; done)) | (refine Ok.drawnE (by as_aux_lemma => kernel_rfl) ?_))
    rw [q3, decide_eq_false k3]
    repeat (first | (apply Ok.run1 hmix hA false 2000; focus (cbv; done)) | (apply Ok.one hmix hA; focus (cbv; done)) | (rw [Ar.notT hA]) | (rw [Ar.notF hA]) | (refine Ok.condT ?_ ?_; focus (cbv; done)) | (refine Ok.condF ?_ ?_; focus (cbv; done)) | (refine Ok.drawnE (by as_aux_lemma => kernel_rfl) ?_))
    rw [q4, decide_eq_false k4]
    repeat (first | (apply Ok.run1 hmix hA false 2000; focus (cbv; done)) | (apply Ok.one hmix hA; focus (cbv; done)) | (rw [Ar.notT hA]) | (rw [Ar.notF hA]) | (refine Ok.condT ?_ ?_; focus (cbv; done)) | (refine Ok.condF ?_ ?_; focus (cbv; done)) | (refine Ok.drawnE (by as_aux_lemma => kernel_rfl) ?_))
    rw [q5, decide_eq_true k5]
    repeat (first | (apply Ok.run1 hmix hA false 2000; focus (cbv; done)) | (apply Ok.one hmix hA; focus (cbv; done)) | (rw [Ar.notT hA]) | (rw [Ar.notF hA]) | (refine Ok.condT ?_ ?_; focus (cbv; done)) | (refine Ok.condF ?_ ?_; focus (cbv; done)) | (refine Ok.drawnE (by as_aux_lemma => kernel_rfl) ?_))
    refine Ok.op (idx_view (E.tyc ⟨k0, l0⟩) (by cbv) (by cbv) (by simp) (by rw [E.tys_eq hE]; simp [hx1]) rfl) ?_
    repeat (first | (apply Ok.run1 hmix hA false 2000; focus (cbv; done)) | (apply Ok.one hmix hA; focus (cbv; done)) | (rw [Ar.notT hA]) | (rw [Ar.notF hA]) | (refine Ok.condT ?_ ?_; focus (cbv; done)) | (refine Ok.condF ?_ ?_; focus (cbv; done)) | (refine Ok.drawnE (by as_aux_lemma => kernel_rfl) ?_))
    (first | (apply Ok.fin1; (focus (cbv; done)); (focus (cbv; done))) | (apply Ok.fin2; (focus (cbv; done)); (focus (cbv; done))) | (apply Ok.fin3; (focus (cbv; done)); (focus (cbv; done))))
    all_goals first | rfl | simp [Enc.tyc]
  rw [if_neg k5]
  refine CallsV.ok (fn := Try.f115) (by kernel_rfl) (by kernel_rfl) rfl (by cbv) (by cbv) ?_
  refine Ok.run hmix hA false 2000 (by cbv) ?_
  rw [q1, decide_eq_false k1]
  repeat (first | (apply Ok.run1 hmix hA false 2000; focus (cbv; done)) | (apply Ok.one hmix hA; focus (cbv; done)) | (rw [Ar.notT hA]) | (rw [Ar.notF hA]) | (refine Ok.condT ?_ ?_; focus (cbv; done)) | (refine Ok.condF ?_ ?_; focus (cbv; done)) | (refine Ok.drawnE (by as_aux_lemma => kernel_rfl) ?_))
  rw [q2, decide_eq_false k2]
  repeat (first | (apply Ok.run1 hmix hA false 2000; focus (cbv; done)) | (apply Ok.one hmix hA; focus (cbv; done)) | (rw [Ar.notT hA]) | (rw [Ar.notF hA]) | (refine Ok.condT ?_ ?_; focus (cbv; done)) | (refine Ok.condF ?_ ?_; focus (cbv; done)) | (refine Ok.drawnE (by as_aux_lemma => kernel_rfl) ?_))
  rw [q3, decide_eq_false k3]
  repeat (first | (apply Ok.run1 hmix hA false 2000; focus (cbv; done)) | (apply Ok.one hmix hA; focus (cbv; done)) | (rw [Ar.notT hA]) | (rw [Ar.notF hA]) | (refine Ok.condT ?_ ?_; focus (cbv; done)) | (refine Ok.condF ?_ ?_; focus (cbv; done)) | (refine Ok.drawnE (by as_aux_lemma => kernel_rfl) ?_))
  rw [q4, decide_eq_false k4]
  repeat (first | (apply Ok.run1 hmix hA false 2000; focus (cbv; done)) | (apply Ok.one hmix hA; focus (cbv; done)) | (rw [Ar.notT hA]) | (rw [Ar.notF hA]) | (refine Ok.condT ?_ ?_; focus (cbv; done)) | (refine Ok.condF ?_ ?_; focus (cbv; done)) | (refine Ok.drawnE (by as_aux_lemma => kernel_rfl) ?_))
  rw [q5, decide_eq_false k5]
  repeat (first | (apply Ok.run1 hmix hA false 2000; focus (cbv; done)) | (apply Ok.one hmix hA; focus (cbv; done)) | (rw [Ar.notT hA]) | (rw [Ar.notF hA]) | (refine Ok.condT ?_ ?_; focus (cbv; done)) | (refine Ok.condF ?_ ?_; focus (cbv; done)) | (refine Ok.drawnE (by as_aux_lemma => kernel_rfl) ?_))
  (first | (apply Ok.fin1; (focus (cbv; done)); (focus (cbv; done))) | (apply Ok.fin2; (focus (cbv; done)); (focus (cbv; done))) | (apply Ok.fin3; (focus (cbv; done)); (focus (cbv; done))))
  all_goals first | rfl | simp [Enc.tyc, ht0]
theorem sizXs_mem : ∀ {l : List Ex4} {e : Ex4}, e ∈ l → sizX e ≤ sizXs l
  | [], e, he => by simp at he
  | x :: l, e, he => by
    rw [sizXs]
    rcases List.mem_cons.1 he with rfl | he
    · omega
    · have := sizXs_mem he; omega
theorem sizXs_take : ∀ (l : List Ex4) (k : Nat), sizXs (l.take k) ≤ sizXs l
  | [], k => by simp [sizXs]
  | x :: l, 0 => by simp [sizXs]
  | x :: l, k + 1 => by rw [List.take_succ_cons, sizXs, sizXs]; have := sizXs_take l k; omega
theorem sizXs_append : ∀ (l m : List Ex4), sizXs (l ++ m) = sizXs l + sizXs m
  | [], m => by simp [sizXs]
  | x :: l, m => by rw [List.cons_append, sizXs, sizXs, sizXs_append l m]; omega
theorem sizXs_len : ∀ l : List Ex4, l.length ≤ sizXs l
  | [] => by simp
  | x :: l => by have := sizXs_len l; rw [sizXs, List.length_cons]; cases x; rw [sizX]; omega
theorem expr_Size {E : Enc} (hE : E = .std) : ∀ (n : Nat) (e : Ex4), SizeOf.sizeOf e ≤ n → sizX e ≤ 2 ^ 40 → CallsV Try.prog 43 [E.ex e] (.pv (.int .i64 (Int.ofNat (sizX e)))) [] := by
  intro n
  induction n with
  | zero => intro e h; cases e; simp at h
  | succ n ih =>
    rintro ⟨op, ⟨vk, vi, vb, vs, vt⟩, nn, a⟩ hn hsz
    obtain ⟨A, hA⟩ : ∃ A : Ar, A = .std := ⟨_, rfl⟩
    rw [sizX] at hsz
    have hlen := sizXs_len a
    obtain ⟨ln, hln⟩ : ∃ n, n = a.length := ⟨_, rfl⟩
    have hll : A .lenP (E .exs a) = Int.ofNat ln := by rw [Ar.lenP_eq hA, exs_len hE, hln]; rfl
    have hsub : ∀ x, x ∈ a → CallsV Try.prog 43 [E.ex x] (.pv (.int .i64 (Int.ofNat (sizX x)))) [] := fun x hx => by
      have h1 := List.sizeOf_lt_of_mem hx
      have h2 := sizXs_mem hx
      simp at hn
      exact ih x (by omega) (by omega)
    clear ih
    rw [sizX]
    obtain ⟨res, hres⟩ : ∃ r, r = 1 + sizXs a := ⟨_, rfl⟩
    rw [← hres]
    refine CallsV.ok (fn := Try.f43) (by kernel_rfl) (by kernel_rfl) rfl (by cbv) (by cbv) ?_
    repeat (first | (apply Ok.run1 hmix hA false 2000; focus (cbv; done)) | (apply Ok.one hmix hA; focus (cbv; done)) | (rw [Ar.notT hA]) | (rw [Ar.notF hA]) | (refine Ok.condT ?_ ?_; focus (cbv; done)) | (refine Ok.condF ?_ ?_; focus (cbv; done)) | (refine Ok.drawnE (by as_aux_lemma => kernel_rfl) ?_))
    rw [hll]
    refine Ok.loopAt [3, 7, 8, 9] [] (fun m s h => ∃ (k q : Nat), m = ln - k ∧ k ≤ ln ∧ q = 1 + sizXs (a.take k) ∧ s = mkS 19 [(3, .pv (.int .i64 (Int.ofNat q))), (7, .pv (.view (E .exs a))), (8, .pv (.int .i64 (Int.ofNat ln))), (9, .pv (.int .i64 (Int.ofNat k)))] ∧ h = []) (ln - 0) (by cbv) ⟨0, 1, rfl, Nat.zero_le _, by simp [sizXs], by cbv, by cbv⟩ ?_
    rintro m s h ⟨k, q, rfl, hk, hq, rfl, rfl⟩
    refine Ok.run hmix hA false 2000 (by cbv) ?_
    rw [ofNat_lt hA]
    by_cases hkl : k < ln
    · rw [decide_eq_true hkl]
      repeat (first | (apply Ok.run1 hmix hA false 2000; focus (cbv; done)) | (apply Ok.one hmix hA; focus (cbv; done)) | (rw [Ar.notT hA]) | (rw [Ar.notF hA]) | (refine Ok.condT ?_ ?_; focus (cbv; done)) | (refine Ok.condF ?_ ?_; focus (cbv; done)) | (refine Ok.drawnE (by as_aux_lemma => kernel_rfl) ?_))
      have hx : a[k]? = some (a[k]'(by omega)) := List.getElem?_eq_getElem (by omega)
      have hxm : a[k]'(by omega) ∈ a := List.getElem_mem (by omega)
      have htk : a.take (k + 1) = a.take k ++ [a[k]'(by omega)] := by rw [List.take_add_one, hx]; rfl
      generalize a[k]'(by omega) = x at hx hxm htk
      have cx := hsub x hxm
      have hx1 := sizXs_mem hxm
      have htl := sizXs_take a k
      obtain ⟨q', hq'⟩ : ∃ q', q' = q + sizX x := ⟨_, rfl⟩
      have hadd : A .add .i64 (Int.ofNat q) (Int.ofNat (sizX x)) = Int.ofNat q' := by rw [hq']; exact ofNat_add hA (by omega)
      generalize hsx : sizX x = sx at *
      refine Ok.op (idx_view (E.ex x) (by cbv) (by cbv) (by simp) (by rw [E.exs_eq hE]; simp [hx]) rfl) ?_
      repeat (first | (apply Ok.run1 hmix hA false 2000; focus (cbv; done)) | (apply Ok.one hmix hA; focus (cbv; done)) | (rw [Ar.notT hA]) | (rw [Ar.notF hA]) | (refine Ok.condT ?_ ?_; focus (cbv; done)) | (refine Ok.condF ?_ ?_; focus (cbv; done)) | (refine Ok.drawnE (by as_aux_lemma => kernel_rfl) ?_) | (apply Ok.call (cx); (focus (cbv; done)); (focus (cbv; done)); (focus (cbv; done))) | (apply Ok.dcall (cx); (focus (cbv; done)); (focus (cbv; done)); (focus (cbv; done))))
      rw [hadd]
      rw [Ar.succ_eq (k := k) hA (by omega)]
      exact Ok.back (ln - (k + 1)) [3, 7, 8, 9] [] (by omega) (by cbv) ⟨k + 1, q', rfl, by omega, by rw [hq', hq, htk, sizXs_append, sizXs, sizXs, hsx]; omega, by cbv, by cbv⟩
    · rw [decide_eq_false hkl]
      have hke : k = a.length := by omega
      rw [hke, List.take_length, ← hres] at hq
      rw [← hq]
      repeat (first | (apply Ok.run1 hmix hA false 2000; focus (cbv; done)) | (apply Ok.one hmix hA; focus (cbv; done)) | (rw [Ar.notT hA]) | (rw [Ar.notF hA]) | (refine Ok.condT ?_ ?_; focus (cbv; done)) | (refine Ok.condF ?_ ?_; focus (cbv; done)) | (refine Ok.drawnE (by as_aux_lemma => kernel_rfl) ?_))
      refine Ok.leave ?_
      repeat (first | (apply Ok.run1 hmix hA false 2000; focus (cbv; done)) | (apply Ok.one hmix hA; focus (cbv; done)) | (rw [Ar.notT hA]) | (rw [Ar.notF hA]) | (refine Ok.condT ?_ ?_; focus (cbv; done)) | (refine Ok.condF ?_ ?_; focus (cbv; done)) | (refine Ok.drawnE (by as_aux_lemma => kernel_rfl) ?_))
      exact Ok.fin (by cbv) (FS.out (by cbv) (PLe.refl _))
end Go.Proofs.Ytnojmocoifodjaa.Pv
set_option maxRecDepth 100000
set_option maxHeartbeats 4000000
set_option linter.unusedVariables false
set_option linter.unusedSimpArgs false
namespace Go.Proofs.Ytnojmocoifodjaa.Pv
open Go Go.Proofs
mutual
theorem typV_sz : ∀ v, szT (typV v) ≤ szV v
  | .mk k i b s t => by
    have := typVs_sz t
    rw [typV, szT, szV]; omega
theorem typVs_sz : ∀ l, szTs (typVs l) ≤ szVs l
  | [] => by simp [typVs, szTs, szVs]
  | x :: l => by
    have h1 := typV_sz x
    have h2 := typVs_sz l
    rw [typVs, szTs, szVs]; omega
end
mutual
def wX : Ex4 → Nat → Nat
  | .mk _ v _ a, T => 2 + szV v + T + wXs a T
def wXs : List Ex4 → Nat → Nat
  | [], _ => 0
  | x :: l, T => wX x T + wXs l T
end
theorem wXs_mem : ∀ {l : List Ex4} {e : Ex4} (T : Nat), e ∈ l → wX e T ≤ wXs l T
  | [], e, T, he => by simp at he
  | x :: l, e, T, he => by
    rw [wXs]
    rcases List.mem_cons.1 he with rfl | he
    · omega
    · have := wXs_mem T he; omega
theorem wXs_len (T : Nat) : ∀ l : List Ex4, l.length ≤ wXs l T
  | [] => by simp
  | x :: l => by have := wXs_len T l; rw [wXs, List.length_cons]; cases x; rw [wX]; omega
theorem szT_getD (l : List Ty) (i : Nat) : szT (l.getD i .zero) ≤ szTs l + 1 := by
  by_cases h : i < l.length
  · have hx : l[i]? = some l[i] := List.getElem?_eq_getElem h
    rw [lgetD hx]
    have := szTs_mem (List.getElem_mem h)
    omega
  · have : l[i]? = none := List.getElem?_eq_none (by omega)
    simp [List.getD, this, Ty.zero, szT, szTs]
theorem szT_of (t : Ty) (i : Nat) : szT (t.of.getD i .zero) ≤ szT t := by
  obtain ⟨k, l⟩ := t
  have := szT_getD l i
  rw [szT]
  show szT (l.getD i .zero) ≤ _
  omega
theorem comes_sz (op : List UInt8) (v : Vl) (n : Int) (s : Shp) (l : List Ty) (tin : Ty) : szT (comesX op v n s l tin).1 ≤ 2 + szV v + szT tin + szTs l := by
  have z : szT Ty.zero = 1 := by simp [Ty.zero, szT, szTs]
  unfold comesX
  split
  · unfold typOfM
    have := typV_sz v
    split <;> simp only [] <;> omega
  split
  · simp only []; omega
  split
  · have h1 := szT_getD l 0
    have h2 := szT_of (l.getD 0 .zero) n.toNat
    split <;> simp only [] <;> omega
  split
  · split
    · simp only []; omega
    · simp only [szT]; omega
  split
  · have := szT_getD l 1
    simp only []; omega
  · simp only [szT, szTs]; omega
theorem z1 : szT Ty.zero = 1 := by simp [Ty.zero, szT, szTs]
mutual
theorem chkX_sz : ∀ (e : Ex4) (tin : Ty) (d : Nat), szT (chkX e tin d).1 ≤ wX e (szT tin)
  | .mk op v n a, tin, d => by
    have h1 := chkXs_sz a tin (d + 1)
    rw [chkX, wX]
    have h2 := comes_sz op v n
    split
    · simp only [z1]; omega
    · rename_i s _
      have h2 := h2 s (chkXs a tin (d + 1)).1 tin
      repeat' split
      all_goals first | omega | (simp only [z1]; omega)
theorem chkXs_sz : ∀ (l : List Ex4) (tin : Ty) (d : Nat), szTs (chkXs l tin d).1 ≤ wXs l (szT tin)
  | [], tin, d => by simp [chkXs, szTs]
  | x :: l, tin, d => by
    have h1 := chkX_sz x tin d
    have h2 := chkXs_sz l tin d
    rw [chkXs, wXs]
    split
    · simp [szTs]
    · rw [szTs]; omega
end
theorem chkXs_len : ∀ (l : List Ex4) (tin : Ty) (d : Nat), (chkXs l tin d).2 = 0 → (chkXs l tin d).1.length = l.length
  | [], tin, d, _ => by simp [chkXs]
  | x :: l, tin, d, h => by
    rw [chkXs] at h ⊢
    split at h
    · rename_i hne; exact absurd h hne
    · rename_i hne
      rw [if_neg hne]
      simp only [List.length_cons]
      rw [chkXs_len l tin d h]
theorem chkXs_drop {a : List Ex4} {k : Nat} {x : Ex4} (h : a.drop k = x :: a.drop (k + 1)) (tin : Ty) (d : Nat) : (chkXs (a.drop k) tin d) = if (chkX x tin d).2 ≠ 0 then ([], (chkX x tin d).2) else ((chkX x tin d).1 :: (chkXs (a.drop (k + 1)) tin d).1, (chkXs (a.drop (k + 1)) tin d).2) := by
  rw [h, chkXs]
theorem expr_check {E : Enc} (hE : E = .std) : ∀ (n : Nat) (e : Ex4) (tin : Ty) (d : Nat), SizeOf.sizeOf e ≤ n → wX e (szT tin) ≤ 2 ^ 27 → d ≤ 1000 → CallsV Try.prog 77 [E.ex e, E.tyc tin, .int .i64 (Int.ofNat d)] (.tup [.pv (E.tyc (chkX e tin d).1), .pv (.int .i64 (chkX e tin d).2)]) [] := by
  intro n
  induction n with
  | zero => intro e tin d h; cases e; simp at h
  | succ n ih =>
    rintro ⟨op, ⟨vk, vi, vb, vs, vt⟩, nn, a⟩ ⟨tk, tl⟩ d hn hsz hd
    obtain ⟨A, hA⟩ : ∃ A : Ar, A = .std := ⟨_, rfl⟩
    have ht0 : E .tys [] = [] := by rw [E.tys_eq hE]; rfl
    rw [wX] at hsz
    have hlen := wXs_len (szT ⟨tk, tl⟩) a
    obtain ⟨ln, hln⟩ : ∃ n, n = a.length := ⟨_, rfl⟩
    have hll : A .lenP (E .exs a) = Int.ofNat ln := by rw [Ar.lenP_eq hA, exs_len hE, hln]; rfl
    obtain ⟨d1, hd1⟩ : ∃ d1, d1 = d + 1 := ⟨_, rfl⟩
    have hsub : d ≤ 12 → ∀ x, x ∈ a → CallsV Try.prog 77 [E.ex x, E.tyc ⟨tk, tl⟩, .int .i64 (Int.ofNat d1)] (.tup [.pv (E.tyc (chkX x ⟨tk, tl⟩ d1).1), .pv (.int .i64 (chkX x ⟨tk, tl⟩ d1).2)]) [] := fun hd x hx => by
      have h1 := List.sizeOf_lt_of_mem hx
      have h2 := wXs_mem (szT ⟨tk, tl⟩) hx
      rw [hd1]
      simp at hn
      exact ih x _ (d + 1) (by omega) (by omega) (by omega)
    clear ih
    have cs := expr_shapes.still (by rfl)
    have cF := expr_find shpT op (shpT.map encS) rfl (by decide)
    rw [show findS shpT op = shpOf op from rfl] at cF
    have cV := val_Check hE ⟨vk, vi, vb, vs, vt⟩ (by omega)
    have q1 : A .seq op [108, 105, 116] = decide (op = oLit) := Ar.seq_eq hA _ _
    have q2 : A .lt 12 (Int.ofNat d) = decide (12 < d) := ofNat_lt hA 12 d
    rw [chkX, ← hd1]
    generalize hes : shpT.map encS = es at cs cF
    cases hs : shpOf op with
    | none =>
      rw [hs] at cF
      dsimp only
      refine CallsV.ok (fn := Try.f77) (by kernel_rfl) (by kernel_rfl) rfl (by cbv) (by cbv) ?_
      repeat (first | (apply Ok.run1 hmix hA false 2000; focus (cbv; done)) | (apply Ok.one hmix hA; focus (cbv; done)) | (rw [Ar.notT hA]) | (rw [Ar.notF hA]) | (refine Ok.condT ?_ ?_; focus (cbv; done)) | (refine Ok.condF ?_ ?_; focus (cbv; done)) | (refine Ok.drawnE (by as_aux_lemma => kernel_rfl) ?_) | (apply Ok.call (cs); (focus (cbv; done)); (focus (cbv; done)); (focus (cbv; done))) | (apply Ok.dcall (cs); (focus (cbv; done)); (focus (cbv; done)); (focus (cbv; done))) | (apply Ok.call (cF); (focus (cbv; done)); (focus (cbv; done)); (focus (cbv; done))) | (apply Ok.dcall (cF); (focus (cbv; done)); (focus (cbv; done)); (focus (cbv; done))))
      (first | (apply Ok.fin1; (focus (cbv; done)); (focus (cbv; done))) | (apply Ok.fin2; (focus (cbv; done)); (focus (cbv; done))) | (apply Ok.fin3; (focus (cbv; done)); (focus (cbv; done))))
      all_goals first | rfl | simp [Enc.tyc, ht0, Ty.zero]
    | some s =>
      rw [hs] at cF
      dsimp only
      have hgood := shpOf_good hs
      have cf := expr_fields hE op ⟨vk, vi, vb, vs, vt⟩ nn a s (by omega)
      obtain ⟨F, hF⟩ : ∃ f, f = fieldsX op ⟨vk, vi, vb, vs, vt⟩ nn a.length s := ⟨_, rfl⟩
      rw [← hF] at cf ⊢
      have hR := chkXs_sz a ⟨tk, tl⟩ d1
      have hRl := chkXs_len a ⟨tk, tl⟩ d1
      obtain ⟨R, hRR⟩ : ∃ R, R = chkXs a ⟨tk, tl⟩ d1 := ⟨_, rfl⟩
      rw [← hRR] at hR hRl ⊢
      have hFl : F = true → s.least ≤ a.length := by
        intro h
        rw [h] at hF
        unfold fieldsX at hF
        have := hF.symm
        simp only [Bool.and_eq_true, decide_eq_true_eq] at this
        exact this.1.1.1
      simp only [Shp.good, Bool.and_eq_true, Bool.or_eq_true, decide_eq_true_eq, Bool.not_eq_true'] at hgood
      obtain ⟨⟨⟨⟨⟨g0, g1⟩, g2⟩, g3⟩, g4⟩, g5⟩ := hgood
      have cfit : F = true → R.2 = 0 → CallsV Try.prog 114 [.agg s.cells, .view (E .tys R.1)] (.pv (.bool (fitsX s R.1))) [] := fun hf h0 => by
        have := hFl hf
        have := hRl h0
        refine expr_fits hE s R.1 (by omega) (fun h => ?_) (by omega) (by omega)
        rcases g2 with h2 | h2
        · rw [h2] at h; cases h
        · omega
      have ccom : F = true → R.2 = 0 → CallsV Try.prog 115 [E.ex ⟨op, ⟨vk, vi, vb, vs, vt⟩, nn, a⟩, .agg s.cells, .view (E .tys R.1), E.tyc ⟨tk, tl⟩] (.tup [.pv (E.tyc (comesX op ⟨vk, vi, vb, vs, vt⟩ nn s R.1 ⟨tk, tl⟩).1), .pv (.int .i64 (comesX op ⟨vk, vi, vb, vs, vt⟩ nn s R.1 ⟨tk, tl⟩).2)]) [] := fun hf h0 => by
        have := hFl hf
        have := hRl h0
        refine expr_comes hE op _ nn a s R.1 _ (by omega) (by omega) (fun h => ?_) (fun h => ?_)
        · rcases g3 with h3 | h3
          · exact absurd h h3
          · omega
        · rcases g4 with h3 | h3
          · exact absurd h h3
          · omega
      generalize comesX op ⟨vk, vi, vb, vs, vt⟩ nn s R.1 ⟨tk, tl⟩ = CR at ccom ⊢
      obtain ⟨⟨ck, cl⟩, ce⟩ := CR
      generalize fitsX s R.1 = FT at cfit ⊢
      rw [show (some s).getD Shp.zero = s from rfl] at cF
      clear g0 g1 g2 g3 g4 g5 hFl hs hF
      obtain ⟨least, most, of, alike, out⟩ := s
      obtain ⟨ofs, hofs⟩ : ∃ o : List PV, o = of.map fun k => .int .i64 k := ⟨_, rfl⟩
      have hcells : (Shp.mk least most of alike out).cells = [.int .i64 least, .int .i64 most, .view ofs, .bool alike, .int .i64 out] := by rw [hofs]; rfl
      rw [hcells] at cF cf cfit ccom
      generalize hvv : ckV ⟨vk, vi, vb, vs, vt⟩ 0 = vv at cV ⊢
      refine CallsV.ok (fn := Try.f77) (by kernel_rfl) (by kernel_rfl) rfl (by cbv) (by cbv) ?_
      repeat (first | (apply Ok.run1 hmix hA false 2000; focus (cbv; done)) | (apply Ok.one hmix hA; focus (cbv; done)) | (rw [Ar.notT hA]) | (rw [Ar.notF hA]) | (refine Ok.condT ?_ ?_; focus (cbv; done)) | (refine Ok.condF ?_ ?_; focus (cbv; done)) | (refine Ok.drawnE (by as_aux_lemma => kernel_rfl) ?_) | (apply Ok.call (cs); (focus (cbv; done)); (focus (cbv; done)); (focus (cbv; done))) | (apply Ok.dcall (cs); (focus (cbv; done)); (focus (cbv; done)); (focus (cbv; done))) | (apply Ok.call (cF); (focus (cbv; done)); (focus (cbv; done)); (focus (cbv; done))) | (apply Ok.dcall (cF); (focus (cbv; done)); (focus (cbv; done)); (focus (cbv; done))))
      rw [q2]
      by_cases h12 : 12 < d
      · rw [decide_eq_true h12, if_pos h12]
        repeat (first | (apply Ok.run1 hmix hA false 2000; focus (cbv; done)) | (apply Ok.one hmix hA; focus (cbv; done)) | (rw [Ar.notT hA]) | (rw [Ar.notF hA]) | (refine Ok.condT ?_ ?_; focus (cbv; done)) | (refine Ok.condF ?_ ?_; focus (cbv; done)) | (refine Ok.drawnE (by as_aux_lemma => kernel_rfl) ?_))
        (first | (apply Ok.fin1; (focus (cbv; done)); (focus (cbv; done))) | (apply Ok.fin2; (focus (cbv; done)); (focus (cbv; done))) | (apply Ok.fin3; (focus (cbv; done)); (focus (cbv; done))))
        all_goals first | rfl | simp [Enc.tyc, ht0, Ty.zero]
      rw [decide_eq_false h12, if_neg h12]
      repeat (first | (apply Ok.run1 hmix hA false 2000; focus (cbv; done)) | (apply Ok.one hmix hA; focus (cbv; done)) | (rw [Ar.notT hA]) | (rw [Ar.notF hA]) | (refine Ok.condT ?_ ?_; focus (cbv; done)) | (refine Ok.condF ?_ ?_; focus (cbv; done)) | (refine Ok.drawnE (by as_aux_lemma => kernel_rfl) ?_) | (apply Ok.call (cf); (focus (cbv; done)); (focus (cbv; done)); (focus (cbv; done))) | (apply Ok.dcall (cf); (focus (cbv; done)); (focus (cbv; done)); (focus (cbv; done))))
      cases F with
      | false =>
        rw [if_pos rfl]
        repeat (first | (apply Ok.run1 hmix hA false 2000; focus (cbv; done)) | (apply Ok.one hmix hA; focus (cbv; done)) | (rw [Ar.notT hA]) | (rw [Ar.notF hA]) | (refine Ok.condT ?_ ?_; focus (cbv; done)) | (refine Ok.condF ?_ ?_; focus (cbv; done)) | (refine Ok.drawnE (by as_aux_lemma => kernel_rfl) ?_))
        (first | (apply Ok.fin1; (focus (cbv; done)); (focus (cbv; done))) | (apply Ok.fin2; (focus (cbv; done)); (focus (cbv; done))) | (apply Ok.fin3; (focus (cbv; done)); (focus (cbv; done))))
        all_goals first | rfl | simp [Enc.tyc, ht0, Ty.zero]
      | true =>
      rw [if_neg (by simp)]
      have cfit := cfit rfl
      have ccom := ccom rfl
      have hsub := hsub (by omega)
      repeat (first | (apply Ok.run1 hmix hA false 2000; focus (cbv; done)) | (apply Ok.one hmix hA; focus (cbv; done)) | (rw [Ar.notT hA]) | (rw [Ar.notF hA]) | (refine Ok.condT ?_ ?_; focus (cbv; done)) | (refine Ok.condF ?_ ?_; focus (cbv; done)) | (refine Ok.drawnE (by as_aux_lemma => kernel_rfl) ?_))
      rw [q1]
      by_cases kl : op = oLit
      · rw [decide_eq_true kl]
        repeat (first | (apply Ok.run1 hmix hA false 2000; focus (cbv; done)) | (apply Ok.one hmix hA; focus (cbv; done)) | (rw [Ar.notT hA]) | (rw [Ar.notF hA]) | (refine Ok.condT ?_ ?_; focus (cbv; done)) | (refine Ok.condF ?_ ?_; focus (cbv; done)) | (refine Ok.drawnE (by as_aux_lemma => kernel_rfl) ?_) | (apply Ok.call (cV); (focus (cbv; done)); (focus (cbv; done)); (focus (cbv; done))) | (apply Ok.dcall (cV); (focus (cbv; done)); (focus (cbv; done)); (focus (cbv; done))))
        rw [Ar.eq_eq hA, Ar.not_eq hA]
        by_cases v0 : vv = 0
        · rw [decide_eq_true v0, if_neg (by intro h; exact h.2 v0)]
          repeat (first | (apply Ok.run1 hmix hA false 2000; focus (cbv; done)) | (apply Ok.one hmix hA; focus (cbv; done)) | (rw [Ar.notT hA]) | (rw [Ar.notF hA]) | (refine Ok.condT ?_ ?_; focus (cbv; done)) | (refine Ok.condF ?_ ?_; focus (cbv; done)) | (refine Ok.drawnE (by as_aux_lemma => kernel_rfl) ?_))
          rw [hll]
          refine Ok.le (Le.nil 11 70 24 2 (by cbv) (by cbv) (by decide)) ?_
          refine Ok.loopAt [2, 3, 4, 6, 7, 8, 11, 49, 50, 51] [3, 4, 6, 8, 70] (fun m s h => ∃ (k j : Nat) (acc : List Ty) (es : List PV), m = ln - k ∧ k ≤ ln ∧ j = k ∧ acc.length = k ∧ (chkXs (a.drop k) ⟨tk, tl⟩ d1).2 = R.2 ∧ (R.2 = 0 → acc ++ (chkXs (a.drop k) ⟨tk, tl⟩ d1).1 = R.1) ∧ es = E .tys acc ∧
            s = mkS 85 [(2, .pv (.int .i64 (Int.ofNat d))), (3, .ptr 3 0), (4, .ptr 4 0), (6, .ptr 6 0), (7, .pv (.int .i64 0)), (8, .ptr 8 0), (11, .ref 70 j), (49, .pv (.view (E .exs a))), (50, .pv (.int .i64 (Int.ofNat ln))), (51, .pv (.int .i64 (Int.ofNat k)))] ∧
            h = [(3, .box [.pv (.str op), .pv (.int .i64 vk), .pv (.int .i64 vi), .pv (.bool vb), .pv (.str vs), .pv (.view (E .vls vt)), .pv (.int .i64 nn), .pv (.view (E .exs a))] true), (4, .box [.pv (.int .i64 tk), .pv (.view (E .tys tl))] true), (6, .box [.pv (.int .i64 0), .pv .nil] true), (8, .box [.pv (.int .i64 least), .pv (.int .i64 most), .pv (.view ofs), .pv (.bool alike), .pv (.int .i64 out)] true), (70, .row 24 2 es true)]) (ln - 0) (by cbv) ⟨0, 0, [], [], rfl, Nat.zero_le _, rfl, rfl, by rw [hRR]; rfl, fun _ => by rw [hRR]; rfl, by rw [ht0], by cbv, by cbv⟩ ?_
          rintro m s h ⟨k, j, acc, es', rfl, hk, hj, hacc, hc2, hc1, hes', rfl, rfl⟩
          have hesl' : j = es'.length := by rw [hes', tys_len hE, hj, hacc]
          refine Ok.run hmix hA false 2000 (by cbv) ?_
          rw [ofNat_lt hA]
          by_cases hkl : k < ln
          · rw [decide_eq_true hkl]
            repeat (first | (apply Ok.run1 hmix hA false 2000; focus (cbv; done)) | (apply Ok.one hmix hA; focus (cbv; done)) | (rw [Ar.notT hA]) | (rw [Ar.notF hA]) | (refine Ok.condT ?_ ?_; focus (cbv; done)) | (refine Ok.condF ?_ ?_; focus (cbv; done)) | (refine Ok.drawnE (by as_aux_lemma => kernel_rfl) ?_))
            have hx : a[k]? = some (a[k]'(by omega)) := List.getElem?_eq_getElem (by omega)
            have hxm : a[k]'(by omega) ∈ a := List.getElem_mem (by omega)
            have hdl : a.drop k = a[k]'(by omega) :: a.drop (k + 1) := List.drop_eq_getElem_cons (by omega)
            generalize a[k]'(by omega) = x at hx hdl hxm
            rw [chkXs_drop hdl] at hc2 hc1
            have cx := hsub x hxm
            generalize chkX x ⟨tk, tl⟩ d1 = cr at cx hc2 hc1
            obtain ⟨⟨xk, xl⟩, xe⟩ := cr
            dsimp only at cx hc2 hc1
            refine Ok.op (idx_view (E.ex x) (by cbv) (by cbv) (by simp) (by rw [E.exs_eq hE]; simp [hx]) rfl) ?_
            refine Ok.run hmix hA false 2000 (by cbv) ?_
            rw [Ar.succ_eq (k := d) hA (by omega), ← hd1]
            repeat (first | (apply Ok.run1 hmix hA false 2000; focus (cbv; done)) | (apply Ok.one hmix hA; focus (cbv; done)) | (rw [Ar.notT hA]) | (rw [Ar.notF hA]) | (refine Ok.condT ?_ ?_; focus (cbv; done)) | (refine Ok.condF ?_ ?_; focus (cbv; done)) | (refine Ok.drawnE (by as_aux_lemma => kernel_rfl) ?_) | (apply Ok.call (cx); (focus (cbv; done)); (focus (cbv; done)); (focus (cbv; done))) | (apply Ok.dcall (cx); (focus (cbv; done)); (focus (cbv; done)); (focus (cbv; done))))
            rw [Ar.eq_eq hA, Ar.not_eq hA]
            by_cases h0 : xe = 0
            · rw [if_neg (by simpa using h0)] at hc2
              rw [if_neg (by simpa using h0)] at hc1
              rw [decide_eq_true h0]
              obtain ⟨es3, hes3⟩ : ∃ es3, es3 = es' ++ [E.tyc ⟨xk, xl⟩] := ⟨_, rfl⟩
              obtain ⟨n3, hn3⟩ : ∃ n3, n3 = j + 1 := ⟨_, rfl⟩
              repeat (first | (apply Ok.run1 hmix hA false 2000; focus (cbv; done)) | (apply Ok.one hmix hA; focus (cbv; done)) | (rw [Ar.notT hA]) | (rw [Ar.notF hA]) | (refine Ok.condT ?_ ?_; focus (cbv; done)) | (refine Ok.condF ?_ ?_; focus (cbv; done)) | (refine Ok.drawnE (by as_aux_lemma => kernel_rfl) ?_))
              refine Ok.op (app_ref (by cbv) (by cbv) hesl' (by cbv) (by cbv) (by decide) (by simp only [List.length_singleton]; omega) (by unfold maxLen; simp only [List.length_singleton]; omega) n3 (by exact hn3) es3 (by rw [hes3]; rfl)) ?_
              repeat (first | (apply Ok.run1 hmix hA false 2000; focus (cbv; done)) | (apply Ok.one hmix hA; focus (cbv; done)) | (rw [Ar.notT hA]) | (rw [Ar.notF hA]) | (refine Ok.condT ?_ ?_; focus (cbv; done)) | (refine Ok.condF ?_ ?_; focus (cbv; done)) | (refine Ok.drawnE (by as_aux_lemma => kernel_rfl) ?_))
              rw [Ar.succ_eq (k := k) hA (by omega)]
              exact Ok.back (ln - (k + 1)) [2, 3, 4, 6, 7, 8, 11, 49, 50, 51] [3, 4, 6, 8, 70] (by omega) (by cbv) ⟨k + 1, n3, acc ++ [⟨xk, xl⟩], es3, rfl, by omega, by omega, by simp; omega, hc2, fun h => by rw [← hc1 h]; simp, by rw [hes3, hes', E.tys_eq hE, E.tys_eq hE, List.map_append]; rfl, by cbv, by cbv⟩
            · rw [if_pos h0] at hc2
              dsimp only at hc2
              rw [decide_eq_false h0]
              have hR2 : R.2 ≠ 0 := by rw [← hc2]; exact h0
              rw [if_pos hR2, ← hc2]
              repeat (first | (apply Ok.run1 hmix hA false 2000; focus (cbv; done)) | (apply Ok.one hmix hA; focus (cbv; done)) | (rw [Ar.notT hA]) | (rw [Ar.notF hA]) | (refine Ok.condT ?_ ?_; focus (cbv; done)) | (refine Ok.condF ?_ ?_; focus (cbv; done)) | (refine Ok.drawnE (by as_aux_lemma => kernel_rfl) ?_))
              refine Ok.leaveRet ?_
              repeat (first | (apply Ok.run1 hmix hA false 2000; focus (cbv; done)) | (apply Ok.one hmix hA; focus (cbv; done)) | (rw [Ar.notT hA]) | (rw [Ar.notF hA]) | (refine Ok.condT ?_ ?_; focus (cbv; done)) | (refine Ok.condF ?_ ?_; focus (cbv; done)) | (refine Ok.drawnE (by as_aux_lemma => kernel_rfl) ?_))
              (first | (apply Ok.fin1; (focus (cbv; done)); (focus (cbv; done))) | (apply Ok.fin2; (focus (cbv; done)); (focus (cbv; done))) | (apply Ok.fin3; (focus (cbv; done)); (focus (cbv; done))))
              all_goals first | rfl | simp [Enc.tyc, ht0, Ty.zero]
          · rw [decide_eq_false hkl]
            have hke : a.drop k = [] := List.drop_eq_nil_iff.2 (by omega)
            rw [hke] at hc2 hc1
            have hR2 : R.2 = 0 := hc2.symm
            have hR1 : acc = R.1 := by have := hc1 hR2; simpa [chkXs] using this
            have cfit := cfit hR2
            have ccom := ccom hR2
            rw [if_neg (by simpa using hR2)]
            have cclip := slices_ClipT hE R.1
            rw [← hR1, ← hes'] at cfit ccom cclip
            repeat (first | (apply Ok.run1 hmix hA false 2000; focus (cbv; done)) | (apply Ok.one hmix hA; focus (cbv; done)) | (rw [Ar.notT hA]) | (rw [Ar.notF hA]) | (refine Ok.condT ?_ ?_; focus (cbv; done)) | (refine Ok.condF ?_ ?_; focus (cbv; done)) | (refine Ok.drawnE (by as_aux_lemma => kernel_rfl) ?_))
            refine Ok.leave ?_
            repeat (first | (apply Ok.run1 hmix hA false 2000; focus (cbv; done)) | (apply Ok.one hmix hA; focus (cbv; done)) | (rw [Ar.notT hA]) | (rw [Ar.notF hA]) | (refine Ok.condT ?_ ?_; focus (cbv; done)) | (refine Ok.condF ?_ ?_; focus (cbv; done)) | (refine Ok.drawnE (by as_aux_lemma => kernel_rfl) ?_))
            refine Ok.call (ids := [70]) (cfit) (by cbv) (by simp [callArgs, frz2, frz1, frz0, frzL, rowOf, hget, ev, PV.rlx, ← hesl']) (by cbv) ?_
            cases FT with
            | false =>
              rw [if_pos rfl]
              repeat (first | (apply Ok.run1 hmix hA false 2000; focus (cbv; done)) | (apply Ok.one hmix hA; focus (cbv; done)) | (rw [Ar.notT hA]) | (rw [Ar.notF hA]) | (refine Ok.condT ?_ ?_; focus (cbv; done)) | (refine Ok.condF ?_ ?_; focus (cbv; done)) | (refine Ok.drawnE (by as_aux_lemma => kernel_rfl) ?_))
              (first | (apply Ok.fin1; (focus (cbv; done)); (focus (cbv; done))) | (apply Ok.fin2; (focus (cbv; done)); (focus (cbv; done))) | (apply Ok.fin3; (focus (cbv; done)); (focus (cbv; done))))
              all_goals first | rfl | simp [Enc.tyc, ht0, Ty.zero]
            | true =>
              rw [if_neg (by simp)]
              repeat (first | (apply Ok.run1 hmix hA false 2000; focus (cbv; done)) | (apply Ok.one hmix hA; focus (cbv; done)) | (rw [Ar.notT hA]) | (rw [Ar.notF hA]) | (refine Ok.condT ?_ ?_; focus (cbv; done)) | (refine Ok.condF ?_ ?_; focus (cbv; done)) | (refine Ok.drawnE (by as_aux_lemma => kernel_rfl) ?_))
              refine Ok.dcall (ids := [70]) (cclip) (by cbv) (by simp [callArgs, frz2, frz1, frz0, frzL, rowOf, hget, ev, PV.rlx, ← hesl']) (by cbv) ?_
              repeat (first | (apply Ok.run1 hmix hA false 2000; focus (cbv; done)) | (apply Ok.one hmix hA; focus (cbv; done)) | (rw [Ar.notT hA]) | (rw [Ar.notF hA]) | (refine Ok.condT ?_ ?_; focus (cbv; done)) | (refine Ok.condF ?_ ?_; focus (cbv; done)) | (refine Ok.drawnE (by as_aux_lemma => kernel_rfl) ?_) | (apply Ok.call (ccom); (focus (cbv; done)); (focus (cbv; done)); (focus (cbv; done))) | (apply Ok.dcall (ccom); (focus (cbv; done)); (focus (cbv; done)); (focus (cbv; done))))
              (first | (apply Ok.fin1; (focus (cbv; done)); (focus (cbv; done))) | (apply Ok.fin2; (focus (cbv; done)); (focus (cbv; done))) | (apply Ok.fin3; (focus (cbv; done)); (focus (cbv; done))))
              all_goals first | rfl | simp [Enc.tyc]
        · rw [decide_eq_false v0, if_pos ⟨kl, v0⟩]
          repeat (first | (apply Ok.run1 hmix hA false 2000; focus (cbv; done)) | (apply Ok.one hmix hA; focus (cbv; done)) | (rw [Ar.notT hA]) | (rw [Ar.notF hA]) | (refine Ok.condT ?_ ?_; focus (cbv; done)) | (refine Ok.condF ?_ ?_; focus (cbv; done)) | (refine Ok.drawnE (by as_aux_lemma => kernel_rfl) ?_))
          (first | (apply Ok.fin1; (focus (cbv; done)); (focus (cbv; done))) | (apply Ok.fin2; (focus (cbv; done)); (focus (cbv; done))) | (apply Ok.fin3; (focus (cbv; done)); (focus (cbv; done))))
          all_goals first | rfl | simp [Enc.tyc, ht0, Ty.zero]
      · rw [decide_eq_false kl, if_neg (by intro h; exact kl h.1)]
        repeat (first | (apply Ok.run1 hmix hA false 2000; focus (cbv; done)) | (apply Ok.one hmix hA; focus (cbv; done)) | (rw [Ar.notT hA]) | (rw [Ar.notF hA]) | (refine Ok.condT ?_ ?_; focus (cbv; done)) | (refine Ok.condF ?_ ?_; focus (cbv; done)) | (refine Ok.drawnE (by as_aux_lemma => kernel_rfl) ?_))
        rw [hll]
        refine Ok.le (Le.nil 11 70 24 2 (by cbv) (by cbv) (by decide)) ?_
        refine Ok.loopAt [2, 3, 4, 6, 7, 8, 11, 49, 50, 51] [3, 4, 6, 8, 70] (fun m s h => ∃ (k j : Nat) (acc : List Ty) (es : List PV), m = ln - k ∧ k ≤ ln ∧ j = k ∧ acc.length = k ∧ (chkXs (a.drop k) ⟨tk, tl⟩ d1).2 = R.2 ∧ (R.2 = 0 → acc ++ (chkXs (a.drop k) ⟨tk, tl⟩ d1).1 = R.1) ∧ es = E .tys acc ∧
          s = mkS 85 [(2, .pv (.int .i64 (Int.ofNat d))), (3, .ptr 3 0), (4, .ptr 4 0), (6, .ptr 6 0), (7, .pv (.int .i64 0)), (8, .ptr 8 0), (11, .ref 70 j), (49, .pv (.view (E .exs a))), (50, .pv (.int .i64 (Int.ofNat ln))), (51, .pv (.int .i64 (Int.ofNat k)))] ∧
          h = [(3, .box [.pv (.str op), .pv (.int .i64 vk), .pv (.int .i64 vi), .pv (.bool vb), .pv (.str vs), .pv (.view (E .vls vt)), .pv (.int .i64 nn), .pv (.view (E .exs a))] true), (4, .box [.pv (.int .i64 tk), .pv (.view (E .tys tl))] true), (6, .box [.pv (.int .i64 0), .pv .nil] true), (8, .box [.pv (.int .i64 least), .pv (.int .i64 most), .pv (.view ofs), .pv (.bool alike), .pv (.int .i64 out)] true), (70, .row 24 2 es true)]) (ln - 0) (by cbv) ⟨0, 0, [], [], rfl, Nat.zero_le _, rfl, rfl, by rw [hRR]; rfl, fun _ => by rw [hRR]; rfl, by rw [ht0], by cbv, by cbv⟩ ?_
        rintro m s h ⟨k, j, acc, es', rfl, hk, hj, hacc, hc2, hc1, hes', rfl, rfl⟩
        have hesl' : j = es'.length := by rw [hes', tys_len hE, hj, hacc]
        refine Ok.run hmix hA false 2000 (by cbv) ?_
        rw [ofNat_lt hA]
        by_cases hkl : k < ln
        · rw [decide_eq_true hkl]
          repeat (first | (apply Ok.run1 hmix hA false 2000; focus (cbv; done)) | (apply Ok.one hmix hA; focus (cbv; done)) | (rw [Ar.notT hA]) | (rw [Ar.notF hA]) | (refine Ok.condT ?_ ?_; focus (cbv; done)) | (refine Ok.condF ?_ ?_; focus (cbv; done)) | (refine Ok.drawnE (by as_aux_lemma => kernel_rfl) ?_))
          have hx : a[k]? = some (a[k]'(by omega)) := List.getElem?_eq_getElem (by omega)
          have hxm : a[k]'(by omega) ∈ a := List.getElem_mem (by omega)
          have hdl : a.drop k = a[k]'(by omega) :: a.drop (k + 1) := List.drop_eq_getElem_cons (by omega)
          generalize a[k]'(by omega) = x at hx hdl hxm
          rw [chkXs_drop hdl] at hc2 hc1
          have cx := hsub x hxm
          generalize chkX x ⟨tk, tl⟩ d1 = cr at cx hc2 hc1
          obtain ⟨⟨xk, xl⟩, xe⟩ := cr
          dsimp only at cx hc2 hc1
          refine Ok.op (idx_view (E.ex x) (by cbv) (by cbv) (by simp) (by rw [E.exs_eq hE]; simp [hx]) rfl) ?_
          refine Ok.run hmix hA false 2000 (by cbv) ?_
          rw [Ar.succ_eq (k := d) hA (by omega), ← hd1]
          repeat (first | (apply Ok.run1 hmix hA false 2000; focus (cbv; done)) | (apply Ok.one hmix hA; focus (cbv; done)) | (rw [Ar.notT hA]) | (rw [Ar.notF hA]) | (refine Ok.condT ?_ ?_; focus (cbv; done)) | (refine Ok.condF ?_ ?_; focus (cbv; done)) | (refine Ok.drawnE (by as_aux_lemma => kernel_rfl) ?_) | (apply Ok.call (cx); (focus (cbv; done)); (focus (cbv; done)); (focus (cbv; done))) | (apply Ok.dcall (cx); (focus (cbv; done)); (focus (cbv; done)); (focus (cbv; done))))
          rw [Ar.eq_eq hA, Ar.not_eq hA]
          by_cases h0 : xe = 0
          · rw [if_neg (by simpa using h0)] at hc2
            rw [if_neg (by simpa using h0)] at hc1
            rw [decide_eq_true h0]
            obtain ⟨es3, hes3⟩ : ∃ es3, es3 = es' ++ [E.tyc ⟨xk, xl⟩] := ⟨_, rfl⟩
            obtain ⟨n3, hn3⟩ : ∃ n3, n3 = j + 1 := ⟨_, rfl⟩
            repeat (first | (apply Ok.run1 hmix hA false 2000; focus (cbv; done)) | (apply Ok.one hmix hA; focus (cbv; done)) | (rw [Ar.notT hA]) | (rw [Ar.notF hA]) | (refine Ok.condT ?_ ?_; focus (cbv; done)) | (refine Ok.condF ?_ ?_; focus (cbv; done)) | (refine Ok.drawnE (by as_aux_lemma => kernel_rfl) ?_))
            refine Ok.op (app_ref (by cbv) (by cbv) hesl' (by cbv) (by cbv) (by decide) (by simp only [List.length_singleton]; omega) (by unfold maxLen; simp only [List.length_singleton]; omega) n3 (by exact hn3) es3 (by rw [hes3]; rfl)) ?_
            repeat (first | (apply Ok.run1 hmix hA false 2000; focus (cbv; done)) | (apply Ok.one hmix hA; focus (cbv; done)) | (rw [Ar.notT hA]) | (rw [Ar.notF hA]) | (refine Ok.condT ?_ ?_; focus (cbv; done)) | (refine Ok.condF ?_ ?_; focus (cbv; done)) | (refine Ok.drawnE (by as_aux_lemma => kernel_rfl) ?_))
            rw [Ar.succ_eq (k := k) hA (by omega)]
            exact Ok.back (ln - (k + 1)) [2, 3, 4, 6, 7, 8, 11, 49, 50, 51] [3, 4, 6, 8, 70] (by omega) (by cbv) ⟨k + 1, n3, acc ++ [⟨xk, xl⟩], es3, rfl, by omega, by omega, by simp; omega, hc2, fun h => by rw [← hc1 h]; simp, by rw [hes3, hes', E.tys_eq hE, E.tys_eq hE, List.map_append]; rfl, by cbv, by cbv⟩
          · rw [if_pos h0] at hc2
            dsimp only at hc2
            rw [decide_eq_false h0]
            have hR2 : R.2 ≠ 0 := by rw [← hc2]; exact h0
            rw [if_pos hR2, ← hc2]
            repeat (first | (apply Ok.run1 hmix hA false 2000; focus (cbv; done)) | (apply Ok.one hmix hA; focus (cbv; done)) | (rw [Ar.notT hA]) | (rw [Ar.notF hA]) | (refine Ok.condT ?_ ?_; focus (cbv; done)) | (refine Ok.condF ?_ ?_; focus (cbv; done)) | (refine Ok.drawnE (by as_aux_lemma => kernel_rfl) ?_))
            refine Ok.leaveRet ?_
            repeat (first | (apply Ok.run1 hmix hA false 2000; focus (cbv; done)) | (apply Ok.one hmix hA; focus (cbv; done)) | (rw [Ar.notT hA]) | (rw [Ar.notF hA]) | (refine Ok.condT ?_ ?_; focus (cbv; done)) | (refine Ok.condF ?_ ?_; focus (cbv; done)) | (refine Ok.drawnE (by as_aux_lemma => kernel_rfl) ?_))
            (first | (apply Ok.fin1; (focus (cbv; done)); (focus (cbv; done))) | (apply Ok.fin2; (focus (cbv; done)); (focus (cbv; done))) | (apply Ok.fin3; (focus (cbv; done)); (focus (cbv; done))))
            all_goals first | rfl | simp [Enc.tyc, ht0, Ty.zero]
        · rw [decide_eq_false hkl]
          have hke : a.drop k = [] := List.drop_eq_nil_iff.2 (by omega)
          rw [hke] at hc2 hc1
          have hR2 : R.2 = 0 := hc2.symm
          have hR1 : acc = R.1 := by have := hc1 hR2; simpa [chkXs] using this
          have cfit := cfit hR2
          have ccom := ccom hR2
          rw [if_neg (by simpa using hR2)]
          have cclip := slices_ClipT hE R.1
          rw [← hR1, ← hes'] at cfit ccom cclip
          repeat (first | (apply Ok.run1 hmix hA false 2000; focus (cbv; done)) | (apply Ok.one hmix hA; focus (cbv; done)) | (rw [Ar.notT hA]) | (rw [Ar.notF hA]) | (refine Ok.condT ?_ ?_; focus (cbv; done)) | (refine Ok.condF ?_ ?_; focus (cbv; done)) | (refine Ok.drawnE (by as_aux_lemma => kernel_rfl) ?_))
          refine Ok.leave ?_
          repeat (first | (apply Ok.run1 hmix hA false 2000; focus (cbv; done)) | (apply Ok.one hmix hA; focus (cbv; done)) | (rw [Ar.notT hA]) | (rw [Ar.notF hA]) | (refine Ok.condT ?_ ?_; focus (cbv; done)) | (refine Ok.condF ?_ ?_; focus (cbv; done)) | (refine Ok.drawnE (by as_aux_lemma => kernel_rfl) ?_))
          refine Ok.call (ids := [70]) (cfit) (by cbv) (by simp [callArgs, frz2, frz1, frz0, frzL, rowOf, hget, ev, PV.rlx, ← hesl']) (by cbv) ?_
          cases FT with
          | false =>
            rw [if_pos rfl]
            repeat (first | (apply Ok.run1 hmix hA false 2000; focus (cbv; done)) | (apply Ok.one hmix hA; focus (cbv; done)) | (rw [Ar.notT hA]) | (rw [Ar.notF hA]) | (refine Ok.condT ?_ ?_; focus (cbv; done)) | (refine Ok.condF ?_ ?_; focus (cbv; done)) | (refine Ok.drawnE (by as_aux_lemma => kernel_rfl) ?_))
            (first | (apply Ok.fin1; (focus (cbv; done)); (focus (cbv; done))) | (apply Ok.fin2; (focus (cbv; done)); (focus (cbv; done))) | (apply Ok.fin3; (focus (cbv; done)); (focus (cbv; done))))
            all_goals first | rfl | simp [Enc.tyc, ht0, Ty.zero]
          | true =>
            rw [if_neg (by simp)]
            repeat (first | (apply Ok.run1 hmix hA false 2000; focus (cbv; done)) | (apply Ok.one hmix hA; focus (cbv; done)) | (rw [Ar.notT hA]) | (rw [Ar.notF hA]) | (refine Ok.condT ?_ ?_; focus (cbv; done)) | (refine Ok.condF ?_ ?_; focus (cbv; done)) | (refine Ok.drawnE (by as_aux_lemma => kernel_rfl) ?_))
            refine Ok.dcall (ids := [70]) (cclip) (by cbv) (by simp [callArgs, frz2, frz1, frz0, frzL, rowOf, hget, ev, PV.rlx, ← hesl']) (by cbv) ?_
            repeat (first | (apply Ok.run1 hmix hA false 2000; focus (cbv; done)) | (apply Ok.one hmix hA; focus (cbv; done)) | (rw [Ar.notT hA]) | (rw [Ar.notF hA]) | (refine Ok.condT ?_ ?_; focus (cbv; done)) | (refine Ok.condF ?_ ?_; focus (cbv; done)) | (refine Ok.drawnE (by as_aux_lemma => kernel_rfl) ?_) | (apply Ok.call (ccom); (focus (cbv; done)); (focus (cbv; done)); (focus (cbv; done))) | (apply Ok.dcall (ccom); (focus (cbv; done)); (focus (cbv; done)); (focus (cbv; done))))
            (first | (apply Ok.fin1; (focus (cbv; done)); (focus (cbv; done))) | (apply Ok.fin2; (focus (cbv; done)); (focus (cbv; done))) | (apply Ok.fin3; (focus (cbv; done)); (focus (cbv; done))))
            all_goals first | rfl | simp [Enc.tyc]
end Go.Proofs.Ytnojmocoifodjaa.Pv
set_option maxRecDepth 100000
set_option maxHeartbeats 4000000
set_option linter.unusedVariables false
set_option linter.unusedSimpArgs false
namespace Go.Proofs.Ytnojmocoifodjaa.Pv
open Go Go.Proofs
mutual
theorem sizX_wX (T : Nat) : ∀ e, sizX e ≤ wX e T
  | .mk op v n a => by
    have := sizXs_wXs T a
    rw [sizX, wX]; omega
theorem sizXs_wXs (T : Nat) : ∀ l, sizXs l ≤ wXs l T
  | [] => by rw [sizXs, wXs]; exact Nat.le_refl 0
  | x :: l => by
    have := sizX_wX T x
    have := sizXs_wXs T l
    rw [sizXs, wXs]; omega
end
theorem expr_Check {E : Enc} (hE : E = .std) (e : Ex4) (tin : Ty) (hsz : wX e (szT tin) ≤ 2 ^ 27) : CallsV Try.prog 41 [E.ex e, E.tyc tin] (.tup [.pv (E.tyc (chkXTop e tin).1), .pv (.int .i64 (chkXTop e tin).2)]) [] := by
  obtain ⟨A, hA⟩ : ∃ A : Ar, A = .std := ⟨_, rfl⟩
  have ht0 : E .tys [] = [] := by rw [E.tys_eq hE]; rfl
  have hT : szT tin ≤ 2 ^ 27 := by obtain ⟨op, v, n, a⟩ := e; rw [wX] at hsz; omega
  have cT := typ_Check hE tin (by omega)
  have cS := expr_Size hE _ e (Nat.le_refl _) (by have := sizX_wX (szT tin) e; omega)
  have cC := expr_check hE _ e tin 0 (Nat.le_refl _) hsz (by omega)
  obtain ⟨op, ⟨vk, vi, vb, vs, vt⟩, nn, a⟩ := e
  obtain ⟨tk, tl⟩ := tin
  unfold chkXTop
  generalize ckT ⟨tk, tl⟩ 0 = r at cT ⊢
  generalize sizX ⟨op, ⟨vk, vi, vb, vs, vt⟩, nn, a⟩ = sz at cS ⊢
  generalize chkX ⟨op, ⟨vk, vi, vb, vs, vt⟩, nn, a⟩ ⟨tk, tl⟩ 0 = cr at cC ⊢
  obtain ⟨⟨ck, cl⟩, ce⟩ := cr
  dsimp only at cC
  refine CallsV.ok (fn := Try.f41) (by kernel_rfl) (by kernel_rfl) rfl (by cbv) (by cbv) ?_
  repeat (first | (apply Ok.run1 hmix hA false 2000; focus (cbv; done)) | (apply Ok.one hmix hA; focus (cbv; done)) | (rw [Ar.notT hA]) | (rw [Ar.notF hA]) | (refine Ok.condT ?_ ?_; focus (cbv; done)) | (refine Ok.condF ?_ ?_; focus (cbv; done)) | (refine Ok.drawnE (by as_aux_lemma => kernel_rfl) ?_) | (apply Ok.call (cT); (focus (cbv; done)); (focus (cbv; done)); (focus (cbv; done))) | (apply Ok.dcall (cT); (focus (cbv; done)); (focus (cbv; done)); (focus (cbv; done))))
  rw [Ar.eq_eq hA, Ar.not_eq hA]
  by_cases h0 : r = 0
  · rw [decide_eq_true h0, if_neg (by simpa using h0)]
    repeat (first | (apply Ok.run1 hmix hA false 2000; focus (cbv; done)) | (apply Ok.one hmix hA; focus (cbv; done)) | (rw [Ar.notT hA]) | (rw [Ar.notF hA]) | (refine Ok.condT ?_ ?_; focus (cbv; done)) | (refine Ok.condF ?_ ?_; focus (cbv; done)) | (refine Ok.drawnE (by as_aux_lemma => kernel_rfl) ?_) | (apply Ok.call (cS); (focus (cbv; done)); (focus (cbv; done)); (focus (cbv; done))) | (apply Ok.dcall (cS); (focus (cbv; done)); (focus (cbv; done)); (focus (cbv; done))))
    rw [show A .lt 256 (Int.ofNat sz) = decide (256 < sz) from ofNat_lt hA 256 sz]
    by_cases h1 : 256 < sz
    · rw [decide_eq_true h1, if_pos h1]
      repeat (first | (apply Ok.run1 hmix hA false 2000; focus (cbv; done)) | (apply Ok.one hmix hA; focus (cbv; done)) | (rw [Ar.notT hA]) | (rw [Ar.notF hA]) | (refine Ok.condT ?_ ?_; focus (cbv; done)) | (refine Ok.condF ?_ ?_; focus (cbv; done)) | (refine Ok.drawnE (by as_aux_lemma => kernel_rfl) ?_))
      (first | (apply Ok.fin1; (focus (cbv; done)); (focus (cbv; done))) | (apply Ok.fin2; (focus (cbv; done)); (focus (cbv; done))) | (apply Ok.fin3; (focus (cbv; done)); (focus (cbv; done))))
      all_goals first | rfl | simp [Enc.tyc, ht0, Ty.zero]
    · rw [decide_eq_false h1, if_neg h1]
      repeat (first | (apply Ok.run1 hmix hA false 2000; focus (cbv; done)) | (apply Ok.one hmix hA; focus (cbv; done)) | (rw [Ar.notT hA]) | (rw [Ar.notF hA]) | (refine Ok.condT ?_ ?_; focus (cbv; done)) | (refine Ok.condF ?_ ?_; focus (cbv; done)) | (refine Ok.drawnE (by as_aux_lemma => kernel_rfl) ?_) | (apply Ok.call (cC); (focus (cbv; done)); (focus (cbv; done)); (focus (cbv; done))) | (apply Ok.dcall (cC); (focus (cbv; done)); (focus (cbv; done)); (focus (cbv; done))))
      (first | (apply Ok.fin1; (focus (cbv; done)); (focus (cbv; done))) | (apply Ok.fin2; (focus (cbv; done)); (focus (cbv; done))) | (apply Ok.fin3; (focus (cbv; done)); (focus (cbv; done))))
      all_goals first | rfl | simp [Enc.tyc]
  · rw [decide_eq_false h0, if_pos h0]
    repeat (first | (apply Ok.run1 hmix hA false 2000; focus (cbv; done)) | (apply Ok.one hmix hA; focus (cbv; done)) | (rw [Ar.notT hA]) | (rw [Ar.notF hA]) | (refine Ok.condT ?_ ?_; focus (cbv; done)) | (refine Ok.condF ?_ ?_; focus (cbv; done)) | (refine Ok.drawnE (by as_aux_lemma => kernel_rfl) ?_))
    (first | (apply Ok.fin1; (focus (cbv; done)); (focus (cbv; done))) | (apply Ok.fin2; (focus (cbv; done)); (focus (cbv; done))) | (apply Ok.fin3; (focus (cbv; done)); (focus (cbv; done))))
    all_goals first | rfl | simp [Enc.tyc, ht0, Ty.zero]
end Go.Proofs.Ytnojmocoifodjaa.Pv
set_option maxRecDepth 100000
set_option maxHeartbeats 4000000
set_option linter.unusedVariables false
set_option linter.unusedSimpArgs false
namespace Go.Proofs.Ytnojmocoifodjaa.Pv
open Go Go.Proofs
theorem Ok.backRet {P : Program} {K : Post} {s : Slots} {h : HL} {I : Nat → Slots → HL → Prop} {n : Nat} (m : Nat) (b : Nat) (keep kb : List Nat) (hm : m < n) (hk : okKeep keep kb (s.map (AV.ret (hget h) b)) (retHL h b) = true) (hI : I m (dropS keep (s.map (AV.ret (hget h) b))) (keepHL kb (retHL h b))) :
    Ok P (thenQ (fun s h => ∃ m, m < n ∧ ∃ s' h', Le s h s' (hget h') ∧ I m s' h') K) (.out .normal [] s h) := ⟨m, hm, _, _, (Le.ret b s h).trans (Le.keep keep kb hk), hI⟩
theorem Ok.leC {P : Program} {Q : Post} {c : C} {k : List Kf} {s s' s2 : Slots} {h h' h2 : HL} (hl : Le s (hget h) s' (hget h')) (hs : s' = s2) (hh : h' = h2) (hw : Ok P Q (.code c k s2 h2)) : Ok P Q (.code c k s h) := by
  subst hs; subst hh; exact Ok.le hl hw
theorem Ok.loopRet {P : Program} {Q : Post} {c : C} {k : List Kf} {s : Slots} {h : HL} (b : Nat) (keep kb : List Nat) (I : Nat → Slots → HL → Prop) (n : Nat) (hk : okKeep keep kb (s.map (AV.ret (hget h) b)) (retHL h b) = true) (h0 : I n (dropS keep (s.map (AV.ret (hget h) b))) (keepHL kb (retHL h b)))
    (hr : ∀ n s h, I n s h → Ok P (thenQ (fun s h => ∃ m, m < n ∧ ∃ s' h', Le s h s' (hget h') ∧ I m s' h') (kpost P k Q)) (.code c [] s h)) : Ok P Q (.code (.loop c) k s h) :=
  Ok.le ((Le.ret b s h).trans (Le.keep keep kb hk)) (Ok.loop I n h0 hr)
theorem mp2 {P Q : Prop} (f : P → Q) (p : P) : Q := f p
def oNeg : List UInt8 := [110, 101, 103]
def oAdd : List UInt8 := [97, 100, 100]
def xX : Ex4 := ⟨bX, .zero, 0, []⟩
def negN : Nat → Ex4
  | 0 => xX
  | n + 1 => ⟨oNeg, .zero, 0, [negN n]⟩
theorem law4_known : CallsV Try.prog 39 [] (.pv (.bool true)) [] := ev_ok 30 (by kernel_rfl)
theorem negN_siz : ∀ n, sizX (negN n) = n + 1
  | 0 => rfl
  | n + 1 => by rw [negN, sizX, sizXs, negN_siz n, sizXs]; omega
theorem negN_w : ∀ n, wX (negN n) 1 = 4 * n + 4
  | 0 => rfl
  | n + 1 => by rw [negN, wX, wXs, negN_w n, wXs]; simp [Vl.zero, szV, szVs]; omega
theorem negN_chk : ∀ n, n < 16 → (chkXTop (negN n) ⟨1, []⟩).2 = if 12 < n then 9 else 0 := by decide +kernel
def dblN : Nat → Ex4
  | 0 => ⟨oAdd, .zero, 0, [xX, ⟨bLit, ⟨1, 1, false, [], []⟩, 0, []⟩]⟩
  | n + 1 => ⟨oAdd, .zero, 0, [dblN n, dblN n]⟩
theorem dblN_siz : ∀ n, n < 8 → sizX (dblN n) = 2 ^ (n + 2) - 1 := by decide +kernel
theorem dblN_w : ∀ n, n < 8 → wX (dblN n) (szT ⟨1, []⟩) ≤ 2 ^ 27 := by decide +kernel
theorem dblN_chk : ∀ n, n < 8 → (chkXTop (dblN n) ⟨1, []⟩).2 = if n < 7 then 0 else 10 := by decide +kernel
theorem law4_ExprNest (n w : Nat) : CallsV Try.prog 9 [.int .u8 (Int.ofNat n), .int .u8 (Int.ofNat w)] (.pv (.bool true)) [] := by
  obtain ⟨A, hA⟩ : ∃ A : Ar, A = .std := ⟨_, rfl⟩
  obtain ⟨E, hE⟩ : ∃ E : Enc, E = .std := ⟨_, rfl⟩
  have he0 : E .exs [] = [] := by rw [E.exs_eq hE]; rfl
  have hv0 : E .vls [] = [] := by rw [E.vls_eq hE]; rfl
  have ht0 : E .tys [] = [] := by rw [E.tys_eq hE]; rfl
  apply mp2
  · intro H
    obtain ⟨k, hk⟩ : ∃ k, k = n % 16 := ⟨_, rfl⟩
    have hk16 : k < 16 := by omega
    have ck := law4_known
    have cx := law4_X hE
    refine CallsV.ok (fn := Try.f9) (by kernel_rfl) (by kernel_rfl) rfl (by cbv) (by cbv) ?_
    repeat (first | (apply Ok.run1 hmix hA false 2000; focus (cbv; done)) | (apply Ok.one hmix hA; focus (cbv; done)) | (rw [Ar.notT hA]) | (rw [Ar.notF hA]) | (refine Ok.condT ?_ ?_; focus (cbv; done)) | (refine Ok.condF ?_ ?_; focus (cbv; done)) | (refine Ok.drawnE (by as_aux_lemma => kernel_rfl) ?_) | (apply Ok.call (ck); (focus (cbv; done)); (focus (cbv; done)); (focus (cbv; done))) | (apply Ok.dcall (ck); (focus (cbv; done)); (focus (cbv; done)); (focus (cbv; done))))
    refine Ok.op (rem_op (by cbv) (by cbv) (by decide) (Int.ofNat k) (by rw [hk]; rfl)) ?_
    clear hk
    repeat (first | (apply Ok.run1 hmix hA false 2000; focus (cbv; done)) | (apply Ok.one hmix hA; focus (cbv; done)) | (rw [Ar.notT hA]) | (rw [Ar.notF hA]) | (refine Ok.condT ?_ ?_; focus (cbv; done)) | (refine Ok.condF ?_ ?_; focus (cbv; done)) | (refine Ok.drawnE (by as_aux_lemma => kernel_rfl) ?_) | (apply Ok.call (cx); (focus (cbv; done)); (focus (cbv; done)); (focus (cbv; done))) | (apply Ok.dcall (cx); (focus (cbv; done)); (focus (cbv; done)); (focus (cbv; done))))
    rw [ofNat_conv hA (show k < 2 ^ 62 by omega)]
    refine Ok.loopAt [1, 5, 6, 7] [6] (fun m s h => ∃ (i : Nat) (op : List UInt8) (tv : PV) (l : List Ex4), m = k - i ∧ i ≤ k ∧ (tv = .nil ∨ tv = .view []) ∧ negN i = ⟨op, .zero, 0, l⟩ ∧
      s = mkS 102 [(1, .pv (.int .u8 (Int.ofNat w))), (5, .pv (.int .i64 (Int.ofNat k))), (6, .ptr 6 0), (7, .pv (.int .i64 (Int.ofNat i)))] ∧
      h = [(6, .box [.pv (.str op), .pv (.int .i64 0), .pv (.int .i64 0), .pv (.bool false), .pv (.str []), .pv tv, .pv (.int .i64 0), .pv (.view (E .exs l))] true)]) (k - 0) (by cbv) ⟨0, bX, .view [], [], rfl, Nat.zero_le _, .inr rfl, rfl, by cbv, by rw [← hv0]; cbv⟩ ?_
    rintro m s h ⟨i, op, tv, l, rfl, hi, htv, hn, rfl, rfl⟩
    refine Ok.run hmix hA false 2000 (by cbv) ?_
    rw [ofNat_lt hA]
    by_cases hik : i < k
    · rw [decide_eq_true hik]
      have hx : E .exs [⟨op, .zero, 0, l⟩] = [.agg [.str op, .int .i64 0, .int .i64 0, .bool false, .str [], .view [], .int .i64 0, .view (E .exs l)]] := by rw [E.exs_eq hE, List.map_cons, List.map_nil, Enc.ex]; simp only [Vl.zero, hv0]
      rcases htv with rfl | rfl
      all_goals (
        repeat (first | (apply Ok.run1 hmix hA false 2000; focus (cbv; done)) | (apply Ok.one hmix hA; focus (cbv; done)) | (rw [Ar.notT hA]) | (rw [Ar.notF hA]) | (refine Ok.condT ?_ ?_; focus (cbv; done)) | (refine Ok.condF ?_ ?_; focus (cbv; done)) | (refine Ok.drawnE (by as_aux_lemma => kernel_rfl) ?_))
        rw [Ar.succ_eq (k := i) hA (by omega)]
        exact Ok.backRet (k - (i + 1)) 27 [1, 5, 6, 7] [6] (by omega) (by cbv) ⟨i + 1, oNeg, .nil, [⟨op, .zero, 0, l⟩], rfl, by omega, .inl rfl, by rw [negN, hn], by cbv, by rw [hx]; cbv⟩)
    · rw [decide_eq_false hik]
      obtain rfl : i = k := by omega
      have cC := expr_Check hE (negN i) ⟨1, []⟩ (by rw [show szT ⟨1, []⟩ = 1 from rfl, negN_w]; omega)
      have cS := expr_Size hE _ (negN i) (Nat.le_refl _) (by rw [negN_siz]; omega)
      rw [negN_siz] at cS
      have hchk := negN_chk i hk16
      generalize chkXTop (negN i) ⟨1, []⟩ = q at cC hchk
      obtain ⟨⟨qk, ql⟩, qe⟩ := q
      dsimp only at cC hchk
      rw [hn] at cC cS
      simp only [Enc.ex, Enc.tyc, hv0, ht0, Vl.zero] at cC cS
      have hAe : ∀ x : Int, A .eq x x = true := fun x => by rw [Ar.eq_eq hA]; simp
      have q12 : A .lt 12 (Int.ofNat i) = decide (12 < i) := ofNat_lt hA 12 i
      have q12' : A .le (Int.ofNat i) 12 = decide (i ≤ 12) := by rw [Ar.le_eq hA]; congr 1; rw [Int.ofNat_eq_natCast]; apply propext; omega
      have hsuc := Ar.succ_eq (k := i) hA (by omega)
      by_cases h12 : 12 < i
      · rw [if_pos h12] at hchk
        subst hchk
        rcases htv with rfl | rfl
        all_goals (
          repeat (first | (apply Ok.run1 hmix hA false 2000; focus (cbv; done)) | (apply Ok.one hmix hA; focus (cbv; done)) | (rw [Ar.notT hA]) | (rw [Ar.notF hA]) | (refine Ok.condT ?_ ?_; focus (cbv; done)) | (refine Ok.condF ?_ ?_; focus (cbv; done)) | (refine Ok.drawnE (by as_aux_lemma => kernel_rfl) ?_))
          refine Ok.leave ?_
          repeat (first | (apply Ok.run1 hmix hA false 2000; focus (cbv; done)) | (apply Ok.one hmix hA; focus (cbv; done)) | (rw [Ar.notT hA]) | (rw [Ar.notF hA]) | (refine Ok.condT ?_ ?_; focus (cbv; done)) | (refine Ok.condF ?_ ?_; focus (cbv; done)) | (refine Ok.drawnE (by as_aux_lemma => kernel_rfl) ?_) | (apply Ok.call (cC); (focus (cbv; done)); (focus (cbv; done)); (focus (cbv; done))) | (apply Ok.dcall (cC); (focus (cbv; done)); (focus (cbv; done)); (focus (cbv; done))))
          rw [q12, decide_eq_true h12]
          repeat (first | (apply Ok.run1 hmix hA false 2000; focus (cbv; done)) | (apply Ok.one hmix hA; focus (cbv; done)) | (rw [Ar.notT hA]) | (rw [Ar.notF hA]) | (refine Ok.condT ?_ ?_; focus (cbv; done)) | (refine Ok.condF ?_ ?_; focus (cbv; done)) | (refine Ok.drawnE (by as_aux_lemma => kernel_rfl) ?_))
          rw [hAe]
          repeat (first | (apply Ok.run1 hmix hA false 2000; focus (cbv; done)) | (apply Ok.one hmix hA; focus (cbv; done)) | (rw [Ar.notT hA]) | (rw [Ar.notF hA]) | (refine Ok.condT ?_ ?_; focus (cbv; done)) | (refine Ok.condF ?_ ?_; focus (cbv; done)) | (refine Ok.drawnE (by as_aux_lemma => kernel_rfl) ?_))
          rw [q12', decide_eq_false (by omega)]
          repeat (first | (apply Ok.run1 hmix hA false 2000; focus (cbv; done)) | (apply Ok.one hmix hA; focus (cbv; done)) | (rw [Ar.notT hA]) | (rw [Ar.notF hA]) | (refine Ok.condT ?_ ?_; focus (cbv; done)) | (refine Ok.condF ?_ ?_; focus (cbv; done)) | (refine Ok.drawnE (by as_aux_lemma => kernel_rfl) ?_) | (apply Ok.call (cS); (focus (cbv; done)); (focus (cbv; done)); (focus (cbv; done))) | (apply Ok.dcall (cS); (focus (cbv; done)); (focus (cbv; done)); (focus (cbv; done))))
          rw [hsuc, hAe]
          repeat (first | (apply Ok.run1 hmix hA false 2000; focus (cbv; done)) | (apply Ok.one hmix hA; focus (cbv; done)) | (rw [Ar.notT hA]) | (rw [Ar.notF hA]))
          refine Ok.condF (by cbv) ?_
          refine Ok.leC (Le.keep [1] [] (by cbv)) (show dropS _ _ = mkS 102 [(1, .pv (.int .u8 (Int.ofNat w)))] from by cbv) (show keepHL _ _ = [] from by cbv) ?_
          exact H)
      · rw [if_neg h12] at hchk
        subst hchk
        rcases htv with rfl | rfl
        all_goals (
          repeat (first | (apply Ok.run1 hmix hA false 2000; focus (cbv; done)) | (apply Ok.one hmix hA; focus (cbv; done)) | (rw [Ar.notT hA]) | (rw [Ar.notF hA]) | (refine Ok.condT ?_ ?_; focus (cbv; done)) | (refine Ok.condF ?_ ?_; focus (cbv; done)) | (refine Ok.drawnE (by as_aux_lemma => kernel_rfl) ?_))
          refine Ok.leave ?_
          repeat (first | (apply Ok.run1 hmix hA false 2000; focus (cbv; done)) | (apply Ok.one hmix hA; focus (cbv; done)) | (rw [Ar.notT hA]) | (rw [Ar.notF hA]) | (refine Ok.condT ?_ ?_; focus (cbv; done)) | (refine Ok.condF ?_ ?_; focus (cbv; done)) | (refine Ok.drawnE (by as_aux_lemma => kernel_rfl) ?_) | (apply Ok.call (cC); (focus (cbv; done)); (focus (cbv; done)); (focus (cbv; done))) | (apply Ok.dcall (cC); (focus (cbv; done)); (focus (cbv; done)); (focus (cbv; done))))
          rw [q12, decide_eq_false h12]
          repeat (first | (apply Ok.run1 hmix hA false 2000; focus (cbv; done)) | (apply Ok.one hmix hA; focus (cbv; done)) | (rw [Ar.notT hA]) | (rw [Ar.notF hA]) | (refine Ok.condT ?_ ?_; focus (cbv; done)) | (refine Ok.condF ?_ ?_; focus (cbv; done)) | (refine Ok.drawnE (by as_aux_lemma => kernel_rfl) ?_))
          rw [q12', decide_eq_true (by omega)]
          repeat (first | (apply Ok.run1 hmix hA false 2000; focus (cbv; done)) | (apply Ok.one hmix hA; focus (cbv; done)) | (rw [Ar.notT hA]) | (rw [Ar.notF hA]) | (refine Ok.condT ?_ ?_; focus (cbv; done)) | (refine Ok.condF ?_ ?_; focus (cbv; done)) | (refine Ok.drawnE (by as_aux_lemma => kernel_rfl) ?_))
          rw [hAe]
          repeat (first | (apply Ok.run1 hmix hA false 2000; focus (cbv; done)) | (apply Ok.one hmix hA; focus (cbv; done)) | (rw [Ar.notT hA]) | (rw [Ar.notF hA]) | (refine Ok.condT ?_ ?_; focus (cbv; done)) | (refine Ok.condF ?_ ?_; focus (cbv; done)) | (refine Ok.drawnE (by as_aux_lemma => kernel_rfl) ?_) | (apply Ok.call (cS); (focus (cbv; done)); (focus (cbv; done)); (focus (cbv; done))) | (apply Ok.dcall (cS); (focus (cbv; done)); (focus (cbv; done)); (focus (cbv; done))))
          rw [hsuc, hAe]
          repeat (first | (apply Ok.run1 hmix hA false 2000; focus (cbv; done)) | (apply Ok.one hmix hA; focus (cbv; done)) | (rw [Ar.notT hA]) | (rw [Ar.notF hA]))
          refine Ok.condF (by cbv) ?_
          refine Ok.leC (Le.keep [1] [] (by cbv)) (show dropS _ _ = mkS 102 [(1, .pv (.int .u8 (Int.ofNat w)))] from by cbv) (show keepHL _ _ = [] from by cbv) ?_
          exact H)
  · obtain ⟨r, hr⟩ : ∃ r, r = w % 8 := ⟨_, rfl⟩
    have hr8 : r < 8 := by omega
    have cx := law4_X hE
    have c44 := val_Int hE 1
    have c29 := law4_Lit hE ⟨1, 1, false, [], []⟩
    simp only [Enc.ex, Enc.vl, Vl.zero, hv0, he0] at cx c44 c29
    have hx0 : E .exs [xX, ⟨bLit, ⟨1, 1, false, [], []⟩, 0, []⟩] = [.agg [.str bX, .int .i64 0, .int .i64 0, .bool false, .str [], .view [], .int .i64 0, .view []], .agg [.str bLit, .int .i64 1, .int .i64 1, .bool false, .str [], .view [], .int .i64 0, .view []]] := by rw [E.exs_eq hE, List.map_cons, List.map_cons, List.map_nil, Enc.ex, Enc.ex, xX]; simp only [Vl.zero, hv0, he0]
    repeat (first | (apply Ok.run1 hmix hA false 2000; focus (cbv; done)) | (apply Ok.one hmix hA; focus (cbv; done)) | (rw [Ar.notT hA]) | (rw [Ar.notF hA]) | (refine Ok.condT ?_ ?_; focus (cbv; done)) | (refine Ok.condF ?_ ?_; focus (cbv; done)) | (refine Ok.drawnE (by as_aux_lemma => kernel_rfl) ?_) | (apply Ok.call (cx); (focus (cbv; done)); (focus (cbv; done)); (focus (cbv; done))) | (apply Ok.dcall (cx); (focus (cbv; done)); (focus (cbv; done)); (focus (cbv; done))) | (apply Ok.call (c44); (focus (cbv; done)); (focus (cbv; done)); (focus (cbv; done))) | (apply Ok.dcall (c44); (focus (cbv; done)); (focus (cbv; done)); (focus (cbv; done))) | (apply Ok.call (c29); (focus (cbv; done)); (focus (cbv; done)); (focus (cbv; done))) | (apply Ok.dcall (c29); (focus (cbv; done)); (focus (cbv; done)); (focus (cbv; done))))
    refine Ok.loopRet 59 [1, 10, 11] [10] (fun m s h => ∃ (i : Nat) (l : List Ex4), m = r - i ∧ i ≤ r ∧ dblN i = ⟨oAdd, .zero, 0, l⟩ ∧
      s = mkS 102 [(1, .pv (.int .u8 (Int.ofNat w))), (10, .ptr 10 0), (11, .pv (.int .i64 (Int.ofNat i)))] ∧
      h = [(10, .box [.pv (.str oAdd), .pv (.int .i64 0), .pv (.int .i64 0), .pv (.bool false), .pv (.str []), .pv .nil, .pv (.int .i64 0), .pv (.view (E .exs l))] true)]) (r - 0) (by cbv) ⟨0, _, rfl, Nat.zero_le _, rfl, by cbv, by rw [hx0]; cbv⟩ ?_
    rintro m s h ⟨i, l, rfl, hi, hn, rfl, rfl⟩
    repeat (first | (apply Ok.run1 hmix hA false 2000; focus (cbv; done)) | (apply Ok.one hmix hA; focus (cbv; done)) | (rw [Ar.notT hA]) | (rw [Ar.notF hA]) | (refine Ok.condT ?_ ?_; focus (cbv; done)) | (refine Ok.condF ?_ ?_; focus (cbv; done)) | (refine Ok.drawnE (by as_aux_lemma => kernel_rfl) ?_))
    refine Ok.op (rem_op (by cbv) (by cbv) (by decide) (Int.ofNat r) (by rw [hr]; rfl)) ?_
    repeat (first | (apply Ok.run1 hmix hA false 2000; focus (cbv; done)) | (apply Ok.one hmix hA; focus (cbv; done)) | (rw [Ar.notT hA]) | (rw [Ar.notF hA]) | (refine Ok.condT ?_ ?_; focus (cbv; done)) | (refine Ok.condF ?_ ?_; focus (cbv; done)) | (refine Ok.drawnE (by as_aux_lemma => kernel_rfl) ?_))
    rw [ofNat_conv hA (show r < 2 ^ 62 by omega), ofNat_lt hA]
    by_cases hir : i < r
    · rw [decide_eq_true hir]
      have hx : E .exs [⟨oAdd, .zero, 0, l⟩, ⟨oAdd, .zero, 0, l⟩] = [.agg [.str oAdd, .int .i64 0, .int .i64 0, .bool false, .str [], .view [], .int .i64 0, .view (E .exs l)], .agg [.str oAdd, .int .i64 0, .int .i64 0, .bool false, .str [], .view [], .int .i64 0, .view (E .exs l)]] := by rw [E.exs_eq hE, List.map_cons, List.map_cons, List.map_nil, Enc.ex]; simp only [Vl.zero, hv0]
      repeat (first | (apply Ok.run1 hmix hA false 2000; focus (cbv; done)) | (apply Ok.one hmix hA; focus (cbv; done)) | (rw [Ar.notT hA]) | (rw [Ar.notF hA]) | (refine Ok.condT ?_ ?_; focus (cbv; done)) | (refine Ok.condF ?_ ?_; focus (cbv; done)) | (refine Ok.drawnE (by as_aux_lemma => kernel_rfl) ?_))
      rw [Ar.succ_eq (k := i) hA (by omega)]
      exact Ok.backRet (r - (i + 1)) 70 [1, 10, 11] [10] (by omega) (by cbv) ⟨i + 1, [⟨oAdd, .zero, 0, l⟩, ⟨oAdd, .zero, 0, l⟩], rfl, by omega, by rw [dblN, hn], by cbv, by rw [hx]; cbv⟩
    · rw [decide_eq_false hir]
      obtain rfl : i = r := by omega
      have cC := expr_Check hE (dblN i) ⟨1, []⟩ (dblN_w i hr8)
      have cS := expr_Size hE _ (dblN i) (Nat.le_refl _) (by rw [dblN_siz i hr8]; have : 2 ^ (i + 2) ≤ 2 ^ 9 := Nat.pow_le_pow_right (by omega) (by omega); omega)
      rw [dblN_siz i hr8] at cS
      have hchk := dblN_chk i hr8
      generalize chkXTop (dblN i) ⟨1, []⟩ = q at cC hchk
      obtain ⟨⟨qk, ql⟩, qe⟩ := q
      dsimp only at cC hchk
      rw [hn] at cC cS
      simp only [Enc.ex, Enc.tyc, hv0, ht0, Vl.zero] at cC cS
      subst hchk
      clear hi hir hn
      repeat (first | (apply Ok.run1 hmix hA false 2000; focus (cbv; done)) | (apply Ok.one hmix hA; focus (cbv; done)) | (rw [Ar.notT hA]) | (rw [Ar.notF hA]) | (refine Ok.condT ?_ ?_; focus (cbv; done)) | (refine Ok.condF ?_ ?_; focus (cbv; done)) | (refine Ok.drawnE (by as_aux_lemma => kernel_rfl) ?_))
      refine Ok.leave ?_
      have hrm : Int.ofNat i = (Int.ofNat w).tmod 8 := by rw [hr]; rfl
      clear hr
      subst hA
      obtain rfl | rfl | rfl | rfl | rfl | rfl | rfl | rfl : i = 0 ∨ i = 1 ∨ i = 2 ∨ i = 3 ∨ i = 4 ∨ i = 5 ∨ i = 6 ∨ i = 7 := by omega
      · rw [if_pos (by decide)] at cC
        repeat (first | (apply Ok.run1 hmix (A := Ar.std) rfl true 2000; focus (cbv; done)) | (refine Ok.condT ?_ ?_; focus (cbv; done)) | (refine Ok.condF ?_ ?_; focus (cbv; done)) | (refine Ok.drawnE (by as_aux_lemma => kernel_rfl) ?_) | (apply Ok.call (cC); (focus (cbv; done)); (focus (cbv; done)); (focus (cbv; done))) | (apply Ok.dcall (cC); (focus (cbv; done)); (focus (cbv; done)); (focus (cbv; done))))
        refine Ok.op (rem_op (by cbv) (by cbv) (by decide) (Int.ofNat 0) hrm) ?_
        repeat (first | (apply Ok.run1 hmix (A := Ar.std) rfl true 2000; focus (cbv; done)) | (refine Ok.condT ?_ ?_; focus (cbv; done)) | (refine Ok.condF ?_ ?_; focus (cbv; done)) | (apply Ok.op; focus (cbv; done)) | (apply Ok.dop; focus (cbv; done)) | (refine Ok.drawnE (by as_aux_lemma => kernel_rfl) ?_) | (apply Ok.call (cS); (focus (cbv; done)); (focus (cbv; done)); (focus (cbv; done))) | (apply Ok.dcall (cS); (focus (cbv; done)); (focus (cbv; done)); (focus (cbv; done))))
        exact Ok.fin (by cbv) (FS.out (by cbv) (PLe.refl _))
      · rw [if_pos (by decide)] at cC
        repeat (first | (apply Ok.run1 hmix (A := Ar.std) rfl true 2000; focus (cbv; done)) | (refine Ok.condT ?_ ?_; focus (cbv; done)) | (refine Ok.condF ?_ ?_; focus (cbv; done)) | (refine Ok.drawnE (by as_aux_lemma => kernel_rfl) ?_) | (apply Ok.call (cC); (focus (cbv; done)); (focus (cbv; done)); (focus (cbv; done))) | (apply Ok.dcall (cC); (focus (cbv; done)); (focus (cbv; done)); (focus (cbv; done))))
        refine Ok.op (rem_op (by cbv) (by cbv) (by decide) (Int.ofNat 1) hrm) ?_
        repeat (first | (apply Ok.run1 hmix (A := Ar.std) rfl true 2000; focus (cbv; done)) | (refine Ok.condT ?_ ?_; focus (cbv; done)) | (refine Ok.condF ?_ ?_; focus (cbv; done)) | (apply Ok.op; focus (cbv; done)) | (apply Ok.dop; focus (cbv; done)) | (refine Ok.drawnE (by as_aux_lemma => kernel_rfl) ?_) | (apply Ok.call (cS); (focus (cbv; done)); (focus (cbv; done)); (focus (cbv; done))) | (apply Ok.dcall (cS); (focus (cbv; done)); (focus (cbv; done)); (focus (cbv; done))))
        exact Ok.fin (by cbv) (FS.out (by cbv) (PLe.refl _))
      · rw [if_pos (by decide)] at cC
        repeat (first | (apply Ok.run1 hmix (A := Ar.std) rfl true 2000; focus (cbv; done)) | (refine Ok.condT ?_ ?_; focus (cbv; done)) | (refine Ok.condF ?_ ?_; focus (cbv; done)) | (refine Ok.drawnE (by as_aux_lemma => kernel_rfl) ?_) | (apply Ok.call (cC); (focus (cbv; done)); (focus (cbv; done)); (focus (cbv; done))) | (apply Ok.dcall (cC); (focus (cbv; done)); (focus (cbv; done)); (focus (cbv; done))))
        refine Ok.op (rem_op (by cbv) (by cbv) (by decide) (Int.ofNat 2) hrm) ?_
        repeat (first | (apply Ok.run1 hmix (A := Ar.std) rfl true 2000; focus (cbv; done)) | (refine Ok.condT ?_ ?_; focus (cbv; done)) | (refine Ok.condF ?_ ?_; focus (cbv; done)) | (apply Ok.op; focus (cbv; done)) | (apply Ok.dop; focus (cbv; done)) | (refine Ok.drawnE (by as_aux_lemma => kernel_rfl) ?_) | (apply Ok.call (cS); (focus (cbv; done)); (focus (cbv; done)); (focus (cbv; done))) | (apply Ok.dcall (cS); (focus (cbv; done)); (focus (cbv; done)); (focus (cbv; done))))
        exact Ok.fin (by cbv) (FS.out (by cbv) (PLe.refl _))
      · rw [if_pos (by decide)] at cC
        repeat (first | (apply Ok.run1 hmix (A := Ar.std) rfl true 2000; focus (cbv; done)) | (refine Ok.condT ?_ ?_; focus (cbv; done)) | (refine Ok.condF ?_ ?_; focus (cbv; done)) | (refine Ok.drawnE (by as_aux_lemma => kernel_rfl) ?_) | (apply Ok.call (cC); (focus (cbv; done)); (focus (cbv; done)); (focus (cbv; done))) | (apply Ok.dcall (cC); (focus (cbv; done)); (focus (cbv; done)); (focus (cbv; done))))
        refine Ok.op (rem_op (by cbv) (by cbv) (by decide) (Int.ofNat 3) hrm) ?_
        repeat (first | (apply Ok.run1 hmix (A := Ar.std) rfl true 2000; focus (cbv; done)) | (refine Ok.condT ?_ ?_; focus (cbv; done)) | (refine Ok.condF ?_ ?_; focus (cbv; done)) | (apply Ok.op; focus (cbv; done)) | (apply Ok.dop; focus (cbv; done)) | (refine Ok.drawnE (by as_aux_lemma => kernel_rfl) ?_) | (apply Ok.call (cS); (focus (cbv; done)); (focus (cbv; done)); (focus (cbv; done))) | (apply Ok.dcall (cS); (focus (cbv; done)); (focus (cbv; done)); (focus (cbv; done))))
        exact Ok.fin (by cbv) (FS.out (by cbv) (PLe.refl _))
      · rw [if_pos (by decide)] at cC
        repeat (first | (apply Ok.run1 hmix (A := Ar.std) rfl true 2000; focus (cbv; done)) | (refine Ok.condT ?_ ?_; focus (cbv; done)) | (refine Ok.condF ?_ ?_; focus (cbv; done)) | (refine Ok.drawnE (by as_aux_lemma => kernel_rfl) ?_) | (apply Ok.call (cC); (focus (cbv; done)); (focus (cbv; done)); (focus (cbv; done))) | (apply Ok.dcall (cC); (focus (cbv; done)); (focus (cbv; done)); (focus (cbv; done))))
        refine Ok.op (rem_op (by cbv) (by cbv) (by decide) (Int.ofNat 4) hrm) ?_
        repeat (first | (apply Ok.run1 hmix (A := Ar.std) rfl true 2000; focus (cbv; done)) | (refine Ok.condT ?_ ?_; focus (cbv; done)) | (refine Ok.condF ?_ ?_; focus (cbv; done)) | (apply Ok.op; focus (cbv; done)) | (apply Ok.dop; focus (cbv; done)) | (refine Ok.drawnE (by as_aux_lemma => kernel_rfl) ?_) | (apply Ok.call (cS); (focus (cbv; done)); (focus (cbv; done)); (focus (cbv; done))) | (apply Ok.dcall (cS); (focus (cbv; done)); (focus (cbv; done)); (focus (cbv; done))))
        exact Ok.fin (by cbv) (FS.out (by cbv) (PLe.refl _))
      · rw [if_pos (by decide)] at cC
        repeat (first | (apply Ok.run1 hmix (A := Ar.std) rfl true 2000; focus (cbv; done)) | (refine Ok.condT ?_ ?_; focus (cbv; done)) | (refine Ok.condF ?_ ?_; focus (cbv; done)) | (refine Ok.drawnE (by as_aux_lemma => kernel_rfl) ?_) | (apply Ok.call (cC); (focus (cbv; done)); (focus (cbv; done)); (focus (cbv; done))) | (apply Ok.dcall (cC); (focus (cbv; done)); (focus (cbv; done)); (focus (cbv; done))))
        refine Ok.op (rem_op (by cbv) (by cbv) (by decide) (Int.ofNat 5) hrm) ?_
        repeat (first | (apply Ok.run1 hmix (A := Ar.std) rfl true 2000; focus (cbv; done)) | (refine Ok.condT ?_ ?_; focus (cbv; done)) | (refine Ok.condF ?_ ?_; focus (cbv; done)) | (apply Ok.op; focus (cbv; done)) | (apply Ok.dop; focus (cbv; done)) | (refine Ok.drawnE (by as_aux_lemma => kernel_rfl) ?_) | (apply Ok.call (cS); (focus (cbv; done)); (focus (cbv; done)); (focus (cbv; done))) | (apply Ok.dcall (cS); (focus (cbv; done)); (focus (cbv; done)); (focus (cbv; done))))
        exact Ok.fin (by cbv) (FS.out (by cbv) (PLe.refl _))
      · rw [if_pos (by decide)] at cC
        repeat (first | (apply Ok.run1 hmix (A := Ar.std) rfl true 2000; focus (cbv; done)) | (refine Ok.condT ?_ ?_; focus (cbv; done)) | (refine Ok.condF ?_ ?_; focus (cbv; done)) | (refine Ok.drawnE (by as_aux_lemma => kernel_rfl) ?_) | (apply Ok.call (cC); (focus (cbv; done)); (focus (cbv; done)); (focus (cbv; done))) | (apply Ok.dcall (cC); (focus (cbv; done)); (focus (cbv; done)); (focus (cbv; done))))
        refine Ok.op (rem_op (by cbv) (by cbv) (by decide) (Int.ofNat 6) hrm) ?_
        repeat (first | (apply Ok.run1 hmix (A := Ar.std) rfl true 2000; focus (cbv; done)) | (refine Ok.condT ?_ ?_; focus (cbv; done)) | (refine Ok.condF ?_ ?_; focus (cbv; done)) | (apply Ok.op; focus (cbv; done)) | (apply Ok.dop; focus (cbv; done)) | (refine Ok.drawnE (by as_aux_lemma => kernel_rfl) ?_) | (apply Ok.call (cS); (focus (cbv; done)); (focus (cbv; done)); (focus (cbv; done))) | (apply Ok.dcall (cS); (focus (cbv; done)); (focus (cbv; done)); (focus (cbv; done))))
        exact Ok.fin (by cbv) (FS.out (by cbv) (PLe.refl _))
      · rw [if_neg (by decide)] at cC
        repeat (first | (apply Ok.run1 hmix (A := Ar.std) rfl true 2000; focus (cbv; done)) | (refine Ok.condT ?_ ?_; focus (cbv; done)) | (refine Ok.condF ?_ ?_; focus (cbv; done)) | (refine Ok.drawnE (by as_aux_lemma => kernel_rfl) ?_) | (apply Ok.call (cC); (focus (cbv; done)); (focus (cbv; done)); (focus (cbv; done))) | (apply Ok.dcall (cC); (focus (cbv; done)); (focus (cbv; done)); (focus (cbv; done))))
        refine Ok.op (rem_op (by cbv) (by cbv) (by decide) (Int.ofNat 7) hrm) ?_
        repeat (first | (apply Ok.run1 hmix (A := Ar.std) rfl true 2000; focus (cbv; done)) | (refine Ok.condT ?_ ?_; focus (cbv; done)) | (refine Ok.condF ?_ ?_; focus (cbv; done)) | (apply Ok.op; focus (cbv; done)) | (apply Ok.dop; focus (cbv; done)) | (refine Ok.drawnE (by as_aux_lemma => kernel_rfl) ?_) | (apply Ok.call (cS); (focus (cbv; done)); (focus (cbv; done)); (focus (cbv; done))) | (apply Ok.dcall (cS); (focus (cbv; done)); (focus (cbv; done)); (focus (cbv; done))))
        exact Ok.fin (by cbv) (FS.out (by cbv) (PLe.refl _))
end Go.Proofs.Ytnojmocoifodjaa.Pv
set_option linter.unusedVariables false
namespace Go.Proofs.Ytnojmocoifodjaa.Pv
open Go Go.Proofs Go.RowKit
theorem ExprNest_u8 {z : Int} (h : (Lit.int .u8 z).wf = true) : z = Int.ofNat z.toNat ∧ z.toNat < 256 := by
  simp only [Lit.wf, Bool.and_eq_true, decide_eq_true_eq] at h
  have h1 : (0 : Int) ≤ z := h.1
  have h2 : z ≤ 255 := h.2
  exact ⟨(Int.toNat_of_nonneg h1).symm, by omega⟩
theorem ExprNest_walk {W : World} {z0 z1 : Int} (h0 : (Lit.int .u8 z0).wf = true) (h1 : (Lit.int .u8 z1).wf = true) : Calls Try.prog 9 #[.int .u8 z0, .int .u8 z1] W (fun e W' => e = .returned (.bool true) ∧ Below W.heap.size W W') := by
  obtain ⟨e0, l0⟩ := ExprNest_u8 h0
  rw [e0]
  obtain ⟨e1, l1⟩ := ExprNest_u8 h1
  rw [e1]
  exact (law4_ExprNest z0.toNat z1.toNat).yes rfl (fun i q hq => by
    match i with
    | 0 => simp only [List.getElem?_cons_zero, Option.some.injEq] at hq; subst hq; exact .int _ _
    | 1 => simp only [List.getElem?_cons_zero, List.getElem?_cons_succ, Option.some.injEq] at hq; subst hq; exact .int _ _
    | i + 2 => simp at hq)
end Go.Proofs.Ytnojmocoifodjaa.Pv

