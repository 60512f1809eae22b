/- Seat 1: expressions as data; Seat 1: an argument that reads as a list of expressions is one. Conditions: none but those that each theorem names. -/
import Derived.Test.YteijagcoejgnpaaGreatDoorVmF

namespace Go.Proofs.YteijagcoejgnpaaGreatDoor
open Go Go.Vm
/-- an expression -/
inductive E where
  | mk (op pl s0 s1 s2 s3 : Int) (text : List Nat) (mn mx : Int) (nl : Bool) (args : List E)

def argV (nl : Bool) (l : List V) : V := if nl && l.isEmpty then .snil else .sl 10 l .no

mutual
def enc : E → V
  | .mk op pl s0 s1 s2 s3 text mn mx nl args => .agg [.int .i64 op, .int .i64 pl, .int .u64 s0, .int .u64 s1, .int .u64 s2, .int .u64 s3, .str text, .int .i64 mn, .int .i64 mx, argV nl (encs args)]
def encs : List E → List V
  | [] => []
  | e :: es => enc e :: encs es
end
theorem encs_length : ∀ (l : List E), (encs l).length = l.length
  | [] => rfl
  | e :: l => by simp [encs, encs_length l]
theorem encs_get : ∀ (l : List E) (i : Nat), (encs l)[i]? = (l[i]?).map enc
  | [], i => by simp [encs]
  | e :: l, 0 => by simp [encs]
  | e :: l, i + 1 => by simp [encs, encs_get l i]

theorem argV_cases (nl : Bool) (l : List V) : argV nl l = .sl 10 l .no ∨ (l = [] ∧ argV nl l = .snil) := by
  unfold argV
  split
  · rename_i h
    rw [Bool.and_eq_true] at h
    exact .inr ⟨by simpa using h.2, rfl⟩
  · exact .inl rfl
theorem clr_argV {nl : Bool} {l : List V} : clr (argV nl l) = argV nl l := by
  rcases argV_cases nl l with h | ⟨_, h⟩ <;> rw [h] <;> rfl
theorem clr_enc (a : E) : clr (enc a) = enc a := by cases a; rfl
theorem top_argV {nl : Bool} {l : List V} : (argV nl l).top = tops l := by
  rcases argV_cases nl l with h | ⟨hl, h⟩ <;> rw [h]
  · rfl
  · rw [hl]; rfl
mutual
theorem top_enc : ∀ (e : E), (enc e).top = 0
  | .mk op pl s0 s1 s2 s3 text mn mx nl args => by
    simp only [enc, V.top, tops, top_argV, tops_encs args]
    rfl
theorem tops_encs : ∀ (l : List E), tops (encs l) = 0
  | [] => rfl
  | e :: l => by simp [encs, tops, top_enc e, tops_encs l]
end
theorem w64 {x : Int} (h1 : -9223372036854775808 ≤ x) (h2 : x ≤ 9223372036854775807) : IntKind.i64.wrap x = x := by
  simp only [IntKind.wrap, IntKind.bits, IntKind.signed]
  simp
  omega
theorem w64s {i : Nat} (h : i < 9223372036854775807) : IntKind.i64.wrap ((i : Int) + 1) = ((i + 1 : Nat) : Int) := by
  rw [w64 (by omega) (by omega)]; omega

-- lists are no longer than memory holds
mutual
def Wf : E → Prop
  | .mk _ _ _ _ _ _ text _ _ _ args => text.length ≤ maxLen ∧ args.length ≤ maxLen ∧ Wfs args
def Wfs : List E → Prop
  | [] => True
  | e :: l => Wf e ∧ Wfs l
end
theorem Wfs.mem {a : E} : ∀ {l : List E}, Wfs l → a ∈ l → Wf a
  | e :: l, h, ha => by
    rcases List.mem_cons.1 ha with rfl | ha
    · exact h.1
    · exact Wfs.mem h.2 ha
theorem maxLen_le : maxLen ≤ 9223372036854775807 := by decide

mutual
def hg : E → Nat
  | .mk _ _ _ _ _ _ _ _ _ _ args => hgs args + args.length + 2
def hgs : List E → Nat
  | [] => 0
  | e :: l => max (hg e) (hgs l)
end
theorem hg_le {a : E} : ∀ {l : List E}, a ∈ l → hg a ≤ hgs l
  | e :: l, h => by
    simp only [hgs]
    rcases List.mem_cons.1 h with rfl | h
    · exact Nat.le_max_left _ _
    · exact Nat.le_trans (hg_le h) (Nat.le_max_right _ _)


end Go.Proofs.YteijagcoejgnpaaGreatDoor

namespace Go.Proofs.YteijagcoejgnpaaGreatDoor
set_option maxRecDepth 10000
open Go Go.Vm

theorem c28 : Tryz.prog.cellsOf 28 = 10 := by kernel_rfl
theorem c26 : Tryz.prog.cellsOf 26 = 4 := by kernel_rfl
theorem c24 : Tryz.prog.cellsOf 24 = 1 := by kernel_rfl
theorem c22 : Tryz.prog.cellsOf 22 = 1 := by kernel_rfl
theorem c9 : Tryz.prog.cellsOf 9 = 1 := by kernel_rfl
theorem c3 : Tryz.prog.cellsOf 3 = 1 := by kernel_rfl
theorem mkE (cs : List V) : mkEl Tryz.prog 28 cs = .agg cs := by
  have : isAggT Tryz.prog 28 = true := by kernel_rfl
  simp only [mkEl, this, if_true]

theorem typed3 {n : Nat} {xs : List V} (h : Typed Tryz.prog n 3 xs) : ∃ z, xs = [.int .i64 z] := by
  cases n with
  | zero => exact h.elim
  | succ n =>
    simp only [Typed, Tryz.underlying3] at h
    obtain ⟨z, h, _⟩ := h; exact ⟨z, h⟩
theorem typed24 {n : Nat} {xs : List V} (h : Typed Tryz.prog n 24 xs) : ∃ z, xs = [.int .u64 z] := by
  cases n with
  | zero => exact h.elim
  | succ n =>
    simp only [Typed, Tryz.underlying24] at h
    obtain ⟨z, h, _⟩ := h; exact ⟨z, h⟩
theorem typed9 {n : Nat} {xs : List V} (h : Typed Tryz.prog n 9 xs) : ∃ s, xs = [.str s] ∧ (∀ b ∈ s, b < 256) ∧ s.length ≤ maxLen := by
  cases n with
  | zero => exact h.elim
  | succ n =>
    simp only [Typed, Tryz.underlying9] at h
    exact h
theorem typed26 {n : Nat} {xs : List V} (h : Typed Tryz.prog n 26 xs) : ∃ a b c d, xs = [.int .u64 a, .int .u64 b, .int .u64 c, .int .u64 d] := by
  cases n with
  | zero => exact h.elim
  | succ n =>
    simp only [Typed, Tryz.underlying26, c26, c24] at h
    obtain ⟨hl, h⟩ := h
    match xs, hl with
    | [x, y, z, w], _ =>
      obtain ⟨a, ha⟩ := typed24 (h 0 (by omega))
      obtain ⟨b, hb⟩ := typed24 (h 1 (by omega))
      obtain ⟨c, hc⟩ := typed24 (h 2 (by omega))
      obtain ⟨d, hd⟩ := typed24 (h 3 (by omega))
      simp at ha hb hc hd
      exact ⟨a, b, c, d, by rw [ha, hb, hc, hd]⟩

theorem encs_ex : ∀ (ys : List V), (∀ y ∈ ys, ∃ e, enc e = y ∧ Wf e) → ∃ l, encs l = ys ∧ Wfs l
  | [], _ => ⟨[], rfl, trivial⟩
  | y :: ys, h => by
    obtain ⟨e, h1, h2⟩ := h y List.mem_cons_self
    obtain ⟨l, h3, h4⟩ := encs_ex ys fun z hz => h z (List.mem_cons_of_mem _ hz)
    exact ⟨e :: l, by simp [encs, h1, h3], h2, h4⟩

mutual
theorem typedE : ∀ (n : Nat) (xs : List V), Typed Tryz.prog n 28 xs → ∃ e, enc e = .agg xs ∧ Wf e
  | 0, _, h => h.elim
  | n + 1, xs, h => by
    simp only [Typed, Tryz.underlying28, c28] at h
    obtain ⟨hl, h⟩ := h
    have f0 := h ⟨ "Op", 3, 0, false, "", "", 0⟩ (by simp)
    have f1 := h ⟨ "At", 3, 1, false, "", "", 8⟩ (by simp)
    have f2 := h ⟨ "Set", 26, 2, false, "", "", 16⟩ (by simp)
    have f3 := h ⟨ "Text", 9, 6, false, "", "", 48⟩ (by simp)
    have f4 := h ⟨ "Min", 3, 7, false, "", "", 64⟩ (by simp)
    have f5 := h ⟨ "Max", 3, 8, false, "", "", 72⟩ (by simp)
    have f6 := h ⟨ "Args", 22, 9, false, "", "", 80⟩ (by simp)
    clear h
    simp only [c3, c26, c9, c22] at f0 f1 f2 f3 f4 f5 f6
    match xs, hl with
    | [x0, x1, x2, x3, x4, x5, x6, x7, x8, x9], _ =>
      simp only [List.drop_succ_cons, List.drop_zero, List.take_succ_cons, List.take_zero] at f0 f1 f2 f3 f4 f5 f6
      obtain ⟨op, h0⟩ := typed3 f0
      obtain ⟨pl, h1⟩ := typed3 f1
      obtain ⟨a, b, c, d, h2⟩ := typed26 f2
      obtain ⟨s, h3, _, hs⟩ := typed9 f3
      obtain ⟨mn, h4⟩ := typed3 f4
      obtain ⟨mx, h5⟩ := typed3 f5
      obtain ⟨nl, l, h6, h7, h8⟩ := typedL n x9 f6
      simp only [List.cons.injEq, and_true] at h0 h1 h2 h3 h4 h5
      obtain ⟨rfl, rfl, rfl, rfl⟩ := h2
      subst h0 h1 h3 h4 h5 h6
      exact ⟨.mk op pl a b c d s mn mx nl l, rfl, hs, h7, h8⟩
theorem typedL : ∀ (n : Nat) (v : V), Typed Tryz.prog n 22 [v] → ∃ nl l, v = argV nl (encs l) ∧ l.length ≤ maxLen ∧ Wfs l
  | 0, _, h => h.elim
  | n + 1, v, h => by
    simp only [Typed, Tryz.underlying22, c28] at h
    rcases h with h | ⟨ys, h, hl, hy⟩
    · simp only [List.cons.injEq, and_true] at h
      exact ⟨true, [], by rw [h]; rfl, by simp, trivial⟩
    · simp only [List.cons.injEq, and_true] at h
      obtain ⟨l, h1, h2⟩ := encs_ex ys fun y hyy => by
        obtain ⟨cs, g1, g2⟩ := hy y hyy
        rw [mkE] at g2
        rw [g2]
        exact typedE n cs g1
      subst h1
      rw [encs_length] at hl
      exact ⟨false, l, by rw [h]; rfl, hl, h2⟩
end

end Go.Proofs.YteijagcoejgnpaaGreatDoor
