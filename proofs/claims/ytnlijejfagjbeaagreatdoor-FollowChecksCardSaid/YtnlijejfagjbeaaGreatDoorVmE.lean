/- Sx: lists as values, loops that ask the same of each of many. Conditions: none but those that each theorem names. -/
import Derived.Test.YtnlijejfagjbeaaGreatDoorVmD

namespace Go.Vm.Sx
open Go Go.Vm

/-- a list that came in, or that nobody may write behind: nil or not -/
def lv (sz : Nat) (nl : Bool) (l : List V) : V := if nl && l.isEmpty then .snil else .sl sz l .no
theorem lv_cases (sz : Nat) (nl : Bool) (l : List V) : lv sz nl l = .sl sz l .no ∨ (l = [] ∧ lv sz nl l = .snil) := by
  unfold lv
  split
  · rename_i h
    rw [Bool.and_eq_true] at h
    exact .inr ⟨by simpa using h.2, rfl⟩
  · exact .inl rfl
theorem clr_lv {sz : Nat} {nl : Bool} {l : List V} : clr (lv sz nl l) = lv sz nl l := by
  rcases lv_cases sz nl l with h | ⟨_, h⟩ <;> rw [h] <;> rfl
theorem top_lv {sz : Nat} {nl : Bool} {l : List V} : (lv sz nl l).top = tops l := by
  rcases lv_cases sz nl l with h | ⟨hl, h⟩ <;> rw [h]
  · rfl
  · rw [hl]; rfl
theorem k_lv (sz : Nat) (nl : Bool) (l : List V) : kOk (.sl sz) (lv sz nl l) = true := by
  rcases lv_cases sz nl l with h | ⟨_, h⟩ <;> rw [h] <;> simp [kOk, locked]
theorem vL_lv (sz : Nat) (nl : Bool) (l : List V) : vL (lv sz nl l) = l := by
  rcases lv_cases sz nl l with h | ⟨h0, h⟩ <;> rw [h]
  · simp [vL]
  · rw [h0]; simp [vL]

/-- a list that append has made out of nil -/
def acc (sz : Nat) (e : TypeId) (l : List V) : V := match l with | [] => .snil | _ => .sl sz l (.yes e)
theorem k_acc (sz : Nat) (e : TypeId) (l : List V) : kOk (.sl sz) (acc sz e l) = true := by cases l <;> simp [acc, kOk, locked]
theorem acc_vL (sz : Nat) (e : TypeId) (l : List V) : vL (acc sz e l) = l := by cases l <;> simp [acc, vL]
theorem acc_rights (sz : Nat) (e : TypeId) (l : List V) : rightsV (acc sz e l) = true := by cases l <;> simp [acc, rightsV]
theorem acc_own (sz : Nat) (e : TypeId) (l : List V) : ownV e (acc sz e l) = true := by cases l <;> simp [acc, ownV]
theorem acc_clr (sz : Nat) (e : TypeId) (l : List V) : clr (acc sz e l) = lv sz true l := by cases l <;> simp [acc, clr, lv]
theorem acc_snoc (sz : Nat) (e : TypeId) (l : List V) (a : V) : V.sl sz (l ++ [a]) (.yes e) = acc sz e (l ++ [a]) := by cases l <;> simp [acc]
theorem acc_nil (sz : Nat) (e : TypeId) : acc sz e [] = .snil := rfl
theorem acc_top (sz : Nat) (e : TypeId) (l : List V) : (acc sz e l).top = tops l := by cases l <;> simp [acc, V.top, tops]

theorem roomA_of {n b : Nat} (h1 : n ≤ 140737488355328) (h2 : n * b ≤ 140737488355328) : roomA n b = true := by
  simp only [roomA, Bool.and_eq_true]
  exact ⟨Nat.ble_eq_true_of_le h1, Nat.ble_eq_true_of_le h2⟩

theorem wrap64 {x : Int} (h1 : -9223372036854775808 ≤ x) (h2 : x ≤ 9223372036854775807) : IntKind.i64.wrap x = x := by
  simp only [IntKind.wrap, IntKind.bits, IntKind.signed]
  simp
  omega
theorem wrapS {i : Nat} (h : i < 9223372036854775807) : IntKind.i64.wrap ((i : Int) + 1) = ((i + 1 : Nat) : Int) := by
  rw [wrap64 (by omega) (by omega)]; omega

/-- of all numbers below n -/
def allB (ok : Nat → Bool) : Nat → Bool
  | 0 => true
  | n + 1 => allB ok n && ok n
theorem allB_iff {ok : Nat → Bool} : ∀ {n : Nat}, allB ok n = true ↔ ∀ i, i < n → ok i = true
  | 0 => by simp [allB]
  | n + 1 => by
    rw [allB, Bool.and_eq_true, allB_iff]
    refine ⟨fun ⟨h1, h2⟩ i hi => ?_, fun h => ⟨fun i hi => h i (by omega), h n (by omega)⟩⟩
    rcases Nat.lt_or_ge i n with h | h
    · exact h1 i h
    · have : i = n := by omega
      subst this; exact h2
theorem allB_first {ok : Nat → Bool} : ∀ {n : Nat}, allB ok n = false → ∃ m, m < n ∧ ok m = false ∧ ∀ i, i < m → ok i = true
  | 0, h => by simp [allB] at h
  | n + 1, h => by
    rw [allB, Bool.and_eq_false_iff] at h
    cases hn : allB ok n with
    | false =>
      obtain ⟨m, h1, h2, h3⟩ := allB_first hn
      exact ⟨m, by omega, h2, h3⟩
    | true =>
      rcases h with h | h
      · rw [hn] at h; cases h
      · exact ⟨n, by omega, h, allB_iff.1 hn⟩
theorem allB_congr {a b : Nat → Bool} {n : Nat} (h : ∀ i, i < n → a i = b i) : allB a n = allB b n := by
  rw [Bool.eq_iff_iff, allB_iff, allB_iff]
  exact ⟨fun k i hi => by rw [← h i hi]; exact k i hi, fun k i hi => by rw [h i hi]; exact k i hi⟩

section
variable {pc : FuncId → List AV → List (List V × TypeId) → Option (V × List (List V))} {gl : Nat → Nat → Option V} {N : Nat} {ρ : List V} {body : Tree}
/-- a loop that ends at the first of which it is not so -/
theorem loop_all {ok : Nat → Bool} {st : Nat → List V} {n : Nat} {good bad : List V} {x : Option (Nat × List V)} (hgo : ∀ i, i < n → ok i = true → evT pc gl N body (ρ ++ st i) = some (0, st (i + 1))) (hbad : ∀ i, i < n → ok i = false → evT pc gl N body (ρ ++ st i) = some (1, bad))
    (hend : allB ok n = true → evT pc gl N body (ρ ++ st n) = some (1, good)) (hN : n < N) (hx : x = some (0, bif allB ok n then good else bad)) : loopT pc gl N body ρ (st 0) = x := by
  subst hx
  cases h : allB ok n with
  | true => exact loopT_up (fun i hi => hgo i hi (allB_iff.1 h i hi)) (hend h) hN
  | false =>
    obtain ⟨m, h1, h2, h3⟩ := allB_first h
    exact loopT_up (m := m) (fun i hi => hgo i (by omega) (h3 i hi)) (hbad m h1 h2) (by omega)
end

end Go.Vm.Sx
