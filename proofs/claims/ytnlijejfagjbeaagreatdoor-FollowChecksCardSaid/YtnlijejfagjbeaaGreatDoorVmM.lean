/- Seat 2: FollowChecks: the card, out of the machine's run. Conditions: none but those that each theorem names. -/
import Derived.Test.YtnlijejfagjbeaaGreatDoorVmF
import Derived.Test.YtnlijejfagjbeaaGreatDoorVmH
import Derived.Test.YtnlijejfagjbeaaGreatDoorVmJ
import Derived.Test.YtnlijejfagjbeaaGreatDoorVmL

namespace Go.Proofs.YtnlijejfagjbeaaGreatDoor.Checks
set_option maxRecDepth 100000
open Go Go.Vm Go.ChangeShapes Go.WideShapes Go.ChangeAt Go.RowKit

theorem ok1 : HooksOk Tryz.prog glw hooks1 := hooks_cons mixed numOk primOk hooks_nil (parse_run 0) rfl rfl
theorem ok2 : HooksOk Tryz.prog glw (hooks2 ++ hooks1) := hooks_cons mixed numOk primOk ok1 (read_run 0) rfl rfl
theorem ok3 : HooksOk Tryz.prog glw ((8, [], .bool true) :: (hooks2 ++ hooks1)) := hooks_cons mixed numOk primOk ok2 (wakes_run 0) rfl rfl
/-- with the closed run's answer known -/
def gl1 : Gl := { g := glw, hk := fun f args => if Nat.beq f 8 then (match args with | [] => some (.bool true) | _ => none) else none }
theorem hk1 : HkOk Tryz.prog gl1 := by
  intro f args v h d H g w cargs l h1 h2 h3
  simp only [gl1] at h
  split at h
  · rename_i hf
    obtain rfl : f = 8 := Nat.eq_of_beq_eq_true hf
    split at h
    · cases h
      exact ok3 8 [] (.bool true) rfl d H g w cargs l h1 h2 h3
    · cases h
  · cases h
instance : NoU gl1 := ⟨fun _ => rfl⟩
theorem top_bits : ∀ v ∈ bitsT, v.top = 0 := by
  intro v hv
  obtain ⟨n, _, rfl⟩ := List.mem_map.1 hv
  rfl
theorem GL1 : GL gl1 where
  top := fun g off v h => by
    have h' : glT 287 ks [(3, bitsT)] g off = some v := h
    unfold glT at h'
    split at h'
    · rename_i vs hvs
      have := tabA_mem hvs
      simp only [List.mem_singleton, Prod.mk.injEq] at this
      obtain ⟨_, rfl⟩ := this
      rw [nth_eq] at h'
      exact top_bits v (List.mem_of_getElem? h')
    · unfold glOf at h'
      split at h' <;> simp only [Option.some.injEq, reduceCtorEq] at h'
      subst h'; rfl
  no := fun f hf args => by simp only [gl1, hf, Bool.false_eq_true, if_false]

theorem run3 (n : Nat) (v : V) (h : Typed Tryz.prog n 22 [v]) : ∃ k H', callA Tryz.prog gl1 k 3 [v] ⟨[], []⟩ = some (.ret (.bool true), H') := by
  obtain ⟨p, rfl, hl, hw⟩ := typed22 h
  have he := ev3 GL1 (Sx.Ev.hook (xs := []) rfl rfl) p hl hw
  obtain ⟨k, hk⟩ := Sx.Ev.run (xs := [flv p]) he ⟨[], []⟩
  exact ⟨k, _, hk k (Nat.le_refl _)⟩

theorem contract (H : Type) (enc : TypeId × Value → H) (W : World) (base : Nat) (args : Array Value) (ds gs : List (DataW H)) (before : List MemPlace)
    (hval : ∀ (j : Nat) t v, Tryz.f3.params[j]? = some t → args[j]? = some v → Value.okWide Tryz.prog W .any base t v)
    (hW : DataW.Whole enc Tryz.prog Tryz.f3.params.toList Rows.followChecksSpec.vars false W args.toList ds gs before)
    (hwt : (DataW.weightsEach Tryz.prog (Tryz.f3.params.toList ++ (OpenSpec.ofChange Rows.followChecksSpec).bare.plain.varTypes Tryz.prog) (ds ++ gs)).all (· ≤ reachBytes) = true) (hL : laidMetH Tryz.prog Rows.followChecksRow.laid W) :
    Calls Tryz.prog 3 args W fun e W' => ∃ v, e = .returned v ∧ Rows.followChecksSpec.post enc Tryz.prog Tryz.f3 false true false false W args v W' := by
  have hW' := hW
  obtain ⟨p, q, hA0, hV, rfl, hfz, hnd⟩ := hW
  have hA : DataW.TrodAll enc Tryz.prog W 0 (fun _ => true) true Tryz.f3.params.toList args.toList ds p := hA0
  rw [Tryz.params3] at hA
  obtain ⟨v0, vs0, d0, ds0, p0, q0, hargs, rfl, rfl, h0, r0⟩ := trodAll_cons hA
  obtain ⟨rfl, rfl, rfl⟩ := trodAll_nil r0
  obtain rfl : args = #[v0] := by cases args; simp_all
  obtain ⟨n, hn⟩ := h0
  have hw0 : ∀ w ∈ d0.weights Tryz.prog 22, w ≤ reachBytes := fun w hw => by
    have := List.all_eq_true.1 hwt w (by
      rw [Tryz.params3]
      show w ∈ DataW.weights Tryz.prog 22 d0 ++ _
      exact List.mem_append_left _ hw)
    simpa using this
  obtain ⟨xs, x1, x2, x3⟩ := trod_rel (S := S0) closed0 n 22 _ _ (by decide) hn hw0
  have hc1 : Tryz.prog.cellsOf 22 = 1 := by kernel_rfl
  rw [hc1] at x3
  match xs, x3 with
  | [x], _ =>
  have hv0 : v0.cells.toList = [v0] := by
    have h22 := hval 0 22 v0 (by rw [Tryz.params3]; rfl) rfl
    simp only [Value.okWide, Tryz.underlying22, Cell.okWide, Cell.ok] at h22
    cases v0 <;> first | rfl | exact h22.elim
  rw [hv0] at x2
  obtain ⟨k, H', hk⟩ := run3 n x x1
  refine (law_calls mixed numOk primOk hk1 hk (glOk hL) ⟨rfl, fun j y v hy hv => ?_, ?_, ?_⟩).mono fun e W' ⟨he, hb⟩ => ⟨_, he, ?_⟩
  · match j, hy, hv with
    | 0, hy, hv => cases hy; cases hv; exact x2.1.2.1
    | j + 1, hy, _ => simp at hy
  · simp [tops, x2.1.2.2.1]
  · intro y hy sz ys e
    simp only [List.mem_singleton] at hy
    subst hy
    exact x2.1.2.2.2 sz ys e
  · exact law_post rfl (show Tryz.f3.resultTypes = #[4] from rfl) Tryz.underlying4 laidOut (by rw [Tryz.params3]; intro t ht; simp at ht; subst ht; exact ⟨by kernel_rfl, of_decide_eq_true (by kernel_rfl)⟩) rfl hW' hb

theorem lifted (os : Os) (started : os.Started) (H : Type) (enc : TypeId × Value → H) (F : Stop.Interp) :
    ReturnsInHanded {} Tryz.checked os 3 .any ((OpenSpec.ofChange Rows.followChecksSpec).preRow enc Tryz.prog Tryz.f3 Rows.followChecksRow.domain false Rows.followChecksRow.laid) (((OpenSpec.ofChange Rows.followChecksSpec).at F).post enc Tryz.prog Tryz.f3 false true false false) := by
  have hx : ∃ places, DataW.whole enc Tryz.prog ((World.doorLaid Tryz.prog 320 os).forCall (fun _ _ => 0) ⟨#[], #[.slice none 0 0], []⟩).memory Tryz.f3.params.toList Rows.followChecksSpec.vars false #[Value.slice none 0 0].toList 8 = some ([.nil], [], places) := ⟨[], by kernel_rfl⟩
  obtain ⟨places, hx⟩ := hx
  refine returnsInHanded_of_row (C := Tryz.checked) (s := OpenSpec.ofChange Rows.followChecksSpec) own started (by kernel_rfl) Tryz.func3
    (witness_row_atRef (enc := enc) (C := Tryz.checked) false (World.doorLaid Tryz.prog 320 os) #[.slice none 0 0] rfl (by kernel_rfl) (by kernel_rfl) (by kernel_rfl)
      (OpenSpec.preRow_of_cond 8 hx (by kernel_rfl) (fun k hk => by cases hk) (by kernel_rfl) (laidDoor os _))) ?_
  intro W base args ds gs before hval hW _ _ hwt hL _ _
  exact contract H enc W base args ds gs before hval hW hwt hL

theorem said : Rows.FollowChecksSaid :=
  OpenClaim.holds_of_cond 3 Tryz.f3 rfl rfl rfl rfl rfl rfl rfl ⟨rfl, rfl, rfl, rfl, rfl⟩ rfl rfl rfl rfl rfl named Tryz.func3 facts
    (of_decide_eq_true (by kernel_rfl)) (by unfold Func.isWrapper; first | (rw [if_pos (by decide +kernel)]; kernel_rfl) | (rw [if_neg (by decide +kernel)]; exact ⟨rfl, rfl⟩))
    (fun os started H enc _ F => by rw [OpenClaim.pre_eq_preRow]; exact lifted os started H enc F)

theorem plain (f : FuncId) (fn : Func) (hf : Tryz.pinned.checked.prog.funcNamed "bolter/bolterlaw10.FollowChecks" = some f) (hfn : Tryz.pinned.checked.prog.funcs[f]? = some fn) :
    true = Tryz.pinned.checked.prog.looks [] ∧ ∀ (j : Nat) t, fn.params[j]? = some t → Tryz.pinned.checked.prog.wantsStandIn t = false := by
  obtain rfl : f = 3 := Option.some.inj ((show Tryz.prog.funcNamed "bolter/bolterlaw10.FollowChecks" = some 3 by kernel_rfl).symm.trans hf) |>.symm
  obtain rfl : fn = Tryz.f3 := (Option.some.inj (Tryz.func3.symm.trans hfn)).symm
  refine ⟨by kernel_rfl, fun j t ht => ?_⟩
  rw [Tryz.params3] at ht
  obtain rfl : t = 22 := by simpa using Array.mem_of_getElem? ht
  exact (show Tryz.prog.wantsStandIn 22 = false by kernel_rfl)

theorem card : Rows.FollowChecksCardSaid :=
  Claim7.holds_tied_plain_at .later [] _ _ _ _ said (fun _ h => by cases h) (by kernel_rfl) (fun _ h => by cases h) followChecks_row_tie rfl ⟨rfl, rfl⟩ (by kernel_rfl) rfl plain (by kernel_rfl)

end Go.Proofs.YtnlijejfagjbeaaGreatDoor.Checks
