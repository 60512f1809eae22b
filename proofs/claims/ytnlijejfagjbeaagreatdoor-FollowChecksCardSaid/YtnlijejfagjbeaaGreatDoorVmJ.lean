/- Seat 2: automata of positions as data; Seat 2: what copies and comparisons of automata come to, out of their trees; Seat 2: what the two sides come to, out of their trees; and what follows from it. Conditions: none but those that each theorem names. -/
import Derived.Test.YtnlijejfagjbeaaGreatDoorVmC
import Derived.Test.YtnlijejfagjbeaaGreatDoorVmE
import Derived.Test.YtnlijejfagjbeaaGreatDoorVmI

namespace Go.Proofs.YtnlijejfagjbeaaGreatDoor
set_option maxRecDepth 10000
open Go Go.Vm Go.Vm.Sx

/-- lists of numbers, nil or not; rows of them; sets -/
abbrev Ints := Bool × List Int
abbrev Rows' := Bool × List Ints
abbrev Q4 := Int × Int × Int × Int
structure F where
  s : Bool × List Q4
  r : Ints
  f : Rows'
  n : Rows'

def ie (n : Int) : V := .int .i64 n
def iv (p : Ints) : V := lv 1 p.1 (p.2.map ie)
def rv (p : Rows') : V := lv 1 p.1 (p.2.map iv)
def qe (q : Q4) : V := .agg [.int .u64 q.1, .int .u64 q.2.1, .int .u64 q.2.2.1, .int .u64 q.2.2.2]
def qv (p : Bool × List Q4) : V := lv 4 p.1 (p.2.map qe)
def fc (f : F) : List V := [qv f.s, iv f.r, rv f.f, rv f.n]
def fv (f : F) : V := .agg (fc f)
def flv (p : Bool × List F) : V := lv 4 p.1 (p.2.map fv)

theorem tops_map {α : Type} {h : α → V} (hh : ∀ a, (h a).top = 0) : ∀ (l : List α), tops (l.map h) = 0
  | [] => rfl
  | a :: l => by simp [tops, hh a, tops_map hh l]
theorem top_iv (p : Ints) : (iv p).top = 0 := by unfold iv; rw [top_lv]; exact tops_map (fun _ => rfl) _
theorem top_rv (p : Rows') : (rv p).top = 0 := by unfold rv; rw [top_lv]; exact tops_map top_iv _
theorem top_qv (p : Bool × List Q4) : (qv p).top = 0 := by unfold qv; rw [top_lv]; exact tops_map (fun _ => rfl) _
theorem tops_fc (f : F) : tops (fc f) = 0 := by simp [fc, tops, top_qv, top_iv, top_rv]
theorem top_fv (f : F) : (fv f).top = 0 := tops_fc f
theorem top_flv (p : Bool × List F) : (flv p).top = 0 := by unfold flv; rw [top_lv]; exact tops_map top_fv _

/-- numbers are some, lists no longer than memory holds -/
def W64 (z : Int) : Prop := -9223372036854775808 ≤ z ∧ z ≤ 9223372036854775807
def WI (p : Ints) : Prop := p.2.length * 8 ≤ reachBytes ∧ ∀ z ∈ p.2, W64 z
def WR (p : Rows') : Prop := p.2.length * 24 ≤ reachBytes ∧ ∀ q ∈ p.2, WI q
structure WF (f : F) : Prop where
  s : f.s.2.length * 32 ≤ reachBytes
  r : WI f.r
  fi : WR f.f
  ne : WR f.n

theorem c3 : Tryz.prog.cellsOf 3 = 1 := by kernel_rfl
theorem c48 : Tryz.prog.cellsOf 48 = 1 := by kernel_rfl
theorem c24 : Tryz.prog.cellsOf 24 = 1 := by kernel_rfl
theorem c25 : Tryz.prog.cellsOf 25 = 1 := by kernel_rfl
theorem c23 : Tryz.prog.cellsOf 23 = 1 := by kernel_rfl
theorem c22 : Tryz.prog.cellsOf 22 = 1 := by kernel_rfl
theorem c50 : Tryz.prog.cellsOf 50 = 4 := by kernel_rfl
theorem c27 : Tryz.prog.cellsOf 27 = 4 := by kernel_rfl
theorem b3 : Tryz.prog.bytesOf 3 = 8 := by kernel_rfl
theorem b24 : Tryz.prog.bytesOf 24 = 24 := by kernel_rfl
theorem b50 : Tryz.prog.bytesOf 50 = 32 := by kernel_rfl
theorem mk3 (cs : List V) : mkEl Tryz.prog 3 cs = cs.headD .junk := by
  have : isAggT Tryz.prog 3 = false := by kernel_rfl
  simp [mkEl, this]
theorem mk24 (cs : List V) : mkEl Tryz.prog 24 cs = cs.headD .junk := by
  have : isAggT Tryz.prog 24 = false := by kernel_rfl
  simp [mkEl, this]
theorem mk50 (cs : List V) : mkEl Tryz.prog 50 cs = .agg cs := by
  have : isAggT Tryz.prog 50 = true := by kernel_rfl
  simp [mkEl, this]
theorem mk27 (cs : List V) : mkEl Tryz.prog 27 cs = .agg cs := by
  have : isAggT Tryz.prog 27 = true := by kernel_rfl
  simp [mkEl, this]

theorem list_ex {α : Type} {h : α → V} {Q : α → Prop} : ∀ (ys : List V), (∀ y ∈ ys, ∃ a, h a = y ∧ Q a) → ∃ l : List α, l.map h = ys ∧ ∀ a ∈ l, Q a
  | [], _ => ⟨[], rfl, fun _ h => by simp at h⟩
  | y :: ys, hy => by
    obtain ⟨a, h1, h2⟩ := hy y (List.mem_cons_self ..)
    obtain ⟨l, h3, h4⟩ := list_ex ys fun z hz => hy z (List.mem_cons_of_mem _ hz)
    refine ⟨a :: l, by simp [h1, h3], fun b hb => ?_⟩
    rcases List.mem_cons.1 hb with rfl | hb
    · exact h2
    · exact h4 b hb
theorem zeroR : (0 : Nat) ≤ reachBytes := Nat.zero_le _
theorem typed3 {n : Nat} {xs : List V} (h : Typed Tryz.prog n 3 xs) : ∃ z, xs = [ie z] ∧ W64 z := by
  cases n with
  | zero => exact h.elim
  | succ n =>
    simp only [Typed, Tryz.underlying3] at h
    obtain ⟨z, h, hw⟩ := h
    refine ⟨z, h, ?_⟩
    have hw' : IntKind.i64.min ≤ z ∧ z ≤ IntKind.i64.max := by simpa [Lit.wf] using hw
    have e1 : IntKind.i64.min = -9223372036854775808 := by decide
    have e2 : IntKind.i64.max = 9223372036854775807 := by decide
    rw [e1, e2] at hw'
    exact hw'
theorem typed48 {n : Nat} {xs : List V} (h : Typed Tryz.prog n 48 xs) : ∃ z, xs = [.int .u64 z] := by
  cases n with
  | zero => exact h.elim
  | succ n =>
    simp only [Typed, Tryz.underlying48] at h
    obtain ⟨z, h, _⟩ := h; exact ⟨z, h⟩
theorem typed50 {n : Nat} {xs : List V} (h : Typed Tryz.prog n 50 xs) : ∃ q, V.agg xs = qe q := by
  cases n with
  | zero => exact h.elim
  | succ n =>
    simp only [Typed, Tryz.underlying50, c50, c48] at h
    obtain ⟨hl, h⟩ := h
    match xs, hl with
    | [x, y, z, w], _ =>
      obtain ⟨a, ha⟩ := typed48 (h 0 (by omega))
      obtain ⟨b, hb⟩ := typed48 (h 1 (by omega))
      obtain ⟨c, hc⟩ := typed48 (h 2 (by omega))
      obtain ⟨d, hd⟩ := typed48 (h 3 (by omega))
      simp at ha hb hc hd
      exact ⟨(a, b, c, d), by rw [ha, hb, hc, hd]; rfl⟩
theorem typed24 {n : Nat} {xs : List V} (h : Typed Tryz.prog n 24 xs) : ∃ p, xs = [iv p] ∧ WI p := by
  cases n with
  | zero => exact h.elim
  | succ n =>
    simp only [Typed, Tryz.underlying24, c3, b3] at h
    rcases h with h | ⟨ys, h, ⟨_, hb⟩, hy⟩
    · exact ⟨(true, []), h, by simp [WI]⟩
    · obtain ⟨l, h1, h2⟩ := list_ex (h := ie) (Q := W64) ys fun y hyy => by
        obtain ⟨cs, g1, g2⟩ := hy y hyy
        obtain ⟨z, g3, g4⟩ := typed3 g1
        rw [mk3, g3] at g2
        exact ⟨z, g2.symm, g4⟩
      subst h1
      exact ⟨(false, l), h, by simpa using hb, h2⟩
theorem typed25 {n : Nat} {xs : List V} (h : Typed Tryz.prog n 25 xs) : ∃ p, xs = [rv p] ∧ WR p := by
  cases n with
  | zero => exact h.elim
  | succ n =>
    simp only [Typed, Tryz.underlying25, c24, b24] at h
    rcases h with h | ⟨ys, h, ⟨_, hb⟩, hy⟩
    · exact ⟨(true, []), h, by simp [WR]⟩
    · obtain ⟨l, h1, h2⟩ := list_ex (h := iv) (Q := WI) ys fun y hyy => by
        obtain ⟨cs, g1, g2⟩ := hy y hyy
        obtain ⟨z, g3, g4⟩ := typed24 g1
        rw [mk24, g3] at g2
        exact ⟨z, g2.symm, g4⟩
      subst h1
      exact ⟨(false, l), h, by simpa using hb, h2⟩
theorem typed23 {n : Nat} {xs : List V} (h : Typed Tryz.prog n 23 xs) : ∃ p, xs = [qv p] ∧ p.2.length * 32 ≤ reachBytes := by
  cases n with
  | zero => exact h.elim
  | succ n =>
    simp only [Typed, Tryz.underlying23, c50, b50] at h
    rcases h with h | ⟨ys, h, ⟨_, hb⟩, hy⟩
    · exact ⟨(true, []), h, by simp []⟩
    · obtain ⟨l, h1, _⟩ := list_ex (h := qe) (Q := fun _ => True) ys fun y hyy => by
        obtain ⟨cs, g1, g2⟩ := hy y hyy
        obtain ⟨z, g3⟩ := typed50 g1
        rw [mk50, g3] at g2
        exact ⟨z, g2.symm, trivial⟩
      subst h1
      exact ⟨(false, l), h, by simpa using hb⟩
theorem typed27 {n : Nat} {xs : List V} (h : Typed Tryz.prog n 27 xs) : ∃ f, V.agg xs = fv f ∧ WF f := by
  cases n with
  | zero => exact h.elim
  | succ n =>
    simp only [Typed, Tryz.underlying27, c27] at h
    obtain ⟨hl, h⟩ := h
    have f0 := h ⟨"Sets", 23, 0, false, "", "", 0⟩ (by simp)
    have f1 := h ⟨"Rules", 24, 1, false, "", "", 24⟩ (by simp)
    have f2 := h ⟨"First", 25, 2, false, "", "", 48⟩ (by simp)
    have f3 := h ⟨"Next", 25, 3, false, "", "", 72⟩ (by simp)
    clear h
    simp only [c23, c24, c25] at f0 f1 f2 f3
    match xs, hl with
    | [x0, x1, x2, x3], _ =>
      simp only [List.drop_succ_cons, List.drop_zero, List.take_succ_cons, List.take_zero] at f0 f1 f2 f3
      obtain ⟨s, h0, w0⟩ := typed23 f0
      obtain ⟨r, h1, w1⟩ := typed24 f1
      obtain ⟨f, h2, w2⟩ := typed25 f2
      obtain ⟨k, h3, w3⟩ := typed25 f3
      simp only [List.cons.injEq, and_true] at h0 h1 h2 h3
      exact ⟨⟨s, r, f, k⟩, by rw [h0, h1, h2, h3]; rfl, ⟨w0, w1, w2, w3⟩⟩
theorem typed22 {n : Nat} {v : V} (h : Typed Tryz.prog n 22 [v]) : ∃ p, v = flv p ∧ p.2.length ≤ maxLen ∧ ∀ f ∈ p.2, WF f := by
  cases n with
  | zero => exact h.elim
  | succ n =>
    simp only [Typed, Tryz.underlying22, c27] at h
    rcases h with h | ⟨ys, h, ⟨hl, _⟩, hy⟩
    · simp only [List.cons.injEq, and_true] at h
      exact ⟨(true, []), h, by simp, fun _ h => by simp at h⟩
    · obtain ⟨l, h1, h2⟩ := list_ex (h := fv) (Q := WF) ys fun y hyy => by
        obtain ⟨cs, g1, g2⟩ := hy y hyy
        obtain ⟨f, g3, g4⟩ := typed27 g1
        rw [mk27, g3] at g2
        exact ⟨f, g2.symm, g4⟩
      subst h1
      simp only [List.cons.injEq, and_true] at h
      exact ⟨(false, l), h, by simpa using hl, h2⟩

end Go.Proofs.YtnlijejfagjbeaaGreatDoor

namespace Go.Proofs.YtnlijejfagjbeaaGreatDoor
set_option linter.unusedSectionVars false
set_option maxRecDepth 10000
open Go Go.Vm Go.Vm.Sx

theorem k_iv (p : Ints) : kOk (.sl 1) (iv p) = true := k_lv ..
theorem k_rv (p : Rows') : kOk (.sl 1) (rv p) = true := k_lv ..
theorem k_qv (p : Bool × List Q4) : kOk (.sl 4) (qv p) = true := k_lv ..
theorem vL_iv (p : Ints) : vL (iv p) = p.2.map ie := vL_lv ..
theorem vL_rv (p : Rows') : vL (rv p) = p.2.map iv := vL_lv ..
theorem vL_qv (p : Bool × List Q4) : vL (qv p) = p.2.map qe := vL_lv ..
theorem clr_iv (p : Ints) : clr (iv p) = iv p := clr_lv ..
theorem clr_rv (p : Rows') : clr (rv p) = rv p := clr_lv ..
theorem clr_qv (p : Bool × List Q4) : clr (qv p) = qv p := clr_lv ..
theorem k_ie (n : Int) : kOk (.int .i64) (ie n) = true := by simp [ie, kOk]
theorem vI_ie (n : Int) : vI (ie n) = n := by simp [ie, vI]
theorem clr_ie (n : Int) : clr (ie n) = ie n := rfl
theorem appV_nil (sz : Nat) (e : TypeId) (l : List V) : appV .snil sz e l = acc sz e l := by cases l <;> rfl
theorem nth_map {α : Type} {h : α → V} {l : List α} {i : Nat} {a : α} (ha : l[i]? = some a) : nth (l.map h) i = some (h a) := by rw [nth_eq, List.getElem?_map, ha]; rfl
theorem reach_le : reachBytes ≤ 140737488355328 := by decide

variable {gl : Gl} [NoU gl]
structure GL (gl : Gl) : Prop where
  top : ∀ g off v, gl g off = some v → v.top = 0
  no : ∀ f, Nat.beq f 8 = false → ∀ args, gl.hk f args = none

theorem par24 {x : V} : ParOk Tryz.prog [24] [.d x] 0 := by
  refine ⟨fun e => ?_, trivial⟩
  rw [Tryz.underlying24]; simp
theorem par25 {x : V} : ParOk Tryz.prog [25] [.d x] 0 := by
  refine ⟨fun e => ?_, trivial⟩
  rw [Tryz.underlying25]; simp
theorem par27 {x : V} : ParOk Tryz.prog [27] [.d x] 0 := by
  refine ⟨fun e => ?_, trivial⟩
  rw [Tryz.underlying27]; simp
theorem par24_2 {x y : V} : ParOk Tryz.prog [24, 24] [.d x, .d y] 0 := by
  refine ⟨fun e => ?_, fun e => ?_, trivial⟩ <;> rw [Tryz.underlying24] <;> simp
theorem par25_2 {x y : V} : ParOk Tryz.prog [25, 25] [.d x, .d y] 0 := by
  refine ⟨fun e => ?_, fun e => ?_, trivial⟩ <;> rw [Tryz.underlying25] <;> simp
theorem par23_2 {x y : V} : ParOk Tryz.prog [23, 23] [.d x, .d y] 0 := by
  refine ⟨fun e => ?_, fun e => ?_, trivial⟩ <;> rw [Tryz.underlying23] <;> simp
theorem par27_2 {x y : V} : ParOk Tryz.prog [27, 27] [.d x, .d y] 0 := by
  refine ⟨fun e => ?_, fun e => ?_, trivial⟩ <;> rw [Tryz.underlying27] <;> simp
theorem par3_1 {x : V} : ParOk Tryz.prog [3] [.d x] 0 := by
  refine ⟨fun e => ?_, trivial⟩
  rw [Tryz.underlying3]; simp
theorem par3_2 {x y : V} : ParOk Tryz.prog [3, 3] [.d x, .d y] 0 := by
  refine ⟨fun e => ?_, fun e => ?_, trivial⟩ <;> rw [Tryz.underlying3] <;> simp
theorem lent9 : lentP Tryz.prog Tryz.f9.params.toList = some [] := by kernel_rfl
theorem lent10 : lentP Tryz.prog Tryz.f10.params.toList = some [] := by kernel_rfl
theorem lent4 : lentP Tryz.prog Tryz.f4.params.toList = some [] := by kernel_rfl
theorem lent14 : lentP Tryz.prog Tryz.f14.params.toList = some [] := by kernel_rfl
theorem lent15 : lentP Tryz.prog Tryz.f15.params.toList = some [] := by kernel_rfl
theorem lent16 : lentP Tryz.prog Tryz.f16.params.toList = some [] := by kernel_rfl
theorem lent7 : lentP Tryz.prog Tryz.f7.params.toList = some [] := by kernel_rfl
theorem lent19 : lentP Tryz.prog Tryz.f19.params.toList = some [] := by kernel_rfl
theorem lent28 : lentP Tryz.prog Tryz.f28.params.toList = some [] := by kernel_rfl
theorem lent11 : lentP Tryz.prog Tryz.f11.params.toList = some [] := by kernel_rfl
theorem lent13 : lentP Tryz.prog Tryz.f13.params.toList = some [] := by kernel_rfl
theorem lent6 : lentP Tryz.prog Tryz.f6.params.toList = some [] := by kernel_rfl
theorem lent5 : lentP Tryz.prog Tryz.f5.params.toList = some [] := by kernel_rfl
theorem lent3 : lentP Tryz.prog Tryz.f3.params.toList = some [] := by kernel_rfl

-- copies
theorem ev9 (hgl : GL gl) (p : Ints) (hp : WI p) : Ev Tryz.prog gl 9 [.d (iv p)] [] (acc 1 3 (p.2.map ie)) [] := by
  refine fun_pure (xs := [iv p]) hgl.top (hgl.no 9 rfl) tree9_ok Tryz.func9 lent9 par24 (by simp [tops, top_iv]) (N := 1) ?_
  have hr := reach_le
  have h1 : roomA p.2.length 8 = true := roomA_of (by have := hp.1; omega) (by have := hp.1; omega)
  simp only [tree9]
  simp only [ev_need, ev_out, ev_letv, ev_kin, at_z, at_s, cons_app, nil_app, evB, evL, evCs, evC, evSC, evVE, k_iv, vL_iv, h1, appV_nil, List.length_map]

def copyR (p : Rows') : Rows' := (true, p.2.map fun q => (true, q.2))
theorem ev10 (hgl : GL gl) (p : Rows') (hp : WR p) : Ev Tryz.prog gl 10 [.d (rv p)] [] (rv (copyR p)) [] := by
  refine fun_pure (xs := [rv p]) hgl.top (hgl.no 10 rfl) tree10_ok Tryz.func10 lent10 par25 (by simp [tops, top_rv]) (N := p.2.length + 1) ?_
  have hr := reach_le
  have hpl := hp.1
  simp only [tree10]
  simp only [ev_kin, ev_loop, at_z, evI, evCs, evC, k_rv]
  refine loopT_up (st := fun i => [acc 1 24 ((p.2.take i).map fun q => iv (true, q.2)), .int .i64 (i : Int)]) (m := p.2.length) (fun i hi => ?_) ?_ (by omega)
  · obtain ⟨q, hq⟩ : ∃ q, p.2[i]? = some q := ⟨p.2[i], by simp [hi]⟩
    have hc := phE_eq (ev9 hgl q (hp.2 q (List.mem_of_getElem? hq)))
    have h1 := ltn_t hi
    have h2 := nth_map (h := iv) hq
    have h4 := wrapS (i := i) (by omega)
    have h5 : roomA (((p.2.take i).map fun q => iv (true, q.2)) ++ [iv (true, q.2)]).length 24 = true :=
      roomA_of (by simp; omega) (by simp; omega)
    have h6 : (p.2.take (i + 1)).map (fun q => iv (true, q.2)) = (p.2.take i).map (fun q => iv (true, q.2)) ++ [iv (true, q.2)] := by
      rw [List.take_add_one, hq]; simp
    have h7 : clr (acc 1 3 (q.2.map ie)) = iv (true, q.2) := acc_clr ..
    have h8 : ltz (i : Int) 0 = false := ltn_0
    rw [h6, ← acc_snoc]
    simp only [lp10_1]
    simp only [ev_t, ev_need, ev_out, ev_letv, ev_elem, ev_kin, ev_call, at_z, at_s, ks_nil, Bool.and_self, bif_t, bif_f, cons_app, nil_app, evB, evI, evL, evCs, evC, evSC, evAs, evA, evLent, evVE, vI_int, cm_lss, biI, joinL, sizesOk, vL_rv, h1, h2, h4, h5, h7, h8, hc, k_iv, k_acc, clr_iv, acc_own, acc_vL, List.length_map, Int.toNat_natCast]
  · have h1 := ltn_f (Nat.le_refl p.2.length)
    have h2 : clr (acc 1 24 ((p.2.take p.2.length).map fun q => iv (true, q.2))) = rv (copyR p) := by
      rw [List.take_length, acc_clr]; simp [rv, copyR, Function.comp_def]
    simp only [lp10_1]
    simp only [ev_f, ev_out, ev_esc, ev_letv, at_z, at_s, cons_app, nil_app, evB, evI, evL, evCs, evC, evSC, evVE, vI_int, cm_lss, vL_rv, h1, h2, List.length_map]

def copyF (f : F) : F := ⟨(true, f.s.2), (true, f.r.2), copyR f.f, copyR f.n⟩
theorem ev4 (hgl : GL gl) (f : F) (hf : WF f) : Ev Tryz.prog gl 4 [.d (fv f)] [] (fv (copyF f)) [] := by
  refine fun_pure (xs := [fv f]) hgl.top (hgl.no 4 rfl) tree4_ok Tryz.func4 lent4 par27 (by simp [tops, top_fv]) (N := 1) ?_
  have hr := reach_le
  have h1 : roomA f.s.2.length 32 = true := roomA_of (by have := hf.s; omega) (by have := hf.s; omega)
  have e9 := phE_eq (ev9 hgl f.r hf.r)
  have e10 := phE_eq (ev10 hgl f.f hf.fi)
  have e10' := phE_eq (ev10 hgl f.n hf.ne)
  have a1 : clr (acc 4 50 (f.s.2.map qe)) = qv (true, f.s.2) := acc_clr ..
  have a2 : clr (acc 1 3 (f.r.2.map ie)) = iv (true, f.r.2) := acc_clr ..
  simp only [tree4, fv, fc, copyF]
  simp only [ev_need, ev_out, ev_letv, ev_opn, ev_kin, ev_call, at_z, at_s, ks_cons, ks_nil, Bool.and_self, bif_t, cons_app, nil_app, evB, evL, evCs, evC, evSC, evAs, evA, evLent, evVE, joinL, sizesOk, k_iv, k_rv, k_qv, k_acc, vL_qv, h1, appV_nil, a1, a2, e9, e10, e10', clr_iv, clr_rv, List.length_map]

-- comparisons of what has the same elements
theorem ev15 (hgl : GL gl) (a b : Bool) (l : List Int) (hl : l.length * 8 ≤ reachBytes) : Ev Tryz.prog gl 15 [.d (iv (a, l)), .d (iv (b, l))] [] (.bool true) [] := by
  refine fun_pure (xs := [iv (a, l), iv (b, l)]) hgl.top (hgl.no 15 rfl) tree15_ok Tryz.func15 lent15 par24_2 (by simp [tops, top_iv]) (N := l.length + 1) ?_
  have hr := reach_le
  simp only [tree15]
  simp only [ev_f, ev_kin, ev_loop, at_z, at_s, Bool.not_true, evB, evI, evL, evCs, evC, cm_eql, k_iv, vL_iv, List.length_map, beq_self_eq_true]
  refine loopT_up (st := fun i => [.int .i64 (i : Int)]) (m := l.length) (fun i hi => ?_) ?_ (by omega)
  · obtain ⟨q, hq⟩ : ∃ q, l[i]? = some q := ⟨l[i], by simp [hi]⟩
    have h1 := ltn_t hi
    have h2 := nth_map (h := ie) hq
    have h4 := wrapS (i := i) (by omega)
    simp only [lp15_1]
    simp only [ev_t, ev_f, ev_out, ev_elem, ev_kin, at_z, at_s, Bool.not_true, bif_f, cons_app, nil_app, evB, evI, evL, evCs, evC, vI_int, cm_lss, cm_eql, biI, ltn_0, vL_iv, h1, h2, h4, k_ie, vI_ie, List.length_map, Int.toNat_natCast, beq_self_eq_true]
  · have h1 := ltn_f (Nat.le_refl l.length)
    simp only [lp15_1]
    simp only [ev_f, ev_out, ev_esc, ev_letv, at_z, at_s, cons_app, nil_app, evB, evI, evL, evCs, evC, evSC, evVE, vI_int, cm_lss, vL_iv, h1, List.length_map]
theorem ev16 (hgl : GL gl) (a : Bool) (p : Rows') (hp : WR p) : Ev Tryz.prog gl 16 [.d (rv (copyR p)), .d (rv (a, p.2))] [] (.bool true) [] := by
  refine fun_pure (xs := [rv (copyR p), rv (a, p.2)]) hgl.top (hgl.no 16 rfl) tree16_ok Tryz.func16 lent16 par25_2 (by simp [tops, top_rv]) (N := p.2.length + 1) ?_
  have hr := reach_le
  have hpl := hp.1
  have hcl : (copyR p).2.length = p.2.length := by simp [copyR]
  simp only [tree16]
  simp only [ev_f, ev_kin, ev_loop, at_z, at_s, Bool.not_true, evB, evI, evL, evCs, evC, cm_eql, k_rv, vL_rv, List.length_map, hcl, beq_self_eq_true]
  refine loopT_up (st := fun i => [.int .i64 (i : Int)]) (m := p.2.length) (fun i hi => ?_) ?_ (by omega)
  · obtain ⟨q, hq⟩ : ∃ q, p.2[i]? = some q := ⟨p.2[i], by simp [hi]⟩
    have hq' : (copyR p).2[i]? = some (true, q.2) := by simp [copyR, hq]
    have hc := phE_eq (ev15 hgl true q.1 q.2 (hp.2 q (List.mem_of_getElem? hq)).1)
    have h1 := ltn_t hi
    have h2 := nth_map (h := iv) hq
    have h3 := nth_map (h := iv) hq'
    have h4 := wrapS (i := i) (by omega)
    simp only [lp16_1]
    simp only [ev_t, ev_f, ev_out, ev_elem, ev_kin, ev_call, at_z, at_s, kBool, ks_nil, Bool.and_self, Bool.not_true, bif_t, bif_f, cons_app, nil_app, evB, evI, evL, evCs, evC, evSC, evAs, evA, evLent, vI_int, vB_bool, cm_lss, biI, ltn_0, joinL, sizesOk, vL_rv, h1, h2, h3, h4, hc, hcl, k_iv, clr_iv, List.length_map, Int.toNat_natCast]
  · have h1 := ltn_f (Nat.le_refl p.2.length)
    simp only [lp16_1]
    simp only [ev_f, ev_out, ev_esc, ev_letv, at_z, at_s, cons_app, nil_app, evB, evI, evL, evCs, evC, evSC, evVE, vI_int, cm_lss, vL_rv, h1, hcl, List.length_map]
theorem ev14 (hgl : GL gl) (a b : Bool) (l : List Q4) (hl : l.length * 32 ≤ reachBytes) : Ev Tryz.prog gl 14 [.d (qv (a, l)), .d (qv (b, l))] [] (.bool true) [] := by
  refine fun_pure (xs := [qv (a, l), qv (b, l)]) hgl.top (hgl.no 14 rfl) tree14_ok Tryz.func14 lent14 par23_2 (by simp [tops, top_qv]) (N := l.length + 1) ?_
  have hr := reach_le
  simp only [tree14]
  simp only [ev_f, ev_kin, ev_loop, at_z, at_s, Bool.not_true, evB, evI, evL, evCs, evC, cm_eql, k_qv, vL_qv, List.length_map, beq_self_eq_true]
  refine loopT_up (st := fun i => [.int .i64 (i : Int)]) (m := l.length) (fun i hi => ?_) ?_ (by omega)
  · obtain ⟨q, hq⟩ : ∃ q, l[i]? = some q := ⟨l[i], by simp [hi]⟩
    have h1 := ltn_t hi
    have h2 := nth_map (h := qe) hq
    have h4 := wrapS (i := i) (by omega)
    simp only [lp14_1]
    simp only [ev_t, ev_f, ev_out, ev_elem, ev_opn, at_z, at_s, ks_cons, kInt, ks_nil, Bool.and_self, Bool.not_true, bif_t, bif_f, cons_app, nil_app, evB, evI, evL, evCs, evC, vI_int, cm_lss, cm_eql, biI, ltn_0, vL_qv, h1, h2, h4, qe, List.length_map, Int.toNat_natCast, beq_self_eq_true]
  · have h1 := ltn_f (Nat.le_refl l.length)
    simp only [lp14_1]
    simp only [ev_f, ev_out, ev_esc, ev_letv, at_z, at_s, cons_app, nil_app, evB, evI, evL, evCs, evC, evSC, evVE, vI_int, cm_lss, vL_qv, h1, List.length_map]
theorem ev7 (hgl : GL gl) (f : F) (hf : WF f) : Ev Tryz.prog gl 7 [.d (fv (copyF f)), .d (fv f)] [] (.bool true) [] := by
  refine fun_pure (xs := [fv (copyF f), fv f]) hgl.top (hgl.no 7 rfl) tree7_ok Tryz.func7 lent7 par27_2 (by simp [tops, top_fv]) (N := 1) ?_
  have e14 : phE Tryz.prog gl 14 [.d (qv (true, f.s.2)), .d (qv f.s)] [] = some (.bool true, []) := phE_eq (ev14 hgl true f.s.1 f.s.2 hf.s)
  have e15 : phE Tryz.prog gl 15 [.d (iv (true, f.r.2)), .d (iv f.r)] [] = some (.bool true, []) := phE_eq (ev15 hgl true f.r.1 f.r.2 hf.r.1)
  have e16 : phE Tryz.prog gl 16 [.d (rv (copyR f.f)), .d (rv f.f)] [] = some (.bool true, []) := phE_eq (ev16 hgl f.f.1 f.f hf.fi)
  have e16' : phE Tryz.prog gl 16 [.d (rv (copyR f.n)), .d (rv f.n)] [] = some (.bool true, []) := phE_eq (ev16 hgl f.n.1 f.n hf.ne)
  simp only [tree7, fv, fc, copyF]
  simp only [ev_t, ev_out, ev_letv, ev_opn, ev_kin, ev_call, at_z, at_s, ks_cons, kBool, ks_nil, Bool.and_self, bif_t, cons_app, nil_app, evB, evCs, evC, evSC, evAs, evA, evLent, evVE, vB_bool, joinL, sizesOk, clr_bool, k_iv, k_rv, k_qv, e14, e15, e16, e16', clr_iv, clr_rv, clr_qv]

end Go.Proofs.YtnlijejfagjbeaaGreatDoor

namespace Go.Proofs.YtnlijejfagjbeaaGreatDoor
set_option linter.unusedSectionVars false
set_option maxRecDepth 10000
open Go Go.Vm Go.Vm.Sx

variable {gl : Gl} [NoU gl]

def gi (l : List Int) (i : Nat) : Int := l.getD i 0
theorem gi_get {l : List Int} {i : Nat} (h : i < l.length) : l[i]? = some (gi l i) := by simp [gi, h]
theorem nth_ie {l : List Int} {i : Nat} (h : i < l.length) : nth (l.map ie) i = some (ie (gi l i)) := nth_map (gi_get h)
def gr (l : List (List Int)) (i : Nat) : List Int := l.getD i []
def rowsOf (p : Rows') : List (List Int) := p.2.map (·.2)
theorem rowsOf_len (p : Rows') : (rowsOf p).length = p.2.length := by simp [rowsOf]
theorem gr_get {p : Rows'} {i : Nat} {q : Ints} (h : p.2[i]? = some q) : gr (rowsOf p) i = q.2 := by simp [gr, rowsOf, h]

-- in order?
theorem ev28 (hgl : GL gl) (x : Int) : Ev Tryz.prog gl 28 [.d (ie x)] [] (.bool false) [] := by
  refine fun_pure (xs := [ie x]) hgl.top (hgl.no 28 rfl) tree28_ok Tryz.func28 lent28 par3_1 (by simp [tops, ie, V.top]) (N := 1) ?_
  simp only [tree28]
  simp only [ev_out, ev_letv, ev_kin, at_z, at_s, Bool.not_true, cons_app, nil_app, evB, evI, evCs, evC, evSC, evVE, cm_eql, k_ie, vI_ie, beq_self_eq_true]
theorem ev19 (hgl : GL gl) (x y : Int) : Ev Tryz.prog gl 19 [.d (ie x), .d (ie y)] [] (.bool (ltz x y)) [] := by
  refine fun_pure (xs := [ie x, ie y]) hgl.top (hgl.no 19 rfl) tree19_ok Tryz.func19 lent19 par3_2 (by simp [tops, ie, V.top]) (N := 1) ?_
  have e := phE_eq (ev28 hgl x)
  simp only [tree19]
  simp only [ev_f, ev_out, ev_letv, ev_kin, ev_call, at_z, at_s, kBool, ks_nil, Bool.and_self, bif_t, cons_app, nil_app, evB, evI, evCs, evC, evSC, evAs, evA, evLent, evVE, vB_bool, cm_lss, joinL, sizesOk, k_ie, vI_ie, clr_ie, e]
def sortB (l : List Int) : Bool := allB (fun k => !ltz (gi l (l.length - 1 - k)) (gi l (l.length - 1 - k - 1))) (l.length - 1)
theorem ev11 (hgl : GL gl) (p : Ints) (hp : p.2.length * 8 ≤ reachBytes) : Ev Tryz.prog gl 11 [.d (iv p)] [] (.bool (sortB p.2)) [] := by
  refine fun_pure (xs := [iv p]) hgl.top (hgl.no 11 rfl) tree11_ok Tryz.func11 lent11 par24 (by simp [tops, top_iv]) (N := p.2.length + 1) ?_
  have hr := reach_le
  have hw0 : IntKind.i64.wrap ((p.2.length : Int) - 1) = (p.2.length : Int) - 1 - ((0 : Nat) : Int) := by rw [wrap64 (by omega) (by omega)]; omega
  simp only [tree11]
  simp only [ev_kin, ev_loop, at_z, evI, evL, evCs, evC, biI, k_iv, vL_iv, hw0, List.length_map]
  refine loop_all (ok := fun k => !ltz (gi p.2 (p.2.length - 1 - k)) (gi p.2 (p.2.length - 1 - k - 1))) (st := fun k => [.int .i64 ((p.2.length : Int) - 1 - (k : Int))]) (n := p.2.length - 1) (good := [.bool true]) (bad := [.bool false]) (fun k hk ho => ?_) (fun k hk ho => ?_) (fun _ => ?_) (by omega) ?_
  · have h1 : ltz 0 ((p.2.length : Int) - 1 - (k : Int)) = true := ltz_t (by omega)
    have h2 : ltz ((p.2.length : Int) - 1 - (k : Int)) 0 = false := ltz_f (by omega)
    have h3 : IntKind.i64.wrap ((p.2.length : Int) - 1 - (k : Int) - 1) = ((p.2.length - 1 - k - 1 : Nat) : Int) := by rw [wrap64 (by omega) (by omega)]; omega
    have h4 : ((p.2.length : Int) - 1 - (k : Int)).toNat = p.2.length - 1 - k := by omega
    have h5 := nth_ie (l := p.2) (i := p.2.length - 1 - k) (by omega)
    have h6 := nth_ie (l := p.2) (i := p.2.length - 1 - k - 1) (by omega)
    have h7 : ((p.2.length - 1 - k - 1 : Nat) : Int) = (p.2.length : Int) - 1 - ((k + 1 : Nat) : Int) := by omega
    have e := phE_eq (ev19 hgl (gi p.2 (p.2.length - 1 - k)) (gi p.2 (p.2.length - 1 - k - 1)))
    have ho' : ltz (gi p.2 (p.2.length - 1 - k)) (gi p.2 (p.2.length - 1 - k - 1)) = false := by simpa using ho
    rw [ho'] at e
    rw [← h7]
    simp only [lp11_1]
    simp only [ev_t, ev_f, ev_out, ev_elem, ev_kin, ev_call, at_z, at_s, kBool, ks_nil, Bool.and_self, bif_t, bif_f, cons_app, nil_app, evB, evI, evL, evCs, evC, evSC, evAs, evA, evLent, vI_int, vB_bool, cm_gtr, biI, ltn_0, joinL, sizesOk, vL_iv, h1, h2, h3, h4, h5, h6, e, k_ie, clr_ie, Int.toNat_natCast]
  · have h1 : ltz 0 ((p.2.length : Int) - 1 - (k : Int)) = true := ltz_t (by omega)
    have h2 : ltz ((p.2.length : Int) - 1 - (k : Int)) 0 = false := ltz_f (by omega)
    have h3 : IntKind.i64.wrap ((p.2.length : Int) - 1 - (k : Int) - 1) = ((p.2.length - 1 - k - 1 : Nat) : Int) := by rw [wrap64 (by omega) (by omega)]; omega
    have h4 : ((p.2.length : Int) - 1 - (k : Int)).toNat = p.2.length - 1 - k := by omega
    have h5 := nth_ie (l := p.2) (i := p.2.length - 1 - k) (by omega)
    have h6 := nth_ie (l := p.2) (i := p.2.length - 1 - k - 1) (by omega)
    have e := phE_eq (ev19 hgl (gi p.2 (p.2.length - 1 - k)) (gi p.2 (p.2.length - 1 - k - 1)))
    have ho' : ltz (gi p.2 (p.2.length - 1 - k)) (gi p.2 (p.2.length - 1 - k - 1)) = true := by simpa using ho
    rw [ho'] at e
    simp only [lp11_1]
    simp only [ev_t, ev_out, ev_esc, ev_letv, ev_elem, ev_kin, ev_call, at_z, at_s, kBool, ks_nil, Bool.and_self, bif_t, bif_f, cons_app, nil_app, evB, evI, evL, evCs, evC, evSC, evAs, evA, evLent, evVE, vI_int, vB_bool, cm_gtr, biI, ltn_0, joinL, sizesOk, vL_iv, h1, h2, h3, h4, h5, h6, e, k_ie, clr_ie, Int.toNat_natCast]
  · have h1 : ltz 0 ((p.2.length : Int) - 1 - ((p.2.length - 1 : Nat) : Int)) = false := ltz_f (by omega)
    simp only [lp11_1]
    simp only [ev_f, ev_out, ev_esc, ev_letv, at_z, at_s, cons_app, nil_app, evB, evI, evCs, evC, evSC, evVE, vI_int, cm_gtr, h1]
  · simp only [sortB]
    cases allB (fun k => !ltz (gi p.2 (p.2.length - 1 - k)) (gi p.2 (p.2.length - 1 - k - 1))) (p.2.length - 1) <;> rfl

-- the document's side: a row
def rowM (n : Nat) (rules : List Int) (rule : Int) (l : List Int) (i : Nat) : Bool :=
  !ltz (gi l i) 0 && ((i == 0 || !lez (gi l i) (gi l (i - 1))) && (bif lez (n : Int) (gi l i) then gi l i - n == rule else gi rules (gi l i).toNat == rule))
theorem par13 {x y z : V} : ParOk Tryz.prog [27, 24, 3] [.d x, .d y, .d z] 0 := by
  refine ⟨fun e => ?_, fun e => ?_, fun e => ?_, trivial⟩
  · rw [Tryz.underlying27]; simp
  · rw [Tryz.underlying24]; simp
  · rw [Tryz.underlying3]; simp
theorem ev13 (hgl : GL gl) (f : F) (hn : f.r.2.length = f.s.2.length) (p : Ints) (hp : WI p) (rule : Int) : Ev Tryz.prog gl 13 [.d (fv f), .d (iv p), .d (ie rule)] [] (.bool (allB (rowM f.s.2.length f.r.2 rule p.2) p.2.length)) [] := by
  refine fun_pure (xs := [fv f, iv p, ie rule]) hgl.top (hgl.no 13 rfl) tree13_ok Tryz.func13 lent13 par13 (by simp [tops, top_iv, top_fv, ie, V.top]) (N := p.2.length + 1) ?_
  have hr := reach_le
  have hpl := hp.1
  have body : ∀ i, i < p.2.length → evT (phE Tryz.prog gl) gl (p.2.length + 1) lp13_1 ([fv f, iv p, ie rule, qv f.s, iv f.r, rv f.f, rv f.n] ++ [.int .i64 (i : Int)]) = bif rowM f.s.2.length f.r.2 rule p.2 i then some (0, [.int .i64 ((i + 1 : Nat) : Int)]) else some (1, [.bool false]) := by
    intro i hi
    have h1 := ltn_t hi
    have h4 := wrapS (i := i) (by omega)
    have h5 := nth_ie hi
    have hw : W64 (gi p.2 i) := hp.2 _ (List.mem_of_getElem? (gi_get hi))
    generalize hx : gi p.2 i = x at h5 hw
    simp only [lp13_1, rowM, hx]
    cases h6 : ltz x 0 with
    | true => simp only [ev_t, ev_f, ev_out, ev_esc, ev_letv, ev_elem, ev_kin, at_z, at_s, Bool.false_and, Bool.not_true, bif_f, cons_app, nil_app, evB, evI, evL, evCs, evC, evSC, evVE, vI_int, cm_lss, ltn_0, vL_iv, h1, h5, h6, k_ie, vI_ie, List.length_map, Int.toNat_natCast]
    | false =>
    have hx0 : 0 ≤ x := by simpa [ltz] using h6
    -- behind the order
    have rest : ∀ b : Bool, (bif lez (f.s.2.length : Int) x then x - (f.s.2.length : Int) == rule else gi f.r.2 x.toNat == rule) = b →
        (∃ hn : lez (f.s.2.length : Int) x = true, ltz x (f.s.2.length : Int) = false ∧ (IntKind.i64.wrap (x - (f.s.2.length : Int)) == rule) = b) ∨ (∃ hn : lez (f.s.2.length : Int) x = false, ltz x (f.s.2.length : Int) = true ∧ nth (f.r.2.map ie) x.toNat = some (ie (gi f.r.2 x.toNat)) ∧ (gi f.r.2 x.toNat == rule) = b) := by
      intro b hb
      cases h7 : lez (f.s.2.length : Int) x with
      | true =>
        have h7' := lez_i.1 h7
        rw [h7] at hb
        refine .inl ⟨rfl, ltz_f h7', ?_⟩
        rw [wrap64 (by omega) (by have := hw.2; omega)]
        exact hb
      | false =>
        have h7' : x < (f.s.2.length : Int) := by simpa [lez] using h7
        rw [h7] at hb
        exact .inr ⟨rfl, ltz_t h7', nth_ie (by omega), hb⟩
    generalize hb : (bif lez (f.s.2.length : Int) x then x - (f.s.2.length : Int) == rule else gi f.r.2 x.toNat == rule) = b
    rcases Nat.eq_zero_or_pos i with h0 | h0
    · subst h0
      have h8 : ltz 0 ((0 : Nat) : Int) = false := by decide
      have h9 : ((0 : Nat) == 0) = true := rfl
      rcases rest b hb with ⟨g1, g2, g3⟩ | ⟨g1, g2, g3, g4⟩
      · cases b with
        | true => simp only [ev_t, ev_f, ev_out, ev_elem, ev_kin, at_z, at_s, Bool.and_self, Bool.true_or, Bool.not_false, bif_t, bif_f, cons_app, nil_app, evB, evI, evL, evCs, evC, vI_int, cm_lss, cm_gtr, cm_geq, cm_eql, biI, ltn_0, vL_iv, vL_qv, h1, h4, h5, h6, h8, h9, g1, g2, g3, k_ie, vI_ie, List.length_map, Int.toNat_natCast]
        | false => simp only [ev_t, ev_f, ev_out, ev_esc, ev_letv, ev_elem, ev_kin, at_z, at_s, Bool.and_false, Bool.true_or, Bool.not_false, bif_f, cons_app, nil_app, evB, evI, evL, evCs, evC, evSC, evVE, vI_int, cm_lss, cm_gtr, cm_geq, cm_eql, biI, ltn_0, vL_iv, vL_qv, h1, h5, h6, h8, h9, g1, g3, k_ie, vI_ie, List.length_map, Int.toNat_natCast]
      · cases b with
        | true => simp only [ev_t, ev_f, ev_out, ev_elem, ev_kin, at_z, at_s, Bool.and_self, Bool.true_or, Bool.not_true, Bool.not_false, bif_t, bif_f, cons_app, nil_app, evB, evI, evL, evCs, evC, vI_int, cm_lss, cm_gtr, cm_geq, cm_eql, biI, ltn_0, vL_iv, vL_qv, h1, h4, h5, h6, h8, h9, g1, g2, g3, g4, k_ie, vI_ie, List.length_map, Int.toNat_natCast]
        | false => simp only [ev_t, ev_f, ev_out, ev_esc, ev_letv, ev_elem, ev_kin, at_z, at_s, Bool.and_false, Bool.true_or, Bool.not_false, bif_f, cons_app, nil_app, evB, evI, evL, evCs, evC, evSC, evVE, vI_int, cm_lss, cm_gtr, cm_geq, cm_eql, ltn_0, vL_iv, vL_qv, h1, h5, h6, h8, h9, g1, g2, g3, g4, k_ie, vI_ie, List.length_map, Int.toNat_natCast]
    · have h8 : ltz 0 (i : Int) = true := ltz_t (by omega)
      have h9 : (i == 0) = false := by simp; omega
      have h10 : IntKind.i64.wrap ((i : Int) - 1) = ((i - 1 : Nat) : Int) := by rw [wrap64 (by omega) (by omega)]; omega
      have h11 := nth_ie (l := p.2) (i := i - 1) (by omega)
      cases h12 : lez x (gi p.2 (i - 1)) with
      | true => simp only [ev_t, ev_out, ev_esc, ev_letv, ev_elem, ev_kin, at_z, at_s, Bool.and_false, Bool.false_and, Bool.or_false, Bool.not_true, Bool.not_false, bif_f, cons_app, nil_app, evB, evI, evL, evCs, evC, evSC, evVE, vI_int, cm_lss, cm_leq, cm_gtr, biI, ltn_0, vL_iv, h1, h5, h6, h8, h9, h10, h11, h12, k_ie, vI_ie, List.length_map, Int.toNat_natCast]
      | false =>
      rcases rest b hb with ⟨g1, g2, g3⟩ | ⟨g1, g2, g3, g4⟩
      · cases b with
        | true => simp only [ev_t, ev_f, ev_out, ev_elem, ev_kin, at_z, at_s, Bool.and_self, Bool.or_true, Bool.not_false, bif_t, bif_f, cons_app, nil_app, evB, evI, evL, evCs, evC, vI_int, cm_lss, cm_leq, cm_gtr, cm_geq, cm_eql, biI, ltn_0, vL_iv, vL_qv, h1, h4, h5, h6, h8, h9, h10, h11, h12, g1, g2, g3, k_ie, vI_ie, List.length_map, Int.toNat_natCast]
        | false => simp only [ev_t, ev_f, ev_out, ev_esc, ev_letv, ev_elem, ev_kin, at_z, at_s, Bool.and_false, Bool.or_true, Bool.not_false, bif_f, cons_app, nil_app, evB, evI, evL, evCs, evC, evSC, evVE, vI_int, cm_lss, cm_leq, cm_gtr, cm_geq, cm_eql, biI, ltn_0, vL_iv, vL_qv, h1, h5, h6, h8, h9, h10, h11, h12, g1, g3, k_ie, vI_ie, List.length_map, Int.toNat_natCast]
      · cases b with
        | true => simp only [ev_t, ev_f, ev_out, ev_elem, ev_kin, at_z, at_s, Bool.and_self, Bool.or_true, Bool.not_true, Bool.not_false, bif_t, bif_f, cons_app, nil_app, evB, evI, evL, evCs, evC, vI_int, cm_lss, cm_leq, cm_gtr, cm_geq, cm_eql, biI, ltn_0, vL_iv, vL_qv, h1, h4, h5, h6, h8, h9, h10, h11, h12, g1, g2, g3, g4, k_ie, vI_ie, List.length_map, Int.toNat_natCast]
        | false => simp only [ev_t, ev_f, ev_out, ev_esc, ev_letv, ev_elem, ev_kin, at_z, at_s, Bool.and_false, Bool.or_true, Bool.not_false, bif_f, cons_app, nil_app, evB, evI, evL, evCs, evC, evSC, evVE, vI_int, cm_lss, cm_leq, cm_gtr, cm_geq, cm_eql, biI, ltn_0, vL_iv, vL_qv, h1, h5, h6, h8, h9, h10, h11, h12, g1, g2, g3, g4, k_ie, vI_ie, List.length_map, Int.toNat_natCast]
  simp only [tree13, fv, fc]
  simp only [ev_opn, ev_kin, ev_loop, at_z, at_s, ks_cons, ks_nil, Bool.and_self, bif_t, cons_app, nil_app, evI, evCs, evC, k_iv, k_rv, k_qv, k_ie]
  refine loop_all (ok := rowM f.s.2.length f.r.2 rule p.2) (st := fun i => [.int .i64 (i : Int)]) (n := p.2.length) (good := [.bool true]) (bad := [.bool false]) (fun i hi ho => ?_) (fun i hi ho => ?_) (fun _ => ?_) (by omega) ?_
  · have := body i hi
    rw [ho] at this
    exact this
  · have := body i hi
    rw [ho] at this
    exact this
  · have h1 := ltn_f (Nat.le_refl p.2.length)
    simp only [lp13_1]
    simp only [ev_f, ev_out, ev_esc, ev_letv, at_z, at_s, cons_app, nil_app, evB, evI, evL, evCs, evC, evSC, evVE, vI_int, cm_lss, vL_iv, h1, List.length_map]
  · cases allB (rowM f.s.2.length f.r.2 rule p.2) p.2.length <;> rfl

end Go.Proofs.YtnlijejfagjbeaaGreatDoor

namespace Go.Proofs.YtnlijejfagjbeaaGreatDoor
set_option linter.unusedSectionVars false
set_option maxRecDepth 10000
open Go Go.Vm Go.Vm.Sx

variable {gl : Gl} [NoU gl]

-- the document's side
def ok1 (r : List Int) (R : Nat) (i : Nat) : Bool := !ltz (gi r i) 0 && (!lez (R : Int) (gi r i) && (i == 0 || !ltz (gi r i) (gi r (i - 1))))
def mayL (n : Nat) (r : List Int) (fs ns : List (List Int)) : Bool :=
  bif (((ltz 1000 (n : Int) || ltz 200 (fs.length : Int)) || !((r.length : Int) == (n : Int))) || !((ns.length : Int) == (n : Int))) then false else
  bif allB (ok1 r fs.length) n then bif allB (fun i => allB (rowM n r (gi r i) (gr ns i)) (gr ns i).length) n then allB (fun i => allB (rowM n r (i : Int) (gr fs i)) (gr fs i).length) fs.length else false else false
theorem ev6 (hgl : GL gl) (f : F) (hf : WF f) : Ev Tryz.prog gl 6 [.d (fv f)] [] (.bool (mayL f.s.2.length f.r.2 (rowsOf f.f) (rowsOf f.n))) [] := by
  refine fun_pure (xs := [fv f]) hgl.top (hgl.no 6 rfl) tree6_ok Tryz.func6 lent6 par27 (by simp [tops, top_fv]) (N := f.s.2.length + f.f.2.length + 1) ?_
  have hr := reach_le
  have hsl := hf.s
  have hfl := hf.fi.1
  simp only [tree6, fv, fc, mayL, rowsOf_len]
  cases hh : (((ltz 1000 (f.s.2.length : Int) || ltz 200 (f.f.2.length : Int)) || !((f.r.2.length : Int) == (f.s.2.length : Int))) || !((f.n.2.length : Int) == (f.s.2.length : Int))) with
  | true => simp only [ev_t, ev_out, ev_letv, ev_opn, at_z, at_s, ks_cons, ks_nil, Bool.and_self, bif_t, cons_app, nil_app, evB, evI, evL, evCs, evC, evSC, evVE, cm_gtr, cm_eql, k_iv, k_rv, k_qv, vL_iv, vL_rv, vL_qv, hh, List.length_map]
  | false =>
  have hh' := hh
  simp only [Bool.or_eq_false_iff, Bool.not_eq_false', beq_iff_eq] at hh'
  obtain ⟨⟨⟨g1, g2⟩, g3⟩, g4⟩ := hh'
  have hrl : f.r.2.length = f.s.2.length := by omega
  have hnl : f.n.2.length = f.s.2.length := by omega
  simp only [ev_f, ev_opn, ev_loop, at_z, at_s, ks_cons, ks_nil, Bool.and_self, bif_t, bif_f, cons_app, nil_app, evB, evI, evL, evCs, evC, cm_gtr, cm_eql, k_iv, k_rv, k_qv, vL_iv, vL_rv, vL_qv, hh, List.length_map]
  have ρ3 : ∀ i, i < f.f.2.length → evT (phE Tryz.prog gl) gl (f.s.2.length + f.f.2.length + 1) lp6_1 ([fv f, qv f.s, iv f.r, rv f.f, rv f.n, .int .i64 (f.s.2.length : Int), .int .i64 (f.s.2.length : Int)] ++ [.int .i64 (i : Int)]) = bif allB (rowM f.s.2.length f.r.2 (i : Int) (gr (rowsOf f.f) i)) (gr (rowsOf f.f) i).length then some (0, [.int .i64 ((i + 1 : Nat) : Int)]) else some (1, [.bool false]) := by
    intro i hi
    obtain ⟨q, hq⟩ : ∃ q, f.f.2[i]? = some q := ⟨f.f.2[i], by simp [hi]⟩
    have h1 := ltn_t hi
    have h2 := nth_map (h := iv) hq
    have h4 := wrapS (i := i) (by omega)
    rw [gr_get hq]
    have hc := phE_eq (ev13 hgl f hrl q (hf.fi.2 q (List.mem_of_getElem? hq)) (i : Int))
    simp only [fv, fc, ie] at hc
    simp only [lp6_1]
    cases hb : allB (rowM f.s.2.length f.r.2 (i : Int) q.2) q.2.length with
    | true =>
      rw [hb] at hc
      simp only [ev_t, ev_f, ev_out, ev_elem, ev_kin, ev_call, at_z, at_s, kBool, ks_nil, Bool.and_self, Bool.not_true, bif_t, bif_f, cons_app, nil_app, evB, evI, evL, evCs, evC, evSC, evAs, evA, evLent, vI_int, vB_bool, cm_lss, biI, ltn_0, joinL, sizesOk, clr_int, vL_rv, h1, h2, h4, hc, k_iv, clr_iv, clr_rv, clr_qv, List.length_map, Int.toNat_natCast]
    | false =>
      rw [hb] at hc
      simp only [ev_t, ev_out, ev_esc, ev_letv, ev_elem, ev_kin, ev_call, at_z, at_s, kBool, ks_nil, Bool.and_self, Bool.not_false, bif_t, bif_f, cons_app, nil_app, evB, evI, evL, evCs, evC, evSC, evAs, evA, evLent, evVE, vI_int, vB_bool, cm_lss, ltn_0, joinL, sizesOk, clr_int, vL_rv, h1, h2, hc, k_iv, clr_iv, clr_rv, clr_qv, List.length_map, Int.toNat_natCast]
  have ρ2 : ∀ i, i < f.s.2.length → evT (phE Tryz.prog gl) gl (f.s.2.length + f.f.2.length + 1) lp6_2 ([fv f, qv f.s, iv f.r, rv f.f, rv f.n, .int .i64 (f.s.2.length : Int)] ++ [.int .i64 (i : Int)]) = bif allB (rowM f.s.2.length f.r.2 (gi f.r.2 i) (gr (rowsOf f.n) i)) (gr (rowsOf f.n) i).length then some (0, [.int .i64 ((i + 1 : Nat) : Int)]) else some (1, [.bool false]) := by
    intro i hi
    obtain ⟨q, hq⟩ : ∃ q, f.n.2[i]? = some q := ⟨f.n.2[i], by simp [hnl, hi]⟩
    have h1 := ltn_t hi
    have h2 := nth_map (h := iv) hq
    have h3 := nth_ie (l := f.r.2) (i := i) (by omega)
    have h4 := wrapS (i := i) (by omega)
    rw [gr_get hq]
    have hc := phE_eq (ev13 hgl f hrl q (hf.ne.2 q (List.mem_of_getElem? hq)) (gi f.r.2 i))
    simp only [fv, fc] at hc
    simp only [lp6_2]
    cases hb : allB (rowM f.s.2.length f.r.2 (gi f.r.2 i) q.2) q.2.length with
    | true =>
      rw [hb] at hc
      simp only [ev_t, ev_f, ev_out, ev_elem, ev_kin, ev_call, at_z, at_s, kBool, ks_nil, Bool.and_self, Bool.not_true, bif_t, bif_f, cons_app, nil_app, evB, evI, evL, evCs, evC, evSC, evAs, evA, evLent, vI_int, vB_bool, cm_lss, biI, ltn_0, joinL, sizesOk, vL_rv, vL_qv, vL_iv, h1, h2, h3, h4, hc, k_iv, k_ie, clr_iv, clr_ie, clr_rv, clr_qv, List.length_map, Int.toNat_natCast]
    | false =>
      rw [hb] at hc
      simp only [ev_t, ev_out, ev_esc, ev_letv, ev_elem, ev_kin, ev_call, at_z, at_s, kBool, ks_nil, Bool.and_self, Bool.not_false, bif_t, bif_f, cons_app, nil_app, evB, evI, evL, evCs, evC, evSC, evAs, evA, evLent, evVE, vI_int, vB_bool, cm_lss, ltn_0, joinL, sizesOk, vL_rv, vL_qv, vL_iv, h1, h2, h3, hc, k_iv, k_ie, clr_iv, clr_ie, clr_rv, clr_qv, List.length_map, Int.toNat_natCast]
  have ρ1 : ∀ i, i < f.s.2.length → evT (phE Tryz.prog gl) gl (f.s.2.length + f.f.2.length + 1) lp6_3 ([fv f, qv f.s, iv f.r, rv f.f, rv f.n] ++ [.int .i64 (i : Int)]) = bif ok1 f.r.2 f.f.2.length i then some (0, [.int .i64 ((i + 1 : Nat) : Int)]) else some (1, [.bool false]) := by
    intro i hi
    have h1 := ltn_t hi
    have h3 := nth_ie (l := f.r.2) (i := i) (by omega)
    have h4 := wrapS (i := i) (by omega)
    simp only [lp6_3, ok1]
    generalize hx : gi f.r.2 i = x at h3
    cases h5 : ltz x 0 with
    | true => simp only [ev_t, ev_f, ev_out, ev_esc, ev_letv, ev_elem, ev_kin, at_z, at_s, Bool.false_and, Bool.not_true, bif_f, cons_app, nil_app, evB, evI, evL, evCs, evC, evSC, evVE, vI_int, cm_lss, ltn_0, vL_qv, vL_iv, h1, h3, h5, k_ie, vI_ie, List.length_map, Int.toNat_natCast]
    | false =>
    cases h6 : lez (f.f.2.length : Int) x with
    | true => simp only [ev_t, ev_f, ev_out, ev_esc, ev_letv, ev_elem, ev_kin, at_z, at_s, Bool.and_false, Bool.false_and, Bool.not_true, Bool.not_false, bif_f, cons_app, nil_app, evB, evI, evL, evCs, evC, evSC, evVE, vI_int, cm_lss, cm_geq, ltn_0, vL_rv, vL_qv, vL_iv, h1, h3, h5, h6, k_ie, vI_ie, List.length_map, Int.toNat_natCast]
    | false =>
    rcases Nat.eq_zero_or_pos i with h0 | h0
    · subst h0
      have h8 : ltz 0 ((0 : Nat) : Int) = false := by decide
      have h9 : ((0 : Nat) == 0) = true := rfl
      simp only [ev_t, ev_f, ev_out, ev_elem, ev_kin, at_z, at_s, Bool.and_self, Bool.true_or, Bool.not_false, bif_t, bif_f, cons_app, nil_app, evB, evI, evL, evCs, evC, vI_int, cm_lss, cm_gtr, cm_geq, biI, ltn_0, vL_rv, vL_qv, vL_iv, h1, h3, h4, h5, h6, h8, h9, k_ie, vI_ie, List.length_map, Int.toNat_natCast]
    · have h8 : ltz 0 (i : Int) = true := ltz_t (by omega)
      have h9 : (i == 0) = false := by simp; omega
      have h10 : IntKind.i64.wrap ((i : Int) - 1) = ((i - 1 : Nat) : Int) := by rw [wrap64 (by omega) (by omega)]; omega
      have h11 := nth_ie (l := f.r.2) (i := i - 1) (by omega)
      cases h12 : ltz x (gi f.r.2 (i - 1)) with
      | true => simp only [ev_t, ev_out, ev_esc, ev_letv, ev_elem, ev_kin, at_z, at_s, Bool.and_false, Bool.or_false, Bool.not_true, Bool.not_false, bif_f, cons_app, nil_app, evB, evI, evL, evCs, evC, evSC, evVE, vI_int, cm_lss, cm_gtr, cm_geq, biI, ltn_0, vL_rv, vL_qv, vL_iv, h1, h3, h5, h6, h8, h9, h10, h11, h12, k_ie, vI_ie, List.length_map, Int.toNat_natCast]
      | false => simp only [ev_t, ev_f, ev_out, ev_elem, ev_kin, at_z, at_s, Bool.and_self, Bool.or_true, Bool.not_false, bif_t, bif_f, cons_app, nil_app, evB, evI, evL, evCs, evC, vI_int, cm_lss, cm_gtr, cm_geq, biI, ltn_0, vL_rv, vL_qv, vL_iv, h1, h3, h4, h5, h6, h8, h9, h10, h11, h12, k_ie, vI_ie, List.length_map, Int.toNat_natCast]
  have L3 : loopT (phE Tryz.prog gl) gl (f.s.2.length + f.f.2.length + 1) lp6_1 [fv f, qv f.s, iv f.r, rv f.f, rv f.n, .int .i64 (f.s.2.length : Int), .int .i64 (f.s.2.length : Int)] [.int .i64 0] = some (0, [.bool (allB (fun i => allB (rowM f.s.2.length f.r.2 (i : Int) (gr (rowsOf f.f) i)) (gr (rowsOf f.f) i).length) f.f.2.length)]) := by
    refine loop_all (ok := fun i => allB (rowM f.s.2.length f.r.2 (i : Int) (gr (rowsOf f.f) i)) (gr (rowsOf f.f) i).length) (st := fun i => [.int .i64 (i : Int)]) (n := f.f.2.length) (good := [.bool true]) (bad := [.bool false]) (fun i hi ho => by have := ρ3 i hi; rw [ho] at this; exact this) (fun i hi ho => by have := ρ3 i hi; rw [ho] at this; exact this) (fun _ => ?_) (by omega) ?_
    · have h1 := ltn_f (Nat.le_refl f.f.2.length)
      simp only [lp6_1]
      simp only [ev_f, ev_out, ev_esc, ev_letv, at_z, at_s, cons_app, nil_app, evB, evI, evL, evCs, evC, evSC, evVE, vI_int, cm_lss, vL_rv, h1, List.length_map]
    · cases allB (fun i => allB (rowM f.s.2.length f.r.2 (i : Int) (gr (rowsOf f.f) i)) (gr (rowsOf f.f) i).length) f.f.2.length <;> rfl
  have L2 : loopT (phE Tryz.prog gl) gl (f.s.2.length + f.f.2.length + 1) lp6_2 [fv f, qv f.s, iv f.r, rv f.f, rv f.n, .int .i64 (f.s.2.length : Int)] [.int .i64 0] = some (0, [.bool (bif allB (fun i => allB (rowM f.s.2.length f.r.2 (gi f.r.2 i) (gr (rowsOf f.n) i)) (gr (rowsOf f.n) i).length) f.s.2.length then allB (fun i => allB (rowM f.s.2.length f.r.2 (i : Int) (gr (rowsOf f.f) i)) (gr (rowsOf f.f) i).length) f.f.2.length else false)]) := by
    refine loop_all (ok := fun i => allB (rowM f.s.2.length f.r.2 (gi f.r.2 i) (gr (rowsOf f.n) i)) (gr (rowsOf f.n) i).length) (st := fun i => [.int .i64 (i : Int)]) (n := f.s.2.length) (good := [.bool (allB (fun i => allB (rowM f.s.2.length f.r.2 (i : Int) (gr (rowsOf f.f) i)) (gr (rowsOf f.f) i).length) f.f.2.length)]) (bad := [.bool false]) (fun i hi ho => by have := ρ2 i hi; rw [ho] at this; exact this) (fun i hi ho => by have := ρ2 i hi; rw [ho] at this; exact this) (fun _ => ?_) (by omega) ?_
    · have h1 := ltn_f (Nat.le_refl f.s.2.length)
      simp only [lp6_2]
      simp only [ev_f, ev_esc, ev_loop, at_z, at_s, cons_app, nil_app, evB, evI, evL, evCs, evC, vI_int, cm_lss, vL_qv, h1, L3, List.length_map]
    · cases allB (fun i => allB (rowM f.s.2.length f.r.2 (gi f.r.2 i) (gr (rowsOf f.n) i)) (gr (rowsOf f.n) i).length) f.s.2.length <;> rfl
  refine loop_all (ok := ok1 f.r.2 f.f.2.length) (st := fun i => [.int .i64 (i : Int)]) (n := f.s.2.length) (good := [.bool (bif allB (fun i => allB (rowM f.s.2.length f.r.2 (gi f.r.2 i) (gr (rowsOf f.n) i)) (gr (rowsOf f.n) i).length) f.s.2.length then allB (fun i => allB (rowM f.s.2.length f.r.2 (i : Int) (gr (rowsOf f.f) i)) (gr (rowsOf f.f) i).length) f.f.2.length else false)]) (bad := [.bool false]) (fun i hi ho => by have := ρ1 i hi; rw [ho] at this; exact this) (fun i hi ho => by have := ρ1 i hi; rw [ho] at this; exact this) (fun _ => ?_) (by omega) ?_
  · have h1 := ltn_f (Nat.le_refl f.s.2.length)
    simp only [lp6_3, fv, fc] at L2 ⊢
    simp only [ev_f, ev_esc, ev_loop, at_z, at_s, cons_app, nil_app, evB, evI, evL, evCs, evC, vI_int, cm_lss, vL_qv, h1, L2, List.length_map]
  · cases allB (ok1 f.r.2 f.f.2.length) f.s.2.length <;> rfl

end Go.Proofs.YtnlijejfagjbeaaGreatDoor

namespace Go.Proofs.YtnlijejfagjbeaaGreatDoor
set_option linter.unusedSectionVars false
set_option maxRecDepth 10000
open Go Go.Vm Go.Vm.Sx

variable {gl : Gl} [NoU gl]

-- a row
def rowC (n : Nat) (rules : List Int) (rule : Int) (l : List Int) (i : Nat) : Bool :=
  bif (i == 0 || !lez (gi l i) (gi l (i - 1))) && !ltz (gi l i) 0 then (bif gi l i == (n : Int) + rule then true else bif lez (n : Int) (gi l i) then false else gi rules (gi l i).toNat == rule) else false
theorem par12 {x y : V} : ParOk Tryz.prog [24, 3] [.d x, .d y] 0 := by
  refine ⟨fun e => ?_, fun e => ?_, trivial⟩
  · rw [Tryz.underlying24]; simp
  · rw [Tryz.underlying3]; simp
theorem lent12 : lentP Tryz.prog Tryz.f12.params.toList = some [] := by kernel_rfl
theorem lentC12 : lentC Tryz.prog [3, 27] = some [(3, [.int .i64]), (27, [.sl 4, .sl 1, .sl 1, .sl 1])] := by kernel_rfl
def av12 (p : Ints) (rule : Int) : List AV := [.d (iv p), .d (ie rule), .p 0 0, .p 1 0]
def fp12 (n : Nat) (f : F) : List (List V × TypeId) := [([.int .i64 (n : Int)], 3), ([qv f.s, iv f.r, rv f.f, rv f.n], 27)]
def out12 (n : Nat) (f : F) : List (List V) := [[.int .i64 (n : Int)], [qv f.s, iv f.r, rv f.f, rv f.n]]
theorem ev12 (hgl : GL gl) (n : Nat) (f : F) (hn : f.r.2.length = n) (p : Ints) (hp : WI p) (rule : Int) (hw : IntKind.i64.wrap ((n : Int) + rule) = (n : Int) + rule) : Ev Tryz.prog gl 12 (av12 p rule) (fp12 n f) (.bool (allB (rowC n f.r.2 rule p.2) p.2.length)) (out12 n f) := by
  have hr := reach_le
  have hpl := hp.1
  have htf := tops_fc f
  refine xFunC_ok (P := Tryz.prog) (N := p.2.length + 1) (env_of hgl.top) (hgl.no 12 rfl) tree12_ok Tryz.func12 lent12 lentC12 (avs := [.d (iv p), .d (ie rule)]) par12 (fp := fp12 n f) (show FpOk [(3, [.int .i64]), (27, [.sl 4, .sl 1, .sl 1, .sl 1])] (fp12 n f) from ⟨rfl, rfl, rfl, rfl, rfl, htf, trivial⟩) (fun x hx => ?_) (show szOk (fp12 n f) (out12 n f) from ⟨rfl, rfl, trivial⟩) ?_
  · simp only [List.mem_cons, AV.d.injEq, List.not_mem_nil, or_false] at hx
    rcases hx with rfl | rfl
    · exact top_iv _
    · rfl
  have body : ∀ i, i < p.2.length → evT (phE Tryz.prog gl) gl (p.2.length + 1) lp12_1 ([iv p, ie rule, .nilp, .nilp, .int .i64 (n : Int), qv f.s, iv f.r, rv f.f, rv f.n] ++ [.int .i64 (i : Int)]) = bif rowC n f.r.2 rule p.2 i then some (0, [.int .i64 ((i + 1 : Nat) : Int)]) else some (1, [.bool false, .int .i64 (n : Int), qv f.s, iv f.r, rv f.f, rv f.n]) := by
    intro i hi
    have h1 := ltn_t hi
    have h4 := wrapS (i := i) (by omega)
    have h5 := nth_ie hi
    simp only [lp12_1, rowC]
    generalize hx : gi p.2 i = x at h5
    have h13 : lez (n : Int) x = false → ltz x 0 = false → nth (f.r.2.map ie) x.toNat = some (ie (gi f.r.2 x.toNat)) := fun h7 h6 => by
      have h7' : x < (n : Int) := by simpa [lez] using h7
      have h6' : 0 ≤ x := by simpa [ltz] using h6
      exact nth_ie (by omega)
    rcases Nat.eq_zero_or_pos i with h0 | h0
    · subst h0
      have h8 : ltz 0 ((0 : Nat) : Int) = false := by decide
      have h9 : ((0 : Nat) == 0) = true := rfl
      cases h6 : ltz x 0 with
      | true => simp only [ev_t, ev_f, ev_out, ev_esc, ev_letv, ev_elem, ev_kin, at_z, at_s, Bool.and_false, Bool.false_and, Bool.true_or, Bool.not_true, bif_f, cons_app, nil_app, evB, evI, evL, evCs, evC, evSC, evVE, vI_int, cm_lss, cm_gtr, cm_geq, cm_eql, biI, ltn_0, vL_iv, h1, h5, h6, h8, h9, hw, k_ie, vI_ie, List.length_map, Int.toNat_natCast]
      | false =>
      cases h14 : x == (n : Int) + rule with
      | true => simp only [ev_t, ev_f, ev_out, ev_elem, ev_kin, at_z, at_s, Bool.and_self, Bool.and_false, Bool.false_and, Bool.true_or, Bool.or_false, Bool.not_true, Bool.not_false, bif_t, bif_f, cons_app, nil_app, evB, evI, evL, evCs, evC, vI_int, cm_lss, cm_gtr, cm_geq, cm_eql, biI, ltn_0, vL_iv, h1, h4, h5, h6, h8, h9, h14, hw, k_ie, vI_ie, List.length_map, Int.toNat_natCast]
      | false =>
      cases h7 : lez (n : Int) x with
      | true => simp only [ev_t, ev_f, ev_out, ev_esc, ev_letv, ev_elem, ev_kin, at_z, at_s, Bool.and_self, Bool.and_false, Bool.or_true, Bool.true_or, Bool.not_true, Bool.not_false, bif_t, bif_f, cons_app, nil_app, evB, evI, evL, evCs, evC, evSC, evVE, vI_int, cm_lss, cm_gtr, cm_geq, cm_eql, biI, ltn_0, vL_iv, h1, h5, h6, h7, h8, h9, h14, hw, k_ie, vI_ie, List.length_map, Int.toNat_natCast]
      | false =>
        have h15 := h13 h7 h6
        cases h16 : gi f.r.2 x.toNat == rule with
        | true => simp only [ev_t, ev_f, ev_out, ev_elem, ev_kin, at_z, at_s, Bool.and_self, Bool.true_or, Bool.not_true, Bool.not_false, bif_t, bif_f, cons_app, nil_app, evB, evI, evL, evCs, evC, vI_int, cm_lss, cm_gtr, cm_geq, cm_eql, biI, ltn_0, vL_iv, h1, h4, h5, h6, h7, h8, h9, h14, h15, h16, hw, k_ie, vI_ie, List.length_map, Int.toNat_natCast]
        | false => simp only [ev_t, ev_f, ev_out, ev_esc, ev_letv, ev_elem, ev_kin, at_z, at_s, Bool.and_self, Bool.true_or, Bool.not_false, bif_t, bif_f, cons_app, nil_app, evB, evI, evL, evCs, evC, evSC, evVE, vI_int, cm_lss, cm_gtr, cm_geq, cm_eql, biI, ltn_0, vL_iv, h1, h5, h6, h7, h8, h9, h14, h15, h16, hw, k_ie, vI_ie, List.length_map, Int.toNat_natCast]
    · have h8 : ltz 0 (i : Int) = true := ltz_t (by omega)
      have h9 : (i == 0) = false := by simp; omega
      have h10 : IntKind.i64.wrap ((i : Int) - 1) = ((i - 1 : Nat) : Int) := by rw [wrap64 (by omega) (by omega)]; omega
      have h11 := nth_ie (l := p.2) (i := i - 1) (by omega)
      cases h12 : lez x (gi p.2 (i - 1)) with
      | true => simp only [ev_t, ev_f, ev_out, ev_esc, ev_letv, ev_elem, ev_kin, at_z, at_s, Bool.false_and, Bool.true_or, Bool.or_false, Bool.not_true, bif_f, cons_app, nil_app, evB, evI, evL, evCs, evC, evSC, evVE, vI_int, cm_lss, cm_gtr, cm_geq, cm_eql, biI, ltn_0, vL_iv, h1, h5, h8, h9, h10, h11, h12, hw, k_ie, vI_ie, List.length_map, Int.toNat_natCast]
      | false =>
      cases h6 : ltz x 0 with
      | true => simp only [ev_t, ev_f, ev_out, ev_esc, ev_letv, ev_elem, ev_kin, at_z, at_s, Bool.and_false, Bool.false_and, Bool.or_true, Bool.true_or, Bool.not_true, Bool.not_false, bif_f, cons_app, nil_app, evB, evI, evL, evCs, evC, evSC, evVE, vI_int, cm_lss, cm_gtr, cm_geq, cm_eql, biI, ltn_0, vL_iv, h1, h5, h6, h8, h9, h10, h11, h12, hw, k_ie, vI_ie, List.length_map, Int.toNat_natCast]
      | false =>
      cases h14 : x == (n : Int) + rule with
      | true => simp only [ev_t, ev_f, ev_out, ev_elem, ev_kin, at_z, at_s, Bool.and_self, Bool.and_false, Bool.false_and, Bool.or_true, Bool.or_false, Bool.not_true, Bool.not_false, bif_t, bif_f, cons_app, nil_app, evB, evI, evL, evCs, evC, vI_int, cm_lss, cm_gtr, cm_geq, cm_eql, biI, ltn_0, vL_iv, h1, h4, h5, h6, h8, h9, h10, h11, h12, h14, hw, k_ie, vI_ie, List.length_map, Int.toNat_natCast]
      | false =>
      cases h7 : lez (n : Int) x with
      | true => simp only [ev_t, ev_f, ev_out, ev_esc, ev_letv, ev_elem, ev_kin, at_z, at_s, Bool.and_self, Bool.and_false, Bool.or_true, Bool.or_false, Bool.not_true, Bool.not_false, bif_t, bif_f, cons_app, nil_app, evB, evI, evL, evCs, evC, evSC, evVE, vI_int, cm_lss, cm_gtr, cm_geq, cm_eql, biI, ltn_0, vL_iv, h1, h5, h6, h7, h8, h9, h10, h11, h12, h14, hw, k_ie, vI_ie, List.length_map, Int.toNat_natCast]
      | false =>
        have h15 := h13 h7 h6
        cases h16 : gi f.r.2 x.toNat == rule with
        | true => simp only [ev_t, ev_f, ev_out, ev_elem, ev_kin, at_z, at_s, Bool.and_self, Bool.or_true, Bool.or_false, Bool.not_true, Bool.not_false, bif_t, bif_f, cons_app, nil_app, evB, evI, evL, evCs, evC, vI_int, cm_lss, cm_gtr, cm_geq, cm_eql, biI, ltn_0, vL_iv, h1, h4, h5, h6, h7, h8, h9, h10, h11, h12, h14, h15, h16, hw, k_ie, vI_ie, List.length_map, Int.toNat_natCast]
        | false => simp only [ev_t, ev_out, ev_esc, ev_letv, ev_elem, ev_kin, at_z, at_s, Bool.and_self, Bool.or_true, Bool.or_false, Bool.not_false, bif_t, bif_f, cons_app, nil_app, evB, evI, evL, evCs, evC, evSC, evVE, vI_int, cm_lss, cm_gtr, cm_geq, cm_eql, biI, ltn_0, vL_iv, h1, h5, h6, h7, h8, h9, h10, h11, h12, h14, h15, h16, hw, k_ie, vI_ie, List.length_map, Int.toNat_natCast]
  simp only [tree12, capA, rho0, lentV, fp12, out12, List.cons_append, List.nil_append, List.map_cons, List.map_nil, List.length_cons, List.length_nil, holdA]
  simp only [ev_kin, ev_loop, at_z, at_s, kInt, cons_app, nil_app, app_nil, evI, evCs, evC, joinL, k_iv, k_rv, k_qv, k_ie]
  refine loop_all (ok := rowC n f.r.2 rule p.2) (st := fun i => [.int .i64 (i : Int)]) (n := p.2.length) (good := [.bool true, .int .i64 (n : Int), qv f.s, iv f.r, rv f.f, rv f.n]) (bad := [.bool false, .int .i64 (n : Int), qv f.s, iv f.r, rv f.f, rv f.n]) (fun i hi ho => ?_) (fun i hi ho => ?_) (fun _ => ?_) (by omega) ?_
  · have := body i hi
    rw [ho] at this
    exact this
  · have := body i hi
    rw [ho] at this
    exact this
  · have h1 := ltn_f (Nat.le_refl p.2.length)
    simp only [lp12_1]
    simp only [ev_f, ev_out, ev_esc, ev_letv, at_z, at_s, cons_app, nil_app, evB, evI, evL, evCs, evC, evSC, evVE, vI_int, cm_lss, vL_iv, h1, List.length_map]
  · cases allB (rowC n f.r.2 rule p.2) p.2.length <;> rfl

end Go.Proofs.YtnlijejfagjbeaaGreatDoor

namespace Go.Proofs.YtnlijejfagjbeaaGreatDoor
set_option linter.unusedSectionVars false
set_option maxRecDepth 10000
open Go Go.Vm Go.Vm.Sx

variable {gl : Gl} [NoU gl]

theorem sort_step {l : List Int} (h : sortB l = true) {j : Nat} (hj : j + 1 < l.length) : gi l j ≤ gi l (j + 1) := by
  have := allB_iff.1 h (l.length - 1 - (j + 1)) (by omega)
  simp only [Bool.not_eq_true'] at this
  have e1 : l.length - 1 - (l.length - 1 - (j + 1)) = j + 1 := by omega
  rw [e1] at this
  have e2 : j + 1 - 1 = j := by omega
  rw [e2] at this
  simpa [ltz] using this
theorem sort_le {l : List Int} (h : sortB l = true) : ∀ {j i : Nat}, i ≤ j → j < l.length → gi l i ≤ gi l j
  | 0, i, hi, _ => by have : i = 0 := by omega
                      subst this; exact Int.le_refl _
  | j + 1, i, hi, hj => by
    rcases Nat.lt_or_ge i (j + 1) with h1 | h1
    · exact Int.le_trans (sort_le h (by omega) (by omega)) (sort_step h hj)
    · have : i = j + 1 := by omega
      subst this; exact Int.le_refl _

def restL (n : Nat) (r : List Int) (fs ns : List (List Int)) : Bool :=
  bif allB (fun i => allB (rowC n r (i : Int) (gr fs i)) (gr fs i).length) fs.length then allB (fun i => allB (rowC n r (gi r i) (gr ns i)) (gr ns i).length) n else false
def chkL (n : Nat) (r : List Int) (fs ns : List (List Int)) : Bool :=
  bif (((ltz 1000 (n : Int) || ltz 200 (fs.length : Int)) || !((r.length : Int) == (n : Int))) || !((ns.length : Int) == (n : Int))) then false else
  bif sortB r then bif ltz 0 (n : Int) then bif !ltz (gi r 0) 0 then bif lez (fs.length : Int) (gi r (n - 1)) then false else restL n r fs ns else false else restL n r fs ns else false

theorem rest0 (hgl : GL gl) (f : F) (hf : WF f) (N : Nat) (hrl : f.r.2.length = f.s.2.length) (hnl : f.n.2.length = f.s.2.length) (g1 : f.s.2.length ≤ 1000) (g2 : f.f.2.length ≤ 200) (hN : ∀ i, i < f.s.2.length → IntKind.i64.wrap ((f.s.2.length : Int) + gi f.r.2 i) = (f.s.2.length : Int) + gi f.r.2 i) (hNN : f.s.2.length + f.f.2.length < N) :
    loopT (phE Tryz.prog gl) gl N lp5_2 [fv f, qv f.s, iv f.r, rv f.f, rv f.n, .bool true] [.int .i64 0, .int .i64 (f.s.2.length : Int), qv f.s, iv f.r, rv f.f, rv f.n] = some (0, [.bool (restL f.s.2.length f.r.2 (rowsOf f.f) (rowsOf f.n))]) := by
  have ρ2 : ∀ i, i < f.n.2.length → evT (phE Tryz.prog gl) gl N lp5_1 ([fv f, qv f.s, iv f.r, rv f.f, rv f.n, .bool true] ++ [.int .i64 (f.f.2.length : Int), .int .i64 (f.s.2.length : Int), qv f.s, iv f.r, rv f.f, rv f.n] ++ [.int .i64 (i : Int), .int .i64 (f.s.2.length : Int), qv f.s, iv f.r, rv f.f, rv f.n]) = bif allB (rowC f.s.2.length f.r.2 (gi f.r.2 i) (gr (rowsOf f.n) i)) (gr (rowsOf f.n) i).length then some (0, [.int .i64 ((i + 1 : Nat) : Int), .int .i64 (f.s.2.length : Int), qv f.s, iv f.r, rv f.f, rv f.n]) else some (1, [.bool false]) := by
    intro i hi
    obtain ⟨q, hq⟩ : ∃ q, f.n.2[i]? = some q := ⟨f.n.2[i], by simp [hi]⟩
    have h1 := ltn_t hi
    have h2 := nth_map (h := iv) hq
    have h3 := nth_ie (l := f.r.2) (i := i) (by omega)
    have h4 := wrapS (i := i) (by omega)
    rw [gr_get hq]
    have hc := phE_eq (ev12 hgl f.s.2.length f hrl q (hf.ne.2 q (List.mem_of_getElem? hq)) (gi f.r.2 i) (hN i (by omega)))
    simp only [av12, fp12, out12] at hc
    simp only [lp5_1]
    cases hb : allB (rowC f.s.2.length f.r.2 (gi f.r.2 i) q.2) q.2.length with
    | true =>
      rw [hb] at hc
      simp only [ev_t, ev_f, ev_out, ev_elem, ev_kin, ev_call, at_z, at_s, ks_cons, kInt, kBool, ks_nil, Bool.and_self, Bool.not_true, bif_t, bif_f, cons_app, nil_app, app_nil, evB, evI, evL, evCs, evC, evSC, evAs, evA, evLent, vI_int, vB_bool, cm_lss, biI, ltn_0, joinL, sizesOk, Nat.beq_refl, List.length_cons, List.length_nil, vL_rv, vL_iv, h1, h2, h3, h4, hc, k_iv, k_ie, k_rv, k_qv, clr_iv, clr_ie, List.length_map, Int.toNat_natCast]
    | false =>
      rw [hb] at hc
      simp only [ev_t, ev_out, ev_esc, ev_letv, ev_elem, ev_kin, ev_call, at_z, at_s, ks_cons, kInt, kBool, ks_nil, Bool.and_self, Bool.not_false, bif_t, bif_f, cons_app, nil_app, app_nil, evB, evI, evL, evCs, evC, evSC, evAs, evA, evLent, evVE, vI_int, vB_bool, cm_lss, ltn_0, joinL, sizesOk, Nat.beq_refl, List.length_cons, List.length_nil, vL_rv, vL_iv, h1, h2, h3, hc, k_iv, k_ie, k_rv, k_qv, clr_iv, clr_ie, List.length_map, Int.toNat_natCast]
  have ρ1 : ∀ i, i < f.f.2.length → evT (phE Tryz.prog gl) gl N lp5_2 ([fv f, qv f.s, iv f.r, rv f.f, rv f.n, .bool true] ++ [.int .i64 (i : Int), .int .i64 (f.s.2.length : Int), qv f.s, iv f.r, rv f.f, rv f.n]) = bif allB (rowC f.s.2.length f.r.2 (i : Int) (gr (rowsOf f.f) i)) (gr (rowsOf f.f) i).length then some (0, [.int .i64 ((i + 1 : Nat) : Int), .int .i64 (f.s.2.length : Int), qv f.s, iv f.r, rv f.f, rv f.n]) else some (1, [.bool false]) := by
    intro i hi
    obtain ⟨q, hq⟩ : ∃ q, f.f.2[i]? = some q := ⟨f.f.2[i], by simp [hi]⟩
    have h1 := ltn_t hi
    have h2 := nth_map (h := iv) hq
    have h4 := wrapS (i := i) (by omega)
    rw [gr_get hq]
    have hc := phE_eq (ev12 hgl f.s.2.length f hrl q (hf.fi.2 q (List.mem_of_getElem? hq)) (i : Int) (wrap64 (by omega) (by omega)))
    simp only [av12, fp12, out12, ie] at hc
    simp only [lp5_2]
    cases hb : allB (rowC f.s.2.length f.r.2 (i : Int) q.2) q.2.length with
    | true =>
      rw [hb] at hc
      simp only [ev_t, ev_f, ev_out, ev_elem, ev_kin, ev_call, at_z, at_s, ks_cons, kInt, kBool, ks_nil, Bool.and_self, Bool.not_true, bif_t, bif_f, cons_app, nil_app, app_nil, evB, evI, evL, evCs, evC, evSC, evAs, evA, evLent, vI_int, vB_bool, cm_lss, biI, ltn_0, joinL, sizesOk, clr_int, Nat.beq_refl, List.length_cons, List.length_nil, vL_rv, h1, h2, h4, hc, k_iv, k_rv, k_qv, clr_iv, List.length_map, Int.toNat_natCast]
    | false =>
      rw [hb] at hc
      simp only [ev_t, ev_out, ev_esc, ev_letv, ev_elem, ev_kin, ev_call, at_z, at_s, ks_cons, kInt, kBool, ks_nil, Bool.and_self, Bool.not_false, bif_t, bif_f, cons_app, nil_app, app_nil, evB, evI, evL, evCs, evC, evSC, evAs, evA, evLent, evVE, vI_int, vB_bool, cm_lss, ltn_0, joinL, sizesOk, clr_int, Nat.beq_refl, List.length_cons, List.length_nil, vL_rv, h1, h2, hc, k_iv, k_rv, k_qv, clr_iv, List.length_map, Int.toNat_natCast]
  have L2 : loopT (phE Tryz.prog gl) gl N lp5_1 ([fv f, qv f.s, iv f.r, rv f.f, rv f.n, .bool true] ++ [.int .i64 (f.f.2.length : Int), .int .i64 (f.s.2.length : Int), qv f.s, iv f.r, rv f.f, rv f.n]) [.int .i64 0, .int .i64 (f.s.2.length : Int), qv f.s, iv f.r, rv f.f, rv f.n] = some (0, [.bool (allB (fun i => allB (rowC f.s.2.length f.r.2 (gi f.r.2 i) (gr (rowsOf f.n) i)) (gr (rowsOf f.n) i).length) f.s.2.length)]) := by
    refine loop_all (ok := fun i => allB (rowC f.s.2.length f.r.2 (gi f.r.2 i) (gr (rowsOf f.n) i)) (gr (rowsOf f.n) i).length) (st := fun i => [.int .i64 (i : Int), .int .i64 (f.s.2.length : Int), qv f.s, iv f.r, rv f.f, rv f.n]) (n := f.n.2.length) (good := [.bool true]) (bad := [.bool false]) (fun i hi ho => by have := ρ2 i hi; rw [ho] at this; exact this) (fun i hi ho => by have := ρ2 i hi; rw [ho] at this; exact this) (fun _ => ?_) (by omega) ?_
    · have h1 := ltn_f (Nat.le_refl f.n.2.length)
      simp only [lp5_1]
      simp only [ev_f, ev_out, ev_esc, ev_letv, at_z, at_s, cons_app, nil_app, evB, evI, evL, evCs, evC, evSC, evVE, vI_int, cm_lss, vL_rv, h1, List.length_map]
    · rw [hnl]
      cases allB (fun i => allB (rowC f.s.2.length f.r.2 (gi f.r.2 i) (gr (rowsOf f.n) i)) (gr (rowsOf f.n) i).length) f.s.2.length <;> rfl
  refine loop_all (ok := fun i => allB (rowC f.s.2.length f.r.2 (i : Int) (gr (rowsOf f.f) i)) (gr (rowsOf f.f) i).length) (st := fun i => [.int .i64 (i : Int), .int .i64 (f.s.2.length : Int), qv f.s, iv f.r, rv f.f, rv f.n]) (n := f.f.2.length) (good := [.bool (allB (fun i => allB (rowC f.s.2.length f.r.2 (gi f.r.2 i) (gr (rowsOf f.n) i)) (gr (rowsOf f.n) i).length) f.s.2.length)]) (bad := [.bool false]) (fun i hi ho => by have := ρ1 i hi; rw [ho] at this; exact this) (fun i hi ho => by have := ρ1 i hi; rw [ho] at this; exact this) (fun _ => ?_) (by omega) ?_
  · have h1 := ltn_f (Nat.le_refl f.f.2.length)
    simp only [List.cons_append, List.nil_append] at L2
    simp only [lp5_2]
    simp only [ev_f, ev_esc, ev_loop, at_z, at_s, cons_app, nil_app, evB, evI, evL, evCs, evC, vI_int, cm_lss, vL_rv, h1, L2, List.length_map]
  · simp only [restL, rowsOf_len]
    cases allB (fun i => allB (rowC f.s.2.length f.r.2 (i : Int) (gr (rowsOf f.f) i)) (gr (rowsOf f.f) i).length) f.f.2.length <;> rfl
theorem rest1 (hgl : GL gl) (f : F) (hf : WF f) (N : Nat) (x y : Int) (hrl : f.r.2.length = f.s.2.length) (hnl : f.n.2.length = f.s.2.length) (g1 : f.s.2.length ≤ 1000) (g2 : f.f.2.length ≤ 200) (hN : ∀ i, i < f.s.2.length → IntKind.i64.wrap ((f.s.2.length : Int) + gi f.r.2 i) = (f.s.2.length : Int) + gi f.r.2 i) (hNN : f.s.2.length + f.f.2.length < N) :
    loopT (phE Tryz.prog gl) gl N lp5_4 [fv f, qv f.s, iv f.r, rv f.f, rv f.n, .bool true, ie x, ie y] [.int .i64 0, .int .i64 (f.s.2.length : Int), qv f.s, iv f.r, rv f.f, rv f.n] = some (0, [.bool (restL f.s.2.length f.r.2 (rowsOf f.f) (rowsOf f.n))]) := by
  have ρ2 : ∀ i, i < f.n.2.length → evT (phE Tryz.prog gl) gl N lp5_3 ([fv f, qv f.s, iv f.r, rv f.f, rv f.n, .bool true, ie x, ie y] ++ [.int .i64 (f.f.2.length : Int), .int .i64 (f.s.2.length : Int), qv f.s, iv f.r, rv f.f, rv f.n] ++ [.int .i64 (i : Int), .int .i64 (f.s.2.length : Int), qv f.s, iv f.r, rv f.f, rv f.n]) = bif allB (rowC f.s.2.length f.r.2 (gi f.r.2 i) (gr (rowsOf f.n) i)) (gr (rowsOf f.n) i).length then some (0, [.int .i64 ((i + 1 : Nat) : Int), .int .i64 (f.s.2.length : Int), qv f.s, iv f.r, rv f.f, rv f.n]) else some (1, [.bool false]) := by
    intro i hi
    obtain ⟨q, hq⟩ : ∃ q, f.n.2[i]? = some q := ⟨f.n.2[i], by simp [hi]⟩
    have h1 := ltn_t hi
    have h2 := nth_map (h := iv) hq
    have h3 := nth_ie (l := f.r.2) (i := i) (by omega)
    have h4 := wrapS (i := i) (by omega)
    rw [gr_get hq]
    have hc := phE_eq (ev12 hgl f.s.2.length f hrl q (hf.ne.2 q (List.mem_of_getElem? hq)) (gi f.r.2 i) (hN i (by omega)))
    simp only [av12, fp12, out12] at hc
    simp only [lp5_3]
    cases hb : allB (rowC f.s.2.length f.r.2 (gi f.r.2 i) q.2) q.2.length with
    | true =>
      rw [hb] at hc
      simp only [ev_t, ev_f, ev_out, ev_elem, ev_kin, ev_call, at_z, at_s, ks_cons, kInt, kBool, ks_nil, Bool.and_self, Bool.not_true, bif_t, bif_f, cons_app, nil_app, app_nil, evB, evI, evL, evCs, evC, evSC, evAs, evA, evLent, vI_int, vB_bool, cm_lss, biI, ltn_0, joinL, sizesOk, Nat.beq_refl, List.length_cons, List.length_nil, vL_rv, vL_iv, h1, h2, h3, h4, hc, k_iv, k_ie, k_rv, k_qv, clr_iv, clr_ie, List.length_map, Int.toNat_natCast]
    | false =>
      rw [hb] at hc
      simp only [ev_t, ev_out, ev_esc, ev_letv, ev_elem, ev_kin, ev_call, at_z, at_s, ks_cons, kInt, kBool, ks_nil, Bool.and_self, Bool.not_false, bif_t, bif_f, cons_app, nil_app, app_nil, evB, evI, evL, evCs, evC, evSC, evAs, evA, evLent, evVE, vI_int, vB_bool, cm_lss, ltn_0, joinL, sizesOk, Nat.beq_refl, List.length_cons, List.length_nil, vL_rv, vL_iv, h1, h2, h3, hc, k_iv, k_ie, k_rv, k_qv, clr_iv, clr_ie, List.length_map, Int.toNat_natCast]
  have ρ1 : ∀ i, i < f.f.2.length → evT (phE Tryz.prog gl) gl N lp5_4 ([fv f, qv f.s, iv f.r, rv f.f, rv f.n, .bool true, ie x, ie y] ++ [.int .i64 (i : Int), .int .i64 (f.s.2.length : Int), qv f.s, iv f.r, rv f.f, rv f.n]) = bif allB (rowC f.s.2.length f.r.2 (i : Int) (gr (rowsOf f.f) i)) (gr (rowsOf f.f) i).length then some (0, [.int .i64 ((i + 1 : Nat) : Int), .int .i64 (f.s.2.length : Int), qv f.s, iv f.r, rv f.f, rv f.n]) else some (1, [.bool false]) := by
    intro i hi
    obtain ⟨q, hq⟩ : ∃ q, f.f.2[i]? = some q := ⟨f.f.2[i], by simp [hi]⟩
    have h1 := ltn_t hi
    have h2 := nth_map (h := iv) hq
    have h4 := wrapS (i := i) (by omega)
    rw [gr_get hq]
    have hc := phE_eq (ev12 hgl f.s.2.length f hrl q (hf.fi.2 q (List.mem_of_getElem? hq)) (i : Int) (wrap64 (by omega) (by omega)))
    simp only [av12, fp12, out12, ie] at hc
    simp only [lp5_4]
    cases hb : allB (rowC f.s.2.length f.r.2 (i : Int) q.2) q.2.length with
    | true =>
      rw [hb] at hc
      simp only [ev_t, ev_f, ev_out, ev_elem, ev_kin, ev_call, at_z, at_s, ks_cons, kInt, kBool, ks_nil, Bool.and_self, Bool.not_true, bif_t, bif_f, cons_app, nil_app, app_nil, evB, evI, evL, evCs, evC, evSC, evAs, evA, evLent, vI_int, vB_bool, cm_lss, biI, ltn_0, joinL, sizesOk, clr_int, Nat.beq_refl, List.length_cons, List.length_nil, vL_rv, h1, h2, h4, hc, k_iv, k_rv, k_qv, clr_iv, List.length_map, Int.toNat_natCast]
    | false =>
      rw [hb] at hc
      simp only [ev_t, ev_out, ev_esc, ev_letv, ev_elem, ev_kin, ev_call, at_z, at_s, ks_cons, kInt, kBool, ks_nil, Bool.and_self, Bool.not_false, bif_t, bif_f, cons_app, nil_app, app_nil, evB, evI, evL, evCs, evC, evSC, evAs, evA, evLent, evVE, vI_int, vB_bool, cm_lss, ltn_0, joinL, sizesOk, clr_int, Nat.beq_refl, List.length_cons, List.length_nil, vL_rv, h1, h2, hc, k_iv, k_rv, k_qv, clr_iv, List.length_map, Int.toNat_natCast]
  have L2 : loopT (phE Tryz.prog gl) gl N lp5_3 ([fv f, qv f.s, iv f.r, rv f.f, rv f.n, .bool true, ie x, ie y] ++ [.int .i64 (f.f.2.length : Int), .int .i64 (f.s.2.length : Int), qv f.s, iv f.r, rv f.f, rv f.n]) [.int .i64 0, .int .i64 (f.s.2.length : Int), qv f.s, iv f.r, rv f.f, rv f.n] = some (0, [.bool (allB (fun i => allB (rowC f.s.2.length f.r.2 (gi f.r.2 i) (gr (rowsOf f.n) i)) (gr (rowsOf f.n) i).length) f.s.2.length)]) := by
    refine loop_all (ok := fun i => allB (rowC f.s.2.length f.r.2 (gi f.r.2 i) (gr (rowsOf f.n) i)) (gr (rowsOf f.n) i).length) (st := fun i => [.int .i64 (i : Int), .int .i64 (f.s.2.length : Int), qv f.s, iv f.r, rv f.f, rv f.n]) (n := f.n.2.length) (good := [.bool true]) (bad := [.bool false]) (fun i hi ho => by have := ρ2 i hi; rw [ho] at this; exact this) (fun i hi ho => by have := ρ2 i hi; rw [ho] at this; exact this) (fun _ => ?_) (by omega) ?_
    · have h1 := ltn_f (Nat.le_refl f.n.2.length)
      simp only [lp5_3]
      simp only [ev_f, ev_out, ev_esc, ev_letv, at_z, at_s, cons_app, nil_app, evB, evI, evL, evCs, evC, evSC, evVE, vI_int, cm_lss, vL_rv, h1, List.length_map]
    · rw [hnl]
      cases allB (fun i => allB (rowC f.s.2.length f.r.2 (gi f.r.2 i) (gr (rowsOf f.n) i)) (gr (rowsOf f.n) i).length) f.s.2.length <;> rfl
  refine loop_all (ok := fun i => allB (rowC f.s.2.length f.r.2 (i : Int) (gr (rowsOf f.f) i)) (gr (rowsOf f.f) i).length) (st := fun i => [.int .i64 (i : Int), .int .i64 (f.s.2.length : Int), qv f.s, iv f.r, rv f.f, rv f.n]) (n := f.f.2.length) (good := [.bool (allB (fun i => allB (rowC f.s.2.length f.r.2 (gi f.r.2 i) (gr (rowsOf f.n) i)) (gr (rowsOf f.n) i).length) f.s.2.length)]) (bad := [.bool false]) (fun i hi ho => by have := ρ1 i hi; rw [ho] at this; exact this) (fun i hi ho => by have := ρ1 i hi; rw [ho] at this; exact this) (fun _ => ?_) (by omega) ?_
  · have h1 := ltn_f (Nat.le_refl f.f.2.length)
    simp only [List.cons_append, List.nil_append] at L2
    simp only [lp5_4]
    simp only [ev_f, ev_esc, ev_loop, at_z, at_s, cons_app, nil_app, evB, evI, evL, evCs, evC, vI_int, cm_lss, vL_rv, h1, L2, List.length_map]
  · simp only [restL, rowsOf_len]
    cases allB (fun i => allB (rowC f.s.2.length f.r.2 (i : Int) (gr (rowsOf f.f) i)) (gr (rowsOf f.f) i).length) f.f.2.length <;> rfl

theorem ev5 (hgl : GL gl) (f : F) (hf : WF f) : Ev Tryz.prog gl 5 [.d (fv f)] [] (.bool (chkL f.s.2.length f.r.2 (rowsOf f.f) (rowsOf f.n))) [] := by
  refine fun_pure (xs := [fv f]) hgl.top (hgl.no 5 rfl) tree5_ok Tryz.func5 lent5 par27 (by simp [tops, top_fv]) (N := f.s.2.length + f.f.2.length + 1) ?_
  have hr := reach_le
  simp only [tree5, fv, fc, chkL, rowsOf_len]
  cases hh : (((ltz 1000 (f.s.2.length : Int) || ltz 200 (f.f.2.length : Int)) || !((f.r.2.length : Int) == (f.s.2.length : Int))) || !((f.n.2.length : Int) == (f.s.2.length : Int))) with
  | true => simp only [ev_f, ev_out, ev_letv, ev_opn, at_z, at_s, ks_cons, ks_nil, Bool.and_self, Bool.not_true, bif_t, cons_app, nil_app, evB, evI, evL, evCs, evC, evSC, evVE, cm_gtr, cm_eql, k_iv, k_rv, k_qv, vL_iv, vL_rv, vL_qv, hh, List.length_map]
  | false =>
  have hh' := hh
  simp only [Bool.or_eq_false_iff, Bool.not_eq_false', beq_iff_eq] at hh'
  obtain ⟨⟨⟨g1, g2⟩, g3⟩, g4⟩ := hh'
  have hrl : f.r.2.length = f.s.2.length := by omega
  have hnl : f.n.2.length = f.s.2.length := by omega
  have g1 : f.s.2.length ≤ 1000 := by simp [ltz] at g1; omega
  have g2 : f.f.2.length ≤ 200 := by simp [ltz] at g2; omega
  have hs := phE_eq (ev11 hgl f.r hf.r.1)
  cases hso : sortB f.r.2 with
  | false =>
    rw [hso] at hs
    simp only [ev_t, ev_out, ev_letv, ev_opn, ev_kin, ev_call, at_z, at_s, ks_cons, kBool, ks_nil, Bool.and_self, Bool.not_false, bif_t, bif_f, cons_app, nil_app, evB, evI, evL, evCs, evC, evSC, evAs, evA, evLent, evVE, vB_bool, cm_gtr, cm_eql, joinL, sizesOk, k_iv, k_rv, k_qv, vL_iv, vL_rv, vL_qv, hh, hs, clr_iv, List.length_map]
  | true =>
  rw [hso] at hs
  rcases Nat.eq_zero_or_pos f.s.2.length with h0 | h0
  · have h8 : ltz 0 (f.s.2.length : Int) = false := ltz_f (by omega)
    have L := rest0 hgl f hf (f.s.2.length + f.f.2.length + 1) hrl hnl g1 g2 (fun i hi => by omega) (by omega)
    simp only [fv, fc] at L
    simp only [ev_t, ev_f, ev_opn, ev_kin, ev_call, ev_loop, at_z, at_s, ks_cons, kBool, ks_nil, Bool.and_self, Bool.not_true, Bool.not_false, bif_t, bif_f, cons_app, nil_app, evB, evI, evL, evCs, evC, evSC, evAs, evA, evLent, vB_bool, cm_gtr, cm_eql, joinL, sizesOk, k_iv, k_rv, k_qv, vL_iv, vL_rv, vL_qv, hh, hs, h8, L, clr_iv, clr_rv, clr_qv, List.length_map]
  · have h8 : ltz 0 (f.s.2.length : Int) = true := ltz_t (by omega)
    have h10 : IntKind.i64.wrap ((f.s.2.length : Int) - 1) = ((f.s.2.length - 1 : Nat) : Int) := by rw [wrap64 (by omega) (by omega)]; omega
    have h5 := nth_ie (l := f.r.2) (i := 0) (by omega)
    have h6 := nth_ie (l := f.r.2) (i := f.s.2.length - 1) (by omega)
    have h00 : ltz 0 0 = false := by decide
    have t0 : (0 : Int).toNat = 0 := rfl
    cases h11 : ltz (gi f.r.2 0) 0 with
    | true => simp only [ev_t, ev_f, ev_out, ev_letv, ev_elem, ev_opn, ev_kin, ev_call, at_z, at_s, ks_cons, kBool, ks_nil, Bool.and_self, Bool.not_true, Bool.not_false, bif_t, bif_f, cons_app, nil_app, evB, evI, evL, evCs, evC, evSC, evAs, evA, evLent, evVE, vB_bool, cm_lss, cm_gtr, cm_eql, joinL, sizesOk, k_iv, k_rv, k_qv, k_ie, vI_ie, vL_iv, vL_rv, vL_qv, hh, hs, h8, h5, h11, h00, t0, clr_iv, List.length_map]
    | false =>
    cases h12 : lez (f.f.2.length : Int) (gi f.r.2 (f.s.2.length - 1)) with
    | true => simp only [ev_t, ev_f, ev_out, ev_letv, ev_elem, ev_opn, ev_kin, ev_call, at_z, at_s, ks_cons, kBool, ks_nil, Bool.and_self, Bool.not_true, Bool.not_false, bif_t, bif_f, cons_app, nil_app, evB, evI, evL, evCs, evC, evSC, evAs, evA, evLent, evVE, vB_bool, cm_lss, cm_gtr, cm_geq, cm_eql, biI, ltn_0, joinL, sizesOk, k_iv, k_rv, k_qv, k_ie, vI_ie, vL_iv, vL_rv, vL_qv, hh, hs, h8, h5, h6, h10, h11, h12, h00, t0, clr_iv, List.length_map, Int.toNat_natCast]
    | false =>
      have hb : ∀ i, i < f.s.2.length → 0 ≤ gi f.r.2 i ∧ gi f.r.2 i < 200 := fun i hi => by
        have b1 := sort_le hso (i := 0) (j := i) (by omega) (by omega)
        have b2 := sort_le hso (i := i) (j := f.s.2.length - 1) (by omega) (by omega)
        have b3 : 0 ≤ gi f.r.2 0 := by simpa [ltz] using h11
        have b4 : gi f.r.2 (f.s.2.length - 1) < (f.f.2.length : Int) := by simpa [lez] using h12
        omega
      have L := rest1 hgl f hf (f.s.2.length + f.f.2.length + 1) (gi f.r.2 0) (gi f.r.2 (f.s.2.length - 1)) hrl hnl g1 g2 (fun i hi => wrap64 (by have := hb i hi; omega) (by have := hb i hi; omega)) (by omega)
      simp only [fv, fc] at L
      simp only [ev_t, ev_f, ev_elem, ev_opn, ev_kin, ev_call, ev_loop, at_z, at_s, ks_cons, kBool, ks_nil, Bool.and_self, Bool.not_true, Bool.not_false, bif_t, bif_f, cons_app, nil_app, evB, evI, evL, evCs, evC, evSC, evAs, evA, evLent, vB_bool, cm_lss, cm_gtr, cm_geq, cm_eql, biI, ltn_0, joinL, sizesOk, k_iv, k_rv, k_qv, k_ie, vI_ie, vL_iv, vL_rv, vL_qv, hh, hs, h8, h5, h6, h10, h11, h12, h00, t0, L, clr_iv, clr_rv, clr_qv, List.length_map, Int.toNat_natCast]

end Go.Proofs.YtnlijejfagjbeaaGreatDoor

namespace Go.Proofs.YtnlijejfagjbeaaGreatDoor
set_option linter.unusedSectionVars false
set_option maxRecDepth 10000
open Go Go.Vm Go.Vm.Sx

variable {gl : Gl} [NoU gl]

theorem row_eq (n : Nat) (r : List Int) (rule : Int) (hr : 0 ≤ rule) (l : List Int) (i : Nat) : rowM n r rule l i = rowC n r rule l i := by
  unfold rowM rowC
  generalize gi l i = x
  generalize (i == 0 || !lez x (gi l (i - 1))) = A
  cases ltz x 0 <;> cases A <;> simp only [Bool.not_true, Bool.not_false, Bool.true_and, Bool.false_and, Bool.and_false, Bool.and_true, cond_true, cond_false]
  cases h : lez (n : Int) x with
  | true =>
    simp only [cond_true]
    have e : (x - (n : Int) == rule) = (x == (n : Int) + rule) := by
      rw [Bool.eq_iff_iff]; simp only [beq_iff_eq]; omega
    rw [e]
    cases x == (n : Int) + rule <;> rfl
  | false =>
    have h' : x < (n : Int) := by simpa [lez] using h
    have e : (x == (n : Int) + rule) = false := by
      rw [beq_eq_false_iff_ne]; omega
    rw [e]
    rfl

theorem plain (n : Nat) (r : List Int) (fs ns : List (List Int)) : chkL n r fs ns = mayL n r fs ns := by
  unfold chkL mayL
  cases hh : (((ltz 1000 (n : Int) || ltz 200 (fs.length : Int)) || !((r.length : Int) == (n : Int))) || !((ns.length : Int) == (n : Int))) with
  | true => rfl
  | false =>
  simp only [Bool.or_eq_false_iff, Bool.not_eq_false', beq_iff_eq] at hh
  obtain ⟨⟨⟨_, _⟩, g3⟩, _⟩ := hh
  have hrl : r.length = n := by omega
  simp only [cond_false]
  -- the rules' numbers
  have key : (sortB r = true ∧ (0 < n → 0 ≤ gi r 0 ∧ gi r (n - 1) < (fs.length : Int))) ↔ allB (ok1 r fs.length) n = true := by
    rw [allB_iff]
    refine ⟨fun ⟨h1, h2⟩ i hi => ?_, fun h => ⟨?_, fun h0 => ?_⟩⟩
    · obtain ⟨a1, a2⟩ := h2 (by omega)
      have b1 := sort_le h1 (i := 0) (j := i) (by omega) (by omega)
      have b2 := sort_le h1 (i := i) (j := n - 1) (by omega) (by omega)
      have b3 := sort_le h1 (i := i - 1) (j := i) (by omega) (by omega)
      have c1 : ltz (gi r i) 0 = false := ltz_f (by omega)
      have c2 : lez (fs.length : Int) (gi r i) = false := lez_f (by omega)
      have c3 : ltz (gi r i) (gi r (i - 1)) = false := ltz_f b3
      simp [ok1, c1, c2, c3]
    · refine allB_iff.2 fun k hk => ?_
      have := h (r.length - 1 - k) (by omega)
      simp only [ok1, Bool.and_eq_true, Bool.or_eq_true] at this
      rcases this.2.2 with h3 | h3
      · simp at h3; omega
      · exact h3
    · have a1 := h 0 h0
      have a2 := h (n - 1) (by omega)
      simp only [ok1, Bool.and_eq_true, Bool.not_eq_true'] at a1 a2
      refine ⟨by simpa [ltz] using a1.1, by simpa [lez] using a2.2.1⟩
  have rows : allB (ok1 r fs.length) n = true → restL n r fs ns = (bif allB (fun i => allB (rowM n r (gi r i) (gr ns i)) (gr ns i).length) n then allB (fun i => allB (rowM n r (i : Int) (gr fs i)) (gr fs i).length) fs.length else false) := by
    intro h
    have e1 : allB (fun i => allB (rowM n r (gi r i) (gr ns i)) (gr ns i).length) n = allB (fun i => allB (rowC n r (gi r i) (gr ns i)) (gr ns i).length) n := allB_congr fun i hi => allB_congr fun j _ => row_eq n r _ (by
      have := allB_iff.1 h i hi
      simp only [ok1, Bool.and_eq_true, Bool.not_eq_true'] at this
      simpa [ltz] using this.1) _ _
    have e2 : allB (fun i => allB (rowM n r (i : Int) (gr fs i)) (gr fs i).length) fs.length = allB (fun i => allB (rowC n r (i : Int) (gr fs i)) (gr fs i).length) fs.length := allB_congr fun i hi => allB_congr fun j _ => row_eq n r _ (by omega) _ _
    rw [e1, e2]
    unfold restL
    cases allB (fun i => allB (rowC n r (i : Int) (gr fs i)) (gr fs i).length) fs.length <;> cases allB (fun i => allB (rowC n r (gi r i) (gr ns i)) (gr ns i).length) n <;> rfl
  cases ho : allB (ok1 r fs.length) n with
  | true =>
    rw [← rows ho]
    obtain ⟨h1, h2⟩ := key.2 ho
    rw [h1]
    rcases Nat.eq_zero_or_pos n with h0 | h0
    · have h8 : ltz 0 (n : Int) = false := ltz_f (by omega)
      rw [h8]; rfl
    · obtain ⟨a1, a2⟩ := h2 h0
      have h8 : ltz 0 (n : Int) = true := ltz_t (by omega)
      have h9 : ltz (gi r 0) 0 = false := ltz_f a1
      have h10 : lez (fs.length : Int) (gi r (n - 1)) = false := lez_f a2
      rw [h8, h9, h10]; rfl
  | false =>
    simp only [cond_false]
    cases hs : sortB r with
    | false => rfl
    | true =>
      simp only [cond_true]
      have hno : ¬ (0 < n → 0 ≤ gi r 0 ∧ gi r (n - 1) < (fs.length : Int)) := fun h => by
        have := key.1 ⟨hs, h⟩
        rw [ho] at this; cases this
      have h0 : 0 < n := by
        rcases Nat.eq_zero_or_pos n with h0 | h0
        · exact absurd (fun h => by omega) hno
        · exact h0
      have h8 : ltz 0 (n : Int) = true := ltz_t (by omega)
      rw [h8]
      simp only [cond_true]
      cases h9 : ltz (gi r 0) 0 with
      | true => rfl
      | false =>
        have h9' : 0 ≤ gi r 0 := by simpa [ltz] using h9
        have h10 : lez (fs.length : Int) (gi r (n - 1)) = true := lez_t (by
          rcases Int.lt_or_le (gi r (n - 1)) (fs.length : Int) with h11 | h11
          · exact absurd (fun _ => ⟨h9', h11⟩) hno
          · exact h11)
        rw [h10]; rfl

theorem rows_copy (p : Rows') : rowsOf (copyR p) = rowsOf p := by simp [rowsOf, copyR, Function.comp_def]
theorem copy_wf (f : F) (h : WF f) : WF (copyF f) := by
  have hr : ∀ p : Rows', WR p → WR (copyR p) := fun p hp => by
    refine ⟨by simpa [copyR] using hp.1, fun q hq => ?_⟩
    simp only [copyR, List.mem_map] at hq
    obtain ⟨q', h1, rfl⟩ := hq
    exact hp.2 q' h1
  exact ⟨h.s, h.r, hr _ h.fi, hr _ h.ne⟩

-- the law
theorem par22 {x : V} : ParOk Tryz.prog [22] [.d x] 0 := by
  refine ⟨fun e => ?_, trivial⟩
  rw [Tryz.underlying22]; simp
theorem ev3 (hgl : GL gl) (hwk : Ev Tryz.prog gl 8 [] [] (.bool true) []) (p : Bool × List F) (hp : p.2.length ≤ maxLen) (hw : ∀ f ∈ p.2, WF f) : Ev Tryz.prog gl 3 [.d (flv p)] [] (.bool true) [] := by
  refine fun_pure (xs := [flv p]) hgl.top (hgl.no 3 rfl) tree3_ok Tryz.func3 lent3 (by rw [Tryz.params3]; exact par22) (by simp [tops, top_flv]) (N := p.2.length + 1) ?_
  have hml : maxLen ≤ 9223372036854775807 := by decide
  have hwk' := phE_eq hwk
  have kfl : kOk (.sl 4) (flv p) = true := k_lv ..
  have vfl : vL (flv p) = p.2.map fv := vL_lv ..
  have stop : ∀ i : Nat, (ltz (i : Int) (p.2.length : Int) && ltz (i : Int) 24) = false → evT (phE Tryz.prog gl) gl (p.2.length + 1) lp3_1 ([flv p] ++ [.int .i64 (i : Int)]) = some (1, [.bool true]) := by
    intro i h1
    simp only [lp3_1]
    simp only [ev_f, ev_out, ev_esc, ev_letv, ev_kin, ev_call, at_z, at_s, kBool, ks_nil, Bool.and_self, bif_t, cons_app, nil_app, evB, evI, evL, evCs, evC, evSC, evAs, evLent, evVE, vI_int, cm_lss, joinL, sizesOk, vfl, h1, hwk', List.length_map]
  have go : ∀ i : Nat, (ltz (i : Int) (p.2.length : Int) && ltz (i : Int) 24) = true → evT (phE Tryz.prog gl) gl (p.2.length + 1) lp3_1 ([flv p] ++ [.int .i64 (i : Int)]) = some (0, [.int .i64 ((i + 1 : Nat) : Int)]) := by
    intro i h1
    have hi : i < p.2.length := by
      simp only [Bool.and_eq_true] at h1
      have := ltz_i.1 h1.1
      omega
    obtain ⟨f, hf⟩ : ∃ f, p.2[i]? = some f := ⟨p.2[i], by simp [hi]⟩
    have h2 := nth_map (h := fv) hf
    have hwf := hw f (List.mem_of_getElem? hf)
    have h4 := wrapS (i := i) (by omega)
    have e4 := phE_eq (ev4 hgl f hwf)
    have e5 := phE_eq (ev5 hgl (copyF f) (copy_wf f hwf))
    have e6 := phE_eq (ev6 hgl f hwf)
    have e7 := phE_eq (ev7 hgl f hwf)
    rw [show chkL (copyF f).s.2.length (copyF f).r.2 (rowsOf (copyF f).f) (rowsOf (copyF f).n) = mayL f.s.2.length f.r.2 (rowsOf f.f) (rowsOf f.n) by
      rw [plain]; simp only [copyF, rows_copy]] at e5
    generalize mayL f.s.2.length f.r.2 (rowsOf f.f) (rowsOf f.n) = b at e5 e6
    simp only [fv, fc] at h2 e4 e5 e6 e7
    simp only [lp3_1]
    cases h5 : ltz 3000 (f.n.2.length : Int) with
    | true => simp only [ev_t, ev_f, ev_out, ev_elem, ev_opn, at_z, at_s, ks_cons, ks_nil, Bool.and_self, Bool.not_true, bif_t, bif_f, cons_app, nil_app, evB, evI, evL, evCs, evC, vI_int, cm_lss, cm_gtr, biI, ltn_0, vfl, h1, h2, h4, h5, k_qv, k_iv, k_rv, vL_rv, List.length_map, Int.toNat_natCast]
    | false =>
    cases h6 : ltz 3000 (f.f.2.length : Int) with
    | true => simp only [ev_t, ev_out, ev_elem, ev_opn, at_z, at_s, ks_cons, ks_nil, Bool.and_self, Bool.not_false, bif_t, bif_f, cons_app, nil_app, evB, evI, evL, evCs, evC, vI_int, cm_lss, cm_gtr, biI, ltn_0, vfl, h1, h2, h4, h5, h6, k_qv, k_iv, k_rv, vL_rv, List.length_map, Int.toNat_natCast]
    | false => simp only [ev_t, ev_f, ev_out, ev_elem, ev_opn, ev_kin, ev_call, at_z, at_s, ks_cons, kBool, ks_nil, Bool.and_self, Bool.not_true, Bool.not_false, bif_t, bif_f, cons_app, nil_app, evB, evI, evL, evCs, evC, evSC, evAs, evA, evLent, vI_int, vB_bool, cm_lss, cm_gtr, biI, ltn_0, joinL, sizesOk, vfl, h1, h2, h4, h5, h6, e4, e5, e6, e7, k_qv, k_iv, k_rv, vL_rv, clr_qv, clr_iv, clr_rv, List.length_map, Int.toNat_natCast, beq_self_eq_true]
  have goal : ∀ m i : Nat, p.2.length - i < m → m ≤ p.2.length + 1 → loopI (phE Tryz.prog gl) gl (p.2.length + 1) lp3_1 [flv p] m [.int .i64 (i : Int)] = some (0, [.bool true]) := by
    intro m
    induction m with
    | zero => intro i h; omega
    | succ m ih =>
      intro i h hm
      cases h1 : (ltz (i : Int) (p.2.length : Int) && ltz (i : Int) 24) with
      | false => exact loopI_end (stop i h1)
      | true =>
        have hi : i < p.2.length := by
          simp only [Bool.and_eq_true] at h1
          have := ltz_i.1 h1.1
          omega
        exact loopI_go (go i h1) (ih (i + 1) (by omega) (by omega))
  simp only [tree3]
  simp only [ev_kin, ev_loop, at_z, evI, evCs, evC, kfl]
  exact loopT_I (goal (p.2.length + 1) 0 (by omega) (Nat.le_refl _))

end Go.Proofs.YtnlijejfagjbeaaGreatDoor
