/- Seat 1: what the functions of ExpandChecks come to, out of their trees; Seat 1: ExpandChecks: copies, the two sides, the law's loop, out of their trees; Seat 1: ExpandChecks: the models agree. Conditions: none but those that each theorem names. -/
import Derived.Test.YteijagcoejgnpaaGreatDoorVmD
import Derived.Test.YteijagcoejgnpaaGreatDoorVmH

namespace Go.Proofs.YteijagcoejgnpaaGreatDoor
set_option maxRecDepth 10000
open Go Go.Vm Go.Vm.Sx

theorem kArg (nl : Bool) (l : List V) : kOk (.sl 10) (argV nl l) = true := by
  rcases argV_cases nl l with h | ⟨_, h⟩ <;> rw [h] <;> rfl
theorem vL_arg (nl : Bool) (l : List V) : vL (argV nl l) = l := by
  rcases argV_cases nl l with h | ⟨h0, h⟩ <;> rw [h]
  · rfl
  · rw [h0]; rfl
theorem w64' {i : Nat} (h : i ≤ 140737488355328) : IntKind.i64.wrap ((i : Int) + 1) = ((i + 1 : Nat) : Int) := w64s (by omega)
theorem nth_encs {l : List E} {i : Nat} {a : E} (h : l[i]? = some a) : nth (encs l) i = some (enc a) := by rw [nth_eq, encs_get, h]; rfl

variable {gl : Gl}
structure GL (gl : Gl) : Prop where
  top : ∀ g off v, gl g off = some v → v.top = 0
  no : ∀ f, Nat.beq f 16 = false → ∀ args, gl.hk f args = none

theorem parE {x : V} : ParOk Tryz.prog [28] [.d x] 0 := by
  refine ⟨fun e => ?_, trivial⟩
  rw [Tryz.underlying28]; simp
theorem parEI {x y : V} : ParOk Tryz.prog [28, 3] [.d x, .d y] 0 := by
  refine ⟨fun e => ?_, fun e => ?_, trivial⟩
  · rw [Tryz.underlying28]; simp
  · rw [Tryz.underlying3]; simp
theorem lent63 : lentP Tryz.prog Tryz.f63.params.toList = some [] := by kernel_rfl
theorem lent64 : lentP Tryz.prog Tryz.f64.params.toList = some [] := by kernel_rfl
theorem lent42 : lentP Tryz.prog Tryz.f42.params.toList = some [] := by kernel_rfl
theorem lent10 : lentP Tryz.prog Tryz.f10.params.toList = some [] := by kernel_rfl
theorem lent12 : lentP Tryz.prog Tryz.f12.params.toList = some [] := by kernel_rfl
theorem lent41 : lentP Tryz.prog Tryz.f41.params.toList = some [] := by kernel_rfl

-- lean, kind
def leanB : E → Bool
  | .mk op pl s0 s1 s2 s3 text mn mx _ _ => ((pl == 0 && eqL text []) && (op == 2 || (s0 == 0 && (s1 == 0 && (s2 == 0 && s3 == 0))))) && (op == 7 || (mn == 0 && mx == 0))
def kindB : E → Bool
  | .mk op _ _ _ _ _ _ mn mx _ args =>
    if op == 1 then (args.length : Int) == 0 else if op == 2 then (args.length : Int) == 0 else if op == 5 then ltz 1 (args.length : Int) else if op == 6 then ltz 1 (args.length : Int) else
    if op == 7 then (args.length : Int) == 1 && ((mn == 0 && mx == -1 || mn == 1 && mx == -1) || mn == 0 && mx == 1) else false
theorem ev63 (hgl : GL gl) : ∀ (e : E), Ev Tryz.prog gl 63 [.d (enc e)] [] (.bool (leanB e)) []
  | .mk op pl s0 s1 s2 s3 text mn mx nl args => by
    refine fun_pure (xs := [enc (.mk op pl s0 s1 s2 s3 text mn mx nl args)]) hgl.top (hgl.no 63 rfl) tree63_ok Tryz.func63 lent63 parE (by simp [tops, top_enc]) (N := 1) ?_
    simp only [tree63, enc]
    simp only [ev_out, ev_letv, ev_opn, at_z, at_s, ks_cons, kInt, kStr, ks_nil, Bool.and_self, bif_t, cons_app, nil_app, evB, evI, evS, evCs, evC, evSC, evVE, vI_int, vS_str, cm_eql, cmS, kArg, leanB]
theorem ev64 (hgl : GL gl) : ∀ (e : E), Ev Tryz.prog gl 64 [.d (enc e)] [] (.bool (kindB e)) []
  | .mk op pl s0 s1 s2 s3 text mn mx nl args => by
    refine fun_pure (xs := [enc (.mk op pl s0 s1 s2 s3 text mn mx nl args)]) hgl.top (hgl.no 64 rfl) tree64_ok Tryz.func64 lent64 parE (by simp [tops, top_enc]) (N := 1) ?_
    simp only [tree64, enc, kindB]
    cases h1 : op == 1 with
    | true => simp only [ev_t, ev_out, ev_letv, ev_opn, at_z, at_s, ks_cons, kInt, kStr, ks_nil, Bool.and_self, bif_t, cons_app, nil_app, evB, evI, evL, evCs, evC, evSC, evVE, vI_int, cm_eql, kArg, vL_arg, h1, encs_length, if_true]
    | false =>
    cases h2 : op == 2 with
    | true => simp only [ev_t, ev_f, ev_out, ev_letv, ev_opn, at_z, at_s, ks_cons, kInt, kStr, ks_nil, Bool.and_self, bif_t, cons_app, nil_app, evB, evI, evL, evCs, evC, evSC, evVE, vI_int, cm_eql, kArg, vL_arg, h1, h2, encs_length, if_true, if_false, Bool.false_eq_true]
    | false =>
    cases h3 : op == 5 with
    | true => simp only [ev_t, ev_f, ev_out, ev_letv, ev_opn, at_z, at_s, ks_cons, kInt, kStr, ks_nil, Bool.and_self, bif_t, cons_app, nil_app, evB, evI, evL, evCs, evC, evSC, evVE, vI_int, cm_gtr, cm_eql, kArg, vL_arg, h1, h2, h3, encs_length, if_true, if_false, Bool.false_eq_true]
    | false =>
    cases h4 : op == 6 with
    | true => simp only [ev_t, ev_f, ev_out, ev_letv, ev_opn, at_z, at_s, ks_cons, kInt, kStr, ks_nil, Bool.and_self, bif_t, cons_app, nil_app, evB, evI, evL, evCs, evC, evSC, evVE, vI_int, cm_gtr, cm_eql, kArg, vL_arg, h1, h2, h3, h4, encs_length, if_true, if_false, Bool.false_eq_true]
    | false =>
    cases h5 : op == 7 with
    | true => simp only [ev_t, ev_f, ev_out, ev_letv, ev_opn, at_z, at_s, ks_cons, kInt, kStr, ks_nil, Bool.and_self, bif_t, cons_app, nil_app, evB, evI, evL, evCs, evC, evSC, evVE, vI_int, cm_eql, kArg, vL_arg, h1, h2, h3, h4, h5, encs_length, if_true, if_false, Bool.false_eq_true]
    | false => simp only [ev_f, ev_out, ev_letv, ev_opn, at_z, at_s, ks_cons, kInt, kStr, ks_nil, Bool.and_self, bif_t, cons_app, nil_app, evB, evI, evCs, evC, evSC, evVE, vI_int, cm_eql, kArg, h1, h2, h3, h4, h5, if_false, Bool.false_eq_true]

-- sets
mutual
def setsL : E → Int
  | .mk op _ _ _ _ _ _ _ _ _ args => setsF (if op == 2 then 1 else 0) args
def setsF : Int → List E → Int
  | n, [] => n
  | n, a :: l => setsF (IntKind.i64.wrap (n + setsL a)) l
end

theorem ev42 (hgl : GL gl) : ∀ (e : E), Wf e → Ev Tryz.prog gl 42 [.d (enc e)] [] (.int .i64 (setsL e)) []
  | .mk op pl s0 s1 s2 s3 text mn mx nl args, hw => by
    have hml := maxLen_le
    have hlen := hw.2.1
    have hargs : ∀ i a, args[i]? = some a → phE Tryz.prog gl 42 [.d (enc a)] [] = some (.int .i64 (setsL a), []) := fun i a h =>
      have ha := List.mem_of_getElem? h
      phE_eq (ev42 hgl a (hw.2.2.mem ha))
    refine fun_pure (xs := [enc (.mk op pl s0 s1 s2 s3 text mn mx nl args)]) hgl.top (hgl.no 42 rfl) tree42_ok Tryz.func42 lent42 parE (by simp [tops, top_enc]) (N := args.length + 1) ?_
    have key : ∀ (l : List E) (i : Nat) (n : Int), args.drop i = l → ∀ k, l.length < k → loopI (phE Tryz.prog gl) gl (args.length + 1) lp42_1 [.agg [.int .i64 op, .int .i64 pl, .int .u64 s0, .int .u64 s1, .int .u64 s2, .int .u64 s3, .str text, .int .i64 mn, .int .i64 mx, argV nl (encs args)], .int .i64 op, .int .i64 pl, .int .u64 s0, .int .u64 s1, .int .u64 s2, .int .u64 s3, .str text, .int .i64 mn, .int .i64 mx, argV nl (encs args)] k [.int .i64 n, .int .i64 (i : Int)] = some (0, [.int .i64 (setsF n l)]) := by
      simp only [lp42_1]
      intro l
      induction l with
      | nil =>
        intro i n hd k hk
        obtain ⟨k, rfl⟩ : ∃ k', k = k' + 1 := ⟨k - 1, by omega⟩
        refine loopI_end ?_
        have h1 := ltn_f (drop_none hd)
        simp only [ev_f, ev_out, ev_esc, ev_letv, at_z, at_s, cons_app, nil_app, evB, evI, evL, evCs, evC, evSC, evVE, vI_int, cm_lss, clr_int, vL_arg, h1, encs_length, setsF]
      | cons a l ih =>
        intro i n hd k hk
        obtain ⟨k, rfl⟩ : ∃ k', k = k' + 1 := ⟨k - 1, by omega⟩
        obtain ⟨ha, hi, hd'⟩ := drop_cons hd
        refine loopI_go (vs := [.int .i64 (IntKind.i64.wrap (n + setsL a)), .int .i64 ((i + 1 : Nat) : Int)]) ?_ (ih (i + 1) _ hd' k (by simp at hk; omega))
        have hc := hargs i a ha
        have h1 := ltn_t hi
        have h2 := nth_encs ha
        have h4 := w64s (i := i) (by omega)
        obtain ⟨op', pl', s0', s1', s2', s3', text', mn', mx', nl', args'⟩ := a
        simp only [enc] at hc h2
        simp only [ev_t, ev_out, ev_elem, ev_opn, ev_kin, ev_call, at_z, at_s, ks_cons, kInt, kStr, ks_nil, Bool.and_self, bif_t, bif_f, cons_app, nil_app, evB, evI, evL, evCs, evC, evSC, evAs, evA, evLent, vI_int, cm_lss, biI, ltn_0, joinL, sizesOk, kArg, vL_arg, h1, h2, h4, hc, encs_length, Int.toNat_natCast]
    simp only [tree42, enc, setsL]
    cases hop : op == 2 with
    | true =>
      simp only [ev_t, ev_opn, ev_loop, at_z, at_s, ks_cons, kInt, kStr, ks_nil, Bool.and_self, bif_t, cons_app, nil_app, evB, evI, evCs, evC, vI_int, cm_eql, kArg, hop]
      refine loopT_I (key args 0 1 (by simp) _ (by omega))
    | false =>
      simp only [ev_f, ev_opn, ev_loop, at_z, at_s, ks_cons, kInt, kStr, ks_nil, Bool.and_self, bif_t, cons_app, nil_app, evB, evI, evCs, evC, vI_int, cm_eql, kArg, hop]
      refine loopT_I (key args 0 0 (by simp) _ (by omega))
termination_by e => hg e
decreasing_by simp only [hg]; have := hg_le ha; omega

-- how great
mutual
def sizeM : E → Int → Int
  | .mk _ _ _ _ _ _ text _ _ _ args, deep => if ltz 5000 deep then 1048576 else sizeF (IntKind.i64.wrap (deep + 1)) (IntKind.i64.wrap (1 + IntKind.i64.wrap ((text.length : Int).tdiv 20))) args
def sizeF : Int → Int → List E → Int
  | _, n, [] => n
  | d, n, a :: l => if ltz n 1048576 then sizeF d (IntKind.i64.wrap (n + sizeM a d)) l else n
end
theorem ev10 (hgl : GL gl) : ∀ (e : E), Wf e → ∀ d, Ev Tryz.prog gl 10 [.d (enc e), .d (.int .i64 d)] [] (.int .i64 (sizeM e d)) []
  | .mk op pl s0 s1 s2 s3 text mn mx nl args, hw => by
    intro d
    have hml := maxLen_le
    have hlen := hw.2.1
    have hargs : ∀ i a, args[i]? = some a → ∀ d, phE Tryz.prog gl 10 [.d (enc a), .d (.int .i64 d)] [] = some (.int .i64 (sizeM a d), []) := fun i a h d =>
      have ha := List.mem_of_getElem? h
      phE_eq (ev10 hgl a (hw.2.2.mem ha) d)
    refine fun_pure (xs := [enc (.mk op pl s0 s1 s2 s3 text mn mx nl args), .int .i64 d]) hgl.top (hgl.no 10 rfl) tree10_ok Tryz.func10 lent10 parEI (by simp [tops, top_enc]; rfl) (N := args.length + 1) ?_
    have key : ∀ (l : List E) (i : Nat) (n : Int), args.drop i = l → ∀ k, l.length < k → loopI (phE Tryz.prog gl) gl (args.length + 1) lp10_1
        [.agg [.int .i64 op, .int .i64 pl, .int .u64 s0, .int .u64 s1, .int .u64 s2, .int .u64 s3, .str text, .int .i64 mn, .int .i64 mx, argV nl (encs args)], .int .i64 d, .int .i64 op, .int .i64 pl, .int .u64 s0, .int .u64 s1, .int .u64 s2, .int .u64 s3, .str text, .int .i64 mn, .int .i64 mx, argV nl (encs args)]
        k [.int .i64 n, .int .i64 (i : Int)] = some (0, [.int .i64 (sizeF (IntKind.i64.wrap (d + 1)) n l)]) := by
      simp only [lp10_1]
      intro l
      induction l with
      | nil =>
        intro i n hd k hk
        obtain ⟨k, rfl⟩ : ∃ k', k = k' + 1 := ⟨k - 1, by omega⟩
        refine loopI_end ?_
        have h1 := ltn_f (drop_none hd)
        simp only [ev_f, ev_out, ev_esc, ev_letv, at_z, at_s, Bool.false_and, cons_app, nil_app, evB, evI, evL, evCs, evC, evSC, evVE, vI_int, cm_lss, clr_int, vL_arg, h1, encs_length, sizeF]
      | cons a l ih =>
        intro i n hd k hk
        obtain ⟨k, rfl⟩ : ∃ k', k = k' + 1 := ⟨k - 1, by omega⟩
        obtain ⟨ha, hi, hd'⟩ := drop_cons hd
        have h1 := ltn_t hi
        cases h5 : ltz n 1048576 with
        | false =>
          refine loopI_end ?_
          simp only [ev_f, ev_out, ev_esc, ev_letv, at_z, at_s, Bool.and_false, cons_app, nil_app, evB, evI, evL, evCs, evC, evSC, evVE, vI_int, cm_lss, clr_int, vL_arg, h1, h5, encs_length, sizeF, if_false, Bool.false_eq_true]
        | true =>
        refine loopI_go (vs := [.int .i64 (IntKind.i64.wrap (n + sizeM a (IntKind.i64.wrap (d + 1)))), .int .i64 ((i + 1 : Nat) : Int)]) ?_ (by simp only [sizeF, h5, if_true]; exact ih (i + 1) _ hd' k (by simp at hk; omega))
        have hc := hargs i a ha
        have h2 := nth_encs ha
        have h4 := w64s (i := i) (by omega)
        obtain ⟨op', pl', s0', s1', s2', s3', text', mn', mx', nl', args'⟩ := a
        simp only [enc] at hc h2
        simp only [ev_t, ev_out, ev_elem, ev_opn, ev_kin, ev_call, at_z, at_s, ks_cons, kInt, kStr, ks_nil, Bool.and_self, bif_t, bif_f, cons_app, nil_app, evB, evI, evL, evCs, evC, evSC, evAs, evA, evLent, vI_int, cm_lss, biI, ltn_0, joinL, sizesOk, kArg, vL_arg, h1, h2, h4, h5, hc, encs_length, Int.toNat_natCast]
    simp only [tree10, enc, sizeM]
    cases hd : ltz 5000 d with
    | true => simp only [ev_t, ev_out, ev_letv, ev_opn, ev_kin, at_z, at_s, ks_cons, kInt, kStr, ks_nil, Bool.and_self, bif_t, cons_app, nil_app, evB, evI, evCs, evC, evSC, evVE, vI_int, cm_gtr, kArg, hd, if_true]
    | false =>
      simp only [ev_f, ev_opn, ev_kin, ev_loop, at_z, at_s, ks_cons, kInt, kStr, ks_nil, Bool.and_self, bif_t, cons_app, nil_app, evB, evI, evS, evCs, evC, vI_int, vS_str, cm_gtr, biI, kArg, hd, if_false, Bool.false_eq_true]
      exact loopT_I (key args 0 _ (by simp) _ (by omega))
termination_by e => hg e
decreasing_by simp only [hg]; have := hg_le ha; omega

-- counted
def bad41 : E → Bool
  | .mk op _ _ _ _ _ _ mn mx _ args =>
    if op == 1 then (ltz 0 (args.length : Int) || !(mn == 0)) || !(mx == 0) else if op == 2 then (ltz 0 (args.length : Int) || !(mn == 0)) || !(mx == 0) else
    if op == 5 then (ltz (args.length : Int) 2 || !(mn == 0)) || !(mx == 0) else if op == 6 then (ltz (args.length : Int) 2 || !(mn == 0)) || !(mx == 0) else
    if op == 7 then !((args.length : Int) == 1) || !(mn == 0 && (mx == -1 || mx == 1) || mn == 1 && mx == -1) else true
def hdr41 : E → Int → Bool
  | .mk op pl s0 s1 s2 s3 text _ _ _ _, left => ((ltz left 1 || !(pl == 0)) || !(eqL text [])) || (!(op == 2) && !(s0 == 0 && (s1 == 0 && (s2 == 0 && s3 == 0))))
mutual
def cntM : E → Int → Int
  | .mk op pl s0 s1 s2 s3 text mn mx nl args, left => if hdr41 (.mk op pl s0 s1 s2 s3 text mn mx nl args) left then 65537 else if bad41 (.mk op pl s0 s1 s2 s3 text mn mx nl args) then 65537 else cntF (IntKind.i64.wrap (left - 1)) 1 args
def cntF : Int → Int → List E → Int
  | _, n, [] => n
  | d, n, a :: l => if lez n 65536 then cntF d (IntKind.i64.wrap (n + cntM a d)) l else n
end
theorem ev41 (hgl : GL gl) : ∀ (e : E), Wf e → ∀ d, Ev Tryz.prog gl 41 [.d (enc e), .d (.int .i64 d)] [] (.int .i64 (cntM e d)) []
  | .mk op pl s0 s1 s2 s3 text mn mx nl args, hw => by
    intro d
    have hml := maxLen_le
    have hlen := hw.2.1
    have hargs : ∀ i a, args[i]? = some a → ∀ d, phE Tryz.prog gl 41 [.d (enc a), .d (.int .i64 d)] [] = some (.int .i64 (cntM a d), []) := fun i a h d =>
      have ha := List.mem_of_getElem? h
      phE_eq (ev41 hgl a (hw.2.2.mem ha) d)
    refine fun_pure (xs := [enc (.mk op pl s0 s1 s2 s3 text mn mx nl args), .int .i64 d]) hgl.top (hgl.no 41 rfl) tree41_ok Tryz.func41 lent41 parEI (by simp [tops, top_enc]; rfl) (N := args.length + 1) ?_
    have key : ∀ (l : List E) (i : Nat) (n : Int), args.drop i = l → ∀ k, l.length < k → loopI (phE Tryz.prog gl) gl (args.length + 1) lp41_1
        [.agg [.int .i64 op, .int .i64 pl, .int .u64 s0, .int .u64 s1, .int .u64 s2, .int .u64 s3, .str text, .int .i64 mn, .int .i64 mx, argV nl (encs args)], .int .i64 d, .int .i64 op, .int .i64 pl, .int .u64 s0, .int .u64 s1, .int .u64 s2, .int .u64 s3, .str text, .int .i64 mn, .int .i64 mx, argV nl (encs args)]
        k [.int .i64 n, .int .i64 (i : Int)] = some (0, [.int .i64 (cntF (IntKind.i64.wrap (d - 1)) n l)]) := by
      simp only [lp41_1]
      intro l
      induction l with
      | nil =>
        intro i n hd k hk
        obtain ⟨k, rfl⟩ : ∃ k', k = k' + 1 := ⟨k - 1, by omega⟩
        refine loopI_end ?_
        have h1 := ltn_f (drop_none hd)
        simp only [ev_f, ev_out, ev_esc, ev_letv, at_z, at_s, Bool.false_and, cons_app, nil_app, evB, evI, evL, evCs, evC, evSC, evVE, vI_int, cm_lss, cm_leq, clr_int, vL_arg, h1, encs_length, cntF]
      | cons a l ih =>
        intro i n hd k hk
        obtain ⟨k, rfl⟩ : ∃ k', k = k' + 1 := ⟨k - 1, by omega⟩
        obtain ⟨ha, hi, hd'⟩ := drop_cons hd
        have h1 := ltn_t hi
        cases h5 : lez n 65536 with
        | false =>
          refine loopI_end ?_
          simp only [ev_f, ev_out, ev_esc, ev_letv, at_z, at_s, Bool.and_false, cons_app, nil_app, evB, evI, evL, evCs, evC, evSC, evVE, vI_int, cm_lss, cm_leq, clr_int, vL_arg, h1, h5, encs_length, cntF, if_false, Bool.false_eq_true]
        | true =>
        refine loopI_go (vs := [.int .i64 (IntKind.i64.wrap (n + cntM a (IntKind.i64.wrap (d - 1)))), .int .i64 ((i + 1 : Nat) : Int)]) ?_ (by simp only [cntF, h5, if_true]; exact ih (i + 1) _ hd' k (by simp at hk; omega))
        have hc := hargs i a ha
        have h2 := nth_encs ha
        have h4 := w64s (i := i) (by omega)
        obtain ⟨op', pl', s0', s1', s2', s3', text', mn', mx', nl', args'⟩ := a
        simp only [enc] at hc h2
        simp only [ev_t, ev_out, ev_elem, ev_opn, ev_kin, ev_call, at_z, at_s, ks_cons, kInt, kStr, ks_nil, Bool.and_self, bif_t, bif_f, cons_app, nil_app, evB, evI, evL, evCs, evC, evSC, evAs, evA, evLent, vI_int, cm_lss, cm_leq, biI, ltn_0, joinL, sizesOk, kArg, vL_arg, h1, h2, h4, h5, hc, encs_length, Int.toNat_natCast]
    simp only [tree41, enc, cntM]
    simp only [ev_opn, ev_kin, at_z, at_s, ks_cons, kInt, kStr, ks_nil, Bool.and_self, bif_t, cons_app, nil_app, kArg]
    cases hh : hdr41 (.mk op pl s0 s1 s2 s3 text mn mx nl args) d with
    | true =>
      refine (ev_t (by exact hh)).trans ?_
      simp only [ev_out, ev_letv, at_z, at_s, cons_app, nil_app, evI, evCs, evC, evSC, evVE, if_true]
    | false =>
    refine (ev_f (by exact hh)).trans ?_
    simp only [Bool.false_eq_true, if_false]
    cases h1 : op == 1 with
    | true =>
      cases hb : bad41 (.mk op pl s0 s1 s2 s3 text mn mx nl args) with
      | true =>
        have hb' := hb
        simp only [bad41, h1, if_true] at hb'
        simp only [ev_t, ev_out, ev_letv, at_z, at_s, cons_app, nil_app, evB, evI, evL, evCs, evC, evSC, evVE, vI_int, cm_gtr, cm_eql, vL_arg, h1, hb', encs_length, if_true]
      | false =>
        have hb' := hb
        simp only [bad41, h1, if_true] at hb'
        simp only [ev_t, ev_f, ev_loop, at_z, at_s, evB, evI, evL, evCs, evC, vI_int, cm_gtr, cm_eql, vL_arg, h1, hb', encs_length, if_false, Bool.false_eq_true]
        exact loopT_I (key args 0 _ (by simp) _ (by omega))
    | false =>
    cases h2 : op == 2 with
    | true =>
      cases hb : bad41 (.mk op pl s0 s1 s2 s3 text mn mx nl args) with
      | true =>
        have hb' := hb
        simp only [bad41, h1, h2, if_true, if_false, Bool.false_eq_true] at hb'
        simp only [ev_t, ev_f, ev_out, ev_letv, at_z, at_s, cons_app, nil_app, evB, evI, evL, evCs, evC, evSC, evVE, vI_int, cm_gtr, cm_eql, vL_arg, h1, h2, hb', encs_length, if_true]
      | false =>
        have hb' := hb
        simp only [bad41, h1, h2, if_true, if_false, Bool.false_eq_true] at hb'
        simp only [ev_t, ev_f, ev_loop, at_z, at_s, evB, evI, evL, evCs, evC, vI_int, cm_gtr, cm_eql, vL_arg, h1, h2, hb', encs_length, if_false, Bool.false_eq_true]
        exact loopT_I (key args 0 _ (by simp) _ (by omega))
    | false =>
    cases h3 : op == 5 with
    | true =>
      cases hb : bad41 (.mk op pl s0 s1 s2 s3 text mn mx nl args) with
      | true =>
        have hb' := hb
        simp only [bad41, h1, h2, h3, if_true, if_false, Bool.false_eq_true] at hb'
        simp only [ev_t, ev_f, ev_out, ev_letv, at_z, at_s, cons_app, nil_app, evB, evI, evL, evCs, evC, evSC, evVE, vI_int, cm_lss, cm_eql, vL_arg, h1, h2, h3, hb', encs_length, if_true]
      | false =>
        have hb' := hb
        simp only [bad41, h1, h2, h3, if_true, if_false, Bool.false_eq_true] at hb'
        simp only [ev_t, ev_f, ev_loop, at_z, at_s, evB, evI, evL, evCs, evC, vI_int, cm_lss, cm_eql, vL_arg, h1, h2, h3, hb', encs_length, if_false, Bool.false_eq_true]
        exact loopT_I (key args 0 _ (by simp) _ (by omega))
    | false =>
    cases h4 : op == 6 with
    | true =>
      cases hb : bad41 (.mk op pl s0 s1 s2 s3 text mn mx nl args) with
      | true =>
        have hb' := hb
        simp only [bad41, h1, h2, h3, h4, if_true, if_false, Bool.false_eq_true] at hb'
        simp only [ev_t, ev_f, ev_out, ev_letv, at_z, at_s, cons_app, nil_app, evB, evI, evL, evCs, evC, evSC, evVE, vI_int, cm_lss, cm_eql, vL_arg, h1, h2, h3, h4, hb', encs_length, if_true]
      | false =>
        have hb' := hb
        simp only [bad41, h1, h2, h3, h4, if_true, if_false, Bool.false_eq_true] at hb'
        simp only [ev_t, ev_f, ev_loop, at_z, at_s, evB, evI, evL, evCs, evC, vI_int, cm_lss, cm_eql, vL_arg, h1, h2, h3, h4, hb', encs_length, if_false, Bool.false_eq_true]
        exact loopT_I (key args 0 _ (by simp) _ (by omega))
    | false =>
    cases h5 : op == 7 with
    | true =>
      cases hb : bad41 (.mk op pl s0 s1 s2 s3 text mn mx nl args) with
      | true =>
        have hb' := hb
        simp only [bad41, h1, h2, h3, h4, h5, if_true, if_false, Bool.false_eq_true] at hb'
        simp only [ev_t, ev_f, ev_out, ev_letv, at_z, at_s, cons_app, nil_app, evB, evI, evL, evCs, evC, evSC, evVE, vI_int, cm_eql, vL_arg, h1, h2, h3, h4, h5, hb', encs_length, if_true]
      | false =>
        have hb' := hb
        simp only [bad41, h1, h2, h3, h4, h5, if_true, if_false, Bool.false_eq_true] at hb'
        simp only [ev_t, ev_f, ev_loop, at_z, at_s, evB, evI, evL, evCs, evC, vI_int, cm_eql, vL_arg, h1, h2, h3, h4, h5, hb', encs_length, if_false, Bool.false_eq_true]
        exact loopT_I (key args 0 _ (by simp) _ (by omega))
    | false => simp only [ev_f, ev_out, ev_letv, at_z, at_s, cons_app, nil_app, evB, evI, evCs, evC, evSC, evVE, vI_int, cm_eql, bad41, h1, h2, h3, h4, h5, if_true, if_false, Bool.false_eq_true]
termination_by e => hg e
decreasing_by simp only [hg]; have := hg_le ha; omega

-- parts
mutual
def partsM : E → Int → Int → Int → Bool × Int × Int
  | .mk op pl s0 s1 s2 s3 text mn mx nl args, d, n, s =>
    if (ltz 65536 (IntKind.i64.wrap (n + 1)) || ltz 4096 d) then (false, IntKind.i64.wrap (n + 1), s) else
    if leanB (.mk op pl s0 s1 s2 s3 text mn mx nl args) then
      if kindB (.mk op pl s0 s1 s2 s3 text mn mx nl args) then partsF (IntKind.i64.wrap (d + 1)) args (IntKind.i64.wrap (n + 1)) (if op == 2 then IntKind.i64.wrap (s + 1) else s)
      else (false, IntKind.i64.wrap (n + 1), s)
    else (false, IntKind.i64.wrap (n + 1), s)
def partsF : Int → List E → Int → Int → Bool × Int × Int
  | _, [], n, s => (true, n, s)
  | d, a :: l, n, s => if (partsM a d n s).1 then partsF d l (partsM a d n s).2.1 (partsM a d n s).2.2 else partsM a d n s
end
def av40 (e : E) (d : Int) : List AV := [.d (enc e), .d (.int .i64 d), .p 0 0, .p 1 0]
def fp40 (n s : Int) : List (List V × TypeId) := [([.int .i64 n], 3), ([.int .i64 s], 3)]
def out40 (r : Bool × Int × Int) : List (List V) := [[.int .i64 r.2.1], [.int .i64 r.2.2]]
theorem lent40 : lentP Tryz.prog Tryz.f40.params.toList = some [(3, [.int .i64]), (3, [.int .i64])] := by kernel_rfl
theorem par40 {x y : V} : ParOk Tryz.prog [28, 3, 92, 92] [.d x, .d y, .p 0 0, .p 1 0] 0 := by
  refine ⟨fun e => ?_, fun e => ?_, ⟨3, Tryz.underlying92⟩, rfl, rfl, ⟨3, Tryz.underlying92⟩, rfl, rfl, trivial⟩
  · rw [Tryz.underlying28]; simp
  · rw [Tryz.underlying3]; simp
theorem ev40 (hgl : GL gl) : ∀ (e : E), Wf e → ∀ d n s, Ev Tryz.prog gl 40 (av40 e d) (fp40 n s) (.bool (partsM e d n s).1) (out40 (partsM e d n s))
  | .mk op pl s0 s1 s2 s3 text mn mx nl args, hw => by
    intro d n s
    have hml := maxLen_le
    have hlen := hw.2.1
    have hargs : ∀ i a, args[i]? = some a → ∀ d n s, phE Tryz.prog gl 40 (av40 a d) (fp40 n s) = some (.bool (partsM a d n s).1, out40 (partsM a d n s)) := fun i a h d n s =>
      have ha := List.mem_of_getElem? h
      phE_eq (ev40 hgl a (hw.2.2.mem ha) d n s)
    refine xFun_ok (N := args.length + 1) (env_of hgl.top) (hgl.no 40 rfl) tree40_ok Tryz.func40 lent40 (avs := av40 _ d) (by rw [Tryz.params40]; exact par40) (fp := fp40 n s) (show FpOk [(3, [.int .i64]), (3, [.int .i64])] (fp40 n s) from ⟨rfl, rfl, rfl, rfl, rfl, rfl, trivial⟩) (fun x hx => ?_) (show szOk (fp40 n s) (out40 _) from ⟨rfl, rfl, trivial⟩) ?_
    · simp only [av40, List.mem_cons, AV.d.injEq, reduceCtorEq, List.not_mem_nil, or_false] at hx
      rcases hx with rfl | rfl
      · exact top_enc _
      · rfl
    have key : ∀ (l : List E) (i : Nat) (n' s' : Int), args.drop i = l → ∀ k, l.length < k → loopI (phE Tryz.prog gl) gl (args.length + 1) lp40_1
        [.agg [.int .i64 op, .int .i64 pl, .int .u64 s0, .int .u64 s1, .int .u64 s2, .int .u64 s3, .str text, .int .i64 mn, .int .i64 mx, argV nl (encs args)], .int .i64 d, .nilp, .nilp, .int .i64 n, .int .i64 s, .int .i64 op, .int .i64 pl, .int .u64 s0, .int .u64 s1, .int .u64 s2, .int .u64 s3, .str text, .int .i64 mn, .int .i64 mx, argV nl (encs args), .bool true, .bool true]
        k [.int .i64 (i : Int), .int .i64 n', .int .i64 s'] = some (0, [.bool (partsF (IntKind.i64.wrap (d + 1)) l n' s').1, .int .i64 (partsF (IntKind.i64.wrap (d + 1)) l n' s').2.1, .int .i64 (partsF (IntKind.i64.wrap (d + 1)) l n' s').2.2]) := by
      simp only [lp40_1]
      intro l
      induction l with
      | nil =>
        intro i n' s' hd k hk
        obtain ⟨k, rfl⟩ : ∃ k', k = k' + 1 := ⟨k - 1, by omega⟩
        refine loopI_end ?_
        have h1 := ltn_f (drop_none hd)
        simp only [ev_f, ev_out, ev_esc, ev_letv, at_z, at_s, cons_app, nil_app, evB, evI, evL, evCs, evC, evSC, evVE, vI_int, cm_lss, vL_arg, h1, encs_length, partsF]
      | cons a l ih =>
        intro i n' s' hd k hk
        obtain ⟨k, rfl⟩ : ∃ k', k = k' + 1 := ⟨k - 1, by omega⟩
        obtain ⟨ha, hi, hd'⟩ := drop_cons hd
        have h1 := ltn_t hi
        have hc := hargs i a ha (IntKind.i64.wrap (d + 1)) n' s'
        have h2 := nth_encs ha
        have h4 := w64s (i := i) (by omega)
        have hf : partsF (IntKind.i64.wrap (d + 1)) (a :: l) n' s' = if (partsM a (IntKind.i64.wrap (d + 1)) n' s').1 then partsF (IntKind.i64.wrap (d + 1)) l (partsM a (IntKind.i64.wrap (d + 1)) n' s').2.1 (partsM a (IntKind.i64.wrap (d + 1)) n' s').2.2 else partsM a (IntKind.i64.wrap (d + 1)) n' s' := by simp only [partsF]
        rw [hf]
        cases hp : (partsM a (IntKind.i64.wrap (d + 1)) n' s').1 with
        | false =>
          refine loopI_end ?_
          simp only [Bool.false_eq_true, if_false, hp]
          rw [hp] at hc
          obtain ⟨op', pl', s0', s1', s2', s3', text', mn', mx', nl', args'⟩ := a
          simp only [enc, av40, fp40, out40] at hc h2
          simp only [ev_t, ev_out, ev_esc, ev_letv, ev_elem, ev_opn, ev_kin, ev_call, at_z, at_s, ks_cons, kInt, kStr, kBool, ks_nil, Bool.and_self, Bool.not_false, bif_t, bif_f, cons_app, nil_app, app_nil, evB, evI, evL, evCs, evC, evSC, evAs, evA, evLent, evVE, vI_int, vB_bool, cm_lss, biI, ltn_0, joinL, sizesOk, clr_int, clr_str, Nat.beq_refl, List.length_cons, List.length_nil, kArg, vL_arg, clr_argV, h1, h2, hc, encs_length, Int.toNat_natCast]
        | true =>
          simp only [if_true]
          refine loopI_go (vs := [.int .i64 ((i + 1 : Nat) : Int), .int .i64 (partsM a (IntKind.i64.wrap (d + 1)) n' s').2.1, .int .i64 (partsM a (IntKind.i64.wrap (d + 1)) n' s').2.2]) ?_ (ih (i + 1) _ _ hd' k (by simp at hk; omega))
          rw [hp] at hc
          obtain ⟨op', pl', s0', s1', s2', s3', text', mn', mx', nl', args'⟩ := a
          simp only [enc, av40, fp40, out40] at hc h2
          simp only [ev_t, ev_f, ev_out, ev_elem, ev_opn, ev_kin, ev_call, at_z, at_s, ks_cons, kInt, kStr, kBool, ks_nil, Bool.and_self, Bool.not_true, bif_t, bif_f, cons_app, nil_app, app_nil, evB, evI, evL, evCs, evC, evSC, evAs, evA, evLent, vI_int, vB_bool, cm_lss, biI, ltn_0, joinL, sizesOk, clr_int, clr_str, Nat.beq_refl, List.length_cons, List.length_nil, kArg, vL_arg, clr_argV, h1, h2, h4, hc, encs_length, Int.toNat_natCast]
    have e63 := phE_eq (ev63 hgl (.mk op pl s0 s1 s2 s3 text mn mx nl args))
    have e64 := phE_eq (ev64 hgl (.mk op pl s0 s1 s2 s3 text mn mx nl args))
    simp only [enc] at e63 e64
    simp only [tree40, av40, fp40, out40, rho0, lentV, List.map_cons, List.map_nil, holdA, enc, partsM]
    cases h1 : (ltz 65536 (IntKind.i64.wrap (n + 1)) || ltz 4096 d) with
    | true => simp only [ev_f, ev_out, ev_letv, ev_opn, ev_kin, at_z, at_s, ks_cons, kInt, kStr, ks_nil, Bool.and_self, Bool.not_true, bif_t, cons_app, nil_app, app_nil, evB, evI, evCs, evC, evSC, evVE, vI_int, cm_gtr, biI, joinL, kArg, h1, if_true]
    | false =>
    cases h2 : leanB (.mk op pl s0 s1 s2 s3 text mn mx nl args) with
    | false => simp only [ev_t, ev_f, ev_out, ev_letv, ev_opn, ev_kin, ev_call, at_z, at_s, ks_cons, kInt, kStr, kBool, ks_nil, Bool.and_self, Bool.not_false, bif_t, cons_app, nil_app, app_nil, evB, evI, evCs, evC, evSC, evAs, evA, evLent, evVE, vI_int, vB_bool, cm_gtr, biI, joinL, sizesOk, clr_int, clr_str, kArg, clr_argV, h1, e63, h2, if_false, Bool.false_eq_true]
    | true =>
    cases h3 : kindB (.mk op pl s0 s1 s2 s3 text mn mx nl args) with
    | false => simp only [ev_t, ev_out, ev_letv, ev_opn, ev_kin, ev_call, at_z, at_s, ks_cons, kInt, kStr, kBool, ks_nil, Bool.and_self, Bool.not_false, bif_t, cons_app, nil_app, app_nil, evB, evI, evCs, evC, evSC, evAs, evA, evLent, evVE, vI_int, vB_bool, cm_gtr, biI, joinL, sizesOk, clr_int, clr_str, kArg, clr_argV, h1, e63, e64, h2, h3, if_true, if_false, Bool.false_eq_true]
    | true =>
    cases hop : op == 2 with
    | true =>
      simp only [ev_t, ev_f, ev_opn, ev_kin, ev_call, ev_loop, at_z, at_s, ks_cons, kInt, kStr, kBool, ks_nil, Bool.and_self, Bool.not_true, Bool.not_false, bif_t, cons_app, nil_app, app_nil, evB, evI, evCs, evC, evSC, evAs, evA, evLent, vI_int, vB_bool, cm_gtr, cm_eql, biI, joinL, sizesOk, clr_int, clr_str, kArg, clr_argV, h1, e63, e64, h2, h3, hop, if_true, if_false, Bool.false_eq_true]
      exact loopT_I (key args 0 _ _ (by simp) _ (by omega))
    | false =>
      simp only [ev_t, ev_f, ev_opn, ev_kin, ev_call, ev_loop, at_z, at_s, ks_cons, kInt, kStr, kBool, ks_nil, Bool.and_self, Bool.not_true, Bool.not_false, bif_t, cons_app, nil_app, app_nil, evB, evI, evCs, evC, evSC, evAs, evA, evLent, vI_int, vB_bool, cm_gtr, cm_eql, biI, joinL, sizesOk, clr_int, clr_str, kArg, clr_argV, h1, e63, e64, h2, h3, hop, if_true, if_false, Bool.false_eq_true]
      exact loopT_I (key args 0 _ _ (by simp) _ (by omega))
termination_by e => hg e
decreasing_by simp only [hg]; have := hg_le ha; omega

end Go.Proofs.YteijagcoejgnpaaGreatDoor

namespace Go.Proofs.YteijagcoejgnpaaGreatDoor
set_option maxRecDepth 10000
open Go Go.Vm Go.Vm.Sx

variable {gl : Gl}

-- copies
mutual
def copyE : E → E
  | .mk op pl s0 s1 s2 s3 text mn mx _ args => .mk op pl s0 s1 s2 s3 text mn mx true (copyF args)
def copyF : List E → List E
  | [] => []
  | a :: l => copyE a :: copyF l
end
theorem copyF_map : ∀ l, copyF l = l.map copyE
  | [] => rfl
  | a :: l => by simp [copyF, copyF_map l]
-- lists for which there is room
mutual
def Roomy : E → Prop
  | .mk _ _ _ _ _ _ _ _ _ _ args => args.length * 104 ≤ 140737488355328 ∧ RoomyF args
def RoomyF : List E → Prop
  | [] => True
  | a :: l => Roomy a ∧ RoomyF l
end
theorem RoomyF.mem {a : E} : ∀ {l : List E}, RoomyF l → a ∈ l → Roomy a
  | e :: l, h, ha => by
    rcases List.mem_cons.1 ha with rfl | ha
    · exact h.1
    · exact RoomyF.mem h.2 ha
def accV (l : List E) : V := match l with | [] => .snil | _ => .sl 10 (encs l) (.yes 28)
theorem acc_vL (l : List E) : vL (accV l) = encs l := by cases l <;> simp [accV, vL, encs]
theorem acc_rights (l : List E) : rightsV (accV l) = true := by cases l <;> simp [accV, rightsV]
theorem acc_own (l : List E) : ownV 28 (accV l) = true := by cases l <;> simp [accV, ownV]
theorem acc_clr (l : List E) : clr (accV l) = argV true (encs l) := by cases l <;> simp [accV, clr, argV, encs]
theorem acc_snoc (l : List E) (a : E) : V.sl 10 (encs l ++ [enc a]) (.yes 28) = accV (l ++ [a]) := by
  have : encs (l ++ [a]) = encs l ++ [enc a] := by induction l with | nil => rfl | cons b l ih => simp [encs, ih]
  cases l <;> simp_all [accV, encs]
theorem acc_nil : accV [] = .snil := rfl

theorem ev12 (hgl : GL gl) : ∀ (e : E), Wf e → Roomy e → Ev Tryz.prog gl 12 [.d (enc e)] [] (enc (copyE e)) []
  | .mk op pl s0 s1 s2 s3 text mn mx nl args, hw, hr => by
    have hml := maxLen_le
    have hlen := hw.2.1
    have hroom := hr.1
    have hargs : ∀ i a, args[i]? = some a → phE Tryz.prog gl 12 [.d (enc a)] [] = some (enc (copyE a), []) := fun i a h =>
      have ha := List.mem_of_getElem? h
      phE_eq (ev12 hgl a (hw.2.2.mem ha) (hr.2.mem ha))
    refine fun_pure (xs := [enc (.mk op pl s0 s1 s2 s3 text mn mx nl args)]) hgl.top (hgl.no 12 rfl) tree12_ok Tryz.func12 lent12 parE (by simp [tops, top_enc]) (N := args.length + 1) ?_
    have key : ∀ (l : List E) (i : Nat), args.drop i = l → ∀ k, l.length < k → loopI (phE Tryz.prog gl) gl (args.length + 1) lp12_1
        [.agg [.int .i64 op, .int .i64 pl, .int .u64 s0, .int .u64 s1, .int .u64 s2, .int .u64 s3, .str text, .int .i64 mn, .int .i64 mx, argV nl (encs args)], .int .i64 op, .int .i64 pl, .int .u64 s0, .int .u64 s1, .int .u64 s2, .int .u64 s3, .str text, .int .i64 mn, .int .i64 mx, argV nl (encs args)]
        k [.int .i64 (i : Int), accV ((args.take i).map copyE)] = some (0, [.agg [.int .i64 op, .int .i64 pl, .int .u64 s0, .int .u64 s1, .int .u64 s2, .int .u64 s3, .str text, .int .i64 mn, .int .i64 mx, argV true (encs (args.map copyE))]]) := by
      simp only [lp12_1]
      intro l
      induction l with
      | nil =>
        intro i hd k hk
        obtain ⟨k, rfl⟩ : ∃ k', k = k' + 1 := ⟨k - 1, by omega⟩
        refine loopI_end ?_
        have h1 := ltn_f (drop_none hd)
        have h2 : args.take i = args := List.take_of_length_le (drop_none hd)
        simp only [ev_f, ev_out, ev_esc, ev_letv, at_z, at_s, cons_app, nil_app, evB, evI, evL, evCs, evC, evSC, evVE, vI_int, cm_lss, clr_int, clr_str, vL_arg, h1, h2, encs_length, acc_clr]
      | cons a l ih =>
        intro i hd k hk
        obtain ⟨k, rfl⟩ : ∃ k', k = k' + 1 := ⟨k - 1, by omega⟩
        obtain ⟨ha, hi, hd'⟩ := drop_cons hd
        refine loopI_go (vs := [.int .i64 ((i + 1 : Nat) : Int), accV ((args.take (i + 1)).map copyE)]) ?_ (ih (i + 1) hd' k (by simp at hk; omega))
        have hc := hargs i a ha
        have h1 := ltn_t hi
        have h2 := nth_encs ha
        have h4 := w64s (i := i) (by omega)
        have h5 : roomA (encs ((args.take i).map copyE) ++ [enc (copyE a)]).length 104 = true := by
          simp only [roomA, List.length_append, encs_length, List.length_map, List.length_take, List.length_cons, List.length_nil, Bool.and_eq_true]
          exact ⟨Nat.ble_eq_true_of_le (by omega), Nat.ble_eq_true_of_le (by omega)⟩
        have h6 : (args.take (i + 1)).map copyE = (args.take i).map copyE ++ [copyE a] := by
          rw [List.take_add_one, ha]; simp
        rw [h6, ← acc_snoc]
        obtain ⟨op', pl', s0', s1', s2', s3', text', mn', mx', nl', args'⟩ := a
        simp only [enc, copyE] at hc h2 h5
        simp only [ev_t, ev_need, ev_out, ev_letv, ev_elem, ev_opn, ev_call, at_z, at_s, ks_cons, kInt, kStr, ks_nil, Bool.and_self, bif_t, bif_f, cons_app, nil_app, evB, evI, evL, evCs, evC, evSC, evAs, evA, evLent, evVE, vI_int, cm_lss, biI, ltn_0, joinL, sizesOk, kArg, vL_arg, h1, h2, h4, h5, hc, encs_length, Int.toNat_natCast, acc_rights, acc_own, acc_vL, enc, copyE]
    simp only [tree12, enc, copyE, copyF_map]
    simp only [ev_opn, ev_loop, at_z, ks_cons, kInt, kStr, ks_nil, Bool.and_self, bif_t, cons_app, nil_app, evI, evCs, evC, kArg]
    exact loopT_I (key args 0 (by simp) _ (by omega))
termination_by e => hg e
decreasing_by simp only [hg]; have := hg_le ha; omega

-- the two sides
def chkR (e : E) : Bool := lez (cntM e 4096) 65536
def sizR (e : E) : Int := if chkR e then (if ltz 1000 (setsL e) then 1001 else setsL e) else 0
def chkP (e : E) : Bool := (partsM e 1 0 0).1
def sizP (e : E) : Int := bif (partsM e 1 0 0).1 then (bif ltz 1001 (partsM e 1 0 0).2.2 then 1001 else (partsM e 1 0 0).2.2) else 0
theorem lent11 : lentP Tryz.prog Tryz.f11.params.toList = some [] := by kernel_rfl
theorem lent13 : lentP Tryz.prog Tryz.f13.params.toList = some [] := by kernel_rfl
theorem lent14 : lentP Tryz.prog Tryz.f14.params.toList = some [] := by kernel_rfl
theorem lent15 : lentP Tryz.prog Tryz.f15.params.toList = some [] := by kernel_rfl
theorem lent3 : lentP Tryz.prog Tryz.f3.params.toList = some [] := by kernel_rfl

theorem ev13 (hgl : GL gl) : ∀ (e : E), Wf e → Ev Tryz.prog gl 13 [.d (enc e)] [] (.bool (chkR e)) []
  | .mk op pl s0 s1 s2 s3 text mn mx nl args, hw => by
    refine fun_pure (xs := [enc (.mk op pl s0 s1 s2 s3 text mn mx nl args)]) hgl.top (hgl.no 13 rfl) tree13_ok Tryz.func13 lent13 parE (by simp [tops, top_enc]) (N := 1) ?_
    have hc := phE_eq (ev41 hgl (.mk op pl s0 s1 s2 s3 text mn mx nl args) hw 4096)
    simp only [tree13, enc, chkR] at hc ⊢
    simp only [ev_out, ev_letv, ev_opn, ev_kin, ev_call, at_z, at_s, ks_cons, kInt, kStr, ks_nil, Bool.and_self, bif_t, cons_app, nil_app, evB, evI, evCs, evC, evSC, evAs, evA, evLent, evVE, vI_int, cm_leq, joinL, sizesOk, clr_int, clr_str, kArg, clr_argV, hc]
theorem ev15 (hgl : GL gl) : ∀ (e : E), Wf e → Ev Tryz.prog gl 15 [.d (enc e)] [] (.int .i64 (sizR e)) []
  | .mk op pl s0 s1 s2 s3 text mn mx nl args, hw => by
    refine fun_pure (xs := [enc (.mk op pl s0 s1 s2 s3 text mn mx nl args)]) hgl.top (hgl.no 15 rfl) tree15_ok Tryz.func15 lent15 parE (by simp [tops, top_enc]) (N := 1) ?_
    have hc := phE_eq (ev13 hgl (.mk op pl s0 s1 s2 s3 text mn mx nl args) hw)
    have hs := phE_eq (ev42 hgl (.mk op pl s0 s1 s2 s3 text mn mx nl args) hw)
    simp only [tree15, enc, sizR] at hc hs ⊢
    cases h1 : chkR (.mk op pl s0 s1 s2 s3 text mn mx nl args) with
    | false => simp only [ev_t, ev_out, ev_letv, ev_opn, ev_kin, ev_call, at_z, at_s, ks_cons, kInt, kStr, kBool, ks_nil, Bool.and_self, Bool.not_false, bif_t, cons_app, nil_app, evB, evI, evCs, evC, evSC, evAs, evA, evLent, evVE, vB_bool, joinL, sizesOk, clr_int, clr_str, kArg, clr_argV, hc, h1, if_false, Bool.false_eq_true]
    | true =>
    cases h2 : ltz 1000 (setsL (.mk op pl s0 s1 s2 s3 text mn mx nl args)) with
    | false => simp only [ev_f, ev_out, ev_letv, ev_opn, ev_kin, ev_call, at_z, at_s, ks_cons, kInt, kStr, kBool, ks_nil, Bool.and_self, Bool.not_true, bif_t, cons_app, nil_app, evB, evI, evCs, evC, evSC, evAs, evA, evLent, evVE, vI_int, vB_bool, cm_gtr, joinL, sizesOk, clr_int, clr_str, kArg, clr_argV, hc, hs, h1, h2, if_true, if_false, Bool.false_eq_true]
    | true => simp only [ev_t, ev_f, ev_out, ev_letv, ev_opn, ev_kin, ev_call, at_z, at_s, ks_cons, kInt, kStr, kBool, ks_nil, Bool.and_self, Bool.not_true, bif_t, cons_app, nil_app, evB, evI, evCs, evC, evSC, evAs, evA, evLent, evVE, vI_int, vB_bool, cm_gtr, joinL, sizesOk, clr_int, clr_str, kArg, clr_argV, hc, hs, h1, h2, if_true]
theorem ev11 (hgl : GL gl) : ∀ (e : E), Wf e → Ev Tryz.prog gl 11 [.d (enc e)] [] (.bool (chkP e)) []
  | .mk op pl s0 s1 s2 s3 text mn mx nl args, hw => by
    refine fun_pure (xs := [enc (.mk op pl s0 s1 s2 s3 text mn mx nl args)]) hgl.top (hgl.no 11 rfl) tree11_ok Tryz.func11 lent11 parE (by simp [tops, top_enc]) (N := 1) ?_
    have hc := phE_eq (ev40 hgl (.mk op pl s0 s1 s2 s3 text mn mx nl args) hw 1 0 0)
    simp only [tree11, enc, chkP, av40, fp40, out40] at hc ⊢
    simp only [ev_out, ev_letv, ev_opn, ev_kin, ev_call, at_z, at_s, ks_cons, kInt, kStr, kBool, ks_nil, Bool.and_self, bif_t, cons_app, nil_app, app_nil, evI, evCs, evC, evSC, evAs, evA, evLent, evVE, joinL, sizesOk, clr_int, clr_str, Nat.beq_refl, List.length_cons, List.length_nil, kArg, clr_argV, hc]
theorem ev14 (hgl : GL gl) : ∀ (e : E), Wf e → Ev Tryz.prog gl 14 [.d (enc e)] [] (.int .i64 (sizP e)) []
  | .mk op pl s0 s1 s2 s3 text mn mx nl args, hw => by
    refine fun_pure (xs := [enc (.mk op pl s0 s1 s2 s3 text mn mx nl args)]) hgl.top (hgl.no 14 rfl) tree14_ok Tryz.func14 lent14 parE (by simp [tops, top_enc]) (N := 1) ?_
    have hc := phE_eq (ev40 hgl (.mk op pl s0 s1 s2 s3 text mn mx nl args) hw 1 0 0)
    simp only [tree14, enc, sizP, av40, fp40, out40] at hc ⊢
    generalize partsM (.mk op pl s0 s1 s2 s3 text mn mx nl args) 1 0 0 = q at hc ⊢
    obtain ⟨b, n', s'⟩ := q
    cases b with
    | false => simp only [ev_t, ev_out, ev_letv, ev_opn, ev_kin, ev_call, at_z, at_s, ks_cons, kInt, kStr, kBool, ks_nil, Bool.and_self, Bool.not_false, bif_t, bif_f, cons_app, nil_app, app_nil, evB, evI, evCs, evC, evSC, evAs, evA, evLent, evVE, vB_bool, joinL, sizesOk, clr_int, clr_str, Nat.beq_refl, List.length_cons, List.length_nil, kArg, clr_argV, hc]
    | true =>
      cases h2 : ltz 1001 s' with
      | false => simp only [ev_f, ev_out, ev_letv, ev_opn, ev_kin, ev_call, at_z, at_s, ks_cons, kInt, kStr, kBool, ks_nil, Bool.and_self, Bool.not_true, bif_t, bif_f, cons_app, nil_app, app_nil, evB, evI, evCs, evC, evSC, evAs, evA, evLent, evVE, vI_int, vB_bool, cm_lss, joinL, sizesOk, clr_int, clr_str, Nat.beq_refl, List.length_cons, List.length_nil, kArg, clr_argV, hc, h2]
      | true => simp only [ev_f, ev_out, ev_letv, ev_opn, ev_kin, ev_call, at_z, at_s, ks_cons, kInt, kStr, kBool, ks_nil, Bool.and_self, Bool.not_true, bif_t, cons_app, nil_app, app_nil, evB, evI, evCs, evC, evSC, evAs, evA, evLent, evVE, vI_int, vB_bool, cm_lss, joinL, sizesOk, clr_int, clr_str, Nat.beq_refl, List.length_cons, List.length_nil, kArg, clr_argV, hc, h2]

-- the law
theorem par3 {x : V} : ParOk Tryz.prog [22] [.d x] 0 := by
  refine ⟨fun e => ?_, trivial⟩
  rw [Tryz.underlying22]; simp
theorem ev3 (hgl : GL gl) (hwk : Ev Tryz.prog gl 16 [] [] (.bool true) []) (nl : Bool) (l : List E) (hl : l.length ≤ maxLen) (hw : ∀ a ∈ l, Wf a) (hwc : ∀ a ∈ l, Wf (copyE a))
    (hroom : ∀ a ∈ l, ltz 20000 (sizeM a 0) = false → Roomy a) (hc : ∀ a ∈ l, ltz 20000 (sizeM a 0) = false → chkP (copyE a) = chkR a) (hs : ∀ a ∈ l, ltz 20000 (sizeM a 0) = false → sizP (copyE a) = sizR a) :
    Ev Tryz.prog gl 3 [.d (argV nl (encs l))] [] (.bool true) [] := by
  refine fun_pure (xs := [argV nl (encs l)]) hgl.top (hgl.no 3 rfl) tree3_ok Tryz.func3 lent3 (by rw [Tryz.params3]; exact par3) (by simp [tops, top_argV, tops_encs]) (N := l.length + 1) ?_
  have hml := maxLen_le
  have hwk' := phE_eq hwk
  have key : ∀ (r : List E) (i : Nat), l.drop i = r → ∀ k, r.length < k → loopI (phE Tryz.prog gl) gl (l.length + 1) lp3_1 [argV nl (encs l)] k [.int .i64 (i : Int)] = some (0, [.bool true]) := by
    simp only [lp3_1]
    intro r
    induction r with
    | nil =>
      intro i hd k hk
      obtain ⟨k, rfl⟩ : ∃ k', k = k' + 1 := ⟨k - 1, by omega⟩
      refine loopI_end ?_
      have h1 := ltn_f (drop_none hd)
      simp only [ev_f, ev_out, ev_esc, ev_letv, ev_kin, ev_call, at_z, at_s, kBool, ks_nil, Bool.and_self, Bool.false_and, bif_t, cons_app, nil_app, evB, evI, evL, evCs, evC, evSC, evAs, evLent, evVE, vI_int, cm_lss, joinL, sizesOk, vL_arg, h1, hwk', encs_length]
    | cons a r ih =>
      intro i hd k hk
      obtain ⟨k, rfl⟩ : ∃ k', k = k' + 1 := ⟨k - 1, by omega⟩
      obtain ⟨ha, hi, hd'⟩ := drop_cons hd
      have h1 := ltn_t hi
      cases h32 : ltz (i : Int) 32 with
      | false =>
        refine loopI_end ?_
        simp only [ev_f, ev_out, ev_esc, ev_letv, ev_kin, ev_call, at_z, at_s, kBool, ks_nil, Bool.and_self, Bool.and_false, bif_t, cons_app, nil_app, evB, evI, evL, evCs, evC, evSC, evAs, evLent, evVE, vI_int, cm_lss, joinL, sizesOk, vL_arg, h1, h32, hwk', encs_length]
      | true =>
      refine loopI_go (vs := [.int .i64 ((i + 1 : Nat) : Int)]) ?_ (ih (i + 1) hd' k (by simp at hk; omega))
      have hm := List.mem_of_getElem? ha
      have h2 := nth_encs ha
      have h4 := w64s (i := i) (by omega)
      have h10 := phE_eq (ev10 hgl a (hw a hm) 0)
      have h13 := phE_eq (ev13 hgl a (hw a hm))
      have h15 := phE_eq (ev15 hgl a (hw a hm))
      have h11 := phE_eq (ev11 hgl (copyE a) (hwc a hm))
      have h14 := phE_eq (ev14 hgl (copyE a) (hwc a hm))
      cases h20 : ltz 20000 (sizeM a 0) with
      | true =>
        obtain ⟨op', pl', s0', s1', s2', s3', text', mn', mx', nl', args'⟩ := a
        simp only [enc] at h2 h10
        simp only [ev_t, ev_out, ev_elem, ev_opn, ev_kin, ev_call, at_z, at_s, ks_cons, kInt, kStr, ks_nil, Bool.and_self, bif_t, bif_f, cons_app, nil_app, evB, evI, evL, evCs, evC, evSC, evAs, evA, evLent, vI_int, cm_lss, cm_gtr, biI, ltn_0, joinL, sizesOk, kArg, vL_arg, h1, h32, h2, h4, h10, h20, encs_length, Int.toNat_natCast]
      | false =>
        have h12 := phE_eq (ev12 hgl a (hw a hm) (hroom a hm h20))
        rw [hc a hm h20] at h11
        rw [hs a hm h20] at h14
        have hb : (chkR a == chkR a) = true := by simp
        have hz : (sizR a == sizR a) = true := by simp
        obtain ⟨op', pl', s0', s1', s2', s3', text', mn', mx', nl', args'⟩ := a
        simp only [enc, copyE] at h2 h10 h11 h12 h13 h14 h15
        simp only [ev_t, ev_f, ev_out, ev_elem, ev_opn, ev_kin, ev_call, at_z, at_s, ks_cons, kInt, kStr, kBool, ks_nil, Bool.and_self, Bool.not_true, bif_t, bif_f, cons_app, nil_app, evB, evI, evL, evCs, evC, evSC, evAs, evA, evLent, vI_int, vB_bool, cm_lss, cm_gtr, cm_eql, biI, ltn_0, joinL, sizesOk, kArg, vL_arg, h1, h32, h2, h4, h10, h20, h11, h12, h13, h14, h15, hb, hz, encs_length, Int.toNat_natCast]
  simp only [tree3]
  simp only [ev_kin, ev_loop, at_z, evI, evCs, evC, kArg]
  exact loopT_I (key l 0 (by simp) _ (by omega))

end Go.Proofs.YteijagcoejgnpaaGreatDoor

namespace Go.Proofs.YteijagcoejgnpaaGreatDoor
open Go Go.Vm Go.Vm.Sx

mutual
def nodes : E → Nat
  | .mk _ _ _ _ _ _ _ _ _ _ args => 1 + nodesF args
def nodesF : List E → Nat
  | [] => 0
  | a :: l => nodes a + nodesF l
end
mutual
def nset : E → Nat
  | .mk op _ _ _ _ _ _ _ _ _ args => (if op == 2 then 1 else 0) + nsetF args
def nsetF : List E → Nat
  | [] => 0
  | a :: l => nset a + nsetF l
end
mutual
def good : E → Int → Bool
  | .mk op pl s0 s1 s2 s3 text mn mx nl args, d => decide (d ≤ 4096) && (leanB (.mk op pl s0 s1 s2 s3 text mn mx nl args) && (kindB (.mk op pl s0 s1 s2 s3 text mn mx nl args) && goodF args (d + 1)))
def goodF : List E → Int → Bool
  | [], _ => true
  | a :: l, d => good a d && goodF l d
end
theorem nodes_pos : ∀ e, 1 ≤ nodes e
  | .mk .. => by simp only [nodes]; omega
theorem nodesF_len : ∀ l, l.length ≤ nodesF l
  | [] => by simp [nodesF]
  | a :: l => by have := nodes_pos a; have := nodesF_len l; simp only [nodesF, List.length_cons]; omega
mutual
theorem nset_le : ∀ e, nset e ≤ nodes e
  | .mk op _ _ _ _ _ _ _ _ _ args => by
    have := nsetF_le args
    simp only [nset, nodes]; split <;> omega
theorem nsetF_le : ∀ l, nsetF l ≤ nodesF l
  | [] => by simp [nsetF]
  | a :: l => by have := nset_le a; have := nsetF_le l; simp only [nsetF, nodesF]; omega
end

-- how great
def Bd (d : Int) : Int := 500000000000000000 + 1048576 * (5002 - d)
mutual
theorem size_bd : ∀ (e : E) (d : Int), Wf e → 0 ≤ d → d ≤ 5001 → 1 ≤ sizeM e d ∧ sizeM e d ≤ Bd d
  | .mk _ _ _ _ _ _ text _ _ _ args, d, hw, h0, h1 => by
    have hml := maxLen_le
    have ht := hw.1
    simp only [sizeM]
    cases hd : ltz 5000 d with
    | true => simp only [if_true, Bd]; omega
    | false =>
      have hd' : d ≤ 5000 := by
        rcases Int.lt_or_le 5000 d with h | h
        · rw [ltz_t h] at hd; cases hd
        · exact h
      simp only [Bool.false_eq_true, if_false]
      have hq : (text.length : Int).tdiv 20 = (text.length : Int) / 20 := Int.tdiv_eq_ediv_of_nonneg (by omega)
      rw [w64 (x := d + 1) (by omega) (by omega), w64 (x := (text.length : Int).tdiv 20) (by omega) (by omega), w64 (x := 1 + (text.length : Int).tdiv 20) (by omega) (by omega)]
      have := sizeF_bd args (d + 1) (1 + (text.length : Int).tdiv 20) hw.2.2 (by omega) (by omega) (by omega) (by simp only [Bd]; omega)
      refine ⟨by omega, ?_⟩
      have := this.2
      simp only [Bd] at this ⊢
      omega
theorem sizeF_bd : ∀ (l : List E) (d n : Int), Wfs l → 0 ≤ d → d ≤ 5001 → 1 ≤ n → n ≤ Bd (d - 1) → n ≤ sizeF d n l ∧ sizeF d n l ≤ Bd (d - 1)
  | [], d, n, _, h0, h1, hn, hb => by simp only [sizeF]; omega
  | a :: l, d, n, hw, h0, h1, hn, hb => by
    obtain ⟨a1, a2⟩ := size_bd a d hw.1 h0 h1
    simp only [sizeF]
    cases hc : ltz n 1048576 with
    | false => simp only [Bool.false_eq_true, if_false]; omega
    | true =>
      have hc' := ltz_i.1 hc
      simp only [if_true]
      simp only [Bd] at a2 hb
      rw [w64 (by omega) (by omega)]
      have := sizeF_bd l d (n + sizeM a d) hw.2 h0 h1 (by omega) (by simp only [Bd]; omega)
      exact ⟨by omega, this.2⟩
end
mutual
theorem size_nodes : ∀ (e : E) (d : Int), Wf e → 0 ≤ d → d ≤ 5001 → sizeM e d ≤ 20000 → (nodes e : Int) ≤ sizeM e d ∧ Roomy e
  | .mk _ _ _ _ _ _ text _ _ _ args, d, hw, h0, h1, hs => by
    have hml := maxLen_le
    have ht := hw.1
    simp only [sizeM] at hs ⊢
    cases hd : ltz 5000 d with
    | true => rw [hd] at hs; simp only [if_true] at hs; omega
    | false =>
      rw [hd] at hs
      have hd' : d ≤ 5000 := by
        rcases Int.lt_or_le 5000 d with h | h
        · rw [ltz_t h] at hd; cases hd
        · exact h
      simp only [Bool.false_eq_true, if_false] at hs ⊢
      have hq : (text.length : Int).tdiv 20 = (text.length : Int) / 20 := Int.tdiv_eq_ediv_of_nonneg (by omega)
      rw [w64 (x := d + 1) (by omega) (by omega), w64 (x := (text.length : Int).tdiv 20) (by omega) (by omega), w64 (x := 1 + (text.length : Int).tdiv 20) (by omega) (by omega)] at hs ⊢
      obtain ⟨g1, g2⟩ := sizeF_nodes args (d + 1) (1 + (text.length : Int).tdiv 20) hw.2.2 (by omega) (by omega) (by omega) (by simp only [Bd]; omega) hs
      have := nodesF_len args
      refine ⟨by simp only [nodes]; omega, by omega, g2⟩
theorem sizeF_nodes : ∀ (l : List E) (d n : Int), Wfs l → 0 ≤ d → d ≤ 5001 → 1 ≤ n → n ≤ Bd (d - 1) → sizeF d n l ≤ 20000 → n + (nodesF l : Int) ≤ sizeF d n l ∧ RoomyF l
  | [], d, n, _, h0, h1, hn, hb, hs => by simp only [sizeF, nodesF, RoomyF] at hs ⊢; exact ⟨by omega, trivial⟩
  | a :: l, d, n, hw, h0, h1, hn, hb, hs => by
    obtain ⟨a1, a2⟩ := size_bd a d hw.1 h0 h1
    simp only [sizeF] at hs ⊢
    cases hc : ltz n 1048576 with
    | false =>
      rw [hc] at hs
      simp only [Bool.false_eq_true, if_false] at hs
      rw [ltz_t (by omega)] at hc; cases hc
    | true =>
      have hc' := ltz_i.1 hc
      rw [hc] at hs
      simp only [if_true] at hs ⊢
      simp only [Bd] at a2 hb
      rw [w64 (by omega) (by omega)] at hs ⊢
      have hb' : n + sizeM a d ≤ Bd (d - 1) := by simp only [Bd]; omega
      have := (sizeF_bd l d (n + sizeM a d) hw.2 h0 h1 (by omega) hb').1
      obtain ⟨g1, g2⟩ := sizeF_nodes l d (n + sizeM a d) hw.2 h0 h1 (by omega) hb' hs
      obtain ⟨f1, f2⟩ := size_nodes a d hw.1 h0 h1 (by omega)
      exact ⟨by simp only [nodesF]; omega, f2, g2⟩
end

-- parts
mutual
theorem parts_good : ∀ (e : E) (d n s : Int), 0 ≤ d → d ≤ 4097 → 0 ≤ n → n + (nodes e : Int) ≤ 65536 → 0 ≤ s → s + (nodes e : Int) ≤ 65536 → (partsM e d n s).1 = good e d ∧ (good e d = true → (partsM e d n s).2.1 = n + nodes e ∧ (partsM e d n s).2.2 = s + nset e)
  | .mk op pl s0 s1 s2 s3 text mn mx nl args, d, n, s, h0, h1, h2, h3, h4, h5 => by
    simp only [nodes] at h3 h5
    simp only [partsM, good]
    rw [w64 (x := n + 1) (by omega) (by omega), ltz_f (x := 65536) (by omega), Bool.false_or]
    cases hd : ltz 4096 d with
    | true =>
      have := ltz_i.1 hd
      simp only [if_true]
      rw [decide_eq_false (by omega)]
      simp
    | false =>
      have hd' : d ≤ 4096 := by
        rcases Int.lt_or_le 4096 d with h | h
        · rw [ltz_t h] at hd; cases hd
        · exact h
      rw [decide_eq_true hd', Bool.true_and]
      simp only [Bool.false_eq_true, if_false]
      cases hl : leanB (.mk op pl s0 s1 s2 s3 text mn mx nl args) with
      | false => simp
      | true =>
      cases hk : kindB (.mk op pl s0 s1 s2 s3 text mn mx nl args) with
      | false => simp
      | true =>
      simp only [if_true, Bool.true_and]
      rw [w64 (x := d + 1) (by omega) (by omega), w64 (x := s + 1) (by omega) (by omega)]
      cases ho : op == 2 with
      | true =>
        simp only [if_true]
        obtain ⟨g1, g2⟩ := partsF_good args (d + 1) (n + 1) (s + 1) (by omega) (by omega) (by omega) (by omega) (by omega) (by omega)
        refine ⟨g1, fun hg => ?_⟩
        obtain ⟨g3, g4⟩ := g2 hg
        rw [g3, g4]
        simp only [nodes, nset, ho, if_true]
        omega
      | false =>
        simp only [Bool.false_eq_true, if_false]
        obtain ⟨g1, g2⟩ := partsF_good args (d + 1) (n + 1) s (by omega) (by omega) (by omega) (by omega) (by omega) (by omega)
        refine ⟨g1, fun hg => ?_⟩
        obtain ⟨g3, g4⟩ := g2 hg
        rw [g3, g4]
        simp only [nodes, nset, ho, Bool.false_eq_true, if_false]
        omega
theorem partsF_good : ∀ (l : List E) (d n s : Int), 0 ≤ d → d ≤ 4097 → 0 ≤ n → n + (nodesF l : Int) ≤ 65536 → 0 ≤ s → s + (nodesF l : Int) ≤ 65536 → (partsF d l n s).1 = goodF l d ∧ (goodF l d = true → (partsF d l n s).2.1 = n + nodesF l ∧ (partsF d l n s).2.2 = s + nsetF l)
  | [], d, n, s, _, _, _, _, _, _ => by simp [partsF, goodF, nodesF, nsetF]
  | a :: l, d, n, s, h0, h1, h2, h3, h4, h5 => by
    simp only [nodesF] at h3 h5
    obtain ⟨g1, g2⟩ := parts_good a d n s h0 h1 h2 (by omega) h4 (by omega)
    simp only [partsF, goodF]
    cases hg : good a d with
    | false =>
      rw [hg] at g1
      simp [g1]
    | true =>
      rw [hg] at g1
      obtain ⟨g3, g4⟩ := g2 hg
      have := nset_le a
      simp only [g1, if_true, Bool.true_and, g3, g4]
      obtain ⟨f1, f2⟩ := partsF_good l d (n + nodes a) (s + nset a) h0 h1 (by omega) (by omega) (by omega) (by omega)
      refine ⟨f1, fun hh => ?_⟩
      obtain ⟨f3, f4⟩ := f2 hh
      rw [f3, f4]
      simp only [nodesF, nsetF]
      omega
end

-- counted
theorem bad_kind : ∀ (e : E) (d : Int), (hdr41 e (4097 - d) || bad41 e) = !(decide (d ≤ 4096) && (leanB e && kindB e))
  | .mk op pl s0 s1 s2 s3 text mn mx nl args, d => by
    have hd : ltz (4097 - d) 1 = !(decide (d ≤ 4096)) := by
      by_cases h : d ≤ 4096
      · rw [decide_eq_true h, ltz_f (by omega)]; rfl
      · rw [decide_eq_false h, ltz_t (by omega)]; rfl
    have hl1 : ltz 0 (args.length : Int) = !((args.length : Int) == 0) := by
      by_cases h : args.length = 0
      · rw [ltz_f (by omega)]; simp [h]
      · rw [ltz_t (by omega), beq_eq_false_iff_ne.2 (by omega)]; rfl
    have hl2 : ltz (args.length : Int) 2 = !(ltz 1 (args.length : Int)) := by
      by_cases h : args.length < 2
      · rw [ltz_t (by omega), ltz_f (by omega)]; rfl
      · rw [ltz_f (by omega), ltz_t (by omega)]; rfl
    simp only [hdr41, bad41, leanB, kindB, hd, hl1, hl2]
    generalize decide (d ≤ 4096) = b1
    generalize (pl == 0) = b2
    generalize eqL text [] = b3
    generalize (s0 == 0 && (s1 == 0 && (s2 == 0 && s3 == 0))) = b4
    generalize ((args.length : Int) == 0) = b5
    generalize (ltz 1 (args.length : Int)) = b6
    generalize ((args.length : Int) == 1) = b7
    have e1 : (op == 1) = true → (op == 7) = false := by intro h; have := beq_iff_eq.1 h; subst this; rfl
    have e2 : (op == 2) = true → (op == 7) = false := by intro h; have := beq_iff_eq.1 h; subst this; rfl
    have e5 : (op == 5) = true → (op == 7) = false ∧ (op == 2) = false := by intro h; have := beq_iff_eq.1 h; subst this; exact ⟨rfl, rfl⟩
    have e6 : (op == 6) = true → (op == 7) = false ∧ (op == 2) = false := by intro h; have := beq_iff_eq.1 h; subst this; exact ⟨rfl, rfl⟩
    have e7 : (op == 7) = true → (op == 2) = false := by intro h; have := beq_iff_eq.1 h; subst this; rfl
    generalize (mn == 0) = m0 at *
    generalize (mx == 0) = x0 at *
    generalize (mn == 1) = m1 at *
    generalize (mx == 1) = x1 at *
    generalize (mx == -1) = x2 at *
    cases h1 : op == 1 with
    | true =>
      have := e1 h1
      cases h2 : op == 2 with
      | true => have a := beq_iff_eq.1 h1; have b := beq_iff_eq.1 h2; omega
      | false => rw [this]; clear e1 e2 e5 e6 e7; simp only [if_true]; revert b1 b2 b3 b4 b5 m0 x0; decide
    | false =>
    cases h2 : op == 2 with
    | true => rw [e2 h2]; clear e1 e2 e5 e6 e7; simp only [if_true, if_false, Bool.false_eq_true]; revert b1 b2 b3 b4 b5 m0 x0; decide
    | false =>
    cases h5 : op == 5 with
    | true => rw [(e5 h5).1]; clear e1 e2 e5 e6 e7; simp only [if_true, if_false, Bool.false_eq_true]; revert b1 b2 b3 b4 b6 m0 x0; decide
    | false =>
    cases h6 : op == 6 with
    | true => rw [(e6 h6).1]; clear e1 e2 e5 e6 e7; simp only [if_true, if_false, Bool.false_eq_true]; revert b1 b2 b3 b4 b6 m0 x0; decide
    | false =>
    cases h7 : op == 7 with
    | true => clear e1 e2 e5 e6 e7; simp only [if_true, if_false, Bool.false_eq_true]; revert b1 b2 b3 b4 b7 m0 m1 x0 x1 x2; decide
    | false => clear e1 e2 e5 e6 e7; simp only [if_false, Bool.false_eq_true]; revert b1 b2 b3 b4 m0 x0; decide

mutual
theorem cnt_good : ∀ (e : E) (d : Int), 0 ≤ d → d ≤ 4097 → nodes e ≤ 65536 → 1 ≤ cntM e (4097 - d) ∧ cntM e (4097 - d) ≤ 65537 * (nodes e : Int) ∧ (good e d = true → cntM e (4097 - d) = nodes e) ∧ (good e d = false → 65537 ≤ cntM e (4097 - d))
  | .mk op pl s0 s1 s2 s3 text mn mx nl args, d, h0, h1, h2 => by
    have hbk := bad_kind (.mk op pl s0 s1 s2 s3 text mn mx nl args) d
    simp only [nodes] at h2
    simp only [cntM, good]
    rw [← Bool.and_assoc, ← Bool.and_assoc, Bool.and_assoc (decide (d ≤ 4096))]
    cases hg : (decide (d ≤ 4096) && (leanB (.mk op pl s0 s1 s2 s3 text mn mx nl args) && kindB (.mk op pl s0 s1 s2 s3 text mn mx nl args))) with
    | false =>
      rw [hg] at hbk
      have : (if hdr41 (.mk op pl s0 s1 s2 s3 text mn mx nl args) (4097 - d) then (65537 : Int) else if bad41 (.mk op pl s0 s1 s2 s3 text mn mx nl args) then 65537 else cntF (IntKind.i64.wrap (4097 - d - 1)) 1 args) = 65537 := by
        cases hh : hdr41 (.mk op pl s0 s1 s2 s3 text mn mx nl args) (4097 - d) with
        | true => simp
        | false =>
          rw [hh] at hbk
          simp at hbk
          simp [hbk]
      rw [this]
      simp only [nodes, Bool.false_and]
      refine ⟨by omega, by omega, fun h => by simp at h, fun _ => by omega⟩
    | true =>
      rw [hg] at hbk
      simp only [Bool.not_true, Bool.or_eq_false_iff] at hbk
      have hd' : d ≤ 4096 := by simp only [Bool.and_eq_true, decide_eq_true_eq] at hg; exact hg.1
      simp only [hbk.1, hbk.2, Bool.false_eq_true, if_false, Bool.true_and]
      rw [w64 (by omega) (by omega), show (4097 : Int) - d - 1 = 4097 - (d + 1) by omega]
      obtain ⟨g1, g2, g3, g4⟩ := cntF_good args (d + 1) 1 1 (by omega) (by omega) (by omega) (by omega) (by omega) (by omega)
      simp only [nodes]
      refine ⟨g1, by omega, fun h => by have := g3 h (by omega); omega, g4⟩
theorem cntF_good : ∀ (l : List E) (d n : Int) (m : Nat), 0 ≤ d → d ≤ 4097 → 1 ≤ n → 1 ≤ m → n ≤ 65537 * (m : Int) → m + nodesF l ≤ 65536 → n ≤ cntF (4097 - d) n l ∧ cntF (4097 - d) n l ≤ 65537 * ((m : Int) + nodesF l) ∧ (goodF l d = true → n + (nodesF l : Int) ≤ 65536 → cntF (4097 - d) n l = n + nodesF l) ∧ (goodF l d = false → 65537 ≤ cntF (4097 - d) n l)
  | [], d, n, m, h0, h1, h2, h3, h4, h5 => by simp only [cntF, nodesF, goodF]; exact ⟨by omega, by omega, fun _ _ => by omega, fun h => by cases h⟩
  | a :: l, d, n, m, h0, h1, h2, h3, h4, h5 => by
    simp only [nodesF] at h5 ⊢
    obtain ⟨a1, a2, a3, a4⟩ := cnt_good a d h0 h1 (by omega)
    simp only [cntF, goodF]
    cases hc : lez n 65536 with
    | false =>
      have hn : 65536 < n := by
        rcases Int.lt_or_le 65536 n with h | h
        · exact h
        · rw [lez_t h] at hc; cases hc
      simp only [Bool.false_eq_true, if_false]
      exact ⟨by omega, by omega, fun _ _ => by omega, fun _ => by omega⟩
    | true =>
      have hn := lez_i.1 hc
      simp only [if_true]
      rw [w64 (by omega) (by omega)]
      obtain ⟨g1, g2, g3, g4⟩ := cntF_good l d (n + cntM a (4097 - d)) (m + nodes a) h0 h1 (by omega) (by omega) (by omega) (by omega)
      refine ⟨by omega, by omega, fun h hle => ?_, fun h => ?_⟩
      · simp only [Bool.and_eq_true] at h
        have := a3 h.1
        have := g3 h.2 (by omega)
        omega
      · cases hga : good a d with
        | false => have := a4 hga; omega
        | true =>
          rw [hga, Bool.true_and] at h
          exact g4 h
end

-- sets
mutual
theorem sets_eq : ∀ (e : E), nodes e ≤ 65536 → setsL e = nset e
  | .mk op _ _ _ _ _ _ _ _ _ args, h => by
    simp only [nodes] at h
    simp only [setsL, nset]
    rw [setsF_eq args _ (by split <;> omega) (by split <;> omega)]
    split <;> omega
theorem setsF_eq : ∀ (l : List E) (n : Int), 0 ≤ n → n + (nodesF l : Int) ≤ 65536 → setsF n l = n + nsetF l
  | [], n, _, _ => by simp [setsF, nsetF]
  | a :: l, n, h0, h => by
    simp only [nodesF] at h
    have h1 := nset_le a
    have h2 := sets_eq a (by omega)
    simp only [setsF, nsetF, h2]
    rw [w64 (by omega) (by omega), setsF_eq l (n + nset a) (by omega) (by omega)]
    omega
end

-- copies
theorem copyF_len (l : List E) : (copyF l).length = l.length := by rw [copyF_map, List.length_map]
mutual
theorem copy_same : ∀ (e : E) (d : Int), nodes (copyE e) = nodes e ∧ nset (copyE e) = nset e ∧ good (copyE e) d = good e d
  | .mk op pl s0 s1 s2 s3 text mn mx nl args, d => by
    obtain ⟨h1, h2, h3⟩ := copyF_same args (d + 1)
    simp only [copyE, nodes, nset, good, leanB, kindB, copyF_len, h1, h2, h3]
    exact ⟨trivial, trivial, trivial⟩
theorem copyF_same : ∀ (l : List E) (d : Int), nodesF (copyF l) = nodesF l ∧ nsetF (copyF l) = nsetF l ∧ goodF (copyF l) d = goodF l d
  | [], d => ⟨rfl, rfl, rfl⟩
  | a :: l, d => by
    obtain ⟨h1, h2, h3⟩ := copy_same a d
    obtain ⟨g1, g2, g3⟩ := copyF_same l d
    simp only [copyF, nodesF, nsetF, goodF, h1, h2, h3, g1, g2, g3]
    exact ⟨trivial, trivial, trivial⟩
end
mutual
theorem copy_wf : ∀ (e : E), Wf e → Wf (copyE e)
  | .mk .., h => ⟨h.1, by rw [copyF_len]; exact h.2.1, copyF_wf _ h.2.2⟩
theorem copyF_wf : ∀ (l : List E), Wfs l → Wfs (copyF l)
  | [], _ => trivial
  | a :: l, h => ⟨copy_wf a h.1, copyF_wf l h.2⟩
end

theorem law (e : E) (hw : Wf e) (h : ltz 20000 (sizeM e 0) = false) : Roomy e ∧ chkP (copyE e) = chkR e ∧ sizP (copyE e) = sizR e := by
  have hs : sizeM e 0 ≤ 20000 := by
    rcases Int.lt_or_le 20000 (sizeM e 0) with h' | h'
    · rw [ltz_t h'] at h; cases h
    · exact h'
  obtain ⟨n1, n2⟩ := size_nodes e 0 hw (by omega) (by omega) hs
  obtain ⟨c1, c2, c3⟩ := copy_same e 1
  have hn : nodes e ≤ 20000 := by omega
  obtain ⟨p1, p2⟩ := parts_good (copyE e) 1 0 0 (by omega) (by omega) (by omega) (by omega) (by omega) (by omega)
  obtain ⟨k1, k2, k3, k4⟩ := cnt_good e 1 (by omega) (by omega) (by omega)
  simp only [show (4097 : Int) - 1 = 4096 from rfl] at k1 k2 k3 k4
  have hns := nset_le e
  have hR : chkR e = good e 1 := by
    unfold chkR
    cases hg : good e 1 with
    | true => rw [k3 hg]; exact lez_t (by omega)
    | false => exact lez_f (by have := k4 hg; omega)
  have hP : chkP (copyE e) = good e 1 := by unfold chkP; rw [p1, c3]
  refine ⟨n2, by rw [hR, hP], ?_⟩
  unfold sizP sizR
  rw [hR, p1, c3]
  cases hg : good e 1 with
  | false => rfl
  | true =>
    have hq := (p2 (by rw [c3]; exact hg)).2
    rw [c2] at hq
    rw [hq, sets_eq e (by omega)]
    simp only [cond_true, if_true]
    by_cases h1 : 1001 < nset e
    · rw [ltz_t (by omega), ltz_t (by omega)]; rfl
    · rw [ltz_f (x := 1001) (by omega)]
      by_cases h2 : nset e = 1001
      · rw [ltz_t (by omega)]; simp [h2]
      · rw [ltz_f (by omega)]; simp

end Go.Proofs.YteijagcoejgnpaaGreatDoor
