/- Ux51 Ux23: what this claim uses. Laid by slim.py (ours). -/
import Derived.Test.YtlbfpjhnpnbikaaKUx0
section
namespace Go.Proofs.Ytlbfpjhnpnbikaa.U
open Go.RowKit Go.Proofs.YtlbfpjhnpnbikaaW.PrintWords Go.Proofs.YtlbfpjhnpnbikaaW.PrintLast Go.Proofs.YtlbfpjhnpnbikaaW.PrintMore
attribute [local go_sem] max2_int min2_int max_two min_two max_three min_three max_four min_four
set_option linter.unusedVariables false
set_option linter.unusedSimpArgs false
def slots3 (ws : List S66) (rs : List Int) : List Int := ws.map (·.f0) ++ rs
def slotOk (ws : List S66) (rs : List Int) (i : Nat) : Bool := decide (i < ws.length → (ws.getD i z66).f1.length = 256) && (decide (0 ≤ (slots3 ws rs).getD i 0 ∧ (slots3 ws rs).getD i 0 < 1048576) && !decide ((slots3 ws rs).getD i 0 ∈ (slots3 ws rs).take i))
def mayB (ws : List S66) (rs : List Int) : Bool := decide (1 ≤ ws.length + rs.length ∧ ws.length + rs.length ≤ 58) && (List.range (ws.length + rs.length)).all (slotOk ws rs)
def wfSlots (ws : List S66) (rs : List Int) : Bool := (slots3 ws rs).all fun b => (Lit.int .i64 b).wf
theorem slots3_length (ws : List S66) (rs : List Int) : (slots3 ws rs).length = ws.length + rs.length := by simp [slots3]
theorem slots3_low (ws : List S66) (rs : List Int) (i : Nat) (h : i < ws.length) : (slots3 ws rs).getD i 0 = (ws.getD i z66).f0 := by
  unfold slots3
  rw [List.getD_eq_getElem?_getD, List.getElem?_append_left (by simpa using h), List.getElem?_map, List.getD_eq_getElem?_getD, List.getElem?_eq_getElem h]
  rfl
theorem slots3_high (ws : List S66) (rs : List Int) (i : Nat) (h : ws.length ≤ i) : (slots3 ws rs).getD i 0 = rs.getD (i - ws.length) 0 := by
  unfold slots3
  rw [List.getD_eq_getElem?_getD, List.getElem?_append_right (by simpa using h), List.length_map, List.getD_eq_getElem?_getD]
theorem take_getD (l : List Int) (i : Nat) (h : i < l.length) : l.take (i + 1) = l.take i ++ [l.getD i 0] := by
  rw [List.take_succ_eq_append_getElem h, List.getD_eq_getElem?_getD, List.getElem?_eq_getElem h]
  rfl
theorem wfSlots_at {ws : List S66} {rs : List Int} (h : wfSlots ws rs = true) (i : Nat) : (Lit.int .i64 ((slots3 ws rs).getD i 0)).wf = true := by
  by_cases hi : i < (slots3 ws rs).length
  · rw [List.getD_eq_getElem?_getD, List.getElem?_eq_getElem hi]
    exact List.all_eq_true.1 h _ (List.getElem_mem hi)
  · rw [List.getD_eq_getElem?_getD, List.getElem?_eq_none (by omega)]
    decide
theorem slotOk_iff {ws : List S66} {rs : List Int} {i : Nat} : slotOk ws rs i = true ↔ (i < ws.length → (ws.getD i z66).f1.length = 256) ∧ (0 ≤ (slots3 ws rs).getD i 0 ∧ (slots3 ws rs).getD i 0 < 1048576) ∧ (slots3 ws rs).getD i 0 ∉ (slots3 ws rs).take i := by
  unfold slotOk
  rw [Bool.and_eq_true, Bool.and_eq_true, decide_eq_true_eq, decide_eq_true_eq, Bool.not_eq_true', decide_eq_false_iff_not]
theorem mayB_out {ws : List S66} {rs : List Int} (h : ¬ (1 ≤ ws.length + rs.length ∧ ws.length + rs.length ≤ 58)) : mayB ws rs = false := by
  unfold mayB
  rw [decide_eq_false h, Bool.false_and]
theorem mayB_yes {ws : List S66} {rs : List Int} (h : 1 ≤ ws.length + rs.length ∧ ws.length + rs.length ≤ 58) (ha : ∀ i, i < ws.length + rs.length → slotOk ws rs i = true) : mayB ws rs = true := by
  unfold mayB
  rw [decide_eq_true h, Bool.true_and, List.all_eq_true]
  exact fun i hi => ha i (List.mem_range.1 hi)
theorem nodup_take (n : Nat) : ∀ l : List Int, l.length = n → (l.Nodup ↔ ∀ i, i < l.length → l.getD i 0 ∉ l.take i) := by
  induction n with
  | zero =>
    intro l hl
    rw [List.length_eq_zero_iff.1 hl]
    exact ⟨fun _ i h => absurd h (Nat.not_lt_zero _), fun _ => List.nodup_nil⟩
  | succ n ih =>
    intro l hl
    obtain ⟨r, b, rfl⟩ : ∃ r b, l = r ++ [b] := by
      rcases List.eq_nil_or_concat l with h | ⟨r, b, h⟩
      · rw [h] at hl
        simp at hl
      · exact ⟨r, b, by rw [h, List.concat_eq_append]⟩
    rw [List.length_append, List.length_singleton] at hl
    have hr : r.length = n := by omega
    have low : ∀ i, i < r.length → ((r ++ [b]).getD i 0 ∉ (r ++ [b]).take i ↔ r.getD i 0 ∉ r.take i) := by
      intro i hi
      rw [List.take_append_of_le_length (by omega), List.getD_eq_getElem?_getD, List.getElem?_append_left hi, List.getD_eq_getElem?_getD]
    have top : (r ++ [b]).getD r.length 0 ∉ (r ++ [b]).take r.length ↔ b ∉ r := by
      rw [List.take_append_of_le_length (Nat.le_refl _), List.take_length, List.getD_eq_getElem?_getD, List.getElem?_append_right (Nat.le_refl _), Nat.sub_self]
      rfl
    rw [List.nodup_append, ih r hr]
    constructor
    · rintro ⟨h1, _, h3⟩ i hi
      by_cases hi' : i < r.length
      · exact (low i hi').2 (h1 i hi')
      · have : i = r.length := by rw [List.length_append, List.length_singleton] at hi; omega
        subst this
        exact top.2 (fun hb => h3 b hb b (List.mem_singleton.2 rfl) rfl)
    · intro h
      refine ⟨fun i hi => (low i hi).1 (h i (by rw [List.length_append]; omega)), List.nodup_cons.2 ⟨by simp, List.nodup_nil⟩, fun x hx y hy e => ?_⟩
      rw [List.mem_singleton.1 hy] at e
      exact top.1 (h r.length (by rw [List.length_append, List.length_singleton]; omega)) (e ▸ hx)
theorem mayB_iff (ws : List S66) (rs : List Int) : mayB ws rs = true ↔ (1 ≤ ws.length + rs.length ∧ ws.length + rs.length ≤ 58) ∧ (∀ i, i < ws.length → (ws.getD i z66).f1.length = 256) ∧ (∀ b ∈ slots3 ws rs, 0 ≤ b ∧ b < 1048576) ∧ (slots3 ws rs).Nodup := by
  have hl := slots3_length ws rs
  rw [nodup_take _ _ hl]
  constructor
  · intro h
    unfold mayB at h
    rw [Bool.and_eq_true, decide_eq_true_eq, List.all_eq_true] at h
    obtain ⟨h1, h2⟩ := h
    have h3 : ∀ i, i < ws.length + rs.length → _ := fun i hi => slotOk_iff.1 (h2 i (List.mem_range.2 hi))
    refine ⟨h1, fun i hi => (h3 i (by omega)).1 hi, fun b hb => ?_, fun i hi => (h3 i (by omega)).2.2⟩
    obtain ⟨i, hi, rfl⟩ := List.getElem_of_mem hb
    have := (h3 i (by omega)).2.1
    rw [List.getD_eq_getElem?_getD, List.getElem?_eq_getElem hi] at this
    exact this
  · rintro ⟨h1, h2, h3, h4⟩
    refine mayB_yes h1 (fun i hi => slotOk_iff.2 ⟨h2 i, ?_, h4 i (by omega)⟩)
    have hi' : i < (slots3 ws rs).length := by omega
    rw [List.getD_eq_getElem?_getD, List.getElem?_eq_getElem hi']
    exact h3 _ (List.getElem_mem hi')
open Go.Maps in
theorem mapLaw3 : Keyed Try.prog 3 := int_keyed Try.underlying3
end Go.Proofs.Ytlbfpjhnpnbikaa.U
end
section
namespace Go.Proofs.Ytlbfpjhnpnbikaa.U
open Go.RowKit Go.Proofs.YtlbfpjhnpnbikaaW.PrintWords Go.Proofs.YtlbfpjhnpnbikaaW.PrintLast Go.Proofs.YtlbfpjhnpnbikaaW.PrintMore
attribute [local go_sem] max2_int min2_int max_two min_two max_three min_three max_four min_four
set_option linter.unusedVariables false
set_option linter.unusedSimpArgs false
def zeroV : Array Value := #[.int .i64 0, .slice none 0 0]
theorem info_v3 : (Try.prog.info? 66).map (fun i => (i.zero, i.size, i.bytes)) = some (some (.agg zeroV), 2, 32) := by kernel_rfl
theorem info_v : (Try.prog.info? 66).map (·.size) = some 2 := by kernel_rfl
theorem zero_v (w : World) : (zeroValue 66).run Try.prog w = .ok (.agg zeroV) w := by kernel_rfl
theorem slice_v (w : World) (cs : List Value) (h : cs.length = 2) : (Instr.buildSlice 57 1 #[(0, .agg cs.toArray)]).run Try.prog w = .ok (.slice (some ⟨w.heap.size, 0, none⟩) 1 1) (w.alloc (.cells cs.toArray 66)) := by
  obtain ⟨it, hi, hz⟩ := Option.map_eq_some_iff.1 info_v3
  simp only [Prod.mk.injEq] at hz
  exact X.slice_one Try.underlying57 hi zero_v 2 hz.2.1 (by decide) (by decide) cs h rfl
theorem empty_row (w : World) : (Kd.int .u8).R 5 (w.alloc (.cells #[] 5)) w.heap.size (fun _ => True) (.slice (some ⟨w.heap.size, 0, none⟩) 0 0) [] :=
  Kd.R_of_own (enc := Value.int .u8) (h1 := fun _ => rfl) (own_lit w w.heap.size 5 .u8 [] (Nat.le_refl _) (by decide)) (fun _ _ => trivial)
def RNewPost (w0 : World) (L : List X.Res) (n : Nat) (e : Ending) (w' : World) : Prop := ∃ p, e = .returned (.tuple #[.pointer (some ⟨p, 0, none⟩), .int .i64 0]) ∧ X.Lies w0 w' (.rdisk p n (X.DS.new (List.replicate (256 * n) 0)) :: L)
theorem undercroftref02_New.calls (w0 w : World) (L : List X.Res) (n : Nat) (h : X.Lies w0 w L) (h1 : 1 ≤ n) (h2 : n ≤ 1024) : Calls Try.prog 12 #[.int .i64 (n : Int)] w (RNewPost w0 L n) := by
  have q1 : decide ((n : Int) < 1) = false := decide_eq_false (by omega)
  have q2 : decide ((1024 : Int) < (n : Int)) = false := decide_eq_false (by omega)
  have q3 : decide (n < 1) = false := decide_eq_false (by omega)
  have q4 : decide (1024 < n) = false := decide_eq_false (by omega)
  have HS := Aside0.mk h
  clear h
  go_enter Try.func12, Try.ntmps12
  go_wp2_with ((with_reducible refine gate_ (.makeSlice 22 (.tmp 11) (.tmp 11)) rfl ?_); (refine Kd.R_make (Kd.int .u8) (w0 := w) w.heap.size 5 rfl rfl 22 (.tmp 11) (.tmp 11) rfl ((n : Int) * 256) rfl rfl Try.underlying22 (.int .u8 0) 1 info5 rfl (by decide) (by omega) 0 (ok := fun _ => True) (okp := fun _ => False) rfl (fun _ h => h.elim) trivial (by omega) (by omega) (Below.refl _ _) (Nat.le_refl _) ?_); intro v1 w1 hr1 hb1 hg1 hv1; have HS1 := Aside0.mk (HS.out.newRow hb1 hr1); obtain ⟨A, c, e1⟩ := Kd.R_slice hr1; subst e1; clear hr1 hb1 hg1 hv1 HS)
  go_ret2
  have e1 : ((n : Int) * 256).toNat = 256 * n := by omega
  have e2 : (List.replicate ((n : Int) * 256).toNat (0 : Int)).length = n * 256 := by rw [List.length_replicate]; omega
  have hs := HS1.out
  rw [e2, e1] at hs
  have hs2 := (((hs.wnil).wnil).alloc #[.slice A (n * 256) c, .slice none 0 0, .slice none 0 0, .bool false, .int .i64 0] 75).perm [0, 3, 1, 2] 4 (by decide) (by decide)
  exact ⟨_, rfl, X.Lies.mkRdisk (X.DS.new_ok (n := n) (by rw [List.length_replicate]) h1 h2 (X.u8all_iff.2 (fun c hc => by rw [(List.mem_replicate.1 hc).2]; decide))) hs2⟩
theorem undercroftref02_New_no.calls (n : Int) (w : World) (h : n < 1 ∨ 1024 < n) : Calls Try.prog 12 #[.int .i64 n] w fun e w' => e = .returned (.tuple #[.pointer none, .int .i64 1]) ∧ w = w' := by
  rcases h with h | h
  · have q1 : decide (n < 1) = true := decide_eq_true h
    go_enter Try.func12, Try.ntmps12
    go_wp2
    go_ret2
    exact ⟨rfl, rfl⟩
  · have q1 : decide (n < 1) = false := decide_eq_false (by omega)
    have q2 : decide (1024 < n) = true := decide_eq_true h
    go_enter Try.func12, Try.ntmps12
    go_wp2
    go_ret2
    exact ⟨rfl, rfl⟩
theorem undercroftref02_Disk_Size.calls (w0 w : World) (L : List X.Res) (p n : Nat) (s : X.DS) (h : X.Lies w0 w (.rdisk p n s :: L)) :
    Calls Try.prog 38 #[.pointer (some ⟨p, 0, none⟩)] w fun e w' => e = .returned (.int .i64 (n : Int)) ∧ w = w' := by
  obtain ⟨v0, v1, v2, hok, h⟩ := h.rdisk
  obtain ⟨O, hr⟩ := h.rowed 1 rfl
  obtain ⟨A, c, rfl⟩ := Kd.R_slice hr
  have h0 := (h.boxed 0 rfl).cell 0 _ rfl
  rw [hok.len] at h0
  have hn := hok.n2
  clear hr h hok
  go_enter Try.func38, Try.ntmps38
  go_wp2
  go_ret
  refine ⟨?_, rfl⟩
  have e : wrap64 (Int.tdiv ((256 : Int) * (n : Int)) 256) = (n : Int) := by
    rw [Int.tdiv_eq_ediv_of_nonneg (by omega)]
    unfold wrap64
    omega
  first | rw [e] | (simp; done)
def spend (s : X.DS) : X.DS := if s.blown = true then s else s.spent
theorem undercroftref02_Disk_blown.calls (w0 w : World) (L : List X.Res) (p n : Nat) (s : X.DS) (h : X.Lies w0 w (.rdisk p n s :: L)) :
    Calls Try.prog 39 #[.pointer (some ⟨p, 0, none⟩)] w fun e w' => e = .returned (.bool s.blown) ∧ X.Lies w0 w' (.rdisk p n (spend s) :: L) := by
  obtain ⟨v0, v1, v2, hok, h⟩ := h.rdisk
  obtain ⟨sb, sp, sg, st, sl⟩ := s
  have h3 := (h.boxed 0 rfl).cell 3 _ rfl
  have h4 := (h.boxed 0 rfl).cell 4 _ rfl
  have f4 := (h.boxed 0 rfl).free 4
  have HS := Aside0.mk h
  have HOK := Aside0.mk hok
  have hl := hok.left
  simp only at h3 h4 hl
  clear h hok
  cases st with
  | false =>
    go_enter Try.func39, Try.ntmps39
    go_wp2
    go_ret
    exact ⟨rfl, X.Lies.mkRdisk HOK.out HS.out⟩
  | true =>
    by_cases h0 : sl = 0
    · subst h0
      go_enter Try.func39, Try.ntmps39
      go_wp2
      go_ret
      exact ⟨rfl, X.Lies.mkRdisk HOK.out HS.out⟩
    · have q1 : ((sl : Int) == 0) = false := beq_eq_false_iff_ne.mpr (by omega)
      have q2 : decide (sl = 0) = false := decide_eq_false h0
      go_enter Try.func39, Try.ntmps39
      go_wp2
      go_ret
      have hb : X.DS.blown ⟨sb, sp, sg, true, sl⟩ = false := by unfold X.DS.blown; rw [q2]; rfl
      refine ⟨by rw [hb]; rfl, ?_⟩
      have e2 : spend ⟨sb, sp, sg, true, sl⟩ = ⟨sb, sp, sg, true, sl - 1⟩ := by unfold spend; rw [hb]; rfl
      rw [e2]
      refine X.Lies.mkRdisk (v0 := v0) (v1 := v1) (v2 := v2) ⟨HOK.out.len, HOK.out.n1, HOK.out.n2, HOK.out.u8, HOK.out.pend, HOK.out.ghosts, by have := HOK.out.left; show sl - 1 ≤ _; simp only at this; omega⟩ ?_
      have e3 : (((X.DS.mk sb sp sg true (sl - 1)).left : Nat) : Int) = (sl : Int) - 1 := by show ((sl - 1 : Nat) : Int) = _; omega
      rw [e3]
      exact HS.out.set 4 (.int .i64 ((sl : Int) - 1))
end Go.Proofs.Ytlbfpjhnpnbikaa.U
end
