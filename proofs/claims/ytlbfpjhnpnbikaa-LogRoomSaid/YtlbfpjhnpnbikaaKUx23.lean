/- Ux23: what this claim uses. Laid by slim.py (ours). -/
import Derived.Test.YtlbfpjhnpnbikaaKUx50
namespace Go.Proofs.Ytlbfpjhnpnbikaa.U
open Go.RowKit Go.Proofs.YtlbfpjhnpnbikaaW.PrintWords Go.Proofs.YtlbfpjhnpnbikaaW.PrintLast Go.Proofs.YtlbfpjhnpnbikaaW.PrintMore
attribute [local go_sem] max2_int min2_int max_two min_two max_three min_three max_four min_four
set_option linter.unusedVariables false
set_option linter.unusedSimpArgs false
def zeroV : Array Value := #[.int .i64 0, .slice none 0 0]
theorem info_v3 : (Try.prog.info? 66).map (fun i => (i.zero, i.size, i.bytes)) = some (some (.agg zeroV), 2, 32) := by kernel_rfl
theorem info_v : (Try.prog.info? 66).map (·.size) = some 2 := by kernel_rfl
theorem zero_v (w : World) : (zeroValue 66).run Try.prog w = .ok (.agg zeroV) w := by kernel_rfl
theorem slice_v (w : World) (cs : List Value) (h : cs.length = 2) : (Instr.buildSlice 57 1 #[(0, .agg cs.toArray)]).run Try.prog w = .ok (.slice (some ⟨w.heap.size, 0, none⟩) 1 1) (w.alloc (.cells cs.toArray 66)) := by
  obtain ⟨it, hi, hz⟩ := Option.map_eq_some_iff.1 info_v3
  simp only [Prod.mk.injEq] at hz
  exact X.slice_one Try.underlying57 hi zero_v 2 hz.2.1 (by decide) (by decide) cs h rfl
theorem empty_row (w : World) : (Kd.int .u8).R 5 (w.alloc (.cells #[] 5)) w.heap.size (fun _ => True) (.slice (some ⟨w.heap.size, 0, none⟩) 0 0) [] :=
  Kd.R_of_own (enc := Value.int .u8) (h1 := fun _ => rfl) (own_lit w w.heap.size 5 .u8 [] (Nat.le_refl _) (by decide)) (fun _ _ => trivial)
def RNewPost (w0 : World) (L : List X.Res) (n : Nat) (e : Ending) (w' : World) : Prop := ∃ p, e = .returned (.tuple #[.pointer (some ⟨p, 0, none⟩), .int .i64 0]) ∧ X.Lies w0 w' (.rdisk p n (X.DS.new (List.replicate (256 * n) 0)) :: L)
theorem undercroftref02_New.calls (w0 w : World) (L : List X.Res) (n : Nat) (h : X.Lies w0 w L) (h1 : 1 ≤ n) (h2 : n ≤ 1024) : Calls Try.prog 12 #[.int .i64 (n : Int)] w (RNewPost w0 L n) := by
  have q1 : decide ((n : Int) < 1) = false := decide_eq_false (by omega)
  have q2 : decide ((1024 : Int) < (n : Int)) = false := decide_eq_false (by omega)
  have q3 : decide (n < 1) = false := decide_eq_false (by omega)
  have q4 : decide (1024 < n) = false := decide_eq_false (by omega)
  have HS := Aside0.mk h
  clear h
  go_enter Try.func12, Try.ntmps12
  go_wp2_with ((with_reducible refine gate_ (.makeSlice 22 (.tmp 11) (.tmp 11)) rfl ?_); (refine Kd.R_make (Kd.int .u8) (w0 := w) w.heap.size 5 rfl rfl 22 (.tmp 11) (.tmp 11) rfl ((n : Int) * 256) rfl rfl Try.underlying22 (.int .u8 0) 1 info5 rfl (by decide) (by omega) 0 (ok := fun _ => True) (okp := fun _ => False) rfl (fun _ h => h.elim) trivial (by omega) (by omega) (Below.refl _ _) (Nat.le_refl _) ?_); intro v1 w1 hr1 hb1 hg1 hv1; have HS1 := Aside0.mk (HS.out.newRow hb1 hr1); obtain ⟨A, c, e1⟩ := Kd.R_slice hr1; subst e1; clear hr1 hb1 hg1 hv1 HS)
  go_ret2
  have e1 : ((n : Int) * 256).toNat = 256 * n := by omega
  have e2 : (List.replicate ((n : Int) * 256).toNat (0 : Int)).length = n * 256 := by rw [List.length_replicate]; omega
  have hs := HS1.out
  rw [e2, e1] at hs
  have hs2 := (((hs.wnil).wnil).alloc #[.slice A (n * 256) c, .slice none 0 0, .slice none 0 0, .bool false, .int .i64 0] 75).perm [0, 3, 1, 2] 4 (by decide) (by decide)
  exact ⟨_, rfl, X.Lies.mkRdisk (X.DS.new_ok (n := n) (by rw [List.length_replicate]) h1 h2 (X.u8all_iff.2 (fun c hc => by rw [(List.mem_replicate.1 hc).2]; decide))) hs2⟩
theorem undercroftref02_New_no.calls (n : Int) (w : World) (h : n < 1 ∨ 1024 < n) : Calls Try.prog 12 #[.int .i64 n] w fun e w' => e = .returned (.tuple #[.pointer none, .int .i64 1]) ∧ w = w' := by
  rcases h with h | h
  · have q1 : decide (n < 1) = true := decide_eq_true h
    go_enter Try.func12, Try.ntmps12
    go_wp2
    go_ret2
    exact ⟨rfl, rfl⟩
  · have q1 : decide (n < 1) = false := decide_eq_false (by omega)
    have q2 : decide (1024 < n) = true := decide_eq_true h
    go_enter Try.func12, Try.ntmps12
    go_wp2
    go_ret2
    exact ⟨rfl, rfl⟩
theorem undercroftref02_Disk_Size.calls (w0 w : World) (L : List X.Res) (p n : Nat) (s : X.DS) (h : X.Lies w0 w (.rdisk p n s :: L)) :
    Calls Try.prog 38 #[.pointer (some ⟨p, 0, none⟩)] w fun e w' => e = .returned (.int .i64 (n : Int)) ∧ w = w' := by
  obtain ⟨v0, v1, v2, hok, h⟩ := h.rdisk
  obtain ⟨O, hr⟩ := h.rowed 1 rfl
  obtain ⟨A, c, rfl⟩ := Kd.R_slice hr
  have h0 := (h.boxed 0 rfl).cell 0 _ rfl
  rw [hok.len] at h0
  have hn := hok.n2
  clear hr h hok
  go_enter Try.func38, Try.ntmps38
  go_wp2
  go_ret
  refine ⟨?_, rfl⟩
  have e : wrap64 (Int.tdiv ((256 : Int) * (n : Int)) 256) = (n : Int) := by
    rw [Int.tdiv_eq_ediv_of_nonneg (by omega)]
    unfold wrap64
    omega
  first | rw [e] | (simp; done)
def spend (s : X.DS) : X.DS := if s.blown = true then s else s.spent
theorem undercroftref02_Disk_blown.calls (w0 w : World) (L : List X.Res) (p n : Nat) (s : X.DS) (h : X.Lies w0 w (.rdisk p n s :: L)) :
    Calls Try.prog 39 #[.pointer (some ⟨p, 0, none⟩)] w fun e w' => e = .returned (.bool s.blown) ∧ X.Lies w0 w' (.rdisk p n (spend s) :: L) := by
  obtain ⟨v0, v1, v2, hok, h⟩ := h.rdisk
  obtain ⟨sb, sp, sg, st, sl⟩ := s
  have h3 := (h.boxed 0 rfl).cell 3 _ rfl
  have h4 := (h.boxed 0 rfl).cell 4 _ rfl
  have f4 := (h.boxed 0 rfl).free 4
  have HS := Aside0.mk h
  have HOK := Aside0.mk hok
  have hl := hok.left
  simp only at h3 h4 hl
  clear h hok
  cases st with
  | false =>
    go_enter Try.func39, Try.ntmps39
    go_wp2
    go_ret
    exact ⟨rfl, X.Lies.mkRdisk HOK.out HS.out⟩
  | true =>
    by_cases h0 : sl = 0
    · subst h0
      go_enter Try.func39, Try.ntmps39
      go_wp2
      go_ret
      exact ⟨rfl, X.Lies.mkRdisk HOK.out HS.out⟩
    · have q1 : ((sl : Int) == 0) = false := beq_eq_false_iff_ne.mpr (by omega)
      have q2 : decide (sl = 0) = false := decide_eq_false h0
      go_enter Try.func39, Try.ntmps39
      go_wp2
      go_ret
      have hb : X.DS.blown ⟨sb, sp, sg, true, sl⟩ = false := by unfold X.DS.blown; rw [q2]; rfl
      refine ⟨by rw [hb]; rfl, ?_⟩
      have e2 : spend ⟨sb, sp, sg, true, sl⟩ = ⟨sb, sp, sg, true, sl - 1⟩ := by unfold spend; rw [hb]; rfl
      rw [e2]
      refine X.Lies.mkRdisk (v0 := v0) (v1 := v1) (v2 := v2) ⟨HOK.out.len, HOK.out.n1, HOK.out.n2, HOK.out.u8, HOK.out.pend, HOK.out.ghosts, by have := HOK.out.left; show sl - 1 ≤ _; simp only at this; omega⟩ ?_
      have e3 : (((X.DS.mk sb sp sg true (sl - 1)).left : Nat) : Int) = (sl : Int) - 1 := by show ((sl - 1 : Nat) : Int) = _; omega
      rw [e3]
      exact HS.out.set 4 (.int .i64 ((sl : Int) - 1))
end Go.Proofs.Ytlbfpjhnpnbikaa.U
