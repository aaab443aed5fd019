/- Written by uprint.py (ours) for this seat: functions of the translation as Lean functions, and what their calls do. Not trusted: Lean checks it. -/
import Derived.Test.YtbpkjkdbijifbaaUx0
import Derived.Test.YtbpkjkdbijifbaaUx1
import Derived.Test.YtbpkjkdbijifbaaUx5
namespace Go.Proofs.Ytbpkjkdbijifbaa.U
open Go.RowKit Go.Proofs.YtbpkjkdbijifbaaW.PrintWords Go.Proofs.YtbpkjkdbijifbaaW.PrintLast Go.Proofs.YtbpkjkdbijifbaaW.PrintMore
attribute [local go_sem] max2_int min2_int max_two min_two max_three min_three max_four min_four   -- for this text's walks alone
set_option linter.unusedVariables false
set_option linter.unusedSimpArgs false

-- GIVEN: function 16 ((*undercroft/disk.Disk).Stable)
def BytesPost (w : World) (xs : List Int) (e : Ending) (w' : World) : Prop := ∃ v, e = .returned v ∧ Fresh w xs v w'
theorem disk_Stable.calls (p n : Nat) (F G : Nat → Prop) (s : X.DS) (w : World) (h : X.PD w p F G n s) :
    Calls Try.prog 16 #[.pointer (some ⟨p, 0, none⟩)] w (BytesPost w s.bytes) := by
  obtain ⟨sv, pv, gl, gg, fg, h⟩ := h
  have h0 := h.box.cell 0 _ rfl
  obtain ⟨A, c, e1⟩ := Kd.R_slice h.st
  subst e1
  have hr := Kd.R_reads' h.st
  have hlen := h.ok.len
  have hn := h.ok.n2
  have hcl := slices_Clone_byte_byte.calls A c s.bytes s.bytes w hr.2.2 hr.2.1 (by unfold slices_Clone_byte_byte.f; rw [if_pos (by omega)])
  clear h hr hlen hn
  go_enter Try.func16, Try.ntmps16
  go_wp2_with fail
  refine hcl.mono ?_
  rintro e w1 ⟨v, rfl, ho, hb⟩
  have HO := Aside0.mk ho
  have HB := Aside0.mk hb
  clear ho hb hcl h0
  go_wp2
  go_ret
  exact ⟨v, rfl, HO.out, HB.out⟩
theorem disk_Stable_nil.calls (w : World) : Calls Try.prog 16 #[.pointer none] w (BytesPost w []) := by
  go_enter Try.func16, Try.ntmps16
  go_wp2
  go_ret
  exact ⟨.slice none 0 0, rfl, Kd.R_nil _ _ _ _ _, Below.refl _ _⟩
theorem disk_Stable.part (w0 w : World) (L : List X.Res) (p n : Nat) (s : X.DS) (h : X.Lies w0 w (.disk p n s :: L)) :
    Calls Try.prog 16 #[.pointer (some ⟨p, 0, none⟩)] w fun e w' => ∃ v, e = .returned v ∧ X.Lies w0 w' (.row (Kd.int .u8) 5 v s.bytes :: .disk p n s :: L) := by
  obtain ⟨F, G, hp, -⟩ := h.disk
  refine (disk_Stable.calls p n F G s w hp).mono ?_
  rintro e w' ⟨v, rfl, hr, hb⟩
  exact ⟨v, rfl, h.newRow hb hr⟩

end Go.Proofs.Ytbpkjkdbijifbaa.U
