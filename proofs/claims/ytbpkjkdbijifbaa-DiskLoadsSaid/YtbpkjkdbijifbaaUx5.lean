/- Written by uprint.py (ours) for this seat: functions of the translation as Lean functions, and what their calls do. Not trusted: Lean checks it. -/
import Derived.Test.YtbpkjkdbijifbaaUx0
import Derived.Test.YtbpkjkdbijifbaaUx1
import Derived.Test.YtbpkjkdbijifbaaUx3
namespace Go.Proofs.Ytbpkjkdbijifbaa.U
open Go.RowKit Go.Proofs.YtbpkjkdbijifbaaW.PrintWords Go.Proofs.YtbpkjkdbijifbaaW.PrintLast Go.Proofs.YtbpkjkdbijifbaaW.PrintMore
attribute [local go_sem] max2_int min2_int max_two min_two max_three min_three max_four min_four   -- for this text's walks alone
set_option linter.unusedVariables false
set_option linter.unusedSimpArgs false

-- GIVEN: function 40 ((*undercroft/disk.Disk).seen)
/-- Reading of one block. -/
def Seen (w : World) (xs : List Int) (e : Ending) (w' : World) : Prop := ∃ A c, e = .returned (.slice A 256 c) ∧ 256 ≤ c ∧ (Kd.int .u8).C w A 256 xs ∧ w = w'
theorem zeroInt (w : World) : (zeroValue 3).run Try.prog w = .ok (.int .i64 0) w := by kernel_rfl
theorem zeroBytes (w : World) : (zeroValue 22).run Try.prog w = .ok (.slice none 0 0) w := by kernel_rfl
theorem disk_seen.calls (p n i : Nat) (F G : Nat → Prop) (sv pv : Value) (gl gg : Nat) (fg : Int → Option Value) (s : X.DS) (w : World) (h : X.PDr w p F G sv pv gl gg fg n s) (hi : i < n) :
    Calls Try.prog 40 #[.pointer (some ⟨p, 0, none⟩), .int .i64 (i : Int)] w (Seen w (s.read i)) := by
  have HP := Aside0.mk h
  have hn := h.ok.n2
  have hwf : (Lit.int .i64 (i : Int)).wf = true := by
    simp [Lit.wf, IntKind.min, IntKind.max, IntKind.bits, IntKind.signed]
    omega
  have hl1 := h.gh.look Try.underlying3 Try.underlying64 (zeroBytes w) hwf
  have hl2 := h.la.look Try.underlying3 Try.underlying63 (zeroInt w) hwf
  have h0 := h.box.cell 0 _ rfl
  have h1 := h.box.cell 1 _ rfl
  have h2 := h.box.cell 2 _ rfl
  have h3 := h.box.cell 3 _ rfl
  have HRD : Aside0 (s.read i = (X.lastD s.ghosts (i : Int)).getD ((X.lastD s.pend (i : Int)).getD ((s.bytes.take (256 * i + 256)).drop (256 * i)))) := ⟨rfl⟩
  have hsl := Kd.R_reads h.st
  rcases h.go (i : Int) with ⟨e1, e2⟩ | ⟨ys, v, e1, e2, hv⟩
  · rw [e2] at hl1
    rw [e1] at HRD
    rcases X.lastIdx_at (i : Int) s.pend.length s.pend rfl with ⟨e3, e4⟩ | ⟨k, x, e3, e4, e5, e6⟩
    · rw [e3] at hl2
      rw [e4] at HRD
      simp only [Option.map_none, Option.getD_none, Option.isSome_none] at hl1 hl2 HRD
      obtain ⟨g, c, hsv, _⟩ := Kd.R_form h.st (by rw [h.ok.len]; have := h.ok.n1; omega)
      rw [h.ok.len] at hsv
      have hc := Kd.R_reads' (hsv ▸ h.st)
      have HC : Aside0 ((Kd.int .u8).C w (some ⟨g, 256 * i, none⟩) 256 ((s.bytes.take (256 * i + 256)).drop (256 * i))) := ⟨X.C_sub hc.2.2 (by rw [h.ok.len]; omega)⟩
      have HCL : Aside0 (256 ≤ c - 256 * i) := ⟨by have := hc.2.1; omega⟩
      subst hsv
      clear h e1 e2 e3 e4 hsl
      go_enter Try.func40, Try.ntmps40
      go_wp2_with ((go_at_call 38; (with_reducible refine (disk_at.calls p g n c i _ _ _ _ _ w HP.out.box hn hi (by have := hc.2.1; omega)).mono ?_); rintro e w' ⟨rfl, rfl⟩))
      go_ret
      rw [HRD.out]
      exact ⟨_, _, rfl, HCL.out, HC.out, rfl⟩
    · rw [e3] at hl2
      rw [e6] at HRD
      simp only [Option.map_some, Option.getD_some, Option.isSome_some, Option.getD_none, Option.isSome_none] at hl1 hl2 HRD
      have hk : k < s.pend.length := (List.getElem?_eq_some_iff.1 e4).1
      obtain ⟨g, c, hpv, _⟩ := Kd.R_form h.pd (by rw [List.length_map]; omega)
      rw [List.length_map] at hpv
      obtain ⟨hC, _⟩ := X.pend_C (hpv ▸ h.pd) e4 (h.ok.pend x (List.mem_of_getElem? e4)).2.1
      have HC := Aside0.mk hC
      subst hpv
      have hq : decide ((k : Int) < (s.pend.length : Int)) = true := decide_eq_true (by omega)
      have hq2 : decide (k < s.pend.length) = true := decide_eq_true hk
      clear h e1 e2 e3 e4 hsl hC
      generalize s.pend.length = m at *
      go_enter Try.func40, Try.ntmps40
      go_wp2
      go_ret
      rw [HRD.out]
      exact ⟨_, _, rfl, by decide, HC.out, rfl⟩
  · obtain ⟨A, c, hv2⟩ := Kd.R_slice hv
    have hc := Kd.R_reads' (hv2 ▸ hv)
    rw [e2, hv2] at hl1
    rw [e1] at HRD
    simp only [Option.getD_some, Option.isSome_some] at hl1 HRD
    have hyl : ys.length = 256 := by
      obtain ⟨x, hx, rfl⟩ := X.lastD_mem e1
      exact (h.ok.ghosts x hx).2.1
    rw [hyl] at hl1 hc
    have HC := Aside0.mk hc.2.2
    have hc1 := hc.2.1
    clear h e1 e2 hsl hc hv hl2
    go_enter Try.func40, Try.ntmps40
    go_wp2
    go_ret
    rw [HRD.out]
    exact ⟨_, _, rfl, hc1, HC.out, rfl⟩

-- GIVEN: function 22 ((*undercroft/disk.Disk).Read)
/-- What is handed back: new bytes. -/
def Fresh (w : World) (xs : List Int) (v : Value) (w' : World) : Prop := (Kd.int .u8).R 5 w' w.heap.size (fun _ => True) v xs ∧ Below w.heap.size w w'
def ReadPost (w : World) (s : X.DS) (n : Nat) (i : Int) (e : Ending) (w' : World) : Prop := ∃ v, e = .returned (.tuple #[v, .int .i64 (if hasB i n = true then 0 else 16)]) ∧ Fresh w (if hasB i n = true then s.read i.toNat else []) v w'
theorem disk_Read.calls (p n : Nat) (F G : Nat → Prop) (s : X.DS) (i : Int) (w : World) (h : X.PD w p F G n s) :
    Calls Try.prog 22 #[.pointer (some ⟨p, 0, none⟩), .int .i64 i] w (ReadPost w s n i) := by
  obtain ⟨sv, pv, gl, gg, fg, h⟩ := h
  have hn := h.ok.n2
  obtain ⟨g, c, hsv, _⟩ := Kd.R_form h.st (by rw [h.ok.len]; have := h.ok.n1; omega)
  rw [h.ok.len] at hsv
  subst hsv
  have HP := Aside0.mk h
  clear h
  rcases hb : hasB i n with _ | _
  · have HB := Aside0.mk hb
    clear hb
    go_enter Try.func22, Try.ntmps22
    go_wp2_with ((go_at_call 34; (with_reducible refine (disk_has.calls p (some ⟨g, 0, none⟩) n c _ _ _ _ _ i w HP.out.box hn).mono ?_); rw [HB.out]; rintro e w' ⟨rfl, rfl⟩))
    go_ret2
    refine ⟨.slice none 0 0, by rw [HB.out]; rfl, ?_⟩
    rw [HB.out]
    exact ⟨Kd.R_nil _ _ _ _ _, Below.refl _ _⟩
  · have h2 := of_decide_eq_true hb
    obtain ⟨j, rfl⟩ := Int.eq_ofNat_of_zero_le h2.1
    have hj : j < n := by omega
    have HB := Aside0.mk hb
    have HR := Aside0.mk (HP.out.ok.read hj)
    clear hb h2
    go_enter Try.func22, Try.ntmps22
    go_wp2_with ((go_at_call 34; (with_reducible refine (disk_has.calls p (some ⟨g, 0, none⟩) n c _ _ _ _ _ _ w HP.out.box hn).mono ?_); rw [HB.out]; rintro e w' ⟨rfl, rfl⟩))
    refine (disk_seen.calls p n j F G _ _ _ _ _ s _ HP.out hj).mono ?_
    rintro e w' ⟨A, c, rfl, hc, hC, rfl⟩
    have HC := Aside0.mk hC
    have HL : Aside0 ((s.read j).length = 256) := ⟨HR.out.1⟩
    clear hC
    have hcl := slices_Clone_byte_byte.calls A c (s.read j) (s.read j) _ (by rw [HL.out]; exact HC.out) (by rw [HL.out]; exact hc) (by unfold slices_Clone_byte_byte.f; rw [HL.out, if_pos (by decide)])
    rw [HL.out] at hcl
    go_wp2_with fail
    refine hcl.mono ?_
    rintro e w2 ⟨v, rfl, ho, hb⟩
    have HO := Aside0.mk ho
    have HBL := Aside0.mk hb
    clear ho hb hcl
    go_wp2
    go_ret2
    refine ⟨v, by rw [HB.out]; rfl, ?_⟩
    rw [HB.out]
    exact ⟨HO.out, HBL.out⟩
theorem disk_Read_nil.calls (i : Int) (w : World) : Calls Try.prog 22 #[.pointer none, .int .i64 i] w fun e w' => e = .returned (.tuple #[.slice none 0 0, .int .i64 16]) ∧ w = w' := by
  go_enter Try.func22, Try.ntmps22
  go_wp2_with ((go_at_call 34; (with_reducible refine (disk_has_nil.calls _ w).mono ?_); rintro e w' ⟨rfl, rfl⟩))
  go_ret2
  exact ⟨rfl, rfl⟩
theorem disk_Read.part (w0 w : World) (L : List X.Res) (p n : Nat) (s : X.DS) (i : Int) (h : X.Lies w0 w (.disk p n s :: L)) :
    Calls Try.prog 22 #[.pointer (some ⟨p, 0, none⟩), .int .i64 i] w fun e w' => ∃ v, e = .returned (.tuple #[v, .int .i64 (if hasB i n = true then 0 else 16)]) ∧ X.Lies w0 w' (.row (Kd.int .u8) 5 v (if hasB i n = true then s.read i.toNat else []) :: .disk p n s :: L) := by
  obtain ⟨F, G, hp, -⟩ := h.disk
  refine (disk_Read.calls p n F G s i w hp).mono ?_
  rintro e w' ⟨v, rfl, hr, hb⟩
  exact ⟨v, rfl, h.newRow hb hr⟩

end Go.Proofs.Ytbpkjkdbijifbaa.U
