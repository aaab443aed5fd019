/- Ux2 Ux38: what this claim uses. Laid by slim.py (ours). -/
import Derived.Test.YtlbfpjhnpnbikaaKUx0
import Derived.Test.YtlbfpjhnpnbikaaKUx1
section
namespace Go.Proofs.Ytlbfpjhnpnbikaa.U
open Go.RowKit Go.Proofs.YtlbfpjhnpnbikaaW.PrintWords Go.Proofs.YtlbfpjhnpnbikaaW.PrintLast Go.Proofs.YtlbfpjhnpnbikaaW.PrintMore
attribute [local go_sem] max2_int min2_int max_two min_two max_three min_three max_four min_four
set_option linter.unusedVariables false
set_option linter.unusedSimpArgs false
def Fresh (w : World) (xs : List Int) (v : Value) (w' : World) : Prop := (Kd.int .u8).R 5 w' w.heap.size (fun _ => True) v xs ∧ Below w.heap.size w w'
def BytesPost (w : World) (xs : List Int) (e : Ending) (w' : World) : Prop := ∃ v, e = .returned v ∧ Fresh w xs v w'
def ReadPost (w : World) (s : X.DS) (n : Nat) (i : Int) (e : Ending) (w' : World) : Prop := ∃ v, e = .returned (.tuple #[v, .int .i64 (if hasB i n = true then 0 else 16)]) ∧ Fresh w (if hasB i n = true then s.read i.toNat else []) v w'
theorem disk_Read.calls (p n : Nat) (F G : Nat → Prop) (s : X.DS) (i : Int) (w : World) (h : X.PD w p F G n s) :
    Calls Try.prog 28 #[.pointer (some ⟨p, 0, none⟩), .int .i64 i] w (ReadPost w s n i) := by
  obtain ⟨sv, pv, gl, gg, fg, h⟩ := h
  have hn := h.ok.n2
  obtain ⟨g, c, hsv, _⟩ := Kd.R_form h.st (by rw [h.ok.len]; have := h.ok.n1; omega)
  rw [h.ok.len] at hsv
  subst hsv
  have HP := Aside0.mk h
  clear h
  rcases hb : hasB i n with _ | _
  · have HB := Aside0.mk hb
    clear hb
    go_enter Try.func28, Try.ntmps28
    go_wp2_with ((go_at_call 35; (with_reducible refine (disk_has.calls p (some ⟨g, 0, none⟩) n c _ _ _ _ _ i w HP.out.box hn).mono ?_); rw [HB.out]; rintro e w' ⟨rfl, rfl⟩))
    go_ret2
    refine ⟨.slice none 0 0, by rw [HB.out]; rfl, ?_⟩
    rw [HB.out]
    exact ⟨Kd.R_nil _ _ _ _ _, Below.refl _ _⟩
  · have h2 := of_decide_eq_true hb
    obtain ⟨j, rfl⟩ := Int.eq_ofNat_of_zero_le h2.1
    have hj : j < n := by omega
    have HB := Aside0.mk hb
    have HR := Aside0.mk (HP.out.ok.read hj)
    clear hb h2
    go_enter Try.func28, Try.ntmps28
    go_wp2_with ((go_at_call 35; (with_reducible refine (disk_has.calls p (some ⟨g, 0, none⟩) n c _ _ _ _ _ _ w HP.out.box hn).mono ?_); rw [HB.out]; rintro e w' ⟨rfl, rfl⟩))
    refine (disk_seen.calls p n j F G _ _ _ _ _ s _ HP.out hj).mono ?_
    rintro e w' ⟨A, c, rfl, hc, hC, rfl⟩
    have HC := Aside0.mk hC
    have HL : Aside0 ((s.read j).length = 256) := ⟨HR.out.1⟩
    clear hC
    have hcl := slices_Clone_byte_byte.calls A c (s.read j) (s.read j) _ (by rw [HL.out]; exact HC.out) (by rw [HL.out]; exact hc) (by unfold slices_Clone_byte_byte.f; rw [HL.out, if_pos (by decide)])
    rw [HL.out] at hcl
    go_wp2_with fail
    refine hcl.mono ?_
    rintro e w2 ⟨v, rfl, ho, hb⟩
    have HO := Aside0.mk ho
    have HBL := Aside0.mk hb
    clear ho hb hcl
    go_wp2
    go_ret2
    refine ⟨v, by rw [HB.out]; rfl, ?_⟩
    rw [HB.out]
    exact ⟨HO.out, HBL.out⟩
theorem disk_Read.part (w0 w : World) (L : List X.Res) (p n : Nat) (s : X.DS) (i : Int) (h : X.Lies w0 w (.disk p n s :: L)) :
    Calls Try.prog 28 #[.pointer (some ⟨p, 0, none⟩), .int .i64 i] w fun e w' => ∃ v, e = .returned (.tuple #[v, .int .i64 (if hasB i n = true then 0 else 16)]) ∧ X.Lies w0 w' (.row (Kd.int .u8) 5 v (if hasB i n = true then s.read i.toNat else []) :: .disk p n s :: L) := by
  obtain ⟨F, G, hp, -⟩ := h.disk
  refine (disk_Read.calls p n F G s i w hp).mono ?_
  rintro e w' ⟨v, rfl, hr, hb⟩
  exact ⟨v, rfl, h.newRow hb hr⟩
end Go.Proofs.Ytlbfpjhnpnbikaa.U
end
section
namespace Go.Proofs.Ytlbfpjhnpnbikaa.U
open Go.RowKit Go.Proofs.YtlbfpjhnpnbikaaW.PrintWords Go.Proofs.YtlbfpjhnpnbikaaW.PrintLast Go.Proofs.YtlbfpjhnpnbikaaW.PrintMore
attribute [local go_sem] max2_int min2_int max_two min_two max_three min_three max_four min_four
set_option linter.unusedVariables false
set_option linter.unusedSimpArgs false
def imageTo (s : X.DS) (i : Nat) : List Int := (List.range i).flatMap fun j => s.read j
theorem imageTo_succ (s : X.DS) (i : Nat) : imageTo s (i + 1) = imageTo s i ++ s.read i := by
  unfold imageTo
  rw [List.range_succ, List.flatMap_append]
  simp
theorem imageTo_length {s : X.DS} {n : Nat} (h : s.Ok n) : ∀ i, i ≤ n → (imageTo s i).length = 256 * i
  | 0, _ => rfl
  | i + 1, hi => by
    rw [imageTo_succ, List.length_append, imageTo_length h i (by omega), (h.read (by omega)).1]
    omega
set_option maxHeartbeats 4000000 in
set_option maxRecDepth 100000 in
theorem disk_Image.calls (p n : Nat) (F G : Nat → Prop) (s : X.DS) (w : World) (h : X.PD w p F G n s) :
    Calls Try.prog 20 #[.pointer (some ⟨p, 0, none⟩)] w (BytesPost w (imageTo s n)) := by
  obtain ⟨sv, pv, gl, gg, fg, h⟩ := h
  have hn := h.ok.n2
  obtain ⟨A, c, e1⟩ := Kd.R_slice h.st
  rw [h.ok.len] at e1
  subst e1
  have HP := Aside0.mk h
  clear h
  go_enter Try.func20, Try.ntmps20
  go_wp2_with fail
  refine (disk_Size.calls p A n c _ _ _ _ _ w HP.out.box hn).mono ?_
  rintro e w' ⟨rfl, rfl⟩
  go_wp2_with fail
  go_loopg [3, 7] n (fun gk v3 v7 w' => ∃ i : Nat, v7 = .int .i64 (i : Int) ∧ Aside0 (gk + i = n) ∧ Aside0 ((Kd.int .u8).R 5 w' w.heap.size (fun _ => True) v3 (imageTo s i)) ∧ Aside0 (Below w.heap.size w w'))
  case atStart => exact ⟨0, rfl, ⟨by omega⟩, ⟨Kd.R_nil _ _ _ _ _⟩, ⟨Below.refl _ _⟩⟩
  case round =>
    obtain ⟨i, rfl, HK, HR, HB⟩ := hrel
    by_cases hlt : i < n
    · have q0 : decide ((i : Int) < (n : Int)) = true := decide_eq_true (by omega)
      have q00 : decide (i < n) = true := decide_eq_true hlt
      have HPr := Aside0.mk (HP.out.below HB.out)
      have HL := Aside0.mk (imageTo_length HP.out.ok i (by omega))
      have HRD := Aside0.mk (HP.out.ok.read hlt)
      go_wp2_with fail
      refine (disk_seen.calls p n i F G _ _ _ _ _ s _ HPr.out hlt).mono ?_
      rintro e w2 ⟨A2, c2, rfl, hc2, hC2, rfl⟩
      have HC2 := Aside0.mk hC2
      clear hC2
      go_wp2_with ((with_reducible refine gate_ (.call { callee := .builtin .append, args := #[.tmp 10, .tmp 13], argTypes := #[22, 22] }) rfl ?_); (refine Kd.R_append_rows (Kd.int .u8) (w0 := w) w.heap.size rfl (.tmp 10) (.tmp 13) 22 5 (.int .u8 0) 1 rfl Try.underlying22 info5 rfl (by decide) (by omega) _ (imageTo s i) (s.read i) _ _ _ (fun _ => True) (fun _ => False) rfl rfl HR.out HC2.out (fun _ _ h => h) (fun _ h => h.elim) (fun _ _ => trivial) HB.out HB.out.size (by rw [HL.out]; omega) ?_); intro v4 w4 hr4 hb4 hg4 ha4; have HR4 := Aside0.mk hr4; have HB4 := Aside0.mk hb4; clear hr4 hb4 hg4 ha4)
      rw [← imageTo_succ] at HR4
      cases gk with
      | zero => exact absurd HK.out (by omega)
      | succ k1 =>
        go_roundg k1
        case measure => omega
        case rel => exact ⟨i + 1, by go_num, ⟨by have := HK.out; omega⟩, HR4, HB4⟩
    · have q0 : decide ((i : Int) < (n : Int)) = false := decide_eq_false (by omega)
      have q00 : decide (i < n) = false := decide_eq_false hlt
      obtain rfl : i = n := by have := HK.out; omega
      go_wp2
      go_ret
      exact ⟨_, rfl, HR.out, HB.out⟩
theorem disk_Image.part (w0 w : World) (L : List X.Res) (p n : Nat) (s : X.DS) (h : X.Lies w0 w (.disk p n s :: L)) :
    Calls Try.prog 20 #[.pointer (some ⟨p, 0, none⟩)] w fun e w' => ∃ v, e = .returned v ∧ X.Lies w0 w' (.row (Kd.int .u8) 5 v (imageTo s n) :: .disk p n s :: L) := by
  obtain ⟨F, G, hp, -⟩ := h.disk
  refine (disk_Image.calls p n F G s w hp).mono ?_
  rintro e w' ⟨v, rfl, hr, hb⟩
  exact ⟨v, rfl, h.newRow hb hr⟩
end Go.Proofs.Ytlbfpjhnpnbikaa.U
end
