/- PLog4 Ux2 Ux3: what this claim uses. Laid by slim.py (ours). -/
import Derived.Test.YtlbfpjhnpnbikaaKUx51
import Derived.Test.YtlbfpjhnpnbikaaKPLog3
import Derived.Test.YtlbfpjhnpnbikaaKUx0
import Derived.Test.YtlbfpjhnpnbikaaKUx1
import Derived.Test.YtlbfpjhnpnbikaaKPLog
section
namespace Go.Proofs.Ytlbfpjhnpnbikaa.Pure
open Go Go.RowKit Go.Proofs.Ytlbfpjhnpnbikaa.U Go.Proofs.YtlbfpjhnpnbikaaW.PrintWords Go.Proofs.YtlbfpjhnpnbikaaW.PrintLast Go.Proofs.YtlbfpjhnpnbikaaW.PrintMore
set_option linter.unusedVariables false
set_option linter.unusedSimpArgs false
theorem Sound.mono {n : Nat} {d : X.DS} {s : LS} {k k2 : Nat} (h : Sound n d s k) (hk : k ≤ k2) : Sound n d s k2 := ⟨h.free, h.ok, by have := h.pend; omega, by have := h.live; omega⟩
theorem appS_st (n : Nat) (s : LS) (ws : List S66) (rs : List Int) : (appS n s ws rs).st = s.st ∧ (appS n s ws rs).len = s.len := by
  unfold appS
  split <;> exact ⟨rfl, rfl⟩
theorem read_write_free {n : Nat} {d : X.DS} (h : Free n d) (j : Nat) (xs : List Int) (i : Nat) : (d.write j xs).read i = if i = j then xs else d.read i := by
  rw [X.DS.read_write]
  by_cases hij : i = j
  · rw [if_pos hij, if_pos hij, h.gho]
    split <;> rfl
  · rw [if_neg hij, if_neg hij]
def Heads (d : X.DS) (s : LS) : Prop := s.live = [] → d.read s.st = hdB s.seq s.pl
theorem Heads.new {n st ln : Nat} (h1 : 1 ≤ n) (h2 : n ≤ 1024) (ha : areaB n (st : Int) (ln : Int) = true) : Heads (newD n st ln) (newS st ln) := fun _ => new_read h1 h2 ha
theorem Heads.app {n : Nat} {d : X.DS} {s : LS} {ws : List S66} {rs : List Int} (h : Heads d s) : Heads (appD n d s ws rs) (appS n s ws rs) := by
  unfold appD appS
  by_cases he : appE n s ws rs = 0
  · rw [if_pos he, if_pos he]
    intro hl
    exact absurd (congrArg List.length hl) (by show (s.live ++ [_]).length ≠ 0; rw [List.length_append]; simp)
  · rw [if_neg he, if_neg he]
    exact h
theorem home_head {n : Nat} {d : X.DS} {s : LS} (hf : Free n d) (hs : s.Ok n) (h : Heads d s) : (homeD d s).read s.st = hdB s.seq s.pl := by
  unfold homeD
  by_cases hl : s.live = []
  · rw [if_pos hl]
    exact h hl
  · rw [if_neg hl]
    have h0 := ((hf.flush).ap (fun t ht => live_w hs ht) s.live.length).flush
    have h1 := h0.write (show s.st < n by have := hs.fit; have := hs.l0; omega) (hdB_length s.seq s.pl) (hdB_u8 _ _)
    rw [X.DS.read_flush h1.ok, read_write_free h0, if_pos rfl]
theorem Heads.home {n : Nat} {d : X.DS} {s : LS} (hf : Free n d) (hs : s.Ok n) (h : Heads d s) : Heads (homeD d s) (homeS s) := fun _ => home_head hf hs h
theorem home_opens {n : Nat} {d : X.DS} {s : LS} (hf : Free n d) (hs : s.Ok n) (h : Heads d s) : opnE n (homeD d s) (s.st : Int) (s.len : Int) = 0 ∧ opnS (homeD d s) (s.st : Int) (s.len : Int) = ⟨s.st, s.len, s.seq, s.pl, []⟩ := by
  have hp := hs.pl
  have hl := hs.l1
  constructor
  · unfold opnE
    have ha : areaB n (s.st : Int) (s.len : Int) = true := decide_eq_true (by have := hs.l0; have := hs.fit; omega)
    rw [if_pos ha, Int.toNat_natCast, home_head hf hs h, if_pos (hdOk_hdB hs.sq (by omega) (by omega))]
  · unfold opnS
    rw [Int.toNat_natCast, Int.toNat_natCast, home_head hf hs h, hdSeq_hdB _ hs.sq, hdPl_hdB _ (by omega)]
end Go.Proofs.Ytlbfpjhnpnbikaa.Pure
end
section
namespace Go.Proofs.Ytlbfpjhnpnbikaa.U
open Go.RowKit Go.Proofs.YtlbfpjhnpnbikaaW.PrintWords Go.Proofs.YtlbfpjhnpnbikaaW.PrintLast Go.Proofs.YtlbfpjhnpnbikaaW.PrintMore
attribute [local go_sem] max2_int min2_int max_two min_two max_three min_three max_four min_four
set_option linter.unusedVariables false
set_option linter.unusedSimpArgs false
def Fresh (w : World) (xs : List Int) (v : Value) (w' : World) : Prop := (Kd.int .u8).R 5 w' w.heap.size (fun _ => True) v xs ∧ Below w.heap.size w w'
def ReadPost (w : World) (s : X.DS) (n : Nat) (i : Int) (e : Ending) (w' : World) : Prop := ∃ v, e = .returned (.tuple #[v, .int .i64 (if hasB i n = true then 0 else 16)]) ∧ Fresh w (if hasB i n = true then s.read i.toNat else []) v w'
theorem disk_Read.calls (p n : Nat) (F G : Nat → Prop) (s : X.DS) (i : Int) (w : World) (h : X.PD w p F G n s) :
    Calls Try.prog 28 #[.pointer (some ⟨p, 0, none⟩), .int .i64 i] w (ReadPost w s n i) := by
  obtain ⟨sv, pv, gl, gg, fg, h⟩ := h
  have hn := h.ok.n2
  obtain ⟨g, c, hsv, _⟩ := Kd.R_form h.st (by rw [h.ok.len]; have := h.ok.n1; omega)
  rw [h.ok.len] at hsv
  subst hsv
  have HP := Aside0.mk h
  clear h
  rcases hb : hasB i n with _ | _
  · have HB := Aside0.mk hb
    clear hb
    go_enter Try.func28, Try.ntmps28
    go_wp2_with ((go_at_call 35; (with_reducible refine (disk_has.calls p (some ⟨g, 0, none⟩) n c _ _ _ _ _ i w HP.out.box hn).mono ?_); rw [HB.out]; rintro e w' ⟨rfl, rfl⟩))
    go_ret2
    refine ⟨.slice none 0 0, by rw [HB.out]; rfl, ?_⟩
    rw [HB.out]
    exact ⟨Kd.R_nil _ _ _ _ _, Below.refl _ _⟩
  · have h2 := of_decide_eq_true hb
    obtain ⟨j, rfl⟩ := Int.eq_ofNat_of_zero_le h2.1
    have hj : j < n := by omega
    have HB := Aside0.mk hb
    have HR := Aside0.mk (HP.out.ok.read hj)
    clear hb h2
    go_enter Try.func28, Try.ntmps28
    go_wp2_with ((go_at_call 35; (with_reducible refine (disk_has.calls p (some ⟨g, 0, none⟩) n c _ _ _ _ _ _ w HP.out.box hn).mono ?_); rw [HB.out]; rintro e w' ⟨rfl, rfl⟩))
    refine (disk_seen.calls p n j F G _ _ _ _ _ s _ HP.out hj).mono ?_
    rintro e w' ⟨A, c, rfl, hc, hC, rfl⟩
    have HC := Aside0.mk hC
    have HL : Aside0 ((s.read j).length = 256) := ⟨HR.out.1⟩
    clear hC
    have hcl := slices_Clone_byte_byte.calls A c (s.read j) (s.read j) _ (by rw [HL.out]; exact HC.out) (by rw [HL.out]; exact hc) (by unfold slices_Clone_byte_byte.f; rw [HL.out, if_pos (by decide)])
    rw [HL.out] at hcl
    go_wp2_with fail
    refine hcl.mono ?_
    rintro e w2 ⟨v, rfl, ho, hb⟩
    have HO := Aside0.mk ho
    have HBL := Aside0.mk hb
    clear ho hb hcl
    go_wp2
    go_ret2
    refine ⟨v, by rw [HB.out]; rfl, ?_⟩
    rw [HB.out]
    exact ⟨HO.out, HBL.out⟩
theorem disk_Read_nil.calls (i : Int) (w : World) : Calls Try.prog 28 #[.pointer none, .int .i64 i] w fun e w' => e = .returned (.tuple #[.slice none 0 0, .int .i64 16]) ∧ w = w' := by
  go_enter Try.func28, Try.ntmps28
  go_wp2_with ((go_at_call 35; (with_reducible refine (disk_has_nil.calls _ w).mono ?_); rintro e w' ⟨rfl, rfl⟩))
  go_ret2
  exact ⟨rfl, rfl⟩
theorem disk_Read.part (w0 w : World) (L : List X.Res) (p n : Nat) (s : X.DS) (i : Int) (h : X.Lies w0 w (.disk p n s :: L)) :
    Calls Try.prog 28 #[.pointer (some ⟨p, 0, none⟩), .int .i64 i] w fun e w' => ∃ v, e = .returned (.tuple #[v, .int .i64 (if hasB i n = true then 0 else 16)]) ∧ X.Lies w0 w' (.row (Kd.int .u8) 5 v (if hasB i n = true then s.read i.toNat else []) :: .disk p n s :: L) := by
  obtain ⟨F, G, hp, -⟩ := h.disk
  refine (disk_Read.calls p n F G s i w hp).mono ?_
  rintro e w' ⟨v, rfl, hr, hb⟩
  exact ⟨v, rfl, h.newRow hb hr⟩
end Go.Proofs.Ytlbfpjhnpnbikaa.U
end
section
namespace Go.Proofs.Ytlbfpjhnpnbikaa.U
open Go.RowKit Go.Proofs.YtlbfpjhnpnbikaaW.PrintWords Go.Proofs.YtlbfpjhnpnbikaaW.PrintLast Go.Proofs.YtlbfpjhnpnbikaaW.PrintMore
attribute [local go_sem] max2_int min2_int max_two min_two max_three min_three max_four min_four
set_option linter.unusedVariables false
set_option linter.unusedSimpArgs false
theorem log_area.part (w0 w : World) (L : List X.Res) (p n : Nat) (s : X.DS) (at_ len : Int) (h : X.Lies w0 w (.disk p n s :: L)) :
    Calls Try.prog 40 #[.pointer (some ⟨p, 0, none⟩), .int .i64 at_, .int .i64 len] w fun e w' => e = .returned (.bool (Pure.areaB n at_ len)) ∧ w = w' := by
  have HSZ := Aside0.mk (disk_Size.part w0 w L p n s h)
  have hn := (h.disk_ok 0 rfl).n2
  have HA : Aside0 (Pure.areaB n at_ len = decide (8 ≤ len ∧ len ≤ 1024 ∧ 0 ≤ at_ ∧ at_ ≤ (n : Int) - len)) := ⟨rfl⟩
  clear h
  by_cases h1 : 8 ≤ len
  rotate_left
  · rw [HA.out, decide_eq_false (fun h => h1 h.1)]
    have q1 : decide (8 ≤ len) = false := decide_eq_false h1
    clear h1
    go_enter Try.func40, Try.ntmps40
    go_wp2
    go_ret
    exact ⟨rfl, rfl⟩
  by_cases h2 : len ≤ 1024
  rotate_left
  · rw [HA.out, decide_eq_false (fun h => h2 h.2.1)]
    have q1 : decide (8 ≤ len) = true := decide_eq_true h1
    have q2 : decide (len ≤ 1024) = false := decide_eq_false h2
    clear h1 h2
    go_enter Try.func40, Try.ntmps40
    go_wp2
    go_ret
    exact ⟨rfl, rfl⟩
  by_cases h3 : 0 ≤ at_
  rotate_left
  · rw [HA.out, decide_eq_false (fun h => h3 h.2.2.1)]
    have q1 : decide (8 ≤ len) = true := decide_eq_true h1
    have q2 : decide (len ≤ 1024) = true := decide_eq_true h2
    have q3 : decide (0 ≤ at_) = false := decide_eq_false h3
    clear h1 h2 h3
    go_enter Try.func40, Try.ntmps40
    go_wp2
    go_ret
    exact ⟨rfl, rfl⟩
  have q1 : decide (8 ≤ len) = true := decide_eq_true h1
  have q2 : decide (len ≤ 1024) = true := decide_eq_true h2
  have q3 : decide (0 ≤ at_) = true := decide_eq_true h3
  have hw : wrap64 ((n : Int) - len) = (n : Int) - len := by unfold wrap64; omega
  have he : Aside0 (decide (at_ ≤ (n : Int) - len) = Pure.areaB n at_ len) := ⟨by
    rw [HA.out]
    by_cases h4 : at_ ≤ (n : Int) - len
    · rw [decide_eq_true h4, decide_eq_true ⟨h1, h2, h3, h4⟩]
    · rw [decide_eq_false h4, decide_eq_false (fun h => h4 h.2.2.2)]⟩
  clear h1 h2 h3 HA
  go_enter Try.func40, Try.ntmps40
  go_wp2_with fail
  refine HSZ.out.mono ?_
  rintro e w' ⟨rfl, rfl⟩
  go_wp2
  go_ret
  exact ⟨congrArg (fun b => Ending.returned (Value.bool b)) he.out, rfl⟩
theorem log_area_nil.calls (w : World) (at_ len : Int) (h64 : -9223372036854775808 ≤ len ∧ len ≤ 9223372036854775807) :
    Calls Try.prog 40 #[.pointer none, .int .i64 at_, .int .i64 len] w fun e w' => e = .returned (.bool false) ∧ w = w' := by
  by_cases h1 : 8 ≤ len ∧ len ≤ 1024 ∧ 0 ≤ at_
  · obtain ⟨h1, h2, h3⟩ := h1
    have q1 : decide (8 ≤ len) = true := decide_eq_true h1
    have q2 : decide (len ≤ 1024) = true := decide_eq_true h2
    have q3 : decide (0 ≤ at_) = true := decide_eq_true h3
    have hw : wrap64 (0 - len) = - len := by unfold wrap64; omega
    have hw2 : wrap64 (- len) = - len := by unfold wrap64; omega
    have q4 : decide (at_ ≤ - len) = false := decide_eq_false (by omega)
    clear h1 h2 h3 h64
    go_enter Try.func40, Try.ntmps40
    go_wp2_with fail
    refine (disk_Size_nil.calls w).mono ?_
    rintro e w' ⟨rfl, rfl⟩
    go_wp2
    go_ret
    exact ⟨rfl, rfl⟩
  · by_cases g1 : 8 ≤ len
    · have q1 : decide (8 ≤ len) = true := decide_eq_true g1
      by_cases g2 : len ≤ 1024
      · have q2 : decide (len ≤ 1024) = true := decide_eq_true g2
        have q3 : decide (0 ≤ at_) = false := decide_eq_false (fun h => h1 ⟨g1, g2, h⟩)
        clear h1 g1 g2 h64
        go_enter Try.func40, Try.ntmps40
        go_wp2
        go_ret
        exact ⟨rfl, rfl⟩
      · have q2 : decide (len ≤ 1024) = false := decide_eq_false g2
        clear h1 g1 g2 h64
        go_enter Try.func40, Try.ntmps40
        go_wp2
        go_ret
        exact ⟨rfl, rfl⟩
    · have q1 : decide (8 ≤ len) = false := decide_eq_false g1
      clear h1 g1 h64
      go_enter Try.func40, Try.ntmps40
      go_wp2
      go_ret
      exact ⟨rfl, rfl⟩
end Go.Proofs.Ytlbfpjhnpnbikaa.U
end
