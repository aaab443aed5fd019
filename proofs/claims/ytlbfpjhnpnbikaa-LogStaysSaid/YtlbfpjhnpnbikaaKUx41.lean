/- Ux44 Ux39 Ux40 Ux41: what this claim uses. Laid by slim.py (ours). -/
import Derived.Test.YtlbfpjhnpnbikaaKPLog
import Derived.Test.YtlbfpjhnpnbikaaKUx0
import Derived.Test.YtlbfpjhnpnbikaaKUx1
import Derived.Test.YtlbfpjhnpnbikaaKUx10
import Derived.Test.YtlbfpjhnpnbikaaKUx11
import Derived.Test.YtlbfpjhnpnbikaaKUx20
import Derived.Test.YtlbfpjhnpnbikaaKPLog3
section
namespace Go.Proofs.Ytlbfpjhnpnbikaa.U
open Go.RowKit Go.Proofs.YtlbfpjhnpnbikaaW.PrintWords Go.Proofs.YtlbfpjhnpnbikaaW.PrintLast Go.Proofs.YtlbfpjhnpnbikaaW.PrintMore
attribute [local go_sem] max2_int min2_int max_two min_two max_three min_three max_four min_four
set_option linter.unusedVariables false
set_option linter.unusedSimpArgs false
theorem cell_same {w w' : World} {g : Nat} (h : w'.heap[g]? = w.heap[g]?) (o : Nat) : w'.cell? ⟨g, o, none⟩ = w.cell? ⟨g, o, none⟩ := by
  simp only [World.cell?, h]
end Go.Proofs.Ytlbfpjhnpnbikaa.U
end
section
namespace Go.Proofs.Ytlbfpjhnpnbikaa.U
open Go.RowKit Go.Proofs.YtlbfpjhnpnbikaaW.PrintWords Go.Proofs.YtlbfpjhnpnbikaaW.PrintLast Go.Proofs.YtlbfpjhnpnbikaaW.PrintMore
attribute [local go_sem] max2_int min2_int max_two min_two max_three min_three max_four min_four
set_option linter.unusedVariables false
set_option linter.unusedSimpArgs false
theorem undercroftlaw04_few.part (A0 : Option Addr) (c0 : Nat) (l0 : List S62) (w : World) (hc : l0.length ≤ c0) :
    Calls Try.prog 21 #[.slice A0 l0.length c0] w fun e w' => e = .returned (.slice A0 (l0.take 24).length c0) ∧ w = w' := by
  by_cases h : 24 < l0.length
  · have q1 : decide ((24 : Int) < (l0.length : Int)) = true := decide_eq_true (by omega)
    have q2 : decide (24 < l0.length) = true := decide_eq_true h
    obtain ⟨i0, hi⟩ := Option.isSome_iff_exists.1 (show (Try.prog.info? 62).isSome = true by kernel_rfl)
    have hcut := cut_to (P := Try.prog) 48 62 .i64 Try.underlying48 hi A0 l0.length c0 24 (by omega) (by omega) hc
    have e : (l0.take 24).length = 24 := by rw [List.length_take]; omega
    rw [e]
    rw [show (24 : Int).toNat = 24 from rfl] at hcut
    clear h e hi
    go_enter Try.func21, Try.ntmps21
    go_wp2
    go_ret
    exact ⟨rfl, rfl⟩
  · have q1 : decide ((24 : Int) < (l0.length : Int)) = false := decide_eq_false (by omega)
    have q2 : decide (24 < l0.length) = false := decide_eq_false h
    have e : (l0.take 24).length = l0.length := by rw [List.length_take]; omega
    rw [e]
    clear h e
    go_enter Try.func21, Try.ntmps21
    go_wp2
    go_ret
    exact ⟨rfl, rfl⟩
theorem take24 {w : World} {A : Option Addr} {l0 : List S62} (h : Kd.C k62 w A l0.length l0) : Kd.C k62 w A (l0.take 24).length (l0.take 24) := by
  by_cases h24 : 24 ≤ l0.length
  · exact Kd.C_take h h24
  · rw [List.take_of_length_le (by omega)]
    exact h
theorem deed4_at {w : World} {A : Option Addr} {n : Nat} {l : List S62} (h : Kd.C k62 w A n l) {i : Nat} {x : S62} (hx : l[i]? = some x) : ∃ g o A1 c1 A2 c2 A3 c3, A = some ⟨g, o, none⟩ ∧ w.rangeAt g (o + i * 5) [.int .i64 x.f0, .int .u64 x.f1.f0, .slice A1 x.f1.f1.length c1, .slice A2 x.f1.f2.length c2, .slice A3 x.f2.length c3] ∧ (x.f1.f1.length ≤ c1 ∧ Kd.C k66 w A1 x.f1.f1.length x.f1.f1) ∧ (x.f1.f2.length ≤ c2 ∧ Kd.C (Kd.int .i64) w A2 x.f1.f2.length x.f1.f2) ∧ x.f2.length ≤ c3 ∧ (Kd.int .u8).C w A3 x.f2.length x.f2 := by
  have hl := h.1
  have hi := (List.getElem?_eq_some_iff.1 hx).1
  obtain ⟨⟨b, o, sp⟩, rfl, hc⟩ := h.2.2 (by omega)
  obtain ⟨c, -, hK, hcell⟩ := hc i x hx
  obtain ⟨A1, c1, A2, c2, A3, c3, rfl, h1, h2, h3, h4, h5, h6⟩ := k62_open hK
  have hsp : sp = none := by
    obtain ⟨d, -, dK, dcell⟩ := hc 0 _ (List.getElem?_eq_getElem (show 0 < l.length by omega))
    obtain ⟨B1, e1, B2, e2, B3, e3, rfl, -⟩ := k62_open dK
    have h5 := Pure.spot_nil (dcell 0 _ rfl)
    unfold Addr.add at h5
    simpa using h5
  subst hsp
  refine ⟨b, o, A1, c1, A2, c2, A3, c3, rfl, fun j v hj => ?_, ⟨h1, h2⟩, ⟨h3, h4⟩, h5, h6⟩
  have h7 := hcell j v hj
  have e : (⟨b, o, none⟩ : Addr).add (i * k62.sz + j) = ⟨b, o + i * 5 + j, none⟩ := by
    rw [add_at, show k62.sz = 5 from rfl, Nat.add_assoc]
  rw [e] at h7
  exact h7
def okD4 (l : List S62) : Bool := l.all fun x => Pure.recB x.f1.f0 x.f1.f1 x.f1.f2
theorem okD4_at {l0 : List S62} (h : okD4 l0 = true) {i : Nat} {x : S62} (hx : (l0.take 24)[i]? = some x) {a : Int} (ha : 0 ≤ a ∧ a < 18446744073709551616) : Pure.Came a x.f1.f1 x.f1.f2 :=
  (Pure.recB_iff.1 (List.all_eq_true.1 h x (List.mem_of_mem_take (List.mem_of_getElem? hx)))).seq' ha
theorem range_below4 {w w' : World} {g o : Nat} {cs : List Value} (h : w.rangeAt g o cs) (hb : Below w.heap.size w w') : w'.rangeAt g o cs := fun j v hj => by
  have h1 := h j v hj
  have h2 := World.block_lt_of_cell? _ _ h1
  exact (cell_same (hb.block g h2) _).trans h1
theorem info_area : (Try.prog.info? 24).map (·.size) = some 3 := by kernel_rfl
end Go.Proofs.Ytlbfpjhnpnbikaa.U
end
section
namespace Go.Proofs.Ytlbfpjhnpnbikaa.U
open Go.RowKit Go.Proofs.YtlbfpjhnpnbikaaW.PrintWords Go.Proofs.YtlbfpjhnpnbikaaW.PrintLast Go.Proofs.YtlbfpjhnpnbikaaW.PrintMore
attribute [local go_sem] max2_int min2_int max_two min_two max_three min_three max_four min_four
set_option linter.unusedVariables false
set_option linter.unusedSimpArgs false
theorem log_Sync.part (w0 w : World) (L : List X.Res) (g p n : Nat) (s : X.DS) (ls : Pure.LS) (v : Value) (h : X.Lies w0 w (.disk p n s :: .box g (Pure.logC p ls v) 93 :: L)) :
    Calls Try.prog 23 #[.pointer (some ⟨g, 0, none⟩)] w fun e w' => e = .returned (.tuple #[]) ∧ X.Lies w0 w' (.disk p n s.flush :: .box g (Pure.logC p ls v) 93 :: L) := by
  have HF := Aside0.mk (disk_Flush.part w0 w _ p n s h)
  have x0_ : w.cell? ⟨g, 0, none⟩ = some (.pointer (some ⟨p, 0, none⟩)) := (h.boxed 1 rfl).cell 0 _ rfl
  clear h
  go_enter Try.func23, Try.ntmps23
  go_wp2_with fail
  refine HF.out.mono ?_
  rintro e w' ⟨rfl, hs⟩
  have HS := Aside0.mk hs
  clear hs HF x0_
  go_wp2
  go_end0
  exact ⟨rfl, HS.out⟩
end Go.Proofs.Ytlbfpjhnpnbikaa.U
end
section
namespace Go.Proofs.Ytlbfpjhnpnbikaa.U
open Go.RowKit Go.Proofs.YtlbfpjhnpnbikaaW.PrintWords Go.Proofs.YtlbfpjhnpnbikaaW.PrintLast Go.Proofs.YtlbfpjhnpnbikaaW.PrintMore
attribute [local go_sem] max2_int min2_int max_two min_two max_three min_three max_four min_four
set_option linter.unusedVariables false
set_option linter.unusedSimpArgs false
theorem disk_Pending.calls (p : Nat) (A : Option Addr) (n c : Nat) (c0 c2 c3 c4 c5 : Value) (w : World) (hb : X.Blk w p #[c0, .slice A n c, c2, c3, c4, c5] 83) :
    Calls Try.prog 24 #[.pointer (some ⟨p, 0, none⟩)] w fun e w' => e = .returned (.int .i64 (n : Int)) ∧ w = w' := by
  have h1 := hb.cell 1 _ rfl
  clear hb
  go_enter Try.func24, Try.ntmps24
  go_wp2
  go_ret
  exact ⟨rfl, rfl⟩
theorem disk_Pending.part (w0 w : World) (L : List X.Res) (p n : Nat) (s : X.DS) (h : X.Lies w0 w (.disk p n s :: L)) :
    Calls Try.prog 24 #[.pointer (some ⟨p, 0, none⟩)] w fun e w' => e = .returned (.int .i64 (s.pend.length : Int)) ∧ w = w' := by
  obtain ⟨F, G, ⟨sv, pv, gl, gg, fg, hp⟩, -⟩ := h.disk
  obtain ⟨A, c, e1⟩ := Kd.R_slice hp.pd
  rw [List.length_map] at e1
  subst e1
  exact disk_Pending.calls p A s.pend.length c _ _ _ _ _ w hp.box
end Go.Proofs.Ytlbfpjhnpnbikaa.U
end
