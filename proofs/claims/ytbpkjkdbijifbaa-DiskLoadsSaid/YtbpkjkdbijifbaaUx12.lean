/- Written by uprint.py (ours) for this seat: functions of the translation as Lean functions, and what their calls do. Not trusted: Lean checks it. -/
import Derived.Test.YtbpkjkdbijifbaaUx0
import Derived.Test.YtbpkjkdbijifbaaUx1
import Derived.Test.YtbpkjkdbijifbaaUx2
import Derived.Test.YtbpkjkdbijifbaaUx6
import Derived.Test.YtbpkjkdbijifbaaUx7
import Derived.Test.YtbpkjkdbijifbaaUx10
namespace Go.Proofs.Ytbpkjkdbijifbaa.U
open Go.RowKit Go.Proofs.YtbpkjkdbijifbaaW.PrintWords Go.Proofs.YtbpkjkdbijifbaaW.PrintLast Go.Proofs.YtbpkjkdbijifbaaW.PrintMore
attribute [local go_sem] max2_int min2_int max_two min_two max_three min_three max_four min_four   -- for this text's walks alone
set_option linter.unusedVariables false
set_option linter.unusedSimpArgs false

-- GIVEN: function 21 (undercroft/undercroftlaw02.few)
theorem info_deed : (Try.prog.info? 24).map (·.size) = some 5 := by kernel_rfl
theorem blk_range {w : World} {g : Nat} {cs : List Value} {t : TypeId} (h : X.Blk w g cs.toArray t) : w.rangeAt g 0 cs := by
  intro j v hj
  rw [Nat.zero_add]
  exact h.cell j v (by simpa using hj)
theorem str_C {w : World} {g n c : Nat} {xs : List Int} (h : (Kd.int .u8).C w (some ⟨g, 0, none⟩) n xs) : (convert 22 9 (.slice (some ⟨g, 0, none⟩) n c)).run Try.prog w = .ok (.string (strOfNums xs)) w :=
  Kd.C_string (P := Try.prog) Try.underlying22 Try.underlying5 Try.underlying9 h
theorem conv_exec {P : Program} {w : World} {oi : Oper} {ρ : Operand → Value} {s t : TypeId} (x : Operand) (ho : oi.op = .convert s t x) (v u : Value) (hx : ρ x = v) (hb : (convert s t v).run P w = .ok u w) : (execOp ρ oi).run P w = .ok (.value u) w := by
  unfold execOp
  simp only [ho, hx, Sem.run_bind, Sem.run_pure, Result.andThen_ok, hb]
theorem undercroftlaw02_few.calls (A0 : Option Addr) (c0 : Nat) (l0 : List S24) (w : World) (hc : l0.length ≤ c0) :
    Calls Try.prog 21 #[.slice A0 l0.length c0] w fun e w' => e = .returned (.slice A0 (l0.take 40).length c0) ∧ w = w' := by
  by_cases h : 40 < l0.length
  · have q1 : decide ((40 : Int) < (l0.length : Int)) = true := decide_eq_true (by omega)
    have q2 : decide (40 < l0.length) = true := decide_eq_true h
    obtain ⟨i0, hi⟩ := Option.isSome_iff_exists.1 (show (Try.prog.info? 24).isSome = true by kernel_rfl)
    have hcut := cut_to (P := Try.prog) 45 24 .i64 Try.underlying45 hi A0 l0.length c0 40 (by omega) (by omega) hc
    have e : (l0.take 40).length = 40 := by rw [List.length_take]; omega
    rw [e]
    rw [show (40 : Int).toNat = 40 from rfl] at hcut
    clear h e hi
    go_enter Try.func21, Try.ntmps21
    go_wp2
    go_ret
    exact ⟨rfl, rfl⟩
  · have q1 : decide ((40 : Int) < (l0.length : Int)) = false := decide_eq_false (by omega)
    have q2 : decide (40 < l0.length) = false := decide_eq_false h
    have e : (l0.take 40).length = l0.length := by rw [List.length_take]; omega
    rw [e]
    clear h e
    go_enter Try.func21, Try.ntmps21
    go_wp2
    go_ret
    exact ⟨rfl, rfl⟩
/-- A deed's cells, in a box. -/
def deedC (x0 x1 x2 : Int) (x3 : Bool) (v : Value) : Array Value := #[.int .i64 x0, .int .i64 x1, .int .u8 x2, .bool x3, v]
theorem data_part (w0 : World) (L : List X.Res) (a0_0 a0_1 a0_2 : Int) (a0_3 : Bool) (A0_4 : Option Addr) (c0_4 : Nat) (l0_4 : List Int) (w : World) (h : X.Lies w0 w L) (hr0_4 : Kd.C (Kd.int .u8) w A0_4 l0_4.length l0_4) (hc0_4 : l0_4.length ≤ c0_4) :
    Calls Try.prog 13 #[.agg #[.int .i64 a0_0, .int .i64 a0_1, .int .u8 a0_2, .bool a0_3, .slice A0_4 l0_4.length c0_4]] w fun e w' =>
      ∃ g c, e = .returned (.slice (some ⟨g, 0, none⟩) (dataN a0_3) c) ∧ dataN a0_3 ≤ c ∧ X.Lies w0 w' (.row (Kd.int .u8) 5 (.slice (some ⟨g, 0, none⟩) (dataN a0_3) c) (dataL a0_2 (dataN a0_3)) :: L) := by
  refine (undercroftlaw02_data.calls 300 a0_0 a0_1 a0_2 a0_3 A0_4 c0_4 l0_4 _ w hr0_4 hc0_4 (data_f ..)).mono ?_
  rintro e w' ⟨v, rfl, ho, hb⟩
  obtain ⟨g, c, rfl, h1, h2, -⟩ := Kd.R_form ho (by rw [dataL_len]; unfold dataN; split <;> decide)
  have h3 := Kd.R_reads' ho
  rw [dataL_len] at h3
  rw [dataL_len] at ho ⊢
  exact ⟨g, c, rfl, h3.2.1, h.newRow hb ho⟩
theorem take40 {w : World} {A : Option Addr} {l0 : List S24} (h : Kd.C k24 w A l0.length l0) : Kd.C k24 w A (l0.take 40).length (l0.take 40) := by
  by_cases h40 : 40 ≤ l0.length
  · exact Kd.C_take h h40
  · rw [List.take_of_length_le (by omega)]
    exact h
theorem spot_none {w : World} {a : Addr} {v : Value} (h : w.cell? a = some v) : a.spot = none := by
  cases hs : a.spot with
  | none => rfl
  | some x =>
    exfalso
    unfold World.cell? at h
    split at h <;> simp [hs] at h
theorem deed_at {w : World} {A : Option Addr} {n : Nat} {l : List S24} (h : Kd.C k24 w A n l) (i : Nat) (hi : i < n) : ∃ g o A4 c4, A = some ⟨g, o, none⟩ ∧ w.rangeAt g (o + i * 5) [.int .i64 (rd_T24 l (i : Int)).f0, .int .i64 (rd_T24 l (i : Int)).f1, .int .u8 (rd_T24 l (i : Int)).f2, .bool (rd_T24 l (i : Int)).f3, .slice A4 (rd_T24 l (i : Int)).f4.length c4] ∧
    (rd_T24 l (i : Int)).f4.length ≤ c4 ∧ (Kd.int .u8).C w A4 (rd_T24 l (i : Int)).f4.length (rd_T24 l (i : Int)).f4 := by
  obtain ⟨ad, A4, c4, e, h0, h1, h2, h3, h4, hl, hC⟩ := at_T24 h (i : Int) (by omega) (by omega)
  rw [Int.toNat_natCast] at h0 h1 h2 h3 h4
  obtain ⟨b, o, sp⟩ := ad
  have hsp : sp = none := by
    obtain ⟨ad2, _, _, e2, g0, -⟩ := at_T24 h 0 (by omega) (by omega)
    rw [e] at e2
    injection e2 with e2
    subst e2
    have h3 := spot_none g0
    unfold Addr.add at h3
    simpa using h3
  subst hsp
  have e2 : (⟨b, o, none⟩ : Addr).add (i * 5) = ⟨b, o + i * 5, none⟩ := by unfold Addr.add; split <;> simp_all
  rw [e2] at h0 h1 h2 h3 h4
  refine ⟨b, o, A4, c4, e, fun j v hj => ?_, hl, hC⟩
  match j with
  | 0 => simp only [List.getElem?_cons_zero, Option.some.injEq] at hj; subst hj; exact h0
  | 1 => simp only [List.getElem?_cons_zero, List.getElem?_cons_succ, Option.some.injEq] at hj; subst hj; exact h1
  | 2 => simp only [List.getElem?_cons_zero, List.getElem?_cons_succ, Option.some.injEq] at hj; subst hj; exact h2
  | 3 => simp only [List.getElem?_cons_zero, List.getElem?_cons_succ, Option.some.injEq] at hj; subst hj; exact h3
  | 4 => simp only [List.getElem?_cons_zero, List.getElem?_cons_succ, Option.some.injEq] at hj; subst hj; exact h4
  | j + 5 => simp at hj
/-- The last two bits of a number. -/
theorem and3 (x : Int) : ∃ b : Nat, (b : Int) = x % 4 ∧ b < 4 ∧ Go.bits .and .i64 x 3 = (b : Int) := by
  have h : (BitVec.ofInt 64 x &&& BitVec.ofInt 64 3).toNat = (x % 4).toNat := by
    rw [BitVec.toNat_and, BitVec.toNat_ofInt, show (BitVec.ofInt 64 3).toNat = 2 ^ 2 - 1 from rfl, Nat.and_two_pow_sub_one_eq_mod]
    omega
  refine ⟨(x % 4).toNat, by omega, by omega, ?_⟩
  show IntKind.i64.wrap ((BitVec.ofInt 64 x &&& BitVec.ofInt 64 3).toNat : Int) = _
  rw [h]
  exact IntWalk.i64_in _ (by omega)
theorem range_below {w w' : World} {g o : Nat} {cs : List Value} (h : w.rangeAt g o cs) (hb : Below w.heap.size w w') : w'.rangeAt g o cs := fun j v hj => pw_cell_below hb (h j v hj)
/-- A row's string. -/
theorem row_str {w0 w : World} {L : List X.Res} {v : Value} {xs : List Int} (h : X.Lies w0 w L) (i : Nat) (hi : L[i]? = some (.row (Kd.int .u8) 5 v xs)) : ∃ A c, v = .slice A xs.length c ∧ xs.length ≤ c ∧ ∀ w', (X.Lies w0 w' L) → (convert 22 9 (.slice A xs.length c)).run Try.prog w' = .ok (.string (strOfNums xs)) w' := by
  obtain ⟨O, hr⟩ := h.rowed i hi
  obtain ⟨A, c, rfl, hc, hC⟩ := Kd.R_reads hr
  refine ⟨A, c, rfl, hc, fun w' h' => ?_⟩
  exact Kd.C_string (P := Try.prog) Try.underlying22 Try.underlying5 Try.underlying9 (h'.rowC i hi).1
theorem row_conv {w0 w : World} {L : List X.Res} {A : Option Addr} {n c : Nat} {xs : List Int} (h : X.Lies w0 w L) (i : Nat) (hi : L[i]? = some (.row (Kd.int .u8) 5 (.slice A n c) xs)) : (convert 22 9 (.slice A n c)).run Try.prog w = .ok (.string (strOfNums xs)) w :=
  Kd.C_string (P := Try.prog) Try.underlying22 Try.underlying5 Try.underlying9 (h.rowC i hi).1
theorem putE_ok {n i : Nat} {m : Nat} (hi : i < n) (hm : m = 256) : putE n (i : Int) m = 0 := by
  unfold putE
  rw [if_pos (show hasB (i : Int) n = true from decide_eq_true ⟨by omega, by omega⟩), if_pos hm]
theorem put_ok {s : X.DS} {n i : Nat} {xs : List Int} (hi : i < n) (hm : xs.length = 256) : put s n (i : Int) xs = s.write i xs := by
  unfold put
  rw [if_pos ⟨decide_eq_true ⟨by omega, by omega⟩, hm⟩, Int.toNat_natCast]
/-- A write of what a deed writes. -/
theorem write_data (w0 w : World) (L : List X.Res) (p n : Nat) (s : X.DS) (i : Int) (g c : Nat) (fill : Int) (b : Bool) (h : X.Lies w0 w (.disk p n s :: .row (Kd.int .u8) 5 (.slice (some ⟨g, 0, none⟩) (dataN b) c) (dataL fill (dataN b)) :: L)) (hc : dataN b ≤ c) (hpl : s.pend.length ≤ 500000000000) :
    Calls Try.prog 14 #[.pointer (some ⟨p, 0, none⟩), .int .i64 i, .slice (some ⟨g, 0, none⟩) (dataN b) c] w fun e w' => e = .returned (.int .i64 (putE n i (dataN b))) ∧ X.Lies w0 w' (.disk p n (put s n i (dataL fill (dataN b))) :: .row (Kd.int .u8) 5 (.slice (some ⟨g, 0, none⟩) (dataN b) c) (dataL fill (dataN b)) :: L) := by
  have h2 := disk_Write.part w0 w _ p n s i (some ⟨g, 0, none⟩) c (dataL fill (dataN b)) h (by rw [dataL_len]; exact X.Rd.row 0 rfl) (by rw [dataL_len]; exact hc) (dataL_u8 _ _) (fun ad e _ => by cases e; exact ⟨_, _, rfl⟩) hpl
  rw [dataL_len] at h2
  exact h2
theorem put_pend (s : X.DS) (n : Nat) (i : Int) (xs : List Int) : (put s n i xs).pend.length ≤ s.pend.length + 1 := by
  unfold put
  split
  · exact X.DS.write_pend _ _ _
  · exact Nat.le_succ _
/-- No fuse was laid. -/
theorem put_calm {s : X.DS} (h : s.set = false ∧ s.ghosts = []) (n : Nat) (i : Int) (xs : List Int) : (put s n i xs).set = false ∧ (put s n i xs).ghosts = [] := by
  unfold put
  split
  · unfold X.DS.write
    rw [h.1, h.2]
    exact ⟨rfl, rfl⟩
  · exact h
theorem imageTo_congr {s t : X.DS} (h : ∀ i, s.read i = t.read i) (n : Nat) : imageTo s n = imageTo t n := by
  unfold imageTo
  congr 1
  funext i
  exact h i
theorem blks (b : List Int) : ∀ n : Nat, ((List.range n).flatMap fun i => X.blk b i) = b.take (256 * n)
  | 0 => by simp
  | n + 1 => by
    rw [List.range_succ, List.flatMap_append, blks b n, List.flatMap_singleton]
    unfold X.blk
    apply List.ext_getElem?
    intro k
    rw [List.getElem?_append, List.length_take, List.getElem?_take, List.getElem?_drop, List.getElem?_take, List.getElem?_take]
    by_cases h1 : k < min (256 * n) b.length
    · rw [if_pos h1, if_pos (by omega), if_pos (by omega)]
    · rw [if_neg h1]
      by_cases h2 : k < 256 * (n + 1)
      · rw [if_pos h2]
        by_cases h3 : b.length ≤ 256 * n
        · rw [Nat.min_eq_right h3, List.getElem?_eq_none (l := b) (i := k) (by omega)]
          split
          · exact List.getElem?_eq_none (by omega)
          · rfl
        · rw [Nat.min_eq_left (by omega), if_pos (by omega)]
          congr 1
          omega
      · rw [if_neg h2, if_neg (by omega)]
theorem image_bytes {s : X.DS} {n : Nat} (h : s.Ok n) (h1 : s.ghosts = []) (h2 : s.pend = []) : imageTo s n = s.bytes := by
  have e : imageTo s n = (List.range n).flatMap fun i => X.blk s.bytes i := by
    unfold imageTo
    congr 1
    funext i
    rw [X.DS.read_eq, h1, h2]
    rfl
  rw [e, blks, List.take_of_length_le (by rw [h.len]; omega)]
/-- What a flush and a crash leave where no fuse was laid. -/
theorem flush_crash {s : X.DS} (h : s.set = false ∧ s.ghosts = []) (bits : List Int) : s.flush.crash bits = ⟨X.laysTo s.bytes s.pend, [], [], false, 0⟩ := by
  unfold X.DS.flush
  rw [h.1]
  rfl
theorem fc_read {s : X.DS} {n : Nat} (hk : s.Ok n) (h : s.set = false ∧ s.ghosts = []) (bits : List Int) (i : Nat) : (s.flush.crash bits).read i = s.read i := by
  have e : s.flush = ⟨X.laysTo s.bytes s.pend, [], [], false, s.left⟩ := by
    unfold X.DS.flush
    rw [h.1, h.2]
    rfl
  rw [← X.DS.read_flush hk i, flush_crash h, e]
  rfl
theorem settle_calm {s : X.DS} (h : s.set = false ∧ s.ghosts = []) (bits : List Int) : (s.settle bits).set = false ∧ (s.settle bits).ghosts = [] := by
  unfold X.DS.settle
  split
  · exact h
  · exact h
theorem str_C' {w : World} {A : Option Addr} {n c : Nat} {xs : List Int} (h : (Kd.int .u8).C w A n xs) : (convert 22 9 (.slice A n c)).run Try.prog w = .ok (.string (strOfNums xs)) w :=
  Kd.C_string (P := Try.prog) Try.underlying22 Try.underlying5 Try.underlying9 h

end Go.Proofs.Ytbpkjkdbijifbaa.U
