/- Written by uprint.py (ours) for this seat: functions of the translation as Lean functions, and what their calls do. Not trusted: Lean checks it. -/
import Derived.Test.YtbpkjkdbijifbaaUx0
import Derived.Test.YtbpkjkdbijifbaaUx1
import Derived.Test.YtbpkjkdbijifbaaUx2
import Derived.Test.YtbpkjkdbijifbaaUx4
import Derived.Test.YtbpkjkdbijifbaaUx5
import Derived.Test.YtbpkjkdbijifbaaUx7
import Derived.Test.YtbpkjkdbijifbaaUx8
import Derived.Test.YtbpkjkdbijifbaaUx10
import Derived.Test.YtbpkjkdbijifbaaUx13
import Derived.Test.YtbpkjkdbijifbaaUx14
namespace Go.Proofs.Ytbpkjkdbijifbaa.U
open Go.RowKit Go.Proofs.YtbpkjkdbijifbaaW.PrintWords Go.Proofs.YtbpkjkdbijifbaaW.PrintLast Go.Proofs.YtbpkjkdbijifbaaW.PrintMore
attribute [local go_sem] max2_int min2_int max_two min_two max_three min_three max_four min_four   -- for this text's walks alone
set_option linter.unusedVariables false
set_option linter.unusedSimpArgs false

-- GIVEN: function 11 (undercroft/undercroftlaw02.alive)
/-- A disk that a law made itself: its blocks are among O, all made since `base`. -/
structure Has (base : Nat) (w : World) (p n : Nat) (s : X.DS) (O : Nat → Prop) : Prop where
  pd : ∃ F G, X.PD w p F G n s ∧ ∀ k, F k ∨ G k → O k
  lo : ∀ k, O k → base ≤ k
  hi : ∀ k, O k → k < w.heap.size
/-- A step of a method of it. -/
structure Step (base : Nat) (w w' : World) (p n : Nat) (s : X.DS) (O : Nat → Prop) : Prop where
  turn : X.Turn O w w'
  has : Has base w' p n s (fun k => O k ∨ (w.heap.size ≤ k ∧ k < w'.heap.size))
theorem Has.ok {base : Nat} {w : World} {p n : Nat} {s : X.DS} {O : Nat → Prop} (h : Has base w p n s O) : s.Ok n := by
  obtain ⟨F, G, ⟨sv, pv, gl, gg, fg, hp⟩, _⟩ := h.pd
  exact hp.ok
theorem Has.turn {base : Nat} {w w' : World} {p n : Nat} {s : X.DS} {O S : Nat → Prop} (h : Has base w p n s O) (ht : X.Turn S w w') (hS : ∀ k, S k → ¬ O k) : Has base w' p n s O := by
  obtain ⟨F, G, hp, hO⟩ := h.pd
  exact ⟨⟨F, G, hp.turn ht (fun k hk => ⟨fun h' => hS k hk (hO k (.inl h')), fun h' => hS k hk (hO k (.inr h'))⟩), hO⟩, h.lo, fun k hk => Nat.lt_of_lt_of_le (h.hi k hk) ht.size⟩
theorem Has.below {base : Nat} {w w' : World} {p n : Nat} {s : X.DS} {O : Nat → Prop} (h : Has base w p n s O) (hb : Below w.heap.size w w') : Has base w' p n s O := by
  obtain ⟨F, G, hp, hO⟩ := h.pd
  exact ⟨⟨F, G, hp.below hb, hO⟩, h.lo, fun k hk => Nat.lt_of_lt_of_le (h.hi k hk) hb.size⟩
theorem Has.did {base : Nat} {w w' : World} {p n : Nat} {s t : X.DS} {O F G : Nat → Prop} (h : Has base w p n s O) (hO : ∀ k, F k ∨ G k → O k) (hbase : base ≤ w.heap.size) (hd : X.Did w w' p F G n t) : Step base w w' p n t O := by
  obtain ⟨F', G', hp, ht, hF, hG⟩ := hd
  refine ⟨ht.mono (fun k hk => hO k (.inl hk)), ⟨F', G', hp, fun k hk => ?_⟩, fun k hk => ?_, fun k hk => ?_⟩
  · have hlt : k < w'.heap.size := by
      obtain ⟨sv, pv, gl, gg, fg, hpp⟩ := hp
      exact hpp.lt hk
    rcases hk with hk | hk
    · exact (hF k hk).imp (fun h' => hO k (.inl h')) (fun h' => ⟨h', hlt⟩)
    · exact (hG k hk).imp (fun h' => hO k (.inr h')) (fun h' => ⟨h', hlt⟩)
  · rcases hk with hk | hk
    · exact h.lo k hk
    · omega
  · rcases hk with hk | hk
    · exact Nat.lt_of_lt_of_le (h.hi k hk) ht.size
    · exact hk.2
theorem Step.below {base : Nat} {w w' : World} {p n : Nat} {s : X.DS} {O : Nat → Prop} (h : Step base w w' p n s O) (hlo : ∀ k, O k → base ≤ k) (hbase : base ≤ w.heap.size) : Below base w w' := h.turn.below hlo hbase
theorem Step.same {base : Nat} {w : World} {p n : Nat} {s : X.DS} {O : Nat → Prop} (h : Has base w p n s O) : Step base w w p n s O :=
  ⟨X.Turn.refl _ _, by
    obtain ⟨F, G, hp, hO⟩ := h.pd
    exact ⟨⟨F, G, hp, fun k hk => .inl (hO k hk)⟩, fun k hk => hk.elim (h.lo k) (fun h' => absurd h'.2 (by omega)), fun k hk => hk.elim (h.hi k) (fun h' => h'.2)⟩⟩
theorem new_h (base n : Nat) (w : World) (hbase : base ≤ w.heap.size) (h1 : 1 ≤ n) (h2 : n ≤ 1024) : Calls Try.prog 12 #[.int .i64 (n : Int)] w fun e w' =>
    ∃ p, e = .returned (.tuple #[.pointer (some ⟨p, 0, none⟩), .int .i64 0]) ∧ Has base w' p n (X.DS.new (List.replicate (256 * n) 0)) (fun k => w.heap.size ≤ k ∧ k < w'.heap.size) ∧ Below w.heap.size w w' := by
  refine (disk_New.calls n w h1 h2).mono ?_
  rintro e w' ⟨p, he, hp, hpd, hb⟩
  exact ⟨p, he, ⟨⟨_, _, hpd, fun k hk => hk.elim id False.elim⟩, fun k hk => by omega, fun k hk => hk.2⟩, hb⟩
theorem size_h (base : Nat) (w : World) (p n : Nat) (s : X.DS) (O : Nat → Prop) (h : Has base w p n s O) : Calls Try.prog 31 #[.pointer (some ⟨p, 0, none⟩)] w fun e w' => e = .returned (.int .i64 (n : Int)) ∧ w = w' := by
  obtain ⟨F, G, ⟨sv, pv, gl, gg, fg, hp⟩, hO⟩ := h.pd
  obtain ⟨A, c, e1⟩ := Kd.R_slice hp.st
  rw [hp.ok.len] at e1
  subst e1
  exact disk_Size.calls p A n c _ _ _ _ _ w hp.box hp.ok.n2
theorem pending_h (base : Nat) (w : World) (p n : Nat) (s : X.DS) (O : Nat → Prop) (h : Has base w p n s O) : Calls Try.prog 20 #[.pointer (some ⟨p, 0, none⟩)] w fun e w' => e = .returned (.int .i64 (s.pend.length : Int)) ∧ w = w' := by
  obtain ⟨F, G, ⟨sv, pv, gl, gg, fg, hp⟩, hO⟩ := h.pd
  obtain ⟨A, c, e1⟩ := Kd.R_slice hp.pd
  rw [List.length_map] at e1
  subst e1
  exact disk_Pending.calls p A s.pend.length c _ _ _ _ _ w hp.box
theorem write_h (base : Nat) (w : World) (p n : Nat) (s : X.DS) (O : Nat → Prop) (i : Int) (A : Option Addr) (c : Nat) (xs : List Int) (h : Has base w p n s O) (hbase : base ≤ w.heap.size) (hC : (Kd.int .u8).C w A xs.length xs) (hc : xs.length ≤ c) (hu : X.u8all xs = true)
    (hA : ∀ ad, A = some ad → (∃ g o, ad = ⟨g, o, none⟩) ∧ ¬ O ad.block ∧ ad.block < w.heap.size) (hpl : s.pend.length ≤ 500000000000) :
    Calls Try.prog 14 #[.pointer (some ⟨p, 0, none⟩), .int .i64 i, .slice A xs.length c] w fun e w' => e = .returned (.int .i64 (putE n i xs.length)) ∧ Step base w w' p n (put s n i xs) O := by
  obtain ⟨F, G, hp, hO⟩ := h.pd
  unfold putE put
  rcases hb : hasB i n with _ | _
  · rw [if_neg (by decide), if_neg (by simp)]
    refine (disk_Write_no.calls p n F G s i A xs.length c w hp hb).mono ?_
    rintro e w' ⟨rfl, rfl⟩
    exact ⟨rfl, Step.same h⟩
  · rw [if_pos rfl]
    by_cases hl : xs.length = 256
    · rw [if_pos hl, if_pos ⟨rfl, hl⟩]
      have h2 := of_decide_eq_true hb
      obtain ⟨j, rfl⟩ := Int.eq_ofNat_of_zero_le h2.1
      have hj : j < n := by omega
      rw [hl] at hC hc ⊢
      rcases hbl : (s.set && decide (s.left = 0)) with _ | _
      · obtain ⟨ad, rfl, -⟩ := hC.2.2 (by decide)
        obtain ⟨⟨gd, od, rfl⟩, h3, h4⟩ := hA ad rfl
        refine (disk_Write_go.calls p n j F G s gd od c xs w hp hj hC hc hu hbl (fun h' => h3 (hO _ (.inl h'))) h4 hpl).mono ?_
        rintro e w' ⟨rfl, hd⟩
        exact ⟨rfl, h.did hO hbase hd⟩
      · refine (disk_Write_ghost.calls p n j F G s A c xs w hp hj hC hc hu hbl).mono ?_
        rintro e w' ⟨rfl, hd⟩
        exact ⟨rfl, h.did hO hbase hd⟩
    · rw [if_neg hl, if_neg (fun h' => hl h'.2)]
      refine (disk_Write_short.calls p n F G s i A xs.length c w hp hb hl).mono ?_
      rintro e w' ⟨rfl, rfl⟩
      exact ⟨rfl, Step.same h⟩
theorem flush_h (base : Nat) (w : World) (p n : Nat) (s : X.DS) (O : Nat → Prop) (h : Has base w p n s O) (hbase : base ≤ w.heap.size) : Calls Try.prog 23 #[.pointer (some ⟨p, 0, none⟩)] w fun e w' => e = .returned (.tuple #[]) ∧ Step base w w' p n s.flush O := by
  obtain ⟨F, G, hp, hO⟩ := h.pd
  refine (disk_Flush.calls p n F G s w hp).mono ?_
  rintro e w' ⟨rfl, hd⟩
  exact ⟨rfl, h.did hO hbase hd⟩
theorem settle_h (base : Nat) (w : World) (p n : Nat) (s : X.DS) (O : Nat → Prop) (A : Option Addr) (c : Nat) (bits : List Int) (h : Has base w p n s O) (hbase : base ≤ w.heap.size) (hC : (Kd.int .u8).C w A bits.length bits) (hc : bits.length ≤ c) (hA : ∀ ad, A = some ad → 0 < bits.length → ¬ O ad.block ∧ ad.block < w.heap.size) (hpl : s.pend.length ≤ 500000000000) :
    Calls Try.prog 24 #[.pointer (some ⟨p, 0, none⟩), .slice A bits.length c] w fun e w' => e = .returned (.tuple #[]) ∧ Step base w w' p n (s.settle bits) O := by
  obtain ⟨F, G, hp, hO⟩ := h.pd
  refine (disk_Settle.calls p n F G s A c bits w hp hC hc (fun ad e h0 => ⟨fun h' => (hA ad e h0).1 (hO _ (.inl h')), (hA ad e h0).2⟩) hpl).mono ?_
  rintro e w' ⟨rfl, hd⟩
  exact ⟨rfl, h.did hO hbase hd⟩
theorem crash_h (base : Nat) (w : World) (p n : Nat) (s : X.DS) (O : Nat → Prop) (A : Option Addr) (c : Nat) (bits : List Int) (h : Has base w p n s O) (hbase : base ≤ w.heap.size) (hC : (Kd.int .u8).C w A bits.length bits) (hc : bits.length ≤ c) (hA : ∀ ad, A = some ad → 0 < bits.length → ¬ O ad.block ∧ ad.block < w.heap.size) (hpl : s.pend.length ≤ 500000000000) :
    Calls Try.prog 15 #[.pointer (some ⟨p, 0, none⟩), .slice A bits.length c] w fun e w' => e = .returned (.tuple #[]) ∧ Step base w w' p n (s.crash bits) O := by
  obtain ⟨F, G, hp, hO⟩ := h.pd
  refine (disk_Crash.calls p n F G s A c bits w hp hC hc (fun ad e h0 => ⟨fun h' => (hA ad e h0).1 (hO _ (.inl h')), (hA ad e h0).2⟩) hpl).mono ?_
  rintro e w' ⟨rfl, hd⟩
  exact ⟨rfl, h.did hO hbase hd⟩
theorem read_h (base : Nat) (w : World) (p n : Nat) (s : X.DS) (O : Nat → Prop) (i : Int) (h : Has base w p n s O) : Calls Try.prog 22 #[.pointer (some ⟨p, 0, none⟩), .int .i64 i] w (ReadPost w s n i) := by
  obtain ⟨F, G, hp, hO⟩ := h.pd
  exact disk_Read.calls p n F G s i w hp
theorem read_yes (base : Nat) (w : World) (p n i : Nat) (s : X.DS) (O : Nat → Prop) (h : Has base w p n s O) (hi : i < n) : Calls Try.prog 22 #[.pointer (some ⟨p, 0, none⟩), .int .i64 (i : Int)] w fun e w' => ∃ v, e = .returned (.tuple #[v, .int .i64 0]) ∧ Fresh w (s.read i) v w' := by
  have hb : hasB (i : Int) n = true := decide_eq_true ⟨by omega, by omega⟩
  refine (read_h base w p n s O i h).mono ?_
  rintro e w' ⟨v, he, hf⟩
  rw [if_pos hb] at he hf
  exact ⟨v, he, hf⟩
theorem stable_h (base : Nat) (w : World) (p n : Nat) (s : X.DS) (O : Nat → Prop) (h : Has base w p n s O) : Calls Try.prog 16 #[.pointer (some ⟨p, 0, none⟩)] w (BytesPost w s.bytes) := by
  obtain ⟨F, G, hp, hO⟩ := h.pd
  exact disk_Stable.calls p n F G s w hp
theorem image_h (base : Nat) (w : World) (p n : Nat) (s : X.DS) (O : Nat → Prop) (h : Has base w p n s O) : Calls Try.prog 19 #[.pointer (some ⟨p, 0, none⟩)] w (BytesPost w (imageTo s n)) := by
  obtain ⟨F, G, hp, hO⟩ := h.pd
  exact disk_Image.calls p n F G s w hp
/-- What a deed writes. -/
def dataL (fill : Int) (n : Nat) : List Int := (List.range n).map fun i => (fill + ((i / 64 : Nat) : Int)) % 256
theorem dataL_len (fill : Int) (n : Nat) : (dataL fill n).length = n := by simp [dataL]
theorem dataL_succ (fill : Int) (n : Nat) : dataL fill (n + 1) = dataL fill n ++ [(fill + ((n / 64 : Nat) : Int)) % 256] := by
  unfold dataL
  rw [List.range_succ, List.map_append]
  rfl
theorem dataL_u8 (fill : Int) (n : Nat) : X.u8all (dataL fill n) = true := X.u8all_iff.2 (fun c hc => by
  obtain ⟨i, -, rfl⟩ := List.mem_map.1 hc
  omega)
theorem data_l0 (n : Nat) (hn : n ≤ 256) (x0 x1 fill : Int) (x3 : Bool) (x4 : List Int) : ∀ (k i : Nat), i ≤ n → n - i < k → undercroftlaw02_data.l0 k (n : Int) (dataL fill i ++ List.replicate (n - i) 0) (i : Int) x0 x1 fill x3 x4 = some (dataL fill n)
  | 0, _, _, h => absurd h (Nat.not_lt_zero _)
  | k + 1, i, hi, h => by
    unfold undercroftlaw02_data.l0
    by_cases hlt : i < n
    · rw [if_pos (by omega), if_pos (by omega), if_pos (by rw [List.length_append, dataL_len, List.length_replicate]; omega)]
      have e1 : wrap64 ((i : Int) + 1) = ((i + 1 : Nat) : Int) := by unfold wrap64; omega
      have e2 : wrap64 (Int.tdiv (i : Int) 64) = ((i / 64 : Nat) : Int) := by
        rw [Int.tdiv_eq_ediv_of_nonneg (by omega)]
        unfold wrap64
        omega
      have e3 : ((i / 64 : Nat) : Int) % 256 = ((i / 64 : Nat) : Int) := by omega
      rw [e1, e2, e3, Int.toNat_natCast, List.set_append_right _ _ (by rw [dataL_len]; exact Nat.le_refl _), dataL_len, Nat.sub_self, show n - i = (n - (i + 1)) + 1 from by omega, List.replicate_succ, List.set_cons_zero]
      have := data_l0 n hn x0 x1 fill x3 x4 k (i + 1) (by omega) (by omega)
      rw [dataL_succ, List.append_assoc] at this
      exact this
    · obtain rfl : i = n := by omega
      rw [if_neg (by omega), Nat.sub_self, List.replicate_zero, List.append_nil]
/-- How long it is. -/
def dataN (short : Bool) : Nat := if short = true then 255 else 256
theorem data_f (x0 x1 fill : Int) (short : Bool) (x4 : List Int) : undercroftlaw02_data.f 300 x0 x1 fill short x4 = some (dataL fill (dataN short)) := by
  unfold undercroftlaw02_data.f dataN
  rcases short with _ | _
  · rw [if_neg (by decide), if_neg (by decide)]
    rw [show (300 : Nat) = 299 + 1 from rfl, undercroftlaw02_data.j0, if_pos (by decide), if_pos (by decide)]
    exact data_l0 256 (by decide) x0 x1 fill false x4 299 0 (by decide) (by decide)
  · rw [if_pos rfl, if_pos rfl]
    rw [show (300 : Nat) = 299 + 1 from rfl, undercroftlaw02_data.j0, if_pos (by decide), if_pos (by decide)]
    exact data_l0 255 (by decide) x0 x1 fill true x4 299 0 (by decide) (by decide)
theorem data_c (a0_0 : Int) (a0_1 : Int) (a0_2 : Int) (a0_3 : Bool) (A0_4 : Option Addr) (c0_4 : Nat) (l0_4 : List Int) (w : World) (hr0_4 : Kd.C (Kd.int .u8) w A0_4 l0_4.length l0_4) (hc0_4 : l0_4.length ≤ c0_4) :
    Calls Try.prog 13 #[.agg #[.int .i64 a0_0, .int .i64 a0_1, .int .u8 a0_2, .bool a0_3, .slice A0_4 l0_4.length c0_4]] w fun e w' => ∃ g c, e = .returned (.slice (some ⟨g, 0, none⟩) (dataN a0_3) c) ∧ w.heap.size ≤ g ∧ g < w'.heap.size ∧ dataN a0_3 ≤ c ∧ (Kd.int .u8).C w' (some ⟨g, 0, none⟩) (dataN a0_3) (dataL a0_2 (dataN a0_3)) ∧ Below w.heap.size w w' := by
  refine (undercroftlaw02_data.calls 300 a0_0 a0_1 a0_2 a0_3 A0_4 c0_4 l0_4 _ w hr0_4 hc0_4 (data_f ..)).mono ?_
  rintro e w' ⟨v, rfl, ho, hb⟩
  obtain ⟨g, c, rfl, h1, h2, -⟩ := Kd.R_form ho (by rw [dataL_len]; unfold dataN; split <;> decide)
  have h3 := Kd.R_reads' ho
  rw [dataL_len] at h3 ⊢
  exact ⟨g, c, rfl, h1, h2, h3.2.1, h3.2.2, hb⟩
theorem u8_rep (n : Nat) (c : Int) (h : X.u8all [c] = true) : X.u8all (List.replicate n c) = true :=
  X.u8all_iff.2 (fun d hd => by rw [(List.mem_replicate.1 hd).2]; exact X.u8all_iff.1 h c (List.mem_singleton.2 rfl))
/-- Half filled. -/
def ones (j : Nat) : List Int := List.replicate j 1 ++ List.replicate (256 - j) 0
theorem ones_len {j : Nat} (h : j ≤ 256) : (ones j).length = 256 := by simp [ones]; omega
theorem ones_set {j : Nat} (h : j < 256) : (ones j).set j 1 = ones (j + 1) := by
  unfold ones
  rw [List.set_append_right _ _ (by simp), List.length_replicate, Nat.sub_self, show 256 - j = (256 - (j + 1)) + 1 from by omega, List.replicate_succ, List.set_cons_zero, List.replicate_succ', List.append_assoc]
  rfl
theorem ones_all : ones 256 = List.replicate 256 1 := by
  unfold ones
  rw [Nat.sub_self, List.replicate_zero, List.append_nil]
def aliveD : X.DS := (put (X.DS.new (List.replicate (256 * 2) 0)) 2 0 (List.replicate 256 1)).crash [2]
theorem alive_read : aliveD.read 0 = List.replicate 64 0 ++ List.replicate 64 1 ++ List.replicate 128 0 := by decide +kernel
def undercroftlaw02_alive.f : Option Bool := some true
set_option maxHeartbeats 4000000 in
set_option maxRecDepth 100000 in
theorem undercroftlaw02_alive.calls (r : Bool) (w : World) (h : undercroftlaw02_alive.f = some r) :
    Calls Try.prog 11 #[] w fun e w' => e = .returned (.bool r) ∧ Below w.heap.size w w' := by
  obtain rfl := Option.some.inj h
  clear h
  go_enter Try.func11, Try.ntmps11
  go_wp2_with fail
  refine (new_h w.heap.size 2 w (Nat.le_refl _) (by decide) (by decide)).mono ?_
  rintro e w1 ⟨p, rfl, h1, hb1⟩
  have H1 := Aside0.mk h1
  have B1 := Aside0.mk hb1
  clear h1 hb1
  go_wp2_with (first | ((go_at_call 31; (with_reducible refine (size_h _ _ p 2 _ _ H1.out).mono ?_); rintro e w' ⟨rfl, rfl⟩)) | ((with_reducible refine gate_ (.makeSlice 22 (.const (.int .i64 256)) (.const (.int .i64 256))) rfl ?_); (refine Kd.R_make (Kd.int .u8) (w0 := w1) w1.heap.size 5 rfl rfl 22 (.const (.int .i64 256)) (.const (.int .i64 256)) rfl 256 rfl rfl Try.underlying22 (.int .u8 0) 1 info5 rfl (by decide) (by omega) 0 (ok := fun _ => True) (okp := fun _ => False) rfl (fun _ h => h.elim) trivial (by decide) (by decide) (Below.refl _ _) (Nat.le_refl _) ?_); intro v2 w2 hr2 hb2 hg2 hv2; have HR := Aside0.mk (show (Kd.int .u8).R 5 w2 w1.heap.size (fun _ => True) v2 (ones 0) from hr2); have B2 := Aside0.mk hb2; clear hr2 hb2 hg2 hv2; obtain ⟨A, c, e1⟩ := Kd.R_slice HR.out; rw [ones_len (by decide)] at e1; subst e1))
  go_loopg [4] 256 (fun gk v4 w' => ∃ j : Nat, v4 = .int .i64 (j : Int) ∧ Aside0 (gk + j = 256) ∧ Aside0 ((Kd.int .u8).R 5 w' w1.heap.size (fun _ => True) (.slice A 256 c) (ones j)) ∧ Aside0 (Below w1.heap.size w1 w'))
  case atStart => exact ⟨0, rfl, ⟨rfl⟩, HR, B2⟩
  case round =>
    clear HR B2
    obtain ⟨j, rfl, HK, HR, HB⟩ := hrel
    by_cases hlt : j < 256
    · have q0 : decide ((j : Int) < 256) = true := decide_eq_true (by omega)
      have q00 : decide (j < 256) = true := decide_eq_true hlt
      obtain ⟨g, c', e2, gb, gl, cl, HG⟩ := Kd.R_form HR.out (by rw [ones_len (by omega)]; decide)
      rw [ones_len (by omega)] at e2
      injection e2 with e3 _ e4
      subst e3
      subst e4
      have HL := Aside0.mk (ones_len (j := j) (by omega))
      obtain ⟨hx, hf⟩ := Kd.R_celln 0 HR.out (j : Int) (by omega) (by show (j : Int) < ((256 : Nat) : Int); omega)
      have HP := Kd.R_putg HR.out (j : Int) 1
      rw [Int.toNat_natCast] at hx hf HP
      rw [ones_set hlt] at HP
      have HP1 := Aside0.mk HP.1
      have B3 := Aside0.mk (below_set (v := Value.int .u8 1) (j := j) HB.out gb)
      clear HP HR HB HG gl gb
      go_wp2
      cases gk with
      | zero => exact absurd HK.out (by omega)
      | succ k1 =>
        go_roundg k1
        case measure => omega
        case rel => exact ⟨j + 1, by go_num, ⟨by have := HK.out; omega⟩, HP1, B3⟩
    · have q0 : decide ((j : Int) < 256) = false := decide_eq_false (by omega)
      have q00 : decide (j < 256) = false := decide_eq_false hlt
      obtain rfl : j = 256 := by have := HK.out; omega
      rw [ones_all] at HR
      obtain ⟨g, c', e2, gb, gl, -⟩ := Kd.R_form HR.out (by rw [List.length_replicate]; decide)
      rw [List.length_replicate] at e2
      injection e2 with e3 _ e4
      subst e3
      subst e4
      have HC := Aside0.mk (Kd.R_reads' HR.out)
      have HG : Aside0 (w1.heap.size ≤ g ∧ g < wr.heap.size) := ⟨gb, gl⟩
      clear HR gb gl HK q0 hlt
      have H2 := Aside0.mk (H1.out.below HB.out)
      have BW := Aside0.mk (B1.out.trans (HB.out.mono B1.out.size))
      clear H1 B1
      go_wp2_with fail
      refine (write_h w.heap.size wr p 2 _ _ 0 (some ⟨g, 0, none⟩) c (List.replicate 256 1) H2.out BW.out.size ?_ ?_ ?_ ?_ ?_).mono ?_
      · rw [List.length_replicate]; exact HC.out.2.2
      · rw [List.length_replicate]; exact HC.out.2.1
      · exact u8_rep 256 1 (by decide)
      · intro ad e
        injection e with e
        subst e
        exact ⟨⟨_, _, rfl⟩, fun h => absurd (show g < w1.heap.size from h.2) (by have := HG.out.1; omega), HG.out.2⟩
      · exact Nat.zero_le _
      rintro e w3 ⟨he, st⟩
      rw [show putE 2 0 (List.replicate 256 (1 : Int)).length = 0 from by rw [List.length_replicate]; rfl] at he
      subst he
      have HX := Aside0.mk (show Below w3.heap.size w3 (w3.alloc (.cells #[.int .u8 2] 5 (0, 0))) from (Below.refl _ _).alloc (Nat.le_refl _) _)
      have HS : Aside0 (w.heap.size ≤ w3.heap.size) := ⟨Nat.le_trans BW.out.size st.turn.size⟩
      have HI : Aside0 (∀ k, _ → k < w3.heap.size) := ⟨st.has.hi⟩
      have H3 := Aside0.mk (st.has.below HX.out)
      have B3 := Aside0.mk ((BW.out.trans (st.below H2.out.lo BW.out.size)).trans (HX.out.mono HS.out))
      clear st H2 BW HC HG HB HX
      go_wp2_with fail
      refine (crash_h w.heap.size _ p 2 _ _ (some ⟨w3.heap.size, 0, none⟩) 1 [2] H3.out B3.out.size (X.C_new rfl (by decide)) (by decide) ?_ ?_).mono ?_
      · intro ad e _
        injection e with e
        subst e
        exact ⟨fun h => absurd (HI.out _ h) (Nat.lt_irrefl _), by simp⟩
      · exact Nat.succ_le_of_lt (by decide)
      rintro e w4 ⟨rfl, st⟩
      have H4 := Aside0.mk (show Has w.heap.size w4 p 2 aliveD _ from st.has)
      have B4 := Aside0.mk (B3.out.trans (st.below H3.out.lo B3.out.size))
      clear st H3 B3 HS HI
      go_wp2_with fail
      refine (read_yes w.heap.size w4 p 2 0 _ _ H4.out (by decide)).mono ?_
      rintro e w5 ⟨v, rfl, ho, hb⟩
      rw [alive_read] at ho
      have B5 := Aside0.mk (B4.out.trans (hb.mono B4.out.size))
      obtain ⟨g2, c2, rfl, -⟩ := Kd.R_form ho (by decide)
      have hC := (Kd.R_reads' ho).2.2
      have h63 : w5.cell? ⟨g2, 63, none⟩ = some (.int .u8 0) := X.C_cells hC 63 (.int .u8 0) rfl
      have h64 : w5.cell? ⟨g2, 64, none⟩ = some (.int .u8 1) := X.C_cells hC 64 (.int .u8 1) rfl
      have h127 : w5.cell? ⟨g2, 127, none⟩ = some (.int .u8 1) := X.C_cells hC 127 (.int .u8 1) rfl
      have h128 : w5.cell? ⟨g2, 128, none⟩ = some (.int .u8 0) := X.C_cells hC 128 (.int .u8 0) rfl
      have hl : (List.replicate 64 (0 : Int) ++ List.replicate 64 1 ++ List.replicate 128 0).length = 256 := by decide
      rw [hl]
      clear ho hb hC hl B4 H4
      go_wp2
      go_ret
      exact ⟨rfl, B5.out⟩

end Go.Proofs.Ytbpkjkdbijifbaa.U
