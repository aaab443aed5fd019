/- Written by uprint.py (ours) for this seat: functions of the translation as Lean functions, and what their calls do. Not trusted: Lean checks it. -/
import Derived.Test.YtbpkjkdbijifbaaUx0
import Derived.Test.YtbpkjkdbijifbaaUx1
import Derived.Test.YtbpkjkdbijifbaaUx5
import Derived.Test.YtbpkjkdbijifbaaUx8
import Derived.Test.YtbpkjkdbijifbaaUx19
namespace Go.Proofs.Ytbpkjkdbijifbaa.U
open Go.RowKit Go.Proofs.YtbpkjkdbijifbaaW.PrintWords Go.Proofs.YtbpkjkdbijifbaaW.PrintLast Go.Proofs.YtbpkjkdbijifbaaW.PrintMore
attribute [local go_sem] max2_int min2_int max_two min_two max_three min_three max_four min_four   -- for this text's walks alone
set_option linter.unusedVariables false
set_option linter.unusedSimpArgs false

-- GIVEN: function 17 (undercroft/disk.Load)
def LoadPost (w : World) (xs : List Int) (n : Nat) (e : Ending) (w' : World) : Prop := ∃ p, e = .returned (.tuple #[.pointer (some ⟨p, 0, none⟩), .int .i64 0]) ∧ w.heap.size ≤ p ∧ X.PD w' p (fun k => w.heap.size ≤ k ∧ k < w'.heap.size) (fun _ => False) n (X.DS.new xs) ∧ Below w.heap.size w w'
theorem disk_Load.calls (A : Option Addr) (c n : Nat) (xs : List Int) (w : World) (hC : (Kd.int .u8).C w A xs.length xs) (hc : xs.length ≤ c) (hl : xs.length = 256 * n) (hu : X.u8all xs = true) (h1 : 1 ≤ n) (h2 : n ≤ 1024) : Calls Try.prog 17 #[.slice A xs.length c] w (LoadPost w xs n) := by
  have HC := Aside0.mk hC
  have HU := Aside0.mk hu
  have HL := Aside0.mk hl
  have q1 : ((xs.length : Int) == 0) = false := beq_eq_false_iff_ne.mpr (by omega)
  have q2 : decide ((262144 : Int) < (xs.length : Int)) = false := decide_eq_false (by omega)
  have q2' : decide (262144 < xs.length) = false := decide_eq_false (by omega)
  have q3 : Int.tmod (xs.length : Int) 256 = 0 := by
    show ((xs.length % 256 : Nat) : Int) = 0
    omega
  have q4 : (xs.length : Int) % 256 = 0 := by rw [hl]; omega
  have hcl := slices_Clone_byte_byte.calls A c xs xs w hC hc (by unfold slices_Clone_byte_byte.f; rw [if_pos (by omega)])
  clear hC hu hl
  go_enter Try.func17, Try.ntmps17
  go_wp2_with fail
  refine hcl.mono ?_
  rintro e w1 ⟨v, rfl, ho, hb⟩
  have HO := Aside0.mk ho
  have HB := Aside0.mk hb
  clear ho hb hcl
  obtain ⟨A1, c1, e1⟩ := Kd.R_slice HO.out
  subst e1
  go_wp2_with fail
  refine (disk_made.calls _ _ _ _).mono ?_
  intro e w2 hm
  obtain ⟨p, rfl, hp, hpd, hbl⟩ := made_pd (n := n) hm HO.out HB.out (X.DS.new_ok HL.out h1 h2 HU.out)
  have HPD := Aside0.mk hpd
  have HBL := Aside0.mk hbl
  clear hpd hbl hm HO HB
  go_wp2
  go_ret2
  exact ⟨p, rfl, hp, HPD.out, HBL.out⟩
theorem disk_Load_no.calls (A : Option Addr) (c m : Nat) (w : World) (h : m = 0 ∨ 262144 < m ∨ m % 256 ≠ 0) (hm : m ≤ 9223372036854775807) : Calls Try.prog 17 #[.slice A m c] w fun e w' => e = .returned (.tuple #[.pointer none, .int .i64 1]) ∧ w = w' := by
  by_cases h0 : m = 0
  · have q1 : ((m : Int) == 0) = true := beq_iff_eq.mpr (by omega)
    clear h
    go_enter Try.func17, Try.ntmps17
    go_wp2
    go_ret2
    exact ⟨rfl, rfl⟩
  have q1 : ((m : Int) == 0) = false := beq_eq_false_iff_ne.mpr (by omega)
  have q1' : (m == 0) = false := beq_eq_false_iff_ne.mpr h0
  by_cases h1 : 262144 < m
  · have q2 : decide ((262144 : Int) < (m : Int)) = true := decide_eq_true (by omega)
    have q2' : decide (262144 < m) = true := decide_eq_true h1
    clear h
    go_enter Try.func17, Try.ntmps17
    go_wp2
    go_ret2
    exact ⟨rfl, rfl⟩
  have q2 : decide ((262144 : Int) < (m : Int)) = false := decide_eq_false (by omega)
  have q2' : decide (262144 < m) = false := decide_eq_false h1
  have h3 : m % 256 ≠ 0 := by omega
  have q3 : ((m : Int) % 256 != 0) = true := bne_iff_ne.mpr (by omega)
  have q4 : (Int.tmod (m : Int) 256 != 0) = true := bne_iff_ne.mpr (by
    show ((m % 256 : Nat) : Int) ≠ 0
    omega)
  clear h
  go_enter Try.func17, Try.ntmps17
  go_wp2
  go_ret2
  exact ⟨rfl, rfl⟩
theorem disk_Load.part (w0 w : World) (L : List X.Res) (A : Option Addr) (c n : Nat) (xs : List Int) (h : X.Lies w0 w L) (hC : (Kd.int .u8).C w A xs.length xs) (hc : xs.length ≤ c) (hl : xs.length = 256 * n) (hu : X.u8all xs = true) (h1 : 1 ≤ n) (h2 : n ≤ 1024) :
    Calls Try.prog 17 #[.slice A xs.length c] w fun e w' => ∃ p, e = .returned (.tuple #[.pointer (some ⟨p, 0, none⟩), .int .i64 0]) ∧ X.Lies w0 w' (.disk p n (X.DS.new xs) :: L) := by
  refine (disk_Load.calls A c n xs w hC hc hl hu h1 h2).mono ?_
  rintro e w' ⟨p, he, hp, hpd, hb⟩
  exact ⟨p, he, h.new (O := fun k => w.heap.size ≤ k ∧ k < w'.heap.size) (S := fun _ => False) hb ⟨_, _, hpd, fun _ h => h, fun _ h => h⟩ (fun _ h => h) (fun _ h => h.elim) (fun _ _ h => h)⟩

-- GIVEN: function 18 (undercroft/undercroftref02.Load)
def RLoadPost (w0 : World) (L : List X.Res) (xs : List Int) (n : Nat) (e : Ending) (w' : World) : Prop := ∃ p, e = .returned (.tuple #[.pointer (some ⟨p, 0, none⟩), .int .i64 0]) ∧ X.Lies w0 w' (.rdisk p n (X.DS.new xs) :: L)
theorem undercroftref02_Load.calls (w0 w : World) (L : List X.Res) (A : Option Addr) (c n : Nat) (xs : List Int) (h : X.Lies w0 w L) (hC : (Kd.int .u8).C w A xs.length xs) (hc : xs.length ≤ c) (hl : xs.length = 256 * n) (hu : X.u8all xs = true) (h1 : 1 ≤ n) (h2 : n ≤ 1024) :
    Calls Try.prog 18 #[.slice A xs.length c] w (RLoadPost w0 L xs n) := by
  have HS := Aside0.mk h
  have HU := Aside0.mk hu
  have HL := Aside0.mk hl
  have e1 : Int.tdiv (xs.length : Int) 256 = (n : Int) := by rw [Int.tdiv_eq_ediv_of_nonneg (by omega)]; omega
  have q1 : decide ((n : Int) < 1) = false := decide_eq_false (by omega)
  have q2 : decide ((1024 : Int) < (n : Int)) = false := decide_eq_false (by omega)
  have q3 : decide (n < 1) = false := decide_eq_false (by omega)
  have q4 : decide (1024 < n) = false := decide_eq_false (by omega)
  have q5 : ((xs.length : Int) == (n : Int) * 256) = true := beq_iff_eq.mpr (by omega)
  have q6 : (xs.length : Int) = (n : Int) * 256 := by omega
  have HC1 : Aside0 ((Kd.int .u8).C (w.alloc (.cells #[] 5)) A xs.length xs) := ⟨Kd.C_below hC ((Below.refl _ _).alloc (Nat.le_refl _) _)⟩
  have HB1 : Aside0 (Below w.heap.size w (w.alloc (.cells #[] 5))) := ⟨(Below.refl _ _).alloc (Nat.le_refl _) _⟩
  clear h hu hl hC
  go_enter Try.func18, Try.ntmps18
  go_wp2_with ((with_reducible refine gate_builtin (b := .append) (xs := #[.tmp 21, .tmp 22]) rfl ?_); at_builtin; refine Kd.R_append_row (Value.int .u8) (0 : Int) (w0 := w) w.heap.size rfl (.tmp 21) (.tmp 22) 22 5 (.int .u8 0) 1 rfl Try.underlying22 info5 rfl (by decide) _ [] xs A xs.length c (fun _ => True) rfl rfl (fun _ _ => trivial) (empty_row w) HC1.out HB1.out HB1.out.size (by have := HL.out; simp; omega) ?_; intro v1 w1 ho1 hb1 hg1 hat1; have HS1 := Aside0.mk (HS.out.newRow hb1 ho1); obtain ⟨A1, c1, e1⟩ := Kd.R_slice ho1; subst e1; clear ho1 hb1 hg1 hat1 HS)
  go_ret2
  have hs := HS1.out
  rw [List.nil_append] at hs
  have hs2 := (((hs.wnil).wnil).alloc #[.slice A1 xs.length c1, .slice none 0 0, .slice none 0 0, .bool false, .int .i64 0] 42).perm [0, 3, 1, 2] 4 (by decide) (by decide)
  exact ⟨_, rfl, X.Lies.mkRdisk (X.DS.new_ok HL.out h1 h2 HU.out) hs2⟩
theorem undercroftref02_Load_no.calls (A : Option Addr) (c m : Nat) (w : World) (h : m = 0 ∨ 262144 < m ∨ m % 256 ≠ 0) (hm : m ≤ 9223372036854775807) : Calls Try.prog 18 #[.slice A m c] w fun e w' => e = .returned (.tuple #[.pointer none, .int .i64 1]) ∧ w = w' := by
  have e1 : Int.tdiv (m : Int) 256 = ((m / 256 : Nat) : Int) := by rw [Int.tdiv_eq_ediv_of_nonneg (by omega)]; omega
  have e2 : wrap64 (((m / 256 : Nat) : Int)) = ((m / 256 : Nat) : Int) := by unfold wrap64; omega
  obtain ⟨k, hk⟩ : ∃ k, k = m / 256 := ⟨_, rfl⟩
  rw [← hk] at e1 e2
  by_cases h1 : k < 1
  · have q1 : decide ((k : Int) < 1) = true := decide_eq_true (by omega)
    have q2 : decide (k < 1) = true := decide_eq_true h1
    clear h hk h1
    go_enter Try.func18, Try.ntmps18
    go_wp2
    go_ret2
    exact ⟨rfl, rfl⟩
  · have q1 : decide ((k : Int) < 1) = false := decide_eq_false (by omega)
    have q11 : decide (k < 1) = false := decide_eq_false h1
    by_cases h2 : 1024 < k
    · have q2 : decide ((1024 : Int) < (k : Int)) = true := decide_eq_true (by omega)
      have q22 : decide (1024 < k) = true := decide_eq_true h2
      clear h hk h1 h2
      go_enter Try.func18, Try.ntmps18
      go_wp2
      go_ret2
      exact ⟨rfl, rfl⟩
    · have q2 : decide ((1024 : Int) < (k : Int)) = false := decide_eq_false (by omega)
      have q22 : decide (1024 < k) = false := decide_eq_false h2
      have e3 : wrap64 ((k : Int) * 256) = (k : Int) * 256 := by unfold wrap64; omega
      have q3 : ((m : Int) == (k : Int) * 256) = false := beq_eq_false_iff_ne.mpr (by omega)
      have q4 : (m == k * 256) = false := beq_eq_false_iff_ne.mpr (by omega)
      clear h hk h1 h2
      go_enter Try.func18, Try.ntmps18
      go_wp2
      go_ret2
      exact ⟨rfl, rfl⟩

-- GIVEN: function 19 ((*undercroft/disk.Disk).Image)
/-- All that is read, block by block. -/
def imageTo (s : X.DS) (i : Nat) : List Int := (List.range i).flatMap fun j => s.read j
theorem imageTo_succ (s : X.DS) (i : Nat) : imageTo s (i + 1) = imageTo s i ++ s.read i := by
  unfold imageTo
  rw [List.range_succ, List.flatMap_append]
  simp
theorem imageTo_length {s : X.DS} {n : Nat} (h : s.Ok n) : ∀ i, i ≤ n → (imageTo s i).length = 256 * i
  | 0, _ => rfl
  | i + 1, hi => by
    rw [imageTo_succ, List.length_append, imageTo_length h i (by omega), (h.read (by omega)).1]
    omega
set_option maxHeartbeats 4000000 in
set_option maxRecDepth 100000 in
theorem disk_Image.calls (p n : Nat) (F G : Nat → Prop) (s : X.DS) (w : World) (h : X.PD w p F G n s) :
    Calls Try.prog 19 #[.pointer (some ⟨p, 0, none⟩)] w (BytesPost w (imageTo s n)) := by
  obtain ⟨sv, pv, gl, gg, fg, h⟩ := h
  have hn := h.ok.n2
  obtain ⟨A, c, e1⟩ := Kd.R_slice h.st
  rw [h.ok.len] at e1
  subst e1
  have HP := Aside0.mk h
  clear h
  go_enter Try.func19, Try.ntmps19
  go_wp2_with fail
  refine (disk_Size.calls p A n c _ _ _ _ _ w HP.out.box hn).mono ?_
  rintro e w' ⟨rfl, rfl⟩
  go_wp2_with fail
  go_loopg [3, 7] n (fun gk v3 v7 w' => ∃ i : Nat, v7 = .int .i64 (i : Int) ∧ Aside0 (gk + i = n) ∧ Aside0 ((Kd.int .u8).R 5 w' w.heap.size (fun _ => True) v3 (imageTo s i)) ∧ Aside0 (Below w.heap.size w w'))
  case atStart => exact ⟨0, rfl, ⟨by omega⟩, ⟨Kd.R_nil _ _ _ _ _⟩, ⟨Below.refl _ _⟩⟩
  case round =>
    obtain ⟨i, rfl, HK, HR, HB⟩ := hrel
    by_cases hlt : i < n
    · have q0 : decide ((i : Int) < (n : Int)) = true := decide_eq_true (by omega)
      have q00 : decide (i < n) = true := decide_eq_true hlt
      have HPr := Aside0.mk (HP.out.below HB.out)
      have HL := Aside0.mk (imageTo_length HP.out.ok i (by omega))
      have HRD := Aside0.mk (HP.out.ok.read hlt)
      go_wp2_with fail
      refine (disk_seen.calls p n i F G _ _ _ _ _ s _ HPr.out hlt).mono ?_
      rintro e w2 ⟨A2, c2, rfl, hc2, hC2, rfl⟩
      have HC2 := Aside0.mk hC2
      clear hC2
      go_wp2_with ((with_reducible refine gate_ (.call { callee := .builtin .append, args := #[.tmp 10, .tmp 13], argTypes := #[22, 22] }) rfl ?_); (refine Kd.R_append_rows (Kd.int .u8) (w0 := w) w.heap.size rfl (.tmp 10) (.tmp 13) 22 5 (.int .u8 0) 1 rfl Try.underlying22 info5 rfl (by decide) (by omega) _ (imageTo s i) (s.read i) _ _ _ (fun _ => True) (fun _ => False) rfl rfl HR.out HC2.out (fun _ _ h => h) (fun _ h => h.elim) (fun _ _ => trivial) HB.out HB.out.size (by rw [HL.out]; omega) ?_); intro v4 w4 hr4 hb4 hg4 ha4; have HR4 := Aside0.mk hr4; have HB4 := Aside0.mk hb4; clear hr4 hb4 hg4 ha4)
      rw [← imageTo_succ] at HR4
      cases gk with
      | zero => exact absurd HK.out (by omega)
      | succ k1 =>
        go_roundg k1
        case measure => omega
        case rel => exact ⟨i + 1, by go_num, ⟨by have := HK.out; omega⟩, HR4, HB4⟩
    · have q0 : decide ((i : Int) < (n : Int)) = false := decide_eq_false (by omega)
      have q00 : decide (i < n) = false := decide_eq_false hlt
      obtain rfl : i = n := by have := HK.out; omega
      go_wp2
      go_ret
      exact ⟨_, rfl, HR.out, HB.out⟩
theorem disk_Image_nil.calls (w : World) : Calls Try.prog 19 #[.pointer none] w fun e w' => e = .returned (.slice none 0 0) ∧ w = w' := by
  go_enter Try.func19, Try.ntmps19
  go_wp2_with ((go_at_call 31; (with_reducible refine (disk_Size_nil.calls w).mono ?_); rintro e w' ⟨rfl, rfl⟩))
  go_loopg [3, 7] 0 (fun gk v3 v7 w' => v3 = .slice none 0 0 ∧ v7 = .int .i64 0 ∧ w = w')
  case atStart => exact ⟨rfl, rfl, rfl⟩
  case round =>
    obtain ⟨rfl, rfl, rfl⟩ := hrel
    go_wp2
    go_ret
    exact ⟨rfl, rfl⟩
theorem disk_Image.part (w0 w : World) (L : List X.Res) (p n : Nat) (s : X.DS) (h : X.Lies w0 w (.disk p n s :: L)) :
    Calls Try.prog 19 #[.pointer (some ⟨p, 0, none⟩)] w fun e w' => ∃ v, e = .returned v ∧ X.Lies w0 w' (.row (Kd.int .u8) 5 v (imageTo s n) :: .disk p n s :: L) := by
  obtain ⟨F, G, hp, -⟩ := h.disk
  refine (disk_Image.calls p n F G s w hp).mono ?_
  rintro e w' ⟨v, rfl, hr, hb⟩
  exact ⟨v, rfl, h.newRow hb hr⟩

-- GIVEN: function 20 ((*undercroft/disk.Disk).Pending)
theorem disk_Pending.calls (p : Nat) (A : Option Addr) (n c : Nat) (c0 c2 c3 c4 c5 : Value) (w : World) (hb : X.Blk w p #[c0, .slice A n c, c2, c3, c4, c5] 66) :
    Calls Try.prog 20 #[.pointer (some ⟨p, 0, none⟩)] w fun e w' => e = .returned (.int .i64 (n : Int)) ∧ w = w' := by
  have h1 := hb.cell 1 _ rfl
  clear hb
  go_enter Try.func20, Try.ntmps20
  go_wp2
  go_ret
  exact ⟨rfl, rfl⟩
theorem disk_Pending_nil.calls (w : World) :
    Calls Try.prog 20 #[.pointer none] w fun e w' => e = .returned (.int .i64 0) ∧ w = w' := by
  go_enter Try.func20, Try.ntmps20
  go_wp2
  go_ret
  exact ⟨rfl, rfl⟩
theorem disk_Pending.part (w0 w : World) (L : List X.Res) (p n : Nat) (s : X.DS) (h : X.Lies w0 w (.disk p n s :: L)) :
    Calls Try.prog 20 #[.pointer (some ⟨p, 0, none⟩)] w fun e w' => e = .returned (.int .i64 (s.pend.length : Int)) ∧ w = w' := by
  obtain ⟨F, G, ⟨sv, pv, gl, gg, fg, hp⟩, -⟩ := h.disk
  obtain ⟨A, c, e1⟩ := Kd.R_slice hp.pd
  rw [List.length_map] at e1
  subst e1
  exact disk_Pending.calls p A s.pend.length c _ _ _ _ _ w hp.box

end Go.Proofs.Ytbpkjkdbijifbaa.U
