/- Written by uprint.py (ours) for this seat: functions of the translation as Lean functions, and what their calls do. Not trusted: Lean checks it. -/
import Derived.Test.YtbpkjkdbijifbaaUx0
import Derived.Test.YtbpkjkdbijifbaaUx1
import Derived.Test.YtbpkjkdbijifbaaUx4
import Derived.Test.YtbpkjkdbijifbaaUx6
import Derived.Test.YtbpkjkdbijifbaaUx8
import Derived.Test.YtbpkjkdbijifbaaUx10
import Derived.Test.YtbpkjkdbijifbaaUx11
import Derived.Test.YtbpkjkdbijifbaaUx12
import Derived.Test.YtbpkjkdbijifbaaUx15
namespace Go.Proofs.Ytbpkjkdbijifbaa.U
open Go.RowKit Go.Proofs.YtbpkjkdbijifbaaW.PrintWords Go.Proofs.YtbpkjkdbijifbaaW.PrintLast Go.Proofs.YtbpkjkdbijifbaaW.PrintMore
attribute [local go_sem] max2_int min2_int max_two min_two max_three min_three max_four min_four   -- for this text's walks alone
set_option linter.unusedVariables false
set_option linter.unusedSimpArgs false

/-! ### undercroftlaw02_DiskFuse: function 6 (given) -/
/-- What a deed of this law does to a disk. -/
def fstep (l : List S24) (k : Nat) (s : X.DS) : X.DS := if (rd_T24 l (k : Int)).f0 % 2 = 0 then s.write ((rd_T24 l (k : Int)).f1 % 4).toNat (dataL (rd_T24 l (k : Int)).f2 256) else s.flush
def fr (l : List S24) : Nat → X.DS → X.DS
  | 0, s => s
  | k + 1, s => fstep l k (fr l k s)
/-- a: with a fuse of N operations; b: with none; c: b behind N operations. -/
structure Sim (N i : Nat) (a b c : X.DS) : Prop where
  calm : b.set = false ∧ b.ghosts = []
  live : i ≤ N → a = { b with set := true, left := N - i }
  dead : N ≤ i → a.set = true ∧ a.left = 0 ∧ (∀ j, a.read j = b.read j) ∧ a.pend = c.pend ∧ a.bytes = c.bytes
theorem fstep_calm (l : List S24) (k : Nat) {s : X.DS} (h : s.set = false ∧ s.ghosts = []) : (fstep l k s).set = false ∧ (fstep l k s).ghosts = [] := by
  unfold fstep
  split
  · unfold X.DS.write
    rw [h.1, h.2]
    exact ⟨rfl, rfl⟩
  · unfold X.DS.flush
    rw [h.1, h.2]
    exact ⟨rfl, rfl⟩
theorem read_of (s : X.DS) (t : Bool) (m j : Nat) : X.DS.read { s with set := t, left := m } j = s.read j := rfl
theorem fstep_live (l : List S24) (k m : Nat) {b : X.DS} (h : b.set = false ∧ b.ghosts = []) : fstep l k { b with set := true, left := m + 1 } = { fstep l k b with set := true, left := m } := by
  obtain ⟨y, p, g, t, m2⟩ := b
  obtain ⟨h1, h2⟩ := h
  simp only at h1 h2
  subst h1
  subst h2
  unfold fstep
  split
  · rfl
  · rfl
theorem sim_step {l : List S24} {N i : Nat} {s0 a b : X.DS} (h : Sim N i a b (fr l N s0)) (hb : b = fr l i s0) (hok : b.Ok 4) : Sim N (i + 1) (fstep l i a) (fstep l i b) (fr l N s0) := by
  have hc := fstep_calm l i h.calm
  by_cases hi : i < N
  · have e := h.live (by omega)
    have e2 : fstep l i a = { fstep l i b with set := true, left := N - (i + 1) } := by
      rw [e, show N - i = (N - (i + 1)) + 1 from by omega]
      exact fstep_live l i _ h.calm
    refine ⟨hc, fun _ => e2, fun hN => ?_⟩
    have hNi : i + 1 = N := by omega
    rw [e2]
    refine ⟨rfl, by show N - (i + 1) = 0; omega, fun j => rfl, ?_, ?_⟩
    · show (fstep l i b).pend = _
      rw [hb, ← hNi]
      rfl
    · show (fstep l i b).bytes = _
      rw [hb, ← hNi]
      rfl
  · obtain ⟨d1, d2, d3, d4, d5⟩ := h.dead (by omega)
    refine ⟨hc, fun h' => absurd h' (by omega), fun _ => ?_⟩
    have hbl : (a.set && decide (a.left = 0)) = true := by rw [d1, d2]; rfl
    unfold fstep
    split
    · refine ⟨?_, ?_, fun j => ?_, ?_, ?_⟩
      · unfold X.DS.write; rw [if_pos hbl]; exact d1
      · unfold X.DS.write; rw [if_pos hbl]; exact d2
      · rw [X.DS.read_write, X.DS.read_write, d3]
        unfold X.DS.blown
        rw [if_pos hbl, h.calm.1, h.calm.2]
        rfl
      · unfold X.DS.write; rw [if_pos hbl]; exact d4
      · unfold X.DS.write; rw [if_pos hbl]; exact d5
    · have e : a.flush = a := by unfold X.DS.flush; rw [if_pos hbl]
      rw [e]
      exact ⟨d1, d2, fun j => (d3 j).trans (X.DS.read_flush hok j).symm, d4, d5⟩
theorem sim_read {N i : Nat} {a b c : X.DS} (h : Sim N i a b c) (j : Nat) : a.read j = b.read j := by
  rcases Nat.le_total i N with hi | hi
  · rw [h.live hi]; rfl
  · exact (h.dead hi).2.2.1 j
theorem sim_end {l : List S24} {N i m : Nat} {s0 a b : X.DS} (h : Sim N i a b (fr l N s0)) (hb : b = fr l i s0) (hm : m = min N i) : a.pend = (fr l m s0).pend ∧ a.bytes = (fr l m s0).bytes := by
  rcases Nat.le_total i N with hi | hi
  · rw [h.live hi, show m = i from by omega, ← hb]
    exact ⟨rfl, rfl⟩
  · rw [show m = N from by omega]
    exact (h.dead hi).2.2.2
theorem sim_zero (l : List S24) (N : Nat) (xs : List Int) : Sim N 0 ((X.DS.new xs).fuse (N : Int)) (X.DS.new xs) (fr l N (X.DS.new xs)) := by
  have e : (X.DS.new xs).fuse (N : Int) = { X.DS.new xs with set := true, left := N } := by
    unfold X.DS.fuse
    rw [show decide ((0 : Int) ≤ (N : Int)) = true from decide_eq_true (by omega), Int.toNat_natCast]
    rfl
  refine ⟨⟨rfl, rfl⟩, fun _ => e, fun h => ?_⟩
  obtain rfl : N = 0 := by omega
  rw [e]
  exact ⟨rfl, rfl, fun j => rfl, rfl, rfl⟩
theorem fr_pend (l : List S24) (s : X.DS) : ∀ k, (fr l k s).pend.length ≤ s.pend.length + k
  | 0 => Nat.le_refl _
  | k + 1 => by
    have ih := fr_pend l s k
    show (fstep l k (fr l k s)).pend.length ≤ _
    unfold fstep
    split
    · have := X.DS.write_pend (fr l k s) ((rd_T24 l (k : Int)).f1 % 4).toNat (dataL (rd_T24 l (k : Int)).f2 256); omega
    · have := X.DS.flush_pend (fr l k s); omega
theorem and1 (x : Int) : ∃ b : Nat, (b : Int) = x % 2 ∧ b < 2 ∧ Go.bits .and .i64 x 1 = (b : Int) := by
  have h : (BitVec.ofInt 64 x &&& BitVec.ofInt 64 1).toNat = (x % 2).toNat := by
    rw [BitVec.toNat_and, BitVec.toNat_ofInt, show (BitVec.ofInt 64 1).toNat = 2 ^ 1 - 1 from rfl, Nat.and_two_pow_sub_one_eq_mod]
    omega
  refine ⟨(x % 2).toNat, by omega, by omega, ?_⟩
  show IntKind.i64.wrap ((BitVec.ofInt 64 x &&& BitVec.ofInt 64 1).toNat : Int) = _
  rw [h]
  exact IntWalk.i64_in _ (by omega)
theorem and15 (x : Int) : ∃ b : Nat, b < 16 ∧ Go.bits .and .i64 x 15 = (b : Int) := by
  have h : (BitVec.ofInt 64 x &&& BitVec.ofInt 64 15).toNat = (x % 16).toNat := by
    rw [BitVec.toNat_and, BitVec.toNat_ofInt, show (BitVec.ofInt 64 15).toNat = 2 ^ 4 - 1 from rfl, Nat.and_two_pow_sub_one_eq_mod]
    omega
  refine ⟨(x % 16).toNat, by omega, ?_⟩
  show IntKind.i64.wrap ((BitVec.ofInt 64 x &&& BitVec.ofInt 64 15).toNat : Int) = _
  rw [h]
  exact IntWalk.i64_in _ (by omega)
def undercroftlaw02_DiskFuse.f (l0 : List S24) (a1 : Int) (l2 : List Int) : Option Bool := some true
set_option maxHeartbeats 4000000 in
set_option maxRecDepth 100000 in
theorem undercroftlaw02_DiskFuse.calls (A0 : Option Addr) (c0 : Nat) (l0 : List S24) (a1 : Int) (A2 : Option Addr) (c2 : Nat) (l2 : List Int) (r : Bool) (w : World)
    (hr0 : Kd.C k24 w A0 l0.length l0) (hc0 : l0.length ≤ c0) (hr2 : Kd.C (Kd.int .u8) w A2 l2.length l2) (hc2 : l2.length ≤ c2) (h : undercroftlaw02_DiskFuse.f l0 a1 l2 = some r) :
    Calls Try.prog 6 #[.slice A0 l0.length c0, .int .i64 a1, .slice A2 l2.length c2] w fun e w' => e = .returned (.bool r) ∧ Below w.heap.size w w' := by
  obtain rfl := Option.some.inj h
  clear h
  have HR0 := Aside0.mk hr0
  have HC0 := Aside0.mk hc0
  have HR2 := Aside0.mk hr2
  have HC2 := Aside0.mk hc2
  clear hr0 hc0 hr2 hc2
  obtain ⟨N, hN, hNe⟩ := and15 a1
  have HN := Aside0.mk hN
  clear hN
  go_enter Try.func6, Try.ntmps6
  go_wp2_with fail
  refine (undercroftlaw02_alive.calls true w rfl).mono ?_
  rintro e w2 ⟨rfl, hb1⟩
  have HS2 := Aside0.mk ((X.Lies.start w).grow hb1)
  clear hb1
  go_wp2_with fail
  refine (disk_New.part w w2 _ 4 HS2.out (by decide) (by decide)).mono ?_
  rintro e w3 ⟨pa, rfl, hs⟩
  have HS3 := Aside0.mk hs
  clear hs HS2
  go_wp2_with fail
  refine (disk_New.part w w3 _ 4 HS3.out (by decide) (by decide)).mono ?_
  rintro e w4 ⟨pb, rfl, hs⟩
  have HS4 := Aside0.mk hs
  clear hs HS3
  go_wp2_with fail
  refine (disk_Fuse.part w w4 _ pa 4 _ (N : Int) (HS4.out.sel [1, 0] (by decide)) (by have := HN.out; omega)).mono ?_
  rintro e w5 ⟨rfl, hs⟩
  obtain ⟨s0, hs0⟩ : ∃ s0, s0 = X.DS.new (List.replicate (256 * 4) 0) := ⟨_, rfl⟩
  have HSZ : Aside0 (∀ l, Sim N 0 (s0.fuse (N : Int)) s0 (fr l N s0)) := ⟨fun l => by rw [hs0]; exact sim_zero l N _⟩
  have HZP : Aside0 (s0.pend.length = 0 ∧ (s0.fuse (N : Int)).pend.length = 0) := ⟨by rw [hs0]; exact ⟨rfl, rfl⟩⟩
  obtain ⟨a0, ha0⟩ : ∃ a0, a0 = s0.fuse (N : Int) := ⟨_, rfl⟩
  rw [← hs0, ← ha0] at hs
  rw [← ha0] at HSZ HZP
  have HS : Aside0 (X.Lies w w5 [.disk pa 4 a0, .disk pb 4 s0]) := ⟨hs⟩
  have H00 := Aside0.mk hs0
  clear hs HS4 ha0 hs0
  go_wp2_with fail
  refine (undercroftlaw02_few.calls A0 c0 l0 w5 HC0.out).mono ?_
  rintro e w' ⟨rfl, rfl⟩
  obtain ⟨l, hl⟩ : ∃ l, l = l0.take 40 := ⟨_, rfl⟩
  rw [← hl]
  have HL : Aside0 (∀ w', Below w.heap.size w w' → Kd.C k24 w' A0 l.length l) := ⟨fun w' hb => by rw [hl]; exact take40 (Kd.C_below HR0.out hb)⟩
  have HLL : Aside0 (l.length ≤ 40 ∧ l.length ≤ c0) := ⟨by rw [hl, List.length_take]; have := HC0.out; omega⟩
  clear hl HR0 HC0
  go_wp2_with fail
  go_loopg [12, 13] l.length (fun gk v12 v13 w' => ∃ i : Nat, v12 = .int .i64 (i : Int) ∧ Aside0 (gk + i = l.length) ∧ ∃ sa sb, Aside0 (sa = fr l i a0 ∧ sb = fr l i s0) ∧ Aside0 (Sim N i sa sb (fr l N s0)) ∧ Aside0 (X.Lies w w' [.disk pa 4 sa, .disk pb 4 sb]))
  case atStart => exact ⟨0, rfl, ⟨by omega⟩, _, _, ⟨rfl, rfl⟩, ⟨HSZ.out l⟩, HS⟩
  case round =>
    clear HS
    obtain ⟨i, rfl, HK, sa, sb, HEQ, HSM, HS⟩ := hrel
    by_cases hlt : i < l.length
    · have q0 : decide ((i : Int) < (l.length : Int)) = true := decide_eq_true (by omega)
      have q00 : decide (i < l.length) = true := decide_eq_true hlt
      have HPN : Aside0 (sa.pend.length ≤ i) := ⟨by rw [HEQ.out.1]; have := fr_pend l a0 i; have := HZP.out.2; omega⟩
      have HPM : Aside0 (sb.pend.length ≤ i) := ⟨by rw [HEQ.out.2]; have := fr_pend l s0 i; have := HZP.out.1; omega⟩
      have HS2 := Aside0.mk (sim_step HSM.out HEQ.out.2 (HS.out.disk_ok 1 rfl))
      obtain ⟨g, o, A4, c4, rfl, hrg, hc4, hC4⟩ := deed_at (HL.out w (Below.refl _ _)) i hlt
      obtain ⟨x0, hx0⟩ : ∃ x, x = (rd_T24 l (i : Int)).f0 := ⟨_, rfl⟩
      obtain ⟨x1, hx1⟩ : ∃ x, x = (rd_T24 l (i : Int)).f1 := ⟨_, rfl⟩
      obtain ⟨x2, hx2⟩ : ∃ x, x = (rd_T24 l (i : Int)).f2 := ⟨_, rfl⟩
      obtain ⟨x3, hx3⟩ : ∃ x, x = (rd_T24 l (i : Int)).f3 := ⟨_, rfl⟩
      obtain ⟨x4, hx4⟩ : ∃ x, x = (rd_T24 l (i : Int)).f4 := ⟨_, rfl⟩
      rw [← hx0, ← hx1, ← hx2, ← hx3, ← hx4] at hrg
      rw [← hx4] at hc4 hC4
      have HRG := Aside0.mk (range_below hrg HS.out.below)
      have HC4 := Aside0.mk hC4
      have HCC := Aside0.mk hc4
      obtain ⟨y, hy0, hy4, hye⟩ := and3 x1
      obtain ⟨q, hq0, hq2, hqe⟩ := and1 x0
      have HY4 := Aside0.mk hy4
      have HFS : Aside0 (∀ s, fstep l i s = if q = 0 then s.write y (dataL x2 (dataN false)) else s.flush) := ⟨fun s => by
        unfold fstep
        rw [← hx0, ← hx1, ← hx2, show (x1 % 4).toNat = y from by omega]
        by_cases hq : q = 0
        · rw [if_pos hq, if_pos (by omega)]
          rfl
        · rw [if_neg hq, if_neg (by omega)]⟩
      clear hrg hc4 hC4 hy4 hx0 hx1 hx2 hx3 hx4 hy0 hq0
      rcases (show q = 0 ∨ q = 1 by omega) with rfl | rfl
      · have HF0 : Aside0 (∀ s, fstep l i s = s.write y (dataL x2 (dataN false))) := ⟨fun s => by rw [HFS.out]; rfl⟩
        clear HFS
        go_wp2_with ((with_reducible refine gate_ (.load 24 (.tmp 49)) rfl ?_); (refine wpList_load_mid rfl 24 (.tmp 49) rfl g (o + i * 5) rfl _ _ HRG.out Try.underlying24 rfl info_deed ?_))
        have HS4 := Aside0.mk (HS.out.alloc #[.int .i64 x0, .int .i64 x1, .int .u8 x2, .bool false, .slice A4 x4.length c4] 24)
        obtain ⟨gb, hgb⟩ : ∃ gb, gb = wr.heap.size := ⟨_, rfl⟩
        rw [← hgb] at HS4 ⊢
        generalize wr.alloc _ = w4 at *
        clear HS HRG hgb
        have HC4a : Aside0 ((Kd.int .u8).C w4.drew A4 x4.length x4) := ⟨Kd.C_below HC4.out HS4.out.drew.below⟩
        refine start_ (n := 18) (S := (fun w' => X.Blk w' gb #[.int .i64 x0, .int .i64 x1, .int .u8 x2, .bool false, .slice A4 x4.length c4] 24)) (ds := []) #[false, false, false, false, false, false, false, false, false, false, false, false, false, false, false, false, false, false] (by kernel_rfl) rfl rfl (HS4.out.drew.boxed 0 rfl) (fun hHeld => ?_)
        have HSa := Aside0.mk (HS4.out.drew)
        generalize World.drew _ = wa at *
        clear HS4
        refine pure_ (i := 0) (N := some 56) (v := ?_) (a' := ?_) #[true, false, false, false, false, false, false, false, false, false, false, false, false, false, false, false, false, false] rfl rfl (by kernel_rfl) (fun _ _ _ h => h) (Or.inl ⟨by rfl, ?_⟩) ?_ ?_
        rotate_left
        · intro w' 
          go_simp
          with_reducible rfl
        rotate_left
        · simp only [Act.put, List.setIfInBounds_toArray, List.set_cons_zero, List.set_cons_succ, i64_w, i32_w]
          rfl
        refine pure_ (i := 1) (N := some 57) (v := ?_) (a' := ?_) #[true, true, false, false, false, false, false, false, false, false, false, false, false, false, false, false, false, false] rfl rfl (by kernel_rfl) (fun _ _ _ h => h) (Or.inl ⟨by rfl, ?_⟩) ?_ ?_
        rotate_left
        · intro w' 
          go_simp
          with_reducible rfl
        rotate_left
        · simp only [Act.put, List.setIfInBounds_toArray, List.set_cons_zero, List.set_cons_succ, i64_w, i32_w]
          rfl
        refine take_ (i := 2) (N := some 58) (v := .int .i64 x1) (a' := ?_) #[true, true, true, false, false, false, false, false, false, false, false, false, false, false, false, false, false, false] rfl rfl (by kernel_rfl) (fun _ _ _ h => h) (Or.inl ⟨by rfl, ?_⟩) hHeld ?_ ?_
        · intro w' hs_
          exact (by have x1_ := hs_.cell 1 _ rfl; go_simp; done)
        rotate_left
        · simp only [Act.put, List.setIfInBounds_toArray, List.set_cons_zero, List.set_cons_succ, i64_w, i32_w]
          rfl
        refine pure_ (i := 3) (N := some 59) (v := ?_) (a' := ?_) #[true, true, true, true, false, false, false, false, false, false, false, false, false, false, false, false, false, false] rfl rfl (by kernel_rfl) (fun _ _ _ h => h) (Or.inl ⟨by rfl, ?_⟩) ?_ ?_
        rotate_left
        · intro w' 
          go_simp
          with_reducible rfl
        rotate_left
        · simp only [Act.put, List.setIfInBounds_toArray, List.set_cons_zero, List.set_cons_succ, i64_w, i32_w]
          rfl
        refine take_ (i := 4) (N := some 60) (v := .agg #[.int .i64 x0, .int .i64 x1, .int .u8 x2, .bool false, .slice A4 x4.length c4]) (a' := ?_) #[true, true, true, true, true, false, false, false, false, false, false, false, false, false, false, false, false, false] rfl rfl (by kernel_rfl) (fun _ _ _ h => h) (Or.inl ⟨by rfl, ?_⟩) hHeld ?_ ?_
        · intro w' hs_
          exact X.load_exec 24 (.tmp 13) (by rfl) gb 0 (by rfl) [.int .i64 x0, .int .i64 x1, .int .u8 x2, .bool false, .slice A4 x4.length c4] _ (blk_range hs_) Try.underlying24 rfl info_deed
        rotate_left
        · simp only [Act.put, List.setIfInBounds_toArray, List.set_cons_zero, List.set_cons_succ, i64_w, i32_w]
          rfl
        refine one_ (i := 5) (N := some 61) #[true, true, true, true, true, true, false, false, false, false, false, false, false, false, false, false, false, false] rfl rfl (by kernel_rfl) (by decide) (fun K hK => ?_)
        refine goes_ Try.func13 (by kernel_rfl) rfl #[.agg #[.int .i64 x0, .int .i64 x1, .int .u8 x2, .bool false, .slice A4 x4.length c4]] (by rfl) rfl rfl (by (try simp only [List.map_toArray, List.map_cons, List.map_nil]); first | done | rfl) ?_
        refine (data_part w _ x0 x1 x2 false A4 c4 x4 wa HSa.out HC4a.out HCC.out).mono ?_
        rintro e wb ⟨gd, cd, rfl, hcd, hs⟩
        have HSb := Aside0.mk hs
        have HCD := Aside0.mk hcd
        refine ⟨_, rfl, ?_⟩
        clear hs hcd HSa hHeld
        refine hK.out _ _ (HSb.out.boxed 1 rfl) (fun hHeld => ?_)
        clear hK K
        refine norm_ (a' := ?_) ?_ ?_
        rotate_left
        · show Act.put _ (some 61) _ = _
          simp only [Act.put, List.setIfInBounds_toArray, List.set_cons_zero, List.set_cons_succ, i64_w, i32_w]
          rfl
        refine one_ (i := 6) (N := some 62) #[true, true, true, true, true, true, true, false, false, false, false, false, false, false, false, false, false, false] rfl rfl (by kernel_rfl) (by decide) (fun K hK => ?_)
        refine goes_ Try.func14 (by kernel_rfl) rfl #[.pointer (some ⟨pa, 0, none⟩), .int .i64 (y : Int), .slice (some ⟨gd, 0, none⟩) (dataN false) cd] (by rfl) rfl rfl (by (try simp only [List.map_toArray, List.map_cons, List.map_nil]); first | done | rfl) ?_
        refine (write_data w wb _ pa 4 sa (y : Int) gd cd x2 false (HSb.out.sel [2, 0, 1, 3] (by decide)) HCD.out (by have := HPN.out; have := HLL.out; omega)).mono ?_
        rintro e wc ⟨rfl, hs⟩
        rw [putE_ok (m := dataN false) HY4.out rfl]
        rw [put_ok HY4.out (by rw [dataL_len]; rfl)] at hs
        have HSc := Aside0.mk (hs.sel [2, 0, 3] (by decide))
        have HC4c : Aside0 ((Kd.int .u8).C wc A4 x4.length x4) := ⟨Kd.C_below HC4.out hs.below⟩
        refine ⟨_, rfl, ?_⟩
        clear hs HSb HCD hHeld
        refine hK.out _ _ (HSc.out.boxed 0 rfl) (fun hHeld => ?_)
        clear hK K
        refine norm_ (a' := ?_) ?_ ?_
        rotate_left
        · show Act.put _ (some 62) _ = _
          simp only [Act.put, List.setIfInBounds_toArray, List.set_cons_zero, List.set_cons_succ, i64_w, i32_w]
          rfl
        refine pure_ (i := 7) (N := some 63) (v := .bool false) (a' := ?_) #[true, true, true, true, true, true, true, true, false, false, false, false, false, false, false, false, false, false] rfl rfl (by kernel_rfl) (fun _ _ _ h => h) (Or.inl ⟨by rfl, ?_⟩) ?_ ?_
        · intro w' 
          exact (by go_simp; done)
        rotate_left
        · simp only [Act.put, List.setIfInBounds_toArray, List.set_cons_zero, List.set_cons_succ, i64_w, i32_w]
          rfl
        refine pure_ (i := 8) (N := some 64) (v := .bool false) (a' := ?_) #[true, true, true, true, true, true, true, true, true, false, false, false, false, false, false, false, false, false] rfl rfl (by kernel_rfl) (fun _ _ _ h => h) (Or.inl ⟨by rfl, ?_⟩) ?_ ?_
        · intro w' 
          exact (by go_simp; done)
        rotate_left
        · simp only [Act.put, List.setIfInBounds_toArray, List.set_cons_zero, List.set_cons_succ, i64_w, i32_w]
          rfl
        refine pure_ (i := 9) (N := some 65) (v := ?_) (a' := ?_) #[true, true, true, true, true, true, true, true, true, true, false, false, false, false, false, false, false, false] rfl rfl (by kernel_rfl) (fun _ _ _ h => h) (Or.inl ⟨by rfl, ?_⟩) ?_ ?_
        rotate_left
        · intro w' 
          go_simp
          with_reducible rfl
        rotate_left
        · simp only [Act.put, List.setIfInBounds_toArray, List.set_cons_zero, List.set_cons_succ, i64_w, i32_w]
          rfl
        refine pure_ (i := 10) (N := some 66) (v := ?_) (a' := ?_) #[true, true, true, true, true, true, true, true, true, true, true, false, false, false, false, false, false, false] rfl rfl (by kernel_rfl) (fun _ _ _ h => h) (Or.inl ⟨by rfl, ?_⟩) ?_ ?_
        rotate_left
        · intro w' 
          go_simp
          with_reducible rfl
        rotate_left
        · simp only [Act.put, List.setIfInBounds_toArray, List.set_cons_zero, List.set_cons_succ, i64_w, i32_w]
          rfl
        refine take_ (i := 11) (N := some 67) (v := .int .i64 x1) (a' := ?_) #[true, true, true, true, true, true, true, true, true, true, true, true, false, false, false, false, false, false] rfl rfl (by kernel_rfl) (fun _ _ _ h => h) (Or.inl ⟨by rfl, ?_⟩) hHeld ?_ ?_
        · intro w' hs_
          exact (by have x1_ := hs_.cell 1 _ rfl; go_simp; done)
        rotate_left
        · simp only [Act.put, List.setIfInBounds_toArray, List.set_cons_zero, List.set_cons_succ, i64_w, i32_w]
          rfl
        refine pure_ (i := 12) (N := some 68) (v := ?_) (a' := ?_) #[true, true, true, true, true, true, true, true, true, true, true, true, true, false, false, false, false, false] rfl rfl (by kernel_rfl) (fun _ _ _ h => h) (Or.inl ⟨by rfl, ?_⟩) ?_ ?_
        rotate_left
        · intro w' 
          go_simp
          with_reducible rfl
        rotate_left
        · simp only [Act.put, List.setIfInBounds_toArray, List.set_cons_zero, List.set_cons_succ, i64_w, i32_w]
          rfl
        refine take_ (i := 13) (N := some 69) (v := .agg #[.int .i64 x0, .int .i64 x1, .int .u8 x2, .bool false, .slice A4 x4.length c4]) (a' := ?_) #[true, true, true, true, true, true, true, true, true, true, true, true, true, true, false, false, false, false] rfl rfl (by kernel_rfl) (fun _ _ _ h => h) (Or.inl ⟨by rfl, ?_⟩) hHeld ?_ ?_
        · intro w' hs_
          exact X.load_exec 24 (.tmp 13) (by rfl) gb 0 (by rfl) [.int .i64 x0, .int .i64 x1, .int .u8 x2, .bool false, .slice A4 x4.length c4] _ (blk_range hs_) Try.underlying24 rfl info_deed
        rotate_left
        · simp only [Act.put, List.setIfInBounds_toArray, List.set_cons_zero, List.set_cons_succ, i64_w, i32_w]
          rfl
        refine one_ (i := 14) (N := some 70) #[true, true, true, true, true, true, true, true, true, true, true, true, true, true, true, false, false, false] rfl rfl (by kernel_rfl) (by decide) (fun K hK => ?_)
        refine goes_ Try.func13 (by kernel_rfl) rfl #[.agg #[.int .i64 x0, .int .i64 x1, .int .u8 x2, .bool false, .slice A4 x4.length c4]] (by rfl) rfl rfl (by (try simp only [List.map_toArray, List.map_cons, List.map_nil]); first | done | rfl) ?_
        refine (data_part w _ x0 x1 x2 false A4 c4 x4 wc HSc.out HC4c.out HCC.out).mono ?_
        rintro e wd ⟨ge, ce, rfl, hce, hs⟩
        have HSd := Aside0.mk hs
        have HCE := Aside0.mk hce
        refine ⟨_, rfl, ?_⟩
        clear hs hce HSc HC4c hHeld
        refine hK.out _ _ (HSd.out.boxed 1 rfl) (fun hHeld => ?_)
        clear hK K
        refine norm_ (a' := ?_) ?_ ?_
        rotate_left
        · show Act.put _ (some 70) _ = _
          simp only [Act.put, List.setIfInBounds_toArray, List.set_cons_zero, List.set_cons_succ, i64_w, i32_w]
          rfl
        refine one_ (i := 15) (N := some 71) #[true, true, true, true, true, true, true, true, true, true, true, true, true, true, true, true, false, false] rfl rfl (by kernel_rfl) (by decide) (fun K hK => ?_)
        refine goes_ Try.func14 (by kernel_rfl) rfl #[.pointer (some ⟨pb, 0, none⟩), .int .i64 (y : Int), .slice (some ⟨ge, 0, none⟩) (dataN false) ce] (by rfl) rfl rfl (by (try simp only [List.map_toArray, List.map_cons, List.map_nil]); first | done | rfl) ?_
        refine (write_data w wd _ pb 4 sb (y : Int) ge ce x2 false (HSd.out.sel [3, 0, 1, 2] (by decide)) HCE.out (by have := HPM.out; have := HLL.out; omega)).mono ?_
        rintro e we ⟨rfl, hs⟩
        rw [putE_ok (m := dataN false) HY4.out rfl]
        rw [put_ok HY4.out (by rw [dataL_len]; rfl)] at hs
        have HSe := Aside0.mk (hs.sel [2, 3, 0] (by decide))
        refine ⟨_, rfl, ?_⟩
        clear hs HSd HCE hHeld
        refine hK.out _ _ (HSe.out.boxed 0 rfl) (fun hHeld => ?_)
        clear hK K
        refine norm_ (a' := ?_) ?_ ?_
        rotate_left
        · show Act.put _ (some 71) _ = _
          simp only [Act.put, List.setIfInBounds_toArray, List.set_cons_zero, List.set_cons_succ, i64_w, i32_w]
          rfl
        refine pure_ (i := 16) (N := some 72) (v := .bool false) (a' := ?_) #[true, true, true, true, true, true, true, true, true, true, true, true, true, true, true, true, true, false] rfl rfl (by kernel_rfl) (fun _ _ _ h => h) (Or.inl ⟨by rfl, ?_⟩) ?_ ?_
        · intro w' 
          exact (by go_simp; done)
        rotate_left
        · simp only [Act.put, List.setIfInBounds_toArray, List.set_cons_zero, List.set_cons_succ, i64_w, i32_w]
          rfl
        refine pure_ (i := 17) (N := some 73) (v := ?_) (a' := ?_) #[true, true, true, true, true, true, true, true, true, true, true, true, true, true, true, true, true, true] rfl rfl (by kernel_rfl) (fun _ _ _ h => h) (Or.inl ⟨by rfl, ?_⟩) ?_ ?_
        rotate_left
        · intro w' 
          go_simp
          with_reducible rfl
        rotate_left
        · simp only [Act.put, List.setIfInBounds_toArray, List.set_cons_zero, List.set_cons_succ, i64_w, i32_w]
          rfl
        refine done_ (by kernel_rfl) ?_
        go_wp2_with fail
        have HS8 : Aside0 (X.Lies w we [.disk pa 4 (sa.write y (dataL x2 (dataN false))), .disk pb 4 (sb.write y (dataL x2 (dataN false)))]) := ⟨HSe.out.sel [1, 2] (by decide)⟩
        clear HSe hHeld
        obtain ⟨ta, hta⟩ : ∃ ta, ta = fstep l i sa := ⟨_, rfl⟩
        obtain ⟨tb, htb⟩ : ∃ tb, tb = fstep l i sb := ⟨_, rfl⟩
        rw [← hta, ← htb] at HS2
        rw [HF0.out] at hta htb
        rw [← hta, ← htb] at HS8
        have HT : Aside0 (ta = fr l (i + 1) a0 ∧ tb = fr l (i + 1) s0) := ⟨by rw [hta, htb, ← HF0.out, ← HF0.out, HEQ.out.1, HEQ.out.2]; exact ⟨rfl, rfl⟩⟩
        clear hta htb
        have HIM : Aside0 (imageTo ta 4 = imageTo tb 4) := ⟨imageTo_congr (sim_read HS2.out) 4⟩
        go_wp2_with fail
        refine start_ (n := 7) (S := (fun _ => True)) (ds := []) #[false, false, false, false, false, false, false] (by kernel_rfl) rfl rfl trivial (fun hHeld => ?_)
        have HSi := Aside0.mk (HS8.out.drew)
        generalize World.drew _ = wi at *
        clear HS8
        refine pure_ (i := 0) (N := some 78) (v := ?_) (a' := ?_) #[true, false, false, false, false, false, false] rfl rfl (by kernel_rfl) (fun _ _ _ h => h) (Or.inl ⟨by rfl, ?_⟩) ?_ ?_
        rotate_left
        · intro w' 
          go_simp
          with_reducible rfl
        rotate_left
        · simp only [Act.put, List.setIfInBounds_toArray, List.set_cons_zero, List.set_cons_succ, i64_w, i32_w]
          rfl
        refine pure_ (i := 3) (N := some 81) (v := ?_) (a' := ?_) #[true, false, false, true, false, false, false] rfl rfl (by kernel_rfl) (fun _ _ _ h => h) (Or.inl ⟨by rfl, ?_⟩) ?_ ?_
        rotate_left
        · intro w' 
          go_simp
          with_reducible rfl
        rotate_left
        · simp only [Act.put, List.setIfInBounds_toArray, List.set_cons_zero, List.set_cons_succ, i64_w, i32_w]
          rfl
        refine one_ (i := 1) (N := some 79) #[true, true, false, true, false, false, false] rfl rfl (by kernel_rfl) (by decide) (fun K hK => ?_)
        refine goes_ Try.func19 (by kernel_rfl) rfl #[.pointer (some ⟨pa, 0, none⟩)] (by rfl) rfl rfl (by (try simp only [List.map_toArray, List.map_cons, List.map_nil]); first | done | rfl) ?_
        refine (disk_Image.part w wi _ pa 4 ta HSi.out).mono ?_
        rintro e wj ⟨v, rfl, hs⟩
        obtain ⟨A7, c7, rfl, -, -⟩ := row_str hs 0 rfl
        have HSj := Aside0.mk hs
        refine ⟨_, rfl, ?_⟩
        clear hs HSi
        refine hK.out _ _ trivial (fun hHeld => ?_)
        clear hK K
        refine norm_ (a' := ?_) ?_ ?_
        rotate_left
        · show Act.put _ (some 79) _ = _
          simp only [Act.put, List.setIfInBounds_toArray, List.set_cons_zero, List.set_cons_succ, i64_w, i32_w]
          rfl
        refine X.more_ (fun w' => (convert 22 9 (.slice A7 (imageTo ta 4).length c7)).run Try.prog w' = .ok (.string (strOfNums (imageTo ta 4))) w') (row_conv HSj.out 0 rfl) (fun _ _ => trivial) (fun hHeld => ?_)
        refine take_ (i := 2) (N := some 80) (v := .string (strOfNums (imageTo ta 4))) (a' := ?_) #[true, true, true, true, false, false, false] rfl rfl (by kernel_rfl) (fun _ _ _ h => h) (Or.inl ⟨by rfl, ?_⟩) hHeld ?_ ?_
        · intro w' hs_
          exact conv_exec _ (by rfl) _ _ (by rfl) hs_
        rotate_left
        · simp only [Act.put, List.setIfInBounds_toArray, List.set_cons_zero, List.set_cons_succ, i64_w, i32_w]
          rfl
        refine one_ (i := 4) (N := some 82) #[true, true, true, true, true, false, false] rfl rfl (by kernel_rfl) (by decide) (fun K hK => ?_)
        refine goes_ Try.func19 (by kernel_rfl) rfl #[.pointer (some ⟨pb, 0, none⟩)] (by rfl) rfl rfl (by (try simp only [List.map_toArray, List.map_cons, List.map_nil]); first | done | rfl) ?_
        refine (disk_Image.part w wj _ pb 4 tb (HSj.out.sel [2, 1, 0, 3] (by decide))).mono ?_
        rintro e wk ⟨v, rfl, hs⟩
        rw [← HIM.out] at hs
        obtain ⟨A8, c8, rfl, -, -⟩ := row_str hs 0 rfl
        have hk := row_conv hs 0 rfl
        have HSk := Aside0.mk hs
        have hk7 := row_conv hs 3 rfl
        refine ⟨_, rfl, ?_⟩
        clear hs HSj hHeld
        refine hK.out _ _ hk7 (fun hHeld => ?_)
        clear hK K
        refine norm_ (a' := ?_) ?_ ?_
        rotate_left
        · show Act.put _ (some 82) _ = _
          simp only [Act.put, List.setIfInBounds_toArray, List.set_cons_zero, List.set_cons_succ, i64_w, i32_w]
          rfl
        refine one_ (i := 5) (N := some 83) #[true, true, true, true, true, true, false] rfl rfl (by kernel_rfl) (by decide) (fun K hK => ?_)
        refine X.val_ (by rfl) rfl (conv_exec _ (by rfl) _ _ (by rfl) hk) ?_
        refine hK.out _ _ hk7 (fun hHeld => ?_)
        clear hK K
        refine norm_ (a' := ?_) ?_ ?_
        rotate_left
        · show Act.put _ (some 83) _ = _
          simp only [Act.put, List.setIfInBounds_toArray, List.set_cons_zero, List.set_cons_succ, i64_w, i32_w]
          rfl
        refine pure_ (i := 6) (N := some 84) (v := .bool false) (a' := ?_) #[true, true, true, true, true, true, true] rfl rfl (by kernel_rfl) (fun _ _ _ h => h) (Or.inl ⟨by rfl, ?_⟩) ?_ ?_
        · intro w' 
          exact (by go_simp; done)
        rotate_left
        · simp only [Act.put, List.setIfInBounds_toArray, List.set_cons_zero, List.set_cons_succ, i64_w, i32_w]
          rfl
        refine done_ (by kernel_rfl) ?_
        go_wp2_with fail
        have HF := Aside0.mk (HSk.out.sel [2, 1] (by decide))
        clear HSk hHeld hk hk7
        cases gk with
        | zero => exact absurd HK.out (by omega)
        | succ k1 =>
          go_roundg k1
          case measure => omega
          case rel => exact ⟨i + 1, by have := HLL.out; rw [show wrap64 ((i : Int) + 1) = ((i + 1 : Nat) : Int) from by unfold wrap64; omega], ⟨by have := HK.out; omega⟩, ta, tb, HT, HS2, HF⟩
      · have HF0 : Aside0 (∀ s, fstep l i s = s.flush) := ⟨fun s => by rw [HFS.out, if_neg (by decide)]⟩
        clear HFS
        go_wp2_with ((with_reducible refine gate_ (.load 24 (.tmp 49)) rfl ?_); (refine wpList_load_mid rfl 24 (.tmp 49) rfl g (o + i * 5) rfl _ _ HRG.out Try.underlying24 rfl info_deed ?_))
        have HS4 := Aside0.mk (HS.out.alloc #[.int .i64 x0, .int .i64 x1, .int .u8 x2, .bool false, .slice A4 x4.length c4] 24)
        obtain ⟨gb, hgb⟩ : ∃ gb, gb = wr.heap.size := ⟨_, rfl⟩
        rw [← hgb] at HS4 ⊢
        generalize wr.alloc _ = w4 at *
        clear HS HRG hgb
        refine (disk_Flush.part w w4 _ pa 4 sa (HS4.out.sel [1, 2] (by decide))).mono ?_
        rintro e w5 ⟨rfl, hs⟩
        have HS5 := Aside0.mk hs
        clear hs HS4
        go_wp2_with fail
        refine (disk_Flush.part w w5 _ pb 4 sb (HS5.out.sel [1, 0] (by decide))).mono ?_
        rintro e we ⟨rfl, hs⟩
        have HS8 : Aside0 (X.Lies w we [.disk pa 4 sa.flush, .disk pb 4 sb.flush]) := ⟨hs.sel [1, 0] (by decide)⟩
        clear hs HS5
        obtain ⟨ta, hta⟩ : ∃ ta, ta = fstep l i sa := ⟨_, rfl⟩
        obtain ⟨tb, htb⟩ : ∃ tb, tb = fstep l i sb := ⟨_, rfl⟩
        rw [← hta, ← htb] at HS2
        rw [HF0.out] at hta htb
        rw [← hta, ← htb] at HS8
        have HT : Aside0 (ta = fr l (i + 1) a0 ∧ tb = fr l (i + 1) s0) := ⟨by rw [hta, htb, ← HF0.out, ← HF0.out, HEQ.out.1, HEQ.out.2]; exact ⟨rfl, rfl⟩⟩
        clear hta htb
        have HIM : Aside0 (imageTo ta 4 = imageTo tb 4) := ⟨imageTo_congr (sim_read HS2.out) 4⟩
        go_wp2_with fail
        refine start_ (n := 7) (S := (fun _ => True)) (ds := []) #[false, false, false, false, false, false, false] (by kernel_rfl) rfl rfl trivial (fun hHeld => ?_)
        have HSi := Aside0.mk (HS8.out.drew)
        generalize World.drew _ = wi at *
        clear HS8
        refine pure_ (i := 0) (N := some 78) (v := ?_) (a' := ?_) #[true, false, false, false, false, false, false] rfl rfl (by kernel_rfl) (fun _ _ _ h => h) (Or.inl ⟨by rfl, ?_⟩) ?_ ?_
        rotate_left
        · intro w' 
          go_simp
          with_reducible rfl
        rotate_left
        · simp only [Act.put, List.setIfInBounds_toArray, List.set_cons_zero, List.set_cons_succ, i64_w, i32_w]
          rfl
        refine pure_ (i := 3) (N := some 81) (v := ?_) (a' := ?_) #[true, false, false, true, false, false, false] rfl rfl (by kernel_rfl) (fun _ _ _ h => h) (Or.inl ⟨by rfl, ?_⟩) ?_ ?_
        rotate_left
        · intro w' 
          go_simp
          with_reducible rfl
        rotate_left
        · simp only [Act.put, List.setIfInBounds_toArray, List.set_cons_zero, List.set_cons_succ, i64_w, i32_w]
          rfl
        refine one_ (i := 1) (N := some 79) #[true, true, false, true, false, false, false] rfl rfl (by kernel_rfl) (by decide) (fun K hK => ?_)
        refine goes_ Try.func19 (by kernel_rfl) rfl #[.pointer (some ⟨pa, 0, none⟩)] (by rfl) rfl rfl (by (try simp only [List.map_toArray, List.map_cons, List.map_nil]); first | done | rfl) ?_
        refine (disk_Image.part w wi _ pa 4 ta HSi.out).mono ?_
        rintro e wj ⟨v, rfl, hs⟩
        obtain ⟨A7, c7, rfl, -, -⟩ := row_str hs 0 rfl
        have HSj := Aside0.mk hs
        refine ⟨_, rfl, ?_⟩
        clear hs HSi
        refine hK.out _ _ trivial (fun hHeld => ?_)
        clear hK K
        refine norm_ (a' := ?_) ?_ ?_
        rotate_left
        · show Act.put _ (some 79) _ = _
          simp only [Act.put, List.setIfInBounds_toArray, List.set_cons_zero, List.set_cons_succ, i64_w, i32_w]
          rfl
        refine X.more_ (fun w' => (convert 22 9 (.slice A7 (imageTo ta 4).length c7)).run Try.prog w' = .ok (.string (strOfNums (imageTo ta 4))) w') (row_conv HSj.out 0 rfl) (fun _ _ => trivial) (fun hHeld => ?_)
        refine take_ (i := 2) (N := some 80) (v := .string (strOfNums (imageTo ta 4))) (a' := ?_) #[true, true, true, true, false, false, false] rfl rfl (by kernel_rfl) (fun _ _ _ h => h) (Or.inl ⟨by rfl, ?_⟩) hHeld ?_ ?_
        · intro w' hs_
          exact conv_exec _ (by rfl) _ _ (by rfl) hs_
        rotate_left
        · simp only [Act.put, List.setIfInBounds_toArray, List.set_cons_zero, List.set_cons_succ, i64_w, i32_w]
          rfl
        refine one_ (i := 4) (N := some 82) #[true, true, true, true, true, false, false] rfl rfl (by kernel_rfl) (by decide) (fun K hK => ?_)
        refine goes_ Try.func19 (by kernel_rfl) rfl #[.pointer (some ⟨pb, 0, none⟩)] (by rfl) rfl rfl (by (try simp only [List.map_toArray, List.map_cons, List.map_nil]); first | done | rfl) ?_
        refine (disk_Image.part w wj _ pb 4 tb (HSj.out.sel [2, 1, 0, 3] (by decide))).mono ?_
        rintro e wk ⟨v, rfl, hs⟩
        rw [← HIM.out] at hs
        obtain ⟨A8, c8, rfl, -, -⟩ := row_str hs 0 rfl
        have hk := row_conv hs 0 rfl
        have HSk := Aside0.mk hs
        have hk7 := row_conv hs 3 rfl
        refine ⟨_, rfl, ?_⟩
        clear hs HSj hHeld
        refine hK.out _ _ hk7 (fun hHeld => ?_)
        clear hK K
        refine norm_ (a' := ?_) ?_ ?_
        rotate_left
        · show Act.put _ (some 82) _ = _
          simp only [Act.put, List.setIfInBounds_toArray, List.set_cons_zero, List.set_cons_succ, i64_w, i32_w]
          rfl
        refine one_ (i := 5) (N := some 83) #[true, true, true, true, true, true, false] rfl rfl (by kernel_rfl) (by decide) (fun K hK => ?_)
        refine X.val_ (by rfl) rfl (conv_exec _ (by rfl) _ _ (by rfl) hk) ?_
        refine hK.out _ _ hk7 (fun hHeld => ?_)
        clear hK K
        refine norm_ (a' := ?_) ?_ ?_
        rotate_left
        · show Act.put _ (some 83) _ = _
          simp only [Act.put, List.setIfInBounds_toArray, List.set_cons_zero, List.set_cons_succ, i64_w, i32_w]
          rfl
        refine pure_ (i := 6) (N := some 84) (v := .bool false) (a' := ?_) #[true, true, true, true, true, true, true] rfl rfl (by kernel_rfl) (fun _ _ _ h => h) (Or.inl ⟨by rfl, ?_⟩) ?_ ?_
        · intro w' 
          exact (by go_simp; done)
        rotate_left
        · simp only [Act.put, List.setIfInBounds_toArray, List.set_cons_zero, List.set_cons_succ, i64_w, i32_w]
          rfl
        refine done_ (by kernel_rfl) ?_
        go_wp2_with fail
        have HF := Aside0.mk (HSk.out.sel [2, 1] (by decide))
        clear HSk hHeld hk hk7
        cases gk with
        | zero => exact absurd HK.out (by omega)
        | succ k1 =>
          go_roundg k1
          case measure => omega
          case rel => exact ⟨i + 1, by have := HLL.out; rw [show wrap64 ((i : Int) + 1) = ((i + 1 : Nat) : Int) from by unfold wrap64; omega], ⟨by have := HK.out; omega⟩, ta, tb, HT, HS2, HF⟩
    · have q0 : decide ((i : Int) < (l.length : Int)) = false := decide_eq_false (by omega)
      have q00 : decide (i < l.length) = false := decide_eq_false hlt
      obtain rfl : i = l.length := by have := HK.out; omega
      clear HK
      go_wp2_with fail
      refine (disk_New.part w wr _ 4 HS.out (by decide) (by decide)).mono ?_
      rintro e w6 ⟨pc, rfl, hs⟩
      rw [← H00.out] at hs
      have HS6 := Aside0.mk hs
      clear hs HS
      go_wp2_with fail
      have HS7 : Aside0 (X.Lies w w6 [.disk pc 4 s0, .disk pa 4 sa, .disk pb 4 sb]) := HS6
      have HEA := Aside0.mk (sim_end (m := min N l.length) HSM.out HEQ.out.2 rfl)
      clear HS6 HEQ HSM
      go_loopg [16, 17] l.length (fun gk v16 v17 w' => ∃ i : Nat, v16 = .int .i64 (i : Int) ∧ Aside0 (gk + i = l.length) ∧ Aside0 (i ≤ N) ∧ ∃ sc, Aside0 (sc = fr l i s0) ∧ Aside0 (X.Lies w w' [.disk pc 4 sc, .disk pa 4 sa, .disk pb 4 sb]))
      case atStart => exact ⟨0, rfl, ⟨by omega⟩, ⟨Nat.zero_le _⟩, _, ⟨rfl⟩, HS7⟩
      case round =>
        clear HS7
        obtain ⟨i, rfl, HK, HIN, sc, HEQ, HS⟩ := hrel
        by_cases hlt : i < l.length ∧ i < N
        · obtain ⟨hlt, hltN⟩ := hlt
          have q0 : decide ((i : Int) < (l.length : Int)) = true := decide_eq_true (by omega)
          have q00 : decide (i < l.length) = true := decide_eq_true hlt
          have q1 : decide ((i : Int) < (N : Int)) = true := decide_eq_true (by omega)
          have q11 : decide (i < N) = true := decide_eq_true hltN
          have HLN := Aside0.mk hltN
          clear hltN
          have HPN : Aside0 (sc.pend.length ≤ i) := ⟨by rw [HEQ.out]; have := fr_pend l s0 i; have := HZP.out.1; omega⟩
          obtain ⟨g, o, A4, c4, rfl, hrg, hc4, hC4⟩ := deed_at (HL.out w (Below.refl _ _)) i hlt
          obtain ⟨x0, hx0⟩ : ∃ x, x = (rd_T24 l (i : Int)).f0 := ⟨_, rfl⟩
          obtain ⟨x1, hx1⟩ : ∃ x, x = (rd_T24 l (i : Int)).f1 := ⟨_, rfl⟩
          obtain ⟨x2, hx2⟩ : ∃ x, x = (rd_T24 l (i : Int)).f2 := ⟨_, rfl⟩
          obtain ⟨x3, hx3⟩ : ∃ x, x = (rd_T24 l (i : Int)).f3 := ⟨_, rfl⟩
          obtain ⟨x4, hx4⟩ : ∃ x, x = (rd_T24 l (i : Int)).f4 := ⟨_, rfl⟩
          rw [← hx0, ← hx1, ← hx2, ← hx3, ← hx4] at hrg
          rw [← hx4] at hc4 hC4
          have HRG := Aside0.mk (range_below hrg HS.out.below)
          have HC4 := Aside0.mk hC4
          have HCC := Aside0.mk hc4
          obtain ⟨y, hy0, hy4, hye⟩ := and3 x1
          obtain ⟨q, hq0, hq2, hqe⟩ := and1 x0
          have HY4 := Aside0.mk hy4
          have HFS : Aside0 (∀ s, fstep l i s = if q = 0 then s.write y (dataL x2 (dataN false)) else s.flush) := ⟨fun s => by
            unfold fstep
            rw [← hx0, ← hx1, ← hx2, show (x1 % 4).toNat = y from by omega]
            by_cases hq : q = 0
            · rw [if_pos hq, if_pos (by omega)]
              rfl
            · rw [if_neg hq, if_neg (by omega)]⟩
          clear hrg hc4 hC4 hy4 hx0 hx1 hx2 hx3 hx4 hy0 hq0
          rcases (show q = 0 ∨ q = 1 by omega) with rfl | rfl
          · have HF0 : Aside0 (∀ s, fstep l i s = s.write y (dataL x2 (dataN false))) := ⟨fun s => by rw [HFS.out]; rfl⟩
            clear HFS
            go_wp2_with ((with_reducible refine gate_ (.load 24 (.tmp 104)) rfl ?_); (refine wpList_load_mid rfl 24 (.tmp 104) rfl g (o + i * 5) rfl _ _ HRG.out Try.underlying24 rfl info_deed ?_))
            have HS4 := Aside0.mk (HS.out.alloc #[.int .i64 x0, .int .i64 x1, .int .u8 x2, .bool false, .slice A4 x4.length c4] 24)
            obtain ⟨gb, hgb⟩ : ∃ gb, gb = wr.heap.size := ⟨_, rfl⟩
            rw [← hgb] at HS4 ⊢
            generalize wr.alloc _ = w4 at *
            clear HS HRG hgb
            have HC4a : Aside0 ((Kd.int .u8).C w4.drew A4 x4.length x4) := ⟨Kd.C_below HC4.out HS4.out.drew.below⟩
            refine start_ (n := 7) (S := (fun w' => X.Blk w' gb #[.int .i64 x0, .int .i64 x1, .int .u8 x2, .bool false, .slice A4 x4.length c4] 24)) (ds := []) #[false, false, false, false, false, false, false] (by kernel_rfl) rfl rfl (HS4.out.drew.boxed 0 rfl) (fun hHeld => ?_)
            have HSa := Aside0.mk (HS4.out.drew)
            generalize World.drew _ = wa at *
            clear HS4
            refine pure_ (i := 0) (N := some 111) (v := ?_) (a' := ?_) #[true, false, false, false, false, false, false] rfl rfl (by kernel_rfl) (fun _ _ _ h => h) (Or.inl ⟨by rfl, ?_⟩) ?_ ?_
            rotate_left
            · intro w' 
              go_simp
              with_reducible rfl
            rotate_left
            · simp only [Act.put, List.setIfInBounds_toArray, List.set_cons_zero, List.set_cons_succ, i64_w, i32_w]
              rfl
            refine pure_ (i := 1) (N := some 112) (v := ?_) (a' := ?_) #[true, true, false, false, false, false, false] rfl rfl (by kernel_rfl) (fun _ _ _ h => h) (Or.inl ⟨by rfl, ?_⟩) ?_ ?_
            rotate_left
            · intro w' 
              go_simp
              with_reducible rfl
            rotate_left
            · simp only [Act.put, List.setIfInBounds_toArray, List.set_cons_zero, List.set_cons_succ, i64_w, i32_w]
              rfl
            refine take_ (i := 2) (N := some 113) (v := .int .i64 x1) (a' := ?_) #[true, true, true, false, false, false, false] rfl rfl (by kernel_rfl) (fun _ _ _ h => h) (Or.inl ⟨by rfl, ?_⟩) hHeld ?_ ?_
            · intro w' hs_
              exact (by have x1_ := hs_.cell 1 _ rfl; go_simp; done)
            rotate_left
            · simp only [Act.put, List.setIfInBounds_toArray, List.set_cons_zero, List.set_cons_succ, i64_w, i32_w]
              rfl
            refine pure_ (i := 3) (N := some 114) (v := ?_) (a' := ?_) #[true, true, true, true, false, false, false] rfl rfl (by kernel_rfl) (fun _ _ _ h => h) (Or.inl ⟨by rfl, ?_⟩) ?_ ?_
            rotate_left
            · intro w' 
              go_simp
              with_reducible rfl
            rotate_left
            · simp only [Act.put, List.setIfInBounds_toArray, List.set_cons_zero, List.set_cons_succ, i64_w, i32_w]
              rfl
            refine take_ (i := 4) (N := some 115) (v := .agg #[.int .i64 x0, .int .i64 x1, .int .u8 x2, .bool false, .slice A4 x4.length c4]) (a' := ?_) #[true, true, true, true, true, false, false] rfl rfl (by kernel_rfl) (fun _ _ _ h => h) (Or.inl ⟨by rfl, ?_⟩) hHeld ?_ ?_
            · intro w' hs_
              exact X.load_exec 24 (.tmp 17) (by rfl) gb 0 (by rfl) [.int .i64 x0, .int .i64 x1, .int .u8 x2, .bool false, .slice A4 x4.length c4] _ (blk_range hs_) Try.underlying24 rfl info_deed
            rotate_left
            · simp only [Act.put, List.setIfInBounds_toArray, List.set_cons_zero, List.set_cons_succ, i64_w, i32_w]
              rfl
            refine one_ (i := 5) (N := some 116) #[true, true, true, true, true, true, false] rfl rfl (by kernel_rfl) (by decide) (fun K hK => ?_)
            refine goes_ Try.func13 (by kernel_rfl) rfl #[.agg #[.int .i64 x0, .int .i64 x1, .int .u8 x2, .bool false, .slice A4 x4.length c4]] (by rfl) rfl rfl (by (try simp only [List.map_toArray, List.map_cons, List.map_nil]); first | done | rfl) ?_
            refine (data_part w _ x0 x1 x2 false A4 c4 x4 wa HSa.out HC4a.out HCC.out).mono ?_
            rintro e wb ⟨gd, cd, rfl, hcd, hs⟩
            have HSb := Aside0.mk hs
            have HCD := Aside0.mk hcd
            refine ⟨_, rfl, ?_⟩
            clear hs hcd HSa hHeld
            refine hK.out _ _ (HSb.out.boxed 1 rfl) (fun hHeld => ?_)
            clear hK K
            refine norm_ (a' := ?_) ?_ ?_
            rotate_left
            · show Act.put _ (some 116) _ = _
              simp only [Act.put, List.setIfInBounds_toArray, List.set_cons_zero, List.set_cons_succ, i64_w, i32_w]
              rfl
            refine one_ (i := 6) (N := some 117) #[true, true, true, true, true, true, true] rfl rfl (by kernel_rfl) (by decide) (fun K hK => ?_)
            refine goes_ Try.func14 (by kernel_rfl) rfl #[.pointer (some ⟨pc, 0, none⟩), .int .i64 (y : Int), .slice (some ⟨gd, 0, none⟩) (dataN false) cd] (by rfl) rfl rfl (by (try simp only [List.map_toArray, List.map_cons, List.map_nil]); first | done | rfl) ?_
            refine (write_data w wb _ pc 4 sc (y : Int) gd cd x2 false (HSb.out.sel [2, 0, 1, 3, 4] (by decide)) HCD.out (by have := HPN.out; have := HLL.out; omega)).mono ?_
            rintro e wc ⟨rfl, hs⟩
            rw [put_ok HY4.out (by rw [dataL_len]; rfl)] at hs
            have HSc := Aside0.mk (hs.sel [2, 0, 3, 4] (by decide))
            refine ⟨_, rfl, ?_⟩
            clear hs HSb HCD hHeld
            refine hK.out _ _ (HSc.out.boxed 0 rfl) (fun hHeld => ?_)
            clear hK K
            refine norm_ (a' := ?_) ?_ ?_
            rotate_left
            · show Act.put _ (some 117) _ = _
              simp only [Act.put, List.setIfInBounds_toArray, List.set_cons_zero, List.set_cons_succ, i64_w, i32_w]
              rfl
            refine done_ (by kernel_rfl) ?_
            go_wp2_with fail
            have HF : Aside0 (X.Lies w wc [.disk pc 4 (sc.write y (dataL x2 (dataN false))), .disk pa 4 sa, .disk pb 4 sb]) := ⟨HSc.out.sel [1, 2, 3] (by decide)⟩
            clear HSc hHeld
            cases gk with
            | zero => exact absurd HK.out (by omega)
            | succ k1 =>
              go_roundg k1
              case measure => omega
              case rel => exact ⟨i + 1, by have := HLL.out; rw [show wrap64 ((i : Int) + 1) = ((i + 1 : Nat) : Int) from by unfold wrap64; omega], ⟨by have := HK.out; omega⟩, ⟨by have := HLN.out; omega⟩, _, ⟨by show _ = fstep l i (fr l i s0); rw [← HEQ.out, HF0.out]⟩, HF⟩
          · have HF0 : Aside0 (∀ s, fstep l i s = s.flush) := ⟨fun s => by rw [HFS.out, if_neg (by decide)]⟩
            clear HFS
            go_wp2_with ((with_reducible refine gate_ (.load 24 (.tmp 104)) rfl ?_); (refine wpList_load_mid rfl 24 (.tmp 104) rfl g (o + i * 5) rfl _ _ HRG.out Try.underlying24 rfl info_deed ?_))
            have HS4 := Aside0.mk (HS.out.alloc #[.int .i64 x0, .int .i64 x1, .int .u8 x2, .bool false, .slice A4 x4.length c4] 24)
            obtain ⟨gb, hgb⟩ : ∃ gb, gb = wr.heap.size := ⟨_, rfl⟩
            rw [← hgb] at HS4 ⊢
            generalize wr.alloc _ = w4 at *
            clear HS HRG hgb
            refine (disk_Flush.part w w4 _ pc 4 sc (HS4.out.sel [1, 2, 3] (by decide))).mono ?_
            rintro e w5 ⟨rfl, hs⟩
            have HF : Aside0 (X.Lies w w5 [.disk pc 4 sc.flush, .disk pa 4 sa, .disk pb 4 sb]) := ⟨hs⟩
            clear hs HS4
            go_wp2_with fail
            cases gk with
            | zero => exact absurd HK.out (by omega)
            | succ k1 =>
              go_roundg k1
              case measure => omega
              case rel => exact ⟨i + 1, by have := HLL.out; rw [show wrap64 ((i : Int) + 1) = ((i + 1 : Nat) : Int) from by unfold wrap64; omega], ⟨by have := HK.out; omega⟩, ⟨by have := HLN.out; omega⟩, _, ⟨by show _ = fstep l i (fr l i s0); rw [← HEQ.out, HF0.out]⟩, HF⟩
        · have hqm : i = min N l.length := by have := HK.out; have := HIN.out; omega
          have qq : (decide ((i : Int) < (l.length : Int)) = false) ∨ (decide ((i : Int) < (l.length : Int)) = true ∧ decide ((i : Int) < (N : Int)) = false) := by
            by_cases h1 : i < l.length
            · exact .inr ⟨decide_eq_true (by omega), decide_eq_false (by omega)⟩
            · exact .inl (decide_eq_false (by omega))
          have HPE : Aside0 (sa.pend.length = sc.pend.length) := ⟨by rw [HEQ.out, hqm, HEA.out.1]⟩
          have HBE : Aside0 (sa.bytes = sc.bytes) := ⟨by rw [HEQ.out, hqm, HEA.out.2]⟩
          have HPP : Aside0 (sa.pend = sc.pend) := ⟨by rw [HEQ.out, hqm, HEA.out.1]⟩
          have HPN : Aside0 (sc.pend.length ≤ 40) := ⟨by rw [HEQ.out]; have := fr_pend l s0 i; have := HZP.out.1; have := HLL.out; omega⟩
          clear HEA HEQ hqm HK
          rcases qq with qq | ⟨qq, qr⟩
          · have q0 : decide (i < l.length) = false := decide_eq_false (fun h => by have := of_decide_eq_false qq; omega)
            go_wp2_with fail
            obtain ⟨w9, hw9⟩ : ∃ w9, w9 = wr := ⟨_, rfl⟩
            rw [← hw9] at HS ⊢
            have HS9 := HS
            clear HS hw9
            refine start_ (n := 14) (S := (fun _ => True)) (ds := []) #[false, false, false, false, false, false, false, false, false, false, false, false, false, false] (by kernel_rfl) rfl rfl trivial (fun hHeld => ?_)
            have HSi := Aside0.mk (HS9.out.drew)
            generalize World.drew _ = wi at *
            clear HS9
            refine pure_ (i := 0) (N := some 120) (v := ?_) (a' := ?_) #[true, false, false, false, false, false, false, false, false, false, false, false, false, false] rfl rfl (by kernel_rfl) (fun _ _ _ h => h) (Or.inl ⟨by rfl, ?_⟩) ?_ ?_
            rotate_left
            · intro w' 
              go_simp
              with_reducible rfl
            rotate_left
            · simp only [Act.put, List.setIfInBounds_toArray, List.set_cons_zero, List.set_cons_succ, i64_w, i32_w]
              rfl
            refine pure_ (i := 2) (N := some 122) (v := ?_) (a' := ?_) #[true, false, true, false, false, false, false, false, false, false, false, false, false, false] rfl rfl (by kernel_rfl) (fun _ _ _ h => h) (Or.inl ⟨by rfl, ?_⟩) ?_ ?_
            rotate_left
            · intro w' 
              go_simp
              with_reducible rfl
            rotate_left
            · simp only [Act.put, List.setIfInBounds_toArray, List.set_cons_zero, List.set_cons_succ, i64_w, i32_w]
              rfl
            refine one_ (i := 1) (N := some 121) #[true, true, true, false, false, false, false, false, false, false, false, false, false, false] rfl rfl (by kernel_rfl) (by decide) (fun K hK => ?_)
            refine goes_ Try.func20 (by kernel_rfl) rfl #[.pointer (some ⟨pa, 0, none⟩)] (by rfl) rfl rfl (by (try simp only [List.map_toArray, List.map_cons, List.map_nil]); first | done | rfl) ?_
            refine (disk_Pending.part w wi _ pa 4 sa (HSi.out.sel [1, 0, 2] (by decide))).mono ?_
            rintro e w' ⟨rfl, rfl⟩
            refine ⟨_, rfl, ?_⟩
            refine hK.out _ _ trivial (fun hHeld => ?_)
            clear hK K
            refine norm_ (a' := ?_) ?_ ?_
            rotate_left
            · show Act.put _ (some 121) _ = _
              simp only [Act.put, List.setIfInBounds_toArray, List.set_cons_zero, List.set_cons_succ, i64_w, i32_w]
              rfl
            refine one_ (i := 3) (N := some 123) #[true, true, true, true, false, false, false, false, false, false, false, false, false, false] rfl rfl (by kernel_rfl) (by decide) (fun K hK => ?_)
            refine goes_ Try.func20 (by kernel_rfl) rfl #[.pointer (some ⟨pc, 0, none⟩)] (by rfl) rfl rfl (by (try simp only [List.map_toArray, List.map_cons, List.map_nil]); first | done | rfl) ?_
            refine (disk_Pending.part w wi _ pc 4 sc HSi.out).mono ?_
            rintro e w' ⟨rfl, rfl⟩
            rw [← HPE.out]
            refine ⟨_, rfl, ?_⟩
            refine hK.out _ _ trivial (fun hHeld => ?_)
            clear hK K
            refine norm_ (a' := ?_) ?_ ?_
            rotate_left
            · show Act.put _ (some 123) _ = _
              simp only [Act.put, List.setIfInBounds_toArray, List.set_cons_zero, List.set_cons_succ, i64_w, i32_w]
              rfl
            refine pure_ (i := 4) (N := some 124) (v := .bool false) (a' := ?_) #[true, true, true, true, true, false, false, false, false, false, false, false, false, false] rfl rfl (by kernel_rfl) (fun _ _ _ h => h) (Or.inl ⟨by rfl, ?_⟩) ?_ ?_
            · intro w' 
              exact (by go_simp; done)
            rotate_left
            · simp only [Act.put, List.setIfInBounds_toArray, List.set_cons_zero, List.set_cons_succ, i64_w, i32_w]
              rfl
            refine pure_ (i := 5) (N := some 125) (v := .bool false) (a' := ?_) #[true, true, true, true, true, true, false, false, false, false, false, false, false, false] rfl rfl (by kernel_rfl) (fun _ _ _ h => h) (Or.inl ⟨by rfl, ?_⟩) ?_ ?_
            · intro w' 
              exact (by go_simp; done)
            rotate_left
            · simp only [Act.put, List.setIfInBounds_toArray, List.set_cons_zero, List.set_cons_succ, i64_w, i32_w]
              rfl
            refine pure_ (i := 6) (N := some 126) (v := ?_) (a' := ?_) #[true, true, true, true, true, true, true, false, false, false, false, false, false, false] rfl rfl (by kernel_rfl) (fun _ _ _ h => h) (Or.inl ⟨by rfl, ?_⟩) ?_ ?_
            rotate_left
            · intro w' 
              go_simp
              with_reducible rfl
            rotate_left
            · simp only [Act.put, List.setIfInBounds_toArray, List.set_cons_zero, List.set_cons_succ, i64_w, i32_w]
              rfl
            refine pure_ (i := 9) (N := some 129) (v := ?_) (a' := ?_) #[true, true, true, true, true, true, true, false, false, true, false, false, false, false] rfl rfl (by kernel_rfl) (fun _ _ _ h => h) (Or.inl ⟨by rfl, ?_⟩) ?_ ?_
            rotate_left
            · intro w' 
              go_simp
              with_reducible rfl
            rotate_left
            · simp only [Act.put, List.setIfInBounds_toArray, List.set_cons_zero, List.set_cons_succ, i64_w, i32_w]
              rfl
            refine one_ (i := 7) (N := some 127) #[true, true, true, true, true, true, true, true, false, true, false, false, false, false] rfl rfl (by kernel_rfl) (by decide) (fun K hK => ?_)
            refine goes_ Try.func16 (by kernel_rfl) rfl #[.pointer (some ⟨pa, 0, none⟩)] (by rfl) rfl rfl (by (try simp only [List.map_toArray, List.map_cons, List.map_nil]); first | done | rfl) ?_
            refine (disk_Stable.part w wi _ pa 4 sa (HSi.out.sel [1, 0, 2] (by decide))).mono ?_
            rintro e wj ⟨v, rfl, hs⟩
            obtain ⟨A7, c7, rfl, -, -⟩ := row_str hs 0 rfl
            have HSj := Aside0.mk hs
            refine ⟨_, rfl, ?_⟩
            clear hs HSi
            refine hK.out _ _ trivial (fun hHeld => ?_)
            clear hK K
            refine norm_ (a' := ?_) ?_ ?_
            rotate_left
            · show Act.put _ (some 127) _ = _
              simp only [Act.put, List.setIfInBounds_toArray, List.set_cons_zero, List.set_cons_succ, i64_w, i32_w]
              rfl
            refine X.more_ (fun w' => (convert 22 9 (.slice A7 sa.bytes.length c7)).run Try.prog w' = .ok (.string (strOfNums sa.bytes)) w') (row_conv HSj.out 0 rfl) (fun _ _ => trivial) (fun hHeld => ?_)
            refine take_ (i := 8) (N := some 128) (v := .string (strOfNums sa.bytes)) (a' := ?_) #[true, true, true, true, true, true, true, true, true, true, false, false, false, false] rfl rfl (by kernel_rfl) (fun _ _ _ h => h) (Or.inl ⟨by rfl, ?_⟩) hHeld ?_ ?_
            · intro w' hs_
              exact conv_exec _ (by rfl) _ _ (by rfl) hs_
            rotate_left
            · simp only [Act.put, List.setIfInBounds_toArray, List.set_cons_zero, List.set_cons_succ, i64_w, i32_w]
              rfl
            refine one_ (i := 10) (N := some 130) #[true, true, true, true, true, true, true, true, true, true, true, false, false, false] rfl rfl (by kernel_rfl) (by decide) (fun K hK => ?_)
            refine goes_ Try.func16 (by kernel_rfl) rfl #[.pointer (some ⟨pc, 0, none⟩)] (by rfl) rfl rfl (by (try simp only [List.map_toArray, List.map_cons, List.map_nil]); first | done | rfl) ?_
            refine (disk_Stable.part w wj _ pc 4 sc (HSj.out.sel [2, 0, 1, 3] (by decide))).mono ?_
            rintro e wk ⟨v, rfl, hs⟩
            rw [← HBE.out] at hs
            obtain ⟨A8, c8, rfl, -, -⟩ := row_str hs 0 rfl
            have hk := row_conv hs 0 rfl
            have hk7 := row_conv hs 2 rfl
            have HSk := Aside0.mk (hs.sel [3, 1] (by decide))
            refine ⟨_, rfl, ?_⟩
            clear hs HSj hHeld
            refine hK.out _ _ hk7 (fun hHeld => ?_)
            clear hK K
            refine norm_ (a' := ?_) ?_ ?_
            rotate_left
            · show Act.put _ (some 130) _ = _
              simp only [Act.put, List.setIfInBounds_toArray, List.set_cons_zero, List.set_cons_succ, i64_w, i32_w]
              rfl
            refine one_ (i := 11) (N := some 131) #[true, true, true, true, true, true, true, true, true, true, true, true, false, false] rfl rfl (by kernel_rfl) (by decide) (fun K hK => ?_)
            refine X.val_ (by rfl) rfl (conv_exec _ (by rfl) _ _ (by rfl) hk) ?_
            refine hK.out _ _ hk7 (fun hHeld => ?_)
            clear hK K
            refine norm_ (a' := ?_) ?_ ?_
            rotate_left
            · show Act.put _ (some 131) _ = _
              simp only [Act.put, List.setIfInBounds_toArray, List.set_cons_zero, List.set_cons_succ, i64_w, i32_w]
              rfl
            refine pure_ (i := 12) (N := some 132) (v := .bool false) (a' := ?_) #[true, true, true, true, true, true, true, true, true, true, true, true, true, false] rfl rfl (by kernel_rfl) (fun _ _ _ h => h) (Or.inl ⟨by rfl, ?_⟩) ?_ ?_
            · intro w' 
              exact (by go_simp; done)
            rotate_left
            · simp only [Act.put, List.setIfInBounds_toArray, List.set_cons_zero, List.set_cons_succ, i64_w, i32_w]
              rfl
            refine pure_ (i := 13) (N := some 133) (v := ?_) (a' := ?_) #[true, true, true, true, true, true, true, true, true, true, true, true, true, true] rfl rfl (by kernel_rfl) (fun _ _ _ h => h) (Or.inl ⟨by rfl, ?_⟩) ?_ ?_
            rotate_left
            · intro w' 
              go_simp
              with_reducible rfl
            rotate_left
            · simp only [Act.put, List.setIfInBounds_toArray, List.set_cons_zero, List.set_cons_succ, i64_w, i32_w]
              rfl
            refine done_ (by kernel_rfl) ?_
            go_wp2_with fail
            refine (disk_Crash.part w wk _ pa 4 sa A2 c2 l2 HSk.out (X.Rd.arg HR2.out) HC2.out (by rw [HPE.out]; have := HPN.out; omega)).mono ?_
            rintro e w6 ⟨rfl, hs⟩
            have HS6 := Aside0.mk hs
            clear hs HSk hHeld
            go_wp2_with fail
            refine (disk_Crash.part w w6 _ pc 4 sc A2 c2 l2 (HS6.out.sel [1, 0] (by decide)) (X.Rd.arg HR2.out) HC2.out (by have := HPN.out; omega)).mono ?_
            rintro e w8 ⟨rfl, hs⟩
            obtain ⟨ta, hta⟩ : ∃ ta, ta = sa.crash l2 := ⟨_, rfl⟩
            obtain ⟨tc, htc⟩ : ∃ tc, tc = sc.crash l2 := ⟨_, rfl⟩
            rw [← hta, ← htc] at hs
            have HS8 : Aside0 (X.Lies w w8 [.disk pa 4 ta, .disk pc 4 tc]) := ⟨hs.sel [1, 0] (by decide)⟩
            have HIM : Aside0 (imageTo ta 4 = imageTo tc 4) := ⟨by rw [hta, htc]; unfold X.DS.crash; rw [HPP.out, HBE.out]⟩
            have HTP : Aside0 (ta.pend = []) := ⟨by rw [hta]; rfl⟩
            have HTW : Aside0 ((ta.write 0 (dataL 0 (dataN false))).pend.length = 1) := ⟨by rw [hta]; rfl⟩
            clear hs hta htc HS6
            go_wp2_with fail
            refine start_ (n := 20) (S := (fun _ => True)) (ds := []) #[false, false, false, false, false, false, false, false, false, false, false, false, false, false, false, false, false, false, false, false] (by kernel_rfl) rfl rfl trivial (fun hHeld => ?_)
            have HSi := Aside0.mk (HS8.out.drew)
            generalize World.drew _ = wi at *
            clear HS8
            refine pure_ (i := 0) (N := some 140) (v := ?_) (a' := ?_) #[true, false, false, false, false, false, false, false, false, false, false, false, false, false, false, false, false, false, false, false] rfl rfl (by kernel_rfl) (fun _ _ _ h => h) (Or.inl ⟨by rfl, ?_⟩) ?_ ?_
            rotate_left
            · intro w' 
              go_simp
              with_reducible rfl
            rotate_left
            · simp only [Act.put, List.setIfInBounds_toArray, List.set_cons_zero, List.set_cons_succ, i64_w, i32_w]
              rfl
            refine pure_ (i := 3) (N := some 143) (v := ?_) (a' := ?_) #[true, false, false, true, false, false, false, false, false, false, false, false, false, false, false, false, false, false, false, false] rfl rfl (by kernel_rfl) (fun _ _ _ h => h) (Or.inl ⟨by rfl, ?_⟩) ?_ ?_
            rotate_left
            · intro w' 
              go_simp
              with_reducible rfl
            rotate_left
            · simp only [Act.put, List.setIfInBounds_toArray, List.set_cons_zero, List.set_cons_succ, i64_w, i32_w]
              rfl
            refine one_ (i := 1) (N := some 141) #[true, true, false, true, false, false, false, false, false, false, false, false, false, false, false, false, false, false, false, false] rfl rfl (by kernel_rfl) (by decide) (fun K hK => ?_)
            refine goes_ Try.func19 (by kernel_rfl) rfl #[.pointer (some ⟨pa, 0, none⟩)] (by rfl) rfl rfl (by (try simp only [List.map_toArray, List.map_cons, List.map_nil]); first | done | rfl) ?_
            refine (disk_Image.part w wi _ pa 4 ta HSi.out).mono ?_
            rintro e wj ⟨v, rfl, hs⟩
            obtain ⟨A7, c7, rfl, -, -⟩ := row_str hs 0 rfl
            have HSj := Aside0.mk hs
            refine ⟨_, rfl, ?_⟩
            clear hs HSi
            refine hK.out _ _ trivial (fun hHeld => ?_)
            clear hK K
            refine norm_ (a' := ?_) ?_ ?_
            rotate_left
            · show Act.put _ (some 141) _ = _
              simp only [Act.put, List.setIfInBounds_toArray, List.set_cons_zero, List.set_cons_succ, i64_w, i32_w]
              rfl
            refine X.more_ (fun w' => (convert 22 9 (.slice A7 (imageTo ta 4).length c7)).run Try.prog w' = .ok (.string (strOfNums (imageTo ta 4))) w') (row_conv HSj.out 0 rfl) (fun _ _ => trivial) (fun hHeld => ?_)
            refine take_ (i := 2) (N := some 142) (v := .string (strOfNums (imageTo ta 4))) (a' := ?_) #[true, true, true, true, false, false, false, false, false, false, false, false, false, false, false, false, false, false, false, false] rfl rfl (by kernel_rfl) (fun _ _ _ h => h) (Or.inl ⟨by rfl, ?_⟩) hHeld ?_ ?_
            · intro w' hs_
              exact conv_exec _ (by rfl) _ _ (by rfl) hs_
            rotate_left
            · simp only [Act.put, List.setIfInBounds_toArray, List.set_cons_zero, List.set_cons_succ, i64_w, i32_w]
              rfl
            refine one_ (i := 4) (N := some 144) #[true, true, true, true, true, false, false, false, false, false, false, false, false, false, false, false, false, false, false, false] rfl rfl (by kernel_rfl) (by decide) (fun K hK => ?_)
            refine goes_ Try.func19 (by kernel_rfl) rfl #[.pointer (some ⟨pc, 0, none⟩)] (by rfl) rfl rfl (by (try simp only [List.map_toArray, List.map_cons, List.map_nil]); first | done | rfl) ?_
            refine (disk_Image.part w wj _ pc 4 tc (HSj.out.sel [2, 1, 0] (by decide))).mono ?_
            rintro e wk ⟨v, rfl, hs⟩
            rw [← HIM.out] at hs
            obtain ⟨A8, c8, rfl, -, -⟩ := row_str hs 0 rfl
            have hk := row_conv hs 0 rfl
            have HSk := Aside0.mk (hs.sel [2, 3] (by decide))
            have hk7 := row_conv hs 3 rfl
            refine ⟨_, rfl, ?_⟩
            clear hs HSj hHeld
            refine hK.out _ _ hk7 (fun hHeld => ?_)
            clear hK K
            refine norm_ (a' := ?_) ?_ ?_
            rotate_left
            · show Act.put _ (some 144) _ = _
              simp only [Act.put, List.setIfInBounds_toArray, List.set_cons_zero, List.set_cons_succ, i64_w, i32_w]
              rfl
            refine one_ (i := 5) (N := some 145) #[true, true, true, true, true, true, false, false, false, false, false, false, false, false, false, false, false, false, false, false] rfl rfl (by kernel_rfl) (by decide) (fun K hK => ?_)
            refine X.val_ (by rfl) rfl (conv_exec _ (by rfl) _ _ (by rfl) hk) ?_
            refine hK.out _ _ hk7 (fun hHeld => ?_)
            clear hK K
            refine norm_ (a' := ?_) ?_ ?_
            rotate_left
            · show Act.put _ (some 145) _ = _
              simp only [Act.put, List.setIfInBounds_toArray, List.set_cons_zero, List.set_cons_succ, i64_w, i32_w]
              rfl
            refine pure_ (i := 6) (N := some 146) (v := .bool true) (a' := ?_) #[true, true, true, true, true, true, true, false, false, false, false, false, false, false, false, false, false, false, false, false] rfl rfl (by kernel_rfl) (fun _ _ _ h => h) (Or.inl ⟨by rfl, ?_⟩) ?_ ?_
            · intro w' 
              exact (by go_simp; done)
            rotate_left
            · simp only [Act.put, List.setIfInBounds_toArray, List.set_cons_zero, List.set_cons_succ, i64_w, i32_w]
              rfl
            refine pure_ (i := 7) (N := some 147) (v := .bool true) (a' := ?_) #[true, true, true, true, true, true, true, true, false, false, false, false, false, false, false, false, false, false, false, false] rfl rfl (by kernel_rfl) (fun _ _ _ h => h) (Or.inl ⟨by rfl, ?_⟩) ?_ ?_
            · intro w' 
              exact (by go_simp; done)
            rotate_left
            · simp only [Act.put, List.setIfInBounds_toArray, List.set_cons_zero, List.set_cons_succ, i64_w, i32_w]
              rfl
            refine pure_ (i := 8) (N := some 148) (v := ?_) (a' := ?_) #[true, true, true, true, true, true, true, true, true, false, false, false, false, false, false, false, false, false, false, false] rfl rfl (by kernel_rfl) (fun _ _ _ h => h) (Or.inl ⟨by rfl, ?_⟩) ?_ ?_
            rotate_left
            · intro w' 
              go_simp
              with_reducible rfl
            rotate_left
            · simp only [Act.put, List.setIfInBounds_toArray, List.set_cons_zero, List.set_cons_succ, i64_w, i32_w]
              rfl
            refine pure_ (i := 9) (N := some 149) (v := .agg #[.int .i64 0, .int .i64 0, .int .u8 0, .bool false, .slice none 0 0]) (a' := ?_) #[true, true, true, true, true, true, true, true, true, true, false, false, false, false, false, false, false, false, false, false] rfl rfl (by kernel_rfl) (fun _ _ _ h => h) (Or.inl ⟨by rfl, ?_⟩) ?_ ?_
            · intro w' 
              go_simp
            rotate_left
            · simp only [Act.put, List.setIfInBounds_toArray, List.set_cons_zero, List.set_cons_succ, i64_w, i32_w]
              rfl
            have HNIL : (Kd.int .u8).C wk none ([] : List Int).length [] := Kd.C_nil _ _
            refine one_ (i := 10) (N := some 150) #[true, true, true, true, true, true, true, true, true, true, true, false, false, false, false, false, false, false, false, false] rfl rfl (by kernel_rfl) (by decide) (fun K hK => ?_)
            refine goes_ Try.func13 (by kernel_rfl) rfl #[.agg #[.int .i64 0, .int .i64 0, .int .u8 0, .bool false, .slice none ([] : List Int).length 0]] (by rfl) rfl rfl (by (try simp only [List.map_toArray, List.map_cons, List.map_nil]); first | done | rfl) ?_
            refine (data_part w _ 0 0 0 false none 0 [] wk HSk.out HNIL (Nat.le_refl 0)).mono ?_
            rintro e wl ⟨gd, cd, rfl, hcd, hs⟩
            have HSl := Aside0.mk (hs.sel [1, 0, 2] (by decide))
            have HCD := Aside0.mk hcd
            refine ⟨_, rfl, ?_⟩
            clear hcd HSk HNIL hHeld
            refine hK.out _ _ (row_conv hs 2 rfl) (fun hHeld => ?_)
            clear hK K
            refine norm_ (a' := ?_) ?_ ?_
            rotate_left
            · show Act.put _ (some 150) _ = _
              simp only [Act.put, List.setIfInBounds_toArray, List.set_cons_zero, List.set_cons_succ, i64_w, i32_w]
              rfl
            clear hs
            refine one_ (i := 11) (N := some 151) #[true, true, true, true, true, true, true, true, true, true, true, true, false, false, false, false, false, false, false, false] rfl rfl (by kernel_rfl) (by decide) (fun K hK => ?_)
            refine goes_ Try.func14 (by kernel_rfl) rfl #[.pointer (some ⟨pa, 0, none⟩), .int .i64 0, .slice (some ⟨gd, 0, none⟩) (dataN false) cd] (by rfl) rfl rfl (by (try simp only [List.map_toArray, List.map_cons, List.map_nil]); first | done | rfl) ?_
            refine (write_data w wl _ pa 4 ta ((0 : Nat) : Int) gd cd 0 false HSl.out HCD.out (by rw [HTP.out]; decide)).mono ?_
            rintro e wm ⟨rfl, hs⟩
            rw [putE_ok (i := 0) (m := dataN false) (by decide) rfl]
            rw [put_ok (i := 0) (by decide) (by rw [dataL_len]; rfl)] at hs
            have HSm := Aside0.mk (hs.sel [0] (by decide))
            refine ⟨_, rfl, ?_⟩
            clear HSl HCD hHeld
            refine hK.out _ _ (row_conv hs 2 rfl) (fun hHeld => ?_)
            clear hK K
            refine norm_ (a' := ?_) ?_ ?_
            rotate_left
            · show Act.put _ (some 151) _ = _
              simp only [Act.put, List.setIfInBounds_toArray, List.set_cons_zero, List.set_cons_succ, i64_w, i32_w]
              rfl
            clear hs
            refine pure_ (i := 12) (N := some 152) (v := .bool true) (a' := ?_) #[true, true, true, true, true, true, true, true, true, true, true, true, true, false, false, false, false, false, false, false] rfl rfl (by kernel_rfl) (fun _ _ _ h => h) (Or.inl ⟨by rfl, ?_⟩) ?_ ?_
            · intro w' 
              exact (by go_simp; done)
            rotate_left
            · simp only [Act.put, List.setIfInBounds_toArray, List.set_cons_zero, List.set_cons_succ, i64_w, i32_w]
              rfl
            refine pure_ (i := 13) (N := some 153) (v := ?_) (a' := ?_) #[true, true, true, true, true, true, true, true, true, true, true, true, true, true, false, false, false, false, false, false] rfl rfl (by kernel_rfl) (fun _ _ _ h => h) (Or.inl ⟨by rfl, ?_⟩) ?_ ?_
            rotate_left
            · intro w' 
              go_simp
              with_reducible rfl
            rotate_left
            · simp only [Act.put, List.setIfInBounds_toArray, List.set_cons_zero, List.set_cons_succ, i64_w, i32_w]
              rfl
            refine pure_ (i := 14) (N := some 154) (v := ?_) (a' := ?_) #[true, true, true, true, true, true, true, true, true, true, true, true, true, true, true, false, false, false, false, false] rfl rfl (by kernel_rfl) (fun _ _ _ h => h) (Or.inl ⟨by rfl, ?_⟩) ?_ ?_
            rotate_left
            · intro w' 
              go_simp
              with_reducible rfl
            rotate_left
            · simp only [Act.put, List.setIfInBounds_toArray, List.set_cons_zero, List.set_cons_succ, i64_w, i32_w]
              rfl
            refine pure_ (i := 15) (N := some 155) (v := ?_) (a' := ?_) #[true, true, true, true, true, true, true, true, true, true, true, true, true, true, true, true, false, false, false, false] rfl rfl (by kernel_rfl) (fun _ _ _ h => h) (Or.inl ⟨by rfl, ?_⟩) ?_ ?_
            rotate_left
            · intro w' 
              go_simp
              with_reducible rfl
            rotate_left
            · simp only [Act.put, List.setIfInBounds_toArray, List.set_cons_zero, List.set_cons_succ, i64_w, i32_w]
              rfl
            refine one_ (i := 16) (N := some 156) #[true, true, true, true, true, true, true, true, true, true, true, true, true, true, true, true, true, false, false, false] rfl rfl (by kernel_rfl) (by decide) (fun K hK => ?_)
            refine goes_ Try.func20 (by kernel_rfl) rfl #[.pointer (some ⟨pa, 0, none⟩)] (by rfl) rfl rfl (by (try simp only [List.map_toArray, List.map_cons, List.map_nil]); first | done | rfl) ?_
            refine (disk_Pending.part w wm _ pa 4 _ HSm.out).mono ?_
            rintro e w' ⟨rfl, rfl⟩
            rw [HTW.out]
            refine ⟨_, rfl, ?_⟩
            refine hK.out _ _ hHeld (fun hHeld => ?_)
            clear hK K
            refine norm_ (a' := ?_) ?_ ?_
            rotate_left
            · show Act.put _ (some 156) _ = _
              simp only [Act.put, List.setIfInBounds_toArray, List.set_cons_zero, List.set_cons_succ, i64_w, i32_w]
              rfl
            refine pure_ (i := 17) (N := some 157) (v := ?_) (a' := ?_) #[true, true, true, true, true, true, true, true, true, true, true, true, true, true, true, true, true, true, false, false] rfl rfl (by kernel_rfl) (fun _ _ _ h => h) (Or.inl ⟨by rfl, ?_⟩) ?_ ?_
            rotate_left
            · intro w' 
              go_simp
              with_reducible rfl
            rotate_left
            · simp only [Act.put, List.setIfInBounds_toArray, List.set_cons_zero, List.set_cons_succ, i64_w, i32_w]
              rfl
            refine pure_ (i := 18) (N := some 158) (v := ?_) (a' := ?_) #[true, true, true, true, true, true, true, true, true, true, true, true, true, true, true, true, true, true, true, false] rfl rfl (by kernel_rfl) (fun _ _ _ h => h) (Or.inl ⟨by rfl, ?_⟩) ?_ ?_
            rotate_left
            · intro w' 
              go_simp
              with_reducible rfl
            rotate_left
            · simp only [Act.put, List.setIfInBounds_toArray, List.set_cons_zero, List.set_cons_succ, i64_w, i32_w]
              rfl
            refine pure_ (i := 19) (N := some 6) (v := ?_) (a' := ?_) #[true, true, true, true, true, true, true, true, true, true, true, true, true, true, true, true, true, true, true, true] rfl rfl (by kernel_rfl) (fun _ _ _ h => h) (Or.inl ⟨by rfl, ?_⟩) ?_ ?_
            rotate_left
            · intro w' 
              go_simp
              with_reducible rfl
            rotate_left
            · simp only [Act.put, List.setIfInBounds_toArray, List.set_cons_zero, List.set_cons_succ, i64_w, i32_w]
              rfl
            refine done_ (by kernel_rfl) ?_
            have HBZ := Aside0.mk HSm.out.below
            clear HSm hHeld
            go_wp2
            go_ret
            exact ⟨rfl, HBZ.out⟩
          · have q0 : decide (i < l.length) = true := decide_eq_true (by have := of_decide_eq_true qq; omega)
            have q1 : decide (i < N) = false := decide_eq_false (fun h => by have := of_decide_eq_false qr; omega)
            go_wp2_with fail
            obtain ⟨w9, hw9⟩ : ∃ w9, w9 = wr := ⟨_, rfl⟩
            rw [← hw9] at HS ⊢
            have HS9 := HS
            clear HS hw9
            refine start_ (n := 14) (S := (fun _ => True)) (ds := []) #[false, false, false, false, false, false, false, false, false, false, false, false, false, false] (by kernel_rfl) rfl rfl trivial (fun hHeld => ?_)
            have HSi := Aside0.mk (HS9.out.drew)
            generalize World.drew _ = wi at *
            clear HS9
            refine pure_ (i := 0) (N := some 120) (v := ?_) (a' := ?_) #[true, false, false, false, false, false, false, false, false, false, false, false, false, false] rfl rfl (by kernel_rfl) (fun _ _ _ h => h) (Or.inl ⟨by rfl, ?_⟩) ?_ ?_
            rotate_left
            · intro w' 
              go_simp
              with_reducible rfl
            rotate_left
            · simp only [Act.put, List.setIfInBounds_toArray, List.set_cons_zero, List.set_cons_succ, i64_w, i32_w]
              rfl
            refine pure_ (i := 2) (N := some 122) (v := ?_) (a' := ?_) #[true, false, true, false, false, false, false, false, false, false, false, false, false, false] rfl rfl (by kernel_rfl) (fun _ _ _ h => h) (Or.inl ⟨by rfl, ?_⟩) ?_ ?_
            rotate_left
            · intro w' 
              go_simp
              with_reducible rfl
            rotate_left
            · simp only [Act.put, List.setIfInBounds_toArray, List.set_cons_zero, List.set_cons_succ, i64_w, i32_w]
              rfl
            refine one_ (i := 1) (N := some 121) #[true, true, true, false, false, false, false, false, false, false, false, false, false, false] rfl rfl (by kernel_rfl) (by decide) (fun K hK => ?_)
            refine goes_ Try.func20 (by kernel_rfl) rfl #[.pointer (some ⟨pa, 0, none⟩)] (by rfl) rfl rfl (by (try simp only [List.map_toArray, List.map_cons, List.map_nil]); first | done | rfl) ?_
            refine (disk_Pending.part w wi _ pa 4 sa (HSi.out.sel [1, 0, 2] (by decide))).mono ?_
            rintro e w' ⟨rfl, rfl⟩
            refine ⟨_, rfl, ?_⟩
            refine hK.out _ _ trivial (fun hHeld => ?_)
            clear hK K
            refine norm_ (a' := ?_) ?_ ?_
            rotate_left
            · show Act.put _ (some 121) _ = _
              simp only [Act.put, List.setIfInBounds_toArray, List.set_cons_zero, List.set_cons_succ, i64_w, i32_w]
              rfl
            refine one_ (i := 3) (N := some 123) #[true, true, true, true, false, false, false, false, false, false, false, false, false, false] rfl rfl (by kernel_rfl) (by decide) (fun K hK => ?_)
            refine goes_ Try.func20 (by kernel_rfl) rfl #[.pointer (some ⟨pc, 0, none⟩)] (by rfl) rfl rfl (by (try simp only [List.map_toArray, List.map_cons, List.map_nil]); first | done | rfl) ?_
            refine (disk_Pending.part w wi _ pc 4 sc HSi.out).mono ?_
            rintro e w' ⟨rfl, rfl⟩
            rw [← HPE.out]
            refine ⟨_, rfl, ?_⟩
            refine hK.out _ _ trivial (fun hHeld => ?_)
            clear hK K
            refine norm_ (a' := ?_) ?_ ?_
            rotate_left
            · show Act.put _ (some 123) _ = _
              simp only [Act.put, List.setIfInBounds_toArray, List.set_cons_zero, List.set_cons_succ, i64_w, i32_w]
              rfl
            refine pure_ (i := 4) (N := some 124) (v := .bool false) (a' := ?_) #[true, true, true, true, true, false, false, false, false, false, false, false, false, false] rfl rfl (by kernel_rfl) (fun _ _ _ h => h) (Or.inl ⟨by rfl, ?_⟩) ?_ ?_
            · intro w' 
              exact (by go_simp; done)
            rotate_left
            · simp only [Act.put, List.setIfInBounds_toArray, List.set_cons_zero, List.set_cons_succ, i64_w, i32_w]
              rfl
            refine pure_ (i := 5) (N := some 125) (v := .bool false) (a' := ?_) #[true, true, true, true, true, true, false, false, false, false, false, false, false, false] rfl rfl (by kernel_rfl) (fun _ _ _ h => h) (Or.inl ⟨by rfl, ?_⟩) ?_ ?_
            · intro w' 
              exact (by go_simp; done)
            rotate_left
            · simp only [Act.put, List.setIfInBounds_toArray, List.set_cons_zero, List.set_cons_succ, i64_w, i32_w]
              rfl
            refine pure_ (i := 6) (N := some 126) (v := ?_) (a' := ?_) #[true, true, true, true, true, true, true, false, false, false, false, false, false, false] rfl rfl (by kernel_rfl) (fun _ _ _ h => h) (Or.inl ⟨by rfl, ?_⟩) ?_ ?_
            rotate_left
            · intro w' 
              go_simp
              with_reducible rfl
            rotate_left
            · simp only [Act.put, List.setIfInBounds_toArray, List.set_cons_zero, List.set_cons_succ, i64_w, i32_w]
              rfl
            refine pure_ (i := 9) (N := some 129) (v := ?_) (a' := ?_) #[true, true, true, true, true, true, true, false, false, true, false, false, false, false] rfl rfl (by kernel_rfl) (fun _ _ _ h => h) (Or.inl ⟨by rfl, ?_⟩) ?_ ?_
            rotate_left
            · intro w' 
              go_simp
              with_reducible rfl
            rotate_left
            · simp only [Act.put, List.setIfInBounds_toArray, List.set_cons_zero, List.set_cons_succ, i64_w, i32_w]
              rfl
            refine one_ (i := 7) (N := some 127) #[true, true, true, true, true, true, true, true, false, true, false, false, false, false] rfl rfl (by kernel_rfl) (by decide) (fun K hK => ?_)
            refine goes_ Try.func16 (by kernel_rfl) rfl #[.pointer (some ⟨pa, 0, none⟩)] (by rfl) rfl rfl (by (try simp only [List.map_toArray, List.map_cons, List.map_nil]); first | done | rfl) ?_
            refine (disk_Stable.part w wi _ pa 4 sa (HSi.out.sel [1, 0, 2] (by decide))).mono ?_
            rintro e wj ⟨v, rfl, hs⟩
            obtain ⟨A7, c7, rfl, -, -⟩ := row_str hs 0 rfl
            have HSj := Aside0.mk hs
            refine ⟨_, rfl, ?_⟩
            clear hs HSi
            refine hK.out _ _ trivial (fun hHeld => ?_)
            clear hK K
            refine norm_ (a' := ?_) ?_ ?_
            rotate_left
            · show Act.put _ (some 127) _ = _
              simp only [Act.put, List.setIfInBounds_toArray, List.set_cons_zero, List.set_cons_succ, i64_w, i32_w]
              rfl
            refine X.more_ (fun w' => (convert 22 9 (.slice A7 sa.bytes.length c7)).run Try.prog w' = .ok (.string (strOfNums sa.bytes)) w') (row_conv HSj.out 0 rfl) (fun _ _ => trivial) (fun hHeld => ?_)
            refine take_ (i := 8) (N := some 128) (v := .string (strOfNums sa.bytes)) (a' := ?_) #[true, true, true, true, true, true, true, true, true, true, false, false, false, false] rfl rfl (by kernel_rfl) (fun _ _ _ h => h) (Or.inl ⟨by rfl, ?_⟩) hHeld ?_ ?_
            · intro w' hs_
              exact conv_exec _ (by rfl) _ _ (by rfl) hs_
            rotate_left
            · simp only [Act.put, List.setIfInBounds_toArray, List.set_cons_zero, List.set_cons_succ, i64_w, i32_w]
              rfl
            refine one_ (i := 10) (N := some 130) #[true, true, true, true, true, true, true, true, true, true, true, false, false, false] rfl rfl (by kernel_rfl) (by decide) (fun K hK => ?_)
            refine goes_ Try.func16 (by kernel_rfl) rfl #[.pointer (some ⟨pc, 0, none⟩)] (by rfl) rfl rfl (by (try simp only [List.map_toArray, List.map_cons, List.map_nil]); first | done | rfl) ?_
            refine (disk_Stable.part w wj _ pc 4 sc (HSj.out.sel [2, 0, 1, 3] (by decide))).mono ?_
            rintro e wk ⟨v, rfl, hs⟩
            rw [← HBE.out] at hs
            obtain ⟨A8, c8, rfl, -, -⟩ := row_str hs 0 rfl
            have hk := row_conv hs 0 rfl
            have hk7 := row_conv hs 2 rfl
            have HSk := Aside0.mk (hs.sel [3, 1] (by decide))
            refine ⟨_, rfl, ?_⟩
            clear hs HSj hHeld
            refine hK.out _ _ hk7 (fun hHeld => ?_)
            clear hK K
            refine norm_ (a' := ?_) ?_ ?_
            rotate_left
            · show Act.put _ (some 130) _ = _
              simp only [Act.put, List.setIfInBounds_toArray, List.set_cons_zero, List.set_cons_succ, i64_w, i32_w]
              rfl
            refine one_ (i := 11) (N := some 131) #[true, true, true, true, true, true, true, true, true, true, true, true, false, false] rfl rfl (by kernel_rfl) (by decide) (fun K hK => ?_)
            refine X.val_ (by rfl) rfl (conv_exec _ (by rfl) _ _ (by rfl) hk) ?_
            refine hK.out _ _ hk7 (fun hHeld => ?_)
            clear hK K
            refine norm_ (a' := ?_) ?_ ?_
            rotate_left
            · show Act.put _ (some 131) _ = _
              simp only [Act.put, List.setIfInBounds_toArray, List.set_cons_zero, List.set_cons_succ, i64_w, i32_w]
              rfl
            refine pure_ (i := 12) (N := some 132) (v := .bool false) (a' := ?_) #[true, true, true, true, true, true, true, true, true, true, true, true, true, false] rfl rfl (by kernel_rfl) (fun _ _ _ h => h) (Or.inl ⟨by rfl, ?_⟩) ?_ ?_
            · intro w' 
              exact (by go_simp; done)
            rotate_left
            · simp only [Act.put, List.setIfInBounds_toArray, List.set_cons_zero, List.set_cons_succ, i64_w, i32_w]
              rfl
            refine pure_ (i := 13) (N := some 133) (v := ?_) (a' := ?_) #[true, true, true, true, true, true, true, true, true, true, true, true, true, true] rfl rfl (by kernel_rfl) (fun _ _ _ h => h) (Or.inl ⟨by rfl, ?_⟩) ?_ ?_
            rotate_left
            · intro w' 
              go_simp
              with_reducible rfl
            rotate_left
            · simp only [Act.put, List.setIfInBounds_toArray, List.set_cons_zero, List.set_cons_succ, i64_w, i32_w]
              rfl
            refine done_ (by kernel_rfl) ?_
            go_wp2_with fail
            refine (disk_Crash.part w wk _ pa 4 sa A2 c2 l2 HSk.out (X.Rd.arg HR2.out) HC2.out (by rw [HPE.out]; have := HPN.out; omega)).mono ?_
            rintro e w6 ⟨rfl, hs⟩
            have HS6 := Aside0.mk hs
            clear hs HSk hHeld
            go_wp2_with fail
            refine (disk_Crash.part w w6 _ pc 4 sc A2 c2 l2 (HS6.out.sel [1, 0] (by decide)) (X.Rd.arg HR2.out) HC2.out (by have := HPN.out; omega)).mono ?_
            rintro e w8 ⟨rfl, hs⟩
            obtain ⟨ta, hta⟩ : ∃ ta, ta = sa.crash l2 := ⟨_, rfl⟩
            obtain ⟨tc, htc⟩ : ∃ tc, tc = sc.crash l2 := ⟨_, rfl⟩
            rw [← hta, ← htc] at hs
            have HS8 : Aside0 (X.Lies w w8 [.disk pa 4 ta, .disk pc 4 tc]) := ⟨hs.sel [1, 0] (by decide)⟩
            have HIM : Aside0 (imageTo ta 4 = imageTo tc 4) := ⟨by rw [hta, htc]; unfold X.DS.crash; rw [HPP.out, HBE.out]⟩
            have HTP : Aside0 (ta.pend = []) := ⟨by rw [hta]; rfl⟩
            have HTW : Aside0 ((ta.write 0 (dataL 0 (dataN false))).pend.length = 1) := ⟨by rw [hta]; rfl⟩
            clear hs hta htc HS6
            go_wp2_with fail
            refine start_ (n := 20) (S := (fun _ => True)) (ds := []) #[false, false, false, false, false, false, false, false, false, false, false, false, false, false, false, false, false, false, false, false] (by kernel_rfl) rfl rfl trivial (fun hHeld => ?_)
            have HSi := Aside0.mk (HS8.out.drew)
            generalize World.drew _ = wi at *
            clear HS8
            refine pure_ (i := 0) (N := some 140) (v := ?_) (a' := ?_) #[true, false, false, false, false, false, false, false, false, false, false, false, false, false, false, false, false, false, false, false] rfl rfl (by kernel_rfl) (fun _ _ _ h => h) (Or.inl ⟨by rfl, ?_⟩) ?_ ?_
            rotate_left
            · intro w' 
              go_simp
              with_reducible rfl
            rotate_left
            · simp only [Act.put, List.setIfInBounds_toArray, List.set_cons_zero, List.set_cons_succ, i64_w, i32_w]
              rfl
            refine pure_ (i := 3) (N := some 143) (v := ?_) (a' := ?_) #[true, false, false, true, false, false, false, false, false, false, false, false, false, false, false, false, false, false, false, false] rfl rfl (by kernel_rfl) (fun _ _ _ h => h) (Or.inl ⟨by rfl, ?_⟩) ?_ ?_
            rotate_left
            · intro w' 
              go_simp
              with_reducible rfl
            rotate_left
            · simp only [Act.put, List.setIfInBounds_toArray, List.set_cons_zero, List.set_cons_succ, i64_w, i32_w]
              rfl
            refine one_ (i := 1) (N := some 141) #[true, true, false, true, false, false, false, false, false, false, false, false, false, false, false, false, false, false, false, false] rfl rfl (by kernel_rfl) (by decide) (fun K hK => ?_)
            refine goes_ Try.func19 (by kernel_rfl) rfl #[.pointer (some ⟨pa, 0, none⟩)] (by rfl) rfl rfl (by (try simp only [List.map_toArray, List.map_cons, List.map_nil]); first | done | rfl) ?_
            refine (disk_Image.part w wi _ pa 4 ta HSi.out).mono ?_
            rintro e wj ⟨v, rfl, hs⟩
            obtain ⟨A7, c7, rfl, -, -⟩ := row_str hs 0 rfl
            have HSj := Aside0.mk hs
            refine ⟨_, rfl, ?_⟩
            clear hs HSi
            refine hK.out _ _ trivial (fun hHeld => ?_)
            clear hK K
            refine norm_ (a' := ?_) ?_ ?_
            rotate_left
            · show Act.put _ (some 141) _ = _
              simp only [Act.put, List.setIfInBounds_toArray, List.set_cons_zero, List.set_cons_succ, i64_w, i32_w]
              rfl
            refine X.more_ (fun w' => (convert 22 9 (.slice A7 (imageTo ta 4).length c7)).run Try.prog w' = .ok (.string (strOfNums (imageTo ta 4))) w') (row_conv HSj.out 0 rfl) (fun _ _ => trivial) (fun hHeld => ?_)
            refine take_ (i := 2) (N := some 142) (v := .string (strOfNums (imageTo ta 4))) (a' := ?_) #[true, true, true, true, false, false, false, false, false, false, false, false, false, false, false, false, false, false, false, false] rfl rfl (by kernel_rfl) (fun _ _ _ h => h) (Or.inl ⟨by rfl, ?_⟩) hHeld ?_ ?_
            · intro w' hs_
              exact conv_exec _ (by rfl) _ _ (by rfl) hs_
            rotate_left
            · simp only [Act.put, List.setIfInBounds_toArray, List.set_cons_zero, List.set_cons_succ, i64_w, i32_w]
              rfl
            refine one_ (i := 4) (N := some 144) #[true, true, true, true, true, false, false, false, false, false, false, false, false, false, false, false, false, false, false, false] rfl rfl (by kernel_rfl) (by decide) (fun K hK => ?_)
            refine goes_ Try.func19 (by kernel_rfl) rfl #[.pointer (some ⟨pc, 0, none⟩)] (by rfl) rfl rfl (by (try simp only [List.map_toArray, List.map_cons, List.map_nil]); first | done | rfl) ?_
            refine (disk_Image.part w wj _ pc 4 tc (HSj.out.sel [2, 1, 0] (by decide))).mono ?_
            rintro e wk ⟨v, rfl, hs⟩
            rw [← HIM.out] at hs
            obtain ⟨A8, c8, rfl, -, -⟩ := row_str hs 0 rfl
            have hk := row_conv hs 0 rfl
            have HSk := Aside0.mk (hs.sel [2, 3] (by decide))
            have hk7 := row_conv hs 3 rfl
            refine ⟨_, rfl, ?_⟩
            clear hs HSj hHeld
            refine hK.out _ _ hk7 (fun hHeld => ?_)
            clear hK K
            refine norm_ (a' := ?_) ?_ ?_
            rotate_left
            · show Act.put _ (some 144) _ = _
              simp only [Act.put, List.setIfInBounds_toArray, List.set_cons_zero, List.set_cons_succ, i64_w, i32_w]
              rfl
            refine one_ (i := 5) (N := some 145) #[true, true, true, true, true, true, false, false, false, false, false, false, false, false, false, false, false, false, false, false] rfl rfl (by kernel_rfl) (by decide) (fun K hK => ?_)
            refine X.val_ (by rfl) rfl (conv_exec _ (by rfl) _ _ (by rfl) hk) ?_
            refine hK.out _ _ hk7 (fun hHeld => ?_)
            clear hK K
            refine norm_ (a' := ?_) ?_ ?_
            rotate_left
            · show Act.put _ (some 145) _ = _
              simp only [Act.put, List.setIfInBounds_toArray, List.set_cons_zero, List.set_cons_succ, i64_w, i32_w]
              rfl
            refine pure_ (i := 6) (N := some 146) (v := .bool true) (a' := ?_) #[true, true, true, true, true, true, true, false, false, false, false, false, false, false, false, false, false, false, false, false] rfl rfl (by kernel_rfl) (fun _ _ _ h => h) (Or.inl ⟨by rfl, ?_⟩) ?_ ?_
            · intro w' 
              exact (by go_simp; done)
            rotate_left
            · simp only [Act.put, List.setIfInBounds_toArray, List.set_cons_zero, List.set_cons_succ, i64_w, i32_w]
              rfl
            refine pure_ (i := 7) (N := some 147) (v := .bool true) (a' := ?_) #[true, true, true, true, true, true, true, true, false, false, false, false, false, false, false, false, false, false, false, false] rfl rfl (by kernel_rfl) (fun _ _ _ h => h) (Or.inl ⟨by rfl, ?_⟩) ?_ ?_
            · intro w' 
              exact (by go_simp; done)
            rotate_left
            · simp only [Act.put, List.setIfInBounds_toArray, List.set_cons_zero, List.set_cons_succ, i64_w, i32_w]
              rfl
            refine pure_ (i := 8) (N := some 148) (v := ?_) (a' := ?_) #[true, true, true, true, true, true, true, true, true, false, false, false, false, false, false, false, false, false, false, false] rfl rfl (by kernel_rfl) (fun _ _ _ h => h) (Or.inl ⟨by rfl, ?_⟩) ?_ ?_
            rotate_left
            · intro w' 
              go_simp
              with_reducible rfl
            rotate_left
            · simp only [Act.put, List.setIfInBounds_toArray, List.set_cons_zero, List.set_cons_succ, i64_w, i32_w]
              rfl
            refine pure_ (i := 9) (N := some 149) (v := .agg #[.int .i64 0, .int .i64 0, .int .u8 0, .bool false, .slice none 0 0]) (a' := ?_) #[true, true, true, true, true, true, true, true, true, true, false, false, false, false, false, false, false, false, false, false] rfl rfl (by kernel_rfl) (fun _ _ _ h => h) (Or.inl ⟨by rfl, ?_⟩) ?_ ?_
            · intro w' 
              go_simp
            rotate_left
            · simp only [Act.put, List.setIfInBounds_toArray, List.set_cons_zero, List.set_cons_succ, i64_w, i32_w]
              rfl
            have HNIL : (Kd.int .u8).C wk none ([] : List Int).length [] := Kd.C_nil _ _
            refine one_ (i := 10) (N := some 150) #[true, true, true, true, true, true, true, true, true, true, true, false, false, false, false, false, false, false, false, false] rfl rfl (by kernel_rfl) (by decide) (fun K hK => ?_)
            refine goes_ Try.func13 (by kernel_rfl) rfl #[.agg #[.int .i64 0, .int .i64 0, .int .u8 0, .bool false, .slice none ([] : List Int).length 0]] (by rfl) rfl rfl (by (try simp only [List.map_toArray, List.map_cons, List.map_nil]); first | done | rfl) ?_
            refine (data_part w _ 0 0 0 false none 0 [] wk HSk.out HNIL (Nat.le_refl 0)).mono ?_
            rintro e wl ⟨gd, cd, rfl, hcd, hs⟩
            have HSl := Aside0.mk (hs.sel [1, 0, 2] (by decide))
            have HCD := Aside0.mk hcd
            refine ⟨_, rfl, ?_⟩
            clear hcd HSk HNIL hHeld
            refine hK.out _ _ (row_conv hs 2 rfl) (fun hHeld => ?_)
            clear hK K
            refine norm_ (a' := ?_) ?_ ?_
            rotate_left
            · show Act.put _ (some 150) _ = _
              simp only [Act.put, List.setIfInBounds_toArray, List.set_cons_zero, List.set_cons_succ, i64_w, i32_w]
              rfl
            clear hs
            refine one_ (i := 11) (N := some 151) #[true, true, true, true, true, true, true, true, true, true, true, true, false, false, false, false, false, false, false, false] rfl rfl (by kernel_rfl) (by decide) (fun K hK => ?_)
            refine goes_ Try.func14 (by kernel_rfl) rfl #[.pointer (some ⟨pa, 0, none⟩), .int .i64 0, .slice (some ⟨gd, 0, none⟩) (dataN false) cd] (by rfl) rfl rfl (by (try simp only [List.map_toArray, List.map_cons, List.map_nil]); first | done | rfl) ?_
            refine (write_data w wl _ pa 4 ta ((0 : Nat) : Int) gd cd 0 false HSl.out HCD.out (by rw [HTP.out]; decide)).mono ?_
            rintro e wm ⟨rfl, hs⟩
            rw [putE_ok (i := 0) (m := dataN false) (by decide) rfl]
            rw [put_ok (i := 0) (by decide) (by rw [dataL_len]; rfl)] at hs
            have HSm := Aside0.mk (hs.sel [0] (by decide))
            refine ⟨_, rfl, ?_⟩
            clear HSl HCD hHeld
            refine hK.out _ _ (row_conv hs 2 rfl) (fun hHeld => ?_)
            clear hK K
            refine norm_ (a' := ?_) ?_ ?_
            rotate_left
            · show Act.put _ (some 151) _ = _
              simp only [Act.put, List.setIfInBounds_toArray, List.set_cons_zero, List.set_cons_succ, i64_w, i32_w]
              rfl
            clear hs
            refine pure_ (i := 12) (N := some 152) (v := .bool true) (a' := ?_) #[true, true, true, true, true, true, true, true, true, true, true, true, true, false, false, false, false, false, false, false] rfl rfl (by kernel_rfl) (fun _ _ _ h => h) (Or.inl ⟨by rfl, ?_⟩) ?_ ?_
            · intro w' 
              exact (by go_simp; done)
            rotate_left
            · simp only [Act.put, List.setIfInBounds_toArray, List.set_cons_zero, List.set_cons_succ, i64_w, i32_w]
              rfl
            refine pure_ (i := 13) (N := some 153) (v := ?_) (a' := ?_) #[true, true, true, true, true, true, true, true, true, true, true, true, true, true, false, false, false, false, false, false] rfl rfl (by kernel_rfl) (fun _ _ _ h => h) (Or.inl ⟨by rfl, ?_⟩) ?_ ?_
            rotate_left
            · intro w' 
              go_simp
              with_reducible rfl
            rotate_left
            · simp only [Act.put, List.setIfInBounds_toArray, List.set_cons_zero, List.set_cons_succ, i64_w, i32_w]
              rfl
            refine pure_ (i := 14) (N := some 154) (v := ?_) (a' := ?_) #[true, true, true, true, true, true, true, true, true, true, true, true, true, true, true, false, false, false, false, false] rfl rfl (by kernel_rfl) (fun _ _ _ h => h) (Or.inl ⟨by rfl, ?_⟩) ?_ ?_
            rotate_left
            · intro w' 
              go_simp
              with_reducible rfl
            rotate_left
            · simp only [Act.put, List.setIfInBounds_toArray, List.set_cons_zero, List.set_cons_succ, i64_w, i32_w]
              rfl
            refine pure_ (i := 15) (N := some 155) (v := ?_) (a' := ?_) #[true, true, true, true, true, true, true, true, true, true, true, true, true, true, true, true, false, false, false, false] rfl rfl (by kernel_rfl) (fun _ _ _ h => h) (Or.inl ⟨by rfl, ?_⟩) ?_ ?_
            rotate_left
            · intro w' 
              go_simp
              with_reducible rfl
            rotate_left
            · simp only [Act.put, List.setIfInBounds_toArray, List.set_cons_zero, List.set_cons_succ, i64_w, i32_w]
              rfl
            refine one_ (i := 16) (N := some 156) #[true, true, true, true, true, true, true, true, true, true, true, true, true, true, true, true, true, false, false, false] rfl rfl (by kernel_rfl) (by decide) (fun K hK => ?_)
            refine goes_ Try.func20 (by kernel_rfl) rfl #[.pointer (some ⟨pa, 0, none⟩)] (by rfl) rfl rfl (by (try simp only [List.map_toArray, List.map_cons, List.map_nil]); first | done | rfl) ?_
            refine (disk_Pending.part w wm _ pa 4 _ HSm.out).mono ?_
            rintro e w' ⟨rfl, rfl⟩
            rw [HTW.out]
            refine ⟨_, rfl, ?_⟩
            refine hK.out _ _ hHeld (fun hHeld => ?_)
            clear hK K
            refine norm_ (a' := ?_) ?_ ?_
            rotate_left
            · show Act.put _ (some 156) _ = _
              simp only [Act.put, List.setIfInBounds_toArray, List.set_cons_zero, List.set_cons_succ, i64_w, i32_w]
              rfl
            refine pure_ (i := 17) (N := some 157) (v := ?_) (a' := ?_) #[true, true, true, true, true, true, true, true, true, true, true, true, true, true, true, true, true, true, false, false] rfl rfl (by kernel_rfl) (fun _ _ _ h => h) (Or.inl ⟨by rfl, ?_⟩) ?_ ?_
            rotate_left
            · intro w' 
              go_simp
              with_reducible rfl
            rotate_left
            · simp only [Act.put, List.setIfInBounds_toArray, List.set_cons_zero, List.set_cons_succ, i64_w, i32_w]
              rfl
            refine pure_ (i := 18) (N := some 158) (v := ?_) (a' := ?_) #[true, true, true, true, true, true, true, true, true, true, true, true, true, true, true, true, true, true, true, false] rfl rfl (by kernel_rfl) (fun _ _ _ h => h) (Or.inl ⟨by rfl, ?_⟩) ?_ ?_
            rotate_left
            · intro w' 
              go_simp
              with_reducible rfl
            rotate_left
            · simp only [Act.put, List.setIfInBounds_toArray, List.set_cons_zero, List.set_cons_succ, i64_w, i32_w]
              rfl
            refine pure_ (i := 19) (N := some 6) (v := ?_) (a' := ?_) #[true, true, true, true, true, true, true, true, true, true, true, true, true, true, true, true, true, true, true, true] rfl rfl (by kernel_rfl) (fun _ _ _ h => h) (Or.inl ⟨by rfl, ?_⟩) ?_ ?_
            rotate_left
            · intro w' 
              go_simp
              with_reducible rfl
            rotate_left
            · simp only [Act.put, List.setIfInBounds_toArray, List.set_cons_zero, List.set_cons_succ, i64_w, i32_w]
              rfl
            refine done_ (by kernel_rfl) ?_
            have HBZ := Aside0.mk HSm.out.below
            clear HSm hHeld
            go_wp2
            go_ret
            exact ⟨rfl, HBZ.out⟩

end Go.Proofs.Ytbpkjkdbijifbaa.U
