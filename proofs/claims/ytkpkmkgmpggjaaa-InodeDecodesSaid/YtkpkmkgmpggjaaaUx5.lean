/- Written by uprint.py (ours) for this seat: functions of the translation as Lean functions, and what their calls do. Not trusted: Lean checks it. -/
import Derived.Test.YtkpkmkgmpggjaaaUx0
import Derived.Test.YtkpkmkgmpggjaaaUx1
import Derived.Test.YtkpkmkgmpggjaaaUx4
namespace Go.Proofs.Ytkpkmkgmpggjaaa.U
open Go.RowKit Go.Proofs.YtkpkmkgmpggjaaaW.PrintWords Go.Proofs.YtkpkmkgmpggjaaaW.PrintLast Go.Proofs.YtkpkmkgmpggjaaaW.PrintMore
attribute [local go_sem] max2_int min2_int max_two min_two max_three min_three max_four min_four   -- for this text's walks alone
set_option linter.unusedVariables false
set_option linter.unusedSimpArgs false

/-! ### inode_Encode: function 10 (given) -/
/-- A number's first bytes. -/
def ino_word (n : Nat) (v : Int) : List Int := (List.range n).map (fun i => ((IntKind.u64.wrap v) / 2 ^ (8 * i)) % 256)
theorem ino_word_length (n : Nat) (v : Int) : (ino_word n v).length = n := by simp [ino_word]
theorem ino_word2_bytes (v : Int) : crc_Bytes.f 9 (IntKind.u64.wrap v) 2 = some (ino_word 2 v) := by
  have e2 : shr .u64 (IntKind.u64.wrap v) 0 = IntKind.u64.wrap v / 2 ^ 0 := rfl
  unfold crc_Bytes.f
  rw [show mx 0 (mn 2 8) = 2 from rfl, if_pos (by decide), if_pos (by decide), Option.bind_some]
  show crc_Bytes.l0 9 _ [0, 0] 2 0 = _
  rw [crc_Bytes.l0, if_pos (by decide), show wrap64 (8 * 0) = 0 from by unfold wrap64; omega, if_pos (by decide), if_pos (by decide), if_pos (by simp), show wrap64 (0 + 1) = 1 from by unfold wrap64; omega,
    crc_Bytes.l0, if_pos (by decide), show wrap64 (8 * 1) = 8 from by unfold wrap64; omega, if_pos (by decide), if_pos (by decide), if_pos (by simp), show wrap64 (1 + 1) = 2 from by unfold wrap64; omega,
    crc_Bytes.l0, if_neg (by decide)]
  rfl
theorem ino_word4_bytes (v : Int) : crc_Bytes.f 9 (IntKind.u64.wrap v) 4 = some (ino_word 4 v) := by
  have e2 : shr .u64 (IntKind.u64.wrap v) 0 = IntKind.u64.wrap v / 2 ^ 0 := rfl
  unfold crc_Bytes.f
  rw [show mx 0 (mn 4 8) = 4 from rfl, if_pos (by decide), if_pos (by decide), Option.bind_some]
  show crc_Bytes.l0 9 _ [0, 0, 0, 0] 4 0 = _
  rw [crc_Bytes.l0, if_pos (by decide), show wrap64 (8 * 0) = 0 from by unfold wrap64; omega, if_pos (by decide), if_pos (by decide), if_pos (by simp), show wrap64 (0 + 1) = 1 from by unfold wrap64; omega,
    crc_Bytes.l0, if_pos (by decide), show wrap64 (8 * 1) = 8 from by unfold wrap64; omega, if_pos (by decide), if_pos (by decide), if_pos (by simp), show wrap64 (1 + 1) = 2 from by unfold wrap64; omega,
    crc_Bytes.l0, if_pos (by decide), show wrap64 (8 * 2) = 16 from by unfold wrap64; omega, if_pos (by decide), if_pos (by decide), if_pos (by simp), show wrap64 (2 + 1) = 3 from by unfold wrap64; omega,
    crc_Bytes.l0, if_pos (by decide), show wrap64 (8 * 3) = 24 from by unfold wrap64; omega, if_pos (by decide), if_pos (by decide), if_pos (by simp), show wrap64 (3 + 1) = 4 from by unfold wrap64; omega,
    crc_Bytes.l0, if_neg (by decide)]
  rfl
/-- The first two bytes. -/
def ino_head (kind : Int) (inl : Bool) : List Int := if inl = true then ((List.replicate 128 0).set 0 (kind % 256)).set 1 1 else (List.replicate 128 0).set 0 (kind % 256)
theorem ino_head_length (kind : Int) (inl : Bool) : (ino_head kind inl).length = 128 := by unfold ino_head; cases inl <;> simp
def ino_1 (kind links : Int) (inl : Bool) : List Int := X.lay (ino_head kind inl) 2 (ino_word 2 links)
def ino_2 (kind links size : Int) (inl : Bool) : List Int := X.lay (ino_1 kind links inl) 4 (ino_word 4 size)
def ino_3 (kind links size : Int) (inl : Bool) (attrs : Int) : List Int := X.lay (ino_2 kind links size inl) 8 (ino_word 4 attrs)
/-- All but the sum. -/
def ino_body (kind links size : Int) (inl : Bool) (attrs : Int) (body : List Int) : List Int := X.lay (ino_3 kind links size inl attrs) 12 body
theorem ino_1_length (kind links : Int) (inl : Bool) : (ino_1 kind links inl).length = 128 := by
  unfold ino_1; rw [X.lay_length (by rw [ino_head_length, ino_word_length]; decide), ino_head_length]
theorem ino_2_length (kind links size : Int) (inl : Bool) : (ino_2 kind links size inl).length = 128 := by
  unfold ino_2; rw [X.lay_length (by rw [ino_1_length, ino_word_length]; decide), ino_1_length]
theorem ino_3_length (kind links size : Int) (inl : Bool) (attrs : Int) : (ino_3 kind links size inl attrs).length = 128 := by
  unfold ino_3; rw [X.lay_length (by rw [ino_2_length, ino_word_length]; decide), ino_2_length]
theorem ino_body_length (kind links size : Int) (inl : Bool) (attrs : Int) (body : List Int) (h : body.length = 60) : (ino_body kind links size inl attrs body).length = 128 := by
  unfold ino_body; rw [X.lay_length (by rw [ino_3_length, h]; decide), ino_3_length]
def inode_Encode.f (a0_0 a0_1 a0_2 : Int) (a0_3 : Bool) (a0_4 : Int) (l0_5 : List Int) (a1 : Int) : Option (List Int × Int) :=
  (inode_between_int.f a1 0 1048576).bind fun b => if b = true then
    (inode_none.f a0_0 a0_1 a0_2 a0_3 a0_4 l0_5).bind fun z => if z = true then some (List.replicate 128 0, 0) else
    (inode_Check.f a0_0 a0_1 a0_2 a0_3 a0_4 l0_5).bind fun e => if e = 0 then
      (inode_sum.f 9 (ino_body a0_0 a0_1 a0_2 a0_3 a0_4 l0_5) a1).bind fun s => some (X.lay (ino_body a0_0 a0_1 a0_2 a0_3 a0_4 l0_5) 124 (ino_word 4 s), 0)
    else some ([], 1) else some ([], 1)
theorem inode_Check.len {a0_0 a0_1 a0_2 : Int} {a0_3 : Bool} {a0_4 : Int} {l0_5 : List Int} (h : inode_Check.f a0_0 a0_1 a0_2 a0_3 a0_4 l0_5 = some 0) : l0_5.length = 60 := by
  unfold inode_Check.f at h
  by_cases hc : inode_Check.ok a0_0 a0_1 a0_2 a0_3 a0_4 l0_5.length = true
  · unfold inode_Check.ok at hc
    simp only [Bool.and_eq_true, decide_eq_true_eq] at hc
    exact hc.1.1.1.1
  · rw [if_neg hc] at h; cases h
theorem ino_drawn {w w' : World} (h : Drawn0 w w') : Below w.heap.size w w' := by
  obtain ⟨nd, rfl⟩ := h
  exact pw_below_drewN (Below.refl _ _) nd
/-- The row and the box behind a call that leaves what was there. -/
structure ino_inv (w w1 : World) (e ty : Nat) (cs : Array Value) (g cap : Nat) (xs : List Int) : Prop where
  row : Kd.R (Kd.int .u8) e w1 w.heap.size (fun _ => True) (.slice (some ⟨g, 0, none⟩) 128 cap) xs
  box : X.Blk w1 w.heap.size cs ty
  below : Below w.heap.size w w1
  ne : g ≠ w.heap.size
theorem ino_inv.step {w w1 w2 : World} {e ty : Nat} {cs : Array Value} {g cap : Nat} {xs : List Int} (h : ino_inv w w1 e ty cs g cap xs) (hb : Below w1.heap.size w1 w2) : ino_inv w w2 e ty cs g cap xs :=
  ⟨Kd.R_below h.row hb, h.box.below hb h.box.lt, h.below.trans (hb.mono h.below.size), h.ne⟩
theorem ino_inv.turn {w w1 w2 : World} {e ty : Nat} {cs : Array Value} {g cap : Nat} {xs ys : List Int} (h : ino_inv w w1 e ty cs g cap xs) (hr : Kd.R (Kd.int .u8) e w2 w.heap.size (fun _ => True) (.slice (some ⟨g, 0, none⟩) 128 cap) ys) (hb : Below w.heap.size w w2) (hg : w1.grownBy w2 (some g)) : ino_inv w w2 e ty cs g cap ys :=
  ⟨hr, (hg.block _ h.box.lt (by intro e; injection e with e; exact h.ne e.symm)).trans h.box, hb, h.ne⟩
theorem ino_inv.grown {w w1 w2 : World} {e ty : Nat} {cs : Array Value} {g cap : Nat} {xs ys : List Int} (h : ino_inv w w1 e ty cs g cap xs) (hr : Kd.R (Kd.int .u8) e w2 w.heap.size (fun _ => True) (.slice (some ⟨g, 0, none⟩) 128 cap) ys) (hg : w1.grownBy w2 (some g)) : ino_inv w w2 e ty cs g cap ys :=
  h.turn hr (h.below.grown hg h.below.size (fun k e => by injection e with e; subst e; exact Kd.R_base h.row g (by simp [Value.ownBlock]))) hg
theorem ino_inv.put {w w1 w2 : World} {e ty : Nat} {cs : Array Value} {g cap : Nat} {xs : List Int} (h : ino_inv w w1 e ty cs g cap xs) (i : Int) (x : Int) (hw : w2 = w1.setCell ⟨g, i.toNat, none⟩ (.int .u8 x)) : ino_inv w w2 e ty cs g cap (xs.set i.toNat x) := by
  subst hw
  have hp := Kd.R_putg (enc := Value.int .u8) (h1 := fun _ => rfl) h.row i x
  exact h.grown hp.1 hp.2
theorem ino_inv.cell {w w1 : World} {e ty : Nat} {cs : Array Value} {g cap : Nat} {xs : List Int} (h : ino_inv w w1 e ty cs g cap xs) (i : Nat) (x : Int) (hx : xs[i]? = some x) : w1.cell? ⟨g, i, none⟩ = some (.int .u8 x) := by
  have := X.C_cells (Kd.R_reads' h.row).2.2 i (.int .u8 x) (by simp [hx])
  rw [add_plain] at this
  simpa using this
theorem ino_inv.free {w w1 : World} {e ty : Nat} {cs : Array Value} {g cap : Nat} {xs : List Int} (h : ino_inv w w1 e ty cs g cap xs) (i : Nat) : w1.frozen? ⟨g, i, none⟩ = false := by
  obtain ⟨inner, ho⟩ := Kd.R_own h.row
  obtain ⟨cells, hc⟩ := own_typed ho g (by simp [Value.ownBlock])
  exact blk_frozen hc i
theorem inode_sum.bytes {l : List Int} {a s : Int} (h : inode_sum.f 9 l a = some s) : crc_Bytes.f 9 s 4 = some (ino_word 4 s) := by
  unfold inode_sum.f at h
  obtain ⟨t1, -, h⟩ := Option.bind_eq_some_iff.1 h
  obtain ⟨t2, -, h⟩ := Option.bind_eq_some_iff.1 h
  by_cases hc : 124 ≤ (l.length : Int)
  · rw [if_pos hc] at h
    obtain ⟨t3, -, h⟩ := Option.bind_eq_some_iff.1 h
    injection h with h
    have hw : IntKind.u64.wrap s = s := by
      rw [← h]
      show (t3 % 18446744073709551616) % 18446744073709551616 = t3 % 18446744073709551616
      omega
    have := ino_word4_bytes s
    rw [hw] at this
    exact this
  · rw [if_neg hc] at h
    cases h
set_option maxHeartbeats 8000000 in
set_option maxRecDepth 100000 in
theorem inode_Encode.calls (a0_0 : Int) (a0_1 : Int) (a0_2 : Int) (a0_3 : Bool) (a0_4 : Int) (A0_5 : Option Addr) (c0_5 : Nat) (l0_5 : List Int) (a1 : Int) (r1 : List Int) (r2 : Int) (w : World) (hr0_5 : Kd.C (Kd.int .u8) w A0_5 l0_5.length l0_5) (hc0_5 : l0_5.length ≤ c0_5) (h : inode_Encode.f a0_0 a0_1 a0_2 a0_3 a0_4 l0_5 a1 = some (r1, r2)) :
    Calls Try.prog 10 #[.agg #[.int .i64 a0_0, .int .i64 a0_1, .int .i64 a0_2, .bool a0_3, .int .i64 a0_4, .slice A0_5 l0_5.length c0_5], .int .i64 a1] w fun e w' => ∃ v0_ : Value, e = .returned (.tuple #[v0_, .int .i64 r2]) ∧ Kd.R (Kd.int .u8) 5 w' w.heap.size (fun _ => True) v0_ r1 ∧ Below w.heap.size w w' := by
  have hu := Try.underlying24
  unfold inode_Encode.f at h
  have HC := Aside0.mk hr0_5
  have HC' := Aside0.mk hc0_5
  clear hr0_5 hc0_5
  obtain ⟨b, hb, h⟩ := Option.bind_eq_some_iff.1 h
  have HI := Aside0.mk hb
  clear hb
  have H := Aside0.mk h
  clear h
  go_enter Try.func10, Try.ntmps10
  go_wp2_with ((with_reducible refine gate_dst (N := 7) rfl ?_); refine Kd.R_make (Kd.int .u8) w.heap.size 5 rfl (N := 7) rfl 22 _ _ rfl 128 rfl rfl Try.underlying22 (.int .u8 0) 1 info5 rfl (by decide) (by decide) 0 (ok := fun _ => True) (okp := fun _ => True) rfl (fun _ hk => hk) trivial (by decide) (by decide) ((Below.refl w.heap.size w).alloc (Nat.le_refl _) _) (by simp) ?_; intro v1 w1 ho1 hb1 hg1 hnew1; have HI1 : Aside0 (∃ g cap, v1 = .slice (some ⟨g, 0, none⟩) 128 cap ∧ ino_inv w w1 5 24 #[.int .i64 a0_0, .int .i64 a0_1, .int .i64 a0_2, .bool a0_3, .int .i64 a0_4, .slice A0_5 l0_5.length c0_5] g cap (List.replicate 128 0)) := ⟨by
      have ho : Kd.R (Kd.int .u8) 5 w1 w.heap.size (fun _ => True) v1 (List.replicate 128 0) := ho1
      obtain ⟨g, cap, rfl, h1, h2, cells, h3⟩ := Kd.R_form ho (by simp)
      have hbx : X.Blk w1 w.heap.size #[.int .i64 a0_0, .int .i64 a0_1, .int .i64 a0_2, .bool a0_3, .int .i64 a0_4, .slice A0_5 l0_5.length c0_5] 24 := (hg1.block w.heap.size (by simp) (by simp)).trans (X.Blk.new w _ _)
      refine ⟨g, cap, by rw [List.length_replicate], by rw [List.length_replicate] at ho; exact ho, hbx, hb1, ?_⟩
      rintro rfl
      have e := h3.symm.trans hbx
      injection e with e
      injection e with _ e
      exact absurd e (by decide)⟩; clear ho1 hb1 hg1 hnew1; obtain ⟨g, cap, rfl, hI1⟩ := HI1.out; clear HI1; have HI1 := Aside0.mk hI1; clear hI1)
  refine (inode_between_int.calls a1 0 1048576 b _ HI.out).mono ?_
  rintro e w2 ⟨rfl, hd⟩
  have HI2 := Aside0.mk (HI1.out.step (ino_drawn hd))
  have hcap : 128 ≤ cap := (Kd.R_reads' HI1.out.row).2.1
  clear hd HI1 HI
  cases b with
  | false =>
    obtain ⟨rfl, rfl⟩ : [] = r1 ∧ 1 = r2 := by simpa using H.out
    clear H
    go_wp2
    go_ret2
    exact ⟨_, rfl, Kd.R_nil _ _ _ _ _, HI2.out.below⟩
  | true =>
    have H1 := H.out
    rw [if_pos rfl] at H1
    obtain ⟨z, hz, hH⟩ := Option.bind_eq_some_iff.1 H1
    have HZ := Aside0.mk hz
    have H2 := Aside0.mk hH
    clear hz hH H H1
    have c0 : w2.cell? ⟨w.heap.size, 0, none⟩ = some (.int .i64 a0_0) := HI2.out.box.cell 0 _ rfl
    have c1 : w2.cell? ⟨w.heap.size, 1, none⟩ = some (.int .i64 a0_1) := HI2.out.box.cell 1 _ rfl
    have c2 : w2.cell? ⟨w.heap.size, 2, none⟩ = some (.int .i64 a0_2) := HI2.out.box.cell 2 _ rfl
    have c3 : w2.cell? ⟨w.heap.size, 3, none⟩ = some (.bool a0_3) := HI2.out.box.cell 3 _ rfl
    have c4 : w2.cell? ⟨w.heap.size, 4, none⟩ = some (.int .i64 a0_4) := HI2.out.box.cell 4 _ rfl
    have c5 : w2.cell? ⟨w.heap.size, 5, none⟩ = some (.slice A0_5 l0_5.length c0_5) := HI2.out.box.cell 5 _ rfl
    go_wp2_with fail
    refine (inode_none.calls a0_0 a0_1 a0_2 a0_3 a0_4 A0_5 c0_5 l0_5 z _ (Kd.C_below HC.out HI2.out.below) HC'.out HZ.out).mono ?_
    rintro e w3 ⟨rfl, hd⟩
    have HI3 := Aside0.mk (HI2.out.step hd)
    clear c0 c1 c2 c3 c4 c5
    clear hd HI2 HZ
    cases z with
    | true =>
      obtain ⟨rfl, rfl⟩ : List.replicate 128 0 = r1 ∧ 0 = r2 := by
        have h2 := H2.out
        rw [if_pos rfl] at h2
        injection h2 with h2
        injection h2 with h2 h3
        exact ⟨h2, h3⟩
      clear H2
      go_wp2
      go_ret2
      exact ⟨_, rfl, HI3.out.row, HI3.out.below⟩
    | false =>
      have H1 := H2.out
      rw [if_neg (by decide)] at H1
      obtain ⟨z, hz, hH⟩ := Option.bind_eq_some_iff.1 H1
      have HZ := Aside0.mk hz
      have H3 := Aside0.mk hH
      clear hz hH H2 H1
      have c0 : w3.cell? ⟨w.heap.size, 0, none⟩ = some (.int .i64 a0_0) := HI3.out.box.cell 0 _ rfl
      have c1 : w3.cell? ⟨w.heap.size, 1, none⟩ = some (.int .i64 a0_1) := HI3.out.box.cell 1 _ rfl
      have c2 : w3.cell? ⟨w.heap.size, 2, none⟩ = some (.int .i64 a0_2) := HI3.out.box.cell 2 _ rfl
      have c3 : w3.cell? ⟨w.heap.size, 3, none⟩ = some (.bool a0_3) := HI3.out.box.cell 3 _ rfl
      have c4 : w3.cell? ⟨w.heap.size, 4, none⟩ = some (.int .i64 a0_4) := HI3.out.box.cell 4 _ rfl
      have c5 : w3.cell? ⟨w.heap.size, 5, none⟩ = some (.slice A0_5 l0_5.length c0_5) := HI3.out.box.cell 5 _ rfl
      go_wp2_with fail
      refine (inode_Check.calls a0_0 a0_1 a0_2 a0_3 a0_4 A0_5 c0_5 l0_5 z _ (Kd.C_below HC.out HI3.out.below) HC'.out HZ.out).mono ?_
      rintro e w4 ⟨rfl, hd⟩
      have HI4 := Aside0.mk (HI3.out.step hd)
      clear c0 c1 c2 c3 c4 c5
      clear hd HI3
      by_cases hz : z = 0
      · rw [hz] at H3 HZ
        have hz1 : (z != 0) = false := by rw [hz]; rfl
        have HZ1 := Aside0.mk hz
        clear hz
        have H1 := H3.out
        rw [if_pos rfl] at H1
        obtain ⟨s, hs, hH⟩ := Option.bind_eq_some_iff.1 H1
        have HS := Aside0.mk hs
        have H4 := Aside0.mk hH
        have HL := Aside0.mk (inode_Check.len HZ.out)
        clear hs hH H3 H1 HZ
        have c0 : w4.cell? ⟨w.heap.size, 0, none⟩ = some (.int .i64 a0_0) := HI4.out.box.cell 0 _ rfl
        have c1 : w4.cell? ⟨w.heap.size, 1, none⟩ = some (.int .i64 a0_1) := HI4.out.box.cell 1 _ rfl
        have c2 : w4.cell? ⟨w.heap.size, 2, none⟩ = some (.int .i64 a0_2) := HI4.out.box.cell 2 _ rfl
        have c3 : w4.cell? ⟨w.heap.size, 3, none⟩ = some (.bool a0_3) := HI4.out.box.cell 3 _ rfl
        have c4 : w4.cell? ⟨w.heap.size, 4, none⟩ = some (.int .i64 a0_4) := HI4.out.box.cell 4 _ rfl
        have c5 : w4.cell? ⟨w.heap.size, 5, none⟩ = some (.slice A0_5 l0_5.length c0_5) := HI4.out.box.cell 5 _ rfl
        have k0 := HI4.out.cell 0 0 (by simp)
        have f0 := HI4.out.free 0
        (cases a0_3)
        · go_wp2_with ((with_reducible refine gate_store (t := 5) (p := 24) rfl ?_); refine store_event (t := 5) (p := 24) (v := ?vo_a) (w1 := w4.setCell ⟨g, (0 : Int).toNat, none⟩ (.int .u8 (a0_0 % 256))) ?hg ?ho ?hn ?hr ?_; (case ho => rfl); (case hg => rfl); (case hn => rfl); (case hr => first | (go_simp; done) | (go_simp; rfl)); intro w5 hw; have HI5 := Aside0.mk (HI4.out.put 0 (a0_0 % 256) hw); clear hw c0 c1 c2 c3 c4 c5 k0 f0; have c3 := HI5.out.box.cell 3 _ rfl; have k1 := HI5.out.cell 1 0 (by simp); have f1 := HI5.out.free 1)
          have HA : Aside0 (ino_inv w w5 5 24 (#[.int .i64 a0_0, .int .i64 a0_1, .int .i64 a0_2, .bool false, .int .i64 a0_4, .slice A0_5 l0_5.length c0_5]) g cap (ino_head a0_0 false)) := ⟨HI5.out⟩
          clear HI5
          have HAd := Aside0.mk (HA.out.step (below_drew1 (Below.refl _ _)))
          have hcz : ¬ cap = 2 := by omega
          refine start_ (n := 7) (S := (fun w' => w'.cell? ⟨w.heap.size, 1, none⟩ = some (.int .i64 a0_1))) (ds := []) #[false, false, false, false, false, false, false] (by kernel_rfl) rfl rfl (HAd.out.box.cell 1 _ rfl) (fun hHeld => ?_)
          generalize w5.drew = w5d at HAd hHeld ⊢
          clear HA
          refine pure_ (i := 0) (N := some 29) (v := ?_) (a' := ?_) #[true, false, false, false, false, false, false] rfl rfl (by kernel_rfl) (fun _ _ _ h => h) (Or.inl ⟨by rfl, ?_⟩) ?_ ?_
          rotate_left
          · intro w' 
            go_simp
            with_reducible rfl
          rotate_left
          · simp only [Act.put, List.setIfInBounds_toArray, List.set_cons_zero, List.set_cons_succ, i64_w, i32_w]
            rfl
          refine pure_ (i := 1) (N := some 30) (v := ?_) (a' := ?_) #[true, true, false, false, false, false, false] rfl rfl (by kernel_rfl) (fun _ _ _ h => h) (Or.inl ⟨by rfl, ?_⟩) ?_ ?_
          rotate_left
          · intro w' 
            go_simp
            with_reducible rfl
          rotate_left
          · simp only [Act.put, List.setIfInBounds_toArray, List.set_cons_zero, List.set_cons_succ, i64_w, i32_w]
            rfl
          clear hcz
          refine pure_ (i := 2) (N := some 31) (v := ?_) (a' := ?_) #[true, true, true, false, false, false, false] rfl rfl (by kernel_rfl) (fun _ _ _ h => h) (Or.inl ⟨by rfl, ?_⟩) ?_ ?_
          rotate_left
          · intro w' 
            go_simp
            with_reducible rfl
          rotate_left
          · simp only [Act.put, List.setIfInBounds_toArray, List.set_cons_zero, List.set_cons_succ, i64_w, i32_w]
            rfl
          refine take_ (i := 3) (N := some 32) (v := ?_) (a' := ?_) #[true, true, true, true, false, false, false] rfl rfl (by kernel_rfl) (fun _ _ _ h => h) (Or.inl ⟨by rfl, ?_⟩) hHeld ?_ ?_
          rotate_left
          · intro w' hs_
            go_simp
            with_reducible rfl
          rotate_left
          · simp only [Act.put, List.setIfInBounds_toArray, List.set_cons_zero, List.set_cons_succ, i64_w, i32_w]
            rfl
          refine pure_ (i := 4) (N := some 33) (v := ?_) (a' := ?_) #[true, true, true, true, true, false, false] rfl rfl (by kernel_rfl) (fun _ _ _ h => h) (Or.inl ⟨by rfl, ?_⟩) ?_ ?_
          rotate_left
          · intro w' 
            go_simp
            with_reducible rfl
          rotate_left
          · simp only [Act.put, List.setIfInBounds_toArray, List.set_cons_zero, List.set_cons_succ, i64_w, i32_w]
            rfl
          refine one_ (i := 5) (N := some 34) #[true, true, true, true, true, true, false] rfl rfl (by kernel_rfl) (by decide) (fun K hK => ?_)
          refine goes_ Try.func20 (by kernel_rfl) rfl #[.int .u64 (IntKind.u64.wrap a0_1), .int .i64 2] (by rfl) rfl rfl (by (try simp only [List.map_toArray, List.map_cons, List.map_nil]); first | done | rfl) ?_
          refine (crc_Bytes.calls 9 _ _ _ _ (ino_word2_bytes a0_1)).mono ?_
          rintro e w5c ⟨v, rfl, ho, hd⟩
          refine ⟨_, rfl, ?_⟩
          obtain ⟨g2, cap2, rfl, -, -, -⟩ := Kd.R_form ho (by rw [ino_word_length]; decide)
          have HAc := Aside0.mk (HAd.out.step hd)
          have HW := Aside0.mk (Kd.R_reads' ho).2.2
          clear ho hd HAd hHeld
          refine hK.out _ _ (HAc.out.box.cell 1 _ rfl) (fun hHeld => ?_)
          clear hK K
          refine norm_ (a' := ?_) ?_ ?_
          rotate_left
          · show Act.put _ (some 34) _ = _
            simp only [Act.put, List.setIfInBounds_toArray, List.set_cons_zero, List.set_cons_succ, i64_w, i32_w]
            rfl
          refine one_ (i := 6) (N := some 35) #[true, true, true, true, true, true, true] rfl rfl (by kernel_rfl) (by decide) (fun K hK => ?_)
          refine X.copy_step (P := Try.prog) .u8 w.heap.size (by rfl) rfl (.tmp 30) (.tmp 34) 22 22 5 rfl Try.underlying22 (by obtain ⟨i, hi, _, hs, _⟩ := info_parts info5; rw [hi]; exact congrArg some hs) g 128 cap 2 126 (cap - 2) (some ⟨g2, 0, none⟩) (ino_word 2 a0_1).length cap2 _ (ino_word 2 a0_1) (fun _ => True) rfl rfl HAc.out.row HW.out (by rw [ino_word_length]; decide) (by rw [ino_word_length]; decide) HAc.out.below HAc.out.below.size ?_
          intro w5n hr9 hb9 hg9
          have HAn : Aside0 (ino_inv w w5n 5 24 (#[.int .i64 a0_0, .int .i64 a0_1, .int .i64 a0_2, .bool false, .int .i64 a0_4, .slice A0_5 l0_5.length c0_5]) g cap (ino_1 a0_0 a0_1 false)) := ⟨HAc.out.grown hr9 hg9⟩
          clear hr9 hb9 hg9
          refine hK.out _ _ (HAn.out.box.cell 1 _ rfl) (fun hHeld => ?_)
          clear hK K
          refine norm_ (a' := ?_) ?_ ?_
          rotate_left
          · show Act.put _ (some 35) _ = _
            simp only [Act.put, List.setIfInBounds_toArray, List.set_cons_zero, List.set_cons_succ, i64_w, i32_w]
            rfl
          clear hHeld HW HAc
          refine done_ (by kernel_rfl) ?_
          go_wp2_with fail
          have HAnd := Aside0.mk (HAn.out.step (below_drew1 (Below.refl _ _)))
          have hcz : ¬ cap = 4 := by omega
          refine start_ (n := 7) (S := (fun w' => w'.cell? ⟨w.heap.size, 2, none⟩ = some (.int .i64 a0_2))) (ds := []) #[false, false, false, false, false, false, false] (by kernel_rfl) rfl rfl (HAnd.out.box.cell 2 _ rfl) (fun hHeld => ?_)
          generalize w5n.drew = w5nd at HAnd hHeld ⊢
          clear HAn
          refine pure_ (i := 0) (N := some 36) (v := ?_) (a' := ?_) #[true, false, false, false, false, false, false] rfl rfl (by kernel_rfl) (fun _ _ _ h => h) (Or.inl ⟨by rfl, ?_⟩) ?_ ?_
          rotate_left
          · intro w' 
            go_simp
            with_reducible rfl
          rotate_left
          · simp only [Act.put, List.setIfInBounds_toArray, List.set_cons_zero, List.set_cons_succ, i64_w, i32_w]
            rfl
          refine pure_ (i := 1) (N := some 37) (v := ?_) (a' := ?_) #[true, true, false, false, false, false, false] rfl rfl (by kernel_rfl) (fun _ _ _ h => h) (Or.inl ⟨by rfl, ?_⟩) ?_ ?_
          rotate_left
          · intro w' 
            go_simp
            with_reducible rfl
          rotate_left
          · simp only [Act.put, List.setIfInBounds_toArray, List.set_cons_zero, List.set_cons_succ, i64_w, i32_w]
            rfl
          clear hcz
          refine pure_ (i := 2) (N := some 38) (v := ?_) (a' := ?_) #[true, true, true, false, false, false, false] rfl rfl (by kernel_rfl) (fun _ _ _ h => h) (Or.inl ⟨by rfl, ?_⟩) ?_ ?_
          rotate_left
          · intro w' 
            go_simp
            with_reducible rfl
          rotate_left
          · simp only [Act.put, List.setIfInBounds_toArray, List.set_cons_zero, List.set_cons_succ, i64_w, i32_w]
            rfl
          refine take_ (i := 3) (N := some 39) (v := ?_) (a' := ?_) #[true, true, true, true, false, false, false] rfl rfl (by kernel_rfl) (fun _ _ _ h => h) (Or.inl ⟨by rfl, ?_⟩) hHeld ?_ ?_
          rotate_left
          · intro w' hs_
            go_simp
            with_reducible rfl
          rotate_left
          · simp only [Act.put, List.setIfInBounds_toArray, List.set_cons_zero, List.set_cons_succ, i64_w, i32_w]
            rfl
          refine pure_ (i := 4) (N := some 40) (v := ?_) (a' := ?_) #[true, true, true, true, true, false, false] rfl rfl (by kernel_rfl) (fun _ _ _ h => h) (Or.inl ⟨by rfl, ?_⟩) ?_ ?_
          rotate_left
          · intro w' 
            go_simp
            with_reducible rfl
          rotate_left
          · simp only [Act.put, List.setIfInBounds_toArray, List.set_cons_zero, List.set_cons_succ, i64_w, i32_w]
            rfl
          refine one_ (i := 5) (N := some 41) #[true, true, true, true, true, true, false] rfl rfl (by kernel_rfl) (by decide) (fun K hK => ?_)
          refine goes_ Try.func20 (by kernel_rfl) rfl #[.int .u64 (IntKind.u64.wrap a0_2), .int .i64 4] (by rfl) rfl rfl (by (try simp only [List.map_toArray, List.map_cons, List.map_nil]); first | done | rfl) ?_
          refine (crc_Bytes.calls 9 _ _ _ _ (ino_word4_bytes a0_2)).mono ?_
          rintro e w5nc ⟨v, rfl, ho, hd⟩
          refine ⟨_, rfl, ?_⟩
          obtain ⟨g2, cap2, rfl, -, -, -⟩ := Kd.R_form ho (by rw [ino_word_length]; decide)
          have HAnc := Aside0.mk (HAnd.out.step hd)
          have HW := Aside0.mk (Kd.R_reads' ho).2.2
          clear ho hd HAnd hHeld
          refine hK.out _ _ (HAnc.out.box.cell 2 _ rfl) (fun hHeld => ?_)
          clear hK K
          refine norm_ (a' := ?_) ?_ ?_
          rotate_left
          · show Act.put _ (some 41) _ = _
            simp only [Act.put, List.setIfInBounds_toArray, List.set_cons_zero, List.set_cons_succ, i64_w, i32_w]
            rfl
          refine one_ (i := 6) (N := some 42) #[true, true, true, true, true, true, true] rfl rfl (by kernel_rfl) (by decide) (fun K hK => ?_)
          refine X.copy_step (P := Try.prog) .u8 w.heap.size (by rfl) rfl (.tmp 37) (.tmp 41) 22 22 5 rfl Try.underlying22 (by obtain ⟨i, hi, _, hs, _⟩ := info_parts info5; rw [hi]; exact congrArg some hs) g 128 cap 4 124 (cap - 4) (some ⟨g2, 0, none⟩) (ino_word 4 a0_2).length cap2 _ (ino_word 4 a0_2) (fun _ => True) rfl rfl HAnc.out.row HW.out (by rw [ino_word_length]; decide) (by rw [ino_word_length]; decide) HAnc.out.below HAnc.out.below.size ?_
          intro w5nn hr9 hb9 hg9
          have HAnn : Aside0 (ino_inv w w5nn 5 24 (#[.int .i64 a0_0, .int .i64 a0_1, .int .i64 a0_2, .bool false, .int .i64 a0_4, .slice A0_5 l0_5.length c0_5]) g cap (ino_2 a0_0 a0_1 a0_2 false)) := ⟨HAnc.out.grown hr9 hg9⟩
          clear hr9 hb9 hg9
          refine hK.out _ _ (HAnn.out.box.cell 2 _ rfl) (fun hHeld => ?_)
          clear hK K
          refine norm_ (a' := ?_) ?_ ?_
          rotate_left
          · show Act.put _ (some 42) _ = _
            simp only [Act.put, List.setIfInBounds_toArray, List.set_cons_zero, List.set_cons_succ, i64_w, i32_w]
            rfl
          clear hHeld HW HAnc
          refine done_ (by kernel_rfl) ?_
          go_wp2_with fail
          have HAnnd := Aside0.mk (HAnn.out.step (below_drew1 (Below.refl _ _)))
          have hcz : ¬ cap = 8 := by omega
          refine start_ (n := 7) (S := (fun w' => w'.cell? ⟨w.heap.size, 4, none⟩ = some (.int .i64 a0_4))) (ds := []) #[false, false, false, false, false, false, false] (by kernel_rfl) rfl rfl (HAnnd.out.box.cell 4 _ rfl) (fun hHeld => ?_)
          generalize w5nn.drew = w5nnd at HAnnd hHeld ⊢
          clear HAnn
          refine pure_ (i := 0) (N := some 43) (v := ?_) (a' := ?_) #[true, false, false, false, false, false, false] rfl rfl (by kernel_rfl) (fun _ _ _ h => h) (Or.inl ⟨by rfl, ?_⟩) ?_ ?_
          rotate_left
          · intro w' 
            go_simp
            with_reducible rfl
          rotate_left
          · simp only [Act.put, List.setIfInBounds_toArray, List.set_cons_zero, List.set_cons_succ, i64_w, i32_w]
            rfl
          refine pure_ (i := 1) (N := some 44) (v := ?_) (a' := ?_) #[true, true, false, false, false, false, false] rfl rfl (by kernel_rfl) (fun _ _ _ h => h) (Or.inl ⟨by rfl, ?_⟩) ?_ ?_
          rotate_left
          · intro w' 
            go_simp
            with_reducible rfl
          rotate_left
          · simp only [Act.put, List.setIfInBounds_toArray, List.set_cons_zero, List.set_cons_succ, i64_w, i32_w]
            rfl
          clear hcz
          refine pure_ (i := 2) (N := some 45) (v := ?_) (a' := ?_) #[true, true, true, false, false, false, false] rfl rfl (by kernel_rfl) (fun _ _ _ h => h) (Or.inl ⟨by rfl, ?_⟩) ?_ ?_
          rotate_left
          · intro w' 
            go_simp
            with_reducible rfl
          rotate_left
          · simp only [Act.put, List.setIfInBounds_toArray, List.set_cons_zero, List.set_cons_succ, i64_w, i32_w]
            rfl
          refine take_ (i := 3) (N := some 46) (v := ?_) (a' := ?_) #[true, true, true, true, false, false, false] rfl rfl (by kernel_rfl) (fun _ _ _ h => h) (Or.inl ⟨by rfl, ?_⟩) hHeld ?_ ?_
          rotate_left
          · intro w' hs_
            go_simp
            with_reducible rfl
          rotate_left
          · simp only [Act.put, List.setIfInBounds_toArray, List.set_cons_zero, List.set_cons_succ, i64_w, i32_w]
            rfl
          refine pure_ (i := 4) (N := some 47) (v := ?_) (a' := ?_) #[true, true, true, true, true, false, false] rfl rfl (by kernel_rfl) (fun _ _ _ h => h) (Or.inl ⟨by rfl, ?_⟩) ?_ ?_
          rotate_left
          · intro w' 
            go_simp
            with_reducible rfl
          rotate_left
          · simp only [Act.put, List.setIfInBounds_toArray, List.set_cons_zero, List.set_cons_succ, i64_w, i32_w]
            rfl
          refine one_ (i := 5) (N := some 48) #[true, true, true, true, true, true, false] rfl rfl (by kernel_rfl) (by decide) (fun K hK => ?_)
          refine goes_ Try.func20 (by kernel_rfl) rfl #[.int .u64 (IntKind.u64.wrap a0_4), .int .i64 4] (by rfl) rfl rfl (by (try simp only [List.map_toArray, List.map_cons, List.map_nil]); first | done | rfl) ?_
          refine (crc_Bytes.calls 9 _ _ _ _ (ino_word4_bytes a0_4)).mono ?_
          rintro e w5nnc ⟨v, rfl, ho, hd⟩
          refine ⟨_, rfl, ?_⟩
          obtain ⟨g2, cap2, rfl, -, -, -⟩ := Kd.R_form ho (by rw [ino_word_length]; decide)
          have HAnnc := Aside0.mk (HAnnd.out.step hd)
          have HW := Aside0.mk (Kd.R_reads' ho).2.2
          clear ho hd HAnnd hHeld
          refine hK.out _ _ (HAnnc.out.box.cell 4 _ rfl) (fun hHeld => ?_)
          clear hK K
          refine norm_ (a' := ?_) ?_ ?_
          rotate_left
          · show Act.put _ (some 48) _ = _
            simp only [Act.put, List.setIfInBounds_toArray, List.set_cons_zero, List.set_cons_succ, i64_w, i32_w]
            rfl
          refine one_ (i := 6) (N := some 49) #[true, true, true, true, true, true, true] rfl rfl (by kernel_rfl) (by decide) (fun K hK => ?_)
          refine X.copy_step (P := Try.prog) .u8 w.heap.size (by rfl) rfl (.tmp 44) (.tmp 48) 22 22 5 rfl Try.underlying22 (by obtain ⟨i, hi, _, hs, _⟩ := info_parts info5; rw [hi]; exact congrArg some hs) g 128 cap 8 120 (cap - 8) (some ⟨g2, 0, none⟩) (ino_word 4 a0_4).length cap2 _ (ino_word 4 a0_4) (fun _ => True) rfl rfl HAnnc.out.row HW.out (by rw [ino_word_length]; decide) (by rw [ino_word_length]; decide) HAnnc.out.below HAnnc.out.below.size ?_
          intro w5nnn hr9 hb9 hg9
          have HAnnn : Aside0 (ino_inv w w5nnn 5 24 (#[.int .i64 a0_0, .int .i64 a0_1, .int .i64 a0_2, .bool false, .int .i64 a0_4, .slice A0_5 l0_5.length c0_5]) g cap (ino_3 a0_0 a0_1 a0_2 false a0_4)) := ⟨HAnnc.out.grown hr9 hg9⟩
          clear hr9 hb9 hg9
          refine hK.out _ _ (HAnnn.out.box.cell 4 _ rfl) (fun hHeld => ?_)
          clear hK K
          refine norm_ (a' := ?_) ?_ ?_
          rotate_left
          · show Act.put _ (some 49) _ = _
            simp only [Act.put, List.setIfInBounds_toArray, List.set_cons_zero, List.set_cons_succ, i64_w, i32_w]
            rfl
          clear hHeld HW HAnnc
          refine done_ (by kernel_rfl) ?_
          go_wp2_with fail
          have HAnnnd := Aside0.mk (HAnnn.out.step (below_drew1 (Below.refl _ _)))
          have hcz : ¬ cap = 12 := by omega
          refine start_ (n := 5) (S := (fun w' => w'.cell? ⟨w.heap.size, 5, none⟩ = some (.slice A0_5 l0_5.length c0_5))) (ds := []) #[false, false, false, false, false] (by kernel_rfl) rfl rfl (HAnnnd.out.box.cell 5 _ rfl) (fun hHeld => ?_)
          generalize w5nnn.drew = w5nnnd at HAnnnd hHeld ⊢
          clear HAnnn
          refine pure_ (i := 0) (N := some 50) (v := ?_) (a' := ?_) #[true, false, false, false, false] rfl rfl (by kernel_rfl) (fun _ _ _ h => h) (Or.inl ⟨by rfl, ?_⟩) ?_ ?_
          rotate_left
          · intro w' 
            go_simp
            with_reducible rfl
          rotate_left
          · simp only [Act.put, List.setIfInBounds_toArray, List.set_cons_zero, List.set_cons_succ, i64_w, i32_w]
            rfl
          refine pure_ (i := 1) (N := some 51) (v := ?_) (a' := ?_) #[true, true, false, false, false] rfl rfl (by kernel_rfl) (fun _ _ _ h => h) (Or.inl ⟨by rfl, ?_⟩) ?_ ?_
          rotate_left
          · intro w' 
            go_simp
            with_reducible rfl
          rotate_left
          · simp only [Act.put, List.setIfInBounds_toArray, List.set_cons_zero, List.set_cons_succ, i64_w, i32_w]
            rfl
          clear hcz
          refine pure_ (i := 2) (N := some 52) (v := ?_) (a' := ?_) #[true, true, true, false, false] rfl rfl (by kernel_rfl) (fun _ _ _ h => h) (Or.inl ⟨by rfl, ?_⟩) ?_ ?_
          rotate_left
          · intro w' 
            go_simp
            with_reducible rfl
          rotate_left
          · simp only [Act.put, List.setIfInBounds_toArray, List.set_cons_zero, List.set_cons_succ, i64_w, i32_w]
            rfl
          refine take_ (i := 3) (N := some 53) (v := ?_) (a' := ?_) #[true, true, true, true, false] rfl rfl (by kernel_rfl) (fun _ _ _ h => h) (Or.inl ⟨by rfl, ?_⟩) hHeld ?_ ?_
          rotate_left
          · intro w' hs_
            go_simp
            with_reducible rfl
          rotate_left
          · simp only [Act.put, List.setIfInBounds_toArray, List.set_cons_zero, List.set_cons_succ, i64_w, i32_w]
            rfl
          refine one_ (i := 4) (N := some 54) #[true, true, true, true, true] rfl rfl (by kernel_rfl) (by decide) (fun K hK => ?_)
          refine X.copy_step (P := Try.prog) .u8 w.heap.size (by rfl) rfl (.tmp 51) (.tmp 53) 22 22 5 rfl Try.underlying22 (by obtain ⟨i, hi, _, hs, _⟩ := info_parts info5; rw [hi]; exact congrArg some hs) g 128 cap 12 116 (cap - 12) A0_5 l0_5.length c0_5 _ l0_5 (fun _ => True) rfl rfl HAnnnd.out.row (Kd.C_below HC.out HAnnnd.out.below) (by rw [HL.out]; decide) (by rw [HL.out]; decide) HAnnnd.out.below HAnnnd.out.below.size ?_
          intro w5nnnn hr9 hb9 hg9
          have HAnnnn : Aside0 (ino_inv w w5nnnn 5 24 (#[.int .i64 a0_0, .int .i64 a0_1, .int .i64 a0_2, .bool false, .int .i64 a0_4, .slice A0_5 l0_5.length c0_5]) g cap (ino_body a0_0 a0_1 a0_2 false a0_4 l0_5)) := ⟨HAnnnd.out.grown hr9 hg9⟩
          clear hr9 hb9 hg9
          refine hK.out _ _ (HAnnnn.out.box.cell 5 _ rfl) (fun hHeld => ?_)
          clear hK K
          refine norm_ (a' := ?_) ?_ ?_
          rotate_left
          · show Act.put _ (some 54) _ = _
            simp only [Act.put, List.setIfInBounds_toArray, List.set_cons_zero, List.set_cons_succ, i64_w, i32_w]
            rfl
          clear hHeld HAnnnd
          refine done_ (by kernel_rfl) ?_
          go_wp2_with fail
          have HAnnnnd := Aside0.mk (HAnnnn.out.step (below_drew1 (Below.refl _ _)))
          have hcz : ¬ cap = 124 := by omega
          refine start_ (n := 7) (S := (fun _ => True)) (ds := []) #[false, false, false, false, false, false, false] (by kernel_rfl) rfl rfl trivial (fun hHeld => ?_)
          generalize w5nnnn.drew = w5nnnnd at HAnnnnd hHeld ⊢
          clear HAnnnn
          refine pure_ (i := 0) (N := some 55) (v := ?_) (a' := ?_) #[true, false, false, false, false, false, false] rfl rfl (by kernel_rfl) (fun _ _ _ h => h) (Or.inl ⟨by rfl, ?_⟩) ?_ ?_
          rotate_left
          · intro w' 
            go_simp
            with_reducible rfl
          rotate_left
          · simp only [Act.put, List.setIfInBounds_toArray, List.set_cons_zero, List.set_cons_succ, i64_w, i32_w]
            rfl
          refine pure_ (i := 1) (N := some 56) (v := ?_) (a' := ?_) #[true, true, false, false, false, false, false] rfl rfl (by kernel_rfl) (fun _ _ _ h => h) (Or.inl ⟨by rfl, ?_⟩) ?_ ?_
          rotate_left
          · intro w' 
            go_simp
            with_reducible rfl
          rotate_left
          · simp only [Act.put, List.setIfInBounds_toArray, List.set_cons_zero, List.set_cons_succ, i64_w, i32_w]
            rfl
          clear hcz
          refine pure_ (i := 2) (N := some 57) (v := ?_) (a' := ?_) #[true, true, true, false, false, false, false] rfl rfl (by kernel_rfl) (fun _ _ _ h => h) (Or.inl ⟨by rfl, ?_⟩) ?_ ?_
          rotate_left
          · intro w' 
            go_simp
            with_reducible rfl
          rotate_left
          · simp only [Act.put, List.setIfInBounds_toArray, List.set_cons_zero, List.set_cons_succ, i64_w, i32_w]
            rfl
          refine pure_ (i := 3) (N := some 58) (v := ?_) (a' := ?_) #[true, true, true, true, false, false, false] rfl rfl (by kernel_rfl) (fun _ _ _ h => h) (Or.inl ⟨by rfl, ?_⟩) ?_ ?_
          rotate_left
          · intro w' 
            go_simp
            with_reducible rfl
          rotate_left
          · simp only [Act.put, List.setIfInBounds_toArray, List.set_cons_zero, List.set_cons_succ, i64_w, i32_w]
            rfl
          have hsum := (by have h_ := inode_sum.calls 9 (some ⟨g, 0, none⟩) cap (ino_body a0_0 a0_1 a0_2 false a0_4 l0_5) a1 s w5nnnnd (Kd.R_reads' HAnnnnd.out.row).2.2 (by rw [ino_body_length _ _ _ _ _ _ HL.out]; exact hcap) HS.out; rw [ino_body_length _ _ _ _ _ _ HL.out] at h_; exact h_)
          refine one_ (i := 4) (N := some 59) #[true, true, true, true, true, false, false] rfl rfl (by kernel_rfl) (by decide) (fun K hK => ?_)
          refine goes_ Try.func21 (by kernel_rfl) rfl #[.slice (some ⟨g, 0, none⟩) 128 cap, .int .i64 a1] (by rfl) rfl rfl (by (try simp only [List.map_toArray, List.map_cons, List.map_nil]); first | done | rfl) ?_
          refine (hsum).mono ?_
          rintro e w5nnnns ⟨rfl, hd⟩
          refine ⟨_, rfl, ?_⟩
          have HAnnnns := Aside0.mk (HAnnnnd.out.step hd)
          clear hsum hd HAnnnnd hHeld
          refine hK.out _ _ trivial (fun hHeld => ?_)
          clear hK K
          refine norm_ (a' := ?_) ?_ ?_
          rotate_left
          · show Act.put _ (some 59) _ = _
            simp only [Act.put, List.setIfInBounds_toArray, List.set_cons_zero, List.set_cons_succ, i64_w, i32_w]
            rfl
          refine one_ (i := 5) (N := some 60) #[true, true, true, true, true, true, false] rfl rfl (by kernel_rfl) (by decide) (fun K hK => ?_)
          refine goes_ Try.func20 (by kernel_rfl) rfl #[.int .u64 s, .int .i64 4] (by rfl) rfl rfl (by (try simp only [List.map_toArray, List.map_cons, List.map_nil]); first | done | rfl) ?_
          refine (crc_Bytes.calls 9 s 4 _ _ (inode_sum.bytes HS.out)).mono ?_
          rintro e w5nnnnb ⟨v, rfl, ho, hd⟩
          refine ⟨_, rfl, ?_⟩
          obtain ⟨g2, cap2, rfl, -, -, -⟩ := Kd.R_form ho (by rw [ino_word_length]; decide)
          have HAnnnnb := Aside0.mk (HAnnnns.out.step hd)
          have HW := Aside0.mk (Kd.R_reads' ho).2.2
          clear ho hd HAnnnns hHeld
          refine hK.out _ _ trivial (fun hHeld => ?_)
          clear hK K
          refine norm_ (a' := ?_) ?_ ?_
          rotate_left
          · show Act.put _ (some 60) _ = _
            simp only [Act.put, List.setIfInBounds_toArray, List.set_cons_zero, List.set_cons_succ, i64_w, i32_w]
            rfl
          refine one_ (i := 6) (N := some 61) #[true, true, true, true, true, true, true] rfl rfl (by kernel_rfl) (by decide) (fun K hK => ?_)
          refine X.copy_step (P := Try.prog) .u8 w.heap.size (by rfl) rfl (.tmp 56) (.tmp 60) 22 22 5 rfl Try.underlying22 (by obtain ⟨i, hi, _, hs, _⟩ := info_parts info5; rw [hi]; exact congrArg some hs) g 128 cap 124 4 (cap - 124) (some ⟨g2, 0, none⟩) (ino_word 4 s).length cap2 _ (ino_word 4 s) (fun _ => True) rfl rfl HAnnnnb.out.row HW.out (by rw [ino_word_length]; decide) (by rw [ino_word_length]; decide) HAnnnnb.out.below HAnnnnb.out.below.size ?_
          intro w5nnnnn hr9 hb9 hg9
          have HAnnnnn : Aside0 (ino_inv w w5nnnnn 5 24 (#[.int .i64 a0_0, .int .i64 a0_1, .int .i64 a0_2, .bool false, .int .i64 a0_4, .slice A0_5 l0_5.length c0_5]) g cap (X.lay (ino_body a0_0 a0_1 a0_2 false a0_4 l0_5) 124 (ino_word 4 s))) := ⟨HAnnnnb.out.grown hr9 hg9⟩
          clear hr9 hb9 hg9
          refine hK.out _ _ trivial (fun hHeld => ?_)
          clear hK K
          refine norm_ (a' := ?_) ?_ ?_
          rotate_left
          · show Act.put _ (some 61) _ = _
            simp only [Act.put, List.setIfInBounds_toArray, List.set_cons_zero, List.set_cons_succ, i64_w, i32_w]
            rfl
          clear hHeld HW HAnnnnb
          refine done_ (by kernel_rfl) ?_
          go_wp2_with fail
          go_ret2
          obtain ⟨rfl, rfl⟩ : X.lay (ino_body a0_0 a0_1 a0_2 false a0_4 l0_5) 124 (ino_word 4 s) = r1 ∧ 0 = r2 := by
            have h2 := H4.out
            injection h2 with h2
            injection h2 with h2 h3
            exact ⟨h2, h3⟩
          exact ⟨_, rfl, HAnnnnn.out.row, HAnnnnn.out.below⟩
        · go_wp2_with (first | ((with_reducible refine gate_store (t := 5) (p := 24) rfl ?_); refine store_event (t := 5) (p := 24) (v := ?vo_a) (w1 := w4.setCell ⟨g, (0 : Int).toNat, none⟩ (.int .u8 (a0_0 % 256))) ?hg ?ho ?hn ?hr ?_; (case ho => rfl); (case hg => rfl); (case hn => rfl); (case hr => first | (go_simp; done) | (go_simp; rfl)); intro w5 hw; have HI5 := Aside0.mk (HI4.out.put 0 (a0_0 % 256) hw); clear hw c0 c1 c2 c3 c4 c5 k0 f0; have c3 := HI5.out.box.cell 3 _ rfl; have k1 := HI5.out.cell 1 0 (by simp); have f1 := HI5.out.free 1) | ((with_reducible refine gate_store (t := 5) (p := 28) rfl ?_); refine store_event (t := 5) (p := 28) (v := ?vo_b) (w1 := w5.setCell ⟨g, (1 : Int).toNat, none⟩ (.int .u8 1)) ?hg ?ho ?hn ?hr ?_; (case ho => rfl); (case hg => rfl); (case hn => rfl); (case hr => first | (go_simp; done) | (go_simp; rfl)); intro w6 hw; have HI6 := Aside0.mk (HI5.out.put 1 1 hw); clear hw c3 k1 f1))
          have HA : Aside0 (ino_inv w w6 5 24 (#[.int .i64 a0_0, .int .i64 a0_1, .int .i64 a0_2, .bool true, .int .i64 a0_4, .slice A0_5 l0_5.length c0_5]) g cap (ino_head a0_0 true)) := ⟨HI6.out⟩
          clear HI6
          have HAd := Aside0.mk (HA.out.step (below_drew1 (Below.refl _ _)))
          have hcz : ¬ cap = 2 := by omega
          refine start_ (n := 7) (S := (fun w' => w'.cell? ⟨w.heap.size, 1, none⟩ = some (.int .i64 a0_1))) (ds := []) #[false, false, false, false, false, false, false] (by kernel_rfl) rfl rfl (HAd.out.box.cell 1 _ rfl) (fun hHeld => ?_)
          generalize w6.drew = w6d at HAd hHeld ⊢
          clear HA
          refine pure_ (i := 0) (N := some 29) (v := ?_) (a' := ?_) #[true, false, false, false, false, false, false] rfl rfl (by kernel_rfl) (fun _ _ _ h => h) (Or.inl ⟨by rfl, ?_⟩) ?_ ?_
          rotate_left
          · intro w' 
            go_simp
            with_reducible rfl
          rotate_left
          · simp only [Act.put, List.setIfInBounds_toArray, List.set_cons_zero, List.set_cons_succ, i64_w, i32_w]
            rfl
          refine pure_ (i := 1) (N := some 30) (v := ?_) (a' := ?_) #[true, true, false, false, false, false, false] rfl rfl (by kernel_rfl) (fun _ _ _ h => h) (Or.inl ⟨by rfl, ?_⟩) ?_ ?_
          rotate_left
          · intro w' 
            go_simp
            with_reducible rfl
          rotate_left
          · simp only [Act.put, List.setIfInBounds_toArray, List.set_cons_zero, List.set_cons_succ, i64_w, i32_w]
            rfl
          clear hcz
          refine pure_ (i := 2) (N := some 31) (v := ?_) (a' := ?_) #[true, true, true, false, false, false, false] rfl rfl (by kernel_rfl) (fun _ _ _ h => h) (Or.inl ⟨by rfl, ?_⟩) ?_ ?_
          rotate_left
          · intro w' 
            go_simp
            with_reducible rfl
          rotate_left
          · simp only [Act.put, List.setIfInBounds_toArray, List.set_cons_zero, List.set_cons_succ, i64_w, i32_w]
            rfl
          refine take_ (i := 3) (N := some 32) (v := ?_) (a' := ?_) #[true, true, true, true, false, false, false] rfl rfl (by kernel_rfl) (fun _ _ _ h => h) (Or.inl ⟨by rfl, ?_⟩) hHeld ?_ ?_
          rotate_left
          · intro w' hs_
            go_simp
            with_reducible rfl
          rotate_left
          · simp only [Act.put, List.setIfInBounds_toArray, List.set_cons_zero, List.set_cons_succ, i64_w, i32_w]
            rfl
          refine pure_ (i := 4) (N := some 33) (v := ?_) (a' := ?_) #[true, true, true, true, true, false, false] rfl rfl (by kernel_rfl) (fun _ _ _ h => h) (Or.inl ⟨by rfl, ?_⟩) ?_ ?_
          rotate_left
          · intro w' 
            go_simp
            with_reducible rfl
          rotate_left
          · simp only [Act.put, List.setIfInBounds_toArray, List.set_cons_zero, List.set_cons_succ, i64_w, i32_w]
            rfl
          refine one_ (i := 5) (N := some 34) #[true, true, true, true, true, true, false] rfl rfl (by kernel_rfl) (by decide) (fun K hK => ?_)
          refine goes_ Try.func20 (by kernel_rfl) rfl #[.int .u64 (IntKind.u64.wrap a0_1), .int .i64 2] (by rfl) rfl rfl (by (try simp only [List.map_toArray, List.map_cons, List.map_nil]); first | done | rfl) ?_
          refine (crc_Bytes.calls 9 _ _ _ _ (ino_word2_bytes a0_1)).mono ?_
          rintro e w6c ⟨v, rfl, ho, hd⟩
          refine ⟨_, rfl, ?_⟩
          obtain ⟨g2, cap2, rfl, -, -, -⟩ := Kd.R_form ho (by rw [ino_word_length]; decide)
          have HAc := Aside0.mk (HAd.out.step hd)
          have HW := Aside0.mk (Kd.R_reads' ho).2.2
          clear ho hd HAd hHeld
          refine hK.out _ _ (HAc.out.box.cell 1 _ rfl) (fun hHeld => ?_)
          clear hK K
          refine norm_ (a' := ?_) ?_ ?_
          rotate_left
          · show Act.put _ (some 34) _ = _
            simp only [Act.put, List.setIfInBounds_toArray, List.set_cons_zero, List.set_cons_succ, i64_w, i32_w]
            rfl
          refine one_ (i := 6) (N := some 35) #[true, true, true, true, true, true, true] rfl rfl (by kernel_rfl) (by decide) (fun K hK => ?_)
          refine X.copy_step (P := Try.prog) .u8 w.heap.size (by rfl) rfl (.tmp 30) (.tmp 34) 22 22 5 rfl Try.underlying22 (by obtain ⟨i, hi, _, hs, _⟩ := info_parts info5; rw [hi]; exact congrArg some hs) g 128 cap 2 126 (cap - 2) (some ⟨g2, 0, none⟩) (ino_word 2 a0_1).length cap2 _ (ino_word 2 a0_1) (fun _ => True) rfl rfl HAc.out.row HW.out (by rw [ino_word_length]; decide) (by rw [ino_word_length]; decide) HAc.out.below HAc.out.below.size ?_
          intro w6n hr9 hb9 hg9
          have HAn : Aside0 (ino_inv w w6n 5 24 (#[.int .i64 a0_0, .int .i64 a0_1, .int .i64 a0_2, .bool true, .int .i64 a0_4, .slice A0_5 l0_5.length c0_5]) g cap (ino_1 a0_0 a0_1 true)) := ⟨HAc.out.grown hr9 hg9⟩
          clear hr9 hb9 hg9
          refine hK.out _ _ (HAn.out.box.cell 1 _ rfl) (fun hHeld => ?_)
          clear hK K
          refine norm_ (a' := ?_) ?_ ?_
          rotate_left
          · show Act.put _ (some 35) _ = _
            simp only [Act.put, List.setIfInBounds_toArray, List.set_cons_zero, List.set_cons_succ, i64_w, i32_w]
            rfl
          clear hHeld HW HAc
          refine done_ (by kernel_rfl) ?_
          go_wp2_with fail
          have HAnd := Aside0.mk (HAn.out.step (below_drew1 (Below.refl _ _)))
          have hcz : ¬ cap = 4 := by omega
          refine start_ (n := 7) (S := (fun w' => w'.cell? ⟨w.heap.size, 2, none⟩ = some (.int .i64 a0_2))) (ds := []) #[false, false, false, false, false, false, false] (by kernel_rfl) rfl rfl (HAnd.out.box.cell 2 _ rfl) (fun hHeld => ?_)
          generalize w6n.drew = w6nd at HAnd hHeld ⊢
          clear HAn
          refine pure_ (i := 0) (N := some 36) (v := ?_) (a' := ?_) #[true, false, false, false, false, false, false] rfl rfl (by kernel_rfl) (fun _ _ _ h => h) (Or.inl ⟨by rfl, ?_⟩) ?_ ?_
          rotate_left
          · intro w' 
            go_simp
            with_reducible rfl
          rotate_left
          · simp only [Act.put, List.setIfInBounds_toArray, List.set_cons_zero, List.set_cons_succ, i64_w, i32_w]
            rfl
          refine pure_ (i := 1) (N := some 37) (v := ?_) (a' := ?_) #[true, true, false, false, false, false, false] rfl rfl (by kernel_rfl) (fun _ _ _ h => h) (Or.inl ⟨by rfl, ?_⟩) ?_ ?_
          rotate_left
          · intro w' 
            go_simp
            with_reducible rfl
          rotate_left
          · simp only [Act.put, List.setIfInBounds_toArray, List.set_cons_zero, List.set_cons_succ, i64_w, i32_w]
            rfl
          clear hcz
          refine pure_ (i := 2) (N := some 38) (v := ?_) (a' := ?_) #[true, true, true, false, false, false, false] rfl rfl (by kernel_rfl) (fun _ _ _ h => h) (Or.inl ⟨by rfl, ?_⟩) ?_ ?_
          rotate_left
          · intro w' 
            go_simp
            with_reducible rfl
          rotate_left
          · simp only [Act.put, List.setIfInBounds_toArray, List.set_cons_zero, List.set_cons_succ, i64_w, i32_w]
            rfl
          refine take_ (i := 3) (N := some 39) (v := ?_) (a' := ?_) #[true, true, true, true, false, false, false] rfl rfl (by kernel_rfl) (fun _ _ _ h => h) (Or.inl ⟨by rfl, ?_⟩) hHeld ?_ ?_
          rotate_left
          · intro w' hs_
            go_simp
            with_reducible rfl
          rotate_left
          · simp only [Act.put, List.setIfInBounds_toArray, List.set_cons_zero, List.set_cons_succ, i64_w, i32_w]
            rfl
          refine pure_ (i := 4) (N := some 40) (v := ?_) (a' := ?_) #[true, true, true, true, true, false, false] rfl rfl (by kernel_rfl) (fun _ _ _ h => h) (Or.inl ⟨by rfl, ?_⟩) ?_ ?_
          rotate_left
          · intro w' 
            go_simp
            with_reducible rfl
          rotate_left
          · simp only [Act.put, List.setIfInBounds_toArray, List.set_cons_zero, List.set_cons_succ, i64_w, i32_w]
            rfl
          refine one_ (i := 5) (N := some 41) #[true, true, true, true, true, true, false] rfl rfl (by kernel_rfl) (by decide) (fun K hK => ?_)
          refine goes_ Try.func20 (by kernel_rfl) rfl #[.int .u64 (IntKind.u64.wrap a0_2), .int .i64 4] (by rfl) rfl rfl (by (try simp only [List.map_toArray, List.map_cons, List.map_nil]); first | done | rfl) ?_
          refine (crc_Bytes.calls 9 _ _ _ _ (ino_word4_bytes a0_2)).mono ?_
          rintro e w6nc ⟨v, rfl, ho, hd⟩
          refine ⟨_, rfl, ?_⟩
          obtain ⟨g2, cap2, rfl, -, -, -⟩ := Kd.R_form ho (by rw [ino_word_length]; decide)
          have HAnc := Aside0.mk (HAnd.out.step hd)
          have HW := Aside0.mk (Kd.R_reads' ho).2.2
          clear ho hd HAnd hHeld
          refine hK.out _ _ (HAnc.out.box.cell 2 _ rfl) (fun hHeld => ?_)
          clear hK K
          refine norm_ (a' := ?_) ?_ ?_
          rotate_left
          · show Act.put _ (some 41) _ = _
            simp only [Act.put, List.setIfInBounds_toArray, List.set_cons_zero, List.set_cons_succ, i64_w, i32_w]
            rfl
          refine one_ (i := 6) (N := some 42) #[true, true, true, true, true, true, true] rfl rfl (by kernel_rfl) (by decide) (fun K hK => ?_)
          refine X.copy_step (P := Try.prog) .u8 w.heap.size (by rfl) rfl (.tmp 37) (.tmp 41) 22 22 5 rfl Try.underlying22 (by obtain ⟨i, hi, _, hs, _⟩ := info_parts info5; rw [hi]; exact congrArg some hs) g 128 cap 4 124 (cap - 4) (some ⟨g2, 0, none⟩) (ino_word 4 a0_2).length cap2 _ (ino_word 4 a0_2) (fun _ => True) rfl rfl HAnc.out.row HW.out (by rw [ino_word_length]; decide) (by rw [ino_word_length]; decide) HAnc.out.below HAnc.out.below.size ?_
          intro w6nn hr9 hb9 hg9
          have HAnn : Aside0 (ino_inv w w6nn 5 24 (#[.int .i64 a0_0, .int .i64 a0_1, .int .i64 a0_2, .bool true, .int .i64 a0_4, .slice A0_5 l0_5.length c0_5]) g cap (ino_2 a0_0 a0_1 a0_2 true)) := ⟨HAnc.out.grown hr9 hg9⟩
          clear hr9 hb9 hg9
          refine hK.out _ _ (HAnn.out.box.cell 2 _ rfl) (fun hHeld => ?_)
          clear hK K
          refine norm_ (a' := ?_) ?_ ?_
          rotate_left
          · show Act.put _ (some 42) _ = _
            simp only [Act.put, List.setIfInBounds_toArray, List.set_cons_zero, List.set_cons_succ, i64_w, i32_w]
            rfl
          clear hHeld HW HAnc
          refine done_ (by kernel_rfl) ?_
          go_wp2_with fail
          have HAnnd := Aside0.mk (HAnn.out.step (below_drew1 (Below.refl _ _)))
          have hcz : ¬ cap = 8 := by omega
          refine start_ (n := 7) (S := (fun w' => w'.cell? ⟨w.heap.size, 4, none⟩ = some (.int .i64 a0_4))) (ds := []) #[false, false, false, false, false, false, false] (by kernel_rfl) rfl rfl (HAnnd.out.box.cell 4 _ rfl) (fun hHeld => ?_)
          generalize w6nn.drew = w6nnd at HAnnd hHeld ⊢
          clear HAnn
          refine pure_ (i := 0) (N := some 43) (v := ?_) (a' := ?_) #[true, false, false, false, false, false, false] rfl rfl (by kernel_rfl) (fun _ _ _ h => h) (Or.inl ⟨by rfl, ?_⟩) ?_ ?_
          rotate_left
          · intro w' 
            go_simp
            with_reducible rfl
          rotate_left
          · simp only [Act.put, List.setIfInBounds_toArray, List.set_cons_zero, List.set_cons_succ, i64_w, i32_w]
            rfl
          refine pure_ (i := 1) (N := some 44) (v := ?_) (a' := ?_) #[true, true, false, false, false, false, false] rfl rfl (by kernel_rfl) (fun _ _ _ h => h) (Or.inl ⟨by rfl, ?_⟩) ?_ ?_
          rotate_left
          · intro w' 
            go_simp
            with_reducible rfl
          rotate_left
          · simp only [Act.put, List.setIfInBounds_toArray, List.set_cons_zero, List.set_cons_succ, i64_w, i32_w]
            rfl
          clear hcz
          refine pure_ (i := 2) (N := some 45) (v := ?_) (a' := ?_) #[true, true, true, false, false, false, false] rfl rfl (by kernel_rfl) (fun _ _ _ h => h) (Or.inl ⟨by rfl, ?_⟩) ?_ ?_
          rotate_left
          · intro w' 
            go_simp
            with_reducible rfl
          rotate_left
          · simp only [Act.put, List.setIfInBounds_toArray, List.set_cons_zero, List.set_cons_succ, i64_w, i32_w]
            rfl
          refine take_ (i := 3) (N := some 46) (v := ?_) (a' := ?_) #[true, true, true, true, false, false, false] rfl rfl (by kernel_rfl) (fun _ _ _ h => h) (Or.inl ⟨by rfl, ?_⟩) hHeld ?_ ?_
          rotate_left
          · intro w' hs_
            go_simp
            with_reducible rfl
          rotate_left
          · simp only [Act.put, List.setIfInBounds_toArray, List.set_cons_zero, List.set_cons_succ, i64_w, i32_w]
            rfl
          refine pure_ (i := 4) (N := some 47) (v := ?_) (a' := ?_) #[true, true, true, true, true, false, false] rfl rfl (by kernel_rfl) (fun _ _ _ h => h) (Or.inl ⟨by rfl, ?_⟩) ?_ ?_
          rotate_left
          · intro w' 
            go_simp
            with_reducible rfl
          rotate_left
          · simp only [Act.put, List.setIfInBounds_toArray, List.set_cons_zero, List.set_cons_succ, i64_w, i32_w]
            rfl
          refine one_ (i := 5) (N := some 48) #[true, true, true, true, true, true, false] rfl rfl (by kernel_rfl) (by decide) (fun K hK => ?_)
          refine goes_ Try.func20 (by kernel_rfl) rfl #[.int .u64 (IntKind.u64.wrap a0_4), .int .i64 4] (by rfl) rfl rfl (by (try simp only [List.map_toArray, List.map_cons, List.map_nil]); first | done | rfl) ?_
          refine (crc_Bytes.calls 9 _ _ _ _ (ino_word4_bytes a0_4)).mono ?_
          rintro e w6nnc ⟨v, rfl, ho, hd⟩
          refine ⟨_, rfl, ?_⟩
          obtain ⟨g2, cap2, rfl, -, -, -⟩ := Kd.R_form ho (by rw [ino_word_length]; decide)
          have HAnnc := Aside0.mk (HAnnd.out.step hd)
          have HW := Aside0.mk (Kd.R_reads' ho).2.2
          clear ho hd HAnnd hHeld
          refine hK.out _ _ (HAnnc.out.box.cell 4 _ rfl) (fun hHeld => ?_)
          clear hK K
          refine norm_ (a' := ?_) ?_ ?_
          rotate_left
          · show Act.put _ (some 48) _ = _
            simp only [Act.put, List.setIfInBounds_toArray, List.set_cons_zero, List.set_cons_succ, i64_w, i32_w]
            rfl
          refine one_ (i := 6) (N := some 49) #[true, true, true, true, true, true, true] rfl rfl (by kernel_rfl) (by decide) (fun K hK => ?_)
          refine X.copy_step (P := Try.prog) .u8 w.heap.size (by rfl) rfl (.tmp 44) (.tmp 48) 22 22 5 rfl Try.underlying22 (by obtain ⟨i, hi, _, hs, _⟩ := info_parts info5; rw [hi]; exact congrArg some hs) g 128 cap 8 120 (cap - 8) (some ⟨g2, 0, none⟩) (ino_word 4 a0_4).length cap2 _ (ino_word 4 a0_4) (fun _ => True) rfl rfl HAnnc.out.row HW.out (by rw [ino_word_length]; decide) (by rw [ino_word_length]; decide) HAnnc.out.below HAnnc.out.below.size ?_
          intro w6nnn hr9 hb9 hg9
          have HAnnn : Aside0 (ino_inv w w6nnn 5 24 (#[.int .i64 a0_0, .int .i64 a0_1, .int .i64 a0_2, .bool true, .int .i64 a0_4, .slice A0_5 l0_5.length c0_5]) g cap (ino_3 a0_0 a0_1 a0_2 true a0_4)) := ⟨HAnnc.out.grown hr9 hg9⟩
          clear hr9 hb9 hg9
          refine hK.out _ _ (HAnnn.out.box.cell 4 _ rfl) (fun hHeld => ?_)
          clear hK K
          refine norm_ (a' := ?_) ?_ ?_
          rotate_left
          · show Act.put _ (some 49) _ = _
            simp only [Act.put, List.setIfInBounds_toArray, List.set_cons_zero, List.set_cons_succ, i64_w, i32_w]
            rfl
          clear hHeld HW HAnnc
          refine done_ (by kernel_rfl) ?_
          go_wp2_with fail
          have HAnnnd := Aside0.mk (HAnnn.out.step (below_drew1 (Below.refl _ _)))
          have hcz : ¬ cap = 12 := by omega
          refine start_ (n := 5) (S := (fun w' => w'.cell? ⟨w.heap.size, 5, none⟩ = some (.slice A0_5 l0_5.length c0_5))) (ds := []) #[false, false, false, false, false] (by kernel_rfl) rfl rfl (HAnnnd.out.box.cell 5 _ rfl) (fun hHeld => ?_)
          generalize w6nnn.drew = w6nnnd at HAnnnd hHeld ⊢
          clear HAnnn
          refine pure_ (i := 0) (N := some 50) (v := ?_) (a' := ?_) #[true, false, false, false, false] rfl rfl (by kernel_rfl) (fun _ _ _ h => h) (Or.inl ⟨by rfl, ?_⟩) ?_ ?_
          rotate_left
          · intro w' 
            go_simp
            with_reducible rfl
          rotate_left
          · simp only [Act.put, List.setIfInBounds_toArray, List.set_cons_zero, List.set_cons_succ, i64_w, i32_w]
            rfl
          refine pure_ (i := 1) (N := some 51) (v := ?_) (a' := ?_) #[true, true, false, false, false] rfl rfl (by kernel_rfl) (fun _ _ _ h => h) (Or.inl ⟨by rfl, ?_⟩) ?_ ?_
          rotate_left
          · intro w' 
            go_simp
            with_reducible rfl
          rotate_left
          · simp only [Act.put, List.setIfInBounds_toArray, List.set_cons_zero, List.set_cons_succ, i64_w, i32_w]
            rfl
          clear hcz
          refine pure_ (i := 2) (N := some 52) (v := ?_) (a' := ?_) #[true, true, true, false, false] rfl rfl (by kernel_rfl) (fun _ _ _ h => h) (Or.inl ⟨by rfl, ?_⟩) ?_ ?_
          rotate_left
          · intro w' 
            go_simp
            with_reducible rfl
          rotate_left
          · simp only [Act.put, List.setIfInBounds_toArray, List.set_cons_zero, List.set_cons_succ, i64_w, i32_w]
            rfl
          refine take_ (i := 3) (N := some 53) (v := ?_) (a' := ?_) #[true, true, true, true, false] rfl rfl (by kernel_rfl) (fun _ _ _ h => h) (Or.inl ⟨by rfl, ?_⟩) hHeld ?_ ?_
          rotate_left
          · intro w' hs_
            go_simp
            with_reducible rfl
          rotate_left
          · simp only [Act.put, List.setIfInBounds_toArray, List.set_cons_zero, List.set_cons_succ, i64_w, i32_w]
            rfl
          refine one_ (i := 4) (N := some 54) #[true, true, true, true, true] rfl rfl (by kernel_rfl) (by decide) (fun K hK => ?_)
          refine X.copy_step (P := Try.prog) .u8 w.heap.size (by rfl) rfl (.tmp 51) (.tmp 53) 22 22 5 rfl Try.underlying22 (by obtain ⟨i, hi, _, hs, _⟩ := info_parts info5; rw [hi]; exact congrArg some hs) g 128 cap 12 116 (cap - 12) A0_5 l0_5.length c0_5 _ l0_5 (fun _ => True) rfl rfl HAnnnd.out.row (Kd.C_below HC.out HAnnnd.out.below) (by rw [HL.out]; decide) (by rw [HL.out]; decide) HAnnnd.out.below HAnnnd.out.below.size ?_
          intro w6nnnn hr9 hb9 hg9
          have HAnnnn : Aside0 (ino_inv w w6nnnn 5 24 (#[.int .i64 a0_0, .int .i64 a0_1, .int .i64 a0_2, .bool true, .int .i64 a0_4, .slice A0_5 l0_5.length c0_5]) g cap (ino_body a0_0 a0_1 a0_2 true a0_4 l0_5)) := ⟨HAnnnd.out.grown hr9 hg9⟩
          clear hr9 hb9 hg9
          refine hK.out _ _ (HAnnnn.out.box.cell 5 _ rfl) (fun hHeld => ?_)
          clear hK K
          refine norm_ (a' := ?_) ?_ ?_
          rotate_left
          · show Act.put _ (some 54) _ = _
            simp only [Act.put, List.setIfInBounds_toArray, List.set_cons_zero, List.set_cons_succ, i64_w, i32_w]
            rfl
          clear hHeld HAnnnd
          refine done_ (by kernel_rfl) ?_
          go_wp2_with fail
          have HAnnnnd := Aside0.mk (HAnnnn.out.step (below_drew1 (Below.refl _ _)))
          have hcz : ¬ cap = 124 := by omega
          refine start_ (n := 7) (S := (fun _ => True)) (ds := []) #[false, false, false, false, false, false, false] (by kernel_rfl) rfl rfl trivial (fun hHeld => ?_)
          generalize w6nnnn.drew = w6nnnnd at HAnnnnd hHeld ⊢
          clear HAnnnn
          refine pure_ (i := 0) (N := some 55) (v := ?_) (a' := ?_) #[true, false, false, false, false, false, false] rfl rfl (by kernel_rfl) (fun _ _ _ h => h) (Or.inl ⟨by rfl, ?_⟩) ?_ ?_
          rotate_left
          · intro w' 
            go_simp
            with_reducible rfl
          rotate_left
          · simp only [Act.put, List.setIfInBounds_toArray, List.set_cons_zero, List.set_cons_succ, i64_w, i32_w]
            rfl
          refine pure_ (i := 1) (N := some 56) (v := ?_) (a' := ?_) #[true, true, false, false, false, false, false] rfl rfl (by kernel_rfl) (fun _ _ _ h => h) (Or.inl ⟨by rfl, ?_⟩) ?_ ?_
          rotate_left
          · intro w' 
            go_simp
            with_reducible rfl
          rotate_left
          · simp only [Act.put, List.setIfInBounds_toArray, List.set_cons_zero, List.set_cons_succ, i64_w, i32_w]
            rfl
          clear hcz
          refine pure_ (i := 2) (N := some 57) (v := ?_) (a' := ?_) #[true, true, true, false, false, false, false] rfl rfl (by kernel_rfl) (fun _ _ _ h => h) (Or.inl ⟨by rfl, ?_⟩) ?_ ?_
          rotate_left
          · intro w' 
            go_simp
            with_reducible rfl
          rotate_left
          · simp only [Act.put, List.setIfInBounds_toArray, List.set_cons_zero, List.set_cons_succ, i64_w, i32_w]
            rfl
          refine pure_ (i := 3) (N := some 58) (v := ?_) (a' := ?_) #[true, true, true, true, false, false, false] rfl rfl (by kernel_rfl) (fun _ _ _ h => h) (Or.inl ⟨by rfl, ?_⟩) ?_ ?_
          rotate_left
          · intro w' 
            go_simp
            with_reducible rfl
          rotate_left
          · simp only [Act.put, List.setIfInBounds_toArray, List.set_cons_zero, List.set_cons_succ, i64_w, i32_w]
            rfl
          have hsum := (by have h_ := inode_sum.calls 9 (some ⟨g, 0, none⟩) cap (ino_body a0_0 a0_1 a0_2 true a0_4 l0_5) a1 s w6nnnnd (Kd.R_reads' HAnnnnd.out.row).2.2 (by rw [ino_body_length _ _ _ _ _ _ HL.out]; exact hcap) HS.out; rw [ino_body_length _ _ _ _ _ _ HL.out] at h_; exact h_)
          refine one_ (i := 4) (N := some 59) #[true, true, true, true, true, false, false] rfl rfl (by kernel_rfl) (by decide) (fun K hK => ?_)
          refine goes_ Try.func21 (by kernel_rfl) rfl #[.slice (some ⟨g, 0, none⟩) 128 cap, .int .i64 a1] (by rfl) rfl rfl (by (try simp only [List.map_toArray, List.map_cons, List.map_nil]); first | done | rfl) ?_
          refine (hsum).mono ?_
          rintro e w6nnnns ⟨rfl, hd⟩
          refine ⟨_, rfl, ?_⟩
          have HAnnnns := Aside0.mk (HAnnnnd.out.step hd)
          clear hsum hd HAnnnnd hHeld
          refine hK.out _ _ trivial (fun hHeld => ?_)
          clear hK K
          refine norm_ (a' := ?_) ?_ ?_
          rotate_left
          · show Act.put _ (some 59) _ = _
            simp only [Act.put, List.setIfInBounds_toArray, List.set_cons_zero, List.set_cons_succ, i64_w, i32_w]
            rfl
          refine one_ (i := 5) (N := some 60) #[true, true, true, true, true, true, false] rfl rfl (by kernel_rfl) (by decide) (fun K hK => ?_)
          refine goes_ Try.func20 (by kernel_rfl) rfl #[.int .u64 s, .int .i64 4] (by rfl) rfl rfl (by (try simp only [List.map_toArray, List.map_cons, List.map_nil]); first | done | rfl) ?_
          refine (crc_Bytes.calls 9 s 4 _ _ (inode_sum.bytes HS.out)).mono ?_
          rintro e w6nnnnb ⟨v, rfl, ho, hd⟩
          refine ⟨_, rfl, ?_⟩
          obtain ⟨g2, cap2, rfl, -, -, -⟩ := Kd.R_form ho (by rw [ino_word_length]; decide)
          have HAnnnnb := Aside0.mk (HAnnnns.out.step hd)
          have HW := Aside0.mk (Kd.R_reads' ho).2.2
          clear ho hd HAnnnns hHeld
          refine hK.out _ _ trivial (fun hHeld => ?_)
          clear hK K
          refine norm_ (a' := ?_) ?_ ?_
          rotate_left
          · show Act.put _ (some 60) _ = _
            simp only [Act.put, List.setIfInBounds_toArray, List.set_cons_zero, List.set_cons_succ, i64_w, i32_w]
            rfl
          refine one_ (i := 6) (N := some 61) #[true, true, true, true, true, true, true] rfl rfl (by kernel_rfl) (by decide) (fun K hK => ?_)
          refine X.copy_step (P := Try.prog) .u8 w.heap.size (by rfl) rfl (.tmp 56) (.tmp 60) 22 22 5 rfl Try.underlying22 (by obtain ⟨i, hi, _, hs, _⟩ := info_parts info5; rw [hi]; exact congrArg some hs) g 128 cap 124 4 (cap - 124) (some ⟨g2, 0, none⟩) (ino_word 4 s).length cap2 _ (ino_word 4 s) (fun _ => True) rfl rfl HAnnnnb.out.row HW.out (by rw [ino_word_length]; decide) (by rw [ino_word_length]; decide) HAnnnnb.out.below HAnnnnb.out.below.size ?_
          intro w6nnnnn hr9 hb9 hg9
          have HAnnnnn : Aside0 (ino_inv w w6nnnnn 5 24 (#[.int .i64 a0_0, .int .i64 a0_1, .int .i64 a0_2, .bool true, .int .i64 a0_4, .slice A0_5 l0_5.length c0_5]) g cap (X.lay (ino_body a0_0 a0_1 a0_2 true a0_4 l0_5) 124 (ino_word 4 s))) := ⟨HAnnnnb.out.grown hr9 hg9⟩
          clear hr9 hb9 hg9
          refine hK.out _ _ trivial (fun hHeld => ?_)
          clear hK K
          refine norm_ (a' := ?_) ?_ ?_
          rotate_left
          · show Act.put _ (some 61) _ = _
            simp only [Act.put, List.setIfInBounds_toArray, List.set_cons_zero, List.set_cons_succ, i64_w, i32_w]
            rfl
          clear hHeld HW HAnnnnb
          refine done_ (by kernel_rfl) ?_
          go_wp2_with fail
          go_ret2
          obtain ⟨rfl, rfl⟩ : X.lay (ino_body a0_0 a0_1 a0_2 true a0_4 l0_5) 124 (ino_word 4 s) = r1 ∧ 0 = r2 := by
            have h2 := H4.out
            injection h2 with h2
            injection h2 with h2 h3
            exact ⟨h2, h3⟩
          exact ⟨_, rfl, HAnnnnn.out.row, HAnnnnn.out.below⟩
      · have H1 := H3.out
        rw [if_neg hz] at H1
        obtain ⟨rfl, rfl⟩ : [] = r1 ∧ 1 = r2 := by
          injection H1 with h2
          injection h2 with h2 h3
          exact ⟨h2, h3⟩
        have hz1 : (z != 0) = true := by simp [hz]
        clear H3 H1
        go_wp2
        go_ret2
        exact ⟨_, rfl, Kd.R_nil _ _ _ _ _, HI4.out.below⟩

end Go.Proofs.Ytkpkmkgmpggjaaa.U
