/- Written by uprint.py (ours) for this seat: functions of the translation as Lean functions, and what their calls do. Not trusted: Lean checks it. -/
import Derived.Test.YtbpkjkdbijifbaaUx0
import Derived.Test.YtbpkjkdbijifbaaUx2
import Derived.Test.YtbpkjkdbijifbaaUx3
import Derived.Test.YtbpkjkdbijifbaaUx12
namespace Go.Proofs.Ytbpkjkdbijifbaa.U
open Go.RowKit Go.Proofs.YtbpkjkdbijifbaaW.PrintWords Go.Proofs.YtbpkjkdbijifbaaW.PrintLast Go.Proofs.YtbpkjkdbijifbaaW.PrintMore
attribute [local go_sem] max2_int min2_int max_two min_two max_three min_three max_four min_four   -- for this text's walks alone
set_option linter.unusedVariables false
set_option linter.unusedSimpArgs false

/-! ### undercroftref02_Disk_Fuse: function 45 -/
def undercroftref02_Disk_Fuse.f (s0_0 : List Int) (s0_1 : List (S74)) (s0_2 : List (S74)) (s0_3 : Bool) (s0_4 : Int) (a1 : Int) : Option (Bool × Int) := if s0_3 = true then (if s0_4 = 0 then (some (s0_3, s0_4)) else (some (decide (a1 ≥ 0), mx a1 0))) else (some (decide (a1 ≥ 0), mx a1 0))
set_option maxHeartbeats 8000000 in
set_option maxRecDepth 100000 in
theorem undercroftref02_Disk_Fuse.calls (g : Nat) (s0_0 : List Int) (s0_1 : List (S74)) (s0_2 : List (S74)) (s0_3 : Bool) (s0_4 : Int) (a1 : Int) (r1 : Bool) (r2 : Int) (w0 w : World) (hI : IsS42 w0 w g s0_0 s0_1 s0_2 s0_3 s0_4) (hB : Below w0.heap.size w0 w) (h : undercroftref02_Disk_Fuse.f s0_0 s0_1 s0_2 s0_3 s0_4 a1 = some (r1, r2)) :
    Calls Try.prog 45 #[.pointer (some ⟨g, 0, none⟩), .int .i64 a1] w fun e w' => e = .returned (.tuple #[]) ∧ IsS42 w0 w' g s0_0 s0_1 s0_2 r1 r2 ∧ Below w0.heap.size w0 w' ∧ KeepBut w w' g none := by
  have HI0 := Aside0.mk hI
  have HK := Aside0.mk (KeepBut.refl w g none)
  have HL := Aside0.mk hB.size
  clear hI
  have HW0 := Aside0.mk hB.size
  have HB := Aside0.mk hB
  clear hB
  have H : (if s0_3 = true then (if s0_4 = 0 then (some (s0_3, s0_4)) else (some (decide (a1 ≥ 0), mx a1 0))) else (some (decide (a1 ≥ 0), mx a1 0))) = some (r1, r2) := h
  clear h
  by_cases c3 : s0_3 = true
  · subst c3
    have H1 : (if s0_4 = 0 then (some (true, s0_4)) else (some (decide (a1 ≥ 0), mx a1 0))) = some (r1, r2) := by rw [if_pos rfl] at H; exact H
    clear H
    have H := H1
    clear H1
    by_cases c4 : s0_4 = 0
    · rw [if_pos c4] at H
      have c4b0 : (s0_4 == 0) = true := beq_iff_eq.mpr c4
      have c4b1 : (s0_4 != 0) = false := bne_eq_false_iff_eq.mpr c4
      clear c4
      simp only [Option.some.injEq, Prod.mk.injEq] at H
      obtain ⟨rfl, rfl⟩ := H
      obtain ⟨ASz5_0, cSz5_0, ASz5_1, cSz5_1, ASz5_2, cSz5_2, HGz5, hgz5, HSz5_0, HSz5_1, HSz5_2⟩ := HI0.out
      have hcz5_0 := cellS42_0 HGz5
      have hcz5_1 := cellS42_1 HGz5
      have hcz5_2 := cellS42_2 HGz5
      have hcz5_3 := cellS42_3 HGz5
      have hcz5_4 := cellS42_4 HGz5
      have hfz5_3 := blk_frozen HGz5 3
      have hfz5_4 := blk_frozen HGz5 4
      clear HGz5 hgz5
      go_enter Try.func45, Try.ntmps45
      go_wp2
      first | go_end0 | ((try simp only [Exit.inBlock, Exit.then]); refine bodyPost_ret (results_none rfl _ _ _) rfl ?_)
      exact ⟨by first | rfl | (simp [errW_none, errW_some] <;> rfl) | (simp [*, errW_none, errW_some] <;> rfl), by repeat (first | (with_reducible first | exact HI0.out | apply IsS42.alloc | apply IsS42.drewN | apply IsS42.drew | apply IsS42.set_3 | apply IsS42.set_4) | exact HI0.out), by repeat (first | (with_reducible first | exact HB.out | apply below_alloc | apply pw_below_drewN | apply below_drew1 | refine below_set ?_ (IsS42.ge HI0.out)) | exact HB.out), by repeat (first | (with_reducible first | exact HK.out | apply KeepBut.set_ | apply keep_drewN | apply keep_drew | apply keep_alloc) | exact HK.out)⟩
    rw [if_neg c4] at H
    have c4b0 : (s0_4 == 0) = false := beq_eq_false_iff_ne.mpr c4
    have c4b1 : (s0_4 != 0) = true := bne_iff_ne.mpr c4
    obtain ⟨ji6, hji6⟩ : ∃ j_ : Int, (mx a1 0) = j_ := ⟨_, rfl⟩
    replace H : (some (decide (a1 ≥ 0), ji6)) = some (r1, r2) := by first | (rw [hji6] at H; exact H) | (simp only [hji6] at H ⊢; exact H)
    (try (have hji6l : 0 ≤ ji6 := by (rw [← hji6]; unfold mx; (repeat' split) <;> omega)))
    (try (have hji6m : 0 ≤ ji6 := by omega))
    have hji6_ : (if a1 < 0 then 0 else a1) = ji6 := hji6
    simp only [Option.some.injEq, Prod.mk.injEq] at H
    obtain ⟨rfl, rfl⟩ := H
    obtain ⟨ASz7_0, cSz7_0, ASz7_1, cSz7_1, ASz7_2, cSz7_2, HGz7, hgz7, HSz7_0, HSz7_1, HSz7_2⟩ := HI0.out
    have hcz7_0 := cellS42_0 HGz7
    have hcz7_1 := cellS42_1 HGz7
    have hcz7_2 := cellS42_2 HGz7
    have hcz7_3 := cellS42_3 HGz7
    have hcz7_4 := cellS42_4 HGz7
    have hfz7_3 := blk_frozen HGz7 3
    have hfz7_4 := blk_frozen HGz7 4
    clear HGz7 hgz7
    go_enter Try.func45, Try.ntmps45
    go_wp2
    first | go_end0 | ((try simp only [Exit.inBlock, Exit.then]); refine bodyPost_ret (results_none rfl _ _ _) rfl ?_)
    exact ⟨by first | rfl | (simp [errW_none, errW_some] <;> rfl) | (simp only [← hji6]; first | rfl | (simp [errW_none, errW_some] <;> rfl)) | (simp [*, errW_none, errW_some] <;> rfl), by repeat (first | (with_reducible first | exact HI0.out | apply IsS42.alloc | apply IsS42.drewN | apply IsS42.drew | apply IsS42.set_3 | apply IsS42.set_4) | exact HI0.out), by repeat (first | (with_reducible first | exact HB.out | apply below_alloc | apply pw_below_drewN | apply below_drew1 | refine below_set ?_ (IsS42.ge HI0.out)) | exact HB.out), by repeat (first | (with_reducible first | exact HK.out | apply KeepBut.set_ | apply keep_drewN | apply keep_drew | apply keep_alloc) | exact HK.out)⟩
  · replace c3 := Bool.eq_false_iff.mpr c3
    subst c3
    have H1 : (some (decide (a1 ≥ 0), mx a1 0)) = some (r1, r2) := by rw [if_neg (show ¬ (false = true) by decide)] at H; exact H
    clear H
    have H := H1
    clear H1
    obtain ⟨ji8, hji8⟩ : ∃ j_ : Int, (mx a1 0) = j_ := ⟨_, rfl⟩
    replace H : (some (decide (a1 ≥ 0), ji8)) = some (r1, r2) := by first | (rw [hji8] at H; exact H) | (simp only [hji8] at H ⊢; exact H)
    (try (have hji8l : 0 ≤ ji8 := by (rw [← hji8]; unfold mx; (repeat' split) <;> omega)))
    (try (have hji8m : 0 ≤ ji8 := by omega))
    have hji8_ : (if a1 < 0 then 0 else a1) = ji8 := hji8
    simp only [Option.some.injEq, Prod.mk.injEq] at H
    obtain ⟨rfl, rfl⟩ := H
    obtain ⟨ASz9_0, cSz9_0, ASz9_1, cSz9_1, ASz9_2, cSz9_2, HGz9, hgz9, HSz9_0, HSz9_1, HSz9_2⟩ := HI0.out
    have hcz9_0 := cellS42_0 HGz9
    have hcz9_1 := cellS42_1 HGz9
    have hcz9_2 := cellS42_2 HGz9
    have hcz9_3 := cellS42_3 HGz9
    have hcz9_4 := cellS42_4 HGz9
    have hfz9_3 := blk_frozen HGz9 3
    have hfz9_4 := blk_frozen HGz9 4
    clear HGz9 hgz9
    go_enter Try.func45, Try.ntmps45
    go_wp2
    first | go_end0 | ((try simp only [Exit.inBlock, Exit.then]); refine bodyPost_ret (results_none rfl _ _ _) rfl ?_)
    exact ⟨by first | rfl | (simp [errW_none, errW_some] <;> rfl) | (simp only [← hji8]; first | rfl | (simp [errW_none, errW_some] <;> rfl)) | (simp [*, errW_none, errW_some] <;> rfl), by repeat (first | (with_reducible first | exact HI0.out | apply IsS42.alloc | apply IsS42.drewN | apply IsS42.drew | apply IsS42.set_3 | apply IsS42.set_4) | exact HI0.out), by repeat (first | (with_reducible first | exact HB.out | apply below_alloc | apply pw_below_drewN | apply below_drew1 | refine below_set ?_ (IsS42.ge HI0.out)) | exact HB.out), by repeat (first | (with_reducible first | exact HK.out | apply KeepBut.set_ | apply keep_drewN | apply keep_drew | apply keep_alloc) | exact HK.out)⟩

-- NOT PRINTED: function 46 (undercroftref02_Disk_Crash)

-- NOT PRINTED: function 27 (undercroftlaw02_both)

-- NOT PRINTED: function 28 (undercroftref02_Disk_Read)

-- GIVEN: function 47 (slices.Clone[[]undercroft/disk.write,undercroft/disk.write])
def slices_Clone_write.f (l0 : List (List Value)) : Option (List (List Value)) := if l0.length ≤ 500000000000 then some l0 else none
set_option maxHeartbeats 400000 in
set_option maxRecDepth 100000 in
theorem slices_Clone_write.calls (A0 : Option Addr) (c0 : Nat) (l0 : List (List Value)) (r : List (List Value)) (w : World) (hr0 : Kd.C (Kd.raw 257) w A0 l0.length l0) (hc0 : l0.length ≤ c0) (h : slices_Clone_write.f l0 = some r) :
    Calls Try.prog 47 #[.slice A0 l0.length c0] w fun e w' => ∃ v0_ : Value, e = .returned (v0_) ∧ Kd.R (Kd.raw 257) 69 w' w.heap.size (fun _ => True) v0_ r ∧ Below w.heap.size w w' := by
  unfold slices_Clone_write.f at h
  by_cases hlen : l0.length ≤ 500000000000
  · rw [if_pos hlen] at h
    obtain rfl := Option.some.inj h
    have hn := Lib.run_eql_slice_nil (P := Try.prog)
    have HR := Aside0.mk hr0
    clear hr0
    cases A0 with
    | none =>
      have hz : l0 = [] := by
        rcases Nat.eq_zero_or_pos l0.length with h0 | h0
        · exact List.eq_nil_of_length_eq_zero h0
        · obtain ⟨ad, e, _⟩ := HR.out.2.2 h0
          cases e
      have HZ := Aside0.mk hz
      clear hz
      have hk := fun w => hn w 62 69 none l0.length c0 0 0 Try.underlying62
      clear hn
      go_enter Try.func47, Try.ntmps47
      go_wp2
      go_ret
      exact ⟨_, rfl, by rw [HZ.out]; exact Kd.R_nil _ _ _ _ _, Below.refl _ _⟩
    | some ad =>
      have hk := fun w => hn w 62 69 (some ad) l0.length c0 0 0 Try.underlying62
      clear hn
      go_enter Try.func47, Try.ntmps47
      go_wp2_with (first | ((with_reducible refine gate_dst (N := 5) rfl ?_); refine Kd.R_lit (Kd.raw 257) _ 69 ?hg (N := 5) ?hd (xs := ([] : List (List Value))) (inner := []) (ok := fun _ => True) (okp := fun _ => True) ?hr ?hp (fun _ hk => hk) trivial (Below.refl _ _) (Nat.le_refl _) (by simp) ?_; (case hd => rfl); (case hg => rfl); (case hr => first | (go_simp; done) | (go_simp; rfl)); (case hp => exact (Reps.none _ _)); intro v1 w1 ho1 hb1 hg_ hnew_; have HO1 := Aside0.mk ho1; have HB1 := Aside0.mk hb1; clear hg_ hnew_ ho1 hb1) | ((with_reducible refine gate_builtin (b := .append) (xs := #[.tmp 5, .tmp 6]) rfl ?_); refine Kd.R_append_rows (Kd.raw 257) (w0 := w) w.heap.size rfl (.tmp 5) (.tmp 6) 62 69 (.agg zeroW) 264 rfl Try.underlying62 info_write3 zeroW_size (by decide) (by decide) v1 [] l0 (some ad) l0.length c0 (fun _ => True) (fun _ => False) (by rfl) (by rfl) HO1.out (Kd.C_below HR.out HB1.out) (fun _ _ h => h) (fun _ h => h.elim) (fun _ _ => trivial) HB1.out HB1.out.size (by simp; omega) ?_; intro v2 w2 ho2 hb2 hg2 hat2; have HO2 := Aside0.mk ho2; have HB2 := Aside0.mk hb2; clear ho2 hb2 hg2 hat2))
      go_ret
      exact ⟨_, rfl, by have := HO2.out; rw [List.nil_append] at this; exact this, HB2.out⟩
  · rw [if_neg hlen] at h
    exact absurd h (by simp)

-- NOT PRINTED: function 52 (maps_clone)

-- GIVEN: function 48 (maps.Clone[map[int]int,int,int])
theorem run_maps_clone {P : Program} {w : World} {r : Nat} {es : Array MapEntry} {clock : Nat} (t : TypeId) (hb : w.heap[r]? = some (.map es clock)) :
    (Extern.MapsClone.clone #[.iface t (.map (some r))]).run P w = .ok (.iface t (.map (some w.heap.size))) (w.alloc (.map es clock)) := by
  have e : Extern.MapsClone.clone #[.iface t (.map (some r))] = (getObj r >>= fun o => match o with
      | .map entries clock => (newObj (.map entries clock) >>= fun n => pure (.iface t (.map (some n))))
      | _ => stuck "maps.clone: a map expected") := rfl
  rw [e]
  simp [MapKept.run_getObj_map hb, Result.andThen, go_sem]
theorem eqIn_map_nil {P : Program} (w : World) (d : Nat) (t k e : TypeId) (b : Nat) (h : P.underlying t = some (.map k e)) : (Op.equalIn (d + 1) t (.map (some b)) (.map none)).run P w = .ok false w := by simp [Op.equalIn, run_underlying h]
theorem eql_map_nil {P : Program} (w : World) (t k e : TypeId) (b : Nat) (h : P.underlying t = some (.map k e)) : (binOp .eql t (.map (some b)) (.map none)).run P w = .ok (.bool false) w := by
  simp only [binOp]
  simp [show Op.equal t (.map (some b)) (.map none) = Op.equalIn (9999 + 1) t (.map (some b)) (.map none) from rfl, eqIn_map_nil w 9999 t k e b h]
set_option maxHeartbeats 2000000 in
theorem maps_CloneII.calls (b : Nat) (es : Array MapEntry) (clock : Nat) (w : World) (hb : w.heap[b]? = some (.map es clock)) :
    Calls Try.prog 48 #[.map (some b)] w fun e w' => e = .returned (.map (some w.heap.size)) ∧ w.alloc (.map es clock) = w' := by
  have hq : ∀ w : World, (binOp .eql 63 (.map (some b)) (.map none)).run Try.prog w = .ok (.bool false) w := fun w => by
    exact eql_map_nil w _ _ _ b Try.underlying63
  have hx : (callFunc 52 #[.iface 63 (.map (some b))]).run Try.prog w = .ok (.value (.iface 63 (.map (some w.heap.size)))) (w.alloc (.map es clock)) := by
    rw [run_callFunc_extern Try.func52 (by kernel_rfl) (by kernel_rfl) (by kernel_rfl) (e := Extern.MapsClone.clone) (by kernel_rfl), run_maps_clone 63 hb]
    rfl
  have ht : ∀ w' : World, (Instr.typeAssert (.iface 63 (.map (some w.heap.size))) 20 63 false).run Try.prog w' = .ok (.map (some w.heap.size)) w' := fun w' => by
    simp [Instr.typeAssert, run_underlying Try.underlying63, go_sem, Result.andThen]
  go_enter Try.func48, Try.ntmps48
  go_wp2
  go_ret
  exact ⟨rfl, rfl⟩

-- GIVEN: function 49 (maps.Clone[map[int][]byte,int,[]byte])
set_option maxHeartbeats 2000000 in
theorem maps_CloneIB.calls (b : Nat) (es : Array MapEntry) (clock : Nat) (w : World) (hb : w.heap[b]? = some (.map es clock)) :
    Calls Try.prog 49 #[.map (some b)] w fun e w' => e = .returned (.map (some w.heap.size)) ∧ w.alloc (.map es clock) = w' := by
  have hq : ∀ w : World, (binOp .eql 64 (.map (some b)) (.map none)).run Try.prog w = .ok (.bool false) w := fun w => by
    exact eql_map_nil w _ _ _ b Try.underlying64
  have hx : (callFunc 52 #[.iface 64 (.map (some b))]).run Try.prog w = .ok (.value (.iface 64 (.map (some w.heap.size)))) (w.alloc (.map es clock)) := by
    rw [run_callFunc_extern Try.func52 (by kernel_rfl) (by kernel_rfl) (by kernel_rfl) (e := Extern.MapsClone.clone) (by kernel_rfl), run_maps_clone 64 hb]
    rfl
  have ht : ∀ w' : World, (Instr.typeAssert (.iface 64 (.map (some w.heap.size))) 20 64 false).run Try.prog w' = .ok (.map (some w.heap.size)) w' := fun w' => by
    simp [Instr.typeAssert, run_underlying Try.underlying64, go_sem, Result.andThen]
  go_enter Try.func49, Try.ntmps49
  go_wp2
  go_ret
  exact ⟨rfl, rfl⟩

end Go.Proofs.Ytbpkjkdbijifbaa.U
