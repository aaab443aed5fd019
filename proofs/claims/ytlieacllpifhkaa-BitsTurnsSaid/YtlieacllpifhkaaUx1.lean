/- Written by uprint.py (ours) for this seat: functions of the translation as Lean functions, and what their calls do. Not trusted: Lean checks it. -/
import Derived.Test.YtlieacllpifhkaaUx0
namespace Go.Proofs.Ytlieacllpifhkaa.U
open Go.RowKit Go.Proofs.YtlieacllpifhkaaW.PrintWords Go.Proofs.YtlieacllpifhkaaW.PrintLast Go.Proofs.YtlieacllpifhkaaW.PrintMore
attribute [local go_sem] max2_int min2_int max_two min_two max_three min_three max_four min_four   -- for this text's walks alone
set_option linter.unusedVariables false
set_option linter.unusedSimpArgs false

/-! ### bits_clip: function 22 -/
def bits_clip.f (l0 : List Int) (a1 : Int) (a2 : Int) : Option (Int × Int) := some (mx a1 0, mn a2 (wrap64 (8 * (l0.length : Int))))
set_option maxHeartbeats 8000000 in
set_option maxRecDepth 100000 in
theorem bits_clip.calls (A0 : Option Addr) (c0 : Nat) (l0 : List Int) (a1 : Int) (a2 : Int) (r1 : Int) (r2 : Int) (w : World) (hr0 : Kd.C (Kd.int .u8) w A0 l0.length l0) (hc0 : l0.length ≤ c0) (h : bits_clip.f l0 a1 a2 = some (r1, r2)) :
    Calls Try.prog 22 #[.slice A0 l0.length c0, .int .i64 a1, .int .i64 a2] w fun e w' => e = .returned (.tuple #[.int .i64 r1, .int .i64 r2]) ∧ Below w.heap.size w w' := by
  have HR0 := Aside0.mk hr0
  have HC0 := Aside0.mk hc0
  clear hr0 hc0
  have HB := Aside0.mk (Below.refl w.heap.size w)
  have H : (some (mx a1 0, mn a2 (wrap64 (8 * (l0.length : Int))))) = some (r1, r2) := h
  clear h
  obtain ⟨ji4, hji4⟩ : ∃ j_ : Int, (mx a1 0) = j_ := ⟨_, rfl⟩
  replace H : (some (ji4, mn a2 (wrap64 (8 * (l0.length : Int))))) = some (r1, r2) := by first | (rw [hji4] at H; exact H) | (simp only [hji4] at H ⊢; exact H)
  (try (have hji4l : 0 ≤ ji4 := by (rw [← hji4]; unfold mx; (repeat' split) <;> omega)))
  (try (have hji4m : 0 ≤ ji4 := by omega))
  have hji4_ : (if a1 < 0 then 0 else a1) = ji4 := hji4
  obtain ⟨ji5, hji5⟩ : ∃ j_ : Int, (mn a2 (wrap64 (8 * (l0.length : Int)))) = j_ := ⟨_, rfl⟩
  replace H : (some (ji4, ji5)) = some (r1, r2) := by first | (rw [hji5] at H; exact H) | (simp only [hji5] at H ⊢; exact H)
  have hji5_ : (if (wrap64 (8 * (l0.length : Int))) < a2 then (wrap64 (8 * (l0.length : Int))) else a2) = ji5 := hji5
  simp only [Option.some.injEq, Prod.mk.injEq] at H
  obtain ⟨rfl, rfl⟩ := H
  go_enter Try.func22, Try.ntmps22
  go_wp2
  go_ret2
  exact ⟨by first | rfl | (simp [errW_none, errW_some] <;> rfl) | (simp only [← hji4, ← hji5]; first | rfl | (simp [errW_none, errW_some] <;> rfl)) | (simp [*, errW_none, errW_some] <;> rfl), by repeat (first | (with_reducible first | exact HB.out | apply below_alloc | apply pw_below_drewN | apply below_drew1) | exact HB.out)⟩

-- GIVEN: function 24 (undercroft/bits.each)
/-- Where a round ends that begins at f; its mask. -/
def bits_each.fin (b f : Int) : Int := if b ≤ 8 * (f / 8 + 1) then b else 8 * (f / 8 + 1)
def bits_each.mask (b f : Int) : Int := Go.bits .and .u8 (255 * 2 ^ (f % 8).toNat % 256) (255 / 2 ^ (8 * (f / 8 + 1) - bits_each.fin b f).toNat)
section
attribute [local go_sem] Oper.semAt_some
set_option maxHeartbeats 1000000 in
set_option maxRecDepth 100000 in
theorem bits_each.seq (n : Nat) (hn : 1 ≤ n) (a b : Int) (Bf Bt : Nat) (hne : Bf ≠ Bt) (ha : 0 ≤ a) (hb : b ≤ 1152921504606846976) (w0 : World) (hf0 : X.Blk w0 Bf #[.int .i64 a] 3) (ht0 : X.Blk w0 Bt #[.int .i64 b] 3) :
    X.BoxSeq Fence.wide n Try.prog 28 #[.pointer (some ⟨Bf, 0, none⟩), .pointer (some ⟨Bt, 0, none⟩)] (fun f : Int => #[.int .i64 (f / 8), .int .u8 (bits_each.mask b f)]) (bits_each.fin b) (fun f => 0 ≤ f ∧ f < b) (fun f => b ≤ f) a Bf (fun x => x = Bf ∨ x = Bt) w0 := by
  intro l J Jx W hJ hJx hY hJ0 hk0
  have hbf : X.Blk W Bf #[.int .i64 a] 3 := (hk0 Bf (Or.inl rfl)).trans hf0
  have hbt : X.Blk W Bt #[.int .i64 b] 3 := (hk0 Bt (Or.inr rfl)).trans ht0
  clear hf0 ht0 hk0
  refine callsIn_of_wp Try.func28 rfl trivial ?_ rfl
  simp only [Try.ntmps28, List.size_toArray, List.length_cons, List.length_nil, Nat.reduceAdd, Nat.reduceSub, Array.replicate_succ, Array.replicate_zero, List.push_toArray, List.append_toArray, List.nil_append, List.cons_append]
  gi_wp2
  gi_loopw [] (fun wr => ∃ f : Int, 0 ≤ f ∧ X.Blk wr Bf #[.int .i64 f] 3 ∧ X.Blk wr Bt #[.int .i64 b] 3 ∧ J f wr) (fun wr => (b - X.boxed Bf wr).toNat)
  case atStart => exact ⟨a, ha, hbf, hbt, hJ0⟩
  case round =>
    obtain ⟨f, h0, hF, hT, hj⟩ := hrel
    have hmx : Try.prog.follows .mixedOrders = true := by kernel_rfl
    have hc := hF.cell 0 (.int .i64 f) rfl
    have hcf := hF.free 0
    have hct := hT.cell 0 (.int .i64 b) rfl
    have hM := X.boxed_blk hF
    have HF := Aside0.mk hF
    have HT := Aside0.mk hT
    have HJ := Aside0.mk hj
    have HJS := Aside0.mk hJ
    have HM := Aside0.mk hM
    clear hF hT hj hJ hM hbf hbt hJ0 hJx
    by_cases hlt : f < b
    · have e7 : Go.bits .and .i64 f 7 = f % 8 := X.and7 h0 (by omega)
      have h7 : 0 ≤ f % 8 := by omega
      have e1 : IntKind.i64.wrap (f / 8 + 1) = f / 8 + 1 := X.i64_wrap (by omega) (by omega)
      have e2 : IntKind.i64.wrap (8 * (f / 8 + 1)) = 8 * (f / 8 + 1) := X.i64_wrap (by omega) (by omega)
      have e4 : IntKind.i64.wrap 0 = 0 := rfl
      obtain ⟨fn, tmps, assign, body, hy, hR⟩ := hY f wr.drew ⟨h0, hlt⟩ (HJS.out _ _ _ HJ.out (X.Same.drew _ _ _))
      have HR := Aside0.mk hR
      clear hY hR
      have go : ∀ X' : World, (∀ x, x = Bf ∨ x = Bt → X'.heap[x]? = wr.drew.heap[x]?) → J (bits_each.fin b f) X' → X.Blk X' Bf #[.int .i64 f] 3 ∧
          (∃ g : Int, 0 ≤ g ∧ X.Blk (X'.setCell ⟨Bf, 0, none⟩ (.int .i64 (bits_each.fin b f))) Bf #[.int .i64 g] 3 ∧ X.Blk (X'.setCell ⟨Bf, 0, none⟩ (.int .i64 (bits_each.fin b f))) Bt #[.int .i64 b] 3 ∧ J g (X'.setCell ⟨Bf, 0, none⟩ (.int .i64 (bits_each.fin b f)))) ∧
          (b - X.boxed Bf (X'.setCell ⟨Bf, 0, none⟩ (.int .i64 (bits_each.fin b f)))).toNat < (b - X.boxed Bf wr).toNat := by
        intro X' hk hj'
        have hF' : X.Blk X' Bf #[.int .i64 f] 3 := (hk Bf (Or.inl rfl)).trans HF.out
        have hT' : X.Blk X' Bt #[.int .i64 b] 3 := (hk Bt (Or.inr rfl)).trans HT.out
        have hS := hF'.set 0 (.int .i64 (bits_each.fin b f))
        have hg : f < bits_each.fin b f ∧ bits_each.fin b f ≤ b := by unfold bits_each.fin; split <;> omega
        refine ⟨hF', ⟨bits_each.fin b f, by omega, hS, ((X.Same.setCell (Bt + 1) Bf X' 0 _).block Bt (by omega) (Ne.symm hne)).trans hT', HJS.out _ _ _ hj' (X.Same.setCell _ _ _ _ _)⟩, ?_⟩
        rw [HM.out, X.boxed_blk hS]
        omega
      have HG := Aside0.mk go
      clear go
      by_cases hle : b ≤ 8 * (f / 8 + 1)
      · have e3 : IntKind.i64.wrap (8 * (f / 8 + 1) - b) = 8 * (f / 8 + 1) - b := X.i64_wrap (by omega) (by omega)
        have h3 : 0 ≤ 8 * (f / 8 + 1) - b := by omega
        have ef : bits_each.fin b f = b := if_pos hle
        have em : bits_each.mask b f = Go.bits .and .u8 (255 * 2 ^ (f % 8).toNat % 256) (255 / 2 ^ (8 * (f / 8 + 1) - b).toNat) := by unfold bits_each.mask; rw [ef]
        rw [em] at hy
        have EF := Aside0.mk ef
        clear ef em
        gi_wp2
        gi_region_with_o (fail)
        gi_wp2
        refine HR.out.mono ?_
        rintro e X' (⟨rfl, hk, hj'⟩ | ⟨rfl, hk, hj'⟩)
        · obtain ⟨hF', hrel', hms⟩ := HG.out X' hk hj'
          have hc' := hF'.cell 0 (.int .i64 f) rfl
          have hcf' := hF'.free 0
          rw [EF.out] at hrel' hms
          have HREL := Aside0.mk hrel'
          have HMS := Aside0.mk hms
          clear hrel' hms hF' hk hj' hy hc hcf hct e1 e2 e3 e4 e7
          gi_wp2
          go_roundw
          case rel => exact HREL.out
          case measure => exact HMS.out
        · clear hy
          gi_wp2
          refine bodyPost_ret (results_none rfl _ _ _) rfl ?_
          exact ⟨⟨_, rfl⟩, .inr hj'⟩
      · have e3 : (8 * (f / 8 + 1) - 8 * (f / 8 + 1)) = 0 := by omega
        have ef : bits_each.fin b f = 8 * (f / 8 + 1) := if_neg hle
        have em : bits_each.mask b f = Go.bits .and .u8 (255 * 2 ^ (f % 8).toNat % 256) 255 := by unfold bits_each.mask; rw [ef, e3]; rfl
        rw [em] at hy
        have EF := Aside0.mk ef
        clear ef em e3
        gi_wp2
        gi_region_with_o (fail)
        gi_wp2
        refine HR.out.mono ?_
        rintro e X' (⟨rfl, hk, hj'⟩ | ⟨rfl, hk, hj'⟩)
        · obtain ⟨hF', hrel', hms⟩ := HG.out X' hk hj'
          have hc' := hF'.cell 0 (.int .i64 f) rfl
          have hcf' := hF'.free 0
          rw [EF.out] at hrel' hms
          have HREL := Aside0.mk hrel'
          have HMS := Aside0.mk hms
          clear hrel' hms hF' hk hj' hy hc hcf hct e1 e2 e4 e7
          gi_wp2
          go_roundw
          case rel => exact HREL.out
          case measure => exact HMS.out
        · clear hy
          gi_wp2
          refine bodyPost_ret (results_none rfl _ _ _) rfl ?_
          exact ⟨⟨_, rfl⟩, .inr hj'⟩
    · gi_wp2
      go_end0
      exact ⟨⟨_, rfl⟩, .inl ⟨f, by omega, HJ.out⟩⟩
end
/-- 'each' hands back the iterator with two boxes of its own. -/
theorem bits_each.calls (A0 : Option Addr) (c0 : Nat) (l0 : List Int) (a1 a2 : Int) (w : World) (hr0 : Kd.C (Kd.int .u8) w A0 l0.length l0) (hc0 : l0.length ≤ c0) :
    Calls Try.prog 24 #[.slice A0 l0.length c0, .int .i64 a1, .int .i64 a2] w fun e w' => ∃ Bf Bt : Nat, e = .returned (.func (.func 28) #[] #[.pointer (some ⟨Bf, 0, none⟩), .pointer (some ⟨Bt, 0, none⟩)]) ∧
      X.Blk w' Bf #[.int .i64 (mx a1 0)] 3 ∧ X.Blk w' Bt #[.int .i64 (mn a2 (wrap64 (8 * (l0.length : Int))))] 3 ∧ Bf ≠ Bt ∧ w.heap.size ≤ Bf ∧ w.heap.size ≤ Bt ∧ Below w.heap.size w w' := by
  have HR0 := Aside0.mk hr0
  have HC0 := Aside0.mk hc0
  clear hr0 hc0
  have hM := X.Blk.new w #[.int .i64 a1] 3
  have h1 : X.Blk ((w.alloc (.cells #[.int .i64 a1] 3 (0, 0))).alloc (.cells #[.int .i64 a2] 3 (0, 0))) w.heap.size #[.int .i64 a1] 3 := hM.alloc _
  have h2 : X.Blk ((w.alloc (.cells #[.int .i64 a1] 3 (0, 0))).alloc (.cells #[.int .i64 a2] 3 (0, 0))) (w.heap.size + 1) #[.int .i64 a2] 3 := by
    have := X.Blk.new (w.alloc (.cells #[.int .i64 a1] 3 (0, 0))) #[.int .i64 a2] 3
    rwa [World.size_alloc] at this
  have H1 := Aside0.mk h1
  have H2 := Aside0.mk h2
  clear hM h1 h2
  go_enter Try.func24, Try.ntmps24
  go_wp2_with fail
  refine (bits_clip.calls A0 c0 l0 a1 a2 (mx a1 0) (mn a2 (wrap64 (8 * (l0.length : Int)))) _ (Kd.C_alloc (Kd.C_alloc HR0.out _) _) HC0.out rfl).mono ?_
  rintro e w1 ⟨rfl, hb⟩
  have hF := H1.out.below hb H1.out.lt
  have hT := H2.out.below hb H2.out.lt
  have hB : Below w.heap.size w w1 := (((Below.refl _ w).alloc (Nat.le_refl _) (.cells #[.int .i64 a1] 3 (0, 0))).alloc (by simp) (.cells #[.int .i64 a2] 3 (0, 0))).trans (hb.mono (by simp; omega))
  clear hb
  have c1 := hF.cell 0 (.int .i64 a1) rfl
  have f1 := hF.free 0
  have c2 := hT.cell 0 (.int .i64 a2) rfl
  have f2 := hT.free 0
  have HF := Aside0.mk hF
  have HT := Aside0.mk hT
  have HB := Aside0.mk hB
  clear hF hT hB
  go_wp2
  go_ret
  exact ⟨w.heap.size, w.heap.size + 1, rfl, (HF.out.set 0 _).other (by omega) 0 _, (HT.out.other (by omega) 0 _).set 0 _, by omega, Nat.le_refl _, by omega, (HB.out.setCell (p := ⟨w.heap.size, 0, none⟩) (Nat.le_refl _) _).setCell (p := ⟨w.heap.size + 1, 0, none⟩) (by simp) _⟩

/-! ### bits_TrailingZeros8: function 26 (given) -/
def bits_TrailingZeros8.f (a0 : Int) : Option Int := if 0 ≤ a0 ∧ a0 < 256 then some (X.low8 a0.toNat : Int) else none
set_option maxHeartbeats 400000 in
set_option maxRecDepth 100000 in
theorem bits_TrailingZeros8.calls (a0 : Int) (r : Int) (w : World) (h : bits_TrailingZeros8.f a0 = some r) :
    Calls Try.prog 26 #[.int .u8 a0] w fun e w' => e = .returned (.int .i64 r) ∧ w' = w := by
  unfold bits_TrailingZeros8.f at h
  by_cases hb : 0 ≤ a0 ∧ a0 < 256
  rotate_left
  · rw [if_neg hb] at h
    cases h
  rw [if_pos hb] at h
  have HR := Aside0.mk h
  clear h
  obtain ⟨h0, h1⟩ := hb
  go_enter Try.func26, Try.ntmps26
  go_wp2
  go_ret
  obtain rfl := Option.some.inj HR.out
  refine ⟨congrArg (fun z => Ending.returned (.int .i64 z)) ?_, rfl⟩
  clear HR
  obtain ⟨n, rfl⟩ := X.byte_fin h0 h1
  revert h0 h1
  revert n
  decide +kernel

end Go.Proofs.Ytlieacllpifhkaa.U
