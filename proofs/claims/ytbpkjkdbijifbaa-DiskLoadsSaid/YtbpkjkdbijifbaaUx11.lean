/- Written by uprint.py (ours) for this seat: functions of the translation as Lean functions, and what their calls do. Not trusted: Lean checks it. -/
import Derived.Test.YtbpkjkdbijifbaaUx0
import Derived.Test.YtbpkjkdbijifbaaUx6
import Derived.Test.YtbpkjkdbijifbaaUx8
import Derived.Test.YtbpkjkdbijifbaaUx10
import Derived.Test.YtbpkjkdbijifbaaUx12
import Derived.Test.YtbpkjkdbijifbaaUx19
namespace Go.Proofs.Ytbpkjkdbijifbaa.U
open Go.RowKit Go.Proofs.YtbpkjkdbijifbaaW.PrintWords Go.Proofs.YtbpkjkdbijifbaaW.PrintLast Go.Proofs.YtbpkjkdbijifbaaW.PrintMore
attribute [local go_sem] max2_int min2_int max_two min_two max_three min_three max_four min_four   -- for this text's walks alone
set_option linter.unusedVariables false
set_option linter.unusedSimpArgs false

/-! ### undercroftlaw02_DiskLoads: function 4 (given) -/
def undercroftlaw02_DiskLoads.f (l0 : List Int) (a1 : Int) : Option Bool := if (decide (l0.length ≤ 140737488351232) && X.u8all l0) = true then some true else none
set_option maxHeartbeats 8000000 in
set_option maxRecDepth 100000 in
theorem undercroftlaw02_DiskLoads.calls (A0 : Option Addr) (c0 : Nat) (l0 : List Int) (a1 : Int) (r : Bool) (w : World)
    (hr0 : (Kd.int .u8).C w A0 l0.length l0) (hc0 : l0.length ≤ c0) (h : undercroftlaw02_DiskLoads.f l0 a1 = some r) :
    Calls Try.prog 4 #[.slice A0 l0.length c0, .int .i64 a1] w fun e w' => e = .returned (.bool r) ∧ Below w.heap.size w w' := by
  unfold undercroftlaw02_DiskLoads.f at h
  by_cases hok : (decide (l0.length ≤ 140737488351232) && X.u8all l0) = true
  rotate_left
  · rw [if_neg hok] at h
    cases h
  rw [if_pos hok] at h
  obtain rfl := Option.some.inj h
  rw [Bool.and_eq_true, decide_eq_true_eq] at hok
  obtain ⟨hlen, hu⟩ := hok
  clear h
  obtain ⟨m, hm1, hm2⟩ : ∃ m : Nat, m ≤ l0.length ∧ wrap64 ((IntKind.u64.wrap a1).tmod ((l0.length : Int) + 1)) = (m : Int) := by
    obtain ⟨z, hz⟩ : ∃ z, z = IntKind.u64.wrap a1 := ⟨_, rfl⟩
    have h0 : 0 ≤ z := by rw [hz]; simp [IntKind.wrap, IntKind.bits, IntKind.signed]; omega
    rw [← hz, Int.tmod_eq_emod_of_nonneg h0]
    have h1 := Int.emod_nonneg z (show ((l0.length : Int) + 1) ≠ 0 by omega)
    have h2 := Int.emod_lt_of_pos z (show 0 < ((l0.length : Int) + 1) by omega)
    obtain ⟨y, hy⟩ : ∃ y, y = z % ((l0.length : Int) + 1) := ⟨_, rfl⟩
    rw [← hy] at h1 h2 ⊢
    exact ⟨y.toNat, by omega, by unfold wrap64; omega⟩
  have HR0 : Aside0 (∀ w', Below w.heap.size w w' → (Kd.int .u8).C w' A0 (l0.take m).length (l0.take m)) := ⟨fun w' hb => Kd.C_take (Kd.C_below hr0 hb) hm1⟩
  have HU : Aside0 (X.u8all (l0.take m) = true) := ⟨X.u8all_take hu m⟩
  obtain ⟨ys, hys⟩ : ∃ ys, ys = l0.take m := ⟨_, rfl⟩
  have hml : m = ys.length := by rw [hys, List.length_take]; omega
  rw [← hys] at HR0 HU
  subst hml
  have HC0 : Aside0 (ys.length ≤ c0) := ⟨by omega⟩
  have HZ : Aside0 (ys.length ≤ 140737488351232) := ⟨by omega⟩
  clear hr0 hu hys
  go_enter Try.func4, Try.ntmps4
  go_wp2_with fail
  refine (undercroftlaw02_alive.calls true w rfl).mono ?_
  rintro e w2 ⟨rfl, hb1⟩
  have HS2 := Aside0.mk ((X.Lies.start w).grow hb1)
  clear hb1
  have HB1 : Aside0 (Below w2.heap.size w2 (w2.alloc (.cells #[] 5))) := ⟨(Below.refl _ _).alloc (Nat.le_refl _) _⟩
  have HC1 : Aside0 ((Kd.int .u8).C (w2.alloc (.cells #[] 5)) A0 ys.length ys) := ⟨Kd.C_below (HR0.out _ HS2.out.below) HB1.out⟩
  go_wp2_with ((with_reducible refine gate_builtin (b := .append) (xs := #[.tmp 25, .tmp 28]) rfl ?_); at_builtin; refine Kd.R_append_row (Value.int .u8) (0 : Int) (w0 := w2) w2.heap.size rfl (.tmp 25) (.tmp 28) 22 5 (.int .u8 0) 1 rfl Try.underlying22 info5 rfl (by decide) _ [] ys A0 ys.length c0 (fun _ => True) rfl rfl (fun _ _ => trivial) (empty_row w2) HC1.out HB1.out HB1.out.size (by have := HZ.out; simp; omega) ?_; intro v3 w3 ho1 hb1 hg1 hat1; rw [List.nil_append] at ho1; have HS3 := Aside0.mk (HS2.out.newRow (d := Kd.int .u8) hb1 ho1); have HO3 := Aside0.mk ho1; obtain ⟨Ag, cg, e1⟩ := Kd.R_slice ho1; subst e1; clear ho1 hb1 hg1 hat1)
  clear hm2 HB1 HC1 HS2
  by_cases hv : ys.length = 0 ∨ 262144 < ys.length ∨ ys.length % 256 ≠ 0
  · refine (disk_Load_no.calls Ag cg ys.length w3 hv (by have := HZ.out; omega)).mono ?_
    rintro e w' ⟨rfl, rfl⟩
    go_wp2_with fail
    refine (undercroftref02_Load_no.calls A0 c0 ys.length w3 hv (by have := HZ.out; omega)).mono ?_
    rintro e w' ⟨rfl, rfl⟩
    have HBZ := Aside0.mk HS3.out.below
    clear HS3 HO3
    go_wp2
    go_ret
    exact ⟨rfl, HBZ.out⟩
  · obtain ⟨k, hk⟩ : ∃ k, ys.length = 256 * k := ⟨ys.length / 256, by omega⟩
    have h1 : 1 ≤ k := by omega
    have h2 : k ≤ 1024 := by omega
    have hpos : 0 < ys.length := by omega
    obtain ⟨g, cg', e1, -⟩ := Kd.R_form HO3.out hpos
    obtain ⟨rfl, -, rfl⟩ := Value.slice.inj e1
    have HKK := Aside0.mk hk
    clear HO3 e1 hv hk
    refine (disk_Load.part w w3 _ (some ⟨g, 0, none⟩) cg k ys HS3.out (HS3.out.rowC 0 rfl).1 (HS3.out.rowC 0 rfl).2.1 HKK.out HU.out h1 h2).mono ?_
    rintro e w4 ⟨p, rfl, hs⟩
    have HS4 := Aside0.mk hs
    clear hs HS3
    go_wp2_with fail
    refine (undercroftref02_Load.calls w w4 _ A0 c0 k ys HS4.out (HR0.out _ HS4.out.below) HC0.out HKK.out HU.out h1 h2).mono ?_
    rintro e w5 ⟨q, rfl, hs⟩
    have HIM := Aside0.mk (image_bytes (X.DS.new_ok HKK.out h1 h2 HU.out) rfl rfl)
    have HPN : Aside0 ((X.DS.new ys).pend.length = 0) := ⟨rfl⟩
    have HBL : Aside0 ((X.DS.new ys).bytes.length = ys.length) := ⟨rfl⟩
    obtain ⟨s, hs0⟩ : ∃ s, s = X.DS.new ys := ⟨_, rfl⟩
    rw [← hs0] at hs HIM HPN HBL
    have HS5 := Aside0.mk (hs.perm [2, 1, 0] 3 (by decide) (by decide))
    clear hs hs0 HS4 HR0 HC0 HU HKK h1 h2
    go_wp2_with fail
    go_loopg [11] ys.length (fun gk v11_ w' => ∃ (i : Nat) (xs : List Int), v11_ = .int .i64 (i : Int) ∧ Aside0 (gk + i = ys.length) ∧ Aside0 (xs.length = ys.length) ∧ Aside0 (X.Lies w w' [.row (Kd.int .u8) 5 (.slice (some ⟨g, 0, none⟩) ys.length cg) xs, .disk p k s, .rdisk q k s]))
    case atStart => exact ⟨0, _, rfl, ⟨by omega⟩, ⟨rfl⟩, HS5⟩
    case round =>
      clear HS5
      obtain ⟨i, xs, rfl, HK, HXL, HS5⟩ := hrel
      by_cases hlt : i < ys.length
      · have q3 : decide ((i : Int) < (ys.length : Int)) = true := decide_eq_true (by omega)
        have q33 : decide (i < ys.length) = true := decide_eq_true hlt
        obtain ⟨z, hz⟩ : ∃ z, xs[i]? = some z := ⟨_, List.getElem?_eq_getElem (by rw [HXL.out]; exact hlt)⟩
        obtain ⟨c0_, c00_⟩ := HS5.out.cellRow (enc := Value.int .u8) (h1 := fun _ => rfl) 0 rfl hz
        have HS6 := Aside0.mk ((show X.Lies w wr (.row (Kd.scalar (Value.int .u8) (fun _ => rfl)) 5 (.slice (some ⟨g, 0, none⟩) ys.length cg) xs :: _) from HS5.out).putRow i (Go.bits .xor .u8 z 255))
        have HX6 : Aside0 ((xs.set i (Go.bits .xor .u8 z 255)).length = ys.length) := ⟨by rw [List.length_set]; exact HXL.out⟩
        clear HS5 HXL hz
        go_wp2_with fail
        cases gk with
        | zero => exact absurd HK.out (by omega)
        | succ k1 =>
          go_roundg k1
          case measure => omega
          case rel => exact ⟨i + 1, _, by first | go_num | rfl, ⟨by have := HK.out; omega⟩, HX6, HS6⟩
      · have q3 : decide ((i : Int) < (ys.length : Int)) = false := decide_eq_false (by omega)
        have q33 : decide (i < ys.length) = false := decide_eq_false hlt
        have HS6 := Aside0.mk (HS5.out.perm [1, 0, 2] 3 (by decide) (by decide))
        clear HK hlt HS5 HXL
        go_wp2_with fail
        refine (disk_Image.part w wr _ p k s HS6.out).mono ?_
        rintro e w6 ⟨v, rfl, hs⟩
        rw [HIM.out] at hs
        obtain ⟨Aa, ca, rfl, -, -⟩ := row_str hs 0 rfl
        have HS7 := Aside0.mk (hs.perm [1, 0, 2, 3] 4 (by decide) (by decide))
        clear hs HS6
        go_wp2_with fail
        refine (disk_Stable.part w w6 _ p k s HS7.out).mono ?_
        rintro e w7 ⟨v, rfl, hs⟩
        obtain ⟨O, hro⟩ := hs.rowed 0 rfl
        obtain ⟨g2, c2, rfl, -⟩ := Kd.R_form hro (by rw [HBL.out]; exact hpos)
        have HS8 := Aside0.mk hs
        clear hs hro O HS7
        go_wp2_with fail
        go_loopg [14] s.bytes.length (fun gk v14_ w' => ∃ (i : Nat) (xs : List Int), v14_ = .int .i64 (i : Int) ∧ Aside0 (gk + i = s.bytes.length) ∧ Aside0 (xs.length = s.bytes.length) ∧ ∃ ws, Aside0 (X.Lies w w' [.row (Kd.int .u8) 5 (.slice (some ⟨g2, 0, none⟩) s.bytes.length c2) xs, .disk p k s, .row (Kd.int .u8) 5 (.slice Aa s.bytes.length ca) s.bytes, .row (Kd.int .u8) 5 (.slice (some ⟨g, 0, none⟩) ys.length cg) ws, .rdisk q k s]))
        case atStart => exact ⟨0, _, rfl, ⟨by omega⟩, ⟨rfl⟩, _, HS8⟩
        case round =>
          clear HS8
          obtain ⟨i, xs, rfl, HK, HXL, ws, HS5⟩ := hrel
          by_cases hlt : i < s.bytes.length
          · have q4 : decide ((i : Int) < (s.bytes.length : Int)) = true := decide_eq_true (by omega)
            have q44 : decide (i < s.bytes.length) = true := decide_eq_true hlt
            obtain ⟨z, hz⟩ : ∃ z, xs[i]? = some z := ⟨_, List.getElem?_eq_getElem (by rw [HXL.out]; exact hlt)⟩
            obtain ⟨c0_, c00_⟩ := HS5.out.cellRow (enc := Value.int .u8) (h1 := fun _ => rfl) 0 rfl hz
            have HS6 := Aside0.mk ((show X.Lies w wr (.row (Kd.scalar (Value.int .u8) (fun _ => rfl)) 5 (.slice (some ⟨g2, 0, none⟩) s.bytes.length c2) xs :: _) from HS5.out).putRow i (Go.bits .xor .u8 z 255))
            have HX6 : Aside0 ((xs.set i (Go.bits .xor .u8 z 255)).length = s.bytes.length) := ⟨by rw [List.length_set]; exact HXL.out⟩
            clear HS5 HXL hz
            go_wp2_with fail
            cases gk with
            | zero => exact absurd HK.out (by omega)
            | succ k1 =>
              go_roundg k1
              case measure => omega
              case rel => exact ⟨i + 1, _, by have := HZ.out; have := HBL.out; rw [show wrap64 ((i : Int) + 1) = ((i + 1 : Nat) : Int) from by unfold wrap64; omega], ⟨by have := HK.out; omega⟩, HX6, _, HS6⟩
          · have q4 : decide ((i : Int) < (s.bytes.length : Int)) = false := decide_eq_false (by omega)
            have q44 : decide (i < s.bytes.length) = false := decide_eq_false hlt
            obtain ⟨v0, v1, v2, hokr, hs2⟩ := (HS5.out.perm [4, 1, 2, 0, 3] 5 (by decide) (by decide)).rdisk
            obtain ⟨A0_, c0_, rfl, -, -⟩ := row_str hs2 1 rfl
            have HSm := Aside0.mk hs2
            clear HK hlt HS5 HXL hs2 hokr
            go_wp2_with fail
            refine start_ (n := 36) (S := (fun w' => (convert 22 9 (.slice Aa s.bytes.length ca)).run Try.prog w' = .ok (.string (strOfNums s.bytes)) w' ∧ w'.cell? ⟨q, 0, none⟩ = some (.slice A0_ s.bytes.length c0_) ∧ (convert 22 9 (.slice A0_ s.bytes.length c0_)).run Try.prog w' = .ok (.string (strOfNums s.bytes)) w')) (ds := []) #[false, false, false, false, false, false, false, false, false, false, false, false, false, false, false, false, false, false, false, false, false, false, false, false, false, false, false, false, false, false, false, false, false, false, false, false] (by kernel_rfl) rfl rfl ⟨row_conv HSm.out.drew 5 rfl, (HSm.out.drew.boxed 0 rfl).cell 0 _ rfl, row_conv HSm.out.drew 1 rfl⟩ (fun hHeld => ?_)
            have HSi := Aside0.mk (HSm.out.drew)
            generalize World.drew _ = wi at *
            clear HSm
            refine pure_ (i := 0) (N := some 84) (v := ?_) (a' := ?_) #[true, false, false, false, false, false, false, false, false, false, false, false, false, false, false, false, false, false, false, false, false, false, false, false, false, false, false, false, false, false, false, false, false, false, false, false] rfl rfl (by kernel_rfl) (fun _ _ _ h => h) (Or.inl ⟨by rfl, ?_⟩) ?_ ?_
            rotate_left
            · intro w' 
              go_simp
              with_reducible rfl
            rotate_left
            · simp only [Act.put, List.setIfInBounds_toArray, List.set_cons_zero, List.set_cons_succ, i64_w, i32_w]
              rfl
            refine take_ (i := 1) (N := some 85) (v := .string (strOfNums s.bytes)) (a' := ?_) #[true, true, false, false, false, false, false, false, false, false, false, false, false, false, false, false, false, false, false, false, false, false, false, false, false, false, false, false, false, false, false, false, false, false, false, false] rfl rfl (by kernel_rfl) (fun _ _ _ h => h) (Or.inl ⟨by rfl, ?_⟩) hHeld ?_ ?_
            · intro w' hs_
              obtain ⟨hsa, hsc, hsv⟩ := hs_
              exact conv_exec _ (by rfl) _ _ (by rfl) hsa
            rotate_left
            · simp only [Act.put, List.setIfInBounds_toArray, List.set_cons_zero, List.set_cons_succ, i64_w, i32_w]
              rfl
            refine pure_ (i := 2) (N := some 86) (v := ?_) (a' := ?_) #[true, true, true, false, false, false, false, false, false, false, false, false, false, false, false, false, false, false, false, false, false, false, false, false, false, false, false, false, false, false, false, false, false, false, false, false] rfl rfl (by kernel_rfl) (fun _ _ _ h => h) (Or.inl ⟨by rfl, ?_⟩) ?_ ?_
            rotate_left
            · intro w' 
              go_simp
              with_reducible rfl
            rotate_left
            · simp only [Act.put, List.setIfInBounds_toArray, List.set_cons_zero, List.set_cons_succ, i64_w, i32_w]
              rfl
            refine pure_ (i := 3) (N := some 87) (v := ?_) (a' := ?_) #[true, true, true, true, false, false, false, false, false, false, false, false, false, false, false, false, false, false, false, false, false, false, false, false, false, false, false, false, false, false, false, false, false, false, false, false] rfl rfl (by kernel_rfl) (fun _ _ _ h => h) (Or.inl ⟨by rfl, ?_⟩) ?_ ?_
            rotate_left
            · intro w' 
              go_simp
              with_reducible rfl
            rotate_left
            · simp only [Act.put, List.setIfInBounds_toArray, List.set_cons_zero, List.set_cons_succ, i64_w, i32_w]
              rfl
            refine pure_ (i := 4) (N := some 88) (v := ?_) (a' := ?_) #[true, true, true, true, true, false, false, false, false, false, false, false, false, false, false, false, false, false, false, false, false, false, false, false, false, false, false, false, false, false, false, false, false, false, false, false] rfl rfl (by kernel_rfl) (fun _ _ _ h => h) (Or.inl ⟨by rfl, ?_⟩) ?_ ?_
            rotate_left
            · intro w' 
              go_simp
              with_reducible rfl
            rotate_left
            · simp only [Act.put, List.setIfInBounds_toArray, List.set_cons_zero, List.set_cons_succ, i64_w, i32_w]
              rfl
            refine take_ (i := 5) (N := some 89) (v := .slice A0_ s.bytes.length c0_) (a' := ?_) #[true, true, true, true, true, true, false, false, false, false, false, false, false, false, false, false, false, false, false, false, false, false, false, false, false, false, false, false, false, false, false, false, false, false, false, false] rfl rfl (by kernel_rfl) (fun _ _ _ h => h) (Or.inl ⟨by rfl, ?_⟩) hHeld ?_ ?_
            · intro w' hs_
              obtain ⟨hsa, hsc, hsv⟩ := hs_
              exact (by go_simp; done)
            rotate_left
            · simp only [Act.put, List.setIfInBounds_toArray, List.set_cons_zero, List.set_cons_succ, i64_w, i32_w]
              rfl
            refine take_ (i := 6) (N := some 90) (v := .string (strOfNums s.bytes)) (a' := ?_) #[true, true, true, true, true, true, true, false, false, false, false, false, false, false, false, false, false, false, false, false, false, false, false, false, false, false, false, false, false, false, false, false, false, false, false, false] rfl rfl (by kernel_rfl) (fun _ _ _ h => h) (Or.inl ⟨by rfl, ?_⟩) hHeld ?_ ?_
            · intro w' hs_
              obtain ⟨hsa, hsc, hsv⟩ := hs_
              exact conv_exec _ (by rfl) _ _ (by rfl) hsv
            rotate_left
            · simp only [Act.put, List.setIfInBounds_toArray, List.set_cons_zero, List.set_cons_succ, i64_w, i32_w]
              rfl
            refine pure_ (i := 7) (N := some 91) (v := .bool true) (a' := ?_) #[true, true, true, true, true, true, true, true, false, false, false, false, false, false, false, false, false, false, false, false, false, false, false, false, false, false, false, false, false, false, false, false, false, false, false, false] rfl rfl (by kernel_rfl) (fun _ _ _ h => h) (Or.inl ⟨by rfl, ?_⟩) ?_ ?_
            · intro w' 
              exact (by go_simp; done)
            rotate_left
            · simp only [Act.put, List.setIfInBounds_toArray, List.set_cons_zero, List.set_cons_succ, i64_w, i32_w]
              rfl
            refine pure_ (i := 8) (N := some 92) (v := ?_) (a' := ?_) #[true, true, true, true, true, true, true, true, true, false, false, false, false, false, false, false, false, false, false, false, false, false, false, false, false, false, false, false, false, false, false, false, false, false, false, false] rfl rfl (by kernel_rfl) (fun _ _ _ h => h) (Or.inl ⟨by rfl, ?_⟩) ?_ ?_
            rotate_left
            · intro w' 
              go_simp
              with_reducible rfl
            rotate_left
            · simp only [Act.put, List.setIfInBounds_toArray, List.set_cons_zero, List.set_cons_succ, i64_w, i32_w]
              rfl
            refine pure_ (i := 9) (N := some 93) (v := ?_) (a' := ?_) #[true, true, true, true, true, true, true, true, true, true, false, false, false, false, false, false, false, false, false, false, false, false, false, false, false, false, false, false, false, false, false, false, false, false, false, false] rfl rfl (by kernel_rfl) (fun _ _ _ h => h) (Or.inl ⟨by rfl, ?_⟩) ?_ ?_
            rotate_left
            · intro w' 
              go_simp
              with_reducible rfl
            rotate_left
            · simp only [Act.put, List.setIfInBounds_toArray, List.set_cons_zero, List.set_cons_succ, i64_w, i32_w]
              rfl
            refine pure_ (i := 12) (N := some 96) (v := ?_) (a' := ?_) #[true, true, true, true, true, true, true, true, true, true, false, false, true, false, false, false, false, false, false, false, false, false, false, false, false, false, false, false, false, false, false, false, false, false, false, false] rfl rfl (by kernel_rfl) (fun _ _ _ h => h) (Or.inl ⟨by rfl, ?_⟩) ?_ ?_
            rotate_left
            · intro w' 
              go_simp
              with_reducible rfl
            rotate_left
            · simp only [Act.put, List.setIfInBounds_toArray, List.set_cons_zero, List.set_cons_succ, i64_w, i32_w]
              rfl
            refine pure_ (i := 13) (N := some 97) (v := ?_) (a' := ?_) #[true, true, true, true, true, true, true, true, true, true, false, false, true, true, false, false, false, false, false, false, false, false, false, false, false, false, false, false, false, false, false, false, false, false, false, false] rfl rfl (by kernel_rfl) (fun _ _ _ h => h) (Or.inl ⟨by rfl, ?_⟩) ?_ ?_
            rotate_left
            · intro w' 
              go_simp
              with_reducible rfl
            rotate_left
            · simp only [Act.put, List.setIfInBounds_toArray, List.set_cons_zero, List.set_cons_succ, i64_w, i32_w]
              rfl
            refine pure_ (i := 14) (N := some 98) (v := ?_) (a' := ?_) #[true, true, true, true, true, true, true, true, true, true, false, false, true, true, true, false, false, false, false, false, false, false, false, false, false, false, false, false, false, false, false, false, false, false, false, false] rfl rfl (by kernel_rfl) (fun _ _ _ h => h) (Or.inl ⟨by rfl, ?_⟩) ?_ ?_
            rotate_left
            · intro w' 
              go_simp
              with_reducible rfl
            rotate_left
            · simp only [Act.put, List.setIfInBounds_toArray, List.set_cons_zero, List.set_cons_succ, i64_w, i32_w]
              rfl
            refine take_ (i := 15) (N := some 99) (v := .slice A0_ s.bytes.length c0_) (a' := ?_) #[true, true, true, true, true, true, true, true, true, true, false, false, true, true, true, true, false, false, false, false, false, false, false, false, false, false, false, false, false, false, false, false, false, false, false, false] rfl rfl (by kernel_rfl) (fun _ _ _ h => h) (Or.inl ⟨by rfl, ?_⟩) hHeld ?_ ?_
            · intro w' hs_
              obtain ⟨hsa, hsc, hsv⟩ := hs_
              exact (by go_simp; done)
            rotate_left
            · simp only [Act.put, List.setIfInBounds_toArray, List.set_cons_zero, List.set_cons_succ, i64_w, i32_w]
              rfl
            refine take_ (i := 16) (N := some 100) (v := .string (strOfNums s.bytes)) (a' := ?_) #[true, true, true, true, true, true, true, true, true, true, false, false, true, true, true, true, true, false, false, false, false, false, false, false, false, false, false, false, false, false, false, false, false, false, false, false] rfl rfl (by kernel_rfl) (fun _ _ _ h => h) (Or.inl ⟨by rfl, ?_⟩) hHeld ?_ ?_
            · intro w' hs_
              obtain ⟨hsa, hsc, hsv⟩ := hs_
              exact conv_exec _ (by rfl) _ _ (by rfl) hsv
            rotate_left
            · simp only [Act.put, List.setIfInBounds_toArray, List.set_cons_zero, List.set_cons_succ, i64_w, i32_w]
              rfl
            refine one_ (i := 10) (N := some 94) #[true, true, true, true, true, true, true, true, true, true, true, false, true, true, true, true, true, false, false, false, false, false, false, false, false, false, false, false, false, false, false, false, false, false, false, false] rfl rfl (by kernel_rfl) (by decide) (fun K hK => ?_)
            refine goes_ Try.func19 (by kernel_rfl) rfl #[.pointer (some ⟨p, 0, none⟩)] (by rfl) rfl rfl (by (try simp only [List.map_toArray, List.map_cons, List.map_nil]); first | done | rfl) ?_
            refine (disk_Image.part w wi _ p k s (HSi.out.perm [4, 0, 1, 2, 3, 5, 6, 7] 8 (by decide) (by decide))).mono ?_
            rintro e wj ⟨v, rfl, hs⟩
            rw [HIM.out] at hs
            obtain ⟨A7, c7, rfl, -, -⟩ := row_str hs 0 rfl
            have hk := row_conv hs 0 rfl
            have HSj := Aside0.mk (hs.perm [2, 3, 4, 5, 1, 6, 7, 8] 9 (by decide) (by decide))
            refine ⟨_, rfl, ?_⟩
            clear hs HSi hHeld
            refine hK.out _ _ ⟨row_conv HSj.out 5 rfl, (HSj.out.boxed 0 rfl).cell 0 _ rfl, row_conv HSj.out 1 rfl⟩ (fun hHeld => ?_)
            clear hK K
            refine norm_ (a' := ?_) ?_ ?_
            rotate_left
            · show Act.put _ (some 94) _ = _
              simp only [Act.put, List.setIfInBounds_toArray, List.set_cons_zero, List.set_cons_succ, i64_w, i32_w]
              rfl
            refine one_ (i := 11) (N := some 95) #[true, true, true, true, true, true, true, true, true, true, true, true, true, true, true, true, true, false, false, false, false, false, false, false, false, false, false, false, false, false, false, false, false, false, false, false] rfl rfl (by kernel_rfl) (by decide) (fun K hK => ?_)
            refine X.val_ (by rfl) rfl (conv_exec _ (by rfl) _ _ (by rfl) hk) ?_
            refine hK.out _ _ ⟨row_conv HSj.out 5 rfl, (HSj.out.boxed 0 rfl).cell 0 _ rfl, row_conv HSj.out 1 rfl⟩ (fun hHeld => ?_)
            clear hK K
            refine norm_ (a' := ?_) ?_ ?_
            rotate_left
            · show Act.put _ (some 95) _ = _
              simp only [Act.put, List.setIfInBounds_toArray, List.set_cons_zero, List.set_cons_succ, i64_w, i32_w]
              rfl
            clear hk
            refine pure_ (i := 17) (N := some 101) (v := .bool true) (a' := ?_) #[true, true, true, true, true, true, true, true, true, true, true, true, true, true, true, true, true, true, false, false, false, false, false, false, false, false, false, false, false, false, false, false, false, false, false, false] rfl rfl (by kernel_rfl) (fun _ _ _ h => h) (Or.inl ⟨by rfl, ?_⟩) ?_ ?_
            · intro w' 
              exact (by go_simp; done)
            rotate_left
            · simp only [Act.put, List.setIfInBounds_toArray, List.set_cons_zero, List.set_cons_succ, i64_w, i32_w]
              rfl
            refine pure_ (i := 18) (N := some 102) (v := .bool true) (a' := ?_) #[true, true, true, true, true, true, true, true, true, true, true, true, true, true, true, true, true, true, true, false, false, false, false, false, false, false, false, false, false, false, false, false, false, false, false, false] rfl rfl (by kernel_rfl) (fun _ _ _ h => h) (Or.inl ⟨by rfl, ?_⟩) ?_ ?_
            · intro w' 
              exact (by go_simp; done)
            rotate_left
            · simp only [Act.put, List.setIfInBounds_toArray, List.set_cons_zero, List.set_cons_succ, i64_w, i32_w]
              rfl
            refine pure_ (i := 19) (N := some 103) (v := ?_) (a' := ?_) #[true, true, true, true, true, true, true, true, true, true, true, true, true, true, true, true, true, true, true, true, false, false, false, false, false, false, false, false, false, false, false, false, false, false, false, false] rfl rfl (by kernel_rfl) (fun _ _ _ h => h) (Or.inl ⟨by rfl, ?_⟩) ?_ ?_
            rotate_left
            · intro w' 
              go_simp
              with_reducible rfl
            rotate_left
            · simp only [Act.put, List.setIfInBounds_toArray, List.set_cons_zero, List.set_cons_succ, i64_w, i32_w]
              rfl
            refine pure_ (i := 20) (N := some 104) (v := ?_) (a' := ?_) #[true, true, true, true, true, true, true, true, true, true, true, true, true, true, true, true, true, true, true, true, true, false, false, false, false, false, false, false, false, false, false, false, false, false, false, false] rfl rfl (by kernel_rfl) (fun _ _ _ h => h) (Or.inl ⟨by rfl, ?_⟩) ?_ ?_
            rotate_left
            · intro w' 
              go_simp
              with_reducible rfl
            rotate_left
            · simp only [Act.put, List.setIfInBounds_toArray, List.set_cons_zero, List.set_cons_succ, i64_w, i32_w]
              rfl
            refine pure_ (i := 23) (N := some 107) (v := ?_) (a' := ?_) #[true, true, true, true, true, true, true, true, true, true, true, true, true, true, true, true, true, true, true, true, true, false, false, true, false, false, false, false, false, false, false, false, false, false, false, false] rfl rfl (by kernel_rfl) (fun _ _ _ h => h) (Or.inl ⟨by rfl, ?_⟩) ?_ ?_
            rotate_left
            · intro w' 
              go_simp
              with_reducible rfl
            rotate_left
            · simp only [Act.put, List.setIfInBounds_toArray, List.set_cons_zero, List.set_cons_succ, i64_w, i32_w]
              rfl
            refine pure_ (i := 24) (N := some 108) (v := ?_) (a' := ?_) #[true, true, true, true, true, true, true, true, true, true, true, true, true, true, true, true, true, true, true, true, true, false, false, true, true, false, false, false, false, false, false, false, false, false, false, false] rfl rfl (by kernel_rfl) (fun _ _ _ h => h) (Or.inl ⟨by rfl, ?_⟩) ?_ ?_
            rotate_left
            · intro w' 
              go_simp
              with_reducible rfl
            rotate_left
            · simp only [Act.put, List.setIfInBounds_toArray, List.set_cons_zero, List.set_cons_succ, i64_w, i32_w]
              rfl
            refine pure_ (i := 25) (N := some 109) (v := ?_) (a' := ?_) #[true, true, true, true, true, true, true, true, true, true, true, true, true, true, true, true, true, true, true, true, true, false, false, true, true, true, false, false, false, false, false, false, false, false, false, false] rfl rfl (by kernel_rfl) (fun _ _ _ h => h) (Or.inl ⟨by rfl, ?_⟩) ?_ ?_
            rotate_left
            · intro w' 
              go_simp
              with_reducible rfl
            rotate_left
            · simp only [Act.put, List.setIfInBounds_toArray, List.set_cons_zero, List.set_cons_succ, i64_w, i32_w]
              rfl
            refine take_ (i := 26) (N := some 110) (v := .slice A0_ s.bytes.length c0_) (a' := ?_) #[true, true, true, true, true, true, true, true, true, true, true, true, true, true, true, true, true, true, true, true, true, false, false, true, true, true, true, false, false, false, false, false, false, false, false, false] rfl rfl (by kernel_rfl) (fun _ _ _ h => h) (Or.inl ⟨by rfl, ?_⟩) hHeld ?_ ?_
            · intro w' hs_
              obtain ⟨hsa, hsc, hsv⟩ := hs_
              exact (by go_simp; done)
            rotate_left
            · simp only [Act.put, List.setIfInBounds_toArray, List.set_cons_zero, List.set_cons_succ, i64_w, i32_w]
              rfl
            refine take_ (i := 27) (N := some 111) (v := .string (strOfNums s.bytes)) (a' := ?_) #[true, true, true, true, true, true, true, true, true, true, true, true, true, true, true, true, true, true, true, true, true, false, false, true, true, true, true, true, false, false, false, false, false, false, false, false] rfl rfl (by kernel_rfl) (fun _ _ _ h => h) (Or.inl ⟨by rfl, ?_⟩) hHeld ?_ ?_
            · intro w' hs_
              obtain ⟨hsa, hsc, hsv⟩ := hs_
              exact conv_exec _ (by rfl) _ _ (by rfl) hsv
            rotate_left
            · simp only [Act.put, List.setIfInBounds_toArray, List.set_cons_zero, List.set_cons_succ, i64_w, i32_w]
              rfl
            refine one_ (i := 21) (N := some 105) #[true, true, true, true, true, true, true, true, true, true, true, true, true, true, true, true, true, true, true, true, true, true, false, true, true, true, true, true, false, false, false, false, false, false, false, false] rfl rfl (by kernel_rfl) (by decide) (fun K hK => ?_)
            refine goes_ Try.func16 (by kernel_rfl) rfl #[.pointer (some ⟨p, 0, none⟩)] (by rfl) rfl rfl (by (try simp only [List.map_toArray, List.map_cons, List.map_nil]); first | done | rfl) ?_
            refine (disk_Stable.part w wj _ p k s (HSj.out.perm [4, 0, 1, 2, 3, 5, 6, 7] 8 (by decide) (by decide))).mono ?_
            rintro e wk ⟨v, rfl, hs⟩
            obtain ⟨A7, c7, rfl, -, -⟩ := row_str hs 0 rfl
            have hk := row_conv hs 0 rfl
            have HSk := Aside0.mk (hs.perm [2, 3, 4, 5, 1, 6, 7, 8] 9 (by decide) (by decide))
            refine ⟨_, rfl, ?_⟩
            clear hs HSj hHeld
            refine hK.out _ _ ⟨row_conv HSk.out 5 rfl, (HSk.out.boxed 0 rfl).cell 0 _ rfl, row_conv HSk.out 1 rfl⟩ (fun hHeld => ?_)
            clear hK K
            refine norm_ (a' := ?_) ?_ ?_
            rotate_left
            · show Act.put _ (some 105) _ = _
              simp only [Act.put, List.setIfInBounds_toArray, List.set_cons_zero, List.set_cons_succ, i64_w, i32_w]
              rfl
            refine one_ (i := 22) (N := some 106) #[true, true, true, true, true, true, true, true, true, true, true, true, true, true, true, true, true, true, true, true, true, true, true, true, true, true, true, true, false, false, false, false, false, false, false, false] rfl rfl (by kernel_rfl) (by decide) (fun K hK => ?_)
            refine X.val_ (by rfl) rfl (conv_exec _ (by rfl) _ _ (by rfl) hk) ?_
            refine hK.out _ _ ⟨row_conv HSk.out 5 rfl, (HSk.out.boxed 0 rfl).cell 0 _ rfl, row_conv HSk.out 1 rfl⟩ (fun hHeld => ?_)
            clear hK K
            refine norm_ (a' := ?_) ?_ ?_
            rotate_left
            · show Act.put _ (some 106) _ = _
              simp only [Act.put, List.setIfInBounds_toArray, List.set_cons_zero, List.set_cons_succ, i64_w, i32_w]
              rfl
            clear hk
            refine pure_ (i := 28) (N := some 112) (v := .bool true) (a' := ?_) #[true, true, true, true, true, true, true, true, true, true, true, true, true, true, true, true, true, true, true, true, true, true, true, true, true, true, true, true, true, false, false, false, false, false, false, false] rfl rfl (by kernel_rfl) (fun _ _ _ h => h) (Or.inl ⟨by rfl, ?_⟩) ?_ ?_
            · intro w' 
              exact (by go_simp; done)
            rotate_left
            · simp only [Act.put, List.setIfInBounds_toArray, List.set_cons_zero, List.set_cons_succ, i64_w, i32_w]
              rfl
            refine pure_ (i := 29) (N := some 113) (v := .bool true) (a' := ?_) #[true, true, true, true, true, true, true, true, true, true, true, true, true, true, true, true, true, true, true, true, true, true, true, true, true, true, true, true, true, true, false, false, false, false, false, false] rfl rfl (by kernel_rfl) (fun _ _ _ h => h) (Or.inl ⟨by rfl, ?_⟩) ?_ ?_
            · intro w' 
              exact (by go_simp; done)
            rotate_left
            · simp only [Act.put, List.setIfInBounds_toArray, List.set_cons_zero, List.set_cons_succ, i64_w, i32_w]
              rfl
            refine pure_ (i := 30) (N := some 114) (v := ?_) (a' := ?_) #[true, true, true, true, true, true, true, true, true, true, true, true, true, true, true, true, true, true, true, true, true, true, true, true, true, true, true, true, true, true, true, false, false, false, false, false] rfl rfl (by kernel_rfl) (fun _ _ _ h => h) (Or.inl ⟨by rfl, ?_⟩) ?_ ?_
            rotate_left
            · intro w' 
              go_simp
              with_reducible rfl
            rotate_left
            · simp only [Act.put, List.setIfInBounds_toArray, List.set_cons_zero, List.set_cons_succ, i64_w, i32_w]
              rfl
            refine pure_ (i := 31) (N := some 115) (v := ?_) (a' := ?_) #[true, true, true, true, true, true, true, true, true, true, true, true, true, true, true, true, true, true, true, true, true, true, true, true, true, true, true, true, true, true, true, true, false, false, false, false] rfl rfl (by kernel_rfl) (fun _ _ _ h => h) (Or.inl ⟨by rfl, ?_⟩) ?_ ?_
            rotate_left
            · intro w' 
              go_simp
              with_reducible rfl
            rotate_left
            · simp only [Act.put, List.setIfInBounds_toArray, List.set_cons_zero, List.set_cons_succ, i64_w, i32_w]
              rfl
            refine one_ (i := 32) (N := some 116) #[true, true, true, true, true, true, true, true, true, true, true, true, true, true, true, true, true, true, true, true, true, true, true, true, true, true, true, true, true, true, true, true, true, false, false, false] rfl rfl (by kernel_rfl) (by decide) (fun K hK => ?_)
            refine goes_ Try.func20 (by kernel_rfl) rfl #[.pointer (some ⟨p, 0, none⟩)] (by rfl) rfl rfl (by (try simp only [List.map_toArray, List.map_cons, List.map_nil]); first | done | rfl) ?_
            refine (disk_Pending.part w wk _ p k s (HSk.out.perm [4, 0, 1, 2, 3, 5, 6, 7] 8 (by decide) (by decide))).mono ?_
            rintro e w' ⟨rfl, rfl⟩
            rw [HPN.out]
            refine ⟨_, rfl, ?_⟩
            refine hK.out _ _ hHeld (fun hHeld => ?_)
            clear hK K
            refine norm_ (a' := ?_) ?_ ?_
            rotate_left
            · show Act.put _ (some 116) _ = _
              simp only [Act.put, List.setIfInBounds_toArray, List.set_cons_zero, List.set_cons_succ, i64_w, i32_w]
              rfl
            refine pure_ (i := 33) (N := some 117) (v := .bool true) (a' := ?_) #[true, true, true, true, true, true, true, true, true, true, true, true, true, true, true, true, true, true, true, true, true, true, true, true, true, true, true, true, true, true, true, true, true, true, false, false] rfl rfl (by kernel_rfl) (fun _ _ _ h => h) (Or.inl ⟨by rfl, ?_⟩) ?_ ?_
            · intro w' 
              exact (by go_simp; done)
            rotate_left
            · simp only [Act.put, List.setIfInBounds_toArray, List.set_cons_zero, List.set_cons_succ, i64_w, i32_w]
              rfl
            refine pure_ (i := 34) (N := some 118) (v := .bool true) (a' := ?_) #[true, true, true, true, true, true, true, true, true, true, true, true, true, true, true, true, true, true, true, true, true, true, true, true, true, true, true, true, true, true, true, true, true, true, true, false] rfl rfl (by kernel_rfl) (fun _ _ _ h => h) (Or.inl ⟨by rfl, ?_⟩) ?_ ?_
            · intro w' 
              exact (by go_simp; done)
            rotate_left
            · simp only [Act.put, List.setIfInBounds_toArray, List.set_cons_zero, List.set_cons_succ, i64_w, i32_w]
              rfl
            refine pure_ (i := 35) (N := some 4) (v := ?_) (a' := ?_) #[true, true, true, true, true, true, true, true, true, true, true, true, true, true, true, true, true, true, true, true, true, true, true, true, true, true, true, true, true, true, true, true, true, true, true, true] rfl rfl (by kernel_rfl) (fun _ _ _ h => h) (Or.inl ⟨by rfl, ?_⟩) ?_ ?_
            rotate_left
            · intro w' 
              go_simp
              with_reducible rfl
            rotate_left
            · simp only [Act.put, List.setIfInBounds_toArray, List.set_cons_zero, List.set_cons_succ, i64_w, i32_w]
              rfl
            refine done_ (by kernel_rfl) ?_
            have HBZ := Aside0.mk HSk.out.below
            clear HSk hHeld
            go_wp2
            go_ret
            exact ⟨rfl, HBZ.out⟩

end Go.Proofs.Ytbpkjkdbijifbaa.U
