/- Written by uprint.py (ours) for this seat: functions of the translation as Lean functions, and what their calls do. Not trusted: Lean checks it. -/
import Derived.Test.YtbpkjkdbijifbaaUx0
import Derived.Test.YtbpkjkdbijifbaaUx2
import Derived.Test.YtbpkjkdbijifbaaUx4
import Derived.Test.YtbpkjkdbijifbaaUx6
import Derived.Test.YtbpkjkdbijifbaaUx11
import Derived.Test.YtbpkjkdbijifbaaUx12
import Derived.Test.YtbpkjkdbijifbaaUx13
import Derived.Test.YtbpkjkdbijifbaaUx15
import Derived.Test.YtbpkjkdbijifbaaUx18
import Derived.Test.YtbpkjkdbijifbaaUx19
import Derived.Test.YtbpkjkdbijifbaaUx20
import Derived.Test.YtbpkjkdbijifbaaUx22
import Derived.Test.YtbpkjkdbijifbaaUx23
import Derived.Test.YtbpkjkdbijifbaaUx24
namespace Go.Proofs.Ytbpkjkdbijifbaa.U
open Go.RowKit Go.Proofs.YtbpkjkdbijifbaaW.PrintWords Go.Proofs.YtbpkjkdbijifbaaW.PrintLast Go.Proofs.YtbpkjkdbijifbaaW.PrintMore
attribute [local go_sem] max2_int min2_int max_two min_two max_three min_three max_four min_four   -- for this text's walks alone
set_option linter.unusedVariables false
set_option linter.unusedSimpArgs false

-- GIVEN: function 27 (undercroft/undercroftlaw02.both)
theorem empty_rowA (w : World) (o : Obj) : (Kd.int .u8).R 5 ((w.alloc o).alloc (.cells #[] 5)) (w.alloc o).heap.size (fun _ => True) (.slice (some ⟨w.heap.size + 1, 0, none⟩) 0 0) [] := by
  have h := empty_row (w.alloc o)
  rw [show (some (⟨(w.alloc o).heap.size, 0, none⟩ : Addr)) = some ⟨w.heap.size + 1, 0, none⟩ from by simp] at h
  exact h
theorem and7' (x : Int) : ∃ b : Nat, (b : Int) = x % 8 ∧ b < 8 ∧ Go.bits .and .i64 x 7 = (b : Int) := by
  have h : (BitVec.ofInt 64 x &&& BitVec.ofInt 64 7).toNat = (x % 8).toNat := by
    rw [BitVec.toNat_and, BitVec.toNat_ofInt, show (BitVec.ofInt 64 7).toNat = 2 ^ 3 - 1 from rfl, Nat.and_two_pow_sub_one_eq_mod]
    omega
  refine ⟨(x % 8).toNat, by omega, by omega, ?_⟩
  show IntKind.i64.wrap ((BitVec.ofInt 64 x &&& BitVec.ofInt 64 7).toNat : Int) = _
  rw [h]
  exact IntWalk.i64_in _ (by omega)
/-- What a deed makes of a disk. -/
def deedS (n : Nat) (x0 x1 x2 : Int) (x3 : Bool) (x4 : List Int) (s : X.DS) : X.DS :=
  if x0 % 8 = 1 then s.flush else if x0 % 8 = 2 then s.settle x4 else if x0 % 8 = 6 then s.fuse x1 else if x0 % 8 = 3 ∨ x0 % 8 = 7 then s.crash x4 else put s n x1 (dataL x2 (dataN x3))
set_option maxHeartbeats 8000000 in
set_option maxRecDepth 100000 in
theorem undercroftlaw02_both.calls (w0 w : World) (L : List X.Res) (p q n : Nat) (s : X.DS) (x0 x1 x2 : Int) (x3 : Bool) (A4 : Option Addr) (c4 : Nat) (x4 : List Int) (h : X.Lies w0 w (.disk p n s :: .rdisk q n s :: L)) (hr : X.Rd w0 L fun w' => (Kd.int .u8).C w' A4 x4.length x4) (hc : x4.length ≤ c4) (hx1 : x1 ≤ 9223372036854775807) (hsz : x4.length ≤ 140737488351232) (hpl : s.pend.length ≤ 100000) (hgl : s.ghosts.length ≤ 100000) :
    Calls Try.prog 27 #[.pointer (some ⟨p, 0, none⟩), .pointer (some ⟨q, 0, none⟩), .agg #[.int .i64 x0, .int .i64 x1, .int .u8 x2, .bool x3, .slice A4 x4.length c4]] w fun e w' => e = .returned (.bool true) ∧ X.Lies w0 w' (.disk p n (deedS n x0 x1 x2 x3 x4 s) :: .rdisk q n (deedS n x0 x1 x2 x3 x4 s) :: L) := by
  have HS0 := Aside0.mk (h.alloc #[.int .i64 x0, .int .i64 x1, .int .u8 x2, .bool x3, .slice A4 x4.length c4] 24)
  have HRB := Aside0.mk hr
  have HSZ := Aside0.mk hsz
  obtain ⟨o, ho0, ho8, hoe⟩ := and7' x0
  have HO := Aside0.mk ho0
  clear h hr hsz ho0
  have HB1 : Aside0 (Below (w.alloc (.cells #[.int .i64 x0, .int .i64 x1, .int .u8 x2, .bool x3, .slice A4 x4.length c4] 24)).heap.size (w.alloc (.cells #[.int .i64 x0, .int .i64 x1, .int .u8 x2, .bool x3, .slice A4 x4.length c4] 24)) ((w.alloc (.cells #[.int .i64 x0, .int .i64 x1, .int .u8 x2, .bool x3, .slice A4 x4.length c4] 24)).alloc (.cells #[] 5))) := ⟨(Below.refl _ _).alloc (Nat.le_refl _) _⟩
  have HC1 : Aside0 ((Kd.int .u8).C ((w.alloc (.cells #[.int .i64 x0, .int .i64 x1, .int .u8 x2, .bool x3, .slice A4 x4.length c4] 24)).alloc (.cells #[] 5)) A4 x4.length x4) := ⟨Kd.C_below (HRB.out _ HS0.out.tail.tail.tail) HB1.out⟩
  go_enter Try.func27, Try.ntmps27
  have ho : o = 0 ∨ o = 4 ∨ o = 5 ∨ o = 1 ∨ o = 2 ∨ o = 6 ∨ o = 3 ∨ o = 7 := by omega
  clear ho8
  have HDE : Aside0 (∀ s, deedS n x0 x1 x2 x3 x4 s = if o = 1 then s.flush else if o = 2 then s.settle x4 else if o = 6 then s.fuse x1 else if o = 3 ∨ o = 7 then s.crash x4 else put s n x1 (dataL x2 (dataN x3))) := ⟨fun s => by
    unfold deedS
    have e := HO.out
    rcases ho with rfl | rfl | rfl | rfl | rfl | rfl | rfl | rfl <;> rw [← e] <;> rfl⟩
  clear HO
  rcases ho with rfl | rfl | rfl | rfl | rfl | rfl | rfl | rfl
  all_goals go_wp2_with (first | ((with_reducible refine gate_ (.load 24 (.tmp 5)) rfl ?_); (refine wpList_load_mid rfl 24 (.tmp 5) rfl w.heap.size 0 rfl [.int .i64 x0, .int .i64 x1, .int .u8 x2, .bool x3, .slice A4 x4.length c4] _ (blk_range (HS2.out.boxed 1 rfl)) Try.underlying24 rfl info_deed ?_)) | ((with_reducible refine gate_builtin (b := .append) (xs := #[.tmp 11, .tmp 13]) rfl ?_); at_builtin; refine Kd.R_append_row (Value.int .u8) (0 : Int) (w0 := w.alloc (.cells #[.int .i64 x0, .int .i64 x1, .int .u8 x2, .bool x3, .slice A4 x4.length c4] 24)) (w.alloc (.cells #[.int .i64 x0, .int .i64 x1, .int .u8 x2, .bool x3, .slice A4 x4.length c4] 24)).heap.size rfl (.tmp 11) (.tmp 13) 22 5 (.int .u8 0) 1 rfl Try.underlying22 info5 rfl (by decide) _ [] x4 A4 x4.length c4 (fun _ => True) rfl rfl (fun _ _ => trivial) (empty_rowA w _) HC1.out HB1.out HB1.out.size (by have := HSZ.out; simp; omega) ?_; intro v1 w2 ho1 hb1 hg1 hat1; rw [List.nil_append] at ho1; have HS2 := Aside0.mk (HS0.out.newRow (d := Kd.int .u8) hb1 ho1); obtain ⟨Ab, cb, eb⟩ := Kd.R_slice ho1; subst eb; have x0_ := (HS2.out.boxed 1 rfl).cell 0 _ rfl; have x1_ := (HS2.out.boxed 1 rfl).cell 1 _ rfl; have x4_ := (HS2.out.boxed 1 rfl).cell 4 _ rfl; clear ho1 hb1 hg1 hat1))
  all_goals clear HS0 HB1 HC1 x0_ x1_ x4_
  all_goals (obtain ⟨gx, hgx⟩ : ∃ gx, gx = w.heap.size := ⟨_, rfl⟩; rw [← hgx] at HS2 ⊢; clear hgx)
  all_goals have HS4 := Aside0.mk (HS2.out.perm [2, 3, 0, 1] 4 (by decide) (by decide))
  all_goals clear HS2
  · have HE := Aside0.mk (show deedS n x0 x1 x2 x3 x4 s = (put s n x1 (dataL x2 (dataN x3))) from HDE.out s)
    clear HDE
    refine (data_part w0 _ x0 x1 x2 x3 A4 c4 x4 w2 HS4.out (HRB.out _ HS4.out.tail.tail.tail.tail) hc).mono ?_
    rintro e w5 ⟨gd, cd, rfl, hcd, hs⟩
    have HS5 := Aside0.mk hs
    have HCD := Aside0.mk hcd
    clear hs hcd HS4
    go_wp2_with fail
    refine start_ (n := 12) (S := (fun w' => X.Blk w' gx #[.int .i64 x0, .int .i64 x1, .int .u8 x2, .bool x3, .slice A4 x4.length c4] 24)) (ds := []) #[false, false, false, false, false, false, false, false, false, false, false, false] (by kernel_rfl) rfl rfl (HS5.out.drew.boxed 4 rfl) (fun hHeld => ?_)
    have HSa := Aside0.mk (HS5.out.drew)
    generalize World.drew _ = wa at *
    clear HS5
    refine pure_ (i := 0) (N := some 31) (v := ?_) (a' := ?_) #[true, false, false, false, false, false, false, false, false, false, false, false] rfl rfl (by kernel_rfl) (fun _ _ _ h => h) (Or.inl ⟨by rfl, ?_⟩) ?_ ?_
    rotate_left
    · intro w' 
      go_simp
      with_reducible rfl
    rotate_left
    · simp only [Act.put, List.setIfInBounds_toArray, List.set_cons_zero, List.set_cons_succ, i64_w, i32_w]
      rfl
    refine pure_ (i := 1) (N := some 32) (v := ?_) (a' := ?_) #[true, true, false, false, false, false, false, false, false, false, false, false] rfl rfl (by kernel_rfl) (fun _ _ _ h => h) (Or.inl ⟨by rfl, ?_⟩) ?_ ?_
    rotate_left
    · intro w' 
      go_simp
      with_reducible rfl
    rotate_left
    · simp only [Act.put, List.setIfInBounds_toArray, List.set_cons_zero, List.set_cons_succ, i64_w, i32_w]
      rfl
    refine take_ (i := 2) (N := some 33) (v := .int .i64 x1) (a' := ?_) #[true, true, true, false, false, false, false, false, false, false, false, false] rfl rfl (by kernel_rfl) (fun _ _ _ h => h) (Or.inl ⟨by rfl, ?_⟩) hHeld ?_ ?_
    · intro w' hs_
      exact (by have x1_ := hs_.cell 1 _ rfl; go_simp; done)
    rotate_left
    · simp only [Act.put, List.setIfInBounds_toArray, List.set_cons_zero, List.set_cons_succ, i64_w, i32_w]
      rfl
    refine pure_ (i := 3) (N := some 34) (v := ?_) (a' := ?_) #[true, true, true, true, false, false, false, false, false, false, false, false] rfl rfl (by kernel_rfl) (fun _ _ _ h => h) (Or.inl ⟨by rfl, ?_⟩) ?_ ?_
    rotate_left
    · intro w' 
      go_simp
      with_reducible rfl
    rotate_left
    · simp only [Act.put, List.setIfInBounds_toArray, List.set_cons_zero, List.set_cons_succ, i64_w, i32_w]
      rfl
    refine pure_ (i := 5) (N := some 36) (v := ?_) (a' := ?_) #[true, true, true, true, false, true, false, false, false, false, false, false] rfl rfl (by kernel_rfl) (fun _ _ _ h => h) (Or.inl ⟨by rfl, ?_⟩) ?_ ?_
    rotate_left
    · intro w' 
      go_simp
      with_reducible rfl
    rotate_left
    · simp only [Act.put, List.setIfInBounds_toArray, List.set_cons_zero, List.set_cons_succ, i64_w, i32_w]
      rfl
    refine pure_ (i := 6) (N := some 37) (v := ?_) (a' := ?_) #[true, true, true, true, false, true, true, false, false, false, false, false] rfl rfl (by kernel_rfl) (fun _ _ _ h => h) (Or.inl ⟨by rfl, ?_⟩) ?_ ?_
    rotate_left
    · intro w' 
      go_simp
      with_reducible rfl
    rotate_left
    · simp only [Act.put, List.setIfInBounds_toArray, List.set_cons_zero, List.set_cons_succ, i64_w, i32_w]
      rfl
    refine take_ (i := 7) (N := some 38) (v := .int .i64 x1) (a' := ?_) #[true, true, true, true, false, true, true, true, false, false, false, false] rfl rfl (by kernel_rfl) (fun _ _ _ h => h) (Or.inl ⟨by rfl, ?_⟩) hHeld ?_ ?_
    · intro w' hs_
      exact (by have x1_ := hs_.cell 1 _ rfl; go_simp; done)
    rotate_left
    · simp only [Act.put, List.setIfInBounds_toArray, List.set_cons_zero, List.set_cons_succ, i64_w, i32_w]
      rfl
    refine pure_ (i := 8) (N := some 39) (v := ?_) (a' := ?_) #[true, true, true, true, false, true, true, true, true, false, false, false] rfl rfl (by kernel_rfl) (fun _ _ _ h => h) (Or.inl ⟨by rfl, ?_⟩) ?_ ?_
    rotate_left
    · intro w' 
      go_simp
      with_reducible rfl
    rotate_left
    · simp only [Act.put, List.setIfInBounds_toArray, List.set_cons_zero, List.set_cons_succ, i64_w, i32_w]
      rfl
    refine one_ (i := 4) (N := some 35) #[true, true, true, true, true, true, true, true, true, false, false, false] rfl rfl (by kernel_rfl) (by decide) (fun K hK => ?_)
    refine goes_ Try.func14 (by kernel_rfl) rfl #[.pointer (some ⟨p, 0, none⟩), .int .i64 x1, .slice (some ⟨gd, 0, none⟩) (dataN x3) cd] (by rfl) rfl rfl (by (try simp only [List.map_toArray, List.map_cons, List.map_nil]); first | done | rfl) ?_
    refine (write_data w0 wa _ p n s x1 gd cd x2 x3 (HSa.out.perm [1, 0, 2, 3, 4] 5 (by decide) (by decide)) HCD.out (by omega)).mono ?_
    rintro e wb ⟨rfl, hs⟩
    have HSb := Aside0.mk (hs.perm [2, 0, 1, 3, 4] 5 (by decide) (by decide))
    refine ⟨_, rfl, ?_⟩
    clear hs HSa hHeld
    refine hK.out _ _ (HSb.out.boxed 4 rfl) (fun hHeld => ?_)
    clear hK K
    refine norm_ (a' := ?_) ?_ ?_
    rotate_left
    · show Act.put _ (some 35) _ = _
      simp only [Act.put, List.setIfInBounds_toArray, List.set_cons_zero, List.set_cons_succ, i64_w, i32_w]
      rfl
    have HRW := Aside0.mk (undercroftref02_Disk_Write.calls w0 wb _ q n s x1 (some ⟨gd, 0, none⟩) cd (dataL x2 (dataN x3)) HSb.out (by have := (HSb.out.rowC 2 rfl).1; rw [dataL_len]; exact this) (by rw [dataL_len]; exact HCD.out) (dataL_u8 _ _) (by omega) (by omega))
    rw [dataL_len] at HRW
    refine one_ (i := 9) (N := some 40) #[true, true, true, true, true, true, true, true, true, true, false, false] rfl rfl (by kernel_rfl) (by decide) (fun K hK => ?_)
    refine goes_ Try.func42 (by kernel_rfl) rfl #[.pointer (some ⟨q, 0, none⟩), .int .i64 x1, .slice (some ⟨gd, 0, none⟩) (dataN x3) cd] (by rfl) rfl rfl (by (try simp only [List.map_toArray, List.map_cons, List.map_nil]); first | done | rfl) ?_
    refine (HRW.out).mono ?_
    rintro e wc ⟨rfl, hs⟩
    have HSc := Aside0.mk (hs.perm [2, 1, 0, 3, 4] 5 (by decide) (by decide))
    refine ⟨_, rfl, ?_⟩
    clear hs HSb HRW hHeld
    refine hK.out _ _ (HSc.out.boxed 4 rfl) (fun hHeld => ?_)
    clear hK K
    refine norm_ (a' := ?_) ?_ ?_
    rotate_left
    · show Act.put _ (some 40) _ = _
      simp only [Act.put, List.setIfInBounds_toArray, List.set_cons_zero, List.set_cons_succ, i64_w, i32_w]
      rfl
    refine pure_ (i := 10) (N := some 41) (v := .bool true) (a' := ?_) #[true, true, true, true, true, true, true, true, true, true, true, false] rfl rfl (by kernel_rfl) (fun _ _ _ h => h) (Or.inl ⟨by rfl, ?_⟩) ?_ ?_
    · intro w' 
      exact (by go_simp; done)
    rotate_left
    · simp only [Act.put, List.setIfInBounds_toArray, List.set_cons_zero, List.set_cons_succ, i64_w, i32_w]
      rfl
    refine pure_ (i := 11) (N := some 9) (v := ?_) (a' := ?_) #[true, true, true, true, true, true, true, true, true, true, true, true] rfl rfl (by kernel_rfl) (fun _ _ _ h => h) (Or.inl ⟨by rfl, ?_⟩) ?_ ?_
    rotate_left
    · intro w' 
      go_simp
      with_reducible rfl
    rotate_left
    · simp only [Act.put, List.setIfInBounds_toArray, List.set_cons_zero, List.set_cons_succ, i64_w, i32_w]
      rfl
    refine done_ (by kernel_rfl) ?_
    have hN : dataN x3 ≤ 256 := by unfold dataN; split <;> decide
    obtain ⟨N, hNN⟩ : ∃ N, N = dataN x3 := ⟨_, rfl⟩
    have HL0 : Aside0 ((dataL x2 (dataN x3)).length = dataN x3) := ⟨dataL_len _ _⟩
    go_wp2_with fail
    go_loopg [10] (dataN x3) (fun gk v10_ w' => ∃ (i : Nat) (xs : List Int), v10_ = .int .i64 (i : Int) ∧ Aside0 (gk + i = dataN x3) ∧ Aside0 (xs.length = dataN x3) ∧ Aside0 (X.Lies w0 w' (.row (Kd.int .u8) 5 (.slice (some ⟨gd, 0, none⟩) (dataN x3) cd) xs :: .disk p n (put s n x1 (dataL x2 (dataN x3))) :: .rdisk q n (put s n x1 (dataL x2 (dataN x3))) :: .row (Kd.int .u8) 5 (.slice Ab x4.length cb) x4 :: .box gx #[.int .i64 x0, .int .i64 x1, .int .u8 x2, .bool x3, .slice A4 x4.length c4] 24 :: L)))
    case atStart => exact ⟨0, _, rfl, ⟨by omega⟩, HL0, HSc⟩
    case round =>
      clear HSc hHeld
      obtain ⟨i, xs, rfl, HK, HXL, HS5⟩ := hrel
      by_cases hlt : i < dataN x3
      · have q3 : decide ((i : Int) < (dataN x3 : Int)) = true := decide_eq_true (by omega)
        have q33 : decide (i < dataN x3) = true := decide_eq_true hlt
        obtain ⟨z, hz⟩ : ∃ z, xs[i]? = some z := ⟨_, List.getElem?_eq_getElem (by rw [HXL.out]; exact hlt)⟩
        obtain ⟨c0_, c00_⟩ := HS5.out.cellRow (enc := Value.int .u8) (h1 := fun _ => rfl) 0 rfl hz
        have HS6 := Aside0.mk ((show X.Lies w0 wr (.row (Kd.scalar (Value.int .u8) (fun _ => rfl)) 5 (.slice (some ⟨gd, 0, none⟩) (dataN x3) cd) xs :: _) from HS5.out).putRow i (99 : Int))
        have HX6 : Aside0 ((xs.set i 99).length = dataN x3) := ⟨by rw [List.length_set]; exact HXL.out⟩
        clear HS5 HXL hz
        go_wp2_with fail
        cases gk with
        | zero => exact absurd HK.out (by omega)
        | succ k1 =>
          go_roundg k1
          case measure => omega
          case rel => exact ⟨i + 1, _, by go_num, ⟨by have := HK.out; omega⟩, HX6, HS6⟩
      · have q3 : decide ((i : Int) < (dataN x3 : Int)) = false := decide_eq_false (by omega)
        have q33 : decide (i < dataN x3) = false := decide_eq_false hlt
        have HS6 := HS5
        clear HK hlt HS5 HXL
        have x4_ := (HS6.out.boxed 4 rfl).cell 4 _ rfl
        have k7 := row_conv HS6.out 3 rfl
        have k8 := str_C' (c := c4) (HRB.out _ (HS6.out.tail.tail.tail.tail.tail))
        go_wp2_with fail
        go_ret
        rw [HE.out]
        exact ⟨rfl, HS6.out.perm [1, 2] 5 (by decide) (by decide)⟩
  · have HE := Aside0.mk (show deedS n x0 x1 x2 x3 x4 s = (put s n x1 (dataL x2 (dataN x3))) from HDE.out s)
    clear HDE
    refine (data_part w0 _ x0 x1 x2 x3 A4 c4 x4 w2 HS4.out (HRB.out _ HS4.out.tail.tail.tail.tail) hc).mono ?_
    rintro e w5 ⟨gd, cd, rfl, hcd, hs⟩
    have HS5 := Aside0.mk hs
    have HCD := Aside0.mk hcd
    clear hs hcd HS4
    go_wp2_with fail
    refine start_ (n := 12) (S := (fun w' => X.Blk w' gx #[.int .i64 x0, .int .i64 x1, .int .u8 x2, .bool x3, .slice A4 x4.length c4] 24)) (ds := []) #[false, false, false, false, false, false, false, false, false, false, false, false] (by kernel_rfl) rfl rfl (HS5.out.drew.boxed 4 rfl) (fun hHeld => ?_)
    have HSa := Aside0.mk (HS5.out.drew)
    generalize World.drew _ = wa at *
    clear HS5
    refine pure_ (i := 0) (N := some 31) (v := ?_) (a' := ?_) #[true, false, false, false, false, false, false, false, false, false, false, false] rfl rfl (by kernel_rfl) (fun _ _ _ h => h) (Or.inl ⟨by rfl, ?_⟩) ?_ ?_
    rotate_left
    · intro w' 
      go_simp
      with_reducible rfl
    rotate_left
    · simp only [Act.put, List.setIfInBounds_toArray, List.set_cons_zero, List.set_cons_succ, i64_w, i32_w]
      rfl
    refine pure_ (i := 1) (N := some 32) (v := ?_) (a' := ?_) #[true, true, false, false, false, false, false, false, false, false, false, false] rfl rfl (by kernel_rfl) (fun _ _ _ h => h) (Or.inl ⟨by rfl, ?_⟩) ?_ ?_
    rotate_left
    · intro w' 
      go_simp
      with_reducible rfl
    rotate_left
    · simp only [Act.put, List.setIfInBounds_toArray, List.set_cons_zero, List.set_cons_succ, i64_w, i32_w]
      rfl
    refine take_ (i := 2) (N := some 33) (v := .int .i64 x1) (a' := ?_) #[true, true, true, false, false, false, false, false, false, false, false, false] rfl rfl (by kernel_rfl) (fun _ _ _ h => h) (Or.inl ⟨by rfl, ?_⟩) hHeld ?_ ?_
    · intro w' hs_
      exact (by have x1_ := hs_.cell 1 _ rfl; go_simp; done)
    rotate_left
    · simp only [Act.put, List.setIfInBounds_toArray, List.set_cons_zero, List.set_cons_succ, i64_w, i32_w]
      rfl
    refine pure_ (i := 3) (N := some 34) (v := ?_) (a' := ?_) #[true, true, true, true, false, false, false, false, false, false, false, false] rfl rfl (by kernel_rfl) (fun _ _ _ h => h) (Or.inl ⟨by rfl, ?_⟩) ?_ ?_
    rotate_left
    · intro w' 
      go_simp
      with_reducible rfl
    rotate_left
    · simp only [Act.put, List.setIfInBounds_toArray, List.set_cons_zero, List.set_cons_succ, i64_w, i32_w]
      rfl
    refine pure_ (i := 5) (N := some 36) (v := ?_) (a' := ?_) #[true, true, true, true, false, true, false, false, false, false, false, false] rfl rfl (by kernel_rfl) (fun _ _ _ h => h) (Or.inl ⟨by rfl, ?_⟩) ?_ ?_
    rotate_left
    · intro w' 
      go_simp
      with_reducible rfl
    rotate_left
    · simp only [Act.put, List.setIfInBounds_toArray, List.set_cons_zero, List.set_cons_succ, i64_w, i32_w]
      rfl
    refine pure_ (i := 6) (N := some 37) (v := ?_) (a' := ?_) #[true, true, true, true, false, true, true, false, false, false, false, false] rfl rfl (by kernel_rfl) (fun _ _ _ h => h) (Or.inl ⟨by rfl, ?_⟩) ?_ ?_
    rotate_left
    · intro w' 
      go_simp
      with_reducible rfl
    rotate_left
    · simp only [Act.put, List.setIfInBounds_toArray, List.set_cons_zero, List.set_cons_succ, i64_w, i32_w]
      rfl
    refine take_ (i := 7) (N := some 38) (v := .int .i64 x1) (a' := ?_) #[true, true, true, true, false, true, true, true, false, false, false, false] rfl rfl (by kernel_rfl) (fun _ _ _ h => h) (Or.inl ⟨by rfl, ?_⟩) hHeld ?_ ?_
    · intro w' hs_
      exact (by have x1_ := hs_.cell 1 _ rfl; go_simp; done)
    rotate_left
    · simp only [Act.put, List.setIfInBounds_toArray, List.set_cons_zero, List.set_cons_succ, i64_w, i32_w]
      rfl
    refine pure_ (i := 8) (N := some 39) (v := ?_) (a' := ?_) #[true, true, true, true, false, true, true, true, true, false, false, false] rfl rfl (by kernel_rfl) (fun _ _ _ h => h) (Or.inl ⟨by rfl, ?_⟩) ?_ ?_
    rotate_left
    · intro w' 
      go_simp
      with_reducible rfl
    rotate_left
    · simp only [Act.put, List.setIfInBounds_toArray, List.set_cons_zero, List.set_cons_succ, i64_w, i32_w]
      rfl
    refine one_ (i := 4) (N := some 35) #[true, true, true, true, true, true, true, true, true, false, false, false] rfl rfl (by kernel_rfl) (by decide) (fun K hK => ?_)
    refine goes_ Try.func14 (by kernel_rfl) rfl #[.pointer (some ⟨p, 0, none⟩), .int .i64 x1, .slice (some ⟨gd, 0, none⟩) (dataN x3) cd] (by rfl) rfl rfl (by (try simp only [List.map_toArray, List.map_cons, List.map_nil]); first | done | rfl) ?_
    refine (write_data w0 wa _ p n s x1 gd cd x2 x3 (HSa.out.perm [1, 0, 2, 3, 4] 5 (by decide) (by decide)) HCD.out (by omega)).mono ?_
    rintro e wb ⟨rfl, hs⟩
    have HSb := Aside0.mk (hs.perm [2, 0, 1, 3, 4] 5 (by decide) (by decide))
    refine ⟨_, rfl, ?_⟩
    clear hs HSa hHeld
    refine hK.out _ _ (HSb.out.boxed 4 rfl) (fun hHeld => ?_)
    clear hK K
    refine norm_ (a' := ?_) ?_ ?_
    rotate_left
    · show Act.put _ (some 35) _ = _
      simp only [Act.put, List.setIfInBounds_toArray, List.set_cons_zero, List.set_cons_succ, i64_w, i32_w]
      rfl
    have HRW := Aside0.mk (undercroftref02_Disk_Write.calls w0 wb _ q n s x1 (some ⟨gd, 0, none⟩) cd (dataL x2 (dataN x3)) HSb.out (by have := (HSb.out.rowC 2 rfl).1; rw [dataL_len]; exact this) (by rw [dataL_len]; exact HCD.out) (dataL_u8 _ _) (by omega) (by omega))
    rw [dataL_len] at HRW
    refine one_ (i := 9) (N := some 40) #[true, true, true, true, true, true, true, true, true, true, false, false] rfl rfl (by kernel_rfl) (by decide) (fun K hK => ?_)
    refine goes_ Try.func42 (by kernel_rfl) rfl #[.pointer (some ⟨q, 0, none⟩), .int .i64 x1, .slice (some ⟨gd, 0, none⟩) (dataN x3) cd] (by rfl) rfl rfl (by (try simp only [List.map_toArray, List.map_cons, List.map_nil]); first | done | rfl) ?_
    refine (HRW.out).mono ?_
    rintro e wc ⟨rfl, hs⟩
    have HSc := Aside0.mk (hs.perm [2, 1, 0, 3, 4] 5 (by decide) (by decide))
    refine ⟨_, rfl, ?_⟩
    clear hs HSb HRW hHeld
    refine hK.out _ _ (HSc.out.boxed 4 rfl) (fun hHeld => ?_)
    clear hK K
    refine norm_ (a' := ?_) ?_ ?_
    rotate_left
    · show Act.put _ (some 40) _ = _
      simp only [Act.put, List.setIfInBounds_toArray, List.set_cons_zero, List.set_cons_succ, i64_w, i32_w]
      rfl
    refine pure_ (i := 10) (N := some 41) (v := .bool true) (a' := ?_) #[true, true, true, true, true, true, true, true, true, true, true, false] rfl rfl (by kernel_rfl) (fun _ _ _ h => h) (Or.inl ⟨by rfl, ?_⟩) ?_ ?_
    · intro w' 
      exact (by go_simp; done)
    rotate_left
    · simp only [Act.put, List.setIfInBounds_toArray, List.set_cons_zero, List.set_cons_succ, i64_w, i32_w]
      rfl
    refine pure_ (i := 11) (N := some 9) (v := ?_) (a' := ?_) #[true, true, true, true, true, true, true, true, true, true, true, true] rfl rfl (by kernel_rfl) (fun _ _ _ h => h) (Or.inl ⟨by rfl, ?_⟩) ?_ ?_
    rotate_left
    · intro w' 
      go_simp
      with_reducible rfl
    rotate_left
    · simp only [Act.put, List.setIfInBounds_toArray, List.set_cons_zero, List.set_cons_succ, i64_w, i32_w]
      rfl
    refine done_ (by kernel_rfl) ?_
    have hN : dataN x3 ≤ 256 := by unfold dataN; split <;> decide
    obtain ⟨N, hNN⟩ : ∃ N, N = dataN x3 := ⟨_, rfl⟩
    have HL0 : Aside0 ((dataL x2 (dataN x3)).length = dataN x3) := ⟨dataL_len _ _⟩
    go_wp2_with fail
    go_loopg [10] (dataN x3) (fun gk v10_ w' => ∃ (i : Nat) (xs : List Int), v10_ = .int .i64 (i : Int) ∧ Aside0 (gk + i = dataN x3) ∧ Aside0 (xs.length = dataN x3) ∧ Aside0 (X.Lies w0 w' (.row (Kd.int .u8) 5 (.slice (some ⟨gd, 0, none⟩) (dataN x3) cd) xs :: .disk p n (put s n x1 (dataL x2 (dataN x3))) :: .rdisk q n (put s n x1 (dataL x2 (dataN x3))) :: .row (Kd.int .u8) 5 (.slice Ab x4.length cb) x4 :: .box gx #[.int .i64 x0, .int .i64 x1, .int .u8 x2, .bool x3, .slice A4 x4.length c4] 24 :: L)))
    case atStart => exact ⟨0, _, rfl, ⟨by omega⟩, HL0, HSc⟩
    case round =>
      clear HSc hHeld
      obtain ⟨i, xs, rfl, HK, HXL, HS5⟩ := hrel
      by_cases hlt : i < dataN x3
      · have q3 : decide ((i : Int) < (dataN x3 : Int)) = true := decide_eq_true (by omega)
        have q33 : decide (i < dataN x3) = true := decide_eq_true hlt
        obtain ⟨z, hz⟩ : ∃ z, xs[i]? = some z := ⟨_, List.getElem?_eq_getElem (by rw [HXL.out]; exact hlt)⟩
        obtain ⟨c0_, c00_⟩ := HS5.out.cellRow (enc := Value.int .u8) (h1 := fun _ => rfl) 0 rfl hz
        have HS6 := Aside0.mk ((show X.Lies w0 wr (.row (Kd.scalar (Value.int .u8) (fun _ => rfl)) 5 (.slice (some ⟨gd, 0, none⟩) (dataN x3) cd) xs :: _) from HS5.out).putRow i (99 : Int))
        have HX6 : Aside0 ((xs.set i 99).length = dataN x3) := ⟨by rw [List.length_set]; exact HXL.out⟩
        clear HS5 HXL hz
        go_wp2_with fail
        cases gk with
        | zero => exact absurd HK.out (by omega)
        | succ k1 =>
          go_roundg k1
          case measure => omega
          case rel => exact ⟨i + 1, _, by go_num, ⟨by have := HK.out; omega⟩, HX6, HS6⟩
      · have q3 : decide ((i : Int) < (dataN x3 : Int)) = false := decide_eq_false (by omega)
        have q33 : decide (i < dataN x3) = false := decide_eq_false hlt
        have HS6 := HS5
        clear HK hlt HS5 HXL
        have x4_ := (HS6.out.boxed 4 rfl).cell 4 _ rfl
        have k7 := row_conv HS6.out 3 rfl
        have k8 := str_C' (c := c4) (HRB.out _ (HS6.out.tail.tail.tail.tail.tail))
        go_wp2_with fail
        go_ret
        rw [HE.out]
        exact ⟨rfl, HS6.out.perm [1, 2] 5 (by decide) (by decide)⟩
  · have HE := Aside0.mk (show deedS n x0 x1 x2 x3 x4 s = (put s n x1 (dataL x2 (dataN x3))) from HDE.out s)
    clear HDE
    refine (data_part w0 _ x0 x1 x2 x3 A4 c4 x4 w2 HS4.out (HRB.out _ HS4.out.tail.tail.tail.tail) hc).mono ?_
    rintro e w5 ⟨gd, cd, rfl, hcd, hs⟩
    have HS5 := Aside0.mk hs
    have HCD := Aside0.mk hcd
    clear hs hcd HS4
    go_wp2_with fail
    refine start_ (n := 12) (S := (fun w' => X.Blk w' gx #[.int .i64 x0, .int .i64 x1, .int .u8 x2, .bool x3, .slice A4 x4.length c4] 24)) (ds := []) #[false, false, false, false, false, false, false, false, false, false, false, false] (by kernel_rfl) rfl rfl (HS5.out.drew.boxed 4 rfl) (fun hHeld => ?_)
    have HSa := Aside0.mk (HS5.out.drew)
    generalize World.drew _ = wa at *
    clear HS5
    refine pure_ (i := 0) (N := some 31) (v := ?_) (a' := ?_) #[true, false, false, false, false, false, false, false, false, false, false, false] rfl rfl (by kernel_rfl) (fun _ _ _ h => h) (Or.inl ⟨by rfl, ?_⟩) ?_ ?_
    rotate_left
    · intro w' 
      go_simp
      with_reducible rfl
    rotate_left
    · simp only [Act.put, List.setIfInBounds_toArray, List.set_cons_zero, List.set_cons_succ, i64_w, i32_w]
      rfl
    refine pure_ (i := 1) (N := some 32) (v := ?_) (a' := ?_) #[true, true, false, false, false, false, false, false, false, false, false, false] rfl rfl (by kernel_rfl) (fun _ _ _ h => h) (Or.inl ⟨by rfl, ?_⟩) ?_ ?_
    rotate_left
    · intro w' 
      go_simp
      with_reducible rfl
    rotate_left
    · simp only [Act.put, List.setIfInBounds_toArray, List.set_cons_zero, List.set_cons_succ, i64_w, i32_w]
      rfl
    refine take_ (i := 2) (N := some 33) (v := .int .i64 x1) (a' := ?_) #[true, true, true, false, false, false, false, false, false, false, false, false] rfl rfl (by kernel_rfl) (fun _ _ _ h => h) (Or.inl ⟨by rfl, ?_⟩) hHeld ?_ ?_
    · intro w' hs_
      exact (by have x1_ := hs_.cell 1 _ rfl; go_simp; done)
    rotate_left
    · simp only [Act.put, List.setIfInBounds_toArray, List.set_cons_zero, List.set_cons_succ, i64_w, i32_w]
      rfl
    refine pure_ (i := 3) (N := some 34) (v := ?_) (a' := ?_) #[true, true, true, true, false, false, false, false, false, false, false, false] rfl rfl (by kernel_rfl) (fun _ _ _ h => h) (Or.inl ⟨by rfl, ?_⟩) ?_ ?_
    rotate_left
    · intro w' 
      go_simp
      with_reducible rfl
    rotate_left
    · simp only [Act.put, List.setIfInBounds_toArray, List.set_cons_zero, List.set_cons_succ, i64_w, i32_w]
      rfl
    refine pure_ (i := 5) (N := some 36) (v := ?_) (a' := ?_) #[true, true, true, true, false, true, false, false, false, false, false, false] rfl rfl (by kernel_rfl) (fun _ _ _ h => h) (Or.inl ⟨by rfl, ?_⟩) ?_ ?_
    rotate_left
    · intro w' 
      go_simp
      with_reducible rfl
    rotate_left
    · simp only [Act.put, List.setIfInBounds_toArray, List.set_cons_zero, List.set_cons_succ, i64_w, i32_w]
      rfl
    refine pure_ (i := 6) (N := some 37) (v := ?_) (a' := ?_) #[true, true, true, true, false, true, true, false, false, false, false, false] rfl rfl (by kernel_rfl) (fun _ _ _ h => h) (Or.inl ⟨by rfl, ?_⟩) ?_ ?_
    rotate_left
    · intro w' 
      go_simp
      with_reducible rfl
    rotate_left
    · simp only [Act.put, List.setIfInBounds_toArray, List.set_cons_zero, List.set_cons_succ, i64_w, i32_w]
      rfl
    refine take_ (i := 7) (N := some 38) (v := .int .i64 x1) (a' := ?_) #[true, true, true, true, false, true, true, true, false, false, false, false] rfl rfl (by kernel_rfl) (fun _ _ _ h => h) (Or.inl ⟨by rfl, ?_⟩) hHeld ?_ ?_
    · intro w' hs_
      exact (by have x1_ := hs_.cell 1 _ rfl; go_simp; done)
    rotate_left
    · simp only [Act.put, List.setIfInBounds_toArray, List.set_cons_zero, List.set_cons_succ, i64_w, i32_w]
      rfl
    refine pure_ (i := 8) (N := some 39) (v := ?_) (a' := ?_) #[true, true, true, true, false, true, true, true, true, false, false, false] rfl rfl (by kernel_rfl) (fun _ _ _ h => h) (Or.inl ⟨by rfl, ?_⟩) ?_ ?_
    rotate_left
    · intro w' 
      go_simp
      with_reducible rfl
    rotate_left
    · simp only [Act.put, List.setIfInBounds_toArray, List.set_cons_zero, List.set_cons_succ, i64_w, i32_w]
      rfl
    refine one_ (i := 4) (N := some 35) #[true, true, true, true, true, true, true, true, true, false, false, false] rfl rfl (by kernel_rfl) (by decide) (fun K hK => ?_)
    refine goes_ Try.func14 (by kernel_rfl) rfl #[.pointer (some ⟨p, 0, none⟩), .int .i64 x1, .slice (some ⟨gd, 0, none⟩) (dataN x3) cd] (by rfl) rfl rfl (by (try simp only [List.map_toArray, List.map_cons, List.map_nil]); first | done | rfl) ?_
    refine (write_data w0 wa _ p n s x1 gd cd x2 x3 (HSa.out.perm [1, 0, 2, 3, 4] 5 (by decide) (by decide)) HCD.out (by omega)).mono ?_
    rintro e wb ⟨rfl, hs⟩
    have HSb := Aside0.mk (hs.perm [2, 0, 1, 3, 4] 5 (by decide) (by decide))
    refine ⟨_, rfl, ?_⟩
    clear hs HSa hHeld
    refine hK.out _ _ (HSb.out.boxed 4 rfl) (fun hHeld => ?_)
    clear hK K
    refine norm_ (a' := ?_) ?_ ?_
    rotate_left
    · show Act.put _ (some 35) _ = _
      simp only [Act.put, List.setIfInBounds_toArray, List.set_cons_zero, List.set_cons_succ, i64_w, i32_w]
      rfl
    have HRW := Aside0.mk (undercroftref02_Disk_Write.calls w0 wb _ q n s x1 (some ⟨gd, 0, none⟩) cd (dataL x2 (dataN x3)) HSb.out (by have := (HSb.out.rowC 2 rfl).1; rw [dataL_len]; exact this) (by rw [dataL_len]; exact HCD.out) (dataL_u8 _ _) (by omega) (by omega))
    rw [dataL_len] at HRW
    refine one_ (i := 9) (N := some 40) #[true, true, true, true, true, true, true, true, true, true, false, false] rfl rfl (by kernel_rfl) (by decide) (fun K hK => ?_)
    refine goes_ Try.func42 (by kernel_rfl) rfl #[.pointer (some ⟨q, 0, none⟩), .int .i64 x1, .slice (some ⟨gd, 0, none⟩) (dataN x3) cd] (by rfl) rfl rfl (by (try simp only [List.map_toArray, List.map_cons, List.map_nil]); first | done | rfl) ?_
    refine (HRW.out).mono ?_
    rintro e wc ⟨rfl, hs⟩
    have HSc := Aside0.mk (hs.perm [2, 1, 0, 3, 4] 5 (by decide) (by decide))
    refine ⟨_, rfl, ?_⟩
    clear hs HSb HRW hHeld
    refine hK.out _ _ (HSc.out.boxed 4 rfl) (fun hHeld => ?_)
    clear hK K
    refine norm_ (a' := ?_) ?_ ?_
    rotate_left
    · show Act.put _ (some 40) _ = _
      simp only [Act.put, List.setIfInBounds_toArray, List.set_cons_zero, List.set_cons_succ, i64_w, i32_w]
      rfl
    refine pure_ (i := 10) (N := some 41) (v := .bool true) (a' := ?_) #[true, true, true, true, true, true, true, true, true, true, true, false] rfl rfl (by kernel_rfl) (fun _ _ _ h => h) (Or.inl ⟨by rfl, ?_⟩) ?_ ?_
    · intro w' 
      exact (by go_simp; done)
    rotate_left
    · simp only [Act.put, List.setIfInBounds_toArray, List.set_cons_zero, List.set_cons_succ, i64_w, i32_w]
      rfl
    refine pure_ (i := 11) (N := some 9) (v := ?_) (a' := ?_) #[true, true, true, true, true, true, true, true, true, true, true, true] rfl rfl (by kernel_rfl) (fun _ _ _ h => h) (Or.inl ⟨by rfl, ?_⟩) ?_ ?_
    rotate_left
    · intro w' 
      go_simp
      with_reducible rfl
    rotate_left
    · simp only [Act.put, List.setIfInBounds_toArray, List.set_cons_zero, List.set_cons_succ, i64_w, i32_w]
      rfl
    refine done_ (by kernel_rfl) ?_
    have hN : dataN x3 ≤ 256 := by unfold dataN; split <;> decide
    obtain ⟨N, hNN⟩ : ∃ N, N = dataN x3 := ⟨_, rfl⟩
    have HL0 : Aside0 ((dataL x2 (dataN x3)).length = dataN x3) := ⟨dataL_len _ _⟩
    go_wp2_with fail
    go_loopg [10] (dataN x3) (fun gk v10_ w' => ∃ (i : Nat) (xs : List Int), v10_ = .int .i64 (i : Int) ∧ Aside0 (gk + i = dataN x3) ∧ Aside0 (xs.length = dataN x3) ∧ Aside0 (X.Lies w0 w' (.row (Kd.int .u8) 5 (.slice (some ⟨gd, 0, none⟩) (dataN x3) cd) xs :: .disk p n (put s n x1 (dataL x2 (dataN x3))) :: .rdisk q n (put s n x1 (dataL x2 (dataN x3))) :: .row (Kd.int .u8) 5 (.slice Ab x4.length cb) x4 :: .box gx #[.int .i64 x0, .int .i64 x1, .int .u8 x2, .bool x3, .slice A4 x4.length c4] 24 :: L)))
    case atStart => exact ⟨0, _, rfl, ⟨by omega⟩, HL0, HSc⟩
    case round =>
      clear HSc hHeld
      obtain ⟨i, xs, rfl, HK, HXL, HS5⟩ := hrel
      by_cases hlt : i < dataN x3
      · have q3 : decide ((i : Int) < (dataN x3 : Int)) = true := decide_eq_true (by omega)
        have q33 : decide (i < dataN x3) = true := decide_eq_true hlt
        obtain ⟨z, hz⟩ : ∃ z, xs[i]? = some z := ⟨_, List.getElem?_eq_getElem (by rw [HXL.out]; exact hlt)⟩
        obtain ⟨c0_, c00_⟩ := HS5.out.cellRow (enc := Value.int .u8) (h1 := fun _ => rfl) 0 rfl hz
        have HS6 := Aside0.mk ((show X.Lies w0 wr (.row (Kd.scalar (Value.int .u8) (fun _ => rfl)) 5 (.slice (some ⟨gd, 0, none⟩) (dataN x3) cd) xs :: _) from HS5.out).putRow i (99 : Int))
        have HX6 : Aside0 ((xs.set i 99).length = dataN x3) := ⟨by rw [List.length_set]; exact HXL.out⟩
        clear HS5 HXL hz
        go_wp2_with fail
        cases gk with
        | zero => exact absurd HK.out (by omega)
        | succ k1 =>
          go_roundg k1
          case measure => omega
          case rel => exact ⟨i + 1, _, by go_num, ⟨by have := HK.out; omega⟩, HX6, HS6⟩
      · have q3 : decide ((i : Int) < (dataN x3 : Int)) = false := decide_eq_false (by omega)
        have q33 : decide (i < dataN x3) = false := decide_eq_false hlt
        have HS6 := HS5
        clear HK hlt HS5 HXL
        have x4_ := (HS6.out.boxed 4 rfl).cell 4 _ rfl
        have k7 := row_conv HS6.out 3 rfl
        have k8 := str_C' (c := c4) (HRB.out _ (HS6.out.tail.tail.tail.tail.tail))
        go_wp2_with fail
        go_ret
        rw [HE.out]
        exact ⟨rfl, HS6.out.perm [1, 2] 5 (by decide) (by decide)⟩
  · have HE := Aside0.mk (show deedS n x0 x1 x2 x3 x4 s = s.flush from HDE.out s)
    clear HDE
    refine (disk_Flush.part w0 w2 _ p n s HS4.out).mono ?_
    rintro e w5 ⟨rfl, hs⟩
    have HS5 := Aside0.mk (hs.perm [1, 0, 2, 3] 4 (by decide) (by decide))
    have x1_ := (hs.boxed 3 rfl).cell 1 _ rfl
    have x4_ := (hs.boxed 3 rfl).cell 4 _ rfl
    have HR5 := Aside0.mk (X.Rd.tail (R := .disk p n s.flush) (X.Rd.tail (R := .row (Kd.int .u8) 5 (.slice Ab x4.length cb) x4) (X.Rd.tail (R := .box gx #[.int .i64 x0, .int .i64 x1, .int .u8 x2, .bool x3, .slice A4 x4.length c4] 24) HRB.out)))
    clear hs HS4
    go_wp2_with fail
    refine (undercroftref02_Disk_Flush.calls w0 w5 _ q n s HS5.out (by omega)).mono ?_
    rintro e w6 ⟨rfl, hs⟩
    have HS6 := Aside0.mk (hs.perm [1, 0, 2, 3] 4 (by decide) (by decide))
    clear hs HS5 x1_ x4_ HR5
    have x4_ := (HS6.out.boxed 3 rfl).cell 4 _ rfl
    have k7 := row_conv HS6.out 2 rfl
    have k8 := str_C' (c := c4) (HRB.out _ (HS6.out.tail.tail.tail.tail))
    go_wp2_with fail
    go_ret
    rw [HE.out]
    exact ⟨rfl, HS6.out.perm [0, 1] 4 (by decide) (by decide)⟩
  · have HE := Aside0.mk (show deedS n x0 x1 x2 x3 x4 s = (s.settle x4) from HDE.out s)
    clear HDE
    refine (disk_Settle.part w0 w2 _ p n s Ab cb x4 HS4.out (X.Rd.row 1 rfl) (HS4.out.rowC 2 rfl).2.1 (by omega)).mono ?_
    rintro e w5 ⟨rfl, hs⟩
    have HS5 := Aside0.mk (hs.perm [1, 0, 2, 3] 4 (by decide) (by decide))
    have x1_ := (hs.boxed 3 rfl).cell 1 _ rfl
    have x4_ := (hs.boxed 3 rfl).cell 4 _ rfl
    have HR5 := Aside0.mk (X.Rd.tail (R := .disk p n (s.settle x4)) (X.Rd.tail (R := .row (Kd.int .u8) 5 (.slice Ab x4.length cb) x4) (X.Rd.tail (R := .box gx #[.int .i64 x0, .int .i64 x1, .int .u8 x2, .bool x3, .slice A4 x4.length c4] 24) HRB.out)))
    clear hs HS4
    go_wp2_with fail
    refine (undercroftref02_Disk_Settle.calls w0 w5 _ q n s A4 c4 x4 HS5.out HR5.out hc (by omega)).mono ?_
    rintro e w6 ⟨rfl, hs⟩
    have HS6 := Aside0.mk (hs.perm [1, 0, 2, 3] 4 (by decide) (by decide))
    clear hs HS5 x1_ x4_ HR5
    have x4_ := (HS6.out.boxed 3 rfl).cell 4 _ rfl
    have k7 := row_conv HS6.out 2 rfl
    have k8 := str_C' (c := c4) (HRB.out _ (HS6.out.tail.tail.tail.tail))
    go_wp2_with fail
    go_ret
    rw [HE.out]
    exact ⟨rfl, HS6.out.perm [0, 1] 4 (by decide) (by decide)⟩
  · have HE := Aside0.mk (show deedS n x0 x1 x2 x3 x4 s = (s.fuse x1) from HDE.out s)
    clear HDE
    refine (disk_Fuse.part w0 w2 _ p n s x1 HS4.out hx1).mono ?_
    rintro e w5 ⟨rfl, hs⟩
    have HS5 := Aside0.mk (hs.perm [1, 0, 2, 3] 4 (by decide) (by decide))
    have x1_ := (hs.boxed 3 rfl).cell 1 _ rfl
    have x4_ := (hs.boxed 3 rfl).cell 4 _ rfl
    have HR5 := Aside0.mk (X.Rd.tail (R := .disk p n (s.fuse x1)) (X.Rd.tail (R := .row (Kd.int .u8) 5 (.slice Ab x4.length cb) x4) (X.Rd.tail (R := .box gx #[.int .i64 x0, .int .i64 x1, .int .u8 x2, .bool x3, .slice A4 x4.length c4] 24) HRB.out)))
    clear hs HS4
    go_wp2_with fail
    refine (undercroftref02_Disk_Fuse.calls w0 w5 _ q n s x1 HS5.out hx1).mono ?_
    rintro e w6 ⟨rfl, hs⟩
    have HS6 := Aside0.mk (hs.perm [1, 0, 2, 3] 4 (by decide) (by decide))
    clear hs HS5 x1_ x4_ HR5
    have x4_ := (HS6.out.boxed 3 rfl).cell 4 _ rfl
    have k7 := row_conv HS6.out 2 rfl
    have k8 := str_C' (c := c4) (HRB.out _ (HS6.out.tail.tail.tail.tail))
    go_wp2_with fail
    go_ret
    rw [HE.out]
    exact ⟨rfl, HS6.out.perm [0, 1] 4 (by decide) (by decide)⟩
  · have HE := Aside0.mk (show deedS n x0 x1 x2 x3 x4 s = (s.crash x4) from HDE.out s)
    clear HDE
    refine (disk_Crash.part w0 w2 _ p n s Ab cb x4 HS4.out (X.Rd.row 1 rfl) (HS4.out.rowC 2 rfl).2.1 (by omega)).mono ?_
    rintro e w5 ⟨rfl, hs⟩
    have HS5 := Aside0.mk (hs.perm [1, 0, 2, 3] 4 (by decide) (by decide))
    have x1_ := (hs.boxed 3 rfl).cell 1 _ rfl
    have x4_ := (hs.boxed 3 rfl).cell 4 _ rfl
    have HR5 := Aside0.mk (X.Rd.tail (R := .disk p n (s.crash x4)) (X.Rd.tail (R := .row (Kd.int .u8) 5 (.slice Ab x4.length cb) x4) (X.Rd.tail (R := .box gx #[.int .i64 x0, .int .i64 x1, .int .u8 x2, .bool x3, .slice A4 x4.length c4] 24) HRB.out)))
    clear hs HS4
    go_wp2_with fail
    refine (undercroftref02_Disk_Crash.calls w0 w5 _ q n s A4 c4 x4 HS5.out HR5.out hc (by omega)).mono ?_
    rintro e w6 ⟨rfl, hs⟩
    have HS6 := Aside0.mk (hs.perm [1, 0, 2, 3] 4 (by decide) (by decide))
    clear hs HS5 x1_ x4_ HR5
    have x4_ := (HS6.out.boxed 3 rfl).cell 4 _ rfl
    have k7 := row_conv HS6.out 2 rfl
    have k8 := str_C' (c := c4) (HRB.out _ (HS6.out.tail.tail.tail.tail))
    go_wp2_with fail
    go_ret
    rw [HE.out]
    exact ⟨rfl, HS6.out.perm [0, 1] 4 (by decide) (by decide)⟩
  · have HE := Aside0.mk (show deedS n x0 x1 x2 x3 x4 s = (s.crash x4) from HDE.out s)
    clear HDE
    refine (disk_Crash.part w0 w2 _ p n s Ab cb x4 HS4.out (X.Rd.row 1 rfl) (HS4.out.rowC 2 rfl).2.1 (by omega)).mono ?_
    rintro e w5 ⟨rfl, hs⟩
    have HS5 := Aside0.mk (hs.perm [1, 0, 2, 3] 4 (by decide) (by decide))
    have x1_ := (hs.boxed 3 rfl).cell 1 _ rfl
    have x4_ := (hs.boxed 3 rfl).cell 4 _ rfl
    have HR5 := Aside0.mk (X.Rd.tail (R := .disk p n (s.crash x4)) (X.Rd.tail (R := .row (Kd.int .u8) 5 (.slice Ab x4.length cb) x4) (X.Rd.tail (R := .box gx #[.int .i64 x0, .int .i64 x1, .int .u8 x2, .bool x3, .slice A4 x4.length c4] 24) HRB.out)))
    clear hs HS4
    go_wp2_with fail
    refine (undercroftref02_Disk_Crash.calls w0 w5 _ q n s A4 c4 x4 HS5.out HR5.out hc (by omega)).mono ?_
    rintro e w6 ⟨rfl, hs⟩
    have HS6 := Aside0.mk (hs.perm [1, 0, 2, 3] 4 (by decide) (by decide))
    clear hs HS5 x1_ x4_ HR5
    have x4_ := (HS6.out.boxed 3 rfl).cell 4 _ rfl
    have k7 := row_conv HS6.out 2 rfl
    have k8 := str_C' (c := c4) (HRB.out _ (HS6.out.tail.tail.tail.tail))
    go_wp2_with fail
    go_ret
    rw [HE.out]
    exact ⟨rfl, HS6.out.perm [0, 1] 4 (by decide) (by decide)⟩
theorem deed_len (n : Nat) (x0 x1 x2 : Int) (x3 : Bool) (x4 : List Int) (s : X.DS) : (deedS n x0 x1 x2 x3 x4 s).pend.length ≤ s.pend.length + 1 ∧ (deedS n x0 x1 x2 x3 x4 s).ghosts.length ≤ s.ghosts.length + 1 := by
  unfold deedS
  split
  · refine ⟨Nat.le_succ_of_le (X.DS.flush_pend s), ?_⟩
    unfold X.DS.flush
    split <;> exact Nat.le_succ _
  · split
    · refine ⟨Nat.le_succ_of_le (X.DS.settle_pend s x4), ?_⟩
      unfold X.DS.settle
      split <;> exact Nat.le_succ _
    · split
      · unfold X.DS.fuse
        split <;> exact ⟨Nat.le_succ _, Nat.le_succ _⟩
      · split
        · exact ⟨Nat.zero_le _, Nat.zero_le _⟩
        · refine ⟨put_pend _ _ _ _, ?_⟩
          unfold put
          split
          · unfold X.DS.write
            split
            · exact Nat.le_of_eq (by rw [List.length_append, List.length_singleton])
            · exact Nat.le_succ _
          · exact Nat.le_succ _
/-- Deeds of a size that memory can hold. -/
def okD (l : List S24) : Bool := l.all fun x => decide (x.f1 ≤ 9223372036854775807) && decide (x.f4.length ≤ 140737488351232)
theorem okD_at {l0 : List S24} (h : okD l0 = true) (i : Nat) (hi : i < (l0.take 40).length) : (rd_T24 (l0.take 40) (i : Int)).f1 ≤ 9223372036854775807 ∧ (rd_T24 (l0.take 40) (i : Int)).f4.length ≤ 140737488351232 := by
  have hm : rd_T24 (l0.take 40) (i : Int) ∈ l0 := by
    unfold rd_T24
    rw [Int.toNat_natCast, List.getD_eq_getElem?_getD, List.getElem?_eq_getElem hi]
    exact List.mem_of_mem_take (List.getElem_mem hi)
  have := List.all_eq_true.1 h _ hm
  simp only [Bool.and_eq_true, decide_eq_true_eq] at this
  exact this

end Go.Proofs.Ytbpkjkdbijifbaa.U
