/- Ux25: what this claim uses. Laid by slim.py (ours). -/
import Derived.Test.YtlbfpjhnpnbikaaKUx0
import Derived.Test.YtlbfpjhnpnbikaaKUx1
import Derived.Test.YtlbfpjhnpnbikaaKUx23
namespace Go.Proofs.Ytlbfpjhnpnbikaa.U
open Go.RowKit Go.Proofs.YtlbfpjhnpnbikaaW.PrintWords Go.Proofs.YtlbfpjhnpnbikaaW.PrintLast Go.Proofs.YtlbfpjhnpnbikaaW.PrintMore
attribute [local go_sem] max2_int min2_int max_two min_two max_three min_three max_four min_four
set_option linter.unusedVariables false
set_option linter.unusedSimpArgs false
def undercroftref04_Area.f (a0 : Int) (a1 : Int) (a2 : Int) : Option (Bool) := if a2 ≥ 8 then (if a2 ≤ 1024 then (if a1 ≥ 0 then (some (decide (a1 ≤ (wrap64 (a0 - a2))))) else (some false)) else (some false)) else (some false)
set_option maxHeartbeats 8000000 in
set_option maxRecDepth 100000 in
theorem undercroftref04_Area.calls (a0 : Int) (a1 : Int) (a2 : Int) (r : Bool) (w : World) (h : undercroftref04_Area.f a0 a1 a2 = some r) :
    Calls Try.prog 44 #[.int .i64 a0, .int .i64 a1, .int .i64 a2] w fun e w' => e = .returned (.bool r) ∧ Drawn0 w w' := by
  have H : (if a2 ≥ 8 then (if a2 ≤ 1024 then (if a1 ≥ 0 then (some (decide (a1 ≤ (wrap64 (a0 - a2))))) else (some false)) else (some false)) else (some false)) = some r := h
  clear h
  by_cases c4 : a2 ≥ 8
  · rw [if_pos c4] at H
    have c4b0 : decide (8 ≤ a2) = true := decide_eq_true c4
    clear c4
    by_cases c5 : a2 ≤ 1024
    rotate_left
    · rw [if_neg c5] at H
      have c5b0 : decide (a2 ≤ 1024) = false := decide_eq_false c5
      clear c5
      obtain rfl := Option.some.inj H
      go_enter Try.func44, Try.ntmps44
      go_wp2
      go_ret
      exact ⟨by first | rfl | (simp; done) | (simp [*]; done), by repeat (first | exact Drawn0.refl _ | apply Drawn0.step)⟩
    rw [if_pos c5] at H
    have c5b0 : decide (a2 ≤ 1024) = true := decide_eq_true c5
    clear c5
    by_cases c6 : a1 ≥ 0
    · rw [if_pos c6] at H
      have c6b0 : decide (0 ≤ a1) = true := decide_eq_true c6
      clear c6
      obtain rfl := Option.some.inj H
      go_enter Try.func44, Try.ntmps44
      go_wp2
      go_ret
      exact ⟨by first | rfl | (simp; done) | (simp [*]; done), by repeat (first | exact Drawn0.refl _ | apply Drawn0.step)⟩
    rw [if_neg c6] at H
    have c6b0 : decide (0 ≤ a1) = false := decide_eq_false c6
    clear c6
    obtain rfl := Option.some.inj H
    go_enter Try.func44, Try.ntmps44
    go_wp2
    go_ret
    exact ⟨by first | rfl | (simp; done) | (simp [*]; done), by repeat (first | exact Drawn0.refl _ | apply Drawn0.step)⟩
  · rw [if_neg c4] at H
    have c4b0 : decide (8 ≤ a2) = false := decide_eq_false c4
    clear c4
    obtain rfl := Option.some.inj H
    go_enter Try.func44, Try.ntmps44
    go_wp2
    go_ret
    exact ⟨by first | rfl | (simp; done) | (simp [*]; done), by repeat (first | exact Drawn0.refl _ | apply Drawn0.step)⟩
def seenTo (l : List (Nat × List Int)) (b : List Int) (j k : Nat) : List Int := (X.lastD (l.take k) (j : Int)).getD b
theorem seenTo_yes {l : List (Nat × List Int)} {b : List Int} {j k : Nat} {x : Nat × List Int} (hk : l[k]? = some x) (hx : x.1 = j) : seenTo l b j (k + 1) = x.2 := by
  unfold seenTo
  rw [X.take_snoc hk, X.lastD_snoc, if_pos (by rw [hx])]
  rfl
theorem seenTo_no {l : List (Nat × List Int)} {b : List Int} {j k : Nat} {x : Nat × List Int} (hk : l[k]? = some x) (hx : x.1 ≠ j) : seenTo l b j (k + 1) = seenTo l b j k := by
  unfold seenTo
  rw [X.take_snoc hk, X.lastD_snoc, if_neg (show ¬ (j : Int) = (x.1 : Int) from fun e => hx (Int.ofNat.inj e).symm)]
set_option maxHeartbeats 8000000 in
set_option maxRecDepth 100000 in
theorem undercroftref02_Disk_Read.calls (w0 w : World) (L : List X.Res) (p n : Nat) (s : X.DS) (i : Int) (h : X.Lies w0 w (.rdisk p n s :: L)) (hpl : s.pend.length ≤ 500000000000) (hgl : s.ghosts.length ≤ 500000000000) :
    Calls Try.prog 45 #[.pointer (some ⟨p, 0, none⟩), .int .i64 i] w fun e w' => ∃ v, e = .returned (.tuple #[v, .int .i64 (if hasB i n = true then 0 else 16)]) ∧ X.Lies w0 w' (.row (Kd.int .u8) 5 v (if hasB i n = true then s.read i.toNat else []) :: .rdisk p n s :: L) := by
  have HSZ := undercroftref02_Disk_Size.calls w0 w L p n s h
  have HS := Aside0.mk h
  clear h
  go_enter Try.func45, Try.ntmps45
  have hnil : ∀ w, X.Lies w0 w (.rdisk p n s :: L) → X.Lies w0 w (.row (Kd.int .u8) 5 (.slice none 0 0) [] :: .rdisk p n s :: L) := fun w h => h.newRow (Below.refl _ _) (Kd.R_nil _ _ _ _ _)
  by_cases h0 : 0 ≤ i
  · have q0 : decide (i < 0) = false := decide_eq_false (by omega)
    by_cases hin : i < (n : Int)
    · obtain ⟨j, rfl⟩ := Int.eq_ofNat_of_zero_le h0
      have hj : j < n := by omega
      have q1 : decide ((n : Int) ≤ (j : Int)) = false := decide_eq_false (by omega)
      have q11 : decide (n ≤ j) = false := decide_eq_false (by omega)
      have hb : hasB (j : Int) n = true := decide_eq_true ⟨by omega, by omega⟩
      rw [if_pos hb, if_pos hb, Int.toNat_natCast]
      obtain ⟨v0, v1, v2, hok, hs⟩ := HS.out.rdisk
      obtain ⟨O, hr0⟩ := hs.rowed 1 rfl
      obtain ⟨g0, c0, e0, -⟩ := Kd.R_form hr0 (by rw [hok.len]; have := hok.n1; omega)
      subst e0
      obtain ⟨hC0, hc0, -⟩ := hs.rowC 1 rfl
      rw [hok.len] at hc0 hC0
      obtain ⟨A1, c1, e1, hc1, hA1⟩ := hs.wform 2 rfl
      subst e1
      obtain ⟨A2, c2, e2, hc2, hA2⟩ := hs.wform 3 rfl
      subst e2
      have f0 := (hs.boxed 0 rfl).cell 0 _ rfl
      have f1 := (hs.boxed 0 rfl).cell 1 _ rfl
      have f2 := (hs.boxed 0 rfl).cell 2 _ rfl
      rw [hok.len] at f0
      have hn2 := hok.n2
      have HW := Aside0.mk hs
      have HOK := Aside0.mk hok
      have HA1 := Aside0.mk hA1
      have HA2 := Aside0.mk hA2
      have HB : Aside0 ((Kd.int .u8).C w (some ⟨g0, 256 * j, none⟩) 256 (X.blk s.bytes j)) := ⟨X.C_sub hC0 (by omega)⟩
      clear hs hok hr0 hC0 hA1 hA2 hb h0 hin
      go_wp2_with fail
      refine HSZ.mono ?_
      rintro e w' ⟨rfl, rfl⟩
      clear HSZ
      go_wp2_with fail
      go_loopg [6, 7] s.pend.length (fun gk v6 v7 w' => ∃ (k : Nat) (A : Option Addr) (c : Nat), v7 = .int .i64 (k : Int) ∧ v6 = .slice A 256 c ∧ Aside0 (gk + k = s.pend.length) ∧ w = w' ∧ Aside0 (256 ≤ c ∧ (Kd.int .u8).C w A 256 (seenTo s.pend (X.blk s.bytes j) j k)))
      case atStart => exact ⟨0, _, _, rfl, by rw [show j * 256 + 256 - j * 256 = 256 from by omega], ⟨by omega⟩, rfl, ⟨by omega, by rw [show j * 256 = 256 * j from by omega]; exact HB.out⟩⟩
      case round =>
        obtain ⟨k, A6, c6, rfl, rfl, HK, rfl, H6⟩ := hrel
        by_cases hlt : k < s.pend.length
        · have q3 : decide ((k : Int) < (s.pend.length : Int)) = true := decide_eq_true (by omega)
          have q33 : decide (k < s.pend.length) = true := decide_eq_true hlt
          obtain ⟨x, hx⟩ : ∃ x, s.pend[k]? = some x := ⟨_, List.getElem?_eq_getElem hlt⟩
          obtain ⟨g3, rfl⟩ := HA1.out (by omega)
          obtain ⟨g4, o4, c4, k0, k1, hc4, hC4⟩ := HW.out.wat 2 rfl hx
          have hxl : x.2.length = 256 := (HOK.out.pend x (List.mem_of_getElem? hx)).2.1
          rw [hxl] at k1 hc4 hC4
          have HX := Aside0.mk (And.intro hc4 hC4)
          clear hc4 hC4 hxl
          by_cases hxj : x.1 = j
          · have q4 : ((x.1 : Int) == (j : Int)) = true := beq_iff_eq.mpr (by omega)
            have q44 : (x.1 == j) = true := beq_iff_eq.mpr hxj
            have H7 : Aside0 (256 ≤ c4 ∧ (Kd.int .u8).C w (some ⟨g4, o4, none⟩) 256 (seenTo s.pend (X.blk s.bytes j) j (k + 1))) := ⟨by rw [seenTo_yes hx hxj]; exact HX.out⟩
            clear H6 HX
            go_wp2_with fail
            cases gk with
            | zero => exact absurd HK.out (by omega)
            | succ k1 =>
              go_roundg k1
              case measure => omega
              case rel => exact ⟨k + 1, _, _, by go_num, rfl, ⟨by have := HK.out; omega⟩, rfl, H7⟩
          · have q4 : ((x.1 : Int) == (j : Int)) = false := beq_eq_false_iff_ne.mpr (by omega)
            have q44 : (x.1 == j) = false := beq_eq_false_iff_ne.mpr hxj
            have H7 : Aside0 (256 ≤ c6 ∧ (Kd.int .u8).C w A6 256 (seenTo s.pend (X.blk s.bytes j) j (k + 1))) := ⟨by rw [seenTo_no hx hxj]; exact H6.out⟩
            clear H6 HX
            go_wp2_with fail
            cases gk with
            | zero => exact absurd HK.out (by omega)
            | succ k1 =>
              go_roundg k1
              case measure => omega
              case rel => exact ⟨k + 1, _, _, by go_num, rfl, ⟨by have := HK.out; omega⟩, rfl, H7⟩
        · have q3 : decide ((k : Int) < (s.pend.length : Int)) = false := decide_eq_false (by omega)
          have q33 : decide (k < s.pend.length) = false := decide_eq_false hlt
          obtain rfl : k = s.pend.length := by have := HK.out; omega
          have H7 : Aside0 (256 ≤ c6 ∧ (Kd.int .u8).C w A6 256 ((X.lastD s.pend (j : Int)).getD (X.blk s.bytes j))) := ⟨by have h := H6.out; unfold seenTo at h; rw [List.take_length] at h; exact h⟩
          clear H6 HK hlt
          go_wp2_with fail
          go_loopg [6, 8] s.ghosts.length (fun gk v6 v7 w' => ∃ (k : Nat) (A : Option Addr) (c : Nat), v7 = .int .i64 (k : Int) ∧ v6 = .slice A 256 c ∧ Aside0 (gk + k = s.ghosts.length) ∧ w = w' ∧ Aside0 (256 ≤ c ∧ (Kd.int .u8).C w A 256 (seenTo s.ghosts ((X.lastD s.pend (j : Int)).getD (X.blk s.bytes j)) j k)))
          case atStart => exact ⟨0, _, _, rfl, rfl, ⟨by omega⟩, rfl, ⟨H7.out.1, H7.out.2⟩⟩
          case round =>
            obtain ⟨k, A6, c6, rfl, rfl, HK, rfl, H6⟩ := hrel
            by_cases hlt : k < s.ghosts.length
            · have q3 : decide ((k : Int) < (s.ghosts.length : Int)) = true := decide_eq_true (by omega)
              have q33 : decide (k < s.ghosts.length) = true := decide_eq_true hlt
              obtain ⟨x, hx⟩ : ∃ x, s.ghosts[k]? = some x := ⟨_, List.getElem?_eq_getElem hlt⟩
              obtain ⟨g3, rfl⟩ := HA2.out (by omega)
              obtain ⟨g4, o4, c4, k0, k1, hc4, hC4⟩ := HW.out.wat 3 rfl hx
              have hxl : x.2.length = 256 := (HOK.out.ghosts x (List.mem_of_getElem? hx)).2.1
              rw [hxl] at k1 hc4 hC4
              have HX := Aside0.mk (And.intro hc4 hC4)
              clear hc4 hC4 hxl
              by_cases hxj : x.1 = j
              · have q4 : ((x.1 : Int) == (j : Int)) = true := beq_iff_eq.mpr (by omega)
                have q44 : (x.1 == j) = true := beq_iff_eq.mpr hxj
                have H7 : Aside0 (256 ≤ c4 ∧ (Kd.int .u8).C w (some ⟨g4, o4, none⟩) 256 (seenTo s.ghosts ((X.lastD s.pend (j : Int)).getD (X.blk s.bytes j)) j (k + 1))) := ⟨by rw [seenTo_yes hx hxj]; exact HX.out⟩
                clear H6 HX
                go_wp2_with fail
                cases gk with
                | zero => exact absurd HK.out (by omega)
                | succ k1 =>
                  go_roundg k1
                  case measure => omega
                  case rel => exact ⟨k + 1, _, _, by go_num, rfl, ⟨by have := HK.out; omega⟩, rfl, H7⟩
              · have q4 : ((x.1 : Int) == (j : Int)) = false := beq_eq_false_iff_ne.mpr (by omega)
                have q44 : (x.1 == j) = false := beq_eq_false_iff_ne.mpr hxj
                have H7 : Aside0 (256 ≤ c6 ∧ (Kd.int .u8).C w A6 256 (seenTo s.ghosts ((X.lastD s.pend (j : Int)).getD (X.blk s.bytes j)) j (k + 1))) := ⟨by rw [seenTo_no hx hxj]; exact H6.out⟩
                clear H6 HX
                go_wp2_with fail
                cases gk with
                | zero => exact absurd HK.out (by omega)
                | succ k1 =>
                  go_roundg k1
                  case measure => omega
                  case rel => exact ⟨k + 1, _, _, by go_num, rfl, ⟨by have := HK.out; omega⟩, rfl, H7⟩
            · have q3 : decide ((k : Int) < (s.ghosts.length : Int)) = false := decide_eq_false (by omega)
              have q33 : decide (k < s.ghosts.length) = false := decide_eq_false hlt
              obtain rfl : k = s.ghosts.length := by have := HK.out; omega
              have H7 : Aside0 (256 ≤ c6 ∧ (Kd.int .u8).C w A6 256 (s.read j)) := ⟨by have h := H6.out; unfold seenTo at h; rw [List.take_length] at h; exact h⟩
              clear H6 HK hlt
              have HB1 : Aside0 (Below w.heap.size w (w.alloc (.cells #[] 5))) := ⟨(Below.refl _ _).alloc (Nat.le_refl _) _⟩
              have HC1 : Aside0 ((Kd.int .u8).C (w.alloc (.cells #[] 5)) A6 256 (s.read j)) := ⟨Kd.C_below H7.out.2 HB1.out⟩
              go_wp2_with ((with_reducible refine gate_builtin (b := .append) (xs := #[.tmp 81, .tmp 82]) rfl ?_); at_builtin; refine Kd.R_append_row (Value.int .u8) (0 : Int) (w0 := w) w.heap.size rfl (.tmp 81) (.tmp 82) 22 5 (.int .u8 0) 1 rfl Try.underlying22 info5 rfl (by decide) _ [] (s.read j) A6 256 c6 (fun _ => True) rfl rfl (fun _ _ => trivial) (empty_row w) HC1.out HB1.out HB1.out.size (by decide) ?_; intro v9 w9 ho1 hb1 hg1 hat1; rw [List.nil_append] at ho1; have HS9 := Aside0.mk (HS.out.newRow (d := Kd.int .u8) hb1 ho1); obtain ⟨A9, c9, e1⟩ := Kd.R_slice ho1; subst e1; clear ho1 hb1 hg1 hat1)
              go_ret2
              exact ⟨_, rfl, HS9.out⟩
    · have q1 : decide ((n : Int) ≤ i) = true := decide_eq_true (by omega)
      have hb : hasB i n = false := decide_eq_false (fun h => hin h.2)
      rw [hb, if_neg (by decide), if_neg (by decide)]
      clear hb
      have HN := Aside0.mk (hnil w HS.out)
      clear hnil
      go_wp2_with fail
      refine HSZ.mono ?_
      rintro e w' ⟨rfl, rfl⟩
      go_wp2
      go_ret2
      exact ⟨_, rfl, HN.out⟩
  · have q0 : decide (i < 0) = true := decide_eq_true (by omega)
    have hb : hasB i n = false := decide_eq_false (fun h => h0 h.1)
    rw [hb, if_neg (by decide), if_neg (by decide)]
    clear hb
    have HN := Aside0.mk (hnil w HS.out)
    clear hnil
    go_wp2
    go_ret2
    exact ⟨_, rfl, HN.out⟩
end Go.Proofs.Ytlbfpjhnpnbikaa.U
