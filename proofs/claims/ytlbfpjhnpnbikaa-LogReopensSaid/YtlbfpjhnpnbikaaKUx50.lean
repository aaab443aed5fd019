/- Ux50: what this claim uses. Laid by slim.py (ours). -/
import Derived.Test.YtlbfpjhnpnbikaaKUx0
namespace Go.Proofs.Ytlbfpjhnpnbikaa.U
open Go.RowKit Go.Proofs.YtlbfpjhnpnbikaaW.PrintWords Go.Proofs.YtlbfpjhnpnbikaaW.PrintLast Go.Proofs.YtlbfpjhnpnbikaaW.PrintMore
attribute [local go_sem] max2_int min2_int max_two min_two max_three min_three max_four min_four
set_option linter.unusedVariables false
set_option linter.unusedSimpArgs false
def slots3 (ws : List S66) (rs : List Int) : List Int := ws.map (·.f0) ++ rs
def slotOk (ws : List S66) (rs : List Int) (i : Nat) : Bool := decide (i < ws.length → (ws.getD i z66).f1.length = 256) && (decide (0 ≤ (slots3 ws rs).getD i 0 ∧ (slots3 ws rs).getD i 0 < 1048576) && !decide ((slots3 ws rs).getD i 0 ∈ (slots3 ws rs).take i))
def mayB (ws : List S66) (rs : List Int) : Bool := decide (1 ≤ ws.length + rs.length ∧ ws.length + rs.length ≤ 58) && (List.range (ws.length + rs.length)).all (slotOk ws rs)
def wfSlots (ws : List S66) (rs : List Int) : Bool := (slots3 ws rs).all fun b => (Lit.int .i64 b).wf
def undercroftref03_May.f (a0 : Int) (l1 : List S66) (l2 : List Int) : Option Bool := if wfSlots l1 l2 = true ∧ l1.length ≤ 9007199254740992 ∧ l2.length ≤ 9007199254740992 then some (mayB l1 l2) else none
theorem slots3_length (ws : List S66) (rs : List Int) : (slots3 ws rs).length = ws.length + rs.length := by simp [slots3]
theorem slots3_low (ws : List S66) (rs : List Int) (i : Nat) (h : i < ws.length) : (slots3 ws rs).getD i 0 = (ws.getD i z66).f0 := by
  unfold slots3
  rw [List.getD_eq_getElem?_getD, List.getElem?_append_left (by simpa using h), List.getElem?_map, List.getD_eq_getElem?_getD, List.getElem?_eq_getElem h]
  rfl
theorem slots3_high (ws : List S66) (rs : List Int) (i : Nat) (h : ws.length ≤ i) : (slots3 ws rs).getD i 0 = rs.getD (i - ws.length) 0 := by
  unfold slots3
  rw [List.getD_eq_getElem?_getD, List.getElem?_append_right (by simpa using h), List.length_map, List.getD_eq_getElem?_getD]
theorem take_getD (l : List Int) (i : Nat) (h : i < l.length) : l.take (i + 1) = l.take i ++ [l.getD i 0] := by
  rw [List.take_succ_eq_append_getElem h, List.getD_eq_getElem?_getD, List.getElem?_eq_getElem h]
  rfl
theorem wfSlots_at {ws : List S66} {rs : List Int} (h : wfSlots ws rs = true) (i : Nat) : (Lit.int .i64 ((slots3 ws rs).getD i 0)).wf = true := by
  by_cases hi : i < (slots3 ws rs).length
  · rw [List.getD_eq_getElem?_getD, List.getElem?_eq_getElem hi]
    exact List.all_eq_true.1 h _ (List.getElem_mem hi)
  · rw [List.getD_eq_getElem?_getD, List.getElem?_eq_none (by omega)]
    decide
theorem slotOk_iff {ws : List S66} {rs : List Int} {i : Nat} : slotOk ws rs i = true ↔ (i < ws.length → (ws.getD i z66).f1.length = 256) ∧ (0 ≤ (slots3 ws rs).getD i 0 ∧ (slots3 ws rs).getD i 0 < 1048576) ∧ (slots3 ws rs).getD i 0 ∉ (slots3 ws rs).take i := by
  unfold slotOk
  rw [Bool.and_eq_true, Bool.and_eq_true, decide_eq_true_eq, decide_eq_true_eq, Bool.not_eq_true', decide_eq_false_iff_not]
theorem mayB_no {ws : List S66} {rs : List Int} {i : Nat} (hi : i < ws.length + rs.length) (h : ¬ slotOk ws rs i = true) : mayB ws rs = false := by
  unfold mayB
  rw [Bool.and_eq_false_iff]
  right
  rw [List.all_eq_false]
  exact ⟨i, List.mem_range.2 hi, h⟩
theorem mayB_out {ws : List S66} {rs : List Int} (h : ¬ (1 ≤ ws.length + rs.length ∧ ws.length + rs.length ≤ 58)) : mayB ws rs = false := by
  unfold mayB
  rw [decide_eq_false h, Bool.false_and]
theorem mayB_yes {ws : List S66} {rs : List Int} (h : 1 ≤ ws.length + rs.length ∧ ws.length + rs.length ≤ 58) (ha : ∀ i, i < ws.length + rs.length → slotOk ws rs i = true) : mayB ws rs = true := by
  unfold mayB
  rw [decide_eq_true h, Bool.true_and, List.all_eq_true]
  exact fun i hi => ha i (List.mem_range.1 hi)
theorem nodup_take (n : Nat) : ∀ l : List Int, l.length = n → (l.Nodup ↔ ∀ i, i < l.length → l.getD i 0 ∉ l.take i) := by
  induction n with
  | zero =>
    intro l hl
    rw [List.length_eq_zero_iff.1 hl]
    exact ⟨fun _ i h => absurd h (Nat.not_lt_zero _), fun _ => List.nodup_nil⟩
  | succ n ih =>
    intro l hl
    obtain ⟨r, b, rfl⟩ : ∃ r b, l = r ++ [b] := by
      rcases List.eq_nil_or_concat l with h | ⟨r, b, h⟩
      · rw [h] at hl
        simp at hl
      · exact ⟨r, b, by rw [h, List.concat_eq_append]⟩
    rw [List.length_append, List.length_singleton] at hl
    have hr : r.length = n := by omega
    have low : ∀ i, i < r.length → ((r ++ [b]).getD i 0 ∉ (r ++ [b]).take i ↔ r.getD i 0 ∉ r.take i) := by
      intro i hi
      rw [List.take_append_of_le_length (by omega), List.getD_eq_getElem?_getD, List.getElem?_append_left hi, List.getD_eq_getElem?_getD]
    have top : (r ++ [b]).getD r.length 0 ∉ (r ++ [b]).take r.length ↔ b ∉ r := by
      rw [List.take_append_of_le_length (Nat.le_refl _), List.take_length, List.getD_eq_getElem?_getD, List.getElem?_append_right (Nat.le_refl _), Nat.sub_self]
      rfl
    rw [List.nodup_append, ih r hr]
    constructor
    · rintro ⟨h1, _, h3⟩ i hi
      by_cases hi' : i < r.length
      · exact (low i hi').2 (h1 i hi')
      · have : i = r.length := by rw [List.length_append, List.length_singleton] at hi; omega
        subst this
        exact top.2 (fun hb => h3 b hb b (List.mem_singleton.2 rfl) rfl)
    · intro h
      refine ⟨fun i hi => (low i hi).1 (h i (by rw [List.length_append]; omega)), List.nodup_cons.2 ⟨by simp, List.nodup_nil⟩, fun x hx y hy e => ?_⟩
      rw [List.mem_singleton.1 hy] at e
      exact top.1 (h r.length (by rw [List.length_append, List.length_singleton]; omega)) (e ▸ hx)
theorem mayB_iff (ws : List S66) (rs : List Int) : mayB ws rs = true ↔ (1 ≤ ws.length + rs.length ∧ ws.length + rs.length ≤ 58) ∧ (∀ i, i < ws.length → (ws.getD i z66).f1.length = 256) ∧ (∀ b ∈ slots3 ws rs, 0 ≤ b ∧ b < 1048576) ∧ (slots3 ws rs).Nodup := by
  have hl := slots3_length ws rs
  rw [nodup_take _ _ hl]
  constructor
  · intro h
    unfold mayB at h
    rw [Bool.and_eq_true, decide_eq_true_eq, List.all_eq_true] at h
    obtain ⟨h1, h2⟩ := h
    have h3 : ∀ i, i < ws.length + rs.length → _ := fun i hi => slotOk_iff.1 (h2 i (List.mem_range.2 hi))
    refine ⟨h1, fun i hi => (h3 i (by omega)).1 hi, fun b hb => ?_, fun i hi => (h3 i (by omega)).2.2⟩
    obtain ⟨i, hi, rfl⟩ := List.getElem_of_mem hb
    have := (h3 i (by omega)).2.1
    rw [List.getD_eq_getElem?_getD, List.getElem?_eq_getElem hi] at this
    exact this
  · rintro ⟨h1, h2, h3, h4⟩
    refine mayB_yes h1 (fun i hi => slotOk_iff.2 ⟨h2 i, ?_, h4 i (by omega)⟩)
    have hi' : i < (slots3 ws rs).length := by omega
    rw [List.getD_eq_getElem?_getD, List.getElem?_eq_getElem hi']
    exact h3 _ (List.getElem_mem hi')
open Go.Maps in
theorem mapLaw3 : Keyed Try.prog 3 := int_keyed Try.underlying3
theorem mapZero3 (w : World) : (zeroValue 3).run Try.prog w = .ok (.int .i64 0) w := by kernel_rfl
set_option maxHeartbeats 2000000 in
set_option maxRecDepth 100000 in
theorem undercroftref03_May.calls (a0_0 : Int) (A0_1 : Option Addr) (c0_1 : Nat) (l0_1 : List S66) (A0_2 : Option Addr) (c0_2 : Nat) (l0_2 : List Int) (r : Bool) (w : World) (hr0_1 : Kd.C k66 w A0_1 l0_1.length l0_1) (hc0_1 : l0_1.length ≤ c0_1) (hr0_2 : Kd.C (Kd.int .i64) w A0_2 l0_2.length l0_2) (hc0_2 : l0_2.length ≤ c0_2) (h : undercroftref03_May.f a0_0 l0_1 l0_2 = some r) :
    Calls Try.prog 83 #[.agg #[.int .u64 a0_0, .slice A0_1 l0_1.length c0_1, .slice A0_2 l0_2.length c0_2]] w fun e w' => e = .returned (.bool r) ∧ Below w.heap.size w w' := by
  unfold undercroftref03_May.f at h
  by_cases hcnd : wfSlots l0_1 l0_2 = true ∧ l0_1.length ≤ 9007199254740992 ∧ l0_2.length ≤ 9007199254740992
  rotate_left
  · rw [if_neg hcnd] at h
    cases h
  rw [if_pos hcnd] at h
  have HRES := Aside0.mk (Option.some.inj h)
  clear h
  obtain ⟨hwf, hb1, hb2⟩ := hcnd
  have HWF := Aside0.mk hwf
  have HR1 := Aside0.mk hr0_1
  have HR2 := Aside0.mk hr0_2
  clear hwf hr0_1 hr0_2 hc0_1 hc0_2
  have hu26 := Try.underlying60
  have hu43 := Try.underlying66
  have hmm := @run_makeMap Try.prog
  obtain ⟨n, hn⟩ : ∃ n, n = l0_1.length + l0_2.length := ⟨_, rfl⟩
  by_cases hrange : 1 ≤ n ∧ n ≤ 58
  · obtain ⟨hn1, hn58⟩ := hrange
    have t1 : decide ((l0_1.length : Int) + (l0_2.length : Int) < 1) = false := decide_eq_false (by omega)
    have t2 : decide (58 < (l0_1.length : Int) + (l0_2.length : Int)) = false := decide_eq_false (by omega)
    have ecast : (l0_1.length : Int) + (l0_2.length : Int) = (n : Int) := by omega
    have HN := Aside0.mk hn
    have EC := Aside0.mk ecast
    clear ecast
    go_enter Try.func83, Try.ntmps83
    go_wp2_with fail
    rw [EC.out]
    have hlen := slots3_length l0_1 l0_2
    rw [← hn] at hlen
    have HL := Aside0.mk hlen
    clear hn hlen t1 t2
    have HE0 := Aside0.mk (rfl : Kd.C k66 w A0_1 l0_1.length l0_1 = Kd.C k66 w A0_1 l0_1.length l0_1)
    go_loopg [5] n (fun kq v5 w' => ∃ i : Nat, v5 = .int .i64 (i : Int) ∧ Aside0 (kq + i = n) ∧ Aside0 (∀ j, j < i → slotOk l0_1 l0_2 j = true) ∧ Aside0 (w'.ownsMap Try.prog 3 (plainElem Try.prog 3) (w.heap.size + 1) i (X.keyset (.lit (.int .i64 1)) ((slots3 l0_1 l0_2).take i))) ∧ Aside0 (X.Blk w' w.heap.size #[.int .u64 a0_0, .slice A0_1 l0_1.length c0_1, .slice A0_2 l0_2.length c0_2] 60) ∧ Aside0 (Below w.heap.size w w'))
    case atStart =>
      refine ⟨0, rfl, ⟨by omega⟩, ⟨fun j hj => absurd hj (Nat.not_lt_zero _)⟩, ⟨?_⟩, ⟨?_⟩, ⟨?_⟩⟩
      · have := World.ownsMap_made (w.alloc (.cells #[.int .u64 a0_0, .slice A0_1 l0_1.length c0_1, .slice A0_2 l0_2.length c0_2] 60 (0, 0))) Try.prog 3 (plainElem (H := Unit) Try.prog 3)
        rw [show (w.alloc (.cells #[.int .u64 a0_0, .slice A0_1 l0_1.length c0_1, .slice A0_2 l0_2.length c0_2] 60 (0, 0))).heap.size = w.heap.size + 1 from by simp] at this
        exact this
      · exact (X.Blk.new w #[.int .u64 a0_0, .slice A0_1 l0_1.length c0_1, .slice A0_2 l0_2.length c0_2] 60).below ((Below.refl _ _).alloc (Nat.le_refl _) _) (X.Blk.new w _ _).lt
      · exact ((Below.refl _ _).alloc (Nat.le_refl _) _).alloc (by simp) _
    case round =>
      obtain ⟨i, rfl, HK, HJ, HM, HX, HB⟩ := hrel
      have hi : i ≤ n := by have := HK.out; omega
      by_cases hlt : i < n
      · have hL1 := HX.out.cell 1 _ rfl
        have hL2 := HX.out.cell 2 _ rfl
        have hxw := wfSlots_at HWF.out i
        have hkey := Maps.keyOf_int_mk Try.underlying3 hxw
        have HNO := Aside0.mk (fun h => mayB_no (ws := l0_1) (rs := l0_2) (i := i) (by rw [← HN.out]; exact hlt) h)
        have HI := Aside0.mk (slotOk_iff (ws := l0_1) (rs := l0_2) (i := i))
        have HS := Aside0.mk (take_getD (slots3 l0_1 l0_2) i (by rw [HL.out]; exact hlt))
        obtain ⟨c, hrun, hat, -⟩ := HM.out.lookup_int mapLaw3 Try.underlying80 Try.underlying3 (mapZero3 _) hkey
        rw [X.keyset_at] at hat
        by_cases hw : i < l0_1.length
        · have hx := slots3_low l0_1 l0_2 i hw
          have HC := Kd.C_below HR1.out HB.out
          obtain ⟨ad, A1, c1, e, hf0, hf1, -, -⟩ := at_T66 HC (i : Int) (by omega) (by omega)
          subst e
          have hrd : rd_T66 l0_1 (i : Int) = l0_1.getD i z66 := by unfold rd_T66; rw [Int.toNat_natCast]
          rw [hrd, Int.toNat_natCast] at hf0 hf1
          rw [← hx] at hf0
          have HXV0 : ∃ x, x = (slots3 l0_1 l0_2).getD i 0 := ⟨_, rfl⟩
          obtain ⟨x, hxv⟩ := HXV0
          rw [← hxv] at hf0 hkey hrun hat hxw
          have HXV := Aside0.mk hxv.symm
          obtain ⟨m, hm⟩ : ∃ m, m = (l0_1.getD i z66).f1.length := ⟨_, rfl⟩
          rw [← hm] at hf1
          have HMM := Aside0.mk hm
          have HHK := Aside0.mk hkey
          clear hxv hx hrd hm hkey HC
          have q0 : decide ((i : Int) < (l0_1.length : Int)) = true := decide_eq_true (by omega)
          have q00 : decide (i < l0_1.length) = true := decide_eq_true hw
          by_cases hm256 : m = 256
          rotate_left
          · have q3 : ((m : Int) == 256) = false := beq_eq_false_iff_ne.2 (by omega)
            have q4 : ((m : Int) != 256) = true := bne_iff_ne.2 (by omega)
            have HB2 := Aside0.mk (fun (h : slotOk l0_1 l0_2 i = true) => hm256 (HMM.out.trans ((HI.out.1 h).1 hw)))
            clear hm256 hat
            go_wp2
            go_ret
            exact ⟨congrArg (fun b => Ending.returned (.bool b)) ((HNO.out HB2.out).symm.trans HRES.out), HB.out⟩
          subst hm256
          have HDT := Aside0.mk (fun (_ : i < l0_1.length) => HMM.out.symm)
          clear HMM
          by_cases hx0 : x < 0
          · have q1 : decide (x < 0) = true := decide_eq_true hx0
            have HB2 := Aside0.mk (fun (h : slotOk l0_1 l0_2 i = true) => by have h1 := (HI.out.1 h).2.1.1; rw [HXV.out] at h1; omega : slotOk l0_1 l0_2 i = true → False)
            clear hx0
            go_wp2
            go_ret
            exact ⟨congrArg (fun b => Ending.returned (.bool b)) ((HNO.out HB2.out).symm.trans HRES.out), HB.out⟩
          have q1 : decide (x < 0) = false := decide_eq_false hx0
          by_cases hx1 : 1048576 ≤ x
          · have q2 : decide (1048576 ≤ x) = true := decide_eq_true hx1
            have HB2 := Aside0.mk (fun (h : slotOk l0_1 l0_2 i = true) => by have h1 := (HI.out.1 h).2.1.2; rw [HXV.out] at h1; omega : slotOk l0_1 l0_2 i = true → False)
            clear hx0 hx1
            go_wp2
            go_ret
            exact ⟨congrArg (fun b => Ending.returned (.bool b)) ((HNO.out HB2.out).symm.trans HRES.out), HB.out⟩
          have q2 : decide (1048576 ≤ x) = false := decide_eq_false hx1
          by_cases hmem : x ∈ (slots3 l0_1 l0_2).take i
          · rw [if_pos hmem] at hat
            obtain rfl : 1 = c := by injection hat with h; injection h
            have HB2 := Aside0.mk (fun (h : slotOk l0_1 l0_2 i = true) => (by have h1 := (HI.out.1 h).2.2; rw [HXV.out] at h1; exact h1 hmem) : slotOk l0_1 l0_2 i = true → False)
            clear hx0 hx1 hmem hat
            go_wp2
            go_ret
            exact ⟨congrArg (fun b => Ending.returned (.bool b)) ((HNO.out HB2.out).symm.trans HRES.out), HB.out⟩
          rw [if_neg hmem] at hat
          obtain rfl : 0 = c := by injection hat with h; injection h
          have HOK := Aside0.mk (HI.out.2 ⟨HDT.out, by rw [HXV.out]; omega, by rw [HXV.out]; exact hmem⟩)
          have HS' : Aside0 ((slots3 l0_1 l0_2).take (i + 1) = (slots3 l0_1 l0_2).take i ++ [x]) := ⟨by rw [HS.out, HXV.out]⟩
          clear hx0 hx1 hmem hat
          go_wp2_with (at_mapUpdate; refine wpList_mapUpdate_own _ rfl _ _ _ 80 rfl 3 3 mapLaw3 Try.underlying80 _ (w.heap.size + 1) i _ rfl HM.out (by unfold maxLen; omega) _ _ _ rfl rfl HHK.out _ [] (plainElem_int Try.underlying3 (by decide)) ?_; intro w1 hown1 hgrow1; have HM1 := Aside0.mk hown1; have HG1 := Aside0.mk hgrow1; clear hown1 hgrow1)
          cases gk with
          | zero => exact absurd HK.out (by omega)
          | succ k1 =>
          go_roundg k1
          case measure => omega
          case rel =>
            refine ⟨i + 1, by go_num, ⟨by have := HK.out; omega⟩, ⟨fun j hj => ?_⟩, ⟨?_⟩, ⟨?_⟩, ⟨?_⟩⟩
            · by_cases e : j = i
              · rw [e]; exact HOK.out
              · exact HJ.out j (by omega)
            · rw [HS'.out, X.keyset_snoc]
              exact HM1.out
            · have := HG1.out.block w.heap.size HX.out.lt (by simp)
              exact this.trans HX.out
            · exact HB.out.grown HG1.out HB.out.size (fun j hj => by cases hj; omega)
        · have hx := slots3_high l0_1 l0_2 i (by omega)
          have HC := Kd.C_below HR2.out HB.out
          have hlo : l0_1.length ≤ i := by omega
          have hin : i - l0_1.length < l0_2.length := by have := HN.out; omega
          obtain ⟨ad, e, hf0⟩ := Kd.at_int HC ((i : Int) - (l0_1.length : Int)) (by omega) (by omega)
          subst e
          have hrd : rd l0_2 ((i : Int) - (l0_1.length : Int)) = l0_2.getD (i - l0_1.length) 0 := by unfold rd; rw [show ((i : Int) - (l0_1.length : Int)).toNat = i - l0_1.length from by omega]
          rw [hrd, show ((i : Int) - (l0_1.length : Int)).toNat = i - l0_1.length from by omega] at hf0
          rw [← hx] at hf0
          have HXV0 : ∃ x, x = (slots3 l0_1 l0_2).getD i 0 := ⟨_, rfl⟩
          obtain ⟨x, hxv⟩ := HXV0
          rw [← hxv] at hf0 hkey hrun hat hxw
          have HXV := Aside0.mk hxv.symm
          have HHK := Aside0.mk hkey
          clear hxv hx hrd hkey HC
          have q0 : decide ((i : Int) < (l0_1.length : Int)) = false := decide_eq_false (by omega)
          have q00 : decide (i < l0_1.length) = false := decide_eq_false hw
          have HDT := Aside0.mk (fun (h : i < l0_1.length) => (absurd h hw : (l0_1.getD i z66).f1.length = 256))
          have hw1 : IntKind.i64.wrap ((i : Int) - (l0_1.length : Int)) = (i : Int) - (l0_1.length : Int) := IntWalk.i64_in _ (by omega)
          have hin0 : 0 ≤ (i : Int) - (l0_1.length : Int) := by omega
          have hin1 : (i : Int) - (l0_1.length : Int) < (l0_2.length : Int) := by omega
          clear hin hw
          by_cases hx0 : x < 0
          · have q1 : decide (x < 0) = true := decide_eq_true hx0
            have HB2 := Aside0.mk (fun (h : slotOk l0_1 l0_2 i = true) => by have h1 := (HI.out.1 h).2.1.1; rw [HXV.out] at h1; omega : slotOk l0_1 l0_2 i = true → False)
            clear hx0
            go_wp2
            go_ret
            exact ⟨congrArg (fun b => Ending.returned (.bool b)) ((HNO.out HB2.out).symm.trans HRES.out), HB.out⟩
          have q1 : decide (x < 0) = false := decide_eq_false hx0
          by_cases hx1 : 1048576 ≤ x
          · have q2 : decide (1048576 ≤ x) = true := decide_eq_true hx1
            have HB2 := Aside0.mk (fun (h : slotOk l0_1 l0_2 i = true) => by have h1 := (HI.out.1 h).2.1.2; rw [HXV.out] at h1; omega : slotOk l0_1 l0_2 i = true → False)
            clear hx0 hx1
            go_wp2
            go_ret
            exact ⟨congrArg (fun b => Ending.returned (.bool b)) ((HNO.out HB2.out).symm.trans HRES.out), HB.out⟩
          have q2 : decide (1048576 ≤ x) = false := decide_eq_false hx1
          by_cases hmem : x ∈ (slots3 l0_1 l0_2).take i
          · rw [if_pos hmem] at hat
            obtain rfl : 1 = c := by injection hat with h; injection h
            have HB2 := Aside0.mk (fun (h : slotOk l0_1 l0_2 i = true) => (by have h1 := (HI.out.1 h).2.2; rw [HXV.out] at h1; exact h1 hmem) : slotOk l0_1 l0_2 i = true → False)
            clear hx0 hx1 hmem hat
            go_wp2
            go_ret
            exact ⟨congrArg (fun b => Ending.returned (.bool b)) ((HNO.out HB2.out).symm.trans HRES.out), HB.out⟩
          rw [if_neg hmem] at hat
          obtain rfl : 0 = c := by injection hat with h; injection h
          have HOK := Aside0.mk (HI.out.2 ⟨HDT.out, by rw [HXV.out]; omega, by rw [HXV.out]; exact hmem⟩)
          have HS' : Aside0 ((slots3 l0_1 l0_2).take (i + 1) = (slots3 l0_1 l0_2).take i ++ [x]) := ⟨by rw [HS.out, HXV.out]⟩
          clear hx0 hx1 hmem hat
          go_wp2_with (at_mapUpdate; refine wpList_mapUpdate_own _ rfl _ _ _ 80 rfl 3 3 mapLaw3 Try.underlying80 _ (w.heap.size + 1) i _ rfl HM.out (by unfold maxLen; omega) _ _ _ rfl rfl HHK.out _ [] (plainElem_int Try.underlying3 (by decide)) ?_; intro w1 hown1 hgrow1; have HM1 := Aside0.mk hown1; have HG1 := Aside0.mk hgrow1; clear hown1 hgrow1)
          cases gk with
          | zero => exact absurd HK.out (by omega)
          | succ k1 =>
          go_roundg k1
          case measure => omega
          case rel =>
            refine ⟨i + 1, by go_num, ⟨by have := HK.out; omega⟩, ⟨fun j hj => ?_⟩, ⟨?_⟩, ⟨?_⟩, ⟨?_⟩⟩
            · by_cases e : j = i
              · rw [e]; exact HOK.out
              · exact HJ.out j (by omega)
            · rw [HS'.out, X.keyset_snoc]
              exact HM1.out
            · have := HG1.out.block w.heap.size HX.out.lt (by simp)
              exact this.trans HX.out
            · exact HB.out.grown HG1.out HB.out.size (fun j hj => by cases hj; omega)
      · have HY := Aside0.mk (mayB_yes (ws := l0_1) (rs := l0_2) (by rw [← HN.out]; exact ⟨hn1, hn58⟩) (fun j hj => HJ.out j (by rw [← HN.out] at hj; omega)))
        go_wp2
        go_ret
        exact ⟨congrArg (fun b => Ending.returned (.bool b)) (HY.out.symm.trans HRES.out), HB.out⟩
  · have HM := Aside0.mk (mayB_out (ws := l0_1) (rs := l0_2) (by rw [← hn]; exact hrange))
    have hor : n < 1 ∨ 58 < n := by omega
    clear hrange
    rcases hor with h1 | h1
    · have t1 : decide ((l0_1.length : Int) + (l0_2.length : Int) < 1) = true := decide_eq_true (by omega)
      clear hn
      go_enter Try.func83, Try.ntmps83
      go_wp2
      go_ret
      exact ⟨congrArg (fun b => Ending.returned (.bool b)) (HM.out.symm.trans HRES.out), (Below.refl _ _).alloc (Nat.le_refl _) _⟩
    · have t1 : decide ((l0_1.length : Int) + (l0_2.length : Int) < 1) = false := decide_eq_false (by omega)
      have t2 : decide (58 < (l0_1.length : Int) + (l0_2.length : Int)) = true := decide_eq_true (by omega)
      clear hn
      go_enter Try.func83, Try.ntmps83
      go_wp2
      go_ret
      exact ⟨congrArg (fun b => Ending.returned (.bool b)) (HM.out.symm.trans HRES.out), (Below.refl _ _).alloc (Nat.le_refl _) _⟩
end Go.Proofs.Ytlbfpjhnpnbikaa.U
