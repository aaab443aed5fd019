/- Ux45 Ux53: what this claim uses. Laid by slim.py (ours). -/
import Derived.Test.YtlbfpjhnpnbikaaKUx3
import Derived.Test.YtlbfpjhnpnbikaaKUx0
import Derived.Test.YtlbfpjhnpnbikaaKUx1
import Derived.Test.YtlbfpjhnpnbikaaKUx11
import Derived.Test.YtlbfpjhnpnbikaaKUx24
import Derived.Test.YtlbfpjhnpnbikaaKUx42
import Derived.Test.YtlbfpjhnpnbikaaKUx46
section
namespace Go.Proofs.Ytlbfpjhnpnbikaa.U
open Go.RowKit Go.Proofs.YtlbfpjhnpnbikaaW.PrintWords Go.Proofs.YtlbfpjhnpnbikaaW.PrintLast Go.Proofs.YtlbfpjhnpnbikaaW.PrintMore
attribute [local go_sem] max2_int min2_int max_two min_two max_three min_three max_four min_four
set_option linter.unusedVariables false
set_option linter.unusedSimpArgs false
theorem tx_at {w : World} {A : Option Addr} {n : Nat} {l : List Pure.Tx} (h : Kd.C k60 w A n l) {i : Nat} {t : Pure.Tx} (ht : l[i]? = some t) : ∃ g o A1 c1 A2 c2, A = some ⟨g, o, none⟩ ∧ w.rangeAt g (o + i * 3) [.int .u64 t.f0, .slice A1 t.f1.length c1, .slice A2 t.f2.length c2] ∧ (t.f1.length ≤ c1 ∧ Kd.C k66 w A1 t.f1.length t.f1) ∧ t.f2.length ≤ c2 ∧ Kd.C (Kd.int .i64) w A2 t.f2.length t.f2 := by
  have hl := h.1
  have hi := (List.getElem?_eq_some_iff.1 ht).1
  obtain ⟨⟨b, o, sp⟩, rfl, hc⟩ := h.2.2 (by omega)
  obtain ⟨c, -, hK, hcell⟩ := hc i t ht
  obtain ⟨A1, c1, A2, c2, rfl, h1, h2, h3, h4⟩ := Pure.kTx_K hK
  have hsp : sp = none := by
    obtain ⟨d, -, dK, dcell⟩ := hc 0 _ (List.getElem?_eq_getElem (show 0 < l.length by omega))
    obtain ⟨B1, e1, B2, e2, rfl, -⟩ := Pure.kTx_K dK
    have h5 := Pure.spot_nil (dcell 0 _ rfl)
    unfold Addr.add at h5
    simpa using h5
  subst hsp
  refine ⟨b, o, A1, c1, A2, c2, rfl, fun j v hj => ?_, ⟨h1, h2⟩, h3, h4⟩
  have h5 := hcell j v hj
  have e : (⟨b, o, none⟩ : Addr).add (i * k60.sz + j) = ⟨b, o + i * 3 + j, none⟩ := by
    rw [add_at, show k60.sz = 3 from rfl, Nat.add_assoc]
  rw [e] at h5
  exact h5
def usedTo (l : List Pure.Tx) (i : Nat) : Nat := ((l.take i).map fun t => t.f1.length + 2).sum
theorem usedTo_next {l : List Pure.Tx} {i : Nat} {t : Pure.Tx} (ht : l[i]? = some t) : usedTo l (i + 1) = usedTo l i + (t.f1.length + 2) := by
  unfold usedTo
  rw [List.take_add_one, ht, Option.toList_some, List.map_append, List.sum_append]
  rfl
theorem usedTo_le (s : Pure.LS) (i : Nat) : usedTo s.live i ≤ s.used := by
  unfold usedTo Pure.LS.used
  conv => rhs; rw [← List.take_append_drop i s.live, List.map_append, List.sum_append]
  omega
theorem undercroftref04_Log_Room.part (w0 w : World) (L : List X.Res) (g q : Nat) (s : Pure.LS) (Al : Option Addr) (cl : Nat) (h : X.Lies w0 w (.box g (Pure.refC q s (.slice Al s.live.length cl)) 45 :: .rows k60 60 (.slice Al s.live.length cl) s.live :: L)) (hl : s.len ≤ 1024) (hu : s.used ≤ s.len - 1) (h0 : 1 ≤ s.len) (hll : s.live.length ≤ 1000) :
    Calls Try.prog 60 #[.pointer (some ⟨g, 0, none⟩)] w fun e w' => e = .returned (.int .i64 ((s.len - 1 - s.used : Nat) : Int)) ∧ w = w' := by
  have HS := Aside0.mk h
  have HU : Aside0 (s.len ≤ 1024 ∧ s.used ≤ s.len - 1 ∧ 1 ≤ s.len ∧ s.live.length ≤ 1000) := ⟨hl, hu, h0, hll⟩
  have c5_ : w.cell? ⟨g, 5, none⟩ = some (.slice Al s.live.length cl) := (h.boxed 0 rfl).cell 5 _ rfl
  have c2_ : w.cell? ⟨g, 2, none⟩ = some (.int .i64 (s.len : Int)) := (h.boxed 0 rfl).cell 2 _ rfl
  obtain ⟨A, c, e1, -, hC, -⟩ := h.rform 1 rfl
  obtain ⟨rfl, -, rfl⟩ := Value.slice.inj e1
  have HC := Aside0.mk hC
  have hw0 : wrap64 ((s.len : Int) - 1) = ((s.len - 1 - usedTo s.live 0 : Nat) : Int) := (Pure.wrap64_id (by omega) (by omega)).trans (by unfold usedTo; simp; omega)
  clear h hl hu h0 hll hC
  go_enter Try.func60, Try.ntmps60
  go_wp2_with fail
  have HW0 := Aside0.mk hw0
  clear hw0
  go_loopg [3, 4] s.live.length (fun gk v3_ v4_ w' => ∃ i : Nat, v4_ = .int .i64 (i : Int) ∧ v3_ = .int .i64 ((s.len - 1 - usedTo s.live i : Nat) : Int) ∧ Aside0 (gk + i = s.live.length) ∧ w = w')
  case atStart => exact ⟨0, rfl, by rw [HW0.out], ⟨by omega⟩, rfl⟩
  case round =>
    obtain ⟨i, rfl, rfl, HK, rfl⟩ := hrel
    by_cases hlt : i < s.live.length
    · have q3 : decide ((i : Int) < (s.live.length : Int)) = true := decide_eq_true (by omega)
      have q33 : decide (i < s.live.length) = true := decide_eq_true hlt
      obtain ⟨t, ht⟩ : ∃ t, s.live[i]? = some t := ⟨_, List.getElem?_eq_getElem hlt⟩
      obtain ⟨ga, oa, A1, c1, A2, c2, rfl, hrg, -⟩ := tx_at HC.out ht
      have hc1 : w.cell? ⟨ga, oa + i * 3 + 1, none⟩ = some (.slice A1 t.f1.length c1) := hrg 1 _ rfl
      have HN := Aside0.mk (usedTo_next ht)
      have HLE := Aside0.mk (usedTo_le s (i + 1))
      obtain ⟨m, hm⟩ : ∃ m, m = t.f1.length := ⟨_, rfl⟩
      rw [← hm] at hc1 HN
      obtain ⟨u, hu⟩ : ∃ u, u = usedTo s.live i := ⟨_, rfl⟩
      rw [← hu] at HN ⊢
      have hw1 : wrap64 ((m : Int) + 2) = (m : Int) + 2 := (Pure.wrap64_id (by omega) (by have := HN.out; have := HLE.out; have := HU.out; omega)).trans (by omega)
      have hw2 : wrap64 (((s.len - 1 - u : Nat) : Int) - ((m : Int) + 2)) = ((s.len - 1 - usedTo s.live (i + 1) : Nat) : Int) := (Pure.wrap64_id (by have := HN.out; have := HLE.out; have := HU.out; omega) (by have := HN.out; have := HLE.out; have := HU.out; omega)).trans (by have := HN.out; have := HLE.out; have := HU.out; omega)
      have HLT := Aside0.mk hlt
      clear hm hu ht hrg
      go_wp2_with fail
      clear hlt
      cases gk with
      | zero => exact absurd HK.out (by have := HLT.out; omega)
      | succ k1 =>
        go_roundg k1
        case measure => omega
        case rel => exact ⟨i + 1, by rw [Pure.sucw i (by have := HLT.out; have := HU.out; omega)]; rfl, by rw [hw2], ⟨by have := HK.out; omega⟩, rfl⟩
    · have q3 : decide ((i : Int) < (s.live.length : Int)) = false := decide_eq_false (by omega)
      have q33 : decide (i < s.live.length) = false := decide_eq_false hlt
      obtain rfl : i = s.live.length := by have := HK.out; omega
      have HE : Aside0 (usedTo s.live s.live.length = s.used) := ⟨by unfold usedTo Pure.LS.used; rw [List.take_length]⟩
      clear HK hlt
      go_wp2_with fail
      go_ret
      rw [HE.out]
      exact ⟨rfl, rfl⟩
end Go.Proofs.Ytlbfpjhnpnbikaa.U
end
section
namespace Go.Proofs.Ytlbfpjhnpnbikaa.U
open Go.RowKit Go.Proofs.YtlbfpjhnpnbikaaW.PrintWords Go.Proofs.YtlbfpjhnpnbikaaW.PrintLast Go.Proofs.YtlbfpjhnpnbikaaW.PrintMore
attribute [local go_sem] max2_int min2_int max_two min_two max_three min_three max_four min_four
set_option linter.unusedVariables false
set_option linter.unusedSimpArgs false
theorem write_ghosts (s : X.DS) (i : Nat) (xs : List Int) : (s.write i xs).ghosts.length ≤ s.ghosts.length + 1 := by
  unfold X.DS.write
  split
  · simp
  · simp
theorem wrTo_ghosts (l : List Pure.Tx) (i : Nat) (ws : List S66) (d : X.DS) : ∀ k, (Pure.wrTo l i ws d k).ghosts.length ≤ d.ghosts.length + k
  | 0 => Nat.le_refl _
  | k + 1 => by
    have ih := wrTo_ghosts l i ws d k
    rw [Pure.wrTo]
    split
    · rename_i x hx
      split
      · omega
      · have := write_ghosts (Pure.wrTo l i ws d k) x.f0.toNat x.f1
        omega
    · omega
theorem apTo_ghosts (l : List Pure.Tx) (d : X.DS) (hl : ∀ t ∈ l, t.f1.length ≤ 58) : ∀ i, (Pure.apTo l d i).ghosts.length ≤ d.ghosts.length + 58 * i
  | 0 => Nat.le_refl _
  | i + 1 => by
    have ih := apTo_ghosts l d hl i
    rw [Pure.apTo]
    split
    · rename_i t ht
      have h1 := wrTo_ghosts l i t.f1 (Pure.apTo l d i) t.f1.length
      have h2 := hl t (List.mem_of_getElem? ht)
      omega
    · omega
structure TxOk (n : Nat) (t : Pure.Tx) : Prop where
  may : mayB t.f1 t.f2 = true
  came : Pure.Came t.f0 t.f1 t.f2
  has : ∀ x ∈ t.f1, hasB x.f0 n = true
set_option maxHeartbeats 8000000 in
theorem undercroftref04_Apply.part (w0 w : World) (L : List X.Res) (p n : Nat) (d : X.DS) (l : List Pure.Tx) (A : Option Addr) (c : Nat) (h : X.Lies w0 w (.rdisk p n d :: L)) (hr : X.Rd w0 L fun w' => Kd.C k60 w' A l.length l) (hc : l.length ≤ c) (hl : ∀ t ∈ l, TxOk n t) (hll : l.length ≤ 1000) (hpl : d.pend.length ≤ 100000000) (hgl : d.ghosts.length ≤ 100000000) :
    Calls Try.prog 78 #[.pointer (some ⟨p, 0, none⟩), .slice A l.length c] w fun e w' => e = .returned (.tuple #[]) ∧ X.Lies w0 w' (.rdisk p n (Pure.apTo l d l.length) :: L) := by
  have HS := Aside0.mk h
  have HR := Aside0.mk hr
  have HC := Aside0.mk hc
  have HL := Aside0.mk hl
  have HLL : Aside0 (l.length ≤ 1000 ∧ d.pend.length ≤ 100000000 ∧ d.ghosts.length ≤ 100000000) := ⟨hll, hpl, hgl⟩
  have H58 : Aside0 (∀ t ∈ l, t.f1.length ≤ 58 ∧ t.f2.length ≤ 58) := ⟨fun t ht => by have := (Pure.may_facts (hl t ht).may).1; omega⟩
  clear h hr hc hl hll hpl hgl
  go_enter Try.func78, Try.ntmps78
  go_wp2_with fail
  go_loopg [4, 5, 6] l.length (fun gk v4_ v5_ v6_ w' => ∃ i : Nat, v4_ = .int .i64 (i : Int) ∧ Aside0 (gk + i = l.length) ∧ Aside0 (X.Lies w0 w' (.rdisk p n (Pure.apTo l d i) :: L)))
  case atStart => exact ⟨0, rfl, ⟨by omega⟩, HS⟩
  case round =>
    clear HS
    obtain ⟨i, rfl, HK, HS⟩ := hrel
    by_cases hlt : i < l.length
    · have q3 : decide ((i : Int) < (l.length : Int)) = true := decide_eq_true (by omega)
      have q33 : decide (i < l.length) = true := decide_eq_true hlt
      obtain ⟨t, ht⟩ : ∃ t, l[i]? = some t := ⟨_, List.getElem?_eq_getElem hlt⟩
      have HT := Aside0.mk ht
      have HLT := Aside0.mk hlt
      have HTO := Aside0.mk (HL.out t (List.mem_of_getElem? ht))
      have HT58 := Aside0.mk (H58.out t (List.mem_of_getElem? ht))
      clear ht
      go_wp2_with fail
      obtain ⟨ko, rfl⟩ : ∃ ko, gk = ko + 1 := ⟨gk - 1, by have := HK.out; have := HLT.out; omega⟩
      go_loopg [5, 6] t.f1.length (fun gk v5_ v6_ w' => ∃ k : Nat, v5_ = .int .i64 (k : Int) ∧ Aside0 (gk + k = t.f1.length) ∧ Aside0 (X.Lies w0 w' (.rdisk p n (Pure.wrTo l i t.f1 (Pure.apTo l d i) k) :: L)))
      case atStart => exact ⟨0, rfl, ⟨by omega⟩, HS⟩
      case round =>
        clear HS
        obtain ⟨k, rfl, HJ, HS⟩ := hrel
        obtain ⟨ga, oa, A1, c1, A2, c2, rfl, hrg, hC1, -⟩ := tx_at (HR.out wr HS.out.tail) HT.out
        have hd1 : wr.cell? ⟨ga, oa + i * 3 + 1, none⟩ = some (.slice A1 t.f1.length c1) := hrg 1 _ rfl
        by_cases hk : k < t.f1.length
        · have q4 : decide ((k : Int) < (t.f1.length : Int)) = true := decide_eq_true (by omega)
          have q44 : decide (k < t.f1.length) = true := decide_eq_true hk
          obtain ⟨x, hx⟩ : ∃ x, t.f1[k]? = some x := ⟨_, List.getElem?_eq_getElem hk⟩
          obtain ⟨gb, ob, Ax, cx, rfl, hrg2, hcx, hCx⟩ := Pure.wr_at hC1.2 hx
          have HX := Aside0.mk hx
          have HRG := Aside0.mk hrg2
          have HKB := Aside0.mk hk
          have HCX := Aside0.mk hcx
          have HW2 : Aside0 (x.f1.length = 256 ∧ X.u8all x.f1 = true) := ⟨(Pure.may_facts HTO.out.may).2.1 x (List.mem_of_getElem? hx), List.all_eq_true.1 HTO.out.came.data x (List.mem_of_getElem? hx)⟩
          have HHB := Aside0.mk (HTO.out.has x (List.mem_of_getElem? hx))
          have HPD : Aside0 ((Pure.wrTo l i t.f1 (Pure.apTo l d i) k).pend.length ≤ 500000000000 ∧ (Pure.wrTo l i t.f1 (Pure.apTo l d i) k).ghosts.length ≤ 500000000000) := ⟨by
            have h1 := wrTo_pend l i t.f1 (Pure.apTo l d i) k
            have h2 := apTo_pend l d (fun t2 ht2 => (H58.out t2 ht2).1) i
            have h3 := wrTo_ghosts l i t.f1 (Pure.apTo l d i) k
            have h4 := apTo_ghosts l d (fun t2 ht2 => (H58.out t2 ht2).1) i
            have := HLL.out
            have := HKB.out
            have := HLT.out
            have := HT58.out
            omega⟩
          obtain ⟨gw, hgw⟩ : ∃ gw, gw = wr.heap.size := ⟨_, rfl⟩
          have HS2 : Aside0 (X.Lies w0 (wr.alloc (.cells #[.int .i64 x.f0, .slice Ax x.f1.length cx] 66)) (.box gw #[.int .i64 x.f0, .slice Ax x.f1.length cx] 66 :: .rdisk p n (Pure.wrTo l i t.f1 (Pure.apTo l d i) k) :: L)) := ⟨by rw [hgw]; exact HS.out.alloc _ _⟩
          have HCW := Aside0.mk (Kd.C_alloc hCx (.cells #[.int .i64 x.f0, .slice Ax x.f1.length cx] 66))
          clear hx hrg hC1 hrg2 hcx hCx HS
          go_wp2_with ((with_reducible refine gate_ (.load 66 (.tmp 29)) rfl ?_); (refine wpList_load_mid rfl 66 (.tmp 29) rfl gb (ob + k * 2) (by rfl) [.int .i64 x.f0, .slice Ax x.f1.length cx] _ HRG.out Try.underlying66 rfl Pure.infoW ?_))
          rw [← hgw]
          clear hgw HRG hk hd1
          generalize wr.alloc _ = w1 at *
          refine (Pure.Revoked_part i x.f0 HS2.out (HR.out w1 HS2.out.tail.tail) HC.out HLT.out HLL.out.1 (fun t2 ht2 => (H58.out t2 ht2).2)).mono ?_
          rintro e w2 ⟨rfl, hs, hbl⟩
          have HS3 := Aside0.mk hs
          have HC3 := Aside0.mk (Kd.C_below HCW.out hbl)
          have cw0_ : w2.cell? ⟨gw, 0, none⟩ = some (.int .i64 x.f0) := (hs.boxed 0 rfl).cell 0 _ rfl
          have cw1_ : w2.cell? ⟨gw, 1, none⟩ = some (.slice Ax x.f1.length cx) := (hs.boxed 0 rfl).cell 1 _ rfl
          clear hs hbl HS2 HCW
          by_cases hrv : Pure.revB l i x.f0 = true
          · have HS6 : Aside0 (X.Lies w0 w2 (.rdisk p n (Pure.wrTo l i t.f1 (Pure.apTo l d i) (k + 1)) :: L)) := ⟨by
              rw [Pure.wrTo]
              simp only [HX.out]
              rw [if_pos hrv]
              exact HS3.out.tail⟩
            rw [hrv]
            clear hrv HS3 cw0_ cw1_
            go_wp2_with fail
            cases gk with
            | zero => exact absurd HJ.out (by have := HKB.out; omega)
            | succ k1 =>
              go_roundg k1
              case measure => omega
              case rel => exact ⟨k + 1, by rw [Pure.sucw k (by have := HKB.out; have := HT58.out; omega)]; rfl, ⟨by have := HJ.out; omega⟩, HS6⟩
          · have HD : Aside0 (Pure.wrTo l i t.f1 (Pure.apTo l d i) (k + 1) = put (Pure.wrTo l i t.f1 (Pure.apTo l d i) k) n x.f0 x.f1) := ⟨by
              rw [Pure.wrTo]
              simp only [HX.out]
              rw [if_neg hrv]
              unfold put
              rw [if_pos ⟨HHB.out, HW2.out.1⟩]⟩
            rw [show Pure.revB l i x.f0 = false from by simpa using hrv]
            clear hrv
            go_wp2_with fail
            refine (undercroftref02_Disk_Write.calls w0 w2 _ p n _ x.f0 Ax cx x.f1 HS3.out.swap HC3.out HCX.out HW2.out.2 HPD.out.1 HPD.out.2).mono ?_
            rintro e w5 ⟨rfl, hs⟩
            rw [← HD.out] at hs
            have HS6 := Aside0.mk hs.swap.tail
            clear hs HS3 cw0_ cw1_
            go_wp2_with fail
            cases gk with
            | zero => exact absurd HJ.out (by have := HKB.out; omega)
            | succ k1 =>
              go_roundg k1
              case measure => omega
              case rel => exact ⟨k + 1, by rw [Pure.sucw k (by have := HKB.out; have := HT58.out; omega)]; rfl, ⟨by have := HJ.out; omega⟩, HS6⟩
        · have q4 : decide ((k : Int) < (t.f1.length : Int)) = false := decide_eq_false (by omega)
          have q44 : decide (k < t.f1.length) = false := decide_eq_false hk
          obtain rfl : k = t.f1.length := by have := HJ.out; omega
          have HS5 : Aside0 (X.Lies w0 wr (.rdisk p n (Pure.apTo l d (i + 1)) :: L)) := ⟨by
            have h := HS.out
            rw [show Pure.wrTo l i t.f1 (Pure.apTo l d i) t.f1.length = Pure.apTo l d (i + 1) from by rw [Pure.apTo]; simp only [HT.out]] at h
            exact h⟩
          clear HS HJ hk hrg hC1
          go_wp2_with fail
          go_roundg ko
          case measure => omega
          case rel => exact ⟨i + 1, by rw [Pure.sucw i (by have := HLT.out; have := HLL.out; omega)]; rfl, ⟨by have := HK.out; omega⟩, HS5⟩
    · have q3 : decide ((i : Int) < (l.length : Int)) = false := decide_eq_false (by omega)
      have q33 : decide (i < l.length) = false := decide_eq_false hlt
      obtain rfl : i = l.length := by have := HK.out; omega
      clear HK hlt
      go_wp2_with fail
      go_end0
      exact ⟨rfl, HS.out⟩
end Go.Proofs.Ytlbfpjhnpnbikaa.U
end
