/- Ux16: what this claim uses. Laid by slim.py (ours). -/
import Derived.Test.YtlbfpjhnpnbikaaKUx0
import Derived.Test.YtlbfpjhnpnbikaaKUx4
import Derived.Test.YtlbfpjhnpnbikaaKUx6
import Derived.Test.YtlbfpjhnpnbikaaKUx15
namespace Go.Proofs.Ytlbfpjhnpnbikaa.U
open Go.RowKit Go.Proofs.YtlbfpjhnpnbikaaW.PrintWords Go.Proofs.YtlbfpjhnpnbikaaW.PrintLast Go.Proofs.YtlbfpjhnpnbikaaW.PrintMore
attribute [local go_sem] max2_int min2_int max_two min_two max_three min_three max_four min_four
set_option linter.unusedVariables false
set_option linter.unusedSimpArgs false
def bytes_HasPrefix.f (l0 : List Int) (l1 : List Int) : Option (Bool) := if (l0.length : Int) ≥ (l1.length : Int) then (if 0 ≤ (l1.length : Int) then (if (l1.length : Int) ≤ (l0.length : Int) then ((bytes_Equal.f (l0.take ((l1.length : Int) : Int).toNat) l1).bind fun t111 => (some t111)) else (none)) else (none)) else (some false)
set_option maxHeartbeats 8000000 in
set_option maxRecDepth 100000 in
theorem bytes_HasPrefix.calls (A0 : Option Addr) (c0 : Nat) (l0 : List Int) (A1 : Option Addr) (c1 : Nat) (l1 : List Int) (r : Bool) (w : World) (hr0 : Kd.C (Kd.int .u8) w A0 l0.length l0) (hc0 : l0.length ≤ c0) (hr1 : Kd.C (Kd.int .u8) w A1 l1.length l1) (hc1 : l1.length ≤ c1) (h : bytes_HasPrefix.f l0 l1 = some r) :
    Calls Try.prog 70 #[.slice A0 l0.length c0, .slice A1 l1.length c1] w fun e w' => e = .returned (.bool r) ∧ Drawn0 w w' := by
  have HR0 := Aside0.mk hr0
  have HC0 := Aside0.mk hc0
  have HR1 := Aside0.mk hr1
  have HC1 := Aside0.mk hc1
  clear hr0 hc0 hr1 hc1
  unfold bytes_HasPrefix.f at h
  by_cases c3 : (l1.length : Int) ≤ (l0.length : Int)
  · have c3b0 : decide ((l1.length : Int) ≤ (l0.length : Int)) = true := decide_eq_true c3
    have c3b1 : decide (l1.length ≤ l0.length) = true := decide_eq_true (by omega)
    rw [if_pos (show (l0.length : Int) ≥ (l1.length : Int) from c3), if_pos (Int.natCast_nonneg _), if_pos c3] at h
    have e4 : (List.take ((l1.length : Int)).toNat l0).length = l1.length := by rw [List.length_take, Int.toNat_natCast]; omega
    obtain ⟨i07, hi07, _, hsz7, _⟩ := info_parts info5
    obtain ⟨hcut7, hA7, hC7⟩ := print_take_of (P := Try.prog) (Value.int .u8) 0 22 5 .i64 Try.underlying22 hi07 hsz7 A0 c0 l0 (l1.length : Int) (Int.natCast_nonneg _) c3 HC0.out
    have HR110 := Aside0.mk (Kd.C_of_reads (h1 := fun _ => rfl) (hA7 _ (Kd.reads_of_C HR0.out)))
    have HC110 := Aside0.mk hC7
    obtain ⟨t111, ht, h⟩ := Option.bind_eq_some_iff.1 h
    have h' := Option.some.inj h
    subst h'
    have HQ := Aside0.mk (bytes_Equal.calls A0 c0 (List.take ((l1.length : Int)).toNat l0) A1 c1 l1 t111 w HR110.out HC110.out HR1.out HC1.out ht)
    clear hA7 hC7 hi07 hsz7 ht h HR110 HC110 c3
    rw [e4] at hcut7 HQ
    clear e4
    go_enter Try.func70, Try.ntmps70
    go_wp2_with fail
    refine HQ.out.mono ?_
    rintro e w' ⟨rfl, ⟨nd, rfl⟩⟩
    go_wp2
    go_ret
    exact ⟨rfl, by repeat (first | exact Drawn0.refl _ | apply Drawn0.step)⟩
  · have c3b0 : decide ((l1.length : Int) ≤ (l0.length : Int)) = false := decide_eq_false c3
    have c3b1 : decide (l1.length ≤ l0.length) = false := decide_eq_false (by omega)
    rw [if_neg (show ¬ (l0.length : Int) ≥ (l1.length : Int) from c3)] at h
    obtain rfl := Option.some.inj h
    clear c3 h
    go_enter Try.func70, Try.ntmps70
    go_wp2
    go_ret
    exact ⟨rfl, Drawn0.refl _⟩
def fill252 (p : List Int) : List Int := p ++ List.replicate (252 - p.length) 0
def sealL (p : List Int) : List Int := fill252 p ++ pbN (X.crcMore 0 (fill252 p)) 4
theorem fill252_length {p : List Int} (h : p.length ≤ 252) : (fill252 p).length = 252 := by
  unfold fill252
  rw [List.length_append, List.length_replicate]
  omega
theorem sealL_length {p : List Int} (h : p.length ≤ 252) : (sealL p).length = 256 := by
  unfold sealL
  rw [List.length_append, fill252_length h, pbN_length]
theorem fill252_padded {p : List Int} (h : p.length ≤ 252) : padded (fill252 p) = padded p := by
  unfold padded
  rw [fill252_length h]
  unfold fill252
  rw [List.append_assoc, List.replicate_append_replicate, show 252 - p.length + (256 - 252) = 256 - p.length from by omega]
theorem fill252_take {p : List Int} (h : p.length ≤ 252) : (padded p).take 252 = fill252 p := by
  rw [← fill252_padded h]
  unfold padded
  rw [List.take_append_of_le_length (by rw [fill252_length h]; exact Nat.le_refl _), List.take_of_length_le (by rw [fill252_length h]; exact Nat.le_refl _)]
theorem zeros_u8 (n : Nat) : X.u8all (List.replicate n 0) = true := X.u8all_iff.2 (fun c hc => by rw [(List.mem_replicate.1 hc).2]; decide)
theorem fill252_u8 {p : List Int} (h : X.u8all p = true) : X.u8all (fill252 p) = true := X.u8all_append.2 ⟨h, zeros_u8 _⟩
theorem sealL_u8 {p : List Int} (h : X.u8all p = true) : X.u8all (sealL p) = true := X.u8all_append.2 ⟨fill252_u8 h, pbN_u8 _ _⟩
set_option maxHeartbeats 4000000 in
set_option maxRecDepth 100000 in
theorem record_seal.calls (w0 : World) (g gb cap : Nat) (p : List Int) (w : World) (hp : PageP w0 w g gb cap p) (hle : p.length ≤ 252) (hu : X.u8all p = true) :
    Calls Try.prog 71 #[.pointer (some ⟨g, 0, none⟩)] w fun e w' => e = .returned (.slice (some ⟨gb, 0, none⟩) 256 cap) ∧ Kd.R (Kd.int .u8) 5 w' w0.heap.size (fun k => k = gb) (.slice (some ⟨gb, 0, none⟩) 256 cap) (sealL p) ∧ Below w0.heap.size w0 w' := by
  have HP := Aside0.mk hp.pg
  have hq := fill252_length hle
  have HQ := Aside0.mk hq
  have HU := Aside0.mk (fill252_u8 hu)
  have hpad := fill252_padded hle
  have htk := fill252_take hle
  have HPD := Aside0.mk hpad
  have HTK := Aside0.mk htk
  have HSL : Aside0 (sealL p = fill252 p ++ pbN (X.crcMore 0 (fill252 p)) 4) := ⟨rfl⟩
  generalize sealL p = sl at *
  generalize fill252 p = q at *
  clear hp hq hpad htk hle hu
  have hrg := X.crcMore_range 0 q
  obtain ⟨sm, hsm⟩ : ∃ sm, sm = X.crcMore 0 q := ⟨_, rfl⟩
  have HSM := Aside0.mk hsm
  rw [← hsm] at hrg
  obtain ⟨hs0, hs1⟩ := hrg
  clear hsm
  have c0 := HP.out.box.cell 0 _ rfl
  have f1 := HP.out.box.free 1
  have c1 := HP.out.box.cell 1 _ rfl
  have HPA : Aside0 (PageP w0 (w.setCell ⟨g, 1, none⟩ (.int .i64 252)) g gb cap q) := ⟨by rw [HQ.out]; decide, by
    have h1 := HP.out.at_ 252
    rw [← HPD.out] at h1
    rw [HQ.out]
    exact h1⟩
  have hcap := (Kd.R_reads' HP.out.row).2.1
  have HCP : Aside0 (Kd.C (Kd.int .u8) (w.setCell ⟨g, 1, none⟩ (.int .i64 252)) (some ⟨gb, 0, none⟩) 256 (padded q)) := ⟨by
    have := (Kd.R_reads' HPA.out.pg.row).2.2
    rw [HPA.out.pg.len] at this
    exact this⟩
  have hc0' := HPA.out.pg.box.cell 0 _ rfl
  clear HP
  go_enter Try.func71, Try.ntmps71
  go_wp2_with fail
  have HCQ : Aside0 (Kd.C (Kd.int .u8) (w.setCell ⟨g, 1, none⟩ (.int .i64 252)) (some ⟨gb, 0, none⟩) 252 q) := ⟨by
    obtain ⟨i0, hi0, _, hsz, _⟩ := info_parts info5
    have hpl : (padded q).length = 256 := HPA.out.pg.len
    have hC := HCP.out
    rw [← hpl] at hC
    obtain ⟨_, hA, _⟩ := print_take_of (P := Try.prog) (Value.int .u8) 0 22 5 .i64 Try.underlying22 hi0 hsz (some ⟨gb, 0, none⟩) cap (padded q) (252 : Int) (by decide) (by rw [hpl]; decide) (by rw [hpl]; exact hcap)
    have h2 := Kd.C_of_reads (h1 := fun _ => rfl) (hA _ (Kd.reads_of_C hC))
    have e1 : List.take (Int.toNat 252) (padded q) = q := by
      rw [HPD.out]
      exact HTK.out
    rw [e1, HQ.out] at h2
    exact h2⟩
  clear HCP c0 c1 f1 hc0'
  have hsum := crc_Sum.calls (some ⟨gb, 0, none⟩) cap q sm (w.setCell ⟨g, 1, none⟩ (.int .i64 252)) (by rw [HQ.out]; exact HCQ.out) (by rw [HQ.out]; omega) (by unfold crc_Sum.f crc_More.f; rw [if_pos HU.out, HSM.out]; rfl)
  rw [HQ.out] at hsum
  refine hsum.mono ?_
  rintro e w2 ⟨rfl, hd⟩
  have HP2 := Aside0.mk (HPA.out.step hd)
  clear hd HPA HCQ hsum
  go_wp2_with fail
  refine (record_put.calls w0 g gb cap q 4 sm _ HP2.out (by rw [HQ.out]; decide) (by rw [HQ.out]; decide) (by decide)).mono ?_
  rintro e w3 ⟨rfl, h3⟩
  have HP3 := Aside0.mk h3
  clear h3 HP2
  have c0 := HP3.out.pg.box.cell 0 _ rfl
  go_wp2
  go_ret
  refine ⟨rfl, ?_, HP3.out.pg.below⟩
  have h1 := HP3.out.pg.row
  have e1 : padded (q ++ pbN sm 4) = sl := by
    rw [HSL.out, ← HSM.out]
    unfold padded
    rw [List.length_append, HQ.out, pbN_length]
    exact List.append_nil _
  rw [e1] at h1
  exact h1
end Go.Proofs.Ytlbfpjhnpnbikaa.U
