/- Ux17: what this claim uses. Laid by slim.py (ours). -/
import Derived.Test.YtlbfpjhnpnbikaaKUx0
import Derived.Test.YtlbfpjhnpnbikaaKUx6
import Derived.Test.YtlbfpjhnpnbikaaKUx14
import Derived.Test.YtlbfpjhnpnbikaaKUx15
import Derived.Test.YtlbfpjhnpnbikaaKUx16
import Derived.Test.YtlbfpjhnpnbikaaKUx23
namespace Go.Proofs.Ytlbfpjhnpnbikaa.U
open Go.RowKit Go.Proofs.YtlbfpjhnpnbikaaW.PrintWords Go.Proofs.YtlbfpjhnpnbikaaW.PrintLast Go.Proofs.YtlbfpjhnpnbikaaW.PrintMore
attribute [local go_sem] max2_int min2_int max_two min_two max_three min_three max_four min_four
set_option linter.unusedVariables false
set_option linter.unusedSimpArgs false
def markL : List Int := [85, 76, 79, 71]
def marked (d : List Int) : Bool := (strOfNums (d.take 4)).toList == (strOfNums markL).toList
theorem hasPrefix_f (d : List Int) (h : 4 ≤ d.length) : bytes_HasPrefix.f d markL = some (marked d) := by
  unfold bytes_HasPrefix.f
  have e : (markL.length : Int) = 4 := rfl
  rw [e, if_pos (by omega), if_pos (by decide), if_pos (by omega)]
  rfl
def slotN (x : S66) : Int := if marked x.f1 = true then x.f0 + 2147483648 else x.f0
def slotsL (ws : List S66) : List Int := (ws.map fun x => pbN (slotN x) 4).flatten
def revsL (rs : List Int) : List Int := (rs.map fun b => pbN b 4).flatten
def startL (seq : Int) (n m : Nat) : List Int := headL 1 seq ++ pbN (n : Int) 2 ++ pbN (m : Int) 2
def descL (seq : Int) (ws : List S66) (rs : List Int) : List Int := startL seq ws.length rs.length ++ slotsL ws ++ revsL rs
def dataL (d : List Int) : List Int := if marked d = true then [0, 0, 0, 0] ++ d.drop 4 else d
def datasL (ws : List S66) : List Int := (ws.map fun x => dataL x.f1).flatten
def bodyL (seq : Int) (ws : List S66) (rs : List Int) : List Int := sealL (descL seq ws rs) ++ datasL ws
def commitL (seq : Int) (body : List Int) : List Int := headL 2 seq ++ pbN (X.crcMore 0 body) 4
def encL (seq : Int) (ws : List S66) (rs : List Int) : List Int := bodyL seq ws rs ++ sealL (commitL seq (bodyL seq ws rs))
def wfData (ws : List S66) : Bool := ws.all fun x => X.u8all x.f1
def record_Encode.f (a0 : Int) (l1 : List S66) (l2 : List Int) : Option (List Int × Int) := (record_may.f a0 l1 l2).bind fun b => if b = true then (if wfData l1 = true then some (encL a0 l1 l2, 0) else none) else some ([], 17)
theorem slotsL_length (ws : List S66) : (slotsL ws).length = 4 * ws.length := by
  unfold slotsL
  induction ws with
  | nil => rfl
  | cons x ws ih => rw [List.map_cons, List.flatten_cons, List.length_append, ih, pbN_length, List.length_cons]; omega
theorem revsL_length (rs : List Int) : (revsL rs).length = 4 * rs.length := by
  unfold revsL
  induction rs with
  | nil => rfl
  | cons x ws ih => rw [List.map_cons, List.flatten_cons, List.length_append, ih, pbN_length, List.length_cons]; omega
theorem slotsL_snoc (ws : List S66) (i : Nat) (h : i < ws.length) : slotsL (ws.take (i + 1)) = slotsL (ws.take i) ++ pbN (slotN (ws.getD i z66)) 4 := by
  unfold slotsL
  rw [List.take_succ_eq_append_getElem h, List.map_append, List.flatten_append, List.getD_eq_getElem?_getD, List.getElem?_eq_getElem h]
  simp
theorem revsL_snoc (rs : List Int) (i : Nat) (h : i < rs.length) : revsL (rs.take (i + 1)) = revsL (rs.take i) ++ pbN (rs.getD i 0) 4 := by
  unfold revsL
  rw [List.take_succ_eq_append_getElem h, List.map_append, List.flatten_append, List.getD_eq_getElem?_getD, List.getElem?_eq_getElem h]
  simp
theorem datasL_snoc (ws : List S66) (i : Nat) (h : i < ws.length) : datasL (ws.take (i + 1)) = datasL (ws.take i) ++ dataL (ws.getD i z66).f1 := by
  unfold datasL
  rw [List.take_succ_eq_append_getElem h, List.map_append, List.flatten_append, List.getD_eq_getElem?_getD, List.getElem?_eq_getElem h]
  simp
theorem startL_length (seq : Int) (n m : Nat) : (startL seq n m).length = 20 := by
  unfold startL
  rw [List.length_append, List.length_append, headL_length, pbN_length, pbN_length]
theorem headL_u8 (kind seq : Int) : X.u8all (headL kind seq) = true := X.u8all_append.2 ⟨X.u8all_append.2 ⟨by decide, pbN_u8 _ _⟩, pbN_u8 _ _⟩
theorem startL_u8 (seq : Int) (n m : Nat) : X.u8all (startL seq n m) = true := X.u8all_append.2 ⟨X.u8all_append.2 ⟨headL_u8 _ _, pbN_u8 _ _⟩, pbN_u8 _ _⟩
theorem flat_u8 {α : Type} (l : List α) (f : α → List Int) (h : ∀ x ∈ l, X.u8all (f x) = true) : X.u8all (l.map f).flatten = true := by
  induction l with
  | nil => rfl
  | cons x l ih => rw [List.map_cons, List.flatten_cons]; exact X.u8all_append.2 ⟨h x List.mem_cons_self, ih (fun y hy => h y (List.mem_cons_of_mem _ hy))⟩
theorem descL_u8 (seq : Int) (ws : List S66) (rs : List Int) : X.u8all (descL seq ws rs) = true := X.u8all_append.2 ⟨X.u8all_append.2 ⟨startL_u8 _ _ _, flat_u8 _ _ (fun _ _ => pbN_u8 _ _)⟩, flat_u8 _ _ (fun _ _ => pbN_u8 _ _)⟩
theorem dataL_u8 {d : List Int} (h : X.u8all d = true) : X.u8all (dataL d) = true := by
  unfold dataL
  split
  · exact X.u8all_append.2 ⟨by decide, X.u8all_drop h 4⟩
  · exact h
theorem bodyL_u8 {seq : Int} {ws : List S66} {rs : List Int} (h : wfData ws = true) : X.u8all (bodyL seq ws rs) = true := X.u8all_append.2 ⟨sealL_u8 (descL_u8 _ _ _), flat_u8 _ _ (fun x hx => dataL_u8 (List.all_eq_true.1 h x hx))⟩
theorem dataL_length {d : List Int} (h : d.length = 256) : (dataL d).length = 256 := by
  unfold dataL
  split
  · rw [List.length_append, List.length_drop, h]; rfl
  · exact h
theorem or_mask {x : Int} (h0 : 0 ≤ x) (h1 : x < 1048576) : Go.bits .or .u64 x 2147483648 = x + 2147483648 := by
  obtain ⟨n, rfl⟩ := Int.eq_ofNat_of_zero_le h0
  show IntKind.u64.wrap (((BitVec.ofInt 64 (n : Int)) ||| (BitVec.ofInt 64 2147483648)).toNat : Int) = _
  have hn : n < 1048576 := by omega
  have e : ((BitVec.ofInt 64 (n : Int)) ||| (BitVec.ofInt 64 2147483648)).toNat = n + 2147483648 := by
    rw [BitVec.ofInt_natCast, BitVec.toNat_or, BitVec.toNat_ofNat, Nat.mod_eq_of_lt (by omega)]
    have h2 : (BitVec.ofInt 64 2147483648).toNat = 2 ^ 31 := by decide
    have h3 := Nat.two_pow_add_eq_or_of_lt (i := 31) (b := n) (by omega) 1
    rw [Nat.mul_one] at h3
    rw [h2, Nat.or_comm, ← h3, Nat.add_comm]
  rw [e, IntKind.wrap_u64]
  omega
theorem grown_new {wr w3 : World} {g n c : Nat} {cs : Array Value} {t : TypeId} (hg : (wr.alloc (.cells cs t (0, 0))).grownBy w3 (Value.slice (some ⟨g, 0, none⟩) n c).ownBlock) (hlt : g < wr.heap.size) : X.Blk w3 wr.heap.size cs t :=
  (hg.block wr.heap.size (by simp) (by intro e; have e' : some wr.heap.size = some g := e; injection e' with e'; omega)).trans (X.Blk.new wr cs t)
set_option maxHeartbeats 8000000 in
set_option maxRecDepth 100000 in
theorem record_Encode.calls (a0_0 : Int) (A0_1 : Option Addr) (c0_1 : Nat) (l0_1 : List S66) (A0_2 : Option Addr) (c0_2 : Nat) (l0_2 : List Int) (r1 : List Int) (r2 : Int) (w : World) (hr0_1 : Kd.C k66 w A0_1 l0_1.length l0_1) (hc0_1 : l0_1.length ≤ c0_1) (hr0_2 : Kd.C (Kd.int .i64) w A0_2 l0_2.length l0_2) (hc0_2 : l0_2.length ≤ c0_2) (h : record_Encode.f a0_0 l0_1 l0_2 = some (r1, r2)) :
    Calls Try.prog 51 #[.agg #[.int .u64 a0_0, .slice A0_1 l0_1.length c0_1, .slice A0_2 l0_2.length c0_2]] w fun e w' => ∃ v0_ : Value, e = .returned (.tuple #[v0_, .int .i64 r2]) ∧ Kd.R (Kd.int .u8) 5 w' w.heap.size (fun _ => True) v0_ r1 ∧ Below w.heap.size w w' := by
  unfold record_Encode.f at h
  replace h := Option.bind_eq_some_iff.1 h
  obtain ⟨b, hb, h⟩ := h
  have HMF := Aside0.mk hb
  have HF := Aside0.mk h
  have HR1 := Aside0.mk hr0_1
  have HR2 := Aside0.mk hr0_2
  have HC1 := Aside0.mk hc0_1
  have HC2 := Aside0.mk hc0_2
  clear h hb hr0_1 hr0_2 hc0_1 hc0_2
  have hu26 := Try.underlying60
  have hu43 := Try.underlying66
  have HB0 := Aside0.mk ((Below.refl w.heap.size w).alloc (Nat.le_refl _) (.cells #[.int .u64 a0_0, .slice A0_1 l0_1.length c0_1, .slice A0_2 l0_2.length c0_2] 60 (0, 0)))
  have HX0 := Aside0.mk (X.Blk.new w #[.int .u64 a0_0, .slice A0_1 l0_1.length c0_1, .slice A0_2 l0_2.length c0_2] 60)
  go_enter Try.func51, Try.ntmps51
  go_wp2_with fail
  refine (record_may.calls a0_0 A0_1 c0_1 l0_1 A0_2 c0_2 l0_2 b _ (Kd.C_below HR1.out HB0.out) HC1.out (Kd.C_below HR2.out HB0.out) HC2.out HMF.out).mono ?_
  rintro e w1 ⟨rfl, hd⟩
  have HB1 := Aside0.mk (HB0.out.trans (hd.mono (by simp)))
  have HX1 := Aside0.mk (HX0.out.below hd (by simp))
  clear hd HB0 HX0
  cases b with
  | false =>
    have hf := HF.out
    rw [if_neg (by decide)] at hf
    obtain ⟨rfl, rfl⟩ : [] = r1 ∧ 17 = r2 := by simpa using hf
    clear hf HF
    go_wp2
    go_ret2
    exact ⟨_, rfl, Kd.R_nil _ _ _ _ _, HB1.out⟩
  | true =>
    have hf := HF.out
    rw [if_pos rfl] at hf
    by_cases hwd : wfData l0_1 = true
    rotate_left
    · rw [if_neg hwd] at hf
      cases hf
    rw [if_pos hwd] at hf
    obtain ⟨rfl, rfl⟩ : encL a0_0 l0_1 l0_2 = r1 ∧ 0 = r2 := by simpa using hf
    have HWD := Aside0.mk hwd
    have hmf := HMF.out
    unfold record_may.f at hmf
    have hcnd : wfSlots l0_1 l0_2 = true ∧ l0_1.length ≤ 9007199254740992 ∧ l0_2.length ≤ 9007199254740992 := by
      by_cases h : wfSlots l0_1 l0_2 = true ∧ l0_1.length ≤ 9007199254740992 ∧ l0_2.length ≤ 9007199254740992
      · exact h
      · rw [if_neg h] at hmf
        cases hmf
    rw [if_pos hcnd] at hmf
    obtain ⟨hcount, hdl, hbl, -⟩ := (mayB_iff l0_1 l0_2).1 (Option.some.inj hmf)
    obtain ⟨hn1, hn2⟩ := hcount
    have HDL := Aside0.mk hdl
    have HBL := Aside0.mk hbl
    clear hf HF HMF hmf hcnd hwd hdl hbl
    have hL0 := HX1.out.cell 0 _ rfl
    have hL1 := HX1.out.cell 1 _ rfl
    have hL2 := HX1.out.cell 2 _ rfl
    go_wp2_with fail
    refine (record_newPage.calls 1 a0_0 _ (by decide) (by decide)).mono ?_
    rintro e w2 ⟨g, gb, cap, rfl, hpg⟩
    have HP2 := Aside0.mk hpg
    clear hpg
    have HX2 := Aside0.mk (HX1.out.below HP2.out.pg.below HX1.out.lt)
    clear hL0 hL1 hL2
    have hL1 := HX2.out.cell 1 _ rfl
    have hs1 : IntKind.u64.wrap (l0_1.length : Int) = (l0_1.length : Int) := by rw [IntKind.wrap_u64]; omega
    have hs2 : IntKind.u64.wrap (l0_2.length : Int) = (l0_2.length : Int) := by rw [IntKind.wrap_u64]; omega
    go_wp2_with fail
    refine (record_put.calls w1 g gb cap (headL 1 a0_0) 2 (l0_1.length : Int) _ HP2.out (by rw [headL_length]; decide) (by rw [headL_length]; decide) (by decide)).mono ?_
    rintro e w3 ⟨rfl, hpg⟩
    have HP3 := Aside0.mk hpg
    have HX3 := Aside0.mk (HX1.out.below hpg.pg.below HX1.out.lt)
    clear hpg HP2 HX2 hL1 hs1
    have hL2 := HX3.out.cell 2 _ rfl
    go_wp2_with fail
    refine (record_put.calls w1 g gb cap (headL 1 a0_0 ++ pbN (l0_1.length : Int) 2) 2 (l0_2.length : Int) _ HP3.out (by rw [List.length_append, headL_length, pbN_length]; decide) (by rw [List.length_append, headL_length, pbN_length]; decide) (by decide)).mono ?_
    rintro e w4 ⟨rfl, hpg⟩
    have HP4 : Aside0 (PageP w1 w4 g gb cap (startL a0_0 l0_1.length l0_2.length)) := ⟨hpg⟩
    have HX4 := Aside0.mk (HX1.out.below hpg.pg.below HX1.out.lt)
    clear hpg HP3 HX3 hL2 hs2
    have hL1 := HX4.out.cell 1 _ rfl
    go_wp2_with fail
    clear hL1 HX4
    obtain ⟨S, hS⟩ : ∃ S, S = startL a0_0 l0_1.length l0_2.length := ⟨_, rfl⟩
    have HS := Aside0.mk hS
    have HSL : Aside0 (S.length = 20) := ⟨by rw [hS, startL_length]⟩
    rw [← hS] at HP4
    clear hS
    go_loopg [36] l0_1.length (fun kq v36 w' => ∃ i : Nat, v36 = .int .i64 (i : Int) ∧ Aside0 (kq + i = l0_1.length) ∧ Aside0 (PageP w1 w' g gb cap (S ++ slotsL (l0_1.take i))))
    case atStart => exact ⟨0, rfl, ⟨by omega⟩, ⟨by simpa [slotsL] using HP4.out⟩⟩
    case round =>
      clear HP4
      obtain ⟨i, rfl, HK, HP⟩ := hrel
      have hi : i ≤ l0_1.length := by have := HK.out; omega
      have HB := Aside0.mk (HB1.out.trans (HP.out.pg.below.mono HB1.out.size))
      by_cases hlt : i < l0_1.length
      · have hx := slots3_low l0_1 l0_2 i hlt
        have hd256 := HDL.out i hlt
        have hxr := HBL.out ((slots3 l0_1 l0_2).getD i 0) (by
          have hl := slots3_length l0_1 l0_2
          rw [List.getD_eq_getElem?_getD, List.getElem?_eq_getElem (by omega)]
          exact List.getElem_mem _)
        rw [hx] at hxr
        have HC := Kd.C_below HR1.out HB.out
        obtain ⟨ad, A1, c1, e, hf0, hf1, hcl, hdat⟩ := at_T66 HC (i : Int) (by omega) (by omega)
        subst e
        have hrd : rd_T66 l0_1 (i : Int) = l0_1.getD i z66 := by unfold rd_T66; rw [Int.toNat_natCast]
        rw [hrd] at hf0 hf1 hcl hdat
        rw [Int.toNat_natCast] at hf0 hf1
        have HSN := Aside0.mk (slotsL_snoc l0_1 i hlt)
        have HSV : Aside0 (slotN (l0_1.getD i z66) = if marked (l0_1.getD i z66).f1 = true then (l0_1.getD i z66).f0 + 2147483648 else (l0_1.getD i z66).f0) := ⟨rfl⟩
        generalize slotN (l0_1.getD i z66) = sn at *
        generalize (l0_1.getD i z66).f0 = x at *
        generalize (l0_1.getD i z66).f1 = d at *
        rw [hd256] at hf1 hcl hdat
        have HDA := Aside0.mk hdat
        have HD6 := Aside0.mk hd256
        obtain ⟨hx0, hx1⟩ := hxr
        have ho := or_mask hx0 hx1
        have hsu : IntKind.u64.wrap x = x := by rw [IntKind.wrap_u64]; omega
        clear hx hd256 HC hrd hdat
        have q0 : decide ((i : Int) < (l0_1.length : Int)) = true := decide_eq_true (by omega)
        have q00 : decide (i < l0_1.length) = true := decide_eq_true hlt
        have kc : (convert 22 22 (.slice (some ⟨wr.heap.size + 1, 0, none⟩) 4 4)).run Try.prog ((wr.alloc (.cells #[.int .i64 x, .slice A1 256 c1] 66 (0, 0))).alloc (.cells #[.int .u8 85, .int .u8 76, .int .u8 79, .int .u8 71] 5 (0, 0))) = .ok (.slice (some ⟨wr.heap.size + 1, 0, none⟩) 4 4) ((wr.alloc (.cells #[.int .i64 x, .slice A1 256 c1] 66 (0, 0))).alloc (.cells #[.int .u8 85, .int .u8 76, .int .u8 79, .int .u8 71] 5 (4, 5))) := by
          have := Lib.run_convert_bytes_const (P := Try.prog) (wr.alloc (.cells #[.int .i64 x, .slice A1 256 c1] 66 (0, 0))) 22 5 #[.int .u8 85, .int .u8 76, .int .u8 79, .int .u8 71] 4 4 Try.underlying22 Try.underlying5
          rw [show (wr.alloc (.cells #[.int .i64 x, .slice A1 256 c1] 66 (0, 0))).heap.size = wr.heap.size + 1 from by simp] at this
          exact this
        obtain ⟨W, hW⟩ : ∃ W : World, W = (wr.alloc (.cells #[.int .i64 x, .slice A1 256 c1] 66 (0, 0))).alloc (.cells #[.int .u8 85, .int .u8 76, .int .u8 79, .int .u8 71] 5 (4, 5)) := ⟨_, rfl⟩
        have HBW : Aside0 (Below wr.heap.size wr W) := ⟨by rw [hW]; exact ((Below.refl _ _).alloc (Nat.le_refl _) _).alloc (by simp) _⟩
        have HMK : Aside0 (Kd.C (Kd.int .u8) W (some ⟨wr.heap.size + 1, 0, none⟩) 4 markL) := ⟨by
          have := X.C_new (w := wr.alloc (.cells #[.int .i64 x, .slice A1 256 c1] 66 (0, 0))) (cs := #[.int .u8 85, .int .u8 76, .int .u8 79, .int .u8 71]) (t := 5) (fr := (4, 5)) (k := .u8) (xs := markL) rfl (by decide)
          rw [show (wr.alloc (.cells #[.int .i64 x, .slice A1 256 c1] 66 (0, 0))).heap.size = wr.heap.size + 1 from by simp, ← hW] at this
          exact this⟩
        have HWB : Aside0 (X.Blk W wr.heap.size #[.int .i64 x, .slice A1 256 c1] 66) := ⟨by rw [hW]; exact (X.Blk.new wr _ _).below ((Below.refl _ _).alloc (Nat.le_refl _) _) (by simp)⟩
        rw [← hW] at kc
        clear hW
        obtain ⟨mk, hmk⟩ : ∃ mk, mk = marked d := ⟨_, rfl⟩
        have HHP := bytes_HasPrefix.calls A1 c1 d (some ⟨wr.heap.size + 1, 0, none⟩) 4 markL mk W (by rw [HD6.out]; exact Kd.C_below HDA.out HBW.out) (by rw [HD6.out]; exact hcl) HMK.out (by decide) (by rw [hmk]; exact hasPrefix_f d (by rw [HD6.out]; decide))
        rw [HD6.out] at HHP
        have HHQ := Aside0.mk HHP
        rw [← hmk] at HSV
        clear HHP hmk
        go_wp2_with fail
        refine HHQ.out.mono ?_
        rintro e w5 ⟨rfl, hd⟩
        have HP5 := Aside0.mk ((HP.out.step HBW.out).step hd.below)
        clear hd HHQ kc hf0 hf1 HWB HBW
        cases mk with
        | true =>
          have hs3 : 0 ≤ x + 2147483648 := by omega
          have e0 : sn = x + 2147483648 := HSV.out
          subst e0
          go_wp2_with fail
          have hlen : (S ++ slotsL (l0_1.take i)).length = 20 + 4 * i := by rw [List.length_append, HSL.out, slotsL_length, List.length_take]; omega
          refine (record_put.calls w1 g gb cap (S ++ slotsL (l0_1.take i)) 4 _ _ HP5.out (by rw [hlen]; omega) (by rw [hlen]; omega) (by decide)).mono ?_
          rintro e w6 ⟨rfl, hpg⟩
          have HP6 := Aside0.mk hpg
          clear hpg HP5 hlen
          go_wp2
          cases gk with
          | zero => exact absurd HK.out (by omega)
          | succ k1 =>
          go_roundg k1
          case measure => omega
          case rel =>
            refine ⟨i + 1, by go_num, ⟨by have := HK.out; omega⟩, ⟨?_⟩⟩
            rw [HSN.out, ← List.append_assoc]
            exact HP6.out
        | false =>
          have e0 : sn = x := HSV.out
          subst e0
          go_wp2_with fail
          have hlen : (S ++ slotsL (l0_1.take i)).length = 20 + 4 * i := by rw [List.length_append, HSL.out, slotsL_length, List.length_take]; omega
          refine (record_put.calls w1 g gb cap (S ++ slotsL (l0_1.take i)) 4 _ _ HP5.out (by rw [hlen]; omega) (by rw [hlen]; omega) (by decide)).mono ?_
          rintro e w6 ⟨rfl, hpg⟩
          have HP6 := Aside0.mk hpg
          clear hpg HP5 hlen
          go_wp2
          cases gk with
          | zero => exact absurd HK.out (by omega)
          | succ k1 =>
          go_roundg k1
          case measure => omega
          case rel =>
            refine ⟨i + 1, by go_num, ⟨by have := HK.out; omega⟩, ⟨?_⟩⟩
            rw [HSN.out, ← List.append_assoc]
            exact HP6.out
      · have hie : i = l0_1.length := by omega
        subst hie
        rw [List.take_length] at HP
        clear HK hi hlt
        obtain ⟨S1, hS1⟩ : ∃ S1, S1 = S ++ slotsL l0_1 := ⟨_, rfl⟩
        have HS1 := Aside0.mk hS1
        have HSL1 : Aside0 (S1.length = 20 + 4 * l0_1.length) := ⟨by rw [hS1, List.length_append, HSL.out, slotsL_length]⟩
        rw [← hS1] at HP
        clear hS1
        have HX := Aside0.mk (HX1.out.below HP.out.pg.below HX1.out.lt)
        have hL2 := HX.out.cell 2 _ rfl
        go_wp2_with fail
        clear hL2 HX
        obtain ⟨wo, hwo⟩ : ∃ wo : World, wo = wr := ⟨_, rfl⟩
        subst hwo
        go_loopg [57] l0_2.length (fun kq v57 w' => ∃ i : Nat, v57 = .int .i64 (i : Int) ∧ Aside0 (kq + i = l0_2.length) ∧ Aside0 (PageP w1 w' g gb cap (S1 ++ revsL (l0_2.take i))))
        case atStart => exact ⟨0, rfl, ⟨by omega⟩, ⟨by simpa [revsL] using HP.out⟩⟩
        case round =>
          clear HP HB
          obtain ⟨i, rfl, HK, HP⟩ := hrel
          have hi : i ≤ l0_2.length := by have := HK.out; omega
          have HB := Aside0.mk (HB1.out.trans (HP.out.pg.below.mono HB1.out.size))
          by_cases hlt : i < l0_2.length
          · have hx := slots3_high l0_1 l0_2 (l0_1.length + i) (by omega)
            rw [Nat.add_sub_cancel_left] at hx
            have hxr := HBL.out ((slots3 l0_1 l0_2).getD (l0_1.length + i) 0) (by
              have hl := slots3_length l0_1 l0_2
              rw [List.getD_eq_getElem?_getD, List.getElem?_eq_getElem (by omega)]
              exact List.getElem_mem _)
            rw [hx] at hxr
            have HC := Kd.C_below HR2.out HB.out
            obtain ⟨ad, e, hf0⟩ := Kd.at_int HC (i : Int) (by omega) (by omega)
            subst e
            have hrd : rd l0_2 (i : Int) = l0_2.getD i 0 := by unfold rd; rw [Int.toNat_natCast]
            rw [hrd, Int.toNat_natCast] at hf0
            have HRV := Aside0.mk (revsL_snoc l0_2 i hlt)
            generalize l0_2.getD i 0 = x at *
            obtain ⟨hx0, hx1⟩ := hxr
            have hsu : IntKind.u64.wrap x = x := by rw [IntKind.wrap_u64]; omega
            clear hx HC hrd
            have q0 : decide ((i : Int) < (l0_2.length : Int)) = true := decide_eq_true (by omega)
            have q00 : decide (i < l0_2.length) = true := decide_eq_true hlt
            go_wp2_with fail
            have hlen : (S1 ++ revsL (l0_2.take i)).length = 20 + 4 * (l0_1.length + i) := by rw [List.length_append, HSL1.out, revsL_length, List.length_take]; omega
            refine (record_put.calls w1 g gb cap (S1 ++ revsL (l0_2.take i)) 4 _ _ HP.out (by rw [hlen]; omega) (by rw [hlen]; omega) (by decide)).mono ?_
            rintro e w6 ⟨rfl, hpg⟩
            have HP6 := Aside0.mk hpg
            clear hpg HP hlen
            go_wp2
            cases gk with
            | zero => exact absurd HK.out (by omega)
            | succ k1 =>
            go_roundg k1
            case measure => omega
            case rel =>
              refine ⟨i + 1, by go_num, ⟨by have := HK.out; omega⟩, ⟨?_⟩⟩
              rw [HRV.out, ← List.append_assoc]
              exact HP6.out
          · have hie : i = l0_2.length := by omega
            subst hie
            rw [List.take_length] at HP
            clear HK hi hlt HB
            have HDE : Aside0 (S1 ++ revsL l0_2 = descL a0_0 l0_1 l0_2) := ⟨by rw [HS1.out, HS.out]; rfl⟩
            rw [HDE.out] at HP
            have HDLn : Aside0 ((descL a0_0 l0_1 l0_2).length ≤ 252) := ⟨by rw [← HDE.out, List.length_append, HSL1.out, revsL_length]; omega⟩
            go_wp2_with fail
            refine (record_seal.calls w1 g gb cap (descL a0_0 l0_1 l0_2) _ HP.out HDLn.out (descL_u8 _ _ _)).mono ?_
            rintro e w6 ⟨rfl, hrow, hbw⟩
            obtain ⟨SL, hSLd⟩ : ∃ SL, SL = sealL (descL a0_0 l0_1 l0_2) := ⟨_, rfl⟩
            have HSLD := Aside0.mk hSLd
            have HSLL : Aside0 (SL.length = 256) := ⟨by rw [hSLd]; exact sealL_length HDLn.out⟩
            rw [← hSLd] at hrow
            have HRO := Aside0.mk (Kd.R_mono (ok' := fun _ => True) hrow (fun _ _ => trivial))
            have HB6 := Aside0.mk hbw
            have HX := Aside0.mk (HX1.out.below HB6.out HX1.out.lt)
            have hL1 := HX.out.cell 1 _ rfl
            clear hSLd hrow hbw HP HDE HDLn
            go_wp2_with fail
            clear hL1 HX
            have HDT0 : Aside0 (datasL (l0_1.take 0) = []) := ⟨rfl⟩
            obtain ⟨wo, hwo⟩ : ∃ wo : World, wo = w6 := ⟨_, rfl⟩
            subst hwo
            go_loopg [10, 71] l0_1.length (fun kq v10 v71 w' => ∃ i : Nat, v71 = .int .i64 (i : Int) ∧ Aside0 (kq + i = l0_1.length) ∧ Aside0 (Kd.R (Kd.int .u8) 5 w' w1.heap.size (fun _ => True) v10 (SL ++ datasL (l0_1.take i))) ∧ Aside0 ((datasL (l0_1.take i)).length = 256 * i) ∧ Aside0 (Below w1.heap.size w1 w'))
            case atStart => exact ⟨0, rfl, ⟨by omega⟩, ⟨by rw [HDT0.out, List.append_nil]; exact HRO.out⟩, ⟨by rw [HDT0.out]; rfl⟩, HB6⟩
            case round =>
              clear HRO HB6
              obtain ⟨i, rfl, HK, HRO, HDN, HBW⟩ := hrel
              have hi : i ≤ l0_1.length := by have := HK.out; omega
              have HB := Aside0.mk (HB1.out.trans (HBW.out.mono HB1.out.size))
              obtain ⟨L, hL⟩ : ∃ L, L = 256 * (i + 1) := ⟨_, rfl⟩
              have HLL : Aside0 ((SL ++ datasL (l0_1.take i)).length = L) := ⟨by rw [List.length_append, HSLL.out, HDN.out, hL]; omega⟩
              have hLb : 256 ≤ L ∧ L ≤ 256 * 59 := by omega
              obtain ⟨hLb1, hLb2⟩ := hLb
              have HLV := Aside0.mk hL
              clear hL
              obtain ⟨g0, cap0, rfl, hg0, hg1, -⟩ := Kd.R_form HRO.out (by rw [HLL.out]; omega)
              rw [HLL.out] at HRO ⊢
              by_cases hlt : i < l0_1.length
              · have hd256 := HDL.out i hlt
                have HC := Kd.C_below HR1.out HB.out
                obtain ⟨ad, A1, c1, e, hf0, hf1, hcl, hdat⟩ := at_T66 HC (i : Int) (by omega) (by omega)
                subst e
                have hrd : rd_T66 l0_1 (i : Int) = l0_1.getD i z66 := by unfold rd_T66; rw [Int.toNat_natCast]
                obtain ⟨ad2, A2, c2, e2, -, hfw, -, hdw⟩ := at_T66 HR1.out (i : Int) (by omega) (by omega)
                injection e2 with e2
                subst e2
                have hfe := hf1.symm.trans ((HB.out.cell (p := ⟨(ad.add ((i : Int).toNat * 2)).block, (ad.add ((i : Int).toNat * 2)).off + 1, none⟩) (World.block_lt_of_cell? w _ hfw)).trans hfw)
                injection hfe with hfe
                injection hfe with hfe1 hfe2 hfe3
                subst hfe1
                clear hfw hfe2 hfe3
                rw [hrd] at hdw
                rw [hrd] at hf0 hf1 hcl hdat
                rw [Int.toNat_natCast] at hf0 hf1
                have HSN := Aside0.mk (datasL_snoc l0_1 i hlt)
                generalize (l0_1.getD i z66).f0 = x at *
                generalize (l0_1.getD i z66).f1 = d at *
                rw [hd256] at hf1 hcl hdat hdw
                have HDA := Aside0.mk hdat
                have HD6 := Aside0.mk hd256
                clear hd256 HC hrd hdat
                have q0 : decide ((i : Int) < (l0_1.length : Int)) = true := decide_eq_true (by omega)
                have q00 : decide (i < l0_1.length) = true := decide_eq_true hlt
                obtain ⟨SO, hSO⟩ : ∃ SO, SO = SL ++ datasL (l0_1.take i) := ⟨_, rfl⟩
                rw [← hSO] at HRO HLL
                have HSO := Aside0.mk hSO
                clear hSO
                have HRB := Aside0.mk (Kd.R_alloc HRO.out (.cells #[.int .i64 x, .slice A1 256 c1] 66 (0, 0)))
                have HDB : Aside0 (Kd.C (Kd.int .u8) (wr.alloc (.cells #[.int .i64 x, .slice A1 256 c1] 66 (0, 0))) A1 d.length d) := ⟨by rw [HD6.out]; exact Kd.C_below HDA.out ((Below.refl _ _).alloc (Nat.le_refl _) _)⟩
                have HBB := Aside0.mk (below_alloc HBW.out (.cells #[.int .i64 x, .slice A1 256 c1] 66 (0, 0)))
                have HDW := Aside0.mk hdw
                clear hdw
                have hl3 : (SO ++ d).length = L + 256 := by rw [List.length_append, HLL.out, HD6.out]
                have HL3 := Aside0.mk hl3
                clear hl3
                go_wp2_with ((with_reducible refine gate_builtin (b := .append) (xs := #[.tmp 77, .tmp 79]) rfl ?_); at_builtin; refine Kd.R_append_row (Value.int .u8) (0 : Int) (w0 := w1) w1.heap.size rfl (.tmp 77) (.tmp 79) 22 5 (.int .u8 0) 1 rfl Try.underlying22 info5 rfl (by decide) _ SO d A1 256 c1 (fun _ => True) rfl rfl (fun _ _ => trivial) HRB.out (by have := HDB.out; rw [HD6.out] at this; exact this) HBB.out HBB.out.size (by rw [HLL.out]; omega) ?_; intro v3 w3 ho3 hb3 hg3 hat3; obtain ⟨g3, cap3, ev3, hg3a, hg3b, -⟩ := Kd.R_form ho3 (by rw [HL3.out]; omega); rw [HL3.out] at ev3; subst ev3; have HO3 := Aside0.mk ho3; have HB3 := Aside0.mk hb3; have HBX : Aside0 (X.Blk w3 wr.heap.size #[.int .i64 x, .slice A1 256 c1] 66) := ⟨grown_new hg3 hg1⟩; have HD3 : Aside0 (Kd.C (Kd.int .u8) w3 A1 256 d) := ⟨Kd.C_below HDW.out (HB1.out.trans (hb3.mono HB1.out.size))⟩; clear ho3 hb3 hg3 hat3; have hb1 := HBX.out.cell 1 _ rfl; have kc := Lib.run_convert_bytes_const (P := Try.prog) w3 22 5 #[.int .u8 85, .int .u8 76, .int .u8 79, .int .u8 71] 4 4 Try.underlying22 Try.underlying5)
                obtain ⟨W, hW⟩ : ∃ W : World, W = w3.alloc (.cells #[.int .u8 85, .int .u8 76, .int .u8 79, .int .u8 71] 5 (4, 5)) := ⟨_, rfl⟩
                have HBW2 : Aside0 (Below w3.heap.size w3 W) := ⟨by rw [hW]; exact (Below.refl _ _).alloc (Nat.le_refl _) _⟩
                have HMK : Aside0 (Kd.C (Kd.int .u8) W (some ⟨w3.heap.size, 0, none⟩) 4 markL) := ⟨by
                  have := X.C_new (w := w3) (cs := #[.int .u8 85, .int .u8 76, .int .u8 79, .int .u8 71]) (t := 5) (fr := (4, 5)) (k := .u8) (xs := markL) rfl (by decide)
                  rw [← hW] at this
                  exact this⟩
                have HHP := bytes_HasPrefix.calls A1 c1 d (some ⟨w3.heap.size, 0, none⟩) 4 markL (marked d) W (by rw [HD6.out]; exact Kd.C_below HD3.out HBW2.out) (by rw [HD6.out]; exact hcl) HMK.out (by decide) (hasPrefix_f d (by rw [HD6.out]; decide))
                rw [HD6.out] at HHP
                rw [← hW]
                clear hW kc hb1 HBX hf0 hf1
                refine HHP.mono ?_
                rintro e w5 ⟨rfl, hd⟩
                have HO5 := Aside0.mk (Kd.R_below (Kd.R_below HO3.out HBW2.out) hd.below)
                have HB5 := Aside0.mk ((HB3.out.trans (HBW2.out.mono HB3.out.size)).trans (hd.below.mono (Nat.le_trans HB3.out.size HBW2.out.size)))
                clear hd HHP HMK HBW2 HO3 HB3 HRO HRB HDB HBB HBW HB
                have HDV : Aside0 (dataL d = if marked d = true then [0, 0, 0, 0] ++ d.drop 4 else d) := ⟨rfl⟩
                generalize hmk : marked d = mk at *
                clear hmk
                cases mk with
                | true =>
                  have hcap3 := (Kd.R_reads' HO5.out).2.1
                  have hcz : ¬ cap3 = L := by omega
                  have hz := fun w : World => (show (zeroValue 5).run Try.prog w = .ok (.int .u8 0) w from by kernel_rfl)
                  go_wp2_with ((with_reducible refine gate_builtin (b := .clear) (xs := #[.tmp 90]) rfl ?_); refine X.clear_at (P := Try.prog) .u8 w1.heap.size rfl (.tmp 90) 22 5 rfl Try.underlying22 hz g3 (L + 256) cap3 L (L + 4 - L) _ (SO ++ d) (fun _ => True) rfl HO5.out (by omega) (by omega) HB5.out HB5.out.size ?_; intro w7 hr7 hb7 hg7; rw [show L + 4 - L = 4 from by omega] at hr7; have HO7 := Aside0.mk hr7; have HB7 := Aside0.mk hb7; clear hr7 hb7 hg7)
                  have HLA : Aside0 (X.lay (SO ++ d) L (List.replicate 4 0) = SO ++ dataL d) := ⟨by
                    rw [HDV.out, if_pos trivial]
                    unfold X.lay
                    rw [← HLL.out, List.take_append_of_le_length (Nat.le_refl _), List.take_length, List.length_replicate, List.drop_append, List.drop_of_length_le (by omega), List.nil_append, Nat.add_sub_cancel_left]
                    rfl⟩
                  rw [HLA.out] at HO7
                  cases gk with
                  | zero => exact absurd HK.out (by omega)
                  | succ k1 =>
                  go_roundg k1
                  case measure => omega
                  case rel =>
                    refine ⟨i + 1, by go_num, ⟨by have := HK.out; omega⟩, ⟨?_⟩, ⟨?_⟩, HB7⟩
                    · rw [HSN.out, ← List.append_assoc, ← HSO.out]
                      exact HO7.out
                    · rw [HSN.out, List.length_append, HDN.out, dataL_length HD6.out]
                      omega
                | false =>
                  have e0 : dataL d = d := HDV.out
                  rw [e0] at HSN HDV
                  go_wp2
                  cases gk with
                  | zero => exact absurd HK.out (by omega)
                  | succ k1 =>
                  go_roundg k1
                  case measure => omega
                  case rel =>
                    refine ⟨i + 1, by go_num, ⟨by have := HK.out; omega⟩, ⟨?_⟩, ⟨?_⟩, HB5⟩
                    · rw [HSN.out, ← List.append_assoc, ← HSO.out]
                      exact HO5.out
                    · rw [HSN.out, List.length_append, HDN.out, HD6.out]
                      omega
              · have hie : i = l0_1.length := by omega
                subst hie
                rw [List.take_length] at HRO
                have hlb : (SL ++ datasL l0_1).length = L := by have := HLL.out; rw [List.take_length] at this; exact this
                have HBD : Aside0 (SL ++ datasL l0_1 = bodyL a0_0 l0_1 l0_2) := ⟨by rw [HSLD.out]; rfl⟩
                rw [HBD.out] at hlb HRO
                have HBU := Aside0.mk (bodyL_u8 (seq := a0_0) (rs := l0_2) HWD.out)
                have HEN : Aside0 (encL a0_0 l0_1 l0_2 = bodyL a0_0 l0_1 l0_2 ++ sealL (commitL a0_0 (bodyL a0_0 l0_1 l0_2))) := ⟨rfl⟩
                have HCM : Aside0 (commitL a0_0 (bodyL a0_0 l0_1 l0_2) = headL 2 a0_0 ++ pbN (X.crcMore 0 (bodyL a0_0 l0_1 l0_2)) 4) := ⟨rfl⟩
                generalize commitL a0_0 (bodyL a0_0 l0_1 l0_2) = cm at *
                generalize bodyL a0_0 l0_1 l0_2 = bd at *
                have HLBD := Aside0.mk hlb
                have HX := Aside0.mk (HX1.out.below HBW.out HX1.out.lt)
                have hL0 := HX.out.cell 0 _ rfl
                have hcap0 := (Kd.R_reads' HRO.out).2.1
                clear hlb HK hi hlt HDN HLL HLV HBD HSLD HSLL
                go_wp2_with fail
                clear hL0 HX
                refine (record_newPage.calls 2 a0_0 wr (by decide) (by decide)).mono ?_
                rintro e w7 ⟨g7, gb7, cap7, rfl, hpg⟩
                have HP7 := Aside0.mk hpg
                have HR7 := Aside0.mk (Kd.R_below HRO.out hpg.pg.below)
                clear hpg
                have hrg := X.crcMore_range 0 bd
                obtain ⟨sm, hsm⟩ : ∃ sm, sm = X.crcMore 0 bd := ⟨_, rfl⟩
                have HSM := Aside0.mk hsm
                rw [← hsm] at hrg
                obtain ⟨hs0, hs1⟩ := hrg
                clear hsm
                go_wp2_with fail
                have hsum := crc_Sum.calls (some ⟨g0, 0, none⟩) cap0 bd sm w7 (Kd.R_reads' HR7.out).2.2 (by rw [HLBD.out]; exact hcap0) (by unfold crc_Sum.f crc_More.f; rw [if_pos HBU.out, HSM.out]; rfl)
                rw [HLBD.out] at hsum
                refine hsum.mono ?_
                rintro e w8 ⟨rfl, hd⟩
                have HP8 := Aside0.mk (HP7.out.step hd)
                have HR8 := Aside0.mk (Kd.R_below HR7.out hd)
                clear hd hsum HP7 HR7
                go_wp2_with fail
                refine (record_put.calls wr g7 gb7 cap7 (headL 2 a0_0) 4 sm _ HP8.out (by rw [headL_length]; decide) (by rw [headL_length]; decide) (by decide)).mono ?_
                rintro e w9 ⟨rfl, hpg⟩
                rw [HSM.out, ← HCM.out] at hpg
                have HP9 := Aside0.mk hpg
                have hcl : cm.length = 20 := by rw [HCM.out, List.length_append, headL_length, pbN_length]
                have hcu : X.u8all cm = true := by rw [HCM.out]; exact X.u8all_append.2 ⟨headL_u8 _ _, pbN_u8 _ _⟩
                clear hpg HP8 HR8
                go_wp2_with fail
                have hse := record_seal.calls wr g7 gb7 cap7 cm w9 HP9.out (by omega) hcu
                refine hse.mono ?_
                rintro e w10 ⟨rfl, hrow, hbw⟩
                have hsl : (sealL cm).length = 256 := sealL_length (by omega)
                have hcr := Kd.R_reads' hrow
                have HCS : Aside0 (Kd.C (Kd.int .u8) w10 (some ⟨gb7, 0, none⟩) 256 (sealL cm)) := ⟨by have := hcr.2.2; rw [← hcr.1] at this; exact this⟩
                have HR10 := Aside0.mk (Kd.R_below HRO.out hbw)
                have HB10 := Aside0.mk (HBW.out.trans (hbw.mono HBW.out.size))
                clear hse hrow hcr hbw hsl hcl hcu HRO HP9
                go_wp2_with ((with_reducible refine gate_builtin (b := .append) (xs := #[.tmp 100, .tmp 102]) rfl ?_); at_builtin; refine Kd.R_append_row (Value.int .u8) (0 : Int) (w0 := w1) w1.heap.size rfl (.tmp 100) (.tmp 102) 22 5 (.int .u8 0) 1 rfl Try.underlying22 info5 rfl (by decide) _ bd (sealL cm) (some ⟨gb7, 0, none⟩) 256 cap7 (fun _ => True) rfl rfl (fun _ _ => trivial) HR10.out HCS.out HB10.out HB10.out.size (by rw [HLBD.out]; omega) ?_; intro v3 w3 ho3 hb3 hg3 hat3; have HO3 := Aside0.mk ho3; have HB3 := Aside0.mk hb3; clear ho3 hb3 hg3 hat3)
                go_ret2
                refine ⟨_, rfl, ?_, HB1.out.trans (HB3.out.mono HB1.out.size)⟩
                rw [HEN.out]
                exact Kd.R_lower HO3.out HB1.out.size
end Go.Proofs.Ytlbfpjhnpnbikaa.U
