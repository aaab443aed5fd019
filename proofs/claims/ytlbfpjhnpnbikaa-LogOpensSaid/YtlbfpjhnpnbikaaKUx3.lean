/- PLog2 PLog3 Ux2 Ux3: what this claim uses. Laid by slim.py (ours). -/
import Derived.Test.YtlbfpjhnpnbikaaKUx25
import Derived.Test.YtlbfpjhnpnbikaaKUx43
import Derived.Test.YtlbfpjhnpnbikaaKUx47
import Derived.Test.YtlbfpjhnpnbikaaKPLog
import Derived.Test.YtlbfpjhnpnbikaaKUx0
import Derived.Test.YtlbfpjhnpnbikaaKUx1
section
namespace Go.Proofs.Ytlbfpjhnpnbikaa.Pure
open Go Go.RowKit Go.Proofs.Ytlbfpjhnpnbikaa.U Go.Proofs.YtlbfpjhnpnbikaaW.PrintWords Go.Proofs.YtlbfpjhnpnbikaaW.PrintLast Go.Proofs.YtlbfpjhnpnbikaaW.PrintMore
set_option linter.unusedVariables false
set_option linter.unusedSimpArgs false
theorem areaRef_f (n : Nat) (at_ len : Int) (hn : n ≤ 1024) : undercroftref04_Area.f (n : Int) at_ len = some (areaB n at_ len) := by
  unfold undercroftref04_Area.f areaB
  by_cases h1 : len ≥ 8
  · rw [if_pos h1]
    by_cases h2 : len ≤ 1024
    · rw [if_pos h2, wrap64_id (by omega) (by omega)]
      by_cases h3 : at_ ≥ 0
      · rw [if_pos h3]
        congr 1
        rw [Bool.eq_iff_iff, decide_eq_true_eq, decide_eq_true_eq]
        omega
      · rw [if_neg h3, decide_eq_false (by omega)]
    · rw [if_neg h2, decide_eq_false (by omega)]
  · rw [if_neg h1, decide_eq_false (by omega)]
def revM : List Tx → Nat
  | [] => 0
  | t :: r => t.f2.length + 2 + revM r
theorem rev_rec (l : List Tx) (b : Int) (hl : l.length ≤ 1000000) (hm : ∀ t ∈ l, t.f2.length ≤ 1000000) : ∀ k : Nat,
    (∀ i : Nat, i ≤ l.length → revM (l.drop i) < k → undercroftref04_Revoked.l0 k l b (i : Int) = some ((l.drop i).any fun t => t.f2.contains b)) ∧
    (∀ (i m : Nat) (t : Tx), l[i]? = some t → m ≤ t.f2.length → (t.f2.length - m) + 1 + revM (l.drop (i + 1)) < k → undercroftref04_Revoked.l1 k l b (i : Int) (m : Int) = some ((t.f2.drop m).contains b || (l.drop (i + 1)).any fun t => t.f2.contains b))
  | 0 => ⟨fun i _ h => by omega, fun i m t _ _ h => by omega⟩
  | k + 1 => by
    obtain ⟨ih0, ih1⟩ := rev_rec l b hl hm k
    constructor
    · intro i hi hk
      unfold undercroftref04_Revoked.l0
      by_cases hlt : i < l.length
      · rw [if_pos (by omega)]
        rw [List.drop_eq_getElem_cons hlt] at hk ⊢
        rw [List.any_cons, show (0 : Int) = ((0 : Nat) : Int) from rfl, ih1 i 0 l[i] (List.getElem?_eq_getElem hlt) (Nat.zero_le _) (by rw [revM] at hk; omega), List.drop_zero]
      · rw [if_neg (by omega), List.drop_of_length_le (by omega)]
        rfl
    · intro i m t ht hmt hk
      have hlt := (List.getElem?_eq_some_iff.1 ht).1
      have hrd : rd_T60 l (i : Int) = t := by
        unfold rd_T60
        rw [Int.toNat_natCast, List.getD_eq_getElem?_getD, ht]
        rfl
      unfold undercroftref04_Revoked.l1
      rw [if_pos (by omega), if_pos (by omega), hrd]
      have hb := hm t (List.mem_of_getElem? ht)
      by_cases hm2 : m < t.f2.length
      · rw [if_pos (by omega), if_pos (by omega), List.drop_eq_getElem_cons hm2, List.contains_cons]
        have hr : rd t.f2 (m : Int) = t.f2[m] := by
          unfold rd
          rw [Int.toNat_natCast, List.getD_eq_getElem?_getD, List.getElem?_eq_getElem hm2]
          rfl
        rw [hr]
        by_cases he : t.f2[m] = b
        · rw [if_pos he, he, beq_self_eq_true]
          rfl
        · rw [if_neg he, wrap64_id (by omega) (by omega), show ((m : Int) + 1) = ((m + 1 : Nat) : Int) from rfl, ih1 i (m + 1) t ht (by omega) (by omega), beq_eq_false_iff_ne.2 (fun e => he e.symm), Bool.false_or]
      · rw [if_neg (by omega), List.drop_of_length_le (show t.f2.length ≤ m by omega), wrap64_id (by omega) (by omega), show ((i : Int) + 1) = ((i + 1 : Nat) : Int) from rfl, ih0 (i + 1) (by omega) (by omega)]
        rfl
theorem revM_le : ∀ l : List Tx, (∀ t ∈ l, t.f2.length ≤ 58) → revM l ≤ 60 * l.length
  | [], _ => Nat.le_refl _
  | t :: r, h => by
    have h1 := revM_le r (fun x hx => h x (List.mem_cons_of_mem _ hx))
    have h2 := h t List.mem_cons_self
    rw [revM, List.length_cons]
    omega
theorem revRef_f (l : List Tx) (i : Nat) (b : Int) (hi : i < l.length) (hl : l.length ≤ 1000) (hm : ∀ t ∈ l, t.f2.length ≤ 58) (k : Nat) (hk : 60000 < k) : undercroftref04_Revoked.f k l (i : Int) b = some (revB l i b) := by
  unfold undercroftref04_Revoked.f revB
  have h1 := revM_le (l.drop (i + 1)) (fun t ht => hm t (List.mem_of_mem_drop ht))
  rw [List.length_drop] at h1
  rw [wrap64_id (by omega) (by omega), show ((i : Int) + 1) = ((i + 1 : Nat) : Int) from rfl]
  exact (rev_rec l b (by omega) (fun t ht => by have := hm t ht; omega) k).1 (i + 1) (by omega) (by omega)
section
variable {w0 w : World} {L : List X.Res}
theorem Area_part (n : Nat) (at_ len : Int) (h : X.Lies w0 w L) (hn : n ≤ 1024) : Calls Try.prog 44 #[.int .i64 (n : Int), .int .i64 at_, .int .i64 len] w fun e w' => e = .returned (.bool (areaB n at_ len)) ∧ X.Lies w0 w' L := by
  refine (undercroftref04_Area.calls (n : Int) at_ len _ w (areaRef_f n at_ len hn)).mono ?_
  rintro e w' ⟨rfl, hd⟩
  exact ⟨rfl, h.grow hd.below⟩
theorem Revoked_part {l : List Tx} {A : Option Addr} {c : Nat} (i : Nat) (b : Int) (h : X.Lies w0 w L) (h1 : Kd.C k60 w A l.length l) (g1 : l.length ≤ c) (hi : i < l.length) (hl : l.length ≤ 1000) (hm : ∀ t ∈ l, t.f2.length ≤ 58) :
    Calls Try.prog 27 #[.slice A l.length c, .int .i64 (i : Int), .int .i64 b] w fun e w' => e = .returned (.bool (revB l i b)) ∧ X.Lies w0 w' L ∧ Below w.heap.size w w' := by
  refine (undercroftref04_Revoked.calls 60001 A c l (i : Int) b _ w h1 g1 (revRef_f l i b hi hl hm 60001 (by decide))).mono ?_
  rintro e w' ⟨rfl, hd⟩
  exact ⟨rfl, h.grow hd.below, hd.below⟩
end
end Go.Proofs.Ytlbfpjhnpnbikaa.Pure
end
section
namespace Go.Proofs.Ytlbfpjhnpnbikaa.Pure
open Go Go.RowKit Go.Proofs.Ytlbfpjhnpnbikaa.U Go.Proofs.YtlbfpjhnpnbikaaW.PrintWords Go.Proofs.YtlbfpjhnpnbikaaW.PrintLast Go.Proofs.YtlbfpjhnpnbikaaW.PrintMore
set_option linter.unusedVariables false
set_option linter.unusedSimpArgs false
theorem hd_parts (seq : Int) (pl : Nat) : hdB seq pl = [85, 76, 79, 71, 3, 0, 0, 0] ++ (bytesN seq 8 ++ (bytesN (pl : Int) 4 ++ (bytesN (X.crcMore 0 (hd20 seq pl)) 4 ++ List.replicate 232 0))) := by
  unfold hdB hd20
  simp only [List.append_assoc]
theorem hdSeq_hdB {seq : Int} (pl : Nat) (h : 0 ≤ seq ∧ seq < 18446744073709551616) : hdSeq (hdB seq pl) = seq := by
  obtain ⟨m, rfl⟩ := Int.eq_ofNat_of_zero_le h.1
  unfold hdSeq
  have e : ((hdB (m : Int) pl).take 16).drop 8 = bytesN (m : Int) 8 := by
    rw [hd_parts, List.drop_take]
    show List.take 8 (List.drop 8 ([85, 76, 79, 71, 3, 0, 0, 0] ++ _)) = _
    rw [show List.drop 8 ([85, 76, 79, 71, 3, 0, 0, 0] ++ (bytesN (m : Int) 8 ++ (bytesN (pl : Int) 4 ++ (bytesN (X.crcMore 0 (hd20 (m : Int) pl)) 4 ++ List.replicate 232 0)))) = _ from List.drop_left' (l₁ := [85, 76, 79, 71, 3, 0, 0, 0]) rfl, List.take_left' (bytesN_length _ _)]
  rw [e, num_bytesN, Nat.mod_eq_of_lt (by have := h.2; omega)]
theorem hdPl_hdB (seq : Int) {pl : Nat} (h : pl < 4294967296) : hdPl (hdB seq pl) = pl := by
  unfold hdPl
  have e : ((hdB seq pl).take 20).drop 16 = bytesN (pl : Int) 4 := by
    rw [hd_parts, List.drop_take, ← List.append_assoc]
    show List.take 4 (List.drop 16 _) = _
    rw [List.drop_left' (by rw [List.length_append, bytesN_length]; rfl), List.take_left' (bytesN_length _ _)]
  rw [e, num_bytesN, Nat.mod_eq_of_lt (by omega)]
theorem hdOk_hdB {seq : Int} {pl : Nat} {len : Int} (h : 0 ≤ seq ∧ seq < 18446744073709551616) (h1 : (pl : Int) < len - 1) (h2 : len ≤ 1024) : hdOk (hdB seq pl) len = true := by
  unfold hdOk
  rw [hdSeq_hdB pl h, hdPl_hdB seq (by omega), decide_eq_true h1, decide_eq_true rfl]
  rfl
theorem flush_free {d : X.DS} (h : d.set = false) : d.flush = ⟨X.laysTo d.bytes d.pend, [], d.ghosts, false, d.left⟩ := by
  unfold X.DS.flush
  rw [h]
  rfl
theorem write_free {d : X.DS} (h : d.set = false) (i : Nat) (xs : List Int) : d.write i xs = ⟨d.bytes, d.pend ++ [(i, xs)], d.ghosts, false, d.left⟩ := by
  unfold X.DS.write
  rw [h]
  rfl
theorem appE_zero {n : Nat} {s : LS} {ws : List S66} {rs : List Int} (h : appE n s ws rs = 0) : fairB n s ws rs = true ∧ mayB ws rs = true ∧ ws.length + 2 + s.used ≤ s.len - 1 := by
  unfold appE at h
  by_cases h1 : (fairB n s ws rs && mayB ws rs) = true
  · rw [if_pos h1] at h
    rw [Bool.and_eq_true] at h1
    by_cases h2 : ws.length + 2 + s.used ≤ s.len - 1
    · exact ⟨h1.1, h1.2, h2⟩
    · rw [if_neg h2] at h
      cases h
  · rw [if_neg h1] at h
    cases h
theorem u64_in (x : Int) : 0 ≤ IntKind.u64.wrap x ∧ IntKind.u64.wrap x < 18446744073709551616 := by
  simp [IntKind.wrap, IntKind.bits, IntKind.signed]
  omega
theorem used_snoc (s : LS) (q : Int) (p : Nat) (t : Tx) : (⟨s.st, s.len, q, p, s.live ++ [t]⟩ : LS).used = s.used + (t.f1.length + 2) := by
  unfold LS.used
  rw [List.map_append, List.sum_append]
  rfl
theorem appS_ok {n : Nat} {s : LS} {ws : List S66} {rs : List Int} (h : s.Ok n) (hc : Came s.seq ws rs) : (appS n s ws rs).Ok n := by
  unfold appS
  by_cases he : appE n s ws rs = 0
  · rw [if_pos he]
    obtain ⟨hf, hm, hu⟩ := appE_zero he
    refine ⟨h.l0, h.l1, h.fit, h.n1, Nat.mod_lt _ (by have := h.l0; show 0 < s.len - 1; omega), u64_in _, ?_, ?_⟩
    · rw [used_snoc]
      show s.used + (ws.length + 2) ≤ s.len - 1
      omega
    · intro t ht
      rcases List.mem_append.1 ht with ht | ht
      · exact h.live t ht
      · rw [List.mem_singleton.1 ht]
        exact ⟨hm, hc, hf⟩
  · rw [if_neg he]
    exact h
structure Free (n : Nat) (d : X.DS) : Prop where
  ok : d.Ok n
  set : d.set = false
  gho : d.ghosts = []
theorem Free.write {n : Nat} {d : X.DS} (h : Free n d) {i : Nat} {xs : List Int} (hi : i < n) (hl : xs.length = 256) (hu : X.u8all xs = true) : Free n (d.write i xs) := by
  rw [write_free h.set]
  refine ⟨⟨h.ok.len, h.ok.n1, h.ok.n2, h.ok.u8, fun x hx => ?_, h.ok.ghosts, h.ok.left⟩, rfl, h.gho⟩
  rcases List.mem_append.1 hx with hx | hx
  · exact h.ok.pend x hx
  · rw [List.mem_singleton.1 hx]
    exact ⟨hi, hl, hu⟩
theorem Free.flush {n : Nat} {d : X.DS} (h : Free n d) : Free n d.flush := by
  rw [flush_free h.set]
  have hl := X.laysTo_ok d.pend d.bytes h.ok.len h.ok.u8 h.ok.pend
  exact ⟨⟨hl.1, h.ok.n1, h.ok.n2, hl.2, (fun x hx => by cases hx), h.ok.ghosts, h.ok.left⟩, rfl, h.gho⟩
theorem Free.wr {n : Nat} {d : X.DS} {l : List Tx} {i : Nat} {ws : List S66} (h : Free n d) (hw : ∀ x ∈ ws, 0 ≤ x.f0 ∧ x.f0.toNat < n ∧ x.f1.length = 256 ∧ X.u8all x.f1 = true) : ∀ k, Free n (wrTo l i ws d k)
  | 0 => h
  | k + 1 => by
    have ih := Free.wr (l := l) (i := i) h hw k
    rw [wrTo]
    split
    · rename_i x hx
      split
      · exact ih
      · obtain ⟨-, h1, h2, h3⟩ := hw x (List.mem_of_getElem? hx)
        exact ih.write h1 h2 h3
    · exact ih
structure Sound (n : Nat) (d : X.DS) (s : LS) (k : Nat) : Prop where
  free : Free n d
  ok : s.Ok n
  pend : d.pend.length ≤ 100 * k
  live : s.live.length ≤ k
theorem Sound.flush {n : Nat} {d : X.DS} {s : LS} {k : Nat} (h : Sound n d s k) : Sound n d.flush s (k + 1) := by
  refine ⟨h.free.flush, h.ok, ?_, by have := h.live; omega⟩
  rw [flush_free h.free.set]
  exact Nat.zero_le _
def zerosD (n : Nat) : X.DS := X.DS.new (List.replicate (256 * n) 0)
theorem Free.zeros {n : Nat} (h1 : 1 ≤ n) (h2 : n ≤ 1024) : Free n (zerosD n) :=
  ⟨⟨List.length_replicate, h1, h2, X.u8all_iff.2 (fun c hc => by obtain ⟨-, rfl⟩ := List.mem_replicate.1 hc; decide), (fun x hx => by cases hx), (fun x hx => by cases hx), show (0 : Nat) ≤ 9223372036854775807 by decide⟩, rfl, rfl⟩
def newD (n : Nat) (st ln : Nat) : X.DS := fmtD n (zerosD n) (st : Int) (ln : Int)
def newS (st ln : Nat) : LS := ⟨st, ln, 1, 0, []⟩
theorem newD_eq {n st ln : Nat} (ha : areaB n (st : Int) (ln : Int) = true) : newD n st ln = ((zerosD n).write st (hdB 1 0)).flush := if_pos ha
theorem area_in {n st ln : Nat} (ha : areaB n (st : Int) (ln : Int) = true) : 8 ≤ ln ∧ ln ≤ 1024 ∧ st + ln ≤ n := by
  have := of_decide_eq_true ha
  omega
theorem new_free {n st ln : Nat} (h1 : 1 ≤ n) (h2 : n ≤ 1024) (ha : areaB n (st : Int) (ln : Int) = true) : Free n (newD n st ln) := by
  rw [newD_eq ha]
  exact ((Free.zeros h1 h2).write (by have := area_in ha; omega) (hdB_length _ _) (hdB_u8 _ _)).flush
theorem new_read {n st ln : Nat} (h1 : 1 ≤ n) (h2 : n ≤ 1024) (ha : areaB n (st : Int) (ln : Int) = true) : (newD n st ln).read st = hdB 1 0 := by
  rw [newD_eq ha, X.DS.read_flush ((Free.zeros h1 h2).write (by have := area_in ha; omega) (hdB_length _ _) (hdB_u8 _ _)).ok, X.DS.read_write, if_pos rfl]
  rfl
theorem new_opens {n st ln : Nat} (h1 : 1 ≤ n) (h2 : n ≤ 1024) (ha : areaB n (st : Int) (ln : Int) = true) : opnE n (newD n st ln) (st : Int) (ln : Int) = 0 ∧ opnS (newD n st ln) (st : Int) (ln : Int) = newS st ln := by
  have hb := area_in ha
  constructor
  · unfold opnE
    rw [if_pos ha, Int.toNat_natCast, new_read h1 h2 ha, if_pos (hdOk_hdB (by decide) (by omega) (by omega))]
  · unfold opnS newS
    rw [Int.toNat_natCast, Int.toNat_natCast, new_read h1 h2 ha, hdSeq_hdB 0 (by decide), hdPl_hdB 1 (by decide)]
theorem new_sound {n st ln : Nat} (h1 : 1 ≤ n) (h2 : n ≤ 1024) (ha : areaB n (st : Int) (ln : Int) = true) : Sound n (newD n st ln) (newS st ln) 0 := by
  have hb := area_in ha
  refine ⟨new_free h1 h2 ha, ⟨hb.1, hb.2.1, hb.2.2, h2, by show 0 < ln - 1; omega, show (0 : Int) ≤ 1 ∧ (1 : Int) < 18446744073709551616 by decide, Nat.zero_le _, fun t ht => by cases ht⟩, ?_, Nat.le_refl _⟩
  rw [newD_eq ha, flush_free ((Free.zeros h1 h2).write (by omega) (hdB_length 1 0) (hdB_u8 1 0)).set]
  exact Nat.zero_le _
end Go.Proofs.Ytlbfpjhnpnbikaa.Pure
end
section
namespace Go.Proofs.Ytlbfpjhnpnbikaa.U
open Go.RowKit Go.Proofs.YtlbfpjhnpnbikaaW.PrintWords Go.Proofs.YtlbfpjhnpnbikaaW.PrintLast Go.Proofs.YtlbfpjhnpnbikaaW.PrintMore
attribute [local go_sem] max2_int min2_int max_two min_two max_three min_three max_four min_four
set_option linter.unusedVariables false
set_option linter.unusedSimpArgs false
def Fresh (w : World) (xs : List Int) (v : Value) (w' : World) : Prop := (Kd.int .u8).R 5 w' w.heap.size (fun _ => True) v xs ∧ Below w.heap.size w w'
def ReadPost (w : World) (s : X.DS) (n : Nat) (i : Int) (e : Ending) (w' : World) : Prop := ∃ v, e = .returned (.tuple #[v, .int .i64 (if hasB i n = true then 0 else 16)]) ∧ Fresh w (if hasB i n = true then s.read i.toNat else []) v w'
theorem disk_Read.calls (p n : Nat) (F G : Nat → Prop) (s : X.DS) (i : Int) (w : World) (h : X.PD w p F G n s) :
    Calls Try.prog 28 #[.pointer (some ⟨p, 0, none⟩), .int .i64 i] w (ReadPost w s n i) := by
  obtain ⟨sv, pv, gl, gg, fg, h⟩ := h
  have hn := h.ok.n2
  obtain ⟨g, c, hsv, _⟩ := Kd.R_form h.st (by rw [h.ok.len]; have := h.ok.n1; omega)
  rw [h.ok.len] at hsv
  subst hsv
  have HP := Aside0.mk h
  clear h
  rcases hb : hasB i n with _ | _
  · have HB := Aside0.mk hb
    clear hb
    go_enter Try.func28, Try.ntmps28
    go_wp2_with ((go_at_call 35; (with_reducible refine (disk_has.calls p (some ⟨g, 0, none⟩) n c _ _ _ _ _ i w HP.out.box hn).mono ?_); rw [HB.out]; rintro e w' ⟨rfl, rfl⟩))
    go_ret2
    refine ⟨.slice none 0 0, by rw [HB.out]; rfl, ?_⟩
    rw [HB.out]
    exact ⟨Kd.R_nil _ _ _ _ _, Below.refl _ _⟩
  · have h2 := of_decide_eq_true hb
    obtain ⟨j, rfl⟩ := Int.eq_ofNat_of_zero_le h2.1
    have hj : j < n := by omega
    have HB := Aside0.mk hb
    have HR := Aside0.mk (HP.out.ok.read hj)
    clear hb h2
    go_enter Try.func28, Try.ntmps28
    go_wp2_with ((go_at_call 35; (with_reducible refine (disk_has.calls p (some ⟨g, 0, none⟩) n c _ _ _ _ _ _ w HP.out.box hn).mono ?_); rw [HB.out]; rintro e w' ⟨rfl, rfl⟩))
    refine (disk_seen.calls p n j F G _ _ _ _ _ s _ HP.out hj).mono ?_
    rintro e w' ⟨A, c, rfl, hc, hC, rfl⟩
    have HC := Aside0.mk hC
    have HL : Aside0 ((s.read j).length = 256) := ⟨HR.out.1⟩
    clear hC
    have hcl := slices_Clone_byte_byte.calls A c (s.read j) (s.read j) _ (by rw [HL.out]; exact HC.out) (by rw [HL.out]; exact hc) (by unfold slices_Clone_byte_byte.f; rw [HL.out, if_pos (by decide)])
    rw [HL.out] at hcl
    go_wp2_with fail
    refine hcl.mono ?_
    rintro e w2 ⟨v, rfl, ho, hb⟩
    have HO := Aside0.mk ho
    have HBL := Aside0.mk hb
    clear ho hb hcl
    go_wp2
    go_ret2
    refine ⟨v, by rw [HB.out]; rfl, ?_⟩
    rw [HB.out]
    exact ⟨HO.out, HBL.out⟩
theorem disk_Read_nil.calls (i : Int) (w : World) : Calls Try.prog 28 #[.pointer none, .int .i64 i] w fun e w' => e = .returned (.tuple #[.slice none 0 0, .int .i64 16]) ∧ w = w' := by
  go_enter Try.func28, Try.ntmps28
  go_wp2_with ((go_at_call 35; (with_reducible refine (disk_has_nil.calls _ w).mono ?_); rintro e w' ⟨rfl, rfl⟩))
  go_ret2
  exact ⟨rfl, rfl⟩
theorem disk_Read.part (w0 w : World) (L : List X.Res) (p n : Nat) (s : X.DS) (i : Int) (h : X.Lies w0 w (.disk p n s :: L)) :
    Calls Try.prog 28 #[.pointer (some ⟨p, 0, none⟩), .int .i64 i] w fun e w' => ∃ v, e = .returned (.tuple #[v, .int .i64 (if hasB i n = true then 0 else 16)]) ∧ X.Lies w0 w' (.row (Kd.int .u8) 5 v (if hasB i n = true then s.read i.toNat else []) :: .disk p n s :: L) := by
  obtain ⟨F, G, hp, -⟩ := h.disk
  refine (disk_Read.calls p n F G s i w hp).mono ?_
  rintro e w' ⟨v, rfl, hr, hb⟩
  exact ⟨v, rfl, h.newRow hb hr⟩
end Go.Proofs.Ytlbfpjhnpnbikaa.U
end
section
namespace Go.Proofs.Ytlbfpjhnpnbikaa.U
open Go.RowKit Go.Proofs.YtlbfpjhnpnbikaaW.PrintWords Go.Proofs.YtlbfpjhnpnbikaaW.PrintLast Go.Proofs.YtlbfpjhnpnbikaaW.PrintMore
attribute [local go_sem] max2_int min2_int max_two min_two max_three min_three max_four min_four
set_option linter.unusedVariables false
set_option linter.unusedSimpArgs false
theorem log_area.part (w0 w : World) (L : List X.Res) (p n : Nat) (s : X.DS) (at_ len : Int) (h : X.Lies w0 w (.disk p n s :: L)) :
    Calls Try.prog 40 #[.pointer (some ⟨p, 0, none⟩), .int .i64 at_, .int .i64 len] w fun e w' => e = .returned (.bool (Pure.areaB n at_ len)) ∧ w = w' := by
  have HSZ := Aside0.mk (disk_Size.part w0 w L p n s h)
  have hn := (h.disk_ok 0 rfl).n2
  have HA : Aside0 (Pure.areaB n at_ len = decide (8 ≤ len ∧ len ≤ 1024 ∧ 0 ≤ at_ ∧ at_ ≤ (n : Int) - len)) := ⟨rfl⟩
  clear h
  by_cases h1 : 8 ≤ len
  rotate_left
  · rw [HA.out, decide_eq_false (fun h => h1 h.1)]
    have q1 : decide (8 ≤ len) = false := decide_eq_false h1
    clear h1
    go_enter Try.func40, Try.ntmps40
    go_wp2
    go_ret
    exact ⟨rfl, rfl⟩
  by_cases h2 : len ≤ 1024
  rotate_left
  · rw [HA.out, decide_eq_false (fun h => h2 h.2.1)]
    have q1 : decide (8 ≤ len) = true := decide_eq_true h1
    have q2 : decide (len ≤ 1024) = false := decide_eq_false h2
    clear h1 h2
    go_enter Try.func40, Try.ntmps40
    go_wp2
    go_ret
    exact ⟨rfl, rfl⟩
  by_cases h3 : 0 ≤ at_
  rotate_left
  · rw [HA.out, decide_eq_false (fun h => h3 h.2.2.1)]
    have q1 : decide (8 ≤ len) = true := decide_eq_true h1
    have q2 : decide (len ≤ 1024) = true := decide_eq_true h2
    have q3 : decide (0 ≤ at_) = false := decide_eq_false h3
    clear h1 h2 h3
    go_enter Try.func40, Try.ntmps40
    go_wp2
    go_ret
    exact ⟨rfl, rfl⟩
  have q1 : decide (8 ≤ len) = true := decide_eq_true h1
  have q2 : decide (len ≤ 1024) = true := decide_eq_true h2
  have q3 : decide (0 ≤ at_) = true := decide_eq_true h3
  have hw : wrap64 ((n : Int) - len) = (n : Int) - len := by unfold wrap64; omega
  have he : Aside0 (decide (at_ ≤ (n : Int) - len) = Pure.areaB n at_ len) := ⟨by
    rw [HA.out]
    by_cases h4 : at_ ≤ (n : Int) - len
    · rw [decide_eq_true h4, decide_eq_true ⟨h1, h2, h3, h4⟩]
    · rw [decide_eq_false h4, decide_eq_false (fun h => h4 h.2.2.2)]⟩
  clear h1 h2 h3 HA
  go_enter Try.func40, Try.ntmps40
  go_wp2_with fail
  refine HSZ.out.mono ?_
  rintro e w' ⟨rfl, rfl⟩
  go_wp2
  go_ret
  exact ⟨congrArg (fun b => Ending.returned (Value.bool b)) he.out, rfl⟩
theorem log_area_nil.calls (w : World) (at_ len : Int) (h64 : -9223372036854775808 ≤ len ∧ len ≤ 9223372036854775807) :
    Calls Try.prog 40 #[.pointer none, .int .i64 at_, .int .i64 len] w fun e w' => e = .returned (.bool false) ∧ w = w' := by
  by_cases h1 : 8 ≤ len ∧ len ≤ 1024 ∧ 0 ≤ at_
  · obtain ⟨h1, h2, h3⟩ := h1
    have q1 : decide (8 ≤ len) = true := decide_eq_true h1
    have q2 : decide (len ≤ 1024) = true := decide_eq_true h2
    have q3 : decide (0 ≤ at_) = true := decide_eq_true h3
    have hw : wrap64 (0 - len) = - len := by unfold wrap64; omega
    have hw2 : wrap64 (- len) = - len := by unfold wrap64; omega
    have q4 : decide (at_ ≤ - len) = false := decide_eq_false (by omega)
    clear h1 h2 h3 h64
    go_enter Try.func40, Try.ntmps40
    go_wp2_with fail
    refine (disk_Size_nil.calls w).mono ?_
    rintro e w' ⟨rfl, rfl⟩
    go_wp2
    go_ret
    exact ⟨rfl, rfl⟩
  · by_cases g1 : 8 ≤ len
    · have q1 : decide (8 ≤ len) = true := decide_eq_true g1
      by_cases g2 : len ≤ 1024
      · have q2 : decide (len ≤ 1024) = true := decide_eq_true g2
        have q3 : decide (0 ≤ at_) = false := decide_eq_false (fun h => h1 ⟨g1, g2, h⟩)
        clear h1 g1 g2 h64
        go_enter Try.func40, Try.ntmps40
        go_wp2
        go_ret
        exact ⟨rfl, rfl⟩
      · have q2 : decide (len ≤ 1024) = false := decide_eq_false g2
        clear h1 g1 g2 h64
        go_enter Try.func40, Try.ntmps40
        go_wp2
        go_ret
        exact ⟨rfl, rfl⟩
    · have q1 : decide (8 ≤ len) = false := decide_eq_false g1
      clear h1 g1 h64
      go_enter Try.func40, Try.ntmps40
      go_wp2
      go_ret
      exact ⟨rfl, rfl⟩
end Go.Proofs.Ytlbfpjhnpnbikaa.U
end
