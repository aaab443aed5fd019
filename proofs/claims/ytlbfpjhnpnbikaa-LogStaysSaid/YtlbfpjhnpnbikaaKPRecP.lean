/- PRec XCrc3 PCrc2 PRecE PRecP: what this claim uses. Laid by slim.py (ours). -/
import Derived.Test.YtlbfpjhnpnbikaaKUx17
import Derived.Test.YtlbfpjhnpnbikaaKUx23
import Derived.Test.YtlbfpjhnpnbikaaKUx0
import Derived.Test.YtlbfpjhnpnbikaaKUx26
import Derived.Test.YtlbfpjhnpnbikaaKUx27
import Derived.Test.YtlbfpjhnpnbikaaKPCrc
import Derived.Test.YtlbfpjhnpnbikaaKXCrc2
import Derived.Test.YtlbfpjhnpnbikaaKUx6
import Derived.Test.YtlbfpjhnpnbikaaKXNest
section
namespace Go.Proofs.Ytlbfpjhnpnbikaa.Pure
open Go Go.RowKit Go.Proofs.Ytlbfpjhnpnbikaa.U Go.Proofs.YtlbfpjhnpnbikaaW.PrintWords Go.Proofs.YtlbfpjhnpnbikaaW.PrintLast Go.Proofs.YtlbfpjhnpnbikaaW.PrintMore
set_option linter.unusedVariables false
set_option linter.unusedSimpArgs false
theorem may_facts {ws : List S66} {rs : List Int} (h : mayB ws rs = true) : (1 ≤ ws.length + rs.length ∧ ws.length + rs.length ≤ 58) ∧ (∀ x ∈ ws, x.f1.length = 256) ∧ (∀ x ∈ ws, 0 ≤ x.f0 ∧ x.f0 < 1048576) ∧ (∀ b ∈ rs, 0 ≤ b ∧ b < 1048576) ∧ (slots3 ws rs).Nodup := by
  obtain ⟨hc, hd, hb, hnd⟩ := (mayB_iff ws rs).1 h
  refine ⟨hc, fun x hx => ?_, fun x hx => hb _ ?_, fun b hb' => hb _ ?_, hnd⟩
  · obtain ⟨i, hi, rfl⟩ := List.mem_iff_getElem.1 hx
    have := hd i hi
    rw [List.getD_eq_getElem?_getD, List.getElem?_eq_getElem hi] at this
    exact this
  · unfold slots3
    exact List.mem_append_left _ (List.mem_map_of_mem hx)
  · unfold slots3
    exact List.mem_append_right _ hb'
end Go.Proofs.Ytlbfpjhnpnbikaa.Pure
end
section
namespace Go.Proofs.Ytlbfpjhnpnbikaa.X
open Go Go.Proofs.YtlbfpjhnpnbikaaW Go.Proofs.YtlbfpjhnpnbikaaW.PrintWords
def hit (n8 first burst j : Nat) : Bool := burst.testBit j && decide (first + j < n8)
end Go.Proofs.Ytlbfpjhnpnbikaa.X
end
section
namespace Go.Proofs.Ytlbfpjhnpnbikaa.Pure
open Go Go.RowKit Go.Proofs.Ytlbfpjhnpnbikaa.U Go.Proofs.YtlbfpjhnpnbikaaW.PrintWords Go.Proofs.YtlbfpjhnpnbikaaW.PrintLast Go.Proofs.YtlbfpjhnpnbikaaW.PrintMore
set_option linter.unusedVariables false
set_option linter.unusedSimpArgs false
theorem str_map (l : List Int) : (strOfNums l).toList = l.map (fun c => UInt8.ofNat c.toNat) := by
  simp [strOfNums, ByteArray.toList_eq]
theorem str_inj {l m : List Int} (hl : X.u8all l = true) (hm : X.u8all m = true) : (strOfNums l).toList = (strOfNums m).toList ↔ l = m := by
  constructor
  · intro h
    rw [str_map, str_map] at h
    have hlen : l.length = m.length := by simpa using congrArg List.length h
    apply List.ext_getElem hlen
    intro i h1 h2
    have hi := congrArg (fun z => z[i]?) h
    simp only [List.getElem?_map, List.getElem?_eq_getElem h1, List.getElem?_eq_getElem h2, Option.map_some, Option.some.injEq] at hi
    have a1 := X.u8all_iff.1 hl _ (List.getElem_mem h1)
    have a2 := X.u8all_iff.1 hm _ (List.getElem_mem h2)
    have hv := congrArg UInt8.toNat hi
    simp only [UInt8.toNat_ofNat'] at hv
    omega
  · intro h; rw [h]
end Go.Proofs.Ytlbfpjhnpnbikaa.Pure
end
section
namespace Go.Proofs.Ytlbfpjhnpnbikaa.Pure
open Go Go.RowKit Go.Proofs.Ytlbfpjhnpnbikaa.U Go.Proofs.YtlbfpjhnpnbikaaW.PrintWords Go.Proofs.YtlbfpjhnpnbikaaW.PrintLast Go.Proofs.YtlbfpjhnpnbikaaW.PrintMore
set_option linter.unusedVariables false
set_option linter.unusedSimpArgs false
theorem encode_total (seq : Int) {ws : List S66} {rs : List Int} (hw : wfSlots ws rs = true) (hd : wfData ws = true) (h1 : ws.length ≤ 9007199254740992) (h2 : rs.length ≤ 9007199254740992) : record_Encode.f seq ws rs = some (if mayB ws rs = true then (encL seq ws rs, 0) else ([], 17)) := by
  unfold record_Encode.f record_may.f
  rw [if_pos ⟨hw, h1, h2⟩, Option.bind_some]
  by_cases hm : mayB ws rs = true
  · rw [if_pos hm, if_pos hd, if_pos hm]
  · rw [if_neg hm, if_neg hm]
theorem desc_le {seq : Int} {ws : List S66} {rs : List Int} (h : ws.length + rs.length ≤ 58) : (descL seq ws rs).length ≤ 252 := by
  unfold descL
  rw [List.length_append, List.length_append, startL_length, slotsL_length, revsL_length]
  omega
theorem datas_length {ws : List S66} (h : ∀ x ∈ ws, x.f1.length = 256) : (datasL ws).length = 256 * ws.length := by
  unfold datasL
  induction ws with
  | nil => rfl
  | cons x l ih => rw [List.map_cons, List.flatten_cons, List.length_append, ih (fun y hy => h y (List.mem_cons_of_mem _ hy)), dataL_length (h x List.mem_cons_self), List.length_cons]; omega
theorem commit_length (seq : Int) (b : List Int) : (commitL seq b).length = 20 := by unfold commitL; rw [List.length_append, headL_length, pbN_length]
theorem encL_length {seq : Int} {ws : List S66} {rs : List Int} (h : mayB ws rs = true) : (encL seq ws rs).length = (ws.length + 2) * 256 := by
  obtain ⟨hc, h1, -⟩ := may_facts h
  unfold encL bodyL
  rw [List.length_append, List.length_append, sealL_length (desc_le hc.2), datas_length h1, sealL_length (by rw [commit_length]; decide)]
  omega
theorem encL_u8 {seq : Int} {ws : List S66} {rs : List Int} (h : wfData ws = true) : X.u8all (encL seq ws rs) = true := by
  have h1 := bodyL_u8 (seq := seq) (rs := rs) h
  unfold encL
  exact X.u8all_append.2 ⟨h1, sealL_u8 (by unfold commitL; exact X.u8all_append.2 ⟨headL_u8 _ _, pbN_u8 _ _⟩)⟩
theorem s43_eq {x y : S66} : x = y ↔ x.f0 = y.f0 ∧ x.f1 = y.f1 := by
  obtain ⟨a, b⟩ := x
  obtain ⟨c, d⟩ := y
  simp
instance : DecidableEq S66 := fun x y => if h : x.f0 = y.f0 ∧ x.f1 = y.f1 then isTrue (s43_eq.2 h) else isFalse (fun e => h (s43_eq.1 e))
structure Came (a : Int) (ws : List S66) (rs : List Int) : Prop where
  seq : 0 ≤ a ∧ a < 18446744073709551616
  slots : wfSlots ws rs = true
  data : wfData ws = true
  lw : ws.length ≤ 4398046510976
  lr : rs.length ≤ 17592186043904
  ld : ∀ x ∈ ws, x.f1.length ≤ 140737488351232
theorem came {a : Int} {ws : List S66} {rs : List Int} (w0 : (Lit.int .u64 a).wf = true) (hw : ∀ x ∈ ws, (Lit.int .i64 x.f0).wf = true ∧ (∀ c ∈ x.f1, (Lit.int .u8 c).wf = true) ∧ x.f1.length * 1 ≤ 140737488351232) (y1 : ws.length * 32 ≤ 140737488351232) (hr : ∀ x ∈ rs, (Lit.int .i64 x).wf = true) (y2 : rs.length * 8 ≤ 140737488351232) : Came a ws rs := by
  refine ⟨?_, ?_, ?_, by omega, by omega, fun x hx => by have := (hw x hx).2.2; omega⟩
  · simp [Lit.wf, IntKind.max, IntKind.min, IntKind.bits, IntKind.signed] at w0
    omega
  · refine List.all_eq_true.2 (fun b hb => ?_)
    unfold slots3 at hb
    rcases List.mem_append.1 hb with hb | hb
    · obtain ⟨x, hx, rfl⟩ := List.mem_map.1 hb
      exact (hw x hx).1
    · exact hr b hb
  · exact List.all_eq_true.2 (fun x hx => X.u8all_wf (hw x hx).2.1)
theorem Came.enc {a : Int} {ws : List S66} {rs : List Int} (h : Came a ws rs) : record_Encode.f a ws rs = some (if mayB ws rs = true then (encL a ws rs, 0) else ([], 17)) := encode_total a h.slots h.data (by have := h.lw; omega) (by have := h.lr; omega)
def recB (a : Int) (ws : List S66) (rs : List Int) : Bool := decide (0 ≤ a ∧ a < 18446744073709551616) && (wfSlots ws rs && (wfData ws && (decide (ws.length ≤ 4398046510976) && (decide (rs.length ≤ 17592186043904) && ws.all fun x => decide (x.f1.length ≤ 140737488351232)))))
theorem recB_iff {a : Int} {ws : List S66} {rs : List Int} : recB a ws rs = true ↔ Came a ws rs := by
  unfold recB
  simp only [Bool.and_eq_true, decide_eq_true_eq, List.all_eq_true]
  exact ⟨fun ⟨h1, h2, h3, h4, h5, h6⟩ => ⟨h1, h2, h3, h4, h5, h6⟩, fun h => ⟨h.seq, h.slots, h.data, h.lw, h.lr, h.ld⟩⟩
end Go.Proofs.Ytlbfpjhnpnbikaa.Pure
end
section
namespace Go.Proofs.Ytlbfpjhnpnbikaa.Pure
open Go Go.RowKit Go.Proofs.Ytlbfpjhnpnbikaa.U Go.Proofs.YtlbfpjhnpnbikaaW.PrintWords Go.Proofs.YtlbfpjhnpnbikaaW.PrintLast Go.Proofs.YtlbfpjhnpnbikaaW.PrintMore
set_option linter.unusedVariables false
set_option linter.unusedSimpArgs false
theorem info_txn : (Try.prog.info? 60).map (·.size) = some 3 := by kernel_rfl
theorem blk_range {w : World} {g : Nat} {cs : List Value} {t : TypeId} (h : X.Blk w g cs.toArray t) : w.rangeAt g 0 cs := by
  intro j v hj
  rw [Nat.zero_add]
  exact h.cell j v (by simpa using hj)
theorem sub_C {w : World} {g c N a m : Nat} {xs : List Int} (h : (Kd.int .u8).C w (some ⟨g, 0, none⟩) N xs) (hc : N ≤ c) (ha : a + m ≤ N) (h0 : a < N) : (Kd.int .u8).C w (some ⟨g, a, none⟩) m ((xs.take (a + m)).drop a) := by
  have hl : xs.length = N := h.1
  subst hl
  have h2 := Kd.C_mid (lo := a) (hi := a + m) h (by omega) ha hc
  rw [if_neg (by omega)] at h2
  have e : ((xs.take (a + m)).drop a).length = m := by rw [List.length_drop, List.length_take]; omega
  rw [e] at h2
  have e3 : ((some (⟨g, 0, none⟩ : Addr)).map (·.add (a * (Kd.int .u8).sz))) = some ⟨g, a, none⟩ := by
    simp [Addr.add, Kd.int, Kd.scalar, eq_comm]
  rw [e3] at h2
  exact h2
theorem sub_run (w : World) (g n c lo hi m : Nat) (kl kh : IntKind) (h1 : lo + m = hi) (h2 : hi ≤ n) (hc : n ≤ c) (h0 : lo < n) : (Instr.slice 22 (.slice (some ⟨g, 0, none⟩) n c) (some (.int kl (lo : Int))) (some (.int kh (hi : Int))) none).run Try.prog w = .ok (.slice (some ⟨g, lo, none⟩) m (c - lo)) w := by
  obtain ⟨i0, hi0, -, hs, -⟩ := info_parts info5
  have h := cut_mid (P := Try.prog) 22 5 kl kh Try.underlying22 hi0 1 hs (some ⟨g, 0, none⟩) n c (lo : Int) (hi : Int) (by omega) (by omega) (by omega) hc w
  rw [Int.toNat_natCast, Int.toNat_natCast, if_neg (by omega), show hi - lo = m from by omega] at h
  rw [h]
  simp [Addr.add, eq_comm]
theorem str_C' {w : World} {A : Option Addr} {n c : Nat} {xs : List Int} (h : (Kd.int .u8).C w A n xs) : (convert 22 9 (.slice A n c)).run Try.prog w = .ok (.string (strOfNums xs)) w :=
  Kd.C_string (P := Try.prog) Try.underlying22 Try.underlying5 Try.underlying9 h
def encR (a : Int) (ws : List S66) (rs : List Int) : List Int := if mayB ws rs = true then encL a ws rs else []
def encE (ws : List S66) (rs : List Int) : Int := if mayB ws rs = true then 0 else 17
theorem Came.encR {a : Int} {ws : List S66} {rs : List Int} (h : Came a ws rs) : record_Encode.f a ws rs = some (encR a ws rs, encE ws rs) := by
  rw [h.enc]
  unfold Pure.encR encE
  by_cases hm : mayB ws rs = true
  · rw [if_pos hm, if_pos hm, if_pos hm]
  · rw [if_neg hm, if_neg hm, if_neg hm]
theorem Came.set {a : Int} {ws : List S66} {rs : List Int} (h : Came a ws rs) {i : Nat} {x : S66} (hx : ws[i]? = some x) {ys : List Int} (hu : X.u8all ys = true) (hl : ys.length ≤ 140737488351232) : Came a (ws.set i ⟨x.f0, ys⟩) rs := by
  have e : (ws.set i ⟨x.f0, ys⟩).map (·.f0) = ws.map (·.f0) := by
    rw [List.map_set]
    apply List.ext_getElem?
    intro j
    by_cases hj : i = j
    · subst hj
      rw [List.getElem?_set_self (by rw [List.length_map]; exact (List.getElem?_eq_some_iff.1 hx).1), List.getElem?_map, hx]
      rfl
    · rw [List.getElem?_set_ne hj]
  refine ⟨h.seq, ?_, ?_, by rw [List.length_set]; exact h.lw, h.lr, fun y hy => ?_⟩
  · have := h.slots
    unfold wfSlots slots3 at this ⊢
    rw [e]
    exact this
  · have := h.data
    unfold wfData at this ⊢
    rw [List.all_eq_true] at this ⊢
    intro y hy
    rcases List.mem_or_eq_of_mem_set hy with hy | rfl
    · exact this y hy
    · exact hu
  · rcases List.mem_or_eq_of_mem_set hy with hy | rfl
    · exact h.ld y hy
    · exact hl
theorem Came.at {a : Int} {ws : List S66} {rs : List Int} (h : Came a ws rs) {i : Nat} {x : S66} (hx : ws[i]? = some x) : X.u8all x.f1 = true ∧ x.f1.length ≤ 140737488351232 :=
  ⟨List.all_eq_true.1 h.data x (List.mem_of_getElem? hx), h.ld x (List.mem_of_getElem? hx)⟩
def prs (ws : List S66) : List (Int × List Int) := ws.map fun x => (x.f0, x.f1)
theorem wown_C {w0 w : World} {L : List X.Res} {v : Value} {l : List (Int × Value × List Int)} {ws : List S66} (h : X.Lies w0 w L) (i : Nat) (hi : L[i]? = some (.wown v l)) (hx : prs ws = l.map fun x => (x.1, x.2.2)) : ∃ A c, v = .slice A ws.length c ∧ ws.length ≤ c ∧ Kd.C k66 w A ws.length ws ∧ (0 < ws.length → ∃ g, A = some ⟨g, 0, none⟩) := by
  have hl : ws.length = l.length := by have := congrArg List.length hx; simpa [prs] using this
  obtain ⟨A, c, h1, h2, h3, h4⟩ := h.wown_reads (f := fun x : S66 => (x.f0, x.f1)) i hi hx
  rw [← hl] at h1 h2 h3 h4
  exact ⟨A, c, h1, h2, h3, h4⟩
theorem wown_S {w0 w : World} {L : List X.Res} {A : Option Addr} {n c : Nat} {l : List (Int × Value × List Int)} {ws : List S66} (h : X.Lies w0 w L) (i : Nat) (hi : L[i]? = some (.wown (.slice A n c) l)) (hx : prs ws = l.map fun x => (x.1, x.2.2)) : n = ws.length ∧ ws.length ≤ c ∧ Kd.C k66 w A ws.length ws ∧ (0 < ws.length → ∃ g, A = some ⟨g, 0, none⟩) := by
  obtain ⟨A', c', e, h2, h3, h4⟩ := wown_C h i hi hx
  obtain ⟨rfl, rfl, rfl⟩ := Value.slice.inj e
  exact ⟨rfl, h2, h3, h4⟩
section
variable (w0 w : World) (L : List X.Res) (a : Int) (A1 : Option Addr) (c1 : Nat) (ws : List S66) (A2 : Option Addr) (c2 : Nat) (rs : List Int)
theorem Encode_part (h : X.Lies w0 w L) (h1 : Kd.C k66 w A1 ws.length ws) (g1 : ws.length ≤ c1) (h2 : Kd.C (Kd.int .i64) w A2 rs.length rs) (g2 : rs.length ≤ c2) (hc : Came a ws rs) :
    Calls Try.prog 51 #[.agg #[.int .u64 a, .slice A1 ws.length c1, .slice A2 rs.length c2]] w fun e w' => ∃ B d, e = .returned (.tuple #[.slice B (encR a ws rs).length d, .int .i64 (encE ws rs)]) ∧ X.Lies w0 w' (.row (Kd.int .u8) 5 (.slice B (encR a ws rs).length d) (encR a ws rs) :: L) := by
  refine (record_Encode.calls a A1 c1 ws A2 c2 rs (encR a ws rs) (encE ws rs) w h1 g1 h2 g2 (hc.encR)).mono ?_
  rintro e w' ⟨v, rfl, hr, hb⟩
  obtain ⟨B, d, rfl⟩ := Kd.R_slice hr
  exact ⟨B, d, rfl, h.newRow hb hr⟩
end
end Go.Proofs.Ytlbfpjhnpnbikaa.Pure
end
