/- PRecP: what this claim uses. Laid by slim.py (ours). -/
import Derived.Test.YtpihpabofgmahaaKUx7
import Derived.Test.YtpihpabofgmahaaKUx13
import Derived.Test.YtpihpabofgmahaaKUx18
import Derived.Test.YtpihpabofgmahaaKUx20
import Derived.Test.YtpihpabofgmahaaKPRecE
import Derived.Test.YtpihpabofgmahaaKXNest
namespace Go.Proofs.Ytpihpabofgmahaa.Pure
open Go Go.RowKit Go.Proofs.Ytpihpabofgmahaa.U Go.Proofs.YtpihpabofgmahaaW.PrintWords Go.Proofs.YtpihpabofgmahaaW.PrintLast Go.Proofs.YtpihpabofgmahaaW.PrintMore
set_option linter.unusedVariables false
set_option linter.unusedSimpArgs false
theorem info_txn : (Try.prog.info? 26).map (·.size) = some 3 := by kernel_rfl
theorem blk_range {w : World} {g : Nat} {cs : List Value} {t : TypeId} (h : X.Blk w g cs.toArray t) : w.rangeAt g 0 cs := by
  intro j v hj
  rw [Nat.zero_add]
  exact h.cell j v (by simpa using hj)
theorem str_C' {w : World} {A : Option Addr} {n c : Nat} {xs : List Int} (h : (Kd.int .u8).C w A n xs) : (convert 29 9 (.slice A n c)).run Try.prog w = .ok (.string (strOfNums xs)) w :=
  Kd.C_string (P := Try.prog) Try.underlying29 Try.underlying5 Try.underlying9 h
def encR (a : Int) (ws : List S43) (rs : List Int) : List Int := if mayB ws rs = true then encL a ws rs else []
def encE (ws : List S43) (rs : List Int) : Int := if mayB ws rs = true then 0 else 17
theorem Came.encR {a : Int} {ws : List S43} {rs : List Int} (h : Came a ws rs) : record_Encode.f a ws rs = some (encR a ws rs, encE ws rs) := by
  rw [h.enc]
  unfold Pure.encR encE
  by_cases hm : mayB ws rs = true
  · rw [if_pos hm, if_pos hm, if_pos hm]
  · rw [if_neg hm, if_neg hm, if_neg hm]
theorem Came.set {a : Int} {ws : List S43} {rs : List Int} (h : Came a ws rs) {i : Nat} {x : S43} (hx : ws[i]? = some x) {ys : List Int} (hu : X.u8all ys = true) (hl : ys.length ≤ 140737488351232) : Came a (ws.set i ⟨x.f0, ys⟩) rs := by
  have e : (ws.set i ⟨x.f0, ys⟩).map (·.f0) = ws.map (·.f0) := by
    rw [List.map_set]
    apply List.ext_getElem?
    intro j
    by_cases hj : i = j
    · subst hj
      rw [List.getElem?_set_self (by rw [List.length_map]; exact (List.getElem?_eq_some_iff.1 hx).1), List.getElem?_map, hx]
      rfl
    · rw [List.getElem?_set_ne hj]
  refine ⟨h.seq, ?_, ?_, by rw [List.length_set]; exact h.lw, h.lr, fun y hy => ?_⟩
  · have := h.slots
    unfold wfSlots slots3 at this ⊢
    rw [e]
    exact this
  · have := h.data
    unfold wfData at this ⊢
    rw [List.all_eq_true] at this ⊢
    intro y hy
    rcases List.mem_or_eq_of_mem_set hy with hy | rfl
    · exact this y hy
    · exact hu
  · rcases List.mem_or_eq_of_mem_set hy with hy | rfl
    · exact h.ld y hy
    · exact hl
theorem Came.at {a : Int} {ws : List S43} {rs : List Int} (h : Came a ws rs) {i : Nat} {x : S43} (hx : ws[i]? = some x) : X.u8all x.f1 = true ∧ x.f1.length ≤ 140737488351232 :=
  ⟨List.all_eq_true.1 h.data x (List.mem_of_getElem? hx), h.ld x (List.mem_of_getElem? hx)⟩
def prs (ws : List S43) : List (Int × List Int) := ws.map fun x => (x.f0, x.f1)
theorem wown_C {w0 w : World} {L : List X.Res} {v : Value} {l : List (Int × Value × List Int)} {ws : List S43} (h : X.Lies w0 w L) (i : Nat) (hi : L[i]? = some (.wown v l)) (hx : prs ws = l.map fun x => (x.1, x.2.2)) : ∃ A c, v = .slice A ws.length c ∧ ws.length ≤ c ∧ Kd.C k43 w A ws.length ws ∧ (0 < ws.length → ∃ g, A = some ⟨g, 0, none⟩) := by
  have hl : ws.length = l.length := by have := congrArg List.length hx; simpa [prs] using this
  obtain ⟨A, c, h1, h2, h3, h4⟩ := h.wown_reads (f := fun x : S43 => (x.f0, x.f1)) i hi hx
  rw [← hl] at h1 h2 h3 h4
  exact ⟨A, c, h1, h2, h3, h4⟩
theorem wown_S {w0 w : World} {L : List X.Res} {A : Option Addr} {n c : Nat} {l : List (Int × Value × List Int)} {ws : List S43} (h : X.Lies w0 w L) (i : Nat) (hi : L[i]? = some (.wown (.slice A n c) l)) (hx : prs ws = l.map fun x => (x.1, x.2.2)) : n = ws.length ∧ ws.length ≤ c ∧ Kd.C k43 w A ws.length ws ∧ (0 < ws.length → ∃ g, A = some ⟨g, 0, none⟩) := by
  obtain ⟨A', c', e, h2, h3, h4⟩ := wown_C h i hi hx
  obtain ⟨rfl, rfl, rfl⟩ := Value.slice.inj e
  exact ⟨rfl, h2, h3, h4⟩
theorem prs_at {ws : List S43} {l : List (Int × Value × List Int)} (h : prs ws = l.map fun x => (x.1, x.2.2)) {i : Nat} (hi : i < ws.length) : ∃ (x : S43) (u : Value), ws[i]? = some x ∧ l[i]? = some (x.f0, u, x.f1) := by
  have hl : l.length = ws.length := by have := congrArg List.length h; simp [prs] at this; omega
  have e := congrArg (fun z => z[i]?) h
  simp only [prs, List.getElem?_map, List.getElem?_eq_getElem hi, List.getElem?_eq_getElem (show i < l.length by omega), Option.map_some, Option.some.injEq, Prod.mk.injEq] at e
  exact ⟨ws[i], l[i].2.1, List.getElem?_eq_getElem hi, by rw [List.getElem?_eq_getElem (by omega), e.1, e.2]⟩
theorem prs_set {ws : List S43} {l : List (Int × Value × List Int)} (h : prs ws = l.map fun x => (x.1, x.2.2)) (i : Nat) (b : Int) (u : Value) (ys : List Int) : prs (ws.set i ⟨b, ys⟩) = (l.set i (b, u, ys)).map fun x => (x.1, x.2.2) := by
  unfold prs at h ⊢
  rw [List.map_set, List.map_set, h]
section
variable (w0 w : World) (L : List X.Res) (a : Int) (A1 : Option Addr) (c1 : Nat) (ws : List S43) (A2 : Option Addr) (c2 : Nat) (rs : List Int)
theorem Encode_part (h : X.Lies w0 w L) (h1 : Kd.C k43 w A1 ws.length ws) (g1 : ws.length ≤ c1) (h2 : Kd.C (Kd.int .i64) w A2 rs.length rs) (g2 : rs.length ≤ c2) (hc : Came a ws rs) :
    Calls Try.prog 13 #[.agg #[.int .u64 a, .slice A1 ws.length c1, .slice A2 rs.length c2]] w fun e w' => ∃ B d, e = .returned (.tuple #[.slice B (encR a ws rs).length d, .int .i64 (encE ws rs)]) ∧ X.Lies w0 w' (.row (Kd.int .u8) 5 (.slice B (encR a ws rs).length d) (encR a ws rs) :: L) := by
  refine (record_Encode.calls a A1 c1 ws A2 c2 rs (encR a ws rs) (encE ws rs) w h1 g1 h2 g2 (hc.encR)).mono ?_
  rintro e w' ⟨v, rfl, hr, hb⟩
  obtain ⟨B, d, rfl⟩ := Kd.R_slice hr
  exact ⟨B, d, rfl, h.newRow hb hr⟩
theorem refEncode_part (h : X.Lies w0 w L) (h1 : Kd.C k43 w A1 ws.length ws) (g1 : ws.length ≤ c1) (h2 : Kd.C (Kd.int .i64) w A2 rs.length rs) (g2 : rs.length ≤ c2) (hc : Came a ws rs) :
    Calls Try.prog 14 #[.agg #[.int .u64 a, .slice A1 ws.length c1, .slice A2 rs.length c2]] w fun e w' => ∃ B d, e = .returned (.tuple #[.slice B (encR a ws rs).length d, .int .i64 (encE ws rs)]) ∧ X.Lies w0 w' (.row (Kd.int .u8) 5 (.slice B (encR a ws rs).length d) (encR a ws rs) :: L) := by
  refine (undercroftref03_Encode.calls 17201 a A1 c1 ws A2 c2 rs (encR a ws rs) (encE ws rs) w h1 g1 h2 g2 (refEncode_f a ws rs _ 17201 (by omega) (hc.encR))).mono ?_
  rintro e w' ⟨v, rfl, hr, hb⟩
  obtain ⟨B, d, rfl⟩ := Kd.R_slice hr
  exact ⟨B, d, rfl, h.newRow hb hr⟩
theorem Same_part (b : Int) (B1 : Option Addr) (d1 : Nat) (us : List S43) (B2 : Option Addr) (d2 : Nat) (qs : List Int) (h : X.Lies w0 w L) (h1 : Kd.C k43 w A1 ws.length ws) (g1 : ws.length ≤ c1) (h2 : Kd.C (Kd.int .i64) w A2 rs.length rs) (g2 : rs.length ≤ c2)
    (h3 : Kd.C k43 w B1 us.length us) (g3 : us.length ≤ d1) (h4 : Kd.C (Kd.int .i64) w B2 qs.length qs) (g4 : qs.length ≤ d2) (d3 : wfData ws = true) (d4 : wfData us = true) :
    Calls Try.prog 15 #[.agg #[.int .u64 a, .slice A1 ws.length c1, .slice A2 rs.length c2], .agg #[.int .u64 b, .slice B1 us.length d1, .slice B2 qs.length d2]] w fun e w' => e = .returned (.bool (decide (a = b ∧ ws = us ∧ rs = qs))) ∧ X.Lies w0 w' L := by
  refine (undercroftref03_Same.calls (ws.length + rs.length + 2) a A1 c1 ws A2 c2 rs b B1 d1 us B2 d2 qs _ w h1 g1 h2 g2 h3 g3 h4 g4 (same_g a b ws us rs qs h1.2.1 h3.2.1 h2.2.1 h4.2.1 d3 d4 _ (by omega))).mono ?_
  rintro e w' ⟨rfl, hb⟩
  exact ⟨rfl, h.grow hb⟩
end
end Go.Proofs.Ytpihpabofgmahaa.Pure
