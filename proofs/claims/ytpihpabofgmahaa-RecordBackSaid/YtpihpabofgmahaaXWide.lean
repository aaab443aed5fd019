/- Words of ours: append of a row that came in onto an own one, up to what growslice takes whatever the old capacity was. -/
import Derived.Test.YtpihpabofgmahaaXWords
import Derived.Deep.DeepAppendWide
namespace Go.Proofs.Ytpihpabofgmahaa.X
open Go Go.RowKit
open Go.Proofs.YtpihpabofgmahaaW.PrintWords

/-- Where the new row lies. -/
theorem append_hat {P : Program} (w : World) (base : Nat) (t ty e : TypeId) (i : TypeInfo) (z : Value) (bytes : Nat) (ht : P.underlying t = some (.slice e)) (hi : P.info? e = some i) (hz : i.zero = some z)
    (hsize : i.size = 1) (hby : i.bytes = bytes) (v : Value) (n : Nat) (xs : List Value) (hown : w.ownsRow base e 1 v n xs)
    (a : Addr) (m c : Nat) (news : List Value) (hl : news.length = m * 1) (hnews : ∀ j u, news[j]? = some u → w.cell? (a.add j) = some u) (h1 : ∀ u ∈ news, u.oneCell' = true)
    (h63 : n + m ≤ maxLen) (hbytes : ((n + m) + (n + m) / 4 + 192) * bytes ≤ 281474976710656) :
    ∃ v' w', (Builtin.append_ #[t, t] ty #[v, .slice (some a) m c]).run P w = .ok v' w' ∧ (v'.ownBlock = v.ownBlock ∨ v'.ownBlock = some w.heap.size) := by
  have hsmall : n + m ≤ 9223372036854775807 := by simp only [maxLen] at h63; omega
  rcases hown.2 with ⟨rfl, rfl⟩ | ⟨g, cap, cur, rfl, hbg, hg, hnc, hcm, hcs, htake⟩
  · by_cases hm : m = 0
    · subst hm
      have hn : news = [] := List.eq_nil_of_length_eq_zero (by simpa using hl)
      subst hn
      refine ⟨.slice none 0 0, w, ?_, Or.inl rfl⟩
      simp [Builtin.append_, run_underlying ht, sizeOf, typeInfo, hi, Builtin.lenOf, Builtin.firstCells, loadCells, loadCellsFrom]
    · exact ⟨_, _, run_append_nil (P := P) w t ty e i z ht hi hz a m c news (by rw [hsize]; exact hl) hnews (by omega) (by omega) (by rw [hby]; have hb := hbytes; simp only [Nat.zero_add] at hb; exact Nat.le_trans (Nat.mul_le_mul_right _ (by omega)) hb), Or.inr rfl⟩
  · by_cases hroom : n + m ≤ cap
    · exact ⟨_, _, run_append_room (P := P) w t ty e i ht hi g n cap cur hg a m c news (by rw [hsize]; exact hl) hnews h1 hroom (by rw [hsize, hl, hcs]; omega), Or.inl rfl⟩
    · have holds : ∀ j u, xs[j]? = some u → w.cell? ((⟨g, 0, none⟩ : Addr).add j) = some u := hown.cells (g := g) rfl
      exact ⟨_, _, run_append_grow (P := P) w t ty e i z ht hi hz ⟨g, 0, none⟩ n cap xs (by rw [hsize]; exact hown.1) holds a m c news (by rw [hsize]; exact hl) hnews (by omega) (by omega) (by rw [hby]; exact growslice_fits_wide (by omega) hbytes), Or.inr rfl⟩

theorem R_append_wide {P : Program} {w0 W : World} {ops : Array Oper} {rest : List Oper} {o : Oper} {a : Act} {Q : Exit → Act → World → Prop} (k : IntKind) (base : Nat) (hgd : o.guard = none) (s x : Operand) (t e : TypeId) (z : Value) (bytes : Nat)
    (ho : o.op = .call { callee := .builtin .append, args := #[s, x], argTypes := #[t, t] })
    (ht : P.underlying t = some (.slice e)) (hinfo : (P.info? e).map (fun i => (i.zero, i.size, i.bytes)) = some (some z, 1, bytes)) (hz : z.cells.size = 1) (_hs0 : 0 < 1) (hb0 : bytes = 1)
    (v : Value) (xs ys : List Int) (A : Option Addr) (m c : Nat) (ok okp : Nat → Prop) (hs : a.eval s = v) (hx : a.eval x = .slice A m c)
    (HO : (Kd.int k).R e W base ok v xs) (HR : (Kd.int k).C W A m ys) (_hKM : Nat → Nat → True → True) (_hokp : ∀ k, okp k → ok k ∧ some k ≠ v.ownBlock) (hfresh : ∀ k, W.heap.size ≤ k → ok k)
    (HB : Below base w0 W) (hbase : base ≤ W.heap.size) (hl : (xs.length + m) * bytes ≤ 211106232532992)
    (h : ∀ v1 w1, (Kd.int k).R e w1 base ok v1 (xs ++ ys) → Below base w0 w1 → W.grownBy w1 v.ownBlock → (v1.ownBlock = v.ownBlock ∨ ∃ b, v1.ownBlock = some b ∧ W.heap.size ≤ b) → wpList P ops Q rest (a.put o.dst v1) w1) :
    wpList P ops Q (o :: rest) a W := by
  obtain ⟨i0, hi, hz0, hz1, hz2⟩ := info_parts hinfo
  subst hb0
  have hm : ys.length = m := HR.1
  have hown := Kd.own_of_R (enc := Value.int k) (h1 := fun _ => rfl) HO
  have hokv : ∀ k, v.ownBlock = some k → ok k := HO.1
  have hrun : ∃ v1 w1, (Builtin.append_ #[t, t] o.type #[v, .slice A m c]).run P W = .ok v1 w1 ∧ (Kd.int k).R e w1 base ok v1 (xs ++ ys) ∧ W.grownBy w1 v.ownBlock ∧ (v1.ownBlock = v.ownBlock ∨ ∃ b, v1.ownBlock = some b ∧ W.heap.size ≤ b) := by
    rcases A with _ | ad
    · have h0 : m = 0 := by
        rcases Nat.eq_zero_or_pos m with h0 | h0
        · exact h0
        · obtain ⟨ad, h, _⟩ := HR.2.2 h0
          cases h
      subst h0
      obtain rfl : ys = [] := List.eq_nil_of_length_eq_zero hm
      refine ⟨v, W, ?_, by rw [List.append_nil]; exact HO, World.grownBy.refl W _, .inl rfl⟩
      rcases hown.2 with ⟨rfl, hn⟩ | ⟨g, cap, cur, rfl, _, _, hnc, _⟩
      · simp [Builtin.append_, run_underlying ht, sizeOf, typeInfo, hi, Builtin.lenOf, Builtin.firstCells]
      · simp [Builtin.append_, run_underlying ht, sizeOf, typeInfo, hi, Builtin.lenOf, Builtin.firstCells, hnc, storeCells]
    · have hcells := C_cells HR
      have hone : ∀ u ∈ ys.map (Value.int k), u.oneCell' = true := fun u hu => by obtain ⟨p, _, rfl⟩ := List.mem_map.1 hu; rfl
      have h63 : xs.length + m ≤ maxLen := by simp only [maxLen]; omega
      have hby : ((xs.length + m) + (xs.length + m) / 4 + 192) * 1 ≤ 281474976710656 := by omega
      obtain ⟨v1, w1, hr1, h2, hg, _⟩ := run_append_own_wide (P := P) W base t o.type e i0 z 1 1 ht hi hz0 hz1 hz2 hz (by decide) v xs.length _ hown ad m c (ys.map (Value.int k)) (by simp [hm]) hcells hone h63 hby hbase
      obtain ⟨v2, w2, hr2, hat⟩ := append_hat (P := P) W base t o.type e i0 z 1 ht hi hz0 hz1 hz2 v xs.length _ hown ad m c (ys.map (Value.int k)) (by simp [hm]) hcells hone h63 hby
      rw [hr1] at hr2
      injection hr2 with e1 e2
      subst e1 e2
      have hlen : xs.length + m = (xs ++ ys).length := by rw [List.length_append]; omega
      have h3 : w1.ownsRow base e 1 v1 (xs ++ ys).length ((xs ++ ys).map (Value.int k)) := by rw [← hlen, List.map_append]; exact h2
      refine ⟨v1, w1, hr1, Kd.R_of_own (enc := Value.int k) (h1 := fun _ => rfl) h3 (fun k' hk => ?_), hg, ?_⟩
      · rcases hat with hat | hat
        · exact hokv k' (hat ▸ hk)
        · rw [hat] at hk
          injection hk with hk
          exact hfresh k' (by omega)
      · rcases hat with hat | hat
        · exact .inl hat
        · exact .inr ⟨_, hat, Nat.le_refl _⟩
  obtain ⟨v1, w1, hr1, h1, hg, hat⟩ := hrun
  refine wpList_plain hgd fun K hK => ?_
  unfold Oper.wp execOp
  simp only [ho, resolve, invoke, builtin, Sem.run_bind, Sem.run_pure, Result.andThen_ok, List.map_toArray, List.map_cons, List.map_nil, hs, hx, hr1]
  exact hK _ _ (h v1 w1 h1 (HB.grown hg hbase (own_base hown)) hg hat)
end Go.Proofs.Ytpihpabofgmahaa.X
