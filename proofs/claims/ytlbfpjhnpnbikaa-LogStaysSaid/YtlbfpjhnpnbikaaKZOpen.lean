/- PureLogStays ZOpen: what this claim uses. Laid by slim.py (ours). -/
import Derived.Test.YtlbfpjhnpnbikaaKUx41
import Derived.Test.YtlbfpjhnpnbikaaKUx42
import Derived.Test.YtlbfpjhnpnbikaaKPRecP
import Derived.SizedLaws
import Derived.ChangeSlices
import Derived.ChangeArms
import Derived.WideShapes
import Derived.OpenShut
import Derived.RowKit
import Derived.Test.YtlbfpjhnpnbikaaKWMore
section
namespace Go.Proofs.Ytlbfpjhnpnbikaa.Pure
open Go Go.RowKit Go.Proofs.Ytlbfpjhnpnbikaa.U Go.Proofs.YtlbfpjhnpnbikaaW.PrintWords Go.Proofs.YtlbfpjhnpnbikaaW.PrintLast Go.Proofs.YtlbfpjhnpnbikaaW.PrintMore
set_option linter.unusedVariables false
set_option linter.unusedSimpArgs false
theorem okD4_of {l : List S62} (h : ∀ x ∈ l, (Lit.int .i64 x.f0).wf = true ∧ ((Lit.int .u64 x.f1.f0).wf = true ∧ ((∀ y ∈ x.f1.f1, (Lit.int .i64 y.f0).wf = true ∧ (∀ c ∈ y.f1, (Lit.int .u8 c).wf = true) ∧ y.f1.length * 1 ≤ 140737488351232) ∧ x.f1.f1.length * 32 ≤ 140737488351232) ∧ ((∀ y ∈ x.f1.f2, (Lit.int .i64 y).wf = true) ∧ x.f1.f2.length * 8 ≤ 140737488351232)) ∧ ((∀ y ∈ x.f2, (Lit.int .u8 y).wf = true) ∧ x.f2.length * 1 ≤ 140737488351232)) : okD4 l = true := by
  unfold okD4
  refine List.all_eq_true.2 (fun x hx => ?_)
  obtain ⟨-, ⟨h1, ⟨h2, h3⟩, h4, h5⟩, -⟩ := h x hx
  exact recB_iff.2 (came h1 h2 h3 h4 h5)
theorem LogStays (a b c : Int) (l : List S62) {H1 H2 H3 : Prop} (h1 : H1) (h2 : H2) (h3 : H3) (hw1 : ∀ x ∈ l, (Lit.int .i64 x.f0).wf = true ∧ ((Lit.int .u64 x.f1.f0).wf = true ∧ ((∀ y ∈ x.f1.f1, (Lit.int .i64 y.f0).wf = true ∧ (∀ c ∈ y.f1, (Lit.int .u8 c).wf = true) ∧ y.f1.length * 1 ≤ 140737488351232) ∧ x.f1.f1.length * 32 ≤ 140737488351232) ∧ ((∀ y ∈ x.f1.f2, (Lit.int .i64 y).wf = true) ∧ x.f1.f2.length * 8 ≤ 140737488351232)) ∧ ((∀ y ∈ x.f2, (Lit.int .u8 y).wf = true) ∧ x.f2.length * 1 ≤ 140737488351232)) (y1 : l.length * 88 ≤ 140737488351232) : undercroftlaw04_LogStays.f a b c l = some true := by
  unfold undercroftlaw04_LogStays.f
  exact if_pos (okD4_of hw1)
end Go.Proofs.Ytlbfpjhnpnbikaa.Pure
end
section
namespace Go.Proofs.Ytlbfpjhnpnbikaa.Y
open Go Go.ChangeShapes Go.WideShapes Go.RowKit Go.Proofs.YtlbfpjhnpnbikaaW.PrintWords
structure Opens (P : Program) (t : TypeId) {α : Type} (d : Kd α) (wf : α → Prop) : Prop where
  cells : P.cellsOf t = d.sz
  opens : ∀ {H : Type} {enc : TypeId × Value → H} {W : World} {base : Nat} {sp : Nat → Bool} {held : Bool} {fuel : Nat} {cs : List Value} {x : DataW H × List MemPlace},
    DataW.trod enc P W base sp held fuel t cs = some x → (∀ n ∈ x.1.weights P t, n ≤ reachBytes) → ∃ a, d.K W a cs ∧ wf a
section
variable {P : Program} {t : TypeId}
theorem Opens.int {k : IntKind} (hu : P.underlying t = some (.int k)) (hc : P.cellsOf t = 1) : Opens P t (Kd.int k) (fun n => (Lit.int k n).wf = true) :=
  ⟨hc, fun h _ => by obtain ⟨n, rfl, _, hw⟩ := DataW.trod_int hu h; exact ⟨n, rfl, hw⟩⟩
theorem Opens.bool (hu : P.underlying t = some .bool) (hc : P.cellsOf t = 1) : Opens P t Kd.bool (fun _ => True) :=
  ⟨hc, fun h _ => by obtain ⟨n, rfl, _⟩ := DataW.trod_bool hu h; exact ⟨n, rfl, trivial⟩⟩
theorem Opens.iso {α β : Type} {d : Kd α} {wf : α → Prop} (h : Opens P t d wf) (f : β → α) (g : α → β) (hg : ∀ a, f (g a) = a) : Opens P t (Kd.iso d f) (fun b => wf (f b)) :=
  ⟨h.cells, fun h1 h2 => by obtain ⟨a, hK, hw⟩ := h.opens h1 h2; exact ⟨g a, by show d.K _ (f (g a)) _; rw [hg]; exact hK, by rw [hg]; exact hw⟩⟩
theorem mem_weightsAll {H : Type} {e : TypeId} : ∀ {l : List (DataW H)} {d : DataW H} {n : Nat}, d ∈ l → n ∈ d.weights P e → n ∈ DataW.weightsAll P e l := by
  intro l
  induction l with
  | nil => intro d n h; cases h
  | cons y r ih =>
    intro d n h hn
    unfold DataW.weightsAll
    rcases List.mem_cons.1 h with rfl | h
    · exact List.mem_append_left _ hn
    · exact List.mem_append_right _ (ih h hn)
theorem mem_weightsEach {H : Type} : ∀ {ts : List TypeId} {ds : List (DataW H)} {j : Nat} {t : TypeId} {d : DataW H} {n : Nat}, ts[j]? = some t → ds[j]? = some d → n ∈ d.weights P t → n ∈ DataW.weightsEach P ts ds := by
  intro ts
  induction ts with
  | nil => intro ds j t d n h; simp at h
  | cons t0 ts ih =>
    intro ds j t d n ht hd hn
    cases ds with
    | nil => simp at hd
    | cons d0 ds =>
      unfold DataW.weightsEach
      cases j with
      | zero =>
        simp only [List.getElem?_cons_zero, Option.some.injEq] at ht hd
        subst ht; subst hd
        exact List.mem_append_left _ hn
      | succ j => exact List.mem_append_right _ (ih (by simpa using ht) (by simpa using hd) hn)
theorem weights_at {H : Type} {ts : List TypeId} {ds : List (DataW H)} (h : (DataW.weightsEach P ts ds).all (· ≤ reachBytes) = true) {j : Nat} {t : TypeId} {d : DataW H} (ht : ts[j]? = some t) (hd : ds[j]? = some d) : ∀ n ∈ d.weights P t, n ≤ reachBytes := by
  intro n hn
  exact of_decide_eq_true (List.all_eq_true.1 h n (mem_weightsEach ht hd hn))
theorem choose_list {α β : Type} (Q : Nat → α → β → Prop) : ∀ (l : List α) (o : Nat), (∀ i y, l[i]? = some y → ∃ a, Q (o + i) y a) → ∃ zs_ : List β, zs_.length = l.length ∧ ∀ i y a, l[i]? = some y → zs_[i]? = some a → Q (o + i) y a := by
  intro l
  induction l with
  | nil => intro o _; exact ⟨[], rfl, fun i y a h => by simp at h⟩
  | cons y r ih =>
    intro o h
    obtain ⟨a, ha⟩ := h 0 y rfl
    obtain ⟨zs_, hl, has⟩ := ih (o + 1) (fun i y' hy => by obtain ⟨a', h'⟩ := h (i + 1) y' (by simpa using hy); exact ⟨a', by rw [show o + 1 + i = o + (i + 1) from by omega]; exact h'⟩)
    refine ⟨a :: zs_, by simp [hl], fun i y' a' hy ha' => ?_⟩
    cases i with
    | zero =>
      simp only [List.getElem?_cons_zero, Option.some.injEq] at hy ha'
      subst hy; subst ha'
      exact ha
    | succ i =>
      have := has i y' a' (by simpa using hy) (by simpa using ha')
      rw [show o + 1 + i = o + (i + 1) from by omega] at this
      exact this
theorem Opens.slice {α : Type} {d : Kd α} {wf : α → Prop} {e : TypeId} (hu : P.underlying t = some (.slice e)) (hc : P.cellsOf t = 1) (b : Nat) (hb : P.bytesOf e = b) (he : Opens P e d wf) :
    Opens P t (Kd.slice e d) (fun xs => (∀ x ∈ xs, wf x) ∧ xs.length * b ≤ 140737488351232) := by
  refine ⟨hc, fun {H enc W base sp held fuel cs x} h hw => ?_⟩
  rcases DataW.trod_slice hu h with ⟨rfl, _⟩ | ⟨ad, len, cap, elems, rest, n, _, rfl, rfl, hbs, hl, hm, hlen, hel, hsp, hns⟩
  · exact ⟨[], ⟨none, 0, rfl, Nat.le_refl _, rfl, by simp, fun h => absurd h (Nat.lt_irrefl 0)⟩, fun x hx => by simp at hx, by simp⟩
  have hw1 : ∀ y ∈ elems, ∀ n ∈ y.1.weights P e, n ≤ reachBytes := by
    intro y hy n hn
    refine hw n ?_
    show n ∈ DataW.weights P t (.slice _ _)
    unfold DataW.weights
    rw [hu]
    exact List.mem_cons_of_mem _ (List.mem_append_left _ (mem_weightsAll (List.mem_map_of_mem hy) hn))
  have hw2 : (elems.length + rest.length) * P.bytesOf e ≤ reachBytes := by
    refine hw _ ?_
    show _ ∈ DataW.weights P t (.slice _ _)
    unfold DataW.weights
    rw [hu]
    refine List.mem_cons.2 (Or.inl ?_)
    simp
  have each : ∀ i y, elems[i]? = some y → ∃ a, (∃ c, d.K W a c ∧ ∀ j u, c[j]? = some u → W.cell? (ad.add (i * d.sz + j)) = some u) ∧ wf a := by
    intro i y hy
    have hi : i < len := by have := (List.getElem?_eq_some_iff.1 hy).1; omega
    have h1 := hel i hi
    rw [hy, Option.bind_eq_some_iff] at h1
    obtain ⟨c, hcells, htr⟩ := h1
    obtain ⟨a, hK, hwa⟩ := he.opens htr (hw1 y (List.mem_of_getElem? hy))
    refine ⟨a, ⟨c, hK, fun j u hj => ?_⟩, hwa⟩
    have h2 := World.cells?_some hcells
    have hlc := d.K_len hK
    have hj' : j < c.length := (List.getElem?_eq_some_iff.1 hj).1
    rw [he.cells] at h2 hcells
    have h3 := h2.2.2 j (by omega)
    rw [hj] at h3
    have e1 : (ad.add (i * d.sz)).add j = ad.add (i * d.sz + j) := by unfold Addr.add; split <;> split <;> simp_all <;> omega
    rw [← e1]
    exact h3
  obtain ⟨zs_, hla, has⟩ := choose_list (fun i y a => (∃ c, d.K W a c ∧ ∀ j u, c[j]? = some u → W.cell? (ad.add (i * d.sz + j)) = some u) ∧ wf a) elems 0 (fun i y hy => by rw [Nat.zero_add]; exact each i y hy)
  have has' : ∀ i a, zs_[i]? = some a → (∃ c, d.K W a c ∧ ∀ j u, c[j]? = some u → W.cell? (ad.add (i * d.sz + j)) = some u) ∧ wf a := by
    intro i a ha
    have hi : i < elems.length := by have := (List.getElem?_eq_some_iff.1 ha).1; omega
    have := has i _ a (List.getElem?_eq_getElem hi) ha
    rwa [Nat.zero_add] at this
  have hn : zs_.length = len := by rw [hla, hlen]
  refine ⟨zs_, ⟨some ad, cap, by rw [hn], by rw [hn]; exact hl, rfl, ?_, fun _ => ⟨ad, rfl, fun j p hp => ?_⟩⟩, ?_, ?_⟩
  · rw [hn]; have : maxLen = 9223372036854775807 := rfl; omega
  · obtain ⟨⟨c, hK, hcc⟩, _⟩ := has' j p hp
    exact ⟨c, d.K_len hK, hK, hcc⟩
  · intro x hx
    obtain ⟨i, hi⟩ := List.getElem?_of_mem hx
    exact (has' i x hi).2
  · rw [hn, ← hb]
    have h3 : reachBytes = 140737488351232 := rfl
    rw [hlen, h3, Nat.add_mul] at hw2
    omega
structure OpensF (P : Program) (fs : List Field) (o : Nat) {α : Type} (d : Kd α) (wf : α → Prop) : Prop where
  opens : ∀ {H : Type} {enc : TypeId × Value → H} {W : World} {base : Nat} {sp : Nat → Bool} {held : Bool} {m : Nat} {cs : List Value} {xs : List (DataW H × List MemPlace)}, xs.length = fs.length →
    (∀ (i : Nat) (f : Field), fs[i]? = some f → DataW.trod enc P W base sp held m f.type ((cs.drop f.offset).take (P.cellsOf f.type)) = xs[i]?) →
    (∀ n ∈ DataW.weightsEach P (fs.map (·.type)) (xs.map (·.1)), n ≤ reachBytes) → ∃ a, d.K W a ((cs.drop o).take d.sz) ∧ wf a
theorem OpensF.one {f : Field} {o : Nat} {α : Type} {d : Kd α} {wf : α → Prop} (ho : f.offset = o) (h : Opens P f.type d wf) : OpensF P [f] o d wf := by
  refine ⟨fun {H enc W base sp held m cs xs} hl hF hw => ?_⟩
  match xs, hl with
  | [y], _ =>
    have h1 := hF 0 f rfl
    rw [ho, h.cells] at h1
    exact h.opens h1 (fun n hn => hw n (List.mem_append_left _ hn))
theorem OpensF.cons {f : Field} {fs : List Field} {o : Nat} {α β : Type} {d1 : Kd α} {d2 : Kd β} {wf1 : α → Prop} {wf2 : β → Prop} (ho : f.offset = o) (h : Opens P f.type d1 wf1) (hs : OpensF P fs (o + d1.sz) d2 wf2) :
    OpensF P (f :: fs) o (Kd.pair d1 d2) (fun x => wf1 x.1 ∧ wf2 x.2) := by
  refine ⟨fun {H enc W base sp held m cs xs} hl hF hw => ?_⟩
  cases xs with
  | nil => simp at hl
  | cons y ys =>
    have h1 := hF 0 f rfl
    rw [ho, h.cells] at h1
    obtain ⟨a, hK, hwa⟩ := h.opens h1 (fun n hn => hw n (List.mem_append_left _ hn))
    obtain ⟨b, hK2, hwb⟩ := hs.opens (xs := ys) (by simpa using hl) (fun i g hg => hF (i + 1) g hg) (fun n hn => hw n (List.mem_append_right _ hn))
    refine ⟨(a, b), ⟨_, _, ?_, hK, hK2⟩, hwa, hwb⟩
    show (cs.drop o).take (d1.sz + d2.sz) = _
    rw [List.take_add, List.drop_drop]
theorem Opens.struct {α : Type} {d : Kd α} {wf : α → Prop} {fs : Array Field} (hu : P.underlying t = some (.struct fs)) (hc : P.cellsOf t = d.sz) (h : OpensF P fs.toList 0 d wf) : Opens P t d wf := by
  refine ⟨hc, fun {H enc W base sp held fuel cs x} h1 hw => ?_⟩
  obtain ⟨xs, m, rfl, rfl, hl, hlen, hF⟩ := DataW.trod_struct hu h1
  obtain ⟨a, hK, hwa⟩ := h.opens (xs := xs) (by simpa using hlen) (fun i f hf => hF i f (by simpa using hf)) (by
    intro n hn
    refine hw n ?_
    show n ∈ DataW.weights P t (.agg _)
    unfold DataW.weights
    rw [hu]
    exact hn)
  refine ⟨a, ?_, hwa⟩
  rw [List.drop_zero, List.take_of_length_le (by rw [hl, hc]; exact Nat.le_refl _)] at hK
  exact hK
end
end Go.Proofs.Ytlbfpjhnpnbikaa.Y
end
