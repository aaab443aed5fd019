/- What the bytes of an inode come to. -/
import Derived.Test.YtkpkmkgmpggjaaaUx1
import Derived.Test.YtkpkmkgmpggjaaaUx4
import Derived.Test.YtkpkmkgmpggjaaaUx5
import Derived.Test.YtkpkmkgmpggjaaaPCrc2
namespace Go.Proofs.Ytkpkmkgmpggjaaa.Pure
open Go Go.RowKit Go.Proofs.Ytkpkmkgmpggjaaa.U Go.Proofs.YtkpkmkgmpggjaaaW.PrintWords Go.Proofs.YtkpkmkgmpggjaaaW.PrintLast Go.Proofs.YtkpkmkgmpggjaaaW.PrintMore
set_option linter.unusedVariables false
set_option linter.unusedSimpArgs false
structure Ino where
  kind : Int
  links : Int
  size : Int
  inl : Bool
  attrs : Int
  body : List Int
def Ino.zero : Ino := ⟨0, 0, 0, false, 0, []⟩
/-- The numbers are Go's. -/
structure Ino.Wf (x : Ino) : Prop where
  kind : -9223372036854775808 ≤ x.kind ∧ x.kind ≤ 9223372036854775807
  links : -9223372036854775808 ≤ x.links ∧ x.links ≤ 9223372036854775807
  size : -9223372036854775808 ≤ x.size ∧ x.size ≤ 9223372036854775807
  attrs : -9223372036854775808 ≤ x.attrs ∧ x.attrs ≤ 9223372036854775807
  body : X.u8all x.body = true
  len : x.body.length ≤ 140737488351232
def Ino.ok (x : Ino) : Bool := inode_Check.ok x.kind x.links x.size x.inl x.attrs x.body.length
def Ino.none (x : Ino) : Bool := decide (x.kind = 0 ∧ x.links = 0 ∧ x.size = 0 ∧ x.inl = false ∧ x.attrs = 0 ∧ x.body.length = 0)
def Ino.hd (x : Ino) : List Int := [x.kind % 256, if x.inl = true then 1 else 0] ++ bytesN (IntKind.u64.wrap x.links) 2 ++ bytesN (IntKind.u64.wrap x.size) 4 ++ bytesN (IntKind.u64.wrap x.attrs) 4 ++ x.body ++ List.replicate 52 0
def inoSeed (n : Int) : Int := X.crcMore 0 (bytesN (IntKind.u64.wrap n) 4)
def Ino.enc (x : Ino) (n : Int) : List Int := x.hd ++ bytesN (X.crcMore (inoSeed n) x.hd) 4
def encOf (x : Ino) (n : Int) : List Int × Int := if 0 ≤ n ∧ n ≤ 1048576 then (if x.none = true then (List.replicate 128 0, 0) else (if x.ok = true then (x.enc n, 0) else ([], 1))) else ([], 1)
theorem Ino.ok_len {x : Ino} (h : x.ok = true) : x.body.length = 60 := by
  unfold Ino.ok inode_Check.ok at h
  simp only [Bool.and_eq_true, decide_eq_true_eq] at h
  exact h.1.1.1.1
theorem Ino.ok_tells {x : Ino} (h : x.ok = true) : (1 ≤ x.kind ∧ x.kind ≤ 3) ∧ (0 ≤ x.links ∧ x.links ≤ 100) ∧ (0 ≤ x.size ∧ x.size ≤ 65536) ∧ (0 ≤ x.attrs ∧ x.attrs ≤ 1023) := by
  unfold Ino.ok inode_Check.ok at h
  simp only [Bool.and_eq_true, decide_eq_true_eq, ge_iff_le] at h
  obtain ⟨⟨⟨⟨h0, h1⟩, h2⟩, h3⟩, h4⟩ := h
  refine ⟨?_, h1, h2, h3⟩
  by_cases c2 : x.kind = 2
  · omega
  · rw [if_neg c2] at h4
    by_cases c1 : x.kind = 1 ∨ x.kind = 3
    · omega
    · rw [if_neg c1] at h4
      cases h4
theorem Ino.ok_none {x : Ino} (h : x.ok = true) : x.none = false := by
  have := Ino.ok_tells h
  unfold Ino.none
  exact decide_eq_false (by omega)
theorem Ino.hd_length {x : Ino} (h : x.body.length = 60) : x.hd.length = 124 := by simp [Ino.hd, bytesN_length, h]
theorem Ino.enc_length {x : Ino} (h : x.body.length = 60) (n : Int) : (x.enc n).length = 128 := by simp [Ino.enc, bytesN_length, Ino.hd_length h]
theorem zeros_u8' (n : Nat) : X.u8all (List.replicate n 0) = true := X.u8all_iff.2 (fun c hc => by rw [List.eq_of_mem_replicate hc]; decide)
theorem Ino.hd_u8 {x : Ino} (h : X.u8all x.body = true) : X.u8all x.hd = true := by
  unfold Ino.hd
  refine X.u8all_append.2 ⟨X.u8all_append.2 ⟨X.u8all_append.2 ⟨X.u8all_append.2 ⟨X.u8all_append.2 ⟨?_, bytesN_u8 _ _⟩, bytesN_u8 _ _⟩, bytesN_u8 _ _⟩, h⟩, zeros_u8' 52⟩
  refine X.u8all_iff.2 (fun c hc => ?_)
  rcases List.mem_cons.1 hc with rfl | hc
  · omega
  · rw [List.mem_singleton.1 hc]
    cases x.inl <;> decide
theorem Ino.enc_u8 {x : Ino} (h : X.u8all x.body = true) (n : Int) : X.u8all (x.enc n) = true := X.u8all_append.2 ⟨Ino.hd_u8 h, bytesN_u8 _ _⟩
theorem lay_at (A B1 B2 ys : List Int) (j : Nat) (hj : A.length = j) (h : B1.length = ys.length) : X.lay (A ++ (B1 ++ B2)) j ys = A ++ (ys ++ B2) := by
  subst hj
  unfold X.lay
  rw [List.take_left, ← h, ← List.drop_drop, List.drop_left, List.drop_left]
theorem ino_body_eq (x : Ino) (h : x.body.length = 60) : ino_body x.kind x.links x.size x.inl x.attrs x.body = x.hd ++ List.replicate 4 0 := by
  have e0 : ino_head x.kind x.inl = [x.kind % 256, if x.inl = true then 1 else 0] ++ (List.replicate 2 0 ++ List.replicate 124 0) := by
    unfold ino_head
    cases x.inl <;> rfl
  unfold ino_body ino_3 ino_2 ino_1
  rw [e0, lay_at _ _ _ _ 2 rfl (by rw [ino_word_length]; rfl), ← List.append_assoc, show (List.replicate 124 (0 : Int)) = List.replicate 4 0 ++ List.replicate 120 0 from rfl, lay_at _ _ _ _ 4 (by simp [ino_word_length]) (by rw [ino_word_length]; rfl),
    ← List.append_assoc, show (List.replicate 120 (0 : Int)) = List.replicate 4 0 ++ List.replicate 116 0 from rfl, lay_at _ _ _ _ 8 (by simp [ino_word_length]) (by rw [ino_word_length]; rfl),
    ← List.append_assoc, show (List.replicate 116 (0 : Int)) = List.replicate 60 0 ++ (List.replicate 52 0 ++ List.replicate 4 0) from rfl, lay_at _ _ _ _ 12 (by simp [ino_word_length]) (by rw [h]; rfl)]
  unfold Ino.hd
  simp only [List.append_assoc]
  rfl
theorem clamp2 : clamp8 2 = 2 := rfl
theorem clamp4 : clamp8 4 = 4 := rfl
theorem ino_sum_f (x : Ino) (hx : x.body.length = 60) (hb : X.u8all x.body = true) (n : Int) (z : List Int) : inode_sum.f 9 (x.hd ++ z) n = some (X.crcMore (inoSeed n) x.hd) := by
  have hl := Ino.hd_length hx
  have hr := X.crcMore_range (inoSeed n) x.hd
  unfold inode_sum.f
  rw [bytes_f _ _ 9 (by decide), Option.bind_some, clamp4, sum_f (bytesN_u8 _ _), Option.bind_some, if_pos (by rw [List.length_append]; omega)]
  have ht : (x.hd ++ z).take 124 = x.hd := by rw [← hl]; exact List.take_left
  rw [ht, more_f (Ino.hd_u8 hb), Option.bind_some]
  show some (IntKind.u64.wrap (X.crcMore (inoSeed n) x.hd)) = _
  rw [u64_wrap, Int.emod_eq_of_lt hr.1 (by omega)]
theorem or_zero64 (a b : Int) (ha : -9223372036854775808 ≤ a ∧ a ≤ 9223372036854775807) (hb : -9223372036854775808 ≤ b ∧ b ≤ 9223372036854775807) :
    (Go.bits .or .i64 a b = 0 ↔ a = 0 ∧ b = 0) ∧ (-9223372036854775808 ≤ Go.bits .or .i64 a b ∧ Go.bits .or .i64 a b ≤ 9223372036854775807) := by
  have hz : ∀ c : Int, -9223372036854775808 ≤ c ∧ c ≤ 9223372036854775807 → (BitVec.ofInt 64 c = 0#64 ↔ c = 0) := by
    intro c hc
    constructor
    · intro h
      have := congrArg BitVec.toInt h
      rw [BitVec.toInt_ofInt, BitVec.toInt_zero] at this
      simp [Int.bmod] at this
      omega
    · rintro rfl; rfl
  have he : Go.bits .or .i64 a b = wrap64 ((BitVec.ofInt 64 a ||| BitVec.ofInt 64 b).toNat : Int) := i64_w _
  rw [he]
  generalize hv : BitVec.ofInt 64 a ||| BitVec.ofInt 64 b = v
  have hlt := v.isLt
  refine ⟨?_, by unfold wrap64; omega⟩
  have h1 : wrap64 (v.toNat : Int) = 0 ↔ v = 0#64 := by
    constructor
    · intro h
      apply BitVec.eq_of_toNat_eq
      show v.toNat = 0
      unfold wrap64 at h
      omega
    · intro h
      rw [h]
      show wrap64 0 = 0
      unfold wrap64
      omega
  rw [h1, ← hv, ← hz a ha, ← hz b hb]
  constructor
  · intro h
    constructor
    · apply BitVec.eq_of_getLsbD_eq
      intro i hi
      have := congrArg (fun q => q.getLsbD i) h
      simp only [BitVec.getLsbD_or, BitVec.getLsbD_zero, Bool.or_eq_false_iff] at this
      rw [this.1, BitVec.getLsbD_zero]
    · apply BitVec.eq_of_getLsbD_eq
      intro i hi
      have := congrArg (fun q => q.getLsbD i) h
      simp only [BitVec.getLsbD_or, BitVec.getLsbD_zero, Bool.or_eq_false_iff] at this
      rw [this.2, BitVec.getLsbD_zero]
  · rintro ⟨h2, h3⟩
    rw [h2, h3]
    rfl
theorem none_f (x : Ino) (hx : x.Wf) : inode_none.f x.kind x.links x.size x.inl x.attrs x.body = some x.none := by
  obtain ⟨e1, r1⟩ := or_zero64 x.kind x.links hx.kind hx.links
  obtain ⟨e2, r2⟩ := or_zero64 _ x.size r1 hx.size
  obtain ⟨e3, r3⟩ := or_zero64 _ x.attrs r2 hx.attrs
  have hl := hx.len
  obtain ⟨e4, _⟩ := or_zero64 _ (x.body.length : Int) r3 (by omega)
  unfold inode_none.f Ino.none
  by_cases h : Go.bits .or .i64 (Go.bits .or .i64 (Go.bits .or .i64 (Go.bits .or .i64 x.kind x.links) x.size) x.attrs) (x.body.length : Int) = 0
  · rw [if_pos h]
    rw [e4, e3, e2, e1] at h
    congr 1
    have hlen : x.body.length = 0 := by omega
    obtain ⟨⟨⟨⟨h1, h2⟩, h3⟩, h4⟩, _⟩ := h
    simp [h1, h2, h3, h4, hlen]
  · rw [if_neg h]
    rw [e4, e3, e2, e1] at h
    congr 1
    exact (decide_eq_false (fun hh => h ⟨⟨⟨⟨hh.1, hh.2.1⟩, hh.2.2.1⟩, hh.2.2.2.2.1⟩, by omega⟩)).symm
theorem encode_f (x : Ino) (hx : x.Wf) (n : Int) : inode_Encode.f x.kind x.links x.size x.inl x.attrs x.body n = some (encOf x n) := by
  unfold inode_Encode.f encOf
  rw [inode_between_int.val, Option.bind_some]
  by_cases hn : 0 ≤ n ∧ n ≤ 1048576
  · rw [if_pos (by simp; omega), if_pos hn, none_f x hx, Option.bind_some]
    by_cases hz : x.none = true
    · rw [if_pos hz, if_pos hz]
    · rw [if_neg hz, if_neg hz]
      show (some (if x.ok = true then 0 else 1) : Option Int).bind _ = _
      rw [Option.bind_some]
      by_cases ho : x.ok = true
      · have h60 := Ino.ok_len ho
        have hr := X.crcMore_range (inoSeed n) x.hd
        rw [if_pos ho, if_pos rfl, if_pos ho, ino_body_eq x h60, ino_sum_f x h60 hx.body, Option.bind_some]
        congr 2
        have e := lay_at x.hd (List.replicate 4 0) [] (ino_word 4 (X.crcMore (inoSeed n) x.hd)) 124 (Ino.hd_length h60) (by rw [ino_word_length]; rfl)
        rw [List.append_nil, List.append_nil] at e
        rw [e]
        show x.hd ++ bytesN (IntKind.u64.wrap _) 4 = _
        rw [u64_wrap, Int.emod_eq_of_lt hr.1 (by omega)]
        rfl
      · rw [if_neg ho, if_neg (by decide), if_neg ho]
  · rw [if_neg (by simp; omega), if_neg hn]
theorem check_f (x : Ino) : inode_Check.f x.kind x.links x.size x.inl x.attrs x.body = some (if x.ok = true then 0 else 1) := rfl
theorem inoSeed_append (n : Int) (l : List Int) : X.crcMore 0 (bytesN (IntKind.u64.wrap n) 4 ++ l) = X.crcMore (inoSeed n) l := (X.crcMore_append 0 _ l).symm
end Go.Proofs.Ytkpkmkgmpggjaaa.Pure
