/- Sums of bytes in plain words: 32 digits of two, eight steps of a byte, what is linear, what is told apart. -/
import Derived.Test.YtdjenkcafhdicaaX0
namespace Go.Proofs.Ytdjenkcafhdicaa.G
open Go
abbrev B := BitVec 32
def polyB : B := 0xEDB88320#32
def oneB (v : B) : B := (v >>> 1) ^^^ (if v.getLsbD 0 then polyB else 0#32)
def eightB (v : B) : B := oneB (oneB (oneB (oneB (oneB (oneB (oneB (oneB v)))))))
theorem one_xor (a b : B) : oneB (a ^^^ b) = oneB a ^^^ oneB b := by
  unfold oneB
  rw [BitVec.getLsbD_xor, BitVec.ushiftRight_xor_distrib]
  cases a.getLsbD 0 <;> cases b.getLsbD 0 <;> simp
  · simp only [BitVec.xor_assoc]
  · rw [BitVec.xor_assoc, BitVec.xor_assoc, BitVec.xor_comm polyB]
  · rw [BitVec.xor_assoc, BitVec.xor_comm polyB, BitVec.xor_assoc, BitVec.xor_self, BitVec.xor_zero]
theorem eight_xor (a b : B) : eightB (a ^^^ b) = eightB a ^^^ eightB b := by
  simp only [eightB, one_xor]
theorem one_zero : oneB 0#32 = 0#32 := by decide
theorem eight_zero : eightB 0#32 = 0#32 := by decide
theorem one_inj0 (a : B) (h : oneB a = 0#32) : a = 0#32 := by
  unfold oneB at h
  by_cases hb : a.getLsbD 0 = true
  · rw [if_pos hb] at h
    have h31 := congrArg (fun v => v.getLsbD 31) h
    simp [polyB] at h31
  · rw [if_neg hb, BitVec.xor_zero] at h
    apply BitVec.eq_of_getLsbD_eq
    intro i hi
    cases i with
    | zero => simpa using hb
    | succ i =>
      have := congrArg (fun v => v.getLsbD i) h
      simpa [BitVec.getLsbD_ushiftRight, Nat.add_comm] using this
theorem xor_eq_zero {a b : B} (h : a ^^^ b = 0#32) : a = b := by
  have : (a ^^^ b) ^^^ b = 0#32 ^^^ b := by rw [h]
  simpa [BitVec.xor_assoc] using this
theorem eight_inj0 (a : B) (h : eightB a = 0#32) : a = 0#32 := by
  unfold eightB at h
  exact one_inj0 _ (one_inj0 _ (one_inj0 _ (one_inj0 _ (one_inj0 _ (one_inj0 _ (one_inj0 _ (one_inj0 _ h)))))))
theorem eight_inj {a b : B} (h : eightB a = eightB b) : a = b := by
  apply xor_eq_zero
  apply eight_inj0
  rw [eight_xor, h, BitVec.xor_self]
theorem one_even (v : B) (h : v.getLsbD 0 = false) : oneB v = v >>> 1 := by
  unfold oneB
  rw [h]; simp
/-- Eight steps of what stands above the low byte. -/
theorem eight_high (v : B) (h : ∀ i, i < 8 → v.getLsbD i = false) : eightB v = v >>> 8 := by
  unfold eightB
  have e : ∀ k, k < 8 → oneB (v >>> k) = v >>> (k + 1) := by
    intro k hk
    rw [one_even _ (by rw [BitVec.getLsbD_ushiftRight]; exact h _ (by omega)), ← BitVec.shiftRight_add]
  have e0 : oneB v = v >>> 1 := one_even v (h 0 (by omega))
  rw [e0, e 1 (by omega), e 2 (by omega), e 3 (by omega), e 4 (by omega), e 5 (by omega), e 6 (by omega), e 7 (by omega)]
theorem split8 (v : B) : v = (v &&& 255#32) ^^^ ((v >>> 8) <<< 8) := by
  apply BitVec.eq_of_getLsbD_eq
  intro i hi
  rw [BitVec.getLsbD_xor, BitVec.getLsbD_and, BitVec.getLsbD_shiftLeft, BitVec.getLsbD_ushiftRight]
  have : (255#32).getLsbD i = decide (i < 8) := by
    revert i; decide
  rw [this]
  by_cases h8 : i < 8
  · simp [h8]
  · have : 8 + (i - 8) = i := by omega
    simp [h8, hi, this]
theorem shl8_low (u : B) (i : Nat) (h : i < 8) : (u <<< 8).getLsbD i = false := by
  rw [BitVec.getLsbD_shiftLeft]; simp [h]
theorem shl8_back (v : B) : ((v >>> 8) <<< 8) >>> 8 = v >>> 8 := by
  apply BitVec.eq_of_getLsbD_eq
  intro i hi
  simp only [BitVec.getLsbD_ushiftRight, BitVec.getLsbD_shiftLeft]
  by_cases h : 8 + i < 32
  · simp [h]
  · have h2 : v.getLsbD (8 + i) = false := BitVec.getLsbD_of_ge _ _ (by omega)
    simp [h, h2]
/-- The table's step. -/
theorem eight_step (v : B) : eightB v = eightB (v &&& 255#32) ^^^ (v >>> 8) := by
  conv => lhs; rw [split8 v, eight_xor, eight_high _ (fun i hi => shl8_low _ i hi), shl8_back]

/-- A sum gone on with. -/
def foldB (s : B) (l : List B) : B := l.foldl (fun v c => eightB (v ^^^ c)) s
theorem fold_append (s : B) (a b : List B) : foldB s (a ++ b) = foldB (foldB s a) b := by simp [foldB]
theorem fold_xor : ∀ (a b : List B) (s t : B), a.length = b.length → foldB (s ^^^ t) (a.zipWith (· ^^^ ·) b) = foldB s a ^^^ foldB t b
  | [], [], s, t, _ => rfl
  | x :: a, y :: b, s, t, h => by
    have h' : a.length = b.length := by simpa using h
    simp only [List.zipWith_cons_cons, foldB, List.foldl_cons]
    have e : s ^^^ t ^^^ (x ^^^ y) = (s ^^^ x) ^^^ (t ^^^ y) := by
      rw [BitVec.xor_assoc, BitVec.xor_assoc, ← BitVec.xor_assoc t, BitVec.xor_comm t x, BitVec.xor_assoc x]
    rw [e, eight_xor]
    exact fold_xor a b _ _ h'
  | [], y :: b, s, t, h => by simp at h
  | x :: a, [], s, t, h => by simp at h
theorem fold_inj0 : ∀ (l : List B) (s t : B), foldB s l = foldB t l → s = t
  | [], s, t, h => h
  | x :: l, s, t, h => by
    have := eight_inj (fold_inj0 l _ _ h)
    have h2 := congrArg (· ^^^ x) this
    simpa [BitVec.xor_assoc] using h2
def iterB : Nat → B → B
  | 0, s => s
  | n + 1, s => iterB n (eightB s)
theorem iter_add (n m : Nat) (s : B) : iterB (n + m) s = iterB m (iterB n s) := by
  induction n generalizing s with
  | zero => simp [iterB]
  | succ n ih => rw [Nat.succ_add]; exact ih _
theorem iter_zero (n : Nat) : iterB n 0#32 = 0#32 := by
  induction n with
  | zero => rfl
  | succ n ih => rw [iterB, eight_zero, ih]
theorem iter_inj (n : Nat) (s t : B) (h : iterB n s = iterB n t) : s = t := by
  induction n generalizing s t with
  | zero => exact h
  | succ n ih => exact eight_inj (ih _ _ h)
theorem iter_fold (n : Nat) (s : B) : iterB n s = foldB s (List.replicate n 0#32) := by
  induction n generalizing s with
  | zero => rfl
  | succ n ih => rw [iterB, ih, List.replicate_succ]; simp [foldB]
theorem zip_zero : ∀ (l : List B) , (List.replicate l.length 0#32).zipWith (· ^^^ ·) l = l
  | [] => rfl
  | x :: l => by simp [List.replicate_succ, zip_zero l]
/-- A state gone on with is the state shifted, and the bytes alone. -/
theorem fold_shift (s t : B) (l : List B) : foldB (s ^^^ t) l = iterB l.length s ^^^ foldB t l := by
  rw [iter_fold, ← fold_xor _ _ _ _ (by simp), zip_zero]
/-- A number of 32 digits as digits, and back. -/
def O (n : Int) : BitVec 32 := BitVec.ofInt 32 n
def I (x : BitVec 32) : Int := (x.toNat : Int)
theorem I_range (x : BitVec 32) : 0 ≤ I x ∧ I x < 4294967296 := by
  have := x.isLt
  unfold I; omega
theorem O_I (x : BitVec 32) : O (I x) = x := by
  unfold O I; simp
theorem I_O (n : Int) (h0 : 0 ≤ n) (h1 : n < 4294967296) : I (O n) = n := by
  unfold O I
  rw [BitVec.toNat_ofInt]
  have : n % ((2 ^ 32 : Nat) : Int) = n := Int.emod_eq_of_lt h0 (by omega)
  rw [this]; omega
theorem I_inj {x y : BitVec 32} (h : I x = I y) : x = y := by
  rw [← O_I x, h, O_I]
theorem I_eq {x y : BitVec 32} : (I x = I y) ↔ x = y := ⟨I_inj, fun h => by rw [h]⟩
theorem wrap_u32 (x : BitVec 32) : IntKind.u32.wrap (x.toNat : Int) = I x := by
  have := x.isLt
  show (x.toNat : Int) % ((2 : Int) ^ 32) = (x.toNat : Int)
  omega
theorem xor32 (x y : Int) : Go.bits .xor .u32 x y = I (O x ^^^ O y) := wrap_u32 _
theorem and32 (x y : Int) : Go.bits .and .u32 x y = I (O x &&& O y) := wrap_u32 _
theorem or32 (x y : Int) : Go.bits .or .u32 x y = I (O x ||| O y) := wrap_u32 _
theorem O_wrap (n : Int) : O (IntKind.u32.wrap n) = O n := by
  unfold O
  apply BitVec.eq_of_toInt_eq
  rw [BitVec.toInt_ofInt, BitVec.toInt_ofInt]
  show Int.bmod (n % ((2 : Int) ^ 32)) (2 ^ 32) = Int.bmod n (2 ^ 32)
  exact Int.emod_bmod _ _
theorem O_shr (n : Int) (k : Nat) (h0 : 0 ≤ n) (h1 : n < 4294967296) : O (n / 2 ^ k) = O n >>> k := by
  apply BitVec.eq_of_toNat_eq
  have h : (BitVec.ofInt 32 n).toNat = n.toNat := by
    have := I_O n h0 h1
    unfold I O at this; omega
  have hp : (0 : Int) < 2 ^ k := Int.pow_pos (by decide)
  have hd0 : 0 ≤ n / 2 ^ k := Int.ediv_nonneg h0 (by omega)
  have hd1 : n / 2 ^ k < 4294967296 := Int.lt_of_le_of_lt (Int.ediv_le_self _ h0) h1
  have h2 : (BitVec.ofInt 32 (n / 2 ^ k)).toNat = (n / 2 ^ k).toNat := by
    have := I_O _ hd0 hd1
    unfold I O at this; omega
  unfold O
  rw [h2, BitVec.toNat_ushiftRight, h, Nat.shiftRight_eq_div_pow]
  have e : n = ((n.toNat : Nat) : Int) := by omega
  rw [e]
  have e2 : ((n.toNat : Nat) : Int) / 2 ^ k = ((n.toNat / 2 ^ k : Nat) : Int) := by rw [Int.natCast_ediv]; simp
  rw [e2]; rfl
theorem not32 (x : Int) : Go.bits .xor .u32 4294967295 x = I (~~~ O x) := by
  rw [xor32]
  congr 1
end Go.Proofs.Ytdjenkcafhdicaa.G
