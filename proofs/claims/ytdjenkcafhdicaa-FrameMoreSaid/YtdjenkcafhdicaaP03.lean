/- Frames in plain words: what Put lays, what Read reads. -/
import Derived.Test.YtdjenkcafhdicaaQx10
import Derived.Test.YtdjenkcafhdicaaQx11
import Derived.Lib.Bytes
namespace Go.Proofs.Ytdjenkcafhdicaa.Pure
open Go.RowKit Go.Proofs.Ytdjenkcafhdicaa.Q Go.Proofs.YtdjenkcafhdicaaW.PrintWords Go.Proofs.YtdjenkcafhdicaaW.PrintLast Go.Proofs.Ytdjenkcafhdicaa.G
theorem wf_u8 {a : Int} (h : (Lit.int .u8 a).wf = true) : 0 ≤ a ∧ a < 256 := by
  simp [Lit.wf, IntKind.min, IntKind.max, IntKind.signed, IntKind.bits] at h
  omega
theorem wf_i64 {a : Int} (h : (Lit.int .i64 a).wf = true) : -9223372036854775808 ≤ a ∧ a ≤ 9223372036854775807 := by
  simp [Lit.wf, IntKind.min, IntKind.max, IntKind.signed, IntKind.bits] at h
  omega
def Bs (l : List Int) : Prop := ∀ x ∈ l, 0 ≤ x ∧ x < 256
theorem Bs.drop {l : List Int} (h : Bs l) (n : Nat) : Bs (l.drop n) := fun x hx => h x (List.mem_of_mem_drop hx)
theorem Bs.take {l : List Int} (h : Bs l) (n : Nat) : Bs (l.take n) := fun x hx => h x (List.mem_of_mem_take hx)
theorem Bs.app {a b : List Int} (h : Bs a) (k : Bs b) : Bs (a ++ b) := fun x hx => (List.mem_append.1 hx).elim (h x) (k x)
theorem byte_inj {x y : Int} (hx : 0 ≤ x ∧ x < 256) (hy : 0 ≤ y ∧ y < 256) (h : UInt8.ofNat x.toNat = UInt8.ofNat y.toNat) : x = y := by
  have := congrArg UInt8.toNat h
  simp at this
  omega
theorem bytes_inj : ∀ {a b : List Int}, Bs a → Bs b → Lib.bytesOf a = Lib.bytesOf b → a = b
  | [], [], _, _, _ => rfl
  | [], y :: b, _, _, h => by simp [Lib.bytesOf] at h
  | x :: a, [], _, _, h => by simp [Lib.bytesOf] at h
  | x :: a, y :: b, ha, hb, h => by
    simp only [Lib.bytesOf, List.map_cons, List.cons.injEq] at h
    rw [byte_inj (ha x (by simp)) (hb y (by simp)) h.1, bytes_inj (a := a) (b := b) (fun z hz => ha z (by simp [hz])) (fun z hz => hb z (by simp [hz])) h.2]
theorem str_inj {a b : List Int} (ha : Bs a) (hb : Bs b) : ((strOfNums a).toList = (strOfNums b).toList) ↔ a = b := by
  rw [Lib.strOfNums_toList, Lib.strOfNums_toList]
  exact ⟨bytes_inj ha hb, fun h => by rw [h]⟩
def enc2 (v : Int) : List Int := [v % 256, v / 256 % 256]
def enc4 (v : Int) : List Int := [v % 256, v / 256 % 256, v / 65536 % 256, v / 16777216 % 256]
theorem Bs_enc2 (v : Int) : Bs (enc2 v) := by intro x hx; simp [enc2] at hx; rcases hx with rfl | rfl <;> omega
theorem Bs_enc4 (v : Int) : Bs (enc4 v) := by intro x hx; simp [enc4] at hx; rcases hx with rfl | rfl | rfl | rfl <;> omega
theorem enc2_leN {v : Int} (h0 : 0 ≤ v) (h1 : v < 65536) : (leN (enc2 v) : Int) = v := by simp only [enc2, leN]; omega
theorem enc4_leN {v : Int} (h0 : 0 ≤ v) (h1 : v < 4294967296) : (leN (enc4 v) : Int) = v := by simp only [enc4, leN]; omega
theorem enc2_of {l : List Int} (hl : l.length = 2) (hb : Bs l) : enc2 (leN l : Int) = l := by
  match l, hl with
  | [a, b], _ =>
    have ha := hb a (by simp); have hb' := hb b (by simp)
    simp only [enc2, leN, List.cons.injEq, and_true]
    omega
theorem enc4_of {l : List Int} (hl : l.length = 4) (hb : Bs l) : enc4 (leN l : Int) = l := by
  match l, hl with
  | [a, b, c, d], _ =>
    have h1 := hb a (by simp); have h2 := hb b (by simp); have h3 := hb c (by simp); have h4 := hb d (by simp)
    simp only [enc4, leN, List.cons.injEq, and_true]
    omega
theorem encU_2 (k : Nat) (l : List Int) (hl : l.length ≤ 1000000) (v : Int) : enc_U.f (k + 4) l v 2 = some (l ++ enc2 v) := by
  have w0 : wrap64 (8 * 0) = 0 := by unfold wrap64; omega
  have w1 : wrap64 (8 * 1) = 8 := by unfold wrap64; omega
  have i0 : wrap64 (0 + 1) = 1 := by unfold wrap64; omega
  have i1 : wrap64 (1 + 1) = 2 := by unfold wrap64; omega
  have m : mn 2 8 = 2 := rfl
  have s0 : shr .u64 v 0 = v := by simp [shr]
  have s1 : shr .u64 v 8 = v / 256 := by simp [shr, IntKind.bits]
  have l1 : (l ++ [v % 256]).length < 140737488355328 := by simp; omega
  simp only [enc_U.f, bytes_Clone.f, enc_U.l0, if_pos (show l.length ≤ 140737488355328 by omega), Option.bind_some, m, w0, w1, i0, i1, s0, s1, if_pos (show l.length < 140737488355328 by omega), if_pos l1]
  simp [enc2]
theorem encU_4 (k : Nat) (l : List Int) (hl : l.length ≤ 1000000) (v : Int) : enc_U.f (k + 6) l v 4 = some (l ++ enc4 v) := by
  have w0 : wrap64 (8 * 0) = 0 := by unfold wrap64; omega
  have w1 : wrap64 (8 * 1) = 8 := by unfold wrap64; omega
  have w2 : wrap64 (8 * 2) = 16 := by unfold wrap64; omega
  have w3 : wrap64 (8 * 3) = 24 := by unfold wrap64; omega
  have i0 : wrap64 (0 + 1) = 1 := by unfold wrap64; omega
  have i1 : wrap64 (1 + 1) = 2 := by unfold wrap64; omega
  have i2 : wrap64 (2 + 1) = 3 := by unfold wrap64; omega
  have i3 : wrap64 (3 + 1) = 4 := by unfold wrap64; omega
  have m : mn 4 8 = 4 := rfl
  have s0 : shr .u64 v 0 = v := by simp [shr]
  have s1 : shr .u64 v 8 = v / 256 := by simp [shr, IntKind.bits]
  have s2 : shr .u64 v 16 = v / 65536 := by simp [shr, IntKind.bits]
  have s3 : shr .u64 v 24 = v / 16777216 := by simp [shr, IntKind.bits]
  have l1 : ∀ x : List Int, x.length ≤ 3 → (l ++ x).length < 140737488355328 := by intro x hx; simp; omega
  simp only [enc_U.f, bytes_Clone.f, enc_U.l0, if_pos (show l.length ≤ 140737488355328 by omega), Option.bind_some, m, w0, w1, w2, w3, i0, i1, i2, i3, s0, s1, s2, s3, if_pos (show l.length < 140737488355328 by omega), List.append_assoc, List.cons_append, List.nil_append, if_pos (l1 [v % 256] (by simp)), if_pos (l1 [v % 256, v / 256 % 256] (by simp)), if_pos (l1 [v % 256, v / 256 % 256, v / 65536 % 256] (by simp))]
  simp [enc4]
theorem moreI_range (s : Int) (l : List Int) : 0 ≤ moreI s l ∧ moreI s l < 4294967296 := I_range _
/-- The sum of a frame. -/
def sumP (p : List Int) : Int := moreI (moreI 0 (enc2 (p.length : Int))) p
theorem sumP_range (p : List Int) : 0 ≤ sumP p ∧ sumP p < 4294967296 := moreI_range _ _
theorem u64_in {v : Int} (h0 : 0 ≤ v) (h1 : v < 4294967296) : IntKind.u64.wrap v = v := by rw [IntKind.wrap_u64]; omega
theorem of_eq (k : Nat) (p : List Int) (hp : p.length ≤ 512) : frame_of.f (k + 4) p = some ((p.length : Int), sumP p) := by
  simp only [frame_of.f, u64_in (show (0 : Int) ≤ (p.length : Int) by omega) (show (p.length : Int) < 4294967296 by omega), encU_2 k [] (by simp), Option.bind_some, crc_Of.f, crc_More.f, List.nil_append]
  rfl
/-- A frame, behind what is there. -/
def putL (l p : List Int) : List Int := l ++ enc2 (p.length : Int) ++ enc4 (sumP p) ++ p
def putP (l p : List Int) : List Int × Int := if (p.length : Int) > 512 then ([], 5) else (putL l p, 0)
theorem put_eq (k : Nat) (l p : List Int) (hl : l.length ≤ 100000) : frame_Put.f (k + 6) l p = some (putP l p) := by
  unfold putP frame_Put.f
  by_cases h : (p.length : Int) > 512
  · rw [if_pos h, if_pos h]
  rw [if_neg h, if_neg h]
  have r := sumP_range p
  have e2 : (l ++ enc2 (p.length : Int)).length ≤ 1000000 := by simp [enc2]; omega
  have e4 : (l ++ enc2 (p.length : Int) ++ enc4 (sumP p)).length + p.length < 140737488355328 := by simp [enc2, enc4]; omega
  simp only [of_eq (k + 2) p (by omega), Option.bind_some, u64_in (show (0 : Int) ≤ (p.length : Int) by omega) (show (p.length : Int) < 4294967296 by omega), u64_in r.1 r.2, encU_2 (k + 2) l (by omega), encU_4 k _ e2, if_pos e4]
  rfl
/-- The payload of a frame that stands at the head. -/
def payP (y : List Int) : List Int := (y.take (6 + leN (y.take 2))).drop 6
/-- What is read at a place. -/
def readY (a : Int) (y : List Int) : List Int × Int × Int :=
  if y.length < 2 then ([], 0, 2) else if leN (y.take 2) > 512 then ([], 0, 5) else if y.length < 6 + leN (y.take 2) then ([], 0, 2) else
  if (leN ((y.drop 2).take 4) : Int) = sumP (payP y) then (payP y, a + 6 + leN (y.take 2), 0) else ([], 0, 4)
def readP (x : List Int) (a : Int) : List Int × Int × Int := if a < 0 ∨ a > (x.length : Int) then ([], 0, 1) else readY a (x.drop a.toNat)
theorem readj_eq (k : Nat) (x : List Int) (hx : Bs x) (hl : x.length ≤ 1000000) (a : Int) (h0 : 0 ≤ a) (h1 : a ≤ (x.length : Int)) : frame_Read.j0 (k + 5) x a false = some (readY a (x.drop a.toNat)) := by
  have hy := hx.drop a.toNat
  have hyl : (x.drop a.toNat).length ≤ 1000000 := by simp; omega
  rw [frame_Read.j0]
  simp only [Bool.false_eq_true, if_false, if_pos h0, if_pos h1]
  generalize x.drop a.toNat = y at *
  have z := szI_is y hy
  have m := smI_is y hy
  have eb : frame_read.f y = some (readR y) := by
    unfold frame_read.f
    exact if_pos hy
  rw [eb, Option.bind_some]
  unfold readY
  by_cases c1 : y.length < 2
  · have e : readR y = (0, 0, [], 2) := by unfold readR; rw [if_pos c1]
    rw [if_pos c1, e]; simp
  rw [if_neg c1]
  by_cases c2 : leN (y.take 2) > 512
  · have e : readR y = (0, 0, [], 5) := by
      have c2' : szI y > 512 := by rw [z.1]; omega
      unfold readR; rw [if_neg c1, if_pos c2']
    rw [if_pos c2, e]; simp
  rw [if_neg c2]
  have c2' : ¬ szI y > 512 := by rw [z.1]; omega
  by_cases c3 : y.length < 6 + leN (y.take 2)
  · have e : readR y = (0, 0, [], 2) := by
      have c3' : (y.length : Int) < 6 + szI y := by rw [z.1]; omega
      unfold readR; rw [if_neg c1, if_neg c2', if_pos c3']
    rw [if_pos c3, e]; simp
  rw [if_neg c3]
  have c3' : ¬ (y.length : Int) < 6 + szI y := by rw [z.1]; omega
  have ep : payL y = payP y := by unfold payL payP; rw [z.1]; rfl
  have e : readR y = ((leN (y.take 2) : Int), (leN ((y.drop 2).take 4) : Int), payP y, 0) := by
    unfold readR; rw [if_neg c1, if_neg c2', if_neg c3', ep, z.1, m.1]
  rw [e]
  have el : (payP y).length = leN (y.take 2) := by simp only [payP, List.length_drop, List.length_take]; omega
  have hw : wrap64 (wrap64 (a + 6) + (leN (y.take 2) : Int)) = a + 6 + leN (y.take 2) := by unfold wrap64; omega
  simp only [if_true, of_eq (k + 0) (payP y) (by omega), Option.bind_some, el, hw]
  by_cases c4 : (leN ((y.drop 2).take 4) : Int) = sumP (payP y)
  · rw [if_pos c4, c4]; simp
  · rw [if_neg c4]; simp [c4]
theorem read_eq (k : Nat) (x : List Int) (hx : Bs x) (hl : x.length ≤ 1000000) (a : Int) : frame_Read.f (k + 5) x a = some (readP x a) := by
  have q : frame_Read.j0 (k + 5) x a true = some ([], 0, 1) := by simp [frame_Read.j0]
  unfold frame_Read.f readP
  by_cases c0 : a < 0
  · rw [if_pos c0, if_pos (.inl c0)]; exact q
  rw [if_neg c0]
  by_cases c1 : a > (x.length : Int)
  · rw [decide_eq_true c1, if_pos (.inr c1)]; exact q
  rw [decide_eq_false c1, if_neg (by omega)]
  exact readj_eq k x hx hl a (by omega) (by omega)
/-- What was laid is read. -/
theorem read_put (p r : List Int) (hp : p.length ≤ 512) (hb : Bs p) (a : Int) : readY a (putL [] p ++ r) = (p, a + 6 + p.length, 0) := by
  have e : putL [] p ++ r = enc2 (p.length : Int) ++ (enc4 (sumP p) ++ (p ++ r)) := by simp [putL, List.append_assoc]
  have s := sumP_range p
  have t2 : (putL [] p ++ r).take 2 = enc2 (p.length : Int) := by rw [e]; exact List.take_left' rfl
  have d2 : ((putL [] p ++ r).drop 2).take 4 = enc4 (sumP p) := by rw [e, show (enc2 (p.length : Int) ++ (enc4 (sumP p) ++ (p ++ r))).drop 2 = enc4 (sumP p) ++ (p ++ r) from rfl]; exact List.take_left' rfl
  have n2 : leN ((putL [] p ++ r).take 2) = p.length := by
    have := enc2_leN (show (0 : Int) ≤ (p.length : Int) by omega) (by omega)
    rw [t2]; omega
  have ln : (putL [] p ++ r).length = 6 + p.length + r.length := by rw [e]; simp [enc2, enc4]; omega
  have py : payP (putL [] p ++ r) = p := by
    unfold payP
    rw [n2, show putL [] p ++ r = (enc2 (p.length : Int) ++ enc4 (sumP p) ++ p) ++ r by simp [putL], List.take_left' (by simp [enc2, enc4]; omega)]
    exact List.drop_left' rfl
  unfold readY
  rw [if_neg (by omega), n2, if_neg (by omega), if_neg (by omega), d2, enc4_leN s.1 s.2, py, if_pos rfl]
theorem awake_eq (k : Nat) : godwitlaw03_awake.f (k + 6) = some true := by
  have p0 : putP [] [] = (putL [] [], 0) := rfl
  have ln : (putL [] []).length = 6 := rfl
  have hb : Bs (putL [] []) := by
    have := ((Bs_enc2 0).app (Bs_enc4 (sumP []))).app (a := enc2 0 ++ enc4 (sumP [])) (b := []) (fun x hx => by simp at hx)
    exact this
  have r0 : readP (putL [] []) 0 = ([], 6, 0) := by
    have := read_put [] [] (by simp) (fun x hx => by simp at hx) 0
    rw [List.append_nil] at this
    unfold readP
    rw [if_neg (by omega)]
    exact this
  have r1 : readP [1] 0 = ([], 0, 2) := rfl
  unfold godwitlaw03_awake.f
  rw [put_eq k [] [] (by simp), Option.bind_some, p0, read_eq (k + 1) _ hb (by omega) 0, Option.bind_some, read_eq (k + 1) [1] (by intro x hx; simp at hx; omega) (by simp) 0, Option.bind_some, r0, r1]
  simp [ln]
end Go.Proofs.Ytdjenkcafhdicaa.Pure
