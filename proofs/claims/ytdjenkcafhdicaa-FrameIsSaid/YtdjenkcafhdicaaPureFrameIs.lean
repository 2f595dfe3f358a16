import Derived.Test.YtdjenkcafhdicaaQx7
import Derived.Test.YtdjenkcafhdicaaQx9
import Derived.Test.YtdjenkcafhdicaaG03w
import Derived.Lib.Bytes
import Derived.Test.YtdjenkcafhdicaaQx10
import Derived.Test.YtdjenkcafhdicaaQx13
import Derived.Test.YtdjenkcafhdicaaQx14
import Derived.Test.YtdjenkcafhdicaaQx17
import Derived.Test.YtdjenkcafhdicaaQx18
import Derived.Test.YtdjenkcafhdicaaQx19
import Derived.Test.YtdjenkcafhdicaaQx22
import Derived.Test.YtdjenkcafhdicaaQx24
/- Frames in plain words: what Put lays, what Read reads. -/
namespace Go.Proofs.Ytdjenkcafhdicaa.Pure
open Go.RowKit Go.Proofs.Ytdjenkcafhdicaa.Q Go.Proofs.YtdjenkcafhdicaaW.PrintWords Go.Proofs.YtdjenkcafhdicaaW.PrintLast Go.Proofs.Ytdjenkcafhdicaa.G
theorem wf_u8 {a : Int} (h : (Lit.int .u8 a).wf = true) : 0 ≤ a ∧ a < 256 := by
  simp [Lit.wf, IntKind.min, IntKind.max, IntKind.signed, IntKind.bits] at h
  omega
theorem wf_i64 {a : Int} (h : (Lit.int .i64 a).wf = true) : -9223372036854775808 ≤ a ∧ a ≤ 9223372036854775807 := by
  simp [Lit.wf, IntKind.min, IntKind.max, IntKind.signed, IntKind.bits] at h
  omega
theorem byte_inj {x y : Int} (hx : 0 ≤ x ∧ x < 256) (hy : 0 ≤ y ∧ y < 256) (h : UInt8.ofNat x.toNat = UInt8.ofNat y.toNat) : x = y := by
  have := congrArg UInt8.toNat h
  simp at this
  omega
theorem bytes_inj : ∀ {a b : List Int}, Bs a → Bs b → Lib.bytesOf a = Lib.bytesOf b → a = b
  | [], [], _, _, _ => rfl
  | [], y :: b, _, _, h => by simp [Lib.bytesOf] at h
  | x :: a, [], _, _, h => by simp [Lib.bytesOf] at h
  | x :: a, y :: b, ha, hb, h => by
    simp only [Lib.bytesOf, List.map_cons, List.cons.injEq] at h
    rw [byte_inj (ha x (by simp)) (hb y (by simp)) h.1, bytes_inj (a := a) (b := b) (fun z hz => ha z (by simp [hz])) (fun z hz => hb z (by simp [hz])) h.2]
theorem str_inj {a b : List Int} (ha : Bs a) (hb : Bs b) : ((strOfNums a).toList = (strOfNums b).toList) ↔ a = b := by
  rw [Lib.strOfNums_toList, Lib.strOfNums_toList]
  exact ⟨bytes_inj ha hb, fun h => by rw [h]⟩
theorem Bs_enc2 (v : Int) : Bs (enc2 v) := by intro x hx; simp [enc2] at hx; rcases hx with rfl | rfl <;> omega
theorem Bs_enc4 (v : Int) : Bs (enc4 v) := by intro x hx; simp [enc4] at hx; rcases hx with rfl | rfl | rfl | rfl <;> omega
theorem enc2_leN {v : Int} (h0 : 0 ≤ v) (h1 : v < 65536) : (leN (enc2 v) : Int) = v := by simp only [enc2, leN]; omega
theorem enc4_leN {v : Int} (h0 : 0 ≤ v) (h1 : v < 4294967296) : (leN (enc4 v) : Int) = v := by simp only [enc4, leN]; omega
theorem enc2_of {l : List Int} (hl : l.length = 2) (hb : Bs l) : enc2 (leN l : Int) = l := by
  match l, hl with
  | [a, b], _ =>
    have ha := hb a (by simp); have hb' := hb b (by simp)
    simp only [enc2, leN, List.cons.injEq, and_true]
    omega
theorem enc4_of {l : List Int} (hl : l.length = 4) (hb : Bs l) : enc4 (leN l : Int) = l := by
  match l, hl with
  | [a, b, c, d], _ =>
    have h1 := hb a (by simp); have h2 := hb b (by simp); have h3 := hb c (by simp); have h4 := hb d (by simp)
    simp only [enc4, leN, List.cons.injEq, and_true]
    omega
theorem encU_2 (k : Nat) (l : List Int) (hl : l.length ≤ 1000000) (v : Int) : enc_U.f (k + 4) l v 2 = some (l ++ enc2 v) := by
  have w0 : wrap64 (8 * 0) = 0 := by unfold wrap64; omega
  have w1 : wrap64 (8 * 1) = 8 := by unfold wrap64; omega
  have i0 : wrap64 (0 + 1) = 1 := by unfold wrap64; omega
  have i1 : wrap64 (1 + 1) = 2 := by unfold wrap64; omega
  have m : mn 2 8 = 2 := rfl
  have s0 : shr .u64 v 0 = v := by simp [shr]
  have s1 : shr .u64 v 8 = v / 256 := by simp [shr, IntKind.bits]
  have l1 : (l ++ [v % 256]).length < 140737488355328 := by simp; omega
  simp only [enc_U.f, bytes_Clone.f, enc_U.l0, if_pos (show l.length ≤ 140737488355328 by omega), Option.bind_some, m, w0, w1, i0, i1, s0, s1, if_pos (show l.length < 140737488355328 by omega), if_pos l1]
  simp [enc2]
theorem encU_4 (k : Nat) (l : List Int) (hl : l.length ≤ 1000000) (v : Int) : enc_U.f (k + 6) l v 4 = some (l ++ enc4 v) := by
  have w0 : wrap64 (8 * 0) = 0 := by unfold wrap64; omega
  have w1 : wrap64 (8 * 1) = 8 := by unfold wrap64; omega
  have w2 : wrap64 (8 * 2) = 16 := by unfold wrap64; omega
  have w3 : wrap64 (8 * 3) = 24 := by unfold wrap64; omega
  have i0 : wrap64 (0 + 1) = 1 := by unfold wrap64; omega
  have i1 : wrap64 (1 + 1) = 2 := by unfold wrap64; omega
  have i2 : wrap64 (2 + 1) = 3 := by unfold wrap64; omega
  have i3 : wrap64 (3 + 1) = 4 := by unfold wrap64; omega
  have m : mn 4 8 = 4 := rfl
  have s0 : shr .u64 v 0 = v := by simp [shr]
  have s1 : shr .u64 v 8 = v / 256 := by simp [shr, IntKind.bits]
  have s2 : shr .u64 v 16 = v / 65536 := by simp [shr, IntKind.bits]
  have s3 : shr .u64 v 24 = v / 16777216 := by simp [shr, IntKind.bits]
  have l1 : ∀ x : List Int, x.length ≤ 3 → (l ++ x).length < 140737488355328 := by intro x hx; simp; omega
  simp only [enc_U.f, bytes_Clone.f, enc_U.l0, if_pos (show l.length ≤ 140737488355328 by omega), Option.bind_some, m, w0, w1, w2, w3, i0, i1, i2, i3, s0, s1, s2, s3, if_pos (show l.length < 140737488355328 by omega), List.append_assoc, List.cons_append, List.nil_append, if_pos (l1 [v % 256] (by simp)), if_pos (l1 [v % 256, v / 256 % 256] (by simp)), if_pos (l1 [v % 256, v / 256 % 256, v / 65536 % 256] (by simp))]
  simp [enc4]
theorem moreI_range (s : Int) (l : List Int) : 0 ≤ moreI s l ∧ moreI s l < 4294967296 := I_range _
theorem sumP_range (p : List Int) : 0 ≤ sumP p ∧ sumP p < 4294967296 := moreI_range _ _
theorem u64_in {v : Int} (h0 : 0 ≤ v) (h1 : v < 4294967296) : IntKind.u64.wrap v = v := by rw [IntKind.wrap_u64]; omega
theorem of_eq (k : Nat) (p : List Int) (hp : p.length ≤ 512) : frame_of.f (k + 4) p = some ((p.length : Int), sumP p) := by
  simp only [frame_of.f, u64_in (show (0 : Int) ≤ (p.length : Int) by omega) (show (p.length : Int) < 4294967296 by omega), encU_2 k [] (by simp), Option.bind_some, crc_Of.f, crc_More.f, List.nil_append]
  rfl
theorem put_eq (k : Nat) (l p : List Int) (hl : l.length ≤ 100000) : frame_Put.f (k + 6) l p = some (putP l p) := by
  unfold putP frame_Put.f
  by_cases h : (p.length : Int) > 512
  · rw [if_pos h, if_pos h]
  rw [if_neg h, if_neg h]
  have r := sumP_range p
  have e2 : (l ++ enc2 (p.length : Int)).length ≤ 1000000 := by simp [enc2]; omega
  have e4 : (l ++ enc2 (p.length : Int) ++ enc4 (sumP p)).length + p.length < 140737488355328 := by simp [enc2, enc4]; omega
  simp only [of_eq (k + 2) p (by omega), Option.bind_some, u64_in (show (0 : Int) ≤ (p.length : Int) by omega) (show (p.length : Int) < 4294967296 by omega), u64_in r.1 r.2, encU_2 (k + 2) l (by omega), encU_4 k _ e2, if_pos e4]
  rfl
theorem readj_eq (k : Nat) (x : List Int) (hx : Bs x) (hl : x.length ≤ 1000000) (a : Int) (h0 : 0 ≤ a) (h1 : a ≤ (x.length : Int)) : frame_Read.j0 (k + 5) x a false = some (readY a (x.drop a.toNat)) := by
  have hy := hx.drop a.toNat
  have hyl : (x.drop a.toNat).length ≤ 1000000 := by simp; omega
  rw [frame_Read.j0]
  simp only [Bool.false_eq_true, if_false, if_pos h0, if_pos h1]
  generalize x.drop a.toNat = y at *
  have z := szI_is y hy
  have m := smI_is y hy
  have eb : frame_read.f y = some (readR y) := by
    unfold frame_read.f
    exact if_pos hy
  rw [eb, Option.bind_some]
  unfold readY
  by_cases c1 : y.length < 2
  · have e : readR y = (0, 0, [], 2) := by unfold readR; rw [if_pos c1]
    rw [if_pos c1, e]; simp
  rw [if_neg c1]
  by_cases c2 : leN (y.take 2) > 512
  · have e : readR y = (0, 0, [], 5) := by
      have c2' : szI y > 512 := by rw [z.1]; omega
      unfold readR; rw [if_neg c1, if_pos c2']
    rw [if_pos c2, e]; simp
  rw [if_neg c2]
  have c2' : ¬ szI y > 512 := by rw [z.1]; omega
  by_cases c3 : y.length < 6 + leN (y.take 2)
  · have e : readR y = (0, 0, [], 2) := by
      have c3' : (y.length : Int) < 6 + szI y := by rw [z.1]; omega
      unfold readR; rw [if_neg c1, if_neg c2', if_pos c3']
    rw [if_pos c3, e]; simp
  rw [if_neg c3]
  have c3' : ¬ (y.length : Int) < 6 + szI y := by rw [z.1]; omega
  have ep : payL y = payP y := by unfold payL payP; rw [z.1]; rfl
  have e : readR y = ((leN (y.take 2) : Int), (leN ((y.drop 2).take 4) : Int), payP y, 0) := by
    unfold readR; rw [if_neg c1, if_neg c2', if_neg c3', ep, z.1, m.1]
  rw [e]
  have el : (payP y).length = leN (y.take 2) := by simp only [payP, List.length_drop, List.length_take]; omega
  have hw : wrap64 (wrap64 (a + 6) + (leN (y.take 2) : Int)) = a + 6 + leN (y.take 2) := by unfold wrap64; omega
  simp only [if_true, of_eq (k + 0) (payP y) (by omega), Option.bind_some, el, hw]
  by_cases c4 : (leN ((y.drop 2).take 4) : Int) = sumP (payP y)
  · rw [if_pos c4, c4]; simp
  · rw [if_neg c4]; simp [c4]
theorem read_eq (k : Nat) (x : List Int) (hx : Bs x) (hl : x.length ≤ 1000000) (a : Int) : frame_Read.f (k + 5) x a = some (readP x a) := by
  have q : frame_Read.j0 (k + 5) x a true = some ([], 0, 1) := by simp [frame_Read.j0]
  unfold frame_Read.f readP
  by_cases c0 : a < 0
  · rw [if_pos c0, if_pos (.inl c0)]; exact q
  rw [if_neg c0]
  by_cases c1 : a > (x.length : Int)
  · rw [decide_eq_true c1, if_pos (.inr c1)]; exact q
  rw [decide_eq_false c1, if_neg (by omega)]
  exact readj_eq k x hx hl a (by omega) (by omega)
/-- What was laid is read. -/
theorem read_put (p r : List Int) (hp : p.length ≤ 512) (hb : Bs p) (a : Int) : readY a (putL [] p ++ r) = (p, a + 6 + p.length, 0) := by
  have e : putL [] p ++ r = enc2 (p.length : Int) ++ (enc4 (sumP p) ++ (p ++ r)) := by simp [putL, List.append_assoc]
  have s := sumP_range p
  have t2 : (putL [] p ++ r).take 2 = enc2 (p.length : Int) := by rw [e]; exact List.take_left' rfl
  have d2 : ((putL [] p ++ r).drop 2).take 4 = enc4 (sumP p) := by rw [e, show (enc2 (p.length : Int) ++ (enc4 (sumP p) ++ (p ++ r))).drop 2 = enc4 (sumP p) ++ (p ++ r) from rfl]; exact List.take_left' rfl
  have n2 : leN ((putL [] p ++ r).take 2) = p.length := by
    have := enc2_leN (show (0 : Int) ≤ (p.length : Int) by omega) (by omega)
    rw [t2]; omega
  have ln : (putL [] p ++ r).length = 6 + p.length + r.length := by rw [e]; simp [enc2, enc4]; omega
  have py : payP (putL [] p ++ r) = p := by
    unfold payP
    rw [n2, show putL [] p ++ r = (enc2 (p.length : Int) ++ enc4 (sumP p) ++ p) ++ r by simp [putL], List.take_left' (by simp [enc2, enc4]; omega)]
    exact List.drop_left' rfl
  unfold readY
  rw [if_neg (by omega), n2, if_neg (by omega), if_neg (by omega), d2, enc4_leN s.1 s.2, py, if_pos rfl]
end Go.Proofs.Ytdjenkcafhdicaa.Pure
/- What is awake: the document's example. -/
namespace Go.Proofs.Ytdjenkcafhdicaa.Pure
open Go.RowKit Go.Proofs.Ytdjenkcafhdicaa.Q Go.Proofs.YtdjenkcafhdicaaW.PrintWords Go.Proofs.YtdjenkcafhdicaaW.PrintLast Go.Proofs.Ytdjenkcafhdicaa.G
theorem awake_eq (k : Nat) : godwitlaw03_awake.f (k + 6) = some true := by
  have p0 : putP [] [] = (putL [] [], 0) := rfl
  have ln : (putL [] []).length = 6 := rfl
  have hb : Bs (putL [] []) := by
    have := ((Bs_enc2 0).app (Bs_enc4 (sumP []))).app (a := enc2 0 ++ enc4 (sumP [])) (b := []) (fun x hx => by simp at hx)
    exact this
  have r0 : readP (putL [] []) 0 = ([], 6, 0) := by
    have := read_put [] [] (by simp) (fun x hx => by simp at hx) 0
    rw [List.append_nil] at this
    unfold readP
    rw [if_neg (by omega)]
    exact this
  have r1 : readP [1] 0 = ([], 0, 2) := rfl
  unfold godwitlaw03_awake.f
  rw [put_eq k [] [] (by simp), Option.bind_some, p0, read_eq (k + 1) _ hb (by omega) 0, Option.bind_some, read_eq (k + 1) [1] (by intro x hx; simp at hx; omega) (by simp) 0, Option.bind_some, r0, r1]
  simp [ln]
end Go.Proofs.Ytdjenkcafhdicaa.Pure
/- Frames behind frames, in plain words. -/
namespace Go.Proofs.Ytdjenkcafhdicaa.Pure
open Go.RowKit Go.Proofs.Ytdjenkcafhdicaa.Q Go.Proofs.YtdjenkcafhdicaaW.PrintWords Go.Proofs.YtdjenkcafhdicaaW.PrintLast Go.Proofs.Ytdjenkcafhdicaa.G
theorem readY_next {a n : Int} {y p : List Int} (h : readY a y = (p, n, 0)) : a + 6 ≤ n ∧ n ≤ a + y.length ∧ (∀ x ∈ p, x ∈ y) := by
  unfold readY at h
  by_cases c1 : y.length < 2
  · rw [if_pos c1] at h; simp at h
  rw [if_neg c1] at h
  by_cases c2 : leN (y.take 2) > 512
  · rw [if_pos c2] at h; simp at h
  rw [if_neg c2] at h
  by_cases c3 : y.length < 6 + leN (y.take 2)
  · rw [if_pos c3] at h; simp at h
  rw [if_neg c3] at h
  by_cases c4 : (leN ((y.drop 2).take 4) : Int) = sumP (payP y)
  · rw [if_pos c4] at h
    simp only [Prod.mk.injEq, and_true] at h
    obtain ⟨rfl, rfl⟩ := h
    exact ⟨by omega, by omega, fun x hx => List.mem_of_mem_take (List.mem_of_mem_drop hx)⟩
  · rw [if_neg c4] at h; simp at h
theorem readP_next {x p : List Int} {a n : Int} (h : readP x a = (p, n, 0)) : 0 ≤ a ∧ a + 6 ≤ n ∧ n ≤ x.length ∧ (∀ z ∈ p, z ∈ x) := by
  unfold readP at h
  by_cases c : a < 0 ∨ a > (x.length : Int)
  · rw [if_pos c] at h; simp at h
  rw [if_neg c] at h
  obtain ⟨h1, h2, h3⟩ := readY_next h
  have hd : (x.drop a.toNat).length = x.length - a.toNat := List.length_drop
  exact ⟨by omega, h1, by omega, fun z hz => List.mem_of_mem_drop (h3 z hz)⟩
theorem all_loop (x : List Int) (hx : Bs x) (hl : x.length ≤ 100000) : ∀ (d k : Nat) (acc : List (List Int)) (i : Int), 0 ≤ i → i ≤ (x.length : Int) → (x.length : Int) ≤ i + d → d + 10 ≤ k → acc.length + d ≤ 200000 → frame_All.l0 k x acc i = some (acc ++ (allF d x i).1, (allF d x i).2) := by
  intro d
  induction d with
  | zero =>
    intro k acc i h0 h1 h2 hk ha
    obtain ⟨k, rfl⟩ : ∃ m, k = m + 1 := ⟨k - 1, by omega⟩
    rw [frame_All.l0, if_neg (by omega)]
    simp [allF]
  | succ d ih =>
    intro k acc i h0 h1 h2 hk ha
    obtain ⟨k, rfl⟩ : ∃ m, k = m + 1 := ⟨k - 1, by omega⟩
    rw [frame_All.l0, allF]
    by_cases c : i < (x.length : Int)
    · rw [if_pos c, if_pos c]
      obtain ⟨k', hk'⟩ : ∃ m, k = m + 5 := ⟨k - 5, by omega⟩
      have hr : frame_Read.f k x i = some (readP x i) := by rw [hk']; exact read_eq k' x hx (by omega) i
      rw [hr, Option.bind_some]
      obtain ⟨⟨p, n, e⟩, hq⟩ : ∃ t, t = readP x i := ⟨_, rfl⟩
      rw [← hq]
      simp only
      by_cases he : e = 0
      · subst he
        obtain ⟨q1, q2, q3, _⟩ := readP_next hq.symm
        rw [if_pos rfl, if_pos rfl, if_pos (by omega), ih k (acc ++ [p]) n (by omega) (by omega) (by omega) (by omega) (by simp; omega)]
        simp
      · rw [if_neg he, if_neg he]
        simp
    · rw [if_neg c, if_neg c]
      simp
theorem all_eqP {k : Nat} (x : List Int) (hx : Bs x) (hl : x.length ≤ 100000) (hk : x.length + 10 ≤ k) : frame_All.f k x = some (allP x) := by
  unfold frame_All.f allP
  rw [all_loop x hx hl x.length k [] 0 (by omega) (by omega) (by omega) (by omega) (by simp; omega)]
  simp
theorem allF_more (x : List Int) : ∀ (d d' : Nat) (i : Int), 0 ≤ i → (x.length : Int) ≤ i + d → (x.length : Int) ≤ i + d' → i ≤ (x.length : Int) → allF d x i = allF d' x i := by
  intro d
  induction d with
  | zero =>
    intro d' i h0 h1 h2 h3
    cases d' with
    | zero => rfl
    | succ d' => rw [allF, allF, if_neg (by omega)]
  | succ d ih =>
    intro d' i h0 h1 h2 h3
    cases d' with
    | zero => rw [allF, allF, if_neg (by omega)]
    | succ d' =>
      rw [allF, allF]
      by_cases c : i < (x.length : Int)
      · rw [if_pos c, if_pos c]
        by_cases he : (readP x i).2.2 = 0
        · obtain ⟨⟨p, n, e⟩, hq⟩ : ∃ t, t = readP x i := ⟨_, rfl⟩
          rw [← hq] at he ⊢
          simp only at he ⊢
          subst he
          obtain ⟨q1, q2, q3, _⟩ := readP_next hq.symm
          rw [if_pos rfl, if_pos rfl, ih d' n (by omega) (by omega) (by omega) (by omega)]
        · rw [if_neg he, if_neg he]
      · rw [if_neg c, if_neg c]
theorem all_eq (k : Nat) (x : List Int) (hx : Bs x) (hl : x.length ≤ 4000) : frame_All.f (k + 4010) x = some (allF 4000 x 0) := by
  rw [all_eqP x hx (by omega) (by omega)]
  unfold allP
  rw [allF_more x x.length 4000 0 (by omega) (by omega) (by omega) (by omega)]
/-- Whose letters they are. -/
theorem allF_bs (x : List Int) (hx : Bs x) : ∀ (d : Nat) (i : Int), (∀ p ∈ (allF d x i).1, Bs p) ∧ (allF d x i).1.length ≤ d := by
  intro d
  induction d with
  | zero => intro i; simp [allF]
  | succ d ih =>
    intro i
    rw [allF]
    split
    · split
      · rename_i c he
        obtain ⟨⟨p, n, e⟩, hq⟩ : ∃ t, t = readP x i := ⟨_, rfl⟩
        rw [← hq] at he ⊢
        simp only at he ⊢
        subst he
        obtain ⟨q1, q2, q3, q4⟩ := readP_next hq.symm
        have := ih n
        refine ⟨fun z hz => ?_, by simp; omega⟩
        rcases List.mem_cons.1 hz with rfl | hz
        · exact fun w hw => hx w (q4 w hw)
        · exact this.1 z hz
      · simp
    · simp
end Go.Proofs.Ytdjenkcafhdicaa.Pure
/- Two lists are one. -/
namespace Go.Proofs.Ytdjenkcafhdicaa.Pure
open Go.RowKit Go.Proofs.Ytdjenkcafhdicaa.Q Go.Proofs.YtdjenkcafhdicaaW.PrintWords Go.Proofs.YtdjenkcafhdicaaW.PrintLast Go.Proofs.Ytdjenkcafhdicaa.G
theorem rdL (a : List (List Int)) (i : Nat) (h : i < a.length) : rd_L1 a (i : Int) = a[i] := by
  simp [rd_L1, List.getD_eq_getElem?_getD, h]
/-- The lists are one. -/
theorem lists_loop (a : List (List Int)) (hl : a.length ≤ 10000) : ∀ (d k i : Nat), i + d = a.length → d + 1 ≤ k → godwitref03_Lists.l0 k a a (i : Int) = some true := by
  intro d
  induction d with
  | zero =>
    intro k i hi hk
    obtain ⟨k, rfl⟩ : ∃ m, k = m + 1 := ⟨k - 1, by omega⟩
    rw [godwitref03_Lists.l0, if_neg (by omega)]
  | succ d ih =>
    intro k i hi hk
    obtain ⟨k, rfl⟩ : ∃ m, k = m + 1 := ⟨k - 1, by omega⟩
    have hw : wrap64 ((i : Int) + 1) = ((i + 1 : Nat) : Int) := by unfold wrap64; omega
    rw [godwitref03_Lists.l0, if_pos (by omega), if_pos (by omega), if_pos (by omega), if_pos rfl, hw]
    exact ih k (i + 1) (by omega) (by omega)
theorem lists_eq (k : Nat) (a : List (List Int)) (hl : a.length ≤ 10000) : godwitref03_Lists.f (k + 10001) a a = some true := by
  unfold godwitref03_Lists.f
  rw [if_pos rfl]
  exact lists_loop a hl a.length _ 0 (by omega) (by omega)
end Go.Proofs.Ytdjenkcafhdicaa.Pure
/- The document's own sums, digit by digit, in plain words: they are the same. -/


namespace Go.Proofs.Ytdjenkcafhdicaa.Pure
open Go.RowKit Go.Proofs.Ytdjenkcafhdicaa.Q Go.Proofs.YtdjenkcafhdicaaW.PrintWords Go.Proofs.YtdjenkcafhdicaaW.PrintLast Go.Proofs.Ytdjenkcafhdicaa.G
theorem bit0 (x : B) : (I x).tmod 2 = 1 ↔ x.getLsbD 0 = true := by
  have h := I_range x
  rw [Int.tmod_eq_emod_of_nonneg h.1]
  unfold I
  have e : x.getLsbD 0 = decide (x.toNat % 2 = 1) := by
    rw [BitVec.getLsbD, Nat.testBit_zero]
  rw [e]
  simp only [decide_eq_true_eq]
  omega
theorem half (x : B) : (Int.tdiv (I x) 2 : Int) % (4294967296 : Int) = I (x >>> 1) := by
  have h := I_range x
  rw [Int.tdiv_eq_ediv_of_nonneg h.1]
  have e := O_shr (I x) 1 h.1 h.2
  rw [O_I] at e
  have : (I x / 2 : Int) % (4294967296 : Int) = I x / 2 := by omega
  rw [this]
  have e2 : O (I x / 2) = x >>> 1 := by simpa using e
  rw [← e2, I_O _ (by omega) (by omega)]
theorem eight_round (k : Nat) (x : B) (i : Nat) (h : i < 8) : godwitref02_eight.l0 (k + 1) (I x) (i : Int) = godwitref02_eight.l0 k (I (oneB x)) ((i + 1 : Nat) : Int) := by
  have hw : wrap64 ((i : Int) + 1) = ((i + 1 : Nat) : Int) := by unfold wrap64; omega
  rw [godwitref02_eight.l0, if_pos (by omega), hw, half]
  unfold oneB
  by_cases hb : x.getLsbD 0 = true
  · rw [if_pos ((bit0 x).2 hb), if_pos hb, xor32, O_I]
    rfl
  · rw [if_neg (fun h => hb ((bit0 x).1 h)), if_neg hb, BitVec.xor_zero]
theorem eight_pure (k : Nat) (x : B) : godwitref02_eight.f (k + 9) (I x) = some (I (eightB x)) := by
  unfold godwitref02_eight.f
  have r0 := eight_round (k + 8) x 0 (by omega)
  have e0 : godwitref02_eight.l0 (k + 9) (I x) 0 = _ := r0
  rw [e0, eight_round (k + 7) _ 1 (by omega), eight_round (k + 6) _ 2 (by omega), eight_round (k + 5) _ 3 (by omega), eight_round (k + 4) _ 4 (by omega), eight_round (k + 3) _ 5 (by omega), eight_round (k + 2) _ 6 (by omega), eight_round (k + 1) _ 7 (by omega)]
  rw [godwitref02_eight.l0, if_neg (by omega)]
  rfl
theorem eight_ge (k : Nat) (h : 9 ≤ k) (x : B) : godwitref02_eight.f k (I x) = some (I (eightB x)) := by
  obtain ⟨m, rfl⟩ : ∃ m, k = m + 9 := ⟨k - 9, by omega⟩
  exact eight_pure m x
theorem flip (x : B) : ((4294967295 : Int) - I x) % (4294967296 : Int) = I (~~~ x) := by
  have h := I_range x
  have e : 4294967295 - I x = I (~~~ x) := by
    unfold I
    rw [BitVec.toNat_not]
    have := x.isLt
    omega
  rw [e]
  have := I_range (~~~ x)
  omega
theorem rmore_loop (l : List Int) (hl : l.length ≤ 2000) : ∀ (d i k : Nat) (s : B), d + i = l.length → d + 10 ≤ k → godwitref02_More.l0 k l (I s) (i : Int) = some (I (~~~ foldB s ((l.drop i).map O))) := by
  intro d
  induction d with
  | zero =>
    intro i k s hi hk
    obtain ⟨k, rfl⟩ : ∃ m, k = m + 1 := ⟨k - 1, by omega⟩
    rw [godwitref02_More.l0, if_neg (by omega), flip, List.drop_of_length_le (by omega)]
    rfl
  | succ d ih =>
    intro i k s hi hk
    obtain ⟨k, rfl⟩ : ∃ m, k = m + 1 := ⟨k - 1, by omega⟩
    have hw : wrap64 ((i : Int) + 1) = ((i + 1 : Nat) : Int) := by unfold wrap64; omega
    have hx : Go.bits .xor .u32 (I s) (rd l (i : Int) % 4294967296) = I (s ^^^ O (rd l i)) := by rw [xor32, O_I, O_mod]
    have hr : rd l (i : Int) = l[i]'(by omega) := by simp [rd, List.getD_eq_getElem?_getD, show i < l.length by omega]
    rw [godwitref02_More.l0, if_pos (by omega), if_pos (by omega), hx, eight_ge k (by omega), Option.bind_some, hw, ih (i + 1) k _ (by omega) (by omega), List.drop_eq_getElem_cons (by omega : i < l.length), hr]
    rfl
theorem rmore_pure (s : Int) (h0 : 0 ≤ s) (h1 : s < 4294967296) (l : List Int) (hl : l.length ≤ 2000) : godwitref02_More.f 2010 s l = some (moreI s l) := by
  unfold godwitref02_More.f
  have e := flip (O s)
  rw [I_O s h0 h1] at e
  rw [e]
  have := rmore_loop l hl l.length 0 2010 (~~~ O s) (by omega) (by omega)
  rw [show (0 : Int) = ((0 : Nat) : Int) from rfl, this]
  rfl
theorem rof_pure (l : List Int) (hl : l.length ≤ 2000) : godwitref02_Of.f 2010 l = some (moreI 0 l) := by
  unfold godwitref02_Of.f
  rw [rmore_pure 0 (by omega) (by omega) l hl, Option.bind_some]
theorem rmore_ge {k : Nat} (hk : 2010 ≤ k) (s : Int) (h0 : 0 ≤ s) (h1 : s < 4294967296) (l : List Int) (hl : l.length ≤ 2000) : godwitref02_More.f k s l = some (moreI s l) := by
  unfold godwitref02_More.f
  have e := flip (O s)
  rw [I_O s h0 h1] at e
  rw [e]
  have := rmore_loop l hl l.length 0 k (~~~ O s) (by omega) (by omega)
  rw [show (0 : Int) = ((0 : Nat) : Int) from rfl, this]
  rfl
theorem rof_ge {k : Nat} (hk : 2010 ≤ k) (l : List Int) (hl : l.length ≤ 2000) : godwitref02_Of.f k l = some (moreI 0 l) := by
  unfold godwitref02_Of.f
  rw [rmore_ge hk 0 (by omega) (by omega) l hl, Option.bind_some]
theorem tdiv256 {v : Int} (h0 : 0 ≤ v) : Int.tdiv v 256 = v / 256 := Int.tdiv_eq_ediv_of_nonneg h0
theorem tmod256 {v : Int} (h0 : 0 ≤ v) : Int.tmod v 256 = v % 256 := Int.tmod_eq_emod_of_nonneg h0
theorem rU_round (k : Nat) (v n : Int) (l : List Int) (i : Int) (hi : i < n) (h8 : i < 8) (h0 : 0 ≤ i) (v0 : 0 ≤ v) (v1 : v < 4294967296) (hl : l.length ≤ 1000000) : godwitref01_U.l0 (k + 2) v n l i = godwitref01_U.l0 k (v / 256) n (l ++ [v % 256]) (i + 1) := by
  have hw : wrap64 (i + 1) = i + 1 := by unfold wrap64; omega
  rw [godwitref01_U.l0, if_pos hi, decide_eq_true h8, godwitref01_U.j1, if_pos rfl, if_pos (by omega), tdiv256 v0, tmod256 v0, hw, u64_in (by omega) (by omega), Int.emod_emod_of_dvd v (by decide)]
theorem rU_end (k : Nat) (v n : Int) (l : List Int) (i : Int) (hi : ¬ i < n) : godwitref01_U.l0 (k + 2) v n l i = some l := by
  rw [godwitref01_U.l0, if_neg hi, godwitref01_U.j1, if_neg (by decide)]
theorem rU_2 (k : Nat) (l : List Int) (hl : l.length ≤ 900000) (v : Int) (v0 : 0 ≤ v) (v1 : v < 4294967296) : godwitref01_U.f (k + 6) l v 2 = some (l ++ enc2 v) := by
  unfold godwitref01_U.f
  rw [Option.bind_some, List.nil_append, if_pos (by simp; omega)]
  rw [show k + 6 = (k + 4) + 2 from rfl, rU_round _ _ _ _ _ (by omega) (by omega) (by omega) (by omega) (by omega) (by omega)]
  rw [show k + 4 = (k + 2) + 2 from rfl, rU_round _ _ _ _ _ (by omega) (by omega) (by omega) (by omega) (by omega) (by simp; omega)]
  rw [rU_end _ _ _ _ _ (by omega)]
  simp [enc2]
theorem rU_4 (k : Nat) (l : List Int) (hl : l.length ≤ 900000) (v : Int) (v0 : 0 ≤ v) (v1 : v < 4294967296) : godwitref01_U.f (k + 10) l v 4 = some (l ++ enc4 v) := by
  unfold godwitref01_U.f
  rw [Option.bind_some, List.nil_append, if_pos (by simp; omega)]
  rw [show k + 10 = (k + 8) + 2 from rfl, rU_round _ _ _ _ _ (by omega) (by omega) (by omega) (by omega) (by omega) (by omega)]
  rw [show k + 8 = (k + 6) + 2 from rfl, rU_round _ _ _ _ _ (by omega) (by omega) (by omega) (by omega) (by omega) (by simp; omega)]
  rw [show k + 6 = (k + 4) + 2 from rfl, rU_round _ _ _ _ _ (by omega) (by omega) (by omega) (by omega) (by omega) (by simp; omega)]
  rw [show k + 4 = (k + 2) + 2 from rfl, rU_round _ _ _ _ _ (by omega) (by omega) (by omega) (by omega) (by omega) (by simp; omega)]
  rw [rU_end _ _ _ _ _ (by omega)]
  have e2 : v / 256 / 256 = v / 65536 := by omega
  have e3 : v / 65536 / 256 = v / 16777216 := by omega
  simp [enc4, e2, e3]
theorem rput_eq {k : Nat} (hk : 2020 ≤ k) (l p : List Int) (hl : l.length ≤ 100000) : godwitref03_Put.f k l p = some (putP l p) := by
  unfold putP godwitref03_Put.f
  by_cases h : (p.length : Int) > 512
  · rw [if_pos h, if_pos h]
  rw [if_neg h, if_neg h]
  obtain ⟨k2, e2⟩ : ∃ m, k = m + 6 := ⟨k - 6, by omega⟩
  obtain ⟨k4, e4⟩ : ∃ m, k = m + 10 := ⟨k - 10, by omega⟩
  have r := sumP_range p
  have u2 : godwitref01_U.f k [] (p.length : Int) 2 = some (enc2 (p.length : Int)) := by
    rw [e2]; exact rU_2 k2 [] (by simp) _ (by omega) (by omega)
  have u4 : godwitref01_U.f k (l ++ enc2 (p.length : Int)) (sumP p) 4 = some (l ++ enc2 (p.length : Int) ++ enc4 (sumP p)) := by
    rw [e4]; exact rU_4 k4 _ (by simp [enc2]; omega) _ r.1 r.2
  have m := moreI_range 0 (enc2 (p.length : Int))
  have um : godwitref02_More.f k (moreI 0 (enc2 (p.length : Int))) p = some (sumP p) := rmore_ge (by omega) _ m.1 m.2 p (by omega)
  rw [u64_in (show (0 : Int) ≤ (p.length : Int) by omega) (show (p.length : Int) < 4294967296 by omega), u2, Option.bind_some, rof_ge (by omega) _ (by simp [enc2]), Option.bind_some, um, Option.bind_some, Option.bind_some, if_pos (by simp; omega), Option.bind_some, List.nil_append, if_pos (by simp [enc2]; omega), u64_in r.1 r.2, u4, Option.bind_some, if_pos (by simp [enc2, enc4]; omega)]
  rfl
theorem hdr_iff {y : List Int} (hy : Bs y) (c1 : ¬ y.length < 2) (c3 : ¬ y.length < 6 + leN (y.take 2)) : putL [] (payP y) = y.take (6 + leN (y.take 2)) ↔ (leN ((y.drop 2).take 4) : Int) = sumP (payP y) := by
  have el : (payP y).length = leN (y.take 2) := by simp only [payP, List.length_drop, List.length_take]; omega
  have ep : payP y = (y.drop 6).take (leN (y.take 2)) := by
    unfold payP
    rw [List.drop_take]; congr 1; omega
  have e6 : y.take (6 + leN (y.take 2)) = y.take 2 ++ (y.drop 2).take 4 ++ payP y := by
    have : y.take 2 ++ (y.drop 2).take 4 = y.take 6 := by rw [← List.take_add]
    rw [ep, this, ← List.take_add]
  have l4 : ((y.drop 2).take 4).length = 4 := by simp; omega
  have r := sumP_range (payP y)
  have b4 : enc4 (sumP (payP y)) = (y.drop 2).take 4 ↔ (leN ((y.drop 2).take 4) : Int) = sumP (payP y) := by
    constructor
    · intro h; rw [← h]; exact enc4_leN r.1 r.2
    · intro h; rw [← h]; exact enc4_of l4 ((hy.drop 2).take 4)
  rw [← b4, e6]
  unfold putL
  rw [el, List.nil_append, enc2_of (by simp; omega) (hy.take 2)]
  constructor
  · intro h; exact List.append_cancel_left (List.append_cancel_right h)
  · intro h; rw [h]
theorem rd_take2 (x : List Int) (hx : Bs x) (a : Nat) (h : a + 2 ≤ x.length) : (leN ((x.drop a).take 2) : Int) = rd x (a : Int) + 256 * rd x ((a : Int) + 1) ∧ 0 ≤ rd x (a : Int) ∧ rd x (a : Int) < 256 ∧ 0 ≤ rd x ((a : Int) + 1) ∧ rd x ((a : Int) + 1) < 256 := by
  have e : (x.drop a).take 2 = [x[a], x[a + 1]] := by
    rw [List.drop_eq_getElem_cons (by omega : a < x.length), List.drop_eq_getElem_cons (by omega : a + 1 < x.length)]
    rfl
  have r0 : rd x (a : Int) = x[a] := by simp [rd, List.getD_eq_getElem?_getD, show a < x.length by omega]
  have r1 : rd x ((a : Int) + 1) = x[a + 1] := by
    rw [show (a : Int) + 1 = ((a + 1 : Nat) : Int) by omega]
    simp [rd, List.getD_eq_getElem?_getD, show a + 1 < x.length by omega]
  have b0 := hx x[a] (List.getElem_mem _)
  have b1 := hx x[a + 1] (List.getElem_mem _)
  rw [e, r0, r1]
  simp only [leN]
  omega
theorem payP_len {y : List Int} (c3 : ¬ y.length < 6 + leN (y.take 2)) : (payP y).length = leN (y.take 2) := by
  simp only [payP, List.length_drop, List.length_take]; omega
theorem wrap_in {z : Int} (h0 : -9223372036854775808 ≤ z) (h1 : z ≤ 9223372036854775807) : wrap64 z = z := by unfold wrap64; omega
theorem rreadj_eq {k : Nat} (hk : 2021 ≤ k) (x : List Int) (hx : Bs x) (hl : x.length ≤ 100000) (a : Int) (h0 : 0 ≤ a) (h1 : a ≤ (x.length : Int)) : godwitref03_Read.j0 k x a false = some (readY a (x.drop a.toNat)) := by
  obtain ⟨k, rfl⟩ : ∃ m, k = m + 1 := ⟨k - 1, by omega⟩
  obtain ⟨a, rfl⟩ := Int.eq_ofNat_of_zero_le h0
  have hy := hx.drop a
  have hyl : (x.drop a).length = x.length - a := List.length_drop
  have hla : wrap64 ((x.length : Int) - (a : Int)) = ((x.drop a).length : Int) := (wrap_in (by omega) (by omega)).trans (by omega)
  rw [godwitref03_Read.j0, if_neg (show ¬ (false = true) by decide), hla]
  clear hla
  simp only [Int.toNat_natCast]
  unfold readY
  by_cases c1 : (x.drop a).length < 2
  · rw [if_pos c1]
    exact if_pos (by omega)
  rw [if_neg c1]
  refine (if_neg (by omega)).trans ?_
  obtain ⟨t, b1, b2, b3, b4⟩ := rd_take2 x hx a (by omega)
  obtain ⟨i1, i6, hn, hn6, hn7⟩ : wrap64 ((a : Int) + 1) = (a : Int) + 1 ∧ wrap64 ((a : Int) + 6) = (a : Int) + 6 ∧ wrap64 (wrap64 (rd x (a : Int)) + wrap64 (256 * wrap64 (rd x ((a : Int) + 1)))) = (leN ((x.drop a).take 2) : Int) ∧ wrap64 (6 + (leN ((x.drop a).take 2) : Int)) = 6 + (leN ((x.drop a).take 2) : Int) ∧ wrap64 ((a : Int) + 6 + (leN ((x.drop a).take 2) : Int)) = (a : Int) + 6 + (leN ((x.drop a).take 2) : Int) := by
    refine ⟨wrap_in (by omega) (by omega), wrap_in (by omega) (by omega), ?_, wrap_in (by omega) (by omega), wrap_in (by omega) (by omega)⟩
    simp only [wrap_in (z := rd x (a : Int)) (by omega) (by omega), wrap_in (z := rd x ((a : Int) + 1)) (by omega) (by omega), wrap_in (z := 256 * rd x ((a : Int) + 1)) (by omega) (by omega), wrap_in (z := rd x (a : Int) + 256 * rd x ((a : Int) + 1)) (by omega) (by omega), t]
  simp only [i1, hn, i6, hn6, hn7]
  clear i1 hn i6 hn6 hn7
  simp only [if_pos h0, if_pos (show (a : Int) < (x.length : Int) by omega), if_pos (show 0 ≤ (a : Int) + 1 by omega), if_pos (show (a : Int) + 1 < (x.length : Int) by omega)]
  by_cases c2 : leN ((x.drop a).take 2) > 512
  · refine (if_pos (show (leN ((x.drop a).take 2) : Int) > 512 by omega)).trans ?_
    exact (congrArg some (if_pos c2)).symm
  refine (if_neg (show ¬ (leN ((x.drop a).take 2) : Int) > 512 by omega)).trans ?_
  refine Eq.trans ?_ (congrArg some (if_neg c2)).symm
  by_cases c3 : (x.drop a).length < 6 + leN ((x.drop a).take 2)
  · refine (if_pos (show ((x.drop a).length : Int) < 6 + (leN ((x.drop a).take 2) : Int) by omega)).trans ?_
    exact (congrArg some (if_pos c3)).symm
  refine (if_neg (show ¬ ((x.drop a).length : Int) < 6 + (leN ((x.drop a).take 2) : Int) by omega)).trans ?_
  refine Eq.trans ?_ (congrArg some (if_neg c3)).symm
  have el := payP_len c3
  have hc : (x.take ((a : Int) + 6 + (leN ((x.drop a).take 2) : Int)).toNat).drop a = (x.drop a).take (6 + leN ((x.drop a).take 2)) := by
    rw [List.drop_take]; congr 1; omega
  have hp : (x.take ((a : Int) + 6 + (leN ((x.drop a).take 2) : Int)).toNat).drop ((a : Int) + 6).toNat = payP (x.drop a) := by
    unfold payP
    rw [← hc, List.drop_drop]; congr 1
  have hpp : putP [] (payP (x.drop a)) = (putL [] (payP (x.drop a)), 0) := if_neg (by omega)
  have hpb : Bs (payP (x.drop a)) := (hy.take _).drop _
  have hq : Bs (putL [] (payP (x.drop a))) := (((Bs.app (a := []) (fun x hx => by simp at hx) (Bs_enc2 _)).app (Bs_enc4 _)).app hpb)
  have hi := hdr_iff hy c1 c3
  have ho : (payP (x.drop a)).length < 140737488355328 := by omega
  have er : godwitref03_Put.f k [] (payP (x.drop a)) = some (putL [] (payP (x.drop a)), 0) := by rw [rput_eq (by omega) [] _ (by simp), hpp]
  simp only [hp, Option.bind_some, List.nil_append, er, hc, List.length_nil, Nat.zero_add]
  refine (if_pos (show 0 ≤ (a : Int) + 6 by omega)).trans ?_
  refine (if_pos (show (a : Int) + 6 ≤ (a : Int) + 6 + (leN ((x.drop a).take 2) : Int) by omega)).trans ?_
  refine (if_pos (show (a : Int) + 6 + (leN ((x.drop a).take 2) : Int) ≤ (x.length : Int) by omega)).trans ?_
  refine (if_pos ho).trans ?_
  refine (if_pos (show (a : Int) ≤ (a : Int) + 6 + (leN ((x.drop a).take 2) : Int) by omega)).trans ?_
  by_cases c4 : (leN (((x.drop a).drop 2).take 4) : Int) = sumP (payP (x.drop a))
  · refine (if_pos ((str_inj hq (hy.take _)).2 (hi.2 c4))).trans ?_
    exact (congrArg some (if_pos c4)).symm
  · refine (if_neg (fun h => c4 (hi.1 ((str_inj hq (hy.take _)).1 h)))).trans ?_
    exact (congrArg some (if_neg c4)).symm
theorem rread_eq {k : Nat} (hk : 2021 ≤ k) (x : List Int) (hx : Bs x) (hl : x.length ≤ 100000) (a : Int) : godwitref03_Read.f k x a = some (readP x a) := by
  have q : godwitref03_Read.j0 k x a true = some ([], 0, 1) := by
    obtain ⟨k, rfl⟩ : ∃ m, k = m + 1 := ⟨k - 1, by omega⟩
    simp [godwitref03_Read.j0]
  unfold godwitref03_Read.f readP
  by_cases c0 : a < 0
  · rw [if_pos c0, if_pos (.inl c0)]; exact q
  rw [if_neg c0]
  by_cases c1 : a > (x.length : Int)
  · rw [decide_eq_true c1, if_pos (.inr c1)]; exact q
  rw [decide_eq_false c1, if_neg (by omega)]
  exact rreadj_eq hk x hx hl a (by omega) (by omega)
theorem rall_loop (x : List Int) (hx : Bs x) (hl : x.length ≤ 100000) : ∀ (d k : Nat) (acc : List (List Int)) (i : Int), 0 ≤ i → i ≤ (x.length : Int) → (x.length : Int) ≤ i + d → d + 2030 ≤ k → acc.length + d ≤ 200000 → godwitref03_All.l0 k x acc i = some (acc ++ (allF d x i).1, (allF d x i).2) := by
  intro d
  induction d with
  | zero =>
    intro k acc i h0 h1 h2 hk ha
    obtain ⟨k, rfl⟩ : ∃ m, k = m + 1 := ⟨k - 1, by omega⟩
    rw [godwitref03_All.l0, if_neg (by omega)]
    simp [allF]
  | succ d ih =>
    intro k acc i h0 h1 h2 hk ha
    obtain ⟨k, rfl⟩ : ∃ m, k = m + 1 := ⟨k - 1, by omega⟩
    rw [godwitref03_All.l0, allF]
    by_cases c : i < (x.length : Int)
    · rw [if_pos c, if_pos c]
      rw [rread_eq (by omega) x hx (by omega) i, Option.bind_some]
      obtain ⟨⟨p, n, e⟩, hq⟩ : ∃ t, t = readP x i := ⟨_, rfl⟩
      rw [← hq]
      simp only
      by_cases he : e = 0
      · subst he
        obtain ⟨q1, q2, q3, _⟩ := readP_next hq.symm
        rw [if_pos rfl, if_pos rfl, if_pos (by omega), ih k (acc ++ [p]) n (by omega) (by omega) (by omega) (by omega) (by simp; omega)]
        simp
      · rw [if_neg he, if_neg he]
        simp
    · rw [if_neg c, if_neg c]
      simp
theorem rall_eqP {k : Nat} (x : List Int) (hx : Bs x) (hl : x.length ≤ 100000) (hk : x.length + 2030 ≤ k) : godwitref03_All.f k x = some (allP x) := by
  unfold godwitref03_All.f allP
  rw [rall_loop x hx hl x.length k [] 0 (by omega) (by omega) (by omega) (by omega) (by simp; omega)]
  simp
theorem rall_eq {k : Nat} (hk : 6100 ≤ k) (x : List Int) (hx : Bs x) (hl : x.length ≤ 4000) : godwitref03_All.f k x = some (allF 4000 x 0) := by
  rw [rall_eqP x hx (by omega) (by omega)]
  unfold allP
  rw [allF_more x x.length 4000 0 (by omega) (by omega) (by omega) (by omega)]
end Go.Proofs.Ytdjenkcafhdicaa.Pure
/- Whether any payload's frame may be as the document says. -/
namespace Go.Proofs.Ytdjenkcafhdicaa.Pure
open Go.RowKit Go.Proofs.Ytdjenkcafhdicaa.Q Go.Proofs.YtdjenkcafhdicaaW.PrintWords Go.Proofs.YtdjenkcafhdicaaW.PrintLast Go.Proofs.Ytdjenkcafhdicaa.G
theorem FrameIs : godwitlaw03_FrameIs.Pure := by
  intro l0 a1 l2 ⟨_, b0⟩ w1 ⟨_, b2⟩
  have hb0 : Bs l0 := fun x hx => wf_u8 (b0 x hx)
  refine ⟨20001, ?_⟩
  have q : godwitlaw03_FrameIs.j0 20001 l0 a1 l2 true true = some true := by simp [godwitlaw03_FrameIs.j0]
  unfold godwitlaw03_FrameIs.f
  have aw : godwitlaw03_awake.f 20001 = some true := awake_eq 19995
  rw [aw, Option.bind_some]
  by_cases c0 : (l0.length : Int) > 2000
  · rw [if_pos c0]; exact q
  rw [if_neg c0]
  by_cases c2 : (l2.length : Int) > 2000
  · rw [decide_eq_true c2]; exact q
  rw [decide_eq_false c2]
  have e1 : frame_Put.f 20000 l0 l2 = some (putP l0 l2) := put_eq 19994 l0 l2 (by omega)
  have e2 : godwitref03_Put.f 20000 l0 l2 = some (putP l0 l2) := rput_eq (by omega) l0 l2 (by omega)
  have e3 : frame_Read.f 20000 l0 a1 = some (readP l0 a1) := read_eq 19995 l0 hb0 (by omega) a1
  have e4 : godwitref03_Read.f 20000 l0 a1 = some (readP l0 a1) := rread_eq (by omega) l0 hb0 (by omega) a1
  have e5 : frame_All.f 20000 l0 = some (allF 4000 l0 0) := all_eq 15990 l0 hb0 (by omega)
  have e6 : godwitref03_All.f 20000 l0 = some (allF 4000 l0 0) := rall_eq (by omega) l0 hb0 (by omega)
  have g0 := (allF_bs l0 hb0 4000 0).2
  have e7 : godwitref03_Lists.f 20000 (allF 4000 l0 0).1 (allF 4000 l0 0).1 = some true := lists_eq 9999 _ (by omega)
  obtain ⟨n, e8⟩ : ∃ n, frame_Len.f l2 = some n := by
    unfold frame_Len.f
    split
    · exact ⟨_, rfl⟩
    · exact ⟨_, rfl⟩
  have e9 : godwitref03_Len.f l2 = some n := e8
  rw [show (20001 : Nat) = 20000 + 1 from rfl, godwitlaw03_FrameIs.j0]
  rw [if_neg (show ¬ (false = true) by decide), e1, Option.bind_some, e2, Option.bind_some, e3, Option.bind_some, e4, Option.bind_some, e5, Option.bind_some, e6, Option.bind_some]
  rw [if_pos rfl, if_pos rfl, if_pos rfl, if_pos rfl, if_pos rfl, if_pos rfl, e7, Option.bind_some, if_pos rfl, if_pos rfl, if_pos rfl, e8, Option.bind_some, e9, Option.bind_some]
  simp
end Go.Proofs.Ytdjenkcafhdicaa.Pure
