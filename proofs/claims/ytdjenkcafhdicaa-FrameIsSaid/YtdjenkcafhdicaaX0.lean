/- Small words of mine over the kit's print words: a constant string's bytes, laid and marked in one step. -/
import Derived.Test.YtdjenkcafhdicaaWWords
import Derived.Test.YtdjenkcafhdicaaWMore
import Derived.Test.YtdjenkcafhdicaaWShare
import Derived.Test.YtdjenkcafhdicaaWGuard
import Derived.Lib.SlBytesConst
import Derived.Lib.BytesEntry
import Derived.Laws.Externs
import Derived.Lib.Walk
import Derived.WalkKit
import Derived.KernelRfl
namespace Go.Proofs.Ytdjenkcafhdicaa.G
open Go.RowKit Go.Proofs.YtdjenkcafhdicaaW.PrintWords
set_option linter.unusedVariables false

/-- One call, told twice with two answers. -/
theorem clash2 {f : Option Bool} (a : Aside0 (f = some true)) (b : Aside0 (f = some false)) : False := by
  have := a.out.symm.trans b.out
  cases this

theorem V_litc {P : Program} {ops : Array Oper} {rest : List Oper} {o o2 : Oper} {a : Act} {Q : Exit → Act → World → Prop} {W : World}
    (t e : TypeId) (hgd : o.guard = none) {N N2 : Nat} (hd : o.dst = some N) (hgd2 : ∀ v, Region.wanted o2 (yielded ops (a.put o.dst v).tmps) = true) (hd2 : o2.dst = some N2)
    (ho2 : o2.op = .convert t t (.tmp N)) {xs : List Int} {inner : List Value} (hin : inner = nums .u8 xs)
    (hrun : (execOp a.eval o).run P W = .ok (.value (.slice (some ⟨W.heap.size, 0, none⟩) xs.length xs.length)) (W.alloc (.cells inner.toArray e)))
    (ht : P.underlying t = some (.slice e)) (he : P.underlying e = some (.int .u8)) (hN : N < a.tmps.size) (hm : xs.length ≤ 9223372036854775807)
    (h : ∀ v1 w1, Kd.V (Kd.int .u8) e w1 W.heap.size (fun k_ => W.heap.size ≤ k_) v1 xs → Below W.heap.size W w1 → W.grownBy w1 none → True →
      wpList P ops Q rest ((a.put o.dst v1).put o2.dst v1) w1) : wpList P ops Q (o :: o2 :: rest) a W := by
  subst hin
  have hev : (a.put o.dst (.slice (some ⟨W.heap.size, 0, none⟩) xs.length xs.length)).eval (.tmp N) = .slice (some ⟨W.heap.size, 0, none⟩) xs.length xs.length := by
    rw [hd]
    simp [Act.put, Act.eval, Array.getD_eq_getD_getElem?, hN]
  have hsz : (nums .u8 xs).toArray.size = xs.length := by simp [nums]
  have hrun2 : (execOp (a.put o.dst (.slice (some ⟨W.heap.size, 0, none⟩) xs.length xs.length)).eval { o2 with guard := none }).run P (W.alloc (.cells (nums .u8 xs).toArray e)) =
      .ok (.value (.slice (some ⟨W.heap.size, 0, none⟩) xs.length xs.length)) (W.alloc (.cells (nums .u8 xs).toArray e ((nums .u8 xs).toArray.size, (nums .u8 xs).toArray.size + 1))) := by
    have k := Lib.run_convert_bytes_const (P := P) W t e (nums .u8 xs).toArray xs.length xs.length ht he
    simp only [execOp, ho2, hev]
    simp [k, Result.andThen]
  refine Kd.event_run hgd hrun (gate_guard (hgd2 _) (Kd.event_run rfl hrun2 (h _ _ ?_ (below_alloc (Below.refl _ _) _) (World.grownBy_alloc W _ none) trivial)))
  refine Kd.V_mk (Nat.le_refl _) ?_
  intro W' hW
  have hb : W'.heap[W.heap.size]? = some (.cells (nums .u8 xs).toArray e (xs.length, xs.length + 1)) := by
    rw [hW W.heap.size (Nat.le_refl _) (by show _ < (W.heap.push _).size; simp)]
    show (W.heap.push _)[W.heap.size]? = _
    simp [hsz]
  refine Kd.C_of_reads (d := (0 : Int)) ⟨rfl, hm, fun _ => ⟨_, rfl, fun j hj => ?_⟩⟩
  rw [add_plain]
  unfold World.cell?
  rw [hb]
  simp [nums, hj, List.getD_eq_getElem?_getD]
end Go.Proofs.Ytdjenkcafhdicaa.G
