/- With enough rounds: what a function with rounds tells from some number of rounds on. -/
import Derived.Test.YtaakniobgljniaaDoorHLen
import Derived.Test.YtaakniobgljniaaDoorPa0
import Derived.OpenShut
import Derived.IntWalk
namespace Go.Proofs.YtaakniobgljniaaDoor.Pure
open Go.RowKit Go.Proofs.YtaakniobgljniaaDoor.Pa Go.Proofs.YtaakniobgljniaaDoorW.PrintWords Go.Proofs.YtaakniobgljniaaDoorW.PrintLast Go.Proofs.YtaakniobgljniaaDoor.Hand Go.Proofs.YtaakniobgljniaaDoor.Num
set_option linter.unusedVariables false
set_option linter.unusedSimpArgs false

/-- With enough rounds the answer is r. -/
def Ev {α : Type} (F : Nat → Option α) (r : α) : Prop := ∃ K, ∀ k, K ≤ k → F k = some r
theorem Ev.succ {α : Type} {F : Nat → Option α} {r : α} (h : Ev (fun k => F (k + 1)) r) : Ev F r := by
  obtain ⟨K, hK⟩ := h
  refine ⟨K + 1, fun k hk => ?_⟩
  obtain ⟨j, rfl⟩ : ∃ j, k = j + 1 := ⟨k - 1, by omega⟩
  exact hK j (by omega)
theorem Ev.const {α : Type} {x : Option α} {r : α} (h : x = some r) : Ev (fun _ => x) r := ⟨0, fun _ _ => h⟩
theorem Ev.congr {α : Type} {F G : Nat → Option α} {r : α} (h : ∀ k, F k = G k) (hg : Ev G r) : Ev F r := by
  obtain ⟨K, hK⟩ := hg
  exact ⟨K, fun k hk => (h k).trans (hK k hk)⟩
theorem Ev.bind {α β : Type} {f : Nat → Option α} {g : Nat → α → Option β} {a : α} {r : β} (h : Ev f a) (h2 : Ev (fun k => g k a) r) : Ev (fun k => (f k).bind (g k)) r := by
  obtain ⟨K, hK⟩ := h
  obtain ⟨K2, hK2⟩ := h2
  refine ⟨max K K2, fun k hk => ?_⟩
  show (f k).bind (g k) = some r
  rw [hK k (by omega), Option.bind_some]
  exact hK2 k (by omega)
theorem Ev.get {α : Type} {F : Nat → Option α} {r : α} (h : Ev F r) : ∃ k, F k = some r := by
  obtain ⟨K, hK⟩ := h
  exact ⟨K, hK K (Nat.le_refl _)⟩
theorem rd_nat (l : List Int) (k : Nat) : rd l (k : Int) = l.getD k 0 := rfl
theorem w_pred (n : Nat) (h : n ≤ 17592186044416) : wrap64 (((n + 1 : Nat) : Int) - 1) = (n : Int) := by rw [IntWalk.wrap64_in _ (by omega)]; omega
theorem w_succ (n : Nat) (h : n ≤ 17592186044416) : wrap64 ((n : Int) + 1) = ((n + 1 : Nat) : Int) := IntWalk.wrap64_in _ (by omega)

end Go.Proofs.YtaakniobgljniaaDoor.Pure
