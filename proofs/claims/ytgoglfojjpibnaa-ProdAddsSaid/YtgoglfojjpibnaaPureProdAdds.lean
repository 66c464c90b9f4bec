/- ProdAdds: a number with another one times a word added at a place, and a number's halves, are as the document says. -/
import Derived.Test.YtgoglfojjpibnaaPProdA
import Derived.Test.YtgoglfojjpibnaaPa10
namespace Go.Proofs.Ytgoglfojjpibnaa.Pure
open Go.RowKit Go.Proofs.Ytgoglfojjpibnaa.Pa Go.Proofs.YtgoglfojjpibnaaW.PrintWords Go.Proofs.YtgoglfojjpibnaaW.PrintLast Go.Proofs.Ytgoglfojjpibnaa.Hand Go.Proofs.Ytgoglfojjpibnaa.Num
set_option linter.unusedVariables false
set_option linter.unusedSimpArgs false

theorem wrap_64n (n : Nat) (h : n ≤ 100000) : wrap64 (64 * (n : Int)) = ((64 * n : Nat) : Int) := w_nat (64 * n) (by omega)
theorem ref_mac_nat {a b : List Int} {x : Int} (ia : InB W a) (ib : InB W b) (hx : Wd x) (ha : a.length ≤ 40) (hb : b.length ≤ 40) {n : Nat} (hn : n ≤ 40) : Ev (fun k => tallystickref05_Mac.j0 k a b x (n : Int)) (dig W (val W a + val W b * x.toNat * W ^ n)) := by
  have fa := Fit.val ia ha
  have fb := Fit.val ib hb
  have ix : InB W [x] := inB_cons.2 ⟨wd_inb hx, inB_nil _⟩
  have vx : val W [x] = x.toNat := by simp [val]
  have h1 := times_ev ib ix hb (show [x].length ≤ 1 from Nat.le_refl _) (by decide) (by decide)
  rw [vx] at h1
  have f1 : Fit 41 (val W b * x.toNat) := fb.mul (k := 1) (by rw [← vx]; exact Fit.val ix (Nat.le_refl _))
  have l1 := f1.dig
  have ip : InB W (List.replicate n 0 ++ [(1 : Int)]) := inB_append.2 ⟨inB_replicate W_pos _, inB_cons.2 ⟨by rw [W_eq]; omega, inB_nil _⟩⟩
  have vp : val W (List.replicate n 0 ++ [(1 : Int)]) = W ^ n := by rw [val_snoc, val_replicate, List.length_replicate]; simp
  have lp : (List.replicate n 0 ++ [(1 : Int)]).length ≤ 41 := by simp; omega
  have h2 := times_ev (dI (val W b * x.toNat)) ip l1 lp (by decide) (by decide)
  rw [dV, vp] at h2
  have f2 : Fit 82 (val W b * x.toNat * W ^ n) := f1.mul (k := 41) (Fit.powW (by omega))
  refine Ev.succ ?_
  simp only [tallystickref05_Mac.j0]
  refine Ev.bind h1 (Ev.yes (by omega) (Ev.yes (by omega) (Ev.bind (Ev.const rfl) (Ev.bind (Ev.const rfl) ?_))))
  refine Ev.yes (by simp; omega) ?_
  rw [Int.toNat_natCast]
  exact Ev.bind h2 (Ev.bind (digits_ev ia (by omega)) (Ev.bind (digits_dig_ev f2 (by decide)) (Ev.bind (addV_ev (fa.mono (by decide)) f2 (by decide)) (Ev.bind (words_dig_ev ((fa.mono (show 40 ≤ 82 by decide)).add f2) (by decide)) (Ev.const rfl)))))
theorem ref_mac_ev {a b : List Int} {x n : Int} (ia : InB W a) (ib : InB W b) (hx : Wd x) (ha : a.length ≤ 40) (hb : b.length ≤ 40) (hn : n ≤ 40) : Ev (fun k => tallystickref05_Mac.f k a b x n) (dig W (val W a + val W b * x.toNat * W ^ n.toNat)) := by
  unfold tallystickref05_Mac.f
  by_cases h : n < 0
  · refine Ev.yes h ?_
    rw [show n.toNat = 0 by omega]
    exact ref_mac_nat ia ib hx ha hb (n := 0) (by omega)
  · refine Ev.no h ?_
    obtain ⟨n, rfl⟩ := Int.eq_ofNat_of_zero_le (show 0 ≤ n by omega)
    rw [Int.toNat_natCast]
    exact ref_mac_nat ia ib hx ha hb (by omega)
theorem ref_half_nat {a : List Int} (ia : InB W a) (ha : a.length ≤ 40) {n : Nat} (hn : n ≤ 40) : Ev (fun k => tallystickref05_Half.j0 k a (n : Int)) (dig W (val W a / W ^ n), dig W (val W a % W ^ n)) := by
  have fa := Fit.val ia ha
  have fp : Fit 41 (W ^ n) := Fit.powW (by omega)
  have la := fa.digV
  have lp := fp.digV
  have hp := pow_ev (n := 64 * n) (by omega)
  rw [← W_pow] at hp
  have hd := div_ev (dIV (val W a)) (by omega) (Nat.pow_pos (n := n) W_pos) (by omega)
  rw [dVV] at hd
  refine Ev.succ ?_
  simp only [tallystickref05_Half.j0, wrap_64n n (show n ≤ 100000 by omega)]
  exact Ev.bind (digits_ev ia (by omega)) (Ev.bind hp (Ev.bind hd (Ev.bind (words_dig_ev (fa.le (Nat.div_le_self _ _)) (by decide)) (Ev.bind (words_dig_ev (fa.le (Nat.mod_le _ _)) (by decide)) (Ev.const rfl)))))
theorem ref_half_ev {a : List Int} {n : Int} (ia : InB W a) (ha : a.length ≤ 40) (hn : n ≤ 40) : Ev (fun k => tallystickref05_Half.f k a n) (dig W (val W a / W ^ n.toNat), dig W (val W a % W ^ n.toNat)) := by
  unfold tallystickref05_Half.f
  by_cases h : n < 0
  · refine Ev.yes h ?_
    rw [show n.toNat = 0 by omega]
    exact ref_half_nat ia ha (n := 0) (by omega)
  · refine Ev.no h ?_
    obtain ⟨n, rfl⟩ := Int.eq_ofNat_of_zero_le (show 0 ≤ n by omega)
    rw [Int.toNat_natCast]
    exact ref_half_nat ia ha (by omega)
theorem adds_ev {a b : List Int} {x n m : Int} (ia : InB W a) (ib : InB W b) (hx : Wd x) (ha : a.length ≤ 40) (hb : b.length ≤ 40) (hn : n ≤ 40) (hm : m ≤ 40) : Ev (fun k => tallysticklaw05_ProdAdds.j0 k a b x n m true false) true := by
  have fa := Fit.val ia ha
  have fb := Fit.val ib hb
  have fx : Fit 1 x.toNat := by unfold Fit; rw [Nat.pow_one, W_eq]; have := hx.2; have := hx.1; omega
  have fm : Fit 82 (val W b * x.toNat * W ^ n.toNat) := (fb.mul fx).mul (k := 41) (Fit.powW (by omega))
  have fs := (fa.mono (show 40 ≤ 82 by decide)).add fm
  refine Ev.succ ?_
  simp only [tallysticklaw05_ProdAdds.j0]
  refine Ev.no (by decide) (Ev.bind (Ev.const (mac_eq ia ib hx (by omega) (by omega) (by omega))) (Ev.bind (ref_mac_ev ia ib hx ha hb hn) (Ev.bind (sameW_ev fs (by decide)) (Ev.bind (Ev.const (half_eq ib m)) (Ev.bind (ref_half_ev ib hb hm) ?_)))))
  exact Ev.yes (by first | rfl | trivial) (Ev.yes (by first | rfl | trivial) (Ev.bind (sameW_ev (fb.le (Nat.div_le_self _ _)) (by decide)) (Ev.yes (by first | rfl | trivial) (Ev.bind (sameW_ev (fb.le (Nat.mod_le _ _)) (by decide)) (Ev.const rfl)))))
theorem ProdAdds (a b : List Int) (x n m : Int) (_ : a.length ≤ maxLen) (wa : ∀ x ∈ a, (Lit.int .u64 x).wf = true) (_ : b.length ≤ maxLen) (wb : ∀ x ∈ b, (Lit.int .u64 x).wf = true) (wx : (Lit.int .u64 x).wf = true) (wn : (Lit.int .i64 n).wf = true) (wm : (Lit.int .i64 m).wf = true) :
    ∃ k, tallysticklaw05_ProdAdds.f k a b x n m = some true := by
  have ia := inB_of_wf wa
  have ib := inB_of_wf wb
  have hx : Wd x := by have := bounds_u64 wx; unfold Wd; omega
  refine Ev.get (F := fun k => tallysticklaw05_ProdAdds.f k a b x n m) ?_
  unfold tallysticklaw05_ProdAdds.f
  have hno : Ev (fun k => tallysticklaw05_ProdAdds.j0 k a b x n m true true) true := Ev.succ (Ev.congr (G := fun _ => some true) (fun k => by rw [tallysticklaw05_ProdAdds.j0, if_pos rfl]) (Ev.const rfl))
  refine Ev.bind (Ev.const shown5) (Ev.bind (Ev.const (few5 a b)) ?_)
  by_cases h : a.length ≤ 40 ∧ b.length ≤ 40
  · refine Ev.yes (decide_eq_true h) ?_
    by_cases h1 : n > 40
    · exact Ev.yes h1 hno
    · refine Ev.no h1 ?_
      by_cases h2 : m > 40
      · rw [decide_eq_true h2]; exact hno
      · rw [decide_eq_false h2]
        exact adds_ev ia ib hx h.1 h.2 (by omega) (by omega)
  · exact Ev.no (by simpa using h) hno
end Go.Proofs.Ytgoglfojjpibnaa.Pure
