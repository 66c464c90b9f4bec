/- WordReckons: sums, differences, products, with what is carried, are as the document says. -/
import Derived.Test.YtnmfinhmhmepdaaPWordA
import Derived.Test.YtnmfinhmhmepdaaPa7
namespace Go.Proofs.Ytnmfinhmhmepdaa.Pure
open Go.RowKit Go.Proofs.Ytnmfinhmhmepdaa.Pa Go.Proofs.YtnmfinhmhmepdaaW.PrintWords Go.Proofs.YtnmfinhmhmepdaaW.PrintMore Go.Proofs.YtnmfinhmhmepdaaW.PrintLast Go.Proofs.Ytnmfinhmhmepdaa.Hand Go.Proofs.Ytnmfinhmhmepdaa.Num
set_option linter.unusedVariables false
set_option linter.unusedSimpArgs false

theorem ref_add {a b c : Int} (ha : Wd a) (hb : Wd b) (hc : Wd c) : tallystickref01_Add.f (0 + 1) a b c = some (sumLo a b (cut1 c), sumHi a b (cut1 c)) := by
  have hj : ∀ d : Int, 0 ≤ d → d ≤ 1 → tallystickref01_Add.j0 (0 + 1) a b d = some (sumLo a b d, sumHi a b d) := fun d h0 h1 => by
    rw [tallystickref01_Add.j0]
    simp only [IntKind.wrap_u64]
    unfold Wd at *
    unfold sumLo sumHi
    split <;> split <;> (congr 1; refine Prod.ext ?_ ?_ <;> (simp only []; omega))
  unfold tallystickref01_Add.f cut1
  by_cases h : c > 1
  · rw [if_pos h, if_pos h]; exact hj 1 (by decide) (by decide)
  · rw [if_neg h, if_neg h]; exact hj c hc.1 (by omega)
theorem ref_sub {a b c : Int} (ha : Wd a) (hb : Wd b) (hc : Wd c) : tallystickref01_Sub.f a b c = some (subLo a b (cut1 c), subHi a b (cut1 c)) := by
  unfold tallystickref01_Sub.f cut1
  simp only [IntKind.wrap_u64]
  unfold Wd at *
  by_cases h : c > 1
  · rw [if_pos h, if_pos h]
    unfold subLo subHi
    split
    · rw [if_neg (by omega)]; congr 1; refine Prod.ext ?_ rfl; simp only []; omega
    · split
      · rw [if_neg (by decide), if_pos (by omega)]; congr 1; refine Prod.ext ?_ rfl; simp only []; omega
      · rw [if_pos (by omega)]; congr 1; refine Prod.ext ?_ rfl; simp only []; omega
  · rw [if_neg h, if_neg h]
    unfold subLo subHi
    split
    · rw [if_neg (by omega)]; congr 1; refine Prod.ext ?_ rfl; simp only []; omega
    · split
      · split
        · rw [if_neg (by omega)]; congr 1; refine Prod.ext ?_ rfl; simp only []; omega
        · rw [if_pos (by omega)]; congr 1; refine Prod.ext ?_ rfl; simp only []; omega
      · rw [if_pos (by omega)]; congr 1; refine Prod.ext ?_ rfl; simp only []; omega
theorem ref_mul {a b : Int} (ha : Wd a) (hb : Wd b) : tallystickref01_Mul.f a b = some (mulHi a b, mulLo a b) := by
  obtain ⟨x, rfl⟩ := Int.eq_ofNat_of_zero_le ha.1
  obtain ⟨y, rfl⟩ := Int.eq_ofNat_of_zero_le hb.1
  have hx : x < 18446744073709551616 := by have := ha.2; omega
  have hy : y < 18446744073709551616 := by have := hb.2; omega
  obtain ⟨bd, bt, bw, hhi⟩ := Lib.mul64_hi y x hy hx
  have ba := Lib.half_mul_le (a := y / 4294967296) (b := x / 4294967296) (by omega) (by omega)
  have bb := Lib.half_mul_le (a := y / 4294967296) (b := x % 4294967296) (by omega) (by omega)
  have bc := Lib.half_mul_le (a := y % 4294967296) (b := x / 4294967296) (by omega) (by omega)
  have c1 : x / 4294967296 * (y / 4294967296) = y / 4294967296 * (x / 4294967296) := Nat.mul_comm _ _
  have c2 : x % 4294967296 * (y / 4294967296) = y / 4294967296 * (x % 4294967296) := Nat.mul_comm _ _
  have c3 : x / 4294967296 * (y % 4294967296) = y % 4294967296 * (x / 4294967296) := Nat.mul_comm _ _
  have c4 : x % 4294967296 * (y % 4294967296) = y % 4294967296 * (x % 4294967296) := Nat.mul_comm _ _
  have c5 : mulHi (x : Int) (y : Int) = ((y * x / 18446744073709551616 : Nat) : Int) := by rw [Nat.mul_comm y x]; rfl
  have d1 : ∀ n : Nat, Int.tdiv (n : Int) 4294967296 = ((n / 4294967296 : Nat) : Int) := fun _ => rfl
  have m1 : ∀ n : Nat, Int.tmod (n : Int) 4294967296 = ((n % 4294967296 : Nat) : Int) := fun _ => rfl
  have ux : IntKind.u64.wrap ((x / 4294967296 : Nat) : Int) = ((x / 4294967296 : Nat) : Int) := u_nat _ (by omega)
  have uy : IntKind.u64.wrap ((y / 4294967296 : Nat) : Int) = ((y / 4294967296 : Nat) : Int) := u_nat _ (by omega)
  unfold tallystickref01_Mul.f
  rw [c5, ← hhi]
  simp only [d1, m1, ux, uy, ← Int.natCast_mul, c1, c2, c3, c4]
  generalize y / 4294967296 * (x / 4294967296) = p11 at *
  generalize y / 4294967296 * (x % 4294967296) = p10 at *
  generalize y % 4294967296 * (x / 4294967296) = p01 at *
  generalize y % 4294967296 * (x % 4294967296) = p00 at *
  have v11 := u_nat p11 (by omega)
  have v10 := u_nat p10 (by omega)
  have v01 := u_nat p01 (by omega)
  have v00 := u_nat p00 bd
  simp only [v11, v10, v01, v00, d1, m1]
  have v2 := u_nat (p00 / 4294967296) (by omega)
  simp only [v2, ← Int.natCast_add]
  have v3 := u_nat (p10 + p00 / 4294967296) bt
  simp only [v3, d1, m1, ← Int.natCast_add]
  have v4 := u_nat ((p10 + p00 / 4294967296) / 4294967296) (by omega)
  rw [Nat.add_comm p01]
  have v5 := u_nat ((p10 + p00 / 4294967296) % 4294967296 + p01) bw
  simp only [v4, v5, d1, ← Int.natCast_add]
  have v6 := u_nat (p11 + (p10 + p00 / 4294967296) / 4294967296) (by omega)
  have v7 := u_nat (((p10 + p00 / 4294967296) % 4294967296 + p01) / 4294967296) (by omega)
  simp only [v6, v7, ← Int.natCast_add]
  have v8 := u_nat (p11 + (p10 + p00 / 4294967296) / 4294967296 + ((p10 + p00 / 4294967296) % 4294967296 + p01) / 4294967296) (by omega)
  rw [v8, IntKind.wrap_u64]
  rfl
theorem WordReckons : tallysticklaw01_WordReckons.Pure := by
  intro a b c wa wb wc
  have ha := wd_of wa
  have hb := wd_of wb
  have hc := wd_of wc
  refine ⟨0 + 1, ?_⟩
  unfold tallysticklaw01_WordReckons.f
  rw [shown1, Option.bind_some, wadd ha hb hc, Option.bind_some, ref_add ha hb hc, Option.bind_some, wsub ha hb hc, Option.bind_some, ref_sub ha hb hc, Option.bind_some, wmul ha hb, Option.bind_some, ref_mul ha hb, Option.bind_some,
    if_pos rfl, if_pos rfl, if_pos rfl, if_pos rfl, if_pos rfl, if_pos rfl, beq_self_eq_true]
end Go.Proofs.Ytnmfinhmhmepdaa.Pure
