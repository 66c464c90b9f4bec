/- Texts joined into one: each with its own sentence of what is proved, and under which conditions. -/
import Derived.Test.YtaakniobgljniaaDoorHNum
import Derived.Test.YtaakniobgljniaaDoorHFermat
import Derived.Test.YtaakniobgljniaaDoorWMore
import Derived.Test.YtaakniobgljniaaDoorWShare
import Derived.WalkKit
import Derived.KernelRfl
import Derived.Handy
import Derived.LoopTactic
import Derived.Maps.AppendAt
import Derived.Deep.AppendLies
import Derived.Deep.RegionHeld3
import Derived.Deep.DrawnRows
import Derived.Test.YtaakniobgljniaaDoorPa3
import Derived.Test.YtaakniobgljniaaDoorPa4
/- The transform of a row, in any commutative ring, no program in sight: what it answers is the row's values at the powers of the root; twice done it is the row backwards, n times; so the product of two transforms is, transformed again, the rows' product. -/
namespace Go.Proofs.YtaakniobgljniaaDoor.Ntt
section
variable {R : Type}
def evens : List R → List R
  | [] => []
  | [a] => [a]
  | a :: _ :: l => a :: evens l
def odds : List R → List R
  | [] => []
  | [_] => []
  | _ :: b :: l => b :: odds l
def row (n : Nat) (f : Nat → R) : List R := (List.range n).map f
theorem evens_length : ∀ (k : Nat) (l : List R), l.length = 2 * k → (evens l).length = k ∧ (odds l).length = k
  | 0, [], _ => ⟨rfl, rfl⟩
  | k + 1, a :: b :: l, h => by
    simp only [List.length_cons] at h
    have ih := evens_length k l (by omega)
    simp only [evens, odds, List.length_cons]
    omega
  | k + 1, [a], h => by simp at h; omega
  | k + 1, [], h => by simp at h
  | 0, a :: l, h => by simp at h
theorem row_length (n : Nat) (f : Nat → R) : (row n f).length = n := by simp [row]
theorem row_add (a b : Nat) (f : Nat → R) : row (a + b) f = row a f ++ row b (fun i => f (a + i)) := by
  simp [row, List.range_add, Function.comp_def]
theorem row_congr {n : Nat} {f g : Nat → R} (h : ∀ i, i < n → f i = g i) : row n f = row n g :=
  List.map_congr_left fun i hi => h i (List.mem_range.1 hi)
theorem row_head (n : Nat) (f : Nat → R) : row (n + 1) f = f 0 :: row n (fun i => f (i + 1)) := by
  simp [row, List.range_succ_eq_map, Function.comp_def]
/-- A row, its first place kept, the others backwards. -/
def backs (l : List R) : List R := l.take 1 ++ (l.drop 1).reverse
theorem backs_length (l : List R) : (backs l).length = l.length := by simp [backs]; omega
end
section
variable {m : Nat} [NeZero m]
theorem rpow_zero (x : Fin m) : x ^ 0 = 1 := by grind
theorem rpow_succ (x : Fin m) (k : Nat) : x ^ (k + 1) = x ^ k * x := by grind
theorem rpow_add (x : Fin m) (a b : Nat) : x ^ (a + b) = x ^ a * x ^ b := by grind
theorem rmul_comm (x y : Fin m) : x * y = y * x := by grind
theorem rmul_assoc (x y z : Fin m) : x * y * z = x * (y * z) := by grind
theorem rone_mul (x : Fin m) : 1 * x = x := by grind
theorem rsub_add (x y : Fin m) : (x - y) + y = x := by grind
/-- A row's value at x. -/
def ev : List (Fin m) → Fin m → Fin m
  | [], _ => 0
  | a :: l, x => a + x * ev l x
/-- The transform of 2^j places. -/
def tr : Nat → List (Fin m) → Fin m → List (Fin m)
  | 0, l, _ => l
  | j + 1, l, w => row (2 ^ j) (fun i => (tr j (evens l) (w * w)).getD i 0 + w ^ i * (tr j (odds l) (w * w)).getD i 0) ++
      row (2 ^ j) (fun i => (tr j (evens l) (w * w)).getD i 0 - w ^ i * (tr j (odds l) (w * w)).getD i 0)

theorem ev_split : ∀ (l : List (Fin m)) (x : Fin m), ev l x = ev (evens l) (x * x) + x * ev (odds l) (x * x)
  | [], x => by simp only [ev, evens, odds]; grind
  | [a], x => by simp only [ev, evens, odds]; grind
  | a :: b :: l, x => by
    have ih := ev_split l x
    simp only [ev, evens, odds]
    rw [ih]
    grind
theorem pow_two_mul (w : Fin m) (i : Nat) : (w * w) ^ i = w ^ i * w ^ i := by
  induction i with
  | zero => simp only [rpow_zero]; grind
  | succ i ih => rw [rpow_succ, rpow_succ, ih]; grind
theorem row_getD (n : Nat) (f : Nat → Fin m) (i : Nat) (h : i < n) : (row n f).getD i 0 = f i := by
  rw [List.getD_eq_getElem?_getD]
  simp [row, h]
theorem tr_length : ∀ (j : Nat) (l : List (Fin m)) (w : Fin m), l.length = 2 ^ j → (tr j l w).length = 2 ^ j
  | 0, _, _, h => h
  | j + 1, l, w, _ => by rw [tr, List.length_append, row_length, row_length, Nat.pow_succ]; omega
/-- A root of 2^j places: its half power is -1. -/
def Root (j : Nat) (w : Fin m) : Prop := j = 0 ∨ w ^ (2 ^ (j - 1)) = -1
theorem Root.half {j : Nat} {w : Fin m} (h : Root (j + 1) w) : w ^ (2 ^ j) = -1 := by
  rcases h with h | h
  · omega
  · exact h
theorem Root.square {j : Nat} {w : Fin m} (h : Root (j + 1) w) : Root j (w * w) := by
  cases j with
  | zero => exact .inl rfl
  | succ j =>
    right
    have := h.half
    rw [Nat.pow_succ, Nat.mul_two, rpow_add] at this
    rw [pow_two_mul]
    exact this
theorem tr_ev : ∀ (j : Nat) (l : List (Fin m)) (w : Fin m), l.length = 2 ^ j → Root j w → tr j l w = row (2 ^ j) (fun k => ev l (w ^ k))
  | 0, l, w, hl, _ => by
    match l, hl with
    | [a], _ =>
      show [a] = [a + w ^ 0 * 0]
      rw [show a + w ^ 0 * 0 = a by grind]
  | j + 1, l, w, hl, hw => by
    rw [Nat.pow_succ] at hl
    obtain ⟨h1, h2⟩ := evens_length (2 ^ j) l (by omega)
    have hh := hw.half
    rw [tr, tr_ev j _ _ h1 hw.square, tr_ev j _ _ h2 hw.square, Nat.pow_succ, Nat.mul_two, row_add]
    congr 1
    · refine row_congr fun i hi => ?_
      rw [row_getD _ _ _ hi, row_getD _ _ _ hi, ev_split l, pow_two_mul]
    · refine row_congr fun i hi => ?_
      rw [row_getD _ _ _ hi, row_getD _ _ _ hi, ev_split l, pow_two_mul, rpow_add, hh]
      rw [show (-1 * w ^ i) * (-1 * w ^ i) = w ^ i * w ^ i by grind]
      grind
/-- The row of n ones. -/
abbrev ones (n : Nat) : List (Fin m) := List.replicate n 1
theorem ones_succ (n : Nat) : (ones (n + 1) : List (Fin m)) = 1 :: ones n := rfl
theorem ev_ones (n : Nat) (x : Fin m) : ev (ones (2 * n)) x = (1 + x) * ev (ones n) (x * x) := by
  induction n with
  | zero => show (0 : Fin m) = (1 + x) * 0; grind
  | succ n ih =>
    have e : 2 * (n + 1) = 2 * n + 1 + 1 := by omega
    rw [e, ones_succ, ones_succ, ones_succ]
    simp only [ev]
    rw [ih]
    grind
theorem Root.one {j : Nat} {w : Fin m} (h : Root (j + 1) w) : (w * w) ^ (2 ^ j) = 1 := by
  rw [pow_two_mul, h.half]; grind
theorem ones_zero : ∀ (j : Nat) (w : Fin m) (s : Nat), Root j w → 0 < s → s < 2 ^ j → ev (ones (2 ^ j)) (w ^ s) = 0
  | 0, _, s, _, h0, h1 => by simp at h1; omega
  | j + 1, w, s, hw, h0, h1 => by
    rw [Nat.pow_succ] at h1
    rw [Nat.pow_succ, Nat.mul_comm, ev_ones, ← pow_two_mul]
    rcases Nat.lt_trichotomy s (2 ^ j) with h | h | h
    · rw [ones_zero j (w * w) s hw.square h0 h]; grind
    · rw [h, hw.half]; grind
    · have e : s = 2 ^ j + (s - 2 ^ j) := by omega
      have e2 : (w * w) ^ s = (w * w) ^ (s - 2 ^ j) := by
        conv => lhs; rw [e]
        rw [rpow_add, hw.one]; grind
      rw [e2, ones_zero j (w * w) (s - 2 ^ j) hw.square (by omega) (by omega)]; grind
theorem ev_lin (a w y : Fin m) : ∀ (n : Nat) (c : Fin m) (f : Nat → Fin m), ev (row n (fun k => a + c * w ^ k * f k)) y = a * ev (ones n) y + c * ev (row n f) (y * w)
  | 0, c, f => by show (0 : Fin m) = a * 0 + c * 0; grind
  | n + 1, c, f => by
    rw [row_head, row_head, ones_succ]
    have e : (fun k : Nat => a + c * w ^ (k + 1) * f (k + 1)) = (fun k => a + (c * w) * w ^ k * f (k + 1)) := by
      funext k
      rw [rpow_succ]; grind
    simp only [ev]
    rw [e, ev_lin a w y n (c * w) (fun k => f (k + 1)), rpow_zero]
    grind
/-- The values at the powers of w, as a row, at y. -/
def two (n : Nat) (w : Fin m) (l : List (Fin m)) (y : Fin m) : Fin m := ev (row n (fun k => ev l (w ^ k))) y
theorem two_nil (n : Nat) (w y : Fin m) : two n w [] y = 0 := by
  unfold two
  induction n with
  | zero => rfl
  | succ n ih => rw [row_head]; simp only [ev] at ih ⊢; rw [ih]; grind
theorem two_cons (n : Nat) (w a : Fin m) (l : List (Fin m)) (y : Fin m) : two n w (a :: l) y = a * ev (ones n) y + two n w l (y * w) := by
  have h := ev_lin a w y n 1 (fun k => ev l (w ^ k))
  unfold two
  simp only [ev]
  have e : (fun k : Nat => a + 1 * w ^ k * ev l (w ^ k)) = (fun k : Nat => a + w ^ k * ev l (w ^ k)) := by funext k; grind
  rw [e] at h
  rw [h]; grind
theorem two_zero {n : Nat} {w : Fin m} (hS : ∀ s : Nat, 0 < s → s < n → ev (ones n) (w ^ s) = 0) : ∀ (l : List (Fin m)) (s : Nat), 0 < s → s + l.length ≤ n → two n w l (w ^ s) = 0
  | [], s, _, _ => two_nil n w _
  | a :: l, s, h0, h1 => by
    simp only [List.length_cons] at h1
    rw [two_cons, hS s h0 (by omega), ← rpow_succ w s, two_zero hS l (s + 1) (by omega) (by omega)]; grind
theorem two_at {n : Nat} {w : Fin m} (hS : ∀ s : Nat, 0 < s → s < n → ev (ones n) (w ^ s) = 0) (hN : w ^ n = 1) : ∀ (d : Nat) (l : List (Fin m)) (s : Nat), 0 < s → s + d = n → d < l.length → l.length ≤ d + n → two n w l (w ^ s) = ev (ones n) 1 * l.getD d 0
  | 0, a :: l, s, h0, h1, _, h3 => by
    obtain rfl : s = n := by omega
    simp only [List.length_cons] at h3
    have e : (1 : Fin m) * w = w ^ (1 : Nat) := by rw [rpow_succ, rpow_zero]
    rw [two_cons, hN, e, two_zero hS l 1 (by omega) (by omega)]
    simp only [List.getD_cons_zero]; grind
  | d + 1, a :: l, s, h0, h1, h2, h3 => by
    simp only [List.length_cons] at h2 h3
    rw [two_cons, hS s h0 (by omega), ← rpow_succ w s, two_at hS hN d l (s + 1) (by omega) (by omega) (by omega) (by omega)]
    simp only [List.getD_cons_succ]; grind
  | _, [], _, _, _, h, _ => by simp at h
theorem backs_getD (l : List (Fin m)) (t : Nat) (h : t < l.length) : (backs l).getD t 0 = if t = 0 then l.getD 0 0 else l.getD (l.length - t) 0 := by
  match l, h with
  | a :: l, h =>
    simp only [List.length_cons] at h
    cases t with
    | zero => rfl
    | succ t =>
      simp only [backs, List.take_succ_cons, List.take_zero, List.drop_succ_cons, List.drop_zero, List.singleton_append, List.getD_cons_succ, List.length_cons]
      rw [if_neg (by omega), show l.length + 1 - (t + 1) = (l.length - 1 - t) + 1 by omega, List.getD_cons_succ, List.getD_eq_getElem?_getD, List.getD_eq_getElem?_getD, List.getElem?_reverse (by omega)]
/-- The transforms' product, transformed, backwards: n times the rows' product. -/
theorem ntt_conv (j : Nat) (w : Fin m) (A B C : List (Fin m)) (hw : Root j w) (hN : w ^ (2 ^ j) = 1) (hA : A.length = 2 ^ j) (hB : B.length = 2 ^ j) (hC : C.length = 2 ^ j) (h : ∀ x, ev C x = ev A x * ev B x) (t : Nat) (ht : t < 2 ^ j) :
    (backs (tr j (row (2 ^ j) (fun k => (tr j A w).getD k 0 * (tr j B w).getD k 0)) w)).getD t 0 = ev (ones (2 ^ j)) 1 * C.getD t 0 := by
  have hP : row (2 ^ j) (fun k => (tr j A w).getD k 0 * (tr j B w).getD k 0) = row (2 ^ j) (fun k => ev C (w ^ k)) := by
    rw [tr_ev j A w hA hw, tr_ev j B w hB hw]
    refine row_congr fun k hk => ?_
    rw [row_getD _ _ _ hk, row_getD _ _ _ hk, h]
  have hS := fun s => ones_zero j w s hw
  have hp := Nat.two_pow_pos j
  rw [hP, backs_getD _ _ (by rw [tr_length _ _ _ (row_length _ _)]; exact ht), tr_length _ _ _ (row_length _ _), tr_ev j _ w (row_length _ _) hw]
  split
  · rename_i h0
    subst h0
    have e1 : w ^ 0 = w ^ (2 ^ j) := by rw [rpow_zero, hN]
    rw [row_getD _ _ _ hp, e1]
    exact two_at hS hN 0 C (2 ^ j) hp (by omega) (by omega) (by omega)
  · rw [row_getD _ _ _ (by omega)]
    exact two_at hS hN t C (2 ^ j - t) (by omega) (by omega) (by omega) (by omega)
end
end Go.Proofs.YtaakniobgljniaaDoor.Ntt

/- Texts joined into one: each with its own sentence of what is proved, and under which conditions. -/
/- Rows of words of 32 bits, and numbers modulo m as they are held: what trio's walks use. -/
namespace Go.Proofs.YtaakniobgljniaaDoor.Hand
open Go.RowKit Go.Proofs.YtaakniobgljniaaDoorW.PrintWords Go.Proofs.YtaakniobgljniaaDoorW.PrintMore Go.Proofs.YtaakniobgljniaaDoor.Pa Go.Proofs.YtaakniobgljniaaDoor.Ntt
set_option linter.unusedVariables false
set_option linter.unusedSimpArgs false

theorem info32 : (Tryd.prog.info? 23).map (fun i => (i.zero, i.size, i.bytes)) = some (some (.int .u32 0), 1, 4) := by kernel_rfl
theorem run_make32 (m : Nat) (hm : m * 4 ≤ 281474976710656) (W : World) :
    (Instr.makeSlice 25 (.int .i64 (m : Int)) (.int .i64 (m : Int))).run Tryd.prog W = .ok (.slice (some ⟨W.heap.size, 0, none⟩) m m) (W.alloc (.cells (madeCells #[.int .u32 0] m) 23)) := by
  obtain ⟨i, hi, hi2⟩ := Option.map_eq_some_iff.1 info32
  simp only [Prod.mk.injEq] at hi2
  have h := run_make (P := Tryd.prog) W 25 23 i (.int .u32 0) Tryd.underlying25 hi hi2.1 .i64 .i64 m m (by omega) (Int.le_refl _) (by rw [hi2.2.2]; omega) (by omega)
  rw [hi2.2.1, Nat.mul_one, Int.toNat_natCast] at h
  exact h
/-- A row of words that a call has made: its block holds the words l. -/
abbrev Row32 (w : World) (B : Nat) (l : List Int) : Prop := w.heap[B]? = some (.cells (nums .u32 l).toArray 23 (0, 0))
theorem Row32.own {w : World} {B n : Nat} {l : List Int} (h : Row32 w B l) (hl : l.length = n) (hn : n ≤ 35184372088832) : w.ownsRow 0 23 1 (.slice (some ⟨B, 0, none⟩) n n) n (nums .u32 l) := by
  subst hl
  exact ⟨by simp [nums], .inr ⟨B, l.length, _, rfl, Nat.zero_le _, h, Nat.le_refl _, by unfold maxLen; omega, by simp [nums], by rw [Nat.mul_one]; exact List.take_of_length_le (by simp [nums])⟩⟩
theorem Row32.set {w : World} {B : Nat} {l : List Int} (h : Row32 w B l) (k : Nat) (y : Int) : Row32 (w.setCell ⟨B, k, none⟩ (.int .u32 y)) B (l.set k y) := by
  unfold Row32
  rw [setCell_eq_setRow w B k _ _ _ _ h, setRow_heap w B _ _ _ _ h]
  simp [nums, List.map_set]
theorem Row32.made {w : World} (m : Nat) : Row32 (w.alloc (.cells (madeCells #[.int .u32 0] m) 23)) w.heap.size (List.replicate m 0) := by
  unfold Row32
  rw [blk_new]
  congr 2
  apply Array.ext'
  refine (List.eq_replicate_iff (a := Value.int .u32 0) (n := m)).2 ⟨by simp [madeCells], ?_⟩ |>.trans (by simp [nums])
  simp [madeCells, Nat.mod_one]
theorem nums32_at (l : List Int) (k : Nat) (hk : k < l.length) : (nums .u32 l).toArray[k]? = some (.int .u32 (l.getD k 0)) := by
  rw [List.getD_eq_getElem?_getD]
  simp [nums, hk]
theorem own_later {B : Nat} {e : TypeId} {k : Nat} {v : Value} {n : Nat} {xs : List Value} {w w' : World} (h : w.ownsRow B e k v n xs) (hb : Below w.heap.size w w') : w'.ownsRow B e k v n xs := by
  refine ⟨h.1, ?_⟩
  rcases h.2 with hn | ⟨g, cap, cur, hv, hB, hg, rest⟩
  · exact .inl hn
  · exact .inr ⟨g, cap, cur, hv, hB, blk_below hg hb, rest⟩
theorem own_base {B B' : Nat} {e : TypeId} {k : Nat} {v : Value} {n : Nat} {xs : List Value} {w : World} (h : w.ownsRow B e k v n xs) (hb : ∀ g, v.ownBlock = some g → B' ≤ g) : w.ownsRow B' e k v n xs := by
  refine ⟨h.1, ?_⟩
  rcases h.2 with hn | ⟨g, cap, cur, hv, hB, hg, rest⟩
  · exact .inl hn
  · exact .inr ⟨g, cap, cur, hv, hb g (by rw [hv]; rfl), hg, rest⟩
theorem cell_later {w w' : World} {p : Addr} {v : Value} (h : w.cell? p = some v) (hb : Below w.heap.size w w') : w'.cell? p = some v := by
  rw [hb.cell (p := p) (World.block_lt_of_cell? w _ h)]
  exact h
theorem below_on {a b c : World} (h : Below a.heap.size a b) (k : Below b.heap.size b c) : Below a.heap.size a c := h.trans (k.mono h.size)

/-! ### numbers modulo m, as they are held -/
section
variable {m : Nat}
def hv (x : Fin m) : Int := ((held m x.val : Nat) : Int)
def hl (l : List (Fin m)) : List Int := l.map hv
theorem hl_length (l : List (Fin m)) : (hl l).length = l.length := by simp [hl]
theorem held_mod (x : Nat) : held m (x % m) = held m x := held_cong (Nat.mod_mod _ _)
theorem hv_mul {n : Nat} (F : Form m n) (one sq : Int) (x y : Fin m) : mont_Mul.f m n one sq (hv x) (hv y) = some (hv (x * y)) := by
  unfold hv
  rw [mul_held F one sq, Fin.val_mul, held_mod]
theorem hv_add (x y : Fin m) : (hv x + hv y) % (m : Int) = hv (x + y) := by
  unfold hv
  rw [Fin.val_add, held_mod]
  unfold held
  rw [Nat.add_mul, Nat.add_mod]
  simp only [Int.natCast_emod, Int.natCast_add]
variable [NeZero m]
theorem hv_lt (x : Fin m) : 0 ≤ hv x ∧ hv x < (m : Int) := by
  have : held m x.val < m := Nat.mod_lt _ (Nat.pos_of_ne_zero (NeZero.ne m))
  unfold hv
  omega
theorem hv_sub (x y : Fin m) : (hv x + (m : Int) - hv y) % (m : Int) = hv (x - y) := by
  have hm : 0 < m := Nat.pos_of_ne_zero (NeZero.ne m)
  have hy := y.isLt
  have h1 : (x - y).val = (m - y.val + x.val) % m := by rw [Fin.sub_def]
  have e : ((x - y) + y : Fin m) = x := by exact Ntt.rsub_add x y
  have h2 := hv_add (x - y) y
  rw [e] at h2
  have a1 := hv_lt (x - y)
  have a2 := hv_lt y
  have a3 := hv_lt x
  generalize hv (x - y) = u at *
  generalize hv y = v at *
  generalize hv x = t at *
  generalize (m : Int) = M at *
  rcases Int.lt_or_le (u + v) M with h | h
  · rw [Int.emod_eq_of_lt (by omega) h] at h2
    rw [show t + M - v = u + M by omega, Int.add_emod_right]
    exact Int.emod_eq_of_lt a1.1 a1.2
  · have e3 : (u + v) % M = u + v - M := by
      have q : (u + v - M + M) % M = (u + v - M) % M := Int.add_emod_right _ _
      rw [Int.sub_add_cancel] at q
      rw [q]
      exact Int.emod_eq_of_lt (a := u + v - M) (b := M) (by omega) (by omega)
    rw [e3] at h2
    rw [show t + M - v = u by omega]
    exact Int.emod_eq_of_lt a1.1 a1.2
theorem hl_getD (l : List (Fin m)) (k : Nat) (hk : k < l.length) : (hl l).getD k 0 = hv (l.getD k 0) := by
  simp [hl, List.getD_eq_getElem?_getD, hk]
end
end Go.Proofs.YtaakniobgljniaaDoor.Hand

/- trio.transform by hand: what it answers is Ntt.tr, in numbers as they are held; new memory alone is written. -/
namespace Go.Proofs.YtaakniobgljniaaDoor.Hand
open Go.RowKit Go.Proofs.YtaakniobgljniaaDoorW.PrintWords Go.Proofs.YtaakniobgljniaaDoorW.PrintMore Go.Proofs.YtaakniobgljniaaDoor.Pa Go.Proofs.YtaakniobgljniaaDoor.Ntt
set_option linter.unusedVariables false
set_option linter.unusedSimpArgs false
attribute [local go_sem] Oper.semAt_some max2_int min2_int max_two min_two
attribute [local go_sem ↓] Go.wp_at_zero Go.wp_at_succ

section
variable {m : Nat} [NeZero m]
/-- A form, as it is handed over. -/
abbrev monV (m n : Nat) [NeZero m] (sq : Int) : Value := .agg #[.int .u32 (m : Int), .int .u32 (n : Int), .int .u32 (hv (1 : Fin m)), .int .u32 sq]
/-- What transform answers, for 2^j places. -/
def TrTells (m n : Nat) [NeZero m] (sq : Int) (j : Nat) : Prop := ∀ (v : Value) (L : List (Fin m)) (ω : Fin m) (w : World), L.length = 2 ^ j → w.ownsRow 0 23 1 v (2 ^ j) (nums .u32 (hl L)) →
  Calls Tryd.prog 31 #[monV m n sq, v, .int .u32 (hv ω)] w fun e w' => ∃ v', e = .returned v' ∧ w'.ownsRow 0 23 1 v' (2 ^ j) (nums .u32 (hl (tr j L ω))) ∧ (v' = v ∨ ∃ g, v'.ownBlock = some g ∧ w.heap.size ≤ g) ∧ Below w.heap.size w w'
set_option maxRecDepth 100000 in
theorem transform_zero (n : Nat) (sq : Int) : TrTells m n sq 0 := by
  intro v L ω w hL hown
  obtain ⟨g, cap, rfl, _, hg⟩ := hown.form (by simp)
  have HO := Aside0.mk hown
  have hB : Below w.heap.size w (w.alloc (.cells #[.int .u32 (m : Int), .int .u32 (n : Int), .int .u32 (hv (1 : Fin m)), .int .u32 sq] 60)) := below_alloc (Below.refl _ _) _
  have HB := Aside0.mk hB
  clear hown hL hB
  show Calls Tryd.prog 31 #[monV m n sq, .slice (some ⟨g, 0, none⟩) 1 cap, .int .u32 (hv ω)] w _
  go_enter Tryd.func31, Tryd.ntmps31
  go_wp2
  refine bodyPost_ret (results_tmp rfl _ _ _) rfl ?_
  exact ⟨_, rfl, own_later HO.out HB.out, .inl rfl, HB.out⟩

theorem evens_getD : ∀ (i : Nat) (L : List (Fin m)), 2 * i < L.length → (evens L).getD i 0 = L.getD (2 * i) 0
  | 0, [a], _ => rfl
  | 0, a :: b :: l, _ => rfl
  | i + 1, a :: b :: l, h => by
    simp only [List.length_cons] at h
    have := evens_getD i l (by omega)
    rw [show 2 * (i + 1) = 2 * i + 1 + 1 by omega]
    simpa [evens] using this
  | i + 1, [a], h => by simp at h
  | _, [], h => by simp at h
theorem odds_getD : ∀ (i : Nat) (L : List (Fin m)), 2 * i + 1 < L.length → (odds L).getD i 0 = L.getD (2 * i + 1) 0
  | 0, a :: b :: l, _ => rfl
  | i + 1, a :: b :: l, h => by
    simp only [List.length_cons] at h
    have := odds_getD i l (by omega)
    rw [show 2 * (i + 1) + 1 = 2 * i + 1 + 1 + 1 by omega]
    simpa [odds] using this
  | _, [a], h => by simp at h
  | _, [], h => by simp at h
theorem hl_take_succ (L : List (Fin m)) (i : Nat) (h : i < L.length) : nums .u32 (hl (L.take (i + 1))) = nums .u32 (hl (L.take i)) ++ [.int .u32 (hv (L.getD i 0))] := by
  have e : L.take (i + 1) = L.take i ++ [L.getD i 0] := by
    rw [List.take_add_one, List.getElem?_eq_getElem h, List.getD_eq_getElem?_getD, List.getElem?_eq_getElem h]
    rfl
  rw [e]
  simp [nums, hl]
theorem blk_at_new {w : World} {o : Obj} {n : Nat} (h : n = w.heap.size) : (w.alloc o).heap[n]? = some o := by subst h; exact blk_new _ _
/-- Two rows apart. -/
def Apart (u v : Value) : Prop := ∀ b, u.ownBlock = some b → v.ownBlock = some b → False
theorem Apart.turn {u v : Value} (h : Apart u v) : Apart v u := fun b h1 h2 => h b h2 h1
theorem own_in {B : Nat} {e : TypeId} {k : Nat} {v : Value} {n : Nat} {xs : List Value} {w : World} (h : w.ownsRow B e k v n xs) {b : Nat} (hb : v.ownBlock = some b) : B ≤ b ∧ b < w.heap.size := by
  rcases h.2 with ⟨rfl, _⟩ | ⟨g, cap, cur, rfl, hB, hg, _⟩
  · cases hb
  · have : g = b := by simpa [Value.ownBlock] using hb
    subst this
    exact ⟨hB, blk_lt hg⟩
/-- What is so behind an append to u: v is as it was, and lies apart from it. -/
theorem append_facts {w W w1 : World} {u v : Value} {bs nu nv k c g X B : Nat} {T : TypeId} {xs ys zs : List Value} {o : Obj}
    (hu : W.ownsRow bs T 1 u nu xs) (hv : W.ownsRow bs T 1 v nv ys) (hap : Apart u v) (hx : W.heap[X]? = some o) (hX : X < bs) (hb : Below B w W) (hB : B ≤ bs) (hBW : B ≤ W.heap.size)
    (hown : w1.ownsRow bs T 1 (.slice (some ⟨g, 0, none⟩) k c) k zs) (hgrow : W.grownBy w1 u.ownBlock) (hat : u.ownBlock = some g ∨ g = W.heap.size) :
    w1.ownsRow bs T 1 v nv ys ∧ Apart (.slice (some ⟨g, 0, none⟩) k c) v ∧ w1.heap[X]? = some o ∧ Below B w w1 := by
  refine ⟨hv.kept hgrow ?_, ?_, blk_grown hx hgrow ?_, hb.grown hgrow hBW (fun b e => Nat.le_trans hB (own_in hu e).1)⟩
  · cases hvb : v.ownBlock with
    | none => exact .inl rfl
    | some b => exact .inr fun e => hap b e.symm hvb
  · intro b h1 h2
    have hb1 : g = b := by simpa [Value.ownBlock] using h1
    subst hb1
    rcases hat with h | h
    · exact hap _ h h2
    · have := (own_in hv h2).2
      omega
  · intro e
    have := (own_in hu e.symm).1
    omega
/-- A block that is made behind a row is kept by an append to the row. -/
theorem append_keeps {Wc W w1 : World} {u : Value} {bs nu : Nat} {T : TypeId} {xs : List Value} (hu : Wc.ownsRow bs T 1 u nu xs) (hgrow : W.grownBy w1 u.ownBlock) (b : Nat) (o : Obj) (hb : Wc.heap.size ≤ b) (h : W.heap[b]? = some o) : w1.heap[b]? = some o :=
  blk_grown h hgrow (fun e => by have := (own_in hu e.symm).2; omega)
theorem wrap_succ {k : Nat} (h : k ≤ 4294967296) : wrap64 ((k : Int) + 1) = ((k + 1 : Nat) : Int) := by unfold wrap64; omega
theorem less_left {i k : Nat} (h : k < i) : i - (k + 1) < i - k := by omega
theorem below_on' {a b c : World} (k : Below b.heap.size b c) (h : Below a.heap.size a b) : Below a.heap.size a c := below_on h k
theorem own_cell {w : World} {g n c : Nat} {l : List (Fin m)} (h : w.ownsRow 0 23 1 (.slice (some ⟨g, 0, none⟩) n c) n (nums .u32 (hl l))) (k : Nat) (hk : k < n) : w.cell? ⟨g, k, none⟩ = some (.int .u32 (hv (l.getD k 0))) := by
  have hr := own_reads' h
  obtain ⟨ad, e, hcell⟩ := hr.2.2 (by omega)
  cases e
  have := hcell k hk
  have hl1 := hr.1
  rw [hl_length] at hl1
  rwa [hl_getD _ _ (by omega), Addr.add_lit, Nat.zero_add] at this
theorem row32_cell {w : World} {B : Nat} {l : List Int} (h : Row32 w B l) (k : Nat) (hk : k < l.length) : w.cell? ⟨B, k, none⟩ = some (.int .u32 (l.getD k 0)) := (blk_cell h k).trans (nums32_at l k hk)
theorem row32_cell_set {w : World} {B : Nat} {l : List Int} (h : Row32 w B l) (k K : Nat) (y : Int) (hk : K < l.length) (hne : k ≠ K) : (w.setCell ⟨B, k, none⟩ (.int .u32 y)).cell? ⟨B, K, none⟩ = some (.int .u32 (l.getD K 0)) := by
  rw [row32_cell (h.set k y) K (by rw [List.length_set]; exact hk), List.getD_eq_getElem?_getD, List.getD_eq_getElem?_getD, List.getElem?_set_ne hne]
/-- The row that is being made, k of i rounds done. -/
structure Part (ω : Fin m) (E O : List (Fin m)) (i k : Nat) (row : List Int) : Prop where
  len : row.length = 2 * i
  fst : ∀ t, t < k → row.getD t 0 = hv (E.getD t 0 + ω ^ t * O.getD t 0)
  snd : ∀ t, t < k → row.getD (i + t) 0 = hv (E.getD t 0 - ω ^ t * O.getD t 0)
theorem getD_set32 (l : List Int) (i j : Nat) (x : Int) (hi : i < l.length) : (l.set i x).getD j 0 = if i = j then x else l.getD j 0 := by
  rw [List.getD_eq_getElem?_getD, List.getD_eq_getElem?_getD, List.getElem?_set]
  split
  · rename_i h; subst h; simp [hi]
  · rfl
theorem Part.step {ω : Fin m} {E O : List (Fin m)} {i k : Nat} {row : List Int} (h : Part ω E O i k row) (hk : k < i) :
    Part ω E O i (k + 1) ((row.set k (hv (E.getD k 0 + ω ^ k * O.getD k 0))).set (k + i) (hv (E.getD k 0 - ω ^ k * O.getD k 0))) := by
  have hl := h.len
  refine ⟨by simp [hl], fun t ht => ?_, fun t ht => ?_⟩
  · rw [getD_set32 _ _ _ _ (by simp [hl]; omega), getD_set32 _ _ _ _ (by omega), if_neg (by omega)]
    split
    · rename_i e; subst e; rfl
    · exact h.fst t (by omega)
  · rw [getD_set32 _ _ _ _ (by simp [hl]; omega), getD_set32 _ _ _ _ (by omega)]
    by_cases e : t = k
    · subst e; rw [if_pos (by omega)]
    · rw [if_neg (by omega), if_neg (by omega)]
      exact h.snd t (by omega)
theorem Part.done {ω : Fin m} {L : List (Fin m)} {j : Nat} {row : List Int} (h : Part ω (tr j (evens L) (ω * ω)) (tr j (odds L) (ω * ω)) (2 ^ j) (2 ^ j) row) : row = hl (tr (j + 1) L ω) := by
  have hl1 := h.len
  refine List.ext_getElem (by rw [hl_length, tr, List.length_append, row_length, row_length, hl1]; omega) fun t h1 h2 => ?_
  have e1 : row[t] = row.getD t 0 := by rw [List.getD_eq_getElem?_getD, List.getElem?_eq_getElem h1]; rfl
  have e2 : (hl (tr (j + 1) L ω))[t] = (hl (tr (j + 1) L ω)).getD t 0 := by rw [List.getD_eq_getElem?_getD, List.getElem?_eq_getElem h2]; rfl
  rw [e1, e2, hl_getD _ _ (by rw [hl_length] at h2; exact h2), tr]
  rcases Nat.lt_or_ge t (2 ^ j) with h3 | h3
  · rw [h.fst t h3, List.getD_eq_getElem?_getD (l := _ ++ _), List.getElem?_append_left (by rw [row_length]; exact h3), ← List.getD_eq_getElem?_getD, row_getD _ _ _ h3]
  · obtain ⟨s, rfl⟩ : ∃ s, t = 2 ^ j + s := ⟨t - 2 ^ j, by omega⟩
    rw [h.snd s (by omega), List.getD_eq_getElem?_getD (l := _ ++ _), List.getElem?_append_right (by rw [row_length]; omega), row_length, Nat.add_sub_cancel_left, ← List.getD_eq_getElem?_getD, row_getD _ _ _ (by omega)]
set_option maxHeartbeats 4000000 in
set_option maxRecDepth 100000 in
theorem transform_step (n : Nat) (sq : Int) (F : Form m n) (j : Nat) (hj : j ≤ 20) (ih : TrTells m n sq j) : TrTells m n sq (j + 1) := by
  intro v L ω w hL hown
  obtain ⟨h, hh⟩ : ∃ h, h = 2 ^ j := ⟨_, rfl⟩
  have hp : 0 < h := by rw [hh]; exact Nat.two_pow_pos j
  have hhm : h ≤ 1048576 := by rw [hh]; exact Nat.le_trans (Nat.pow_le_pow_right (by decide) hj) (by decide)
  have hN : 2 ^ (j + 1) = 2 * h := by rw [Nat.pow_succ, ← hh]; omega
  rw [hN] at hL hown
  obtain ⟨g, cap, rfl, _, hg⟩ := hown.form (by omega)
  obtain ⟨i0, hi, hi2⟩ := Option.map_eq_some_iff.1 info32
  simp only [Prod.mk.injEq] at hi2
  obtain ⟨hz0, hz1, hz2⟩ := hi2
  have hrd := own_reads' hown
  have HRD := Aside0.mk hrd
  have HL := Aside0.mk hL
  have HOW := Aside0.mk hown
  have HH := Aside0.mk hh
  have HHM := Aside0.mk hhm
  have HP := Aside0.mk hp
  have HNN := Aside0.mk hN
  obtain ⟨nn, hnn⟩ : ∃ nn, nn = 2 * h := ⟨_, rfl⟩
  have hd : ((nn : Nat) : Int).tdiv 2 = (h : Int) := by rw [Int.tdiv_eq_ediv_of_nonneg (by omega)]; omega
  have hd2 : ((nn : Nat) : Int) / 2 = (h : Int) := by omega
  have hwh : IntKind.i64.wrap (h : Int) = (h : Int) := by rw [IntKind.wrap_i64]; omega
  have hn1 : (((nn : Nat) : Int) == 1) = false := by
    rw [beq_eq_false_iff_ne]; omega
  have hn1' : ((nn : Nat) == 1) = false := by
    rw [beq_eq_false_iff_ne]; omega
  have qx : (w.alloc (.cells #[.int .u32 (m : Int), .int .u32 (n : Int), .int .u32 (hv (1 : Fin m)), .int .u32 sq] 60)).heap[w.heap.size]? = some (.cells #[.int .u32 (m : Int), .int .u32 (n : Int), .int .u32 (hv (1 : Fin m)), .int .u32 sq] 60 (0, 0)) := blk_new _ _
  have HQX := Aside0.mk qx
  have hB : Below w.heap.size w (w.alloc (.cells #[.int .u32 (m : Int), .int .u32 (n : Int), .int .u32 (hv (1 : Fin m)), .int .u32 sq] 60)) := below_alloc (Below.refl _ _) _
  have HB := Aside0.mk hB
  have HNE := Aside0.mk hnn
  rw [hN, ← hnn]
  rw [← hnn] at hown
  clear hown hL hB hrd hh hhm hN hnn qx
  show Calls Tryd.prog 31 #[monV m n sq, .slice (some ⟨g, 0, none⟩) nn cap, .int .u32 (hv ω)] w _
  go_enter Tryd.func31, Tryd.ntmps31
  go_wp2
  go_loopw [8, 9, 25] (fun v8 v9 v25 wr => ∃ (i : Nat), i ≤ h ∧ v25 = .int .i64 i ∧ Aside0 (wr.ownsRow (w.heap.size + 1) 23 1 v8 i (nums .u32 (hl ((evens L).take i)))) ∧ Aside0 (wr.ownsRow (w.heap.size + 1) 23 1 v9 i (nums .u32 (hl ((odds L).take i)))) ∧ Aside0 (Apart v8 v9) ∧ Aside0 (wr.heap[w.heap.size]? = some (.cells #[.int .u32 (m : Int), .int .u32 (n : Int), .int .u32 (hv (1 : Fin m)), .int .u32 sq] 60 (0, 0))) ∧ Aside0 (Below w.heap.size w wr)) (fun _ _ v25 _ => h - (intOf v25).toNat)
  case atStart => exact ⟨0, Nat.zero_le _, rfl, ⟨by simp [nums, hl], .inl ⟨rfl, rfl⟩⟩, ⟨by simp [nums, hl], .inl ⟨rfl, rfl⟩⟩, ⟨fun b hb => by cases hb⟩, HQX, HB⟩
  case round =>
    obtain ⟨i, hih, rfl, H8, H9, HAP, HX, HBR⟩ := hrel
    by_cases hlt : i < h
    · as_aux_lemma =>
      obtain ⟨p, hp2⟩ : ∃ p, p = 2 * i := ⟨_, rfl⟩
      obtain ⟨q, hq2⟩ : ∃ q, q = p + 1 := ⟨_, rfl⟩
      have hhm := HHM.out
      have hnn := HNE.out
      have hwp : IntKind.i64.wrap (2 * (i : Int)) = (p : Int) := by rw [IntKind.wrap_i64]; omega
      have hwq : IntKind.i64.wrap ((p : Int) + 1) = (q : Int) := by rw [IntKind.wrap_i64]; omega
      have hp0 : (0 : Int) ≤ (p : Int) := by omega
      have hp1 : (p : Int) < (nn : Int) := by omega
      have hq0 : (0 : Int) ≤ (q : Int) := by omega
      have hq1 : (q : Int) < (nn : Int) := by omega
      have hlen := HL.out
      obtain ⟨ad, e, hcell⟩ := HRD.out.2.2 (by omega)
      cases e
      have hx : ∀ W, Below w.heap.size w W → W.cell? ⟨g, p, none⟩ = some (.int .u32 (hv ((evens L).getD i 0))) := fun W hbw => by
        have := hcell p (by omega)
        rw [hl_getD _ _ (by omega), hp2, ← evens_getD i L (by omega), Addr.add_lit, Nat.zero_add, ← hp2] at this
        exact cell_later this hbw
      have hy : ∀ W, Below w.heap.size w W → W.cell? ⟨g, q, none⟩ = some (.int .u32 (hv ((odds L).getD i 0))) := fun W hbw => by
        have := hcell q (by omega)
        rw [hl_getD _ _ (by omega), hq2, hp2, ← odds_getD i L (by omega), Addr.add_lit, Nat.zero_add, ← hp2, ← hq2] at this
        exact cell_later this hbw
      have HCX := Aside0.mk hx
      have HCY := Aside0.mk hy
      have hle1 := evens_length h L hlen
      have HTE := Aside0.mk (hl_take_succ (evens L) i (by omega))
      have HTO := Aside0.mk (hl_take_succ (odds L) i (by omega))
      have hlim : i + 1 ≤ maxLen := by unfold maxLen; omega
      have hby : (i + 1) * 4 ≤ 140737488355328 := by omega
      clear hx hy hcell hp2 hq2 hhm hnn hlen hle1
      generalize hv ((evens L).getD i 0) = x at *
      generalize hv ((odds L).getD i 0) = y at *
      go_wp2
      go_region_held3 (fun w' => w'.cell? ⟨g, p, none⟩ = some (.int .u32 x) ∧ w'.cell? ⟨g, q, none⟩ = some (.int .u32 y))
        (exact ⟨HCX.out _ (by repeat (with_reducible first | exact HBR.out | apply below_alloc | apply below_drew)), HCY.out _ (by repeat (with_reducible first | exact HBR.out | apply below_alloc | apply below_drew))⟩)
        (first
          | ((refine step_append_lies _ (by rfl) (.tmp 28) (.tmp 34) 25 (by rfl) (w.heap.size + 1) 23 i0 (.int .u32 0) 1 4 Tryd.underlying25 hi hz0 hz1 hz2 (by rfl) (by decide) u8 i _ (by rfl) (by repeat (with_reducible first | exact H8.out | apply World.ownsRow.alloc | apply World.ownsRow.drew)) _ 1 1 [.int .u32 x] (by rfl) (by rfl)
                (World.news_of_block (by repeat (with_reducible first | exact blk_new _ _ | (refine blk_at_new ?_; simp; done) | apply blk_alloc | apply blk_drew | refine K8.out _ _ (by simp) ?_))) (by simp [Value.oneCell']) (by decide) hlim hby (by have := blk_lt HX.out; simp; omega) _ rfl ?_);
             (intro g8 cap8 w8 hown8 hgrow8 hat8 hlt8); (obtain ⟨f1, f2, f3, f4⟩ := append_facts (X := w.heap.size) (B := w.heap.size) (w := w) (by repeat (with_reducible first | exact H8.out | apply World.ownsRow.alloc | apply World.ownsRow.drew)) (by repeat (with_reducible first | exact H9.out | apply World.ownsRow.alloc | apply World.ownsRow.drew)) HAP.out (by repeat (with_reducible first | exact HX.out | apply blk_alloc | apply blk_drew)) (Nat.lt_succ_self _) (by repeat (with_reducible first | exact HBR.out | apply below_alloc | apply below_drew)) (Nat.le_succ _) (by have := blk_lt HX.out; simp; omega) hown8 hgrow8 hat8); (have K8 := Aside0.mk (append_keeps H8.out hgrow8)); (have S8 := Aside0.mk hgrow8.size); (clear H8 H9 HAP HX HBR); (have H8 := Aside0.mk hown8); (have H9 := Aside0.mk f1); (have HAP := Aside0.mk f2); (have HX := Aside0.mk f3); (have HBR := Aside0.mk f4); (clear f1 f2 f3 f4 hown8 hgrow8 hat8 hlt8))
          | ((refine step_append_lies _ (by rfl) (.tmp 36) (.tmp 43) 25 (by rfl) (w.heap.size + 1) 23 i0 (.int .u32 0) 1 4 Tryd.underlying25 hi hz0 hz1 hz2 (by rfl) (by decide) u9 i _ (by rfl) (by repeat (with_reducible first | exact H9.out | apply World.ownsRow.alloc | apply World.ownsRow.drew)) _ 1 1 [.int .u32 y] (by rfl) (by rfl)
                (World.news_of_block (by repeat (with_reducible first | exact blk_new _ _ | (refine blk_at_new ?_; simp; done) | apply blk_alloc | apply blk_drew | refine K8.out _ _ (by simp) ?_))) (by simp [Value.oneCell']) (by decide) hlim hby (by have := blk_lt HX.out; simp; omega) _ rfl ?_);
             (intro g9 cap9 w9 hown8 hgrow8 hat8 hlt8); (obtain ⟨f1, f2, f3, f4⟩ := append_facts (X := w.heap.size) (B := w.heap.size) (w := w) (by repeat (with_reducible first | exact H9.out | apply World.ownsRow.alloc | apply World.ownsRow.drew)) (by repeat (with_reducible first | exact H8.out | apply World.ownsRow.alloc | apply World.ownsRow.drew)) HAP.out.turn (by repeat (with_reducible first | exact HX.out | apply blk_alloc | apply blk_drew)) (Nat.lt_succ_self _) (by repeat (with_reducible first | exact HBR.out | apply below_alloc | apply below_drew)) (Nat.le_succ _) (by have := blk_lt HX.out; simp; omega) hown8 hgrow8 hat8); (have K9 := Aside0.mk (append_keeps H9.out hgrow8)); (have S9 := Aside0.mk hgrow8.size); (clear H8 H9 HAP HX HBR); (have H9 := Aside0.mk hown8); (have H8 := Aside0.mk f1); (have HAP := Aside0.mk f2.turn); (have HX := Aside0.mk f3); (have HBR := Aside0.mk f4); (clear f1 f2 f3 f4 hown8 hgrow8 hat8 hlt8)))
      all_goals
        go_wp2
        refine ⟨⟨i + 1, hlt, by go_num, ⟨by rw [HTE.out]; exact H8.out⟩, ⟨by rw [HTO.out]; exact H9.out⟩, HAP, HX, HBR⟩, by simp [intOf]; omega⟩
    · as_aux_lemma =>
      obtain rfl : i = h := by omega
      have hle1 := evens_length i L HL.out
      have h8 := H8.out
      have h9 := H9.out
      rw [List.take_of_length_le (by omega)] at h8 h9
      have HE := Aside0.mk (own_base (B' := 0) h8 (fun _ _ => Nat.zero_le _))
      have HO := Aside0.mk (own_base (B' := 0) h9 (fun _ _ => Nat.zero_le _))
      have HLE := Aside0.mk (hle1.1.trans HH.out)
      have HLO := Aside0.mk (hle1.2.trans HH.out)
      have HMW := Aside0.mk (fun W => mont_Mul.calls (m : Int) (n : Int) (hv (1 : Fin m)) sq (hv ω) (hv ω) (hv (ω * ω)) W (hv_mul F _ _ ω ω))
      have hu60 := Tryd.underlying60
      have q0 : wr.cell? ⟨w.heap.size, 0, none⟩ = some (.int .u32 (m : Int)) := blk_cell HX.out 0
      have q1 : wr.cell? ⟨w.heap.size, 1, none⟩ = some (.int .u32 (n : Int)) := blk_cell HX.out 1
      have q2 : wr.cell? ⟨w.heap.size, 2, none⟩ = some (.int .u32 (hv (1 : Fin m))) := blk_cell HX.out 2
      have q3 : wr.cell? ⟨w.heap.size, 3, none⟩ = some (.int .u32 sq) := blk_cell HX.out 3
      clear h8 h9 H8 H9 hle1 hih
      go_wp2_with ((go_at_call 32); (with_reducible refine (HMW.out _).mono ?_); (rintro e w1 ⟨rfl, hb⟩); (have HB1 := Aside0.mk hb); (clear hb))
      have hie : ∀ W, W.ownsRow 0 23 1 u8 i (nums .u32 (hl (evens L))) → Calls Tryd.prog 31 #[monV m n sq, u8, .int .u32 (hv (ω * ω))] W fun e w' => ∃ v', e = .returned v' ∧ w'.ownsRow 0 23 1 v' i (nums .u32 (hl (tr j (evens L) (ω * ω)))) ∧ (v' = u8 ∨ ∃ g, v'.ownBlock = some g ∧ W.heap.size ≤ g) ∧ Below W.heap.size W w' := fun W ho => by
        have e := HH.out
        rw [e] at ho ⊢
        exact ih u8 (evens L) (ω * ω) W HLE.out ho
      have hio : ∀ W, W.ownsRow 0 23 1 u9 i (nums .u32 (hl (odds L))) → Calls Tryd.prog 31 #[monV m n sq, u9, .int .u32 (hv (ω * ω))] W fun e w' => ∃ v', e = .returned v' ∧ w'.ownsRow 0 23 1 v' i (nums .u32 (hl (tr j (odds L) (ω * ω)))) ∧ (v' = u9 ∨ ∃ g, v'.ownBlock = some g ∧ W.heap.size ≤ g) ∧ Below W.heap.size W w' := fun W ho => by
        have e := HH.out
        rw [e] at ho ⊢
        exact ih u9 (odds L) (ω * ω) W HLO.out ho
      have HIE := Aside0.mk hie
      have HIO := Aside0.mk hio
      have C0 := Aside0.mk (cell_later q0 HB1.out)
      have C1 := Aside0.mk (cell_later q1 HB1.out)
      have C2 := Aside0.mk (cell_later q2 HB1.out)
      have C3 := Aside0.mk (cell_later q3 HB1.out)
      have hhm := HHM.out
      have hne := HNE.out
      have hmk := fun W => run_make32 nn (by omega) W
      clear hie hio q0 q1 q2 q3 hhm hne HMW
      go_region_held3 (fun w' => w'.cell? ⟨w.heap.size, 0, none⟩ = some (.int .u32 (m : Int)) ∧ w'.cell? ⟨w.heap.size, 1, none⟩ = some (.int .u32 (n : Int)) ∧ w'.cell? ⟨w.heap.size, 2, none⟩ = some (.int .u32 (hv (1 : Fin m))) ∧ w'.cell? ⟨w.heap.size, 3, none⟩ = some (.int .u32 sq))
        (exact ⟨cell_later C0.out (by repeat (with_reducible first | exact Below.refl _ _ | apply below_on' HB3.out | apply below_on' HB2.out | apply below_drew | apply below_alloc)), cell_later C1.out (by repeat (with_reducible first | exact Below.refl _ _ | apply below_on' HB3.out | apply below_on' HB2.out | apply below_drew | apply below_alloc)), cell_later C2.out (by repeat (with_reducible first | exact Below.refl _ _ | apply below_on' HB3.out | apply below_on' HB2.out | apply below_drew | apply below_alloc)), cell_later C3.out (by repeat (with_reducible first | exact Below.refl _ _ | apply below_on' HB3.out | apply below_on' HB2.out | apply below_drew | apply below_alloc))⟩)
        (first
          | ((go_at_call 31); (with_reducible refine (HIE.out _ (own_later HE.out (by repeat (with_reducible first | exact HB1.out | apply below_on' HB3.out | apply below_on' HB2.out | apply below_drew | apply below_alloc)))).mono ?_); (rintro e w2 ⟨vE, rfl, hE, _, hb⟩); (obtain ⟨gE, cE, rfl, _, _⟩ := hE.form HP.out); (have HE2 := Aside0.mk hE); (have HB2 := Aside0.mk hb); (clear hE hb))
          | ((go_at_call 31); (with_reducible refine (HIO.out _ (own_later HO.out (by repeat (with_reducible first | exact HB1.out | apply below_on' HB3.out | apply below_on' HB2.out | apply below_drew | apply below_alloc)))).mono ?_); (rintro e w3 ⟨vO, rfl, hO, _, hb⟩); (obtain ⟨gO, cO, rfl, _, _⟩ := hO.form HP.out); (have HO3 := Aside0.mk hO); (have HB3 := Aside0.mk hb); (clear hO hb)))
      have hb3 : Below w1.heap.size w1 w3 := (by repeat (with_reducible first | exact Below.refl _ _ | apply below_on' HB3.out | apply below_on' HB2.out | apply below_drew | apply below_alloc))
      have hx3 : w3.heap[w.heap.size]? = _ := blk_below (blk_below HX.out HB1.out) hb3
      have hbw : Below w.heap.size w w3 := below_on (below_on HBR.out HB1.out) hb3
      have HE3 := Aside0.mk (own_later HE2.out HB3.out)
      have X3 := Aside0.mk hx3
      have HBW := Aside0.mk hbw
      have d2 : (w3.alloc (.cells (madeCells #[.int .u32 0] nn) 23)).cell? ⟨w.heap.size, 2, none⟩ = some (.int .u32 (hv (1 : Fin m))) := blk_cell (blk_alloc X3.out _) 2
      obtain ⟨E, hE⟩ : ∃ E, E = tr j (evens L) (ω * ω) := ⟨_, rfl⟩
      obtain ⟨O, hO⟩ : ∃ O, O = tr j (odds L) (ω * ω) := ⟨_, rfl⟩
      rw [← hE] at HE3
      rw [← hO] at HO3
      have HEE := Aside0.mk hE
      have HOO := Aside0.mk hO
      clear hb3 hx3 hbw hE hO HE2 HB2 HB3 C0 C1 C2 C3 HE HO HIE HIO HB1 HBR HX HAP HB HQX
      go_wp2
      go_loopw [13, 64] (fun v13 v64 wq => ∃ (k : Nat) (row : List Int), k ≤ i ∧ v64 = .int .i64 k ∧ v13 = .int .u32 (hv (ω ^ k)) ∧ Aside0 (Row32 wq w3.heap.size row) ∧ Aside0 (Part ω E O i k row) ∧ Aside0 (Below w3.heap.size w3 wq)) (fun _ v64 _ => i - (intOf v64).toNat)
      case atStart => exact ⟨0, _, Nat.zero_le _, rfl, by rw [Ntt.rpow_zero], ⟨Row32.made nn⟩, ⟨⟨by rw [List.length_replicate]; exact HNE.out, fun t ht => absurd ht (Nat.not_lt_zero _), fun t ht => absurd ht (Nat.not_lt_zero _)⟩⟩, ⟨below_alloc (Below.refl _ _) _⟩⟩
      case round =>
        clear d2
        obtain ⟨k, row, hki, rfl, rfl, HR, HPT, HBQ⟩ := hrel
        by_cases hlt2 : k < i
        · as_aux_lemma =>
          have hxq := blk_below X3.out HBQ.out
          have C0 := Aside0.mk (show wr.cell? ⟨w.heap.size, 0, none⟩ = some (.int .u32 (m : Int)) from blk_cell hxq 0)
          have C1 := Aside0.mk (show wr.cell? ⟨w.heap.size, 1, none⟩ = some (.int .u32 (n : Int)) from blk_cell hxq 1)
          have C2 := Aside0.mk (show wr.cell? ⟨w.heap.size, 2, none⟩ = some (.int .u32 (hv (1 : Fin m))) from blk_cell hxq 2)
          have C3 := Aside0.mk (show wr.cell? ⟨w.heap.size, 3, none⟩ = some (.int .u32 sq) from blk_cell hxq 3)
          have CE := Aside0.mk (own_cell (own_later HE3.out HBQ.out) k hlt2)
          have CO := Aside0.mk (own_cell (own_later HO3.out HBQ.out) k hlt2)
          have HM1 := Aside0.mk (fun W => mont_Mul.calls (m : Int) (n : Int) (hv (1 : Fin m)) sq (hv (ω ^ k)) (hv (O.getD k 0)) (hv (ω ^ k * O.getD k 0)) W (hv_mul F _ _ _ _))
          have HM2 := Aside0.mk (fun W => mont_Mul.calls (m : Int) (n : Int) (hv (1 : Fin m)) sq (hv (ω ^ k)) (hv ω) (hv (ω ^ (k + 1))) W (by rw [Ntt.rpow_succ]; exact hv_mul F _ _ _ _))
          have HST := Aside0.mk (HPT.out.step hlt2)
          have HPL := Aside0.mk HPT.out.len
          clear hxq HPT
          obtain ⟨K, hK⟩ : ∃ K, K = k + i := ⟨_, rfl⟩
          have hhm := HHM.out
          have hne := HNE.out
          have hml := F.lt
          have hmg := F.ge
          have be := hv_lt (E.getD k 0)
          have bz := hv_lt (ω ^ k * O.getD k 0)
          have bs := hv_lt (E.getD k 0 + ω ^ k * O.getD k 0)
          have bd := hv_lt (E.getD k 0 - ω ^ k * O.getD k 0)
          have es := hv_add (E.getD k 0) (ω ^ k * O.getD k 0)
          have ed := hv_sub (E.getD k 0) (ω ^ k * O.getD k 0)
          rw [← hK] at HST
          generalize hv (E.getD k 0 + ω ^ k * O.getD k 0) = s at *
          generalize hv (E.getD k 0 - ω ^ k * O.getD k 0) = d at *
          generalize hv (E.getD k 0) = e at *
          generalize hv (ω ^ k * O.getD k 0) = z at *
          generalize hv (O.getD k 0) = y at *
          have k0 : (0 : Int) ≤ (k : Int) := by omega
          have k1 : (k : Int) < (i : Int) := by omega
          have k2 : (k : Int) < (nn : Int) := by omega
          have K0 : (0 : Int) ≤ (K : Int) := by omega
          have K1 : (K : Int) < (nn : Int) := by omega
          have wK : IntKind.i64.wrap ((k : Int) + (i : Int)) = (K : Int) := by rw [IntKind.wrap_i64]; omega
          have wz : IntKind.u64.wrap z = z := by rw [IntKind.wrap_u64]; omega
          have we : IntKind.u64.wrap e = e := by rw [IntKind.wrap_u64]; omega
          have wm : IntKind.u64.wrap (m : Int) = (m : Int) := by rw [IntKind.wrap_u64]; omega
          have w4 : IntKind.u64.wrap (e + z) = e + z := by rw [IntKind.wrap_u64]; omega
          have w5 : IntKind.u64.wrap (e + (m : Int)) = e + (m : Int) := by rw [IntKind.wrap_u64]; omega
          have w6 : IntKind.u64.wrap (e + (m : Int) - z) = e + (m : Int) - z := by rw [IntKind.wrap_u64]; omega
          have t4 : Int.tmod (e + z) (m : Int) = s := by rw [Int.tmod_eq_emod_of_nonneg (by omega)]; exact es
          have t6 : Int.tmod (e + (m : Int) - z) (m : Int) = d := by rw [Int.tmod_eq_emod_of_nonneg (by omega)]; exact ed
          have m0 : ((m : Int) == 0) = false := by rw [beq_eq_false_iff_ne]; omega
          have m1 : ¬ (m : Int) = 0 := by omega
          have m2 : ¬ m = 0 := by omega
          have s4 : IntKind.u32.wrap s = s := by rw [IntKind.wrap_u32]; omega
          have d4 : IntKind.u32.wrap d = d := by rw [IntKind.wrap_u32]; omega
          have KK := Aside0.mk hK
          clear hhm hne hml hmg be bz bs bd hK
          go_wp2
          go_region_held3 (fun w' => w'.cell? ⟨w.heap.size, 0, none⟩ = some (.int .u32 (m : Int)) ∧ w'.cell? ⟨w.heap.size, 1, none⟩ = some (.int .u32 (n : Int)) ∧ w'.cell? ⟨w.heap.size, 2, none⟩ = some (.int .u32 (hv (1 : Fin m))) ∧ w'.cell? ⟨w.heap.size, 3, none⟩ = some (.int .u32 sq) ∧ w'.cell? ⟨gO, k, none⟩ = some (.int .u32 y))
            (exact ⟨cell_later C0.out (by repeat (with_reducible first | exact Below.refl _ _ | apply below_on' HB6.out | apply below_on' HB5.out | apply below_drew | apply below_alloc)), cell_later C1.out (by repeat (with_reducible first | exact Below.refl _ _ | apply below_on' HB6.out | apply below_on' HB5.out | apply below_drew | apply below_alloc)), cell_later C2.out (by repeat (with_reducible first | exact Below.refl _ _ | apply below_on' HB6.out | apply below_on' HB5.out | apply below_drew | apply below_alloc)), cell_later C3.out (by repeat (with_reducible first | exact Below.refl _ _ | apply below_on' HB6.out | apply below_on' HB5.out | apply below_drew | apply below_alloc)), cell_later CO.out (by repeat (with_reducible first | exact Below.refl _ _ | apply below_on' HB6.out | apply below_on' HB5.out | apply below_drew | apply below_alloc))⟩)
            (((go_at_call 32); (with_reducible refine (HM1.out _).mono ?_); (rintro e5 w5 ⟨rfl, hb⟩); (have HB5 := Aside0.mk hb); (clear hb)))
          as_aux_lemma =>
          go_wp2
          go_region_held3 (fun w' => w'.cell? ⟨w.heap.size, 0, none⟩ = some (.int .u32 (m : Int)) ∧ w'.cell? ⟨gE, k, none⟩ = some (.int .u32 e))
            (exact ⟨cell_later C0.out (by repeat (with_reducible first | exact Below.refl _ _ | apply below_on' HB6.out | apply below_on' HB5.out | apply below_drew | apply below_alloc)), cell_later CE.out (by repeat (with_reducible first | exact Below.refl _ _ | apply below_on' HB6.out | apply below_on' HB5.out | apply below_drew | apply below_alloc))⟩)
            (fail)
          as_aux_lemma =>
          have hr5 : Row32 w5 w3.heap.size row := blk_below (show Row32 wr.drew w3.heap.size row from HR.out) HB5.out
          have HR5 := Aside0.mk hr5
          have qk : w5.cell? ⟨w3.heap.size, k, none⟩ = some (.int .u32 (row.getD k 0)) := row32_cell hr5 k (by have := HPL.out; omega)
          have fk : w5.frozen? ⟨w3.heap.size, k, none⟩ = false := blk_frozen hr5 _
          have qK : (w5.setCell ⟨w3.heap.size, k, none⟩ (.int .u32 s)).cell? ⟨w3.heap.size, K, none⟩ = some (.int .u32 (row.getD K 0)) := row32_cell_set hr5 k K s (by have := HPL.out; have := KK.out; omega) (by have := KK.out; have := HP.out; omega)
          clear hr5
          go_wp2
          go_region_held3 (fun w' => w'.frozen? ⟨w3.heap.size, k, none⟩ = false ∧ w'.frozen? ⟨w3.heap.size, K, none⟩ = false)
            (exact ⟨blk_frozen (by repeat (with_reducible first | exact HR5.out | apply Row32.set | apply blk_drew)) _, blk_frozen (by repeat (with_reducible first | exact HR5.out | apply Row32.set | apply blk_drew)) _⟩)
            (fail)
          as_aux_lemma =>
          generalize hW : World.setCell (World.setCell _ _ _) _ _ = W9
          have hr9 : Row32 W9 w3.heap.size ((row.set k s).set K d) := by
            rw [← hW]
            exact (Row32.set HR5.out k s).set K d
          have hb9 : Below w3.heap.size w3 W9 := by
            rw [← hW]
            refine Below.setCell (p := ⟨w3.heap.size, K, none⟩) (Below.setCell (p := ⟨w3.heap.size, k, none⟩) (below_on (show Below w3.heap.size w3 wr.drew from HBQ.out.drew) HB5.out) (Nat.le_refl _) _) (Nat.le_refl _) _
          have hx9 := blk_below X3.out hb9
          have r0 : W9.cell? ⟨w.heap.size, 0, none⟩ = some (.int .u32 (m : Int)) := blk_cell hx9 0
          have r1 : W9.cell? ⟨w.heap.size, 1, none⟩ = some (.int .u32 (n : Int)) := blk_cell hx9 1
          have r2 : W9.cell? ⟨w.heap.size, 2, none⟩ = some (.int .u32 (hv (1 : Fin m))) := blk_cell hx9 2
          have r3 : W9.cell? ⟨w.heap.size, 3, none⟩ = some (.int .u32 sq) := blk_cell hx9 3
          have HR9 := Aside0.mk hr9
          have HB9 := Aside0.mk hb9
          clear hr9 hb9 hx9 hW HR5 HBQ HB5 HR
          go_wp2_with (((go_at_call 32); (with_reducible refine (HM2.out _).mono ?_); (rintro e6 w6 ⟨rfl, hb⟩); (have HB6 := Aside0.mk hb); (clear hb)))
          have hwk := wrap_succ (k := k) (Nat.le_trans (Nat.le_of_lt hlt2) (Nat.le_trans HHM.out (by decide)))
          refine ⟨⟨k + 1, _, hlt2, (by rw [hwk]), rfl, ⟨blk_below (show Row32 W9.drew.drew w3.heap.size _ from HR9.out) HB6.out⟩, HST, ⟨below_on (show Below w3.heap.size w3 W9.drew.drew from HB9.out.drew.drew) HB6.out⟩⟩, (by rw [hwk]; exact less_left hlt2)⟩
        · obtain rfl : k = i := by omega
          go_wp2
          refine bodyPost_ret (results_tmp rfl _ _ _) rfl ?_
          have hpt := HPT.out
          rw [HEE.out, HOO.out, HH.out] at hpt
          have hr := HR.out
          have hlr : row.length = nn := by rw [HPT.out.len, HNE.out]
          rw [hpt.done] at hr hlr
          exact ⟨_, rfl, hr.own hlr (by have := HHM.out; have := HNE.out; omega), .inr ⟨_, rfl, HBW.out.size⟩, below_on HBW.out HBQ.out⟩
theorem transform_tells (n : Nat) (sq : Int) (F : Form m n) : ∀ j, j ≤ 21 → TrTells m n sq j
  | 0, _ => transform_zero n sq
  | j + 1, h => transform_step n sq F j (by omega) (transform_tells n sq F j (by omega))
end
end Go.Proofs.YtaakniobgljniaaDoor.Hand

/- An own row's cell set; slices.Reverse of a row but its first place, by hand. -/
namespace Go.Proofs.YtaakniobgljniaaDoor.Hand
open Go.RowKit Go.Proofs.YtaakniobgljniaaDoorW.PrintWords Go.Proofs.YtaakniobgljniaaDoorW.PrintMore Go.Proofs.YtaakniobgljniaaDoor.Pa Go.Proofs.YtaakniobgljniaaDoor.Ntt
set_option linter.unusedVariables false
set_option linter.unusedSimpArgs false
attribute [local go_sem] Oper.semAt_some max2_int min2_int max_two min_two
attribute [local go_sem ↓] Go.wp_at_zero Go.wp_at_succ

/-- A row of words of 32 bits that lies at the head of a block. -/
abbrev Own32 (w : World) (g n c : Nat) (l : List Int) : Prop := w.ownsRow 0 23 1 (.slice (some ⟨g, 0, none⟩) n c) n (nums .u32 l)
theorem Own32.len {w : World} {g n c : Nat} {l : List Int} (h : Own32 w g n c l) : l.length = n := by
  have := h.1
  simpa [nums] using this
theorem Own32.block {w : World} {g n c : Nat} {l : List Int} (h : Own32 w g n c l) : ∃ cur, w.heap[g]? = some (.cells cur 23 (0, 0)) ∧ n ≤ c ∧ cur.size = c ∧ cur.toList.take n = nums .u32 l := by
  rcases h.2 with ⟨e, _⟩ | ⟨g', cap, cur, e, _, hg, h1, _, h2, h3⟩
  · cases e
  · cases e
    rw [Nat.mul_one] at h2 h3
    exact ⟨cur, hg, h1, h2, h3⟩
theorem Own32.cell {w : World} {g n c : Nat} {l : List Int} (h : Own32 w g n c l) (k : Nat) (hk : k < n) : w.cell? ⟨g, k, none⟩ = some (.int .u32 (l.getD k 0)) := by
  have hr := own_reads' h
  obtain ⟨ad, e, hcell⟩ := hr.2.2 (by omega)
  cases e
  have := hcell k hk
  rwa [Addr.add_lit, Nat.zero_add] at this
theorem Own32.frozen {w : World} {g n c : Nat} {l : List Int} (h : Own32 w g n c l) (k : Nat) : w.frozen? ⟨g, k, none⟩ = false := by
  obtain ⟨cur, hg, _⟩ := h.block
  exact blk_frozen hg _
theorem Own32.set {w : World} {g n c : Nat} {l : List Int} (h : Own32 w g n c l) (k : Nat) (y : Int) : Own32 (w.setCell ⟨g, k, none⟩ (.int .u32 y)) g n c (l.set k y) := by
  obtain ⟨cur, hg, h1, h2, h3⟩ := h.block
  have hm : c ≤ maxLen := by
    rcases h.2 with ⟨e, _⟩ | ⟨g', cap, cur, e, _, _, _, hm, _⟩
    · cases e
    · cases e; exact hm
  have hl := h.len
  refine ⟨by simp [nums, hl], .inr ⟨g, c, cur.setIfInBounds k (.int .u32 y), rfl, Nat.zero_le _, ?_, h1, hm, by simp [h2], ?_⟩⟩
  · rw [setCell_eq_setRow w g k _ _ _ _ hg, setRow_heap w g _ _ _ _ hg]
  · rw [Nat.mul_one, Array.toList_setIfInBounds, List.take_set, h3]
    simp [nums, List.map_set]
theorem Own32.cell_set {w : World} {g n c : Nat} {l : List Int} (h : Own32 w g n c l) (k K : Nat) (y : Int) (hK : K < n) (hne : k ≠ K) : (w.setCell ⟨g, k, none⟩ (.int .u32 y)).cell? ⟨g, K, none⟩ = some (.int .u32 (l.getD K 0)) := by
  rw [(h.set k y).cell K hK, List.getD_eq_getElem?_getD, List.getD_eq_getElem?_getD, List.getElem?_set_ne hne]
/-- How the row stands, i of its places (behind the first one) turned from both ends. -/
structure Turned (xs : List Int) (n i : Nat) (row : List Int) : Prop where
  len : row.length = n + 1
  head : row.getD 0 0 = xs.getD 0 0
  rest : ∀ t, t < n → row.getD (1 + t) 0 = if t < i ∨ n - 1 - i < t then xs.getD (1 + (n - 1 - t)) 0 else xs.getD (1 + t) 0
theorem Turned.step {xs row : List Int} {n i : Nat} (h : Turned xs n i row) (hi : i < n - 1 - i) :
    Turned xs n (i + 1) ((row.set (1 + i) (row.getD (1 + (n - 1 - i)) 0)).set (1 + (n - 1 - i)) (row.getD (1 + i) 0)) := by
  have hl := h.len
  have e1 : row.getD (1 + (n - 1 - i)) 0 = xs.getD (1 + (n - 1 - i)) 0 := by rw [h.rest _ (by omega), if_neg (by omega)]
  have e2 : row.getD (1 + i) 0 = xs.getD (1 + i) 0 := by rw [h.rest _ (by omega), if_neg (by omega)]
  rw [e1, e2]
  refine ⟨by simp [hl], ?_, fun t ht => ?_⟩
  · rw [getD_set32 _ _ _ _ (by simp [hl]; omega), getD_set32 _ _ _ _ (by omega), if_neg (by omega), if_neg (by omega), h.head]
  · rw [getD_set32 _ _ _ _ (by simp [hl]; omega), getD_set32 _ _ _ _ (by omega)]
    by_cases c1 : t = n - 1 - i
    · rw [if_pos (by omega), if_pos (by omega)]
      congr 1; omega
    · rw [if_neg (by omega)]
      by_cases c2 : t = i
      · rw [if_pos (by omega), if_pos (by omega)]
        congr 1; omega
      · rw [if_neg (by omega), h.rest t ht]
        by_cases c3 : t < i ∨ n - 1 - i < t
        · rw [if_pos c3, if_pos (by omega)]
        · rw [if_neg c3, if_neg (by omega)]
theorem Turned.done {xs row : List Int} {n i : Nat} (h : Turned xs n i row) (hx : xs.length = n + 1) (hi : n - 1 - i ≤ i) : row = Ntt.backs xs := by
  match xs, hx with
  | a :: ys, hx =>
    simp only [List.length_cons] at hx
    have hl := h.len
    refine List.ext_getElem (by rw [hl]; simp [Ntt.backs]; omega) fun t h1 h2 => ?_
    have e1 : row[t] = row.getD t 0 := by rw [List.getD_eq_getElem?_getD, List.getElem?_eq_getElem h1]; rfl
    have e2 : (Ntt.backs (a :: ys))[t] = (Ntt.backs (a :: ys)).getD t 0 := by rw [List.getD_eq_getElem?_getD, List.getElem?_eq_getElem h2]; rfl
    rw [e1, e2]
    cases t with
    | zero => exact h.head
    | succ t =>
      rw [Nat.add_comm t 1, h.rest t (by omega)]
      have e3 : (Ntt.backs (a :: ys)).getD (1 + t) 0 = ys.getD (n - 1 - t) 0 := by
        rw [Nat.add_comm]
        simp only [Ntt.backs, List.take_succ_cons, List.take_zero, List.drop_succ_cons, List.drop_zero, List.singleton_append, List.getD_cons_succ]
        rw [List.getD_eq_getElem?_getD, List.getD_eq_getElem?_getD, List.getElem?_reverse (by omega)]
        congr 2; omega
      rw [e3]
      split
      · rw [Nat.add_comm, List.getD_cons_succ]
      · rw [Nat.add_comm 1 t, List.getD_cons_succ]
        congr 1; omega
theorem set_below {w w' : World} {g k : Nat} {v : Value} {B : Nat} (h : Below B w w') (hB : B ≤ g) : Below B w (w'.setCell ⟨g, k, none⟩ v) := h.setCell (p := ⟨g, k, none⟩) hB _
set_option maxHeartbeats 2000000 in
set_option maxRecDepth 100000 in
theorem reverse32 (g n c c' : Nat) (xs : List Int) (w : World) (hn : 1 ≤ n) (hnl : n ≤ 4194304) (hrow : Own32 w g (n + 1) c xs) :
    Calls Tryd.prog 33 #[.slice (some ⟨g, 1, none⟩) n c'] w fun e w' => e = .returned (.tuple #[]) ∧ Own32 w' g (n + 1) c (Ntt.backs xs) ∧ Below g w w' := by
  have hlen := hrow.len
  have HROW := Aside0.mk hrow
  have HLEN := Aside0.mk hlen
  have hT : Turned xs n 0 xs := ⟨hlen, rfl, fun t ht => by rw [if_neg (by omega)]⟩
  have HT := Aside0.mk hT
  obtain ⟨p, hp⟩ : ∃ p, p = n - 1 := ⟨_, rfl⟩
  have hw : IntKind.i64.wrap ((n : Int) - 1) = (p : Int) := by rw [IntKind.wrap_i64]; omega
  have HP := Aside0.mk hp
  clear hrow hlen hT hp
  go_enter Tryd.func33, Tryd.ntmps33
  go_wp2
  go_loopw [2, 3] (fun v2 v3 wr => ∃ (i : Nat) (j : Int) (row : List Int), v2 = .int .i64 (i : Int) ∧ v3 = .int .i64 j ∧ j = (p : Int) - (i : Int) ∧ (i : Int) ≤ j + 1 ∧ Aside0 (Own32 wr g (n + 1) c row) ∧ Aside0 (Turned xs n i row) ∧ Aside0 (Below g w wr)) (fun _ v3 _ => (intOf v3 + 1).toNat)
  case atStart => exact ⟨0, (p : Int), xs, rfl, rfl, by omega, by omega, HROW, HT, ⟨Below.refl _ _⟩⟩
  case round =>
    obtain ⟨i, j, row, rfl, rfl, hj, hij, HR, HTU, HB⟩ := hrel
    by_cases hlt : (i : Int) < j
    · have hpp := HP.out
      obtain ⟨q, rfl⟩ : ∃ q : Nat, j = (q : Int) := ⟨j.toNat, by omega⟩
      have hq : q = n - 1 - i := by omega
      have q1 := HR.out.cell (1 + i) (by omega)
      have q2 := HR.out.cell (1 + q) (by omega)
      have f1 := HR.out.frozen (1 + i)
      have f2 := HR.out.frozen (1 + q)
      have hst := HTU.out.step (by omega)
      rw [← hq] at hst
      have qs := HR.out.cell_set (1 + i) (1 + q) (row.getD (1 + q) 0) (by omega) (by omega)
      generalize hx : row.getD (1 + i) 0 = x at *
      generalize hy : row.getD (1 + q) 0 = y at *
      have i0 : (0 : Int) ≤ (i : Int) := by omega
      have i1 : (i : Int) < (n : Int) := by omega
      have q0' : (0 : Int) ≤ (q : Int) := by omega
      have q1' : (q : Int) < (n : Int) := by omega
      have wi : IntKind.i64.wrap ((i : Int) + 1) = ((i + 1 : Nat) : Int) := by rw [IntKind.wrap_i64]; omega
      have wq : IntKind.i64.wrap ((q : Int) - 1) = (q : Int) - 1 := by rw [IntKind.wrap_i64]; omega
      have HST := Aside0.mk hst
      have HJ := Aside0.mk hj
      have HIQ := Aside0.mk hij
      clear hpp hst hx hy hj hij hq
      go_wp2
      go_region
      all_goals
        go_wp2
        have hj := HJ.out
        have hij := HIQ.out
        refine ⟨⟨i + 1, (q : Int) - 1, _, by simp, rfl, by omega, by omega, ⟨(HR.out.set (1 + i) y).set (1 + q) x⟩, HST, ⟨(set_below (set_below HB.out (Nat.le_refl _)) (Nat.le_refl _)).drew⟩⟩, by simp [intOf]⟩
    · have hpp := HP.out
      go_wp2
      go_end0
      have hd := HTU.out.done HLEN.out (by omega)
      exact ⟨rfl, by rw [← hd]; exact HR.out, HB.out⟩
set_option maxRecDepth 100000 in
theorem reverse_none (A : Option Addr) (c' : Nat) (w : World) :
    Calls Tryd.prog 33 #[.slice A 0 c'] w fun e w' => e = .returned (.tuple #[]) ∧ w' = w := by
  go_enter Tryd.func33, Tryd.ntmps33
  go_wp2
  go_loopw [2, 3] (fun v2 v3 wr => v2 = .int .i64 0 ∧ v3 = .int .i64 (-1) ∧ wr = w) (fun _ _ _ => 0)
  case atStart => exact ⟨rfl, rfl, rfl⟩
  case round =>
    obtain ⟨rfl, rfl, rfl⟩ := hrel
    go_wp2
    go_end0
    exact ⟨rfl, rfl⟩
theorem reverse_any (g k c c' : Nat) (A : Option Addr) (xs : List Int) (w : World) (hrow : Own32 w g k c xs) (hk : 1 ≤ k) (hkl : k ≤ 4194304) (hA : A = some ⟨g, 1, none⟩ ∨ k = 1) :
    Calls Tryd.prog 33 #[.slice A (k - 1) c'] w fun e w' => e = .returned (.tuple #[]) ∧ Own32 w' g k c (Ntt.backs xs) ∧ Below g w w' := by
  by_cases h1 : k = 1
  · subst h1
    refine (reverse_none A c' w).mono ?_
    rintro e w' ⟨rfl, rfl⟩
    have hl := hrow.len
    match xs, hl with
    | [x], _ => exact ⟨rfl, hrow, ⟨rfl, rfl, rfl, Nat.le_refl _, fun _ _ => rfl⟩⟩
  · rcases hA with rfl | h
    · obtain ⟨n, rfl⟩ : ∃ n, k = n + 1 := ⟨k - 1, by omega⟩
      exact reverse32 g n c c' xs w (by omega) (by omega) hrow
    · exact absurd h h1
end Go.Proofs.YtaakniobgljniaaDoor.Hand

/- trio.Mod's function held, by hand: a row, taken in, made as long as the transform is, and transformed. -/
namespace Go.Proofs.YtaakniobgljniaaDoor.Hand
open Go.RowKit Go.Proofs.YtaakniobgljniaaDoorW.PrintWords Go.Proofs.YtaakniobgljniaaDoorW.PrintMore Go.Proofs.YtaakniobgljniaaDoor.Pa Go.Proofs.YtaakniobgljniaaDoor.Ntt
set_option linter.unusedVariables false
set_option linter.unusedSimpArgs false
attribute [local go_sem] Oper.semAt_some max2_int min2_int max_two min_two
attribute [local go_sem ↓] Go.wp_at_zero Go.wp_at_succ

section
variable {m : Nat} [NeZero m]
/-- A number, modulo m. -/
def fz (v : Int) : Fin m := Fin.ofNat m v.toNat
theorem hv_fz (v : Int) : hv (fz v : Fin m) = ((held m v.toNat : Nat) : Int) := by
  unfold hv fz
  rw [Fin.val_ofNat, held_mod]
theorem hv_zero : hv (0 : Fin m) = 0 := by
  unfold hv held
  simp
/-- A row, modulo m, made n places long. -/
def pad (n : Nat) (a : List Int) : List (Fin m) := a.map fz ++ List.replicate (n - a.length) 0
theorem pad_length (n : Nat) (a : List Int) (h : a.length ≤ n) : (pad n a : List (Fin m)).length = n := by
  simp [pad]; omega
theorem pad_getD (n : Nat) (a : List Int) (t : Nat) : (pad n a : List (Fin m)).getD t 0 = if t < a.length then fz (a.getD t 0) else 0 := by
  unfold pad
  rw [List.getD_eq_getElem?_getD]
  split
  · rename_i h
    rw [List.getElem?_append_left (by simpa using h), List.getElem?_map, List.getD_eq_getElem?_getD, List.getElem?_eq_getElem h]
    rfl
  · rename_i h
    rw [List.getElem?_append_right (by simp; omega), List.getElem?_replicate]
    split <;> rfl
/-- How the row stands, k of its numbers taken in. -/
structure InPart (m : Nat) [NeZero m] (a : List Int) (n k : Nat) (row : List Int) : Prop where
  len : row.length = n
  done : ∀ t, t < k → row.getD t 0 = hv (fz (a.getD t 0) : Fin m)
  left : ∀ t, k ≤ t → row.getD t 0 = 0
theorem InPart.first (a : List Int) (n : Nat) : InPart m a n 0 (List.replicate n 0) :=
  ⟨by simp, fun t h => absurd h (Nat.not_lt_zero _), fun t _ => by rw [List.getD_eq_getElem?_getD, List.getElem?_replicate]; split <;> rfl⟩
theorem InPart.step {a : List Int} {n k : Nat} {row : List Int} (h : InPart m a n k row) (hk : k < n) : InPart m a n (k + 1) (row.set k (hv (fz (a.getD k 0) : Fin m))) := by
  have hl := h.len
  refine ⟨by simp [hl], fun t ht => ?_, fun t ht => ?_⟩
  · rw [getD_set32 _ _ _ _ (by omega)]
    split
    · rename_i e; subst e; rfl
    · exact h.done t (by omega)
  · rw [getD_set32 _ _ _ _ (by omega), if_neg (by omega)]
    exact h.left t (by omega)
theorem InPart.full {a : List Int} {n : Nat} {row : List Int} (h : InPart m a n a.length row) (hn : a.length ≤ n) : row = hl (pad n a : List (Fin m)) := by
  have hl0 := h.len
  refine List.ext_getElem (by rw [hl_length, pad_length _ _ hn, hl0]) fun t h1 h2 => ?_
  have e1 : row[t] = row.getD t 0 := by rw [List.getD_eq_getElem?_getD, List.getElem?_eq_getElem h1]; rfl
  have e2 : (hl (pad n a : List (Fin m)))[t] = (hl (pad n a : List (Fin m))).getD t 0 := by rw [List.getD_eq_getElem?_getD, List.getElem?_eq_getElem h2]; rfl
  rw [e1, e2, hl_getD _ _ (by rw [hl_length] at h2; exact h2), pad_getD]
  split
  · rename_i c; exact h.done t c
  · rename_i c; rw [hv_zero]; exact h.left t (by omega)
/-- The square that a form has. -/
def sqv (m : Nat) : Int := ((4294967296 % m * (4294967296 % m) % m : Nat) : Int)
/-- What the function held finds in its variables. -/
structure HeldIn (w : World) (m n : Nat) [NeZero m] (N : Nat) (ω : Fin m) (bn bx bw : Nat) : Prop where
  qn : w.cell? ⟨bn, 0, none⟩ = some (.int .i64 (N : Int))
  qx : w.heap[bx]? = some (.cells #[.int .u32 (m : Int), .int .u32 (n : Int), .int .u32 (hv (1 : Fin m)), .int .u32 (sqv m)] 60 (0, 0))
  qw : w.cell? ⟨bw, 0, none⟩ = some (.int .u32 (hv ω))
theorem HeldIn.later {w w' : World} {n : Nat} {N : Nat} {ω : Fin m} {bn bx bw : Nat} (h : HeldIn w m n N ω bn bx bw) (hb : Below w.heap.size w w') : HeldIn w' m n N ω bn bx bw :=
  ⟨cell_later h.qn hb, blk_below h.qx hb, cell_later h.qw hb⟩
set_option maxHeartbeats 2000000 in
set_option maxRecDepth 100000 in
theorem mod_held (n N j : Nat) (F : Form m n) (hN : N = 2 ^ j) (hj : j ≤ 20) (ω : Fin m) (bn bx bw : Nat) (A : Option Addr) (la ca : Nat) (a : List Int) (w : World) (hr : ReadsInt w .u64 A la a) (hia : Num.InB Num.W a) (hla : la ≤ N) (hh : HeldIn w m n N ω bn bx bw) :
    Calls Tryd.prog 30 #[.slice A la ca, .pointer (some ⟨bn, 0, none⟩), .pointer (some ⟨bx, 0, none⟩), .pointer (some ⟨bw, 0, none⟩)] w fun e w' => ∃ g c, e = .returned (.slice (some ⟨g, 0, none⟩) N c) ∧ Own32 w' g N c (hl (tr j (pad N a : List (Fin m)) ω)) ∧ w.heap.size ≤ g ∧ Below w.heap.size w w' := by
  have hal : a.length = la := hr.1
  have hNb : N ≤ 1048576 := by rw [hN]; exact Nat.le_trans (Nat.pow_le_pow_right (by decide) hj) (by decide)
  have hp : 0 < N := by rw [hN]; exact Nat.two_pow_pos j
  have hmk := fun W => run_make32 N (by omega) W
  have qn := hh.qn
  have HA := Aside0.mk hr
  have HAL := Aside0.mk hal
  have HIA := Aside0.mk hia
  have HHI := Aside0.mk hh
  have HN := Aside0.mk hN
  have HNB := Aside0.mk hNb
  have htr : ∀ (g c : Nat) (W : World), Own32 W g N c (hl (pad N a : List (Fin m))) → Calls Tryd.prog 31 #[monV m n (sqv m), .slice (some ⟨g, 0, none⟩) N c, .int .u32 (hv ω)] W fun e w' => ∃ g' c', e = .returned (.slice (some ⟨g', 0, none⟩) N c') ∧ Own32 w' g' N c' (hl (tr j (pad N a : List (Fin m)) ω)) ∧ (g' = g ∨ W.heap.size ≤ g') ∧ Below W.heap.size W w' := fun g c W ho => by
    have h := transform_tells n (sqv m) F j (by omega) (.slice (some ⟨g, 0, none⟩) N c) (pad N a) ω W (by rw [pad_length _ _ (by omega), hN]) (by rw [← hN]; exact ho)
    refine h.mono ?_
    rintro e w' ⟨v', rfl, h1, h2, h3⟩
    rw [← hN] at h1
    obtain ⟨g', c', rfl, _, _⟩ := h1.form hp
    refine ⟨g', c', rfl, h1, ?_, h3⟩
    rcases h2 with e | ⟨g2, e, hg⟩
    · cases e; exact .inl rfl
    · cases e; exact .inr hg
  have HTR := Aside0.mk htr
  clear hr hal hia hh hN hNb htr hp
  go_enter Tryd.func30, Tryd.ntmps30
  go_wp2
  go_loopw [13] (fun v13 wr => ∃ (k : Nat) (row : List Int), k ≤ la ∧ v13 = .int .i64 (k : Int) ∧ Aside0 (Row32 wr w.heap.size row) ∧ Aside0 (InPart m a N k row) ∧ Aside0 (Below w.heap.size w wr)) (fun v13 _ => la - (intOf v13).toNat)
  case atStart => exact ⟨0, _, Nat.zero_le _, rfl, ⟨Row32.made N⟩, ⟨InPart.first a N⟩, ⟨below_alloc (Below.refl _ _) _⟩⟩
  case round =>
    obtain ⟨k, row, hk, rfl, HR, HP, HB⟩ := hrel
    have hu60 := Tryd.underlying60
    have hxb := blk_below HHI.out.qx HB.out
    have q0 : wr.cell? ⟨bx, 0, none⟩ = some (.int .u32 (m : Int)) := blk_cell hxb 0
    have q1 : wr.cell? ⟨bx, 1, none⟩ = some (.int .u32 (n : Int)) := blk_cell hxb 1
    have q2 : wr.cell? ⟨bx, 2, none⟩ = some (.int .u32 (hv (1 : Fin m))) := blk_cell hxb 2
    have q3 : wr.cell? ⟨bx, 3, none⟩ = some (.int .u32 (sqv m)) := blk_cell hxb 3
    by_cases hlt : k < la
    · have hnb := HNB.out
      obtain ⟨ad, rfl, hcA⟩ := HA.out.2.2 (by omega)
      have qa := cell_later (hcA k hlt) HB.out
      have hx := Num.inB_getD Num.W_pos HIA.out k
      rw [Num.W_eq] at hx
      have hst := HP.out.step (k := k) (by omega)
      obtain ⟨x, hxe⟩ := Int.eq_ofNat_of_zero_le hx.1
      have hin := in_spec F (hv (1 : Fin m)) x (by omega)
      have hfz := hv_fz (m := m) (a.getD k 0)
      rw [hxe, Int.toNat_natCast] at hfz
      rw [hxe] at hst qa
      have HIN := Aside0.mk (fun W => mont_In.calls (m : Int) (n : Int) (hv (1 : Fin m)) (sqv m) (x : Int) (hv (fz (x : Int) : Fin m)) W (by rw [hfz]; exact hin))
      have HST := Aside0.mk hst
      have hrl : row.length = N := HP.out.len
      have hrw : ∀ W, Below wr.heap.size wr W → Row32 W w.heap.size row := fun W hb => blk_below HR.out hb
      have HRW := Aside0.mk hrw
      have k0 : (0 : Int) ≤ (k : Int) := by omega
      have k1 : (k : Int) < (N : Int) := by omega
      have k2 : (k : Int) < (la : Int) := by omega
      have hkN : k < row.length := by omega
      clear hnb hx hxe hst hin hfz hrw hcA hrl
      generalize hv (fz (x : Int) : Fin m) = y at *
      go_wp2_with (((go_at_call 29); (with_reducible refine (HIN.out _).mono ?_); (rintro e w5 ⟨rfl, hb⟩); (have HB5 := Aside0.mk hb); (have qk := row32_cell (HRW.out _ hb) k hkN); (have fk := blk_frozen (HRW.out _ hb) k); (clear hb)))
      have hwk := wrap_succ (k := k) (Nat.le_trans (Nat.le_of_lt hlt) (Nat.le_trans hla (Nat.le_trans HNB.out (by decide))))
      refine ⟨⟨k + 1, _, hlt, by rw [hwk], ⟨(HRW.out _ HB5.out).set k y⟩, HST, ⟨set_below (below_on HB.out HB5.out) (Nat.le_refl _)⟩⟩, by rw [hwk]; exact less_left hlt⟩
    · obtain rfl : k = la := by omega
      have hp := HP.out
      rw [← HAL.out] at hp
      have hrow := HR.out.own hp.len (by have := HNB.out; omega)
      rw [hp.full (by rw [HAL.out]; exact hla)] at hrow
      have HRO := Aside0.mk hrow
      have qw := cell_later HHI.out.qw HB.out
      clear hp hrow
      go_wp2_with (((go_at_call 31); (with_reducible refine (HTR.out _ _ _ HRO.out).mono ?_); (rintro e w5 ⟨g', c', rfl, ho, hg, hb⟩); (have HO := Aside0.mk ho); (have HG := Aside0.mk hg); (have HB5 := Aside0.mk hb); (clear ho hg hb)))
      refine bodyPost_ret (results_tmp rfl _ _ _) rfl ?_
      refine ⟨g', c', rfl, HO.out, ?_, below_on HB.out HB5.out⟩
      rcases HG.out with h | h
      · rw [h]; exact Nat.le_refl _
      · exact Nat.le_trans HB.out.size h
end
end Go.Proofs.YtaakniobgljniaaDoor.Hand

/- trio: what inverse, places and the search among the primes answer, in plain numbers; a prime's root of 2^j places. -/
namespace Go.Proofs.YtaakniobgljniaaDoor.Hand
open Go.Proofs.YtaakniobgljniaaDoor.Fermat Go.RowKit Go.Proofs.YtaakniobgljniaaDoorW.PrintWords Go.Proofs.YtaakniobgljniaaDoorW.PrintMore Go.Proofs.YtaakniobgljniaaDoor.Pa Go.Proofs.YtaakniobgljniaaDoor.Ntt
set_option linter.unusedVariables false
set_option linter.unusedSimpArgs false

/-- One of the three primes. -/
def isPrime3 (m : Nat) : Prop := m = 998244353 ∨ m = 167772161 ∨ m = 469762049
theorem prime3 {m : Nat} (h : isPrime3 m) : Prime m := by
  rcases h with rfl | rfl | rfl
  · exact primeA
  · exact primeB
  · exact primeC
theorem prime3_odd {m : Nat} (h : isPrime3 m) : m % 2 = 1 ∧ 3 ≤ m ∧ m < 2147483648 := by rcases h with rfl | rfl | rfl <;> decide
theorem inverse_is {m : Nat} (h : m % 2 = 1) (h3 : 3 ≤ m) (hl : m < 2147483648) (k a : Nat) (hk : 64 < k) (ha : a < 18446744073709551616) : trio_inverse.f k a m = some ((a ^ (m - 2) % m : Nat) : Int) := by
  obtain ⟨n, F, e⟩ := make_form h h3 hl
  have wm : IntKind.u64.wrap (m : Int) = (m : Int) := u64_nat m (by omega)
  have w2 : IntKind.u64.wrap ((m : Int) - 2) = ((m - 2 : Nat) : Int) := by rw [IntKind.wrap_u64]; omega
  have hy : a ^ (m - 2) % m < m := Nat.mod_lt _ (by omega)
  unfold trio_inverse.f
  rw [e, Option.bind_some, in_spec F _ a ha, Option.bind_some, wm, w2, one_held m, pow_held F _ k a (m - 2) hk (by omega), Option.bind_some, out_spec F _ _ _ (held_lt F.ge _), Option.bind_some, out_held F.odd F.ge]
  generalize a ^ (m - 2) % m = y at *
  rw [u64_nat y (by omega)]
theorem places_l0 (many : Nat) (hm : many ≤ 1048576) : ∀ (d j k : Nat), j + d = 20 → d < k → ∃ i, j ≤ i ∧ i ≤ 20 ∧ many ≤ 2 ^ i ∧ (i = j ∨ 2 ^ (i - 1) < many) ∧ trio_places.l0 k (many : Int) ((2 ^ j : Nat) : Int) = some ((many : Int), ((2 ^ i : Nat) : Int))
  | d, j, 0, _, h => absurd h (Nat.not_lt_zero _)
  | 0, j, k + 1, hj, _ => by
    obtain rfl : j = 20 := by omega
    refine ⟨20, Nat.le_refl _, Nat.le_refl _, hm, .inl rfl, ?_⟩
    rw [trio_places.l0, if_neg (by omega)]
  | d + 1, j, k + 1, hj, hd => by
    have hb : 2 ^ j ≤ 1048576 := Nat.le_trans (Nat.pow_le_pow_right (by decide) (show j ≤ 20 by omega)) (by decide)
    have e : wrap64 (((2 ^ j : Nat) : Int) * 2) = ((2 ^ (j + 1) : Nat) : Int) := by
      rw [Nat.pow_succ]
      generalize 2 ^ j = p at *
      unfold wrap64
      omega
    rw [trio_places.l0]
    by_cases c : 2 ^ j < many
    · obtain ⟨i, h1, h2, h3, h4, h5⟩ := places_l0 many hm d (j + 1) k (by omega) (by omega)
      refine ⟨i, by omega, h2, h3, .inr ?_, ?_⟩
      · rcases h4 with rfl | h4
        · rw [Nat.add_sub_cancel]; exact c
        · exact h4
      · rw [if_pos (by omega), e]; exact h5
    · exact ⟨j, Nat.le_refl _, by omega, by omega, .inl rfl, by rw [if_neg (by omega)]⟩
/-- How long a transform of so many places is. -/
theorem places_is (a b : List Int) (ha : a ≠ []) (hb : b ≠ []) (hla : a.length ≤ 1024) (hlb : b.length ≤ 1024) (k : Nat) (hk : 22 < k) :
    ∃ j, j ≤ 20 ∧ a.length + b.length - 1 ≤ 2 ^ j ∧ trio_places.f k a b = some (((a.length + b.length - 1 : Nat) : Int), ((2 ^ j : Nat) : Int)) := by
  have h1 : 0 < a.length := List.length_pos_iff.2 ha
  have h2 : 0 < b.length := List.length_pos_iff.2 hb
  obtain ⟨k, rfl⟩ : ∃ k', k = k' + 1 := ⟨k - 1, by omega⟩
  obtain ⟨i, _, hi, hm, _, h⟩ := places_l0 (a.length + b.length - 1) (by omega) 20 0 k rfl (by omega)
  refine ⟨i, hi, hm, ?_⟩
  have e : wrap64 (wrap64 ((a.length : Int) + (b.length : Int)) - 1) = ((a.length + b.length - 1 : Nat) : Int) := by unfold wrap64; omega
  have hb0 : ((b.length : Int) == 0) = false := by rw [beq_eq_false_iff_ne]; omega
  unfold trio_places.f
  rw [if_neg (by omega), trio_places.j0, hb0, if_neg (by decide), e]
  exact h
theorem places_none (a b : List Int) (h : a = [] ∨ b = []) (k : Nat) (hk : 1 < k) : trio_places.f k a b = some (0, 0) := by
  obtain ⟨k, rfl⟩ : ∃ k', k = k' + 1 := ⟨k - 1, by omega⟩
  unfold trio_places.f
  by_cases c : (a.length : Int) = 0
  · rw [if_pos c, trio_places.j0, if_pos rfl]
  · have hb : b = [] := by
      rcases h with rfl | h
      · exact absurd rfl c
      · exact h
    subst hb
    rw [if_neg c, trio_places.j0]
    exact if_pos rfl
theorem contains_is (v : Int) : slices_Contains_uint32_uint32.f 5 [998244353, 167772161, 469762049] v = some (decide (v = 998244353 ∨ v = 167772161 ∨ v = 469762049)) := by
  have e1 : wrap64 1 = 1 := by unfold wrap64; decide
  have e2 : wrap64 2 = 2 := by unfold wrap64; decide
  have e3 : wrap64 3 = 3 := by unfold wrap64; decide
  unfold slices_Contains_uint32_uint32.f slices_Index_uint32_uint32.f
  by_cases a : v = 998244353
  · simp [slices_Index_uint32_uint32.l0, rd, a]
  · by_cases b : v = 167772161
    · simp [slices_Index_uint32_uint32.l0, rd, b, e1]
    · by_cases c : v = 469762049
      · simp [slices_Index_uint32_uint32.l0, rd, c, e1, e2]
      · simp [slices_Index_uint32_uint32.l0, rd, a, b, c, e1, e2, e3]

section
variable {m : Nat} [NeZero m]
theorem ofNat_pow (x : Nat) : ∀ k, (Fin.ofNat m x) ^ k = Fin.ofNat m (x ^ k)
  | 0 => by
    rw [Ntt.rpow_zero, Nat.pow_zero]
    rfl
  | k + 1 => by
    rw [Ntt.rpow_succ, ofNat_pow x k, Nat.pow_succ]
    apply Fin.ext
    rw [Fin.val_mul, Fin.val_ofNat, Fin.val_ofNat, Fin.val_ofNat, ← Nat.mul_mod]
theorem ones_count : ∀ k : Nat, ev (ones k) (1 : Fin m) = Fin.ofNat m k
  | 0 => by
    apply Fin.ext
    rw [Fin.val_ofNat, Nat.zero_mod]
    rfl
  | k + 1 => by
    rw [ones_succ]
    show (1 : Fin m) + 1 * ev (ones k) 1 = _
    rw [ones_count k]
    rw [show (1 : Fin m) * Fin.ofNat m k = Fin.ofNat m k by grind]
    apply Fin.ext
    rw [Fin.val_add, Fin.val_ofNat, Fin.val_ofNat]
    show (1 % m + k % m) % m = (k + 1) % m
    rw [← Nat.add_mod, Nat.add_comm]
/-- By squaring. -/
def pm (m b : Nat) : Nat → Nat → Nat
  | 0, _ => 1 % m
  | f + 1, e => if e = 0 then 1 % m else if e % 2 = 0 then pm m (b * b % m) f (e / 2) else b * pm m (b * b % m) f (e / 2) % m
end
theorem pm_is (m : Nat) : ∀ (f e b : Nat), e < 2 ^ f → pm m b f e = b ^ e % m
  | 0, e, b, h => by
    obtain rfl : e = 0 := by simpa using h
    simp [pm]
  | f + 1, e, b, h => by
    rw [Nat.pow_succ] at h
    unfold pm
    split
    · rename_i c; subst c; rfl
    · have ih := pm_is m f (e / 2) (b * b % m) (by omega)
      have sq : (b * b % m) ^ (e / 2) % m = b ^ (2 * (e / 2)) % m := by
        rw [← Nat.pow_mod, Nat.pow_mul, Nat.pow_two]
      split
      · rename_i c
        rw [ih, sq]; congr 2; omega
      · rename_i c
        rw [ih, sq, Nat.mul_mod, Nat.mod_mod, ← Nat.mul_mod]
        have e2 : e = 2 * (e / 2) + 1 := by omega
        conv => rhs; rw [e2]
        rw [Nat.pow_succ, Nat.mul_comm]
theorem root3 {m : Nat} (h : isPrime3 m) : 3 ^ ((m - 1) / 2) % m = m - 1 := by
  have key : pm m 3 31 ((m - 1) / 2) = m - 1 := by rcases h with rfl | rfl | rfl <;> decide +kernel
  have hl : (m - 1) / 2 < 2 ^ 31 := by rcases h with rfl | rfl | rfl <;> decide
  rw [← pm_is m 31 _ _ hl]
  exact key
theorem deep3 {m : Nat} (h : isPrime3 m) : (m - 1) % 1048576 = 0 := by rcases h with rfl | rfl | rfl <;> decide
theorem dvd3 {m j : Nat} (h : isPrime3 m) (hj : j ≤ 20) : 2 ^ j ∣ m - 1 := Nat.dvd_trans (Nat.pow_dvd_pow 2 hj) (Nat.dvd_of_mod_eq_zero (deep3 h))
section
variable {m : Nat} [NeZero m]
/-- The root that the program takes. -/
def root (m : Nat) [NeZero m] (N : Nat) : Fin m := Fin.ofNat m (3 ^ ((m - 1) / N))
theorem root_root (h : isPrime3 m) {j : Nat} (hj : j ≤ 20) : Root j (root m (2 ^ j)) := by
  cases j with
  | zero => exact .inl rfl
  | succ j =>
    right
    have ⟨_, h3, _⟩ := prime3_odd h
    obtain ⟨q, hq⟩ := dvd3 h hj
    have e1 : (m - 1) / 2 ^ (j + 1) = q := by rw [hq, Nat.mul_div_cancel_left _ (Nat.two_pow_pos _)]
    have e2 : (m - 1) / 2 = q * 2 ^ j := by
      rw [hq, Nat.pow_succ, Nat.mul_comm (2 ^ j) 2, Nat.mul_assoc, Nat.mul_div_cancel_left _ (by decide), Nat.mul_comm]
    rw [root, e1, ofNat_pow, Nat.add_sub_cancel, ← Nat.pow_mul, ← e2]
    apply Fin.ext
    rw [Fin.val_ofNat, root3 h]
    show m - 1 = (m - 1 % m) % m
    rw [Nat.mod_eq_of_lt (show 1 < m by omega), Nat.mod_eq_of_lt (by omega)]
theorem root_one (h : isPrime3 m) {j : Nat} (hj : j ≤ 20) : (root m (2 ^ j)) ^ (2 ^ j) = 1 := by
  have ⟨_, h3, _⟩ := prime3_odd h
  obtain ⟨q, hq⟩ := dvd3 h hj
  have e1 : (m - 1) / 2 ^ j = q := by rw [hq, Nat.mul_div_cancel_left _ (Nat.two_pow_pos _)]
  rw [root, e1, ofNat_pow, ← Nat.pow_mul, Nat.mul_comm, ← hq]
  apply Fin.ext
  rw [Fin.val_ofNat, fermat (prime3 h) (by rw [Nat.mod_eq_of_lt (show 3 < m by rcases h with rfl | rfl | rfl <;> decide)]; decide)]
  show 1 = 1 % m
  rw [Nat.mod_eq_of_lt (by omega)]
/-- What divides by N. -/
def over (m : Nat) [NeZero m] (N : Nat) : Fin m := Fin.ofNat m (N ^ (m - 2))
theorem over_ones (h : isPrime3 m) {j : Nat} (hj : j ≤ 20) : over m (2 ^ j) * ev (ones (2 ^ j)) (1 : Fin m) = 1 := by
  have ⟨_, h3, _⟩ := prime3_odd h
  have hN : 2 ^ j ≤ 1048576 := Nat.le_trans (Nat.pow_le_pow_right (by decide) hj) (by decide)
  have hp := Nat.two_pow_pos j
  have hm : 1048576 < m := by rcases h with rfl | rfl | rfl <;> decide
  rw [ones_count, over]
  apply Fin.ext
  rw [Fin.val_mul, Fin.val_ofNat, Fin.val_ofNat, ← Nat.mul_mod, ← Nat.pow_succ, show (m - 2).succ = m - 1 by omega]
  rw [fermat (prime3 h) (by rw [Nat.mod_eq_of_lt (by omega)]; omega)]
  show 1 = 1 % m
  rw [Nat.mod_eq_of_lt (by omega)]
end
end Go.Proofs.YtaakniobgljniaaDoor.Hand
