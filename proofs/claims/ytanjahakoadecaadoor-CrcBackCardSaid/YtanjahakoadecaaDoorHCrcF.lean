/- crc.parts's inner function row by hand. -/
import Derived.Test.YtanjahakoadecaaDoorHCrcE
namespace Go.Proofs.YtanjahakoadecaaDoor.Hand
open Go.RowKit Go.Proofs.YtanjahakoadecaaDoorW.PrintWords Go.Proofs.YtanjahakoadecaaDoorW.PrintMore Go.Proofs.YtanjahakoadecaaDoor.Num
set_option linter.unusedVariables false
set_option linter.unusedSimpArgs false

theorem numF_lt : ∀ (l : List UInt8) (v k : Nat), v < 256 ^ k → numF l v < 256 ^ (k + l.length)
  | [], v, k, h => h
  | b :: l, v, k, h => by
    have hb := b.toNat_lt
    have h1 := numF_lt l (v * 256 + b.toNat) (k + 1) (by rw [Nat.pow_succ]; omega)
    rwa [show k + 1 + l.length = k + (b :: l).length by rw [List.length_cons]; omega] at h1
theorem take_num_lt (m : Nat) (st : Option Int) (S : ByteArray) : (takeF m st S).1 < 256 ^ m := by
  have hp : 0 < 256 ^ m := Nat.pow_pos (by decide)
  unfold takeF
  cases st with
  | some e => exact hp
  | none =>
    dsimp only
    split
    · exact hp
    · have h := numF_lt (S.extract 0 m).data.toList 0 0 (by decide)
      have hl : (S.extract 0 m).data.toList.length = m := by
        show (S.extract 0 m).size = m
        rw [ByteArray.size_extract]
        omega
      rw [hl, Nat.zero_add] at h
      exact h
theorem take_size_le (m : Nat) (st : Option Int) (S : ByteArray) : (takeF m st S).2.2.size ≤ S.size := by
  unfold takeF
  cases st with
  | some e => exact Nat.le_refl _
  | none =>
    dsimp only
    split
    · exact Nat.le_refl _
    · rw [ByteArray.size_extract]
      omega
/-- Words are taken till there are n, or an error. -/
def wordsF : Nat → Option Int → ByteArray → List Int → List Int × Option Int × ByteArray
  | 0, st, S, out => (out, st, S)
  | n + 1, some e, S, out => (out, some e, S)
  | n + 1, none, S, out => wordsF n (takeF 8 none S).2.1 (takeF 8 none S).2.2 (out ++ [(((takeF 8 none S).1 : Nat) : Int)])
theorem wordsF_err (n : Nat) (e : Int) (S : ByteArray) (out : List Int) : wordsF n (some e) S out = (out, some e, S) := by cases n <;> rfl
theorem wordsF_size : ∀ (n : Nat) (st : Option Int) (S : ByteArray) (out : List Int), (wordsF n st S out).2.2.size ≤ S.size
  | 0, _, _, _ => Nat.le_refl _
  | n + 1, some e, S, out => Nat.le_refl _
  | n + 1, none, S, out => Nat.le_trans (wordsF_size n _ _ _) (take_size_le 8 none S)
theorem wordsF_inB : ∀ (n : Nat) (st : Option Int) (S : ByteArray) (out : List Int), InB W out → InB W (wordsF n st S out).1
  | 0, _, _, _, h => h
  | n + 1, some e, S, out, h => h
  | n + 1, none, S, out, h => wordsF_inB n _ _ _ (inB_append.2 ⟨h, inB_cons.2 ⟨⟨Int.natCast_nonneg _, by have := take_num_lt 8 none S; rw [W_eq]; omega⟩, inB_nil _⟩⟩)
/-- What row does. -/
def rowF (st : Option Int) (S : ByteArray) : List Int × Option Int × ByteArray :=
  let t := takeF 4 st S
  let w := wordsF t.1 (if 4096 < t.1 then t.2.1.or (some 4) else t.2.1) t.2.2 []
  (w.1, if (dig W (val W w.1)).length < w.1.length then w.2.1.or (some 6) else w.2.1, w.2.2)
theorem R_turn {α : Type} {d : Kd α} {e be bs base : Nat} {w w1 : World} {v : Value} {xs : List α} (h : d.R e w base (fun _ => True) v xs) (k : Turn be bs w w1) (h1 : be < base) (h2 : bs < base) : d.R e w1 base (fun _ => True) v xs :=
  Kd.R_mono (Kd.R_move (Kd.R_bound h) (fun j hj => k.block j hj.2.2.1 (by have := hj.2.1; omega) (by have := hj.2.1; omega))) (fun _ _ => trivial)
theorem Env.lt {w : World} {be bs : Nat} {st : Option Int} {S : ByteArray} (h : Env w be bs st S) : be < w.heap.size ∧ bs < w.heap.size := by
  refine ⟨?_, blk_lt h.s⟩
  cases st with
  | none => exact blk_lt h.e
  | some e =>
    obtain ⟨left, p, h1, _⟩ := h.e
    exact blk_lt h1
theorem Env.err {w : World} {be bs : Nat} {st : Option Int} {S : ByteArray} (h : Env w be bs st S) : ∃ v, w.cell? ⟨be, 0, none⟩ = some v ∧ (st = none → v = .nilIface) ∧ (∀ e, st = some e → ∃ T u, v = .iface T u) := by
  cases st with
  | none => exact ⟨_, blk_cell h.e 0, fun _ => rfl, fun e he => by cases he⟩
  | some e =>
    obtain ⟨left, p, h1, _⟩ := h.e
    refine ⟨_, blk_cell h1 0, ?_, ?_⟩
    · intro he
      cases he
    · exact fun _ _ => ⟨_, _, rfl⟩
theorem crc_take_1 (be bs bo bt : Nat) (st : Option Int) (S : ByteArray) (w : World) (hE : Env w be bs st S) (hH : Held w be bs bo bt) (hS : S.size ≤ 4611686018427387904) :
    Calls Tryd.prog 33 #[.int .i64 1, .pointer (some ⟨bs, 0, none⟩), .pointer (some ⟨bo, 0, none⟩), .pointer (some ⟨be, 0, none⟩)] w fun ev w' => ev = .returned (.int .u64 (((takeF 1 st S).1 : Nat) : Int)) ∧ Env w' be bs (takeF 1 st S).2.1 (takeF 1 st S).2.2 ∧ Turn be bs w w' := crc_takeF 1 (by decide) be bs bo bt st S w hE hH hS
theorem crc_take_4 (be bs bo bt : Nat) (st : Option Int) (S : ByteArray) (w : World) (hE : Env w be bs st S) (hH : Held w be bs bo bt) (hS : S.size ≤ 4611686018427387904) :
    Calls Tryd.prog 33 #[.int .i64 4, .pointer (some ⟨bs, 0, none⟩), .pointer (some ⟨bo, 0, none⟩), .pointer (some ⟨be, 0, none⟩)] w fun ev w' => ev = .returned (.int .u64 (((takeF 4 st S).1 : Nat) : Int)) ∧ Env w' be bs (takeF 4 st S).2.1 (takeF 4 st S).2.2 ∧ Turn be bs w w' := crc_takeF 4 (by decide) be bs bo bt st S w hE hH hS
theorem crc_take_8 (be bs bo bt : Nat) (st : Option Int) (S : ByteArray) (w : World) (hE : Env w be bs st S) (hH : Held w be bs bo bt) (hS : S.size ≤ 4611686018427387904) :
    Calls Tryd.prog 33 #[.int .i64 8, .pointer (some ⟨bs, 0, none⟩), .pointer (some ⟨bo, 0, none⟩), .pointer (some ⟨be, 0, none⟩)] w fun ev w' => ev = .returned (.int .u64 (((takeF 8 st S).1 : Nat) : Int)) ∧ Env w' be bs (takeF 8 st S).2.1 (takeF 8 st S).2.2 ∧ Turn be bs w w' := crc_takeF 8 (by decide) be bs bo bt st S w hE hH hS
theorem Turn.after {be bs : Nat} {w w1 w2 : World} (h : Turn be bs w w1) (k : Below w.heap.size w1 w2) : Turn be bs w w2 :=
  ⟨k.os.trans h.a, k.tape.trans h.b, k.output.trans h.c, Nat.le_trans h.size k.size, fun j hj h1 h2 => (k.block j hj).trans (h.block j hj h1 h2)⟩
/-- The row has grown: what the inner functions find is as it was. -/
theorem Env.grown {w w1 : World} {be bs base : Nat} {st : Option Int} {S : ByteArray} {v : Value} {out : List Int} (h : Env w be bs st S) (hR : Kd.R (Kd.int .u64) 58 w base (fun _ => True) v out) (hg : w.grownBy w1 v.ownBlock) : Env w1 be bs st S := by
  have key : ∀ {g : Nat} {cells : Array Value} {T : TypeId}, w.heap[g]? = some (.cells cells T (0, 0)) → 58 ≠ T → w1.heap[g]? = some (.cells cells T (0, 0)) := fun {g cells T} hb ht => (hg.block g (blk_lt hb) (Kd.R_ne hR hb ht)).trans hb
  refine ⟨?_, key h.s (by decide)⟩
  cases st with
  | none => exact key h.e (by decide)
  | some e =>
    obtain ⟨left, p, h1, h2⟩ := h.e
    exact ⟨left, p, key h1 (by decide), key h2 (by decide)⟩
theorem info64w : (Tryd.prog.info? 58).map (fun i => (i.zero, i.size, i.bytes)) = some (some (.int .u64 0), 1, 8) := by kernel_rfl
set_option maxRecDepth 100000 in
set_option maxHeartbeats 4000000 in
theorem crc_rowF (be bs bo bt : Nat) (st : Option Int) (S : ByteArray) (w : World) (hE : Env w be bs st S) (hH : Held w be bs bo bt) (hS : S.size ≤ 4611686018427387904) :
    Calls Tryd.prog 34 #[.pointer (some ⟨bt, 0, none⟩), .pointer (some ⟨bo, 0, none⟩), .pointer (some ⟨be, 0, none⟩)] w fun ev w' => ∃ v, ev = .returned v ∧ Kd.R (Kd.int .u64) 58 w' w.heap.size (fun _ => True) v (rowF st S).1 ∧ Env w' be bs (rowF st S).2.1 (rowF st S).2.2 ∧ Turn be bs w w' := by
  have qt := hH.t
  have HT := Aside0.mk (crc_take_4 be bs bo bt st S w hE hH hS)
  have HTK := Aside0.mk (fun st S W hE hH hS => crc_take_8 be bs bo bt st S W hE hH hS)
  have HOD := Aside0.mk (fun e st S W hE => crc_oddF e be bs st S W hE)
  have hnl := take_num_lt 4 st S
  have hsl := take_size_le 4 st S
  unfold rowF
  generalize takeF 4 st S = t at *
  obtain ⟨n, st1, S1⟩ := t
  dsimp only at HT hnl hsl ⊢
  have HS1 : Aside0 (S1.size ≤ 4611686018427387904) := ⟨by omega⟩
  have HH := Aside0.mk hH
  have hlt := hE.lt
  clear hE hH hS hsl
  have hnm := fun W => nat_norm_at none 0 0 [] W ⟨rfl, by decide, fun h => absurd h (by decide)⟩ (Nat.le_refl _) (inB_nil _)
  have hz : (dig W (val W ([] : List Int))).length = 0 := by simp [val, dig]
  by_cases hbig : 4096 < n
  · have hbig' : (4096 : Int) < (n : Int) := by omega
    obtain ⟨e, he⟩ : ∃ e, st1.or (some 4) = some e := by cases st1 <;> exact ⟨_, rfl⟩
    rw [if_pos hbig, he, wordsF_err]
    dsimp only
    rw [hz, List.length_nil, if_neg (by decide)]
    rw [hz] at hnm
    have HNM := Aside0.mk hnm
    clear hnm hz
    go_enter Tryd.func34, Tryd.ntmps34
    go_wp2_with (first
      | ((go_at_call 33); (with_reducible refine HT.out.mono ?_); (rintro ev w1 ⟨rfl, hE1, hT1⟩); (have HE1 := Aside0.mk hE1); (have HT1 := Aside0.mk hT1); (have qo1 := (HH.out.turn hT1).o); (clear hE1 hT1))
      | ((go_at_call 32); (with_reducible refine (HOD.out _ _ _ _ HE1.out).mono ?_); (rintro ev w2 ⟨rfl, hE2, hT2⟩); (rw [he] at hE2); (obtain ⟨left, p, he2, _⟩ := hE2.e); (have qe2 := blk_cell he2 0); (have HE2 := Aside0.mk hE2); (have HT2 := Aside0.mk (HT1.out.trans hT2)); (clear hE2 hT2 he2)))
    refine wp_loop_rounds 1 ?_
    rw [rounds_succ]
    go_wp2_with ((go_at_call 35); (with_reducible refine (HNM.out _).mono ?_); (rintro ev w3 ⟨rfl, rfl⟩))
    refine bodyPost_ret (results_tmp rfl _ _ _) rfl ?_
    exact ⟨_, rfl, Kd.R_nil _ _ _ _ _, HE2.out, HT2.out⟩
  · have hbig' : ¬ (4096 : Int) < (n : Int) := by omega
    rw [if_neg hbig]
    obtain ⟨R, hR⟩ : ∃ R, R = wordsF n st1 S1 [] := ⟨_, rfl⟩
    rw [← hR]
    have HR := Aside0.mk hR.symm
    obtain ⟨fin, hfin⟩ : ∃ fin, fin = (if (dig W (val W R.1)).length < R.1.length then R.2.1.or (some 6) else R.2.1) := ⟨_, rfl⟩
    rw [← hfin]
    have HFI := Aside0.mk hfin
    clear hnm hz hR hfin
    go_enter Tryd.func34, Tryd.ntmps34
    go_wp2_with ((go_at_call 33); (with_reducible refine HT.out.mono ?_); (rintro ev w1 ⟨rfl, hE1, hT1⟩); (have HE1 := Aside0.mk hE1); (have HT1 := Aside0.mk hT1); (clear hE1 hT1))
    go_loopw [5, 6] (fun v5 v6 wr => ∃ (i : Nat) (st' : Option Int) (S' : ByteArray) (out : List Int), v6 = .int .u64 (i : Int) ∧ i ≤ n ∧ Aside0 (out.length = i ∧ InB W out ∧ S'.size ≤ 4611686018427387904) ∧ Aside0 (wordsF (n - i) st' S' out = R) ∧ Aside0 (Env wr be bs st' S') ∧ Aside0 (Turn be bs w wr) ∧ Aside0 (Kd.R (Kd.int .u64) 58 wr w.heap.size (fun _ => True) v5 out)) (fun _ v6 _ => n - (intOf v6).toNat)
    case atStart => exact ⟨0, st1, S1, [], rfl, Nat.zero_le _, ⟨rfl, inB_nil _, HS1.out⟩, HR, HE1, HT1, ⟨Kd.R_nil _ _ _ _ _⟩⟩
    case round =>
      obtain ⟨i, st', S', out, rfl, hi, HF, HW, HEV, HTW, HO⟩ := hrel
      by_cases hin : i < n
      · have hin' : (i : Int) < (n : Int) := by omega
        cases st' with
        | some e =>
          obtain ⟨left, p, he, _⟩ := HEV.out.e
          have qe := blk_cell he 0
          have HRR : Aside0 (R = (out, some e, S')) := ⟨by rw [← HW.out, wordsF_err]⟩
          clear he
          obtain ⟨A5, c5, e5, hl5, hc5⟩ := Kd.R_reads HO.out
          subst e5
          have HNM := Aside0.mk (fun W (hW : W = wr) => nat_norm_at A5 out.length c5 out W (by rw [hW]; exact Kd.reads_of_C (enc := Value.int .u64) (d := (0 : Int)) (h1 := fun _ => rfl) hc5) hl5 HF.out.2.1)
          obtain ⟨dl, hdl⟩ : ∃ dl, dl = (dig W (val W out)).length := ⟨_, rfl⟩
          obtain ⟨ol, hol⟩ : ∃ ol, ol = out.length := ⟨_, rfl⟩
          rw [← hdl, ← hol] at HNM
          rw [← hol] at HO
          have HDL := Aside0.mk hdl
          have HOL := Aside0.mk hol
          have qo := (HH.out.turn HTW.out).o
          clear hdl hc5 hl5
          rw [← hol]
          clear hol
          by_cases hsh : dl < ol
          · have hsh' : (dl : Int) < (ol : Int) := by omega
            go_wp2_with (first
              | ((go_at_call 35); (with_reducible refine (HNM.out _ rfl).mono ?_); (rintro ev w3 ⟨rfl, rfl⟩))
              | ((go_at_call 32); (with_reducible refine (HOD.out _ _ _ _ HEV.out).mono ?_); (rintro ev w4 ⟨rfl, hE4, hT4⟩); (have HE4 := Aside0.mk hE4); (have HT4 := Aside0.mk hT4); (clear hE4 hT4)))
            refine bodyPost_ret (results_tmp rfl _ _ _) rfl ?_
            refine ⟨_, rfl, ?_, ?_, HTW.out.trans (HT4.out)⟩
            · rw [HRR.out]
              exact R_turn HO.out HT4.out hlt.1 hlt.2
            · rw [HFI.out, HRR.out]
              dsimp only
              rw [← HDL.out, ← HOL.out, if_pos hsh]
              exact HE4.out
          · have hsh' : ¬ (dl : Int) < (ol : Int) := by omega
            go_wp2_with ((go_at_call 35); (with_reducible refine (HNM.out _ rfl).mono ?_); (rintro ev w3 ⟨rfl, rfl⟩))
            refine bodyPost_ret (results_tmp rfl _ _ _) rfl ?_
            refine ⟨_, rfl, ?_, ?_, HTW.out⟩
            · rw [HRR.out]
              exact HO.out
            · rw [HFI.out, HRR.out]
              dsimp only
              rw [← HDL.out, ← HOL.out, if_neg hsh]
              exact HEV.out
        | none =>
          have qe : wr.cell? ⟨be, 0, none⟩ = some .nilIface := blk_cell HEV.out.e 0
          have qt := (HH.out.turn HTW.out).t
          have HT8 := Aside0.mk (HTK.out none S' wr HEV.out (HH.out.turn HTW.out) HF.out.2.2)
          have hw8 : wordsF (n - i) none S' out = wordsF (n - (i + 1)) (takeF 8 none S').2.1 (takeF 8 none S').2.2 (out ++ [(((takeF 8 none S').1 : Nat) : Int)]) := by
            rw [show n - i = (n - (i + 1)) + 1 by omega]
            rfl
          have hl8 := take_num_lt 8 none S'
          have hs8 := take_size_le 8 none S'
          have HW8 := Aside0.mk (hw8.symm.trans HW.out)
          clear hw8
          generalize takeF 8 none S' = t8 at *
          obtain ⟨x, st8, S8⟩ := t8
          dsimp only at HT8 HW8 hl8 hs8
          have hu : IntKind.u64.wrap ((i : Int) + 1) = ((i + 1 : Nat) : Int) := by rw [IntKind.wrap_u64]; omega
          go_wp2_with (first
            | ((go_at_call 33); (with_reducible refine HT8.out.mono ?_); (rintro ev w2 ⟨rfl, hE2, hT2⟩); (have HE2 := Aside0.mk hE2); (have HT2 := Aside0.mk (HTW.out.trans hT2)); (have HO2 := Aside0.mk (R_turn HO.out hT2 hlt.1 hlt.2)); (clear hE2 hT2))
            | ((with_reducible refine gate_builtin (b := .append) (xs := #[.tmp 22, .tmp 25]) rfl ?_); at_builtin; refine Kd.R_append (Kd.int .u64) (w0 := w2) w.heap.size rfl (.tmp 22) (.tmp 25) 27 58 (.int .u64 0) 8 rfl Tryd.underlying27 info64w rfl (by decide) (by omega) _ out (x : Int) [.int .u64 (x : Int)] (fun _ => True) (fun _ => False) rfl rfl ?aP (fun _ hk => hk.elim) ?aF ?aO ?aB ?aS ?aL ?_; (case aP => exact rfl); (case aB => exact Below.refl _ _); (case aF => exact (fun _ _ => trivial)); (case aO => exact HO2.out); (case aS => exact HT2.out.size); (case aL => have := HF.out.1; omega); intro v1 w3 ho hb hg hat; have HO3 := Aside0.mk ho; have HT3 := Aside0.mk (HT2.out.after hb); have HE3 := Aside0.mk (HE2.out.grown HO2.out hg); clear ho hb hg hat))
          refine ⟨⟨i + 1, st8, S8, out ++ [(x : Int)], by congr 1, hin, ⟨by rw [List.length_append, HF.out.1]; rfl, inB_append.2 ⟨HF.out.2.1, inB_cons.2 ⟨⟨Int.natCast_nonneg _, by rw [W_eq]; omega⟩, inB_nil _⟩⟩, Nat.le_trans hs8 HF.out.2.2⟩, HW8, HE3, HT3, HO3⟩, by simp only [intOf]; omega⟩
      · have hin' : ¬ (i : Int) < (n : Int) := by omega
        have HRR : Aside0 (R = (out, st', S')) := ⟨by rw [← HW.out, show n - i = 0 by omega]; rfl⟩
        obtain ⟨A5, c5, e5, hl5, hc5⟩ := Kd.R_reads HO.out
        subst e5
        have HNM := Aside0.mk (fun W (hW : W = wr) => nat_norm_at A5 out.length c5 out W (by rw [hW]; exact Kd.reads_of_C (enc := Value.int .u64) (d := (0 : Int)) (h1 := fun _ => rfl) hc5) hl5 HF.out.2.1)
        obtain ⟨dl, hdl⟩ : ∃ dl, dl = (dig W (val W out)).length := ⟨_, rfl⟩
        obtain ⟨ol, hol⟩ : ∃ ol, ol = out.length := ⟨_, rfl⟩
        rw [← hdl, ← hol] at HNM
        rw [← hol] at HO
        have HDL := Aside0.mk hdl
        have HOL := Aside0.mk hol
        have qo := (HH.out.turn HTW.out).o
        clear hdl hc5 hl5
        rw [← hol]
        clear hol
        by_cases hsh : dl < ol
        · have hsh' : (dl : Int) < (ol : Int) := by omega
          go_wp2_with (first
            | ((go_at_call 35); (with_reducible refine (HNM.out _ rfl).mono ?_); (rintro ev w3 ⟨rfl, rfl⟩))
            | ((go_at_call 32); (with_reducible refine (HOD.out _ _ _ _ HEV.out).mono ?_); (rintro ev w4 ⟨rfl, hE4, hT4⟩); (have HE4 := Aside0.mk hE4); (have HT4 := Aside0.mk hT4); (clear hE4 hT4)))
          refine bodyPost_ret (results_tmp rfl _ _ _) rfl ?_
          refine ⟨_, rfl, ?_, ?_, HTW.out.trans (HT4.out)⟩
          · rw [HRR.out]
            exact R_turn HO.out HT4.out hlt.1 hlt.2
          · rw [HFI.out, HRR.out]
            dsimp only
            rw [← HDL.out, ← HOL.out, if_pos hsh]
            exact HE4.out
        · have hsh' : ¬ (dl : Int) < (ol : Int) := by omega
          go_wp2_with ((go_at_call 35); (with_reducible refine (HNM.out _ rfl).mono ?_); (rintro ev w3 ⟨rfl, rfl⟩))
          refine bodyPost_ret (results_tmp rfl _ _ _) rfl ?_
          refine ⟨_, rfl, ?_, ?_, HTW.out⟩
          · rw [HRR.out]
            exact HO.out
          · rw [HFI.out, HRR.out]
            dsimp only
            rw [← HDL.out, ← HOL.out, if_neg hsh]
            exact HEV.out
end Go.Proofs.YtanjahakoadecaaDoor.Hand
