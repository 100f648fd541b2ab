/- decode.Split of a text: walked. -/
import Derived.Test.YtnjlgeenhmamjaaGreatDoorZDecodeBack5
import Derived.WalkMore
namespace Go.Proofs.YtnjlgeenhmamjaaGreatDoor.Q
open Go.RowKit Go.Proofs.YtnjlgeenhmamjaaGreatDoorW.PrintWords Go.Proofs.YtnjlgeenhmamjaaGreatDoorW.PrintLast Go.Proofs.YtnjlgeenhmamjaaGreatDoorW.PrintMore
set_option linter.unusedVariables false
set_option linter.unusedSimpArgs false
/-- Where a field ends that begins at 'a' (the fuel is enough where it passes the end). -/
def endF (s : ByteArray) : Nat → Nat → Nat
  | 0, a => a
  | k + 1, a => if (a : Int) < s.size ∧ bt s a ≠ 44 then (if bt s a = 92 then endF s k (a + 2) else endF s k (a + 1)) else a
/-- .. not behind the text's end. -/
def fieldE (s : ByteArray) (a : Nat) : Nat := min (endF s (s.size + 1) a) s.size
theorem endF_le (s : ByteArray) : ∀ k a, a ≤ endF s k a
  | 0, a => Nat.le_refl _
  | k + 1, a => by
    unfold endF
    split
    · split
      · exact Nat.le_trans (by omega) (endF_le s k (a + 2))
      · exact Nat.le_trans (by omega) (endF_le s k (a + 1))
    · exact Nat.le_refl _
theorem fieldE_ge (s : ByteArray) (a : Nat) (h : a ≤ s.size) : a ≤ fieldE s a := by
  unfold fieldE
  have := endF_le s (s.size + 1) a
  omega
theorem fieldE_le (s : ByteArray) (a : Nat) : fieldE s a ≤ s.size := Nat.min_le_right _ _
/-- The fields from 'a' on. -/
def fields (s : ByteArray) : Nat → Nat → List ByteArray
  | 0, a => []
  | k + 1, a => s.extract a (fieldE s a) :: (if fieldE s a + 1 ≤ s.size then fields s k (fieldE s a + 1) else [])
theorem mkf : ∀ (fn : Fn) (first cap : Array Value) (w : World), (Instr.makeFunc fn first cap).run Tryz.prog w = .ok (.func fn first cap) w := fun _ _ _ _ => rfl
theorem gb_trans {w w1 w2 : World} {row : Option Nat} (h1 : w.grownBy w1 row) (h2 : w1.grownBy w2 row) : w.grownBy w2 row := by
  obtain ⟨a1, a2, a3, a4, a5⟩ := h1
  obtain ⟨b1, b2, b3, b4, b5⟩ := h2
  exact ⟨b1.trans a1, b2.trans a2, b3.trans a3, Nat.le_trans a4 b4, fun k hk hr => (b5 k (Nat.lt_of_lt_of_le hk a4) hr).trans (a5 k hk hr)⟩
theorem R_past {α : Type} {d : Kd α} {e : Nat} {w w1 : World} {base : Nat} {v : Value} {xs : List α} {G : Nat} (h : d.R e w base (fun _ => True) v xs) (hg : w.grownBy w1 (some G)) (hG : G < base) : d.R e w1 base (fun _ => True) v xs :=
  Kd.R_mono (Kd.R_grown (Kd.R_bound h) hg (fun k hk e => by injection e with e; have := hk.2.1; omega)) (fun _ hk => hk.1)
theorem gb_setAt (W : World) (b j : Nat) (v : Value) : W.grownBy (W.setCell ⟨b, j, none⟩ v) (some b) :=
  ⟨rfl, rfl, rfl, Nat.le_of_eq (by simp), fun k _ hk => Below.heap_setCell _ _ _ k (fun e => hk (by rw [e]))⟩
/-- The box of a number; of a text. -/
def NBox (w : World) (p : Nat) (n : Int) : Prop := w.heap[p]? = some (.cells #[.int .i64 n] 3 (0, 0))
def SBox (w : World) (p : Nat) (s : ByteArray) : Prop := w.heap[p]? = some (.cells #[.string s] 9 (0, 0))
attribute [local go_sem] min2_int min_two
set_option maxHeartbeats 8000000 in
set_option maxRecDepth 100000 in
theorem next_calls (s : ByteArray) (hs : s.size ≤ 140737488355328) (a : Nat) (ha : a ≤ s.size) (p q : Nat) (hpq : p ≠ q) (w : World) (hp : NBox w p a) (hq : SBox w q s) :
    Calls Tryz.prog 37 #[.pointer (some ⟨p, 0, none⟩), .pointer (some ⟨q, 0, none⟩)] w fun e w' => e = .returned (.string (s.extract a (fieldE s a))) ∧ NBox w' p (fieldE s a + 1 : Nat) ∧ w.grownBy w' (some p) := by
  have HP := Aside0.mk hp
  have HQ := Aside0.mk hq
  have hge := fieldE_ge s a ha
  have hle := fieldE_le s a
  obtain ⟨E, hE⟩ : ∃ E, endF s (s.size + 1) a = E := ⟨_, rfl⟩
  have hF : fieldE s a = min E s.size := by unfold fieldE; rw [hE]
  obtain ⟨F, hFF⟩ : ∃ F, fieldE s a = F := ⟨_, rfl⟩
  rw [hFF] at hge hle hF ⊢
  have HE := Aside0.mk hE
  have HF := Aside0.mk hF
  have HG := Aside0.mk (And.intro hge hle)
  have c1 : w.cell? ⟨p, 0, none⟩ = some (.int .i64 a) := (blk_cell hp 0).trans rfl
  clear hp hq hE hFF hF hge hle
  go_enter Tryz.func37, Tryz.ntmps37
  go_wp2
  clear c1
  go_loopg [] (s.size + 1) (fun kq wr => ∃ (i : Nat), Aside0 (endF s kq i = E) ∧ Aside0 (s.size < i + kq) ∧ Aside0 (i ≤ s.size + 1) ∧ Aside0 (NBox wr p i) ∧ Aside0 (w.grownBy wr (some p)))
  case atStart => exact ⟨a, HE, ⟨by omega⟩, ⟨by omega⟩, HP, ⟨World.grownBy.refl _ _⟩⟩
  case round =>
    clear HE
    obtain ⟨i, HE, HK, HI, HN, HGr⟩ := hrel
    have cp : wr.cell? ⟨p, 0, none⟩ = some (.int .i64 i) := (blk_cell HN.out 0).trans rfl
    have fp := blk_frozen HN.out 0
    have HQ2 := Aside0.mk (show SBox wr q s from blk_grown HQ.out HGr.out (fun e => hpq (by injection e with e; exact e.symm)))
    have cq : wr.cell? ⟨q, 0, none⟩ = some (.string s) := (blk_cell HQ2.out 0).trans rfl
    by_cases hlt : (i : Int) < (s.size : Int)
    · cases gk with
      | zero => exact absurd HK.out (by omega)
      | succ k1 =>
      have d1 : decide ((i : Int) < (s.size : Int)) = true := decide_eq_true hlt
      have d2 : decide (i < s.size) = true := decide_eq_true (by omega)
      have p4 : 0 ≤ (i : Int) := by omega
      have q4 := hlt
      have hx : ∀ h : i < s.size, ((s[i]'h).toNat : Int) = bt s (i : Int) := fun h => by simp [bt, h]
      have hE := HE.out
      unfold endF at hE
      have hi1 := HI.out
      have hw1 : wrap64 ((i : Int) + 1) = (i : Int) + 1 := wrap_in (by unfold in64; omega)
      have hw2 : wrap64 ((i : Int) + 1 + 1) = (i : Int) + 2 := (wrap_in (by unfold in64; omega)).trans (by omega)
      replace p4 := eq_true p4
      replace q4 := eq_true q4
      by_cases h44 : bt s i = 44
      · have b1 : (bt s (i : Int) != 44) = false := bne_eq_false_iff_eq.mpr h44
        rw [if_neg (fun h => h.2 h44)] at hE
        have hEi : i = E := hE
        have hGG := HG.out
        have hFi : F = i := by have := HF.out; omega
        have hmin : (if (s.size : Int) < (i : Int) then (s.size : Int) else (i : Int)) = (i : Int) := if_neg (by omega)
        have g1 : (a : Int) ≤ (i : Int) := by omega
        have g2 : (i : Int) ≤ (s.size : Int) := by omega
        have g0 : (0 : Int) ≤ (a : Int) := by omega
        have h1 : NBox (wr.setCell ⟨p, 0, none⟩ (.int .i64 (i : Int))) p (i : Int) := blk_set HN.out 0 _
        have c2 : (wr.setCell ⟨p, 0, none⟩ (.int .i64 (i : Int))).cell? ⟨p, 0, none⟩ = some (.int .i64 (i : Int)) := (blk_cell h1 0).trans rfl
        have f2 := blk_frozen h1 0
        have HN2 := Aside0.mk (show NBox ((wr.setCell ⟨p, 0, none⟩ (.int .i64 (i : Int))).setCell ⟨p, 0, none⟩ (.int .i64 ((i : Int) + 1))) p ((i + 1 : Nat) : Int) from blk_set h1 0 _)
        have HG2 := Aside0.mk (gb_trans (gb_trans HGr.out (gb_setAt wr p 0 (.int .i64 (i : Int)))) (gb_setAt _ p 0 (.int .i64 ((i : Int) + 1))))
        clear h44 hE hEi hlt hi1 hw2 HF HG hGG h1
        subst hFi
        go_wp2
        first | exact ⟨by simp, HN2.out, HG2.out⟩ | (go_ret; exact ⟨by first | rfl | simp, HN2.out, HG2.out⟩)
      · have b1 : (bt s (i : Int) != 44) = true := bne_iff_ne.mpr h44
        rw [if_pos ⟨hlt, h44⟩] at hE
        by_cases h92 : bt s i = 92
        · rw [if_pos h92] at hE
          have b2 : (bt s (i : Int) == 92) = true := beq_iff_eq.mpr h92
          have HE2 := Aside0.mk hE
          have h1 : NBox (wr.setCell ⟨p, 0, none⟩ (.int .i64 ((i : Int) + 1))) p ((i : Int) + 1) := blk_set HN.out 0 _
          have c2 : (wr.setCell ⟨p, 0, none⟩ (.int .i64 ((i : Int) + 1))).cell? ⟨p, 0, none⟩ = some (.int .i64 ((i : Int) + 1)) := (blk_cell h1 0).trans rfl
          have f2 := blk_frozen h1 0
          have HN2 := Aside0.mk (show NBox ((wr.setCell ⟨p, 0, none⟩ (.int .i64 ((i : Int) + 1))).setCell ⟨p, 0, none⟩ (.int .i64 ((i : Int) + 2))) p ((i + 2 : Nat) : Int) from blk_set h1 0 _)
          have HG2 := Aside0.mk (gb_trans (gb_trans HGr.out (gb_setAt wr p 0 (.int .i64 ((i : Int) + 1)))) (gb_setAt _ p 0 (.int .i64 ((i : Int) + 2))))
          clear h44 h92 hE h1 HE
          go_wp2
          go_roundg k1
          case measure => omega
          case rel => exact ⟨i + 2, HE2, ⟨by have := HK.out; omega⟩, ⟨by omega⟩, HN2, HG2⟩
        · rw [if_neg h92] at hE
          have b2 : (bt s (i : Int) == 92) = false := beq_eq_false_iff_ne.mpr h92
          have HE2 := Aside0.mk hE
          have HN2 := Aside0.mk (show NBox (wr.setCell ⟨p, 0, none⟩ (.int .i64 ((i : Int) + 1))) p ((i + 1 : Nat) : Int) from blk_set HN.out 0 _)
          have HG2 := Aside0.mk (gb_trans HGr.out (gb_setAt wr p 0 (.int .i64 ((i : Int) + 1))))
          clear h44 h92 hE HE
          go_wp2
          go_roundg k1
          case measure => omega
          case rel => exact ⟨i + 1, HE2, ⟨by have := HK.out; omega⟩, ⟨by omega⟩, HN2, HG2⟩
    · have d1 : decide ((i : Int) < (s.size : Int)) = false := decide_eq_false hlt
      have d2 : decide (i < s.size) = false := decide_eq_false (by omega)
      have hEi : i = E := by
        have := HE.out
        cases gk with
        | zero => exact this
        | succ k1 =>
          unfold endF at this
          rw [if_neg (fun h => hlt h.1)] at this
          exact this
      have hGG := HG.out
      have hFi : F = s.size := by have := HF.out; omega
      have hi1 := HI.out
      have hw1 : wrap64 ((s.size : Int) + 1) = (s.size : Int) + 1 := wrap_in (by unfold in64; omega)
      have g1 : (a : Int) ≤ (s.size : Int) := by omega
      have g0 : (0 : Int) ≤ (a : Int) := by omega
      have h1 : NBox (wr.setCell ⟨p, 0, none⟩ (.int .i64 (s.size : Int))) p (s.size : Int) := blk_set HN.out 0 _
      have c2 : (wr.setCell ⟨p, 0, none⟩ (.int .i64 (s.size : Int))).cell? ⟨p, 0, none⟩ = some (.int .i64 (s.size : Int)) := (blk_cell h1 0).trans rfl
      have f2 := blk_frozen h1 0
      have HN2 := Aside0.mk (show NBox ((wr.setCell ⟨p, 0, none⟩ (.int .i64 (s.size : Int))).setCell ⟨p, 0, none⟩ (.int .i64 ((s.size : Int) + 1))) p ((s.size + 1 : Nat) : Int) from blk_set h1 0 _)
      have HG2 := Aside0.mk (gb_trans (gb_trans HGr.out (gb_setAt wr p 0 (.int .i64 (s.size : Int)))) (gb_setAt _ p 0 (.int .i64 ((s.size : Int) + 1))))
      have hii : i = s.size ∨ i = s.size + 1 := by omega
      clear hEi hlt hi1 HF HG hGG h1 HE
      subst hFi
      rcases hii with rfl | hii
      · have m1 : ¬ ((s.size : Int) < (s.size : Int)) := by omega
        go_wp2
        first | exact ⟨by simp, HN2.out, HG2.out⟩ | (go_ret; exact ⟨by first | rfl | simp, HN2.out, HG2.out⟩)
      · have m1 : (s.size : Int) < (i : Int) := by omega
        have m2 : s.size < i := by omega
        clear hii
        go_wp2
        first | exact ⟨by simp, HN2.out, HG2.out⟩ | (go_ret; exact ⟨by first | rfl | simp, HN2.out, HG2.out⟩)
theorem fields_len (s : ByteArray) : ∀ k a, a ≤ s.size → (fields s k a).length + a ≤ s.size + 1
  | 0, a, h => by simp [fields]; omega
  | k + 1, a, h => by
    unfold fields
    have h1 := fieldE_ge s a h
    rw [List.length_cons]
    split
    · rename_i h2
      have := fields_len s k (fieldE s a + 1) h2
      omega
    · simp only [List.length_nil]; omega
theorem str_lit (W : World) (base : Nat) (s : ByteArray) (hb : base ≤ W.heap.size) : Kd.R Kd.string 9 (W.alloc (.cells #[.string s] 9)) base (fun _ => True) (.slice (some ⟨W.heap.size, 0, none⟩) 1 1) [s] :=
  Kd.R_of_own (by
    have h2 := World.ownsRow_lit (base := base) (e := 9) (size := 1) W #[.string s] 1 hb (by simp [maxLen]) (by simp)
    simpa [encs] using h2) (fun _ _ => trivial)
set_option maxHeartbeats 8000000 in
set_option maxRecDepth 100000 in
theorem split_calls (s : ByteArray) (hs : s.size ≤ 4398046511104) (w : World) :
    Calls Tryz.prog 22 #[.string s] w fun e w' => ∃ v, e = .returned v ∧ Kd.R Kd.string 9 w' w.heap.size (fun _ => True) v (fields s (s.size + 1) 0) ∧ Below w.heap.size w w' := by
  have mk := mkf
  obtain ⟨E0, hE0⟩ : ∃ E0, fieldE s 0 = E0 := ⟨_, rfl⟩
  have hE0le : E0 ≤ s.size := by rw [← hE0]; exact fieldE_le s 0
  have hfl := fields_len s (s.size + 1) 0 (Nat.zero_le _)
  have hL : fields s (s.size + 1) 0 = s.extract 0 E0 :: (if E0 + 1 ≤ s.size then fields s s.size (E0 + 1) else []) := by
    conv => lhs; unfold fields
    rw [hE0]
  obtain ⟨L, hLL⟩ : ∃ L, fields s (s.size + 1) 0 = L := ⟨_, rfl⟩
  rw [hLL] at hL hfl ⊢
  have HL := Aside0.mk hL
  have HFL := Aside0.mk hfl
  have hq0 : SBox (w.alloc (.cells #[.string s] 9)) w.heap.size s := blk_new w _
  have hcall : ∀ W, NBox W (w.heap.size + 1) 0 → SBox W w.heap.size s → Calls Tryz.prog 37 #[.pointer (some ⟨w.heap.size + 1, 0, none⟩), .pointer (some ⟨w.heap.size, 0, none⟩)] W fun e w' => e = .returned (.string (s.extract 0 E0)) ∧ NBox w' (w.heap.size + 1) (E0 + 1 : Nat) ∧ W.grownBy w' (some (w.heap.size + 1)) := fun W h1 h2 => by
    have := next_calls s (by omega) 0 (Nat.zero_le _) (w.heap.size + 1) w.heap.size (by omega) W h1 h2
    rw [hE0] at this
    exact this
  clear hL hLL hE0 hfl
  go_enter Tryz.func22, Tryz.ntmps22
  have hz2 : ((w.alloc (.cells #[.string s] 9)).alloc (.cells #[.int .i64 0] 3)).heap.size = w.heap.size + 2 := by simp
  have hB2 : Below w.heap.size w ((w.alloc (.cells #[.string s] 9)).alloc (.cells #[.int .i64 0] 3)) := below_alloc (below_alloc (Below.refl _ _) _) _
  have hP2 : NBox ((w.alloc (.cells #[.string s] 9)).alloc (.cells #[.int .i64 0] 3)) (w.heap.size + 1) 0 := by
    have := blk_new (w.alloc (.cells #[.string s] 9)) (.cells #[.int .i64 0] 3)
    rw [World.size_alloc] at this
    exact this
  have hQ2 : SBox ((w.alloc (.cells #[.string s] 9)).alloc (.cells #[.int .i64 0] 3)) w.heap.size s := blk_alloc hq0 _
  have HC := Aside0.mk (hcall _ hP2 hQ2)
  have HB2 := Aside0.mk hB2
  have HQ2 := Aside0.mk hQ2
  have HZ2 := Aside0.mk hz2
  clear hq0 hcall hz2 hB2 hP2 hQ2
  go_wp2_with fail
  refine HC.out.mono ?_
  rintro e w1 ⟨rfl, hn1, hg1⟩
  have HN1 := Aside0.mk hn1
  have HG1 := Aside0.mk hg1
  have HQ1 := Aside0.mk (show SBox w1 w.heap.size s from blk_grown HQ2.out hg1 (fun e => by injection e with e; omega))
  have HB1 := Aside0.mk (Below.grown HB2.out hg1 (by have := HZ2.out; omega) (fun k e => by injection e with e; omega))
  have HZ1 := Aside0.mk (show w.heap.size + 2 ≤ w1.heap.size by have h1 := hg1.size; have h2 := HZ2.out; omega)
  clear hn1 hg1 HC HB2 HQ2 HZ2
  go_wp2
  have hR := str_lit w1 (w.heap.size + 2) (s.extract 0 E0) HZ1.out
  have HR := Aside0.mk hR
  have HNa := Aside0.mk (show NBox (w1.alloc (.cells #[.string (s.extract 0 E0)] 9)) (w.heap.size + 1) (E0 + 1 : Nat) from blk_alloc HN1.out _)
  have HQa := Aside0.mk (show SBox (w1.alloc (.cells #[.string (s.extract 0 E0)] 9)) w.heap.size s from blk_alloc HQ1.out _)
  have HBa := Aside0.mk (below_alloc HB1.out (.cells #[.string (s.extract 0 E0)] 9))
  have HZa := Aside0.mk (show w.heap.size + 2 ≤ (w1.alloc (.cells #[.string (s.extract 0 E0)] 9)).heap.size by rw [World.size_alloc]; have := HZ1.out; omega)
  clear hR HN1 HG1 HQ1 HB1 HZ1
  go_loopg [5] s.size (fun kq v5 wr => ∃ (at_ : Nat) (xs : List ByteArray), Aside0 (xs ++ (if at_ ≤ s.size then fields s kq at_ else []) = L) ∧ Aside0 (s.size < at_ + kq) ∧ Aside0 (at_ ≤ s.size + 1) ∧ Aside0 (NBox wr (w.heap.size + 1) at_) ∧ Aside0 (SBox wr w.heap.size s) ∧ Aside0 (Kd.R Kd.string 9 wr (w.heap.size + 2) (fun _ => True) v5 xs) ∧ Aside0 (Below w.heap.size w wr) ∧ Aside0 (w.heap.size + 2 ≤ wr.heap.size))
  case atStart => exact ⟨E0 + 1, [s.extract 0 E0], ⟨HL.out.symm⟩, ⟨by omega⟩, ⟨by omega⟩, HNa, HQa, HR, HBa, HZa⟩
  case round =>
    clear HNa HQa HR HBa HZa
    obtain ⟨i, xs, HX, HK, HI, HN, HQ, HO, HB, HZ⟩ := hrel
    have cp : wr.cell? ⟨w.heap.size + 1, 0, none⟩ = some (.int .i64 i) := (blk_cell HN.out 0).trans rfl
    have cq : wr.cell? ⟨w.heap.size, 0, none⟩ = some (.string s) := (blk_cell HQ.out 0).trans rfl
    by_cases hlt : i ≤ s.size
    · cases gk with
      | zero => exact absurd HK.out (by omega)
      | succ k1 =>
      have d1 : decide ((i : Int) ≤ (s.size : Int)) = true := decide_eq_true (by omega)
      have d2 : decide (i ≤ s.size) = true := decide_eq_true hlt
      obtain ⟨F, hF⟩ : ∃ F, fieldE s i = F := ⟨_, rfl⟩
      have hge := fieldE_ge s i hlt
      have hle := fieldE_le s i
      have hx := HX.out
      rw [if_pos hlt] at hx
      unfold fields at hx
      rw [hF] at hx hge hle
      have hcall := next_calls s (by omega) i hlt (w.heap.size + 1) w.heap.size (by omega) wr HN.out HQ.out
      rw [hF] at hcall
      have HX2 : Aside0 ((xs ++ [s.extract i F]) ++ (if F + 1 ≤ s.size then fields s k1 (F + 1) else []) = L) := ⟨by rw [List.append_assoc]; exact hx⟩
      have HXL : Aside0 ((xs.length + 1) * 16 ≤ 140737488355328) := ⟨by
        have h1 := HFL.out
        rw [← HX2.out] at h1
        simp only [List.length_append, List.length_cons, List.length_nil] at h1
        omega⟩
      have HGE := Aside0.mk (And.intro hge hle)
      clear hx HX hge hle hF hlt
      go_wp2_with (first
        | (go_at_call 37; refine hcall.mono ?_; rintro e w2 ⟨rfl, hn2, hg2⟩; have HN2 := Aside0.mk hn2; have HQ2 := Aside0.mk (show SBox w2 w.heap.size s from blk_grown HQ.out hg2 (fun e => by injection e with e; omega)); have HB2 := Aside0.mk (Below.grown HB.out hg2 HB.out.size (fun k e => by injection e with e; omega)); have HO2 := Aside0.mk (R_past HO.out hg2 (by omega)); have HZ2 := Aside0.mk (show w.heap.size + 2 ≤ w2.heap.size by have h1 := hg2.size; have h2 := HZ.out; omega); clear hn2 hg2 hcall)
        | ((with_reducible refine gate_builtin (b := .append) (xs := #[.tmp 14, .tmp 17]) rfl ?_); (try (refine gate_guard (by rfl) ?_; dsimp only)); at_builtin; refine Kd.R_append Kd.string (w0 := w2) (w.heap.size + 2) rfl (.tmp 14) (.tmp 17) 45 9 (.string ⟨#[]⟩) 16 rfl Tryz.underlying45 info9 rfl (by decide) (by omega) u5 xs (s.extract i F) [.string (s.extract i F)] (fun _ => True) (fun _ => False) rfl rfl ?aP (fun _ hk => hk.elim) ?aF ?aO ?aB ?aS ?aL ?_; (case aP => exact rfl); (case aB => exact (Below.refl _ _)); (case aF => exact (fun _ _ => trivial)); (case aO => exact HO2.out); (case aS => exact HZ2.out); (case aL => have := HXL.out; omega); intro v3 w3 ho hb hg hat; have HO3 := Aside0.mk ho; have hbase := Kd.R_base HO2.out; have HN3 := Aside0.mk (show NBox w3 (w.heap.size + 1) (F + 1 : Nat) from blk_grown HN2.out hg (fun e => by have := hbase _ e.symm; omega)); have HQ3 := Aside0.mk (show SBox w3 w.heap.size s from blk_grown HQ2.out hg (fun e => by have := hbase _ e.symm; omega)); have HB3 := Aside0.mk (Below.grown HB2.out hg HB2.out.size (fun k e => by have := hbase k e; omega)); have HZ3 := Aside0.mk (show w.heap.size + 2 ≤ w3.heap.size by have h1 := hg.size; have h2 := HZ2.out; omega); clear ho hb hg hat hbase))
      go_roundg k1
      case measure => omega
      case rel => exact ⟨F + 1, xs ++ [s.extract i F], HX2, ⟨by have h1 := HK.out; have h2 := HGE.out; omega⟩, ⟨by have := HGE.out; omega⟩, HN3, HQ3, HO3, HB3, HZ3⟩
    · have d1 : decide ((i : Int) ≤ (s.size : Int)) = false := decide_eq_false (by omega)
      have d2 : decide (i ≤ s.size) = false := decide_eq_false hlt
      have hx := HX.out
      rw [if_neg hlt, List.append_nil] at hx
      subst hx
      clear HX hlt
      go_wp2
      first | exact ⟨_, rfl, Kd.R_lower HO.out (by omega), HB.out⟩ | (go_ret; exact ⟨_, rfl, Kd.R_lower HO.out (by omega), HB.out⟩)
end Go.Proofs.YtnjlgeenhmamjaaGreatDoor.Q
