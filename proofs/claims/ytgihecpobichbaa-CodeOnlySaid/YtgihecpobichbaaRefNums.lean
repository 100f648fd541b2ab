/- headgateref04.Nums: walked: the bytes of so many ints. -/
import Derived.Test.YtgihecpobichbaaBytesOwn
import Derived.Test.YtgihecpobichbaaVar
import Derived.Test.YtgihecpobichbaaHCode
namespace Go.Proofs.Ytgihecpobichbaa.Q
open Go.RowKit Go.Proofs.YtgihecpobichbaaW.PrintWords Go.Proofs.YtgihecpobichbaaW.PrintLast Go.Proofs.YtgihecpobichbaaW.PrintMore
set_option linter.unusedVariables false
set_option linter.unusedSimpArgs false

theorem refInt_zig {n : Int} (h : in64 n) : headgateref04_Int.f n = some (zig n) := by
  unfold in64 at h
  unfold headgateref04_Int.f zig
  simp only [wrapu]
  by_cases hn : n < 0
  · rw [if_pos hn, if_pos hn, wrap_in (x := n + 1) (by unfold in64; omega), wrap_in (x := -(n + 1)) (by unfold in64; omega)]
    congr 1
    omega
  · rw [if_neg hn, if_neg hn]
    congr 1
    omega
theorem refNum_of {n : Int} (h0 : 0 ≤ n) (h1 : n < 18446744073709551616) : headgateref04_Num.f 10 n = some (strOfNums (numR 9 n)) :=
  ref_Num_eq 9 0 n h0 h1 (by have : (128 : Int) ^ 10 = 1180591620717411303424 := by decide
                             omega) (by omega)
/-- The numbers' bytes, one behind the other. -/
def numsB : List Int → List Int
  | [] => []
  | n :: l => numR 9 (zig n) ++ numsB l
theorem numsB_append : ∀ (a b : List Int), numsB (a ++ b) = numsB a ++ numsB b
  | [], b => rfl
  | n :: a, b => by
    show numR 9 (zig n) ++ numsB (a ++ b) = numR 9 (zig n) ++ numsB a ++ numsB b
    rw [numsB_append a b, List.append_assoc]
theorem numsB_len : ∀ (l : List Int), (numsB l).length ≤ 10 * l.length
  | [] => by simp [numsB]
  | n :: l => by
    have h1 := numR_len 9 (zig n)
    have h2 := numsB_len l
    simp only [numsB, List.length_append, List.length_cons]
    omega
def numsAll (l : List Int) : List Int := numR 9 (l.length : Int) ++ numsB l
def refNums (l : List Int) : ByteArray × Int := if (numsAll l).length > 16777216 then (⟨#[]⟩, 42) else (strOfNums (numsAll l), 0)
set_option maxHeartbeats 4000000 in
set_option maxRecDepth 100000 in
theorem refNums_walk (A : Option Addr) (c : Nat) (l : List Int) (hl : l.length ≤ 1000000) (hin : ∀ x ∈ l, in64 x) (w : World) (hr : Kd.C (Kd.int .i64) w A l.length l) (hc : l.length ≤ c) :
    Calls Try.prog 28 #[.slice A l.length c] w fun e w' => e = .returned (.tuple #[.string (refNums l).1, .int .i64 (refNums l).2]) ∧ Below w.heap.size w w' := by
  have HR := Aside0.mk hr
  have HIN := Aside0.mk hin
  have hN := refNum_of (n := (l.length : Int)) (by omega) (by omega)
  have hS := bytes_strNums (numR_bytes 9 (l.length : Int) (by omega))
  have hlen1 := numR_len 9 (l.length : Int)
  obtain ⟨s0, hs0⟩ : ∃ s0, s0 = strOfNums (numR 9 (l.length : Int)) := ⟨_, rfl⟩
  rw [← hs0] at hN hS
  have hsz : s0.size ≤ 10 := by rw [← bytesOf_length, hS]; exact hlen1
  obtain ⟨R, hRR⟩ : ∃ R : ByteArray × Int, R = refNums l := ⟨_, rfl⟩
  rw [← hRR]
  have HS := Aside0.mk hS
  have HRR := Aside0.mk hRR
  have kb := fun W => print_bytes (P := Try.prog) 9 27 5 Try.underlying9 Try.underlying27 Try.underlying5 s0 W
  have hlw : IntKind.u64.wrap (l.length : Int) = (l.length : Int) := by rw [wrapu]; omega
  clear hr hin hs0 hS hRR
  go_enter Try.func28, Try.ntmps28
  go_wp2_with (go_at_call 16; (try rw [hlw]); refine (headgateref04_Num.calls 10 (l.length : Int) s0 _ hN).mono ?_; rintro e w1 ⟨rfl, hb1⟩; have HO := Aside0.mk (ownB_bytes w1 w.heap.size 5 s0 hb1.size (by simp only [maxLen]; omega)); have HB := Aside0.mk (bytes_below hb1 hb1.size 5 s0); have HZ := Aside0.mk (show w.heap.size ≤ (Lib.bytesWorld w1 5 s0).heap.size by rw [Lib.bytesWorld_size]; have := hb1.size; omega); clear hb1)
  go_loopg [4, 5] l.length (fun kq v4 v5 wr => ∃ (i : Nat), v5 = .int .i64 i ∧ Aside0 (i + kq = l.length) ∧ Aside0 (OwnB wr w.heap.size 5 v4 (numR 9 (l.length : Int) ++ numsB (l.take i))) ∧ Aside0 (Below w.heap.size w wr) ∧ Aside0 (w.heap.size ≤ wr.heap.size))
  case atStart => exact ⟨0, rfl, ⟨by omega⟩, ⟨by have h := HO.out; rw [HS.out] at h; simpa [numsB] using h⟩, HB, HZ⟩
  case round =>
    clear HO HB HZ HS
    obtain ⟨i, rfl, HI, HO, HB, HZ⟩ := hrel
    cases gk with
    | zero =>
      have hi : i = l.length := HI.out
      have hlb : decide ((i : Int) < (l.length : Int)) = false := decide_eq_false (by omega)
      have hlb2 : decide (i < l.length) = false := decide_eq_false (by omega)
      have hO : OwnB wr w.heap.size 5 u4 (numsAll l) := by
        have h := HO.out
        rwa [hi, List.take_length] at h
      obtain ⟨A4, c4, rfl⟩ := hO.slice
      have hcv := hO.string (P := Try.prog) Try.underlying27 Try.underlying5 Try.underlying9
      obtain ⟨bs, hbs⟩ : ∃ bs, bs = numsAll l := ⟨_, rfl⟩
      have hR := HRR.out
      unfold refNums at hR
      rw [← hbs] at hO hcv hR ⊢
      clear hbs hi
      by_cases hbig : bs.length > 16777216
      · rw [if_pos hbig] at hR
        subst hR
        have hb1 : decide (16777216 < (bs.length : Int)) = true := decide_eq_true (by omega)
        have hb2 : decide (16777216 < bs.length) = true := decide_eq_true (by omega)
        clear hO HO hbig
        go_wp2
        go_ret2
        first | exact ⟨rfl, HB.out⟩ | exact HB.out
      · rw [if_neg hbig] at hR
        subst hR
        have hb1 : decide (16777216 < (bs.length : Int)) = false := decide_eq_false (by omega)
        have hb2 : decide (16777216 < bs.length) = false := decide_eq_false (by omega)
        clear hO HO hbig
        go_wp2
        go_ret2
        first | exact ⟨rfl, HB.out⟩ | exact HB.out
    | succ k1 =>
      have hlt : i < l.length := by have := HI.out; omega
      have hlb : decide ((i : Int) < (l.length : Int)) = true := decide_eq_true (by omega)
      have hlb2 : decide (i < l.length) = true := decide_eq_true hlt
      obtain ⟨ad, rfl, hcell⟩ := Kd.at_int (Kd.C_below HR.out HB.out) (i : Int) (by omega) (by omega)
      obtain ⟨n, hn⟩ : ∃ n, rd l (i : Int) = n := ⟨_, rfl⟩
      have hx : in64 n := by rw [← hn]; exact HIN.out _ (rd_mem l (i : Int) (by omega) (by omega))
      have htk : l.take (i + 1) = l.take i ++ [n] := by
        rw [List.take_add_one, List.getElem?_eq_getElem hlt, ← hn]
        unfold rd
        simp [List.getD_eq_getElem?_getD, List.getElem?_eq_getElem hlt]
      have hz := zig_range hx
      have hI := refInt_zig hx
      have hM := refNum_of hz.1 hz.2
      have hB := bytes_strNums (numR_bytes 9 (zig n) hz.1)
      have hln := numR_len 9 (zig n)
      have hln2 := numsB_len (l.take i)
      have hln3 : (l.take i).length ≤ i := List.length_take_le _ _
      obtain ⟨s1, hs1⟩ : ∃ s1, s1 = strOfNums (numR 9 (zig n)) := ⟨_, rfl⟩
      rw [← hs1] at hM hB
      have hsz1 : s1.size ≤ 10 := by rw [← bytesOf_length, hB]; exact hln
      have hn2 : numR 9 (l.length : Int) ++ numsB (l.take i) ++ bytesOf s1 = numR 9 (l.length : Int) ++ numsB (l.take (i + 1)) := by
        rw [hB, htk, numsB_append, List.append_assoc]
        simp [numsB]
      have HN2 := Aside0.mk hn2
      have HL2 := Aside0.mk (show (numR 9 (l.length : Int) ++ numsB (l.take i)).length + s1.size ≤ 140737488355328 by rw [List.length_append]; omega)
      rw [hn, Int.toNat_natCast] at hcell
      obtain ⟨z, hz'⟩ : ∃ z, z = zig n := ⟨_, rfl⟩
      rw [← hz'] at hI hM
      clear hn2 htk hB hln hln2 hln3 hs1 hz hz' hsz1
      go_wp2_with (first
        | (go_at_call 73; refine (headgateref04_Int.calls n z _ hI).mono ?_; rintro e w2 ⟨rfl, hd2⟩; have HO2 : Aside0 (OwnB w2 w.heap.size 5 u4 (numR 9 (l.length : Int) ++ numsB (l.take i))) := ⟨HO.out.kept (dr_below hd2 _)⟩; have HB2 := Aside0.mk (HB.out.trans (dr_below hd2 _)); clear hd2)
        | (go_at_call 16; refine (headgateref04_Num.calls 10 z s1 _ hM).mono ?_; rintro e w3 ⟨rfl, hb3⟩; have HO3 : Aside0 (OwnB w3 w.heap.size 5 u4 (numR 9 (l.length : Int) ++ numsB (l.take i))) := ⟨HO2.out.kept hb3⟩; have HB3 := Aside0.mk (below_step HB2.out hb3); have HZ3 := Aside0.mk (show w.heap.size ≤ w3.heap.size from HB3.out.size); clear hb3)
        | ((with_reducible refine gate_builtin (b := .append) (xs := #[.tmp 17, .tmp 23]) rfl ?_); (try (refine gate_guard (by rfl) ?_; dsimp only)); at_builtin; refine wp_append_ownB w w3 w.heap.size rfl (.tmp 17) (.tmp 23) 27 9 5 rfl Try.underlying27 Try.underlying9 info5 u4 _ rfl HO3.out s1 rfl HL2.out HB3.out HZ3.out ?_; intro v' w4 ho hb hz; have HO4 := Aside0.mk (HN2.out ▸ ho); have HB4 := Aside0.mk hb; have HZ4 := Aside0.mk hz; clear ho hb hz))
      go_roundg k1
      case measure => omega
      case rel => exact ⟨i + 1, by congr 1, ⟨by have := HI.out; omega⟩, HO4, HB4, HZ4⟩
def headgateref04_Nums.f (k : Nat) (l0 : List Int) : Option (ByteArray × Int) := if l0.length ≤ 1000000 ∧ ∀ x ∈ l0, in64 x then some (refNums l0) else none
theorem headgateref04_Nums.mono : ∀ a0 k, LeO (headgateref04_Nums.f k a0) (headgateref04_Nums.f (k + 1) a0) := fun a0 k => LeO.refl _
theorem headgateref04_Nums.calls (k : Nat) (A0 : Option Addr) (c0 : Nat) (l0 : List Int) (r1 : ByteArray) (r2 : Int) (w : World) (hr0 : Kd.C (Kd.int .i64) w A0 l0.length l0) (hc0 : l0.length ≤ c0) (h : headgateref04_Nums.f k l0 = some (r1, r2)) :
    Calls Try.prog 28 #[.slice A0 l0.length c0] w fun e w' => e = .returned (.tuple #[.string r1, .int .i64 r2]) ∧ Below w.heap.size w w' := by
  unfold headgateref04_Nums.f at h
  split at h
  · rename_i hl
    have h2 := refNums_walk A0 c0 l0 hl.1 hl.2 w hr0 hc0
    rw [Option.some.inj h] at h2
    exact h2
  · cases h
end Go.Proofs.Ytgihecpobichbaa.Q
