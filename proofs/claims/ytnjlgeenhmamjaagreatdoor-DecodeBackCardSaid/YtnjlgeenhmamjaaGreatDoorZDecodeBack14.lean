/- headgatelaw12's alive: walked. -/
import Derived.Test.YtnjlgeenhmamjaaGreatDoorZDecodeBack13
import Derived.Lib.SlBytesConst
namespace Go.Proofs.YtnjlgeenhmamjaaGreatDoor.Q
open Go.RowKit Go.Proofs.YtnjlgeenhmamjaaGreatDoorW.PrintWords Go.Proofs.YtnjlgeenhmamjaaGreatDoorW.PrintLast Go.Proofs.YtnjlgeenhmamjaaGreatDoorW.PrintMore
set_option linter.unusedVariables false
set_option linter.unusedSimpArgs false
/-- The same, with what reading digit by digit says. -/
def saysO2 (pl : Option ByteArray) (kind : Int) (s : ByteArray) : Option Va :=
  if s = ⟨#[92, 78]⟩ then some ⟨0, 0, ⟨#[]⟩⟩
  else if kind = 1 then (numL s.data.toList).map (fun n => ⟨1, n, ⟨#[]⟩⟩)
  else if kind = 2 then (if s = ⟨#[116, 114, 117, 101]⟩ then some ⟨2, 1, ⟨#[]⟩⟩ else if s = ⟨#[102, 97, 108, 115, 101]⟩ then some ⟨2, 0, ⟨#[]⟩⟩ else none)
  else pl.map (fun t => ⟨3, 0, t⟩)
theorem saysO_eq (pl : Option ByteArray) (kind : Int) (s : ByteArray) : saysO pl kind s = saysO2 pl kind s := by
  unfold saysO saysO2
  rw [says_num]
def valsO2 (PL : ByteArray → Option ByteArray) : List Co → List ByteArray → Option (List Va)
  | c :: cs, s :: fs => match saysO2 (PL s) c.f1 s with
    | none => none
    | some v => (valsO2 PL cs fs).map (v :: ·)
  | _, _ => some []
theorem valsO_eq (PL : ByteArray → Option ByteArray) : ∀ (l : List Co) (fs : List ByteArray), valsO PL l fs = valsO2 PL l fs
  | c :: cs, s :: fs => by unfold valsO valsO2; rw [saysO_eq, valsO_eq PL cs fs]; rfl
  | [], _ => rfl
  | _ :: _, [] => rfl
def rowR2 (r : Int) (l : List Co) (s : ByteArray) : List Va × Int :=
  if r ≠ 0 then ([], r)
  else if (fields s (s.size + 1) 0).length ≠ l.length then ([], 121)
  else match valsO2 plO l (fields s (s.size + 1) 0) with
    | none => ([], 122)
    | some vs => (vs, 0)
theorem rowR_eq (r : Int) (l : List Co) (s : ByteArray) : rowR plO r l s = rowR2 r l s := by
  unfold rowR rowR2
  rw [valsO_eq]
  rfl
def colsA : List Co := [⟨⟨#[97]⟩, 1⟩, ⟨⟨#[98]⟩, 3⟩]
def recA : ByteArray := ⟨#[45, 55, 44, 120, 92, 44, 121]⟩
def recB : ByteArray := ⟨#[48, 55, 44, 120]⟩
theorem rightA : rightS colsA = true := by kernel_rfl
theorem rowA : rowR2 0 colsA recA = ([⟨1, -7, ⟨#[]⟩⟩, ⟨3, 0, ⟨#[120, 44, 121]⟩⟩], 0) := by kernel_rfl
theorem rowB : rowR2 0 colsA recB = ([], 122) := by kernel_rfl
/-- decode.Row at right columns. -/
theorem row_at (A : Option Addr) (c : Nat) (l : List Co) (hl : l.length ≤ 140737488355328) (hn : ∀ c ∈ l, c.f0.size ≤ 140737488355328) (B : Option Addr) (d : Nat) (s : ByteArray) (hs : s.size ≤ 8000) (w : World) (hG : Glob w)
    (hC : Kd.C k39 w A l.length l) (hc : l.length ≤ c) (hB : Kd.C (Kd.int .u8) w B (bytesOf s).length (bytesOf s)) :
    Calls Tryz.prog 10 #[.slice A l.length c, .slice B s.size d] w (RowPost (rowR2 (if rightS l = true then 0 else 120) l s) w) := by
  obtain ⟨K, hK⟩ := (check_ev l hl hn).get
  rw [← rowR_eq]
  exact row_walk plO plain_ev K A c l _ hK B d s hs w hG hC hc hB
theorem lit_bytes (w : World) (g : Nat) (s : ByteArray) (e : TypeId) (fz : Nat × Nat) (hs : s.size ≤ 9223372036854775807) (h : w.heap[g]? = some (.cells ((bytesOf s).map (Value.int .u8)).toArray e fz)) : Kd.C (Kd.int .u8) w (some ⟨g, 0, none⟩) (bytesOf s).length (bytesOf s) := by
  refine Kd.C_of_reads (enc := Value.int .u8) (d := (0 : Int)) (h1 := fun _ => rfl) ⟨rfl, by rw [bytesOf_length]; exact hs, fun _ => ⟨_, rfl, fun j hj => ?_⟩⟩
  rw [add_plain]
  refine (cell_of_row w g j _ e fz h).trans ?_
  rw [List.getElem?_toArray, List.getElem?_map, List.getElem?_eq_getElem hj, List.getD_eq_getElem?_getD, List.getElem?_eq_getElem hj]
  rfl
theorem lit_cols (w : World) (g : Nat) (h : w.heap[g]? = some (.cells #[.string ⟨#[97]⟩, .int .i64 1, .string ⟨#[98]⟩, .int .i64 3] 39 (0, 0))) : Kd.C k39 w (some ⟨g, 0, none⟩) colsA.length colsA := by
  refine ⟨rfl, by decide, fun _ => ⟨⟨g, 0, none⟩, rfl, fun j p hj => ?_⟩⟩
  have hc : ∀ i, w.cell? ⟨g, i, none⟩ = (#[Value.string ⟨#[97]⟩, .int .i64 1, .string ⟨#[98]⟩, .int .i64 3] : Array Value)[i]? := fun i => blk_cell h i
  match j, hj with
  | 0, hj =>
    obtain rfl : (⟨⟨#[97]⟩, 1⟩ : Co) = p := Option.some.inj hj
    refine ⟨[.string ⟨#[97]⟩, .int .i64 1], rfl, k39_mk w ⟨⟨#[97]⟩, 1⟩, fun i u hu => ?_⟩
    rw [add_plain, hc]
    match i, hu with
    | 0, hu => exact hu
    | 1, hu => exact hu
  | 1, hj =>
    obtain rfl : (⟨⟨#[98]⟩, 3⟩ : Co) = p := Option.some.inj hj
    refine ⟨[.string ⟨#[98]⟩, .int .i64 3], rfl, k39_mk w ⟨⟨#[98]⟩, 3⟩, fun i u hu => ?_⟩
    rw [add_plain, hc]
    match i, hu with
    | 0, hu => exact hu
    | 1, hu => exact hu
set_option maxHeartbeats 8000000 in
set_option maxRecDepth 100000 in
theorem alive_calls (w : World) (hG : Glob w) :
    Calls Tryz.prog 5 #[] w fun e w' => e = .returned (.bool true) ∧ Below w.heap.size w w' := by
  have HG := Aside0.mk hG
  have hA : ∀ (g h : Nat) W, Below w.heap.size w W → W.heap[g]? = some (.cells #[.string ⟨#[97]⟩, .int .i64 1, .string ⟨#[98]⟩, .int .i64 3] 39 (0, 0)) → W.heap[h]? = some (.cells #[.int .u8 45, .int .u8 55, .int .u8 44, .int .u8 120, .int .u8 92, .int .u8 44, .int .u8 121] 5 (7, 8)) →
      Calls Tryz.prog 10 #[.slice (some ⟨g, 0, none⟩) 2 2, .slice (some ⟨h, 0, none⟩) 7 7] W (RowPost ([⟨1, -7, ⟨#[]⟩⟩, ⟨3, 0, ⟨#[120, 44, 121]⟩⟩], 0) W) := fun g h W hb h1 h2 => by
    have := row_at (some ⟨g, 0, none⟩) 2 colsA (by decide) (by decide) (some ⟨h, 0, none⟩) 7 recA (by decide) W (hG.below hb) (lit_cols W g h1) (by decide) (lit_bytes W h recA 5 (7, 8) (by decide) h2)
    rw [rightA, if_pos rfl, rowA] at this
    exact this
  have hB : ∀ (g h : Nat) W, Below w.heap.size w W → W.heap[g]? = some (.cells #[.string ⟨#[97]⟩, .int .i64 1, .string ⟨#[98]⟩, .int .i64 3] 39 (0, 0)) → W.heap[h]? = some (.cells #[.int .u8 48, .int .u8 55, .int .u8 44, .int .u8 120] 5 (4, 5)) →
      Calls Tryz.prog 10 #[.slice (some ⟨g, 0, none⟩) 2 2, .slice (some ⟨h, 0, none⟩) 4 4] W (RowPost ([], 122) W) := fun g h W hb h1 h2 => by
    have := row_at (some ⟨g, 0, none⟩) 2 colsA (by decide) (by decide) (some ⟨h, 0, none⟩) 4 recB (by decide) W (hG.below hb) (lit_cols W g h1) (by decide) (lit_bytes W h recB 5 (4, 5) (by decide) h2)
    rw [rightA, if_pos rfl, rowB] at this
    exact this
  have HA := Aside0.mk hA
  have HBB := Aside0.mk hB
  clear hA hB hG
  go_enter Tryz.func5, Tryz.ntmps5
  go_upto_region 2 with (fail)
  have hW1 := below_alloc (Below.refl w.heap.size w) (.cells #[.string ⟨#[97]⟩, .int .i64 1, .string ⟨#[98]⟩, .int .i64 3] 39)
  have hW2 := below_alloc hW1 (.cells #[.int .u8 45, .int .u8 55, .int .u8 44, .int .u8 120, .int .u8 92, .int .u8 44, .int .u8 121] 5 (7, 8))
  have hz1 : (w.alloc (.cells #[.string ⟨#[97]⟩, .int .i64 1, .string ⟨#[98]⟩, .int .i64 3] 39)).heap.size = w.heap.size + 1 := by simp
  have h1 := blk_alloc (blk_new w (.cells #[.string ⟨#[97]⟩, .int .i64 1, .string ⟨#[98]⟩, .int .i64 3] 39)) (.cells #[.int .u8 45, .int .u8 55, .int .u8 44, .int .u8 120, .int .u8 92, .int .u8 44, .int .u8 121] 5 (7, 8))
  have h2 := blk_new (w.alloc (.cells #[.string ⟨#[97]⟩, .int .i64 1, .string ⟨#[98]⟩, .int .i64 3] 39)) (.cells #[.int .u8 45, .int .u8 55, .int .u8 44, .int .u8 120, .int .u8 92, .int .u8 44, .int .u8 121] 5 (7, 8))
  have cv1 := Lib.run_convert_bytes_const (P := Tryz.prog) (w.alloc (.cells #[.string ⟨#[97]⟩, .int .i64 1, .string ⟨#[98]⟩, .int .i64 3] 39)) 27 5 #[.int .u8 45, .int .u8 55, .int .u8 44, .int .u8 120, .int .u8 92, .int .u8 44, .int .u8 121] 7 7 Tryz.underlying27 Tryz.underlying5
  rw [hz1] at h2 cv1
  have hcall := HA.out _ _ _ hW2 h1 h2
  have HW2 := Aside0.mk hW2
  have H1 := Aside0.mk h1
  clear hW1 hW2 hz1 h1 h2
  go_upto_region 3 with (go_at_call 10; refine hcall.mono ?_; rintro e w1 ⟨A1, c1, rfl, hC1, hc1, hb1⟩; have HB1 := Aside0.mk (below_step HW2.out hb1); have HC1 := Aside0.mk hC1; have H2 := Aside0.mk (blk_below H1.out hb1); clear hb1 hC1 hcall)
  have hb2 := below_alloc HB1.out (.cells #[.int .u8 48, .int .u8 55, .int .u8 44, .int .u8 120] 5 (4, 5))
  have k1 := blk_alloc H2.out (.cells #[.int .u8 48, .int .u8 55, .int .u8 44, .int .u8 120] 5 (4, 5))
  have k2 := blk_new w1 (.cells #[.int .u8 48, .int .u8 55, .int .u8 44, .int .u8 120] 5 (4, 5))
  have cv2 := Lib.run_convert_bytes_const (P := Tryz.prog) w1 27 5 #[.int .u8 48, .int .u8 55, .int .u8 44, .int .u8 120] 4 4 Tryz.underlying27 Tryz.underlying5
  have hcall := HBB.out _ _ _ hb2 k1 k2
  have HB2 := Aside0.mk hb2
  have HC2 := Aside0.mk (Kd.C_below HC1.out (below_alloc (Below.refl w1.heap.size w1) (.cells #[.int .u8 48, .int .u8 55, .int .u8 44, .int .u8 120] 5 (4, 5))))
  clear hb2 k1 k2 cv1
  go_upto_region 4 with (go_at_call 10; refine hcall.mono ?_; rintro e w3 ⟨A3, c3, rfl, hC3, hc3, hb3⟩; have HB3 := Aside0.mk (below_step HB2.out hb3); have HC3 := Aside0.mk (Kd.C_below HC2.out hb3); clear hb3 hC3 hcall)
  obtain ⟨ad, rfl, x0, x1, x2⟩ := at_T41 HC3.out 0 (by decide) (by decide)
  obtain ⟨ad', e', y0, y1, y2⟩ := at_T41 HC3.out 1 (by decide) (by decide)
  injection e' with e'
  subst e'
  have x1' : w3.cell? ⟨ad.block, ad.off + 1, none⟩ = some (.int .i64 (-7)) := x1
  have y2' : w3.cell? ⟨ad.block, ad.off + 3 + 2, none⟩ = some (.string ⟨#[120, 44, 121]⟩) := y2
  clear cv2 x0 x1 x2 y0 y1 y2
  go_wp2
  first | exact ⟨rfl, HB3.out⟩ | (go_ret; exact ⟨rfl, HB3.out⟩)
end Go.Proofs.YtnjlgeenhmamjaaGreatDoor.Q
