/- headgatelaw12's alive: walked. -/
import Derived.Test.YtnjlgeenhmamjaaDoorZDecodeSplits10
import Derived.Lib.SlBytesConst
import Derived.Test.YtnjlgeenhmamjaaDoorZDecodeSplits6
namespace Go.Proofs.YtnjlgeenhmamjaaDoor.Q
open Go.RowKit Go.Proofs.YtnjlgeenhmamjaaDoorW.PrintWords Go.Proofs.YtnjlgeenhmamjaaDoorW.PrintLast Go.Proofs.YtnjlgeenhmamjaaDoorW.PrintMore
set_option linter.unusedVariables false
set_option linter.unusedSimpArgs false
/-- The same, with what reading digit by digit says. -/
def saysO2 (pl : Option ByteArray) (kind : Int) (s : ByteArray) : Option Va :=
  if s = ⟨#[92, 78]⟩ then some ⟨0, 0, ⟨#[]⟩⟩
  else if kind = 1 then (numL s.data.toList).map (fun n => ⟨1, n, ⟨#[]⟩⟩)
  else if kind = 2 then (if s = ⟨#[116, 114, 117, 101]⟩ then some ⟨2, 1, ⟨#[]⟩⟩ else if s = ⟨#[102, 97, 108, 115, 101]⟩ then some ⟨2, 0, ⟨#[]⟩⟩ else none)
  else pl.map (fun t => ⟨3, 0, t⟩)
theorem saysO_eq (pl : Option ByteArray) (kind : Int) (s : ByteArray) : saysO pl kind s = saysO2 pl kind s := by
  unfold saysO saysO2
  rw [says_num]
def valsO2 (PL : ByteArray → Option ByteArray) : List Co → List ByteArray → Option (List Va)
  | c :: cs, s :: fs => match saysO2 (PL s) c.f1 s with
    | none => none
    | some v => (valsO2 PL cs fs).map (v :: ·)
  | _, _ => some []
theorem valsO_eq (PL : ByteArray → Option ByteArray) : ∀ (l : List Co) (fs : List ByteArray), valsO PL l fs = valsO2 PL l fs
  | c :: cs, s :: fs => by unfold valsO valsO2; rw [saysO_eq, valsO_eq PL cs fs]; rfl
  | [], _ => rfl
  | _ :: _, [] => rfl
def rowR2 (r : Int) (l : List Co) (s : ByteArray) : List Va × Int :=
  if r ≠ 0 then ([], r)
  else if (fields s (s.size + 1) 0).length ≠ l.length then ([], 121)
  else match valsO2 plO l (fields s (s.size + 1) 0) with
    | none => ([], 122)
    | some vs => (vs, 0)
theorem rowR_eq (r : Int) (l : List Co) (s : ByteArray) : rowR plO r l s = rowR2 r l s := by
  unfold rowR rowR2
  rw [valsO_eq]
  rfl
def colsA : List Co := [⟨⟨#[97]⟩, 1⟩, ⟨⟨#[98]⟩, 3⟩]
def recA : ByteArray := ⟨#[45, 55, 44, 120, 92, 44, 121]⟩
def recB : ByteArray := ⟨#[48, 55, 44, 120]⟩
theorem rightA : rightS colsA = true := by kernel_rfl
theorem rowA : rowR2 0 colsA recA = ([⟨1, -7, ⟨#[]⟩⟩, ⟨3, 0, ⟨#[120, 44, 121]⟩⟩], 0) := by kernel_rfl
theorem rowB : rowR2 0 colsA recB = ([], 122) := by kernel_rfl
/-- decode.Row at right columns. -/
theorem row_at (A : Option Addr) (c : Nat) (l : List Co) (hl : l.length ≤ 140737488355328) (hn : ∀ c ∈ l, c.f0.size ≤ 140737488355328) (B : Option Addr) (d : Nat) (s : ByteArray) (hs : s.size ≤ 8000) (w : World) (hG : Glob w)
    (hC : Kd.C k44 w A l.length l) (hc : l.length ≤ c) (hB : Kd.C (Kd.int .u8) w B (bytesOf s).length (bytesOf s)) :
    Calls Tryd.prog 14 #[.slice A l.length c, .slice B s.size d] w (RowPost (rowR2 (if rightS l = true then 0 else 120) l s) w) := by
  obtain ⟨K, hK⟩ := (check_ev l hl hn).get
  rw [← rowR_eq]
  exact row_walk plO plain_ev K A c l _ hK B d s hs w hG hC hc hB
theorem lit_bytes (w : World) (g : Nat) (s : ByteArray) (e : TypeId) (fz : Nat × Nat) (hs : s.size ≤ 9223372036854775807) (h : w.heap[g]? = some (.cells ((bytesOf s).map (Value.int .u8)).toArray e fz)) : Kd.C (Kd.int .u8) w (some ⟨g, 0, none⟩) (bytesOf s).length (bytesOf s) := by
  refine Kd.C_of_reads (enc := Value.int .u8) (d := (0 : Int)) (h1 := fun _ => rfl) ⟨rfl, by rw [bytesOf_length]; exact hs, fun _ => ⟨_, rfl, fun j hj => ?_⟩⟩
  rw [add_plain]
  refine (cell_of_row w g j _ e fz h).trans ?_
  rw [List.getElem?_toArray, List.getElem?_map, List.getElem?_eq_getElem hj, List.getD_eq_getElem?_getD, List.getElem?_eq_getElem hj]
  rfl
theorem lit_cols (w : World) (g : Nat) (h : w.heap[g]? = some (.cells #[.string ⟨#[97]⟩, .int .i64 1, .string ⟨#[98]⟩, .int .i64 3] 44 (0, 0))) : Kd.C k44 w (some ⟨g, 0, none⟩) colsA.length colsA := by
  refine ⟨rfl, by decide, fun _ => ⟨⟨g, 0, none⟩, rfl, fun j p hj => ?_⟩⟩
  have hc : ∀ i, w.cell? ⟨g, i, none⟩ = (#[Value.string ⟨#[97]⟩, .int .i64 1, .string ⟨#[98]⟩, .int .i64 3] : Array Value)[i]? := fun i => blk_cell h i
  match j, hj with
  | 0, hj =>
    obtain rfl : (⟨⟨#[97]⟩, 1⟩ : Co) = p := Option.some.inj hj
    refine ⟨[.string ⟨#[97]⟩, .int .i64 1], rfl, k44_mk w ⟨⟨#[97]⟩, 1⟩, fun i u hu => ?_⟩
    rw [add_plain, hc]
    match i, hu with
    | 0, hu => exact hu
    | 1, hu => exact hu
  | 1, hj =>
    obtain rfl : (⟨⟨#[98]⟩, 3⟩ : Co) = p := Option.some.inj hj
    refine ⟨[.string ⟨#[98]⟩, .int .i64 3], rfl, k44_mk w ⟨⟨#[98]⟩, 3⟩, fun i u hu => ?_⟩
    rw [add_plain, hc]
    match i, hu with
    | 0, hu => exact hu
    | 1, hu => exact hu
set_option maxHeartbeats 8000000 in
set_option maxRecDepth 100000 in
theorem alive_calls (w : World) (hG : Glob w) :
    Calls Tryd.prog 6 #[] w fun e w' => e = .returned (.bool true) ∧ Below w.heap.size w w' := by
  have HG := Aside0.mk hG
  have hA : ∀ (g h : Nat) W, Below w.heap.size w W → W.heap[g]? = some (.cells #[.string ⟨#[97]⟩, .int .i64 1, .string ⟨#[98]⟩, .int .i64 3] 44 (0, 0)) → W.heap[h]? = some (.cells #[.int .u8 45, .int .u8 55, .int .u8 44, .int .u8 120, .int .u8 92, .int .u8 44, .int .u8 121] 5 (7, 8)) →
      Calls Tryd.prog 14 #[.slice (some ⟨g, 0, none⟩) 2 2, .slice (some ⟨h, 0, none⟩) 7 7] W (RowPost ([⟨1, -7, ⟨#[]⟩⟩, ⟨3, 0, ⟨#[120, 44, 121]⟩⟩], 0) W) := fun g h W hb h1 h2 => by
    have := row_at (some ⟨g, 0, none⟩) 2 colsA (by decide) (by decide) (some ⟨h, 0, none⟩) 7 recA (by decide) W (hG.below hb) (lit_cols W g h1) (by decide) (lit_bytes W h recA 5 (7, 8) (by decide) h2)
    rw [rightA, if_pos rfl, rowA] at this
    exact this
  have hB : ∀ (g h : Nat) W, Below w.heap.size w W → W.heap[g]? = some (.cells #[.string ⟨#[97]⟩, .int .i64 1, .string ⟨#[98]⟩, .int .i64 3] 44 (0, 0)) → W.heap[h]? = some (.cells #[.int .u8 48, .int .u8 55, .int .u8 44, .int .u8 120] 5 (4, 5)) →
      Calls Tryd.prog 14 #[.slice (some ⟨g, 0, none⟩) 2 2, .slice (some ⟨h, 0, none⟩) 4 4] W (RowPost ([], 122) W) := fun g h W hb h1 h2 => by
    have := row_at (some ⟨g, 0, none⟩) 2 colsA (by decide) (by decide) (some ⟨h, 0, none⟩) 4 recB (by decide) W (hG.below hb) (lit_cols W g h1) (by decide) (lit_bytes W h recB 5 (4, 5) (by decide) h2)
    rw [rightA, if_pos rfl, rowB] at this
    exact this
  have HA := Aside0.mk hA
  have HBB := Aside0.mk hB
  clear hA hB hG
  go_enter Tryd.func6, Tryd.ntmps6
  go_upto_region 2 with (fail)
  have hW1 := below_alloc (Below.refl w.heap.size w) (.cells #[.string ⟨#[97]⟩, .int .i64 1, .string ⟨#[98]⟩, .int .i64 3] 44)
  have hW2 := below_alloc hW1 (.cells #[.int .u8 45, .int .u8 55, .int .u8 44, .int .u8 120, .int .u8 92, .int .u8 44, .int .u8 121] 5 (7, 8))
  have hz1 : (w.alloc (.cells #[.string ⟨#[97]⟩, .int .i64 1, .string ⟨#[98]⟩, .int .i64 3] 44)).heap.size = w.heap.size + 1 := by simp
  have h1 := blk_alloc (blk_new w (.cells #[.string ⟨#[97]⟩, .int .i64 1, .string ⟨#[98]⟩, .int .i64 3] 44)) (.cells #[.int .u8 45, .int .u8 55, .int .u8 44, .int .u8 120, .int .u8 92, .int .u8 44, .int .u8 121] 5 (7, 8))
  have h2 := blk_new (w.alloc (.cells #[.string ⟨#[97]⟩, .int .i64 1, .string ⟨#[98]⟩, .int .i64 3] 44)) (.cells #[.int .u8 45, .int .u8 55, .int .u8 44, .int .u8 120, .int .u8 92, .int .u8 44, .int .u8 121] 5 (7, 8))
  have cv1 := Lib.run_convert_bytes_const (P := Tryd.prog) (w.alloc (.cells #[.string ⟨#[97]⟩, .int .i64 1, .string ⟨#[98]⟩, .int .i64 3] 44)) 35 5 #[.int .u8 45, .int .u8 55, .int .u8 44, .int .u8 120, .int .u8 92, .int .u8 44, .int .u8 121] 7 7 Tryd.underlying35 Tryd.underlying5
  rw [hz1] at h2 cv1
  have hcall := HA.out _ _ _ hW2 h1 h2
  have HW2 := Aside0.mk hW2
  have H1 := Aside0.mk h1
  clear hW1 hW2 hz1 h1 h2
  go_upto_region 3 with (go_at_call 14; refine hcall.mono ?_; rintro e w1 ⟨A1, c1, rfl, hC1, hc1, hb1⟩; have HB1 := Aside0.mk (below_step HW2.out hb1); have HC1 := Aside0.mk hC1; have H2 := Aside0.mk (blk_below H1.out hb1); clear hb1 hC1 hcall)
  have hb2 := below_alloc HB1.out (.cells #[.int .u8 48, .int .u8 55, .int .u8 44, .int .u8 120] 5 (4, 5))
  have k1 := blk_alloc H2.out (.cells #[.int .u8 48, .int .u8 55, .int .u8 44, .int .u8 120] 5 (4, 5))
  have k2 := blk_new w1 (.cells #[.int .u8 48, .int .u8 55, .int .u8 44, .int .u8 120] 5 (4, 5))
  have cv2 := Lib.run_convert_bytes_const (P := Tryd.prog) w1 35 5 #[.int .u8 48, .int .u8 55, .int .u8 44, .int .u8 120] 4 4 Tryd.underlying35 Tryd.underlying5
  have hcall := HBB.out _ _ _ hb2 k1 k2
  have HB2 := Aside0.mk hb2
  have HC2 := Aside0.mk (Kd.C_below HC1.out (below_alloc (Below.refl w1.heap.size w1) (.cells #[.int .u8 48, .int .u8 55, .int .u8 44, .int .u8 120] 5 (4, 5))))
  clear hb2 k1 k2 cv1
  go_upto_region 4 with (go_at_call 14; refine hcall.mono ?_; rintro e w3 ⟨A3, c3, rfl, hC3, hc3, hb3⟩; have HB3 := Aside0.mk (below_step HB2.out hb3); have HC3 := Aside0.mk (Kd.C_below HC2.out hb3); clear hb3 hC3 hcall)
  obtain ⟨ad, rfl, x0, x1, x2⟩ := at_T46 HC3.out 0 (by decide) (by decide)
  obtain ⟨ad', e', y0, y1, y2⟩ := at_T46 HC3.out 1 (by decide) (by decide)
  injection e' with e'
  subst e'
  have x1' : w3.cell? ⟨ad.block, ad.off + 1, none⟩ = some (.int .i64 (-7)) := x1
  have y2' : w3.cell? ⟨ad.block, ad.off + 3 + 2, none⟩ = some (.string ⟨#[120, 44, 121]⟩) := y2
  clear cv2 x0 x1 x2 y0 y1 y2
  go_wp2
  first | exact ⟨rfl, HB3.out⟩ | (go_ret; exact ⟨rfl, HB3.out⟩)
end Go.Proofs.YtnjlgeenhmamjaaDoor.Q
/- The law DecodeSplits: walked. -/
namespace Go.Proofs.YtnjlgeenhmamjaaDoor.Q
open Go.RowKit Go.Proofs.YtnjlgeenhmamjaaDoorW.PrintWords Go.Proofs.YtnjlgeenhmamjaaDoorW.PrintLast Go.Proofs.YtnjlgeenhmamjaaDoorW.PrintMore
set_option linter.unusedVariables false
set_option linter.unusedSimpArgs false
theorem RowsB.below {w w' : World} {v : Value} {fs : List ByteArray} (h : RowsB w v fs) (hb : Below w.heap.size w w') : RowsB w' v fs := by
  obtain ⟨A, c, h1, h2⟩ := h
  refine ⟨A, c, h1, fun j hj => ?_⟩
  obtain ⟨ad, A2, c2, k1, k2, k3⟩ := h2 j hj
  exact ⟨ad, A2, c2, k1, (hb.cell (Lib.lt_of_cell k2)).trans k2, Kd.C_below k3 hb⟩
set_option maxHeartbeats 8000000 in
set_option maxRecDepth 100000 in
theorem splits_walk (s : ByteArray) (w : World) (hG : Glob w) :
    Calls Tryd.prog 5 #[.string s] w fun e w' => e = .returned (.bool true) ∧ Below w.heap.size w w' := by
  have HAl := Aside0.mk (alive_calls w hG)
  clear hG
  by_cases hs : s.size ≤ 4000
  · have hs1 : decide (4000 < (s.size : Int)) = false := decide_eq_false (by omega)
    have hs2 : decide (4000 < s.size) = false := decide_eq_false (by omega)
    obtain ⟨K, hK⟩ := (refSplit_ev s (by omega)).get
    have hfl := fields_len s (s.size + 1) 0 (Nat.zero_le _)
    have hR1 := fun W => headgateref12_Split.calls K s _ W hK
    have hR2 := fun W => split_calls s (by omega) W
    have hR3 := fun (A : Option Addr) (c : Nat) (hc : s.size ≤ c) (W : World) hC => splitB_calls A c s (by omega) hc W hC
    obtain ⟨fs, hfs⟩ : ∃ fs, fields s (s.size + 1) 0 = fs := ⟨_, rfl⟩
    simp only [hfs] at hR1 hR2 hR3 hfl
    have H1 := Aside0.mk hR1
    have H2 := Aside0.mk hR2
    have H3 := Aside0.mk hR3
    have HB3 : Aside0 (∀ W : World, Calls Tryd.prog 19 #[.slice (some ⟨W.heap.size, 0, none⟩) s.size (grownCap W s.size 0 5)] (Lib.bytesWorld W 5 s) fun e w' => ∃ v, e = .returned v ∧ RowsB w' v fs ∧ Below W.heap.size W w') := ⟨fun W => by
      have hbw : Below W.heap.size W (Lib.bytesWorld W 5 s) := bytes_below (Below.refl _ _) (Nat.le_refl _) _ _
      have hC : Kd.C (Kd.int .u8) (Lib.bytesWorld W 5 s) (some ⟨W.heap.size, 0, none⟩) s.size (bytesOf s) := Kd.C_of_reads (bytes_reads W 5 s (by omega))
      refine (H3.out _ _ (grownCap_ge W s.size 0 5) _ (by rw [bytesOf_length]; exact hC)).mono ?_
      rintro e w' ⟨v, he, hr, hb⟩
      exact ⟨v, he, hr, below_step hbw hb⟩⟩
    have kb := fun W => print_bytes (P := Tryd.prog) 9 35 5 Tryd.underlying9 Tryd.underlying35 Tryd.underlying5 s W
    have hfl2 : fs.length ≤ 4001 := by omega
    clear hR1 hR2 hR3 hfs hK hs
    go_enter Tryd.func5, Tryd.ntmps5
    go_upto_region 8 with (first
      | (go_at_call 6; refine HAl.out.mono ?_; rintro e w1 ⟨rfl, hb1⟩; have HB1 := Aside0.mk hb1; clear hb1)
      | (go_at_call 17; refine (H1.out _).mono ?_; rintro e w2 ⟨v2, rfl, hr2, hb2⟩; obtain ⟨A2, c2, rfl⟩ := Kd.R_slice hr2; have HC2 := Aside0.mk (Kd.R_reads' hr2).2.2; have HB2 := Aside0.mk (below_step HB1.out hb2); clear hr2 hb2)
      | (go_at_call 18; refine (H2.out _).mono ?_; rintro e w3 ⟨v3, rfl, hr3, hb3⟩; obtain ⟨A3, c3, rfl⟩ := Kd.R_slice hr3; have HC3 := Aside0.mk (Kd.R_reads' hr3).2.2; have HD3 := Aside0.mk (Kd.C_below HC2.out hb3); have HB3' := Aside0.mk (below_step HB2.out hb3); clear hr3 hb3)
      | (go_at_call 19; refine (HB3.out _).mono ?_; rintro e w4 ⟨v4, rfl, hr4, hb4⟩; have HR4 := Aside0.mk hr4; have HC4 := Aside0.mk (Kd.C_below HC3.out hb4); have HD4 := Aside0.mk (Kd.C_below HD3.out hb4); have HB4 := Aside0.mk (below_step HB3'.out hb4); clear hr4 hb4))
    obtain ⟨A4, c4, rfl, h4⟩ := HR4.out
    have H4 := Aside0.mk h4
    have hne : ((fs.length : Int) != (fs.length : Int)) = false := bne_eq_false_iff_eq.2 rfl
    clear h4 HR4 H1 H2 H3 HB3 kb HC2 HC3 HD3 HB1 HB2 HB3' HAl
    go_wp2
    go_loopg [6] fs.length (fun kq v6 wr => ∃ (i : Nat), v6 = .int .i64 i ∧ Aside0 (i + kq = fs.length) ∧ Aside0 (Drawn0 w4 wr))
    case atStart => exact ⟨0, rfl, ⟨by omega⟩, ⟨.refl _⟩⟩
    case round =>
      obtain ⟨i, rfl, HI, HD⟩ := hrel
      cases gk with
      | zero =>
        have hlb : decide ((i : Int) < (fs.length : Int)) = false := decide_eq_false (by have := HI.out; omega)
        have hlb2 : decide (i < fs.length) = false := decide_eq_false (by have := HI.out; omega)
        go_wp2
        have hfin := below_step HB4.out HD.out.below
        first | exact ⟨rfl, hfin⟩ | (go_ret; exact ⟨rfl, hfin⟩)
      | succ k1 =>
        have hlt : i < fs.length := by have := HI.out; omega
        have hlb : decide ((i : Int) < (fs.length : Int)) = true := decide_eq_true (by omega)
        have hlb2 : decide (i < fs.length) = true := decide_eq_true hlt
        have hw1 : wrap64 ((i : Int) + 1) = (i : Int) + 1 := wrap_in (by unfold in64; omega)
        obtain ⟨ad, rfl, x0⟩ := Kd.at_string (Kd.C_below HD4.out HD.out.below) (i : Int) (by omega) (by omega)
        obtain ⟨ae, rfl, y0⟩ := Kd.at_string (Kd.C_below HC4.out HD.out.below) (i : Int) (by omega) (by omega)
        obtain ⟨af, A5, c5, rfl, z0, hz⟩ := H4.out i hlt
        have cv : ∀ W, Below w4.heap.size w4 W → (convert 35 9 (.slice A5 (rdOf ByteArray.empty fs (i : Int)).size c5)).run Tryd.prog W = .ok (.string (rdOf ByteArray.empty fs (i : Int))) W := fun W hW => by
          have := Kd.C_string (P := Tryd.prog) (c := c5) Tryd.underlying35 Tryd.underlying5 Tryd.underlying9 (Kd.C_below hz hW)
          rw [strNums_bytesOf] at this
          exact this
        have z0' : wr.cell? (af.add i) = some (.slice A5 (rdOf ByteArray.empty fs (i : Int)).size c5) := (HD.out.below.cell (Lib.lt_of_cell z0)).trans z0
        have cv0 := cv wr HD.out.below
        have cv1 : ∀ n, (convert 35 9 (.slice A5 (rdOf ByteArray.empty fs (i : Int)).size c5)).run Tryd.prog (wr.drewN n) = .ok (.string (rdOf ByteArray.empty fs (i : Int))) (wr.drewN n) := fun n => cv _ (pw_below_drewN HD.out.below n)
        rw [Int.toNat_natCast] at x0 y0
        generalize rdOf ByteArray.empty fs (i : Int) = f at x0 y0 z0' cv0 cv1
        have hff : (f.toList != f.toList) = false := bne_eq_false_iff_eq.2 rfl
        clear z0 hz cv
        go_upto_region 13 with (fail)
        go_quiet (fail)
        go_wp2
        go_roundg k1
        case measure => omega
        case rel => exact ⟨i + 1, by congr 1, ⟨by have := HI.out; omega⟩, ⟨HD.out.step _⟩⟩
  · have hs1 : decide (4000 < (s.size : Int)) = true := decide_eq_true (by omega)
    have hs2 : decide (4000 < s.size) = true := decide_eq_true (by omega)
    clear hs
    go_enter Tryd.func5, Tryd.ntmps5
    go_wp2_with (go_at_call 6; refine HAl.out.mono ?_; rintro e w1 ⟨rfl, hb1⟩; have HB1 := Aside0.mk hb1; clear hb1)
    first | exact ⟨rfl, HB1.out⟩ | (go_ret; exact ⟨rfl, HB1.out⟩)
def headgatelaw12_DecodeSplits.f (k : Nat) (a0 : ByteArray) : Option Bool := some true
theorem headgatelaw12_DecodeSplits.calls (k : Nat) (a0 : ByteArray) (r : Bool) (w : World) (hG : Glob w) (h : headgatelaw12_DecodeSplits.f k a0 = some r) :
    Calls Tryd.prog 5 #[.string a0] w fun e w' => e = .returned (.bool r) ∧ Below w.heap.size w w' := by
  obtain rfl : true = r := Option.some.inj h
  exact splits_walk a0 w hG
theorem DecodeSplits_pure (a0 : ByteArray) (h0 : a0.size ≤ 140737488351232) : ∃ k, headgatelaw12_DecodeSplits.f k a0 = some true := ⟨0, rfl⟩
end Go.Proofs.YtnjlgeenhmamjaaDoor.Q
