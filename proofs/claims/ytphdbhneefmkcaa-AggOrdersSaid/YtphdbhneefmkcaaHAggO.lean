/- The law AggOrders: walked. -/
import Derived.Test.YtphdbhneefmkcaaHAggH
import Derived.Test.YtphdbhneefmkcaaAx1
import Derived.Test.YtphdbhneefmkcaaDx1
import Derived.Test.YtphdbhneefmkcaaAggPO
import Derived.Deep.CutBlock
namespace Go.Proofs.Ytphdbhneefmkcaa.Q
open Go.RowKit Go.Proofs.YtphdbhneefmkcaaW.PrintWords Go.Proofs.YtphdbhneefmkcaaW.PrintLast Go.Proofs.YtphdbhneefmkcaaW.PrintMore
set_option linter.unusedVariables false
set_option linter.unusedSimpArgs false
attribute [local go_sem] max2_int min2_int max_two min_two
attribute [local go_sem high] eqA26
/-- A block that holds what is kept of the values L. -/
def Kept (W : World) (g : Nat) (k : Int) (L : List S26) : Prop := ∃ a0 a1 a2 a3 a4 a5, W.heap[g]? = some (.cells #[.int .i64 a0, .int .i64 a1, .int .u64 a2, .int .i64 a3, .int .i64 a4, .string a5] 28 (0, 0)) ∧ Rep k a0 a1 a2 a3 a4 a5 L
theorem Kept.below {W W' : World} {g : Nat} {k : Int} {L : List S26} (h : Kept W g k L) (hb : Below W.heap.size W W') : Kept W' g k L := by
  obtain ⟨a0, a1, a2, a3, a4, a5, h1, h2⟩ := h
  exact ⟨a0, a1, a2, a3, a4, a5, blk_below h1 hb, h2⟩
theorem Kept.alloc {W : World} {g : Nat} {k : Int} {L : List S26} (h : Kept W g k L) (o : Obj) : Kept (W.alloc o) g k L := by
  obtain ⟨a0, a1, a2, a3, a4, a5, h1, h2⟩ := h
  exact ⟨a0, a1, a2, a3, a4, a5, blk_alloc h1 o, h2⟩
theorem Kept.far {W : World} {g h : Nat} {k : Int} {L : List S26} (q : Kept W g k L) (hne : g ≠ h) (y0 y1 y2 y3 y4 y5 : Value) : Kept ((((((W.setCell ⟨h, 0, none⟩ y0).setCell ⟨h, 1, none⟩ y1).setCell ⟨h, 2, none⟩ y2).setCell ⟨h, 3, none⟩ y3).setCell ⟨h, 4, none⟩ y4).setCell ⟨h, 5, none⟩ y5) g k L := by
  obtain ⟨a0, a1, a2, a3, a4, a5, h1, h2⟩ := q
  exact ⟨a0, a1, a2, a3, a4, a5, blk_far6 h1 hne _ _ _ _ _ _, h2⟩
theorem Kept.lt {W : World} {g : Nat} {k : Int} {L : List S26} (h : Kept W g k L) : g < W.heap.size := by
  obtain ⟨a0, a1, a2, a3, a4, a5, h1, h2⟩ := h
  exact blk_lt h1
theorem Kept.perm {W : World} {g : Nat} {k : Int} {L M : List S26} (h : Kept W g k L) (p : L.Perm M) : Kept W g k M := by
  obtain ⟨a0, a1, a2, a3, a4, a5, h1, h2⟩ := h
  exact ⟨a0, a1, a2, a3, a4, a5, h1, rep_perm h2 p⟩
/-- The four of the law, behind the first i values. -/
def St (k : Int) (l : List S26) (Z i : Nat) (W : World) : Prop := ∃ La Lb Lc, Kept W Z k La ∧ Kept W (Z + 1) k Lb ∧ Kept W (Z + 1 + 1) k Lc ∧ Kept W (Z + 1 + 1 + 1) k [] ∧ La.Perm ((l.take i).filter (taken k)) ∧ (Lb ++ Lc).Perm La

theorem four_accs (w w1 : World) (hb : Below w.heap.size w w1) (k : Int) (l : List S26) : St k l w1.heap.size 0 ((((w1.alloc (.cells #[.int .i64 0, .int .i64 0, .int .u64 0, .int .i64 0, .int .i64 0, .string ⟨#[]⟩] 28)).alloc (.cells #[.int .i64 0, .int .i64 0, .int .u64 0, .int .i64 0, .int .i64 0, .string ⟨#[]⟩] 28)).alloc (.cells #[.int .i64 0, .int .i64 0, .int .u64 0, .int .i64 0, .int .i64 0, .string ⟨#[]⟩] 28)).alloc (.cells #[.int .i64 0, .int .i64 0, .int .u64 0, .int .i64 0, .int .i64 0, .string ⟨#[]⟩] 28)) ∧ Below w.heap.size w ((((w1.alloc (.cells #[.int .i64 0, .int .i64 0, .int .u64 0, .int .i64 0, .int .i64 0, .string ⟨#[]⟩] 28)).alloc (.cells #[.int .i64 0, .int .i64 0, .int .u64 0, .int .i64 0, .int .i64 0, .string ⟨#[]⟩] 28)).alloc (.cells #[.int .i64 0, .int .i64 0, .int .u64 0, .int .i64 0, .int .i64 0, .string ⟨#[]⟩] 28)).alloc (.cells #[.int .i64 0, .int .i64 0, .int .u64 0, .int .i64 0, .int .i64 0, .string ⟨#[]⟩] 28)) := by
  refine ⟨⟨[], [], [], ?_, ?_, ?_, ?_, by simp, by simp⟩, ?_⟩
  · exact ⟨_, _, _, _, _, _, blk_alloc (blk_alloc (blk_alloc (blk_new _ _) _) _) _, rep_nil k⟩
  · have := blk_alloc (blk_alloc (blk_new (w1.alloc (.cells #[.int .i64 0, .int .i64 0, .int .u64 0, .int .i64 0, .int .i64 0, .string ⟨#[]⟩] 28)) (.cells #[.int .i64 0, .int .i64 0, .int .u64 0, .int .i64 0, .int .i64 0, .string ⟨#[]⟩] 28)) (.cells #[.int .i64 0, .int .i64 0, .int .u64 0, .int .i64 0, .int .i64 0, .string ⟨#[]⟩] 28)) (.cells #[.int .i64 0, .int .i64 0, .int .u64 0, .int .i64 0, .int .i64 0, .string ⟨#[]⟩] 28)
    rw [World.size_alloc] at this
    exact ⟨_, _, _, _, _, _, this, rep_nil k⟩
  · have := blk_alloc (blk_new ((w1.alloc (.cells #[.int .i64 0, .int .i64 0, .int .u64 0, .int .i64 0, .int .i64 0, .string ⟨#[]⟩] 28)).alloc (.cells #[.int .i64 0, .int .i64 0, .int .u64 0, .int .i64 0, .int .i64 0, .string ⟨#[]⟩] 28)) (.cells #[.int .i64 0, .int .i64 0, .int .u64 0, .int .i64 0, .int .i64 0, .string ⟨#[]⟩] 28)) (.cells #[.int .i64 0, .int .i64 0, .int .u64 0, .int .i64 0, .int .i64 0, .string ⟨#[]⟩] 28)
    rw [World.size_alloc, World.size_alloc] at this
    exact ⟨_, _, _, _, _, _, this, rep_nil k⟩
  · have := blk_new (((w1.alloc (.cells #[.int .i64 0, .int .i64 0, .int .u64 0, .int .i64 0, .int .i64 0, .string ⟨#[]⟩] 28)).alloc (.cells #[.int .i64 0, .int .i64 0, .int .u64 0, .int .i64 0, .int .i64 0, .string ⟨#[]⟩] 28)).alloc (.cells #[.int .i64 0, .int .i64 0, .int .u64 0, .int .i64 0, .int .i64 0, .string ⟨#[]⟩] 28)) (.cells #[.int .i64 0, .int .i64 0, .int .u64 0, .int .i64 0, .int .i64 0, .string ⟨#[]⟩] 28)
    rw [World.size_alloc, World.size_alloc, World.size_alloc] at this
    exact ⟨_, _, _, _, _, _, this, rep_nil k⟩
  · exact below_alloc (below_alloc (below_alloc (below_alloc hb _) _) _) _

theorem st_a {La F : List S26} {v : S26} {t : Bool} (p : La.Perm F) : (if t = true then v :: La else La).Perm (F ++ (if t = true then [v] else [])) := by
  cases t
  · simpa using p
  · simpa using (p.cons v).trans (List.perm_append_singleton v F).symm
theorem st_b {La Lb Lc : List S26} {v : S26} {t : Bool} (p : (Lb ++ Lc).Perm La) : ((if t = true then v :: Lb else Lb) ++ Lc).Perm (if t = true then v :: La else La) := by
  cases t
  · simpa using p
  · simpa using p
theorem st_c {La Lb Lc : List S26} {v : S26} {t : Bool} (p : (Lb ++ Lc).Perm La) : (Lb ++ (if t = true then v :: Lc else Lc)).Perm (if t = true then v :: La else La) := by
  cases t
  · simpa using p
  · simp only [if_true]
    exact List.perm_middle.trans (p.cons v)
theorem st_skip {k : Int} {v : S26} (h : ¬ counts k v = true) : taken k v = false := by
  unfold taken
  simp [h]
theorem drop_step (l : List S26) (m q : Nat) (h : q < m) (hm : m ≤ l.length) (p : S26 → Bool) : ((l.take m).drop q).filter p = (if p (l[q]'(by omega)) = true then [l[q]'(by omega)] else []) ++ ((l.take m).drop (q + 1)).filter p := by
  have hq : q < (l.take m).length := by rw [List.length_take]; omega
  rw [List.drop_eq_getElem_cons hq, List.getElem_take, List.filter_cons]
  split <;> simp

theorem take_step (l : List S26) (i : Nat) (h : i < l.length) (p : S26 → Bool) : (l.take (i + 1)).filter p = (l.take i).filter p ++ (if p l[i] = true then [l[i]] else []) := by
  rw [List.take_add_one, List.getElem?_eq_getElem h, List.filter_append]
  simp only [Option.toList]
  cases hp : p l[i] <;> simp [hp]

set_option maxHeartbeats 4000000 in
set_option maxRecDepth 100000 in
theorem orders_calls (kind cut : Int) (hk : 0 ≤ kind ∧ kind ≤ 255) (hcu : 0 ≤ cut ∧ cut ≤ 255) (A : Option Addr) (c : Nat) (l : List S26) (w : World) (hr : Kd.C k26 w A l.length l) (hc : l.length ≤ c) (h64 : ∀ v ∈ l, in64 v.f1) :
    Calls Try.prog 6 #[.int .u8 kind, .slice A l.length c, .int .u8 cut] w fun e w' => e = .returned (.bool true) ∧ Below w.heap.size w w' := by
  have hmax := Kd.C_max hr
  have HR := Aside0.mk hr
  have H64 := Aside0.mk h64
  clear hr h64
  go_enter Try.func6, Try.ntmps6
  go_wp2_with fail
  refine (headgatelaw15_alive.calls true _ (by kernel_rfl)).mono ?_
  rintro e w1 ⟨rfl, hb1⟩
  go_upto_region 5 with (fail)
  have hk5 : 1 ≤ 1 + kind % 5 ∧ 1 + kind % 5 ≤ 5 := by omega
  generalize 1 + kind % 5 = k at hk5 ⊢
  obtain ⟨hst, hbb⟩ := four_accs w w1 hb1 k l
  have hZ0 : w.heap.size ≤ w1.heap.size := hb1.size
  generalize ((((w1.alloc (.cells #[.int .i64 0, .int .i64 0, .int .u64 0, .int .i64 0, .int .i64 0, .string ⟨#[]⟩] 28)).alloc (.cells #[.int .i64 0, .int .i64 0, .int .u64 0, .int .i64 0, .int .i64 0, .string ⟨#[]⟩] 28)).alloc (.cells #[.int .i64 0, .int .i64 0, .int .u64 0, .int .i64 0, .int .i64 0, .string ⟨#[]⟩] 28)).alloc (.cells #[.int .i64 0, .int .i64 0, .int .u64 0, .int .i64 0, .int .i64 0, .string ⟨#[]⟩] 28)) = W at hst hbb ⊢
  generalize w1.heap.size = Z at hst hZ0 ⊢
  have ST := Aside0.mk hst
  have HB := Aside0.mk hbb
  clear hst hbb hb1 hk
  go_upto_block 0 with (fail)
  go_cut [12] (fun v12 wc => Aside0 (St k l Z (min l.length 200) wc) ∧ Aside0 (Below w.heap.size w wc))
  case rest =>
    obtain ⟨ST, HB⟩ := hcut
    obtain ⟨La, Lb, Lc, KA, KB, KC, KD, pa, pb⟩ := ST.out
    obtain ⟨m, hm⟩ : ∃ m, m = min l.length 200 := ⟨_, rfl⟩
    rw [← hm] at pa
    have hminI : (if 200 < (l.length : Int) then (200 : Int) else (l.length : Int)) = (m : Int) := by split <;> omega
    have hm1 : m ≤ l.length := by omega
    have hm2 : m ≤ 200 := by omega
    have hl1 : La.length ≤ 200 := by
      rw [pa.length_eq]
      exact Nat.le_trans (List.length_filter_le ..) (by rw [List.length_take]; omega)
    have hl2 : Lb.length + Lc.length ≤ 200 := by
      have := pb.length_eq
      rw [List.length_append] at this
      omega
    have QA := Aside0.mk KA
    have QB := Aside0.mk KB
    have QC := Aside0.mk KC
    have QD := Aside0.mk KD
    have PA := Aside0.mk pa
    have PB := Aside0.mk pb
    clear ST KA KB KC KD pa pb hm
    go_upto_block 2 with (fail)
    try rw [hminI]
    try clear hminI
    go_cut [14] (fun v14 wc => Aside0 (Kept wc Z k La) ∧ Aside0 (Kept wc (Z + 1) k Lb) ∧ Aside0 (Kept wc (Z + 1 + 1) k Lc) ∧ Aside0 (Kept wc (Z + 1 + 1 + 1) k ((l.take m).filter (taken k))) ∧ Aside0 (Below w.heap.size w wc))
    case first =>
      go_wp2_with fail
      go_loopg [14] m (fun kq v14 wr => ∃ (q : Nat) (x : Int), v14 = .int .i64 x ∧ Aside0 (x = (q : Int) - 1) ∧ Aside0 (q = kq) ∧ Aside0 (q ≤ m) ∧ Aside0 (Kept wr Z k La) ∧ Aside0 (Kept wr (Z + 1) k Lb) ∧ Aside0 (Kept wr (Z + 1 + 1) k Lc) ∧ Aside0 (Kept wr (Z + 1 + 1 + 1) k (((l.take m).drop q).filter (taken k))) ∧ Aside0 (Below w.heap.size w wr))
      case atStart => exact ⟨m, (m : Int) - 1, by first | rfl | (simp [hminI]; done), ⟨rfl⟩, ⟨rfl⟩, ⟨Nat.le_refl _⟩, QA, QB, QC, ⟨by rw [List.drop_of_length_le (by rw [List.length_take]; omega)]; exact QD.out⟩, HB⟩
      case round =>
        clear QA QB QC QD HB
        obtain ⟨q, x, rfl, HX, HI, HM, QA, QB, QC, QD, HB⟩ := hrel
        cases q with
        | zero =>
          obtain rfl : x = -1 := by have := HX.out; omega
          go_wp2
          go_meet
          case rel => exact ⟨QA, QB, QC, ⟨by have := QD.out; rwa [List.drop_zero] at this⟩, HB⟩
        | succ q =>
          obtain rfl : x = (q : Int) := by have := HX.out; omega
          have hqm := HM.out
          have hlt : q < l.length := by omega
          have hge : decide (0 ≤ (q : Int)) = true := decide_eq_true (by omega)
          have hlb : decide ((q : Int) < (l.length : Int)) = true := decide_eq_true (by omega)
          have hlb2 : decide (q < l.length) = true := decide_eq_true hlt
          obtain ⟨⟨n0, n1, n2⟩, hn⟩ : ∃ x, rd_T26 l (q : Int) = x := ⟨_, rfl⟩
          have hel : l[q] = ⟨n0, n1, n2⟩ := by
            rw [← hn]
            unfold rd_T26
            rw [Int.toNat_natCast, List.getD_eq_getElem?_getD, List.getElem?_eq_getElem hlt]
            rfl
          have hn64 : in64 n1 := by
            have := H64.out l[q] (List.getElem_mem hlt)
            rw [hel] at this
            exact this
          obtain ⟨ad, rfl, hcell0, hcell1, hcell2⟩ := at_T26 (Kd.C_below HR.out HB.out) (q : Int) (by omega) (by omega)
          rw [hn, Int.toNat_natCast] at hcell0 hcell1 hcell2
          have hstep := drop_step l m q (by omega) hm1 (taken k)
          rw [hel] at hstep
          have hlD : (((l.take m).drop (q + 1)).filter (taken k)).length < 200 := by
            refine Nat.lt_of_le_of_lt (List.length_filter_le ..) ?_
            rw [List.length_drop, List.length_take]
            omega
          generalize ((l.take m).drop (q + 1)).filter (taken k) = Ld at QD hstep hlD
          have H1 := Aside0.mk hstep
          have HE := Aside0.mk hn64
          clear hn hel hn64 hstep HX HM
          go_wp2_with fail
          refine (headgateref03_Check.calls 2 n0 n1 n2 _ _ (refCheck_eq 0 n0 n1 n2)).mono ?_
          rintro e v1 ⟨rfl, hb2⟩
          have bX : v1.heap[wr.heap.size]? = some (.cells #[.int .i64 n0, .int .i64 n1, .string n2] 26 (0, 0)) := blk_below (blk_new _ _) hb2
          have KA := (QA.out.alloc _).below hb2
          have KB := (QB.out.alloc _).below hb2
          have KC := (QC.out.alloc _).below hb2
          have KD := (QD.out.alloc _).below hb2
          have HB1 : Aside0 (Below w.heap.size w v1) := ⟨below_step (below_alloc HB.out _) hb2⟩
          have hXZ : Z + 1 + 1 + 1 < wr.heap.size := QD.out.lt
          clear hcell0 hcell1 hcell2 hb2 QA QB QC QD HB
          generalize wr.heap.size = X at bX hXZ ⊢
          obtain ⟨k1, rfl⟩ : ∃ k1, gk = k1 + 1 := ⟨gk - 1, by have := HI.out; omega⟩
          by_cases hcc : counts k ⟨n0, n1, n2⟩ = true
          · have hcc' : (checkV n0 n1 n2 == 0) = true ∧ ((k != 3) = true ∨ ((k != 3) = false ∧ decide (n0 ≤ 1) = true)) := by
              unfold counts at hcc
              simp only [Bool.and_eq_true, decide_eq_true_eq, Bool.not_eq_true', Bool.and_eq_false_iff, decide_eq_false_iff_not] at hcc
              refine ⟨by simpa using hcc.1, ?_⟩
              by_cases k3 : k = 3
              · exact .inr ⟨by simpa using k3, decide_eq_true (by omega)⟩
              · exact .inl (by simpa using k3)
            obtain ⟨c1, c2⟩ := hcc'
            obtain ⟨a0, a1, a2, a3, a4, a5, bA, rA⟩ := KD
            obtain ⟨x0, x1, x2, x3, x4, x5, hA, rA'⟩ := add_rep hk5 ⟨n0, n1, n2⟩ HE.out hcc rA hlD
            have hLL : (if taken k ⟨n0, n1, n2⟩ = true then ⟨n0, n1, n2⟩ :: Ld else Ld) = ((l.take m).drop q).filter (taken k) := by
              rw [H1.out]
              split <;> rfl
            rw [hLL] at rA'
            have HA := Aside0.mk hA
            have cX0 : v1.cell? ⟨X, 0, none⟩ = some (.int .i64 n0) := (blk_cell bX 0).trans rfl
            have cX1 : v1.cell? ⟨X, 1, none⟩ = some (.int .i64 n1) := (blk_cell bX 1).trans rfl
            have cX2 : v1.cell? ⟨X, 2, none⟩ = some (.string n2) := (blk_cell bX 2).trans rfl
            have cA0 : v1.cell? ⟨Z + 1 + 1 + 1, 0, none⟩ = some (.int .i64 a0) := (blk_cell bA 0).trans rfl
            have cA1 : v1.cell? ⟨Z + 1 + 1 + 1, 1, none⟩ = some (.int .i64 a1) := (blk_cell bA 1).trans rfl
            have cA2 : v1.cell? ⟨Z + 1 + 1 + 1, 2, none⟩ = some (.int .u64 a2) := (blk_cell bA 2).trans rfl
            have cA3 : v1.cell? ⟨Z + 1 + 1 + 1, 3, none⟩ = some (.int .i64 a3) := (blk_cell bA 3).trans rfl
            have cA4 : v1.cell? ⟨Z + 1 + 1 + 1, 4, none⟩ = some (.int .i64 a4) := (blk_cell bA 4).trans rfl
            have cA5 : v1.cell? ⟨Z + 1 + 1 + 1, 5, none⟩ = some (.string a5) := (blk_cell bA 5).trans rfl
            have BA := Aside0.mk bA
            have RA := Aside0.mk rA'
            clear hcc bX hA rA rA' bA hLL
            rcases c2 with c2 | ⟨c2, c3⟩
            all_goals
              go_wp2_with fail
              refine (agg_Add.calls k a0 a1 a2 a3 a4 a5 n0 n1 n2 x0 x1 x2 x3 x4 x5 0 _ HA.out).mono ?_
              rintro e v2 ⟨rfl, hd2⟩
              have bA2 := blk_below BA.out hd2
              have cG0 : v2.cell? ⟨Z + 1 + 1 + 1, 0, none⟩ = some (.int .i64 a0) := (blk_cell bA2 0).trans rfl
              have fG0 : v2.frozen? ⟨Z + 1 + 1 + 1, 0, none⟩ = false := blk_frozen bA2 0
              have cG1 : v2.cell? ⟨Z + 1 + 1 + 1, 1, none⟩ = some (.int .i64 a1) := (blk_cell bA2 1).trans rfl
              have fG1 : v2.frozen? ⟨Z + 1 + 1 + 1, 1, none⟩ = false := blk_frozen bA2 1
              have cG2 : v2.cell? ⟨Z + 1 + 1 + 1, 2, none⟩ = some (.int .u64 a2) := (blk_cell bA2 2).trans rfl
              have fG2 : v2.frozen? ⟨Z + 1 + 1 + 1, 2, none⟩ = false := blk_frozen bA2 2
              have cG3 : v2.cell? ⟨Z + 1 + 1 + 1, 3, none⟩ = some (.int .i64 a3) := (blk_cell bA2 3).trans rfl
              have fG3 : v2.frozen? ⟨Z + 1 + 1 + 1, 3, none⟩ = false := blk_frozen bA2 3
              have cG4 : v2.cell? ⟨Z + 1 + 1 + 1, 4, none⟩ = some (.int .i64 a4) := (blk_cell bA2 4).trans rfl
              have fG4 : v2.frozen? ⟨Z + 1 + 1 + 1, 4, none⟩ = false := blk_frozen bA2 4
              have cG5 : v2.cell? ⟨Z + 1 + 1 + 1, 5, none⟩ = some (.string a5) := (blk_cell bA2 5).trans rfl
              have fG5 : v2.frozen? ⟨Z + 1 + 1 + 1, 5, none⟩ = false := blk_frozen bA2 5
              have BA2 := Aside0.mk bA2
              have HD2 := Aside0.mk hd2
              clear bA2 hd2
              go_wp2
              go_roundg k1
              case measure => omega
              case rel => exact ⟨q, (q : Int) - 1, by first | rfl | (simp; done), ⟨rfl⟩, ⟨by have := HI.out; omega⟩, ⟨by omega⟩, ⟨(KA.below HD2.out).far (by omega) _ _ _ _ _ _⟩, ⟨(KB.below HD2.out).far (by omega) _ _ _ _ _ _⟩, ⟨(KC.below HD2.out).far (by omega) _ _ _ _ _ _⟩, ⟨⟨_, _, _, _, _, _, blk_put6 BA2.out (.int .i64 x0) (.int .i64 x1) (.int .u64 x2) (.int .i64 x3) (.int .i64 x4) (.string x5), RA.out⟩⟩, ⟨below_set6 (below_step HB1.out HD2.out) (by omega) _ _ _ _ _ _⟩⟩
          · have hcc' : (checkV n0 n1 n2 == 0) = false ∨ ((checkV n0 n1 n2 == 0) = true ∧ (k != 3) = false ∧ decide (n0 ≤ 1) = false) := by
              unfold counts at hcc
              simp only [Bool.and_eq_true, decide_eq_true_eq, Bool.not_eq_true', Bool.and_eq_false_iff, decide_eq_false_iff_not] at hcc
              by_cases h0 : checkV n0 n1 n2 = 0
              · have h3 : k = 3 := by omega
                have h4 : ¬ n0 ≤ 1 := by omega
                exact .inr ⟨by simpa using h0, by simpa using h3, decide_eq_false h4⟩
              · exact .inl (by simpa using h0)
            have ht := st_skip hcc
            have hLL : Ld = ((l.take m).drop q).filter (taken k) := by
              rw [H1.out, ht]
              rfl
            rw [hLL] at KD
            have SA := Aside0.mk KA
            have SB := Aside0.mk KB
            have SC := Aside0.mk KC
            have SD := Aside0.mk KD
            have cX0 : v1.cell? ⟨X, 0, none⟩ = some (.int .i64 n0) := (blk_cell bX 0).trans rfl
            have cX1 : v1.cell? ⟨X, 1, none⟩ = some (.int .i64 n1) := (blk_cell bX 1).trans rfl
            have cX2 : v1.cell? ⟨X, 2, none⟩ = some (.string n2) := (blk_cell bX 2).trans rfl
            clear bX hcc ht KA KB KC KD hLL
            rcases hcc' with c1 | ⟨c1, c2, c3⟩
            all_goals
              go_wp2
              go_roundg k1
              case measure => omega
              case rel => exact ⟨q, (q : Int) - 1, by first | rfl | (simp; done), ⟨rfl⟩, ⟨by have := HI.out; omega⟩, ⟨by omega⟩, SA, SB, SC, SD, HB1⟩
    case rest =>
      clear QA QB QC QD HB
      obtain ⟨QA, QB, QC, QD, HB⟩ := hcut
      go_upto_region 20 with (fail)
      go_cut [16] (fun v wc => ∃ g : Nat, v = .pointer (some ⟨g, 0, none⟩) ∧ Aside0 (Kept wc g k (Lc ++ Lb)) ∧ Aside0 (Kept wc Z k La) ∧ Aside0 (Kept wc (Z + 1) k Lb) ∧ Aside0 (Kept wc (Z + 1 + 1) k Lc) ∧ Aside0 (Kept wc (Z + 1 + 1 + 1) k ((l.take m).filter (taken k))) ∧ Aside0 (Below w.heap.size w wc))
      case first =>
        obtain ⟨b0, b1, b2, b3, b4, b5, bB, rB⟩ := QB.out
        obtain ⟨d0, d1, d2, d3, d4, d5, bC, rC⟩ := QC.out
        obtain ⟨r0, r1, r2, r3, r4, r5, h, hr⟩ := both_rep hk5 rB rC (by omega)
        have cB0 : wc.cell? ⟨Z + 1, 0, none⟩ = some (.int .i64 b0) := (blk_cell bB 0).trans rfl
        have cB1 : wc.cell? ⟨Z + 1, 1, none⟩ = some (.int .i64 b1) := (blk_cell bB 1).trans rfl
        have cB2 : wc.cell? ⟨Z + 1, 2, none⟩ = some (.int .u64 b2) := (blk_cell bB 2).trans rfl
        have cB3 : wc.cell? ⟨Z + 1, 3, none⟩ = some (.int .i64 b3) := (blk_cell bB 3).trans rfl
        have cB4 : wc.cell? ⟨Z + 1, 4, none⟩ = some (.int .i64 b4) := (blk_cell bB 4).trans rfl
        have cB5 : wc.cell? ⟨Z + 1, 5, none⟩ = some (.string b5) := (blk_cell bB 5).trans rfl
        have cD0 : wc.cell? ⟨Z + 1 + 1, 0, none⟩ = some (.int .i64 d0) := (blk_cell bC 0).trans rfl
        have cD1 : wc.cell? ⟨Z + 1 + 1, 1, none⟩ = some (.int .i64 d1) := (blk_cell bC 1).trans rfl
        have cD2 : wc.cell? ⟨Z + 1 + 1, 2, none⟩ = some (.int .u64 d2) := (blk_cell bC 2).trans rfl
        have cD3 : wc.cell? ⟨Z + 1 + 1, 3, none⟩ = some (.int .i64 d3) := (blk_cell bC 3).trans rfl
        have cD4 : wc.cell? ⟨Z + 1 + 1, 4, none⟩ = some (.int .i64 d4) := (blk_cell bC 4).trans rfl
        have cD5 : wc.cell? ⟨Z + 1 + 1, 5, none⟩ = some (.string d5) := (blk_cell bC 5).trans rfl
        have HH := Aside0.mk h
        have HRR := Aside0.mk hr
        clear bB bC rB rC h hr
        go_wp2_with fail
        refine (agg_Both.calls k b0 b1 b2 b3 b4 b5 d0 d1 d2 d3 d4 d5 r0 r1 r2 r3 r4 r5 0 _ HH.out).mono ?_
        rintro e v2 ⟨rfl, hd2⟩
        have HD := Aside0.mk hd2
        clear hd2
        go_wp2
        go_meet
        case rel => exact ⟨_, rfl, ⟨⟨_, _, _, _, _, _, blk_new _ _, HRR.out⟩⟩, ⟨(QA.out.below HD.out).alloc _⟩, ⟨(QB.out.below HD.out).alloc _⟩, ⟨(QC.out.below HD.out).alloc _⟩, ⟨(QD.out.below HD.out).alloc _⟩, ⟨below_alloc (below_step HB.out HD.out) _⟩⟩
      case rest =>
      clear QA QB QC QD HB 
      obtain ⟨g16, rfl, K16, QA, QB, QC, QD, HB⟩ := hcut
      go_upto_region 21 with (fail)
      go_cut [18] (fun v wc => ∃ g : Nat, v = .pointer (some ⟨g, 0, none⟩) ∧ Aside0 (Kept wc g k (Lb ++ Lc)) ∧ Aside0 (Kept wc Z k La) ∧ Aside0 (Kept wc (Z + 1) k Lb) ∧ Aside0 (Kept wc (Z + 1 + 1) k Lc) ∧ Aside0 (Kept wc (Z + 1 + 1 + 1) k ((l.take m).filter (taken k))) ∧ Aside0 (Kept wc g16 k (Lc ++ Lb)) ∧ Aside0 (Below w.heap.size w wc))
      case first =>
        obtain ⟨b0, b1, b2, b3, b4, b5, bB, rB⟩ := QC.out
        obtain ⟨d0, d1, d2, d3, d4, d5, bC, rC⟩ := QB.out
        obtain ⟨r0, r1, r2, r3, r4, r5, h, hr⟩ := both_rep hk5 rB rC (by omega)
        have cB0 : wc.cell? ⟨Z + 1 + 1, 0, none⟩ = some (.int .i64 b0) := (blk_cell bB 0).trans rfl
        have cB1 : wc.cell? ⟨Z + 1 + 1, 1, none⟩ = some (.int .i64 b1) := (blk_cell bB 1).trans rfl
        have cB2 : wc.cell? ⟨Z + 1 + 1, 2, none⟩ = some (.int .u64 b2) := (blk_cell bB 2).trans rfl
        have cB3 : wc.cell? ⟨Z + 1 + 1, 3, none⟩ = some (.int .i64 b3) := (blk_cell bB 3).trans rfl
        have cB4 : wc.cell? ⟨Z + 1 + 1, 4, none⟩ = some (.int .i64 b4) := (blk_cell bB 4).trans rfl
        have cB5 : wc.cell? ⟨Z + 1 + 1, 5, none⟩ = some (.string b5) := (blk_cell bB 5).trans rfl
        have cD0 : wc.cell? ⟨Z + 1, 0, none⟩ = some (.int .i64 d0) := (blk_cell bC 0).trans rfl
        have cD1 : wc.cell? ⟨Z + 1, 1, none⟩ = some (.int .i64 d1) := (blk_cell bC 1).trans rfl
        have cD2 : wc.cell? ⟨Z + 1, 2, none⟩ = some (.int .u64 d2) := (blk_cell bC 2).trans rfl
        have cD3 : wc.cell? ⟨Z + 1, 3, none⟩ = some (.int .i64 d3) := (blk_cell bC 3).trans rfl
        have cD4 : wc.cell? ⟨Z + 1, 4, none⟩ = some (.int .i64 d4) := (blk_cell bC 4).trans rfl
        have cD5 : wc.cell? ⟨Z + 1, 5, none⟩ = some (.string d5) := (blk_cell bC 5).trans rfl
        have HH := Aside0.mk h
        have HRR := Aside0.mk hr
        clear bB bC rB rC h hr
        go_wp2_with fail
        refine (agg_Both.calls k b0 b1 b2 b3 b4 b5 d0 d1 d2 d3 d4 d5 r0 r1 r2 r3 r4 r5 0 _ HH.out).mono ?_
        rintro e v2 ⟨rfl, hd2⟩
        have HD := Aside0.mk hd2
        clear hd2
        go_wp2
        go_meet
        case rel => exact ⟨_, rfl, ⟨⟨_, _, _, _, _, _, blk_new _ _, HRR.out⟩⟩, ⟨(QA.out.below HD.out).alloc _⟩, ⟨(QB.out.below HD.out).alloc _⟩, ⟨(QC.out.below HD.out).alloc _⟩, ⟨(QD.out.below HD.out).alloc _⟩, ⟨(K16.out.below HD.out).alloc _⟩, ⟨below_alloc (below_step HB.out HD.out) _⟩⟩
      case rest =>
      clear QA QB QC QD HB K16
      obtain ⟨g18, rfl, K18, QA, QB, QC, QD, K16, HB⟩ := hcut
      obtain ⟨q0, q1, q2, hW⟩ : ∃ q0 q1 q2, ∀ (b0 b1 b2 b3 b4 : Int) (b5 : ByteArray) (M : List S26), Rep k b0 b1 b2 b3 b4 b5 M → La.Perm M → agg_Worth.f k b0 b1 b2 b3 b4 b5 = some (q0, q1, q2, 0) := by
        obtain ⟨a0, a1, a2, a3, a4, a5, bA, rA⟩ := QA.out
        obtain ⟨q0, q1, q2, hq⟩ := worth_ok hk5 rA
        exact ⟨q0, q1, q2, fun b0 b1 b2 b3 b4 b5 M hM p => by rw [rep_worth hk5 rA hM p, hq]⟩
      have HW := Aside0.mk hW
      clear hW
      go_upto_region 22 with (fail)
      go_cut [20, 21] (fun v v2 wc => ∃ g : Nat, v = .pointer (some ⟨g, 0, none⟩) ∧ v2 = .int .i64 0 ∧ Aside0 (wc.heap[g]? = some (.cells #[.int .i64 q0, .int .i64 q1, .string q2] 26 (0, 0))) ∧ Aside0 (Kept wc Z k La) ∧ Aside0 (Kept wc (Z + 1) k Lb) ∧ Aside0 (Kept wc (Z + 1 + 1) k Lc) ∧ Aside0 (Kept wc (Z + 1 + 1 + 1) k ((l.take m).filter (taken k))) ∧ Aside0 (Kept wc g16 k (Lc ++ Lb)) ∧ Aside0 (Kept wc g18 k (Lb ++ Lc)) ∧ Aside0 (Below w.heap.size w wc))
      case first =>
        obtain ⟨b0, b1, b2, b3, b4, b5, bB, rB⟩ := QA.out
        have HH := Aside0.mk (HW.out _ _ _ _ _ _ _ rB (List.Perm.refl _))
        have cB0 : wc.cell? ⟨Z, 0, none⟩ = some (.int .i64 b0) := (blk_cell bB 0).trans rfl
        have cB1 : wc.cell? ⟨Z, 1, none⟩ = some (.int .i64 b1) := (blk_cell bB 1).trans rfl
        have cB2 : wc.cell? ⟨Z, 2, none⟩ = some (.int .u64 b2) := (blk_cell bB 2).trans rfl
        have cB3 : wc.cell? ⟨Z, 3, none⟩ = some (.int .i64 b3) := (blk_cell bB 3).trans rfl
        have cB4 : wc.cell? ⟨Z, 4, none⟩ = some (.int .i64 b4) := (blk_cell bB 4).trans rfl
        have cB5 : wc.cell? ⟨Z, 5, none⟩ = some (.string b5) := (blk_cell bB 5).trans rfl
        clear bB rB
        go_wp2_with fail
        refine (agg_Worth.calls k b0 b1 b2 b3 b4 b5 q0 q1 q2 0 _ HH.out).mono ?_
        rintro e v2 ⟨rfl, hd2⟩
        have HD := Aside0.mk hd2
        clear hd2
        go_wp2
        go_meet
        case rel => exact ⟨_, rfl, rfl, ⟨blk_new _ _⟩, ⟨(QA.out.below HD.out).alloc _⟩, ⟨(QB.out.below HD.out).alloc _⟩, ⟨(QC.out.below HD.out).alloc _⟩, ⟨(QD.out.below HD.out).alloc _⟩, ⟨(K16.out.below HD.out).alloc _⟩, ⟨(K18.out.below HD.out).alloc _⟩, ⟨below_alloc (below_step HB.out HD.out) _⟩⟩
      case rest =>
      clear QA QB QC QD HB K16 K18
      obtain ⟨g20, rfl, rfl, K20, QA, QB, QC, QD, K16, K18, HB⟩ := hcut
      go_upto_region 23 with (fail)
      go_cut [22] (fun v wc => ∃ g : Nat, v = .pointer (some ⟨g, 0, none⟩) ∧ Aside0 (wc.heap[g]? = some (.cells #[.int .i64 q0, .int .i64 q1, .string q2] 26 (0, 0))) ∧ Aside0 (Kept wc Z k La) ∧ Aside0 (Kept wc (Z + 1) k Lb) ∧ Aside0 (Kept wc (Z + 1 + 1) k Lc) ∧ Aside0 (Kept wc (Z + 1 + 1 + 1) k ((l.take m).filter (taken k))) ∧ Aside0 (Kept wc g16 k (Lc ++ Lb)) ∧ Aside0 (Kept wc g18 k (Lb ++ Lc)) ∧ Aside0 (wc.heap[g20]? = some (.cells #[.int .i64 q0, .int .i64 q1, .string q2] 26 (0, 0))) ∧ Aside0 (Below w.heap.size w wc))
      case first =>
        obtain ⟨b0, b1, b2, b3, b4, b5, bB, rB⟩ := QD.out
        have HH := Aside0.mk (HW.out _ _ _ _ _ _ _ rB PA.out)
        have cB0 : wc.cell? ⟨Z + 1 + 1 + 1, 0, none⟩ = some (.int .i64 b0) := (blk_cell bB 0).trans rfl
        have cB1 : wc.cell? ⟨Z + 1 + 1 + 1, 1, none⟩ = some (.int .i64 b1) := (blk_cell bB 1).trans rfl
        have cB2 : wc.cell? ⟨Z + 1 + 1 + 1, 2, none⟩ = some (.int .u64 b2) := (blk_cell bB 2).trans rfl
        have cB3 : wc.cell? ⟨Z + 1 + 1 + 1, 3, none⟩ = some (.int .i64 b3) := (blk_cell bB 3).trans rfl
        have cB4 : wc.cell? ⟨Z + 1 + 1 + 1, 4, none⟩ = some (.int .i64 b4) := (blk_cell bB 4).trans rfl
        have cB5 : wc.cell? ⟨Z + 1 + 1 + 1, 5, none⟩ = some (.string b5) := (blk_cell bB 5).trans rfl
        clear bB rB
        go_wp2_with fail
        refine (agg_Worth.calls k b0 b1 b2 b3 b4 b5 q0 q1 q2 0 _ HH.out).mono ?_
        rintro e v2 ⟨rfl, hd2⟩
        have HD := Aside0.mk hd2
        clear hd2
        go_wp2
        go_meet
        case rel => exact ⟨_, rfl, ⟨blk_new _ _⟩, ⟨(QA.out.below HD.out).alloc _⟩, ⟨(QB.out.below HD.out).alloc _⟩, ⟨(QC.out.below HD.out).alloc _⟩, ⟨(QD.out.below HD.out).alloc _⟩, ⟨(K16.out.below HD.out).alloc _⟩, ⟨(K18.out.below HD.out).alloc _⟩, ⟨blk_alloc (blk_below K20.out HD.out) _⟩, ⟨below_alloc (below_step HB.out HD.out) _⟩⟩
      case rest =>
      clear QA QB QC QD HB K16 K18 K20
      obtain ⟨g22, rfl, K22, QA, QB, QC, QD, K16, K18, K20, HB⟩ := hcut
      go_upto_region 24 with (fail)
      go_cut [24] (fun v wc => ∃ g : Nat, v = .pointer (some ⟨g, 0, none⟩) ∧ Aside0 (wc.heap[g]? = some (.cells #[.int .i64 q0, .int .i64 q1, .string q2] 26 (0, 0))) ∧ Aside0 (Kept wc Z k La) ∧ Aside0 (Kept wc (Z + 1) k Lb) ∧ Aside0 (Kept wc (Z + 1 + 1) k Lc) ∧ Aside0 (Kept wc (Z + 1 + 1 + 1) k ((l.take m).filter (taken k))) ∧ Aside0 (Kept wc g16 k (Lc ++ Lb)) ∧ Aside0 (Kept wc g18 k (Lb ++ Lc)) ∧ Aside0 (wc.heap[g20]? = some (.cells #[.int .i64 q0, .int .i64 q1, .string q2] 26 (0, 0))) ∧ Aside0 (wc.heap[g22]? = some (.cells #[.int .i64 q0, .int .i64 q1, .string q2] 26 (0, 0))) ∧ Aside0 (Below w.heap.size w wc))
      case first =>
        obtain ⟨b0, b1, b2, b3, b4, b5, bB, rB⟩ := K16.out
        have HH := Aside0.mk (HW.out _ _ _ _ _ _ _ rB (PB.out.symm.trans List.perm_append_comm))
        have cB0 : wc.cell? ⟨g16, 0, none⟩ = some (.int .i64 b0) := (blk_cell bB 0).trans rfl
        have cB1 : wc.cell? ⟨g16, 1, none⟩ = some (.int .i64 b1) := (blk_cell bB 1).trans rfl
        have cB2 : wc.cell? ⟨g16, 2, none⟩ = some (.int .u64 b2) := (blk_cell bB 2).trans rfl
        have cB3 : wc.cell? ⟨g16, 3, none⟩ = some (.int .i64 b3) := (blk_cell bB 3).trans rfl
        have cB4 : wc.cell? ⟨g16, 4, none⟩ = some (.int .i64 b4) := (blk_cell bB 4).trans rfl
        have cB5 : wc.cell? ⟨g16, 5, none⟩ = some (.string b5) := (blk_cell bB 5).trans rfl
        clear bB rB
        go_wp2_with fail
        refine (agg_Worth.calls k b0 b1 b2 b3 b4 b5 q0 q1 q2 0 _ HH.out).mono ?_
        rintro e v2 ⟨rfl, hd2⟩
        have HD := Aside0.mk hd2
        clear hd2
        go_wp2
        go_meet
        case rel => exact ⟨_, rfl, ⟨blk_new _ _⟩, ⟨(QA.out.below HD.out).alloc _⟩, ⟨(QB.out.below HD.out).alloc _⟩, ⟨(QC.out.below HD.out).alloc _⟩, ⟨(QD.out.below HD.out).alloc _⟩, ⟨(K16.out.below HD.out).alloc _⟩, ⟨(K18.out.below HD.out).alloc _⟩, ⟨blk_alloc (blk_below K20.out HD.out) _⟩, ⟨blk_alloc (blk_below K22.out HD.out) _⟩, ⟨below_alloc (below_step HB.out HD.out) _⟩⟩
      case rest =>
      clear QA QB QC QD HB K16 K18 K20 K22
      obtain ⟨g24, rfl, K24, QA, QB, QC, QD, K16, K18, K20, K22, HB⟩ := hcut
      go_upto_region 25 with (fail)
      go_cut [26] (fun v wc => ∃ g : Nat, v = .pointer (some ⟨g, 0, none⟩) ∧ Aside0 (wc.heap[g]? = some (.cells #[.int .i64 q0, .int .i64 q1, .string q2] 26 (0, 0))) ∧ Aside0 (Kept wc Z k La) ∧ Aside0 (Kept wc (Z + 1) k Lb) ∧ Aside0 (Kept wc (Z + 1 + 1) k Lc) ∧ Aside0 (Kept wc (Z + 1 + 1 + 1) k ((l.take m).filter (taken k))) ∧ Aside0 (Kept wc g16 k (Lc ++ Lb)) ∧ Aside0 (Kept wc g18 k (Lb ++ Lc)) ∧ Aside0 (wc.heap[g20]? = some (.cells #[.int .i64 q0, .int .i64 q1, .string q2] 26 (0, 0))) ∧ Aside0 (wc.heap[g22]? = some (.cells #[.int .i64 q0, .int .i64 q1, .string q2] 26 (0, 0))) ∧ Aside0 (wc.heap[g24]? = some (.cells #[.int .i64 q0, .int .i64 q1, .string q2] 26 (0, 0))) ∧ Aside0 (Below w.heap.size w wc))
      case first =>
        obtain ⟨b0, b1, b2, b3, b4, b5, bB, rB⟩ := K18.out
        have HH := Aside0.mk (HW.out _ _ _ _ _ _ _ rB PB.out.symm)
        have cB0 : wc.cell? ⟨g18, 0, none⟩ = some (.int .i64 b0) := (blk_cell bB 0).trans rfl
        have cB1 : wc.cell? ⟨g18, 1, none⟩ = some (.int .i64 b1) := (blk_cell bB 1).trans rfl
        have cB2 : wc.cell? ⟨g18, 2, none⟩ = some (.int .u64 b2) := (blk_cell bB 2).trans rfl
        have cB3 : wc.cell? ⟨g18, 3, none⟩ = some (.int .i64 b3) := (blk_cell bB 3).trans rfl
        have cB4 : wc.cell? ⟨g18, 4, none⟩ = some (.int .i64 b4) := (blk_cell bB 4).trans rfl
        have cB5 : wc.cell? ⟨g18, 5, none⟩ = some (.string b5) := (blk_cell bB 5).trans rfl
        clear bB rB
        go_wp2_with fail
        refine (agg_Worth.calls k b0 b1 b2 b3 b4 b5 q0 q1 q2 0 _ HH.out).mono ?_
        rintro e v2 ⟨rfl, hd2⟩
        have HD := Aside0.mk hd2
        clear hd2
        go_wp2
        go_meet
        case rel => exact ⟨_, rfl, ⟨blk_new _ _⟩, ⟨(QA.out.below HD.out).alloc _⟩, ⟨(QB.out.below HD.out).alloc _⟩, ⟨(QC.out.below HD.out).alloc _⟩, ⟨(QD.out.below HD.out).alloc _⟩, ⟨(K16.out.below HD.out).alloc _⟩, ⟨(K18.out.below HD.out).alloc _⟩, ⟨blk_alloc (blk_below K20.out HD.out) _⟩, ⟨blk_alloc (blk_below K22.out HD.out) _⟩, ⟨blk_alloc (blk_below K24.out HD.out) _⟩, ⟨below_alloc (below_step HB.out HD.out) _⟩⟩
      case rest =>
      clear QA QB QC QD HB K16 K18 K20 K22 K24
      obtain ⟨g26, rfl, K26, QA, QB, QC, QD, K16, K18, K20, K22, K24, HB⟩ := hcut
      have e20 := K20.out
      have cP200 : wc.cell? ⟨g20, 0, none⟩ = some (.int .i64 q0) := (blk_cell e20 0).trans rfl
      have cP201 : wc.cell? ⟨g20, 1, none⟩ = some (.int .i64 q1) := (blk_cell e20 1).trans rfl
      have cP202 : wc.cell? ⟨g20, 2, none⟩ = some (.string q2) := (blk_cell e20 2).trans rfl
      clear e20
      have e22 := K22.out
      have cP220 : wc.cell? ⟨g22, 0, none⟩ = some (.int .i64 q0) := (blk_cell e22 0).trans rfl
      have cP221 : wc.cell? ⟨g22, 1, none⟩ = some (.int .i64 q1) := (blk_cell e22 1).trans rfl
      have cP222 : wc.cell? ⟨g22, 2, none⟩ = some (.string q2) := (blk_cell e22 2).trans rfl
      clear e22
      have e24 := K24.out
      have cP240 : wc.cell? ⟨g24, 0, none⟩ = some (.int .i64 q0) := (blk_cell e24 0).trans rfl
      have cP241 : wc.cell? ⟨g24, 1, none⟩ = some (.int .i64 q1) := (blk_cell e24 1).trans rfl
      have cP242 : wc.cell? ⟨g24, 2, none⟩ = some (.string q2) := (blk_cell e24 2).trans rfl
      clear e24
      have e26 := K26.out
      have cP260 : wc.cell? ⟨g26, 0, none⟩ = some (.int .i64 q0) := (blk_cell e26 0).trans rfl
      have cP261 : wc.cell? ⟨g26, 1, none⟩ = some (.int .i64 q1) := (blk_cell e26 1).trans rfl
      have cP262 : wc.cell? ⟨g26, 2, none⟩ = some (.string q2) := (blk_cell e26 2).trans rfl
      clear e26
      go_wp2
      go_ret
      exact ⟨rfl, HB.out⟩
  go_wp2_with fail
  go_loopg [12] (l.length) (fun kq v12 wr => ∃ i : Nat, v12 = .int .i64 i ∧ Aside0 (i + kq = l.length) ∧ Aside0 (i ≤ 200) ∧ Aside0 (St k l Z i wr) ∧ Aside0 (Below w.heap.size w wr))
  case atStart => exact ⟨0, rfl, ⟨by omega⟩, ⟨by omega⟩, ST, HB⟩
  case round =>
    clear ST HB
    obtain ⟨i, rfl, HI, HI2, ST, HB⟩ := hrel
    by_cases hgo : i < l.length ∧ i < 200
    · obtain ⟨hlt, h200⟩ := hgo
      have hlb : decide ((i : Int) < (l.length : Int)) = true := decide_eq_true (by omega)
      have hlb2 : decide (i < l.length) = true := decide_eq_true hlt
      have hlc : decide ((i : Int) < 200) = true := decide_eq_true (by omega)
      have hlc2 : decide (i < 200) = true := decide_eq_true h200
      have hi1 : (i : Int) + 1 ≤ 9223372036854775807 := by omega
      obtain ⟨⟨n0, n1, n2⟩, hn⟩ : ∃ x, rd_T26 l (i : Int) = x := ⟨_, rfl⟩
      have hel : l[i] = ⟨n0, n1, n2⟩ := by
        rw [← hn]
        unfold rd_T26
        rw [Int.toNat_natCast, List.getD_eq_getElem?_getD, List.getElem?_eq_getElem hlt]
        rfl
      have hn64 : in64 n1 := by
        have := H64.out l[i] (List.getElem_mem hlt)
        rw [hel] at this
        exact this
      obtain ⟨ad, rfl, hcell0, hcell1, hcell2⟩ := at_T26 (Kd.C_below HR.out HB.out) (i : Int) (by omega) (by omega)
      rw [hn, Int.toNat_natCast] at hcell0 hcell1 hcell2
      have hstep := take_step l i hlt (taken k)
      rw [hel] at hstep
      obtain ⟨La, Lb, Lc, KA, KB, KC, KD, pa, pb⟩ := ST.out
      have hl1 : La.length ≤ i := by
        rw [pa.length_eq]
        exact Nat.le_trans (List.length_filter_le ..) (by rw [List.length_take]; omega)
      have hl2 : Lb.length + Lc.length ≤ i := by
        have := pb.length_eq
        rw [List.length_append] at this
        omega
      have H1 := Aside0.mk hstep
      have HE := Aside0.mk hn64
      have QA := Aside0.mk KA
      have QB := Aside0.mk KB
      have QC := Aside0.mk KC
      have QD := Aside0.mk KD
      have PA := Aside0.mk pa
      have PB := Aside0.mk pb
      clear ST hn hel hn64 hstep KA KB KC KD pa pb
      go_wp2_with fail
      refine (headgateref03_Check.calls 2 n0 n1 n2 _ _ (refCheck_eq 0 n0 n1 n2)).mono ?_
      rintro e v1 ⟨rfl, hb2⟩
      have bX : v1.heap[wr.heap.size]? = some (.cells #[.int .i64 n0, .int .i64 n1, .string n2] 26 (0, 0)) := blk_below (blk_new _ _) hb2
      have KA := (QA.out.alloc _).below hb2
      have KB := (QB.out.alloc _).below hb2
      have KC := (QC.out.alloc _).below hb2
      have KD := (QD.out.alloc _).below hb2
      have HB1 : Aside0 (Below w.heap.size w v1) := ⟨below_step (below_alloc HB.out _) hb2⟩
      have hXZ : Z + 1 + 1 + 1 < wr.heap.size := QD.out.lt
      clear hcell0 hcell1 hcell2 hb2 QA QB QC QD HB
      generalize wr.heap.size = X at bX hXZ ⊢
      by_cases hcc : counts k ⟨n0, n1, n2⟩ = true
      · have hcc' : (checkV n0 n1 n2 != 0) = false ∧ ((k == 3) = false ∨ ((k == 3) = true ∧ decide (1 < n0) = false)) := by
          unfold counts at hcc
          simp only [Bool.and_eq_true, decide_eq_true_eq, Bool.not_eq_true', Bool.and_eq_false_iff, decide_eq_false_iff_not] at hcc
          refine ⟨by simpa using hcc.1, ?_⟩
          by_cases k3 : k = 3
          · exact .inr ⟨by simpa using k3, decide_eq_false (by omega)⟩
          · exact .inl (by simpa using k3)
        obtain ⟨c1, c2⟩ := hcc'
        have HC := Aside0.mk hcc
        clear hcc
        obtain ⟨a0, a1, a2, a3, a4, a5, bA, rA⟩ := KA
        obtain ⟨x0, x1, x2, x3, x4, x5, hA, rA'⟩ := add_rep hk5 ⟨n0, n1, n2⟩ HE.out HC.out rA (by omega)
        have HA := Aside0.mk hA
        have cX0 : v1.cell? ⟨X, 0, none⟩ = some (.int .i64 n0) := (blk_cell bX 0).trans rfl
        have cX1 : v1.cell? ⟨X, 1, none⟩ = some (.int .i64 n1) := (blk_cell bX 1).trans rfl
        have cX2 : v1.cell? ⟨X, 2, none⟩ = some (.string n2) := (blk_cell bX 2).trans rfl
        clear hA rA
        rcases c2 with c2 | ⟨c2, c3⟩
        all_goals
          go_upto_region 10 with (fail)
          have cA0 : v1.cell? ⟨Z, 0, none⟩ = some (.int .i64 a0) := (blk_cell bA 0).trans rfl
          have cA1 : v1.cell? ⟨Z, 1, none⟩ = some (.int .i64 a1) := (blk_cell bA 1).trans rfl
          have cA2 : v1.cell? ⟨Z, 2, none⟩ = some (.int .u64 a2) := (blk_cell bA 2).trans rfl
          have cA3 : v1.cell? ⟨Z, 3, none⟩ = some (.int .i64 a3) := (blk_cell bA 3).trans rfl
          have cA4 : v1.cell? ⟨Z, 4, none⟩ = some (.int .i64 a4) := (blk_cell bA 4).trans rfl
          have cA5 : v1.cell? ⟨Z, 5, none⟩ = some (.string a5) := (blk_cell bA 5).trans rfl
          have BA := Aside0.mk bA
          have RA := Aside0.mk rA'
          have BX := Aside0.mk bX
          clear bA rA' bX
          go_cut [60] (fun v60 wc => Aside0 (Kept wc Z k (if taken k ⟨n0, n1, n2⟩ = true then ⟨n0, n1, n2⟩ :: La else La)) ∧ Aside0 (Kept wc (Z + 1) k Lb) ∧ Aside0 (Kept wc (Z + 1 + 1) k Lc) ∧ Aside0 (Kept wc (Z + 1 + 1 + 1) k []) ∧ Aside0 (wc.heap[X]? = some (.cells #[.int .i64 n0, .int .i64 n1, .string n2] 26 (0, 0))) ∧ Aside0 (Below w.heap.size w wc))
        all_goals try (case first =>
          go_wp2_with fail
          refine (agg_Add.calls k a0 a1 a2 a3 a4 a5 n0 n1 n2 x0 x1 x2 x3 x4 x5 0 _ HA.out).mono ?_
          rintro e v2 ⟨rfl, hd2⟩
          have bA2 := blk_below BA.out hd2
          have cG0 : v2.cell? ⟨Z, 0, none⟩ = some (.int .i64 a0) := (blk_cell bA2 0).trans rfl
          have fG0 : v2.frozen? ⟨Z, 0, none⟩ = false := blk_frozen bA2 0
          have cG1 : v2.cell? ⟨Z, 1, none⟩ = some (.int .i64 a1) := (blk_cell bA2 1).trans rfl
          have fG1 : v2.frozen? ⟨Z, 1, none⟩ = false := blk_frozen bA2 1
          have cG2 : v2.cell? ⟨Z, 2, none⟩ = some (.int .u64 a2) := (blk_cell bA2 2).trans rfl
          have fG2 : v2.frozen? ⟨Z, 2, none⟩ = false := blk_frozen bA2 2
          have cG3 : v2.cell? ⟨Z, 3, none⟩ = some (.int .i64 a3) := (blk_cell bA2 3).trans rfl
          have fG3 : v2.frozen? ⟨Z, 3, none⟩ = false := blk_frozen bA2 3
          have cG4 : v2.cell? ⟨Z, 4, none⟩ = some (.int .i64 a4) := (blk_cell bA2 4).trans rfl
          have fG4 : v2.frozen? ⟨Z, 4, none⟩ = false := blk_frozen bA2 4
          have cG5 : v2.cell? ⟨Z, 5, none⟩ = some (.string a5) := (blk_cell bA2 5).trans rfl
          have fG5 : v2.frozen? ⟨Z, 5, none⟩ = false := blk_frozen bA2 5
          have BA2 := Aside0.mk bA2
          clear bA2
          go_wp2
          go_meet
          case rel => exact ⟨⟨⟨_, _, _, _, _, _, blk_put6 BA2.out (.int .i64 x0) (.int .i64 x1) (.int .u64 x2) (.int .i64 x3) (.int .i64 x4) (.string x5), RA.out⟩⟩, ⟨(KB.below hd2).far (by omega) _ _ _ _ _ _⟩, ⟨(KC.below hd2).far (by omega) _ _ _ _ _ _⟩, ⟨(KD.below hd2).far (by omega) _ _ _ _ _ _⟩, ⟨blk_far6 (blk_below BX.out hd2) (show X ≠ Z by omega) _ _ _ _ _ _⟩, ⟨below_set6 (below_step HB1.out hd2) hZ0 _ _ _ _ _ _⟩⟩)
        all_goals
          obtain ⟨QA, QB, QC, QD, BX, HB⟩ := hcut
          clear cX0 cX1 cX2 HA BA RA KB KC KD HB1
          have bX := BX.out
          have cY0 : wc.cell? ⟨X, 0, none⟩ = some (.int .i64 n0) := (blk_cell bX 0).trans rfl
          have cY1 : wc.cell? ⟨X, 1, none⟩ = some (.int .i64 n1) := (blk_cell bX 1).trans rfl
          have cY2 : wc.cell? ⟨X, 2, none⟩ = some (.string n2) := (blk_cell bX 2).trans rfl
          obtain ⟨b0, b1, b2, b3, b4, b5, bB, rB⟩ := QB.out
          obtain ⟨d0, d1, d2, d3, d4, d5, bC, rC⟩ := QC.out
          obtain ⟨y0, y1, y2, y3, y4, y5, hA, rB'⟩ := add_rep hk5 ⟨n0, n1, n2⟩ HE.out HC.out rB (by omega)
          obtain ⟨z0, z1, z2, z3, z4, z5, hA2, rC'⟩ := add_rep hk5 ⟨n0, n1, n2⟩ HE.out HC.out rC (by omega)
          have cB0 : wc.cell? ⟨Z + 1, 0, none⟩ = some (.int .i64 b0) := (blk_cell bB 0).trans rfl
          have cB1 : wc.cell? ⟨Z + 1, 1, none⟩ = some (.int .i64 b1) := (blk_cell bB 1).trans rfl
          have cB2 : wc.cell? ⟨Z + 1, 2, none⟩ = some (.int .u64 b2) := (blk_cell bB 2).trans rfl
          have cB3 : wc.cell? ⟨Z + 1, 3, none⟩ = some (.int .i64 b3) := (blk_cell bB 3).trans rfl
          have cB4 : wc.cell? ⟨Z + 1, 4, none⟩ = some (.int .i64 b4) := (blk_cell bB 4).trans rfl
          have cB5 : wc.cell? ⟨Z + 1, 5, none⟩ = some (.string b5) := (blk_cell bB 5).trans rfl
          have cD0 : wc.cell? ⟨Z + 1 + 1, 0, none⟩ = some (.int .i64 d0) := (blk_cell bC 0).trans rfl
          have cD1 : wc.cell? ⟨Z + 1 + 1, 1, none⟩ = some (.int .i64 d1) := (blk_cell bC 1).trans rfl
          have cD2 : wc.cell? ⟨Z + 1 + 1, 2, none⟩ = some (.int .u64 d2) := (blk_cell bC 2).trans rfl
          have cD3 : wc.cell? ⟨Z + 1 + 1, 3, none⟩ = some (.int .i64 d3) := (blk_cell bC 3).trans rfl
          have cD4 : wc.cell? ⟨Z + 1 + 1, 4, none⟩ = some (.int .i64 d4) := (blk_cell bC 4).trans rfl
          have cD5 : wc.cell? ⟨Z + 1 + 1, 5, none⟩ = some (.string d5) := (blk_cell bC 5).trans rfl
          have HA := Aside0.mk hA
          have HA2 := Aside0.mk hA2
          have BB := Aside0.mk bB
          have BC := Aside0.mk bC
          have RB := Aside0.mk rB'
          have RC := Aside0.mk rC'
          clear bX bB bC rB rC rB' rC' hA hA2
          obtain ⟨k1, rfl⟩ : ∃ k1, gk = k1 + 1 := ⟨gk - 1, by have := HI.out; omega⟩
          by_cases hdc : (i : Int) % 5 < cut % 5
          · have hd5 : decide ((i : Int) % 5 < cut % 5) = true := decide_eq_true hdc
            clear hdc HA2
            go_wp2_with fail
            refine (agg_Add.calls k b0 b1 b2 b3 b4 b5 n0 n1 n2 y0 y1 y2 y3 y4 y5 0 _ HA.out).mono ?_
            rintro e v3 ⟨rfl, hd3⟩
            have bB3 := blk_below BB.out hd3
            have cG0 : v3.cell? ⟨Z + 1, 0, none⟩ = some (.int .i64 b0) := (blk_cell bB3 0).trans rfl
            have fG0 : v3.frozen? ⟨Z + 1, 0, none⟩ = false := blk_frozen bB3 0
            have cG1 : v3.cell? ⟨Z + 1, 1, none⟩ = some (.int .i64 b1) := (blk_cell bB3 1).trans rfl
            have fG1 : v3.frozen? ⟨Z + 1, 1, none⟩ = false := blk_frozen bB3 1
            have cG2 : v3.cell? ⟨Z + 1, 2, none⟩ = some (.int .u64 b2) := (blk_cell bB3 2).trans rfl
            have fG2 : v3.frozen? ⟨Z + 1, 2, none⟩ = false := blk_frozen bB3 2
            have cG3 : v3.cell? ⟨Z + 1, 3, none⟩ = some (.int .i64 b3) := (blk_cell bB3 3).trans rfl
            have fG3 : v3.frozen? ⟨Z + 1, 3, none⟩ = false := blk_frozen bB3 3
            have cG4 : v3.cell? ⟨Z + 1, 4, none⟩ = some (.int .i64 b4) := (blk_cell bB3 4).trans rfl
            have fG4 : v3.frozen? ⟨Z + 1, 4, none⟩ = false := blk_frozen bB3 4
            have cG5 : v3.cell? ⟨Z + 1, 5, none⟩ = some (.string b5) := (blk_cell bB3 5).trans rfl
            have fG5 : v3.frozen? ⟨Z + 1, 5, none⟩ = false := blk_frozen bB3 5
            have BB3 := Aside0.mk bB3
            have HD3 := Aside0.mk hd3
            clear bB3 hd3
            go_wp2
            go_roundg k1
            case measure => omega
            case rel => exact ⟨i + 1, by congr 1, ⟨by have := HI.out; omega⟩, ⟨by omega⟩, ⟨⟨_, _, _, (QA.out.below HD3.out).far (by omega) _ _ _ _ _ _, ⟨_, _, _, _, _, _, blk_put6 BB3.out (.int .i64 y0) (.int .i64 y1) (.int .u64 y2) (.int .i64 y3) (.int .i64 y4) (.string y5), RB.out⟩, (QC.out.below HD3.out).far (by omega) _ _ _ _ _ _, (QD.out.below HD3.out).far (by omega) _ _ _ _ _ _, H1.out ▸ st_a PA.out, st_b PB.out⟩⟩, ⟨below_set6 (below_step HB.out HD3.out) (by omega) _ _ _ _ _ _⟩⟩
          · have hd5 : decide ((i : Int) % 5 < cut % 5) = false := decide_eq_false hdc
            clear hdc HA
            go_wp2_with fail
            refine (agg_Add.calls k d0 d1 d2 d3 d4 d5 n0 n1 n2 z0 z1 z2 z3 z4 z5 0 _ HA2.out).mono ?_
            rintro e v3 ⟨rfl, hd3⟩
            have bC3 := blk_below BC.out hd3
            have cG0 : v3.cell? ⟨Z + 1 + 1, 0, none⟩ = some (.int .i64 d0) := (blk_cell bC3 0).trans rfl
            have fG0 : v3.frozen? ⟨Z + 1 + 1, 0, none⟩ = false := blk_frozen bC3 0
            have cG1 : v3.cell? ⟨Z + 1 + 1, 1, none⟩ = some (.int .i64 d1) := (blk_cell bC3 1).trans rfl
            have fG1 : v3.frozen? ⟨Z + 1 + 1, 1, none⟩ = false := blk_frozen bC3 1
            have cG2 : v3.cell? ⟨Z + 1 + 1, 2, none⟩ = some (.int .u64 d2) := (blk_cell bC3 2).trans rfl
            have fG2 : v3.frozen? ⟨Z + 1 + 1, 2, none⟩ = false := blk_frozen bC3 2
            have cG3 : v3.cell? ⟨Z + 1 + 1, 3, none⟩ = some (.int .i64 d3) := (blk_cell bC3 3).trans rfl
            have fG3 : v3.frozen? ⟨Z + 1 + 1, 3, none⟩ = false := blk_frozen bC3 3
            have cG4 : v3.cell? ⟨Z + 1 + 1, 4, none⟩ = some (.int .i64 d4) := (blk_cell bC3 4).trans rfl
            have fG4 : v3.frozen? ⟨Z + 1 + 1, 4, none⟩ = false := blk_frozen bC3 4
            have cG5 : v3.cell? ⟨Z + 1 + 1, 5, none⟩ = some (.string d5) := (blk_cell bC3 5).trans rfl
            have fG5 : v3.frozen? ⟨Z + 1 + 1, 5, none⟩ = false := blk_frozen bC3 5
            have BC3 := Aside0.mk bC3
            have HD3 := Aside0.mk hd3
            clear bC3 hd3
            go_wp2
            go_roundg k1
            case measure => omega
            case rel => exact ⟨i + 1, by congr 1, ⟨by have := HI.out; omega⟩, ⟨by omega⟩, ⟨⟨_, _, _, (QA.out.below HD3.out).far (by omega) _ _ _ _ _ _, (QB.out.below HD3.out).far (by omega) _ _ _ _ _ _, ⟨_, _, _, _, _, _, blk_put6 BC3.out (.int .i64 z0) (.int .i64 z1) (.int .u64 z2) (.int .i64 z3) (.int .i64 z4) (.string z5), RC.out⟩, (QD.out.below HD3.out).far (by omega) _ _ _ _ _ _, H1.out ▸ st_a PA.out, st_c PB.out⟩⟩, ⟨below_set6 (below_step HB.out HD3.out) (by omega) _ _ _ _ _ _⟩⟩
      · have hcc' : (checkV n0 n1 n2 != 0) = true ∨ ((checkV n0 n1 n2 != 0) = false ∧ (k == 3) = true ∧ decide (1 < n0) = true) := by
          unfold counts at hcc
          simp only [Bool.and_eq_true, decide_eq_true_eq, Bool.not_eq_true', Bool.and_eq_false_iff, decide_eq_false_iff_not] at hcc
          by_cases h0 : checkV n0 n1 n2 = 0
          · have h3 : k = 3 := by omega
            have h4 : 1 < n0 := by omega
            exact .inr ⟨by simpa using h0, by simpa using h3, decide_eq_true h4⟩
          · exact .inl (by simpa using h0)
        have ht := st_skip hcc
        rw [ht] at H1
        have KST : Aside0 (St k l Z (i + 1) v1) := ⟨⟨La, Lb, Lc, KA, KB, KC, KD, by rw [H1.out]; simpa using PA.out, PB.out⟩⟩
        have cX0 : v1.cell? ⟨X, 0, none⟩ = some (.int .i64 n0) := (blk_cell bX 0).trans rfl
        have cX1 : v1.cell? ⟨X, 1, none⟩ = some (.int .i64 n1) := (blk_cell bX 1).trans rfl
        have cX2 : v1.cell? ⟨X, 2, none⟩ = some (.string n2) := (blk_cell bX 2).trans rfl
        clear bX hcc KA KB KC KD ht
        obtain ⟨k1, rfl⟩ : ∃ k1, gk = k1 + 1 := ⟨gk - 1, by have := HI.out; omega⟩
        rcases hcc' with c1 | ⟨c1, c2, c3⟩
        all_goals
          go_wp2
          go_roundg k1
          case measure => omega
          case rel => exact ⟨i + 1, by congr 1, ⟨by have := HI.out; omega⟩, ⟨by omega⟩, KST, HB1⟩
    · have hI := HI.out
      have hI2 := HI2.out
      rcases (show ¬ i < l.length ∨ (i < l.length ∧ ¬ i < 200) by omega) with hx | ⟨hx, hy⟩
      · have hlb : decide ((i : Int) < (l.length : Int)) = false := decide_eq_false (by omega)
        have hlb2 : decide (i < l.length) = false := decide_eq_false hx
        have hmin : min l.length 200 = i := by omega
        rw [← hmin] at ST
        clear hx hgo hmin
        go_wp2
        go_meet
        case rel => exact ⟨ST, HB⟩
      · have hlb : decide ((i : Int) < (l.length : Int)) = true := decide_eq_true (by omega)
        have hlb2 : decide (i < l.length) = true := decide_eq_true hx
        have hlc : decide ((i : Int) < 200) = false := decide_eq_false (by omega)
        have hlc2 : decide (i < 200) = false := decide_eq_false hy
        have hmin : min l.length 200 = i := by omega
        rw [← hmin] at ST
        clear hx hy hgo hmin
        go_wp2
        go_meet
        case rel => exact ⟨ST, HB⟩

def headgatelaw15_AggOrders.f (k : Nat) (a0 : Int) (l1 : List S26) (a2 : Int) : Option Bool := if (decide (0 ≤ a0 ∧ a0 ≤ 255) && decide (0 ≤ a2 ∧ a2 ≤ 255) && l1.all (fun v => decide (-9223372036854775808 ≤ v.f1 ∧ v.f1 ≤ 9223372036854775807))) = true then some true else none
theorem headgatelaw15_AggOrders.calls (k : Nat) (a0 : Int) (A1 : Option Addr) (c1 : Nat) (l1 : List S26) (a2 : Int) (r : Bool) (w : World) (hr1 : Kd.C k26 w A1 l1.length l1) (hc1 : l1.length ≤ c1) (h : headgatelaw15_AggOrders.f k a0 l1 a2 = some r) :
    Calls Try.prog 6 #[.int .u8 a0, .slice A1 l1.length c1, .int .u8 a2] w fun e w' => e = .returned (.bool r) ∧ Below w.heap.size w w' := by
  unfold headgatelaw15_AggOrders.f at h
  split at h
  · rename_i ha
    cases h
    simp only [Bool.and_eq_true, decide_eq_true_eq] at ha
    exact orders_calls a0 a2 ha.1.1 ha.1.2 A1 c1 l1 w hr1 hc1 fun v hv => of_decide_eq_true (List.all_eq_true.1 ha.2 v hv)
  · cases h
theorem wfu8 {x : Int} (h : (Lit.int .u8 x).wf = true) : 0 ≤ x ∧ x ≤ 255 := by
  have hmin : IntKind.u8.min = 0 := rfl
  have hmax : IntKind.u8.max = 255 := rfl
  simp only [Lit.wf, Bool.and_eq_true, decide_eq_true_eq] at h
  omega
theorem AggOrders_pure (a0 : Int) (l1 : List S26) (a2 : Int) (w0 : (Lit.int .u8 a0).wf = true) (hg1 : l1.length * 32 ≤ 140737488351232 ∧ ∀ y ∈ l1, ((Lit.int .i64 y.f0).wf = true) ∧ ((Lit.int .i64 y.f1).wf = true) ∧ (y.f2.size ≤ 140737488351232)) (w2 : (Lit.int .u8 a2).wf = true) :
    ∃ k, headgatelaw15_AggOrders.f k a0 l1 a2 = some true := by
  refine ⟨0, if_pos ?_⟩
  rw [Bool.and_eq_true, Bool.and_eq_true]
  refine ⟨⟨decide_eq_true (wfu8 w0), decide_eq_true (wfu8 w2)⟩, List.all_eq_true.2 fun v hv => decide_eq_true ?_⟩
  have := wf64 (hg1.2 v hv).2.1
  unfold in64 at this
  exact this
end Go.Proofs.Ytphdbhneefmkcaa.Q
