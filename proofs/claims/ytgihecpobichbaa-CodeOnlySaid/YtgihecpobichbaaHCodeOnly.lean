/- The law CodeOnly: walked. Printed by wip/gen/codeonly.py. -/
import Derived.Test.YtgihecpobichbaaVarT
import Derived.Test.YtgihecpobichbaaJx1
namespace Go.Proofs.Ytgihecpobichbaa.Q
open Go.RowKit Go.Proofs.YtgihecpobichbaaW.PrintWords Go.Proofs.YtgihecpobichbaaW.PrintLast Go.Proofs.YtgihecpobichbaaW.PrintMore
set_option linter.unusedVariables false
set_option linter.unusedSimpArgs false
theorem alive04 : headgatelaw04_alive.f 30 = some true := by kernel_rfl
/-- code.Unrows of a text's bytes, wherever they were laid. -/
theorem unR_text (s : ByteArray) (hs : s.size ≤ 4000) (W : World) : Calls Try.prog 29 #[.slice (some ⟨W.heap.size, 0, none⟩) s.size (grownCap W s.size 0 5)] (Lib.bytesWorld W 5 s) fun e w' =>
    ∃ v0_ : Value, e = .returned (.tuple #[v0_, .int .i64 (readR (bytesOf s)).2]) ∧ Kd.R (Kd.slice 116 k116) 111 w' (Lib.bytesWorld W 5 s).heap.size (fun _ => True) v0_ (readR (bytesOf s)).1 ∧ Below (Lib.bytesWorld W 5 s).heap.size (Lib.bytesWorld W 5 s) w' := by
  have hlen := bytesOf_length s
  have hC : Kd.C (Kd.int .u8) (Lib.bytesWorld W 5 s) (some ⟨W.heap.size, 0, none⟩) s.size (bytesOf s) := Kd.C_of_reads (bytes_reads W 5 s (by omega))
  have hcap : s.size ≤ grownCap W s.size 0 5 := grownCap_ge _ _ _ _
  have hcall := code_Unrows.calls 0 (some ⟨W.heap.size, 0, none⟩) (grownCap W s.size 0 5) (bytesOf s) (readR (bytesOf s)).1 (readR (bytesOf s)).2 (Lib.bytesWorld W 5 s) (by rw [hlen]; exact hC) (by rw [hlen]; exact hcap) (if_pos (by omega))
  rw [hlen] at hcall
  exact hcall
/-- code.Uncols of a text's bytes, wherever they were laid. -/
theorem unC_text (s : ByteArray) (hs : s.size ≤ 4000) (W : World) : Calls Try.prog 30 #[.slice (some ⟨W.heap.size, 0, none⟩) s.size (grownCap W s.size 0 5)] (Lib.bytesWorld W 5 s) fun e w' =>
    ∃ v0_ : Value, e = .returned (.tuple #[v0_, .int .i64 (readC (bytesOf s)).2]) ∧ Kd.R k43 43 w' (Lib.bytesWorld W 5 s).heap.size (fun _ => True) v0_ (readC (bytesOf s)).1 ∧ Below (Lib.bytesWorld W 5 s).heap.size (Lib.bytesWorld W 5 s) w' := by
  have hlen := bytesOf_length s
  have hC : Kd.C (Kd.int .u8) (Lib.bytesWorld W 5 s) (some ⟨W.heap.size, 0, none⟩) s.size (bytesOf s) := Kd.C_of_reads (bytes_reads W 5 s (by omega))
  have hcap : s.size ≤ grownCap W s.size 0 5 := grownCap_ge _ _ _ _
  have hcall := code_Uncols.calls 0 (some ⟨W.heap.size, 0, none⟩) (grownCap W s.size 0 5) (bytesOf s) (readC (bytesOf s)).1 (readC (bytesOf s)).2 (Lib.bytesWorld W 5 s) (by rw [hlen]; exact hC) (by rw [hlen]; exact hcap) (if_pos (by omega))
  rw [hlen] at hcall
  exact hcall
/-- code.Unpairs of a text's bytes, wherever they were laid. -/
theorem unP_text (s : ByteArray) (hs : s.size ≤ 4000) (W : World) : Calls Try.prog 31 #[.slice (some ⟨W.heap.size, 0, none⟩) s.size (grownCap W s.size 0 5)] (Lib.bytesWorld W 5 s) fun e w' =>
    ∃ v0_ : Value, e = .returned (.tuple #[v0_, .int .i64 (readP (bytesOf s)).2]) ∧ Kd.R k74 74 w' (Lib.bytesWorld W 5 s).heap.size (fun _ => True) v0_ (readP (bytesOf s)).1 ∧ Below (Lib.bytesWorld W 5 s).heap.size (Lib.bytesWorld W 5 s) w' := by
  have hlen := bytesOf_length s
  have hC : Kd.C (Kd.int .u8) (Lib.bytesWorld W 5 s) (some ⟨W.heap.size, 0, none⟩) s.size (bytesOf s) := Kd.C_of_reads (bytes_reads W 5 s (by omega))
  have hcap : s.size ≤ grownCap W s.size 0 5 := grownCap_ge _ _ _ _
  have hcall := code_Unpairs.calls 0 (some ⟨W.heap.size, 0, none⟩) (grownCap W s.size 0 5) (bytesOf s) (readP (bytesOf s)).1 (readP (bytesOf s)).2 (Lib.bytesWorld W 5 s) (by rw [hlen]; exact hC) (by rw [hlen]; exact hcap) (if_pos (by omega))
  rw [hlen] at hcall
  exact hcall
/-- code.Unnums of a text's bytes, wherever they were laid. -/
theorem unI_text (s : ByteArray) (hs : s.size ≤ 4000) (W : World) : Calls Try.prog 32 #[.slice (some ⟨W.heap.size, 0, none⟩) s.size (grownCap W s.size 0 5)] (Lib.bytesWorld W 5 s) fun e w' =>
    ∃ v0_ : Value, e = .returned (.tuple #[v0_, .int .i64 (readI (bytesOf s)).2]) ∧ Kd.R (Kd.int .i64) 2 w' (Lib.bytesWorld W 5 s).heap.size (fun _ => True) v0_ (readI (bytesOf s)).1 ∧ Below (Lib.bytesWorld W 5 s).heap.size (Lib.bytesWorld W 5 s) w' := by
  have hlen := bytesOf_length s
  have hC : Kd.C (Kd.int .u8) (Lib.bytesWorld W 5 s) (some ⟨W.heap.size, 0, none⟩) s.size (bytesOf s) := Kd.C_of_reads (bytes_reads W 5 s (by omega))
  have hcap : s.size ≤ grownCap W s.size 0 5 := grownCap_ge _ _ _ _
  have hcall := code_Unnums.calls 0 (some ⟨W.heap.size, 0, none⟩) (grownCap W s.size 0 5) (bytesOf s) (readI (bytesOf s)).1 (readI (bytesOf s)).2 (Lib.bytesWorld W 5 s) (by rw [hlen]; exact hC) (by rw [hlen]; exact hcap) (if_pos (by omega))
  rw [hlen] at hcall
  exact hcall
set_option maxHeartbeats 8000000 in
set_option maxRecDepth 100000 in
theorem only_walk (s : ByteArray) (hs : s.size ≤ 2000) (w : World) (lR : List (List Va)) (eR : Int) (hR : readR (bytesOf s) = (lR, eR)) (KR : Nat) (tR : eR = 0 → code_Rows.f KR lR = some (bytesOf s, 0)) (lC : List Co) (eC : Int) (hC : readC (bytesOf s) = (lC, eC)) (KC : Nat) (tC : eC = 0 → code_Cols.f KC lC = some (bytesOf s, 0)) (lP : List Pa) (eP : Int) (hP : readP (bytesOf s) = (lP, eP)) (KP : Nat) (tP : eP = 0 → code_Pairs.f KP lP = some (bytesOf s, 0)) (lI : List Int) (eI : Int) (hI : readI (bytesOf s) = (lI, eI)) (KI : Nat) (tI : eI = 0 → code_Nums.f KI lI = some (bytesOf s, 0)) (hN : eI ≠ 0 → lI = []) :
    Calls Try.prog 8 #[.string s] w fun e w' => e = .returned (.bool true) ∧ Below w.heap.size w w' := by
  have kb := fun W => print_bytes (P := Try.prog) 9 27 5 Try.underlying9 Try.underlying27 Try.underlying5 s W
  have hs1 : decide (2000 < (s.size : Int)) = false := decide_eq_false (by omega)
  have hs2 : decide (2000 < s.size) = false := decide_eq_false (by omega)
  have UR : Aside0 (∀ W, Calls Try.prog 29 #[.slice (some ⟨W.heap.size, 0, none⟩) s.size (grownCap W s.size 0 5)] (Lib.bytesWorld W 5 s) fun e w' => ∃ v0_ : Value, e = .returned (.tuple #[v0_, .int .i64 eR]) ∧ Kd.R (Kd.slice 116 k116) 111 w' (Lib.bytesWorld W 5 s).heap.size (fun _ => True) v0_ lR ∧ Below (Lib.bytesWorld W 5 s).heap.size (Lib.bytesWorld W 5 s) w') := ⟨fun W => by have := unR_text s (by omega) W; rw [hR] at this; exact this⟩
  have TR := Aside0.mk tR
  have UC : Aside0 (∀ W, Calls Try.prog 30 #[.slice (some ⟨W.heap.size, 0, none⟩) s.size (grownCap W s.size 0 5)] (Lib.bytesWorld W 5 s) fun e w' => ∃ v0_ : Value, e = .returned (.tuple #[v0_, .int .i64 eC]) ∧ Kd.R k43 43 w' (Lib.bytesWorld W 5 s).heap.size (fun _ => True) v0_ lC ∧ Below (Lib.bytesWorld W 5 s).heap.size (Lib.bytesWorld W 5 s) w') := ⟨fun W => by have := unC_text s (by omega) W; rw [hC] at this; exact this⟩
  have TC := Aside0.mk tC
  have UP : Aside0 (∀ W, Calls Try.prog 31 #[.slice (some ⟨W.heap.size, 0, none⟩) s.size (grownCap W s.size 0 5)] (Lib.bytesWorld W 5 s) fun e w' => ∃ v0_ : Value, e = .returned (.tuple #[v0_, .int .i64 eP]) ∧ Kd.R k74 74 w' (Lib.bytesWorld W 5 s).heap.size (fun _ => True) v0_ lP ∧ Below (Lib.bytesWorld W 5 s).heap.size (Lib.bytesWorld W 5 s) w') := ⟨fun W => by have := unP_text s (by omega) W; rw [hP] at this; exact this⟩
  have TP := Aside0.mk tP
  have UI : Aside0 (∀ W, Calls Try.prog 32 #[.slice (some ⟨W.heap.size, 0, none⟩) s.size (grownCap W s.size 0 5)] (Lib.bytesWorld W 5 s) fun e w' => ∃ v0_ : Value, e = .returned (.tuple #[v0_, .int .i64 eI]) ∧ Kd.R (Kd.int .i64) 2 w' (Lib.bytesWorld W 5 s).heap.size (fun _ => True) v0_ lI ∧ Below (Lib.bytesWorld W 5 s).heap.size (Lib.bytesWorld W 5 s) w') := ⟨fun W => by have := unI_text s (by omega) W; rw [hI] at this; exact this⟩
  have TI := Aside0.mk tI
  have NI := Aside0.mk hN
  clear hR tR hC tC hP tP hI tI hN
  go_enter Try.func8, Try.ntmps8
  go_wp2_with fail
  refine (headgatelaw04_alive.calls 30 true _ alive04).mono ?_
  rintro e w1 ⟨rfl, hb1⟩
  have HB := Aside0.mk hb1
  clear hb1
  go_wp2_with fail
  refine (UR.out _).mono ?_
  rintro e wR ⟨vR, rfl, hRR, hbR⟩
  have HBn := Aside0.mk (below_step (bytes_below HB.out HB.out.size 5 s) hbR)
  clear HB
  have HB := HBn
  clear HBn
  obtain ⟨AR, cR, rfl⟩ := Kd.R_slice hRR
  have DR := Aside0.mk (Kd.R_reads' hRR)
  clear hRR hbR
  by_cases zR : eR = 0
  case' pos =>
    subst zR
    have TT := Aside0.mk (TR.out rfl)
    go_wp2_with fail
    refine (code_Rows.calls KR AR cR lR (bytesOf s) 0 _ DR.out.2.2 DR.out.2.1 TT.out).mono ?_
    rintro e xR ⟨bR, rfl, hQR, hcR⟩
    have HBn := Aside0.mk (below_step HB.out hcR)
    clear HB
    have HB := HBn
    clear HBn TT DR
    obtain ⟨BR, dR, rfl⟩ := Kd.R_slice hQR
    have cvR := own_string (P := Try.prog) Try.underlying27 Try.underlying5 Try.underlying9 (Kd.own_of_R hQR)
    rw [strNums_bytesOf] at cvR
    clear hQR hcR
    go_upto_region 10 with (fail)
    clear cvR
  case' neg =>
    have nR : (eR == 0) = false := by simpa using zR
    have mR : (eR != 0) = true := by simpa using zR
    clear DR zR
    go_upto_region 10 with (fail)
    clear nR mR
  all_goals
    go_wp2_with fail
    refine (UC.out _).mono ?_
    rintro e wC ⟨vC, rfl, hRC, hbC⟩
    have HBn := Aside0.mk (below_step (bytes_below HB.out HB.out.size 5 s) hbC)
    clear HB
    have HB := HBn
    clear HBn
    obtain ⟨AC, cC, rfl⟩ := Kd.R_slice hRC
    have DC := Aside0.mk (Kd.R_reads' hRC)
    clear hRC hbC
    by_cases zC : eC = 0
    case' pos =>
      subst zC
      have TT := Aside0.mk (TC.out rfl)
      go_wp2_with fail
      refine (code_Cols.calls KC AC cC lC (bytesOf s) 0 _ DC.out.2.2 DC.out.2.1 TT.out).mono ?_
      rintro e xC ⟨bC, rfl, hQC, hcC⟩
      have HBn := Aside0.mk (below_step HB.out hcC)
      clear HB
      have HB := HBn
      clear HBn TT DC
      obtain ⟨BC, dC, rfl⟩ := Kd.R_slice hQC
      have cvC := own_string (P := Try.prog) Try.underlying27 Try.underlying5 Try.underlying9 (Kd.own_of_R hQC)
      rw [strNums_bytesOf] at cvC
      clear hQC hcC
      go_upto_region 15 with (fail)
      clear cvC
    case' neg =>
      have nC : (eC == 0) = false := by simpa using zC
      have mC : (eC != 0) = true := by simpa using zC
      clear DC zC
      go_upto_region 15 with (fail)
      clear nC mC
    all_goals
      go_wp2_with fail
      refine (UP.out _).mono ?_
      rintro e wP ⟨vP, rfl, hRP, hbP⟩
      have HBn := Aside0.mk (below_step (bytes_below HB.out HB.out.size 5 s) hbP)
      clear HB
      have HB := HBn
      clear HBn
      obtain ⟨AP, cP, rfl⟩ := Kd.R_slice hRP
      have DP := Aside0.mk (Kd.R_reads' hRP)
      clear hRP hbP
      by_cases zP : eP = 0
      case' pos =>
        subst zP
        have TT := Aside0.mk (TP.out rfl)
        go_wp2_with fail
        refine (code_Pairs.calls KP AP cP lP (bytesOf s) 0 _ DP.out.2.2 DP.out.2.1 TT.out).mono ?_
        rintro e xP ⟨bP, rfl, hQP, hcP⟩
        have HBn := Aside0.mk (below_step HB.out hcP)
        clear HB
        have HB := HBn
        clear HBn TT DP
        obtain ⟨BP, dP, rfl⟩ := Kd.R_slice hQP
        have cvP := own_string (P := Try.prog) Try.underlying27 Try.underlying5 Try.underlying9 (Kd.own_of_R hQP)
        rw [strNums_bytesOf] at cvP
        clear hQP hcP
        go_upto_region 20 with (fail)
        clear cvP
      case' neg =>
        have nP : (eP == 0) = false := by simpa using zP
        have mP : (eP != 0) = true := by simpa using zP
        clear DP zP
        go_upto_region 20 with (fail)
        clear nP mP
      all_goals
        go_wp2_with fail
        refine (UI.out _).mono ?_
        rintro e wI ⟨vI, rfl, hRI, hbI⟩
        have HBn := Aside0.mk (below_step (bytes_below HB.out HB.out.size 5 s) hbI)
        clear HB
        have HB := HBn
        clear HBn
        obtain ⟨AI, cI, rfl⟩ := Kd.R_slice hRI
        have DI := Aside0.mk (Kd.R_reads' hRI)
        clear hRI hbI
        by_cases zI : eI = 0
        case' pos =>
          subst zI
          have TT := Aside0.mk (TI.out rfl)
          go_wp2_with fail
          refine (code_Nums.calls KI AI cI lI (bytesOf s) 0 _ DI.out.2.2 DI.out.2.1 TT.out).mono ?_
          rintro e xI ⟨bI, rfl, hQI, hcI⟩
          have HBn := Aside0.mk (below_step HB.out hcI)
          clear HB
          have HB := HBn
          clear HBn TT DI
          obtain ⟨BI, dI, rfl⟩ := Kd.R_slice hQI
          have cvI := own_string (P := Try.prog) Try.underlying27 Try.underlying5 Try.underlying9 (Kd.own_of_R hQI)
          rw [strNums_bytesOf] at cvI
          clear hQI hcI
          go_wp2
          go_ret
          exact ⟨rfl, HB.out⟩
        case' neg =>
          obtain rfl := NI.out zI
          have nI : (eI == 0) = false := by simpa using zI
          have mI : (eI != 0) = true := by simpa using zI
          clear DI zI
          go_wp2
          go_ret
          exact ⟨rfl, HB.out⟩
theorem only_long (s : ByteArray) (hs : 2000 < s.size) (w : World) :
    Calls Try.prog 8 #[.string s] w fun e w' => e = .returned (.bool true) ∧ Below w.heap.size w w' := by
  have hs1 : decide (2000 < (s.size : Int)) = true := decide_eq_true (by omega)
  have hs2 : decide (2000 < s.size) = true := decide_eq_true (by omega)
  go_enter Try.func8, Try.ntmps8
  go_wp2_with fail
  refine (headgatelaw04_alive.calls 30 true _ alive04).mono ?_
  rintro e w1 ⟨rfl, hb1⟩
  go_wp2
  go_ret
  exact ⟨rfl, hb1⟩
theorem toldB_small {b : List Int} (h : b.length ≤ 16777216) : toldB b = (b, 0) := by
  unfold toldB
  rw [if_neg (by omega)]
theorem count_le {α : Type} (enc : α → List Int) (he : ∀ a, 0 < (enc a).length) (l : List α) : l.length ≤ (listB enc l).length := by
  have := flat_len enc he l
  unfold listB
  rw [List.length_append]
  omega
theorem flat_mem {α : Type} (enc : α → List Int) : ∀ (l : List α) (x : α), x ∈ l → (enc x).length ≤ (flat enc l).length
  | a :: l, x, h => by
    simp only [flat, List.length_append]
    rcases List.mem_cons.1 h with rfl | h
    · omega
    · have := flat_mem enc l x h
      omega
theorem onlyR (b : List Int) (hb : Bytes b) (hl : b.length ≤ 4000) (h : (readR b).2 = 0) : ∃ K, code_Rows.f K (readR b).1 = some (b, 0) := by
  rw [readR_X] at h ⊢
  obtain ⟨xs, hx⟩ : ∃ xs, readX itemR b = (xs, 0) := ⟨(readX itemR b).1, by rw [← h]⟩
  obtain ⟨e, g, hsz⟩ := readX_only itemR encR goodR itemR_only b xs hb hx
  rw [hx]
  have hb2 : listB encR xs = b := e.symm
  have hc := count_le encR encR_pos xs
  rw [hb2] at hc
  have hall : xs.all rowOk = true := List.all_eq_true.2 (fun r hr => (g r hr).1)
  have hev := codeRows_ev xs (by omega) (fun r hr => ⟨by have := (goodR_parts (g r hr)).1; omega, (g r hr).2⟩)
  unfold codeRows at hev
  rw [if_pos hall, hb2, toldB_small hsz] at hev
  exact hev.rounds
theorem onlyC (b : List Int) (hb : Bytes b) (hl : b.length ≤ 4000) (h : (readC b).2 = 0) : ∃ K, code_Cols.f K (readC b).1 = some (b, 0) := by
  rw [readC_X] at h ⊢
  obtain ⟨xs, hx⟩ : ∃ xs, readX itemC b = (xs, 0) := ⟨(readX itemC b).1, by rw [← h]⟩
  obtain ⟨e, g, hsz⟩ := readX_only itemC encC goodC itemC_only b xs hb hx
  rw [hx]
  have hb2 : listB encC xs = b := e.symm
  have hc := count_le encC encC_pos xs
  rw [hb2] at hc
  have hall : xs.all okC = true := List.all_eq_true.2 (fun c hc => decide_eq_true (g c hc))
  have hev := codeCols_ev xs (by omega) (fun c hc => by
    have h1 := flat_mem encC xs c hc
    have h2 : (flat encC xs).length ≤ b.length := by rw [← hb2]; unfold listB; rw [List.length_append]; omega
    have h3 : c.f0.size ≤ (encC c).length := by
      have := bytesOf_length c.f0
      unfold encC encW
      simp only [List.length_append]
      omega
    omega)
  unfold codeCols at hev
  rw [if_pos hall, hb2, toldB_small hsz] at hev
  exact hev.rounds
theorem onlyP (b : List Int) (hb : Bytes b) (hl : b.length ≤ 4000) (h : (readP b).2 = 0) : ∃ K, code_Pairs.f K (readP b).1 = some (b, 0) := by
  rw [readP_X] at h ⊢
  obtain ⟨xs, hx⟩ : ∃ xs, readX itemP b = (xs, 0) := ⟨(readX itemP b).1, by rw [← h]⟩
  obtain ⟨e, g, hsz⟩ := readX_only itemP encP (fun _ => True) itemP_only b xs hb hx
  rw [hx]
  have hb2 : listB encP xs = b := e.symm
  have hc := count_le encP encP_pos xs
  rw [hb2] at hc
  have hev := codePairs_ev xs (by omega) (fun c hc => by
    have h1 := flat_mem encP xs c hc
    have h2 : (flat encP xs).length ≤ b.length := by rw [← hb2]; unfold listB; rw [List.length_append]; omega
    have h3 : c.f0.size ≤ (encP c).length ∧ c.f1.size ≤ (encP c).length := by
      have := bytesOf_length c.f0
      have := bytesOf_length c.f1
      unfold encP encW
      simp only [List.length_append]
      omega
    omega)
  rw [hb2, toldB_small hsz] at hev
  exact hev.rounds
theorem onlyI (b : List Int) (hb : Bytes b) (hl : b.length ≤ 4000) (h : (readI b).2 = 0) : ∃ K, code_Nums.f K (readI b).1 = some (b, 0) := by
  obtain ⟨xs, hx⟩ : ∃ xs, readI b = (xs, 0) := ⟨(readI b).1, by rw [← h]⟩
  obtain ⟨e, g, hsz⟩ := readI_only b xs hb hx
  rw [hx]
  have hc : xs.length ≤ b.length := by
    have := flat_len encI encI_pos xs
    rw [e]
    unfold numsAll
    rw [numsB_flat, List.length_append]
    omega
  have hev := codeNums_ev xs (by omega) g
  unfold codeNums at hev
  rw [← e, if_neg (by omega)] at hev
  exact hev.rounds
def headgatelaw04_CodeOnly.f (k : Nat) (a0 : ByteArray) : Option Bool := some true
theorem headgatelaw04_CodeOnly.calls (k : Nat) (a0 : ByteArray) (r : Bool) (w : World) (h : headgatelaw04_CodeOnly.f k a0 = some r) :
    Calls Try.prog 8 #[.string a0] w fun e w' => e = .returned (.bool r) ∧ Below w.heap.size w w' := by
  cases h
  by_cases hs : a0.size ≤ 2000
  · have hl := bytesOf_length a0
    have hb : Bytes (bytesOf a0) := bytesOf_range a0
    have pick : ∀ (P : Prop) (F : Nat → Prop), (P → ∃ K, F K) → ∃ K, P → F K := by
      intro P F h
      by_cases hp : P
      · obtain ⟨K, hK⟩ := h hp
        exact ⟨K, fun _ => hK⟩
      · exact ⟨0, fun z => absurd z hp⟩
    obtain ⟨K1, h1⟩ := pick _ _ (onlyR (bytesOf a0) hb (by omega))
    obtain ⟨K2, h2⟩ := pick _ _ (onlyC (bytesOf a0) hb (by omega))
    obtain ⟨K3, h3⟩ := pick _ _ (onlyP (bytesOf a0) hb (by omega))
    obtain ⟨K4, h4⟩ := pick _ _ (onlyI (bytesOf a0) hb (by omega))
    refine only_walk a0 hs w (readR (bytesOf a0)).1 (readR (bytesOf a0)).2 rfl K1 h1 (readC (bytesOf a0)).1 (readC (bytesOf a0)).2 rfl K2 h2 (readP (bytesOf a0)).1 (readP (bytesOf a0)).2 rfl K3 h3 (readI (bytesOf a0)).1 (readI (bytesOf a0)).2 rfl K4 h4 (fun hz => ?_)
    rcases readX_err itemI (bytesOf a0) with h | h
    · rw [← readI_X] at h
      exact absurd h hz
    · rw [← readI_X] at h
      rw [h]
  · exact only_long a0 (by omega) w
theorem CodeOnly_pure (a0 : ByteArray) (_ : a0.size ≤ 140737488351232) : ∃ k, headgatelaw04_CodeOnly.f k a0 = some true := ⟨0, rfl⟩
end Go.Proofs.Ytgihecpobichbaa.Q
