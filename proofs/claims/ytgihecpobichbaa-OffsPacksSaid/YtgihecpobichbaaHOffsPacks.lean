/- The law OffsPacks: walked. -/
import Derived.Test.YtgihecpobichbaaOffsPP
import Derived.Deep.CutBlock
import Derived.Deep.RegionHeld
namespace Go.Proofs.Ytgihecpobichbaa.Q
open Go.RowKit Go.Proofs.YtgihecpobichbaaW.PrintWords Go.Proofs.YtgihecpobichbaaW.PrintLast Go.Proofs.YtgihecpobichbaaW.PrintMore
set_option linter.unusedVariables false
set_option linter.unusedSimpArgs false
set_option maxHeartbeats 4000000 in
set_option maxRecDepth 100000 in
theorem offs_walk (A : Option Addr) (c : Nat) (l : List Rg) (s : ByteArray) (hs : s.size ≤ 4000) (hll : l.length ≤ 300) (w : World) (hr : Kd.C k83 w A l.length l) (hc : l.length ≤ c) (rt ok : Bool) (bs : List Int) (e1 : Int) (mm want : List Rg) (f2 : Int) (K1 K2 K3 K4 K5 K6 K7 K8 : Nat) (wn : List Rg)
    (hP : offs_Pack.f K1 l = some (bs, e1)) (hR : headgateref08_Right.f K2 l = some rt) (h1 : (rt = true ∧ e1 = 0) ∨ (rt = false ∧ e1 = 80 ∧ bs = [])) (hQ : rt = true → headgateref08_Pack.f K3 l = some (strOfNums bs)) (hB : rt = true → offs_Unpack.f K4 bs = some (l, 0)) (hS : headgateref08_Same.f K5 l l = some true)
    (hU : offs_Unpack.f K6 (bytesOf s) = some (mm, f2)) (hV : headgateref08_Unpack.f K7 s = some (want, ok)) (h2 : (ok = true ∧ f2 = 0 ∧ mm = want) ∨ (ok = false ∧ f2 = 80 ∧ mm = [])) (hwn : ok = true → want = wn) (hW : headgateref08_Same.f K8 wn wn = some true) :
    Calls Try.prog 10 #[.slice A l.length c, .string s] w fun e w' => e = .returned (.bool true) ∧ Below w.heap.size w w' := by
  have kb := fun W => print_bytes (P := Try.prog) 9 27 5 Try.underlying9 Try.underlying27 Try.underlying5 s W
  have hs1 : decide (4000 < (s.size : Int)) = false := decide_eq_false (by omega)
  have hs2 : decide (4000 < s.size) = false := decide_eq_false (by omega)
  have hl1 : decide (300 < (l.length : Int)) = false := decide_eq_false (by omega)
  have hl2 : decide (300 < l.length) = false := decide_eq_false (by omega)
  have HR := Aside0.mk hr
  have HC : Aside0 (∀ W, Below w.heap.size w W → Kd.C k83 W A l.length l) := ⟨fun W h => Kd.C_below HR.out h⟩
  have HP := Aside0.mk hP
  have HRt := Aside0.mk hR
  have H1 := Aside0.mk h1
  have HQ := Aside0.mk hQ
  have HBk := Aside0.mk hB
  have HS := Aside0.mk hS
  have HU := Aside0.mk hU
  have HV := Aside0.mk hV
  have H2 := Aside0.mk h2
  have HW := Aside0.mk hW
  have HWN := Aside0.mk hwn
  have hun : ∀ W : World, Calls Try.prog 44 #[.slice (some ⟨W.heap.size, 0, none⟩) s.size (grownCap W s.size 0 5)] (Lib.bytesWorld W 5 s) fun e w' => ∃ v0_ : Value, e = .returned (.tuple #[v0_, .int .i64 f2]) ∧ Kd.R k83 83 w' (Lib.bytesWorld W 5 s).heap.size (fun _ => True) v0_ mm ∧ Below (Lib.bytesWorld W 5 s).heap.size (Lib.bytesWorld W 5 s) w' := by
    intro W
    have hlen := bytesOf_length s
    have hC : Kd.C (Kd.int .u8) (Lib.bytesWorld W 5 s) (some ⟨W.heap.size, 0, none⟩) s.size (bytesOf s) := Kd.C_of_reads (bytes_reads W 5 s (by omega))
    have hcap : s.size ≤ grownCap W s.size 0 5 := grownCap_ge _ _ _ _
    have hcall := offs_Unpack.calls K6 (some ⟨W.heap.size, 0, none⟩) (grownCap W s.size 0 5) (bytesOf s) mm f2 (Lib.bytesWorld W 5 s) (by rw [hlen]; exact hC) (by rw [hlen]; exact hcap) HU.out
    rw [hlen] at hcall
    exact hcall
  have HUn := Aside0.mk hun
  clear hr hP hR h1 hQ hB hS hU hV h2 hW hwn hun
  go_enter Try.func10, Try.ntmps10
  go_wp2_with fail
  refine (headgatelaw08_alive.calls 40 true _ alive08).mono ?_
  rintro e w1 ⟨rfl, hb1⟩
  have HB1 := Aside0.mk hb1
  clear hb1
  go_wp2_with fail
  refine (offs_Pack.calls K1 A c l bs e1 _ (Kd.C_below HR.out HB1.out) hc HP.out).mono ?_
  rintro e w2 ⟨v5, rfl, hR2, hb2⟩
  have HB2 := Aside0.mk (below_step HB1.out hb2)
  have HO2 := Aside0.mk (Kd.R_lower hR2 (base' := w.heap.size) HB1.out.size)
  clear hb2 HB1 hR2
  obtain ⟨Ab, cb, rfl⟩ := Kd.R_slice HO2.out
  go_wp2_with fail
  refine (headgateref08_Right.calls K2 A c l rt _ (Kd.C_below HR.out HB2.out) hc HRt.out).mono ?_
  rintro e w3 ⟨rfl, hd3⟩
  have HB3 := Aside0.mk (HB2.out.trans (dr_below hd3 _))
  have HO3 : Aside0 (Kd.R (Kd.int .u8) 5 w3 w.heap.size (fun _ => True) (.slice Ab bs.length cb) bs) := ⟨Kd.R_below HO2.out (dr_below hd3 _)⟩
  clear hd3 HB2 HO2
  rcases H1.out with ⟨rfl, rfl⟩ | ⟨rfl, rfl, rfl⟩
  · have HQ1 := Aside0.mk (HQ.out rfl)
    have HB1k := Aside0.mk (HBk.out rfl)
    clear HQ HBk
    have hcv := own_string (P := Try.prog) Try.underlying27 Try.underlying5 Try.underlying9 (Kd.own_of_R (Kd.R_drew HO3.out))
    go_upto_region 7 with (fail)
    go_region_with (first
      | (go_at_call 43; refine (headgateref08_Pack.calls K3 A c l _ _ (HC.out _ (by with_reducible repeat (first | exact HB3.out | apply below_drew1 | apply pw_below_drewN))) hc HQ1.out).mono ?_; rintro e w4 ⟨rfl, hb4⟩; have HB4 : Aside0 (Below w.heap.size w w4) := ⟨below_step (by with_reducible repeat (first | exact HB3.out | apply below_drew1 | apply pw_below_drewN)) hb4⟩; have HO4 : Aside0 (Kd.R (Kd.int .u8) 5 w4 w.heap.size (fun _ => True) (.slice Ab bs.length cb) bs) := ⟨Kd.R_below (by with_reducible repeat (first | exact HO3.out | apply Kd.R_drewN | apply Kd.R_drew)) hb4⟩; have hcw := own_string (P := Try.prog) Try.underlying27 Try.underlying5 Try.underlying9 (Kd.own_of_R HO4.out); clear hb4))
    all_goals
      clear hcv
      go_wp2_with fail
      have hrd := Kd.R_reads' HO4.out
      first
        | refine (offs_Unpack.calls K4 Ab cb bs l 0 w4 hrd.2.2 hrd.2.1 HB1k.out).mono ?_
        | (have hrd2 := Kd.R_reads' (Kd.R_drewN HO4.out 1); refine (offs_Unpack.calls K4 Ab cb bs l 0 _ hrd2.2.2 hrd2.2.1 HB1k.out).mono ?_)
      rintro e w5 ⟨v7, rfl, hR5, hb5⟩
      have HB5 := Aside0.mk (below_step (by with_reducible repeat (first | exact HB4.out | apply below_drew1 | apply pw_below_drewN)) hb5)
      obtain ⟨A7, c7, rfl⟩ := Kd.R_slice hR5
      have HR5 := Aside0.mk (Kd.R_reads' hR5)
      clear hb5 hR5 hrd
      go_wp2_with fail
      refine (headgateref08_Same.calls K5 A7 c7 l A c l true w5 HR5.out.2.2 HR5.out.2.1 (HC.out _ HB5.out) hc HS.out).mono ?_
      rintro e w6 ⟨rfl, hd6⟩
      have HBz := Aside0.mk (HB5.out.trans (dr_below hd6 _))
      clear hd6 HB5 HR5 HB4 HO4 HO3 HB3 hcw
      go_upto_region 14 with (fail)
      go_wp2_with fail
      refine (HUn.out _).mono ?_
      rintro e w9 ⟨v9, rfl, hR9, hb9⟩
      have HB9 : Aside0 (Below w.heap.size w w9) := ⟨below_step (bytes_below HBz.out HBz.out.size _ _) hb9⟩
      obtain ⟨A9, c9, rfl⟩ := Kd.R_slice hR9
      have HR9 := Aside0.mk hR9
      clear hb9 hR9 kb HBz
      go_wp2_with fail
      refine (headgateref08_Unpack.calls K7 s want ok _ HV.out).mono ?_
      rintro e w10 ⟨v11, rfl, hR10, hb10⟩
      have HB10 := Aside0.mk (below_step HB9.out hb10)
      have HR9b := Aside0.mk (Kd.R_reads' (Kd.R_below HR9.out hb10))
      obtain ⟨A11, c11, rfl⟩ := Kd.R_slice hR10
      have HR11 := Aside0.mk (Kd.R_reads' hR10)
      clear hb10 hR10 HR9 HB9
      rcases H2.out with ⟨rfl, rfl, rfl⟩ | ⟨rfl, rfl, rfl⟩
      · have hwm := HWN.out rfl
        subst hwm
        clear H2 HUn HU HV HWN
        go_wp2_with fail
        refine (headgateref08_Same.calls K8 A9 c9 mm A11 c11 mm true w10 HR9b.out.2.2 HR9b.out.2.1 HR11.out.2.2 HR11.out.2.1 HW.out).mono ?_
        rintro e w11 ⟨rfl, hd11⟩
        have HB11 := Aside0.mk (HB10.out.trans (dr_below hd11 _))
        clear hd11
        go_wp2
        go_ret
        exact ⟨rfl, HB11.out⟩
      · clear H2 HUn HU HV
        go_wp2
        go_ret
        exact ⟨rfl, HB10.out⟩
  · have HBz := HB3
    clear HQ HBk HO3 HB3
    go_upto_region 14 with (fail)
    go_wp2_with fail
    refine (HUn.out _).mono ?_
    rintro e w9 ⟨v9, rfl, hR9, hb9⟩
    have HB9 : Aside0 (Below w.heap.size w w9) := ⟨below_step (bytes_below HBz.out HBz.out.size _ _) hb9⟩
    obtain ⟨A9, c9, rfl⟩ := Kd.R_slice hR9
    have HR9 := Aside0.mk hR9
    clear hb9 hR9 kb HBz
    go_wp2_with fail
    refine (headgateref08_Unpack.calls K7 s want ok _ HV.out).mono ?_
    rintro e w10 ⟨v11, rfl, hR10, hb10⟩
    have HB10 := Aside0.mk (below_step HB9.out hb10)
    have HR9b := Aside0.mk (Kd.R_reads' (Kd.R_below HR9.out hb10))
    obtain ⟨A11, c11, rfl⟩ := Kd.R_slice hR10
    have HR11 := Aside0.mk (Kd.R_reads' hR10)
    clear hb10 hR10 HR9 HB9
    rcases H2.out with ⟨rfl, rfl, rfl⟩ | ⟨rfl, rfl, rfl⟩
    · have hwm := HWN.out rfl
      subst hwm
      clear H2 HUn HU HV HWN
      go_wp2_with fail
      refine (headgateref08_Same.calls K8 A9 c9 mm A11 c11 mm true w10 HR9b.out.2.2 HR9b.out.2.1 HR11.out.2.2 HR11.out.2.1 HW.out).mono ?_
      rintro e w11 ⟨rfl, hd11⟩
      have HB11 := Aside0.mk (HB10.out.trans (dr_below hd11 _))
      clear hd11
      go_wp2
      go_ret
      exact ⟨rfl, HB11.out⟩
    · clear H2 HUn HU HV
      go_wp2
      go_ret
      exact ⟨rfl, HB10.out⟩
set_option maxHeartbeats 4000000 in
set_option maxRecDepth 100000 in
theorem offs_many (A : Option Addr) (c : Nat) (l : List Rg) (s : ByteArray) (hx : 4000 < s.size ∨ 300 < l.length) (w : World) :
    Calls Try.prog 10 #[.slice A l.length c, .string s] w fun e w' => e = .returned (.bool true) ∧ Below w.heap.size w w' := by
  by_cases hs : 4000 < s.size
  · have hs1 : decide (4000 < (s.size : Int)) = true := decide_eq_true (by omega)
    have hs2 : decide (4000 < s.size) = true := decide_eq_true hs
    clear hx hs
    go_enter Try.func10, Try.ntmps10
    go_wp2_with fail
    refine (headgatelaw08_alive.calls 40 true _ alive08).mono ?_
    rintro e w1 ⟨rfl, hb1⟩
    go_wp2
    go_ret
    exact ⟨rfl, hb1⟩
  · have hl : 300 < l.length := hx.elim (fun h => absurd h hs) id
    have hs1 : decide (4000 < (s.size : Int)) = false := decide_eq_false (by omega)
    have hs2 : decide (4000 < s.size) = false := decide_eq_false hs
    have hl1 : decide (300 < (l.length : Int)) = true := decide_eq_true (by omega)
    have hl2 : decide (300 < l.length) = true := decide_eq_true hl
    clear hx hs hl
    go_enter Try.func10, Try.ntmps10
    go_wp2_with fail
    refine (headgatelaw08_alive.calls 40 true _ alive08).mono ?_
    rintro e w1 ⟨rfl, hb1⟩
    go_wp2
    go_ret
    exact ⟨rfl, hb1⟩
def headgatelaw08_OffsPacks.f (k : Nat) (l0 : List Rg) (a1 : ByteArray) : Option Bool := some true
theorem readI_short (b : List Int) (hb : Bytes b) (hl : b.length ≤ 4000) : (readI b).1.length ≤ 1000000 := by
  rcases readX_err itemI b with h | h
  · rw [← readI_X] at h
    obtain ⟨l, e⟩ : ∃ l, readI b = (l, 0) := ⟨(readI b).1, by rw [← h]⟩
    obtain ⟨e1, e2, e3⟩ := readI_only b l hb e
    have := flat_len encI encI_pos l
    rw [e]
    simp only
    rw [e1] at hl
    unfold numsAll at hl
    rw [numsB_flat, List.length_append] at hl
    omega
  · rw [← readI_X] at h
    rw [h]
    simp
theorem headgatelaw08_OffsPacks.calls (k : Nat) (A0 : Option Addr) (c0 : Nat) (l0 : List Rg) (a1 : ByteArray) (r : Bool) (w : World) (hr0 : Kd.C k83 w A0 l0.length l0) (hc0 : l0.length ≤ c0) (h : headgatelaw08_OffsPacks.f k l0 a1 = some r) :
    Calls Try.prog 10 #[.slice A0 l0.length c0, .string a1] w fun e w' => e = .returned (.bool r) ∧ Below w.heap.size w w' := by
  cases h
  by_cases hx : 4000 < a1.size ∨ 300 < l0.length
  · exact offs_many A0 c0 l0 a1 hx w
  · have hs : a1.size ≤ 4000 := by omega
    have hl : l0.length ≤ 300 := by omega
    have hlb := bytesOf_length a1
    obtain ⟨want, ok, hV, h2⟩ := refUn_ev a1 (by omega)
    obtain ⟨K7, hv⟩ := hV.rounds
    obtain ⟨K6, hu⟩ := (offsUn_ev (bytesOf a1) (by omega) (readI_short _ (bytesOf_range a1) (by omega))).rounds
    obtain ⟨K2, hR⟩ := (Right_ev l0 (by omega)).rounds
    obtain ⟨K5, hS⟩ := (same_self l0 (by omega)).rounds
    have hwl : want.length ≤ 9223372036854775806 ∨ ok = false := by
      rcases h2 with ⟨_, h⟩ | ⟨h, _⟩
      · left
        unfold unR at h
        split at h
        · rename_i h3
          have e : unp (readI (bytesOf a1)).1 = want := by simpa using h
          rw [← e]
          have := (right_parts h3.2.2).2.1
          omega
        · simp at h
      · exact .inr h
    obtain ⟨mm, f2, hm⟩ : ∃ mm f2, unR (readI (bytesOf a1)) = (mm, f2) := ⟨_, _, rfl⟩
    rw [hm] at hu h2
    have h2' : (ok = true ∧ f2 = 0 ∧ mm = want) ∨ (ok = false ∧ f2 = 80 ∧ mm = []) := by
      rcases h2 with ⟨h, h'⟩ | ⟨h, h'⟩
      · simp only [Prod.mk.injEq] at h'
        exact .inl ⟨h, h'.2, h'.1⟩
      · simp only [Prod.mk.injEq] at h'
        exact .inr ⟨h, h'.2, h'.1⟩
    have go : ∀ wn : List Rg, (ok = true → want = wn) → (∃ K8, headgateref08_Same.f K8 wn wn = some true) → ok = true ∨ ok = false → Calls Try.prog 10 #[.slice A0 l0.length c0, .string a1] w fun e w' => e = .returned (.bool true) ∧ Below w.heap.size w w' := by
      intro wn hwn hK8 _
      obtain ⟨K8, hW⟩ := hK8
      cases hr : rightR l0 with
      | true =>
        obtain ⟨K1, hP⟩ := (offsPack_right l0 hr).rounds
        obtain ⟨K3, hQ⟩ := (refPack_right l0 hr).rounds
        obtain ⟨K4, hB⟩ := (offsBack l0 hr).rounds
        rw [hr] at hR
        exact offs_walk A0 c0 l0 a1 hs hl w hr0 hc0 true ok _ 0 mm want f2 K1 K2 K3 K4 K5 K6 K7 K8 wn hP hR (.inl ⟨rfl, rfl⟩) (fun _ => hQ) (fun _ => hB) hS hu hv h2' hwn hW
      | false =>
        obtain ⟨K1, hP⟩ := (offsPack_wrong l0 hl (by rw [hr]; simp)).rounds
        rw [hr] at hR
        exact offs_walk A0 c0 l0 a1 hs hl w hr0 hc0 false ok _ 80 mm want f2 K1 K2 0 0 K5 K6 K7 K8 wn hP hR (.inr ⟨rfl, rfl, rfl⟩) (fun z => by cases z) (fun z => by cases z) hS hu hv h2' hwn hW
    rcases hwl with h | h
    · exact go want (fun _ => rfl) (same_self want h).rounds (by cases ok; exact .inr rfl; exact .inl rfl)
    · exact go [] (fun z => by rw [h] at z; cases z) (same_self [] (by simp)).rounds (.inr h)
theorem OffsPacks_pure (l : List Rg) (s : ByteArray) (_ : l.length * 16 ≤ 140737488351232 ∧ ∀ z ∈ l, (Lit.int .i64 z.f0).wf = true ∧ (Lit.int .i64 z.f1).wf = true) (_ : s.size ≤ 140737488351232) : ∃ k, headgatelaw08_OffsPacks.f k l s = some true := ⟨0, rfl⟩
end Go.Proofs.Ytgihecpobichbaa.Q
