/- decode.Row: walked. -/
import Derived.Test.YtnjlgeenhmamjaaGreatDoorZDecodeBack12
import Derived.Test.YtnjlgeenhmamjaaGreatDoorZDecodeBack6
import Derived.Test.YtnjlgeenhmamjaaGreatDoorZDecodeBack5
namespace Go.Proofs.YtnjlgeenhmamjaaGreatDoor.Q
open Go.RowKit Go.Proofs.YtnjlgeenhmamjaaGreatDoorW.PrintWords Go.Proofs.YtnjlgeenhmamjaaGreatDoorW.PrintLast Go.Proofs.YtnjlgeenhmamjaaGreatDoorW.PrintMore
set_option linter.unusedVariables false
set_option linter.unusedSimpArgs false
/-- What the fields say, all of them. -/
def valsO (PL : ByteArray → Option ByteArray) : List Co → List ByteArray → Option (List Va)
  | c :: cs, s :: fs => match saysO (PL s) c.f1 s with
    | none => none
    | some v => (valsO PL cs fs).map (v :: ·)
  | _, _ => some []
/-- What decode.Row comes to, where Check says r. -/
def rowR (PL : ByteArray → Option ByteArray) (r : Int) (l : List Co) (s : ByteArray) : List Va × Int :=
  if r ≠ 0 then ([], r)
  else if (fields s (s.size + 1) 0).length ≠ l.length then ([], 121)
  else match valsO PL l (fields s (s.size + 1) 0) with
    | none => ([], 122)
    | some vs => (vs, 0)
/-- How the answer is told. -/
def RowPost (R : List Va × Int) (w : World) (e : Ending) (w' : World) : Prop :=
  ∃ A c, e = .returned (.tuple #[.slice A R.1.length c, .int .i64 R.2]) ∧ Kd.C k41 w' A R.1.length R.1 ∧ R.1.length ≤ c ∧ Below w.heap.size w w'
theorem strNums_bytesOf (s : ByteArray) : strOfNums (bytesOf s) = s := by
  have e : (fun n : Int => UInt8.ofNat n.toNat) ∘ (fun b : UInt8 => (b.toNat : Int)) = id := by
    funext b
    simp
  apply ByteArray.ext
  apply Array.ext'
  unfold strOfNums bytesOf
  simp only [List.map_map, e, List.map_id]
theorem rowPost_nil (r : Int) (w W : World) (hb : Below w.heap.size w W) : RowPost ([], r) w (.returned (.tuple #[.slice none 0 0, .int .i64 r])) W := by
  obtain ⟨A, c, h1, h2, h3⟩ := Kd.R_reads (Kd.R_nil k41 0 W 0 (fun _ => True))
  injection h1 with h1 _ h4
  subst h1 h4
  exact ⟨none, 0, rfl, h3, Nat.le_refl _, hb⟩
theorem str_drop (l : List ByteArray) (i : Nat) (h : i < l.length) : l.drop i = rdOf ByteArray.empty l (i : Int) :: l.drop (i + 1) := by
  rw [List.drop_eq_getElem_cons h]
  unfold rdOf
  rw [Int.toNat_natCast, List.getD_eq_getElem?_getD, List.getElem?_eq_getElem h]
  rfl
theorem set_take {α : Type} (ys : List α) (i : Nat) (x : α) (h : i < ys.length) : (ys.set i x).take (i + 1) = ys.take i ++ [x] := by
  rw [List.take_add_one, List.getElem?_set_self h, List.take_set_of_le (Nat.le_refl _)]
  rfl
theorem fields_size (s : ByteArray) : ∀ k a, ∀ f ∈ fields s k a, f.size ≤ s.size
  | 0, a, f, h => by simp [fields] at h
  | k + 1, a, f, h => by
    unfold fields at h
    rcases List.mem_cons.1 h with rfl | h
    · rw [ByteArray.size_extract]; omega
    · split at h
      · exact fields_size s k _ f h
      · simp at h
set_option maxHeartbeats 8000000 in
set_option maxRecDepth 100000 in
theorem row_walk (PL : ByteArray → Option ByteArray) (hPL : ∀ s : ByteArray, s.size ≤ 8000 → ∃ K t ok, decode_plain.f K s = some (t, ok) ∧ (if ok = true then some t else none) = PL s)
    (KC : Nat) (A : Option Addr) (c : Nat) (l : List Co) (r : Int) (hr : decode_Check.f KC l = some r) (B : Option Addr) (d : Nat) (s : ByteArray) (hs : s.size ≤ 8000) (w : World) (hG : Glob w)
    (hC : Kd.C k39 w A l.length l) (hc : l.length ≤ c) (hB : Kd.C (Kd.int .u8) w B (bytesOf s).length (bytesOf s)) :
    Calls Tryz.prog 10 #[.slice A l.length c, .slice B s.size d] w (RowPost (rowR PL r l s) w) := by
  have HC := Aside0.mk hC
  have HG := Aside0.mk hG
  have HBy := Aside0.mk hB
  have hchk := decode_Check.calls KC A c l r w hC hc hr
  generalize hR : rowR PL r l s = R
  unfold rowR at hR
  have HPL := Aside0.mk hPL
  clear hC hG hB hPL
  by_cases h0 : r = 0
  · subst h0
    rw [if_neg (by decide)] at hR
    have hfl := fields_len s (s.size + 1) 0 (Nat.zero_le _)
    have hfz := fields_size s (s.size + 1) 0
    have hsp := fun W => split_calls s (by omega) W
    obtain ⟨fs, hfs⟩ : ∃ fs, fields s (s.size + 1) 0 = fs := ⟨_, rfl⟩
    rw [hfs] at hR hfl hfz
    simp only [hfs] at hsp
    have HR := Aside0.mk hR
    have HFZ := Aside0.mk hfz
    have HSP := Aside0.mk hsp
    clear hR hfz hsp hfs
    have cvb : ∀ W, Below w.heap.size w W → (convert 27 9 (.slice B s.size d)).run Tryz.prog W = .ok (.string s) W := fun W hW => by
      have := Kd.C_string (P := Tryz.prog) (c := d) Tryz.underlying27 Tryz.underlying5 Tryz.underlying9 (Kd.C_below HBy.out hW)
      rw [bytesOf_length, strNums_bytesOf] at this
      exact this
    have HCV := Aside0.mk cvb
    clear cvb
    by_cases hl : fs.length = l.length
    · have hlb : ((fs.length : Int) != (l.length : Int)) = false := bne_eq_false_iff_eq.2 (by omega)
      have hR := HR.out
      rw [if_neg (fun h => h hl)] at hR
      have HR := Aside0.mk hR
      have HL := Aside0.mk hl
      clear hR hl
      go_enter Tryz.func10, Tryz.ntmps10
      go_upto_region 4 with (go_at_call 12; refine hchk.mono ?_; rintro e w1 ⟨rfl, hb1⟩; have HB1 := Aside0.mk hb1; clear hb1 hchk)
      have cvb1 := HCV.out w1 HB1.out
      go_upto_region 7 with (go_at_call 22; refine (HSP.out w1).mono ?_; rintro e w2 ⟨v2, rfl, hR2, hb2⟩; obtain ⟨A2, c2, rfl⟩ := Kd.R_slice hR2; have HS2 := Aside0.mk (Kd.R_reads' hR2).2.2; have HB2 := Aside0.mk (below_step HB1.out hb2); clear hR2 hb2)
      clear cvb1 HB1 HCV HSP
      have hfl2 : fs.length ≤ 8001 := by omega
      have zm : Kd.M k41 w2 w2.heap.size (fun _ => False) z41 [.int .i64 0, .int .i64 0, .string ⟨#[]⟩] := k41_mkM _ _ _ z41
      go_upto_region 8 with ((with_reducible refine gate_dst (N := 28) rfl ?_); refine Kd.R_make k41 (w0 := w2) w2.heap.size 41 rfl (N := 28) rfl 23 (.tmp 27) (.tmp 27) rfl (fs.length : Int) rfl rfl Tryz.underlying23 _ 32 info41 rfl (by decide) (by omega) z41 (ok := fun _ => True) (okp := fun _ => False) zm (fun _ h => h.elim) trivial (by omega) (by rw [Int.toNat_natCast]; omega) (Below.refl _ _) (Nat.le_refl _) ?_; intro v4 w4 ho hb hg hat; rw [Int.toNat_natCast] at ho; have HO4 := Aside0.mk ho; have HB4 := Aside0.mk hb; clear ho hb hg hat)
      clear zm
      go_wp2
      go_loopg [31] fs.length (fun kq v31 wr => ∃ (i : Nat) (ys : List Va), v31 = .int .i64 i ∧ Aside0 (i + kq = fs.length) ∧ Aside0 (ys.length = fs.length) ∧ Aside0 (valsO PL l fs = (valsO PL (l.drop i) (fs.drop i)).map (ys.take i ++ ·)) ∧ Aside0 (Kd.R k41 41 wr w2.heap.size (fun _ => True) v4 ys) ∧ Aside0 (Below w2.heap.size w2 wr))
      case atStart => exact ⟨0, _, rfl, ⟨by omega⟩, ⟨List.length_replicate ..⟩, ⟨by simp⟩, HO4, HB4⟩
      case round =>
        clear HO4 HB4
        obtain ⟨i, ys, rfl, HI, HY, HV, HO, HB⟩ := hrel
        cases gk with
        | zero =>
          have hi : i = fs.length := HI.out
          have hlb1 : decide ((i : Int) < (fs.length : Int)) = false := decide_eq_false (by omega)
          have hlb2 : decide (i < fs.length) = false := decide_eq_false (by omega)
          have hv := HV.out
          have hll := HL.out
          have hyl := HY.out
          rw [List.drop_of_length_le (by omega), List.drop_of_length_le (by omega), List.take_of_length_le (by omega)] at hv
          have hRR := HR.out
          rw [hv] at hRR
          have hRR : (ys, (0 : Int)) = R := by simpa [valsO] using hRR
          have HRR := Aside0.mk hRR
          clear hi hv hll hyl hRR
          go_wp2
          have hfin : RowPost R w (.returned (.tuple #[v4, .int .i64 0])) wr := by
            obtain ⟨A4, c4, rfl, h1, h2⟩ := Kd.R_reads HO.out
            rw [← HRR.out]
            exact ⟨A4, c4, rfl, h2, h1, below_step HB2.out HB.out⟩
          go_ret2
          exact hfin
        | succ k1 =>
          have hlt : i < fs.length := by have := HI.out; omega
          have hlc : i < l.length := by have := HL.out; omega
          have hlb1 : decide ((i : Int) < (fs.length : Int)) = true := decide_eq_true (by omega)
          have hlb2 : decide (i < fs.length) = true := decide_eq_true hlt
          have hw1 : wrap64 ((i : Int) + 1) = (i : Int) + 1 := wrap_in (by unfold in64; omega)
          have hbw := below_step HB2.out HB.out
          obtain ⟨ad, rfl, x0, x1⟩ := at_T39 (Kd.C_below HC.out hbw) (i : Int) (by omega) (by omega)
          obtain ⟨ae, rfl, y0⟩ := Kd.at_string (Kd.C_below HS2.out HB.out) (i : Int) (by omega) (by omega)
          rw [Int.toNat_natCast] at x0 x1 y0
          have hd1 := co_drop l i hlc
          have hd2 := str_drop fs i hlt
          have hv := HV.out
          rw [hd1, hd2] at hv
          have hmem : rdOf ByteArray.empty fs (i : Int) ∈ fs := by
            have : rdOf ByteArray.empty fs (i : Int) ∈ fs.drop i := by rw [hd2]; simp
            exact List.mem_of_mem_drop this
          have hfs := HFZ.out _ hmem
          generalize rd_T39 l (i : Int) = y at x0 x1 hv
          generalize rdOf ByteArray.empty fs (i : Int) = f at y0 hv hfs
          obtain ⟨nm, kd⟩ := y
          simp only at x0 x1 hv
          obtain ⟨K, t, ok, hp, hPLe⟩ := HPL.out f (by omega)
          have hcall := says_calls kd f (by omega) K t ok hp wr (HG.out.below hbw)
          rw [hPLe] at hcall
          have hv2 : valsO PL (⟨nm, kd⟩ :: l.drop (i + 1)) (f :: fs.drop (i + 1)) = match saysO (PL f) kd f with | none => none | some v => (valsO PL (l.drop (i + 1)) (fs.drop (i + 1))).map (v :: ·) := rfl
          rw [hv2] at hv
          have HV2 := Aside0.mk hv
          clear hd1 hd2 hv hv2 hmem hbw hp hPLe HV
          go_upto_region 12 with (go_at_call 23; refine hcall.mono ?_; rintro e w5 ⟨⟨v, ok2, rfl, hs1, hs2⟩, hb5⟩; have HB5 := Aside0.mk (below_step HB.out hb5); have HO5 := Aside0.mk (Kd.R_below HO.out hb5); have HS1 := Aside0.mk hs1; have HS3 := Aside0.mk hs2; clear hb5 hs1 hs2 hcall)
          cases ok2 with
          | false =>
            have hv := HV2.out
            rw [HS3.out rfl] at hv
            have hRR := HR.out
            rw [hv] at hRR
            have hRR : (([], 122) : List Va × Int) = R := hRR
            have HRR := Aside0.mk hRR
            clear hv hRR HV2 HS1 HS3
            go_wp2
            go_ret2
            rw [← HRR.out]
            exact rowPost_nil 122 w _ (below_alloc (below_step HB2.out HB5.out) _)
          | true =>
            have hv := HV2.out
            rw [HS1.out rfl] at hv
            have hv : valsO PL l fs = (valsO PL (l.drop (i + 1)) (fs.drop (i + 1))).map (fun t => ys.take i ++ v :: t) := by
              rw [hv]
              simp only [Option.map_map]
              rfl
            have hyi : i < ys.length := by have := HY.out; omega
            have HV3 : Aside0 (valsO PL l fs = (valsO PL (l.drop (i + 1)) (fs.drop (i + 1))).map ((ys.set i v).take (i + 1) ++ ·)) := ⟨by rw [hv, set_take ys i v hyi]; simp⟩
            obtain ⟨a4, c4, rfl⟩ := Kd.R_slice1 HO5.out (by omega)
            obtain ⟨g, rfl⟩ := Kd.R_head HO5.out
            obtain ⟨ce, hcl, _, hcc, hfz⟩ := Kd.R_elem HO5.out z41 (i : Int) (by omega) (by omega)
            have hM46 : Kd.M k41 w5 w2.heap.size (fun _ => False) v (ce.take 0 ++ [Value.int .i64 v.f0, .int .i64 v.f1, .string v.f2] ++ ce.drop (0 + 3)) := by
              have e : ce.drop (0 + 3) = [] := List.drop_of_length_le (by rw [hcl]; exact Nat.le_refl 3)
              rw [e]
              exact k41_mkM _ _ _ v
            obtain ⟨hR7, hG7⟩ := Kd.R_seg HO5.out (i : Int) (by omega) (by omega) (seg := [Value.int .i64 v.f0, .int .i64 v.f1, .string v.f2]) (j := 0) hcl hcc (Nat.le_refl 3) hM46 (fun _ h => h.elim)
            have hbg := Kd.R_base HO5.out g (by simp [Value.ownBlock])
            have hlg := Kd.R_lt HO5.out g (by simp [Value.ownBlock])
            have HB7 := Aside0.mk (Below.grown HB5.out hG7 HB5.out.size (fun k e => by injection e with e; omega))
            have HO7 := Aside0.mk hR7
            have hcl3 : ce.length = 3 := hcl
            obtain ⟨e0, e1, e2, rfl⟩ : ∃ e0 e1 e2, ce = [e0, e1, e2] := by
              match ce, hcl3 with
              | [e0, e1, e2], _ => exact ⟨e0, e1, e2, rfl⟩
            have k0 : w5.cell? ⟨g, i * 3, none⟩ = some e0 := hcc 0 e0 rfl
            have k1' : w5.cell? ⟨g, i * 3 + 1, none⟩ = some e1 := hcc 1 e1 rfl
            have k2' : w5.cell? ⟨g, i * 3 + 2, none⟩ = some e2 := hcc 2 e2 rfl
            have k1a : (w5.setCell ⟨g, i * 3, none⟩ (.int .i64 v.f0)).cell? ⟨g, i * 3 + 1, none⟩ = some e1 := (World.cell?_setCell_other _ _ _ _ (fun e => by injection e with _ e _; omega)).trans k1'
            have k2a : ((w5.setCell ⟨g, i * 3, none⟩ (.int .i64 v.f0)).setCell ⟨g, i * 3 + 1, none⟩ (.int .i64 v.f1)).cell? ⟨g, i * 3 + 2, none⟩ = some e2 := (World.cell?_setCell_other _ _ _ _ (fun e => by injection e with _ e _; omega)).trans ((World.cell?_setCell_other _ _ _ _ (fun e => by injection e with _ e _; omega)).trans k2')
            have f0 : w5.frozen? ⟨g, i * 3, none⟩ = false := hfz 0
            have f1 : w5.frozen? ⟨g, i * 3 + 1, none⟩ = false := hfz 1
            have f2 : w5.frozen? ⟨g, i * 3 + 2, none⟩ = false := hfz 2
            have hne : g ≠ w5.heap.size := by omega
            have hyi2 : (i : Int) < (ys.length : Int) := by omega
            have hd3 : decide ((i : Int) < (ys.length : Int)) = true := decide_eq_true hyi2
            have HYI := Aside0.mk hyi
            clear hv HV2 HS1 HS3 hR7 hG7 hcl hcl3 hcc hfz HO HB HO5 HB5 hM46 hbg k1' k2'
            go_wp2
            go_roundg k1
            case measure => omega
            case rel => exact ⟨i + 1, ys.set i v, by congr 1, ⟨by have := HI.out; omega⟩, ⟨by rw [List.length_set]; exact HY.out⟩, HV3, ⟨Kd.R_alloc HO7.out _⟩, ⟨below_alloc HB7.out _⟩⟩
    · have hlb : ((fs.length : Int) != (l.length : Int)) = true := bne_iff_ne.2 (by omega)
      have hR := HR.out
      rw [if_pos hl] at hR
      have HRR := Aside0.mk hR
      clear hR hl
      go_enter Tryz.func10, Tryz.ntmps10
      go_upto_region 4 with (go_at_call 12; refine hchk.mono ?_; rintro e w1 ⟨rfl, hb1⟩; have HB1 := Aside0.mk hb1; clear hb1 hchk)
      have cvb1 := HCV.out w1 HB1.out
      go_wp2_with (go_at_call 22; refine (HSP.out w1).mono ?_; rintro e w2 ⟨v2, rfl, hR2, hb2⟩; obtain ⟨A2, c2, rfl⟩ := Kd.R_slice hR2; have HB2 := Aside0.mk (below_step HB1.out hb2); clear hR2 hb2)
      go_ret2
      rw [← HRR.out]
      exact rowPost_nil 121 w w2 HB2.out
  · rw [if_pos h0] at hR
    subst hR
    have h0b : (r != 0) = true := bne_iff_ne.2 h0
    clear h0
    go_enter Tryz.func10, Tryz.ntmps10
    go_wp2_with (go_at_call 12; refine hchk.mono ?_; rintro e w1 ⟨rfl, hb1⟩; have HB1 := Aside0.mk hb1; clear hb1 hchk)
    go_ret2
    exact rowPost_nil r w w1 HB1.out
end Go.Proofs.YtnjlgeenhmamjaaGreatDoor.Q
/- Plain law of a text without its signs, and of a record's fields. -/
namespace Go.Proofs.YtnjlgeenhmamjaaGreatDoor.Q
open Go.RowKit Go.Proofs.YtnjlgeenhmamjaaGreatDoorW.PrintWords
set_option linter.unusedVariables false
/-! #### a text without its signs -/
/-- The bytes from i on without signs, behind cur. -/
def plF (s : ByteArray) : Nat → Nat → List Int → Option (List Int)
  | 0, _, _ => none
  | n + 1, i, cur =>
    if i < s.size then
      if bt s i = 92 then
        if i + 1 < s.size ∧ (bt s (i + 1 : Nat) = 44 ∨ bt s (i + 1 : Nat) = 92) then plF s n (i + 2) (cur ++ [bt s (i + 1 : Nat)]) else none
      else plF s n (i + 1) (cur ++ [bt s i])
    else some cur
/-- What a text without its signs is, and whether it is one. -/
def plO (s : ByteArray) : Option ByteArray := match plF s (s.size + 1) 0 [] with
  | none => none
  | some cur => if cur.length ≤ 200 then some (strOfNums cur) else none
theorem plain_l0 (s : ByteArray) (hs : s.size ≤ 100000) : ∀ (n i : Nat) (cur : List Int), s.size < i + n → i ≤ s.size → cur.length ≤ i →
    ∃ t ok, Ev (fun k => decode_plain.l0 k s cur i) (t, ok) ∧ (if ok = true then some t else none) = (match plF s n i cur with | none => none | some c => if c.length ≤ 200 then some (strOfNums c) else none)
  | 0, i, cur, h, hi, hc => by omega
  | n + 1, i, cur, h, hi, hc => by
    unfold plF
    by_cases hlt : i < s.size
    · rw [if_pos hlt]
      by_cases h92 : bt s i = 92
      · rw [if_pos h92]
        by_cases h1 : i + 1 < s.size
        · have hj : ∀ b : Bool, b = false → ∃ t ok, Ev (fun k => decode_plain.j1 k s cur ((i + 1 : Nat) : Int) b) (t, ok) ∧ (if ok = true then some t else none) = (match plF s n (i + 2) (cur ++ [bt s (i + 1 : Nat)]) with | none => none | some c => if c.length ≤ 200 then some (strOfNums c) else none) := fun b hb => by
            subst hb
            obtain ⟨t, ok, ih, e⟩ := plain_l0 s hs n (i + 2) (cur ++ [bt s (i + 1 : Nat)]) (by omega) (by omega) (by simp; omega)
            refine ⟨t, ok, Ev.step ih fun k => ?_, e⟩
            simp only [decode_plain.j1]
            rw [if_neg Bool.false_ne_true, if_pos (by omega), if_pos (by omega), if_pos (by omega), w64n (i + 1) (by omega)]
          have hunf : ∀ k, decode_plain.l0 (k + 1) s cur i = if bt s (i + 1 : Nat) = 44 then decode_plain.j1 k s cur ((i + 1 : Nat) : Int) false else decode_plain.j1 k s cur ((i + 1 : Nat) : Int) (bt s (i + 1 : Nat) != 92) := fun k => by
            simp only [decode_plain.l0]
            rw [if_pos (by omega), if_pos (by omega), if_pos h92, w64n i (by omega), if_neg (by omega), if_pos (by omega), if_pos (by omega)]
          by_cases h44 : bt s (i + 1 : Nat) = 44
          · rw [if_pos ⟨h1, .inl h44⟩]
            obtain ⟨t, ok, ih, e⟩ := hj false rfl
            exact ⟨t, ok, Ev.step ih fun k => by rw [hunf k, if_pos h44], e⟩
          · by_cases h9 : bt s (i + 1 : Nat) = 92
            · rw [if_pos ⟨h1, .inr h9⟩]
              obtain ⟨t, ok, ih, e⟩ := hj false rfl
              exact ⟨t, ok, Ev.step ih fun k => by rw [hunf k, if_neg h44, h9]; rfl, e⟩
            · rw [if_neg (fun h => h.2.elim h44 h9)]
              refine ⟨⟨#[]⟩, false, ?_, rfl⟩
              refine Ev.step (g := fun k => decode_plain.j1 k s cur ((i + 1 : Nat) : Int) true) (Ev.const fun k => by simp only [decode_plain.j1]; rfl) fun k => ?_
              rw [hunf k, if_neg h44, bne_iff_ne.2 h9]
        · rw [if_neg (fun h => h1 h.1)]
          refine ⟨⟨#[]⟩, false, ?_, rfl⟩
          refine Ev.step (g := fun k => decode_plain.j1 k s cur ((i + 1 : Nat) : Int) true) (Ev.const fun k => by simp only [decode_plain.j1]; rfl) fun k => ?_
          simp only [decode_plain.l0]
          rw [if_pos (by omega), if_pos (by omega), if_pos h92, w64n i (by omega), if_pos (by omega)]
      · rw [if_neg h92]
        obtain ⟨t, ok, ih, e⟩ := plain_l0 s hs n (i + 1) (cur ++ [bt s i]) (by omega) (by omega) (by simp; omega)
        refine ⟨t, ok, Ev.step ih fun k => ?_, e⟩
        simp only [decode_plain.l0]
        rw [if_pos (by omega), if_pos (by omega), if_neg h92, if_pos (by omega), w64n i (by omega)]
    · rw [if_neg hlt]
      refine ⟨strOfNums cur, decide ((cur.length : Int) ≤ 200), Ev.const fun k => ?_, ?_⟩
      · simp only [decode_plain.l0]
        rw [if_neg (by omega)]
      · by_cases h2 : cur.length ≤ 200
        · rw [decide_eq_true (show (cur.length : Int) ≤ 200 by omega), if_pos rfl]
          simp only
          rw [if_pos h2]
        · rw [decide_eq_false (show ¬ (cur.length : Int) ≤ 200 by omega), if_neg Bool.false_ne_true]
          simp only
          rw [if_neg h2]
theorem plain_ev (s : ByteArray) (hs : s.size ≤ 8000) : ∃ K t ok, decode_plain.f K s = some (t, ok) ∧ (if ok = true then some t else none) = plO s := by
  obtain ⟨t, ok, h, e⟩ := plain_l0 s (by omega) (s.size + 1) 0 [] (by omega) (by omega) (by simp)
  obtain ⟨K, hK⟩ := h.get
  exact ⟨K, t, ok, hK, e⟩
/-! #### a record's fields -/
theorem endF_fuel (s : ByteArray) : ∀ (k k' i : Nat), s.size < i + k → s.size < i + k' → endF s k i = endF s k' i
  | 0, 0, i, h, h' => rfl
  | 0, k' + 1, i, h, h' => by
    unfold endF
    rw [if_neg (by omega)]
  | k + 1, 0, i, h, h' => by
    unfold endF
    rw [if_neg (by omega)]
  | k + 1, k' + 1, i, h, h' => by
    unfold endF
    by_cases hc : (i : Int) < s.size ∧ bt s i ≠ 44
    · rw [if_pos hc, if_pos hc, endF_fuel s k k' (i + 2) (by omega) (by omega), endF_fuel s k k' (i + 1) (by omega) (by omega)]
    · rw [if_neg hc, if_neg hc]
theorem fields_fuel (s : ByteArray) : ∀ (k k' a : Nat), a ≤ s.size → s.size < a + k → s.size < a + k' → fields s k a = fields s k' a
  | 0, _, a, ha, h, h' => by omega
  | _ + 1, 0, a, ha, h, h' => by omega
  | k + 1, k' + 1, a, ha, h, h' => by
    unfold fields
    have hge := fieldE_ge s a ha
    by_cases hc : fieldE s a + 1 ≤ s.size
    · rw [if_pos hc, if_pos hc, fields_fuel s k k' _ hc (by omega) (by omega)]
    · rw [if_neg hc, if_neg hc]
/-- Where the field ends that goes on at i. -/
def endS (s : ByteArray) (i : Nat) : Nat := endF s (s.size + 1) i
theorem endS_eq (s : ByteArray) (i : Nat) : endS s i = if (i : Int) < s.size ∧ bt s i ≠ 44 then (if bt s i = 92 then endS s (i + 2) else endS s (i + 1)) else i := by
  unfold endS
  conv => lhs; unfold endF
  by_cases hc : (i : Int) < s.size ∧ bt s i ≠ 44
  · rw [if_pos hc, if_pos hc]
    have e1 : endF s s.size (i + 2) = endF s (s.size + 1) (i + 2) := endF_fuel s _ _ _ (by omega) (by omega)
    have e2 : endF s s.size (i + 1) = endF s (s.size + 1) (i + 1) := endF_fuel s _ _ _ (by omega) (by omega)
    rw [e1, e2]
  · rw [if_neg hc, if_neg hc]
def rest (s : ByteArray) (F : Nat) : List ByteArray := if F + 1 ≤ s.size then fields s (s.size + 1) (F + 1) else []
theorem fields_eq (s : ByteArray) (a : Nat) (ha : a ≤ s.size) : fields s (s.size + 1) a = s.extract a (fieldE s a) :: rest s (fieldE s a) := by
  conv => lhs; unfold fields
  unfold rest
  have hge := fieldE_ge s a ha
  by_cases hc : fieldE s a + 1 ≤ s.size
  · rw [if_pos hc, if_pos hc, fields_fuel s s.size (s.size + 1) _ hc (by omega) (by omega)]
  · rw [if_neg hc, if_neg hc]
theorem mid_snoc (s : ByteArray) (a i : Nat) (ha : a ≤ i) (hi : i < s.size) : ((bytesOf s).drop a).take (i - a) ++ [bt s i] = ((bytesOf s).drop a).take (i + 1 - a) := by
  have hl := bytesOf_length s
  have e : bt s i = (bytesOf s)[i]'(by omega) := by
    rw [← rd_bytesOf s (i : Int)]
    unfold rd
    rw [Int.toNat_natCast, List.getD_eq_getElem?_getD, List.getElem?_eq_getElem (by omega)]
    rfl
  rw [show i + 1 - a = (i - a) + 1 by omega, List.take_add_one, List.getElem?_drop, show a + (i - a) = i by omega, List.getElem?_eq_getElem (by omega), e]
  rfl
theorem str_mid' (s : ByteArray) (a F : Nat) (h : F ≤ s.size) : strOfNums (((bytesOf s).drop a).take (F - a)) = s.extract a F := by
  have e : (fun n : Int => UInt8.ofNat n.toNat) ∘ (fun b : UInt8 => (b.toNat : Int)) = id := by
    funext b
    simp
  apply ByteArray.ext
  apply Array.ext'
  rw [ByteArray.data_extract, Array.toList_extract, List.extract_eq_take_drop]
  unfold strOfNums bytesOf
  simp only [List.map_take, List.map_drop, List.map_map, e, List.map_id]
end Go.Proofs.YtnjlgeenhmamjaaGreatDoor.Q
