/- decode.Row: walked. -/
import Derived.Test.YtnjlgeenhmamjaaDoorZDecodeRows11
import Derived.Test.YtnjlgeenhmamjaaDoorZDecodeRows8
import Derived.Test.YtnjlgeenhmamjaaDoorZDecodeRows7
namespace Go.Proofs.YtnjlgeenhmamjaaDoor.Q
open Go.RowKit Go.Proofs.YtnjlgeenhmamjaaDoorW.PrintWords Go.Proofs.YtnjlgeenhmamjaaDoorW.PrintLast Go.Proofs.YtnjlgeenhmamjaaDoorW.PrintMore
set_option linter.unusedVariables false
set_option linter.unusedSimpArgs false
/-- What the fields say, all of them. -/
def valsO (PL : ByteArray → Option ByteArray) : List Co → List ByteArray → Option (List Va)
  | c :: cs, s :: fs => match saysO (PL s) c.f1 s with
    | none => none
    | some v => (valsO PL cs fs).map (v :: ·)
  | _, _ => some []
/-- What decode.Row comes to, where Check says r. -/
def rowR (PL : ByteArray → Option ByteArray) (r : Int) (l : List Co) (s : ByteArray) : List Va × Int :=
  if r ≠ 0 then ([], r)
  else if (fields s (s.size + 1) 0).length ≠ l.length then ([], 121)
  else match valsO PL l (fields s (s.size + 1) 0) with
    | none => ([], 122)
    | some vs => (vs, 0)
/-- How the answer is told. -/
def RowPost (R : List Va × Int) (w : World) (e : Ending) (w' : World) : Prop :=
  ∃ A c, e = .returned (.tuple #[.slice A R.1.length c, .int .i64 R.2]) ∧ Kd.C k46 w' A R.1.length R.1 ∧ R.1.length ≤ c ∧ Below w.heap.size w w'
theorem strNums_bytesOf (s : ByteArray) : strOfNums (bytesOf s) = s := by
  have e : (fun n : Int => UInt8.ofNat n.toNat) ∘ (fun b : UInt8 => (b.toNat : Int)) = id := by
    funext b
    simp
  apply ByteArray.ext
  apply Array.ext'
  unfold strOfNums bytesOf
  simp only [List.map_map, e, List.map_id]
theorem rowPost_nil (r : Int) (w W : World) (hb : Below w.heap.size w W) : RowPost ([], r) w (.returned (.tuple #[.slice none 0 0, .int .i64 r])) W := by
  obtain ⟨A, c, h1, h2, h3⟩ := Kd.R_reads (Kd.R_nil k46 0 W 0 (fun _ => True))
  injection h1 with h1 _ h4
  subst h1 h4
  exact ⟨none, 0, rfl, h3, Nat.le_refl _, hb⟩
theorem str_drop (l : List ByteArray) (i : Nat) (h : i < l.length) : l.drop i = rdOf ByteArray.empty l (i : Int) :: l.drop (i + 1) := by
  rw [List.drop_eq_getElem_cons h]
  unfold rdOf
  rw [Int.toNat_natCast, List.getD_eq_getElem?_getD, List.getElem?_eq_getElem h]
  rfl
theorem set_take {α : Type} (ys : List α) (i : Nat) (x : α) (h : i < ys.length) : (ys.set i x).take (i + 1) = ys.take i ++ [x] := by
  rw [List.take_add_one, List.getElem?_set_self h, List.take_set_of_le (Nat.le_refl _)]
  rfl
theorem fields_size (s : ByteArray) : ∀ k a, ∀ f ∈ fields s k a, f.size ≤ s.size
  | 0, a, f, h => by simp [fields] at h
  | k + 1, a, f, h => by
    unfold fields at h
    rcases List.mem_cons.1 h with rfl | h
    · rw [ByteArray.size_extract]; omega
    · split at h
      · exact fields_size s k _ f h
      · simp at h
set_option maxHeartbeats 8000000 in
set_option maxRecDepth 100000 in
theorem row_walk (PL : ByteArray → Option ByteArray) (hPL : ∀ s : ByteArray, s.size ≤ 8000 → ∃ K t ok, decode_plain.f K s = some (t, ok) ∧ (if ok = true then some t else none) = PL s)
    (KC : Nat) (A : Option Addr) (c : Nat) (l : List Co) (r : Int) (hr : decode_Check.f KC l = some r) (B : Option Addr) (d : Nat) (s : ByteArray) (hs : s.size ≤ 8000) (w : World) (hG : Glob w)
    (hC : Kd.C k44 w A l.length l) (hc : l.length ≤ c) (hB : Kd.C (Kd.int .u8) w B (bytesOf s).length (bytesOf s)) :
    Calls Tryd.prog 14 #[.slice A l.length c, .slice B s.size d] w (RowPost (rowR PL r l s) w) := by
  have HC := Aside0.mk hC
  have HG := Aside0.mk hG
  have HBy := Aside0.mk hB
  have hchk := decode_Check.calls KC A c l r w hC hc hr
  generalize hR : rowR PL r l s = R
  unfold rowR at hR
  have HPL := Aside0.mk hPL
  clear hC hG hB hPL
  by_cases h0 : r = 0
  · subst h0
    rw [if_neg (by decide)] at hR
    have hfl := fields_len s (s.size + 1) 0 (Nat.zero_le _)
    have hfz := fields_size s (s.size + 1) 0
    have hsp := fun W => split_calls s (by omega) W
    obtain ⟨fs, hfs⟩ : ∃ fs, fields s (s.size + 1) 0 = fs := ⟨_, rfl⟩
    rw [hfs] at hR hfl hfz
    simp only [hfs] at hsp
    have HR := Aside0.mk hR
    have HFZ := Aside0.mk hfz
    have HSP := Aside0.mk hsp
    clear hR hfz hsp hfs
    have cvb : ∀ W, Below w.heap.size w W → (convert 35 9 (.slice B s.size d)).run Tryd.prog W = .ok (.string s) W := fun W hW => by
      have := Kd.C_string (P := Tryd.prog) (c := d) Tryd.underlying35 Tryd.underlying5 Tryd.underlying9 (Kd.C_below HBy.out hW)
      rw [bytesOf_length, strNums_bytesOf] at this
      exact this
    have HCV := Aside0.mk cvb
    clear cvb
    by_cases hl : fs.length = l.length
    · have hlb : ((fs.length : Int) != (l.length : Int)) = false := bne_eq_false_iff_eq.2 (by omega)
      have hR := HR.out
      rw [if_neg (fun h => h hl)] at hR
      have HR := Aside0.mk hR
      have HL := Aside0.mk hl
      clear hR hl
      go_enter Tryd.func14, Tryd.ntmps14
      go_upto_region 4 with (go_at_call 13; refine hchk.mono ?_; rintro e w1 ⟨rfl, hb1⟩; have HB1 := Aside0.mk hb1; clear hb1 hchk)
      have cvb1 := HCV.out w1 HB1.out
      go_upto_region 7 with (go_at_call 18; refine (HSP.out w1).mono ?_; rintro e w2 ⟨v2, rfl, hR2, hb2⟩; obtain ⟨A2, c2, rfl⟩ := Kd.R_slice hR2; have HS2 := Aside0.mk (Kd.R_reads' hR2).2.2; have HB2 := Aside0.mk (below_step HB1.out hb2); clear hR2 hb2)
      clear cvb1 HB1 HCV HSP
      have hfl2 : fs.length ≤ 8001 := by omega
      have zm : Kd.M k46 w2 w2.heap.size (fun _ => False) z46 [.int .i64 0, .int .i64 0, .string ⟨#[]⟩] := k46_mkM _ _ _ z46
      go_upto_region 8 with ((with_reducible refine gate_dst (N := 28) rfl ?_); refine Kd.R_make k46 (w0 := w2) w2.heap.size 46 rfl (N := 28) rfl 32 (.tmp 27) (.tmp 27) rfl (fs.length : Int) rfl rfl Tryd.underlying32 _ 32 info46 rfl (by decide) (by omega) z46 (ok := fun _ => True) (okp := fun _ => False) zm (fun _ h => h.elim) trivial (by omega) (by rw [Int.toNat_natCast]; omega) (Below.refl _ _) (Nat.le_refl _) ?_; intro v4 w4 ho hb hg hat; rw [Int.toNat_natCast] at ho; have HO4 := Aside0.mk ho; have HB4 := Aside0.mk hb; clear ho hb hg hat)
      clear zm
      go_wp2
      go_loopg [31] fs.length (fun kq v31 wr => ∃ (i : Nat) (ys : List Va), v31 = .int .i64 i ∧ Aside0 (i + kq = fs.length) ∧ Aside0 (ys.length = fs.length) ∧ Aside0 (valsO PL l fs = (valsO PL (l.drop i) (fs.drop i)).map (ys.take i ++ ·)) ∧ Aside0 (Kd.R k46 46 wr w2.heap.size (fun _ => True) v4 ys) ∧ Aside0 (Below w2.heap.size w2 wr))
      case atStart => exact ⟨0, _, rfl, ⟨by omega⟩, ⟨List.length_replicate ..⟩, ⟨by simp⟩, HO4, HB4⟩
      case round =>
        clear HO4 HB4
        obtain ⟨i, ys, rfl, HI, HY, HV, HO, HB⟩ := hrel
        cases gk with
        | zero =>
          have hi : i = fs.length := HI.out
          have hlb1 : decide ((i : Int) < (fs.length : Int)) = false := decide_eq_false (by omega)
          have hlb2 : decide (i < fs.length) = false := decide_eq_false (by omega)
          have hv := HV.out
          have hll := HL.out
          have hyl := HY.out
          rw [List.drop_of_length_le (by omega), List.drop_of_length_le (by omega), List.take_of_length_le (by omega)] at hv
          have hRR := HR.out
          rw [hv] at hRR
          have hRR : (ys, (0 : Int)) = R := by simpa [valsO] using hRR
          have HRR := Aside0.mk hRR
          clear hi hv hll hyl hRR
          go_wp2
          have hfin : RowPost R w (.returned (.tuple #[v4, .int .i64 0])) wr := by
            obtain ⟨A4, c4, rfl, h1, h2⟩ := Kd.R_reads HO.out
            rw [← HRR.out]
            exact ⟨A4, c4, rfl, h2, h1, below_step HB2.out HB.out⟩
          go_ret2
          exact hfin
        | succ k1 =>
          have hlt : i < fs.length := by have := HI.out; omega
          have hlc : i < l.length := by have := HL.out; omega
          have hlb1 : decide ((i : Int) < (fs.length : Int)) = true := decide_eq_true (by omega)
          have hlb2 : decide (i < fs.length) = true := decide_eq_true hlt
          have hw1 : wrap64 ((i : Int) + 1) = (i : Int) + 1 := wrap_in (by unfold in64; omega)
          have hbw := below_step HB2.out HB.out
          obtain ⟨ad, rfl, x0, x1⟩ := at_T44 (Kd.C_below HC.out hbw) (i : Int) (by omega) (by omega)
          obtain ⟨ae, rfl, y0⟩ := Kd.at_string (Kd.C_below HS2.out HB.out) (i : Int) (by omega) (by omega)
          rw [Int.toNat_natCast] at x0 x1 y0
          have hd1 := co_drop l i hlc
          have hd2 := str_drop fs i hlt
          have hv := HV.out
          rw [hd1, hd2] at hv
          have hmem : rdOf ByteArray.empty fs (i : Int) ∈ fs := by
            have : rdOf ByteArray.empty fs (i : Int) ∈ fs.drop i := by rw [hd2]; simp
            exact List.mem_of_mem_drop this
          have hfs := HFZ.out _ hmem
          generalize rd_T44 l (i : Int) = y at x0 x1 hv
          generalize rdOf ByteArray.empty fs (i : Int) = f at y0 hv hfs
          obtain ⟨nm, kd⟩ := y
          simp only at x0 x1 hv
          obtain ⟨K, t, ok, hp, hPLe⟩ := HPL.out f (by omega)
          have hcall := says_calls kd f (by omega) K t ok hp wr (HG.out.below hbw)
          rw [hPLe] at hcall
          have hv2 : valsO PL (⟨nm, kd⟩ :: l.drop (i + 1)) (f :: fs.drop (i + 1)) = match saysO (PL f) kd f with | none => none | some v => (valsO PL (l.drop (i + 1)) (fs.drop (i + 1))).map (v :: ·) := rfl
          rw [hv2] at hv
          have HV2 := Aside0.mk hv
          clear hd1 hd2 hv hv2 hmem hbw hp hPLe HV
          go_upto_region 12 with (go_at_call 22; refine hcall.mono ?_; rintro e w5 ⟨⟨v, ok2, rfl, hs1, hs2⟩, hb5⟩; have HB5 := Aside0.mk (below_step HB.out hb5); have HO5 := Aside0.mk (Kd.R_below HO.out hb5); have HS1 := Aside0.mk hs1; have HS3 := Aside0.mk hs2; clear hb5 hs1 hs2 hcall)
          cases ok2 with
          | false =>
            have hv := HV2.out
            rw [HS3.out rfl] at hv
            have hRR := HR.out
            rw [hv] at hRR
            have hRR : (([], 122) : List Va × Int) = R := hRR
            have HRR := Aside0.mk hRR
            clear hv hRR HV2 HS1 HS3
            go_wp2
            go_ret2
            rw [← HRR.out]
            exact rowPost_nil 122 w _ (below_alloc (below_step HB2.out HB5.out) _)
          | true =>
            have hv := HV2.out
            rw [HS1.out rfl] at hv
            have hv : valsO PL l fs = (valsO PL (l.drop (i + 1)) (fs.drop (i + 1))).map (fun t => ys.take i ++ v :: t) := by
              rw [hv]
              simp only [Option.map_map]
              rfl
            have hyi : i < ys.length := by have := HY.out; omega
            have HV3 : Aside0 (valsO PL l fs = (valsO PL (l.drop (i + 1)) (fs.drop (i + 1))).map ((ys.set i v).take (i + 1) ++ ·)) := ⟨by rw [hv, set_take ys i v hyi]; simp⟩
            obtain ⟨a4, c4, rfl⟩ := Kd.R_slice1 HO5.out (by omega)
            obtain ⟨g, rfl⟩ := Kd.R_head HO5.out
            obtain ⟨ce, hcl, _, hcc, hfz⟩ := Kd.R_elem HO5.out z46 (i : Int) (by omega) (by omega)
            have hM46 : Kd.M k46 w5 w2.heap.size (fun _ => False) v (ce.take 0 ++ [Value.int .i64 v.f0, .int .i64 v.f1, .string v.f2] ++ ce.drop (0 + 3)) := by
              have e : ce.drop (0 + 3) = [] := List.drop_of_length_le (by rw [hcl]; exact Nat.le_refl 3)
              rw [e]
              exact k46_mkM _ _ _ v
            obtain ⟨hR7, hG7⟩ := Kd.R_seg HO5.out (i : Int) (by omega) (by omega) (seg := [Value.int .i64 v.f0, .int .i64 v.f1, .string v.f2]) (j := 0) hcl hcc (Nat.le_refl 3) hM46 (fun _ h => h.elim)
            have hbg := Kd.R_base HO5.out g (by simp [Value.ownBlock])
            have hlg := Kd.R_lt HO5.out g (by simp [Value.ownBlock])
            have HB7 := Aside0.mk (Below.grown HB5.out hG7 HB5.out.size (fun k e => by injection e with e; omega))
            have HO7 := Aside0.mk hR7
            have hcl3 : ce.length = 3 := hcl
            obtain ⟨e0, e1, e2, rfl⟩ : ∃ e0 e1 e2, ce = [e0, e1, e2] := by
              match ce, hcl3 with
              | [e0, e1, e2], _ => exact ⟨e0, e1, e2, rfl⟩
            have k0 : w5.cell? ⟨g, i * 3, none⟩ = some e0 := hcc 0 e0 rfl
            have k1' : w5.cell? ⟨g, i * 3 + 1, none⟩ = some e1 := hcc 1 e1 rfl
            have k2' : w5.cell? ⟨g, i * 3 + 2, none⟩ = some e2 := hcc 2 e2 rfl
            have k1a : (w5.setCell ⟨g, i * 3, none⟩ (.int .i64 v.f0)).cell? ⟨g, i * 3 + 1, none⟩ = some e1 := (World.cell?_setCell_other _ _ _ _ (fun e => by injection e with _ e _; omega)).trans k1'
            have k2a : ((w5.setCell ⟨g, i * 3, none⟩ (.int .i64 v.f0)).setCell ⟨g, i * 3 + 1, none⟩ (.int .i64 v.f1)).cell? ⟨g, i * 3 + 2, none⟩ = some e2 := (World.cell?_setCell_other _ _ _ _ (fun e => by injection e with _ e _; omega)).trans ((World.cell?_setCell_other _ _ _ _ (fun e => by injection e with _ e _; omega)).trans k2')
            have f0 : w5.frozen? ⟨g, i * 3, none⟩ = false := hfz 0
            have f1 : w5.frozen? ⟨g, i * 3 + 1, none⟩ = false := hfz 1
            have f2 : w5.frozen? ⟨g, i * 3 + 2, none⟩ = false := hfz 2
            have hne : g ≠ w5.heap.size := by omega
            have hyi2 : (i : Int) < (ys.length : Int) := by omega
            have hd3 : decide ((i : Int) < (ys.length : Int)) = true := decide_eq_true hyi2
            have HYI := Aside0.mk hyi
            clear hv HV2 HS1 HS3 hR7 hG7 hcl hcl3 hcc hfz HO HB HO5 HB5 hM46 hbg k1' k2'
            go_wp2
            go_roundg k1
            case measure => omega
            case rel => exact ⟨i + 1, ys.set i v, by congr 1, ⟨by have := HI.out; omega⟩, ⟨by rw [List.length_set]; exact HY.out⟩, HV3, ⟨Kd.R_alloc HO7.out _⟩, ⟨below_alloc HB7.out _⟩⟩
    · have hlb : ((fs.length : Int) != (l.length : Int)) = true := bne_iff_ne.2 (by omega)
      have hR := HR.out
      rw [if_pos hl] at hR
      have HRR := Aside0.mk hR
      clear hR hl
      go_enter Tryd.func14, Tryd.ntmps14
      go_upto_region 4 with (go_at_call 13; refine hchk.mono ?_; rintro e w1 ⟨rfl, hb1⟩; have HB1 := Aside0.mk hb1; clear hb1 hchk)
      have cvb1 := HCV.out w1 HB1.out
      go_wp2_with (go_at_call 18; refine (HSP.out w1).mono ?_; rintro e w2 ⟨v2, rfl, hR2, hb2⟩; obtain ⟨A2, c2, rfl⟩ := Kd.R_slice hR2; have HB2 := Aside0.mk (below_step HB1.out hb2); clear hR2 hb2)
      go_ret2
      rw [← HRR.out]
      exact rowPost_nil 121 w w2 HB2.out
  · rw [if_pos h0] at hR
    subst hR
    have h0b : (r != 0) = true := bne_iff_ne.2 h0
    clear h0
    go_enter Tryd.func14, Tryd.ntmps14
    go_wp2_with (go_at_call 13; refine hchk.mono ?_; rintro e w1 ⟨rfl, hb1⟩; have HB1 := Aside0.mk hb1; clear hb1 hchk)
    go_ret2
    exact rowPost_nil r w w1 HB1.out
end Go.Proofs.YtnjlgeenhmamjaaDoor.Q
/- Plain law of a text without its signs, and of a record's fields. -/
namespace Go.Proofs.YtnjlgeenhmamjaaDoor.Q
open Go.RowKit Go.Proofs.YtnjlgeenhmamjaaDoorW.PrintWords
set_option linter.unusedVariables false
/-! #### a text without its signs -/
/-- The bytes from i on without signs, behind cur. -/
def plF (s : ByteArray) : Nat → Nat → List Int → Option (List Int)
  | 0, _, _ => none
  | n + 1, i, cur =>
    if i < s.size then
      if bt s i = 92 then
        if i + 1 < s.size ∧ (bt s (i + 1 : Nat) = 44 ∨ bt s (i + 1 : Nat) = 92) then plF s n (i + 2) (cur ++ [bt s (i + 1 : Nat)]) else none
      else plF s n (i + 1) (cur ++ [bt s i])
    else some cur
/-- What a text without its signs is, and whether it is one. -/
def plO (s : ByteArray) : Option ByteArray := match plF s (s.size + 1) 0 [] with
  | none => none
  | some cur => if cur.length ≤ 200 then some (strOfNums cur) else none
theorem plain_l0 (s : ByteArray) (hs : s.size ≤ 100000) : ∀ (n i : Nat) (cur : List Int), s.size < i + n → i ≤ s.size → cur.length ≤ i →
    ∃ t ok, Ev (fun k => decode_plain.l0 k s cur i) (t, ok) ∧ (if ok = true then some t else none) = (match plF s n i cur with | none => none | some c => if c.length ≤ 200 then some (strOfNums c) else none)
  | 0, i, cur, h, hi, hc => by omega
  | n + 1, i, cur, h, hi, hc => by
    unfold plF
    by_cases hlt : i < s.size
    · rw [if_pos hlt]
      by_cases h92 : bt s i = 92
      · rw [if_pos h92]
        by_cases h1 : i + 1 < s.size
        · have hj : ∀ b : Bool, b = false → ∃ t ok, Ev (fun k => decode_plain.j1 k s cur ((i + 1 : Nat) : Int) b) (t, ok) ∧ (if ok = true then some t else none) = (match plF s n (i + 2) (cur ++ [bt s (i + 1 : Nat)]) with | none => none | some c => if c.length ≤ 200 then some (strOfNums c) else none) := fun b hb => by
            subst hb
            obtain ⟨t, ok, ih, e⟩ := plain_l0 s hs n (i + 2) (cur ++ [bt s (i + 1 : Nat)]) (by omega) (by omega) (by simp; omega)
            refine ⟨t, ok, Ev.step ih fun k => ?_, e⟩
            simp only [decode_plain.j1]
            rw [if_neg Bool.false_ne_true, if_pos (by omega), if_pos (by omega), if_pos (by omega), w64n (i + 1) (by omega)]
          have hunf : ∀ k, decode_plain.l0 (k + 1) s cur i = if bt s (i + 1 : Nat) = 44 then decode_plain.j1 k s cur ((i + 1 : Nat) : Int) false else decode_plain.j1 k s cur ((i + 1 : Nat) : Int) (bt s (i + 1 : Nat) != 92) := fun k => by
            simp only [decode_plain.l0]
            rw [if_pos (by omega), if_pos (by omega), if_pos h92, w64n i (by omega), if_neg (by omega), if_pos (by omega), if_pos (by omega)]
          by_cases h44 : bt s (i + 1 : Nat) = 44
          · rw [if_pos ⟨h1, .inl h44⟩]
            obtain ⟨t, ok, ih, e⟩ := hj false rfl
            exact ⟨t, ok, Ev.step ih fun k => by rw [hunf k, if_pos h44], e⟩
          · by_cases h9 : bt s (i + 1 : Nat) = 92
            · rw [if_pos ⟨h1, .inr h9⟩]
              obtain ⟨t, ok, ih, e⟩ := hj false rfl
              exact ⟨t, ok, Ev.step ih fun k => by rw [hunf k, if_neg h44, h9]; rfl, e⟩
            · rw [if_neg (fun h => h.2.elim h44 h9)]
              refine ⟨⟨#[]⟩, false, ?_, rfl⟩
              refine Ev.step (g := fun k => decode_plain.j1 k s cur ((i + 1 : Nat) : Int) true) (Ev.const fun k => by simp only [decode_plain.j1]; rfl) fun k => ?_
              rw [hunf k, if_neg h44, bne_iff_ne.2 h9]
        · rw [if_neg (fun h => h1 h.1)]
          refine ⟨⟨#[]⟩, false, ?_, rfl⟩
          refine Ev.step (g := fun k => decode_plain.j1 k s cur ((i + 1 : Nat) : Int) true) (Ev.const fun k => by simp only [decode_plain.j1]; rfl) fun k => ?_
          simp only [decode_plain.l0]
          rw [if_pos (by omega), if_pos (by omega), if_pos h92, w64n i (by omega), if_pos (by omega)]
      · rw [if_neg h92]
        obtain ⟨t, ok, ih, e⟩ := plain_l0 s hs n (i + 1) (cur ++ [bt s i]) (by omega) (by omega) (by simp; omega)
        refine ⟨t, ok, Ev.step ih fun k => ?_, e⟩
        simp only [decode_plain.l0]
        rw [if_pos (by omega), if_pos (by omega), if_neg h92, if_pos (by omega), w64n i (by omega)]
    · rw [if_neg hlt]
      refine ⟨strOfNums cur, decide ((cur.length : Int) ≤ 200), Ev.const fun k => ?_, ?_⟩
      · simp only [decode_plain.l0]
        rw [if_neg (by omega)]
      · by_cases h2 : cur.length ≤ 200
        · rw [decide_eq_true (show (cur.length : Int) ≤ 200 by omega), if_pos rfl]
          simp only
          rw [if_pos h2]
        · rw [decide_eq_false (show ¬ (cur.length : Int) ≤ 200 by omega), if_neg Bool.false_ne_true]
          simp only
          rw [if_neg h2]
theorem plain_ev (s : ByteArray) (hs : s.size ≤ 8000) : ∃ K t ok, decode_plain.f K s = some (t, ok) ∧ (if ok = true then some t else none) = plO s := by
  obtain ⟨t, ok, h, e⟩ := plain_l0 s (by omega) (s.size + 1) 0 [] (by omega) (by omega) (by simp)
  obtain ⟨K, hK⟩ := h.get
  exact ⟨K, t, ok, hK, e⟩
/-! #### a record's fields -/
theorem endF_fuel (s : ByteArray) : ∀ (k k' i : Nat), s.size < i + k → s.size < i + k' → endF s k i = endF s k' i
  | 0, 0, i, h, h' => rfl
  | 0, k' + 1, i, h, h' => by
    unfold endF
    rw [if_neg (by omega)]
  | k + 1, 0, i, h, h' => by
    unfold endF
    rw [if_neg (by omega)]
  | k + 1, k' + 1, i, h, h' => by
    unfold endF
    by_cases hc : (i : Int) < s.size ∧ bt s i ≠ 44
    · rw [if_pos hc, if_pos hc, endF_fuel s k k' (i + 2) (by omega) (by omega), endF_fuel s k k' (i + 1) (by omega) (by omega)]
    · rw [if_neg hc, if_neg hc]
theorem fields_fuel (s : ByteArray) : ∀ (k k' a : Nat), a ≤ s.size → s.size < a + k → s.size < a + k' → fields s k a = fields s k' a
  | 0, _, a, ha, h, h' => by omega
  | _ + 1, 0, a, ha, h, h' => by omega
  | k + 1, k' + 1, a, ha, h, h' => by
    unfold fields
    have hge := fieldE_ge s a ha
    by_cases hc : fieldE s a + 1 ≤ s.size
    · rw [if_pos hc, if_pos hc, fields_fuel s k k' _ hc (by omega) (by omega)]
    · rw [if_neg hc, if_neg hc]
/-- Where the field ends that goes on at i. -/
def endS (s : ByteArray) (i : Nat) : Nat := endF s (s.size + 1) i
theorem endS_eq (s : ByteArray) (i : Nat) : endS s i = if (i : Int) < s.size ∧ bt s i ≠ 44 then (if bt s i = 92 then endS s (i + 2) else endS s (i + 1)) else i := by
  unfold endS
  conv => lhs; unfold endF
  by_cases hc : (i : Int) < s.size ∧ bt s i ≠ 44
  · rw [if_pos hc, if_pos hc]
    have e1 : endF s s.size (i + 2) = endF s (s.size + 1) (i + 2) := endF_fuel s _ _ _ (by omega) (by omega)
    have e2 : endF s s.size (i + 1) = endF s (s.size + 1) (i + 1) := endF_fuel s _ _ _ (by omega) (by omega)
    rw [e1, e2]
  · rw [if_neg hc, if_neg hc]
def rest (s : ByteArray) (F : Nat) : List ByteArray := if F + 1 ≤ s.size then fields s (s.size + 1) (F + 1) else []
theorem fields_eq (s : ByteArray) (a : Nat) (ha : a ≤ s.size) : fields s (s.size + 1) a = s.extract a (fieldE s a) :: rest s (fieldE s a) := by
  conv => lhs; unfold fields
  unfold rest
  have hge := fieldE_ge s a ha
  by_cases hc : fieldE s a + 1 ≤ s.size
  · rw [if_pos hc, if_pos hc, fields_fuel s s.size (s.size + 1) _ hc (by omega) (by omega)]
  · rw [if_neg hc, if_neg hc]
theorem mid_snoc (s : ByteArray) (a i : Nat) (ha : a ≤ i) (hi : i < s.size) : ((bytesOf s).drop a).take (i - a) ++ [bt s i] = ((bytesOf s).drop a).take (i + 1 - a) := by
  have hl := bytesOf_length s
  have e : bt s i = (bytesOf s)[i]'(by omega) := by
    rw [← rd_bytesOf s (i : Int)]
    unfold rd
    rw [Int.toNat_natCast, List.getD_eq_getElem?_getD, List.getElem?_eq_getElem (by omega)]
    rfl
  rw [show i + 1 - a = (i - a) + 1 by omega, List.take_add_one, List.getElem?_drop, show a + (i - a) = i by omega, List.getElem?_eq_getElem (by omega), e]
  rfl
theorem str_mid' (s : ByteArray) (a F : Nat) (h : F ≤ s.size) : strOfNums (((bytesOf s).drop a).take (F - a)) = s.extract a F := by
  have e : (fun n : Int => UInt8.ofNat n.toNat) ∘ (fun b : UInt8 => (b.toNat : Int)) = id := by
    funext b
    simp
  apply ByteArray.ext
  apply Array.ext'
  rw [ByteArray.data_extract, Array.toList_extract, List.extract_eq_take_drop]
  unfold strOfNums bytesOf
  simp only [List.map_take, List.map_drop, List.map_map, e, List.map_id]
theorem refSplit_l0 (s : ByteArray) (hs : s.size ≤ 100000) : ∀ (n i a : Nat) (done : List ByteArray), i + n = s.size → a ≤ i → done.length ≤ i →
    Ev (fun k => headgateref12_Split.l0 k s done (((bytesOf s).drop a).take (i - a)) false i) (done ++ s.extract a (min (endS s i) s.size) :: rest s (min (endS s i) s.size))
  | n, i, a, done, h, ha, hd => by
    have hl := bytesOf_length s
    have hml : (((bytesOf s).drop a).take (i - a)).length ≤ 100000 := by rw [List.length_take]; omega
    by_cases hlt : i < s.size
    · by_cases h44 : bt s i = 44
      · obtain ⟨m, rfl⟩ : ∃ m, n = m + 1 := ⟨n - 1, by omega⟩
        have he : endS s i = i := by rw [endS_eq, if_neg (fun h => h.2 h44)]
        have ih := refSplit_l0 s hs m (i + 1) (i + 1) (done ++ [s.extract a i]) (by omega) (Nat.le_refl _) (by simp; omega)
        have e2 : done ++ s.extract a (min (endS s i) s.size) :: rest s (min (endS s i) s.size) = (done ++ [s.extract a i]) ++ s.extract (i + 1) (min (endS s (i + 1)) s.size) :: rest s (min (endS s (i + 1)) s.size) := by
          rw [he, Nat.min_eq_left (by omega)]
          conv => lhs; arg 2; arg 2; unfold rest
          rw [if_pos (by omega), fields_eq s (i + 1) (by omega)]
          simp only [List.append_assoc, List.singleton_append]
          rfl
        rw [e2]
        refine Ev.step ih fun k => ?_
        simp only [headgateref12_Split.l0]
        rw [if_pos (by omega), if_neg Bool.false_ne_true, if_pos (by omega), if_pos h44, if_pos (by omega), str_mid' s a i (by omega), w64n i (by omega), Nat.sub_self, List.take_zero]
      · have hunf : ∀ k, headgateref12_Split.l0 (k + 1) s done (((bytesOf s).drop a).take (i - a)) false i = headgateref12_Split.l0 k s done (((bytesOf s).drop a).take (i + 1 - a)) (bt s i == 92) ((i + 1 : Nat) : Int) := fun k => by
          conv => lhs; simp only [headgateref12_Split.l0]
          rw [if_pos (by omega), if_neg Bool.false_ne_true, if_pos (by omega), if_neg h44, if_pos (by omega), w64n i (by omega), mid_snoc s a i ha hlt]
        by_cases h92 : bt s i = 92
        · have he : endS s i = endS s (i + 2) := by rw [endS_eq, if_pos ⟨by omega, h44⟩, if_pos h92]
          rw [he]
          by_cases h1 : i + 1 < s.size
          · obtain ⟨m, rfl⟩ : ∃ m, n = m + 2 := ⟨n - 2, by omega⟩
            have ih := refSplit_l0 s hs m (i + 2) a done (by omega) (by omega) (by omega)
            refine Ev.step (Ev.step (f := fun k => headgateref12_Split.l0 k s done (((bytesOf s).drop a).take (i + 1 - a)) (bt s i == 92) ((i + 1 : Nat) : Int)) ih fun k => ?_) hunf
            rw [h92]
            simp only [headgateref12_Split.l0]
            rw [if_pos (by omega), if_pos (show ((92 : Int) == 92) = true from rfl), if_pos (by omega), if_pos (by rw [List.length_take]; omega), w64n (i + 1) (by omega), mid_snoc s a (i + 1) (by omega) h1]
          · have he2 : endS s (i + 2) = i + 2 := by rw [endS_eq, if_neg (by omega)]
            rw [he2, Nat.min_eq_right (by omega)]
            refine Ev.step (Ev.const (f := fun k => headgateref12_Split.l0 k s done (((bytesOf s).drop a).take (i + 1 - a)) (bt s i == 92) ((i + 1 : Nat) : Int)) fun k => ?_) hunf
            rw [h92]
            simp only [headgateref12_Split.l0]
            rw [if_neg (by omega), if_pos (by omega), show i + 1 = s.size by omega, str_mid' s a s.size (Nat.le_refl _)]
            unfold rest
            rw [if_neg (by omega)]
        · have he : endS s i = endS s (i + 1) := by rw [endS_eq, if_pos ⟨by omega, h44⟩, if_neg h92]
          rw [he]
          obtain ⟨m, rfl⟩ : ∃ m, n = m + 1 := ⟨n - 1, by omega⟩
          have ih := refSplit_l0 s hs m (i + 1) a done (by omega) (by omega) (by omega)
          refine Ev.step ih fun k => ?_
          rw [hunf k, beq_eq_false_iff_ne.2 h92]
    · have he : endS s i = i := by rw [endS_eq, if_neg (by omega)]
      rw [he, Nat.min_eq_right (by omega)]
      refine Ev.const fun k => ?_
      simp only [headgateref12_Split.l0]
      rw [if_neg (by omega), if_pos (by omega), show i = s.size by omega, str_mid' s a s.size (Nat.le_refl _)]
      unfold rest
      rw [if_neg (by omega)]
termination_by n => n
theorem refSplit_ev (s : ByteArray) (hs : s.size ≤ 100000) : Ev (fun k => headgateref12_Split.f k s) (fields s (s.size + 1) 0) := by
  have h := refSplit_l0 s hs s.size 0 0 [] (by omega) (Nat.le_refl _) (by simp)
  rw [fields_eq s 0 (Nat.zero_le _)]
  refine h.same fun k => ?_
  rfl
end Go.Proofs.YtnjlgeenhmamjaaDoor.Q
/- Plain law of what a field says, and of a record as a row. -/
namespace Go.Proofs.YtnjlgeenhmamjaaDoor.Q
open Go.RowKit Go.Proofs.YtnjlgeenhmamjaaDoorW.PrintWords
set_option linter.unusedVariables false
theorem bl_self : ∀ l : List UInt8, Op.bytesLess l l = false
  | [] => rfl
  | c :: r => by
    have := bl_self r
    simp [Op.bytesLess, this]
/-! #### a number -/
theorem bt_list (s : ByteArray) (i : Nat) (h : i < s.size) : ∃ c, s.data.toList.drop i = c :: s.data.toList.drop (i + 1) ∧ bt s i = (c.toNat : Int) := by
  have hl : i < s.data.toList.length := by rw [data_length]; exact h
  refine ⟨s.data.toList[i], List.drop_eq_getElem_cons hl, ?_⟩
  unfold bt
  rw [Int.toNat_natCast, dif_pos h]
  congr 2
def finN (neg : Bool) (u : Nat) : Int × Bool := if neg = true then (wrap64 (-(wrap64 (u : Int))), decide ((u : Int) ≤ 9223372036854775808)) else (wrap64 (u : Int), decide ((u : Int) < 9223372036854775808))
theorem digL_cons (c : UInt8) (r : List UInt8) : digL (c :: r) ↔ (48 ≤ c.toNat ∧ c.toNat ≤ 57) ∧ digL r := by
  unfold digL
  constructor
  · intro h
    exact ⟨h c (by simp), fun x hx => h x (by simp [hx])⟩
  · rintro ⟨h1, h2⟩ x hx
    rcases List.mem_cons.1 hx with rfl | hx
    · exact h1
    · exact h2 x hx
theorem num_l0 (x : ByteArray) (neg : Bool) (hx : x.size ≤ 19) : ∀ (n i acc : Nat), i + n = x.size → acc < 10 ^ i →
    (digL (x.data.toList.drop i) → Ev (fun k => headgateref12_number.l0 k x neg acc i) (finN neg (valD acc (x.data.toList.drop i))) ∧ valD acc (x.data.toList.drop i) < 10 ^ x.size) ∧
    (¬ digL (x.data.toList.drop i) → Ev (fun k => headgateref12_number.l0 k x neg acc i) (0, false))
  | 0, i, acc, h, ha => by
    have e : x.data.toList.drop i = [] := List.drop_of_length_le (by rw [data_length]; omega)
    rw [e]
    refine ⟨fun _ => ⟨Ev.const fun k => ?_, ?_⟩, fun h => absurd (fun c hc => by simp at hc) h⟩
    · simp only [headgateref12_number.l0]
      rw [if_neg (by omega)]
      unfold finN valD
      cases neg <;> rfl
    · unfold valD
      rw [show x.size = i by omega]
      exact ha
  | n + 1, i, acc, h, ha => by
    obtain ⟨c, hc, hb⟩ := bt_list x i (by omega)
    rw [hc, digL_cons]
    have hp : 10 ^ i * 10 ≤ 10 ^ 19 := by rw [← Nat.pow_succ]; exact Nat.pow_le_pow_right (by decide) (by omega)
    have hp19 : (10 : Nat) ^ 19 = 10000000000000000000 := by decide
    by_cases h1 : bt x i < 48
    · refine ⟨fun hd => absurd hd.1.1 (by omega), fun _ => Ev.const fun k => ?_⟩
      simp only [headgateref12_number.l0]
      rw [if_pos (by omega), if_pos (by omega), if_pos h1]
    · by_cases h2 : bt x i > 57
      · refine ⟨fun hd => absurd hd.1.2 (by omega), fun _ => Ev.const fun k => ?_⟩
        simp only [headgateref12_number.l0]
        rw [if_pos (by omega), if_pos (by omega), if_neg h1, if_pos h2]
      · have hstep : ∀ k, headgateref12_number.l0 (k + 1) x neg acc i = headgateref12_number.l0 k x neg ((acc * 10 + (c.toNat - 48) : Nat) : Int) ((i + 1 : Nat) : Int) := fun k => by
          conv => lhs; simp only [headgateref12_number.l0]
          rw [if_pos (by omega), if_pos (by omega), if_neg h1, if_neg h2, w64n i (by omega)]
          congr 1
          simp only [wrapu]
          omega
        obtain ⟨a, b⟩ := num_l0 x neg hx n (i + 1) (acc * 10 + (c.toNat - 48)) (by omega) (by rw [Nat.pow_succ]; omega)
        refine ⟨fun hd => ?_, fun hd => ?_⟩
        · obtain ⟨a1, a2⟩ := a hd.2
          exact ⟨Ev.step a1 hstep, a2⟩
        · exact Ev.step (b (fun hr => hd ⟨by omega, hr⟩)) hstep
theorem wrap_negN (u : Nat) (hu : u ≤ 9223372036854775808) : wrap64 (-(wrap64 (u : Int))) = -(u : Int) := by unfold wrap64; omega
theorem wrap_posN (u : Nat) (hu : u < 9223372036854775808) : wrap64 (u : Int) = (u : Int) := by unfold wrap64; omega
theorem finN_neg (u : Nat) (h : u < 10000000000000000000) : (if (finN true u).2 = true then some (finN true u).1 else none) = if u ≤ 9223372036854775808 then some (-(u : Int)) else none := by
  have e : finN true u = (wrap64 (-(wrap64 (u : Int))), decide ((u : Int) ≤ 9223372036854775808)) := rfl
  by_cases hu : u ≤ 9223372036854775808
  · have hd : decide ((u : Int) ≤ 9223372036854775808) = true := decide_eq_true (by omega)
    rw [hd, wrap_negN u hu] at e
    rw [e, if_pos hu]
    rfl
  · have hd : decide ((u : Int) ≤ 9223372036854775808) = false := decide_eq_false (by omega)
    rw [hd] at e
    rw [e, if_neg hu]
    rfl
theorem finN_pos (u : Nat) (h : u < 10000000000000000000) : (if (finN false u).2 = true then some (finN false u).1 else none) = if u < 9223372036854775808 then some (u : Int) else none := by
  have e : finN false u = (wrap64 (u : Int), decide ((u : Int) < 9223372036854775808)) := rfl
  by_cases hu : u < 9223372036854775808
  · have hd : decide ((u : Int) < 9223372036854775808) = true := decide_eq_true (by omega)
    rw [hd, wrap_posN u hu] at e
    rw [e, if_pos hu]
    rfl
  · have hd : decide ((u : Int) < 9223372036854775808) = false := decide_eq_false (by omega)
    rw [hd] at e
    rw [e, if_neg hu]
    rfl
/-- What the digits behind a sign come to. -/
def numJ (neg : Bool) (l : List UInt8) : Option Int :=
  if canon l ∧ l.length ≤ 19 ∧ (neg = true → l.head? ≠ some 48) then (if neg = true then (if valD 0 l ≤ 9223372036854775808 then some (-(valD 0 l : Int)) else none) else (if valD 0 l < 9223372036854775808 then some (valD 0 l : Int) else none)) else none
theorem num_j1 (x : ByteArray) (neg : Bool) : ∃ r ok, Ev (fun k => headgateref12_number.j1 k x neg) (r, ok) ∧ (if ok = true then some r else none) = numJ neg x.data.toList := by
  have hlen := data_length x
  have hj : ∀ b : Bool, b = true → Ev (fun k => headgateref12_number.j2 k x neg b) ((0 : Int), false) := fun b hb => by
    subst hb
    exact Ev.const fun k => by simp only [headgateref12_number.j2]; rfl
  have hbad : ∀ (b : Bool), b = true → numJ neg x.data.toList = none → (∀ k, headgateref12_number.j1 (k + 1) x neg = headgateref12_number.j2 k x neg b) → ∃ r ok, Ev (fun k => headgateref12_number.j1 k x neg) (r, ok) ∧ (if ok = true then some r else none) = numJ neg x.data.toList := fun b hb hn hs =>
    ⟨0, false, Ev.step (hj b hb) hs, by rw [hn]; rfl⟩
  by_cases h0 : x.size = 0
  · refine hbad true rfl ?_ fun k => ?_
    · unfold numJ
      rw [if_neg]
      rintro ⟨⟨h, _⟩, _⟩
      exact h (List.length_eq_zero_iff.1 (by omega))
    · simp only [headgateref12_number.j1]
      rw [if_pos (by omega)]
  · by_cases h19 : x.size ≤ 19
    · obtain ⟨c, hc, hb⟩ := bt_list x 0 (by omega)
      have hc0 : x.data.toList = c :: x.data.toList.drop 1 := by simpa using hc
      have hhead : x.data.toList.head? = some c := by rw [hc0]; rfl
      have h48c : bt x 0 = 48 ↔ c = 48 := by
        have hb' : bt x 0 = (c.toNat : Int) := hb
        constructor
        · intro h
          apply UInt8.toNat_inj.1
          show c.toNat = 48
          omega
        · rintro rfl
          exact hb'
      have hgood : (∀ k, headgateref12_number.j1 (k + 1) x neg = headgateref12_number.j2 k x neg false) → (neg = true → c ≠ 48) → (x.size = 1 ∨ c ≠ 48) → ∃ r ok, Ev (fun k => headgateref12_number.j1 k x neg) (r, ok) ∧ (if ok = true then some r else none) = numJ neg x.data.toList := fun hs hneg hone => by
        obtain ⟨a, b⟩ := num_l0 x neg h19 x.size 0 0 (by omega) (by decide)
        rw [List.drop_zero] at a b
        have hs2 : ∀ k, headgateref12_number.j1 (k + 1 + 1) x neg = headgateref12_number.l0 k x neg ((0 : Nat) : Int) ((0 : Nat) : Int) := fun k => by
          rw [hs (k + 1)]
          simp only [headgateref12_number.j2]
          rw [if_neg Bool.false_ne_true]
          rfl
        by_cases hd : digL x.data.toList
        · obtain ⟨a1, a2⟩ := a hd
          refine ⟨(finN neg (valD 0 x.data.toList)).1, (finN neg (valD 0 x.data.toList)).2, ?_, ?_⟩
          · obtain ⟨N, hN⟩ := Ev.step (f := fun k => headgateref12_number.j1 (k + 1) x neg) a1 hs2
            exact ⟨N + 1, fun K hK => by
              obtain ⟨k, rfl⟩ : ∃ k, K = k + 1 := ⟨K - 1, by omega⟩
              exact hN k (by omega)⟩
          · have hu : valD 0 x.data.toList < 10000000000000000000 := Nat.lt_of_lt_of_le a2 (by rw [show (10000000000000000000 : Nat) = 10 ^ 19 by decide]; exact Nat.pow_le_pow_right (by decide) h19)
            have hcan : canon x.data.toList ∧ x.data.toList.length ≤ 19 ∧ (neg = true → x.data.toList.head? ≠ some 48) :=
              ⟨⟨by rw [hc0]; simp, hd, hone.imp (fun h => by omega) (fun h d hd2 e => h (by rw [hhead] at hd2; injection hd2 with hd2; rw [hd2]; exact UInt8.toNat_inj.1 e))⟩, by omega, fun hn e => hneg hn (by rw [hhead] at e; injection e)⟩
            unfold numJ
            rw [if_pos hcan]
            cases neg with
            | true => rw [if_pos rfl]; exact finN_neg _ hu
            | false => rw [if_neg Bool.false_ne_true]; exact finN_pos _ hu
        · refine ⟨0, false, ?_, ?_⟩
          · obtain ⟨N, hN⟩ := Ev.step (f := fun k => headgateref12_number.j1 (k + 1) x neg) (b hd) hs2
            exact ⟨N + 1, fun K hK => by
              obtain ⟨k, rfl⟩ : ∃ k, K = k + 1 := ⟨K - 1, by omega⟩
              exact hN k (by omega)⟩
          · have hnone : numJ neg x.data.toList = none := by
              unfold numJ
              rw [if_neg (fun h => hd h.1.2.1)]
            rw [hnone]
            rfl
      by_cases h48 : bt x 0 = 48
      · have hc48 := h48c.1 h48
        cases neg with
        | true =>
          refine hbad true rfl ?_ fun k => ?_
          · unfold numJ
            rw [if_neg (fun h => h.2.2 rfl (by rw [hhead, hc48]))]
          · simp only [headgateref12_number.j1]
            rw [if_neg (by omega), if_neg (by omega), if_pos (by omega), if_pos h48]
            rfl
        | false =>
          by_cases h1 : x.size = 1
          · refine hgood (fun k => ?_) (fun h => by cases h) (.inl h1)
            simp only [headgateref12_number.j1]
            rw [if_neg (by omega), if_neg (by omega), if_pos (by omega), if_pos h48, if_neg Bool.false_ne_true, decide_eq_false (by omega)]
          · refine hbad true rfl ?_ fun k => ?_
            · unfold numJ
              rw [if_neg]
              rintro ⟨⟨_, _, h⟩, _⟩
              rcases h with h | h
              · omega
              · exact h c hhead (by rw [hc48]; rfl)
            · simp only [headgateref12_number.j1]
              rw [if_neg (by omega), if_neg (by omega), if_pos (by omega), if_pos h48, if_neg Bool.false_ne_true, decide_eq_true (by omega)]
      · have hc48 : c ≠ 48 := fun e => h48 (h48c.2 e)
        refine hgood (fun k => ?_) (fun _ => hc48) (.inr hc48)
        simp only [headgateref12_number.j1]
        rw [if_neg (by omega), if_neg (by omega), if_pos (by omega), if_neg h48]
    · refine hbad true rfl ?_ fun k => ?_
      · unfold numJ
        rw [if_neg (fun h => by omega)]
      · simp only [headgateref12_number.j1]
        rw [if_neg (by omega), if_pos (by omega)]
theorem number_ev (s : ByteArray) : ∃ r ok, Ev (fun k => headgateref12_number.f k s) (r, ok) ∧ (if ok = true then some r else none) = numL s.data.toList := by
  have hlen := data_length s
  have hpos : (s.data.toList.head? ≠ some 45) → numL s.data.toList = numJ false s.data.toList := fun h => by
    unfold numL numJ
    rw [if_neg h]
    by_cases h1 : canon s.data.toList ∧ s.data.toList.length ≤ 19
    · rw [if_pos (show canon s.data.toList ∧ s.data.toList.length ≤ 19 ∧ (false = true → s.data.toList.head? ≠ some 48) from ⟨h1.1, h1.2, fun e => by cases e⟩), if_neg Bool.false_ne_true]
      by_cases h2 : valD 0 s.data.toList < 9223372036854775808
      · rw [if_pos ⟨h1.1, h1.2, h2⟩, if_pos h2]
      · rw [if_neg (fun h => h2 h.2.2), if_neg h2]
    · rw [if_neg (fun h => h1 ⟨h.1, h.2.1⟩), if_neg (fun h => h1 ⟨h.1, h.2.1⟩)]
  have hneg : (s.data.toList.head? = some 45) → numL s.data.toList = numJ true s.data.toList.tail := fun h => by
    unfold numL numJ
    rw [if_pos h]
    by_cases h1 : canon s.data.toList.tail ∧ s.data.toList.tail.length ≤ 19 ∧ s.data.toList.tail.head? ≠ some 48
    · rw [if_pos (show canon s.data.toList.tail ∧ s.data.toList.tail.length ≤ 19 ∧ (true = true → s.data.toList.tail.head? ≠ some 48) from ⟨h1.1, h1.2.1, fun _ => h1.2.2⟩), if_pos rfl]
      by_cases h2 : valD 0 s.data.toList.tail ≤ 9223372036854775808
      · rw [if_pos ⟨h1.1, h1.2.1, h1.2.2, h2⟩, if_pos h2]
      · rw [if_neg (fun h => h2 h.2.2.2), if_neg h2]
    · rw [if_neg (fun h => h1 ⟨h.1, h.2.1, h.2.2.1⟩), if_neg (fun h => h1 ⟨h.1, h.2.1, h.2.2 rfl⟩)]
  have hj0 : Ev (fun k => headgateref12_number.j0 k s false) (0, false) ∨ True := .inr trivial
  by_cases h0 : s.size = 0
  · obtain ⟨r, ok, h1, h2⟩ := num_j1 s false
    refine ⟨r, ok, ?_, ?_⟩
    · refine (Ev.step h1 (f := fun k => headgateref12_number.j0 k s false) fun k => ?_).same fun k => ?_
      · simp only [headgateref12_number.j0]
        rw [if_neg Bool.false_ne_true]
      · unfold headgateref12_number.f
        rw [if_neg (by omega)]
    · rw [h2, hpos]
      rw [List.length_eq_zero_iff.1 (show s.data.toList.length = 0 by omega)]
      simp
  · obtain ⟨c, hc, hb⟩ := bt_list s 0 (by omega)
    have hc0 : s.data.toList = c :: s.data.toList.drop 1 := by simpa using hc
    have hhead : s.data.toList.head? = some c := by rw [hc0]; rfl
    have hb' : bt s 0 = (c.toNat : Int) := hb
    by_cases h45 : bt s 0 = 45
    · have hc45 : c = 45 := UInt8.toNat_inj.1 (by show c.toNat = 45; omega)
      obtain ⟨r, ok, h1, h2⟩ := num_j1 (s.extract 1 s.size) true
      refine ⟨r, ok, ?_, ?_⟩
      · refine (Ev.step h1 (f := fun k => headgateref12_number.j0 k s true) fun k => ?_).same fun k => ?_
        · simp only [headgateref12_number.j0]
          rw [if_pos trivial, if_pos (by omega)]
        · unfold headgateref12_number.f
          rw [if_pos (by omega), if_pos (by omega), h45]
          rfl
      · rw [h2, hneg (by rw [hhead, hc45])]
        congr 1
        rw [ByteArray.data_extract, Array.toList_extract, List.extract_eq_take_drop, List.drop_one]
        exact List.take_of_length_le (by rw [List.length_tail]; omega)
    · obtain ⟨r, ok, h1, h2⟩ := num_j1 s false
      refine ⟨r, ok, ?_, ?_⟩
      · refine (Ev.step h1 (f := fun k => headgateref12_number.j0 k s false) fun k => ?_).same fun k => ?_
        · simp only [headgateref12_number.j0]
          rw [if_neg Bool.false_ne_true]
        · unfold headgateref12_number.f
          rw [if_pos (by omega), if_pos (by omega), beq_eq_false_iff_ne.2 h45]
      · rw [h2, hpos (fun e => h45 (by rw [hhead] at e; injection e with e; rw [hb', e]; rfl))]
end Go.Proofs.YtnjlgeenhmamjaaDoor.Q
/- Plain law of what a field says, and of a record as a row. -/
namespace Go.Proofs.YtnjlgeenhmamjaaDoor.Q
open Go.RowKit Go.Proofs.YtnjlgeenhmamjaaDoorW.PrintWords
set_option linter.unusedVariables false
theorem null_iff (s : ByteArray) : s = ⟨#[92, 78]⟩ ↔ s.size = 2 ∧ bt s 0 = 92 ∧ bt s 1 = 78 := by
  constructor
  · rintro rfl
    exact ⟨rfl, rfl, rfl⟩
  · rintro ⟨h1, h2, h3⟩
    have hl := bytesOf_length s
    have e0 : rd (bytesOf s) 0 = 92 := by rw [rd_bytesOf]; exact h2
    have e1 : rd (bytesOf s) 1 = 78 := by rw [rd_bytesOf]; exact h3
    have hb : bytesOf s = [92, 78] := by
      match hh : bytesOf s, hl with
      | [a, b], _ =>
        rw [hh] at e0 e1
        have ea : a = 92 := e0
        have eb : b = 78 := e1
        rw [ea, eb]
      | [], h => simp at h; omega
      | [_], h => simp at h; omega
      | _ :: _ :: _ :: _, h => simp at h; omega
    have := strNums_bytesOf s
    rw [hb] at this
    rw [← this]
    rfl
theorem lit_iff (s : ByteArray) (l : List UInt8) : s.toList = l ↔ s = ⟨l.toArray⟩ := by
  constructor
  · intro h
    apply toList_inj
    rw [h, Lib.toList_data]
  · rintro rfl
    rw [Lib.toList_data]
/-- What a text's reading comes to, so far. -/
def textR (o : Option (List Int)) (r1 r2 : Int) (r3 : ByteArray) (ok : Bool) : Prop :=
  match o with
  | none => ok = false
  | some c => r1 = 3 ∧ r2 = 0 ∧ r3 = strOfNums c ∧ ok = decide (c.length ≤ 200)
theorem says_l0 (s : ByteArray) (hs : s.size ≤ 100000) : ∀ (n i : Nat) (cur : List Int), s.size < i + n → i ≤ s.size → cur.length ≤ i →
    ∃ r1 r2 r3 ok, Ev (fun k => headgateref12_Says.l0 k s cur false i) (r1, r2, r3, ok) ∧ textR (plF s n i cur) r1 r2 r3 ok
  | 0, i, cur, h, hi, hc => by omega
  | n + 1, i, cur, h, hi, hc => by
    unfold plF
    by_cases hlt : i < s.size
    · rw [if_pos hlt]
      by_cases h92 : bt s i = 92
      · rw [if_pos h92]
        have hto : ∀ k, headgateref12_Says.l0 (k + 1 + 1) s cur false i = headgateref12_Says.l0 k s cur true ((i + 1 : Nat) : Int) := fun k => by
          conv => lhs; simp only [headgateref12_Says.l0]
          rw [if_pos (by omega), if_neg Bool.false_ne_true, if_pos (by omega), h92]
          simp only [headgateref12_Says.j2]
          rw [if_pos (show ((92 : Int) == 92) = true from rfl), w64n i (by omega)]
        have hup : ∀ v : Int × Int × ByteArray × Bool, Ev (fun k => headgateref12_Says.l0 k s cur true ((i + 1 : Nat) : Int)) v → Ev (fun k => headgateref12_Says.l0 k s cur false i) v := fun v h => by
          obtain ⟨N, hN⟩ := h
          exact ⟨N + 2, fun K hK => by
            obtain ⟨k, rfl⟩ : ∃ k, K = k + 1 + 1 := ⟨K - 2, by omega⟩
            simp only
            rw [hto k]
            exact hN k (by omega)⟩
        by_cases h1 : i + 1 < s.size
        · have hj2 : ∀ k, headgateref12_Says.l0 (k + 1 + 1) s cur true ((i + 1 : Nat) : Int) = if bt s ((i + 1 : Nat) : Int) = 44 then headgateref12_Says.j3 k s cur ((i + 1 : Nat) : Int) false else headgateref12_Says.j3 k s cur ((i + 1 : Nat) : Int) (bt s ((i + 1 : Nat) : Int) != 92) := fun k => by
            conv => lhs; simp only [headgateref12_Says.l0]
            rw [if_pos (by omega)]
            simp only [headgateref12_Says.j2]
            rw [if_neg Bool.false_ne_true]
            first | rw [if_pos rfl, if_pos (by omega), if_pos (by omega)] | rw [if_pos trivial, if_pos (by omega), if_pos (by omega)] | (simp only [if_true]; rw [if_pos (by omega), if_pos (by omega)])
          have hup2 : ∀ (v : Int × Int × ByteArray × Bool) (b : Bool), (∀ k, (if bt s ((i + 1 : Nat) : Int) = 44 then headgateref12_Says.j3 k s cur ((i + 1 : Nat) : Int) false else headgateref12_Says.j3 k s cur ((i + 1 : Nat) : Int) (bt s ((i + 1 : Nat) : Int) != 92)) = headgateref12_Says.j3 k s cur ((i + 1 : Nat) : Int) b) → Ev (fun k => headgateref12_Says.j3 k s cur ((i + 1 : Nat) : Int) b) v → Ev (fun k => headgateref12_Says.l0 k s cur true ((i + 1 : Nat) : Int)) v := fun v b hb h => by
            obtain ⟨N, hN⟩ := h
            exact ⟨N + 2, fun K hK => by
              obtain ⟨k, rfl⟩ : ∃ k, K = k + 1 + 1 := ⟨K - 2, by omega⟩
              simp only
              rw [hj2 k, hb k]
              exact hN k (by omega)⟩
          have hgo : ∃ r1 r2 r3 ok, Ev (fun k => headgateref12_Says.j3 k s cur ((i + 1 : Nat) : Int) false) (r1, r2, r3, ok) ∧ textR (plF s n (i + 2) (cur ++ [bt s ((i + 1 : Nat) : Int)])) r1 r2 r3 ok := by
            obtain ⟨r1, r2, r3, ok, ih, e⟩ := says_l0 s hs n (i + 2) (cur ++ [bt s ((i + 1 : Nat) : Int)]) (by omega) (by omega) (by simp; omega)
            refine ⟨r1, r2, r3, ok, Ev.step ih fun k => ?_, e⟩
            simp only [headgateref12_Says.j3]
            rw [if_neg Bool.false_ne_true, if_pos (by omega), if_pos (by omega), if_pos (by omega), w64n (i + 1) (by omega)]
          by_cases h44 : bt s ((i + 1 : Nat) : Int) = 44
          · rw [if_pos ⟨h1, .inl h44⟩]
            obtain ⟨r1, r2, r3, ok, ih, e⟩ := hgo
            exact ⟨r1, r2, r3, ok, hup _ (hup2 _ false (fun k => if_pos h44) ih), e⟩
          · by_cases h9 : bt s ((i + 1 : Nat) : Int) = 92
            · rw [if_pos ⟨h1, .inr h9⟩]
              obtain ⟨r1, r2, r3, ok, ih, e⟩ := hgo
              exact ⟨r1, r2, r3, ok, hup _ (hup2 _ false (fun k => by rw [if_neg h44, h9]; rfl) ih), e⟩
            · rw [if_neg (fun h => h.2.elim h44 h9)]
              refine ⟨0, 0, ⟨#[]⟩, false, hup _ (hup2 _ true (fun k => by rw [if_neg h44, bne_iff_ne.2 h9]) (Ev.const fun k => ?_)), rfl⟩
              simp only [headgateref12_Says.j3]
              rfl
        · rw [if_neg (fun h => h1 h.1)]
          refine ⟨3, 0, strOfNums cur, false, hup _ (Ev.const fun k => ?_), rfl⟩
          simp only [headgateref12_Says.l0]
          rw [if_neg (by omega)]
          rfl
      · rw [if_neg h92]
        obtain ⟨r1, r2, r3, ok, ih, e⟩ := says_l0 s hs n (i + 1) (cur ++ [bt s i]) (by omega) (by omega) (by simp; omega)
        refine ⟨r1, r2, r3, ok, ?_, e⟩
        obtain ⟨N, hN⟩ := ih
        refine ⟨N + 3, fun K hK => ?_⟩
        obtain ⟨k, rfl⟩ : ∃ k, K = k + 1 + 1 + 1 := ⟨K - 3, by omega⟩
        have hk := hN k (by omega)
        simp only at hk ⊢
        rw [← hk]
        conv => lhs; simp only [headgateref12_Says.l0]
        rw [if_pos (by omega), if_neg Bool.false_ne_true, if_pos (by omega), beq_eq_false_iff_ne.2 h92]
        simp only [headgateref12_Says.j2]
        rw [if_neg Bool.false_ne_true, if_neg Bool.false_ne_true]
        simp only [headgateref12_Says.j3]
        rw [if_neg Bool.false_ne_true, if_pos (by omega), if_pos (by omega), if_pos (by omega), w64n i (by omega)]
    · rw [if_neg hlt]
      refine ⟨3, 0, strOfNums cur, decide ((cur.length : Int) ≤ 200), Ev.const fun k => ?_, rfl, rfl, rfl, ?_⟩
      · simp only [headgateref12_Says.l0]
        rw [if_neg (by omega), if_neg Bool.false_ne_true]
      · by_cases h2 : cur.length ≤ 200
        · rw [decide_eq_true h2, decide_eq_true (by omega)]
        · rw [decide_eq_false h2, decide_eq_false (by omega)]
/-- The document's answer for a field. -/
theorem says_ev (kind : Int) (s : ByteArray) (hs : s.size ≤ 100000) : ∃ r1 r2 r3 ok, Ev (fun k => headgateref12_Says.f k kind s) (r1, r2, r3, ok) ∧ (ok = true → saysO (plO s) kind s = some ⟨r1, r2, r3⟩) ∧ (ok = false → saysO (plO s) kind s = none) := by
  have hf : ∀ b : Bool, (b = true ↔ s = ⟨#[92, 78]⟩) → (∀ k, headgateref12_Says.f k kind s = headgateref12_Says.j0 k kind s b) → ∃ r1 r2 r3 ok, Ev (fun k => headgateref12_Says.f k kind s) (r1, r2, r3, ok) ∧ (ok = true → saysO (plO s) kind s = some ⟨r1, r2, r3⟩) ∧ (ok = false → saysO (plO s) kind s = none) := fun b hb hu => by
    cases b with
    | true =>
      refine ⟨0, 0, ⟨#[]⟩, true, ?_, fun _ => ?_, fun h => by cases h⟩
      · refine (Ev.const (f := fun k => headgateref12_Says.j0 k kind s true) fun k => ?_).same hu
        simp only [headgateref12_Says.j0]
        rfl
      · unfold saysO
        rw [if_pos (hb.1 rfl)]
    | false =>
      have hN : ¬ s = ⟨#[92, 78]⟩ := fun e => Bool.false_ne_true (hb.2 e)
      unfold saysO
      rw [if_neg hN]
      by_cases h1 : kind = 1
      · obtain ⟨r, ok, he, hv⟩ := number_ev s
        rw [if_pos h1, says_num, ← hv]
        refine ⟨1, r, ⟨#[]⟩, ok, ?_, fun h => ?_, fun h => ?_⟩
        · refine (Ev.bind1 he (f := fun k => headgateref12_Says.j0 k kind s false) (h := fun k bt => some (1, bt.1, (⟨#[]⟩ : ByteArray), bt.2)) (Ev.const' fun k => rfl) fun k => ?_).same hu
          simp only [headgateref12_Says.j0]
          rw [if_neg Bool.false_ne_true, if_pos h1]
        · rw [h, if_pos rfl]; rfl
        · rw [h, if_neg Bool.false_ne_true]; rfl
      · rw [if_neg h1]
        by_cases h2 : kind = 2
        · rw [if_pos h2]
          by_cases ht : s = ⟨#[116, 114, 117, 101]⟩
          · rw [if_pos ht]
            refine ⟨2, 1, ⟨#[]⟩, true, ?_, fun _ => rfl, fun h => by cases h⟩
            refine (Ev.const (f := fun k => headgateref12_Says.j0 k kind s false) fun k => ?_).same hu
            simp only [headgateref12_Says.j0]
            rw [if_neg Bool.false_ne_true, if_neg h1, if_pos h2, if_pos ((lit_iff s _).2 ht)]
          · rw [if_neg ht]
            refine ⟨2, 0, ⟨#[]⟩, s.toList == [102, 97, 108, 115, 101], ?_, fun h => ?_, fun h => ?_⟩
            · refine (Ev.const (f := fun k => headgateref12_Says.j0 k kind s false) fun k => ?_).same hu
              simp only [headgateref12_Says.j0]
              rw [if_neg Bool.false_ne_true, if_neg h1, if_pos h2, if_neg (fun e => ht ((lit_iff s _).1 e))]
            · rw [if_pos ((lit_iff s _).1 (beq_iff_eq.1 h))]
            · rw [if_neg (fun e => beq_eq_false_iff_ne.1 h ((lit_iff s _).2 e))]
        · rw [if_neg h2]
          obtain ⟨r1, r2, r3, ok, he, hv⟩ := says_l0 s hs (s.size + 1) 0 [] (by omega) (by omega) (by simp)
          refine ⟨r1, r2, r3, ok, ?_, ?_⟩
          · refine (Ev.step he (f := fun k => headgateref12_Says.j0 k kind s false) fun k => ?_).same hu
            simp only [headgateref12_Says.j0]
            rw [if_neg Bool.false_ne_true, if_neg h1, if_neg h2]
            rfl
          · unfold plO
            revert hv
            cases hp : plF s (s.size + 1) 0 [] with
            | none =>
              intro hv
              have hv : ok = false := hv
              exact ⟨(fun h => by rw [hv] at h; cases h), fun _ => rfl⟩
            | some c =>
              rintro ⟨rfl, rfl, rfl, rfl⟩
              simp only
              by_cases h200 : c.length ≤ 200
              · rw [if_pos h200, decide_eq_true h200]
                exact ⟨fun _ => rfl, fun h => by cases h⟩
              · rw [if_neg h200, decide_eq_false h200]
                exact ⟨(fun h => by cases h), fun _ => rfl⟩
  by_cases h2 : s.size = 2
  · by_cases h9 : bt s 0 = 92
    · refine hf (bt s 1 == 78) ?_ fun k => ?_
      · rw [null_iff, beq_iff_eq]
        exact ⟨fun h => ⟨h2, h9, h⟩, fun h => h.2.2⟩
      · unfold headgateref12_Says.f
        rw [if_pos (by omega), if_pos (by omega), if_pos h9, if_pos (by omega)]
    · refine hf false ?_ fun k => ?_
      · rw [null_iff]
        exact ⟨(fun h => by cases h), fun h => absurd h.2.1 h9⟩
      · unfold headgateref12_Says.f
        rw [if_pos (by omega), if_pos (by omega), if_neg h9]
  · refine hf false ?_ fun k => ?_
    · rw [null_iff]
      exact ⟨(fun h => by cases h), fun h => absurd h.1 h2⟩
    · unfold headgateref12_Says.f
      rw [if_neg (by omega)]
/-! #### a record as a row -/
theorem refRow_l0 (l : List Co) (fs : List ByteArray) (hl : fs.length ≤ 100000) (he : l.length = fs.length) (hz : ∀ f ∈ fs, f.size ≤ 100000) : ∀ (n i : Nat) (done : List Va), i + n = fs.length → done.length ≤ i →
    Ev (fun k => headgateref12_Row.l0 k l fs done i) (match valsO plO (l.drop i) (fs.drop i) with | none => ([], 122) | some vs => (done ++ vs, 0))
  | 0, i, done, h, hd => by
    rw [List.drop_of_length_le (show l.length ≤ i by omega), List.drop_of_length_le (show fs.length ≤ i by omega)]
    refine Ev.const fun k => ?_
    simp only [headgateref12_Row.l0, valsO, List.append_nil]
    rw [if_neg (by omega)]
  | n + 1, i, done, h, hd => by
    have hd1 := co_drop l i (by omega)
    have hd2 := str_drop fs i (by omega)
    have hm : rdOf ByteArray.empty fs (i : Int) ∈ fs := by
      have : rdOf ByteArray.empty fs (i : Int) ∈ fs.drop i := by rw [hd2]; simp
      exact List.mem_of_mem_drop this
    obtain ⟨r1, r2, r3, ok, h1, h2, h3⟩ := says_ev (rd_T44 l (i : Int)).f1 (rdOf ByteArray.empty fs (i : Int)) (hz _ hm)
    rw [hd1, hd2]
    have hv : ∀ c f, valsO plO (c :: l.drop (i + 1)) (f :: fs.drop (i + 1)) = match saysO (plO f) c.f1 f with | none => none | some v => (valsO plO (l.drop (i + 1)) (fs.drop (i + 1))).map (v :: ·) := fun c f => rfl
    rw [hv]
    refine Ev.bind1 h1 (h := fun k b => if b.2.2.2 = true then (if done.length < 4398046511104 then headgateref12_Row.l0 k l fs (done ++ [(⟨b.1, b.2.1, b.2.2.1⟩ : Va)]) (wrap64 (i + 1)) else none) else some (([] : List Va), 122)) ?_ fun k => ?_
    · cases ok with
      | true =>
        rw [h2 rfl]
        have ih := refRow_l0 l fs hl he hz n (i + 1) (done ++ [⟨r1, r2, r3⟩]) (by omega) (by simp; omega)
        have e : (match (valsO plO (l.drop (i + 1)) (fs.drop (i + 1))).map ((⟨r1, r2, r3⟩ : Va) :: ·) with | none => (([], 122) : List Va × Int) | some vs => (done ++ vs, 0)) = (match valsO plO (l.drop (i + 1)) (fs.drop (i + 1)) with | none => ([], 122) | some vs => ((done ++ [⟨r1, r2, r3⟩]) ++ vs, 0)) := by
          cases valsO plO (l.drop (i + 1)) (fs.drop (i + 1)) with
          | none => rfl
          | some vs => simp
        refine (show Ev _ _ from e ▸ ih).same fun k => ?_
        rw [← w64n i (by omega)]
        simp only [if_true]
        rw [if_pos (by omega)]
      | false =>
        rw [h3 rfl]
        exact Ev.const' fun k => rfl
    · simp only [headgateref12_Row.l0]
      rw [if_pos (by omega), if_pos (by omega), if_pos (by omega)]
theorem refRow_ev (l : List Co) (hl : l.length ≤ 140737488355328) (hn : ∀ c ∈ l, c.f0.size ≤ 140737488355328) (s : ByteArray) (hs : s.size ≤ 8000) : Ev (fun k => headgateref12_Row.f k l s) (rowR plO (if rightS l = true then 0 else 120) l s) := by
  have hR := refRight_ev l hl hn
  refine Ev.bind hR (h := fun k t => if t = true then ((headgateref12_Split.f k s).bind fun t134 => (if (t134.length : Int) = (l.length : Int) then (headgateref12_Row.l0 k l t134 ([] : List Va) 0) else (some (([] : List Va), 121)))) else (some (([] : List Va), 120))) ?_ fun k => rfl
  cases rightS l with
  | false => exact Ev.const' fun k => rfl
  | true =>
    have hS := refSplit_ev s (by omega)
    have hfl := fields_len s (s.size + 1) 0 (Nat.zero_le _)
    have hfz := fields_size s (s.size + 1) 0
    refine Ev.bind hS (h := fun k t134 => if (t134.length : Int) = (l.length : Int) then headgateref12_Row.l0 k l t134 ([] : List Va) 0 else some (([] : List Va), 121)) ?_ fun k => if_pos rfl
    unfold rowR
    rw [if_pos rfl, if_neg (by decide)]
    by_cases he : (fields s (s.size + 1) 0).length = l.length
    · rw [if_neg (fun h => h he)]
      have h := refRow_l0 l (fields s (s.size + 1) 0) (by omega) he.symm (fun f hf => by have := hfz f hf; omega) (fields s (s.size + 1) 0).length 0 [] (by omega) (by simp)
      simp only [List.drop_zero, List.nil_append] at h
      refine (h.same fun k => ?_)
      rw [if_pos (by omega)]
      rfl
    · rw [if_pos he]
      exact Ev.const' fun k => if_neg (by omega)
/-! #### two rows that are the same -/
theorem cmp_self (a b : Int) (c : ByteArray) : Ev (fun k => headgateref03_Cmp.f k a b c a b c) 0 := by
  refine Ev.const (f := fun k => headgateref03_Cmp.f k a b c a b c) fun k => ?_
  unfold headgateref03_Cmp.f
  rw [if_neg (Int.lt_irrefl a), if_pos rfl, if_neg (Int.lt_irrefl b), if_pos rfl, bl_self]
  simp only [headgateref03_Cmp.j0]
  rw [if_neg Bool.false_ne_true, if_pos (by simp)]
theorem cmpRow_self (l : List Va) (hl : l.length ≤ 100000) : ∀ (n i : Nat), i + n = l.length → Ev (fun k => headgateref03_CmpRow.l0 k l l i) 0
  | 0, i, h => Ev.const fun k => by
    simp only [headgateref03_CmpRow.l0]
    rw [if_neg (by omega), if_neg (by omega)]
  | n + 1, i, h => by
    refine Ev.bind1 (cmp_self (rd_T46 l (i : Int)).f0 (rd_T46 l (i : Int)).f1 (rd_T46 l (i : Int)).f2) (h := fun k t => if t = 0 then headgateref03_CmpRow.l0 k l l (wrap64 (i + 1)) else some t) ?_ fun k => ?_
    · refine (cmpRow_self l hl n (i + 1) (by omega)).same fun k => ?_
      rw [if_pos rfl, w64n i (by omega)]
    · simp only [headgateref03_CmpRow.l0]
      rw [if_pos (by omega), if_neg (by omega), if_pos (by omega), if_pos (by omega)]
theorem same_self (l : List Va) (hl : l.length ≤ 100000) : Ev (fun k => headgateref03_Same.f k l l) true := by
  refine Ev.bind ((cmpRow_self l hl l.length 0 (by omega)).same (f := fun k => headgateref03_CmpRow.f k l l) fun k => rfl) (h := fun k t => some (t == 0)) (Ev.const' fun k => rfl) fun k => ?_
  unfold headgateref03_Same.f
  rw [if_pos rfl]
theorem vals_len (PL : ByteArray → Option ByteArray) : ∀ (l : List Co) (fs : List ByteArray) (vs : List Va), valsO PL l fs = some vs → vs.length ≤ fs.length
  | c :: cs, f :: fs, vs, h => by
    unfold valsO at h
    cases hs : saysO (PL f) c.f1 f with
    | none => rw [hs] at h; cases h
    | some v =>
      rw [hs] at h
      cases hr : valsO PL cs fs with
      | none => simp only [hr] at h; cases h
      | some ws =>
        simp only [hr] at h
        have e : v :: ws = vs := Option.some.inj h
        have := vals_len PL cs fs ws hr
        rw [← e]
        simp only [List.length_cons]
        omega
  | [], fs, vs, h => by
    have e : [] = vs := Option.some.inj h
    rw [← e]
    simp
  | _ :: _, [], vs, h => by
    have e : [] = vs := Option.some.inj h
    rw [← e]
    simp
theorem rowR_len (r : Int) (l : List Co) (s : ByteArray) (hs : s.size ≤ 8000) : (rowR plO r l s).1.length ≤ 100000 := by
  have hfl := fields_len s (s.size + 1) 0 (Nat.zero_le _)
  unfold rowR
  split
  · simp
  · split
    · simp
    · cases h : valsO plO l (fields s (s.size + 1) 0) with
      | none => simp
      | some vs =>
        have := vals_len plO l _ vs h
        simp only
        omega
end Go.Proofs.YtnjlgeenhmamjaaDoor.Q
