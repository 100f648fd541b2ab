/- decode.says: walked. -/
import Derived.Test.YtnjlgeenhmamjaaGreatDoorZDecodeBack9
import Derived.Test.YtnjlgeenhmamjaaGreatDoorZDecodeBack3
import Derived.Test.YtnjlgeenhmamjaaGreatDoorZDecodeBack5
import Derived.Test.YtnjlgeenhmamjaaGreatDoorZDecodeBack2
import Derived.Deep.RegionHeld
import Derived.Deep.CutBlock
namespace Go.Proofs.YtnjlgeenhmamjaaGreatDoor.Q
open Go.RowKit Go.Proofs.YtnjlgeenhmamjaaGreatDoorW.PrintWords Go.Proofs.YtnjlgeenhmamjaaGreatDoorW.PrintLast Go.Proofs.YtnjlgeenhmamjaaGreatDoorW.PrintMore
set_option linter.unusedVariables false
set_option linter.unusedSimpArgs false
abbrev Va := S41
/-- What a field says: a value, or nothing; 'pl': what the text without signs is. -/
def saysO (pl : Option ByteArray) (kind : Int) (s : ByteArray) : Option Va :=
  if s = ⟨#[92, 78]⟩ then some ⟨0, 0, ⟨#[]⟩⟩
  else if kind = 1 then (saysL s.data.toList).map (fun n => ⟨1, n, ⟨#[]⟩⟩)
  else if kind = 2 then (if s = ⟨#[116, 114, 117, 101]⟩ then some ⟨2, 1, ⟨#[]⟩⟩ else if s = ⟨#[102, 97, 108, 115, 101]⟩ then some ⟨2, 0, ⟨#[]⟩⟩ else none)
  else pl.map (fun t => ⟨3, 0, t⟩)
/-- How the answer is told: a value, and whether it is said. -/
def tells (o : Option Va) (e : Ending) : Prop := ∃ (x : Va) (ok : Bool), e = .returned (.tuple #[.agg #[.int .i64 x.f0, .int .i64 x.f1, .string x.f2], .bool ok]) ∧ (ok = true → o = some x) ∧ (ok = false → o = none)
theorem tells_some {o : Option Va} {e : Ending} (x : Va) (h : o = some x) (he : e = .returned (.tuple #[.agg #[.int .i64 x.f0, .int .i64 x.f1, .string x.f2], .bool true])) : tells o e := ⟨x, true, he, fun _ => h, fun e => by cases e⟩
theorem tells_none {o : Option Va} {e : Ending} (x : Va) (h : o = none) (he : e = .returned (.tuple #[.agg #[.int .i64 x.f0, .int .i64 x.f1, .string x.f2], .bool false])) : tells o e := ⟨x, false, he, (fun e => by cases e), fun _ => h⟩
theorem tells_if {o : Option Va} {e : Ending} (x : Va) (b : Bool) (h : o = if b = true then some x else none) (he : e = .returned (.tuple #[.agg #[.int .i64 x.f0, .int .i64 x.f1, .string x.f2], .bool b])) : tells o e := by
  cases b
  · exact tells_none x h he
  · exact tells_some x h he
theorem lit_beq (s : ByteArray) (l : List UInt8) : (s.toList == l) = decide (s = ⟨l.toArray⟩) := by
  rw [← toList_beq]
  congr 1
  rw [Lib.toList_data]
theorem blkput3 {w : World} {g : Nat} {t : TypeId} {x0 x1 x2 : Value} (h : w.heap[g]? = some (.cells #[x0, x1, x2] t (0, 0))) (y0 y1 y2 : Value) :
    (((w.setCell ⟨g, 0, none⟩ y0).setCell ⟨g, 1, none⟩ y1).setCell ⟨g, 2, none⟩ y2).heap[g]? = some (.cells #[y0, y1, y2] t (0, 0)) :=
  blk_put (cs := #[y0, y1, x2]) (blk_put (cs := #[y0, x1, x2]) (blk_put (cs := #[x0, x1, x2]) h 0 y0 rfl) 1 y1 rfl) 2 y2 rfl
/-- What lasts while the answer is put together: what was there lies unturned, and the answer's box is there. -/
def SayS (w W : World) : Prop := Below w.heap.size w W ∧ ∃ x0 x1 x2, W.heap[w.heap.size]? = some (.cells #[x0, x1, x2] 41 (0, 0))
theorem SayS.drew {w W : World} (h : SayS w W) : SayS w W.drew := ⟨below_drew1 h.1, h.2⟩
theorem SayS.step {w W W' : World} (h : SayS w W) (hb : Below W.heap.size W W') : SayS w W' := by
  obtain ⟨h1, x0, x1, x2, h2⟩ := h
  exact ⟨below_step h1 hb, x0, x1, x2, blk_below h2 hb⟩
theorem SayS.put {w W : World} (h : SayS w W) (y0 y1 y2 : Value) : SayS w (((W.setCell ⟨w.heap.size, 0, none⟩ y0).setCell ⟨w.heap.size, 1, none⟩ y1).setCell ⟨w.heap.size, 2, none⟩ y2) := by
  obtain ⟨h1, x0, x1, x2, h2⟩ := h
  exact ⟨below_set (below_set (below_set h1 (Nat.le_refl _)) (Nat.le_refl _)) (Nat.le_refl _), y0, y1, y2, blkput3 h2 y0 y1 y2⟩
theorem SayS.facts {w W : World} (h : SayS w W) : (∃ x0 x1 x2, W.cell? ⟨w.heap.size, 0, none⟩ = some x0 ∧ W.cell? ⟨w.heap.size, 1, none⟩ = some x1 ∧ W.cell? ⟨w.heap.size, 2, none⟩ = some x2) ∧ W.frozen? ⟨w.heap.size, 0, none⟩ = false ∧ W.frozen? ⟨w.heap.size, 1, none⟩ = false ∧ W.frozen? ⟨w.heap.size, 2, none⟩ = false ∧ w.heap.size < W.heap.size := by
  obtain ⟨h1, x0, x1, x2, h2⟩ := h
  exact ⟨⟨x0, x1, x2, (blk_cell h2 0).trans rfl, (blk_cell h2 1).trans rfl, (blk_cell h2 2).trans rfl⟩, blk_frozen h2 0, blk_frozen h2 1, blk_frozen h2 2, blk_lt h2⟩
theorem SayS.res {w W : World} (h : SayS w W) (y0 y1 y2 : Value) : (((W.setCell ⟨w.heap.size, 0, none⟩ y0).setCell ⟨w.heap.size, 1, none⟩ y1).setCell ⟨w.heap.size, 2, none⟩ y2).heap[w.heap.size]? = some (.cells #[y0, y1, y2] 41 (0, 0)) := by
  obtain ⟨h1, x0, x1, x2, h2⟩ := h
  exact blkput3 h2 y0 y1 y2
set_option maxHeartbeats 8000000 in
set_option maxRecDepth 100000 in
theorem says_null (kind : Int) (w : World) :
    Calls Tryz.prog 23 #[.int .i64 kind, .string ⟨#[92, 78]⟩] w fun e w' => tells (some ⟨0, 0, ⟨#[]⟩⟩) e ∧ Below w.heap.size w w' := by
  have hu := Tryz.underlying41
  go_enter Tryz.func23, Tryz.ntmps23
  go_wp2
  refine bodyPost_ret (results_list rfl (by simp) (.cell _ _ _ _ _ rfl (blk_new w _) hu rfl (by kernel_rfl) (.tmp .nil))) rfl ⟨?_, below_alloc (Below.refl _ _) _⟩
  exact tells_some ⟨0, 0, ⟨#[]⟩⟩ rfl rfl
set_option maxHeartbeats 8000000 in
set_option maxRecDepth 100000 in
theorem says_int (s : ByteArray) (hs : s.size ≤ 140737488355328) (hN : s ≠ ⟨#[92, 78]⟩) (w : World) (hG : Glob w) :
    Calls Tryz.prog 23 #[.int .i64 1, .string s] w fun e w' => tells ((saysL s.data.toList).map (fun n => ⟨1, n, ⟨#[]⟩⟩)) e ∧ Below w.heap.size w w' := by
  have hu := Tryz.underlying41
  have dN : (s.toList == [92, 78]) = false := by rw [lit_beq]; exact decide_eq_false hN
  have HBa := Aside0.mk (below_alloc (Below.refl w.heap.size w) (.cells #[.int .i64 0, .int .i64 0, .string (⟨#[]⟩ : ByteArray)] 41))
  have hparse := parse_calls s hs (w.alloc (.cells #[.int .i64 0, .int .i64 0, .string (⟨#[]⟩ : ByteArray)] 41)) (hG.below HBa.out)
  have HG := Aside0.mk hG
  have hblk : ∀ w1, Below (w.alloc (.cells #[.int .i64 0, .int .i64 0, .string (⟨#[]⟩ : ByteArray)] 41)).heap.size (w.alloc (.cells #[.int .i64 0, .int .i64 0, .string (⟨#[]⟩ : ByteArray)] 41)) w1 → w1.heap[w.heap.size]? = some (.cells #[.int .i64 0, .int .i64 0, .string (⟨#[]⟩ : ByteArray)] 41 (0, 0)) := fun w1 hb => blk_below (blk_new w _) hb
  have HK := Aside0.mk hblk
  clear hblk hG
  generalize hL : saysL s.data.toList = L
  unfold saysL at hL
  have HL := Aside0.mk hL
  clear hL
  go_enter Tryz.func23, Tryz.ntmps23
  go_upto_region 6 with (go_at_call 38; refine hparse.mono ?_; rintro e w1 ⟨hb1, hc⟩; have HB1 := Aside0.mk hb1; clear hb1; clear hparse; (rcases hc with ⟨n, hn, rfl⟩ | ⟨hn, n, p, rfl⟩ <;> have HN := Aside0.mk hn <;> clear hn))
  · have hin := parse_in HN.out
    have hF : ∀ W, SayS w W → Calls Tryz.prog 15 #[.int .i64 n, .int .i64 10] W fun e w' => e = .returned (.string ⟨(Lib.itoa n).toArray⟩) ∧ Below W.heap.size W w' := fun W hW => format_calls n hin.1 hin.2 W (HG.out.below hW.1)
    have HF := Aside0.mk hF
    have hS : SayS w w1 := ⟨below_step HBa.out HB1.out, _, _, _, HK.out w1 HB1.out⟩
    have hL := HL.out
    rw [HN.out] at hL
    simp only at hL
    have HL' := Aside0.mk hL
    clear hL hF HL HN HK
    go_region_held (fun w' => SayS w w') (first | assumption | exact (‹SayS w _›).drew | exact (‹SayS w _›).put _ _ _)
      (first
      | (go_at_call 39; refine (value_Int.calls n 1 n ⟨#[]⟩ _ rfl).mono ?_; rintro e w2 ⟨rfl, hb2⟩; have hS2 := (‹SayS w _›).step hb2; obtain ⟨⟨x20, x21, x22, c20, c21, c22⟩, f20, f21, f22, l2⟩ := hS2.facts; clear hb2)
      | (go_at_call 15; refine (HF.out _ ‹SayS w _›).mono ?_; rintro e w3 ⟨rfl, hb3⟩; have hS3 := (‹SayS w _›).step hb3; obtain ⟨⟨x30, x31, x32, c30, c31, c32⟩, f30, f31, f32, l3⟩ := hS3.facts; clear hb3))
    go_wp2
    refine bodyPost_ret (results_list rfl (by simp) (.cell _ _ _ _ _ rfl (hS3.res _ _ _) hu rfl (by kernel_rfl) (.tmp .nil))) rfl ⟨?_, (hS3.put _ _ _).1⟩
    refine tells_if ⟨1, n, ⟨#[]⟩⟩ (Lib.itoa n == s.toList) ?_ rfl
    rw [← HL'.out, Lib.toList_data]
    by_cases h : Lib.itoa n = s.data.toList
    · rw [if_pos h, if_pos (by rw [h]; exact beq_self_eq_true _)]; rfl
    · rw [if_neg h, if_neg (by rw [beq_eq_false_iff_ne.2 h]; exact Bool.false_ne_true)]; rfl
  · have hS : SayS w w1 := ⟨below_step HBa.out HB1.out, _, _, _, HK.out w1 HB1.out⟩
    have hL : L = none := by
      rw [← HL.out]
      cases hp : Lib.parseIntB 64 s.data.toList with
      | ok m => exact absurd hp (HN.out m)
      | «syntax» => rfl
      | range => rfl
    subst hL
    clear HL HN HK
    have hSd := hS.drew
    clear hS
    first
    | go_region_with (first
        | (go_at_call 39; refine (value_Int.calls n 1 n ⟨#[]⟩ _ rfl).mono ?_; rintro e w2 ⟨rfl, hb2⟩; have hS2 := (‹SayS w _›).step hb2; obtain ⟨⟨x20, x21, x22, c20, c21, c22⟩, f20, f21, f22, l2⟩ := hS2.facts; clear hb2))
    | fail
    all_goals go_wp2
    all_goals refine bodyPost_ret (results_list rfl (by simp) (.cell _ _ _ _ _ rfl (hS2.res _ _ _) hu rfl (by kernel_rfl) (.tmp .nil))) rfl ⟨?_, (hS2.put _ _ _).1⟩
    all_goals exact tells_none ⟨1, n, ⟨#[]⟩⟩ rfl rfl
set_option maxHeartbeats 8000000 in
set_option maxRecDepth 100000 in
theorem says_bool (s : ByteArray) (hN : s ≠ ⟨#[92, 78]⟩) (w : World) :
    Calls Tryz.prog 23 #[.int .i64 2, .string s] w fun e w' => tells (if s = ⟨#[116, 114, 117, 101]⟩ then some ⟨2, 1, ⟨#[]⟩⟩ else if s = ⟨#[102, 97, 108, 115, 101]⟩ then some ⟨2, 0, ⟨#[]⟩⟩ else none) e ∧ Below w.heap.size w w' := by
  have hu := Tryz.underlying41
  have dN : (s.toList == [92, 78]) = false := by rw [lit_beq]; exact decide_eq_false hN
  have hS0 : SayS w (w.alloc (.cells #[.int .i64 0, .int .i64 0, .string (⟨#[]⟩ : ByteArray)] 41)) := ⟨below_alloc (Below.refl _ _) _, _, _, _, blk_new w _⟩
  have HS := Aside0.mk hS0
  clear hS0
  generalize hO : (if s = ⟨#[116, 114, 117, 101]⟩ then some (⟨2, 1, ⟨#[]⟩⟩ : Va) else if s = ⟨#[102, 97, 108, 115, 101]⟩ then some ⟨2, 0, ⟨#[]⟩⟩ else none) = O
  have HO := Aside0.mk hO
  clear hO
  by_cases ht : s = ⟨#[116, 114, 117, 101]⟩
  · subst ht
    clear dN
    go_enter Tryz.func23, Tryz.ntmps23
    go_wp2_with (go_at_call 40; refine (value_Bool.calls true 2 1 ⟨#[]⟩ _ rfl).mono ?_; rintro e w2 ⟨rfl, hb2⟩; have hS2 := HS.out.step hb2; obtain ⟨⟨x20, x21, x22, c20, c21, c22⟩, f20, f21, f22, l2⟩ := hS2.facts; clear hb2)
    refine bodyPost_ret (results_list rfl (by simp) (.cell _ _ _ _ _ rfl (hS2.res _ _ _) hu rfl (by kernel_rfl) (.tmp .nil))) rfl ⟨?_, (hS2.put _ _ _).1⟩
    exact tells_some ⟨2, 1, ⟨#[]⟩⟩ (by rw [← HO.out]; rfl) rfl
  · have dT : (s.toList == [116, 114, 117, 101]) = false := by rw [lit_beq]; exact decide_eq_false ht
    by_cases hf : s = ⟨#[102, 97, 108, 115, 101]⟩
    · subst hf
      have HT := Aside0.mk ht
      clear dN dT ht hN
      go_enter Tryz.func23, Tryz.ntmps23
      go_wp2_with (go_at_call 40; refine (value_Bool.calls false 2 0 ⟨#[]⟩ _ rfl).mono ?_; rintro e w2 ⟨rfl, hb2⟩; have hS2 := HS.out.step hb2; obtain ⟨⟨x20, x21, x22, c20, c21, c22⟩, f20, f21, f22, l2⟩ := hS2.facts; clear hb2)
      refine bodyPost_ret (results_list rfl (by simp) (.cell _ _ _ _ _ rfl (hS2.res _ _ _) hu rfl (by kernel_rfl) (.tmp .nil))) rfl ⟨?_, (hS2.put _ _ _).1⟩
      exact tells_some ⟨2, 0, ⟨#[]⟩⟩ (by rw [← HO.out, if_neg HT.out]; rfl) rfl
    · have dF : (s.toList == [102, 97, 108, 115, 101]) = false := by rw [lit_beq]; exact decide_eq_false hf
      have HT := Aside0.mk ht
      have HF := Aside0.mk hf
      clear ht hf hN
      go_enter Tryz.func23, Tryz.ntmps23
      go_wp2_with (go_at_call 40; (try rw [dT]); refine (value_Bool.calls false 2 0 ⟨#[]⟩ _ rfl).mono ?_; rintro e w2 ⟨rfl, hb2⟩; have hS2 := HS.out.step hb2; obtain ⟨⟨x20, x21, x22, c20, c21, c22⟩, f20, f21, f22, l2⟩ := hS2.facts; clear hb2)
      refine bodyPost_ret (results_list rfl (by simp) (.cell _ _ _ _ _ rfl (hS2.res _ _ _) hu rfl (by kernel_rfl) (.tmp .nil))) rfl ⟨?_, (hS2.put _ _ _).1⟩
      exact tells_none ⟨2, 0, ⟨#[]⟩⟩ (by rw [← HO.out, if_neg HT.out, if_neg HF.out]) rfl
set_option maxHeartbeats 8000000 in
set_option maxRecDepth 100000 in
theorem says_text (kind : Int) (h1 : kind ≠ 1) (h2 : kind ≠ 2) (s : ByteArray) (hN : s ≠ ⟨#[92, 78]⟩) (K : Nat) (t : ByteArray) (ok : Bool) (hp : decode_plain.f K s = some (t, ok)) (w : World) :
    Calls Tryz.prog 23 #[.int .i64 kind, .string s] w fun e w' => tells (if ok = true then some ⟨3, 0, t⟩ else none) e ∧ Below w.heap.size w w' := by
  have hu := Tryz.underlying41
  have dN : (s.toList == [92, 78]) = false := by rw [lit_beq]; exact decide_eq_false hN
  have d1 : (kind == 1) = false := beq_eq_false_iff_ne.2 h1
  have d2 : (kind == 2) = false := beq_eq_false_iff_ne.2 h2
  have hS0 : SayS w (w.alloc (.cells #[.int .i64 0, .int .i64 0, .string (⟨#[]⟩ : ByteArray)] 41)) := ⟨below_alloc (Below.refl _ _) _, _, _, _, blk_new w _⟩
  have HS := Aside0.mk hS0
  have HP := Aside0.mk hp
  generalize hO : (if ok = true then some (⟨3, 0, t⟩ : Va) else none) = O
  have HO := Aside0.mk hO.symm
  clear hS0 hp h1 h2 hN hO
  go_enter Tryz.func23, Tryz.ntmps23
  go_wp2_with (first
    | (go_at_call 41; refine (decode_plain.calls K s t ok _ HP.out).mono ?_; rintro e w1 ⟨rfl, hb1⟩; have hS1 := HS.out.step hb1; clear hb1)
    | (go_at_call 42; refine (value_Text.calls t 3 0 t _ rfl).mono ?_; rintro e w2 ⟨rfl, hb2⟩; have hS2 := hS1.step hb2; obtain ⟨⟨x20, x21, x22, c20, c21, c22⟩, f20, f21, f22, l2⟩ := hS2.facts; clear hb2))
  refine bodyPost_ret (results_list rfl (by simp) (.cell _ _ _ _ _ rfl (hS2.res _ _ _) hu rfl (by kernel_rfl) (.tmp .nil))) rfl ⟨?_, (hS2.put _ _ _).1⟩
  exact tells_if ⟨3, 0, t⟩ ok HO.out rfl
/-- decode.says: what it comes to. -/
theorem says_calls (kind : Int) (s : ByteArray) (hs : s.size ≤ 140737488355328) (K : Nat) (t : ByteArray) (ok : Bool) (hp : decode_plain.f K s = some (t, ok)) (w : World) (hG : Glob w) :
    Calls Tryz.prog 23 #[.int .i64 kind, .string s] w fun e w' => tells (saysO (if ok = true then some t else none) kind s) e ∧ Below w.heap.size w w' := by
  unfold saysO
  by_cases hN : s = ⟨#[92, 78]⟩
  · rw [if_pos hN]
    subst hN
    exact says_null kind w
  · rw [if_neg hN]
    by_cases h1 : kind = 1
    · rw [if_pos h1]
      subst h1
      exact says_int s hs hN w hG
    · rw [if_neg h1]
      by_cases h2 : kind = 2
      · rw [if_pos h2]
        subst h2
        exact says_bool s hN w
      · rw [if_neg h2]
        have := says_text kind h1 h2 s hN K t ok hp w
        cases ok <;> exact this
end Go.Proofs.YtnjlgeenhmamjaaGreatDoor.Q
