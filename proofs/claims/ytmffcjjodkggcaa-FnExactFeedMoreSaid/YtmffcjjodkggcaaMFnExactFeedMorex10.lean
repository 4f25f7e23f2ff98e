-- Written by this session's own program (wip/gen/myprint.py).
import Derived.Test.YtmffcjjodkggcaaMFnExactFeedMorex0
import Derived.Test.YtmffcjjodkggcaaMFnExactFeedMorex4
import Derived.Test.YtmffcjjodkggcaaMFnExactFeedMorex5
import Derived.Test.YtmffcjjodkggcaaMFnExactFeedMorex8
import Derived.Test.YtmffcjjodkggcaaMFnExactFeedMorex9
namespace Go.Proofs.Ytmffcjjodkggcaa.MFnExactFeedMore
open Go.RowKit Go.Proofs.YtmffcjjodkggcaaW.PrintWords Go.Proofs.YtmffcjjodkggcaaW.PrintLast Go.Proofs.YtmffcjjodkggcaaW.PrintMore
attribute [local go_sem] max2_int min2_int max_two min_two max_three min_three max_four min_four   -- for this text's walks alone
set_option linter.unusedVariables false
set_option linter.unusedSimpArgs false
-- INFO 5
structure SEnv (w W : World) (a : Int) (b : Bool) (A : Option Addr) (n c g2 g4 : Nat) : Prop where
 f : W.heap[g2]? = some (.cells (feedCells a b A n c) 38 (0, 0))
 r : W.heap[g4]? = some (.cells (feedCells 0 false none 0 0) 38 (0, 0))
 b : Below w.heap.size w W
 ge : w.heap.size ≤ g4
theorem SEnv.below {w W W' : World} {a : Int} {b : Bool} {A : Option Addr} {n c g2 g4 : Nat} (h : SEnv w W a b A n c g2 g4) (k : Below W.heap.size W W') : SEnv w W' a b A n c g2 g4 :=
 ⟨blk_below h.f k, blk_below h.r k, below_step h.b k, h.ge⟩
theorem SEnv.grown {w W W' : World} {a : Int} {b : Bool} {A : Option Addr} {n c g2 g4 : Nat} (h : SEnv w W a b A n c g2 g4) {base : Nat} {ok : Nat → Prop} {v : Value} {xs : List Int} (ho : Kd.R (Kd.int .u8) 5 W base ok v xs) (hb : Below w.heap.size w W') (k : W.grownBy W' v.ownBlock) : SEnv w W' a b A n c g2 g4 :=
 ⟨blk_grown h.f k (Kd.R_ne ho h.f (by decide)), blk_grown h.r k (Kd.R_ne ho h.r (by decide)), hb, h.ge⟩
theorem SEnv.fresh {w W W' : World} {a : Int} {b : Bool} {A : Option Addr} {n c g2 g4 : Nat} (h : SEnv w W a b A n c g2 g4) (hb : Below w.heap.size w W') (k : W.grownBy W' none) : SEnv w W' a b A n c g2 g4 :=
 ⟨blk_grown h.f k (by simp), blk_grown h.r k (by simp), hb, h.ge⟩
theorem SEnv.kept {w W W' : World} {a : Int} {b : Bool} {A : Option Addr} {n c g2 g4 : Nat} (h : SEnv w W a b A n c g2 g4) {base : Nat} {ok : Nat → Prop} {v : Value} {xs : List Int} (ho : Kd.R (Kd.int .u8) 5 W base ok v xs) (hb : Below w.heap.size w W') (k : Kept W W' (fun k_ => some k_ = v.ownBlock)) : SEnv w W' a b A n c g2 g4 :=
 ⟨(k.2 _ (blk_lt h.f) (Kd.R_ne ho h.f (by decide))).trans h.f, (k.2 _ (blk_lt h.r) (Kd.R_ne ho h.r (by decide))).trans h.r, hb, h.ge⟩
set_option maxHeartbeats 8000000 in
set_option maxRecDepth 100000 in
theorem smore_calls_t (k : Nat) (a : Int) (A : Option Addr) (c : Nat) (l : List Int) (A1 : Option Addr) (c1 : Nat) (l1 x : List Int) (q : Int) (n : Nat) (t : List Int) (w : World) (hx : x = l ++ l1) (hr : Kd.C (Kd.int .u8) w A l.length l) (hc : l.length ≤ c) (hr1 : Kd.C (Kd.int .u8) w A1 l1.length l1) (hc1 : l1.length ≤ c1) (hl : l.length ≤ 1048576) (hl1 : l1.length ≤ 60000)
 (hok : spec_l1FeedOk.f a true l = some true) (hq : spec_l1Kept.f k x a = some q) (hn : wrap64 ((x.length : Int) - q) = (n : Int)) (hnx : n ≤ x.length) (ht : spec_l1Read.f k (x.take n) a = some t) :
 Calls Try.prog 26 #[.agg #[.int .i64 a, .bool true, .slice A l.length c], .slice A1 l1.length c1] w fun en w' => ∃ v, en = .returned (.tuple #[.agg #[.int .i64 a, .bool (true || decide (0 < n)), v], .string (strOfNums t)]) ∧ Kd.R (Kd.int .u8) 5 w' w.heap.size (fun _ => True) v (x.drop n) ∧ Below w.heap.size w w' := by
 have hu38 := Try.underlying38
 have HB := aMk (bAl (bAl (Below.refl w.heap.size w) (.cells #[.int .i64 a, .bool true, .slice A l.length c] 38)) (.cells #[.int .i64 0, .bool false, .slice none 0 0] 38))
 have HX := aMk hx
 have HR := aMk hr
 have HC := aMk hc
 have HR1 := aMk hr1
 have HC1 := aMk hc1
 have HL := aMk hl
 have HL1 := aMk hl1
 have HN := aMk hnx
 have HNE := aMk hn
 have HK := aMk hq
 have HOK := aMk hok
 have HTT := aMk ht
 have ld1 : decide (60000 < (l1.length : Int)) = false := decide_eq_false (by omega)
 have ld2 : decide (60000 < l1.length) = false := decide_eq_false (by omega)
 clear hx hr hc hr1 hc1 hl hl1 hn hnx hq hok ht
 go_enter Try.func26, Try.ntmps26
 go_wp2_with (first | (go_at_call 46; refine (spec_l1FeedOk.calls a true A c l true _ (Kd.C_below HR.out HB.out) HC.out HOK.out).mono ?_; rintro e w1 ⟨rfl, hb⟩; have HE : Aside0 (SEnv w w1 a true A l.length c w.heap.size (w.heap.size + 1)) := ⟨⟨blk_below (bkA (blk_new w _) _) hb, blk_below (by rw [show w.heap.size + 1 = (w.alloc (.cells #[.int .i64 a, .bool true, .slice A l.length c] 38)).heap.size by simp]; exact blk_new _ _) hb, below_step HB.out hb, by omega⟩⟩; have hq2 : w1.cell? ⟨w.heap.size, 2, none⟩ = some (.slice A l.length c) := bCe HE.out.f 2; clear hb HB) | ((with_reducible refine gate_dst (N := 18) rfl ?_); refine Kd.R_lit (Kd.int .u8) _ 5 ?hg (N := 18) ?hd (xs := ([] : List Int)) (inner := []) (ok := fun _ => True) (okp := fun _ => True) ?hr ?hp (fun _ hk => hk) trivial (Below.refl _ _) (Nat.le_refl _) (by simp) ?_; (case hd => rfl); (case hg => rfl); (case hr => first | (go_simp; done) | (go_simp; rfl)); (case hp => exact (Reps.none _ _)); intro v3 w3 ho3 hb hg_ hnew_; have HE3 := aMk (HE.out.fresh (below_step HE.out.b hb) hg_); have HO3 := aMk (Kd.R_lower ho3 (below_size HE.out.b)); have hq3 : w3.cell? ⟨w.heap.size, 2, none⟩ = some (.slice A l.length c) := bCe HE3.out.f 2; clear hg_ hnew_ hb ho3 HE hq2) | ((with_reducible refine gate_builtin (b := .append) (xs := #[.tmp 18, .tmp 20]) rfl ?_); at_builtin; refine Kd.R_append_rows (Kd.int .u8) (w0 := w) w.heap.size rfl (.tmp 18) (.tmp 20) 22 5 (.int .u8 0) 1 rfl Try.underlying22 info5 rfl (by decide) (by decide) _ [] l A l.length c (fun _ => True) (fun _ => False) rfl rfl HO3.out (Kd.C_below HR.out HE3.out.b) ?hKM (fun _ hk => hk.elim) (fun _ _ => trivial) HE3.out.b (below_size HE3.out.b) ?hlim ?_; (case hKM => intro x cs hx; exact hx); (case hlim => have := HL.out; have := HL1.out; simp; omega); intro v4 w4 ho hb hg_ _; have HE4 := aMk (HE3.out.grown HO3.out hb hg_); have HO4 : Aside0 (Kd.R (Kd.int .u8) 5 w4 w.heap.size (fun _ => True) v4 l) := ⟨ho⟩; clear hg_ hb ho HE3 HO3 hq3) | ((with_reducible refine gate_builtin (b := .append) (xs := #[.tmp 22, .tmp 23]) rfl ?_); at_builtin; refine Kd.R_append_rows (Kd.int .u8) (w0 := w) w.heap.size rfl (.tmp 22) (.tmp 23) 22 5 (.int .u8 0) 1 rfl Try.underlying22 info5 rfl (by decide) (by decide) _ l l1 A1 l1.length c1 (fun _ => True) (fun _ => False) rfl rfl HO4.out (Kd.C_below HR1.out HE4.out.b) ?hKM (fun _ hk => hk.elim) (fun _ _ => trivial) HE4.out.b (below_size HE4.out.b) ?hlim ?_; (case hKM => intro x cs hx; exact hx); (case hlim => have := HL.out; have := HL1.out; simp; omega); intro v5 w5 ho hb hg_ _; have HE5 := aMk (HE4.out.grown HO4.out hb hg_); have HO5 := aMk (show Kd.R (Kd.int .u8) 5 w5 w.heap.size (fun _ => True) v5 x by rw [HX.out]; exact ho); obtain ⟨A2, c2, hv5, hc2, hr2⟩ := Kd.R_reads HO5.out; subst hv5; have HC2 := aMk hc2; have HR2 := aMk hr2; have hq5 : w5.cell? ⟨w.heap.size, 0, none⟩ = some (.int .i64 a) := bCe HE5.out.f 0; clear hg_ hb ho HE4 HO4 hc2 hr2) | (go_at_call 48; refine (spec_l1Kept.calls k A2 c2 x a q _ HR2.out HC2.out HK.out).mono ?_; rintro e w6 ⟨rfl, hd6⟩; have HE6 := aMk (HE5.out.below hd6.below); have HO6 := aMk (Kd.R_below HO5.out hd6.below); have HR6 := aMk (Kd.C_below HR2.out hd6.below); clear hd6 HE5 HO5 HR2 hq5))
 have hne := HNE.out
 simp only [hne]
 have hxl : n ≤ x.length := HN.out
 obtain ⟨i0, hi0, _, hz1, _⟩ := info_parts info5
 have hcut1 := cut_to (P := Try.prog) 22 5 .i64 Try.underlying22 hi0 A2 x.length c2 (n : Int) (by omega) (by omega) HC2.out
 have hcut2 := cut_from (P := Try.prog) 22 5 .i64 Try.underlying22 hi0 1 hz1 A2 x.length c2 (n : Int) (by omega) (by omega)
 rw [Int.toNat_natCast] at hcut1 hcut2
 have HD := Kd.C_drop (k := Kd.int .u8) (m := n) (c := c2) HR6.out hxl HC2.out
 have HT := Kd.C_take (k := Kd.int .u8) (m := n) HR6.out hxl
 have hsz1 : (Kd.int .u8).sz = 1 := rfl
 rw [hsz1] at HD
 obtain ⟨A3, hA3⟩ : ∃ A', A' = (if c2 = n then A2 else A2.map (·.add (n * 1))) := ⟨_, rfl⟩
 rw [← hA3] at hcut2 HD
 have hld : (x.drop n).length = x.length - n := List.length_drop
 rw [← hld] at hcut2
 have HDL : Aside0 ((x.drop n).length ≤ 1200000) := ⟨by have h1 := HL.out; have h2 := HL1.out; have h3 : x.length = l.length + l1.length := (by rw [HX.out, List.length_append]); omega⟩
 have HTC : Aside0 (n ≤ c2) := ⟨Nat.le_trans hxl HC2.out⟩
 have hlt : (x.take n).length = n := by rw [List.length_take]; omega
 have HLT := aMk hlt
 replace HD := aMk HD
 replace HT := aMk HT
 have HXLT := aMk (Kd.R_lt HO6.out)
 obtain ⟨d, hd⟩ : ∃ d, d = x.drop n := ⟨_, rfl⟩
 rw [← hd] at hcut2 HD HDL
 have HDQ := aMk hd
 clear hlt hd hld hA3 hsz1 hz1 hi0 hxl hne HNE
 refine start_ (n := 16) (S := fun w' => w'.cell? ⟨w.heap.size, 0, none⟩ = some (.int .i64 a) ∧ w'.cell? ⟨w.heap.size, 1, none⟩ = some (.bool true)) (ds := [15]) #[false, false, false, false, false, false, false, false, false, false, false, false, false, false, false, false] (by kernel_rfl) rfl rfl ⟨(bCe (blk_below HE6.out.f (below_drew (Below.refl _ _))) 0).trans rfl, (bCe (blk_below HE6.out.f (below_drew (Below.refl _ _))) 1).trans rfl⟩ (fun hHeld => ?_)
 refine pure_ (i := 0) (N := some 32) (v := ?_) (a' := ?_) #[true, false, false, false, false, false, false, false, false, false, false, false, false, false, false, false] rfl rfl (by kernel_rfl) (fun _ _ _ h => h) (Or.inl ⟨by rfl, ?_⟩) ?_ ?_
 rotate_left
 · intro w'
   go_simp
   with_reducible rfl
 rotate_left
 · simp only [Act.put, lSa, lSz, lSs, i64_w, i32_w]
   rfl
 refine pure_ (i := 2) (N := some 34) (v := ?_) (a' := ?_) #[true, false, true, false, false, false, false, false, false, false, false, false, false, false, false, false] rfl rfl (by kernel_rfl) (fun _ _ _ h => h) (Or.inl ⟨by rfl, ?_⟩) ?_ ?_
 rotate_left
 · intro w'
   go_simp
   with_reducible rfl
 rotate_left
 · simp only [Act.put, lSa, lSz, lSs, i64_w, i32_w]
   rfl
 refine pure_ (i := 9) (N := some 41) (v := ?_) (a' := ?_) #[true, false, true, false, false, false, false, false, false, true, false, false, false, false, false, false] rfl rfl (by kernel_rfl) (fun _ _ _ h => h) (Or.inl ⟨by rfl, ?_⟩) ?_ ?_
 rotate_left
 · intro w'
   go_simp
   with_reducible rfl
 rotate_left
 · simp only [Act.put, lSa, lSz, lSs, i64_w, i32_w]
   rfl
 refine pure_ (i := 10) (N := some 42) (v := ?_) (a' := ?_) #[true, false, true, false, false, false, false, false, false, true, true, false, false, false, false, false] rfl rfl (by kernel_rfl) (fun _ _ _ h => h) (Or.inl ⟨by rfl, ?_⟩) ?_ ?_
 rotate_left
 · intro w'
   go_simp
   with_reducible rfl
 rotate_left
 · simp only [Act.put, lSa, lSz, lSs, i64_w, i32_w]
   rfl
 refine pure_ (i := 11) (N := some 43) (v := ?_) (a' := ?_) #[true, false, true, false, false, false, false, false, false, true, true, true, false, false, false, false] rfl rfl (by kernel_rfl) (fun _ _ _ h => h) (Or.inl ⟨by rfl, ?_⟩) ?_ ?_
 rotate_left
 · intro w'
   go_simp
   with_reducible rfl
 rotate_left
 · simp only [Act.put, lSa, lSz, lSs, i64_w, i32_w]
   rfl
 refine take_ (i := 1) (N := some 33) (v := ?_) (a' := ?_) #[true, true, true, false, false, false, false, false, false, true, true, true, false, false, false, false] rfl rfl (by kernel_rfl) (fun _ _ _ h => h) (Or.inl ⟨by rfl, ?_⟩) hHeld ?_ ?_
 rotate_left
 · rintro w' ⟨s0, s1⟩
   go_simp
   with_reducible rfl
 rotate_left
 · simp only [Act.put, lSa, lSz, lSs, i64_w, i32_w]
   rfl
 refine take_ (i := 3) (N := some 35) (v := ?_) (a' := ?_) #[true, true, true, true, false, false, false, false, false, true, true, true, false, false, false, false] rfl rfl (by kernel_rfl) (fun _ _ _ h => h) (Or.inl ⟨by rfl, ?_⟩) hHeld ?_ ?_
 rotate_left
 · rintro w' ⟨s0, s1⟩
   go_simp
   with_reducible rfl
 rotate_left
 · simp only [Act.put, lSa, lSz, lSs, i64_w, i32_w]
   rfl
 refine pure_ (i := 4) (N := some 36) (v := ?_) (a' := ?_) #[true, true, true, true, true, false, false, false, false, true, true, true, false, false, false, false] rfl rfl (by kernel_rfl) (fun _ _ _ h => h) (Or.inl ⟨by rfl, ?_⟩) ?_ ?_
 rotate_left
 · intro w'
   go_simp
   with_reducible rfl
 rotate_left
 · simp only [Act.put, lSa, lSz, lSs, i64_w, i32_w]
   rfl
 refine pure_ (i := 5) (N := some 37) (v := undef) (a' := ?_) #[true, true, true, true, true, true, false, false, false, true, true, true, false, false, false, false] rfl rfl (by kernel_rfl) (fun _ _ _ h => h) (Or.inr ⟨by rfl, rfl⟩) ?_ ?_
 rotate_left
 · simp only [Act.put, lSa, lSz, lSs, i64_w, i32_w]
   rfl
 refine pure_ (i := 6) (N := some 38) (v := undef) (a' := ?_) #[true, true, true, true, true, true, true, false, false, true, true, true, false, false, false, false] rfl rfl (by kernel_rfl) (fun _ _ _ h => h) (Or.inr ⟨by rfl, rfl⟩) ?_ ?_
 rotate_left
 · simp only [Act.put, lSa, lSz, lSs, i64_w, i32_w]
   rfl
 refine pure_ (i := 7) (N := some 39) (v := ?_) (a' := ?_) #[true, true, true, true, true, true, true, true, false, true, true, true, false, false, false, false] rfl rfl (by kernel_rfl) (fun _ _ _ h => h) (Or.inl ⟨by rfl, ?_⟩) ?_ ?_
 rotate_left
 · intro w'
   go_simp
   with_reducible rfl
 rotate_left
 · simp only [Act.put, lSa, lSz, lSs, i64_w, i32_w]
   rfl
 refine join_ (σ := Nat × Value × Option Addr × Nat) 1 #[true, true, true, true, true, true, true, true, true, true, true, true, true, true, true, false] (fun s_ => [(40, s_.2.1), (44, .slice s_.2.2.1 d.length s_.2.2.2), (8, .pointer (some ⟨s_.1, 0, none⟩)), (45, .agg #[.int .i64 a, .bool true, .slice s_.2.2.1 d.length s_.2.2.2])]) (fun s_ w' => (w'.cell? ⟨w.heap.size, 0, none⟩ = some (.int .i64 a) ∧ w'.cell? ⟨w.heap.size, 1, none⟩ = some (.bool true)) ∧ w'.heap[s_.1]? = some (.cells (feedCells 0 false none 0 0) 38 (0, 0)) ∧ w6.heap.size ≤ s_.1 ∧ Kd.R (Kd.int .u8) 5 w' w6.heap.size (fun _ => True) (.slice s_.2.2.1 d.length s_.2.2.2) d ∧ Below w6.heap.size w6 w') ?_ ?_
 rotate_left
 · intro hCont
   refine two_ (i := 8) (j := 14) (Ni := some 40) (Nj := some 8) #[true, true, true, true, true, true, true, true, true, true, true, true, false, false, false, false] #[true, true, true, true, true, true, true, true, false, true, true, true, false, false, true, false] rfl rfl rfl rfl (by kernel_rfl) (by decide) (by decide) (fun K hK => ?_) (fun K hK => ?_)
   · skip
     refine Kd.R_lit_step (Kd.int .u8) (w0 := w6) w6.heap.size 5 (by rfl) (N := 40) rfl (xs := ([] : List Int)) (inner := []) (ok := fun _ => True) (okp := fun _ => True) ?hr ?hp (fun _ hk => hk) trivial (below_drew (Below.refl _ _)) (Nat.le_refl _) (by simp) ?_
     case hr => first | (go_simp; done) | (go_simp; rfl)
     case hp => exact (Reps.none _ _)
     intro v7 wr1 ho7 hb hg _
     have HB1 := aMk hb
     have HO7_1 := aMk ho7
     clear ho7 hb hg
     refine hK.out _ _ ⟨(bCe (blk_below HE6.out.f HB1.out) 0).trans rfl, (bCe (blk_below HE6.out.f HB1.out) 1).trans rfl⟩ (fun hHeld => ?_)
     clear hK K
     refine norm_ (a' := ?_) ?_ ?_
     rotate_left
     · show Act.put _ (some 40) _ = _
       simp only [Act.put, lSa, lSz, lSs, i64_w, i32_w]
       rfl
     refine two_ (i := 12) (j := 14) (Ni := some 44) (Nj := some 8) #[true, true, true, true, true, true, true, true, true, true, true, true, true, false, false, false] #[true, true, true, true, true, true, true, true, true, true, true, true, false, false, true, false] rfl rfl rfl rfl (by kernel_rfl) (by decide) (by decide) (fun K hK => ?_) (fun K hK => ?_)
     · skip
       refine Kd.R_append_rows_step (Kd.int .u8) (w0 := w6) w6.heap.size (by rfl) (.tmp 40) (.tmp 43) 22 5 (.int .u8 0) 1 rfl Try.underlying22 info5 rfl (by decide) (by decide) _ [] d A3 d.length (c2 - n) (fun _ => True) (fun _ => False) rfl rfl HO7_1.out (Kd.C_below HD.out HB1.out) ?hKM (fun _ hk => hk.elim) (fun _ _ => trivial) HB1.out (HB1.out.size) ?hlim ?_
       case hKM => intro x cs hx; exact hx
       case hlim => have := HDL.out; simp; omega
       intro v8 wr2 ho8 hb hg _
       obtain ⟨A8, c8, hv8⟩ := Kd.R_slice ho8
       rw [List.nil_append] at ho8 hv8
       subst hv8
       have HO8_2 := aMk ho8
       have HB2 := aMk hb
       clear ho8 hb hg
       refine hK.out _ _ ⟨(bCe (blk_below HE6.out.f HB2.out) 0).trans rfl, (bCe (blk_below HE6.out.f HB2.out) 1).trans rfl⟩ (fun hHeld => ?_)
       clear hK K
       refine norm_ (a' := ?_) ?_ ?_
       rotate_left
       · show Act.put _ (some 44) _ = _
         simp only [Act.put, lSa, lSz, lSs, i64_w, i32_w]
         rfl
       refine pure_ (i := 13) (N := some 45) (v := ?_) (a' := ?_) #[true, true, true, true, true, true, true, true, true, true, true, true, true, true, false, false] rfl rfl (by kernel_rfl) (fun _ _ _ h => h) (Or.inl ⟨by rfl, ?_⟩) ?_ ?_
       rotate_left
       · intro w'
         go_simp
         with_reducible rfl
       rotate_left
       · simp only [Act.put, lSa, lSz, lSs, i64_w, i32_w]
         rfl
       refine one_ (i := 14) (N := some 8) #[true, true, true, true, true, true, true, true, true, true, true, true, true, true, true, false] rfl rfl (by kernel_rfl) (by decide) (fun K hK => ?_)
       refine box_step (by rfl) (N := 8) rfl (cs := #[.int .i64 0, .bool false, .slice none 0 0]) (t := 38) ?hr ?_
       case hr => first | (go_simp; done) | (go_simp; rfl)
       intro g8 hg8 wr3 hbox hb
       have HX3 := aMk hbox
       have HG8 : Aside0 (w6.heap.size ≤ g8) := ⟨by rw [hg8]; exact (HB2.out.size)⟩
       have HO8_3 := aMk (Kd.R_below HO8_2.out hb)
       have HB3 := aMk (below_then HB2.out (HB2.out.size) hb)
       clear hbox hb hg8
       refine hK.out _ _ ⟨(bCe (blk_below HE6.out.f HB3.out) 0).trans rfl, (bCe (blk_below HE6.out.f HB3.out) 1).trans rfl⟩ (fun hHeld => ?_)
       clear hK K
       refine norm_ (a' := ?_) ?_ ?_
       rotate_left
       · show Act.put _ (some 8) _ = _
         simp only [Act.put, lSa, lSz, lSs, i64_w, i32_w]
         rfl
       exact norm_ (by simp only [putAll, Act.put, lSa, lSz, lSs]) (hCont (g8, v7, A8, c8) _ ⟨⟨(bCe (blk_below HE6.out.f HB3.out) 0).trans rfl, (bCe (blk_below HE6.out.f HB3.out) 1).trans rfl⟩, HX3.out, HG8.out, HO8_3.out, HB3.out⟩)
     · skip
       refine box_step (by rfl) (N := 8) rfl (cs := #[.int .i64 0, .bool false, .slice none 0 0]) (t := 38) ?hr ?_
       case hr => first | (go_simp; done) | (go_simp; rfl)
       intro g8 hg8 wr2 hbox hb
       have HX2 := aMk hbox
       have HG8 : Aside0 (w6.heap.size ≤ g8) := ⟨by rw [hg8]; exact (HB1.out.size)⟩
       have HO7_2 := aMk (Kd.R_below HO7_1.out hb)
       have HB2 := aMk (below_then HB1.out (HB1.out.size) hb)
       clear hbox hb hg8
       refine hK.out _ _ ⟨(bCe (blk_below HE6.out.f HB2.out) 0).trans rfl, (bCe (blk_below HE6.out.f HB2.out) 1).trans rfl⟩ (fun hHeld => ?_)
       clear hK K
       refine norm_ (a' := ?_) ?_ ?_
       rotate_left
       · show Act.put _ (some 8) _ = _
         simp only [Act.put, lSa, lSz, lSs, i64_w, i32_w]
         rfl
       refine one_ (i := 12) (N := some 44) #[true, true, true, true, true, true, true, true, true, true, true, true, true, false, true, false] rfl rfl (by kernel_rfl) (by decide) (fun K hK => ?_)
       refine Kd.R_append_rows_step (Kd.int .u8) (w0 := w6) w6.heap.size (by rfl) (.tmp 40) (.tmp 43) 22 5 (.int .u8 0) 1 rfl Try.underlying22 info5 rfl (by decide) (by decide) _ [] d A3 d.length (c2 - n) (fun _ => True) (fun _ => False) rfl rfl HO7_2.out (Kd.C_below HD.out HB2.out) ?hKM (fun _ hk => hk.elim) (fun _ _ => trivial) HB2.out (HB2.out.size) ?hlim ?_
       case hKM => intro x cs hx; exact hx
       case hlim => have := HDL.out; simp; omega
       intro v8 wr3 ho8 hb hg _
       obtain ⟨A8, c8, hv8⟩ := Kd.R_slice ho8
       rw [List.nil_append] at ho8 hv8
       subst hv8
       have HO8_3 := aMk ho8
       have HB3 := aMk hb
       have HX3 := aMk (blk_grown HX2.out hg (Kd.R_ne HO7_2.out HX2.out (by decide)))
       clear ho8 hb hg
       refine hK.out _ _ ⟨(bCe (blk_below HE6.out.f HB3.out) 0).trans rfl, (bCe (blk_below HE6.out.f HB3.out) 1).trans rfl⟩ (fun hHeld => ?_)
       clear hK K
       refine norm_ (a' := ?_) ?_ ?_
       rotate_left
       · show Act.put _ (some 44) _ = _
         simp only [Act.put, lSa, lSz, lSs, i64_w, i32_w]
         rfl
       refine pure_ (i := 13) (N := some 45) (v := ?_) (a' := ?_) #[true, true, true, true, true, true, true, true, true, true, true, true, true, true, true, false] rfl rfl (by kernel_rfl) (fun _ _ _ h => h) (Or.inl ⟨by rfl, ?_⟩) ?_ ?_
       rotate_left
       · intro w'
         go_simp
         with_reducible rfl
       rotate_left
       · simp only [Act.put, lSa, lSz, lSs, i64_w, i32_w]
         rfl
       exact norm_ (by simp only [putAll, Act.put, lSa, lSz, lSs]) (hCont (g8, v7, A8, c8) _ ⟨⟨(bCe (blk_below HE6.out.f HB3.out) 0).trans rfl, (bCe (blk_below HE6.out.f HB3.out) 1).trans rfl⟩, HX3.out, HG8.out, HO8_3.out, HB3.out⟩)
   · skip
     refine box_step (by rfl) (N := 8) rfl (cs := #[.int .i64 0, .bool false, .slice none 0 0]) (t := 38) ?hr ?_
     case hr => first | (go_simp; done) | (go_simp; rfl)
     intro g8 hg8 wr1 hbox hb
     have HX1 := aMk hbox
     have HG8 : Aside0 (w6.heap.size ≤ g8) := ⟨by rw [hg8]; exact (Nat.le_refl _)⟩
     have HB1 := aMk (below_then (below_drew (Below.refl _ _)) (Nat.le_refl _) hb)
     clear hbox hb hg8
     refine hK.out _ _ ⟨(bCe (blk_below HE6.out.f HB1.out) 0).trans rfl, (bCe (blk_below HE6.out.f HB1.out) 1).trans rfl⟩ (fun hHeld => ?_)
     clear hK K
     refine norm_ (a' := ?_) ?_ ?_
     rotate_left
     · show Act.put _ (some 8) _ = _
       simp only [Act.put, lSa, lSz, lSs, i64_w, i32_w]
       rfl
     refine one_ (i := 8) (N := some 40) #[true, true, true, true, true, true, true, true, true, true, true, true, false, false, true, false] rfl rfl (by kernel_rfl) (by decide) (fun K hK => ?_)
     refine Kd.R_lit_step (Kd.int .u8) (w0 := w6) w6.heap.size 5 (by rfl) (N := 40) rfl (xs := ([] : List Int)) (inner := []) (ok := fun _ => True) (okp := fun _ => True) ?hr ?hp (fun _ hk => hk) trivial HB1.out (HB1.out.size) (by simp) ?_
     case hr => first | (go_simp; done) | (go_simp; rfl)
     case hp => exact (Reps.none _ _)
     intro v7 wr2 ho7 hb hg _
     have HB2 := aMk hb
     have HO7_2 := aMk ho7
     have HX2 := aMk (blk_grown HX1.out hg (by simp))
     clear ho7 hb hg
     refine hK.out _ _ ⟨(bCe (blk_below HE6.out.f HB2.out) 0).trans rfl, (bCe (blk_below HE6.out.f HB2.out) 1).trans rfl⟩ (fun hHeld => ?_)
     clear hK K
     refine norm_ (a' := ?_) ?_ ?_
     rotate_left
     · show Act.put _ (some 40) _ = _
       simp only [Act.put, lSa, lSz, lSs, i64_w, i32_w]
       rfl
     refine one_ (i := 12) (N := some 44) #[true, true, true, true, true, true, true, true, true, true, true, true, true, false, true, false] rfl rfl (by kernel_rfl) (by decide) (fun K hK => ?_)
     refine Kd.R_append_rows_step (Kd.int .u8) (w0 := w6) w6.heap.size (by rfl) (.tmp 40) (.tmp 43) 22 5 (.int .u8 0) 1 rfl Try.underlying22 info5 rfl (by decide) (by decide) _ [] d A3 d.length (c2 - n) (fun _ => True) (fun _ => False) rfl rfl HO7_2.out (Kd.C_below HD.out HB2.out) ?hKM (fun _ hk => hk.elim) (fun _ _ => trivial) HB2.out (HB2.out.size) ?hlim ?_
     case hKM => intro x cs hx; exact hx
     case hlim => have := HDL.out; simp; omega
     intro v8 wr3 ho8 hb hg _
     obtain ⟨A8, c8, hv8⟩ := Kd.R_slice ho8
     rw [List.nil_append] at ho8 hv8
     subst hv8
     have HO8_3 := aMk ho8
     have HB3 := aMk hb
     have HX3 := aMk (blk_grown HX2.out hg (Kd.R_ne HO7_2.out HX2.out (by decide)))
     clear ho8 hb hg
     refine hK.out _ _ ⟨(bCe (blk_below HE6.out.f HB3.out) 0).trans rfl, (bCe (blk_below HE6.out.f HB3.out) 1).trans rfl⟩ (fun hHeld => ?_)
     clear hK K
     refine norm_ (a' := ?_) ?_ ?_
     rotate_left
     · show Act.put _ (some 44) _ = _
       simp only [Act.put, lSa, lSz, lSs, i64_w, i32_w]
       rfl
     refine pure_ (i := 13) (N := some 45) (v := ?_) (a' := ?_) #[true, true, true, true, true, true, true, true, true, true, true, true, true, true, true, false] rfl rfl (by kernel_rfl) (fun _ _ _ h => h) (Or.inl ⟨by rfl, ?_⟩) ?_ ?_
     rotate_left
     · intro w'
       go_simp
       with_reducible rfl
     rotate_left
     · simp only [Act.put, lSa, lSz, lSs, i64_w, i32_w]
       rfl
     exact norm_ (by simp only [putAll, Act.put, lSa, lSz, lSs]) (hCont (g8, v7, A8, c8) _ ⟨⟨(bCe (blk_below HE6.out.f HB3.out) 0).trans rfl, (bCe (blk_below HE6.out.f HB3.out) 1).trans rfl⟩, HX3.out, HG8.out, HO8_3.out, HB3.out⟩)
 rintro ⟨g8, v7, A8, c8⟩ w8 ⟨⟨hs0, hs1⟩, hbox, hg8, ho8, hb8⟩
 have hHeld : (fun w' => w'.cell? ⟨w.heap.size, 0, none⟩ = some (.int .i64 a) ∧ w'.cell? ⟨w.heap.size, 1, none⟩ = some (.bool true)) w8 := ⟨hs0, hs1⟩
 have HX8 := aMk hbox
 have HG8 := aMk hg8
 have HO8 := aMk ho8
 have HB8 := aMk hb8
 clear hbox hg8 ho8 hb8 hs0 hs1
 refine norm_ (a' := ?_) ?_ ?_
 rotate_left
 · simp only [putAll, Act.put, lSa, lSz, lSs]
   rfl
 refine last_ (i := 15) (N := none) #[true, true, true, true, true, true, true, true, true, true, true, true, true, true, true, true] rfl rfl (by kernel_rfl) (by decide) (fun K hK => ?_)
 have hx8 := HX8.out
 have hsc0 : w8.cell? ⟨g8, 0, none⟩ = some (.int .i64 0) := (bCe hx8 0).trans rfl
 have hsc1 : w8.cell? ⟨g8, 1, none⟩ = some (.bool false) := (bCe hx8 1).trans rfl
 have hsc2 : w8.cell? ⟨g8, 2, none⟩ = some (.slice none 0 0) := (bCe hx8 2).trans rfl
 have hsf0 : w8.frozen? ⟨g8, 0, none⟩ = false := bFr hx8 0
 have hsf1 : w8.frozen? ⟨g8, 1, none⟩ = false := bFr hx8 1
 have hsf2 : w8.frozen? ⟨g8, 2, none⟩ = false := bFr hx8 2
 clear hx8
 refine skip_ (w1 := ?_) (by rfl) rfl ?_ ?_
 rotate_left
 · go_simp
   rfl
 refine hK.out _ _ ?_
 clear hK K
 refine done_ (by kernel_rfl) ?_
 have hb9 : Below w6.heap.size w6 (((w8.setCell ⟨g8, 0, none⟩ (.int .i64 a)).setCell ⟨g8, 1, none⟩ (.bool true)).setCell ⟨g8, 2, none⟩ (.slice A8 d.length c8)) := bSe (bSe (bSe HB8.out HG8.out) HG8.out) HG8.out
 have hx9 := blk_set (blk_set (blk_set HX8.out 0 (.int .i64 a)) 1 (.bool true)) 2 (.slice A8 d.length c8)
 have ho9 := Kd.R_set (Kd.R_set (Kd.R_set HO8.out HX8.out (by decide) 0 (.int .i64 a)) (blk_set HX8.out 0 _) (by decide) 1 (.bool true)) (blk_set (blk_set HX8.out 0 _) 1 _) (by decide) 2 (.slice A8 d.length c8)
 generalize (((w8.setCell ⟨g8, 0, none⟩ (.int .i64 a)).setCell ⟨g8, 1, none⟩ (.bool true)).setCell ⟨g8, 2, none⟩ (.slice A8 d.length c8)) = w9 at hb9 hx9 ho9 ⊢
 have HXI : Aside0 (w9.heap[g8]? = some (.cells #[.int .i64 a, .bool true, .slice A8 d.length c8] 38 (0, 0))) := ⟨hx9⟩
 have HOH := aMk ho9
 have HEI := aMk (HE6.out.below hb9)
 have HXT := aMk (Kd.R_tight rfl (Kd.R_take (Kd.R_below HO6.out hb9) HN.out))
 have HTI : Aside0 (Kd.C (Kd.int .u8) w9 A2 (x.take n).length (x.take n)) := ⟨Kd.C_below HT.out hb9⟩
 have hq90 : w9.cell? ⟨w.heap.size, 0, none⟩ = some (.int .i64 a) := bCe HEI.out.f 0
 have hq91 : w9.cell? ⟨w.heap.size, 1, none⟩ = some (.bool true) := bCe HEI.out.f 1
 have HNF : Aside0 (w.heap.size ≠ w.heap.size + 1) := ⟨by omega⟩
 have HNE : Aside0 (g8 ≠ w.heap.size + 1) := ⟨by have := blk_lt HE6.out.r; have := HG8.out; omega⟩
 clear hb9 hx9 ho9 HB8 HX8 HO8 HO6 HR6 HT HD hcut2
 have HCALL : Aside0 (∀ W : World, Below w9.heap.size w9 W → Calls Try.prog 43 #[.slice A2 n c2, .int .i64 a] W fun e w' => ∃ v0_ : Value, e = .returned (v0_) ∧ Kd.R (Kd.int .u8) 5 w' W.heap.size (fun _ => True) v0_ t ∧ Below W.heap.size W w') := ⟨fun W hb => by
  have h := spec_l1Read.calls k A2 c2 (x.take n) a t W (Kd.C_below HTI.out hb) (by rw [HLT.out]; exact HTC.out) HTT.out
  rw [HLT.out] at h
  exact h⟩
 go_wp2
 refine start_ (n := 8) (S := fun w' => w'.cell? ⟨g8, 0, none⟩ = some (.int .i64 a) ∧ w'.cell? ⟨g8, 1, none⟩ = some (.bool true) ∧ w'.cell? ⟨g8, 2, none⟩ = some (.slice A8 d.length c8) ∧ w'.cell? ⟨w.heap.size, 0, none⟩ = some (.int .i64 a)) (ds := []) #[false, false, false, false, false, false, false, false] (by kernel_rfl) rfl rfl ⟨(bCe (blk_below HXI.out (below_drew (Below.refl _ _))) 0).trans rfl, (bCe (blk_below HXI.out (below_drew (Below.refl _ _))) 1).trans rfl, (bCe (blk_below HXI.out (below_drew (Below.refl _ _))) 2).trans rfl, (bCe (blk_below HEI.out.f (below_drew (Below.refl _ _))) 0).trans rfl⟩ (fun hHeld => ?_)
 refine pure_ (i := 1) (N := some 57) (v := ?_) (a' := ?_) #[false, true, false, false, false, false, false, false] rfl rfl (by kernel_rfl) (fun _ _ _ h => h) (Or.inl ⟨by rfl, ?_⟩) ?_ ?_
 rotate_left
 · intro w'
   go_simp
   with_reducible rfl
 rotate_left
 · simp only [Act.put, lSa, lSz, lSs, i64_w, i32_w]
   rfl
 refine pure_ (i := 2) (N := some 58) (v := ?_) (a' := ?_) #[false, true, true, false, false, false, false, false] rfl rfl (by kernel_rfl) (fun _ _ _ h => h) (Or.inl ⟨by rfl, ?_⟩) ?_ ?_
 rotate_left
 · intro w'
   go_simp
   with_reducible rfl
 rotate_left
 · simp only [Act.put, lSa, lSz, lSs, i64_w, i32_w]
   rfl
 refine take_ (i := 0) (N := some 56) (v := ?_) (a' := ?_) #[true, true, true, false, false, false, false, false] rfl rfl (by kernel_rfl) (fun _ _ _ h => h) (Or.inl ⟨by rfl, ?_⟩) hHeld ?_ ?_
 rotate_left
 · rintro w' ⟨s0, s1, s2, s3⟩
   go_simp
   with_reducible rfl
 rotate_left
 · simp only [Act.put, lSa, lSz, lSs, i64_w, i32_w]
   rfl
 refine take_ (i := 3) (N := some 59) (v := ?_) (a' := ?_) #[true, true, true, true, false, false, false, false] rfl rfl (by kernel_rfl) (fun _ _ _ h => h) (Or.inl ⟨by rfl, ?_⟩) hHeld ?_ ?_
 rotate_left
 · rintro w' ⟨s0, s1, s2, s3⟩
   go_simp
   with_reducible rfl
 rotate_left
 · simp only [Act.put, lSa, lSz, lSs, i64_w, i32_w]
   rfl
 refine one_ (i := 4) (N := some 60) #[true, true, true, true, true, false, false, false] rfl rfl (by kernel_rfl) (by decide) (fun K hK => ?_)
 refine goes_ Try.func43 (by kernel_rfl) rfl #[.slice A2 n c2, .int .i64 a] (by rfl) rfl rfl (by simp only [List.map_toArray, List.map_cons, List.map_nil]; rfl) ?_
 with_reducible refine (HCALL.out _ (below_drew (Below.refl _ _))).mono ?_
 rintro e wt ⟨vt, rfl, hrt, hb⟩
 refine ⟨_, rfl, ?_⟩
 have HB10 := aMk (below_then (below_drew (Below.refl w9.heap.size w9)) (Nat.le_refl _) hb)
 have HT10 := aMk hrt
 have HR10 := aMk (blk_below HEI.out.r HB10.out)
 clear hb hrt
 refine hK.out _ _ ⟨(bCe (blk_below HXI.out HB10.out) 0).trans rfl, (bCe (blk_below HXI.out HB10.out) 1).trans rfl, (bCe (blk_below HXI.out HB10.out) 2).trans rfl, (bCe (blk_below HEI.out.f HB10.out) 0).trans rfl⟩ (fun hHeld => ?_)
 clear hK K
 refine norm_ (a' := ?_) ?_ ?_
 rotate_left
 · show Act.put _ (some 60) _ = _
   simp only [Act.put, lSa, lSz, lSs, i64_w, i32_w]
   rfl
 refine join_ (σ := Unit) 1 #[true, true, true, true, true, true, true, false] (fun _ => [(61, .string (strOfNums t))]) (fun _ w' => (w'.cell? ⟨g8, 0, none⟩ = some (.int .i64 a) ∧ w'.cell? ⟨g8, 1, none⟩ = some (.bool true) ∧ w'.cell? ⟨g8, 2, none⟩ = some (.slice A8 d.length c8) ∧ w'.cell? ⟨w.heap.size, 0, none⟩ = some (.int .i64 a)) ∧ w' = (((wt.setCell ⟨w.heap.size + 1, 0, none⟩ (.int .i64 a)).setCell ⟨w.heap.size + 1, 1, none⟩ (.bool true)).setCell ⟨w.heap.size + 1, 2, none⟩ (.slice A8 d.length c8))) ?_ ?_
 rotate_left
 · intro hCont
   refine two_ (i := 5) (j := 6) (Ni := some 61) (Nj := none) #[true, true, true, true, true, true, false, false] #[true, true, true, true, true, false, true, false] rfl rfl rfl rfl (by kernel_rfl) (by decide) (by decide) (fun K hK => ?_) (fun K hK => ?_)
   · skip
     refine event_step (w1 := wt) (v := .string (strOfNums t)) (by rfl) ?_ ?_
     · have hcv := own_string (P := Try.prog) Try.underlying22 Try.underlying5 Try.underlying9 (Kd.own_of_R HT10.out)
       go_simp
       try (rw [hcv]; rfl)
     refine hK.out _ _ ⟨(bCe (blk_below HXI.out HB10.out) 0).trans rfl, (bCe (blk_below HXI.out HB10.out) 1).trans rfl, (bCe (blk_below HXI.out HB10.out) 2).trans rfl, (bCe (blk_below HEI.out.f HB10.out) 0).trans rfl⟩ (fun hHeld => ?_)
     clear hK K
     refine norm_ (a' := ?_) ?_ ?_
     rotate_left
     · show Act.put _ (some 61) _ = _
       simp only [Act.put, lSa, lSz, lSs, i64_w, i32_w]
       rfl
     refine one_ (i := 6) (N := none) #[true, true, true, true, true, true, true, false] rfl rfl (by kernel_rfl) (by decide) (fun K hK => ?_)
     have hr10 := HR10.out
     have hsc0 : wt.cell? ⟨w.heap.size + 1, 0, none⟩ = some (.int .i64 0) := (bCe hr10 0).trans rfl
     have hsc1 : wt.cell? ⟨w.heap.size + 1, 1, none⟩ = some (.bool false) := (bCe hr10 1).trans rfl
     have hsc2 : wt.cell? ⟨w.heap.size + 1, 2, none⟩ = some (.slice none 0 0) := (bCe hr10 2).trans rfl
     have hsf0 : wt.frozen? ⟨w.heap.size + 1, 0, none⟩ = false := bFr hr10 0
     have hsf1 : wt.frozen? ⟨w.heap.size + 1, 1, none⟩ = false := bFr hr10 1
     have hsf2 : wt.frozen? ⟨w.heap.size + 1, 2, none⟩ = false := bFr hr10 2
     clear hr10
     refine skip_ (w1 := ?_) (by rfl) rfl ?_ ?_
     rotate_left
     · go_simp
       rfl
     refine hK.out _ _ ⟨(bCe (blk_far (blk_far (blk_far (blk_below HXI.out HB10.out) HNE.out _) HNE.out _) HNE.out _) 0).trans rfl, (bCe (blk_far (blk_far (blk_far (blk_below HXI.out HB10.out) HNE.out _) HNE.out _) HNE.out _) 1).trans rfl, (bCe (blk_far (blk_far (blk_far (blk_below HXI.out HB10.out) HNE.out _) HNE.out _) HNE.out _) 2).trans rfl, (bCe (blk_far (blk_far (blk_far (blk_below HEI.out.f HB10.out) HNF.out _) HNF.out _) HNF.out _) 0).trans rfl⟩ (fun hHeld => ?_)
     clear hK K
     exact norm_ (by simp only [putAll, Act.put, lSa, lSz, lSs]) (hCont () _ ⟨⟨(bCe (blk_far (blk_far (blk_far (blk_below HXI.out HB10.out) HNE.out _) HNE.out _) HNE.out _) 0).trans rfl, (bCe (blk_far (blk_far (blk_far (blk_below HXI.out HB10.out) HNE.out _) HNE.out _) HNE.out _) 1).trans rfl, (bCe (blk_far (blk_far (blk_far (blk_below HXI.out HB10.out) HNE.out _) HNE.out _) HNE.out _) 2).trans rfl, (bCe (blk_far (blk_far (blk_far (blk_below HEI.out.f HB10.out) HNF.out _) HNF.out _) HNF.out _) 0).trans rfl⟩, rfl⟩)
   · skip
     have hr10 := HR10.out
     have hsc0 : wt.cell? ⟨w.heap.size + 1, 0, none⟩ = some (.int .i64 0) := (bCe hr10 0).trans rfl
     have hsc1 : wt.cell? ⟨w.heap.size + 1, 1, none⟩ = some (.bool false) := (bCe hr10 1).trans rfl
     have hsc2 : wt.cell? ⟨w.heap.size + 1, 2, none⟩ = some (.slice none 0 0) := (bCe hr10 2).trans rfl
     have hsf0 : wt.frozen? ⟨w.heap.size + 1, 0, none⟩ = false := bFr hr10 0
     have hsf1 : wt.frozen? ⟨w.heap.size + 1, 1, none⟩ = false := bFr hr10 1
     have hsf2 : wt.frozen? ⟨w.heap.size + 1, 2, none⟩ = false := bFr hr10 2
     clear hr10
     refine skip_ (w1 := ?_) (by rfl) rfl ?_ ?_
     rotate_left
     · go_simp
       rfl
     refine hK.out _ _ ⟨(bCe (blk_far (blk_far (blk_far (blk_below HXI.out HB10.out) HNE.out _) HNE.out _) HNE.out _) 0).trans rfl, (bCe (blk_far (blk_far (blk_far (blk_below HXI.out HB10.out) HNE.out _) HNE.out _) HNE.out _) 1).trans rfl, (bCe (blk_far (blk_far (blk_far (blk_below HXI.out HB10.out) HNE.out _) HNE.out _) HNE.out _) 2).trans rfl, (bCe (blk_far (blk_far (blk_far (blk_below HEI.out.f HB10.out) HNF.out _) HNF.out _) HNF.out _) 0).trans rfl⟩ (fun hHeld => ?_)
     clear hK K
     refine one_ (i := 5) (N := some 61) #[true, true, true, true, true, true, true, false] rfl rfl (by kernel_rfl) (by decide) (fun K hK => ?_)
     refine event_step (w1 := (((wt.setCell ⟨w.heap.size + 1, 0, none⟩ (.int .i64 a)).setCell ⟨w.heap.size + 1, 1, none⟩ (.bool true)).setCell ⟨w.heap.size + 1, 2, none⟩ (.slice A8 d.length c8))) (v := .string (strOfNums t)) (by rfl) ?_ ?_
     · have hcv := own_string (P := Try.prog) Try.underlying22 Try.underlying5 Try.underlying9 (Kd.own_of_R (Kd.R_set (Kd.R_set (Kd.R_set HT10.out HR10.out (by decide) 0 (.int .i64 a)) (blk_set HR10.out 0 _) (by decide) 1 (.bool true)) (blk_set (blk_set HR10.out 0 _) 1 _) (by decide) 2 (.slice A8 d.length c8)))
       go_simp
       try (rw [hcv]; rfl)
     refine hK.out _ _ ⟨(bCe (blk_far (blk_far (blk_far (blk_below HXI.out HB10.out) HNE.out _) HNE.out _) HNE.out _) 0).trans rfl, (bCe (blk_far (blk_far (blk_far (blk_below HXI.out HB10.out) HNE.out _) HNE.out _) HNE.out _) 1).trans rfl, (bCe (blk_far (blk_far (blk_far (blk_below HXI.out HB10.out) HNE.out _) HNE.out _) HNE.out _) 2).trans rfl, (bCe (blk_far (blk_far (blk_far (blk_below HEI.out.f HB10.out) HNF.out _) HNF.out _) HNF.out _) 0).trans rfl⟩ (fun hHeld => ?_)
     clear hK K
     refine norm_ (a' := ?_) ?_ ?_
     rotate_left
     · show Act.put _ (some 61) _ = _
       simp only [Act.put, lSa, lSz, lSs, i64_w, i32_w]
       rfl
     exact norm_ (by simp only [putAll, Act.put, lSa, lSz, lSs]) (hCont () _ ⟨⟨(bCe (blk_far (blk_far (blk_far (blk_below HXI.out HB10.out) HNE.out _) HNE.out _) HNE.out _) 0).trans rfl, (bCe (blk_far (blk_far (blk_far (blk_below HXI.out HB10.out) HNE.out _) HNE.out _) HNE.out _) 1).trans rfl, (bCe (blk_far (blk_far (blk_far (blk_below HXI.out HB10.out) HNE.out _) HNE.out _) HNE.out _) 2).trans rfl, (bCe (blk_far (blk_far (blk_far (blk_below HEI.out.f HB10.out) HNF.out _) HNF.out _) HNF.out _) 0).trans rfl⟩, rfl⟩)
 rintro _ w11 ⟨hs, hw11⟩
 have hHeld : (fun w' => w'.cell? ⟨g8, 0, none⟩ = some (.int .i64 a) ∧ w'.cell? ⟨g8, 1, none⟩ = some (.bool true) ∧ w'.cell? ⟨g8, 2, none⟩ = some (.slice A8 d.length c8) ∧ w'.cell? ⟨w.heap.size, 0, none⟩ = some (.int .i64 a)) w11 := hs
 subst hw11
 clear hs
 refine norm_ (a' := ?_) ?_ ?_
 rotate_left
 · simp only [putAll, Act.put, lSa, lSz, lSs]
   rfl
 refine pure_ (i := 7) (N := some 5) (v := ?_) (a' := ?_) #[true, true, true, true, true, true, true, true] rfl rfl (by kernel_rfl) (fun _ _ _ h => h) (Or.inl ⟨by rfl, ?_⟩) ?_ ?_
 rotate_left
 · intro w'
   go_simp
   with_reducible rfl
 rotate_left
 · simp only [Act.put, lSa, lSz, lSs, i64_w, i32_w]
   rfl
 refine done_ (by kernel_rfl) ?_
 go_wp2
 have hgb := blk_set (blk_set (blk_set HR10.out 0 (.int .i64 a)) 1 (.bool true)) 2 (.slice A8 d.length c8)
 refine bodyPost_ret (results_list (rs := [.cell 4 38, .tmp 5]) rfl (by simp) (.cell (w.heap.size + 1) 38 _ (0, 0) _ rfl hgb Try.underlying38 rfl (by kernel_rfl) (.tmp .nil))) rfl ?_
 refine ⟨.slice A8 d.length c8, rfl, ?_, bSe (bSe (bSe (below_step HEI.out.b HB10.out) HEI.out.ge) HEI.out.ge) HEI.out.ge⟩
 rw [← HDQ.out]
 exact Kd.R_lower (Kd.R_set (Kd.R_set (Kd.R_set (Kd.R_below HOH.out HB10.out) HR10.out (by decide) 0 _) (blk_set HR10.out 0 _) (by decide) 1 _) (blk_set (blk_set HR10.out 0 _) 1 _) (by decide) 2 _) HE6.out.b.size
set_option maxHeartbeats 8000000 in
set_option maxRecDepth 100000 in
theorem smore_calls_f (k : Nat) (a : Int) (A : Option Addr) (c : Nat) (l : List Int) (A1 : Option Addr) (c1 : Nat) (l1 x : List Int) (q : Int) (n : Nat) (y t : List Int) (w : World) (hx : x = l ++ l1) (hr : Kd.C (Kd.int .u8) w A l.length l) (hc : l.length ≤ c) (hr1 : Kd.C (Kd.int .u8) w A1 l1.length l1) (hc1 : l1.length ≤ c1) (hl : l.length ≤ 1048576) (hl1 : l1.length ≤ 60000)
 (hok : spec_l1FeedOk.f a false l = some true) (hq : spec_l1Kept.f k x a = some q) (hn : wrap64 ((x.length : Int) - q) = (n : Int)) (hnx : n ≤ x.length) (hy : spec_l1Unmarked.f k (x.take n) a = some y) (ht : spec_l1Read.f k y a = some t) :
 Calls Try.prog 26 #[.agg #[.int .i64 a, .bool false, .slice A l.length c], .slice A1 l1.length c1] w fun en w' => ∃ v, en = .returned (.tuple #[.agg #[.int .i64 a, .bool (false || decide (0 < n)), v], .string (strOfNums t)]) ∧ Kd.R (Kd.int .u8) 5 w' w.heap.size (fun _ => True) v (x.drop n) ∧ Below w.heap.size w w' := by
 have hu38 := Try.underlying38
 have HB := aMk (bAl (bAl (Below.refl w.heap.size w) (.cells #[.int .i64 a, .bool false, .slice A l.length c] 38)) (.cells #[.int .i64 0, .bool false, .slice none 0 0] 38))
 have HX := aMk hx
 have HR := aMk hr
 have HC := aMk hc
 have HR1 := aMk hr1
 have HC1 := aMk hc1
 have HL := aMk hl
 have HL1 := aMk hl1
 have HN := aMk hnx
 have HNE := aMk hn
 have HK := aMk hq
 have HOK := aMk hok
 have HTT := aMk ht
 have HYY := aMk hy
 have ld1 : decide (60000 < (l1.length : Int)) = false := decide_eq_false (by omega)
 have ld2 : decide (60000 < l1.length) = false := decide_eq_false (by omega)
 clear hx hr hc hr1 hc1 hl hl1 hn hnx hq hok ht hy
 go_enter Try.func26, Try.ntmps26
 go_wp2_with (first | (go_at_call 46; refine (spec_l1FeedOk.calls a false A c l true _ (Kd.C_below HR.out HB.out) HC.out HOK.out).mono ?_; rintro e w1 ⟨rfl, hb⟩; have HE : Aside0 (SEnv w w1 a false A l.length c w.heap.size (w.heap.size + 1)) := ⟨⟨blk_below (bkA (blk_new w _) _) hb, blk_below (by rw [show w.heap.size + 1 = (w.alloc (.cells #[.int .i64 a, .bool false, .slice A l.length c] 38)).heap.size by simp]; exact blk_new _ _) hb, below_step HB.out hb, by omega⟩⟩; have hq2 : w1.cell? ⟨w.heap.size, 2, none⟩ = some (.slice A l.length c) := bCe HE.out.f 2; clear hb HB) | ((with_reducible refine gate_dst (N := 18) rfl ?_); refine Kd.R_lit (Kd.int .u8) _ 5 ?hg (N := 18) ?hd (xs := ([] : List Int)) (inner := []) (ok := fun _ => True) (okp := fun _ => True) ?hr ?hp (fun _ hk => hk) trivial (Below.refl _ _) (Nat.le_refl _) (by simp) ?_; (case hd => rfl); (case hg => rfl); (case hr => first | (go_simp; done) | (go_simp; rfl)); (case hp => exact (Reps.none _ _)); intro v3 w3 ho3 hb hg_ hnew_; have HE3 := aMk (HE.out.fresh (below_step HE.out.b hb) hg_); have HO3 := aMk (Kd.R_lower ho3 (below_size HE.out.b)); have hq3 : w3.cell? ⟨w.heap.size, 2, none⟩ = some (.slice A l.length c) := bCe HE3.out.f 2; clear hg_ hnew_ hb ho3 HE hq2) | ((with_reducible refine gate_builtin (b := .append) (xs := #[.tmp 18, .tmp 20]) rfl ?_); at_builtin; refine Kd.R_append_rows (Kd.int .u8) (w0 := w) w.heap.size rfl (.tmp 18) (.tmp 20) 22 5 (.int .u8 0) 1 rfl Try.underlying22 info5 rfl (by decide) (by decide) _ [] l A l.length c (fun _ => True) (fun _ => False) rfl rfl HO3.out (Kd.C_below HR.out HE3.out.b) ?hKM (fun _ hk => hk.elim) (fun _ _ => trivial) HE3.out.b (below_size HE3.out.b) ?hlim ?_; (case hKM => intro x cs hx; exact hx); (case hlim => have := HL.out; have := HL1.out; simp; omega); intro v4 w4 ho hb hg_ _; have HE4 := aMk (HE3.out.grown HO3.out hb hg_); have HO4 : Aside0 (Kd.R (Kd.int .u8) 5 w4 w.heap.size (fun _ => True) v4 l) := ⟨ho⟩; clear hg_ hb ho HE3 HO3 hq3) | ((with_reducible refine gate_builtin (b := .append) (xs := #[.tmp 22, .tmp 23]) rfl ?_); at_builtin; refine Kd.R_append_rows (Kd.int .u8) (w0 := w) w.heap.size rfl (.tmp 22) (.tmp 23) 22 5 (.int .u8 0) 1 rfl Try.underlying22 info5 rfl (by decide) (by decide) _ l l1 A1 l1.length c1 (fun _ => True) (fun _ => False) rfl rfl HO4.out (Kd.C_below HR1.out HE4.out.b) ?hKM (fun _ hk => hk.elim) (fun _ _ => trivial) HE4.out.b (below_size HE4.out.b) ?hlim ?_; (case hKM => intro x cs hx; exact hx); (case hlim => have := HL.out; have := HL1.out; simp; omega); intro v5 w5 ho hb hg_ _; have HE5 := aMk (HE4.out.grown HO4.out hb hg_); have HO5 := aMk (show Kd.R (Kd.int .u8) 5 w5 w.heap.size (fun _ => True) v5 x by rw [HX.out]; exact ho); obtain ⟨A2, c2, hv5, hc2, hr2⟩ := Kd.R_reads HO5.out; subst hv5; have HC2 := aMk hc2; have HR2 := aMk hr2; have hq5 : w5.cell? ⟨w.heap.size, 0, none⟩ = some (.int .i64 a) := bCe HE5.out.f 0; clear hg_ hb ho HE4 HO4 hc2 hr2) | (go_at_call 48; refine (spec_l1Kept.calls k A2 c2 x a q _ HR2.out HC2.out HK.out).mono ?_; rintro e w6 ⟨rfl, hd6⟩; have HE6 := aMk (HE5.out.below hd6.below); have HO6 := aMk (Kd.R_below HO5.out hd6.below); have HR6 := aMk (Kd.C_below HR2.out hd6.below); clear hd6 HE5 HO5 HR2 hq5))
 have hne := HNE.out
 simp only [hne]
 have hxl : n ≤ x.length := HN.out
 obtain ⟨i0, hi0, _, hz1, _⟩ := info_parts info5
 have hcut1 := cut_to (P := Try.prog) 22 5 .i64 Try.underlying22 hi0 A2 x.length c2 (n : Int) (by omega) (by omega) HC2.out
 have hcut2 := cut_from (P := Try.prog) 22 5 .i64 Try.underlying22 hi0 1 hz1 A2 x.length c2 (n : Int) (by omega) (by omega)
 rw [Int.toNat_natCast] at hcut1 hcut2
 have HD := Kd.C_drop (k := Kd.int .u8) (m := n) (c := c2) HR6.out hxl HC2.out
 have HT := Kd.C_take (k := Kd.int .u8) (m := n) HR6.out hxl
 have hsz1 : (Kd.int .u8).sz = 1 := rfl
 rw [hsz1] at HD
 obtain ⟨A3, hA3⟩ : ∃ A', A' = (if c2 = n then A2 else A2.map (·.add (n * 1))) := ⟨_, rfl⟩
 rw [← hA3] at hcut2 HD
 have hld : (x.drop n).length = x.length - n := List.length_drop
 rw [← hld] at hcut2
 have HDL : Aside0 ((x.drop n).length ≤ 1200000) := ⟨by have h1 := HL.out; have h2 := HL1.out; have h3 : x.length = l.length + l1.length := (by rw [HX.out, List.length_append]); omega⟩
 have HTC : Aside0 (n ≤ c2) := ⟨Nat.le_trans hxl HC2.out⟩
 have hlt : (x.take n).length = n := by rw [List.length_take]; omega
 have HLT := aMk hlt
 replace HD := aMk HD
 replace HT := aMk HT
 have HXLT := aMk (Kd.R_lt HO6.out)
 obtain ⟨d, hd⟩ : ∃ d, d = x.drop n := ⟨_, rfl⟩
 rw [← hd] at hcut2 HD HDL
 have HDQ := aMk hd
 clear hlt hd hld hA3 hsz1 hz1 hi0 hxl hne HNE
 refine start_ (n := 16) (S := fun w' => w'.cell? ⟨w.heap.size, 0, none⟩ = some (.int .i64 a) ∧ w'.cell? ⟨w.heap.size, 1, none⟩ = some (.bool false)) (ds := [15]) #[false, false, false, false, false, false, false, false, false, false, false, false, false, false, false, false] (by kernel_rfl) rfl rfl ⟨(bCe (blk_below HE6.out.f (below_drew (Below.refl _ _))) 0).trans rfl, (bCe (blk_below HE6.out.f (below_drew (Below.refl _ _))) 1).trans rfl⟩ (fun hHeld => ?_)
 refine pure_ (i := 0) (N := some 32) (v := ?_) (a' := ?_) #[true, false, false, false, false, false, false, false, false, false, false, false, false, false, false, false] rfl rfl (by kernel_rfl) (fun _ _ _ h => h) (Or.inl ⟨by rfl, ?_⟩) ?_ ?_
 rotate_left
 · intro w'
   go_simp
   with_reducible rfl
 rotate_left
 · simp only [Act.put, lSa, lSz, lSs, i64_w, i32_w]
   rfl
 refine pure_ (i := 2) (N := some 34) (v := ?_) (a' := ?_) #[true, false, true, false, false, false, false, false, false, false, false, false, false, false, false, false] rfl rfl (by kernel_rfl) (fun _ _ _ h => h) (Or.inl ⟨by rfl, ?_⟩) ?_ ?_
 rotate_left
 · intro w'
   go_simp
   with_reducible rfl
 rotate_left
 · simp only [Act.put, lSa, lSz, lSs, i64_w, i32_w]
   rfl
 refine pure_ (i := 9) (N := some 41) (v := ?_) (a' := ?_) #[true, false, true, false, false, false, false, false, false, true, false, false, false, false, false, false] rfl rfl (by kernel_rfl) (fun _ _ _ h => h) (Or.inl ⟨by rfl, ?_⟩) ?_ ?_
 rotate_left
 · intro w'
   go_simp
   with_reducible rfl
 rotate_left
 · simp only [Act.put, lSa, lSz, lSs, i64_w, i32_w]
   rfl
 refine pure_ (i := 10) (N := some 42) (v := ?_) (a' := ?_) #[true, false, true, false, false, false, false, false, false, true, true, false, false, false, false, false] rfl rfl (by kernel_rfl) (fun _ _ _ h => h) (Or.inl ⟨by rfl, ?_⟩) ?_ ?_
 rotate_left
 · intro w'
   go_simp
   with_reducible rfl
 rotate_left
 · simp only [Act.put, lSa, lSz, lSs, i64_w, i32_w]
   rfl
 refine pure_ (i := 11) (N := some 43) (v := ?_) (a' := ?_) #[true, false, true, false, false, false, false, false, false, true, true, true, false, false, false, false] rfl rfl (by kernel_rfl) (fun _ _ _ h => h) (Or.inl ⟨by rfl, ?_⟩) ?_ ?_
 rotate_left
 · intro w'
   go_simp
   with_reducible rfl
 rotate_left
 · simp only [Act.put, lSa, lSz, lSs, i64_w, i32_w]
   rfl
 refine take_ (i := 1) (N := some 33) (v := ?_) (a' := ?_) #[true, true, true, false, false, false, false, false, false, true, true, true, false, false, false, false] rfl rfl (by kernel_rfl) (fun _ _ _ h => h) (Or.inl ⟨by rfl, ?_⟩) hHeld ?_ ?_
 rotate_left
 · rintro w' ⟨s0, s1⟩
   go_simp
   with_reducible rfl
 rotate_left
 · simp only [Act.put, lSa, lSz, lSs, i64_w, i32_w]
   rfl
 refine take_ (i := 3) (N := some 35) (v := ?_) (a' := ?_) #[true, true, true, true, false, false, false, false, false, true, true, true, false, false, false, false] rfl rfl (by kernel_rfl) (fun _ _ _ h => h) (Or.inl ⟨by rfl, ?_⟩) hHeld ?_ ?_
 rotate_left
 · rintro w' ⟨s0, s1⟩
   go_simp
   with_reducible rfl
 rotate_left
 · simp only [Act.put, lSa, lSz, lSs, i64_w, i32_w]
   rfl
 refine pure_ (i := 4) (N := some 36) (v := ?_) (a' := ?_) #[true, true, true, true, true, false, false, false, false, true, true, true, false, false, false, false] rfl rfl (by kernel_rfl) (fun _ _ _ h => h) (Or.inl ⟨by rfl, ?_⟩) ?_ ?_
 rotate_left
 · intro w'
   go_simp
   with_reducible rfl
 rotate_left
 · simp only [Act.put, lSa, lSz, lSs, i64_w, i32_w]
   rfl
 refine pure_ (i := 5) (N := some 37) (v := ?_) (a' := ?_) #[true, true, true, true, true, true, false, false, false, true, true, true, false, false, false, false] rfl rfl (by kernel_rfl) (fun _ _ _ h => h) (Or.inl ⟨by rfl, ?_⟩) ?_ ?_
 rotate_left
 · intro w'
   go_simp
   with_reducible rfl
 rotate_left
 · simp only [Act.put, lSa, lSz, lSs, i64_w, i32_w]
   rfl
 refine pure_ (i := 6) (N := some 38) (v := ?_) (a' := ?_) #[true, true, true, true, true, true, true, false, false, true, true, true, false, false, false, false] rfl rfl (by kernel_rfl) (fun _ _ _ h => h) (Or.inl ⟨by rfl, ?_⟩) ?_ ?_
 rotate_left
 · intro w'
   go_simp
   with_reducible rfl
 rotate_left
 · simp only [Act.put, lSa, lSz, lSs, i64_w, i32_w]
   rfl
 refine pure_ (i := 7) (N := some 39) (v := ?_) (a' := ?_) #[true, true, true, true, true, true, true, true, false, true, true, true, false, false, false, false] rfl rfl (by kernel_rfl) (fun _ _ _ h => h) (Or.inl ⟨by rfl, ?_⟩) ?_ ?_
 rotate_left
 · intro w'
   go_simp
   with_reducible rfl
 rotate_left
 · simp only [Act.put, lSa, lSz, lSs, i64_w, i32_w]
   rfl
 refine join_ (σ := Nat × Value × Option Addr × Nat) 1 #[true, true, true, true, true, true, true, true, true, true, true, true, true, true, true, false] (fun s_ => [(40, s_.2.1), (44, .slice s_.2.2.1 d.length s_.2.2.2), (8, .pointer (some ⟨s_.1, 0, none⟩)), (45, .agg #[.int .i64 a, .bool (decide (0 < n)), .slice s_.2.2.1 d.length s_.2.2.2])]) (fun s_ w' => (w'.cell? ⟨w.heap.size, 0, none⟩ = some (.int .i64 a) ∧ w'.cell? ⟨w.heap.size, 1, none⟩ = some (.bool false)) ∧ w'.heap[s_.1]? = some (.cells (feedCells 0 false none 0 0) 38 (0, 0)) ∧ w6.heap.size ≤ s_.1 ∧ Kd.R (Kd.int .u8) 5 w' w6.heap.size (fun _ => True) (.slice s_.2.2.1 d.length s_.2.2.2) d ∧ Below w6.heap.size w6 w') ?_ ?_
 rotate_left
 · intro hCont
   refine two_ (i := 8) (j := 14) (Ni := some 40) (Nj := some 8) #[true, true, true, true, true, true, true, true, true, true, true, true, false, false, false, false] #[true, true, true, true, true, true, true, true, false, true, true, true, false, false, true, false] rfl rfl rfl rfl (by kernel_rfl) (by decide) (by decide) (fun K hK => ?_) (fun K hK => ?_)
   · skip
     refine Kd.R_lit_step (Kd.int .u8) (w0 := w6) w6.heap.size 5 (by rfl) (N := 40) rfl (xs := ([] : List Int)) (inner := []) (ok := fun _ => True) (okp := fun _ => True) ?hr ?hp (fun _ hk => hk) trivial (below_drew (Below.refl _ _)) (Nat.le_refl _) (by simp) ?_
     case hr => first | (go_simp; done) | (go_simp; rfl)
     case hp => exact (Reps.none _ _)
     intro v7 wr1 ho7 hb hg _
     have HB1 := aMk hb
     have HO7_1 := aMk ho7
     clear ho7 hb hg
     refine hK.out _ _ ⟨(bCe (blk_below HE6.out.f HB1.out) 0).trans rfl, (bCe (blk_below HE6.out.f HB1.out) 1).trans rfl⟩ (fun hHeld => ?_)
     clear hK K
     refine norm_ (a' := ?_) ?_ ?_
     rotate_left
     · show Act.put _ (some 40) _ = _
       simp only [Act.put, lSa, lSz, lSs, i64_w, i32_w]
       rfl
     refine two_ (i := 12) (j := 14) (Ni := some 44) (Nj := some 8) #[true, true, true, true, true, true, true, true, true, true, true, true, true, false, false, false] #[true, true, true, true, true, true, true, true, true, true, true, true, false, false, true, false] rfl rfl rfl rfl (by kernel_rfl) (by decide) (by decide) (fun K hK => ?_) (fun K hK => ?_)
     · skip
       refine Kd.R_append_rows_step (Kd.int .u8) (w0 := w6) w6.heap.size (by rfl) (.tmp 40) (.tmp 43) 22 5 (.int .u8 0) 1 rfl Try.underlying22 info5 rfl (by decide) (by decide) _ [] d A3 d.length (c2 - n) (fun _ => True) (fun _ => False) rfl rfl HO7_1.out (Kd.C_below HD.out HB1.out) ?hKM (fun _ hk => hk.elim) (fun _ _ => trivial) HB1.out (HB1.out.size) ?hlim ?_
       case hKM => intro x cs hx; exact hx
       case hlim => have := HDL.out; simp; omega
       intro v8 wr2 ho8 hb hg _
       obtain ⟨A8, c8, hv8⟩ := Kd.R_slice ho8
       rw [List.nil_append] at ho8 hv8
       subst hv8
       have HO8_2 := aMk ho8
       have HB2 := aMk hb
       clear ho8 hb hg
       refine hK.out _ _ ⟨(bCe (blk_below HE6.out.f HB2.out) 0).trans rfl, (bCe (blk_below HE6.out.f HB2.out) 1).trans rfl⟩ (fun hHeld => ?_)
       clear hK K
       refine norm_ (a' := ?_) ?_ ?_
       rotate_left
       · show Act.put _ (some 44) _ = _
         simp only [Act.put, lSa, lSz, lSs, i64_w, i32_w]
         rfl
       refine pure_ (i := 13) (N := some 45) (v := ?_) (a' := ?_) #[true, true, true, true, true, true, true, true, true, true, true, true, true, true, false, false] rfl rfl (by kernel_rfl) (fun _ _ _ h => h) (Or.inl ⟨by rfl, ?_⟩) ?_ ?_
       rotate_left
       · intro w'
         go_simp
         with_reducible rfl
       rotate_left
       · simp only [Act.put, lSa, lSz, lSs, i64_w, i32_w]
         rfl
       refine one_ (i := 14) (N := some 8) #[true, true, true, true, true, true, true, true, true, true, true, true, true, true, true, false] rfl rfl (by kernel_rfl) (by decide) (fun K hK => ?_)
       refine box_step (by rfl) (N := 8) rfl (cs := #[.int .i64 0, .bool false, .slice none 0 0]) (t := 38) ?hr ?_
       case hr => first | (go_simp; done) | (go_simp; rfl)
       intro g8 hg8 wr3 hbox hb
       have HX3 := aMk hbox
       have HG8 : Aside0 (w6.heap.size ≤ g8) := ⟨by rw [hg8]; exact (HB2.out.size)⟩
       have HO8_3 := aMk (Kd.R_below HO8_2.out hb)
       have HB3 := aMk (below_then HB2.out (HB2.out.size) hb)
       clear hbox hb hg8
       refine hK.out _ _ ⟨(bCe (blk_below HE6.out.f HB3.out) 0).trans rfl, (bCe (blk_below HE6.out.f HB3.out) 1).trans rfl⟩ (fun hHeld => ?_)
       clear hK K
       refine norm_ (a' := ?_) ?_ ?_
       rotate_left
       · show Act.put _ (some 8) _ = _
         simp only [Act.put, lSa, lSz, lSs, i64_w, i32_w]
         rfl
       exact norm_ (by simp only [putAll, Act.put, lSa, lSz, lSs]) (hCont (g8, v7, A8, c8) _ ⟨⟨(bCe (blk_below HE6.out.f HB3.out) 0).trans rfl, (bCe (blk_below HE6.out.f HB3.out) 1).trans rfl⟩, HX3.out, HG8.out, HO8_3.out, HB3.out⟩)
     · skip
       refine box_step (by rfl) (N := 8) rfl (cs := #[.int .i64 0, .bool false, .slice none 0 0]) (t := 38) ?hr ?_
       case hr => first | (go_simp; done) | (go_simp; rfl)
       intro g8 hg8 wr2 hbox hb
       have HX2 := aMk hbox
       have HG8 : Aside0 (w6.heap.size ≤ g8) := ⟨by rw [hg8]; exact (HB1.out.size)⟩
       have HO7_2 := aMk (Kd.R_below HO7_1.out hb)
       have HB2 := aMk (below_then HB1.out (HB1.out.size) hb)
       clear hbox hb hg8
       refine hK.out _ _ ⟨(bCe (blk_below HE6.out.f HB2.out) 0).trans rfl, (bCe (blk_below HE6.out.f HB2.out) 1).trans rfl⟩ (fun hHeld => ?_)
       clear hK K
       refine norm_ (a' := ?_) ?_ ?_
       rotate_left
       · show Act.put _ (some 8) _ = _
         simp only [Act.put, lSa, lSz, lSs, i64_w, i32_w]
         rfl
       refine one_ (i := 12) (N := some 44) #[true, true, true, true, true, true, true, true, true, true, true, true, true, false, true, false] rfl rfl (by kernel_rfl) (by decide) (fun K hK => ?_)
       refine Kd.R_append_rows_step (Kd.int .u8) (w0 := w6) w6.heap.size (by rfl) (.tmp 40) (.tmp 43) 22 5 (.int .u8 0) 1 rfl Try.underlying22 info5 rfl (by decide) (by decide) _ [] d A3 d.length (c2 - n) (fun _ => True) (fun _ => False) rfl rfl HO7_2.out (Kd.C_below HD.out HB2.out) ?hKM (fun _ hk => hk.elim) (fun _ _ => trivial) HB2.out (HB2.out.size) ?hlim ?_
       case hKM => intro x cs hx; exact hx
       case hlim => have := HDL.out; simp; omega
       intro v8 wr3 ho8 hb hg _
       obtain ⟨A8, c8, hv8⟩ := Kd.R_slice ho8
       rw [List.nil_append] at ho8 hv8
       subst hv8
       have HO8_3 := aMk ho8
       have HB3 := aMk hb
       have HX3 := aMk (blk_grown HX2.out hg (Kd.R_ne HO7_2.out HX2.out (by decide)))
       clear ho8 hb hg
       refine hK.out _ _ ⟨(bCe (blk_below HE6.out.f HB3.out) 0).trans rfl, (bCe (blk_below HE6.out.f HB3.out) 1).trans rfl⟩ (fun hHeld => ?_)
       clear hK K
       refine norm_ (a' := ?_) ?_ ?_
       rotate_left
       · show Act.put _ (some 44) _ = _
         simp only [Act.put, lSa, lSz, lSs, i64_w, i32_w]
         rfl
       refine pure_ (i := 13) (N := some 45) (v := ?_) (a' := ?_) #[true, true, true, true, true, true, true, true, true, true, true, true, true, true, true, false] rfl rfl (by kernel_rfl) (fun _ _ _ h => h) (Or.inl ⟨by rfl, ?_⟩) ?_ ?_
       rotate_left
       · intro w'
         go_simp
         with_reducible rfl
       rotate_left
       · simp only [Act.put, lSa, lSz, lSs, i64_w, i32_w]
         rfl
       exact norm_ (by simp only [putAll, Act.put, lSa, lSz, lSs]) (hCont (g8, v7, A8, c8) _ ⟨⟨(bCe (blk_below HE6.out.f HB3.out) 0).trans rfl, (bCe (blk_below HE6.out.f HB3.out) 1).trans rfl⟩, HX3.out, HG8.out, HO8_3.out, HB3.out⟩)
   · skip
     refine box_step (by rfl) (N := 8) rfl (cs := #[.int .i64 0, .bool false, .slice none 0 0]) (t := 38) ?hr ?_
     case hr => first | (go_simp; done) | (go_simp; rfl)
     intro g8 hg8 wr1 hbox hb
     have HX1 := aMk hbox
     have HG8 : Aside0 (w6.heap.size ≤ g8) := ⟨by rw [hg8]; exact (Nat.le_refl _)⟩
     have HB1 := aMk (below_then (below_drew (Below.refl _ _)) (Nat.le_refl _) hb)
     clear hbox hb hg8
     refine hK.out _ _ ⟨(bCe (blk_below HE6.out.f HB1.out) 0).trans rfl, (bCe (blk_below HE6.out.f HB1.out) 1).trans rfl⟩ (fun hHeld => ?_)
     clear hK K
     refine norm_ (a' := ?_) ?_ ?_
     rotate_left
     · show Act.put _ (some 8) _ = _
       simp only [Act.put, lSa, lSz, lSs, i64_w, i32_w]
       rfl
     refine one_ (i := 8) (N := some 40) #[true, true, true, true, true, true, true, true, true, true, true, true, false, false, true, false] rfl rfl (by kernel_rfl) (by decide) (fun K hK => ?_)
     refine Kd.R_lit_step (Kd.int .u8) (w0 := w6) w6.heap.size 5 (by rfl) (N := 40) rfl (xs := ([] : List Int)) (inner := []) (ok := fun _ => True) (okp := fun _ => True) ?hr ?hp (fun _ hk => hk) trivial HB1.out (HB1.out.size) (by simp) ?_
     case hr => first | (go_simp; done) | (go_simp; rfl)
     case hp => exact (Reps.none _ _)
     intro v7 wr2 ho7 hb hg _
     have HB2 := aMk hb
     have HO7_2 := aMk ho7
     have HX2 := aMk (blk_grown HX1.out hg (by simp))
     clear ho7 hb hg
     refine hK.out _ _ ⟨(bCe (blk_below HE6.out.f HB2.out) 0).trans rfl, (bCe (blk_below HE6.out.f HB2.out) 1).trans rfl⟩ (fun hHeld => ?_)
     clear hK K
     refine norm_ (a' := ?_) ?_ ?_
     rotate_left
     · show Act.put _ (some 40) _ = _
       simp only [Act.put, lSa, lSz, lSs, i64_w, i32_w]
       rfl
     refine one_ (i := 12) (N := some 44) #[true, true, true, true, true, true, true, true, true, true, true, true, true, false, true, false] rfl rfl (by kernel_rfl) (by decide) (fun K hK => ?_)
     refine Kd.R_append_rows_step (Kd.int .u8) (w0 := w6) w6.heap.size (by rfl) (.tmp 40) (.tmp 43) 22 5 (.int .u8 0) 1 rfl Try.underlying22 info5 rfl (by decide) (by decide) _ [] d A3 d.length (c2 - n) (fun _ => True) (fun _ => False) rfl rfl HO7_2.out (Kd.C_below HD.out HB2.out) ?hKM (fun _ hk => hk.elim) (fun _ _ => trivial) HB2.out (HB2.out.size) ?hlim ?_
     case hKM => intro x cs hx; exact hx
     case hlim => have := HDL.out; simp; omega
     intro v8 wr3 ho8 hb hg _
     obtain ⟨A8, c8, hv8⟩ := Kd.R_slice ho8
     rw [List.nil_append] at ho8 hv8
     subst hv8
     have HO8_3 := aMk ho8
     have HB3 := aMk hb
     have HX3 := aMk (blk_grown HX2.out hg (Kd.R_ne HO7_2.out HX2.out (by decide)))
     clear ho8 hb hg
     refine hK.out _ _ ⟨(bCe (blk_below HE6.out.f HB3.out) 0).trans rfl, (bCe (blk_below HE6.out.f HB3.out) 1).trans rfl⟩ (fun hHeld => ?_)
     clear hK K
     refine norm_ (a' := ?_) ?_ ?_
     rotate_left
     · show Act.put _ (some 44) _ = _
       simp only [Act.put, lSa, lSz, lSs, i64_w, i32_w]
       rfl
     refine pure_ (i := 13) (N := some 45) (v := ?_) (a' := ?_) #[true, true, true, true, true, true, true, true, true, true, true, true, true, true, true, false] rfl rfl (by kernel_rfl) (fun _ _ _ h => h) (Or.inl ⟨by rfl, ?_⟩) ?_ ?_
     rotate_left
     · intro w'
       go_simp
       with_reducible rfl
     rotate_left
     · simp only [Act.put, lSa, lSz, lSs, i64_w, i32_w]
       rfl
     exact norm_ (by simp only [putAll, Act.put, lSa, lSz, lSs]) (hCont (g8, v7, A8, c8) _ ⟨⟨(bCe (blk_below HE6.out.f HB3.out) 0).trans rfl, (bCe (blk_below HE6.out.f HB3.out) 1).trans rfl⟩, HX3.out, HG8.out, HO8_3.out, HB3.out⟩)
 rintro ⟨g8, v7, A8, c8⟩ w8 ⟨⟨hs0, hs1⟩, hbox, hg8, ho8, hb8⟩
 have hHeld : (fun w' => w'.cell? ⟨w.heap.size, 0, none⟩ = some (.int .i64 a) ∧ w'.cell? ⟨w.heap.size, 1, none⟩ = some (.bool false)) w8 := ⟨hs0, hs1⟩
 have HX8 := aMk hbox
 have HG8 := aMk hg8
 have HO8 := aMk ho8
 have HB8 := aMk hb8
 clear hbox hg8 ho8 hb8 hs0 hs1
 refine norm_ (a' := ?_) ?_ ?_
 rotate_left
 · simp only [putAll, Act.put, lSa, lSz, lSs]
   rfl
 refine last_ (i := 15) (N := none) #[true, true, true, true, true, true, true, true, true, true, true, true, true, true, true, true] rfl rfl (by kernel_rfl) (by decide) (fun K hK => ?_)
 have hx8 := HX8.out
 have hsc0 : w8.cell? ⟨g8, 0, none⟩ = some (.int .i64 0) := (bCe hx8 0).trans rfl
 have hsc1 : w8.cell? ⟨g8, 1, none⟩ = some (.bool false) := (bCe hx8 1).trans rfl
 have hsc2 : w8.cell? ⟨g8, 2, none⟩ = some (.slice none 0 0) := (bCe hx8 2).trans rfl
 have hsf0 : w8.frozen? ⟨g8, 0, none⟩ = false := bFr hx8 0
 have hsf1 : w8.frozen? ⟨g8, 1, none⟩ = false := bFr hx8 1
 have hsf2 : w8.frozen? ⟨g8, 2, none⟩ = false := bFr hx8 2
 clear hx8
 refine skip_ (w1 := ?_) (by rfl) rfl ?_ ?_
 rotate_left
 · go_simp
   rfl
 refine hK.out _ _ ?_
 clear hK K
 refine done_ (by kernel_rfl) ?_
 have hb9 : Below w6.heap.size w6 (((w8.setCell ⟨g8, 0, none⟩ (.int .i64 a)).setCell ⟨g8, 1, none⟩ (.bool (decide (0 < n)))).setCell ⟨g8, 2, none⟩ (.slice A8 d.length c8)) := bSe (bSe (bSe HB8.out HG8.out) HG8.out) HG8.out
 have hx9 := blk_set (blk_set (blk_set HX8.out 0 (.int .i64 a)) 1 (.bool (decide (0 < n)))) 2 (.slice A8 d.length c8)
 have ho9 := Kd.R_set (Kd.R_set (Kd.R_set HO8.out HX8.out (by decide) 0 (.int .i64 a)) (blk_set HX8.out 0 _) (by decide) 1 (.bool (decide (0 < n)))) (blk_set (blk_set HX8.out 0 _) 1 _) (by decide) 2 (.slice A8 d.length c8)
 generalize (((w8.setCell ⟨g8, 0, none⟩ (.int .i64 a)).setCell ⟨g8, 1, none⟩ (.bool (decide (0 < n)))).setCell ⟨g8, 2, none⟩ (.slice A8 d.length c8)) = w9 at hb9 hx9 ho9 ⊢
 have HXI : Aside0 (w9.heap[g8]? = some (.cells #[.int .i64 a, .bool (decide (0 < n)), .slice A8 d.length c8] 38 (0, 0))) := ⟨hx9⟩
 have HOH := aMk ho9
 have HEI := aMk (HE6.out.below hb9)
 have HXT := aMk (Kd.R_tight rfl (Kd.R_take (Kd.R_below HO6.out hb9) HN.out))
 have HTI : Aside0 (Kd.C (Kd.int .u8) w9 A2 (x.take n).length (x.take n)) := ⟨Kd.C_below HT.out hb9⟩
 have hq90 : w9.cell? ⟨w.heap.size, 0, none⟩ = some (.int .i64 a) := bCe HEI.out.f 0
 have hq91 : w9.cell? ⟨w.heap.size, 1, none⟩ = some (.bool false) := bCe HEI.out.f 1
 have HNF : Aside0 (w.heap.size ≠ w.heap.size + 1) := ⟨by omega⟩
 have HNE : Aside0 (g8 ≠ w.heap.size + 1) := ⟨by have := blk_lt HE6.out.r; have := HG8.out; omega⟩
 clear hb9 hx9 ho9 HB8 HX8 HO8 HO6 HR6 HT HD hcut2
 go_wp2_with (go_at_call 44; refine (spec_l1Unmarked.calls k (fun k_ => some k_ = (Value.slice A2 n c2).ownBlock) (.slice A2 n c2) (x.take n) a y w w9 HEI.out.b HXT.out HYY.out).mono ?_; rintro e w10 ⟨vy, rfl, hqy, hby, hky⟩; have HEJ := aMk (HEI.out.kept HXT.out hby hky); have HXJ := aMk ((hky.2 _ (blk_lt HXI.out) (Kd.R_ne HXT.out HXI.out (by decide))).trans HXI.out); have HOJ := aMk (Kd.R_mono (Kd.R_step (Kd.R_bound HOH.out) (fun k hk hlt => hky.2 k hlt (fun he => by have e_ : (Value.slice A2 n c2).ownBlock = (Value.slice A2 x.length c2).ownBlock := (by cases A2 <;> rfl); have h1 := HXLT.out k (e_ ▸ he.symm); have h2 := hk.2.1; omega))) (fun _ _ => trivial)); obtain ⟨Ay, cy, hvy, hcy, hry⟩ := Kd.Q_reads hqy; subst hvy; have HCY := aMk hcy; have HRY := aMk hry; clear hqy hby hky hcy hry HEI HXI HOH hq90 hq91)
 have HEI := HEJ
 have HXI := HXJ
 have HOH := HOJ
 have HCALL : Aside0 (∀ W : World, Below w10.heap.size w10 W → Calls Try.prog 43 #[.slice Ay y.length cy, .int .i64 a] W fun e w' => ∃ v0_ : Value, e = .returned (v0_) ∧ Kd.R (Kd.int .u8) 5 w' W.heap.size (fun _ => True) v0_ t ∧ Below W.heap.size W w') := ⟨fun W hb => spec_l1Read.calls k Ay cy y a t W (Kd.C_below HRY.out hb) HCY.out HTT.out⟩
 refine start_ (n := 8) (S := fun w' => w'.cell? ⟨g8, 0, none⟩ = some (.int .i64 a) ∧ w'.cell? ⟨g8, 1, none⟩ = some (.bool (decide (0 < n))) ∧ w'.cell? ⟨g8, 2, none⟩ = some (.slice A8 d.length c8) ∧ w'.cell? ⟨w.heap.size, 0, none⟩ = some (.int .i64 a)) (ds := []) #[false, false, false, false, false, false, false, false] (by kernel_rfl) rfl rfl ⟨(bCe (blk_below HXI.out (below_drew (Below.refl _ _))) 0).trans rfl, (bCe (blk_below HXI.out (below_drew (Below.refl _ _))) 1).trans rfl, (bCe (blk_below HXI.out (below_drew (Below.refl _ _))) 2).trans rfl, (bCe (blk_below HEI.out.f (below_drew (Below.refl _ _))) 0).trans rfl⟩ (fun hHeld => ?_)
 refine pure_ (i := 1) (N := some 57) (v := ?_) (a' := ?_) #[false, true, false, false, false, false, false, false] rfl rfl (by kernel_rfl) (fun _ _ _ h => h) (Or.inl ⟨by rfl, ?_⟩) ?_ ?_
 rotate_left
 · intro w'
   go_simp
   with_reducible rfl
 rotate_left
 · simp only [Act.put, lSa, lSz, lSs, i64_w, i32_w]
   rfl
 refine pure_ (i := 2) (N := some 58) (v := ?_) (a' := ?_) #[false, true, true, false, false, false, false, false] rfl rfl (by kernel_rfl) (fun _ _ _ h => h) (Or.inl ⟨by rfl, ?_⟩) ?_ ?_
 rotate_left
 · intro w'
   go_simp
   with_reducible rfl
 rotate_left
 · simp only [Act.put, lSa, lSz, lSs, i64_w, i32_w]
   rfl
 refine take_ (i := 0) (N := some 56) (v := ?_) (a' := ?_) #[true, true, true, false, false, false, false, false] rfl rfl (by kernel_rfl) (fun _ _ _ h => h) (Or.inl ⟨by rfl, ?_⟩) hHeld ?_ ?_
 rotate_left
 · rintro w' ⟨s0, s1, s2, s3⟩
   go_simp
   with_reducible rfl
 rotate_left
 · simp only [Act.put, lSa, lSz, lSs, i64_w, i32_w]
   rfl
 refine take_ (i := 3) (N := some 59) (v := ?_) (a' := ?_) #[true, true, true, true, false, false, false, false] rfl rfl (by kernel_rfl) (fun _ _ _ h => h) (Or.inl ⟨by rfl, ?_⟩) hHeld ?_ ?_
 rotate_left
 · rintro w' ⟨s0, s1, s2, s3⟩
   go_simp
   with_reducible rfl
 rotate_left
 · simp only [Act.put, lSa, lSz, lSs, i64_w, i32_w]
   rfl
 refine one_ (i := 4) (N := some 60) #[true, true, true, true, true, false, false, false] rfl rfl (by kernel_rfl) (by decide) (fun K hK => ?_)
 refine goes_ Try.func43 (by kernel_rfl) rfl #[.slice Ay y.length cy, .int .i64 a] (by rfl) rfl rfl (by simp only [List.map_toArray, List.map_cons, List.map_nil]; rfl) ?_
 with_reducible refine (HCALL.out _ (below_drew (Below.refl _ _))).mono ?_
 rintro e wt ⟨vt, rfl, hrt, hb⟩
 refine ⟨_, rfl, ?_⟩
 have HB10 := aMk (below_then (below_drew (Below.refl w10.heap.size w10)) (Nat.le_refl _) hb)
 have HT10 := aMk hrt
 have HR10 := aMk (blk_below HEI.out.r HB10.out)
 clear hb hrt
 refine hK.out _ _ ⟨(bCe (blk_below HXI.out HB10.out) 0).trans rfl, (bCe (blk_below HXI.out HB10.out) 1).trans rfl, (bCe (blk_below HXI.out HB10.out) 2).trans rfl, (bCe (blk_below HEI.out.f HB10.out) 0).trans rfl⟩ (fun hHeld => ?_)
 clear hK K
 refine norm_ (a' := ?_) ?_ ?_
 rotate_left
 · show Act.put _ (some 60) _ = _
   simp only [Act.put, lSa, lSz, lSs, i64_w, i32_w]
   rfl
 refine join_ (σ := Unit) 1 #[true, true, true, true, true, true, true, false] (fun _ => [(61, .string (strOfNums t))]) (fun _ w' => (w'.cell? ⟨g8, 0, none⟩ = some (.int .i64 a) ∧ w'.cell? ⟨g8, 1, none⟩ = some (.bool (decide (0 < n))) ∧ w'.cell? ⟨g8, 2, none⟩ = some (.slice A8 d.length c8) ∧ w'.cell? ⟨w.heap.size, 0, none⟩ = some (.int .i64 a)) ∧ w' = (((wt.setCell ⟨w.heap.size + 1, 0, none⟩ (.int .i64 a)).setCell ⟨w.heap.size + 1, 1, none⟩ (.bool (decide (0 < n)))).setCell ⟨w.heap.size + 1, 2, none⟩ (.slice A8 d.length c8))) ?_ ?_
 rotate_left
 · intro hCont
   refine two_ (i := 5) (j := 6) (Ni := some 61) (Nj := none) #[true, true, true, true, true, true, false, false] #[true, true, true, true, true, false, true, false] rfl rfl rfl rfl (by kernel_rfl) (by decide) (by decide) (fun K hK => ?_) (fun K hK => ?_)
   · skip
     refine event_step (w1 := wt) (v := .string (strOfNums t)) (by rfl) ?_ ?_
     · have hcv := own_string (P := Try.prog) Try.underlying22 Try.underlying5 Try.underlying9 (Kd.own_of_R HT10.out)
       go_simp
       try (rw [hcv]; rfl)
     refine hK.out _ _ ⟨(bCe (blk_below HXI.out HB10.out) 0).trans rfl, (bCe (blk_below HXI.out HB10.out) 1).trans rfl, (bCe (blk_below HXI.out HB10.out) 2).trans rfl, (bCe (blk_below HEI.out.f HB10.out) 0).trans rfl⟩ (fun hHeld => ?_)
     clear hK K
     refine norm_ (a' := ?_) ?_ ?_
     rotate_left
     · show Act.put _ (some 61) _ = _
       simp only [Act.put, lSa, lSz, lSs, i64_w, i32_w]
       rfl
     refine one_ (i := 6) (N := none) #[true, true, true, true, true, true, true, false] rfl rfl (by kernel_rfl) (by decide) (fun K hK => ?_)
     have hr10 := HR10.out
     have hsc0 : wt.cell? ⟨w.heap.size + 1, 0, none⟩ = some (.int .i64 0) := (bCe hr10 0).trans rfl
     have hsc1 : wt.cell? ⟨w.heap.size + 1, 1, none⟩ = some (.bool false) := (bCe hr10 1).trans rfl
     have hsc2 : wt.cell? ⟨w.heap.size + 1, 2, none⟩ = some (.slice none 0 0) := (bCe hr10 2).trans rfl
     have hsf0 : wt.frozen? ⟨w.heap.size + 1, 0, none⟩ = false := bFr hr10 0
     have hsf1 : wt.frozen? ⟨w.heap.size + 1, 1, none⟩ = false := bFr hr10 1
     have hsf2 : wt.frozen? ⟨w.heap.size + 1, 2, none⟩ = false := bFr hr10 2
     clear hr10
     refine skip_ (w1 := ?_) (by rfl) rfl ?_ ?_
     rotate_left
     · go_simp
       rfl
     refine hK.out _ _ ⟨(bCe (blk_far (blk_far (blk_far (blk_below HXI.out HB10.out) HNE.out _) HNE.out _) HNE.out _) 0).trans rfl, (bCe (blk_far (blk_far (blk_far (blk_below HXI.out HB10.out) HNE.out _) HNE.out _) HNE.out _) 1).trans rfl, (bCe (blk_far (blk_far (blk_far (blk_below HXI.out HB10.out) HNE.out _) HNE.out _) HNE.out _) 2).trans rfl, (bCe (blk_far (blk_far (blk_far (blk_below HEI.out.f HB10.out) HNF.out _) HNF.out _) HNF.out _) 0).trans rfl⟩ (fun hHeld => ?_)
     clear hK K
     exact norm_ (by simp only [putAll, Act.put, lSa, lSz, lSs]) (hCont () _ ⟨⟨(bCe (blk_far (blk_far (blk_far (blk_below HXI.out HB10.out) HNE.out _) HNE.out _) HNE.out _) 0).trans rfl, (bCe (blk_far (blk_far (blk_far (blk_below HXI.out HB10.out) HNE.out _) HNE.out _) HNE.out _) 1).trans rfl, (bCe (blk_far (blk_far (blk_far (blk_below HXI.out HB10.out) HNE.out _) HNE.out _) HNE.out _) 2).trans rfl, (bCe (blk_far (blk_far (blk_far (blk_below HEI.out.f HB10.out) HNF.out _) HNF.out _) HNF.out _) 0).trans rfl⟩, rfl⟩)
   · skip
     have hr10 := HR10.out
     have hsc0 : wt.cell? ⟨w.heap.size + 1, 0, none⟩ = some (.int .i64 0) := (bCe hr10 0).trans rfl
     have hsc1 : wt.cell? ⟨w.heap.size + 1, 1, none⟩ = some (.bool false) := (bCe hr10 1).trans rfl
     have hsc2 : wt.cell? ⟨w.heap.size + 1, 2, none⟩ = some (.slice none 0 0) := (bCe hr10 2).trans rfl
     have hsf0 : wt.frozen? ⟨w.heap.size + 1, 0, none⟩ = false := bFr hr10 0
     have hsf1 : wt.frozen? ⟨w.heap.size + 1, 1, none⟩ = false := bFr hr10 1
     have hsf2 : wt.frozen? ⟨w.heap.size + 1, 2, none⟩ = false := bFr hr10 2
     clear hr10
     refine skip_ (w1 := ?_) (by rfl) rfl ?_ ?_
     rotate_left
     · go_simp
       rfl
     refine hK.out _ _ ⟨(bCe (blk_far (blk_far (blk_far (blk_below HXI.out HB10.out) HNE.out _) HNE.out _) HNE.out _) 0).trans rfl, (bCe (blk_far (blk_far (blk_far (blk_below HXI.out HB10.out) HNE.out _) HNE.out _) HNE.out _) 1).trans rfl, (bCe (blk_far (blk_far (blk_far (blk_below HXI.out HB10.out) HNE.out _) HNE.out _) HNE.out _) 2).trans rfl, (bCe (blk_far (blk_far (blk_far (blk_below HEI.out.f HB10.out) HNF.out _) HNF.out _) HNF.out _) 0).trans rfl⟩ (fun hHeld => ?_)
     clear hK K
     refine one_ (i := 5) (N := some 61) #[true, true, true, true, true, true, true, false] rfl rfl (by kernel_rfl) (by decide) (fun K hK => ?_)
     refine event_step (w1 := (((wt.setCell ⟨w.heap.size + 1, 0, none⟩ (.int .i64 a)).setCell ⟨w.heap.size + 1, 1, none⟩ (.bool (decide (0 < n)))).setCell ⟨w.heap.size + 1, 2, none⟩ (.slice A8 d.length c8))) (v := .string (strOfNums t)) (by rfl) ?_ ?_
     · have hcv := own_string (P := Try.prog) Try.underlying22 Try.underlying5 Try.underlying9 (Kd.own_of_R (Kd.R_set (Kd.R_set (Kd.R_set HT10.out HR10.out (by decide) 0 (.int .i64 a)) (blk_set HR10.out 0 _) (by decide) 1 (.bool (decide (0 < n)))) (blk_set (blk_set HR10.out 0 _) 1 _) (by decide) 2 (.slice A8 d.length c8)))
       go_simp
       try (rw [hcv]; rfl)
     refine hK.out _ _ ⟨(bCe (blk_far (blk_far (blk_far (blk_below HXI.out HB10.out) HNE.out _) HNE.out _) HNE.out _) 0).trans rfl, (bCe (blk_far (blk_far (blk_far (blk_below HXI.out HB10.out) HNE.out _) HNE.out _) HNE.out _) 1).trans rfl, (bCe (blk_far (blk_far (blk_far (blk_below HXI.out HB10.out) HNE.out _) HNE.out _) HNE.out _) 2).trans rfl, (bCe (blk_far (blk_far (blk_far (blk_below HEI.out.f HB10.out) HNF.out _) HNF.out _) HNF.out _) 0).trans rfl⟩ (fun hHeld => ?_)
     clear hK K
     refine norm_ (a' := ?_) ?_ ?_
     rotate_left
     · show Act.put _ (some 61) _ = _
       simp only [Act.put, lSa, lSz, lSs, i64_w, i32_w]
       rfl
     exact norm_ (by simp only [putAll, Act.put, lSa, lSz, lSs]) (hCont () _ ⟨⟨(bCe (blk_far (blk_far (blk_far (blk_below HXI.out HB10.out) HNE.out _) HNE.out _) HNE.out _) 0).trans rfl, (bCe (blk_far (blk_far (blk_far (blk_below HXI.out HB10.out) HNE.out _) HNE.out _) HNE.out _) 1).trans rfl, (bCe (blk_far (blk_far (blk_far (blk_below HXI.out HB10.out) HNE.out _) HNE.out _) HNE.out _) 2).trans rfl, (bCe (blk_far (blk_far (blk_far (blk_below HEI.out.f HB10.out) HNF.out _) HNF.out _) HNF.out _) 0).trans rfl⟩, rfl⟩)
 rintro _ w11 ⟨hs, hw11⟩
 have hHeld : (fun w' => w'.cell? ⟨g8, 0, none⟩ = some (.int .i64 a) ∧ w'.cell? ⟨g8, 1, none⟩ = some (.bool (decide (0 < n))) ∧ w'.cell? ⟨g8, 2, none⟩ = some (.slice A8 d.length c8) ∧ w'.cell? ⟨w.heap.size, 0, none⟩ = some (.int .i64 a)) w11 := hs
 subst hw11
 clear hs
 refine norm_ (a' := ?_) ?_ ?_
 rotate_left
 · simp only [putAll, Act.put, lSa, lSz, lSs]
   rfl
 refine pure_ (i := 7) (N := some 5) (v := ?_) (a' := ?_) #[true, true, true, true, true, true, true, true] rfl rfl (by kernel_rfl) (fun _ _ _ h => h) (Or.inl ⟨by rfl, ?_⟩) ?_ ?_
 rotate_left
 · intro w'
   go_simp
   with_reducible rfl
 rotate_left
 · simp only [Act.put, lSa, lSz, lSs, i64_w, i32_w]
   rfl
 refine done_ (by kernel_rfl) ?_
 go_wp2
 have hgb := blk_set (blk_set (blk_set HR10.out 0 (.int .i64 a)) 1 (.bool (decide (0 < n)))) 2 (.slice A8 d.length c8)
 refine bodyPost_ret (results_list (rs := [.cell 4 38, .tmp 5]) rfl (by simp) (.cell (w.heap.size + 1) 38 _ (0, 0) _ rfl hgb Try.underlying38 rfl (by kernel_rfl) (.tmp .nil))) rfl ?_
 refine ⟨.slice A8 d.length c8, rfl, ?_, bSe (bSe (bSe (below_step HEI.out.b HB10.out) HEI.out.ge) HEI.out.ge) HEI.out.ge⟩
 rw [← HDQ.out]
 exact Kd.R_lower (Kd.R_set (Kd.R_set (Kd.R_set (Kd.R_below HOH.out HB10.out) HR10.out (by decide) 0 _) (blk_set HR10.out 0 _) (by decide) 1 _) (blk_set (blk_set HR10.out 0 _) 1 _) (by decide) 2 _) HE6.out.b.size
set_option maxHeartbeats 8000000 in
set_option maxRecDepth 100000 in
theorem smore_none (a : Int) (b : Bool) (A : Option Addr) (c : Nat) (l : List Int) (A1 : Option Addr) (c1 : Nat) (l1 : List Int) (w : World) (hr : Kd.C (Kd.int .u8) w A l.length l) (hc : l.length ≤ c) (hok : spec_l1FeedOk.f a b l = some false) :
 Calls Try.prog 26 #[.agg #[.int .i64 a, .bool b, .slice A l.length c], .slice A1 l1.length c1] w fun en w' => ∃ v, en = .returned (.tuple #[.agg #[.int .i64 0, .bool false, v], .string ⟨#[]⟩]) ∧ Kd.R (Kd.int .u8) 5 w' w.heap.size (fun _ => True) v [] ∧ Below w.heap.size w w' := by
 have hu38 := Try.underlying38
 have HB := aMk (bAl (bAl (Below.refl w.heap.size w) (.cells #[.int .i64 a, .bool b, .slice A l.length c] 38)) (.cells #[.int .i64 0, .bool false, .slice none 0 0] 38))
 have HR := aMk hr
 have HC := aMk hc
 have HOK := aMk hok
 clear hr hc hok
 go_enter Try.func26, Try.ntmps26
 go_wp2_with (go_at_call 46; refine (spec_l1FeedOk.calls a b A c l _ _ (Kd.C_below HR.out HB.out) HC.out HOK.out).mono ?_; rintro e w1 ⟨rfl, hb⟩; have hg4 := blk_below (by rw [show w.heap.size + 1 = (w.alloc (.cells #[.int .i64 a, .bool b, .slice A l.length c] 38)).heap.size by simp]; exact blk_new _ _ : ((w.alloc (.cells #[.int .i64 a, .bool b, .slice A l.length c] 38)).alloc (.cells #[.int .i64 0, .bool false, .slice none 0 0] 38)).heap[w.heap.size + 1]? = some (.cells #[.int .i64 0, .bool false, .slice none 0 0] 38 (0, 0))) hb; have hsc0 : w1.cell? ⟨w.heap.size + 1, 0, none⟩ = some (.int .i64 0) := (bCe hg4 0).trans rfl; have hsc1 : w1.cell? ⟨w.heap.size + 1, 1, none⟩ = some (.bool false) := (bCe hg4 1).trans rfl; have hsc2 : w1.cell? ⟨w.heap.size + 1, 2, none⟩ = some (.slice none 0 0) := (bCe hg4 2).trans rfl; have hsf0 : w1.frozen? ⟨w.heap.size + 1, 0, none⟩ = false := bFr hg4 0; have hsf1 : w1.frozen? ⟨w.heap.size + 1, 1, none⟩ = false := bFr hg4 1; have hsf2 : w1.frozen? ⟨w.heap.size + 1, 2, none⟩ = false := bFr hg4 2; have HG4 := aMk hg4; have HB1 := aMk (below_step HB.out hb); clear hb HB hg4)
 have hgb := blk_set (blk_set (blk_set HG4.out 0 (.int .i64 0)) 1 (.bool false)) 2 (.slice none 0 0)
 refine bodyPost_ret (results_list (rs := [.cell 4 38, .tmp 5]) rfl (by simp) (.cell (w.heap.size + 1) 38 _ (0, 0) _ rfl hgb Try.underlying38 rfl (by kernel_rfl) (.tmp .nil))) rfl ?_
 exact ⟨.slice none 0 0, rfl, Kd.R_nil _ _ _ _ _, bSe (bSe (bSe HB1.out (by omega)) (by omega)) (by omega)⟩
set_option maxHeartbeats 8000000 in
set_option maxRecDepth 100000 in
theorem smore_long (a : Int) (b : Bool) (A : Option Addr) (c : Nat) (l : List Int) (A1 : Option Addr) (c1 : Nat) (l1 : List Int) (w : World) (hr : Kd.C (Kd.int .u8) w A l.length l) (hc : l.length ≤ c) (hok : spec_l1FeedOk.f a b l = some true) (hl1 : ¬ l1.length ≤ 60000) :
 Calls Try.prog 26 #[.agg #[.int .i64 a, .bool b, .slice A l.length c], .slice A1 l1.length c1] w fun en w' => ∃ v, en = .returned (.tuple #[.agg #[.int .i64 0, .bool false, v], .string ⟨#[]⟩]) ∧ Kd.R (Kd.int .u8) 5 w' w.heap.size (fun _ => True) v [] ∧ Below w.heap.size w w' := by
 have hu38 := Try.underlying38
 have HB := aMk (bAl (bAl (Below.refl w.heap.size w) (.cells #[.int .i64 a, .bool b, .slice A l.length c] 38)) (.cells #[.int .i64 0, .bool false, .slice none 0 0] 38))
 have HR := aMk hr
 have HC := aMk hc
 have HOK := aMk hok
 have ld1 : decide (60000 < (l1.length : Int)) = true := decide_eq_true (by omega)
 have ld2 : decide (60000 < l1.length) = true := decide_eq_true (by omega)
 clear hl1
 clear hr hc hok
 go_enter Try.func26, Try.ntmps26
 go_wp2_with (go_at_call 46; refine (spec_l1FeedOk.calls a b A c l _ _ (Kd.C_below HR.out HB.out) HC.out HOK.out).mono ?_; rintro e w1 ⟨rfl, hb⟩; have hg4 := blk_below (by rw [show w.heap.size + 1 = (w.alloc (.cells #[.int .i64 a, .bool b, .slice A l.length c] 38)).heap.size by simp]; exact blk_new _ _ : ((w.alloc (.cells #[.int .i64 a, .bool b, .slice A l.length c] 38)).alloc (.cells #[.int .i64 0, .bool false, .slice none 0 0] 38)).heap[w.heap.size + 1]? = some (.cells #[.int .i64 0, .bool false, .slice none 0 0] 38 (0, 0))) hb; have hsc0 : w1.cell? ⟨w.heap.size + 1, 0, none⟩ = some (.int .i64 0) := (bCe hg4 0).trans rfl; have hsc1 : w1.cell? ⟨w.heap.size + 1, 1, none⟩ = some (.bool false) := (bCe hg4 1).trans rfl; have hsc2 : w1.cell? ⟨w.heap.size + 1, 2, none⟩ = some (.slice none 0 0) := (bCe hg4 2).trans rfl; have hsf0 : w1.frozen? ⟨w.heap.size + 1, 0, none⟩ = false := bFr hg4 0; have hsf1 : w1.frozen? ⟨w.heap.size + 1, 1, none⟩ = false := bFr hg4 1; have hsf2 : w1.frozen? ⟨w.heap.size + 1, 2, none⟩ = false := bFr hg4 2; have HG4 := aMk hg4; have HB1 := aMk (below_step HB.out hb); clear hb HB hg4)
 have hgb := blk_set (blk_set (blk_set HG4.out 0 (.int .i64 0)) 1 (.bool false)) 2 (.slice none 0 0)
 refine bodyPost_ret (results_list (rs := [.cell 4 38, .tmp 5]) rfl (by simp) (.cell (w.heap.size + 1) 38 _ (0, 0) _ rfl hgb Try.underlying38 rfl (by kernel_rfl) (.tmp .nil))) rfl ?_
 exact ⟨.slice none 0 0, rfl, Kd.R_nil _ _ _ _ _, bSe (bSe (bSe HB1.out (by omega)) (by omega)) (by omega)⟩
def sReadF (k : Nat) (a : Int) (b : Bool) (x : List Int) : Option (List Int) := if b = true then spec_l1Read.f k x a else (spec_l1Unmarked.f k x a).bind fun y => spec_l1Read.f k y a
def spec_FeedMore.f (k : Nat) (a0_0 : Int) (a0_1 : Bool) (l0_2 l1 : List Int) : Option (Int × Bool × List Int × ByteArray) :=
 if l0_2.length ≤ 1048576 then
  (spec_l1FeedOk.f a0_0 a0_1 l0_2).bind fun ok => if ok = true then (if l1.length ≤ 60000 then
   (spec_l1Kept.f k (l0_2 ++ l1) a0_0).bind fun q =>
    if 0 ≤ wrap64 (((l0_2 ++ l1).length : Int) - q) then (if (wrap64 (((l0_2 ++ l1).length : Int) - q)).toNat ≤ (l0_2 ++ l1).length then
     (sReadF k a0_0 a0_1 ((l0_2 ++ l1).take (wrap64 (((l0_2 ++ l1).length : Int) - q)).toNat)).bind fun t =>
      some (a0_0, a0_1 || decide (0 < (wrap64 (((l0_2 ++ l1).length : Int) - q)).toNat), (l0_2 ++ l1).drop (wrap64 (((l0_2 ++ l1).length : Int) - q)).toNat, strOfNums t)
    else none) else none
   else some moreZ) else some moreZ
 else none
theorem spec_FeedMore.calls (k : Nat) (a0_0 : Int) (a0_1 : Bool) (A0_2 : Option Addr) (c0_2 : Nat) (l0_2 : List Int) (A1 : Option Addr) (c1 : Nat) (l1 : List Int) (r1 : Int) (r2 : Bool) (r3 : List Int) (r4 : ByteArray) (w : World) (hr0_2 : Kd.C (Kd.int .u8) w A0_2 l0_2.length l0_2) (hc0_2 : l0_2.length ≤ c0_2) (hr1 : Kd.C (Kd.int .u8) w A1 l1.length l1) (hc1 : l1.length ≤ c1) (h : spec_FeedMore.f k a0_0 a0_1 l0_2 l1 = some (r1, r2, r3, r4)) :
 Calls Try.prog 26 #[.agg #[.int .i64 a0_0, .bool a0_1, .slice A0_2 l0_2.length c0_2], .slice A1 l1.length c1] w fun e w' => ∃ v2_ : Value, e = .returned (.tuple #[.agg #[.int .i64 r1, .bool r2, v2_], .string r4]) ∧ Kd.R (Kd.int .u8) 5 w' w.heap.size (fun _ => True) v2_ r3 ∧ Below w.heap.size w w' := by
 unfold spec_FeedMore.f at h
 by_cases hl : l0_2.length ≤ 1048576
 · rw [if_pos hl] at h
   obtain ⟨ok, hok, h⟩ := Option.bind_eq_some_iff.1 h
   cases ok with
   | false =>
    rw [if_neg (by decide)] at h
    have h' := Option.some.inj h
    simp only [moreZ, Prod.mk.injEq] at h'
    obtain ⟨e1, e2, e3, e4⟩ := h'
    exact (smore_none a0_0 a0_1 A0_2 c0_2 l0_2 A1 c1 l1 w hr0_2 hc0_2 hok).mono fun en w' z => more_post r1 r2 r3 r4 z e1 e2 e3 e4
   | true =>
    rw [if_pos rfl] at h
    by_cases hl1 : l1.length ≤ 60000
    · rw [if_pos hl1] at h
      obtain ⟨q, hq, h⟩ := Option.bind_eq_some_iff.1 h
      obtain ⟨x, hx⟩ : ∃ x, x = l0_2 ++ l1 := ⟨_, rfl⟩
      rw [← hx] at hq h
      by_cases h0 : 0 ≤ wrap64 ((x.length : Int) - q)
      · rw [if_pos h0] at h
        obtain ⟨n, hn⟩ : ∃ n, n = (wrap64 ((x.length : Int) - q)).toNat := ⟨_, rfl⟩
        rw [← hn] at h
        by_cases hnx : n ≤ x.length
        · rw [if_pos hnx] at h
          obtain ⟨t, ht, h⟩ := Option.bind_eq_some_iff.1 h
          have h' := Option.some.inj h
          simp only [Prod.mk.injEq] at h'
          obtain ⟨e1, e2, e3, e4⟩ := h'
          unfold sReadF at ht
          cases a0_1 with
          | true =>
           rw [if_pos rfl] at ht
           exact (smore_calls_t k a0_0 A0_2 c0_2 l0_2 A1 c1 l1 x q n t w hx hr0_2 hc0_2 hr1 hc1 hl hl1 hok hq (by omega) hnx ht).mono fun en w' z => more_post r1 r2 r3 r4 z e1 e2 e3 e4
          | false =>
           rw [if_neg (by decide)] at ht
           obtain ⟨y, hy, ht⟩ := Option.bind_eq_some_iff.1 ht
           exact (smore_calls_f k a0_0 A0_2 c0_2 l0_2 A1 c1 l1 x q n y t w hx hr0_2 hc0_2 hr1 hc1 hl hl1 hok hq (by omega) hnx hy ht).mono fun en w' z => more_post r1 r2 r3 r4 z e1 e2 e3 e4
        · rw [if_neg hnx] at h; cases h
      · rw [if_neg h0] at h; cases h
    · rw [if_neg hl1] at h
      have h' := Option.some.inj h
      simp only [moreZ, Prod.mk.injEq] at h'
      obtain ⟨e1, e2, e3, e4⟩ := h'
      exact (smore_long a0_0 a0_1 A0_2 c0_2 l0_2 A1 c1 l1 w hr0_2 hc0_2 hok hl1).mono fun en w' z => more_post r1 r2 r3 r4 z e1 e2 e3 e4
 · rw [if_neg hl] at h; cases h
end Go.Proofs.Ytmffcjjodkggcaa.MFnExactFeedMore
