-- Written by this session's own program (wip/gen/myprint.py).
import Derived.Test.YtmffcjjodkggcaaMFnExactFeedMorex0
import Derived.Test.YtmffcjjodkggcaaMFnExactFeedMorex2
import Derived.Test.YtmffcjjodkggcaaMFnExactFeedMorex3
import Derived.Test.YtmffcjjodkggcaaMFnExactFeedMorex4
namespace Go.Proofs.Ytmffcjjodkggcaa.MFnExactFeedMore
open Go.RowKit Go.Proofs.YtmffcjjodkggcaaW.PrintWords Go.Proofs.YtmffcjjodkggcaaW.PrintLast Go.Proofs.YtmffcjjodkggcaaW.PrintMore
attribute [local go_sem] max2_int min2_int max_two min_two max_three min_three max_four min_four   -- for this text's walks alone
set_option linter.unusedVariables false
set_option linter.unusedSimpArgs false
-- INFO 5
def keepU : Nat → List Int → Nat
 | _, [] => 0
 | 0, _ :: _ => 0
 | k + 1, b :: r => if (stretchF (b :: r)).2.2 = true then (stretchF (b :: r)).1 else keepU k ((b :: r).drop (stretchF (b :: r)).1)
theorem keepU_nil (k : Nat) : keepU k [] = 0 := by cases k <;> rfl
theorem keepU_cons (k : Nat) (l : List Int) (h : l ≠ []) : keepU (k + 1) l = if (stretchF l).2.2 = true then (stretchF l).1 else keepU k (l.drop (stretchF l).1) := by
 cases l with
 | nil => exact absurd rfl h
 | cons b r => rfl
theorem keepU_le (k : Nat) : ∀ l : List Int, keepU k l ≤ l.length := by
 induction k with
 | zero => intro l; cases l <;> simp [keepU]
 | succ k ih =>
  intro l
  by_cases e : l = []
  · subst e; simp [keepU]
  · rw [keepU_cons k l e]
    have h := stretch_bd l e
    split
    · exact h.2.1
    · have := ih (l.drop (stretchF l).1)
      rw [List.length_drop] at this
      omega
set_option maxHeartbeats 8000000 in
set_option maxRecDepth 100000 in
theorem keep_calls0 (A0 : Option Addr) (c0 : Nat) (l0 : List Int) (w : World) (hr0 : Kd.C (Kd.int .u8) w A0 l0.length l0) (hc0 : l0.length ≤ c0) (hl : l0.length ≤ 1099511627776) :
 Calls Try.prog 92 #[.agg #[], .slice A0 l0.length c0] w fun e w' => e = .returned (.int .i64 (keepU l0.length l0)) ∧ Below w.heap.size w w' := by
 have hu29 := Try.underlying22
 have hu118 := Try.underlying54
 have HR0 := aMk hr0
 have HC0 := aMk hc0
 have HL := aMk hl
 clear hr0 hc0 hl
 have HB := aMk (Below.refl w.heap.size w)
 go_enter Try.func92, Try.ntmps92
 go_wp2
 have HB1 := aMk (bAl HB.out (.cells #[] 54))
 generalize (w.alloc (.cells #[] 54)) = w1 at HB1 ⊢
 clear HB
 go_loopg [1] l0.length (fun kq v1 w' => ∃ (A : Option Addr) (c : Nat) (b : List Int), v1 = .slice A b.length c ∧ Aside0 (Kd.C (Kd.int .u8) w A b.length b) ∧ Aside0 (b.length ≤ c) ∧ Aside0 (b.length ≤ kq) ∧ Aside0 (b.length ≤ 1099511627776) ∧ Aside0 (keepU kq b = keepU l0.length l0) ∧ Aside0 (Below w.heap.size w w'))
 case atStart => exact ⟨A0, c0, l0, rfl, HR0, HC0, ⟨Nat.le_refl _⟩, HL, ⟨rfl⟩, HB1⟩
 case round =>
  clear HR0 HC0 HL HB1
  obtain ⟨A, c, b, rfl, HR, HC, HK, HS, HE, HB⟩ := hrel
  by_cases e : b = []
  · subst e
    have HE2 : Aside0 (0 = keepU l0.length l0) := ⟨by have := HE.out; rwa [keepU_nil] at this⟩
    clear HE
    go_wp2
    go_ret
    exact ⟨by rw [← HE2.out]; rfl, HB.out⟩
  · have hpos : 0 < b.length := List.length_pos_iff.mpr e
    have hk : gk ≠ 0 := by have := HK.out; omega
    obtain ⟨k1, rfl⟩ := Nat.exists_eq_succ_of_ne_zero hk
    clear hk
    have c1 : decide ((b.length : Int) > 0) = true := decide_eq_true (by omega)
    have c1n : decide (0 < b.length) = true := decide_eq_true hpos
    have c1m : decide ((0 : Int) < (b.length : Int)) = true := decide_eq_true (by omega)
    have hsb := stretch_bd b e
    have HS1 := aMk (stretch_impl b e (by have := HS.out; omega))
    have HE1 := HE.out
    rw [keepU_cons k1 b e] at HE1
    clear HE e
    obtain ⟨n, hn⟩ : ∃ n, n = (stretchF b).1 := ⟨_, rfl⟩
    obtain ⟨wh, hwh⟩ : ∃ wh, wh = (stretchF b).2.1 := ⟨_, rfl⟩
    obtain ⟨op, hop⟩ : ∃ op, op = (stretchF b).2.2 := ⟨_, rfl⟩
    rw [← hn, ← hop] at HE1
    rw [← hn, ← hwh, ← hop] at HS1
    rw [← hn] at hsb
    clear hn hwh hop
    have HSB := aMk hsb
    have HRW := aMk (Kd.C_below HR.out HB.out)
    have hnb : (n : Int) ≤ (b.length : Int) := by omega
    have hnc : b.length ≤ c := HC.out
    obtain ⟨i0, hi0, _, hz1, _⟩ := info_parts infoB
    have hcut2 := cut_from (P := Try.prog) 22 5 .i64 Try.underlying22 hi0 1 hz1 A b.length c (n : Int) (by omega) hnb
    rw [Int.toNat_natCast] at hcut2
    have HR2 := Kd.C_drop (k := Kd.int .u8) (m := n) (c := c) HR.out hsb.2.1 hnc
    have hsz1 : (Kd.int .u8).sz = 1 := rfl
    rw [hsz1] at HR2
    obtain ⟨A', hA'⟩ : ∃ A', A' = (if c = n then A else A.map (·.add (n * 1))) := ⟨_, rfl⟩
    rw [← hA'] at hcut2 HR2
    have hld : (b.drop n).length = b.length - n := List.length_drop
    rw [← hld] at hcut2
    replace HR2 := aMk HR2
    have HLD := aMk hld
    have HCC : Aside0 ((b.drop n).length ≤ c - n) := ⟨by rw [hld]; omega⟩
    have HKK : Aside0 ((b.drop n).length ≤ k1) := ⟨by rw [hld]; have := HK.out; omega⟩
    have HS2 : Aside0 ((b.drop n).length ≤ 1099511627776) := ⟨by rw [hld]; have := HS.out; omega⟩
    obtain ⟨d, hd⟩ : ∃ d, d = b.drop n := ⟨_, rfl⟩
    rw [← hd] at hcut2 HR2 HLD HCC HKK HS2 HE1
    clear hA' hld hsb hnb hnc hd hi0 hz1 hsz1 hpos
    cases op with
    | true =>
     rw [if_pos rfl] at HE1
     have HE2 := aMk HE1
     clear HE1
     go_wp2_with (go_at_call 56; refine (impl_stretch.calls 7 A c b (n : Int) wh true wr HRW.out HC.out HS1.out).mono ?_; rintro e w' ⟨rfl, ⟨nd, rfl⟩⟩)
     go_ret
     exact ⟨by rw [← HE2.out]; rfl, bDn HB.out nd⟩
    | false =>
     rw [if_neg (by simp)] at HE1
     have HE2 := aMk HE1
     clear HE1
     go_wp2_with (go_at_call 56; refine (impl_stretch.calls 7 A c b (n : Int) wh false wr HRW.out HC.out HS1.out).mono ?_; rintro e w' ⟨rfl, ⟨nd, rfl⟩⟩)
     go_roundg k1
     case measure => omega
     case rel => exact ⟨A', c - n, d, rfl, HR2, HCC, HKK, HS2, HE2, ⟨bDn HB.out nd⟩⟩
set_option maxHeartbeats 8000000 in
set_option maxRecDepth 100000 in
theorem keep_calls3 (v : Value) (w : World) :
 Calls Try.prog 101 #[.agg #[], v] w fun e w' => e = .returned (.int .i64 0) ∧ Below w.heap.size w w' := by
 have hu87 := Try.underlying87
 have HB := aMk (Below.refl w.heap.size w)
 go_enter Try.func101, Try.ntmps101
 go_wp2
 go_ret
 exact ⟨rfl, bAl HB.out _⟩
structure MEnv (w W : World) (e : Nat) (a : Int) (b : Bool) (A : Option Addr) (n c g2 g4 gF gC : Nat) : Prop where
 f : W.heap[g2]? = some (.cells (feedCells a b A n c) 38 (0, 0))
 r : W.heap[g4]? = some (.cells (feedCells 0 false none 0 0) 38 (0, 0))
 cf : W.heap[gF]? = some (.cells (feedCells a b A n c) 38 (0, 0))
 cc : W.heap[gC]? = some (.cells #[codV e] 58 (0, 0))
 b : Below w.heap.size w W
 ge : w.heap.size ≤ g4
theorem MEnv.below {w W W' : World} {e : Nat} {a : Int} {b : Bool} {A : Option Addr} {n c g2 g4 gF gC : Nat} (h : MEnv w W e a b A n c g2 g4 gF gC) (k : Below W.heap.size W W') : MEnv w W' e a b A n c g2 g4 gF gC :=
 ⟨blk_below h.f k, blk_below h.r k, blk_below h.cf k, blk_below h.cc k, below_step h.b k, h.ge⟩
theorem MEnv.grown {w W W' : World} {e : Nat} {a : Int} {b : Bool} {A : Option Addr} {n c g2 g4 gF gC : Nat} (h : MEnv w W e a b A n c g2 g4 gF gC) {base : Nat} {ok : Nat → Prop} {v : Value} {xs : List Int} (ho : Kd.R (Kd.int .u8) 5 W base ok v xs) (hb : Below w.heap.size w W') (k : W.grownBy W' v.ownBlock) : MEnv w W' e a b A n c g2 g4 gF gC :=
 ⟨blk_grown h.f k (Kd.R_ne ho h.f (by decide)), blk_grown h.r k (Kd.R_ne ho h.r (by decide)), blk_grown h.cf k (Kd.R_ne ho h.cf (by decide)), blk_grown h.cc k (Kd.R_ne ho h.cc (by decide)), hb, h.ge⟩
theorem MEnv.fresh {w W W' : World} {e : Nat} {a : Int} {b : Bool} {A : Option Addr} {n c g2 g4 gF gC : Nat} (h : MEnv w W e a b A n c g2 g4 gF gC) (hb : Below w.heap.size w W') (k : W.grownBy W' none) : MEnv w W' e a b A n c g2 g4 gF gC :=
 ⟨blk_grown h.f k (by simp), blk_grown h.r k (by simp), blk_grown h.cf k (by simp), blk_grown h.cc k (by simp), hb, h.ge⟩
theorem goesV_ {P : Program} {ops : Array Oper} {Q : Exit → Act → World → Prop} {oi : Oper} {N : Option Tmp} {a : Act} {w : World} {K : Act → World → Prop} {f : FuncId} {fn : Func} {as_ : Array Operand} {ts : Array TypeId} {t : Operand} {cap : Array Value} (hf : P.funcs[f]? = some fn) (hname : (fn.name == "runtime.NumGoroutine") = false) (hb : fn.body.isSome = true) (args : Array Value)
 (hw : Region.wanted oi (yielded ops a.tmps) = true) (hN : oi.dst = N) (hop : oi.op = .call { callee := .value t, args := as_, argTypes := ts }) (ht : a.eval t = .func (.func f) #[] cap) (hargs : as_.map a.eval ++ cap = args)
 (h : Calls P f args w fun e w' => ∃ v, e = .returned v ∧ K (a.put N v) w') : if Region.wanted oi (yielded ops a.tmps) = true then Oper.wp P oi a w K Q else K (a.put N undef) w := by
 refine call_ f args hw hN ?_ h
 have he := enters_ hf hname hb args w
 unfold execOp
 simp [hop, resolve, Deferred.ofValue, invoke, ht, hargs, he]
set_option maxHeartbeats 8000000 in
set_option maxRecDepth 100000 in
theorem more_calls0b (A : Option Addr) (c : Nat) (l : List Int) (A1 : Option Addr) (c1 : Nat) (l1 x : List Int) (q n : Nat) (r : ByteArray) (w : World) (hx : x = l ++ l1) (hr : Kd.C (Kd.int .u8) w A l.length l) (hc : l.length ≤ c) (hr1 : Kd.C (Kd.int .u8) w A1 l1.length l1) (hc1 : l1.length ≤ c1) (hl : l.length ≤ 3) (hl1 : l1.length ≤ 60000) (hn : n + q = x.length)
 (hkeep : ∀ (A2 : Option Addr) (c2 : Nat) (w2 : World), Kd.C (Kd.int .u8) w2 A2 x.length x → x.length ≤ c2 → Calls Try.prog 92 #[.agg #[], .slice A2 x.length c2] w2 fun e w' => e = .returned (.int .i64 (q : Int)) ∧ Below w2.heap.size w2 w')
 (hclo : ∀ (gF gC : Nat) (A2 : Option Addr) (c2 : Nat) (w2 : World), w2.cell? ⟨gF, 1, none⟩ = some (.bool true) → w2.cell? ⟨gC, 0, none⟩ = some (codV 0) → Kd.C (Kd.int .u8) w2 A2 n (x.take n) → n ≤ c2 → Calls Try.prog 66 #[.slice A2 n c2, .pointer (some ⟨gF, 0, none⟩), .pointer (some ⟨gC, 0, none⟩)] w2 fun e w' => e = .returned (.string r) ∧ Below w2.heap.size w2 w') :
 Calls Try.prog 27 #[.agg #[.int .i64 0, .bool true, .slice A l.length c], .slice A1 l1.length c1] w fun en w' => ∃ v, en = .returned (.tuple #[.agg #[.int .i64 0, .bool (true || decide (0 < n)), v], .string r]) ∧ Kd.R (Kd.int .u8) 5 w' w.heap.size (fun _ => True) v (x.drop n) ∧ Below w.heap.size w w' := by
 have hu38 := Try.underlying38
 have HB := aMk (bAl (bAl (Below.refl w.heap.size w) (.cells #[.int .i64 0, .bool true, .slice A l.length c] 38)) (.cells #[.int .i64 0, .bool false, .slice none 0 0] 38))
 have HX := aMk hx
 have HR := aMk hr
 have HC := aMk hc
 have HR1 := aMk hr1
 have HC1 := aMk hc1
 have HL := aMk hl
 have HL1 := aMk hl1
 have HN := aMk hn
 have HK := aMk hkeep
 have HCL := aMk hclo
 have ld1 : decide (60000 < (l1.length : Int)) = false := decide_eq_false (by omega)
 have ld2 : decide (60000 < l1.length) = false := decide_eq_false (by omega)
 clear hx hr hc hr1 hc1 hl hl1 hn hkeep hclo
 go_enter Try.func27, Try.ntmps27
 go_wp2_with (first | (go_at_call 47; refine (rdr_calls0 true A c l _ HL.out).mono ?_; rintro e w1 ⟨gF, gC, rfl, hf, hc, hb⟩; simp only [codV]; have HE : Aside0 (MEnv w w1 0 0 true A l.length c w.heap.size (w.heap.size + 1) gF gC) := ⟨⟨blk_below (bkA (blk_new w _) _) hb, blk_below (by rw [show w.heap.size + 1 = (w.alloc (.cells #[.int .i64 0, .bool true, .slice A l.length c] 38)).heap.size by simp]; exact blk_new _ _) hb, hf, hc, below_step HB.out hb, by omega⟩⟩; have hq2 : w1.cell? ⟨w.heap.size, 2, none⟩ = some (.slice A l.length c) := bCe HE.out.f 2; clear hb hf hc HB) | ((with_reducible refine gate_dst (N := 23) rfl ?_); refine Kd.R_lit (Kd.int .u8) _ 5 ?hg (N := 23) ?hd (xs := ([] : List Int)) (inner := []) (ok := fun _ => True) (okp := fun _ => True) ?hr ?hp (fun _ hk => hk) trivial (Below.refl _ _) (Nat.le_refl _) (by simp) ?_; (case hd => rfl); (case hg => rfl); (case hr => first | (go_simp; done) | (go_simp; rfl)); (case hp => exact (Reps.none _ _)); intro v3 w3 ho3 hb hg_ hnew_; have HE3 := aMk (HE.out.fresh (below_step HE.out.b hb) hg_); have HO3 := aMk (Kd.R_lower ho3 (below_size HE.out.b)); have hq3 : w3.cell? ⟨w.heap.size, 2, none⟩ = some (.slice A l.length c) := bCe HE3.out.f 2; clear hg_ hnew_ hb ho3 HE hq2) | ((with_reducible refine gate_builtin (b := .append) (xs := #[.tmp 23, .tmp 25]) rfl ?_); at_builtin; refine Kd.R_append_rows (Kd.int .u8) (w0 := w) w.heap.size rfl (.tmp 23) (.tmp 25) 22 5 (.int .u8 0) 1 rfl Try.underlying22 info5 rfl (by decide) (by decide) _ [] l A l.length c (fun _ => True) (fun _ => False) rfl rfl HO3.out (Kd.C_below HR.out HE3.out.b) ?hKM (fun _ hk => hk.elim) (fun _ _ => trivial) HE3.out.b (below_size HE3.out.b) ?hlim ?_; (case hKM => intro x cs hx; exact hx); (case hlim => have := HL.out; simp; omega); intro v4 w4 ho4 hb hg_ _; have HE4 := aMk (HE3.out.grown HO3.out hb hg_); have HO4 : Aside0 (Kd.R (Kd.int .u8) 5 w4 w.heap.size (fun _ => True) v4 l) := ⟨ho4⟩; clear hg_ hb ho4 HE3 HO3 hq3) | ((with_reducible refine gate_builtin (b := .append) (xs := #[.tmp 26, .tmp 27]) rfl ?_); at_builtin; refine Kd.R_append_rows (Kd.int .u8) (w0 := w) w.heap.size rfl (.tmp 26) (.tmp 27) 22 5 (.int .u8 0) 1 rfl Try.underlying22 info5 rfl (by decide) (by decide) _ l l1 A1 l1.length c1 (fun _ => True) (fun _ => False) rfl rfl HO4.out (Kd.C_below HR1.out HE4.out.b) ?hKM (fun _ hk => hk.elim) (fun _ _ => trivial) HE4.out.b (below_size HE4.out.b) ?hlim ?_; (case hKM => intro x cs hx; exact hx); (case hlim => have := HL.out; have := HL1.out; simp; omega); intro v5 w5 ho5 hb hg_ _; have HE5 := aMk (HE4.out.grown HO4.out hb hg_); have HO5 := aMk (show Kd.R (Kd.int .u8) 5 w5 w.heap.size (fun _ => True) v5 x by rw [HX.out]; exact ho5); obtain ⟨A2, c2, hv5, hc2, hr2⟩ := Kd.R_reads HO5.out; subst hv5; have HC2 := aMk hc2; have HR2 := aMk hr2; clear hg_ hb ho5 HE4 HO4 hc2 hr2) | (go_at_call 92; refine (HK.out A2 c2 _ HR2.out HC2.out).mono ?_; rintro e w6 ⟨rfl, hb⟩; have HE6 := aMk (HE5.out.below hb); have HR6 := aMk (Kd.C_below HR2.out hb); have hsub : wrap64 ((x.length : Int) - (q : Int)) = (n : Int) := (by have := HN.out; have h1 := HL.out; have h2 := HL1.out; have h3 : x.length = l.length + l1.length := (by rw [HX.out, List.length_append]); unfold wrap64; omega); clear hb HE5 HR2))
 simp only [hsub]
 have hxl : n ≤ x.length := by have := HN.out; omega
 obtain ⟨i0, hi0, _, hz1, _⟩ := info_parts info5
 have hcut1 := cut_to (P := Try.prog) 22 5 .i64 Try.underlying22 hi0 A2 x.length c2 (n : Int) (by omega) (by omega) HC2.out
 have hcut2 := cut_from (P := Try.prog) 22 5 .i64 Try.underlying22 hi0 1 hz1 A2 x.length c2 (n : Int) (by omega) (by omega)
 rw [Int.toNat_natCast] at hcut1 hcut2
 have HD := Kd.C_drop (k := Kd.int .u8) (m := n) (c := c2) HR6.out hxl HC2.out
 have HT := Kd.C_take (k := Kd.int .u8) (m := n) HR6.out hxl
 have hsz1 : (Kd.int .u8).sz = 1 := rfl
 rw [hsz1] at HD
 obtain ⟨A3, hA3⟩ : ∃ A', A' = (if c2 = n then A2 else A2.map (·.add (n * 1))) := ⟨_, rfl⟩
 rw [← hA3] at hcut2 HD
 have hld : (x.drop n).length = x.length - n := List.length_drop
 rw [← hld] at hcut2
 have HDL : Aside0 ((x.drop n).length ≤ 60003) := ⟨by have h1 := HL.out; have h2 := HL1.out; have h3 : x.length = l.length + l1.length := (by rw [HX.out, List.length_append]); omega⟩
 have HTC : Aside0 (n ≤ c2) := ⟨Nat.le_trans hxl HC2.out⟩
 have hlt : (x.take n).length = n := by rw [List.length_take]; omega
 rw [hlt] at HT
 replace HD := aMk HD
 replace HT := aMk HT
 obtain ⟨d, hd⟩ : ∃ d, d = x.drop n := ⟨_, rfl⟩
 rw [← hd] at hcut2 HD HDL
 have HDQ := aMk hd
 clear hlt hd hld hA3 hsz1 hz1 hi0 hxl hsub
 refine start_ (n := 21) (S := fun w' => w'.cell? ⟨w.heap.size, 0, none⟩ = some (.int .i64 0) ∧ w'.cell? ⟨w.heap.size, 1, none⟩ = some (.bool true)) (ds := [19]) #[false, false, false, false, false, false, false, false, false, false, false, false, false, false, false, false, false, false, false, false, false] (by kernel_rfl) rfl rfl ⟨(bCe (blk_below HE6.out.f (below_drew (Below.refl _ _))) 0).trans rfl, (bCe (blk_below HE6.out.f (below_drew (Below.refl _ _))) 1).trans rfl⟩ (fun hHeld => ?_)
 refine pure_ (i := 0) (N := some 35) (v := ?_) (a' := ?_) #[true, false, false, false, false, false, false, false, false, false, false, false, false, false, false, false, false, false, false, false, false] rfl rfl (by kernel_rfl) (fun _ _ _ h => h) (Or.inl ⟨by rfl, ?_⟩) ?_ ?_
 rotate_left
 · intro w'
   go_simp
   with_reducible rfl
 rotate_left
 · simp only [Act.put, lSa, lSz, lSs, i64_w, i32_w]
   rfl
 refine pure_ (i := 2) (N := some 37) (v := ?_) (a' := ?_) #[true, false, true, false, false, false, false, false, false, false, false, false, false, false, false, false, false, false, false, false, false] rfl rfl (by kernel_rfl) (fun _ _ _ h => h) (Or.inl ⟨by rfl, ?_⟩) ?_ ?_
 rotate_left
 · intro w'
   go_simp
   with_reducible rfl
 rotate_left
 · simp only [Act.put, lSa, lSz, lSs, i64_w, i32_w]
   rfl
 refine pure_ (i := 9) (N := some 44) (v := ?_) (a' := ?_) #[true, false, true, false, false, false, false, false, false, true, false, false, false, false, false, false, false, false, false, false, false] rfl rfl (by kernel_rfl) (fun _ _ _ h => h) (Or.inl ⟨by rfl, ?_⟩) ?_ ?_
 rotate_left
 · intro w'
   go_simp
   with_reducible rfl
 rotate_left
 · simp only [Act.put, lSa, lSz, lSs, i64_w, i32_w]
   rfl
 refine pure_ (i := 10) (N := some 45) (v := ?_) (a' := ?_) #[true, false, true, false, false, false, false, false, false, true, true, false, false, false, false, false, false, false, false, false, false] rfl rfl (by kernel_rfl) (fun _ _ _ h => h) (Or.inl ⟨by rfl, ?_⟩) ?_ ?_
 rotate_left
 · intro w'
   go_simp
   with_reducible rfl
 rotate_left
 · simp only [Act.put, lSa, lSz, lSs, i64_w, i32_w]
   rfl
 refine pure_ (i := 11) (N := some 46) (v := ?_) (a' := ?_) #[true, false, true, false, false, false, false, false, false, true, true, true, false, false, false, false, false, false, false, false, false] rfl rfl (by kernel_rfl) (fun _ _ _ h => h) (Or.inl ⟨by rfl, ?_⟩) ?_ ?_
 rotate_left
 · intro w'
   go_simp
   with_reducible rfl
 rotate_left
 · simp only [Act.put, lSa, lSz, lSs, i64_w, i32_w]
   rfl
 refine pure_ (i := 14) (N := some 49) (v := ?_) (a' := ?_) #[true, false, true, false, false, false, false, false, false, true, true, true, false, false, true, false, false, false, false, false, false] rfl rfl (by kernel_rfl) (fun _ _ _ h => h) (Or.inl ⟨by rfl, ?_⟩) ?_ ?_
 rotate_left
 · intro w'
   go_simp
   with_reducible rfl
 rotate_left
 · simp only [Act.put, lSa, lSz, lSs, i64_w, i32_w]
   rfl
 refine pure_ (i := 15) (N := some 50) (v := ?_) (a' := ?_) #[true, false, true, false, false, false, false, false, false, true, true, true, false, false, true, true, false, false, false, false, false] rfl rfl (by kernel_rfl) (fun _ _ _ h => h) (Or.inl ⟨by rfl, ?_⟩) ?_ ?_
 rotate_left
 · intro w'
   go_simp
   with_reducible rfl
 rotate_left
 · simp only [Act.put, lSa, lSz, lSs, i64_w, i32_w]
   rfl
 refine pure_ (i := 16) (N := some 51) (v := ?_) (a' := ?_) #[true, false, true, false, false, false, false, false, false, true, true, true, false, false, true, true, true, false, false, false, false] rfl rfl (by kernel_rfl) (fun _ _ _ h => h) (Or.inl ⟨by rfl, ?_⟩) ?_ ?_
 rotate_left
 · intro w'
   go_simp
   with_reducible rfl
 rotate_left
 · simp only [Act.put, lSa, lSz, lSs, i64_w, i32_w]
   rfl
 refine pure_ (i := 17) (N := some 52) (v := ?_) (a' := ?_) #[true, false, true, false, false, false, false, false, false, true, true, true, false, false, true, true, true, true, false, false, false] rfl rfl (by kernel_rfl) (fun _ _ _ h => h) (Or.inl ⟨by rfl, ?_⟩) ?_ ?_
 rotate_left
 · intro w'
   go_simp
   with_reducible rfl
 rotate_left
 · simp only [Act.put, lSa, lSz, lSs, i64_w, i32_w]
   rfl
 refine take_ (i := 1) (N := some 36) (v := ?_) (a' := ?_) #[true, true, true, false, false, false, false, false, false, true, true, true, false, false, true, true, true, true, false, false, false] rfl rfl (by kernel_rfl) (fun _ _ _ h => h) (Or.inl ⟨by rfl, ?_⟩) hHeld ?_ ?_
 rotate_left
 · rintro w' ⟨s0, s1⟩
   go_simp
   with_reducible rfl
 rotate_left
 · simp only [Act.put, lSa, lSz, lSs, i64_w, i32_w]
   rfl
 refine take_ (i := 3) (N := some 38) (v := ?_) (a' := ?_) #[true, true, true, true, false, false, false, false, false, true, true, true, false, false, true, true, true, true, false, false, false] rfl rfl (by kernel_rfl) (fun _ _ _ h => h) (Or.inl ⟨by rfl, ?_⟩) hHeld ?_ ?_
 rotate_left
 · rintro w' ⟨s0, s1⟩
   go_simp
   with_reducible rfl
 rotate_left
 · simp only [Act.put, lSa, lSz, lSs, i64_w, i32_w]
   rfl
 refine pure_ (i := 4) (N := some 39) (v := ?_) (a' := ?_) #[true, true, true, true, true, false, false, false, false, true, true, true, false, false, true, true, true, true, false, false, false] rfl rfl (by kernel_rfl) (fun _ _ _ h => h) (Or.inl ⟨by rfl, ?_⟩) ?_ ?_
 rotate_left
 · intro w'
   go_simp
   with_reducible rfl
 rotate_left
 · simp only [Act.put, lSa, lSz, lSs, i64_w, i32_w]
   rfl
 refine pure_ (i := 5) (N := some 40) (v := undef) (a' := ?_) #[true, true, true, true, true, true, false, false, false, true, true, true, false, false, true, true, true, true, false, false, false] rfl rfl (by kernel_rfl) (fun _ _ _ h => h) (Or.inr ⟨by rfl, rfl⟩) ?_ ?_
 rotate_left
 · simp only [Act.put, lSa, lSz, lSs, i64_w, i32_w]
   rfl
 refine pure_ (i := 6) (N := some 41) (v := undef) (a' := ?_) #[true, true, true, true, true, true, true, false, false, true, true, true, false, false, true, true, true, true, false, false, false] rfl rfl (by kernel_rfl) (fun _ _ _ h => h) (Or.inr ⟨by rfl, rfl⟩) ?_ ?_
 rotate_left
 · simp only [Act.put, lSa, lSz, lSs, i64_w, i32_w]
   rfl
 refine pure_ (i := 7) (N := some 42) (v := ?_) (a' := ?_) #[true, true, true, true, true, true, true, true, false, true, true, true, false, false, true, true, true, true, false, false, false] rfl rfl (by kernel_rfl) (fun _ _ _ h => h) (Or.inl ⟨by rfl, ?_⟩) ?_ ?_
 rotate_left
 · intro w'
   go_simp
   with_reducible rfl
 rotate_left
 · simp only [Act.put, lSa, lSz, lSs, i64_w, i32_w]
   rfl
 refine one_ (i := 8) (N := some 43) #[true, true, true, true, true, true, true, true, true, true, true, true, false, false, true, true, true, true, false, false, false] rfl rfl (by kernel_rfl) (by decide) (fun K hK => ?_)
 refine Kd.R_lit_step (Kd.int .u8) (w0 := w6) w6.heap.size 5 (by rfl) (N := 43) rfl (xs := ([] : List Int)) (inner := []) (ok := fun _ => True) (okp := fun _ => True) ?hr ?hp (fun _ hk => hk) trivial (below_drew (Below.refl _ _)) (Nat.le_refl _) (by simp) ?_
 case hr => first | (go_simp; done) | (go_simp; rfl)
 case hp => exact (Reps.none _ _)
 intro v7 w7 ho7 hb7 hg7 _
 have HO7 := aMk ho7
 have HB7 := aMk hb7
 clear ho7 hb7 hg7
 refine hK.out _ _ ⟨(bCe (blk_below HE6.out.f HB7.out) 0).trans rfl, (bCe (blk_below HE6.out.f HB7.out) 1).trans rfl⟩ (fun hHeld => ?_)
 clear hK K
 refine norm_ (a' := ?_) ?_ ?_
 rotate_left
 · show Act.put _ (some 43) _ = _
   simp only [Act.put, lSa, lSz, lSs, i64_w, i32_w]
   rfl
 refine one_ (i := 12) (N := some 47) #[true, true, true, true, true, true, true, true, true, true, true, true, true, false, true, true, true, true, false, false, false] rfl rfl (by kernel_rfl) (by decide) (fun K hK => ?_)
 refine Kd.R_append_rows_step (Kd.int .u8) (w0 := w6) w6.heap.size (by rfl) (.tmp 43) (.tmp 46) 22 5 (.int .u8 0) 1 rfl Try.underlying22 info5 rfl (by decide) (by decide) _ [] d A3 d.length (c2 - n) (fun _ => True) (fun _ => False) rfl rfl HO7.out (Kd.C_below HD.out HB7.out) ?hKM (fun _ hk => hk.elim) (fun _ _ => trivial) HB7.out (HB7.out.size) ?hlim ?_
 case hKM => intro x cs hx; exact hx
 case hlim => have := HDL.out; simp; omega
 intro v8 w8 ho8 hb8 hg8 _
 obtain ⟨A8, c8, hv8⟩ := Kd.R_slice ho8
 rw [List.nil_append] at ho8 hv8
 subst hv8
 have HO8 := aMk ho8
 have HB8 := aMk hb8
 clear ho8 hb8 hg8 HO7
 refine hK.out _ _ ⟨(bCe (blk_below HE6.out.f HB8.out) 0).trans rfl, (bCe (blk_below HE6.out.f HB8.out) 1).trans rfl⟩ (fun hHeld => ?_)
 clear hK K
 refine norm_ (a' := ?_) ?_ ?_
 rotate_left
 · show Act.put _ (some 47) _ = _
   simp only [Act.put, lSa, lSz, lSs, i64_w, i32_w]
   rfl
 refine pure_ (i := 13) (N := some 48) (v := ?_) (a' := ?_) #[true, true, true, true, true, true, true, true, true, true, true, true, true, true, true, true, true, true, false, false, false] rfl rfl (by kernel_rfl) (fun _ _ _ h => h) (Or.inl ⟨by rfl, ?_⟩) ?_ ?_
 rotate_left
 · intro w'
   go_simp
   with_reducible rfl
 rotate_left
 · simp only [Act.put, lSa, lSz, lSs, i64_w, i32_w]
   rfl
 refine one_ (i := 18) (N := some 53) #[true, true, true, true, true, true, true, true, true, true, true, true, true, true, true, true, true, true, true, false, false] rfl rfl (by kernel_rfl) (by decide) (fun K hK => ?_)
 refine goesV_ Try.func66 (by kernel_rfl) rfl #[.slice A2 n c2, .pointer (some ⟨gF, 0, none⟩), .pointer (some ⟨gC, 0, none⟩)] (by rfl) rfl rfl rfl (by simp only [List.map_toArray, List.map_cons, List.map_nil]; rfl) ?_
 with_reducible refine (HCL.out gF gC A2 c2 w8 ((bCe (blk_below HE6.out.cf HB8.out) 1).trans rfl) ((bCe (blk_below HE6.out.cc HB8.out) 0).trans rfl) (Kd.C_below HT.out HB8.out) HTC.out).mono ?_
 rintro e w9 ⟨rfl, hb⟩
 refine ⟨_, rfl, ?_⟩
 have HB9 := aMk (below_then HB8.out (HB8.out.size) hb)
 have HO9 := aMk (Kd.R_below HO8.out hb)
 clear hb HO8
 refine hK.out _ _ ⟨(bCe (blk_below HE6.out.f HB9.out) 0).trans rfl, (bCe (blk_below HE6.out.f HB9.out) 1).trans rfl⟩ (fun hHeld => ?_)
 clear hK K
 refine norm_ (a' := ?_) ?_ ?_
 rotate_left
 · show Act.put _ (some 53) _ = _
   simp only [Act.put, lSa, lSz, lSs, i64_w, i32_w]
   rfl
 refine last_ (i := 19) (N := none) #[true, true, true, true, true, true, true, true, true, true, true, true, true, true, true, true, true, true, true, true, false] rfl rfl (by kernel_rfl) (by decide) (fun K hK => ?_)
 have hg4 := blk_below HE6.out.r HB9.out
 have hsc0 : w9.cell? ⟨w.heap.size + 1, 0, none⟩ = some (.int .i64 0) := (bCe hg4 0).trans rfl
 have hsc1 : w9.cell? ⟨w.heap.size + 1, 1, none⟩ = some (.bool false) := (bCe hg4 1).trans rfl
 have hsc2 : w9.cell? ⟨w.heap.size + 1, 2, none⟩ = some (.slice none 0 0) := (bCe hg4 2).trans rfl
 have hsf0 : w9.frozen? ⟨w.heap.size + 1, 0, none⟩ = false := bFr hg4 0
 have hsf1 : w9.frozen? ⟨w.heap.size + 1, 1, none⟩ = false := bFr hg4 1
 have hsf2 : w9.frozen? ⟨w.heap.size + 1, 2, none⟩ = false := bFr hg4 2
 replace hg4 := aMk hg4
 refine skip_ (w1 := ?_) (by rfl) rfl ?_ ?_
 rotate_left
 · go_simp
   rfl
 refine hK.out _ _ ?_
 clear hK K
 refine pure_ (i := 20) (N := some 5) (v := ?_) (a' := ?_) #[true, true, true, true, true, true, true, true, true, true, true, true, true, true, true, true, true, true, true, true, true] rfl rfl (by kernel_rfl) (fun _ _ _ h => h) (Or.inl ⟨by rfl, ?_⟩) ?_ ?_
 rotate_left
 · intro w'
   go_simp
   with_reducible rfl
 rotate_left
 · simp only [Act.put, lSa, lSz, lSs, i64_w, i32_w]
   rfl
 refine done_ (by kernel_rfl) ?_
 go_wp2
 have hgb := blk_set (blk_set (blk_set hg4.out 0 (.int .i64 0)) 1 (.bool true)) 2 (.slice A8 d.length c8)
 refine bodyPost_ret (results_list (rs := [.cell 4 38, .tmp 5]) rfl (by simp) (.cell (w.heap.size + 1) 38 _ (0, 0) _ rfl hgb Try.underlying38 rfl (by kernel_rfl) (.tmp .nil))) rfl ?_
 refine ⟨.slice A8 d.length c8, rfl, ?_, bSe (bSe (bSe (below_step HE6.out.b HB9.out) HE6.out.ge) HE6.out.ge) HE6.out.ge⟩
 rw [← HDQ.out]
 exact Kd.R_lower (Kd.R_set (Kd.R_set (Kd.R_set HO9.out hg4.out (by decide) 0 _) (blk_set hg4.out 0 _) (by decide) 1 _) (blk_set (blk_set hg4.out 0 _) 1 _) (by decide) 2 _) HE6.out.b.size
set_option maxHeartbeats 8000000 in
set_option maxRecDepth 100000 in
theorem more_calls0n (A : Option Addr) (c : Nat) (l : List Int) (A1 : Option Addr) (c1 : Nat) (l1 x : List Int) (q n : Nat) (r : ByteArray) (w : World) (hx : x = l ++ l1) (hr : Kd.C (Kd.int .u8) w A l.length l) (hc : l.length ≤ c) (hr1 : Kd.C (Kd.int .u8) w A1 l1.length l1) (hc1 : l1.length ≤ c1) (hl : l.length ≤ 3) (hl1 : l1.length ≤ 60000) (hn : n + q = x.length)
 (hkeep : ∀ (A2 : Option Addr) (c2 : Nat) (w2 : World), Kd.C (Kd.int .u8) w2 A2 x.length x → x.length ≤ c2 → Calls Try.prog 92 #[.agg #[], .slice A2 x.length c2] w2 fun e w' => e = .returned (.int .i64 (q : Int)) ∧ Below w2.heap.size w2 w')
 (hclo : ∀ (gF gC : Nat) (A2 : Option Addr) (c2 : Nat) (w2 : World), w2.cell? ⟨gF, 1, none⟩ = some (.bool false) → w2.cell? ⟨gC, 0, none⟩ = some (codV 0) → Kd.C (Kd.int .u8) w2 A2 n (x.take n) → n ≤ c2 → Calls Try.prog 66 #[.slice A2 n c2, .pointer (some ⟨gF, 0, none⟩), .pointer (some ⟨gC, 0, none⟩)] w2 fun e w' => e = .returned (.string r) ∧ Below w2.heap.size w2 w') :
 Calls Try.prog 27 #[.agg #[.int .i64 0, .bool false, .slice A l.length c], .slice A1 l1.length c1] w fun en w' => ∃ v, en = .returned (.tuple #[.agg #[.int .i64 0, .bool (false || decide (0 < n)), v], .string r]) ∧ Kd.R (Kd.int .u8) 5 w' w.heap.size (fun _ => True) v (x.drop n) ∧ Below w.heap.size w w' := by
 have hu38 := Try.underlying38
 have HB := aMk (bAl (bAl (Below.refl w.heap.size w) (.cells #[.int .i64 0, .bool false, .slice A l.length c] 38)) (.cells #[.int .i64 0, .bool false, .slice none 0 0] 38))
 have HX := aMk hx
 have HR := aMk hr
 have HC := aMk hc
 have HR1 := aMk hr1
 have HC1 := aMk hc1
 have HL := aMk hl
 have HL1 := aMk hl1
 have HN := aMk hn
 have HK := aMk hkeep
 have HCL := aMk hclo
 have ld1 : decide (60000 < (l1.length : Int)) = false := decide_eq_false (by omega)
 have ld2 : decide (60000 < l1.length) = false := decide_eq_false (by omega)
 clear hx hr hc hr1 hc1 hl hl1 hn hkeep hclo
 go_enter Try.func27, Try.ntmps27
 go_wp2_with (first | (go_at_call 47; refine (rdr_calls0 false A c l _ HL.out).mono ?_; rintro e w1 ⟨gF, gC, rfl, hf, hc, hb⟩; simp only [codV]; have HE : Aside0 (MEnv w w1 0 0 false A l.length c w.heap.size (w.heap.size + 1) gF gC) := ⟨⟨blk_below (bkA (blk_new w _) _) hb, blk_below (by rw [show w.heap.size + 1 = (w.alloc (.cells #[.int .i64 0, .bool false, .slice A l.length c] 38)).heap.size by simp]; exact blk_new _ _) hb, hf, hc, below_step HB.out hb, by omega⟩⟩; have hq2 : w1.cell? ⟨w.heap.size, 2, none⟩ = some (.slice A l.length c) := bCe HE.out.f 2; clear hb hf hc HB) | ((with_reducible refine gate_dst (N := 23) rfl ?_); refine Kd.R_lit (Kd.int .u8) _ 5 ?hg (N := 23) ?hd (xs := ([] : List Int)) (inner := []) (ok := fun _ => True) (okp := fun _ => True) ?hr ?hp (fun _ hk => hk) trivial (Below.refl _ _) (Nat.le_refl _) (by simp) ?_; (case hd => rfl); (case hg => rfl); (case hr => first | (go_simp; done) | (go_simp; rfl)); (case hp => exact (Reps.none _ _)); intro v3 w3 ho3 hb hg_ hnew_; have HE3 := aMk (HE.out.fresh (below_step HE.out.b hb) hg_); have HO3 := aMk (Kd.R_lower ho3 (below_size HE.out.b)); have hq3 : w3.cell? ⟨w.heap.size, 2, none⟩ = some (.slice A l.length c) := bCe HE3.out.f 2; clear hg_ hnew_ hb ho3 HE hq2) | ((with_reducible refine gate_builtin (b := .append) (xs := #[.tmp 23, .tmp 25]) rfl ?_); at_builtin; refine Kd.R_append_rows (Kd.int .u8) (w0 := w) w.heap.size rfl (.tmp 23) (.tmp 25) 22 5 (.int .u8 0) 1 rfl Try.underlying22 info5 rfl (by decide) (by decide) _ [] l A l.length c (fun _ => True) (fun _ => False) rfl rfl HO3.out (Kd.C_below HR.out HE3.out.b) ?hKM (fun _ hk => hk.elim) (fun _ _ => trivial) HE3.out.b (below_size HE3.out.b) ?hlim ?_; (case hKM => intro x cs hx; exact hx); (case hlim => have := HL.out; simp; omega); intro v4 w4 ho4 hb hg_ _; have HE4 := aMk (HE3.out.grown HO3.out hb hg_); have HO4 : Aside0 (Kd.R (Kd.int .u8) 5 w4 w.heap.size (fun _ => True) v4 l) := ⟨ho4⟩; clear hg_ hb ho4 HE3 HO3 hq3) | ((with_reducible refine gate_builtin (b := .append) (xs := #[.tmp 26, .tmp 27]) rfl ?_); at_builtin; refine Kd.R_append_rows (Kd.int .u8) (w0 := w) w.heap.size rfl (.tmp 26) (.tmp 27) 22 5 (.int .u8 0) 1 rfl Try.underlying22 info5 rfl (by decide) (by decide) _ l l1 A1 l1.length c1 (fun _ => True) (fun _ => False) rfl rfl HO4.out (Kd.C_below HR1.out HE4.out.b) ?hKM (fun _ hk => hk.elim) (fun _ _ => trivial) HE4.out.b (below_size HE4.out.b) ?hlim ?_; (case hKM => intro x cs hx; exact hx); (case hlim => have := HL.out; have := HL1.out; simp; omega); intro v5 w5 ho5 hb hg_ _; have HE5 := aMk (HE4.out.grown HO4.out hb hg_); have HO5 := aMk (show Kd.R (Kd.int .u8) 5 w5 w.heap.size (fun _ => True) v5 x by rw [HX.out]; exact ho5); obtain ⟨A2, c2, hv5, hc2, hr2⟩ := Kd.R_reads HO5.out; subst hv5; have HC2 := aMk hc2; have HR2 := aMk hr2; clear hg_ hb ho5 HE4 HO4 hc2 hr2) | (go_at_call 92; refine (HK.out A2 c2 _ HR2.out HC2.out).mono ?_; rintro e w6 ⟨rfl, hb⟩; have HE6 := aMk (HE5.out.below hb); have HR6 := aMk (Kd.C_below HR2.out hb); have hsub : wrap64 ((x.length : Int) - (q : Int)) = (n : Int) := (by have := HN.out; have h1 := HL.out; have h2 := HL1.out; have h3 : x.length = l.length + l1.length := (by rw [HX.out, List.length_append]); unfold wrap64; omega); clear hb HE5 HR2))
 simp only [hsub]
 have hxl : n ≤ x.length := by have := HN.out; omega
 obtain ⟨i0, hi0, _, hz1, _⟩ := info_parts info5
 have hcut1 := cut_to (P := Try.prog) 22 5 .i64 Try.underlying22 hi0 A2 x.length c2 (n : Int) (by omega) (by omega) HC2.out
 have hcut2 := cut_from (P := Try.prog) 22 5 .i64 Try.underlying22 hi0 1 hz1 A2 x.length c2 (n : Int) (by omega) (by omega)
 rw [Int.toNat_natCast] at hcut1 hcut2
 have HD := Kd.C_drop (k := Kd.int .u8) (m := n) (c := c2) HR6.out hxl HC2.out
 have HT := Kd.C_take (k := Kd.int .u8) (m := n) HR6.out hxl
 have hsz1 : (Kd.int .u8).sz = 1 := rfl
 rw [hsz1] at HD
 obtain ⟨A3, hA3⟩ : ∃ A', A' = (if c2 = n then A2 else A2.map (·.add (n * 1))) := ⟨_, rfl⟩
 rw [← hA3] at hcut2 HD
 have hld : (x.drop n).length = x.length - n := List.length_drop
 rw [← hld] at hcut2
 have HDL : Aside0 ((x.drop n).length ≤ 60003) := ⟨by have h1 := HL.out; have h2 := HL1.out; have h3 : x.length = l.length + l1.length := (by rw [HX.out, List.length_append]); omega⟩
 have HTC : Aside0 (n ≤ c2) := ⟨Nat.le_trans hxl HC2.out⟩
 have hlt : (x.take n).length = n := by rw [List.length_take]; omega
 rw [hlt] at HT
 replace HD := aMk HD
 replace HT := aMk HT
 obtain ⟨d, hd⟩ : ∃ d, d = x.drop n := ⟨_, rfl⟩
 rw [← hd] at hcut2 HD HDL
 have HDQ := aMk hd
 clear hlt hd hld hA3 hsz1 hz1 hi0 hxl hsub
 refine start_ (n := 21) (S := fun w' => w'.cell? ⟨w.heap.size, 0, none⟩ = some (.int .i64 0) ∧ w'.cell? ⟨w.heap.size, 1, none⟩ = some (.bool false)) (ds := [19]) #[false, false, false, false, false, false, false, false, false, false, false, false, false, false, false, false, false, false, false, false, false] (by kernel_rfl) rfl rfl ⟨(bCe (blk_below HE6.out.f (below_drew (Below.refl _ _))) 0).trans rfl, (bCe (blk_below HE6.out.f (below_drew (Below.refl _ _))) 1).trans rfl⟩ (fun hHeld => ?_)
 refine pure_ (i := 0) (N := some 35) (v := ?_) (a' := ?_) #[true, false, false, false, false, false, false, false, false, false, false, false, false, false, false, false, false, false, false, false, false] rfl rfl (by kernel_rfl) (fun _ _ _ h => h) (Or.inl ⟨by rfl, ?_⟩) ?_ ?_
 rotate_left
 · intro w'
   go_simp
   with_reducible rfl
 rotate_left
 · simp only [Act.put, lSa, lSz, lSs, i64_w, i32_w]
   rfl
 refine pure_ (i := 2) (N := some 37) (v := ?_) (a' := ?_) #[true, false, true, false, false, false, false, false, false, false, false, false, false, false, false, false, false, false, false, false, false] rfl rfl (by kernel_rfl) (fun _ _ _ h => h) (Or.inl ⟨by rfl, ?_⟩) ?_ ?_
 rotate_left
 · intro w'
   go_simp
   with_reducible rfl
 rotate_left
 · simp only [Act.put, lSa, lSz, lSs, i64_w, i32_w]
   rfl
 refine pure_ (i := 9) (N := some 44) (v := ?_) (a' := ?_) #[true, false, true, false, false, false, false, false, false, true, false, false, false, false, false, false, false, false, false, false, false] rfl rfl (by kernel_rfl) (fun _ _ _ h => h) (Or.inl ⟨by rfl, ?_⟩) ?_ ?_
 rotate_left
 · intro w'
   go_simp
   with_reducible rfl
 rotate_left
 · simp only [Act.put, lSa, lSz, lSs, i64_w, i32_w]
   rfl
 refine pure_ (i := 10) (N := some 45) (v := ?_) (a' := ?_) #[true, false, true, false, false, false, false, false, false, true, true, false, false, false, false, false, false, false, false, false, false] rfl rfl (by kernel_rfl) (fun _ _ _ h => h) (Or.inl ⟨by rfl, ?_⟩) ?_ ?_
 rotate_left
 · intro w'
   go_simp
   with_reducible rfl
 rotate_left
 · simp only [Act.put, lSa, lSz, lSs, i64_w, i32_w]
   rfl
 refine pure_ (i := 11) (N := some 46) (v := ?_) (a' := ?_) #[true, false, true, false, false, false, false, false, false, true, true, true, false, false, false, false, false, false, false, false, false] rfl rfl (by kernel_rfl) (fun _ _ _ h => h) (Or.inl ⟨by rfl, ?_⟩) ?_ ?_
 rotate_left
 · intro w'
   go_simp
   with_reducible rfl
 rotate_left
 · simp only [Act.put, lSa, lSz, lSs, i64_w, i32_w]
   rfl
 refine pure_ (i := 14) (N := some 49) (v := ?_) (a' := ?_) #[true, false, true, false, false, false, false, false, false, true, true, true, false, false, true, false, false, false, false, false, false] rfl rfl (by kernel_rfl) (fun _ _ _ h => h) (Or.inl ⟨by rfl, ?_⟩) ?_ ?_
 rotate_left
 · intro w'
   go_simp
   with_reducible rfl
 rotate_left
 · simp only [Act.put, lSa, lSz, lSs, i64_w, i32_w]
   rfl
 refine pure_ (i := 15) (N := some 50) (v := ?_) (a' := ?_) #[true, false, true, false, false, false, false, false, false, true, true, true, false, false, true, true, false, false, false, false, false] rfl rfl (by kernel_rfl) (fun _ _ _ h => h) (Or.inl ⟨by rfl, ?_⟩) ?_ ?_
 rotate_left
 · intro w'
   go_simp
   with_reducible rfl
 rotate_left
 · simp only [Act.put, lSa, lSz, lSs, i64_w, i32_w]
   rfl
 refine pure_ (i := 16) (N := some 51) (v := ?_) (a' := ?_) #[true, false, true, false, false, false, false, false, false, true, true, true, false, false, true, true, true, false, false, false, false] rfl rfl (by kernel_rfl) (fun _ _ _ h => h) (Or.inl ⟨by rfl, ?_⟩) ?_ ?_
 rotate_left
 · intro w'
   go_simp
   with_reducible rfl
 rotate_left
 · simp only [Act.put, lSa, lSz, lSs, i64_w, i32_w]
   rfl
 refine pure_ (i := 17) (N := some 52) (v := ?_) (a' := ?_) #[true, false, true, false, false, false, false, false, false, true, true, true, false, false, true, true, true, true, false, false, false] rfl rfl (by kernel_rfl) (fun _ _ _ h => h) (Or.inl ⟨by rfl, ?_⟩) ?_ ?_
 rotate_left
 · intro w'
   go_simp
   with_reducible rfl
 rotate_left
 · simp only [Act.put, lSa, lSz, lSs, i64_w, i32_w]
   rfl
 refine take_ (i := 1) (N := some 36) (v := ?_) (a' := ?_) #[true, true, true, false, false, false, false, false, false, true, true, true, false, false, true, true, true, true, false, false, false] rfl rfl (by kernel_rfl) (fun _ _ _ h => h) (Or.inl ⟨by rfl, ?_⟩) hHeld ?_ ?_
 rotate_left
 · rintro w' ⟨s0, s1⟩
   go_simp
   with_reducible rfl
 rotate_left
 · simp only [Act.put, lSa, lSz, lSs, i64_w, i32_w]
   rfl
 refine take_ (i := 3) (N := some 38) (v := ?_) (a' := ?_) #[true, true, true, true, false, false, false, false, false, true, true, true, false, false, true, true, true, true, false, false, false] rfl rfl (by kernel_rfl) (fun _ _ _ h => h) (Or.inl ⟨by rfl, ?_⟩) hHeld ?_ ?_
 rotate_left
 · rintro w' ⟨s0, s1⟩
   go_simp
   with_reducible rfl
 rotate_left
 · simp only [Act.put, lSa, lSz, lSs, i64_w, i32_w]
   rfl
 refine pure_ (i := 4) (N := some 39) (v := ?_) (a' := ?_) #[true, true, true, true, true, false, false, false, false, true, true, true, false, false, true, true, true, true, false, false, false] rfl rfl (by kernel_rfl) (fun _ _ _ h => h) (Or.inl ⟨by rfl, ?_⟩) ?_ ?_
 rotate_left
 · intro w'
   go_simp
   with_reducible rfl
 rotate_left
 · simp only [Act.put, lSa, lSz, lSs, i64_w, i32_w]
   rfl
 refine pure_ (i := 5) (N := some 40) (v := ?_) (a' := ?_) #[true, true, true, true, true, true, false, false, false, true, true, true, false, false, true, true, true, true, false, false, false] rfl rfl (by kernel_rfl) (fun _ _ _ h => h) (Or.inl ⟨by rfl, ?_⟩) ?_ ?_
 rotate_left
 · intro w'
   go_simp
   with_reducible rfl
 rotate_left
 · simp only [Act.put, lSa, lSz, lSs, i64_w, i32_w]
   rfl
 refine pure_ (i := 6) (N := some 41) (v := ?_) (a' := ?_) #[true, true, true, true, true, true, true, false, false, true, true, true, false, false, true, true, true, true, false, false, false] rfl rfl (by kernel_rfl) (fun _ _ _ h => h) (Or.inl ⟨by rfl, ?_⟩) ?_ ?_
 rotate_left
 · intro w'
   go_simp
   with_reducible rfl
 rotate_left
 · simp only [Act.put, lSa, lSz, lSs, i64_w, i32_w]
   rfl
 refine pure_ (i := 7) (N := some 42) (v := ?_) (a' := ?_) #[true, true, true, true, true, true, true, true, false, true, true, true, false, false, true, true, true, true, false, false, false] rfl rfl (by kernel_rfl) (fun _ _ _ h => h) (Or.inl ⟨by rfl, ?_⟩) ?_ ?_
 rotate_left
 · intro w'
   go_simp
   with_reducible rfl
 rotate_left
 · simp only [Act.put, lSa, lSz, lSs, i64_w, i32_w]
   rfl
 refine one_ (i := 8) (N := some 43) #[true, true, true, true, true, true, true, true, true, true, true, true, false, false, true, true, true, true, false, false, false] rfl rfl (by kernel_rfl) (by decide) (fun K hK => ?_)
 refine Kd.R_lit_step (Kd.int .u8) (w0 := w6) w6.heap.size 5 (by rfl) (N := 43) rfl (xs := ([] : List Int)) (inner := []) (ok := fun _ => True) (okp := fun _ => True) ?hr ?hp (fun _ hk => hk) trivial (below_drew (Below.refl _ _)) (Nat.le_refl _) (by simp) ?_
 case hr => first | (go_simp; done) | (go_simp; rfl)
 case hp => exact (Reps.none _ _)
 intro v7 w7 ho7 hb7 hg7 _
 have HO7 := aMk ho7
 have HB7 := aMk hb7
 clear ho7 hb7 hg7
 refine hK.out _ _ ⟨(bCe (blk_below HE6.out.f HB7.out) 0).trans rfl, (bCe (blk_below HE6.out.f HB7.out) 1).trans rfl⟩ (fun hHeld => ?_)
 clear hK K
 refine norm_ (a' := ?_) ?_ ?_
 rotate_left
 · show Act.put _ (some 43) _ = _
   simp only [Act.put, lSa, lSz, lSs, i64_w, i32_w]
   rfl
 refine one_ (i := 12) (N := some 47) #[true, true, true, true, true, true, true, true, true, true, true, true, true, false, true, true, true, true, false, false, false] rfl rfl (by kernel_rfl) (by decide) (fun K hK => ?_)
 refine Kd.R_append_rows_step (Kd.int .u8) (w0 := w6) w6.heap.size (by rfl) (.tmp 43) (.tmp 46) 22 5 (.int .u8 0) 1 rfl Try.underlying22 info5 rfl (by decide) (by decide) _ [] d A3 d.length (c2 - n) (fun _ => True) (fun _ => False) rfl rfl HO7.out (Kd.C_below HD.out HB7.out) ?hKM (fun _ hk => hk.elim) (fun _ _ => trivial) HB7.out (HB7.out.size) ?hlim ?_
 case hKM => intro x cs hx; exact hx
 case hlim => have := HDL.out; simp; omega
 intro v8 w8 ho8 hb8 hg8 _
 obtain ⟨A8, c8, hv8⟩ := Kd.R_slice ho8
 rw [List.nil_append] at ho8 hv8
 subst hv8
 have HO8 := aMk ho8
 have HB8 := aMk hb8
 clear ho8 hb8 hg8 HO7
 refine hK.out _ _ ⟨(bCe (blk_below HE6.out.f HB8.out) 0).trans rfl, (bCe (blk_below HE6.out.f HB8.out) 1).trans rfl⟩ (fun hHeld => ?_)
 clear hK K
 refine norm_ (a' := ?_) ?_ ?_
 rotate_left
 · show Act.put _ (some 47) _ = _
   simp only [Act.put, lSa, lSz, lSs, i64_w, i32_w]
   rfl
 refine pure_ (i := 13) (N := some 48) (v := ?_) (a' := ?_) #[true, true, true, true, true, true, true, true, true, true, true, true, true, true, true, true, true, true, false, false, false] rfl rfl (by kernel_rfl) (fun _ _ _ h => h) (Or.inl ⟨by rfl, ?_⟩) ?_ ?_
 rotate_left
 · intro w'
   go_simp
   with_reducible rfl
 rotate_left
 · simp only [Act.put, lSa, lSz, lSs, i64_w, i32_w]
   rfl
 refine one_ (i := 18) (N := some 53) #[true, true, true, true, true, true, true, true, true, true, true, true, true, true, true, true, true, true, true, false, false] rfl rfl (by kernel_rfl) (by decide) (fun K hK => ?_)
 refine goesV_ Try.func66 (by kernel_rfl) rfl #[.slice A2 n c2, .pointer (some ⟨gF, 0, none⟩), .pointer (some ⟨gC, 0, none⟩)] (by rfl) rfl rfl rfl (by simp only [List.map_toArray, List.map_cons, List.map_nil]; rfl) ?_
 with_reducible refine (HCL.out gF gC A2 c2 w8 ((bCe (blk_below HE6.out.cf HB8.out) 1).trans rfl) ((bCe (blk_below HE6.out.cc HB8.out) 0).trans rfl) (Kd.C_below HT.out HB8.out) HTC.out).mono ?_
 rintro e w9 ⟨rfl, hb⟩
 refine ⟨_, rfl, ?_⟩
 have HB9 := aMk (below_then HB8.out (HB8.out.size) hb)
 have HO9 := aMk (Kd.R_below HO8.out hb)
 clear hb HO8
 refine hK.out _ _ ⟨(bCe (blk_below HE6.out.f HB9.out) 0).trans rfl, (bCe (blk_below HE6.out.f HB9.out) 1).trans rfl⟩ (fun hHeld => ?_)
 clear hK K
 refine norm_ (a' := ?_) ?_ ?_
 rotate_left
 · show Act.put _ (some 53) _ = _
   simp only [Act.put, lSa, lSz, lSs, i64_w, i32_w]
   rfl
 refine last_ (i := 19) (N := none) #[true, true, true, true, true, true, true, true, true, true, true, true, true, true, true, true, true, true, true, true, false] rfl rfl (by kernel_rfl) (by decide) (fun K hK => ?_)
 have hg4 := blk_below HE6.out.r HB9.out
 have hsc0 : w9.cell? ⟨w.heap.size + 1, 0, none⟩ = some (.int .i64 0) := (bCe hg4 0).trans rfl
 have hsc1 : w9.cell? ⟨w.heap.size + 1, 1, none⟩ = some (.bool false) := (bCe hg4 1).trans rfl
 have hsc2 : w9.cell? ⟨w.heap.size + 1, 2, none⟩ = some (.slice none 0 0) := (bCe hg4 2).trans rfl
 have hsf0 : w9.frozen? ⟨w.heap.size + 1, 0, none⟩ = false := bFr hg4 0
 have hsf1 : w9.frozen? ⟨w.heap.size + 1, 1, none⟩ = false := bFr hg4 1
 have hsf2 : w9.frozen? ⟨w.heap.size + 1, 2, none⟩ = false := bFr hg4 2
 replace hg4 := aMk hg4
 refine skip_ (w1 := ?_) (by rfl) rfl ?_ ?_
 rotate_left
 · go_simp
   rfl
 refine hK.out _ _ ?_
 clear hK K
 refine pure_ (i := 20) (N := some 5) (v := ?_) (a' := ?_) #[true, true, true, true, true, true, true, true, true, true, true, true, true, true, true, true, true, true, true, true, true] rfl rfl (by kernel_rfl) (fun _ _ _ h => h) (Or.inl ⟨by rfl, ?_⟩) ?_ ?_
 rotate_left
 · intro w'
   go_simp
   with_reducible rfl
 rotate_left
 · simp only [Act.put, lSa, lSz, lSs, i64_w, i32_w]
   rfl
 refine done_ (by kernel_rfl) ?_
 go_wp2
 have hgb := blk_set (blk_set (blk_set hg4.out 0 (.int .i64 0)) 1 (.bool (decide (0 < n)))) 2 (.slice A8 d.length c8)
 refine bodyPost_ret (results_list (rs := [.cell 4 38, .tmp 5]) rfl (by simp) (.cell (w.heap.size + 1) 38 _ (0, 0) _ rfl hgb Try.underlying38 rfl (by kernel_rfl) (.tmp .nil))) rfl ?_
 refine ⟨.slice A8 d.length c8, rfl, ?_, bSe (bSe (bSe (below_step HE6.out.b HB9.out) HE6.out.ge) HE6.out.ge) HE6.out.ge⟩
 rw [← HDQ.out]
 exact Kd.R_lower (Kd.R_set (Kd.R_set (Kd.R_set HO9.out hg4.out (by decide) 0 _) (blk_set hg4.out 0 _) (by decide) 1 _) (blk_set (blk_set hg4.out 0 _) 1 _) (by decide) 2 _) HE6.out.b.size
set_option maxHeartbeats 8000000 in
set_option maxRecDepth 100000 in
theorem more_calls1b (A : Option Addr) (c : Nat) (l : List Int) (A1 : Option Addr) (c1 : Nat) (l1 x : List Int) (q n : Nat) (r : ByteArray) (w : World) (hx : x = l ++ l1) (hr : Kd.C (Kd.int .u8) w A l.length l) (hc : l.length ≤ c) (hr1 : Kd.C (Kd.int .u8) w A1 l1.length l1) (hc1 : l1.length ≤ c1) (hl : l.length ≤ 3) (hl1 : l1.length ≤ 60000) (hn : n + q = x.length)
 (hkeep : ∀ (A2 : Option Addr) (c2 : Nat) (w2 : World), Kd.C (Kd.int .u8) w2 A2 x.length x → x.length ≤ c2 → Calls Try.prog 95 #[.agg #[.bool false], .slice A2 x.length c2] w2 fun e w' => e = .returned (.int .i64 (q : Int)) ∧ Below w2.heap.size w2 w')
 (hclo : ∀ (gF gC : Nat) (A2 : Option Addr) (c2 : Nat) (w2 : World), w2.cell? ⟨gF, 1, none⟩ = some (.bool true) → w2.cell? ⟨gC, 0, none⟩ = some (codV 1) → Kd.C (Kd.int .u8) w2 A2 n (x.take n) → n ≤ c2 → Calls Try.prog 66 #[.slice A2 n c2, .pointer (some ⟨gF, 0, none⟩), .pointer (some ⟨gC, 0, none⟩)] w2 fun e w' => e = .returned (.string r) ∧ Below w2.heap.size w2 w') :
 Calls Try.prog 27 #[.agg #[.int .i64 1, .bool true, .slice A l.length c], .slice A1 l1.length c1] w fun en w' => ∃ v, en = .returned (.tuple #[.agg #[.int .i64 1, .bool (true || decide (0 < n)), v], .string r]) ∧ Kd.R (Kd.int .u8) 5 w' w.heap.size (fun _ => True) v (x.drop n) ∧ Below w.heap.size w w' := by
 have hu38 := Try.underlying38
 have HB := aMk (bAl (bAl (Below.refl w.heap.size w) (.cells #[.int .i64 1, .bool true, .slice A l.length c] 38)) (.cells #[.int .i64 0, .bool false, .slice none 0 0] 38))
 have HX := aMk hx
 have HR := aMk hr
 have HC := aMk hc
 have HR1 := aMk hr1
 have HC1 := aMk hc1
 have HL := aMk hl
 have HL1 := aMk hl1
 have HN := aMk hn
 have HK := aMk hkeep
 have HCL := aMk hclo
 have ld1 : decide (60000 < (l1.length : Int)) = false := decide_eq_false (by omega)
 have ld2 : decide (60000 < l1.length) = false := decide_eq_false (by omega)
 clear hx hr hc hr1 hc1 hl hl1 hn hkeep hclo
 go_enter Try.func27, Try.ntmps27
 go_wp2_with (first | (go_at_call 47; refine (rdr_calls1 true A c l _ HL.out).mono ?_; rintro e w1 ⟨gF, gC, rfl, hf, hc, hb⟩; simp only [codV]; have HE : Aside0 (MEnv w w1 1 1 true A l.length c w.heap.size (w.heap.size + 1) gF gC) := ⟨⟨blk_below (bkA (blk_new w _) _) hb, blk_below (by rw [show w.heap.size + 1 = (w.alloc (.cells #[.int .i64 1, .bool true, .slice A l.length c] 38)).heap.size by simp]; exact blk_new _ _) hb, hf, hc, below_step HB.out hb, by omega⟩⟩; have hq2 : w1.cell? ⟨w.heap.size, 2, none⟩ = some (.slice A l.length c) := bCe HE.out.f 2; clear hb hf hc HB) | ((with_reducible refine gate_dst (N := 23) rfl ?_); refine Kd.R_lit (Kd.int .u8) _ 5 ?hg (N := 23) ?hd (xs := ([] : List Int)) (inner := []) (ok := fun _ => True) (okp := fun _ => True) ?hr ?hp (fun _ hk => hk) trivial (Below.refl _ _) (Nat.le_refl _) (by simp) ?_; (case hd => rfl); (case hg => rfl); (case hr => first | (go_simp; done) | (go_simp; rfl)); (case hp => exact (Reps.none _ _)); intro v3 w3 ho3 hb hg_ hnew_; have HE3 := aMk (HE.out.fresh (below_step HE.out.b hb) hg_); have HO3 := aMk (Kd.R_lower ho3 (below_size HE.out.b)); have hq3 : w3.cell? ⟨w.heap.size, 2, none⟩ = some (.slice A l.length c) := bCe HE3.out.f 2; clear hg_ hnew_ hb ho3 HE hq2) | ((with_reducible refine gate_builtin (b := .append) (xs := #[.tmp 23, .tmp 25]) rfl ?_); at_builtin; refine Kd.R_append_rows (Kd.int .u8) (w0 := w) w.heap.size rfl (.tmp 23) (.tmp 25) 22 5 (.int .u8 0) 1 rfl Try.underlying22 info5 rfl (by decide) (by decide) _ [] l A l.length c (fun _ => True) (fun _ => False) rfl rfl HO3.out (Kd.C_below HR.out HE3.out.b) ?hKM (fun _ hk => hk.elim) (fun _ _ => trivial) HE3.out.b (below_size HE3.out.b) ?hlim ?_; (case hKM => intro x cs hx; exact hx); (case hlim => have := HL.out; simp; omega); intro v4 w4 ho4 hb hg_ _; have HE4 := aMk (HE3.out.grown HO3.out hb hg_); have HO4 : Aside0 (Kd.R (Kd.int .u8) 5 w4 w.heap.size (fun _ => True) v4 l) := ⟨ho4⟩; clear hg_ hb ho4 HE3 HO3 hq3) | ((with_reducible refine gate_builtin (b := .append) (xs := #[.tmp 26, .tmp 27]) rfl ?_); at_builtin; refine Kd.R_append_rows (Kd.int .u8) (w0 := w) w.heap.size rfl (.tmp 26) (.tmp 27) 22 5 (.int .u8 0) 1 rfl Try.underlying22 info5 rfl (by decide) (by decide) _ l l1 A1 l1.length c1 (fun _ => True) (fun _ => False) rfl rfl HO4.out (Kd.C_below HR1.out HE4.out.b) ?hKM (fun _ hk => hk.elim) (fun _ _ => trivial) HE4.out.b (below_size HE4.out.b) ?hlim ?_; (case hKM => intro x cs hx; exact hx); (case hlim => have := HL.out; have := HL1.out; simp; omega); intro v5 w5 ho5 hb hg_ _; have HE5 := aMk (HE4.out.grown HO4.out hb hg_); have HO5 := aMk (show Kd.R (Kd.int .u8) 5 w5 w.heap.size (fun _ => True) v5 x by rw [HX.out]; exact ho5); obtain ⟨A2, c2, hv5, hc2, hr2⟩ := Kd.R_reads HO5.out; subst hv5; have HC2 := aMk hc2; have HR2 := aMk hr2; clear hg_ hb ho5 HE4 HO4 hc2 hr2) | (go_at_call 95; refine (HK.out A2 c2 _ HR2.out HC2.out).mono ?_; rintro e w6 ⟨rfl, hb⟩; have HE6 := aMk (HE5.out.below hb); have HR6 := aMk (Kd.C_below HR2.out hb); have hsub : wrap64 ((x.length : Int) - (q : Int)) = (n : Int) := (by have := HN.out; have h1 := HL.out; have h2 := HL1.out; have h3 : x.length = l.length + l1.length := (by rw [HX.out, List.length_append]); unfold wrap64; omega); clear hb HE5 HR2))
 simp only [hsub]
 have hxl : n ≤ x.length := by have := HN.out; omega
 obtain ⟨i0, hi0, _, hz1, _⟩ := info_parts info5
 have hcut1 := cut_to (P := Try.prog) 22 5 .i64 Try.underlying22 hi0 A2 x.length c2 (n : Int) (by omega) (by omega) HC2.out
 have hcut2 := cut_from (P := Try.prog) 22 5 .i64 Try.underlying22 hi0 1 hz1 A2 x.length c2 (n : Int) (by omega) (by omega)
 rw [Int.toNat_natCast] at hcut1 hcut2
 have HD := Kd.C_drop (k := Kd.int .u8) (m := n) (c := c2) HR6.out hxl HC2.out
 have HT := Kd.C_take (k := Kd.int .u8) (m := n) HR6.out hxl
 have hsz1 : (Kd.int .u8).sz = 1 := rfl
 rw [hsz1] at HD
 obtain ⟨A3, hA3⟩ : ∃ A', A' = (if c2 = n then A2 else A2.map (·.add (n * 1))) := ⟨_, rfl⟩
 rw [← hA3] at hcut2 HD
 have hld : (x.drop n).length = x.length - n := List.length_drop
 rw [← hld] at hcut2
 have HDL : Aside0 ((x.drop n).length ≤ 60003) := ⟨by have h1 := HL.out; have h2 := HL1.out; have h3 : x.length = l.length + l1.length := (by rw [HX.out, List.length_append]); omega⟩
 have HTC : Aside0 (n ≤ c2) := ⟨Nat.le_trans hxl HC2.out⟩
 have hlt : (x.take n).length = n := by rw [List.length_take]; omega
 rw [hlt] at HT
 replace HD := aMk HD
 replace HT := aMk HT
 obtain ⟨d, hd⟩ : ∃ d, d = x.drop n := ⟨_, rfl⟩
 rw [← hd] at hcut2 HD HDL
 have HDQ := aMk hd
 clear hlt hd hld hA3 hsz1 hz1 hi0 hxl hsub
 refine start_ (n := 21) (S := fun w' => w'.cell? ⟨w.heap.size, 0, none⟩ = some (.int .i64 1) ∧ w'.cell? ⟨w.heap.size, 1, none⟩ = some (.bool true)) (ds := [19]) #[false, false, false, false, false, false, false, false, false, false, false, false, false, false, false, false, false, false, false, false, false] (by kernel_rfl) rfl rfl ⟨(bCe (blk_below HE6.out.f (below_drew (Below.refl _ _))) 0).trans rfl, (bCe (blk_below HE6.out.f (below_drew (Below.refl _ _))) 1).trans rfl⟩ (fun hHeld => ?_)
 refine pure_ (i := 0) (N := some 35) (v := ?_) (a' := ?_) #[true, false, false, false, false, false, false, false, false, false, false, false, false, false, false, false, false, false, false, false, false] rfl rfl (by kernel_rfl) (fun _ _ _ h => h) (Or.inl ⟨by rfl, ?_⟩) ?_ ?_
 rotate_left
 · intro w'
   go_simp
   with_reducible rfl
 rotate_left
 · simp only [Act.put, lSa, lSz, lSs, i64_w, i32_w]
   rfl
 refine pure_ (i := 2) (N := some 37) (v := ?_) (a' := ?_) #[true, false, true, false, false, false, false, false, false, false, false, false, false, false, false, false, false, false, false, false, false] rfl rfl (by kernel_rfl) (fun _ _ _ h => h) (Or.inl ⟨by rfl, ?_⟩) ?_ ?_
 rotate_left
 · intro w'
   go_simp
   with_reducible rfl
 rotate_left
 · simp only [Act.put, lSa, lSz, lSs, i64_w, i32_w]
   rfl
 refine pure_ (i := 9) (N := some 44) (v := ?_) (a' := ?_) #[true, false, true, false, false, false, false, false, false, true, false, false, false, false, false, false, false, false, false, false, false] rfl rfl (by kernel_rfl) (fun _ _ _ h => h) (Or.inl ⟨by rfl, ?_⟩) ?_ ?_
 rotate_left
 · intro w'
   go_simp
   with_reducible rfl
 rotate_left
 · simp only [Act.put, lSa, lSz, lSs, i64_w, i32_w]
   rfl
 refine pure_ (i := 10) (N := some 45) (v := ?_) (a' := ?_) #[true, false, true, false, false, false, false, false, false, true, true, false, false, false, false, false, false, false, false, false, false] rfl rfl (by kernel_rfl) (fun _ _ _ h => h) (Or.inl ⟨by rfl, ?_⟩) ?_ ?_
 rotate_left
 · intro w'
   go_simp
   with_reducible rfl
 rotate_left
 · simp only [Act.put, lSa, lSz, lSs, i64_w, i32_w]
   rfl
 refine pure_ (i := 11) (N := some 46) (v := ?_) (a' := ?_) #[true, false, true, false, false, false, false, false, false, true, true, true, false, false, false, false, false, false, false, false, false] rfl rfl (by kernel_rfl) (fun _ _ _ h => h) (Or.inl ⟨by rfl, ?_⟩) ?_ ?_
 rotate_left
 · intro w'
   go_simp
   with_reducible rfl
 rotate_left
 · simp only [Act.put, lSa, lSz, lSs, i64_w, i32_w]
   rfl
 refine pure_ (i := 14) (N := some 49) (v := ?_) (a' := ?_) #[true, false, true, false, false, false, false, false, false, true, true, true, false, false, true, false, false, false, false, false, false] rfl rfl (by kernel_rfl) (fun _ _ _ h => h) (Or.inl ⟨by rfl, ?_⟩) ?_ ?_
 rotate_left
 · intro w'
   go_simp
   with_reducible rfl
 rotate_left
 · simp only [Act.put, lSa, lSz, lSs, i64_w, i32_w]
   rfl
 refine pure_ (i := 15) (N := some 50) (v := ?_) (a' := ?_) #[true, false, true, false, false, false, false, false, false, true, true, true, false, false, true, true, false, false, false, false, false] rfl rfl (by kernel_rfl) (fun _ _ _ h => h) (Or.inl ⟨by rfl, ?_⟩) ?_ ?_
 rotate_left
 · intro w'
   go_simp
   with_reducible rfl
 rotate_left
 · simp only [Act.put, lSa, lSz, lSs, i64_w, i32_w]
   rfl
 refine pure_ (i := 16) (N := some 51) (v := ?_) (a' := ?_) #[true, false, true, false, false, false, false, false, false, true, true, true, false, false, true, true, true, false, false, false, false] rfl rfl (by kernel_rfl) (fun _ _ _ h => h) (Or.inl ⟨by rfl, ?_⟩) ?_ ?_
 rotate_left
 · intro w'
   go_simp
   with_reducible rfl
 rotate_left
 · simp only [Act.put, lSa, lSz, lSs, i64_w, i32_w]
   rfl
 refine pure_ (i := 17) (N := some 52) (v := ?_) (a' := ?_) #[true, false, true, false, false, false, false, false, false, true, true, true, false, false, true, true, true, true, false, false, false] rfl rfl (by kernel_rfl) (fun _ _ _ h => h) (Or.inl ⟨by rfl, ?_⟩) ?_ ?_
 rotate_left
 · intro w'
   go_simp
   with_reducible rfl
 rotate_left
 · simp only [Act.put, lSa, lSz, lSs, i64_w, i32_w]
   rfl
 refine take_ (i := 1) (N := some 36) (v := ?_) (a' := ?_) #[true, true, true, false, false, false, false, false, false, true, true, true, false, false, true, true, true, true, false, false, false] rfl rfl (by kernel_rfl) (fun _ _ _ h => h) (Or.inl ⟨by rfl, ?_⟩) hHeld ?_ ?_
 rotate_left
 · rintro w' ⟨s0, s1⟩
   go_simp
   with_reducible rfl
 rotate_left
 · simp only [Act.put, lSa, lSz, lSs, i64_w, i32_w]
   rfl
 refine take_ (i := 3) (N := some 38) (v := ?_) (a' := ?_) #[true, true, true, true, false, false, false, false, false, true, true, true, false, false, true, true, true, true, false, false, false] rfl rfl (by kernel_rfl) (fun _ _ _ h => h) (Or.inl ⟨by rfl, ?_⟩) hHeld ?_ ?_
 rotate_left
 · rintro w' ⟨s0, s1⟩
   go_simp
   with_reducible rfl
 rotate_left
 · simp only [Act.put, lSa, lSz, lSs, i64_w, i32_w]
   rfl
 refine pure_ (i := 4) (N := some 39) (v := ?_) (a' := ?_) #[true, true, true, true, true, false, false, false, false, true, true, true, false, false, true, true, true, true, false, false, false] rfl rfl (by kernel_rfl) (fun _ _ _ h => h) (Or.inl ⟨by rfl, ?_⟩) ?_ ?_
 rotate_left
 · intro w'
   go_simp
   with_reducible rfl
 rotate_left
 · simp only [Act.put, lSa, lSz, lSs, i64_w, i32_w]
   rfl
 refine pure_ (i := 5) (N := some 40) (v := undef) (a' := ?_) #[true, true, true, true, true, true, false, false, false, true, true, true, false, false, true, true, true, true, false, false, false] rfl rfl (by kernel_rfl) (fun _ _ _ h => h) (Or.inr ⟨by rfl, rfl⟩) ?_ ?_
 rotate_left
 · simp only [Act.put, lSa, lSz, lSs, i64_w, i32_w]
   rfl
 refine pure_ (i := 6) (N := some 41) (v := undef) (a' := ?_) #[true, true, true, true, true, true, true, false, false, true, true, true, false, false, true, true, true, true, false, false, false] rfl rfl (by kernel_rfl) (fun _ _ _ h => h) (Or.inr ⟨by rfl, rfl⟩) ?_ ?_
 rotate_left
 · simp only [Act.put, lSa, lSz, lSs, i64_w, i32_w]
   rfl
 refine pure_ (i := 7) (N := some 42) (v := ?_) (a' := ?_) #[true, true, true, true, true, true, true, true, false, true, true, true, false, false, true, true, true, true, false, false, false] rfl rfl (by kernel_rfl) (fun _ _ _ h => h) (Or.inl ⟨by rfl, ?_⟩) ?_ ?_
 rotate_left
 · intro w'
   go_simp
   with_reducible rfl
 rotate_left
 · simp only [Act.put, lSa, lSz, lSs, i64_w, i32_w]
   rfl
 refine one_ (i := 8) (N := some 43) #[true, true, true, true, true, true, true, true, true, true, true, true, false, false, true, true, true, true, false, false, false] rfl rfl (by kernel_rfl) (by decide) (fun K hK => ?_)
 refine Kd.R_lit_step (Kd.int .u8) (w0 := w6) w6.heap.size 5 (by rfl) (N := 43) rfl (xs := ([] : List Int)) (inner := []) (ok := fun _ => True) (okp := fun _ => True) ?hr ?hp (fun _ hk => hk) trivial (below_drew (Below.refl _ _)) (Nat.le_refl _) (by simp) ?_
 case hr => first | (go_simp; done) | (go_simp; rfl)
 case hp => exact (Reps.none _ _)
 intro v7 w7 ho7 hb7 hg7 _
 have HO7 := aMk ho7
 have HB7 := aMk hb7
 clear ho7 hb7 hg7
 refine hK.out _ _ ⟨(bCe (blk_below HE6.out.f HB7.out) 0).trans rfl, (bCe (blk_below HE6.out.f HB7.out) 1).trans rfl⟩ (fun hHeld => ?_)
 clear hK K
 refine norm_ (a' := ?_) ?_ ?_
 rotate_left
 · show Act.put _ (some 43) _ = _
   simp only [Act.put, lSa, lSz, lSs, i64_w, i32_w]
   rfl
 refine one_ (i := 12) (N := some 47) #[true, true, true, true, true, true, true, true, true, true, true, true, true, false, true, true, true, true, false, false, false] rfl rfl (by kernel_rfl) (by decide) (fun K hK => ?_)
 refine Kd.R_append_rows_step (Kd.int .u8) (w0 := w6) w6.heap.size (by rfl) (.tmp 43) (.tmp 46) 22 5 (.int .u8 0) 1 rfl Try.underlying22 info5 rfl (by decide) (by decide) _ [] d A3 d.length (c2 - n) (fun _ => True) (fun _ => False) rfl rfl HO7.out (Kd.C_below HD.out HB7.out) ?hKM (fun _ hk => hk.elim) (fun _ _ => trivial) HB7.out (HB7.out.size) ?hlim ?_
 case hKM => intro x cs hx; exact hx
 case hlim => have := HDL.out; simp; omega
 intro v8 w8 ho8 hb8 hg8 _
 obtain ⟨A8, c8, hv8⟩ := Kd.R_slice ho8
 rw [List.nil_append] at ho8 hv8
 subst hv8
 have HO8 := aMk ho8
 have HB8 := aMk hb8
 clear ho8 hb8 hg8 HO7
 refine hK.out _ _ ⟨(bCe (blk_below HE6.out.f HB8.out) 0).trans rfl, (bCe (blk_below HE6.out.f HB8.out) 1).trans rfl⟩ (fun hHeld => ?_)
 clear hK K
 refine norm_ (a' := ?_) ?_ ?_
 rotate_left
 · show Act.put _ (some 47) _ = _
   simp only [Act.put, lSa, lSz, lSs, i64_w, i32_w]
   rfl
 refine pure_ (i := 13) (N := some 48) (v := ?_) (a' := ?_) #[true, true, true, true, true, true, true, true, true, true, true, true, true, true, true, true, true, true, false, false, false] rfl rfl (by kernel_rfl) (fun _ _ _ h => h) (Or.inl ⟨by rfl, ?_⟩) ?_ ?_
 rotate_left
 · intro w'
   go_simp
   with_reducible rfl
 rotate_left
 · simp only [Act.put, lSa, lSz, lSs, i64_w, i32_w]
   rfl
 refine one_ (i := 18) (N := some 53) #[true, true, true, true, true, true, true, true, true, true, true, true, true, true, true, true, true, true, true, false, false] rfl rfl (by kernel_rfl) (by decide) (fun K hK => ?_)
 refine goesV_ Try.func66 (by kernel_rfl) rfl #[.slice A2 n c2, .pointer (some ⟨gF, 0, none⟩), .pointer (some ⟨gC, 0, none⟩)] (by rfl) rfl rfl rfl (by simp only [List.map_toArray, List.map_cons, List.map_nil]; rfl) ?_
 with_reducible refine (HCL.out gF gC A2 c2 w8 ((bCe (blk_below HE6.out.cf HB8.out) 1).trans rfl) ((bCe (blk_below HE6.out.cc HB8.out) 0).trans rfl) (Kd.C_below HT.out HB8.out) HTC.out).mono ?_
 rintro e w9 ⟨rfl, hb⟩
 refine ⟨_, rfl, ?_⟩
 have HB9 := aMk (below_then HB8.out (HB8.out.size) hb)
 have HO9 := aMk (Kd.R_below HO8.out hb)
 clear hb HO8
 refine hK.out _ _ ⟨(bCe (blk_below HE6.out.f HB9.out) 0).trans rfl, (bCe (blk_below HE6.out.f HB9.out) 1).trans rfl⟩ (fun hHeld => ?_)
 clear hK K
 refine norm_ (a' := ?_) ?_ ?_
 rotate_left
 · show Act.put _ (some 53) _ = _
   simp only [Act.put, lSa, lSz, lSs, i64_w, i32_w]
   rfl
 refine last_ (i := 19) (N := none) #[true, true, true, true, true, true, true, true, true, true, true, true, true, true, true, true, true, true, true, true, false] rfl rfl (by kernel_rfl) (by decide) (fun K hK => ?_)
 have hg4 := blk_below HE6.out.r HB9.out
 have hsc0 : w9.cell? ⟨w.heap.size + 1, 0, none⟩ = some (.int .i64 0) := (bCe hg4 0).trans rfl
 have hsc1 : w9.cell? ⟨w.heap.size + 1, 1, none⟩ = some (.bool false) := (bCe hg4 1).trans rfl
 have hsc2 : w9.cell? ⟨w.heap.size + 1, 2, none⟩ = some (.slice none 0 0) := (bCe hg4 2).trans rfl
 have hsf0 : w9.frozen? ⟨w.heap.size + 1, 0, none⟩ = false := bFr hg4 0
 have hsf1 : w9.frozen? ⟨w.heap.size + 1, 1, none⟩ = false := bFr hg4 1
 have hsf2 : w9.frozen? ⟨w.heap.size + 1, 2, none⟩ = false := bFr hg4 2
 replace hg4 := aMk hg4
 refine skip_ (w1 := ?_) (by rfl) rfl ?_ ?_
 rotate_left
 · go_simp
   rfl
 refine hK.out _ _ ?_
 clear hK K
 refine pure_ (i := 20) (N := some 5) (v := ?_) (a' := ?_) #[true, true, true, true, true, true, true, true, true, true, true, true, true, true, true, true, true, true, true, true, true] rfl rfl (by kernel_rfl) (fun _ _ _ h => h) (Or.inl ⟨by rfl, ?_⟩) ?_ ?_
 rotate_left
 · intro w'
   go_simp
   with_reducible rfl
 rotate_left
 · simp only [Act.put, lSa, lSz, lSs, i64_w, i32_w]
   rfl
 refine done_ (by kernel_rfl) ?_
 go_wp2
 have hgb := blk_set (blk_set (blk_set hg4.out 0 (.int .i64 1)) 1 (.bool true)) 2 (.slice A8 d.length c8)
 refine bodyPost_ret (results_list (rs := [.cell 4 38, .tmp 5]) rfl (by simp) (.cell (w.heap.size + 1) 38 _ (0, 0) _ rfl hgb Try.underlying38 rfl (by kernel_rfl) (.tmp .nil))) rfl ?_
 refine ⟨.slice A8 d.length c8, rfl, ?_, bSe (bSe (bSe (below_step HE6.out.b HB9.out) HE6.out.ge) HE6.out.ge) HE6.out.ge⟩
 rw [← HDQ.out]
 exact Kd.R_lower (Kd.R_set (Kd.R_set (Kd.R_set HO9.out hg4.out (by decide) 0 _) (blk_set hg4.out 0 _) (by decide) 1 _) (blk_set (blk_set hg4.out 0 _) 1 _) (by decide) 2 _) HE6.out.b.size
set_option maxHeartbeats 8000000 in
set_option maxRecDepth 100000 in
theorem more_calls1n (A : Option Addr) (c : Nat) (l : List Int) (A1 : Option Addr) (c1 : Nat) (l1 x : List Int) (q n : Nat) (r : ByteArray) (w : World) (hx : x = l ++ l1) (hr : Kd.C (Kd.int .u8) w A l.length l) (hc : l.length ≤ c) (hr1 : Kd.C (Kd.int .u8) w A1 l1.length l1) (hc1 : l1.length ≤ c1) (hl : l.length ≤ 3) (hl1 : l1.length ≤ 60000) (hn : n + q = x.length)
 (hkeep : ∀ (A2 : Option Addr) (c2 : Nat) (w2 : World), Kd.C (Kd.int .u8) w2 A2 x.length x → x.length ≤ c2 → Calls Try.prog 95 #[.agg #[.bool false], .slice A2 x.length c2] w2 fun e w' => e = .returned (.int .i64 (q : Int)) ∧ Below w2.heap.size w2 w')
 (hclo : ∀ (gF gC : Nat) (A2 : Option Addr) (c2 : Nat) (w2 : World), w2.cell? ⟨gF, 1, none⟩ = some (.bool false) → w2.cell? ⟨gC, 0, none⟩ = some (codV 1) → Kd.C (Kd.int .u8) w2 A2 n (x.take n) → n ≤ c2 → Calls Try.prog 66 #[.slice A2 n c2, .pointer (some ⟨gF, 0, none⟩), .pointer (some ⟨gC, 0, none⟩)] w2 fun e w' => e = .returned (.string r) ∧ Below w2.heap.size w2 w') :
 Calls Try.prog 27 #[.agg #[.int .i64 1, .bool false, .slice A l.length c], .slice A1 l1.length c1] w fun en w' => ∃ v, en = .returned (.tuple #[.agg #[.int .i64 1, .bool (false || decide (0 < n)), v], .string r]) ∧ Kd.R (Kd.int .u8) 5 w' w.heap.size (fun _ => True) v (x.drop n) ∧ Below w.heap.size w w' := by
 have hu38 := Try.underlying38
 have HB := aMk (bAl (bAl (Below.refl w.heap.size w) (.cells #[.int .i64 1, .bool false, .slice A l.length c] 38)) (.cells #[.int .i64 0, .bool false, .slice none 0 0] 38))
 have HX := aMk hx
 have HR := aMk hr
 have HC := aMk hc
 have HR1 := aMk hr1
 have HC1 := aMk hc1
 have HL := aMk hl
 have HL1 := aMk hl1
 have HN := aMk hn
 have HK := aMk hkeep
 have HCL := aMk hclo
 have ld1 : decide (60000 < (l1.length : Int)) = false := decide_eq_false (by omega)
 have ld2 : decide (60000 < l1.length) = false := decide_eq_false (by omega)
 clear hx hr hc hr1 hc1 hl hl1 hn hkeep hclo
 go_enter Try.func27, Try.ntmps27
 go_wp2_with (first | (go_at_call 47; refine (rdr_calls1 false A c l _ HL.out).mono ?_; rintro e w1 ⟨gF, gC, rfl, hf, hc, hb⟩; simp only [codV]; have HE : Aside0 (MEnv w w1 1 1 false A l.length c w.heap.size (w.heap.size + 1) gF gC) := ⟨⟨blk_below (bkA (blk_new w _) _) hb, blk_below (by rw [show w.heap.size + 1 = (w.alloc (.cells #[.int .i64 1, .bool false, .slice A l.length c] 38)).heap.size by simp]; exact blk_new _ _) hb, hf, hc, below_step HB.out hb, by omega⟩⟩; have hq2 : w1.cell? ⟨w.heap.size, 2, none⟩ = some (.slice A l.length c) := bCe HE.out.f 2; clear hb hf hc HB) | ((with_reducible refine gate_dst (N := 23) rfl ?_); refine Kd.R_lit (Kd.int .u8) _ 5 ?hg (N := 23) ?hd (xs := ([] : List Int)) (inner := []) (ok := fun _ => True) (okp := fun _ => True) ?hr ?hp (fun _ hk => hk) trivial (Below.refl _ _) (Nat.le_refl _) (by simp) ?_; (case hd => rfl); (case hg => rfl); (case hr => first | (go_simp; done) | (go_simp; rfl)); (case hp => exact (Reps.none _ _)); intro v3 w3 ho3 hb hg_ hnew_; have HE3 := aMk (HE.out.fresh (below_step HE.out.b hb) hg_); have HO3 := aMk (Kd.R_lower ho3 (below_size HE.out.b)); have hq3 : w3.cell? ⟨w.heap.size, 2, none⟩ = some (.slice A l.length c) := bCe HE3.out.f 2; clear hg_ hnew_ hb ho3 HE hq2) | ((with_reducible refine gate_builtin (b := .append) (xs := #[.tmp 23, .tmp 25]) rfl ?_); at_builtin; refine Kd.R_append_rows (Kd.int .u8) (w0 := w) w.heap.size rfl (.tmp 23) (.tmp 25) 22 5 (.int .u8 0) 1 rfl Try.underlying22 info5 rfl (by decide) (by decide) _ [] l A l.length c (fun _ => True) (fun _ => False) rfl rfl HO3.out (Kd.C_below HR.out HE3.out.b) ?hKM (fun _ hk => hk.elim) (fun _ _ => trivial) HE3.out.b (below_size HE3.out.b) ?hlim ?_; (case hKM => intro x cs hx; exact hx); (case hlim => have := HL.out; simp; omega); intro v4 w4 ho4 hb hg_ _; have HE4 := aMk (HE3.out.grown HO3.out hb hg_); have HO4 : Aside0 (Kd.R (Kd.int .u8) 5 w4 w.heap.size (fun _ => True) v4 l) := ⟨ho4⟩; clear hg_ hb ho4 HE3 HO3 hq3) | ((with_reducible refine gate_builtin (b := .append) (xs := #[.tmp 26, .tmp 27]) rfl ?_); at_builtin; refine Kd.R_append_rows (Kd.int .u8) (w0 := w) w.heap.size rfl (.tmp 26) (.tmp 27) 22 5 (.int .u8 0) 1 rfl Try.underlying22 info5 rfl (by decide) (by decide) _ l l1 A1 l1.length c1 (fun _ => True) (fun _ => False) rfl rfl HO4.out (Kd.C_below HR1.out HE4.out.b) ?hKM (fun _ hk => hk.elim) (fun _ _ => trivial) HE4.out.b (below_size HE4.out.b) ?hlim ?_; (case hKM => intro x cs hx; exact hx); (case hlim => have := HL.out; have := HL1.out; simp; omega); intro v5 w5 ho5 hb hg_ _; have HE5 := aMk (HE4.out.grown HO4.out hb hg_); have HO5 := aMk (show Kd.R (Kd.int .u8) 5 w5 w.heap.size (fun _ => True) v5 x by rw [HX.out]; exact ho5); obtain ⟨A2, c2, hv5, hc2, hr2⟩ := Kd.R_reads HO5.out; subst hv5; have HC2 := aMk hc2; have HR2 := aMk hr2; clear hg_ hb ho5 HE4 HO4 hc2 hr2) | (go_at_call 95; refine (HK.out A2 c2 _ HR2.out HC2.out).mono ?_; rintro e w6 ⟨rfl, hb⟩; have HE6 := aMk (HE5.out.below hb); have HR6 := aMk (Kd.C_below HR2.out hb); have hsub : wrap64 ((x.length : Int) - (q : Int)) = (n : Int) := (by have := HN.out; have h1 := HL.out; have h2 := HL1.out; have h3 : x.length = l.length + l1.length := (by rw [HX.out, List.length_append]); unfold wrap64; omega); clear hb HE5 HR2))
 simp only [hsub]
 have hxl : n ≤ x.length := by have := HN.out; omega
 obtain ⟨i0, hi0, _, hz1, _⟩ := info_parts info5
 have hcut1 := cut_to (P := Try.prog) 22 5 .i64 Try.underlying22 hi0 A2 x.length c2 (n : Int) (by omega) (by omega) HC2.out
 have hcut2 := cut_from (P := Try.prog) 22 5 .i64 Try.underlying22 hi0 1 hz1 A2 x.length c2 (n : Int) (by omega) (by omega)
 rw [Int.toNat_natCast] at hcut1 hcut2
 have HD := Kd.C_drop (k := Kd.int .u8) (m := n) (c := c2) HR6.out hxl HC2.out
 have HT := Kd.C_take (k := Kd.int .u8) (m := n) HR6.out hxl
 have hsz1 : (Kd.int .u8).sz = 1 := rfl
 rw [hsz1] at HD
 obtain ⟨A3, hA3⟩ : ∃ A', A' = (if c2 = n then A2 else A2.map (·.add (n * 1))) := ⟨_, rfl⟩
 rw [← hA3] at hcut2 HD
 have hld : (x.drop n).length = x.length - n := List.length_drop
 rw [← hld] at hcut2
 have HDL : Aside0 ((x.drop n).length ≤ 60003) := ⟨by have h1 := HL.out; have h2 := HL1.out; have h3 : x.length = l.length + l1.length := (by rw [HX.out, List.length_append]); omega⟩
 have HTC : Aside0 (n ≤ c2) := ⟨Nat.le_trans hxl HC2.out⟩
 have hlt : (x.take n).length = n := by rw [List.length_take]; omega
 rw [hlt] at HT
 replace HD := aMk HD
 replace HT := aMk HT
 obtain ⟨d, hd⟩ : ∃ d, d = x.drop n := ⟨_, rfl⟩
 rw [← hd] at hcut2 HD HDL
 have HDQ := aMk hd
 clear hlt hd hld hA3 hsz1 hz1 hi0 hxl hsub
 refine start_ (n := 21) (S := fun w' => w'.cell? ⟨w.heap.size, 0, none⟩ = some (.int .i64 1) ∧ w'.cell? ⟨w.heap.size, 1, none⟩ = some (.bool false)) (ds := [19]) #[false, false, false, false, false, false, false, false, false, false, false, false, false, false, false, false, false, false, false, false, false] (by kernel_rfl) rfl rfl ⟨(bCe (blk_below HE6.out.f (below_drew (Below.refl _ _))) 0).trans rfl, (bCe (blk_below HE6.out.f (below_drew (Below.refl _ _))) 1).trans rfl⟩ (fun hHeld => ?_)
 refine pure_ (i := 0) (N := some 35) (v := ?_) (a' := ?_) #[true, false, false, false, false, false, false, false, false, false, false, false, false, false, false, false, false, false, false, false, false] rfl rfl (by kernel_rfl) (fun _ _ _ h => h) (Or.inl ⟨by rfl, ?_⟩) ?_ ?_
 rotate_left
 · intro w'
   go_simp
   with_reducible rfl
 rotate_left
 · simp only [Act.put, lSa, lSz, lSs, i64_w, i32_w]
   rfl
 refine pure_ (i := 2) (N := some 37) (v := ?_) (a' := ?_) #[true, false, true, false, false, false, false, false, false, false, false, false, false, false, false, false, false, false, false, false, false] rfl rfl (by kernel_rfl) (fun _ _ _ h => h) (Or.inl ⟨by rfl, ?_⟩) ?_ ?_
 rotate_left
 · intro w'
   go_simp
   with_reducible rfl
 rotate_left
 · simp only [Act.put, lSa, lSz, lSs, i64_w, i32_w]
   rfl
 refine pure_ (i := 9) (N := some 44) (v := ?_) (a' := ?_) #[true, false, true, false, false, false, false, false, false, true, false, false, false, false, false, false, false, false, false, false, false] rfl rfl (by kernel_rfl) (fun _ _ _ h => h) (Or.inl ⟨by rfl, ?_⟩) ?_ ?_
 rotate_left
 · intro w'
   go_simp
   with_reducible rfl
 rotate_left
 · simp only [Act.put, lSa, lSz, lSs, i64_w, i32_w]
   rfl
 refine pure_ (i := 10) (N := some 45) (v := ?_) (a' := ?_) #[true, false, true, false, false, false, false, false, false, true, true, false, false, false, false, false, false, false, false, false, false] rfl rfl (by kernel_rfl) (fun _ _ _ h => h) (Or.inl ⟨by rfl, ?_⟩) ?_ ?_
 rotate_left
 · intro w'
   go_simp
   with_reducible rfl
 rotate_left
 · simp only [Act.put, lSa, lSz, lSs, i64_w, i32_w]
   rfl
 refine pure_ (i := 11) (N := some 46) (v := ?_) (a' := ?_) #[true, false, true, false, false, false, false, false, false, true, true, true, false, false, false, false, false, false, false, false, false] rfl rfl (by kernel_rfl) (fun _ _ _ h => h) (Or.inl ⟨by rfl, ?_⟩) ?_ ?_
 rotate_left
 · intro w'
   go_simp
   with_reducible rfl
 rotate_left
 · simp only [Act.put, lSa, lSz, lSs, i64_w, i32_w]
   rfl
 refine pure_ (i := 14) (N := some 49) (v := ?_) (a' := ?_) #[true, false, true, false, false, false, false, false, false, true, true, true, false, false, true, false, false, false, false, false, false] rfl rfl (by kernel_rfl) (fun _ _ _ h => h) (Or.inl ⟨by rfl, ?_⟩) ?_ ?_
 rotate_left
 · intro w'
   go_simp
   with_reducible rfl
 rotate_left
 · simp only [Act.put, lSa, lSz, lSs, i64_w, i32_w]
   rfl
 refine pure_ (i := 15) (N := some 50) (v := ?_) (a' := ?_) #[true, false, true, false, false, false, false, false, false, true, true, true, false, false, true, true, false, false, false, false, false] rfl rfl (by kernel_rfl) (fun _ _ _ h => h) (Or.inl ⟨by rfl, ?_⟩) ?_ ?_
 rotate_left
 · intro w'
   go_simp
   with_reducible rfl
 rotate_left
 · simp only [Act.put, lSa, lSz, lSs, i64_w, i32_w]
   rfl
 refine pure_ (i := 16) (N := some 51) (v := ?_) (a' := ?_) #[true, false, true, false, false, false, false, false, false, true, true, true, false, false, true, true, true, false, false, false, false] rfl rfl (by kernel_rfl) (fun _ _ _ h => h) (Or.inl ⟨by rfl, ?_⟩) ?_ ?_
 rotate_left
 · intro w'
   go_simp
   with_reducible rfl
 rotate_left
 · simp only [Act.put, lSa, lSz, lSs, i64_w, i32_w]
   rfl
 refine pure_ (i := 17) (N := some 52) (v := ?_) (a' := ?_) #[true, false, true, false, false, false, false, false, false, true, true, true, false, false, true, true, true, true, false, false, false] rfl rfl (by kernel_rfl) (fun _ _ _ h => h) (Or.inl ⟨by rfl, ?_⟩) ?_ ?_
 rotate_left
 · intro w'
   go_simp
   with_reducible rfl
 rotate_left
 · simp only [Act.put, lSa, lSz, lSs, i64_w, i32_w]
   rfl
 refine take_ (i := 1) (N := some 36) (v := ?_) (a' := ?_) #[true, true, true, false, false, false, false, false, false, true, true, true, false, false, true, true, true, true, false, false, false] rfl rfl (by kernel_rfl) (fun _ _ _ h => h) (Or.inl ⟨by rfl, ?_⟩) hHeld ?_ ?_
 rotate_left
 · rintro w' ⟨s0, s1⟩
   go_simp
   with_reducible rfl
 rotate_left
 · simp only [Act.put, lSa, lSz, lSs, i64_w, i32_w]
   rfl
 refine take_ (i := 3) (N := some 38) (v := ?_) (a' := ?_) #[true, true, true, true, false, false, false, false, false, true, true, true, false, false, true, true, true, true, false, false, false] rfl rfl (by kernel_rfl) (fun _ _ _ h => h) (Or.inl ⟨by rfl, ?_⟩) hHeld ?_ ?_
 rotate_left
 · rintro w' ⟨s0, s1⟩
   go_simp
   with_reducible rfl
 rotate_left
 · simp only [Act.put, lSa, lSz, lSs, i64_w, i32_w]
   rfl
 refine pure_ (i := 4) (N := some 39) (v := ?_) (a' := ?_) #[true, true, true, true, true, false, false, false, false, true, true, true, false, false, true, true, true, true, false, false, false] rfl rfl (by kernel_rfl) (fun _ _ _ h => h) (Or.inl ⟨by rfl, ?_⟩) ?_ ?_
 rotate_left
 · intro w'
   go_simp
   with_reducible rfl
 rotate_left
 · simp only [Act.put, lSa, lSz, lSs, i64_w, i32_w]
   rfl
 refine pure_ (i := 5) (N := some 40) (v := ?_) (a' := ?_) #[true, true, true, true, true, true, false, false, false, true, true, true, false, false, true, true, true, true, false, false, false] rfl rfl (by kernel_rfl) (fun _ _ _ h => h) (Or.inl ⟨by rfl, ?_⟩) ?_ ?_
 rotate_left
 · intro w'
   go_simp
   with_reducible rfl
 rotate_left
 · simp only [Act.put, lSa, lSz, lSs, i64_w, i32_w]
   rfl
 refine pure_ (i := 6) (N := some 41) (v := ?_) (a' := ?_) #[true, true, true, true, true, true, true, false, false, true, true, true, false, false, true, true, true, true, false, false, false] rfl rfl (by kernel_rfl) (fun _ _ _ h => h) (Or.inl ⟨by rfl, ?_⟩) ?_ ?_
 rotate_left
 · intro w'
   go_simp
   with_reducible rfl
 rotate_left
 · simp only [Act.put, lSa, lSz, lSs, i64_w, i32_w]
   rfl
 refine pure_ (i := 7) (N := some 42) (v := ?_) (a' := ?_) #[true, true, true, true, true, true, true, true, false, true, true, true, false, false, true, true, true, true, false, false, false] rfl rfl (by kernel_rfl) (fun _ _ _ h => h) (Or.inl ⟨by rfl, ?_⟩) ?_ ?_
 rotate_left
 · intro w'
   go_simp
   with_reducible rfl
 rotate_left
 · simp only [Act.put, lSa, lSz, lSs, i64_w, i32_w]
   rfl
 refine one_ (i := 8) (N := some 43) #[true, true, true, true, true, true, true, true, true, true, true, true, false, false, true, true, true, true, false, false, false] rfl rfl (by kernel_rfl) (by decide) (fun K hK => ?_)
 refine Kd.R_lit_step (Kd.int .u8) (w0 := w6) w6.heap.size 5 (by rfl) (N := 43) rfl (xs := ([] : List Int)) (inner := []) (ok := fun _ => True) (okp := fun _ => True) ?hr ?hp (fun _ hk => hk) trivial (below_drew (Below.refl _ _)) (Nat.le_refl _) (by simp) ?_
 case hr => first | (go_simp; done) | (go_simp; rfl)
 case hp => exact (Reps.none _ _)
 intro v7 w7 ho7 hb7 hg7 _
 have HO7 := aMk ho7
 have HB7 := aMk hb7
 clear ho7 hb7 hg7
 refine hK.out _ _ ⟨(bCe (blk_below HE6.out.f HB7.out) 0).trans rfl, (bCe (blk_below HE6.out.f HB7.out) 1).trans rfl⟩ (fun hHeld => ?_)
 clear hK K
 refine norm_ (a' := ?_) ?_ ?_
 rotate_left
 · show Act.put _ (some 43) _ = _
   simp only [Act.put, lSa, lSz, lSs, i64_w, i32_w]
   rfl
 refine one_ (i := 12) (N := some 47) #[true, true, true, true, true, true, true, true, true, true, true, true, true, false, true, true, true, true, false, false, false] rfl rfl (by kernel_rfl) (by decide) (fun K hK => ?_)
 refine Kd.R_append_rows_step (Kd.int .u8) (w0 := w6) w6.heap.size (by rfl) (.tmp 43) (.tmp 46) 22 5 (.int .u8 0) 1 rfl Try.underlying22 info5 rfl (by decide) (by decide) _ [] d A3 d.length (c2 - n) (fun _ => True) (fun _ => False) rfl rfl HO7.out (Kd.C_below HD.out HB7.out) ?hKM (fun _ hk => hk.elim) (fun _ _ => trivial) HB7.out (HB7.out.size) ?hlim ?_
 case hKM => intro x cs hx; exact hx
 case hlim => have := HDL.out; simp; omega
 intro v8 w8 ho8 hb8 hg8 _
 obtain ⟨A8, c8, hv8⟩ := Kd.R_slice ho8
 rw [List.nil_append] at ho8 hv8
 subst hv8
 have HO8 := aMk ho8
 have HB8 := aMk hb8
 clear ho8 hb8 hg8 HO7
 refine hK.out _ _ ⟨(bCe (blk_below HE6.out.f HB8.out) 0).trans rfl, (bCe (blk_below HE6.out.f HB8.out) 1).trans rfl⟩ (fun hHeld => ?_)
 clear hK K
 refine norm_ (a' := ?_) ?_ ?_
 rotate_left
 · show Act.put _ (some 47) _ = _
   simp only [Act.put, lSa, lSz, lSs, i64_w, i32_w]
   rfl
 refine pure_ (i := 13) (N := some 48) (v := ?_) (a' := ?_) #[true, true, true, true, true, true, true, true, true, true, true, true, true, true, true, true, true, true, false, false, false] rfl rfl (by kernel_rfl) (fun _ _ _ h => h) (Or.inl ⟨by rfl, ?_⟩) ?_ ?_
 rotate_left
 · intro w'
   go_simp
   with_reducible rfl
 rotate_left
 · simp only [Act.put, lSa, lSz, lSs, i64_w, i32_w]
   rfl
 refine one_ (i := 18) (N := some 53) #[true, true, true, true, true, true, true, true, true, true, true, true, true, true, true, true, true, true, true, false, false] rfl rfl (by kernel_rfl) (by decide) (fun K hK => ?_)
 refine goesV_ Try.func66 (by kernel_rfl) rfl #[.slice A2 n c2, .pointer (some ⟨gF, 0, none⟩), .pointer (some ⟨gC, 0, none⟩)] (by rfl) rfl rfl rfl (by simp only [List.map_toArray, List.map_cons, List.map_nil]; rfl) ?_
 with_reducible refine (HCL.out gF gC A2 c2 w8 ((bCe (blk_below HE6.out.cf HB8.out) 1).trans rfl) ((bCe (blk_below HE6.out.cc HB8.out) 0).trans rfl) (Kd.C_below HT.out HB8.out) HTC.out).mono ?_
 rintro e w9 ⟨rfl, hb⟩
 refine ⟨_, rfl, ?_⟩
 have HB9 := aMk (below_then HB8.out (HB8.out.size) hb)
 have HO9 := aMk (Kd.R_below HO8.out hb)
 clear hb HO8
 refine hK.out _ _ ⟨(bCe (blk_below HE6.out.f HB9.out) 0).trans rfl, (bCe (blk_below HE6.out.f HB9.out) 1).trans rfl⟩ (fun hHeld => ?_)
 clear hK K
 refine norm_ (a' := ?_) ?_ ?_
 rotate_left
 · show Act.put _ (some 53) _ = _
   simp only [Act.put, lSa, lSz, lSs, i64_w, i32_w]
   rfl
 refine last_ (i := 19) (N := none) #[true, true, true, true, true, true, true, true, true, true, true, true, true, true, true, true, true, true, true, true, false] rfl rfl (by kernel_rfl) (by decide) (fun K hK => ?_)
 have hg4 := blk_below HE6.out.r HB9.out
 have hsc0 : w9.cell? ⟨w.heap.size + 1, 0, none⟩ = some (.int .i64 0) := (bCe hg4 0).trans rfl
 have hsc1 : w9.cell? ⟨w.heap.size + 1, 1, none⟩ = some (.bool false) := (bCe hg4 1).trans rfl
 have hsc2 : w9.cell? ⟨w.heap.size + 1, 2, none⟩ = some (.slice none 0 0) := (bCe hg4 2).trans rfl
 have hsf0 : w9.frozen? ⟨w.heap.size + 1, 0, none⟩ = false := bFr hg4 0
 have hsf1 : w9.frozen? ⟨w.heap.size + 1, 1, none⟩ = false := bFr hg4 1
 have hsf2 : w9.frozen? ⟨w.heap.size + 1, 2, none⟩ = false := bFr hg4 2
 replace hg4 := aMk hg4
 refine skip_ (w1 := ?_) (by rfl) rfl ?_ ?_
 rotate_left
 · go_simp
   rfl
 refine hK.out _ _ ?_
 clear hK K
 refine pure_ (i := 20) (N := some 5) (v := ?_) (a' := ?_) #[true, true, true, true, true, true, true, true, true, true, true, true, true, true, true, true, true, true, true, true, true] rfl rfl (by kernel_rfl) (fun _ _ _ h => h) (Or.inl ⟨by rfl, ?_⟩) ?_ ?_
 rotate_left
 · intro w'
   go_simp
   with_reducible rfl
 rotate_left
 · simp only [Act.put, lSa, lSz, lSs, i64_w, i32_w]
   rfl
 refine done_ (by kernel_rfl) ?_
 go_wp2
 have hgb := blk_set (blk_set (blk_set hg4.out 0 (.int .i64 1)) 1 (.bool (decide (0 < n)))) 2 (.slice A8 d.length c8)
 refine bodyPost_ret (results_list (rs := [.cell 4 38, .tmp 5]) rfl (by simp) (.cell (w.heap.size + 1) 38 _ (0, 0) _ rfl hgb Try.underlying38 rfl (by kernel_rfl) (.tmp .nil))) rfl ?_
 refine ⟨.slice A8 d.length c8, rfl, ?_, bSe (bSe (bSe (below_step HE6.out.b HB9.out) HE6.out.ge) HE6.out.ge) HE6.out.ge⟩
 rw [← HDQ.out]
 exact Kd.R_lower (Kd.R_set (Kd.R_set (Kd.R_set HO9.out hg4.out (by decide) 0 _) (blk_set hg4.out 0 _) (by decide) 1 _) (blk_set (blk_set hg4.out 0 _) 1 _) (by decide) 2 _) HE6.out.b.size
set_option maxHeartbeats 8000000 in
set_option maxRecDepth 100000 in
theorem more_calls2b (A : Option Addr) (c : Nat) (l : List Int) (A1 : Option Addr) (c1 : Nat) (l1 x : List Int) (q n : Nat) (r : ByteArray) (w : World) (hx : x = l ++ l1) (hr : Kd.C (Kd.int .u8) w A l.length l) (hc : l.length ≤ c) (hr1 : Kd.C (Kd.int .u8) w A1 l1.length l1) (hc1 : l1.length ≤ c1) (hl : l.length ≤ 3) (hl1 : l1.length ≤ 60000) (hn : n + q = x.length)
 (hkeep : ∀ (A2 : Option Addr) (c2 : Nat) (w2 : World), Kd.C (Kd.int .u8) w2 A2 x.length x → x.length ≤ c2 → Calls Try.prog 95 #[.agg #[.bool true], .slice A2 x.length c2] w2 fun e w' => e = .returned (.int .i64 (q : Int)) ∧ Below w2.heap.size w2 w')
 (hclo : ∀ (gF gC : Nat) (A2 : Option Addr) (c2 : Nat) (w2 : World), w2.cell? ⟨gF, 1, none⟩ = some (.bool true) → w2.cell? ⟨gC, 0, none⟩ = some (codV 2) → Kd.C (Kd.int .u8) w2 A2 n (x.take n) → n ≤ c2 → Calls Try.prog 66 #[.slice A2 n c2, .pointer (some ⟨gF, 0, none⟩), .pointer (some ⟨gC, 0, none⟩)] w2 fun e w' => e = .returned (.string r) ∧ Below w2.heap.size w2 w') :
 Calls Try.prog 27 #[.agg #[.int .i64 2, .bool true, .slice A l.length c], .slice A1 l1.length c1] w fun en w' => ∃ v, en = .returned (.tuple #[.agg #[.int .i64 2, .bool (true || decide (0 < n)), v], .string r]) ∧ Kd.R (Kd.int .u8) 5 w' w.heap.size (fun _ => True) v (x.drop n) ∧ Below w.heap.size w w' := by
 have hu38 := Try.underlying38
 have HB := aMk (bAl (bAl (Below.refl w.heap.size w) (.cells #[.int .i64 2, .bool true, .slice A l.length c] 38)) (.cells #[.int .i64 0, .bool false, .slice none 0 0] 38))
 have HX := aMk hx
 have HR := aMk hr
 have HC := aMk hc
 have HR1 := aMk hr1
 have HC1 := aMk hc1
 have HL := aMk hl
 have HL1 := aMk hl1
 have HN := aMk hn
 have HK := aMk hkeep
 have HCL := aMk hclo
 have ld1 : decide (60000 < (l1.length : Int)) = false := decide_eq_false (by omega)
 have ld2 : decide (60000 < l1.length) = false := decide_eq_false (by omega)
 clear hx hr hc hr1 hc1 hl hl1 hn hkeep hclo
 go_enter Try.func27, Try.ntmps27
 go_wp2_with (first | (go_at_call 47; refine (rdr_calls2 true A c l _ HL.out).mono ?_; rintro e w1 ⟨gF, gC, rfl, hf, hc, hb⟩; simp only [codV]; have HE : Aside0 (MEnv w w1 2 2 true A l.length c w.heap.size (w.heap.size + 1) gF gC) := ⟨⟨blk_below (bkA (blk_new w _) _) hb, blk_below (by rw [show w.heap.size + 1 = (w.alloc (.cells #[.int .i64 2, .bool true, .slice A l.length c] 38)).heap.size by simp]; exact blk_new _ _) hb, hf, hc, below_step HB.out hb, by omega⟩⟩; have hq2 : w1.cell? ⟨w.heap.size, 2, none⟩ = some (.slice A l.length c) := bCe HE.out.f 2; clear hb hf hc HB) | ((with_reducible refine gate_dst (N := 23) rfl ?_); refine Kd.R_lit (Kd.int .u8) _ 5 ?hg (N := 23) ?hd (xs := ([] : List Int)) (inner := []) (ok := fun _ => True) (okp := fun _ => True) ?hr ?hp (fun _ hk => hk) trivial (Below.refl _ _) (Nat.le_refl _) (by simp) ?_; (case hd => rfl); (case hg => rfl); (case hr => first | (go_simp; done) | (go_simp; rfl)); (case hp => exact (Reps.none _ _)); intro v3 w3 ho3 hb hg_ hnew_; have HE3 := aMk (HE.out.fresh (below_step HE.out.b hb) hg_); have HO3 := aMk (Kd.R_lower ho3 (below_size HE.out.b)); have hq3 : w3.cell? ⟨w.heap.size, 2, none⟩ = some (.slice A l.length c) := bCe HE3.out.f 2; clear hg_ hnew_ hb ho3 HE hq2) | ((with_reducible refine gate_builtin (b := .append) (xs := #[.tmp 23, .tmp 25]) rfl ?_); at_builtin; refine Kd.R_append_rows (Kd.int .u8) (w0 := w) w.heap.size rfl (.tmp 23) (.tmp 25) 22 5 (.int .u8 0) 1 rfl Try.underlying22 info5 rfl (by decide) (by decide) _ [] l A l.length c (fun _ => True) (fun _ => False) rfl rfl HO3.out (Kd.C_below HR.out HE3.out.b) ?hKM (fun _ hk => hk.elim) (fun _ _ => trivial) HE3.out.b (below_size HE3.out.b) ?hlim ?_; (case hKM => intro x cs hx; exact hx); (case hlim => have := HL.out; simp; omega); intro v4 w4 ho4 hb hg_ _; have HE4 := aMk (HE3.out.grown HO3.out hb hg_); have HO4 : Aside0 (Kd.R (Kd.int .u8) 5 w4 w.heap.size (fun _ => True) v4 l) := ⟨ho4⟩; clear hg_ hb ho4 HE3 HO3 hq3) | ((with_reducible refine gate_builtin (b := .append) (xs := #[.tmp 26, .tmp 27]) rfl ?_); at_builtin; refine Kd.R_append_rows (Kd.int .u8) (w0 := w) w.heap.size rfl (.tmp 26) (.tmp 27) 22 5 (.int .u8 0) 1 rfl Try.underlying22 info5 rfl (by decide) (by decide) _ l l1 A1 l1.length c1 (fun _ => True) (fun _ => False) rfl rfl HO4.out (Kd.C_below HR1.out HE4.out.b) ?hKM (fun _ hk => hk.elim) (fun _ _ => trivial) HE4.out.b (below_size HE4.out.b) ?hlim ?_; (case hKM => intro x cs hx; exact hx); (case hlim => have := HL.out; have := HL1.out; simp; omega); intro v5 w5 ho5 hb hg_ _; have HE5 := aMk (HE4.out.grown HO4.out hb hg_); have HO5 := aMk (show Kd.R (Kd.int .u8) 5 w5 w.heap.size (fun _ => True) v5 x by rw [HX.out]; exact ho5); obtain ⟨A2, c2, hv5, hc2, hr2⟩ := Kd.R_reads HO5.out; subst hv5; have HC2 := aMk hc2; have HR2 := aMk hr2; clear hg_ hb ho5 HE4 HO4 hc2 hr2) | (go_at_call 95; refine (HK.out A2 c2 _ HR2.out HC2.out).mono ?_; rintro e w6 ⟨rfl, hb⟩; have HE6 := aMk (HE5.out.below hb); have HR6 := aMk (Kd.C_below HR2.out hb); have hsub : wrap64 ((x.length : Int) - (q : Int)) = (n : Int) := (by have := HN.out; have h1 := HL.out; have h2 := HL1.out; have h3 : x.length = l.length + l1.length := (by rw [HX.out, List.length_append]); unfold wrap64; omega); clear hb HE5 HR2))
 simp only [hsub]
 have hxl : n ≤ x.length := by have := HN.out; omega
 obtain ⟨i0, hi0, _, hz1, _⟩ := info_parts info5
 have hcut1 := cut_to (P := Try.prog) 22 5 .i64 Try.underlying22 hi0 A2 x.length c2 (n : Int) (by omega) (by omega) HC2.out
 have hcut2 := cut_from (P := Try.prog) 22 5 .i64 Try.underlying22 hi0 1 hz1 A2 x.length c2 (n : Int) (by omega) (by omega)
 rw [Int.toNat_natCast] at hcut1 hcut2
 have HD := Kd.C_drop (k := Kd.int .u8) (m := n) (c := c2) HR6.out hxl HC2.out
 have HT := Kd.C_take (k := Kd.int .u8) (m := n) HR6.out hxl
 have hsz1 : (Kd.int .u8).sz = 1 := rfl
 rw [hsz1] at HD
 obtain ⟨A3, hA3⟩ : ∃ A', A' = (if c2 = n then A2 else A2.map (·.add (n * 1))) := ⟨_, rfl⟩
 rw [← hA3] at hcut2 HD
 have hld : (x.drop n).length = x.length - n := List.length_drop
 rw [← hld] at hcut2
 have HDL : Aside0 ((x.drop n).length ≤ 60003) := ⟨by have h1 := HL.out; have h2 := HL1.out; have h3 : x.length = l.length + l1.length := (by rw [HX.out, List.length_append]); omega⟩
 have HTC : Aside0 (n ≤ c2) := ⟨Nat.le_trans hxl HC2.out⟩
 have hlt : (x.take n).length = n := by rw [List.length_take]; omega
 rw [hlt] at HT
 replace HD := aMk HD
 replace HT := aMk HT
 obtain ⟨d, hd⟩ : ∃ d, d = x.drop n := ⟨_, rfl⟩
 rw [← hd] at hcut2 HD HDL
 have HDQ := aMk hd
 clear hlt hd hld hA3 hsz1 hz1 hi0 hxl hsub
 refine start_ (n := 21) (S := fun w' => w'.cell? ⟨w.heap.size, 0, none⟩ = some (.int .i64 2) ∧ w'.cell? ⟨w.heap.size, 1, none⟩ = some (.bool true)) (ds := [19]) #[false, false, false, false, false, false, false, false, false, false, false, false, false, false, false, false, false, false, false, false, false] (by kernel_rfl) rfl rfl ⟨(bCe (blk_below HE6.out.f (below_drew (Below.refl _ _))) 0).trans rfl, (bCe (blk_below HE6.out.f (below_drew (Below.refl _ _))) 1).trans rfl⟩ (fun hHeld => ?_)
 refine pure_ (i := 0) (N := some 35) (v := ?_) (a' := ?_) #[true, false, false, false, false, false, false, false, false, false, false, false, false, false, false, false, false, false, false, false, false] rfl rfl (by kernel_rfl) (fun _ _ _ h => h) (Or.inl ⟨by rfl, ?_⟩) ?_ ?_
 rotate_left
 · intro w'
   go_simp
   with_reducible rfl
 rotate_left
 · simp only [Act.put, lSa, lSz, lSs, i64_w, i32_w]
   rfl
 refine pure_ (i := 2) (N := some 37) (v := ?_) (a' := ?_) #[true, false, true, false, false, false, false, false, false, false, false, false, false, false, false, false, false, false, false, false, false] rfl rfl (by kernel_rfl) (fun _ _ _ h => h) (Or.inl ⟨by rfl, ?_⟩) ?_ ?_
 rotate_left
 · intro w'
   go_simp
   with_reducible rfl
 rotate_left
 · simp only [Act.put, lSa, lSz, lSs, i64_w, i32_w]
   rfl
 refine pure_ (i := 9) (N := some 44) (v := ?_) (a' := ?_) #[true, false, true, false, false, false, false, false, false, true, false, false, false, false, false, false, false, false, false, false, false] rfl rfl (by kernel_rfl) (fun _ _ _ h => h) (Or.inl ⟨by rfl, ?_⟩) ?_ ?_
 rotate_left
 · intro w'
   go_simp
   with_reducible rfl
 rotate_left
 · simp only [Act.put, lSa, lSz, lSs, i64_w, i32_w]
   rfl
 refine pure_ (i := 10) (N := some 45) (v := ?_) (a' := ?_) #[true, false, true, false, false, false, false, false, false, true, true, false, false, false, false, false, false, false, false, false, false] rfl rfl (by kernel_rfl) (fun _ _ _ h => h) (Or.inl ⟨by rfl, ?_⟩) ?_ ?_
 rotate_left
 · intro w'
   go_simp
   with_reducible rfl
 rotate_left
 · simp only [Act.put, lSa, lSz, lSs, i64_w, i32_w]
   rfl
 refine pure_ (i := 11) (N := some 46) (v := ?_) (a' := ?_) #[true, false, true, false, false, false, false, false, false, true, true, true, false, false, false, false, false, false, false, false, false] rfl rfl (by kernel_rfl) (fun _ _ _ h => h) (Or.inl ⟨by rfl, ?_⟩) ?_ ?_
 rotate_left
 · intro w'
   go_simp
   with_reducible rfl
 rotate_left
 · simp only [Act.put, lSa, lSz, lSs, i64_w, i32_w]
   rfl
 refine pure_ (i := 14) (N := some 49) (v := ?_) (a' := ?_) #[true, false, true, false, false, false, false, false, false, true, true, true, false, false, true, false, false, false, false, false, false] rfl rfl (by kernel_rfl) (fun _ _ _ h => h) (Or.inl ⟨by rfl, ?_⟩) ?_ ?_
 rotate_left
 · intro w'
   go_simp
   with_reducible rfl
 rotate_left
 · simp only [Act.put, lSa, lSz, lSs, i64_w, i32_w]
   rfl
 refine pure_ (i := 15) (N := some 50) (v := ?_) (a' := ?_) #[true, false, true, false, false, false, false, false, false, true, true, true, false, false, true, true, false, false, false, false, false] rfl rfl (by kernel_rfl) (fun _ _ _ h => h) (Or.inl ⟨by rfl, ?_⟩) ?_ ?_
 rotate_left
 · intro w'
   go_simp
   with_reducible rfl
 rotate_left
 · simp only [Act.put, lSa, lSz, lSs, i64_w, i32_w]
   rfl
 refine pure_ (i := 16) (N := some 51) (v := ?_) (a' := ?_) #[true, false, true, false, false, false, false, false, false, true, true, true, false, false, true, true, true, false, false, false, false] rfl rfl (by kernel_rfl) (fun _ _ _ h => h) (Or.inl ⟨by rfl, ?_⟩) ?_ ?_
 rotate_left
 · intro w'
   go_simp
   with_reducible rfl
 rotate_left
 · simp only [Act.put, lSa, lSz, lSs, i64_w, i32_w]
   rfl
 refine pure_ (i := 17) (N := some 52) (v := ?_) (a' := ?_) #[true, false, true, false, false, false, false, false, false, true, true, true, false, false, true, true, true, true, false, false, false] rfl rfl (by kernel_rfl) (fun _ _ _ h => h) (Or.inl ⟨by rfl, ?_⟩) ?_ ?_
 rotate_left
 · intro w'
   go_simp
   with_reducible rfl
 rotate_left
 · simp only [Act.put, lSa, lSz, lSs, i64_w, i32_w]
   rfl
 refine take_ (i := 1) (N := some 36) (v := ?_) (a' := ?_) #[true, true, true, false, false, false, false, false, false, true, true, true, false, false, true, true, true, true, false, false, false] rfl rfl (by kernel_rfl) (fun _ _ _ h => h) (Or.inl ⟨by rfl, ?_⟩) hHeld ?_ ?_
 rotate_left
 · rintro w' ⟨s0, s1⟩
   go_simp
   with_reducible rfl
 rotate_left
 · simp only [Act.put, lSa, lSz, lSs, i64_w, i32_w]
   rfl
 refine take_ (i := 3) (N := some 38) (v := ?_) (a' := ?_) #[true, true, true, true, false, false, false, false, false, true, true, true, false, false, true, true, true, true, false, false, false] rfl rfl (by kernel_rfl) (fun _ _ _ h => h) (Or.inl ⟨by rfl, ?_⟩) hHeld ?_ ?_
 rotate_left
 · rintro w' ⟨s0, s1⟩
   go_simp
   with_reducible rfl
 rotate_left
 · simp only [Act.put, lSa, lSz, lSs, i64_w, i32_w]
   rfl
 refine pure_ (i := 4) (N := some 39) (v := ?_) (a' := ?_) #[true, true, true, true, true, false, false, false, false, true, true, true, false, false, true, true, true, true, false, false, false] rfl rfl (by kernel_rfl) (fun _ _ _ h => h) (Or.inl ⟨by rfl, ?_⟩) ?_ ?_
 rotate_left
 · intro w'
   go_simp
   with_reducible rfl
 rotate_left
 · simp only [Act.put, lSa, lSz, lSs, i64_w, i32_w]
   rfl
 refine pure_ (i := 5) (N := some 40) (v := undef) (a' := ?_) #[true, true, true, true, true, true, false, false, false, true, true, true, false, false, true, true, true, true, false, false, false] rfl rfl (by kernel_rfl) (fun _ _ _ h => h) (Or.inr ⟨by rfl, rfl⟩) ?_ ?_
 rotate_left
 · simp only [Act.put, lSa, lSz, lSs, i64_w, i32_w]
   rfl
 refine pure_ (i := 6) (N := some 41) (v := undef) (a' := ?_) #[true, true, true, true, true, true, true, false, false, true, true, true, false, false, true, true, true, true, false, false, false] rfl rfl (by kernel_rfl) (fun _ _ _ h => h) (Or.inr ⟨by rfl, rfl⟩) ?_ ?_
 rotate_left
 · simp only [Act.put, lSa, lSz, lSs, i64_w, i32_w]
   rfl
 refine pure_ (i := 7) (N := some 42) (v := ?_) (a' := ?_) #[true, true, true, true, true, true, true, true, false, true, true, true, false, false, true, true, true, true, false, false, false] rfl rfl (by kernel_rfl) (fun _ _ _ h => h) (Or.inl ⟨by rfl, ?_⟩) ?_ ?_
 rotate_left
 · intro w'
   go_simp
   with_reducible rfl
 rotate_left
 · simp only [Act.put, lSa, lSz, lSs, i64_w, i32_w]
   rfl
 refine one_ (i := 8) (N := some 43) #[true, true, true, true, true, true, true, true, true, true, true, true, false, false, true, true, true, true, false, false, false] rfl rfl (by kernel_rfl) (by decide) (fun K hK => ?_)
 refine Kd.R_lit_step (Kd.int .u8) (w0 := w6) w6.heap.size 5 (by rfl) (N := 43) rfl (xs := ([] : List Int)) (inner := []) (ok := fun _ => True) (okp := fun _ => True) ?hr ?hp (fun _ hk => hk) trivial (below_drew (Below.refl _ _)) (Nat.le_refl _) (by simp) ?_
 case hr => first | (go_simp; done) | (go_simp; rfl)
 case hp => exact (Reps.none _ _)
 intro v7 w7 ho7 hb7 hg7 _
 have HO7 := aMk ho7
 have HB7 := aMk hb7
 clear ho7 hb7 hg7
 refine hK.out _ _ ⟨(bCe (blk_below HE6.out.f HB7.out) 0).trans rfl, (bCe (blk_below HE6.out.f HB7.out) 1).trans rfl⟩ (fun hHeld => ?_)
 clear hK K
 refine norm_ (a' := ?_) ?_ ?_
 rotate_left
 · show Act.put _ (some 43) _ = _
   simp only [Act.put, lSa, lSz, lSs, i64_w, i32_w]
   rfl
 refine one_ (i := 12) (N := some 47) #[true, true, true, true, true, true, true, true, true, true, true, true, true, false, true, true, true, true, false, false, false] rfl rfl (by kernel_rfl) (by decide) (fun K hK => ?_)
 refine Kd.R_append_rows_step (Kd.int .u8) (w0 := w6) w6.heap.size (by rfl) (.tmp 43) (.tmp 46) 22 5 (.int .u8 0) 1 rfl Try.underlying22 info5 rfl (by decide) (by decide) _ [] d A3 d.length (c2 - n) (fun _ => True) (fun _ => False) rfl rfl HO7.out (Kd.C_below HD.out HB7.out) ?hKM (fun _ hk => hk.elim) (fun _ _ => trivial) HB7.out (HB7.out.size) ?hlim ?_
 case hKM => intro x cs hx; exact hx
 case hlim => have := HDL.out; simp; omega
 intro v8 w8 ho8 hb8 hg8 _
 obtain ⟨A8, c8, hv8⟩ := Kd.R_slice ho8
 rw [List.nil_append] at ho8 hv8
 subst hv8
 have HO8 := aMk ho8
 have HB8 := aMk hb8
 clear ho8 hb8 hg8 HO7
 refine hK.out _ _ ⟨(bCe (blk_below HE6.out.f HB8.out) 0).trans rfl, (bCe (blk_below HE6.out.f HB8.out) 1).trans rfl⟩ (fun hHeld => ?_)
 clear hK K
 refine norm_ (a' := ?_) ?_ ?_
 rotate_left
 · show Act.put _ (some 47) _ = _
   simp only [Act.put, lSa, lSz, lSs, i64_w, i32_w]
   rfl
 refine pure_ (i := 13) (N := some 48) (v := ?_) (a' := ?_) #[true, true, true, true, true, true, true, true, true, true, true, true, true, true, true, true, true, true, false, false, false] rfl rfl (by kernel_rfl) (fun _ _ _ h => h) (Or.inl ⟨by rfl, ?_⟩) ?_ ?_
 rotate_left
 · intro w'
   go_simp
   with_reducible rfl
 rotate_left
 · simp only [Act.put, lSa, lSz, lSs, i64_w, i32_w]
   rfl
 refine one_ (i := 18) (N := some 53) #[true, true, true, true, true, true, true, true, true, true, true, true, true, true, true, true, true, true, true, false, false] rfl rfl (by kernel_rfl) (by decide) (fun K hK => ?_)
 refine goesV_ Try.func66 (by kernel_rfl) rfl #[.slice A2 n c2, .pointer (some ⟨gF, 0, none⟩), .pointer (some ⟨gC, 0, none⟩)] (by rfl) rfl rfl rfl (by simp only [List.map_toArray, List.map_cons, List.map_nil]; rfl) ?_
 with_reducible refine (HCL.out gF gC A2 c2 w8 ((bCe (blk_below HE6.out.cf HB8.out) 1).trans rfl) ((bCe (blk_below HE6.out.cc HB8.out) 0).trans rfl) (Kd.C_below HT.out HB8.out) HTC.out).mono ?_
 rintro e w9 ⟨rfl, hb⟩
 refine ⟨_, rfl, ?_⟩
 have HB9 := aMk (below_then HB8.out (HB8.out.size) hb)
 have HO9 := aMk (Kd.R_below HO8.out hb)
 clear hb HO8
 refine hK.out _ _ ⟨(bCe (blk_below HE6.out.f HB9.out) 0).trans rfl, (bCe (blk_below HE6.out.f HB9.out) 1).trans rfl⟩ (fun hHeld => ?_)
 clear hK K
 refine norm_ (a' := ?_) ?_ ?_
 rotate_left
 · show Act.put _ (some 53) _ = _
   simp only [Act.put, lSa, lSz, lSs, i64_w, i32_w]
   rfl
 refine last_ (i := 19) (N := none) #[true, true, true, true, true, true, true, true, true, true, true, true, true, true, true, true, true, true, true, true, false] rfl rfl (by kernel_rfl) (by decide) (fun K hK => ?_)
 have hg4 := blk_below HE6.out.r HB9.out
 have hsc0 : w9.cell? ⟨w.heap.size + 1, 0, none⟩ = some (.int .i64 0) := (bCe hg4 0).trans rfl
 have hsc1 : w9.cell? ⟨w.heap.size + 1, 1, none⟩ = some (.bool false) := (bCe hg4 1).trans rfl
 have hsc2 : w9.cell? ⟨w.heap.size + 1, 2, none⟩ = some (.slice none 0 0) := (bCe hg4 2).trans rfl
 have hsf0 : w9.frozen? ⟨w.heap.size + 1, 0, none⟩ = false := bFr hg4 0
 have hsf1 : w9.frozen? ⟨w.heap.size + 1, 1, none⟩ = false := bFr hg4 1
 have hsf2 : w9.frozen? ⟨w.heap.size + 1, 2, none⟩ = false := bFr hg4 2
 replace hg4 := aMk hg4
 refine skip_ (w1 := ?_) (by rfl) rfl ?_ ?_
 rotate_left
 · go_simp
   rfl
 refine hK.out _ _ ?_
 clear hK K
 refine pure_ (i := 20) (N := some 5) (v := ?_) (a' := ?_) #[true, true, true, true, true, true, true, true, true, true, true, true, true, true, true, true, true, true, true, true, true] rfl rfl (by kernel_rfl) (fun _ _ _ h => h) (Or.inl ⟨by rfl, ?_⟩) ?_ ?_
 rotate_left
 · intro w'
   go_simp
   with_reducible rfl
 rotate_left
 · simp only [Act.put, lSa, lSz, lSs, i64_w, i32_w]
   rfl
 refine done_ (by kernel_rfl) ?_
 go_wp2
 have hgb := blk_set (blk_set (blk_set hg4.out 0 (.int .i64 2)) 1 (.bool true)) 2 (.slice A8 d.length c8)
 refine bodyPost_ret (results_list (rs := [.cell 4 38, .tmp 5]) rfl (by simp) (.cell (w.heap.size + 1) 38 _ (0, 0) _ rfl hgb Try.underlying38 rfl (by kernel_rfl) (.tmp .nil))) rfl ?_
 refine ⟨.slice A8 d.length c8, rfl, ?_, bSe (bSe (bSe (below_step HE6.out.b HB9.out) HE6.out.ge) HE6.out.ge) HE6.out.ge⟩
 rw [← HDQ.out]
 exact Kd.R_lower (Kd.R_set (Kd.R_set (Kd.R_set HO9.out hg4.out (by decide) 0 _) (blk_set hg4.out 0 _) (by decide) 1 _) (blk_set (blk_set hg4.out 0 _) 1 _) (by decide) 2 _) HE6.out.b.size
set_option maxHeartbeats 8000000 in
set_option maxRecDepth 100000 in
theorem more_calls2n (A : Option Addr) (c : Nat) (l : List Int) (A1 : Option Addr) (c1 : Nat) (l1 x : List Int) (q n : Nat) (r : ByteArray) (w : World) (hx : x = l ++ l1) (hr : Kd.C (Kd.int .u8) w A l.length l) (hc : l.length ≤ c) (hr1 : Kd.C (Kd.int .u8) w A1 l1.length l1) (hc1 : l1.length ≤ c1) (hl : l.length ≤ 3) (hl1 : l1.length ≤ 60000) (hn : n + q = x.length)
 (hkeep : ∀ (A2 : Option Addr) (c2 : Nat) (w2 : World), Kd.C (Kd.int .u8) w2 A2 x.length x → x.length ≤ c2 → Calls Try.prog 95 #[.agg #[.bool true], .slice A2 x.length c2] w2 fun e w' => e = .returned (.int .i64 (q : Int)) ∧ Below w2.heap.size w2 w')
 (hclo : ∀ (gF gC : Nat) (A2 : Option Addr) (c2 : Nat) (w2 : World), w2.cell? ⟨gF, 1, none⟩ = some (.bool false) → w2.cell? ⟨gC, 0, none⟩ = some (codV 2) → Kd.C (Kd.int .u8) w2 A2 n (x.take n) → n ≤ c2 → Calls Try.prog 66 #[.slice A2 n c2, .pointer (some ⟨gF, 0, none⟩), .pointer (some ⟨gC, 0, none⟩)] w2 fun e w' => e = .returned (.string r) ∧ Below w2.heap.size w2 w') :
 Calls Try.prog 27 #[.agg #[.int .i64 2, .bool false, .slice A l.length c], .slice A1 l1.length c1] w fun en w' => ∃ v, en = .returned (.tuple #[.agg #[.int .i64 2, .bool (false || decide (0 < n)), v], .string r]) ∧ Kd.R (Kd.int .u8) 5 w' w.heap.size (fun _ => True) v (x.drop n) ∧ Below w.heap.size w w' := by
 have hu38 := Try.underlying38
 have HB := aMk (bAl (bAl (Below.refl w.heap.size w) (.cells #[.int .i64 2, .bool false, .slice A l.length c] 38)) (.cells #[.int .i64 0, .bool false, .slice none 0 0] 38))
 have HX := aMk hx
 have HR := aMk hr
 have HC := aMk hc
 have HR1 := aMk hr1
 have HC1 := aMk hc1
 have HL := aMk hl
 have HL1 := aMk hl1
 have HN := aMk hn
 have HK := aMk hkeep
 have HCL := aMk hclo
 have ld1 : decide (60000 < (l1.length : Int)) = false := decide_eq_false (by omega)
 have ld2 : decide (60000 < l1.length) = false := decide_eq_false (by omega)
 clear hx hr hc hr1 hc1 hl hl1 hn hkeep hclo
 go_enter Try.func27, Try.ntmps27
 go_wp2_with (first | (go_at_call 47; refine (rdr_calls2 false A c l _ HL.out).mono ?_; rintro e w1 ⟨gF, gC, rfl, hf, hc, hb⟩; simp only [codV]; have HE : Aside0 (MEnv w w1 2 2 false A l.length c w.heap.size (w.heap.size + 1) gF gC) := ⟨⟨blk_below (bkA (blk_new w _) _) hb, blk_below (by rw [show w.heap.size + 1 = (w.alloc (.cells #[.int .i64 2, .bool false, .slice A l.length c] 38)).heap.size by simp]; exact blk_new _ _) hb, hf, hc, below_step HB.out hb, by omega⟩⟩; have hq2 : w1.cell? ⟨w.heap.size, 2, none⟩ = some (.slice A l.length c) := bCe HE.out.f 2; clear hb hf hc HB) | ((with_reducible refine gate_dst (N := 23) rfl ?_); refine Kd.R_lit (Kd.int .u8) _ 5 ?hg (N := 23) ?hd (xs := ([] : List Int)) (inner := []) (ok := fun _ => True) (okp := fun _ => True) ?hr ?hp (fun _ hk => hk) trivial (Below.refl _ _) (Nat.le_refl _) (by simp) ?_; (case hd => rfl); (case hg => rfl); (case hr => first | (go_simp; done) | (go_simp; rfl)); (case hp => exact (Reps.none _ _)); intro v3 w3 ho3 hb hg_ hnew_; have HE3 := aMk (HE.out.fresh (below_step HE.out.b hb) hg_); have HO3 := aMk (Kd.R_lower ho3 (below_size HE.out.b)); have hq3 : w3.cell? ⟨w.heap.size, 2, none⟩ = some (.slice A l.length c) := bCe HE3.out.f 2; clear hg_ hnew_ hb ho3 HE hq2) | ((with_reducible refine gate_builtin (b := .append) (xs := #[.tmp 23, .tmp 25]) rfl ?_); at_builtin; refine Kd.R_append_rows (Kd.int .u8) (w0 := w) w.heap.size rfl (.tmp 23) (.tmp 25) 22 5 (.int .u8 0) 1 rfl Try.underlying22 info5 rfl (by decide) (by decide) _ [] l A l.length c (fun _ => True) (fun _ => False) rfl rfl HO3.out (Kd.C_below HR.out HE3.out.b) ?hKM (fun _ hk => hk.elim) (fun _ _ => trivial) HE3.out.b (below_size HE3.out.b) ?hlim ?_; (case hKM => intro x cs hx; exact hx); (case hlim => have := HL.out; simp; omega); intro v4 w4 ho4 hb hg_ _; have HE4 := aMk (HE3.out.grown HO3.out hb hg_); have HO4 : Aside0 (Kd.R (Kd.int .u8) 5 w4 w.heap.size (fun _ => True) v4 l) := ⟨ho4⟩; clear hg_ hb ho4 HE3 HO3 hq3) | ((with_reducible refine gate_builtin (b := .append) (xs := #[.tmp 26, .tmp 27]) rfl ?_); at_builtin; refine Kd.R_append_rows (Kd.int .u8) (w0 := w) w.heap.size rfl (.tmp 26) (.tmp 27) 22 5 (.int .u8 0) 1 rfl Try.underlying22 info5 rfl (by decide) (by decide) _ l l1 A1 l1.length c1 (fun _ => True) (fun _ => False) rfl rfl HO4.out (Kd.C_below HR1.out HE4.out.b) ?hKM (fun _ hk => hk.elim) (fun _ _ => trivial) HE4.out.b (below_size HE4.out.b) ?hlim ?_; (case hKM => intro x cs hx; exact hx); (case hlim => have := HL.out; have := HL1.out; simp; omega); intro v5 w5 ho5 hb hg_ _; have HE5 := aMk (HE4.out.grown HO4.out hb hg_); have HO5 := aMk (show Kd.R (Kd.int .u8) 5 w5 w.heap.size (fun _ => True) v5 x by rw [HX.out]; exact ho5); obtain ⟨A2, c2, hv5, hc2, hr2⟩ := Kd.R_reads HO5.out; subst hv5; have HC2 := aMk hc2; have HR2 := aMk hr2; clear hg_ hb ho5 HE4 HO4 hc2 hr2) | (go_at_call 95; refine (HK.out A2 c2 _ HR2.out HC2.out).mono ?_; rintro e w6 ⟨rfl, hb⟩; have HE6 := aMk (HE5.out.below hb); have HR6 := aMk (Kd.C_below HR2.out hb); have hsub : wrap64 ((x.length : Int) - (q : Int)) = (n : Int) := (by have := HN.out; have h1 := HL.out; have h2 := HL1.out; have h3 : x.length = l.length + l1.length := (by rw [HX.out, List.length_append]); unfold wrap64; omega); clear hb HE5 HR2))
 simp only [hsub]
 have hxl : n ≤ x.length := by have := HN.out; omega
 obtain ⟨i0, hi0, _, hz1, _⟩ := info_parts info5
 have hcut1 := cut_to (P := Try.prog) 22 5 .i64 Try.underlying22 hi0 A2 x.length c2 (n : Int) (by omega) (by omega) HC2.out
 have hcut2 := cut_from (P := Try.prog) 22 5 .i64 Try.underlying22 hi0 1 hz1 A2 x.length c2 (n : Int) (by omega) (by omega)
 rw [Int.toNat_natCast] at hcut1 hcut2
 have HD := Kd.C_drop (k := Kd.int .u8) (m := n) (c := c2) HR6.out hxl HC2.out
 have HT := Kd.C_take (k := Kd.int .u8) (m := n) HR6.out hxl
 have hsz1 : (Kd.int .u8).sz = 1 := rfl
 rw [hsz1] at HD
 obtain ⟨A3, hA3⟩ : ∃ A', A' = (if c2 = n then A2 else A2.map (·.add (n * 1))) := ⟨_, rfl⟩
 rw [← hA3] at hcut2 HD
 have hld : (x.drop n).length = x.length - n := List.length_drop
 rw [← hld] at hcut2
 have HDL : Aside0 ((x.drop n).length ≤ 60003) := ⟨by have h1 := HL.out; have h2 := HL1.out; have h3 : x.length = l.length + l1.length := (by rw [HX.out, List.length_append]); omega⟩
 have HTC : Aside0 (n ≤ c2) := ⟨Nat.le_trans hxl HC2.out⟩
 have hlt : (x.take n).length = n := by rw [List.length_take]; omega
 rw [hlt] at HT
 replace HD := aMk HD
 replace HT := aMk HT
 obtain ⟨d, hd⟩ : ∃ d, d = x.drop n := ⟨_, rfl⟩
 rw [← hd] at hcut2 HD HDL
 have HDQ := aMk hd
 clear hlt hd hld hA3 hsz1 hz1 hi0 hxl hsub
 refine start_ (n := 21) (S := fun w' => w'.cell? ⟨w.heap.size, 0, none⟩ = some (.int .i64 2) ∧ w'.cell? ⟨w.heap.size, 1, none⟩ = some (.bool false)) (ds := [19]) #[false, false, false, false, false, false, false, false, false, false, false, false, false, false, false, false, false, false, false, false, false] (by kernel_rfl) rfl rfl ⟨(bCe (blk_below HE6.out.f (below_drew (Below.refl _ _))) 0).trans rfl, (bCe (blk_below HE6.out.f (below_drew (Below.refl _ _))) 1).trans rfl⟩ (fun hHeld => ?_)
 refine pure_ (i := 0) (N := some 35) (v := ?_) (a' := ?_) #[true, false, false, false, false, false, false, false, false, false, false, false, false, false, false, false, false, false, false, false, false] rfl rfl (by kernel_rfl) (fun _ _ _ h => h) (Or.inl ⟨by rfl, ?_⟩) ?_ ?_
 rotate_left
 · intro w'
   go_simp
   with_reducible rfl
 rotate_left
 · simp only [Act.put, lSa, lSz, lSs, i64_w, i32_w]
   rfl
 refine pure_ (i := 2) (N := some 37) (v := ?_) (a' := ?_) #[true, false, true, false, false, false, false, false, false, false, false, false, false, false, false, false, false, false, false, false, false] rfl rfl (by kernel_rfl) (fun _ _ _ h => h) (Or.inl ⟨by rfl, ?_⟩) ?_ ?_
 rotate_left
 · intro w'
   go_simp
   with_reducible rfl
 rotate_left
 · simp only [Act.put, lSa, lSz, lSs, i64_w, i32_w]
   rfl
 refine pure_ (i := 9) (N := some 44) (v := ?_) (a' := ?_) #[true, false, true, false, false, false, false, false, false, true, false, false, false, false, false, false, false, false, false, false, false] rfl rfl (by kernel_rfl) (fun _ _ _ h => h) (Or.inl ⟨by rfl, ?_⟩) ?_ ?_
 rotate_left
 · intro w'
   go_simp
   with_reducible rfl
 rotate_left
 · simp only [Act.put, lSa, lSz, lSs, i64_w, i32_w]
   rfl
 refine pure_ (i := 10) (N := some 45) (v := ?_) (a' := ?_) #[true, false, true, false, false, false, false, false, false, true, true, false, false, false, false, false, false, false, false, false, false] rfl rfl (by kernel_rfl) (fun _ _ _ h => h) (Or.inl ⟨by rfl, ?_⟩) ?_ ?_
 rotate_left
 · intro w'
   go_simp
   with_reducible rfl
 rotate_left
 · simp only [Act.put, lSa, lSz, lSs, i64_w, i32_w]
   rfl
 refine pure_ (i := 11) (N := some 46) (v := ?_) (a' := ?_) #[true, false, true, false, false, false, false, false, false, true, true, true, false, false, false, false, false, false, false, false, false] rfl rfl (by kernel_rfl) (fun _ _ _ h => h) (Or.inl ⟨by rfl, ?_⟩) ?_ ?_
 rotate_left
 · intro w'
   go_simp
   with_reducible rfl
 rotate_left
 · simp only [Act.put, lSa, lSz, lSs, i64_w, i32_w]
   rfl
 refine pure_ (i := 14) (N := some 49) (v := ?_) (a' := ?_) #[true, false, true, false, false, false, false, false, false, true, true, true, false, false, true, false, false, false, false, false, false] rfl rfl (by kernel_rfl) (fun _ _ _ h => h) (Or.inl ⟨by rfl, ?_⟩) ?_ ?_
 rotate_left
 · intro w'
   go_simp
   with_reducible rfl
 rotate_left
 · simp only [Act.put, lSa, lSz, lSs, i64_w, i32_w]
   rfl
 refine pure_ (i := 15) (N := some 50) (v := ?_) (a' := ?_) #[true, false, true, false, false, false, false, false, false, true, true, true, false, false, true, true, false, false, false, false, false] rfl rfl (by kernel_rfl) (fun _ _ _ h => h) (Or.inl ⟨by rfl, ?_⟩) ?_ ?_
 rotate_left
 · intro w'
   go_simp
   with_reducible rfl
 rotate_left
 · simp only [Act.put, lSa, lSz, lSs, i64_w, i32_w]
   rfl
 refine pure_ (i := 16) (N := some 51) (v := ?_) (a' := ?_) #[true, false, true, false, false, false, false, false, false, true, true, true, false, false, true, true, true, false, false, false, false] rfl rfl (by kernel_rfl) (fun _ _ _ h => h) (Or.inl ⟨by rfl, ?_⟩) ?_ ?_
 rotate_left
 · intro w'
   go_simp
   with_reducible rfl
 rotate_left
 · simp only [Act.put, lSa, lSz, lSs, i64_w, i32_w]
   rfl
 refine pure_ (i := 17) (N := some 52) (v := ?_) (a' := ?_) #[true, false, true, false, false, false, false, false, false, true, true, true, false, false, true, true, true, true, false, false, false] rfl rfl (by kernel_rfl) (fun _ _ _ h => h) (Or.inl ⟨by rfl, ?_⟩) ?_ ?_
 rotate_left
 · intro w'
   go_simp
   with_reducible rfl
 rotate_left
 · simp only [Act.put, lSa, lSz, lSs, i64_w, i32_w]
   rfl
 refine take_ (i := 1) (N := some 36) (v := ?_) (a' := ?_) #[true, true, true, false, false, false, false, false, false, true, true, true, false, false, true, true, true, true, false, false, false] rfl rfl (by kernel_rfl) (fun _ _ _ h => h) (Or.inl ⟨by rfl, ?_⟩) hHeld ?_ ?_
 rotate_left
 · rintro w' ⟨s0, s1⟩
   go_simp
   with_reducible rfl
 rotate_left
 · simp only [Act.put, lSa, lSz, lSs, i64_w, i32_w]
   rfl
 refine take_ (i := 3) (N := some 38) (v := ?_) (a' := ?_) #[true, true, true, true, false, false, false, false, false, true, true, true, false, false, true, true, true, true, false, false, false] rfl rfl (by kernel_rfl) (fun _ _ _ h => h) (Or.inl ⟨by rfl, ?_⟩) hHeld ?_ ?_
 rotate_left
 · rintro w' ⟨s0, s1⟩
   go_simp
   with_reducible rfl
 rotate_left
 · simp only [Act.put, lSa, lSz, lSs, i64_w, i32_w]
   rfl
 refine pure_ (i := 4) (N := some 39) (v := ?_) (a' := ?_) #[true, true, true, true, true, false, false, false, false, true, true, true, false, false, true, true, true, true, false, false, false] rfl rfl (by kernel_rfl) (fun _ _ _ h => h) (Or.inl ⟨by rfl, ?_⟩) ?_ ?_
 rotate_left
 · intro w'
   go_simp
   with_reducible rfl
 rotate_left
 · simp only [Act.put, lSa, lSz, lSs, i64_w, i32_w]
   rfl
 refine pure_ (i := 5) (N := some 40) (v := ?_) (a' := ?_) #[true, true, true, true, true, true, false, false, false, true, true, true, false, false, true, true, true, true, false, false, false] rfl rfl (by kernel_rfl) (fun _ _ _ h => h) (Or.inl ⟨by rfl, ?_⟩) ?_ ?_
 rotate_left
 · intro w'
   go_simp
   with_reducible rfl
 rotate_left
 · simp only [Act.put, lSa, lSz, lSs, i64_w, i32_w]
   rfl
 refine pure_ (i := 6) (N := some 41) (v := ?_) (a' := ?_) #[true, true, true, true, true, true, true, false, false, true, true, true, false, false, true, true, true, true, false, false, false] rfl rfl (by kernel_rfl) (fun _ _ _ h => h) (Or.inl ⟨by rfl, ?_⟩) ?_ ?_
 rotate_left
 · intro w'
   go_simp
   with_reducible rfl
 rotate_left
 · simp only [Act.put, lSa, lSz, lSs, i64_w, i32_w]
   rfl
 refine pure_ (i := 7) (N := some 42) (v := ?_) (a' := ?_) #[true, true, true, true, true, true, true, true, false, true, true, true, false, false, true, true, true, true, false, false, false] rfl rfl (by kernel_rfl) (fun _ _ _ h => h) (Or.inl ⟨by rfl, ?_⟩) ?_ ?_
 rotate_left
 · intro w'
   go_simp
   with_reducible rfl
 rotate_left
 · simp only [Act.put, lSa, lSz, lSs, i64_w, i32_w]
   rfl
 refine one_ (i := 8) (N := some 43) #[true, true, true, true, true, true, true, true, true, true, true, true, false, false, true, true, true, true, false, false, false] rfl rfl (by kernel_rfl) (by decide) (fun K hK => ?_)
 refine Kd.R_lit_step (Kd.int .u8) (w0 := w6) w6.heap.size 5 (by rfl) (N := 43) rfl (xs := ([] : List Int)) (inner := []) (ok := fun _ => True) (okp := fun _ => True) ?hr ?hp (fun _ hk => hk) trivial (below_drew (Below.refl _ _)) (Nat.le_refl _) (by simp) ?_
 case hr => first | (go_simp; done) | (go_simp; rfl)
 case hp => exact (Reps.none _ _)
 intro v7 w7 ho7 hb7 hg7 _
 have HO7 := aMk ho7
 have HB7 := aMk hb7
 clear ho7 hb7 hg7
 refine hK.out _ _ ⟨(bCe (blk_below HE6.out.f HB7.out) 0).trans rfl, (bCe (blk_below HE6.out.f HB7.out) 1).trans rfl⟩ (fun hHeld => ?_)
 clear hK K
 refine norm_ (a' := ?_) ?_ ?_
 rotate_left
 · show Act.put _ (some 43) _ = _
   simp only [Act.put, lSa, lSz, lSs, i64_w, i32_w]
   rfl
 refine one_ (i := 12) (N := some 47) #[true, true, true, true, true, true, true, true, true, true, true, true, true, false, true, true, true, true, false, false, false] rfl rfl (by kernel_rfl) (by decide) (fun K hK => ?_)
 refine Kd.R_append_rows_step (Kd.int .u8) (w0 := w6) w6.heap.size (by rfl) (.tmp 43) (.tmp 46) 22 5 (.int .u8 0) 1 rfl Try.underlying22 info5 rfl (by decide) (by decide) _ [] d A3 d.length (c2 - n) (fun _ => True) (fun _ => False) rfl rfl HO7.out (Kd.C_below HD.out HB7.out) ?hKM (fun _ hk => hk.elim) (fun _ _ => trivial) HB7.out (HB7.out.size) ?hlim ?_
 case hKM => intro x cs hx; exact hx
 case hlim => have := HDL.out; simp; omega
 intro v8 w8 ho8 hb8 hg8 _
 obtain ⟨A8, c8, hv8⟩ := Kd.R_slice ho8
 rw [List.nil_append] at ho8 hv8
 subst hv8
 have HO8 := aMk ho8
 have HB8 := aMk hb8
 clear ho8 hb8 hg8 HO7
 refine hK.out _ _ ⟨(bCe (blk_below HE6.out.f HB8.out) 0).trans rfl, (bCe (blk_below HE6.out.f HB8.out) 1).trans rfl⟩ (fun hHeld => ?_)
 clear hK K
 refine norm_ (a' := ?_) ?_ ?_
 rotate_left
 · show Act.put _ (some 47) _ = _
   simp only [Act.put, lSa, lSz, lSs, i64_w, i32_w]
   rfl
 refine pure_ (i := 13) (N := some 48) (v := ?_) (a' := ?_) #[true, true, true, true, true, true, true, true, true, true, true, true, true, true, true, true, true, true, false, false, false] rfl rfl (by kernel_rfl) (fun _ _ _ h => h) (Or.inl ⟨by rfl, ?_⟩) ?_ ?_
 rotate_left
 · intro w'
   go_simp
   with_reducible rfl
 rotate_left
 · simp only [Act.put, lSa, lSz, lSs, i64_w, i32_w]
   rfl
 refine one_ (i := 18) (N := some 53) #[true, true, true, true, true, true, true, true, true, true, true, true, true, true, true, true, true, true, true, false, false] rfl rfl (by kernel_rfl) (by decide) (fun K hK => ?_)
 refine goesV_ Try.func66 (by kernel_rfl) rfl #[.slice A2 n c2, .pointer (some ⟨gF, 0, none⟩), .pointer (some ⟨gC, 0, none⟩)] (by rfl) rfl rfl rfl (by simp only [List.map_toArray, List.map_cons, List.map_nil]; rfl) ?_
 with_reducible refine (HCL.out gF gC A2 c2 w8 ((bCe (blk_below HE6.out.cf HB8.out) 1).trans rfl) ((bCe (blk_below HE6.out.cc HB8.out) 0).trans rfl) (Kd.C_below HT.out HB8.out) HTC.out).mono ?_
 rintro e w9 ⟨rfl, hb⟩
 refine ⟨_, rfl, ?_⟩
 have HB9 := aMk (below_then HB8.out (HB8.out.size) hb)
 have HO9 := aMk (Kd.R_below HO8.out hb)
 clear hb HO8
 refine hK.out _ _ ⟨(bCe (blk_below HE6.out.f HB9.out) 0).trans rfl, (bCe (blk_below HE6.out.f HB9.out) 1).trans rfl⟩ (fun hHeld => ?_)
 clear hK K
 refine norm_ (a' := ?_) ?_ ?_
 rotate_left
 · show Act.put _ (some 53) _ = _
   simp only [Act.put, lSa, lSz, lSs, i64_w, i32_w]
   rfl
 refine last_ (i := 19) (N := none) #[true, true, true, true, true, true, true, true, true, true, true, true, true, true, true, true, true, true, true, true, false] rfl rfl (by kernel_rfl) (by decide) (fun K hK => ?_)
 have hg4 := blk_below HE6.out.r HB9.out
 have hsc0 : w9.cell? ⟨w.heap.size + 1, 0, none⟩ = some (.int .i64 0) := (bCe hg4 0).trans rfl
 have hsc1 : w9.cell? ⟨w.heap.size + 1, 1, none⟩ = some (.bool false) := (bCe hg4 1).trans rfl
 have hsc2 : w9.cell? ⟨w.heap.size + 1, 2, none⟩ = some (.slice none 0 0) := (bCe hg4 2).trans rfl
 have hsf0 : w9.frozen? ⟨w.heap.size + 1, 0, none⟩ = false := bFr hg4 0
 have hsf1 : w9.frozen? ⟨w.heap.size + 1, 1, none⟩ = false := bFr hg4 1
 have hsf2 : w9.frozen? ⟨w.heap.size + 1, 2, none⟩ = false := bFr hg4 2
 replace hg4 := aMk hg4
 refine skip_ (w1 := ?_) (by rfl) rfl ?_ ?_
 rotate_left
 · go_simp
   rfl
 refine hK.out _ _ ?_
 clear hK K
 refine pure_ (i := 20) (N := some 5) (v := ?_) (a' := ?_) #[true, true, true, true, true, true, true, true, true, true, true, true, true, true, true, true, true, true, true, true, true] rfl rfl (by kernel_rfl) (fun _ _ _ h => h) (Or.inl ⟨by rfl, ?_⟩) ?_ ?_
 rotate_left
 · intro w'
   go_simp
   with_reducible rfl
 rotate_left
 · simp only [Act.put, lSa, lSz, lSs, i64_w, i32_w]
   rfl
 refine done_ (by kernel_rfl) ?_
 go_wp2
 have hgb := blk_set (blk_set (blk_set hg4.out 0 (.int .i64 2)) 1 (.bool (decide (0 < n)))) 2 (.slice A8 d.length c8)
 refine bodyPost_ret (results_list (rs := [.cell 4 38, .tmp 5]) rfl (by simp) (.cell (w.heap.size + 1) 38 _ (0, 0) _ rfl hgb Try.underlying38 rfl (by kernel_rfl) (.tmp .nil))) rfl ?_
 refine ⟨.slice A8 d.length c8, rfl, ?_, bSe (bSe (bSe (below_step HE6.out.b HB9.out) HE6.out.ge) HE6.out.ge) HE6.out.ge⟩
 rw [← HDQ.out]
 exact Kd.R_lower (Kd.R_set (Kd.R_set (Kd.R_set HO9.out hg4.out (by decide) 0 _) (blk_set hg4.out 0 _) (by decide) 1 _) (blk_set (blk_set hg4.out 0 _) 1 _) (by decide) 2 _) HE6.out.b.size
set_option maxHeartbeats 8000000 in
set_option maxRecDepth 100000 in
theorem more_calls3b (A : Option Addr) (c : Nat) (l : List Int) (A1 : Option Addr) (c1 : Nat) (l1 x : List Int) (q n : Nat) (r : ByteArray) (w : World) (hx : x = l ++ l1) (hr : Kd.C (Kd.int .u8) w A l.length l) (hc : l.length ≤ c) (hr1 : Kd.C (Kd.int .u8) w A1 l1.length l1) (hc1 : l1.length ≤ c1) (hl : l.length ≤ 3) (hl1 : l1.length ≤ 60000) (hn : n + q = x.length)
 (hkeep : ∀ (A2 : Option Addr) (c2 : Nat) (w2 : World), Kd.C (Kd.int .u8) w2 A2 x.length x → x.length ≤ c2 → Calls Try.prog 101 #[.agg #[], .slice A2 x.length c2] w2 fun e w' => e = .returned (.int .i64 (q : Int)) ∧ Below w2.heap.size w2 w')
 (hclo : ∀ (gF gC : Nat) (A2 : Option Addr) (c2 : Nat) (w2 : World), w2.cell? ⟨gF, 1, none⟩ = some (.bool true) → w2.cell? ⟨gC, 0, none⟩ = some (codV 3) → Kd.C (Kd.int .u8) w2 A2 n (x.take n) → n ≤ c2 → Calls Try.prog 66 #[.slice A2 n c2, .pointer (some ⟨gF, 0, none⟩), .pointer (some ⟨gC, 0, none⟩)] w2 fun e w' => e = .returned (.string r) ∧ Below w2.heap.size w2 w') :
 Calls Try.prog 27 #[.agg #[.int .i64 3, .bool true, .slice A l.length c], .slice A1 l1.length c1] w fun en w' => ∃ v, en = .returned (.tuple #[.agg #[.int .i64 3, .bool (true || decide (0 < n)), v], .string r]) ∧ Kd.R (Kd.int .u8) 5 w' w.heap.size (fun _ => True) v (x.drop n) ∧ Below w.heap.size w w' := by
 have hu38 := Try.underlying38
 have HB := aMk (bAl (bAl (Below.refl w.heap.size w) (.cells #[.int .i64 3, .bool true, .slice A l.length c] 38)) (.cells #[.int .i64 0, .bool false, .slice none 0 0] 38))
 have HX := aMk hx
 have HR := aMk hr
 have HC := aMk hc
 have HR1 := aMk hr1
 have HC1 := aMk hc1
 have HL := aMk hl
 have HL1 := aMk hl1
 have HN := aMk hn
 have HK := aMk hkeep
 have HCL := aMk hclo
 have ld1 : decide (60000 < (l1.length : Int)) = false := decide_eq_false (by omega)
 have ld2 : decide (60000 < l1.length) = false := decide_eq_false (by omega)
 clear hx hr hc hr1 hc1 hl hl1 hn hkeep hclo
 go_enter Try.func27, Try.ntmps27
 go_wp2_with (first | (go_at_call 47; refine (rdr_calls3 true A c l _ HL.out).mono ?_; rintro e w1 ⟨gF, gC, rfl, hf, hc, hb⟩; simp only [codV]; have HE : Aside0 (MEnv w w1 3 3 true A l.length c w.heap.size (w.heap.size + 1) gF gC) := ⟨⟨blk_below (bkA (blk_new w _) _) hb, blk_below (by rw [show w.heap.size + 1 = (w.alloc (.cells #[.int .i64 3, .bool true, .slice A l.length c] 38)).heap.size by simp]; exact blk_new _ _) hb, hf, hc, below_step HB.out hb, by omega⟩⟩; have hq2 : w1.cell? ⟨w.heap.size, 2, none⟩ = some (.slice A l.length c) := bCe HE.out.f 2; clear hb hf hc HB) | ((with_reducible refine gate_dst (N := 23) rfl ?_); refine Kd.R_lit (Kd.int .u8) _ 5 ?hg (N := 23) ?hd (xs := ([] : List Int)) (inner := []) (ok := fun _ => True) (okp := fun _ => True) ?hr ?hp (fun _ hk => hk) trivial (Below.refl _ _) (Nat.le_refl _) (by simp) ?_; (case hd => rfl); (case hg => rfl); (case hr => first | (go_simp; done) | (go_simp; rfl)); (case hp => exact (Reps.none _ _)); intro v3 w3 ho3 hb hg_ hnew_; have HE3 := aMk (HE.out.fresh (below_step HE.out.b hb) hg_); have HO3 := aMk (Kd.R_lower ho3 (below_size HE.out.b)); have hq3 : w3.cell? ⟨w.heap.size, 2, none⟩ = some (.slice A l.length c) := bCe HE3.out.f 2; clear hg_ hnew_ hb ho3 HE hq2) | ((with_reducible refine gate_builtin (b := .append) (xs := #[.tmp 23, .tmp 25]) rfl ?_); at_builtin; refine Kd.R_append_rows (Kd.int .u8) (w0 := w) w.heap.size rfl (.tmp 23) (.tmp 25) 22 5 (.int .u8 0) 1 rfl Try.underlying22 info5 rfl (by decide) (by decide) _ [] l A l.length c (fun _ => True) (fun _ => False) rfl rfl HO3.out (Kd.C_below HR.out HE3.out.b) ?hKM (fun _ hk => hk.elim) (fun _ _ => trivial) HE3.out.b (below_size HE3.out.b) ?hlim ?_; (case hKM => intro x cs hx; exact hx); (case hlim => have := HL.out; simp; omega); intro v4 w4 ho4 hb hg_ _; have HE4 := aMk (HE3.out.grown HO3.out hb hg_); have HO4 : Aside0 (Kd.R (Kd.int .u8) 5 w4 w.heap.size (fun _ => True) v4 l) := ⟨ho4⟩; clear hg_ hb ho4 HE3 HO3 hq3) | ((with_reducible refine gate_builtin (b := .append) (xs := #[.tmp 26, .tmp 27]) rfl ?_); at_builtin; refine Kd.R_append_rows (Kd.int .u8) (w0 := w) w.heap.size rfl (.tmp 26) (.tmp 27) 22 5 (.int .u8 0) 1 rfl Try.underlying22 info5 rfl (by decide) (by decide) _ l l1 A1 l1.length c1 (fun _ => True) (fun _ => False) rfl rfl HO4.out (Kd.C_below HR1.out HE4.out.b) ?hKM (fun _ hk => hk.elim) (fun _ _ => trivial) HE4.out.b (below_size HE4.out.b) ?hlim ?_; (case hKM => intro x cs hx; exact hx); (case hlim => have := HL.out; have := HL1.out; simp; omega); intro v5 w5 ho5 hb hg_ _; have HE5 := aMk (HE4.out.grown HO4.out hb hg_); have HO5 := aMk (show Kd.R (Kd.int .u8) 5 w5 w.heap.size (fun _ => True) v5 x by rw [HX.out]; exact ho5); obtain ⟨A2, c2, hv5, hc2, hr2⟩ := Kd.R_reads HO5.out; subst hv5; have HC2 := aMk hc2; have HR2 := aMk hr2; clear hg_ hb ho5 HE4 HO4 hc2 hr2) | (go_at_call 101; refine (HK.out A2 c2 _ HR2.out HC2.out).mono ?_; rintro e w6 ⟨rfl, hb⟩; have HE6 := aMk (HE5.out.below hb); have HR6 := aMk (Kd.C_below HR2.out hb); have hsub : wrap64 ((x.length : Int) - (q : Int)) = (n : Int) := (by have := HN.out; have h1 := HL.out; have h2 := HL1.out; have h3 : x.length = l.length + l1.length := (by rw [HX.out, List.length_append]); unfold wrap64; omega); clear hb HE5 HR2))
 simp only [hsub]
 have hxl : n ≤ x.length := by have := HN.out; omega
 obtain ⟨i0, hi0, _, hz1, _⟩ := info_parts info5
 have hcut1 := cut_to (P := Try.prog) 22 5 .i64 Try.underlying22 hi0 A2 x.length c2 (n : Int) (by omega) (by omega) HC2.out
 have hcut2 := cut_from (P := Try.prog) 22 5 .i64 Try.underlying22 hi0 1 hz1 A2 x.length c2 (n : Int) (by omega) (by omega)
 rw [Int.toNat_natCast] at hcut1 hcut2
 have HD := Kd.C_drop (k := Kd.int .u8) (m := n) (c := c2) HR6.out hxl HC2.out
 have HT := Kd.C_take (k := Kd.int .u8) (m := n) HR6.out hxl
 have hsz1 : (Kd.int .u8).sz = 1 := rfl
 rw [hsz1] at HD
 obtain ⟨A3, hA3⟩ : ∃ A', A' = (if c2 = n then A2 else A2.map (·.add (n * 1))) := ⟨_, rfl⟩
 rw [← hA3] at hcut2 HD
 have hld : (x.drop n).length = x.length - n := List.length_drop
 rw [← hld] at hcut2
 have HDL : Aside0 ((x.drop n).length ≤ 60003) := ⟨by have h1 := HL.out; have h2 := HL1.out; have h3 : x.length = l.length + l1.length := (by rw [HX.out, List.length_append]); omega⟩
 have HTC : Aside0 (n ≤ c2) := ⟨Nat.le_trans hxl HC2.out⟩
 have hlt : (x.take n).length = n := by rw [List.length_take]; omega
 rw [hlt] at HT
 replace HD := aMk HD
 replace HT := aMk HT
 obtain ⟨d, hd⟩ : ∃ d, d = x.drop n := ⟨_, rfl⟩
 rw [← hd] at hcut2 HD HDL
 have HDQ := aMk hd
 clear hlt hd hld hA3 hsz1 hz1 hi0 hxl hsub
 refine start_ (n := 21) (S := fun w' => w'.cell? ⟨w.heap.size, 0, none⟩ = some (.int .i64 3) ∧ w'.cell? ⟨w.heap.size, 1, none⟩ = some (.bool true)) (ds := [19]) #[false, false, false, false, false, false, false, false, false, false, false, false, false, false, false, false, false, false, false, false, false] (by kernel_rfl) rfl rfl ⟨(bCe (blk_below HE6.out.f (below_drew (Below.refl _ _))) 0).trans rfl, (bCe (blk_below HE6.out.f (below_drew (Below.refl _ _))) 1).trans rfl⟩ (fun hHeld => ?_)
 refine pure_ (i := 0) (N := some 35) (v := ?_) (a' := ?_) #[true, false, false, false, false, false, false, false, false, false, false, false, false, false, false, false, false, false, false, false, false] rfl rfl (by kernel_rfl) (fun _ _ _ h => h) (Or.inl ⟨by rfl, ?_⟩) ?_ ?_
 rotate_left
 · intro w'
   go_simp
   with_reducible rfl
 rotate_left
 · simp only [Act.put, lSa, lSz, lSs, i64_w, i32_w]
   rfl
 refine pure_ (i := 2) (N := some 37) (v := ?_) (a' := ?_) #[true, false, true, false, false, false, false, false, false, false, false, false, false, false, false, false, false, false, false, false, false] rfl rfl (by kernel_rfl) (fun _ _ _ h => h) (Or.inl ⟨by rfl, ?_⟩) ?_ ?_
 rotate_left
 · intro w'
   go_simp
   with_reducible rfl
 rotate_left
 · simp only [Act.put, lSa, lSz, lSs, i64_w, i32_w]
   rfl
 refine pure_ (i := 9) (N := some 44) (v := ?_) (a' := ?_) #[true, false, true, false, false, false, false, false, false, true, false, false, false, false, false, false, false, false, false, false, false] rfl rfl (by kernel_rfl) (fun _ _ _ h => h) (Or.inl ⟨by rfl, ?_⟩) ?_ ?_
 rotate_left
 · intro w'
   go_simp
   with_reducible rfl
 rotate_left
 · simp only [Act.put, lSa, lSz, lSs, i64_w, i32_w]
   rfl
 refine pure_ (i := 10) (N := some 45) (v := ?_) (a' := ?_) #[true, false, true, false, false, false, false, false, false, true, true, false, false, false, false, false, false, false, false, false, false] rfl rfl (by kernel_rfl) (fun _ _ _ h => h) (Or.inl ⟨by rfl, ?_⟩) ?_ ?_
 rotate_left
 · intro w'
   go_simp
   with_reducible rfl
 rotate_left
 · simp only [Act.put, lSa, lSz, lSs, i64_w, i32_w]
   rfl
 refine pure_ (i := 11) (N := some 46) (v := ?_) (a' := ?_) #[true, false, true, false, false, false, false, false, false, true, true, true, false, false, false, false, false, false, false, false, false] rfl rfl (by kernel_rfl) (fun _ _ _ h => h) (Or.inl ⟨by rfl, ?_⟩) ?_ ?_
 rotate_left
 · intro w'
   go_simp
   with_reducible rfl
 rotate_left
 · simp only [Act.put, lSa, lSz, lSs, i64_w, i32_w]
   rfl
 refine pure_ (i := 14) (N := some 49) (v := ?_) (a' := ?_) #[true, false, true, false, false, false, false, false, false, true, true, true, false, false, true, false, false, false, false, false, false] rfl rfl (by kernel_rfl) (fun _ _ _ h => h) (Or.inl ⟨by rfl, ?_⟩) ?_ ?_
 rotate_left
 · intro w'
   go_simp
   with_reducible rfl
 rotate_left
 · simp only [Act.put, lSa, lSz, lSs, i64_w, i32_w]
   rfl
 refine pure_ (i := 15) (N := some 50) (v := ?_) (a' := ?_) #[true, false, true, false, false, false, false, false, false, true, true, true, false, false, true, true, false, false, false, false, false] rfl rfl (by kernel_rfl) (fun _ _ _ h => h) (Or.inl ⟨by rfl, ?_⟩) ?_ ?_
 rotate_left
 · intro w'
   go_simp
   with_reducible rfl
 rotate_left
 · simp only [Act.put, lSa, lSz, lSs, i64_w, i32_w]
   rfl
 refine pure_ (i := 16) (N := some 51) (v := ?_) (a' := ?_) #[true, false, true, false, false, false, false, false, false, true, true, true, false, false, true, true, true, false, false, false, false] rfl rfl (by kernel_rfl) (fun _ _ _ h => h) (Or.inl ⟨by rfl, ?_⟩) ?_ ?_
 rotate_left
 · intro w'
   go_simp
   with_reducible rfl
 rotate_left
 · simp only [Act.put, lSa, lSz, lSs, i64_w, i32_w]
   rfl
 refine pure_ (i := 17) (N := some 52) (v := ?_) (a' := ?_) #[true, false, true, false, false, false, false, false, false, true, true, true, false, false, true, true, true, true, false, false, false] rfl rfl (by kernel_rfl) (fun _ _ _ h => h) (Or.inl ⟨by rfl, ?_⟩) ?_ ?_
 rotate_left
 · intro w'
   go_simp
   with_reducible rfl
 rotate_left
 · simp only [Act.put, lSa, lSz, lSs, i64_w, i32_w]
   rfl
 refine take_ (i := 1) (N := some 36) (v := ?_) (a' := ?_) #[true, true, true, false, false, false, false, false, false, true, true, true, false, false, true, true, true, true, false, false, false] rfl rfl (by kernel_rfl) (fun _ _ _ h => h) (Or.inl ⟨by rfl, ?_⟩) hHeld ?_ ?_
 rotate_left
 · rintro w' ⟨s0, s1⟩
   go_simp
   with_reducible rfl
 rotate_left
 · simp only [Act.put, lSa, lSz, lSs, i64_w, i32_w]
   rfl
 refine take_ (i := 3) (N := some 38) (v := ?_) (a' := ?_) #[true, true, true, true, false, false, false, false, false, true, true, true, false, false, true, true, true, true, false, false, false] rfl rfl (by kernel_rfl) (fun _ _ _ h => h) (Or.inl ⟨by rfl, ?_⟩) hHeld ?_ ?_
 rotate_left
 · rintro w' ⟨s0, s1⟩
   go_simp
   with_reducible rfl
 rotate_left
 · simp only [Act.put, lSa, lSz, lSs, i64_w, i32_w]
   rfl
 refine pure_ (i := 4) (N := some 39) (v := ?_) (a' := ?_) #[true, true, true, true, true, false, false, false, false, true, true, true, false, false, true, true, true, true, false, false, false] rfl rfl (by kernel_rfl) (fun _ _ _ h => h) (Or.inl ⟨by rfl, ?_⟩) ?_ ?_
 rotate_left
 · intro w'
   go_simp
   with_reducible rfl
 rotate_left
 · simp only [Act.put, lSa, lSz, lSs, i64_w, i32_w]
   rfl
 refine pure_ (i := 5) (N := some 40) (v := undef) (a' := ?_) #[true, true, true, true, true, true, false, false, false, true, true, true, false, false, true, true, true, true, false, false, false] rfl rfl (by kernel_rfl) (fun _ _ _ h => h) (Or.inr ⟨by rfl, rfl⟩) ?_ ?_
 rotate_left
 · simp only [Act.put, lSa, lSz, lSs, i64_w, i32_w]
   rfl
 refine pure_ (i := 6) (N := some 41) (v := undef) (a' := ?_) #[true, true, true, true, true, true, true, false, false, true, true, true, false, false, true, true, true, true, false, false, false] rfl rfl (by kernel_rfl) (fun _ _ _ h => h) (Or.inr ⟨by rfl, rfl⟩) ?_ ?_
 rotate_left
 · simp only [Act.put, lSa, lSz, lSs, i64_w, i32_w]
   rfl
 refine pure_ (i := 7) (N := some 42) (v := ?_) (a' := ?_) #[true, true, true, true, true, true, true, true, false, true, true, true, false, false, true, true, true, true, false, false, false] rfl rfl (by kernel_rfl) (fun _ _ _ h => h) (Or.inl ⟨by rfl, ?_⟩) ?_ ?_
 rotate_left
 · intro w'
   go_simp
   with_reducible rfl
 rotate_left
 · simp only [Act.put, lSa, lSz, lSs, i64_w, i32_w]
   rfl
 refine one_ (i := 8) (N := some 43) #[true, true, true, true, true, true, true, true, true, true, true, true, false, false, true, true, true, true, false, false, false] rfl rfl (by kernel_rfl) (by decide) (fun K hK => ?_)
 refine Kd.R_lit_step (Kd.int .u8) (w0 := w6) w6.heap.size 5 (by rfl) (N := 43) rfl (xs := ([] : List Int)) (inner := []) (ok := fun _ => True) (okp := fun _ => True) ?hr ?hp (fun _ hk => hk) trivial (below_drew (Below.refl _ _)) (Nat.le_refl _) (by simp) ?_
 case hr => first | (go_simp; done) | (go_simp; rfl)
 case hp => exact (Reps.none _ _)
 intro v7 w7 ho7 hb7 hg7 _
 have HO7 := aMk ho7
 have HB7 := aMk hb7
 clear ho7 hb7 hg7
 refine hK.out _ _ ⟨(bCe (blk_below HE6.out.f HB7.out) 0).trans rfl, (bCe (blk_below HE6.out.f HB7.out) 1).trans rfl⟩ (fun hHeld => ?_)
 clear hK K
 refine norm_ (a' := ?_) ?_ ?_
 rotate_left
 · show Act.put _ (some 43) _ = _
   simp only [Act.put, lSa, lSz, lSs, i64_w, i32_w]
   rfl
 refine one_ (i := 12) (N := some 47) #[true, true, true, true, true, true, true, true, true, true, true, true, true, false, true, true, true, true, false, false, false] rfl rfl (by kernel_rfl) (by decide) (fun K hK => ?_)
 refine Kd.R_append_rows_step (Kd.int .u8) (w0 := w6) w6.heap.size (by rfl) (.tmp 43) (.tmp 46) 22 5 (.int .u8 0) 1 rfl Try.underlying22 info5 rfl (by decide) (by decide) _ [] d A3 d.length (c2 - n) (fun _ => True) (fun _ => False) rfl rfl HO7.out (Kd.C_below HD.out HB7.out) ?hKM (fun _ hk => hk.elim) (fun _ _ => trivial) HB7.out (HB7.out.size) ?hlim ?_
 case hKM => intro x cs hx; exact hx
 case hlim => have := HDL.out; simp; omega
 intro v8 w8 ho8 hb8 hg8 _
 obtain ⟨A8, c8, hv8⟩ := Kd.R_slice ho8
 rw [List.nil_append] at ho8 hv8
 subst hv8
 have HO8 := aMk ho8
 have HB8 := aMk hb8
 clear ho8 hb8 hg8 HO7
 refine hK.out _ _ ⟨(bCe (blk_below HE6.out.f HB8.out) 0).trans rfl, (bCe (blk_below HE6.out.f HB8.out) 1).trans rfl⟩ (fun hHeld => ?_)
 clear hK K
 refine norm_ (a' := ?_) ?_ ?_
 rotate_left
 · show Act.put _ (some 47) _ = _
   simp only [Act.put, lSa, lSz, lSs, i64_w, i32_w]
   rfl
 refine pure_ (i := 13) (N := some 48) (v := ?_) (a' := ?_) #[true, true, true, true, true, true, true, true, true, true, true, true, true, true, true, true, true, true, false, false, false] rfl rfl (by kernel_rfl) (fun _ _ _ h => h) (Or.inl ⟨by rfl, ?_⟩) ?_ ?_
 rotate_left
 · intro w'
   go_simp
   with_reducible rfl
 rotate_left
 · simp only [Act.put, lSa, lSz, lSs, i64_w, i32_w]
   rfl
 refine one_ (i := 18) (N := some 53) #[true, true, true, true, true, true, true, true, true, true, true, true, true, true, true, true, true, true, true, false, false] rfl rfl (by kernel_rfl) (by decide) (fun K hK => ?_)
 refine goesV_ Try.func66 (by kernel_rfl) rfl #[.slice A2 n c2, .pointer (some ⟨gF, 0, none⟩), .pointer (some ⟨gC, 0, none⟩)] (by rfl) rfl rfl rfl (by simp only [List.map_toArray, List.map_cons, List.map_nil]; rfl) ?_
 with_reducible refine (HCL.out gF gC A2 c2 w8 ((bCe (blk_below HE6.out.cf HB8.out) 1).trans rfl) ((bCe (blk_below HE6.out.cc HB8.out) 0).trans rfl) (Kd.C_below HT.out HB8.out) HTC.out).mono ?_
 rintro e w9 ⟨rfl, hb⟩
 refine ⟨_, rfl, ?_⟩
 have HB9 := aMk (below_then HB8.out (HB8.out.size) hb)
 have HO9 := aMk (Kd.R_below HO8.out hb)
 clear hb HO8
 refine hK.out _ _ ⟨(bCe (blk_below HE6.out.f HB9.out) 0).trans rfl, (bCe (blk_below HE6.out.f HB9.out) 1).trans rfl⟩ (fun hHeld => ?_)
 clear hK K
 refine norm_ (a' := ?_) ?_ ?_
 rotate_left
 · show Act.put _ (some 53) _ = _
   simp only [Act.put, lSa, lSz, lSs, i64_w, i32_w]
   rfl
 refine last_ (i := 19) (N := none) #[true, true, true, true, true, true, true, true, true, true, true, true, true, true, true, true, true, true, true, true, false] rfl rfl (by kernel_rfl) (by decide) (fun K hK => ?_)
 have hg4 := blk_below HE6.out.r HB9.out
 have hsc0 : w9.cell? ⟨w.heap.size + 1, 0, none⟩ = some (.int .i64 0) := (bCe hg4 0).trans rfl
 have hsc1 : w9.cell? ⟨w.heap.size + 1, 1, none⟩ = some (.bool false) := (bCe hg4 1).trans rfl
 have hsc2 : w9.cell? ⟨w.heap.size + 1, 2, none⟩ = some (.slice none 0 0) := (bCe hg4 2).trans rfl
 have hsf0 : w9.frozen? ⟨w.heap.size + 1, 0, none⟩ = false := bFr hg4 0
 have hsf1 : w9.frozen? ⟨w.heap.size + 1, 1, none⟩ = false := bFr hg4 1
 have hsf2 : w9.frozen? ⟨w.heap.size + 1, 2, none⟩ = false := bFr hg4 2
 replace hg4 := aMk hg4
 refine skip_ (w1 := ?_) (by rfl) rfl ?_ ?_
 rotate_left
 · go_simp
   rfl
 refine hK.out _ _ ?_
 clear hK K
 refine pure_ (i := 20) (N := some 5) (v := ?_) (a' := ?_) #[true, true, true, true, true, true, true, true, true, true, true, true, true, true, true, true, true, true, true, true, true] rfl rfl (by kernel_rfl) (fun _ _ _ h => h) (Or.inl ⟨by rfl, ?_⟩) ?_ ?_
 rotate_left
 · intro w'
   go_simp
   with_reducible rfl
 rotate_left
 · simp only [Act.put, lSa, lSz, lSs, i64_w, i32_w]
   rfl
 refine done_ (by kernel_rfl) ?_
 go_wp2
 have hgb := blk_set (blk_set (blk_set hg4.out 0 (.int .i64 3)) 1 (.bool true)) 2 (.slice A8 d.length c8)
 refine bodyPost_ret (results_list (rs := [.cell 4 38, .tmp 5]) rfl (by simp) (.cell (w.heap.size + 1) 38 _ (0, 0) _ rfl hgb Try.underlying38 rfl (by kernel_rfl) (.tmp .nil))) rfl ?_
 refine ⟨.slice A8 d.length c8, rfl, ?_, bSe (bSe (bSe (below_step HE6.out.b HB9.out) HE6.out.ge) HE6.out.ge) HE6.out.ge⟩
 rw [← HDQ.out]
 exact Kd.R_lower (Kd.R_set (Kd.R_set (Kd.R_set HO9.out hg4.out (by decide) 0 _) (blk_set hg4.out 0 _) (by decide) 1 _) (blk_set (blk_set hg4.out 0 _) 1 _) (by decide) 2 _) HE6.out.b.size
set_option maxHeartbeats 8000000 in
set_option maxRecDepth 100000 in
theorem more_calls3n (A : Option Addr) (c : Nat) (l : List Int) (A1 : Option Addr) (c1 : Nat) (l1 x : List Int) (q n : Nat) (r : ByteArray) (w : World) (hx : x = l ++ l1) (hr : Kd.C (Kd.int .u8) w A l.length l) (hc : l.length ≤ c) (hr1 : Kd.C (Kd.int .u8) w A1 l1.length l1) (hc1 : l1.length ≤ c1) (hl : l.length ≤ 3) (hl1 : l1.length ≤ 60000) (hn : n + q = x.length)
 (hkeep : ∀ (A2 : Option Addr) (c2 : Nat) (w2 : World), Kd.C (Kd.int .u8) w2 A2 x.length x → x.length ≤ c2 → Calls Try.prog 101 #[.agg #[], .slice A2 x.length c2] w2 fun e w' => e = .returned (.int .i64 (q : Int)) ∧ Below w2.heap.size w2 w')
 (hclo : ∀ (gF gC : Nat) (A2 : Option Addr) (c2 : Nat) (w2 : World), w2.cell? ⟨gF, 1, none⟩ = some (.bool false) → w2.cell? ⟨gC, 0, none⟩ = some (codV 3) → Kd.C (Kd.int .u8) w2 A2 n (x.take n) → n ≤ c2 → Calls Try.prog 66 #[.slice A2 n c2, .pointer (some ⟨gF, 0, none⟩), .pointer (some ⟨gC, 0, none⟩)] w2 fun e w' => e = .returned (.string r) ∧ Below w2.heap.size w2 w') :
 Calls Try.prog 27 #[.agg #[.int .i64 3, .bool false, .slice A l.length c], .slice A1 l1.length c1] w fun en w' => ∃ v, en = .returned (.tuple #[.agg #[.int .i64 3, .bool (false || decide (0 < n)), v], .string r]) ∧ Kd.R (Kd.int .u8) 5 w' w.heap.size (fun _ => True) v (x.drop n) ∧ Below w.heap.size w w' := by
 have hu38 := Try.underlying38
 have HB := aMk (bAl (bAl (Below.refl w.heap.size w) (.cells #[.int .i64 3, .bool false, .slice A l.length c] 38)) (.cells #[.int .i64 0, .bool false, .slice none 0 0] 38))
 have HX := aMk hx
 have HR := aMk hr
 have HC := aMk hc
 have HR1 := aMk hr1
 have HC1 := aMk hc1
 have HL := aMk hl
 have HL1 := aMk hl1
 have HN := aMk hn
 have HK := aMk hkeep
 have HCL := aMk hclo
 have ld1 : decide (60000 < (l1.length : Int)) = false := decide_eq_false (by omega)
 have ld2 : decide (60000 < l1.length) = false := decide_eq_false (by omega)
 clear hx hr hc hr1 hc1 hl hl1 hn hkeep hclo
 go_enter Try.func27, Try.ntmps27
 go_wp2_with (first | (go_at_call 47; refine (rdr_calls3 false A c l _ HL.out).mono ?_; rintro e w1 ⟨gF, gC, rfl, hf, hc, hb⟩; simp only [codV]; have HE : Aside0 (MEnv w w1 3 3 false A l.length c w.heap.size (w.heap.size + 1) gF gC) := ⟨⟨blk_below (bkA (blk_new w _) _) hb, blk_below (by rw [show w.heap.size + 1 = (w.alloc (.cells #[.int .i64 3, .bool false, .slice A l.length c] 38)).heap.size by simp]; exact blk_new _ _) hb, hf, hc, below_step HB.out hb, by omega⟩⟩; have hq2 : w1.cell? ⟨w.heap.size, 2, none⟩ = some (.slice A l.length c) := bCe HE.out.f 2; clear hb hf hc HB) | ((with_reducible refine gate_dst (N := 23) rfl ?_); refine Kd.R_lit (Kd.int .u8) _ 5 ?hg (N := 23) ?hd (xs := ([] : List Int)) (inner := []) (ok := fun _ => True) (okp := fun _ => True) ?hr ?hp (fun _ hk => hk) trivial (Below.refl _ _) (Nat.le_refl _) (by simp) ?_; (case hd => rfl); (case hg => rfl); (case hr => first | (go_simp; done) | (go_simp; rfl)); (case hp => exact (Reps.none _ _)); intro v3 w3 ho3 hb hg_ hnew_; have HE3 := aMk (HE.out.fresh (below_step HE.out.b hb) hg_); have HO3 := aMk (Kd.R_lower ho3 (below_size HE.out.b)); have hq3 : w3.cell? ⟨w.heap.size, 2, none⟩ = some (.slice A l.length c) := bCe HE3.out.f 2; clear hg_ hnew_ hb ho3 HE hq2) | ((with_reducible refine gate_builtin (b := .append) (xs := #[.tmp 23, .tmp 25]) rfl ?_); at_builtin; refine Kd.R_append_rows (Kd.int .u8) (w0 := w) w.heap.size rfl (.tmp 23) (.tmp 25) 22 5 (.int .u8 0) 1 rfl Try.underlying22 info5 rfl (by decide) (by decide) _ [] l A l.length c (fun _ => True) (fun _ => False) rfl rfl HO3.out (Kd.C_below HR.out HE3.out.b) ?hKM (fun _ hk => hk.elim) (fun _ _ => trivial) HE3.out.b (below_size HE3.out.b) ?hlim ?_; (case hKM => intro x cs hx; exact hx); (case hlim => have := HL.out; simp; omega); intro v4 w4 ho4 hb hg_ _; have HE4 := aMk (HE3.out.grown HO3.out hb hg_); have HO4 : Aside0 (Kd.R (Kd.int .u8) 5 w4 w.heap.size (fun _ => True) v4 l) := ⟨ho4⟩; clear hg_ hb ho4 HE3 HO3 hq3) | ((with_reducible refine gate_builtin (b := .append) (xs := #[.tmp 26, .tmp 27]) rfl ?_); at_builtin; refine Kd.R_append_rows (Kd.int .u8) (w0 := w) w.heap.size rfl (.tmp 26) (.tmp 27) 22 5 (.int .u8 0) 1 rfl Try.underlying22 info5 rfl (by decide) (by decide) _ l l1 A1 l1.length c1 (fun _ => True) (fun _ => False) rfl rfl HO4.out (Kd.C_below HR1.out HE4.out.b) ?hKM (fun _ hk => hk.elim) (fun _ _ => trivial) HE4.out.b (below_size HE4.out.b) ?hlim ?_; (case hKM => intro x cs hx; exact hx); (case hlim => have := HL.out; have := HL1.out; simp; omega); intro v5 w5 ho5 hb hg_ _; have HE5 := aMk (HE4.out.grown HO4.out hb hg_); have HO5 := aMk (show Kd.R (Kd.int .u8) 5 w5 w.heap.size (fun _ => True) v5 x by rw [HX.out]; exact ho5); obtain ⟨A2, c2, hv5, hc2, hr2⟩ := Kd.R_reads HO5.out; subst hv5; have HC2 := aMk hc2; have HR2 := aMk hr2; clear hg_ hb ho5 HE4 HO4 hc2 hr2) | (go_at_call 101; refine (HK.out A2 c2 _ HR2.out HC2.out).mono ?_; rintro e w6 ⟨rfl, hb⟩; have HE6 := aMk (HE5.out.below hb); have HR6 := aMk (Kd.C_below HR2.out hb); have hsub : wrap64 ((x.length : Int) - (q : Int)) = (n : Int) := (by have := HN.out; have h1 := HL.out; have h2 := HL1.out; have h3 : x.length = l.length + l1.length := (by rw [HX.out, List.length_append]); unfold wrap64; omega); clear hb HE5 HR2))
 simp only [hsub]
 have hxl : n ≤ x.length := by have := HN.out; omega
 obtain ⟨i0, hi0, _, hz1, _⟩ := info_parts info5
 have hcut1 := cut_to (P := Try.prog) 22 5 .i64 Try.underlying22 hi0 A2 x.length c2 (n : Int) (by omega) (by omega) HC2.out
 have hcut2 := cut_from (P := Try.prog) 22 5 .i64 Try.underlying22 hi0 1 hz1 A2 x.length c2 (n : Int) (by omega) (by omega)
 rw [Int.toNat_natCast] at hcut1 hcut2
 have HD := Kd.C_drop (k := Kd.int .u8) (m := n) (c := c2) HR6.out hxl HC2.out
 have HT := Kd.C_take (k := Kd.int .u8) (m := n) HR6.out hxl
 have hsz1 : (Kd.int .u8).sz = 1 := rfl
 rw [hsz1] at HD
 obtain ⟨A3, hA3⟩ : ∃ A', A' = (if c2 = n then A2 else A2.map (·.add (n * 1))) := ⟨_, rfl⟩
 rw [← hA3] at hcut2 HD
 have hld : (x.drop n).length = x.length - n := List.length_drop
 rw [← hld] at hcut2
 have HDL : Aside0 ((x.drop n).length ≤ 60003) := ⟨by have h1 := HL.out; have h2 := HL1.out; have h3 : x.length = l.length + l1.length := (by rw [HX.out, List.length_append]); omega⟩
 have HTC : Aside0 (n ≤ c2) := ⟨Nat.le_trans hxl HC2.out⟩
 have hlt : (x.take n).length = n := by rw [List.length_take]; omega
 rw [hlt] at HT
 replace HD := aMk HD
 replace HT := aMk HT
 obtain ⟨d, hd⟩ : ∃ d, d = x.drop n := ⟨_, rfl⟩
 rw [← hd] at hcut2 HD HDL
 have HDQ := aMk hd
 clear hlt hd hld hA3 hsz1 hz1 hi0 hxl hsub
 refine start_ (n := 21) (S := fun w' => w'.cell? ⟨w.heap.size, 0, none⟩ = some (.int .i64 3) ∧ w'.cell? ⟨w.heap.size, 1, none⟩ = some (.bool false)) (ds := [19]) #[false, false, false, false, false, false, false, false, false, false, false, false, false, false, false, false, false, false, false, false, false] (by kernel_rfl) rfl rfl ⟨(bCe (blk_below HE6.out.f (below_drew (Below.refl _ _))) 0).trans rfl, (bCe (blk_below HE6.out.f (below_drew (Below.refl _ _))) 1).trans rfl⟩ (fun hHeld => ?_)
 refine pure_ (i := 0) (N := some 35) (v := ?_) (a' := ?_) #[true, false, false, false, false, false, false, false, false, false, false, false, false, false, false, false, false, false, false, false, false] rfl rfl (by kernel_rfl) (fun _ _ _ h => h) (Or.inl ⟨by rfl, ?_⟩) ?_ ?_
 rotate_left
 · intro w'
   go_simp
   with_reducible rfl
 rotate_left
 · simp only [Act.put, lSa, lSz, lSs, i64_w, i32_w]
   rfl
 refine pure_ (i := 2) (N := some 37) (v := ?_) (a' := ?_) #[true, false, true, false, false, false, false, false, false, false, false, false, false, false, false, false, false, false, false, false, false] rfl rfl (by kernel_rfl) (fun _ _ _ h => h) (Or.inl ⟨by rfl, ?_⟩) ?_ ?_
 rotate_left
 · intro w'
   go_simp
   with_reducible rfl
 rotate_left
 · simp only [Act.put, lSa, lSz, lSs, i64_w, i32_w]
   rfl
 refine pure_ (i := 9) (N := some 44) (v := ?_) (a' := ?_) #[true, false, true, false, false, false, false, false, false, true, false, false, false, false, false, false, false, false, false, false, false] rfl rfl (by kernel_rfl) (fun _ _ _ h => h) (Or.inl ⟨by rfl, ?_⟩) ?_ ?_
 rotate_left
 · intro w'
   go_simp
   with_reducible rfl
 rotate_left
 · simp only [Act.put, lSa, lSz, lSs, i64_w, i32_w]
   rfl
 refine pure_ (i := 10) (N := some 45) (v := ?_) (a' := ?_) #[true, false, true, false, false, false, false, false, false, true, true, false, false, false, false, false, false, false, false, false, false] rfl rfl (by kernel_rfl) (fun _ _ _ h => h) (Or.inl ⟨by rfl, ?_⟩) ?_ ?_
 rotate_left
 · intro w'
   go_simp
   with_reducible rfl
 rotate_left
 · simp only [Act.put, lSa, lSz, lSs, i64_w, i32_w]
   rfl
 refine pure_ (i := 11) (N := some 46) (v := ?_) (a' := ?_) #[true, false, true, false, false, false, false, false, false, true, true, true, false, false, false, false, false, false, false, false, false] rfl rfl (by kernel_rfl) (fun _ _ _ h => h) (Or.inl ⟨by rfl, ?_⟩) ?_ ?_
 rotate_left
 · intro w'
   go_simp
   with_reducible rfl
 rotate_left
 · simp only [Act.put, lSa, lSz, lSs, i64_w, i32_w]
   rfl
 refine pure_ (i := 14) (N := some 49) (v := ?_) (a' := ?_) #[true, false, true, false, false, false, false, false, false, true, true, true, false, false, true, false, false, false, false, false, false] rfl rfl (by kernel_rfl) (fun _ _ _ h => h) (Or.inl ⟨by rfl, ?_⟩) ?_ ?_
 rotate_left
 · intro w'
   go_simp
   with_reducible rfl
 rotate_left
 · simp only [Act.put, lSa, lSz, lSs, i64_w, i32_w]
   rfl
 refine pure_ (i := 15) (N := some 50) (v := ?_) (a' := ?_) #[true, false, true, false, false, false, false, false, false, true, true, true, false, false, true, true, false, false, false, false, false] rfl rfl (by kernel_rfl) (fun _ _ _ h => h) (Or.inl ⟨by rfl, ?_⟩) ?_ ?_
 rotate_left
 · intro w'
   go_simp
   with_reducible rfl
 rotate_left
 · simp only [Act.put, lSa, lSz, lSs, i64_w, i32_w]
   rfl
 refine pure_ (i := 16) (N := some 51) (v := ?_) (a' := ?_) #[true, false, true, false, false, false, false, false, false, true, true, true, false, false, true, true, true, false, false, false, false] rfl rfl (by kernel_rfl) (fun _ _ _ h => h) (Or.inl ⟨by rfl, ?_⟩) ?_ ?_
 rotate_left
 · intro w'
   go_simp
   with_reducible rfl
 rotate_left
 · simp only [Act.put, lSa, lSz, lSs, i64_w, i32_w]
   rfl
 refine pure_ (i := 17) (N := some 52) (v := ?_) (a' := ?_) #[true, false, true, false, false, false, false, false, false, true, true, true, false, false, true, true, true, true, false, false, false] rfl rfl (by kernel_rfl) (fun _ _ _ h => h) (Or.inl ⟨by rfl, ?_⟩) ?_ ?_
 rotate_left
 · intro w'
   go_simp
   with_reducible rfl
 rotate_left
 · simp only [Act.put, lSa, lSz, lSs, i64_w, i32_w]
   rfl
 refine take_ (i := 1) (N := some 36) (v := ?_) (a' := ?_) #[true, true, true, false, false, false, false, false, false, true, true, true, false, false, true, true, true, true, false, false, false] rfl rfl (by kernel_rfl) (fun _ _ _ h => h) (Or.inl ⟨by rfl, ?_⟩) hHeld ?_ ?_
 rotate_left
 · rintro w' ⟨s0, s1⟩
   go_simp
   with_reducible rfl
 rotate_left
 · simp only [Act.put, lSa, lSz, lSs, i64_w, i32_w]
   rfl
 refine take_ (i := 3) (N := some 38) (v := ?_) (a' := ?_) #[true, true, true, true, false, false, false, false, false, true, true, true, false, false, true, true, true, true, false, false, false] rfl rfl (by kernel_rfl) (fun _ _ _ h => h) (Or.inl ⟨by rfl, ?_⟩) hHeld ?_ ?_
 rotate_left
 · rintro w' ⟨s0, s1⟩
   go_simp
   with_reducible rfl
 rotate_left
 · simp only [Act.put, lSa, lSz, lSs, i64_w, i32_w]
   rfl
 refine pure_ (i := 4) (N := some 39) (v := ?_) (a' := ?_) #[true, true, true, true, true, false, false, false, false, true, true, true, false, false, true, true, true, true, false, false, false] rfl rfl (by kernel_rfl) (fun _ _ _ h => h) (Or.inl ⟨by rfl, ?_⟩) ?_ ?_
 rotate_left
 · intro w'
   go_simp
   with_reducible rfl
 rotate_left
 · simp only [Act.put, lSa, lSz, lSs, i64_w, i32_w]
   rfl
 refine pure_ (i := 5) (N := some 40) (v := ?_) (a' := ?_) #[true, true, true, true, true, true, false, false, false, true, true, true, false, false, true, true, true, true, false, false, false] rfl rfl (by kernel_rfl) (fun _ _ _ h => h) (Or.inl ⟨by rfl, ?_⟩) ?_ ?_
 rotate_left
 · intro w'
   go_simp
   with_reducible rfl
 rotate_left
 · simp only [Act.put, lSa, lSz, lSs, i64_w, i32_w]
   rfl
 refine pure_ (i := 6) (N := some 41) (v := ?_) (a' := ?_) #[true, true, true, true, true, true, true, false, false, true, true, true, false, false, true, true, true, true, false, false, false] rfl rfl (by kernel_rfl) (fun _ _ _ h => h) (Or.inl ⟨by rfl, ?_⟩) ?_ ?_
 rotate_left
 · intro w'
   go_simp
   with_reducible rfl
 rotate_left
 · simp only [Act.put, lSa, lSz, lSs, i64_w, i32_w]
   rfl
 refine pure_ (i := 7) (N := some 42) (v := ?_) (a' := ?_) #[true, true, true, true, true, true, true, true, false, true, true, true, false, false, true, true, true, true, false, false, false] rfl rfl (by kernel_rfl) (fun _ _ _ h => h) (Or.inl ⟨by rfl, ?_⟩) ?_ ?_
 rotate_left
 · intro w'
   go_simp
   with_reducible rfl
 rotate_left
 · simp only [Act.put, lSa, lSz, lSs, i64_w, i32_w]
   rfl
 refine one_ (i := 8) (N := some 43) #[true, true, true, true, true, true, true, true, true, true, true, true, false, false, true, true, true, true, false, false, false] rfl rfl (by kernel_rfl) (by decide) (fun K hK => ?_)
 refine Kd.R_lit_step (Kd.int .u8) (w0 := w6) w6.heap.size 5 (by rfl) (N := 43) rfl (xs := ([] : List Int)) (inner := []) (ok := fun _ => True) (okp := fun _ => True) ?hr ?hp (fun _ hk => hk) trivial (below_drew (Below.refl _ _)) (Nat.le_refl _) (by simp) ?_
 case hr => first | (go_simp; done) | (go_simp; rfl)
 case hp => exact (Reps.none _ _)
 intro v7 w7 ho7 hb7 hg7 _
 have HO7 := aMk ho7
 have HB7 := aMk hb7
 clear ho7 hb7 hg7
 refine hK.out _ _ ⟨(bCe (blk_below HE6.out.f HB7.out) 0).trans rfl, (bCe (blk_below HE6.out.f HB7.out) 1).trans rfl⟩ (fun hHeld => ?_)
 clear hK K
 refine norm_ (a' := ?_) ?_ ?_
 rotate_left
 · show Act.put _ (some 43) _ = _
   simp only [Act.put, lSa, lSz, lSs, i64_w, i32_w]
   rfl
 refine one_ (i := 12) (N := some 47) #[true, true, true, true, true, true, true, true, true, true, true, true, true, false, true, true, true, true, false, false, false] rfl rfl (by kernel_rfl) (by decide) (fun K hK => ?_)
 refine Kd.R_append_rows_step (Kd.int .u8) (w0 := w6) w6.heap.size (by rfl) (.tmp 43) (.tmp 46) 22 5 (.int .u8 0) 1 rfl Try.underlying22 info5 rfl (by decide) (by decide) _ [] d A3 d.length (c2 - n) (fun _ => True) (fun _ => False) rfl rfl HO7.out (Kd.C_below HD.out HB7.out) ?hKM (fun _ hk => hk.elim) (fun _ _ => trivial) HB7.out (HB7.out.size) ?hlim ?_
 case hKM => intro x cs hx; exact hx
 case hlim => have := HDL.out; simp; omega
 intro v8 w8 ho8 hb8 hg8 _
 obtain ⟨A8, c8, hv8⟩ := Kd.R_slice ho8
 rw [List.nil_append] at ho8 hv8
 subst hv8
 have HO8 := aMk ho8
 have HB8 := aMk hb8
 clear ho8 hb8 hg8 HO7
 refine hK.out _ _ ⟨(bCe (blk_below HE6.out.f HB8.out) 0).trans rfl, (bCe (blk_below HE6.out.f HB8.out) 1).trans rfl⟩ (fun hHeld => ?_)
 clear hK K
 refine norm_ (a' := ?_) ?_ ?_
 rotate_left
 · show Act.put _ (some 47) _ = _
   simp only [Act.put, lSa, lSz, lSs, i64_w, i32_w]
   rfl
 refine pure_ (i := 13) (N := some 48) (v := ?_) (a' := ?_) #[true, true, true, true, true, true, true, true, true, true, true, true, true, true, true, true, true, true, false, false, false] rfl rfl (by kernel_rfl) (fun _ _ _ h => h) (Or.inl ⟨by rfl, ?_⟩) ?_ ?_
 rotate_left
 · intro w'
   go_simp
   with_reducible rfl
 rotate_left
 · simp only [Act.put, lSa, lSz, lSs, i64_w, i32_w]
   rfl
 refine one_ (i := 18) (N := some 53) #[true, true, true, true, true, true, true, true, true, true, true, true, true, true, true, true, true, true, true, false, false] rfl rfl (by kernel_rfl) (by decide) (fun K hK => ?_)
 refine goesV_ Try.func66 (by kernel_rfl) rfl #[.slice A2 n c2, .pointer (some ⟨gF, 0, none⟩), .pointer (some ⟨gC, 0, none⟩)] (by rfl) rfl rfl rfl (by simp only [List.map_toArray, List.map_cons, List.map_nil]; rfl) ?_
 with_reducible refine (HCL.out gF gC A2 c2 w8 ((bCe (blk_below HE6.out.cf HB8.out) 1).trans rfl) ((bCe (blk_below HE6.out.cc HB8.out) 0).trans rfl) (Kd.C_below HT.out HB8.out) HTC.out).mono ?_
 rintro e w9 ⟨rfl, hb⟩
 refine ⟨_, rfl, ?_⟩
 have HB9 := aMk (below_then HB8.out (HB8.out.size) hb)
 have HO9 := aMk (Kd.R_below HO8.out hb)
 clear hb HO8
 refine hK.out _ _ ⟨(bCe (blk_below HE6.out.f HB9.out) 0).trans rfl, (bCe (blk_below HE6.out.f HB9.out) 1).trans rfl⟩ (fun hHeld => ?_)
 clear hK K
 refine norm_ (a' := ?_) ?_ ?_
 rotate_left
 · show Act.put _ (some 53) _ = _
   simp only [Act.put, lSa, lSz, lSs, i64_w, i32_w]
   rfl
 refine last_ (i := 19) (N := none) #[true, true, true, true, true, true, true, true, true, true, true, true, true, true, true, true, true, true, true, true, false] rfl rfl (by kernel_rfl) (by decide) (fun K hK => ?_)
 have hg4 := blk_below HE6.out.r HB9.out
 have hsc0 : w9.cell? ⟨w.heap.size + 1, 0, none⟩ = some (.int .i64 0) := (bCe hg4 0).trans rfl
 have hsc1 : w9.cell? ⟨w.heap.size + 1, 1, none⟩ = some (.bool false) := (bCe hg4 1).trans rfl
 have hsc2 : w9.cell? ⟨w.heap.size + 1, 2, none⟩ = some (.slice none 0 0) := (bCe hg4 2).trans rfl
 have hsf0 : w9.frozen? ⟨w.heap.size + 1, 0, none⟩ = false := bFr hg4 0
 have hsf1 : w9.frozen? ⟨w.heap.size + 1, 1, none⟩ = false := bFr hg4 1
 have hsf2 : w9.frozen? ⟨w.heap.size + 1, 2, none⟩ = false := bFr hg4 2
 replace hg4 := aMk hg4
 refine skip_ (w1 := ?_) (by rfl) rfl ?_ ?_
 rotate_left
 · go_simp
   rfl
 refine hK.out _ _ ?_
 clear hK K
 refine pure_ (i := 20) (N := some 5) (v := ?_) (a' := ?_) #[true, true, true, true, true, true, true, true, true, true, true, true, true, true, true, true, true, true, true, true, true] rfl rfl (by kernel_rfl) (fun _ _ _ h => h) (Or.inl ⟨by rfl, ?_⟩) ?_ ?_
 rotate_left
 · intro w'
   go_simp
   with_reducible rfl
 rotate_left
 · simp only [Act.put, lSa, lSz, lSs, i64_w, i32_w]
   rfl
 refine done_ (by kernel_rfl) ?_
 go_wp2
 have hgb := blk_set (blk_set (blk_set hg4.out 0 (.int .i64 3)) 1 (.bool (decide (0 < n)))) 2 (.slice A8 d.length c8)
 refine bodyPost_ret (results_list (rs := [.cell 4 38, .tmp 5]) rfl (by simp) (.cell (w.heap.size + 1) 38 _ (0, 0) _ rfl hgb Try.underlying38 rfl (by kernel_rfl) (.tmp .nil))) rfl ?_
 refine ⟨.slice A8 d.length c8, rfl, ?_, bSe (bSe (bSe (below_step HE6.out.b HB9.out) HE6.out.ge) HE6.out.ge) HE6.out.ge⟩
 rw [← HDQ.out]
 exact Kd.R_lower (Kd.R_set (Kd.R_set (Kd.R_set HO9.out hg4.out (by decide) 0 _) (blk_set hg4.out 0 _) (by decide) 1 _) (blk_set (blk_set hg4.out 0 _) 1 _) (by decide) 2 _) HE6.out.b.size
set_option maxHeartbeats 8000000 in
set_option maxRecDepth 100000 in
theorem more_no (a : Int) (b : Bool) (A : Option Addr) (c : Nat) (l : List Int) (A1 : Option Addr) (c1 : Nat) (l1 : List Int) (w : World) (hrd : ∀ W : World, Calls Try.prog 47 #[.agg #[.int .i64 a, .bool b, .slice A l.length c]] W (RdrNo W)) :
 Calls Try.prog 27 #[.agg #[.int .i64 a, .bool b, .slice A l.length c], .slice A1 l1.length c1] w fun en w' => ∃ v, en = .returned (.tuple #[.agg #[.int .i64 0, .bool false, v], .string ⟨#[]⟩]) ∧ Kd.R (Kd.int .u8) 5 w' w.heap.size (fun _ => True) v [] ∧ Below w.heap.size w w' := by
 have hu38 := Try.underlying38
 have HB := aMk (bAl (bAl (Below.refl w.heap.size w) (.cells #[.int .i64 a, .bool b, .slice A l.length c] 38)) (.cells #[.int .i64 0, .bool false, .slice none 0 0] 38))
 have HRD := aMk hrd
 clear hrd
 go_enter Try.func27, Try.ntmps27
 go_wp2_with (go_at_call 47; refine (HRD.out _).mono ?_; rintro e w1 ⟨rfl, hb⟩; have hg4 := blk_below (by rw [show w.heap.size + 1 = (w.alloc (.cells #[.int .i64 a, .bool b, .slice A l.length c] 38)).heap.size by simp]; exact blk_new _ _ : ((w.alloc (.cells #[.int .i64 a, .bool b, .slice A l.length c] 38)).alloc (.cells #[.int .i64 0, .bool false, .slice none 0 0] 38)).heap[w.heap.size + 1]? = some (.cells #[.int .i64 0, .bool false, .slice none 0 0] 38 (0, 0))) hb; have hsc0 : w1.cell? ⟨w.heap.size + 1, 0, none⟩ = some (.int .i64 0) := (bCe hg4 0).trans rfl; have hsc1 : w1.cell? ⟨w.heap.size + 1, 1, none⟩ = some (.bool false) := (bCe hg4 1).trans rfl; have hsc2 : w1.cell? ⟨w.heap.size + 1, 2, none⟩ = some (.slice none 0 0) := (bCe hg4 2).trans rfl; have hsf0 : w1.frozen? ⟨w.heap.size + 1, 0, none⟩ = false := bFr hg4 0; have hsf1 : w1.frozen? ⟨w.heap.size + 1, 1, none⟩ = false := bFr hg4 1; have hsf2 : w1.frozen? ⟨w.heap.size + 1, 2, none⟩ = false := bFr hg4 2; have HG4 := aMk hg4; have HB1 := aMk (below_step HB.out hb); clear hb HB hg4)
 have hgb := blk_set (blk_set (blk_set HG4.out 0 (.int .i64 0)) 1 (.bool false)) 2 (.slice none 0 0)
 refine bodyPost_ret (results_list (rs := [.cell 4 38, .tmp 5]) rfl (by simp) (.cell (w.heap.size + 1) 38 _ (0, 0) _ rfl hgb Try.underlying38 rfl (by kernel_rfl) (.tmp .nil))) rfl ?_
 exact ⟨.slice none 0 0, rfl, Kd.R_nil _ _ _ _ _, bSe (bSe (bSe HB1.out (by omega)) (by omega)) (by omega)⟩
set_option maxHeartbeats 8000000 in
set_option maxRecDepth 100000 in
theorem more_long0 (b : Bool) (A : Option Addr) (c : Nat) (l : List Int) (A1 : Option Addr) (c1 : Nat) (l1 : List Int) (w : World) (hl : l.length ≤ 3) (hl1 : ¬ l1.length ≤ 60000) :
 Calls Try.prog 27 #[.agg #[.int .i64 0, .bool b, .slice A l.length c], .slice A1 l1.length c1] w fun en w' => ∃ v, en = .returned (.tuple #[.agg #[.int .i64 0, .bool false, v], .string ⟨#[]⟩]) ∧ Kd.R (Kd.int .u8) 5 w' w.heap.size (fun _ => True) v [] ∧ Below w.heap.size w w' := by
 have hu38 := Try.underlying38
 have HB := aMk (bAl (bAl (Below.refl w.heap.size w) (.cells #[.int .i64 0, .bool b, .slice A l.length c] 38)) (.cells #[.int .i64 0, .bool false, .slice none 0 0] 38))
 have HL := aMk hl
 have ld1 : decide (60000 < (l1.length : Int)) = true := decide_eq_true (by omega)
 have ld2 : decide (60000 < l1.length) = true := decide_eq_true (by omega)
 clear hl hl1
 go_enter Try.func27, Try.ntmps27
 go_wp2_with (go_at_call 47; refine (rdr_calls0 b A c l _ HL.out).mono ?_; rintro e w1 ⟨gF, gC, rfl, _, _, hb⟩; simp only [codV]; have hg4 := blk_below (by rw [show w.heap.size + 1 = (w.alloc (.cells #[.int .i64 0, .bool b, .slice A l.length c] 38)).heap.size by simp]; exact blk_new _ _ : ((w.alloc (.cells #[.int .i64 0, .bool b, .slice A l.length c] 38)).alloc (.cells #[.int .i64 0, .bool false, .slice none 0 0] 38)).heap[w.heap.size + 1]? = some (.cells #[.int .i64 0, .bool false, .slice none 0 0] 38 (0, 0))) hb; have hsc0 : w1.cell? ⟨w.heap.size + 1, 0, none⟩ = some (.int .i64 0) := (bCe hg4 0).trans rfl; have hsc1 : w1.cell? ⟨w.heap.size + 1, 1, none⟩ = some (.bool false) := (bCe hg4 1).trans rfl; have hsc2 : w1.cell? ⟨w.heap.size + 1, 2, none⟩ = some (.slice none 0 0) := (bCe hg4 2).trans rfl; have hsf0 : w1.frozen? ⟨w.heap.size + 1, 0, none⟩ = false := bFr hg4 0; have hsf1 : w1.frozen? ⟨w.heap.size + 1, 1, none⟩ = false := bFr hg4 1; have hsf2 : w1.frozen? ⟨w.heap.size + 1, 2, none⟩ = false := bFr hg4 2; have HG4 := aMk hg4; have HB1 := aMk (below_step HB.out hb); clear hb HB hg4)
 have hgb := blk_set (blk_set (blk_set HG4.out 0 (.int .i64 0)) 1 (.bool false)) 2 (.slice none 0 0)
 refine bodyPost_ret (results_list (rs := [.cell 4 38, .tmp 5]) rfl (by simp) (.cell (w.heap.size + 1) 38 _ (0, 0) _ rfl hgb Try.underlying38 rfl (by kernel_rfl) (.tmp .nil))) rfl ?_
 exact ⟨.slice none 0 0, rfl, Kd.R_nil _ _ _ _ _, bSe (bSe (bSe HB1.out (by omega)) (by omega)) (by omega)⟩
set_option maxHeartbeats 8000000 in
set_option maxRecDepth 100000 in
theorem more_long1 (b : Bool) (A : Option Addr) (c : Nat) (l : List Int) (A1 : Option Addr) (c1 : Nat) (l1 : List Int) (w : World) (hl : l.length ≤ 3) (hl1 : ¬ l1.length ≤ 60000) :
 Calls Try.prog 27 #[.agg #[.int .i64 1, .bool b, .slice A l.length c], .slice A1 l1.length c1] w fun en w' => ∃ v, en = .returned (.tuple #[.agg #[.int .i64 0, .bool false, v], .string ⟨#[]⟩]) ∧ Kd.R (Kd.int .u8) 5 w' w.heap.size (fun _ => True) v [] ∧ Below w.heap.size w w' := by
 have hu38 := Try.underlying38
 have HB := aMk (bAl (bAl (Below.refl w.heap.size w) (.cells #[.int .i64 1, .bool b, .slice A l.length c] 38)) (.cells #[.int .i64 0, .bool false, .slice none 0 0] 38))
 have HL := aMk hl
 have ld1 : decide (60000 < (l1.length : Int)) = true := decide_eq_true (by omega)
 have ld2 : decide (60000 < l1.length) = true := decide_eq_true (by omega)
 clear hl hl1
 go_enter Try.func27, Try.ntmps27
 go_wp2_with (go_at_call 47; refine (rdr_calls1 b A c l _ HL.out).mono ?_; rintro e w1 ⟨gF, gC, rfl, _, _, hb⟩; simp only [codV]; have hg4 := blk_below (by rw [show w.heap.size + 1 = (w.alloc (.cells #[.int .i64 1, .bool b, .slice A l.length c] 38)).heap.size by simp]; exact blk_new _ _ : ((w.alloc (.cells #[.int .i64 1, .bool b, .slice A l.length c] 38)).alloc (.cells #[.int .i64 0, .bool false, .slice none 0 0] 38)).heap[w.heap.size + 1]? = some (.cells #[.int .i64 0, .bool false, .slice none 0 0] 38 (0, 0))) hb; have hsc0 : w1.cell? ⟨w.heap.size + 1, 0, none⟩ = some (.int .i64 0) := (bCe hg4 0).trans rfl; have hsc1 : w1.cell? ⟨w.heap.size + 1, 1, none⟩ = some (.bool false) := (bCe hg4 1).trans rfl; have hsc2 : w1.cell? ⟨w.heap.size + 1, 2, none⟩ = some (.slice none 0 0) := (bCe hg4 2).trans rfl; have hsf0 : w1.frozen? ⟨w.heap.size + 1, 0, none⟩ = false := bFr hg4 0; have hsf1 : w1.frozen? ⟨w.heap.size + 1, 1, none⟩ = false := bFr hg4 1; have hsf2 : w1.frozen? ⟨w.heap.size + 1, 2, none⟩ = false := bFr hg4 2; have HG4 := aMk hg4; have HB1 := aMk (below_step HB.out hb); clear hb HB hg4)
 have hgb := blk_set (blk_set (blk_set HG4.out 0 (.int .i64 0)) 1 (.bool false)) 2 (.slice none 0 0)
 refine bodyPost_ret (results_list (rs := [.cell 4 38, .tmp 5]) rfl (by simp) (.cell (w.heap.size + 1) 38 _ (0, 0) _ rfl hgb Try.underlying38 rfl (by kernel_rfl) (.tmp .nil))) rfl ?_
 exact ⟨.slice none 0 0, rfl, Kd.R_nil _ _ _ _ _, bSe (bSe (bSe HB1.out (by omega)) (by omega)) (by omega)⟩
set_option maxHeartbeats 8000000 in
set_option maxRecDepth 100000 in
theorem more_long2 (b : Bool) (A : Option Addr) (c : Nat) (l : List Int) (A1 : Option Addr) (c1 : Nat) (l1 : List Int) (w : World) (hl : l.length ≤ 3) (hl1 : ¬ l1.length ≤ 60000) :
 Calls Try.prog 27 #[.agg #[.int .i64 2, .bool b, .slice A l.length c], .slice A1 l1.length c1] w fun en w' => ∃ v, en = .returned (.tuple #[.agg #[.int .i64 0, .bool false, v], .string ⟨#[]⟩]) ∧ Kd.R (Kd.int .u8) 5 w' w.heap.size (fun _ => True) v [] ∧ Below w.heap.size w w' := by
 have hu38 := Try.underlying38
 have HB := aMk (bAl (bAl (Below.refl w.heap.size w) (.cells #[.int .i64 2, .bool b, .slice A l.length c] 38)) (.cells #[.int .i64 0, .bool false, .slice none 0 0] 38))
 have HL := aMk hl
 have ld1 : decide (60000 < (l1.length : Int)) = true := decide_eq_true (by omega)
 have ld2 : decide (60000 < l1.length) = true := decide_eq_true (by omega)
 clear hl hl1
 go_enter Try.func27, Try.ntmps27
 go_wp2_with (go_at_call 47; refine (rdr_calls2 b A c l _ HL.out).mono ?_; rintro e w1 ⟨gF, gC, rfl, _, _, hb⟩; simp only [codV]; have hg4 := blk_below (by rw [show w.heap.size + 1 = (w.alloc (.cells #[.int .i64 2, .bool b, .slice A l.length c] 38)).heap.size by simp]; exact blk_new _ _ : ((w.alloc (.cells #[.int .i64 2, .bool b, .slice A l.length c] 38)).alloc (.cells #[.int .i64 0, .bool false, .slice none 0 0] 38)).heap[w.heap.size + 1]? = some (.cells #[.int .i64 0, .bool false, .slice none 0 0] 38 (0, 0))) hb; have hsc0 : w1.cell? ⟨w.heap.size + 1, 0, none⟩ = some (.int .i64 0) := (bCe hg4 0).trans rfl; have hsc1 : w1.cell? ⟨w.heap.size + 1, 1, none⟩ = some (.bool false) := (bCe hg4 1).trans rfl; have hsc2 : w1.cell? ⟨w.heap.size + 1, 2, none⟩ = some (.slice none 0 0) := (bCe hg4 2).trans rfl; have hsf0 : w1.frozen? ⟨w.heap.size + 1, 0, none⟩ = false := bFr hg4 0; have hsf1 : w1.frozen? ⟨w.heap.size + 1, 1, none⟩ = false := bFr hg4 1; have hsf2 : w1.frozen? ⟨w.heap.size + 1, 2, none⟩ = false := bFr hg4 2; have HG4 := aMk hg4; have HB1 := aMk (below_step HB.out hb); clear hb HB hg4)
 have hgb := blk_set (blk_set (blk_set HG4.out 0 (.int .i64 0)) 1 (.bool false)) 2 (.slice none 0 0)
 refine bodyPost_ret (results_list (rs := [.cell 4 38, .tmp 5]) rfl (by simp) (.cell (w.heap.size + 1) 38 _ (0, 0) _ rfl hgb Try.underlying38 rfl (by kernel_rfl) (.tmp .nil))) rfl ?_
 exact ⟨.slice none 0 0, rfl, Kd.R_nil _ _ _ _ _, bSe (bSe (bSe HB1.out (by omega)) (by omega)) (by omega)⟩
set_option maxHeartbeats 8000000 in
set_option maxRecDepth 100000 in
theorem more_long3 (b : Bool) (A : Option Addr) (c : Nat) (l : List Int) (A1 : Option Addr) (c1 : Nat) (l1 : List Int) (w : World) (hl : l.length ≤ 3) (hl1 : ¬ l1.length ≤ 60000) :
 Calls Try.prog 27 #[.agg #[.int .i64 3, .bool b, .slice A l.length c], .slice A1 l1.length c1] w fun en w' => ∃ v, en = .returned (.tuple #[.agg #[.int .i64 0, .bool false, v], .string ⟨#[]⟩]) ∧ Kd.R (Kd.int .u8) 5 w' w.heap.size (fun _ => True) v [] ∧ Below w.heap.size w w' := by
 have hu38 := Try.underlying38
 have HB := aMk (bAl (bAl (Below.refl w.heap.size w) (.cells #[.int .i64 3, .bool b, .slice A l.length c] 38)) (.cells #[.int .i64 0, .bool false, .slice none 0 0] 38))
 have HL := aMk hl
 have ld1 : decide (60000 < (l1.length : Int)) = true := decide_eq_true (by omega)
 have ld2 : decide (60000 < l1.length) = true := decide_eq_true (by omega)
 clear hl hl1
 go_enter Try.func27, Try.ntmps27
 go_wp2_with (go_at_call 47; refine (rdr_calls3 b A c l _ HL.out).mono ?_; rintro e w1 ⟨gF, gC, rfl, _, _, hb⟩; simp only [codV]; have hg4 := blk_below (by rw [show w.heap.size + 1 = (w.alloc (.cells #[.int .i64 3, .bool b, .slice A l.length c] 38)).heap.size by simp]; exact blk_new _ _ : ((w.alloc (.cells #[.int .i64 3, .bool b, .slice A l.length c] 38)).alloc (.cells #[.int .i64 0, .bool false, .slice none 0 0] 38)).heap[w.heap.size + 1]? = some (.cells #[.int .i64 0, .bool false, .slice none 0 0] 38 (0, 0))) hb; have hsc0 : w1.cell? ⟨w.heap.size + 1, 0, none⟩ = some (.int .i64 0) := (bCe hg4 0).trans rfl; have hsc1 : w1.cell? ⟨w.heap.size + 1, 1, none⟩ = some (.bool false) := (bCe hg4 1).trans rfl; have hsc2 : w1.cell? ⟨w.heap.size + 1, 2, none⟩ = some (.slice none 0 0) := (bCe hg4 2).trans rfl; have hsf0 : w1.frozen? ⟨w.heap.size + 1, 0, none⟩ = false := bFr hg4 0; have hsf1 : w1.frozen? ⟨w.heap.size + 1, 1, none⟩ = false := bFr hg4 1; have hsf2 : w1.frozen? ⟨w.heap.size + 1, 2, none⟩ = false := bFr hg4 2; have HG4 := aMk hg4; have HB1 := aMk (below_step HB.out hb); clear hb HB hg4)
 have hgb := blk_set (blk_set (blk_set HG4.out 0 (.int .i64 0)) 1 (.bool false)) 2 (.slice none 0 0)
 refine bodyPost_ret (results_list (rs := [.cell 4 38, .tmp 5]) rfl (by simp) (.cell (w.heap.size + 1) 38 _ (0, 0) _ rfl hgb Try.underlying38 rfl (by kernel_rfl) (.tmp .nil))) rfl ?_
 exact ⟨.slice none 0 0, rfl, Kd.R_nil _ _ _ _ _, bSe (bSe (bSe HB1.out (by omega)) (by omega)) (by omega)⟩
def pairKeep (b : Bool) (x : List Int) : Option Nat := (impl_pairCoding_keep.f b x).bind fun v => if 0 ≤ v then some v.toNat else none
def keepK (e : Nat) (x : List Int) : Option Nat := match e with
 | 0 => some (keepU x.length x)
 | 1 => pairKeep false x
 | 2 => pairKeep true x
 | _ => some 0
theorem pairKeep_calls (b : Bool) (x : List Int) (q : Nat) (h : pairKeep b x = some q) (A : Option Addr) (c : Nat) (w : World) (hr : Kd.C (Kd.int .u8) w A x.length x) (hc : x.length ≤ c) :
 Calls Try.prog 95 #[.agg #[.bool b], .slice A x.length c] w fun e w' => e = .returned (.int .i64 (q : Int)) ∧ Below w.heap.size w w' := by
 unfold pairKeep at h
 obtain ⟨v, hv, h⟩ := Option.bind_eq_some_iff.1 h
 by_cases c0 : 0 ≤ v
 · rw [if_pos c0] at h
   obtain rfl := Option.some.inj h
   have e : ((v.toNat : Nat) : Int) = v := by omega
   rw [e]
   exact impl_pairCoding_keep.calls b A c x v w hr hc hv
 · rw [if_neg c0] at h; cases h
def moreZ : Int × Bool × List Int × ByteArray := (0, false, [], ⟨#[]⟩)
def impl_FeedMore.f (k : Nat) (a0_0 : Int) (a0_1 : Bool) (l0_2 l1 : List Int) : Option (Int × Bool × List Int × ByteArray) :=
 if bytesOk l0_2 = true then (if bytesOk l1 = true then
  (if a0_0 = 0 ∨ a0_0 = 1 ∨ a0_0 = 2 ∨ a0_0 = 3 then
   (if l0_2.length ≤ 3 then (if l1.length ≤ 60000 then
    (keepK a0_0.toNat (l0_2 ++ l1)).bind fun q => if q ≤ (l0_2 ++ l1).length then
     (rdF k a0_0.toNat a0_1 ((l0_2 ++ l1).take ((l0_2 ++ l1).length - q))).bind fun r =>
      some (a0_0, a0_1 || decide (0 < (l0_2 ++ l1).length - q), (l0_2 ++ l1).drop ((l0_2 ++ l1).length - q), r)
     else none
    else some moreZ) else some moreZ)
  else some moreZ)
 else none) else none
theorem more_post {w w' : World} {en : Ending} {a1 : Int} {b1 : Bool} {l1 : List Int} {s1 : ByteArray} (r1 : Int) (r2 : Bool) (r3 : List Int) (r4 : ByteArray) (h : ∃ v : Value, en = .returned (.tuple #[.agg #[.int .i64 a1, .bool b1, v], .string s1]) ∧ Kd.R (Kd.int .u8) 5 w' w.heap.size (fun _ => True) v l1 ∧ Below w.heap.size w w') (e1 : a1 = r1) (e2 : b1 = r2) (e3 : l1 = r3) (e4 : s1 = r4) :
 ∃ v2_ : Value, en = .returned (.tuple #[.agg #[.int .i64 r1, .bool r2, v2_], .string r4]) ∧ Kd.R (Kd.int .u8) 5 w' w.heap.size (fun _ => True) v2_ r3 ∧ Below w.heap.size w w' := by
 subst e1 e2 e3 e4
 exact h
theorem impl_FeedMore.calls (k : Nat) (a0_0 : Int) (a0_1 : Bool) (A0_2 : Option Addr) (c0_2 : Nat) (l0_2 : List Int) (A1 : Option Addr) (c1 : Nat) (l1 : List Int) (r1 : Int) (r2 : Bool) (r3 : List Int) (r4 : ByteArray) (w : World) (hr0_2 : Kd.C (Kd.int .u8) w A0_2 l0_2.length l0_2) (hc0_2 : l0_2.length ≤ c0_2) (hr1 : Kd.C (Kd.int .u8) w A1 l1.length l1) (hc1 : l1.length ≤ c1) (h : impl_FeedMore.f k a0_0 a0_1 l0_2 l1 = some (r1, r2, r3, r4)) :
 Calls Try.prog 27 #[.agg #[.int .i64 a0_0, .bool a0_1, .slice A0_2 l0_2.length c0_2], .slice A1 l1.length c1] w fun e w' => ∃ v2_ : Value, e = .returned (.tuple #[.agg #[.int .i64 r1, .bool r2, v2_], .string r4]) ∧ Kd.R (Kd.int .u8) 5 w' w.heap.size (fun _ => True) v2_ r3 ∧ Below w.heap.size w w' := by
 unfold impl_FeedMore.f at h
 by_cases hb : bytesOk l0_2 = true
 · rw [if_pos hb] at h
   by_cases hb1 : bytesOk l1 = true
   · rw [if_pos hb1] at h
     have hall := bytesOk_all hb
     have hall1 := bytesOk_all hb1
     by_cases ha : a0_0 = 0 ∨ a0_0 = 1 ∨ a0_0 = 2 ∨ a0_0 = 3
     · rw [if_pos ha] at h
       by_cases hl : l0_2.length ≤ 3
       · rw [if_pos hl] at h
         by_cases hl1 : l1.length ≤ 60000
         · rw [if_pos hl1] at h
           obtain ⟨q, hq, h⟩ := Option.bind_eq_some_iff.1 h
           by_cases hqx : q ≤ (l0_2 ++ l1).length
           · rw [if_pos hqx] at h
             obtain ⟨r, hrr, h⟩ := Option.bind_eq_some_iff.1 h
             have h' := Option.some.inj h
             simp only [Prod.mk.injEq] at h'
             obtain ⟨e1, e2, e3, e4⟩ := h'
             obtain ⟨x, hx⟩ : ∃ x, x = l0_2 ++ l1 := ⟨_, rfl⟩
             rw [← hx] at hq hqx hrr e2 e3
             have hxl : x.length ≤ 60003 := by rw [hx, List.length_append]; omega
             have hxa : ∀ y ∈ x, 0 ≤ y ∧ y ≤ 255 := by
              intro y hy
              rw [hx] at hy
              rcases List.mem_append.1 hy with z | z
              · exact hall y z
              · exact hall1 y z
             obtain ⟨n, hn⟩ : ∃ n, n = x.length - q := ⟨_, rfl⟩
             rw [← hn] at hrr e2 e3
             have hta : ∀ y ∈ x.take n, 0 ≤ y ∧ y ≤ 255 := fun y hy => hxa y (List.mem_of_mem_take hy)
             have hlt : (x.take n).length = n := by rw [List.length_take]; omega
             have hclo : ∀ (e : Nat) (_ : e ≤ 3) (b : Bool) (_ : rdF k e b (x.take n) = some r) (gF gC : Nat) (A2 : Option Addr) (c2 : Nat) (w2 : World), w2.cell? ⟨gF, 1, none⟩ = some (.bool b) → w2.cell? ⟨gC, 0, none⟩ = some (codV e) → Kd.C (Kd.int .u8) w2 A2 n (x.take n) → n ≤ c2 → Calls Try.prog 66 #[.slice A2 n c2, .pointer (some ⟨gF, 0, none⟩), .pointer (some ⟨gC, 0, none⟩)] w2 fun e w' => e = .returned (.string r) ∧ Below w2.heap.size w2 w' := by
              intro e he b hbb gF gC A2 c2 w2 h1 h2 h3 h4
              have z := clo_calls k e he b gF gC A2 c2 (x.take n) r w2 h1 h2 (by rw [hlt]; exact h3) (by rw [hlt]; exact h4) hta (by omega) hbb
              rw [hlt] at z
              exact z
             rcases ha with rfl | rfl | rfl | rfl
             · cases a0_1 with
               | true => exact (more_calls0b A0_2 c0_2 l0_2 A1 c1 l1 x q n r w hx hr0_2 hc0_2 hr1 hc1 hl hl1 (by omega) (fun A2 c2 w2 h1 h2 => by obtain rfl := Option.some.inj hq; exact keep_calls0 A2 c2 x w2 h1 h2 (by omega)) (hclo 0 (by omega) true hrr)).mono fun en w' z => more_post r1 r2 r3 r4 z e1 e2 e3 e4
               | false => exact (more_calls0n A0_2 c0_2 l0_2 A1 c1 l1 x q n r w hx hr0_2 hc0_2 hr1 hc1 hl hl1 (by omega) (fun A2 c2 w2 h1 h2 => by obtain rfl := Option.some.inj hq; exact keep_calls0 A2 c2 x w2 h1 h2 (by omega)) (hclo 0 (by omega) false hrr)).mono fun en w' z => more_post r1 r2 r3 r4 z e1 e2 e3 e4
             · cases a0_1 with
               | true => exact (more_calls1b A0_2 c0_2 l0_2 A1 c1 l1 x q n r w hx hr0_2 hc0_2 hr1 hc1 hl hl1 (by omega) (pairKeep_calls false x q hq) (hclo 1 (by omega) true hrr)).mono fun en w' z => more_post r1 r2 r3 r4 z e1 e2 e3 e4
               | false => exact (more_calls1n A0_2 c0_2 l0_2 A1 c1 l1 x q n r w hx hr0_2 hc0_2 hr1 hc1 hl hl1 (by omega) (pairKeep_calls false x q hq) (hclo 1 (by omega) false hrr)).mono fun en w' z => more_post r1 r2 r3 r4 z e1 e2 e3 e4
             · cases a0_1 with
               | true => exact (more_calls2b A0_2 c0_2 l0_2 A1 c1 l1 x q n r w hx hr0_2 hc0_2 hr1 hc1 hl hl1 (by omega) (pairKeep_calls true x q hq) (hclo 2 (by omega) true hrr)).mono fun en w' z => more_post r1 r2 r3 r4 z e1 e2 e3 e4
               | false => exact (more_calls2n A0_2 c0_2 l0_2 A1 c1 l1 x q n r w hx hr0_2 hc0_2 hr1 hc1 hl hl1 (by omega) (pairKeep_calls true x q hq) (hclo 2 (by omega) false hrr)).mono fun en w' z => more_post r1 r2 r3 r4 z e1 e2 e3 e4
             · cases a0_1 with
               | true => exact (more_calls3b A0_2 c0_2 l0_2 A1 c1 l1 x q n r w hx hr0_2 hc0_2 hr1 hc1 hl hl1 (by omega) (fun A2 c2 w2 h1 h2 => by obtain rfl := Option.some.inj hq; exact keep_calls3 (.slice A2 x.length c2) w2) (hclo 3 (by omega) true hrr)).mono fun en w' z => more_post r1 r2 r3 r4 z e1 e2 e3 e4
               | false => exact (more_calls3n A0_2 c0_2 l0_2 A1 c1 l1 x q n r w hx hr0_2 hc0_2 hr1 hc1 hl hl1 (by omega) (fun A2 c2 w2 h1 h2 => by obtain rfl := Option.some.inj hq; exact keep_calls3 (.slice A2 x.length c2) w2) (hclo 3 (by omega) false hrr)).mono fun en w' z => more_post r1 r2 r3 r4 z e1 e2 e3 e4
           · rw [if_neg hqx] at h; cases h
         · rw [if_neg hl1] at h
           have h' := Option.some.inj h
           simp only [moreZ, Prod.mk.injEq] at h'
           obtain ⟨e1, e2, e3, e4⟩ := h'
           rcases ha with rfl | rfl | rfl | rfl
           · exact (more_long0 a0_1 A0_2 c0_2 l0_2 A1 c1 l1 w hl hl1).mono fun en w' z => more_post r1 r2 r3 r4 z e1 e2 e3 e4
           · exact (more_long1 a0_1 A0_2 c0_2 l0_2 A1 c1 l1 w hl hl1).mono fun en w' z => more_post r1 r2 r3 r4 z e1 e2 e3 e4
           · exact (more_long2 a0_1 A0_2 c0_2 l0_2 A1 c1 l1 w hl hl1).mono fun en w' z => more_post r1 r2 r3 r4 z e1 e2 e3 e4
           · exact (more_long3 a0_1 A0_2 c0_2 l0_2 A1 c1 l1 w hl hl1).mono fun en w' z => more_post r1 r2 r3 r4 z e1 e2 e3 e4
       · rw [if_neg hl] at h
         have h' := Option.some.inj h
         simp only [moreZ, Prod.mk.injEq] at h'
         obtain ⟨e1, e2, e3, e4⟩ := h'
         rcases ha with rfl | rfl | rfl | rfl
         · exact (more_no 0 a0_1 A0_2 c0_2 l0_2 A1 c1 l1 w fun W => rdr_long0 a0_1 A0_2 c0_2 l0_2 W hl).mono fun en w' z => more_post r1 r2 r3 r4 z e1 e2 e3 e4
         · exact (more_no 1 a0_1 A0_2 c0_2 l0_2 A1 c1 l1 w fun W => rdr_long1 a0_1 A0_2 c0_2 l0_2 W hl).mono fun en w' z => more_post r1 r2 r3 r4 z e1 e2 e3 e4
         · exact (more_no 2 a0_1 A0_2 c0_2 l0_2 A1 c1 l1 w fun W => rdr_long2 a0_1 A0_2 c0_2 l0_2 W hl).mono fun en w' z => more_post r1 r2 r3 r4 z e1 e2 e3 e4
         · exact (more_no 3 a0_1 A0_2 c0_2 l0_2 A1 c1 l1 w fun W => rdr_long3 a0_1 A0_2 c0_2 l0_2 W hl).mono fun en w' z => more_post r1 r2 r3 r4 z e1 e2 e3 e4
     · rw [if_neg ha] at h
       have h' := Option.some.inj h
       simp only [moreZ, Prod.mk.injEq] at h'
       obtain ⟨e1, e2, e3, e4⟩ := h'
       exact (more_no a0_0 a0_1 A0_2 c0_2 l0_2 A1 c1 l1 w fun W => rdr_none a0_0 a0_1 A0_2 c0_2 l0_2 W (fun z => ha (.inl z)) (fun z => ha (.inr (.inl z))) (fun z => ha (.inr (.inr (.inl z)))) (fun z => ha (.inr (.inr (.inr z))))).mono fun en w' z => more_post r1 r2 r3 r4 z e1 e2 e3 e4
   · rw [if_neg hb1] at h; cases h
 · rw [if_neg hb] at h; cases h
end Go.Proofs.Ytmffcjjodkggcaa.MFnExactFeedMore
