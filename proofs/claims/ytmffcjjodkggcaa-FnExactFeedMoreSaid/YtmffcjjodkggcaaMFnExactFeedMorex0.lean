-- Written by this session's own program (wip/gen/myprint.py).
import Derived.Test.YtmffcjjodkggcaaProg
import Derived.Below
import Derived.Deep.Draws
import Derived.Deep.AppendLies
import Derived.Maps.AppendAt
import Derived.OwnWalk
import Derived.Laws.BytesArg
import Derived.Laws.MakeOwn
import Derived.Laws.OwnMore
import Derived.Deep.OwnRows
import Derived.Tactics
import Derived.Lib.ConvBytes
import Derived.Laws.Slices
import Derived.WalkKit
import Derived.KernelRfl
import Derived.RowKit3
import Derived.Deep.LoopGhost
import Derived.Deep.QuietTactic
import Derived.BigQuiet
import Derived.WideLaws
import Derived.Deep.DeepCutAuto
import Derived.Deep.CutBlock
import Derived.Deep.RegionHeld3
import Derived.Laws.Rows
import Derived.Lib.AppendStr
import Derived.ArgAppend
import Derived.Laws.IdiomCopy
import Derived.OrdersHeld
import Derived.Laws.BitsLemmas
import Derived.RowKit
import Derived.Handy
import Derived.Laws.Externs
import Derived.Laws.RangeAny
import Derived.Lib.Builder
import Derived.Lib.OthersKept
import Derived.Lib.RuneBytes
import Derived.Test.YtmffcjjodkggcaaShelf
import Derived.Test.YtmffcjjodkggcaaWWords
import Derived.Test.YtmffcjjodkggcaaWLast
import Derived.Test.YtmffcjjodkggcaaWTab
import Derived.Test.YtmffcjjodkggcaaWFour
import Derived.Test.YtmffcjjodkggcaaWQPut
import Derived.Test.YtmffcjjodkggcaaWApart
import Derived.Test.YtmffcjjodkggcaaWArr
import Derived.Test.YtmffcjjodkggcaaWZeros
import Derived.Test.YtmffcjjodkggcaaWFoot
import Derived.Test.YtmffcjjodkggcaaWKept
import Derived.Test.YtmffcjjodkggcaaWShare
import Derived.Test.YtmffcjjodkggcaaWN
import Derived.Test.YtmffcjjodkggcaaWFootNe
import Derived.Test.YtmffcjjodkggcaaWAt
import Derived.Test.YtmffcjjodkggcaaWEqStruct
import Derived.Test.YtmffcjjodkggcaaWRepsOne
import Derived.Test.YtmffcjjodkggcaaWGuard
import Derived.Test.YtmffcjjodkggcaaWNEv
import Derived.Test.YtmffcjjodkggcaaWMore
namespace Go.Proofs.Ytmffcjjodkggcaa.MFnExactFeedMore
open Go.RowKit Go.Proofs.YtmffcjjodkggcaaW.PrintWords Go.Proofs.YtmffcjjodkggcaaW.PrintLast Go.Proofs.YtmffcjjodkggcaaW.PrintMore
attribute [local go_sem] max2_int min2_int max_two min_two max_three min_three max_four min_four   -- for this text's walks alone
set_option linter.unusedVariables false
set_option linter.unusedSimpArgs false
set_option linter.defProp false
def bDn := @pw_below_drewN
def bD1 := @below_drew1
def bAl := @below_alloc
def oDt := @of_decide_eq_true
def bFr := @blk_frozen
def bCe := @blk_cell
def bkD := @blk_drewN
def bkA := @blk_alloc
def bSe := @below_set
def wBl := @World.block_lt_of_cell?
def lSa := @List.setIfInBounds_toArray
def lSz := @List.set_cons_zero
def lSs := @List.set_cons_succ
theorem aMk {p : Prop} (h : p) : Aside0 p := ⟨h⟩
theorem oBm {α β : Type} {o : Option α} {f : α → Option β} {b : β} (h : o.bind f = some b) : ∃ a, o = some a ∧ f a = some b := Option.bind_eq_some_iff.mp h
def errW : Option Int → Value
 | none => .nilIface
 | some c => .iface 0 (.int .i64 c)
theorem errW_none : errW none = .nilIface := rfl
theorem errW_some (c : Int) : errW (some c) = .iface 0 (.int .i64 c) := rfl
theorem info3 : (Try.prog.info? 3).map (fun i => (i.zero, i.size, i.bytes)) = some (some (.int .i64 0), 1, 8) := by kernel_rfl
theorem info5 : (Try.prog.info? 5).map (fun i => (i.zero, i.size, i.bytes)) = some (some (.int .u8 0), 1, 1) := by kernel_rfl
-- the values' own types
structure S35 where
 f0 : Int
 f1 : Bool
 f2 : (List Int)
def k35 : Kd S35 := Kd.iso (Kd.pair (Kd.int .i64) (Kd.pair Kd.bool (Kd.slice 5 (Kd.int .u8)))) (fun x : S35 => (x.f0, x.f1, x.f2))
def ok35 (v : S35) : Prop := (Lit.int .i64 v.f0).wf = true ∧ (v.f2.length ≤ maxLen ∧ ∀ x ∈ v.f2, (Lit.int .u8 x).wf = true)
-- IMPORT Derived.Lib.RuneBytes
-- IMPORT Derived.Laws.RangeAny
-- IMPORT Derived.Lib.OthersKept
theorem rd_n1 (xs : List Int) (i : Nat) (h : i < xs.length) : rd xs (i : Int) = xs[i] := by
 simp [rd, List.getElem?_eq_getElem h]
theorem some_ite {α : Type} {c : Prop} [Decidable c] {x y z : α} (h1 : c → x = z) (h2 : ¬ c → y = z) : (if c then x else y) = z := by
 by_cases h : c
 · rw [if_pos h]; exact h1 h
 · rw [if_neg h]; exact h2 h
def needsF (b : Int) : Int × Int × Int :=
 if b < 128 then (1, 0, 0) else
 if 194 ≤ b ∧ b ≤ 223 then (2, 128, 191) else
 if b = 224 then (3, 160, 191) else
 if b = 237 then (3, 128, 159) else
 if 225 ≤ b ∧ b ≤ 239 then (3, 128, 191) else
 if b = 240 then (4, 144, 191) else
 if b = 244 then (4, 128, 143) else
 if 241 ≤ b ∧ b ≤ 243 then (4, 128, 191) else (0, 0, 0)
theorem needs_le (b : Int) : 0 ≤ (needsF b).1 ∧ (needsF b).1 ≤ 4 := by
 unfold needsF
 repeat (first | exact ⟨by decide, by decide⟩ | split)
def tlF : Nat → Nat → Int → Int → List Int → Nat × Bool × Bool
 | 0, n, _, _, _ => (n, true, false)
 | _ + 1, n, _, _, [] => (n, false, true)
 | k + 1, n, lo, hi, c :: r => if c < lo ∨ c > hi then (n, false, false) else tlF k (n + 1) 128 191 r
def stretchF : List Int → Nat × Bool × Bool
 | [] => (0, false, false)
 | b :: r => if (needsF b).1 = 0 then (1, false, false) else tlF ((needsF b).1.toNat - 1) 1 (needsF b).2.1 (needsF b).2.2 r
theorem tlF_bd : ∀ (k n : Nat) (lo hi : Int) (r : List Int), n ≤ (tlF k n lo hi r).1 ∧ (tlF k n lo hi r).1 ≤ n + k ∧ (tlF k n lo hi r).1 ≤ n + r.length ∨ (k = 0 ∧ (tlF k n lo hi r).1 = n) := by
 intro k
 induction k with
 | zero => intro n lo hi r; exact .inr ⟨rfl, rfl⟩
 | succ k ih =>
  intro n lo hi r
  cases r with
  | nil => exact .inl ⟨Nat.le_refl _, by show n ≤ _; omega, by show n ≤ _; omega⟩
  | cons c r =>
   rw [tlF]
   split
   · exact .inl ⟨Nat.le_refl _, by show n ≤ _; omega, by show n ≤ _; omega⟩
   · have := ih (n + 1) 128 191 r
     simp only [List.length_cons]
     omega
theorem stretch_bd (l : List Int) (h : l ≠ []) : 1 ≤ (stretchF l).1 ∧ (stretchF l).1 ≤ l.length ∧ (stretchF l).1 ≤ 4 := by
 cases l with
 | nil => exact absurd rfl h
 | cons b r =>
  rw [stretchF]
  have hn := needs_le b
  split
  · exact ⟨Nat.le_refl _, by simp, by decide⟩
  · have := tlF_bd ((needsF b).1.toNat - 1) 1 (needsF b).2.1 (needsF b).2.2 r
    simp only [List.length_cons]
    omega
def rdU : Nat → List Int → List Int
 | 0, _ => []
 | _ + 1, [] => []
 | k + 1, b :: r => (if (stretchF (b :: r)).2.1 = true then (b :: r).take (stretchF (b :: r)).1 else [239, 191, 189]) ++ rdU k ((b :: r).drop (stretchF (b :: r)).1)
theorem rdU_cons (k : Nat) (l : List Int) (h : l ≠ []) : rdU (k + 1) l = (if (stretchF l).2.1 = true then l.take (stretchF l).1 else [239, 191, 189]) ++ rdU k (l.drop (stretchF l).1) := by
 cases l with
 | nil => exact absurd rfl h
 | cons b r => rfl
theorem rdU_nil (k : Nat) : rdU k [] = [] := by cases k <;> rfl
def encB (c : Int) : Bool := decide (c < 0) || (decide (c > 1114111) || (decide (c ≥ 55296) && decide (c ≤ 57343)))
def encZ (c : Int) : List Int := if encB c = true then [239, 191, 189] else Lib.encodeRuneZ c
def encU (l : List Int) : List Int := l.flatMap encZ
theorem encU_succ (l : List Int) (n : Nat) (h : n < l.length) : encU (l.take (n + 1)) = encU (l.take n) ++ encZ l[n] := by
 unfold encU
 rw [List.take_add_one, List.getElem?_eq_getElem h, List.flatMap_append]
 simp
theorem runeZ_len (c : Int) : (Lib.encodeRuneZ c).length ≤ 4 := by
 unfold Lib.encodeRuneZ
 repeat (first | (simp only [List.length_cons, List.length_nil]; omega) | split)
theorem encZ_len (c : Int) : (encZ c).length ≤ 4 := by
 unfold encZ
 split
 · decide
 · exact runeZ_len c
theorem encU_len (l : List Int) : (encU l).length ≤ 4 * l.length := by
 induction l with
 | nil => exact Nat.le_refl _
 | cons c l ih =>
  have := encZ_len c
  have e : encU (c :: l) = encZ c ++ encU l := by simp [encU]
  rw [e, List.length_append, List.length_cons]; omega
-- IMPORT Derived.Test.YtmffcjjodkggcaaShelf
-- IMPORT Derived.Lib.Builder
-- IMPORT Derived.Laws.Externs
-- INFO 3
def Bld (w : World) (B g : Nat) (out : List Int) : Prop := B ≤ g ∧ ∃ p v, w.heap[g]? = some (.cells #[p, v] 74 (0, 0)) ∧ (p = .pointer none ∨ p = .pointer (some ⟨g, 0, none⟩)) ∧ Kd.R (Kd.int .u8) 5 w B (fun k => k ≠ g) v out
theorem infoB : (Try.prog.info? 5).map (fun i => (i.zero, i.size, i.bytes)) = some (some (.int .u8 0), 1, 1) := by kernel_rfl
theorem sizeBld : (Try.prog.info? 74).map (·.size) = some 2 := by kernel_rfl
theorem liesBld : liesAt Try.prog Try.prog.depth 74 (2 / Try.prog.cellsOf 74) 0 74 1 = true := by kernel_rfl
theorem shape_of {w : World} {g : Nat} {p v : Value} (h : w.heap[g]? = some (.cells #[p, v] 74 (0, 0))) : w.shape? g = some (74, 2) := by
 simp [World.shape?, h]
set_option maxHeartbeats 2000000 in
set_option maxRecDepth 100000 in
theorem cc_calls (w : World) (g : Nat) (p v : Value) (h : w.heap[g]? = some (.cells #[p, v] 74 (0, 0))) (hp : p = .pointer none ∨ p = .pointer (some ⟨g, 0, none⟩)) :
 Calls Try.prog 74 #[.pointer (some ⟨g, 0, none⟩)] w fun e w' => e = .returned (.tuple #[]) ∧ (w' = w ∨ w' = w.setCell ⟨g, 0, none⟩ (.pointer (some ⟨g, 0, none⟩))) ∧ w'.heap[g]? = some (.cells #[.pointer (some ⟨g, 0, none⟩), v] 74 (0, 0)) := by
 obtain ⟨j, hj, hjs⟩ := Option.map_eq_some_iff.1 sizeBld
 have hu154 := Try.underlying72
 have hu156 := Try.underlying74
 have hu174 := Try.underlying98
 have h0 : w.cell? ⟨g, 0, none⟩ = some p := (bCe h 0).trans rfl
 have hfz := bFr h 0
 have hsh := shape_of h
 have H := aMk h
 have hset := aMk (blk_set h 0 (.pointer (some ⟨g, 0, none⟩)))
 clear h
 rcases hp with rfl | rfl
 · go_enter Try.func74, Try.ntmps74
   go_wp2
   rw [Lib.run_to_unsafe w ⟨g, 0, none⟩ Try.underlying72 Try.underlying98 hj (by rw [hjs]; decide) hsh (Nat.zero_lt_succ 1)]
   simp only [Result.andThen]
   rw [Oper.upon_value]
   go_wp2
   rw [run_callFunc_extern Try.func76 (by kernel_rfl) (by kernel_rfl) (by kernel_rfl) (e := Extern.AbiNoEscape.same) (by kernel_rfl)]
   rw [Lib.run_noEscape]
   simp only [Result.andThen]
   rw [Oper.upon_value]
   go_wp2
   rw [Lib.run_from_unsafe w ⟨g, 0, none⟩ Try.underlying98 Try.underlying72 hj hsh liesBld]
   simp only [Result.andThen]
   rw [Oper.upon_value]
   go_wp2
   go_end0
   exact ⟨rfl, .inr rfl, hset.out⟩
 · go_enter Try.func74, Try.ntmps74
   go_wp2
   rw [Lib.run_neq_ptr_same w _ Try.underlying72 hj]
   go_wp2
   go_end0
   exact ⟨rfl, .inl rfl, H.out⟩
theorem cc_bld (w w0 : World) (g : Nat) (out : List Int) (h : Bld w w0.heap.size g out) (hb : Below w0.heap.size w0 w) :
 Calls Try.prog 74 #[.pointer (some ⟨g, 0, none⟩)] w fun e w' => e = .returned (.tuple #[]) ∧ ∃ v, w'.heap[g]? = some (.cells #[.pointer (some ⟨g, 0, none⟩), v] 74 (0, 0)) ∧ Kd.R (Kd.int .u8) 5 w' w0.heap.size (fun k => k ≠ g) v out ∧ Below w0.heap.size w0 w' ∧ Below w0.heap.size w w' := by
 obtain ⟨hB, p, v, h1, h2, h3⟩ := h
 refine (cc_calls w g p v h1 h2).mono ?_
 rintro e w' ⟨rfl, rfl | rfl, h4⟩
 · exact ⟨rfl, v, h4, h3, hb, Below.refl _ _⟩
 · exact ⟨rfl, v, h4, Kd.R_far (p := ⟨g, 0, none⟩) h3 (fun k hk => hk) _, bSe hb hB, (Below.refl w0.heap.size w).setCell (p := ⟨g, 0, none⟩) hB _⟩
set_option maxHeartbeats 2000000 in
set_option maxRecDepth 100000 in
theorem wrs_calls (w w0 : World) (g : Nat) (out : List Int) (s : ByteArray) (h : Bld w w0.heap.size g out) (hb : Below w0.heap.size w0 w) (hl : out.length + s.size ≤ 140737488355328) :
 Calls Try.prog 58 #[.pointer (some ⟨g, 0, none⟩), .string s] w fun e w' => e = .returned (.tuple #[.int .i64 s.size, .nilIface]) ∧ Bld w' w0.heap.size g (out ++ bytesOf s) ∧ Below w0.heap.size w0 w' := by
 have HBld := aMk h
 have HL := aMk hl
 have HBb := aMk hb
 have hgB := aMk h.1
 clear h hb hl
 go_enter Try.func58, Try.ntmps58
 go_wp2_with (first | (go_at_call 74; refine (cc_bld w w0 g out HBld.out HBb.out).mono ?_; rintro e w1 ⟨rfl, v, h1, h2, h3, _⟩; have c0 : w1.cell? ⟨g, 0, none⟩ = some (.pointer (some ⟨g, 0, none⟩)) := (bCe h1 0).trans rfl; have c1 : w1.cell? ⟨g, 1, none⟩ = some v := (bCe h1 1).trans rfl; have H1 := aMk h1; have H2 := aMk h2; have H3 := aMk h3; clear h1 h2 h3) | ((with_reducible refine gate_builtin (b := .append) (xs := #[.tmp 12, .tmp 13]) rfl ?_); refine print_append_str (w0 := w0) w0.heap.size rfl (.tmp 12) (.tmp 13) 22 9 5 rfl Try.underlying22 Try.underlying9 infoB v out s rfl rfl (Kd.own_of_R H2.out) H3.out H3.out.size HL.out ?_; intro v1 w2 ho hb hg; have hb2 := blk_grown H1.out hg (Kd.R_ne H2.out H1.out (by decide)); obtain ⟨A2, cc2, e2⟩ := own_slice ho; have HR2 := aMk ho; have HG2 := aMk hb2; have HB2 := aMk hb; have d0 : w2.cell? ⟨g, 0, none⟩ = some (.pointer (some ⟨g, 0, none⟩)) := (bCe hb2 0).trans rfl; have d1 : w2.cell? ⟨g, 1, none⟩ = some v := (bCe hb2 1).trans rfl; have f1 := bFr hb2 1; clear c0 c1 ho hb hg hb2; subst e2))
 go_ret2
 refine ⟨rfl, ⟨hgB.out, _, _, blk_set HG2.out 1 _, .inr rfl, ?_⟩, bSe HB2.out hgB.out⟩
 have hR : Kd.R (Kd.int .u8) 5 w2 w0.heap.size (fun k => k ≠ g) (.slice A2 (out ++ bytesOf s).length cc2) (out ++ bytesOf s) := Kd.R_of_own HR2.out (fun k hk e => by subst e; exact (own_ne HR2.out HG2.out (by decide)) hk.symm)
 rw [List.length_append] at hR
 exact Kd.R_far (p := ⟨g, 1, none⟩) hR (fun k hk => hk) _
set_option maxHeartbeats 2000000 in
set_option maxRecDepth 100000 in
theorem wrb_calls (w w0 : World) (g : Nat) (out ys : List Int) (A : Option Addr) (c : Nat) (h : Bld w w0.heap.size g out) (hb : Below w0.heap.size w0 w) (hC : Kd.C (Kd.int .u8) w0 A ys.length ys) (hl : out.length + ys.length ≤ 140737488355328) :
 Calls Try.prog 57 #[.pointer (some ⟨g, 0, none⟩), .slice A ys.length c] w fun e w' => e = .returned (.tuple #[.int .i64 ys.length, .nilIface]) ∧ Bld w' w0.heap.size g (out ++ ys) ∧ Below w0.heap.size w0 w' := by
 have HBld := aMk h
 have HL := aMk hl
 have HBb := aMk hb
 have HC := aMk hC
 have hgB := aMk h.1
 clear h hb hl hC
 go_enter Try.func57, Try.ntmps57
 go_wp2_with (first | (go_at_call 74; refine (cc_bld w w0 g out HBld.out HBb.out).mono ?_; rintro e w1 ⟨rfl, v, h1, h2, h3, _⟩; have c0 : w1.cell? ⟨g, 0, none⟩ = some (.pointer (some ⟨g, 0, none⟩)) := (bCe h1 0).trans rfl; have c1 : w1.cell? ⟨g, 1, none⟩ = some v := (bCe h1 1).trans rfl; have H1 := aMk h1; have H2 := aMk h2; have H3 := aMk h3; clear h1 h2 h3) | ((with_reducible refine gate_builtin (b := .append) (xs := #[.tmp 12, .tmp 13]) rfl ?_); refine Kd.R_append_row (Value.int .u8) 0 (w0 := w0) w0.heap.size rfl (.tmp 12) (.tmp 13) 22 5 (.int .u8 0) 1 rfl Try.underlying22 infoB rfl (by decide) v out ys A ys.length c (fun k => k ≠ g) rfl rfl (fun k hk => by have := blk_lt H1.out; omega) H2.out (Kd.C_below HC.out H3.out) H3.out H3.out.size (by have := HL.out; omega) ?_; intro v1 w2 ho hb hg hat; have hb2 := blk_grown H1.out hg (Kd.R_ne H2.out H1.out (by decide)); obtain ⟨A2, cc2, e2⟩ := own_slice (Kd.own_of_R ho); have HR2 := aMk (Kd.own_of_R ho); have HG2 := aMk hb2; have HB2 := aMk hb; have d0 : w2.cell? ⟨g, 0, none⟩ = some (.pointer (some ⟨g, 0, none⟩)) := (bCe hb2 0).trans rfl; have d1 : w2.cell? ⟨g, 1, none⟩ = some v := (bCe hb2 1).trans rfl; have f1 := bFr hb2 1; clear c0 c1 ho hb hg hb2 hat; subst e2))
 go_ret2
 refine ⟨rfl, ⟨hgB.out, _, _, blk_set HG2.out 1 _, .inr rfl, ?_⟩, bSe HB2.out hgB.out⟩
 have hR : Kd.R (Kd.int .u8) 5 w2 w0.heap.size (fun k => k ≠ g) (.slice A2 (out ++ ys).length cc2) (out ++ ys) := Kd.R_of_own HR2.out (fun k hk e => by subst e; exact (own_ne HR2.out HG2.out (by decide)) hk.symm)
 rw [List.length_append] at hR
 exact Kd.R_far (p := ⟨g, 1, none⟩) hR (fun k hk => hk) _
set_option maxHeartbeats 2000000 in
set_option maxRecDepth 100000 in
theorem bstr_calls (w w0 : World) (g : Nat) (out : List Int) (h : Bld w w0.heap.size g out) (hb : Below w0.heap.size w0 w) (hr : ∀ x ∈ out, 0 ≤ x ∧ x ≤ 255) :
 Calls Try.prog 59 #[.pointer (some ⟨g, 0, none⟩)] w fun e w' => e = .returned (.string (strOfNums out)) ∧ Below w0.heap.size w0 w' := by
 obtain ⟨hB, p, v, h1, h2, h3⟩ := h
 have hown := Kd.own_of_R h3
 have e : encs (Value.int .u8) out = Lib.byteCells (out.map fun n => UInt8.ofNat n.toNat) := by
  simp only [encs, Lib.byteCells, List.map_map]
  refine List.map_congr_left fun x hx => ?_
  have := hr x hx
  simp only [Function.comp, UInt8.toNat_ofNat']
  congr 1
  omega
 have hI : Lib.IsBuilder 74 5 w0.heap.size g (Lib.byteCells (out.map fun n => UInt8.ofNat n.toNat)) w := by
  have key : Lib.BuilderAt 74 5 w0.heap.size g p (Lib.byteCells (out.map fun n => UInt8.ofNat n.toNat)) w := by
   refine ⟨hB, v, h1, ?_, fun z => (Kd.R_ne h3 h1 (by decide)) z.symm⟩
   rw [← e]
   simpa [encs] using hown
  rcases h2 with rfl | rfl
  · exact .inl key
  · exact .inr key
 refine (Try.Builder_String_any w0.heap.size g _ w hI hb.size).mono ?_
 rintro e w' ⟨rfl, hb2⟩
 exact ⟨rfl, hb.trans hb2⟩
end Go.Proofs.Ytmffcjjodkggcaa.MFnExactFeedMore
