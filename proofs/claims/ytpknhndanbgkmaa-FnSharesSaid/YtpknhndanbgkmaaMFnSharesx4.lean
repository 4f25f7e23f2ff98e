-- Written by this session's own program (wip/gen/myprint.py).
import Derived.Test.YtpknhndanbgkmaaMFnSharesx0
import Derived.Test.YtpknhndanbgkmaaMFnSharesx2
import Derived.Test.YtpknhndanbgkmaaMFnSharesx3
namespace Go.Proofs.Ytpknhndanbgkmaa.MFnShares
open Go.RowKit Go.Proofs.YtpknhndanbgkmaaW.PrintWords Go.Proofs.YtpknhndanbgkmaaW.PrintLast Go.Proofs.YtpknhndanbgkmaaW.PrintMore
attribute [local go_sem] max2_int min2_int max_two min_two max_three min_three max_four min_four   -- for this text's walks alone
set_option linter.unusedVariables false
set_option linter.unusedSimpArgs false
-- INFO 3
structure Fx where
 i : S66
 t : Int
 f : Int
 fx : Bool
 s : Int
def zFx : Fx := ⟨z66, 0, 0, false, 0⟩
def fcells (x : Fx) : Array Value := #[.int .i64 x.i.f0, .int .i64 x.i.f1, .int .i64 x.i.f2, .int .i64 x.i.f3, .int .i64 x.i.f4, .int .i64 x.t, .int .i64 x.f, .bool x.fx, .int .i64 x.s]
def kPtr : Kd Nat := Kd.scalar (fun g => .pointer (some ⟨g, 0, none⟩)) (fun _ => rfl)
structure FL (W : World) (base : Nat) (gs : List Nat) (xs : List Fx) : Prop where
 len : gs.length = xs.length
 nd : gs.Nodup
 ge : ∀ g ∈ gs, base ≤ g
 at_ : ∀ i (h : i < gs.length), W.heap[gs[i]]? = some (.cells (fcells (xs.getD i zFx)) 145 (0, 0))
theorem FL.lt {W : World} {base : Nat} {gs : List Nat} {xs : List Fx} (h : FL W base gs xs) : ∀ g ∈ gs, g < W.heap.size := by
 intro g hg
 obtain ⟨i, hi, rfl⟩ := List.mem_iff_getElem.1 hg
 exact blk_lt (h.at_ i hi)
theorem FL.below {W W' : World} {base : Nat} {gs : List Nat} {xs : List Fx} (h : FL W base gs xs) (k : Below W.heap.size W W') : FL W' base gs xs :=
 ⟨h.len, h.nd, h.ge, fun i hi => blk_below (h.at_ i hi) k⟩
theorem FL.get {W : World} {base : Nat} {gs : List Nat} {xs : List Fx} (h : FL W base gs xs) (n : Nat) (hn : n < gs.length) : W.heap[gs[n]]? = some (.cells (fcells (xs.getD n zFx)) 145 (0, 0)) := h.at_ n hn
/-- A block of the list has turned, all others are as they were. -/
theorem FL.turn {W W' : World} {base : Nat} {gs : List Nat} {xs : List Fx} (h : FL W base gs xs) (n : Nat) (hn : n < gs.length) (x : Fx) (hx : W'.heap[gs[n]]? = some (.cells (fcells x) 145 (0, 0))) (hk : ∀ k, k < W.heap.size → k ≠ gs[n] → W'.heap[k]? = W.heap[k]?) : FL W' base gs (xs.set n x) := by
 refine ⟨by rw [List.length_set]; exact h.len, h.nd, h.ge, fun i hi => ?_⟩
 by_cases e : i = n
 · subst e
   rw [hx, List.getD_eq_getElem?_getD, List.getElem?_set_self (by rw [← h.len]; exact hi)]
   rfl
 · have hp := List.pairwise_iff_getElem.1 h.nd
   have hne : gs[i] ≠ gs[n] := by
    rcases Nat.lt_or_gt_of_ne e with z | z
    · exact hp i n hi hn z
    · exact (hp n i hn hi z).symm
   rw [hk _ (h.lt _ (List.getElem_mem _)) hne, h.at_ i hi, List.getD_eq_getElem?_getD, List.getD_eq_getElem?_getD, List.getElem?_set_ne (fun z => e z.symm)]
theorem FL.push {W : World} {base : Nat} {gs : List Nat} {xs : List Fx} (h : FL W base gs xs) (g : Nat) (x : Fx) (hb : base ≤ g) (hn : g ∉ gs) (hx : W.heap[g]? = some (.cells (fcells x) 145 (0, 0))) : FL W base (gs ++ [g]) (xs ++ [x]) := by
 refine ⟨by simp [h.len], ?_, fun k hk => ?_, fun i hi => ?_⟩
 · rw [List.nodup_append]
   exact ⟨h.nd, by simp, fun a ha b hb2 e => hn (by simp at hb2; rw [← hb2, ← e]; exact ha)⟩
 · rcases List.mem_append.1 hk with z | z
   · exact h.ge k z
   · simp at z; omega
 · by_cases e : i < gs.length
   · rw [List.getElem_append_left e, h.at_ i e, List.getD_eq_getElem?_getD, List.getD_eq_getElem?_getD, List.getElem?_append_left (by rw [← h.len]; exact e)]
   · have e2 : i = gs.length := by simp at hi; omega
     subst e2
     rw [List.getElem_append_right (Nat.le_refl _), List.getD_eq_getElem?_getD, List.getElem?_append_right (by rw [h.len]; exact Nat.le_refl _)]
     simpa [h.len] using hx
theorem FL.far {W : World} {base : Nat} {gs : List Nat} {xs : List Fx} (h : FL W base gs xs) {p : Addr} (hp : p.block ∉ gs) (u : Value) : FL (W.setCell p u) base gs xs :=
 ⟨h.len, h.nd, h.ge, fun i hi => blk_far (h.at_ i hi) (fun e => hp (e ▸ List.getElem_mem _)) u⟩
theorem FL.grown {W W' : World} {base : Nat} {gs : List Nat} {xs : List Fx} (h : FL W base gs xs) {α : Type} {d : Kd α} {e b : Nat} {ok : Nat → Prop} {v : Value} {ys : List α} (ho : d.R e W b ok v ys) (he : e ≠ 145) (hg : W.grownBy W' v.ownBlock) : FL W' base gs xs :=
 ⟨h.len, h.nd, h.ge, fun i hi => blk_grown (h.at_ i hi) hg (Kd.R_ne ho (h.at_ i hi) he)⟩
theorem ptr_at {W : World} {A : Option Addr} {gs : List Nat} (h : Kd.C kPtr W A gs.length gs) (n : Nat) (hn : n < gs.length) : ∃ ad, A = some ad ∧ W.cell? (ad.add n) = some (.pointer (some ⟨gs[n], 0, none⟩)) := by
 obtain ⟨ad, c, e, _, hK, hc⟩ := Kd.C_get h 0 (n : Int) (by omega) (by omega)
 have hK : c = [.pointer (some ⟨gs.getD (n : Int).toNat 0, 0, none⟩)] := hK
 rw [Int.toNat_natCast, List.getD_eq_getElem?_getD, List.getElem?_eq_getElem hn] at hK
 subst hK
 have := hc 0 _ rfl
 rw [Int.toNat_natCast, show kPtr.sz = 1 from rfl, Nat.mul_one, Nat.add_zero] at this
 exact ⟨ad, e, this⟩
/-- Behind changes of one item's block alone. -/
structure Turn (w wr W : World) (g : Nat) (x : Fx) : Prop where
 blk : W.heap[g]? = some (.cells (fcells x) 145 (0, 0))
 ke : ∀ k, k < wr.heap.size → k ≠ g → W.heap[k]? = wr.heap[k]?
 b : Below w.heap.size w W
 sz : wr.heap.size ≤ W.heap.size
theorem Turn.refl {w wr : World} {g : Nat} {x : Fx} (h : wr.heap[g]? = some (.cells (fcells x) 145 (0, 0))) (hb : Below w.heap.size w wr) : Turn w wr wr g x := ⟨h, fun _ _ _ => rfl, hb, Nat.le_refl _⟩
theorem Turn.below {w wr W W' : World} {g : Nat} {x : Fx} (h : Turn w wr W g x) (k : Below W.heap.size W W') : Turn w wr W' g x :=
 ⟨blk_below h.blk k, fun i hi hn => (k.block i (Nat.lt_of_lt_of_le hi h.sz)).trans (h.ke i hi hn), below_step h.b k, Nat.le_trans h.sz k.size⟩
theorem Turn.set {w wr W : World} {g : Nat} {x : Fx} (h : Turn w wr W g x) (j : Nat) (u : Value) (x' : Fx) (hx : (fcells x).setIfInBounds j u = fcells x') (hg : w.heap.size ≤ g) : Turn w wr (W.setCell ⟨g, j, none⟩ u) g x' :=
 ⟨by rw [← hx]; exact blk_set h.blk j u, fun i hi hn => (Below.heap_setCell W ⟨g, j, none⟩ u i hn).trans (h.ke i hi hn), bSe h.b hg, by rw [World.size_setCell]; exact h.sz⟩
theorem Turn.list {w wr W : World} {g : Nat} {x : Fx} (h : Turn w wr W g x) {base : Nat} {gs : List Nat} {xs : List Fx} (hF : FL wr base gs xs) (n : Nat) (hn : n < gs.length) (hg : gs[n] = g) : FL W base gs (xs.set n x) :=
 hF.turn n hn x (by rw [hg]; exact h.blk) (fun k hk hne => h.ke k hk (by rw [← hg]; exact hne))
theorem Turn.row {w wr W : World} {g : Nat} {x x0 : Fx} (h : Turn w wr W g x) (h0 : wr.heap[g]? = some (.cells (fcells x0) 145 (0, 0))) {α : Type} {d : Kd α} {e base : Nat} {ok : Nat → Prop} {v : Value} {ys : List α} (hR : d.R e wr base ok v ys) (he : ∀ q, q ∈ e :: d.E → q ≠ 145) : d.R e W base ok v ys :=
 Kd.R_mono (Kd.R_step (Kd.R_types hR h0 he) (fun k hk hlt => h.ke k hlt hk.2)) (fun _ hk => hk.1)
def leftF (xs : List Fx) (room : Int) : Int := xs.foldl (fun r x => wrap64 (r - (if x.fx = true then x.t else x.i.f0))) room
theorem leftF_step (xs : List Fx) (n : Nat) (h : n < xs.length) (r : Int) : leftF (xs.drop n) r = leftF (xs.drop (n + 1)) (wrap64 (r - (if (xs.getD n zFx).fx = true then (xs.getD n zFx).t else (xs.getD n zFx).i.f0))) := by
 unfold leftF
 rw [List.drop_eq_getElem_cons h, List.foldl_cons, List.getD_eq_getElem?_getD, List.getElem?_eq_getElem h]
 rfl
set_option maxHeartbeats 8000000 in
set_option maxRecDepth 100000 in
theorem left_calls (A : Option Addr) (c base : Nat) (gs : List Nat) (xs : List Fx) (room : Int) (w : World) (hr : Kd.C kPtr w A gs.length gs) (hc : gs.length ≤ c) (hF : FL w base gs xs) (hl : gs.length ≤ 1000000) :
 Calls Try.prog 122 #[.slice A gs.length c, .int .i64 room] w fun e w' => e = .returned (.int .i64 (leftF xs room)) ∧ w = w' := by
 have HR := aMk hr
 have HF := aMk hF
 have HL := aMk hl
 clear hr hc hF hl
 go_enter Try.func122, Try.ntmps122
 go_wp2
 go_loopg [1, 6, 9] gs.length (fun kq v1 v6 v9 w' => ∃ (n : Nat) (r : Int), v1 = .int .i64 r ∧ v9 = .int .i64 (n : Int) ∧ Aside0 (n + kq = gs.length) ∧ Aside0 (leftF (xs.drop n) r = leftF xs room) ∧ w' = w)
 case atStart => exact ⟨0, room, rfl, rfl, ⟨by simp⟩, ⟨rfl⟩, rfl⟩
 case round =>
  obtain ⟨n, r, rfl, rfl, HN, HE, rfl⟩ := hrel
  by_cases c1 : n < gs.length
  · have hk : gk ≠ 0 := by have := HN.out; omega
    obtain ⟨k1, rfl⟩ := Nat.exists_eq_succ_of_ne_zero hk
    clear hk
    have d1 : decide ((n : Int) < (gs.length : Int)) = true := decide_eq_true (by omega)
    have d2 : decide (n < gs.length) = true := decide_eq_true c1
    obtain ⟨ad, eA, hcell⟩ := ptr_at HR.out n c1
    have hb := HF.out.get n c1
    have hst := leftF_step xs n (by have := HF.out.len; omega) r
    obtain ⟨x, hx⟩ : ∃ x, x = xs.getD n zFx := ⟨_, rfl⟩
    rw [← hx] at hb hst
    obtain ⟨g, hg⟩ : ∃ g, g = gs[n] := ⟨_, rfl⟩
    rw [← hg] at hb hcell
    have q0 : wr.cell? ⟨g, 0, none⟩ = some (.int .i64 x.i.f0) := bCe hb 0
    have q5 : wr.cell? ⟨g, 5, none⟩ = some (.int .i64 x.t) := bCe hb 5
    have q7 : wr.cell? ⟨g, 7, none⟩ = some (.bool x.fx) := bCe hb 7
    have p0 : 0 ≤ (n : Int) := by omega
    have p1 : (n : Int) < (gs.length : Int) := by omega
    have hw : wrap64 ((n : Int) + 1) = ((n + 1 : Nat) : Int) := by have := HL.out; unfold wrap64; omega
    have HE1 := HE.out
    rw [hst] at HE1
    clear hx hg hst HE hb
    cases eA
    cases hfx : x.fx
    all_goals
     rw [hfx] at q7 HE1
     first | rw [if_pos rfl] at HE1 | rw [if_neg (by decide)] at HE1
     have HE2 := aMk HE1
     clear HE1 hfx
     go_wp2
     go_roundg k1
     case measure => omega
     case rel => exact ⟨n + 1, _, rfl, by rw [hw], ⟨by have := HN.out; omega⟩, HE2, rfl⟩
  · have d1 : decide ((n : Int) < (gs.length : Int)) = false := decide_eq_false (by omega)
    have d2 : decide (n < gs.length) = false := decide_eq_false c1
    have HE2 : Aside0 (r = leftF xs room) := ⟨by have := HE.out; rwa [List.drop_of_length_le (by have := HF.out.len; omega)] at this⟩
    clear HE
    go_wp2
    go_ret
    exact ⟨by rw [← HE2.out]; rfl, rfl⟩
theorem below_all {w0 w w' : World} (hB : Below w0.heap.size w0 w) (hB' : Below w0.heap.size w0 w') (hs : w.heap.size ≤ w'.heap.size) (hk : ∀ k, k < w.heap.size → w'.heap[k]? = w.heap[k]?) : Below w.heap.size w w' :=
 ⟨hB'.os.trans hB.os.symm, hB'.tape.trans hB.tape.symm, hB'.output.trans hB.output.symm, hs, hk⟩
def fitI (i : S66) (v : Int) : Int := if i.f4 ≥ 0 then mx (mn v i.f4) i.f3 else mx v i.f3
theorem fit_calls (w0 w : World) (g : Nat) (x : Fx) (v : Int) (hg : w.heap[g]? = some (.cells (fcells x) 145 (0, 0))) (hge : w0.heap.size ≤ g) (hB : Below w0.heap.size w0 w) :
 Calls Try.prog 147 #[.pointer (some ⟨g, 0, none⟩), .int .i64 v] w fun e w' => e = .returned (.int .i64 (fitI x.i v)) ∧ Below w.heap.size w w' := by
 have h : impl_flexing_fit.f x.i.f0 x.i.f1 x.i.f2 x.i.f3 x.i.f4 x.t x.f x.fx x.s v = some (fitI x.i v, x.i.f0, x.i.f1, x.i.f2, x.i.f3, x.i.f4, x.t, x.f, x.fx, x.s) := by
  unfold impl_flexing_fit.f fitI
  split <;> rfl
 refine (impl_flexing_fit.calls g _ _ _ _ _ _ _ _ _ v _ _ _ _ _ _ _ _ _ _ w0 w ⟨hg, hge⟩ hB h).mono ?_
 rintro e w' ⟨rfl, hI, hB', hK⟩
 refine ⟨rfl, below_all hB hB' hK.1 fun k hk => ?_⟩
 by_cases e : k = g
 · subst e; rw [hI.1, hg]; rfl
 · exact hK.2 k hk e (by simp)
def beg1 (i : S66) : Fx := ⟨i, fitI i i.f0, 0, false, 0⟩
def sumT (xs : List Fx) (a : Int) : Int := xs.foldl (fun r x => wrap64 (r + x.t)) a
def clampI (v : Int) : Int := mx 0 (mn v 1000000)
def beg2 (grows : Bool) (x : Fx) : Fx :=
 ⟨x.i, x.t, clampI (if grows = true then x.i.f1 else x.i.f2), (decide (clampI (if grows = true then x.i.f1 else x.i.f2) = 0) || (grows && decide (x.i.f0 > x.t))) || (!grows && decide (x.i.f0 < x.t)), x.s⟩
theorem infoFP : (Try.prog.info? 143).map (fun i => (i.zero, i.size, i.bytes)) = some (some (.pointer none), 1, 8) := by kernel_rfl
def mapS {α : Type} (f : α → α) (l : List α) (n : Nat) : List α := (l.take n).map f ++ l.drop n
theorem mapS_len {α : Type} (f : α → α) (l : List α) (n : Nat) : (mapS f l n).length = l.length := by unfold mapS; rw [List.length_append, List.length_map, List.length_take, List.length_drop]; omega
theorem mapS_get {α : Type} (f : α → α) (l : List α) (n : Nat) (h : n < l.length) (d : α) : (mapS f l n).getD n d = l[n] := by
 unfold mapS
 rw [List.getD_eq_getElem?_getD, List.getElem?_append_right (by rw [List.length_map, List.length_take]; omega), List.length_map, List.length_take, List.getElem?_drop, show n + (n - min n l.length) = n by omega, List.getElem?_eq_getElem h]
 rfl
theorem mapS_set {α : Type} (f : α → α) (l : List α) (n : Nat) (h : n < l.length) : (mapS f l n).set n (f l[n]) = mapS f l (n + 1) := by
 unfold mapS
 rw [List.set_append_right _ _ (by rw [List.length_map, List.length_take]; omega), List.length_map, List.length_take, show n - min n l.length = 0 by omega, List.drop_eq_getElem_cons h, lSz, List.take_succ_eq_append_getElem h, List.map_append, List.append_assoc]
 rfl
theorem mapS_zero {α : Type} (f : α → α) (l : List α) : mapS f l 0 = l := by unfold mapS; simp
theorem mapS_end {α : Type} (f : α → α) (l : List α) (n : Nat) (h : l.length ≤ n) : mapS f l n = l.map f := by unfold mapS; rw [List.take_of_length_le h, List.drop_of_length_le h, List.append_nil]
def begL (items : List S66) (room : Int) : List Fx := (items.map beg1).map (beg2 (decide (sumT (items.map beg1) 0 < room)))
set_option maxHeartbeats 8000000 in
set_option maxRecDepth 100000 in
theorem begin1 (A : Option Addr) (c : Nat) (items : List S66) (room : Int) (w : World) (hr : Kd.C k66 w A items.length items) (hc : items.length ≤ c) (hl : items.length ≤ 1000000) :
 Calls Try.prog 121 #[.slice A items.length c, .int .i64 room] w fun e w' => ∃ (v : Value) (gs : List Nat), e = .returned (.tuple #[v, .bool (decide (sumT (items.map beg1) 0 < room))]) ∧ Kd.R kPtr 143 w' w.heap.size (fun _ => True) v gs ∧ FL w' w.heap.size gs (begL items room) ∧ Below w.heap.size w w' := by
 have hu66 := Try.underlying66
 have hu145 := Try.underlying145
 have HR := aMk hr
 have HL := aMk hl
 have HB := aMk (Below.refl w.heap.size w)
 clear hr hc hl
 go_enter Try.func121, Try.ntmps121
 go_wp2_with (first | ((with_reducible refine gate_dst (N := 14) rfl ?_); refine Kd.R_lit kPtr _ 143 ?hg (N := 14) ?hd (xs := ([] : List Nat)) (inner := []) (ok := fun _ => True) (okp := fun _ => True) ?hr ?hp (fun _ hk => hk) trivial (Below.refl _ _) (Nat.le_refl _) (by simp) ?_; (case hd => rfl); (case hg => rfl); (case hr => first | (go_simp; done) | (go_simp; rfl)); (case hp => exact (Reps.none _ _)); intro v3 w3 ho3 hb hg_ hnew_; have HO3 := aMk ho3; have HB3 := aMk hb; clear hg_ hnew_ hb ho3 HB))
 go_loopg [6, 7, 17] items.length (fun kq v6 v7 v17 w' => ∃ (n : Nat) (gs : List Nat) (s : Int), v7 = .int .i64 s ∧ v17 = .int .i64 (n : Int) ∧ Aside0 (n + kq = items.length) ∧ Aside0 (s = sumT ((items.take n).map beg1) 0) ∧ Aside0 (Kd.R kPtr 143 w' w.heap.size (fun _ => True) v6 gs) ∧ Aside0 (FL w' w.heap.size gs ((items.take n).map beg1)) ∧ Aside0 (Below w.heap.size w w'))
 case atStart => exact ⟨0, [], 0, rfl, rfl, ⟨by simp⟩, ⟨rfl⟩, ⟨HO3.out⟩, ⟨⟨rfl, by simp, by simp, by simp⟩⟩, HB3⟩
 case round =>
  clear HO3 HB3
  obtain ⟨n, gs, s, rfl, rfl, HN, HS, HO, HF, HB⟩ := hrel
  by_cases c1 : n < items.length
  · have hk : gk ≠ 0 := by have := HN.out; omega
    obtain ⟨k1, rfl⟩ := Nat.exists_eq_succ_of_ne_zero hk
    clear hk
    have d1 : decide ((n : Int) < (items.length : Int)) = true := decide_eq_true (by omega)
    have d2 : decide (n < items.length) = true := decide_eq_true c1
    have p0 : 0 ≤ (n : Int) := by omega
    have p1 : (n : Int) < (items.length : Int) := by omega
    obtain ⟨ad, eA, x0, x1, x2, x3, x4⟩ := at_T66 (Kd.C_below HR.out HB.out) (n : Int) p0 p1
    have hx : rd_T66 items (n : Int) = items[n] := by unfold rd_T66; rw [Int.toNat_natCast, List.getD_eq_getElem?_getD, List.getElem?_eq_getElem c1]; rfl
    rw [hx, Int.toNat_natCast] at x0 x1 x2 x3 x4
    have htk : (items.take (n + 1)).map beg1 = (items.take n).map beg1 ++ [beg1 items[n]] := by rw [List.take_succ_eq_append_getElem c1, List.map_append]; rfl
    have HTK := aMk htk
    obtain ⟨i, hi⟩ : ∃ i, i = items[n] := ⟨_, rfl⟩
    rw [← hi] at x0 x1 x2 x3 x4 HTK
    have hw : wrap64 ((n : Int) + 1) = ((n + 1 : Nat) : Int) := by have := HL.out; unfold wrap64; omega
    clear hx hi htk
    cases eA
    have HX0 := aMk (Below.refl wr.heap.size wr)
    have HLT := aMk HF.out.lt
    go_wp2_with (first | (go_at_call 147; refine (fit_calls w _ (wr.heap.size + 1) ⟨i, 0, 0, false, 0⟩ i.f0 ?hg ?hge ?hB).mono ?_; (case hg => rw [show wr.heap.size + 1 = (wr.alloc (.cells #[.int .i64 i.f0, .int .i64 i.f1, .int .i64 i.f2, .int .i64 i.f3, .int .i64 i.f4] 66)).heap.size by simp]; exact blk_new _ _); (case hge => have := HB.out.size; omega); (case hB => exact bAl (bAl HB.out _) _); rintro e w7 ⟨rfl, hb⟩; have hg7 := blk_below (by rw [show wr.heap.size + 1 = (wr.alloc (.cells #[.int .i64 i.f0, .int .i64 i.f1, .int .i64 i.f2, .int .i64 i.f3, .int .i64 i.f4] 66)).heap.size by simp]; exact blk_new _ _ : ((wr.alloc (.cells #[.int .i64 i.f0, .int .i64 i.f1, .int .i64 i.f2, .int .i64 i.f3, .int .i64 i.f4] 66)).alloc (.cells #[.int .i64 i.f0, .int .i64 i.f1, .int .i64 i.f2, .int .i64 i.f3, .int .i64 i.f4, .int .i64 0, .int .i64 0, .bool false, .int .i64 0] 145)).heap[wr.heap.size + 1]? = some (.cells (fcells ⟨i, 0, 0, false, 0⟩) 145 (0, 0))) hb; have hs5 : w7.cell? ⟨wr.heap.size + 1, 5, none⟩ = some (.int .i64 0) := bCe hg7 5; have hf5 : w7.frozen? ⟨wr.heap.size + 1, 5, none⟩ = false := bFr hg7 5; have HG7 := aMk hg7; have HW7 := aMk (below_step (bAl (bAl (Below.refl wr.heap.size wr) _) _) hb); clear hb hg7) | ((with_reducible refine gate_builtin (b := .append) (xs := #[.tmp 37, .tmp 39]) rfl ?_); at_builtin; refine Kd.R_append kPtr (w0 := w) w.heap.size rfl (.tmp 37) (.tmp 39) 138 143 (.pointer none) 8 rfl Try.underlying138 infoFP rfl (by decide) (by omega) _ gs (wr.heap.size + 1) [.pointer (some ⟨wr.heap.size + 1, 0, none⟩)] (fun _ => True) (fun _ => False) rfl ?q1 rfl (fun _ hk => hk.elim) (fun _ _ => trivial) ?q2 ?q3 ?q4 ?hl ?_; (case q1 => first | (go_simp; done) | (go_simp; rfl)); (case q2 => exact (Kd.R_set (Kd.R_below HO.out HW7.out) HG7.out (by decide) 5 (.int .i64 (fitI i i.f0)))); (case q3 => exact (bSe (below_step HB.out HW7.out) (by have := HB.out.size; omega))); (case q4 => have h1 := HB.out.size; have h2 := HW7.out.size; simp only [World.size_setCell]; omega); (case hl => have h1 := HF.out.len; have h2 := HL.out; rw [List.length_map, List.length_take] at h1; omega); intro v8 w8 ho8 hb8 hg8 _; have HO8 := aMk ho8; have HB8 := aMk hb8; have hoW := Kd.R_set (Kd.R_below HO.out HW7.out) HG7.out (by decide) 5 (.int .i64 (fitI i i.f0)); have hfW := (HF.out.below HW7.out).far (p := ⟨wr.heap.size + 1, 5, none⟩) (by intro z; have h_ : wr.heap.size + 1 < wr.heap.size := HLT.out _ z; omega) (.int .i64 (fitI i i.f0)); have HF8 := aMk (hfW.grown hoW (by decide) hg8); have hxW := blk_set HG7.out 5 (.int .i64 (fitI i i.f0)); have HX8 := aMk (blk_grown hxW hg8 (Kd.R_ne hoW hxW (by decide))); clear hoW hfW hxW ho8 hb8 hg8))
    go_roundg k1
    case measure => omega
    case rel => exact ⟨n + 1, gs ++ [wr.heap.size + 1], _, rfl, by rw [hw], ⟨by have := HN.out; omega⟩, ⟨by rw [HTK.out, HS.out]; unfold sumT; rw [List.foldl_append]; rfl⟩, HO8, ⟨by rw [HTK.out]; exact HF8.out.push _ _ (by have := HB.out.size; omega) (fun z => by have := HLT.out _ z; omega) HX8.out⟩, HB8⟩
  · have d1 : decide ((n : Int) < (items.length : Int)) = false := decide_eq_false (by omega)
    have d2 : decide (n < items.length) = false := decide_eq_false c1
    have en : n = items.length := by have := HN.out; omega
    have hs : Aside0 (s = sumT (items.map beg1) 0) := ⟨by have := HS.out; rwa [en, List.take_length] at this⟩
    have hf : Aside0 (FL wr w.heap.size gs (mapS (beg2 (decide (sumT (items.map beg1) 0 < room))) (items.map beg1) 0)) := ⟨by have := HF.out; rw [en, List.take_length] at this; rw [mapS_zero]; exact this⟩
    obtain ⟨A6, c6, e6, hc6, hr6⟩ := Kd.R_reads HO.out
    subst e6
    have HLN : Aside0 (gs.length = items.length) := ⟨by have h1 := hf.out.len; rw [mapS_len, List.length_map] at h1; exact h1⟩
    obtain ⟨gr, hgr⟩ : ∃ gr, gr = decide (sumT (items.map beg1) 0 < room) := ⟨_, rfl⟩
    rw [← hgr] at hf
    have HGR : Aside0 (gr = decide (sumT (items.map beg1) 0 < room)) := ⟨hgr⟩
    have HGR2 : decide (s < room) = gr := by rw [hgr, hs.out]
    clear HN HS HF c1 hc6 hr6 hgr en
    have HNN := HLN
    go_wp2
    go_loopg [13, 47] gs.length (fun kq v13 v47 w' => ∃ n : Nat, v47 = .int .i64 (n : Int) ∧ Aside0 (n + kq = gs.length) ∧ Aside0 (Kd.R kPtr 143 w' w.heap.size (fun _ => True) (.slice A6 gs.length c6) gs) ∧ Aside0 (FL w' w.heap.size gs (mapS (beg2 gr) (items.map beg1) n)) ∧ Aside0 (Below w.heap.size w w'))
    case atStart => exact ⟨0, rfl, ⟨by simp⟩, HO, hf, HB⟩
    case round =>
     clear HO hf HB
     obtain ⟨m, rfl, HN, HO, HF, HB⟩ := hrel
     by_cases c1 : m < gs.length
     · have hk : gk ≠ 0 := by have := HN.out; omega
       obtain ⟨k1, rfl⟩ := Nat.exists_eq_succ_of_ne_zero hk
       clear hk
       have d3 : decide ((m : Int) < (gs.length : Int)) = true := decide_eq_true (by omega)
       have d4 : decide (m < gs.length) = true := decide_eq_true c1
       obtain ⟨ad, eA, hcell⟩ := ptr_at (Kd.R_reads' HO.out).2.2 m c1
       have hb := HF.out.get m c1
       have hml : m < (items.map beg1).length := by rw [List.length_map]; have := HNN.out; omega
       rw [mapS_get _ _ _ hml] at hb
       have HST := aMk (mapS_set (beg2 gr) (items.map beg1) m hml)
       obtain ⟨x, hx⟩ : ∃ x, x = (items.map beg1)[m] := ⟨_, rfl⟩
       rw [← hx] at hb HST
       have hge := HF.out.ge gs[m] (List.getElem_mem _)
       have HGM : Aside0 (gs[m] ∈ gs) := ⟨List.getElem_mem _⟩
       have HGI : Aside0 (∀ g, g = gs[m] → gs[m] = g) := ⟨fun _ h => h.symm⟩
       obtain ⟨g, hg⟩ : ∃ g, g = gs[m] := ⟨_, rfl⟩
       have HGE : Aside0 (g = gs[m]) := ⟨hg⟩
       rw [← hg] at hb hcell hge
       have q0 : wr.cell? ⟨g, 0, none⟩ = some (.int .i64 x.i.f0) := bCe hb 0
       have q1 : wr.cell? ⟨g, 1, none⟩ = some (.int .i64 x.i.f1) := bCe hb 1
       have q2 : wr.cell? ⟨g, 2, none⟩ = some (.int .i64 x.i.f2) := bCe hb 2
       have q5 : wr.cell? ⟨g, 5, none⟩ = some (.int .i64 x.t) := bCe hb 5
       have q6 : wr.cell? ⟨g, 6, none⟩ = some (.int .i64 x.f) := bCe hb 6
       have q7 : wr.cell? ⟨g, 7, none⟩ = some (.bool x.fx) := bCe hb 7
       have f6 : wr.frozen? ⟨g, 6, none⟩ = false := bFr hb 6
       have f7 : wr.frozen? ⟨g, 7, none⟩ = false := bFr hb 7
       have HBK := aMk hb
       have HGG := aMk hge
       have p0 : 0 ≤ (m : Int) := by omega
       have p1 : (m : Int) < (gs.length : Int) := by omega
       have hw : wrap64 ((m : Int) + 1) = ((m + 1 : Nat) : Int) := by have := HL.out; have := HNN.out; unfold wrap64; omega
       clear hx hg hb hge hml
       cases eA
       have HT0 := aMk (Turn.refl HBK.out HB.out)
       obtain ⟨c2, hc2⟩ : ∃ c2, c2 = clampI x.i.f2 := ⟨_, rfl⟩
       obtain ⟨c1', hc1'⟩ : ∃ c1', c1' = clampI x.i.f1 := ⟨_, rfl⟩
       have HCA : Aside0 (∀ W : World, Calls Try.prog 148 #[.int .i64 x.i.f2, .int .i64 0, .int .i64 1000000] W fun e w' => e = .returned (.int .i64 c2) ∧ Below W.heap.size W w') := ⟨fun W => by rw [hc2]; exact impl_clamp.calls _ 0 1000000 _ W rfl⟩
       have HCB : Aside0 (∀ W : World, Calls Try.prog 148 #[.int .i64 x.i.f1, .int .i64 0, .int .i64 1000000] W fun e w' => e = .returned (.int .i64 c1') ∧ Below W.heap.size W w') := ⟨fun W => by rw [hc1']; exact impl_clamp.calls _ 0 1000000 _ W rfl⟩
       have HC2 := aMk hc2
       have HC1 := aMk hc1'
       clear hc2 hc1'
       cases gr
       all_goals
        go_upto_region 18 with (first | (go_at_call 148; (with_reducible refine (HCA.out wr).mono ?_); rintro e w7 ⟨rfl, hb7⟩; have HT7 := aMk (HT0.out.below hb7); have r6 : w7.cell? ⟨g, 6, none⟩ = some (.int .i64 x.f) := bCe HT7.out.blk 6; have r1 : w7.cell? ⟨g, 1, none⟩ = some (.int .i64 x.i.f1) := bCe HT7.out.blk 1; have s6 : w7.frozen? ⟨g, 6, none⟩ = false := bFr HT7.out.blk 6; clear hb7 q0 q1 q2 q5 q6 q7 f6 f7) | (go_at_call 148; (with_reducible refine (HCB.out (w7.setCell ⟨g, 6, none⟩ (.int .i64 c2))).mono ?_); rintro e w8 ⟨rfl, hb8⟩; have HT8 := aMk ((HT7.out.set 6 (.int .i64 c2) ⟨x.i, x.t, c2, x.fx, x.s⟩ rfl HGG.out).below hb8); have t6 : w8.cell? ⟨g, 6, none⟩ = some (.int .i64 c2) := bCe HT8.out.blk 6; have u6 : w8.frozen? ⟨g, 6, none⟩ = false := bFr HT8.out.blk 6; clear hb8))
        skip
       · have HTW := aMk (HT7.out.set 6 (.int .i64 c2) ⟨x.i, x.t, c2, x.fx, x.s⟩ rfl HGG.out)
         generalize (w7.setCell ⟨g, 6, none⟩ (.int .i64 c2)) = wq at HTW ⊢
         have v0 : wq.cell? ⟨g, 0, none⟩ = some (.int .i64 x.i.f0) := bCe HTW.out.blk 0
         have v5 : wq.cell? ⟨g, 5, none⟩ = some (.int .i64 x.t) := bCe HTW.out.blk 5
         have v6 : wq.cell? ⟨g, 6, none⟩ = some (.int .i64 c2) := bCe HTW.out.blk 6
         have v7 : wq.cell? ⟨g, 7, none⟩ = some (.bool x.fx) := bCe HTW.out.blk 7
         have z7 : wq.frozen? ⟨g, 7, none⟩ = false := bFr HTW.out.blk 7
         by_cases e0 : c2 = 0
         · as_aux_lemma =>
           have b0 : (c2 == 0) = true := beq_iff_eq.2 e0
           have E0 := aMk e0
           clear r6 r1 s6 v0 v5 v6 v7 z7 e0
           refine start_ (n := 40) (S := fun w' => w'.cell? ⟨g, 0, none⟩ = some (.int .i64 x.i.f0) ∧ w'.cell? ⟨g, 5, none⟩ = some (.int .i64 x.t) ∧ w'.cell? ⟨g, 6, none⟩ = some (.int .i64 c2)) (ds := [39]) #[false, false, false, false, false, false, false, false, false, false, false, false, false, false, false, false, false, false, false, false, false, false, false, false, false, false, false, false, false, false, false, false, false, false, false, false, false, false, false, false] (by kernel_rfl) rfl rfl ⟨(bCe HTW.out.blk 0).trans rfl, (bCe HTW.out.blk 5).trans rfl, (bCe HTW.out.blk 6).trans rfl⟩ (fun hHeld => ?_)
           refine pure_ (i := 0) (N := some 70) (v := ?_) (a' := ?_) #[true, false, false, false, false, false, false, false, false, false, false, false, false, false, false, false, false, false, false, false, false, false, false, false, false, false, false, false, false, false, false, false, false, false, false, false, false, false, false, false] rfl rfl (by kernel_rfl) (fun _ _ _ h => h) (Or.inl ⟨by rfl, ?_⟩) ?_ ?_
           rotate_left
           · intro w'
             go_simp
             with_reducible rfl
           rotate_left
           · simp only [Act.put, lSa, lSz, lSs, i64_w, i32_w]
             rfl
           refine pure_ (i := 1) (N := some 71) (v := ?_) (a' := ?_) #[true, true, false, false, false, false, false, false, false, false, false, false, false, false, false, false, false, false, false, false, false, false, false, false, false, false, false, false, false, false, false, false, false, false, false, false, false, false, false, false] rfl rfl (by kernel_rfl) (fun _ _ _ h => h) (Or.inl ⟨by rfl, ?_⟩) ?_ ?_
           rotate_left
           · intro w'
             go_simp
             with_reducible rfl
           rotate_left
           · simp only [Act.put, lSa, lSz, lSs, i64_w, i32_w]
             rfl
           refine pure_ (i := 2) (N := some 72) (v := ?_) (a' := ?_) #[true, true, true, false, false, false, false, false, false, false, false, false, false, false, false, false, false, false, false, false, false, false, false, false, false, false, false, false, false, false, false, false, false, false, false, false, false, false, false, false] rfl rfl (by kernel_rfl) (fun _ _ _ h => h) (Or.inl ⟨by rfl, ?_⟩) ?_ ?_
           rotate_left
           · intro w'
             go_simp
             with_reducible rfl
           rotate_left
           · simp only [Act.put, lSa, lSz, lSs, i64_w, i32_w]
             rfl
           refine pure_ (i := 3) (N := some 73) (v := ?_) (a' := ?_) #[true, true, true, true, false, false, false, false, false, false, false, false, false, false, false, false, false, false, false, false, false, false, false, false, false, false, false, false, false, false, false, false, false, false, false, false, false, false, false, false] rfl rfl (by kernel_rfl) (fun _ _ _ h => h) (Or.inl ⟨by rfl, ?_⟩) ?_ ?_
           rotate_left
           · intro w'
             go_simp
             with_reducible rfl
           rotate_left
           · simp only [Act.put, lSa, lSz, lSs, i64_w, i32_w]
             rfl
           refine take_ (i := 4) (N := some 74) (v := ?_) (a' := ?_) #[true, true, true, true, true, false, false, false, false, false, false, false, false, false, false, false, false, false, false, false, false, false, false, false, false, false, false, false, false, false, false, false, false, false, false, false, false, false, false, false] rfl rfl (by kernel_rfl) (fun _ _ _ h => h) (Or.inl ⟨by rfl, ?_⟩) hHeld ?_ ?_
           rotate_left
           · rintro w' ⟨s0, s1, s2⟩
             go_simp
             with_reducible rfl
           rotate_left
           · simp only [Act.put, lSa, lSz, lSs, i64_w, i32_w]
             rfl
           refine pure_ (i := 5) (N := some 75) (v := ?_) (a' := ?_) #[true, true, true, true, true, true, false, false, false, false, false, false, false, false, false, false, false, false, false, false, false, false, false, false, false, false, false, false, false, false, false, false, false, false, false, false, false, false, false, false] rfl rfl (by kernel_rfl) (fun _ _ _ h => h) (Or.inl ⟨by rfl, ?_⟩) ?_ ?_
           rotate_left
           · intro w'
             go_simp
             with_reducible rfl
           rotate_left
           · simp only [Act.put, lSa, lSz, lSs, i64_w, i32_w]
             rfl
           refine pure_ (i := 6) (N := some 76) (v := ?_) (a' := ?_) #[true, true, true, true, true, true, true, false, false, false, false, false, false, false, false, false, false, false, false, false, false, false, false, false, false, false, false, false, false, false, false, false, false, false, false, false, false, false, false, false] rfl rfl (by kernel_rfl) (fun _ _ _ h => h) (Or.inl ⟨by rfl, ?_⟩) ?_ ?_
           rotate_left
           · intro w'
             go_simp
             with_reducible rfl
           rotate_left
           · simp only [Act.put, lSa, lSz, lSs, i64_w, i32_w]
             rfl
           refine pure_ (i := 7) (N := some 77) (v := undef) (a' := ?_) #[true, true, true, true, true, true, true, true, false, false, false, false, false, false, false, false, false, false, false, false, false, false, false, false, false, false, false, false, false, false, false, false, false, false, false, false, false, false, false, false] rfl rfl (by kernel_rfl) (fun _ _ _ h => h) (Or.inr ⟨by rfl, rfl⟩) ?_ ?_
           rotate_left
           · simp only [Act.put, lSa, lSz, lSs, i64_w, i32_w]
             rfl
           refine pure_ (i := 8) (N := some 78) (v := undef) (a' := ?_) #[true, true, true, true, true, true, true, true, true, false, false, false, false, false, false, false, false, false, false, false, false, false, false, false, false, false, false, false, false, false, false, false, false, false, false, false, false, false, false, false] rfl rfl (by kernel_rfl) (fun _ _ _ h => h) (Or.inr ⟨by rfl, rfl⟩) ?_ ?_
           rotate_left
           · simp only [Act.put, lSa, lSz, lSs, i64_w, i32_w]
             rfl
           refine pure_ (i := 9) (N := some 79) (v := undef) (a' := ?_) #[true, true, true, true, true, true, true, true, true, true, false, false, false, false, false, false, false, false, false, false, false, false, false, false, false, false, false, false, false, false, false, false, false, false, false, false, false, false, false, false] rfl rfl (by kernel_rfl) (fun _ _ _ h => h) (Or.inr ⟨by rfl, rfl⟩) ?_ ?_
           rotate_left
           · simp only [Act.put, lSa, lSz, lSs, i64_w, i32_w]
             rfl
           refine pure_ (i := 10) (N := some 80) (v := undef) (a' := ?_) #[true, true, true, true, true, true, true, true, true, true, true, false, false, false, false, false, false, false, false, false, false, false, false, false, false, false, false, false, false, false, false, false, false, false, false, false, false, false, false, false] rfl rfl (by kernel_rfl) (fun _ _ _ h => h) (Or.inr ⟨by rfl, rfl⟩) ?_ ?_
           rotate_left
           · simp only [Act.put, lSa, lSz, lSs, i64_w, i32_w]
             rfl
           refine pure_ (i := 11) (N := some 81) (v := undef) (a' := ?_) #[true, true, true, true, true, true, true, true, true, true, true, true, false, false, false, false, false, false, false, false, false, false, false, false, false, false, false, false, false, false, false, false, false, false, false, false, false, false, false, false] rfl rfl (by kernel_rfl) (fun _ _ _ h => h) (Or.inr ⟨by rfl, rfl⟩) ?_ ?_
           rotate_left
           · simp only [Act.put, lSa, lSz, lSs, i64_w, i32_w]
             rfl
           refine pure_ (i := 12) (N := some 82) (v := undef) (a' := ?_) #[true, true, true, true, true, true, true, true, true, true, true, true, true, false, false, false, false, false, false, false, false, false, false, false, false, false, false, false, false, false, false, false, false, false, false, false, false, false, false, false] rfl rfl (by kernel_rfl) (fun _ _ _ h => h) (Or.inr ⟨by rfl, rfl⟩) ?_ ?_
           rotate_left
           · simp only [Act.put, lSa, lSz, lSs, i64_w, i32_w]
             rfl
           refine pure_ (i := 13) (N := some 83) (v := undef) (a' := ?_) #[true, true, true, true, true, true, true, true, true, true, true, true, true, true, false, false, false, false, false, false, false, false, false, false, false, false, false, false, false, false, false, false, false, false, false, false, false, false, false, false] rfl rfl (by kernel_rfl) (fun _ _ _ h => h) (Or.inr ⟨by rfl, rfl⟩) ?_ ?_
           rotate_left
           · simp only [Act.put, lSa, lSz, lSs, i64_w, i32_w]
             rfl
           refine pure_ (i := 14) (N := some 84) (v := undef) (a' := ?_) #[true, true, true, true, true, true, true, true, true, true, true, true, true, true, true, false, false, false, false, false, false, false, false, false, false, false, false, false, false, false, false, false, false, false, false, false, false, false, false, false] rfl rfl (by kernel_rfl) (fun _ _ _ h => h) (Or.inr ⟨by rfl, rfl⟩) ?_ ?_
           rotate_left
           · simp only [Act.put, lSa, lSz, lSs, i64_w, i32_w]
             rfl
           refine pure_ (i := 15) (N := some 85) (v := undef) (a' := ?_) #[true, true, true, true, true, true, true, true, true, true, true, true, true, true, true, true, false, false, false, false, false, false, false, false, false, false, false, false, false, false, false, false, false, false, false, false, false, false, false, false] rfl rfl (by kernel_rfl) (fun _ _ _ h => h) (Or.inr ⟨by rfl, rfl⟩) ?_ ?_
           rotate_left
           · simp only [Act.put, lSa, lSz, lSs, i64_w, i32_w]
             rfl
           refine pure_ (i := 16) (N := some 86) (v := undef) (a' := ?_) #[true, true, true, true, true, true, true, true, true, true, true, true, true, true, true, true, true, false, false, false, false, false, false, false, false, false, false, false, false, false, false, false, false, false, false, false, false, false, false, false] rfl rfl (by kernel_rfl) (fun _ _ _ h => h) (Or.inr ⟨by rfl, rfl⟩) ?_ ?_
           rotate_left
           · simp only [Act.put, lSa, lSz, lSs, i64_w, i32_w]
             rfl
           refine pure_ (i := 17) (N := some 87) (v := undef) (a' := ?_) #[true, true, true, true, true, true, true, true, true, true, true, true, true, true, true, true, true, true, false, false, false, false, false, false, false, false, false, false, false, false, false, false, false, false, false, false, false, false, false, false] rfl rfl (by kernel_rfl) (fun _ _ _ h => h) (Or.inr ⟨by rfl, rfl⟩) ?_ ?_
           rotate_left
           · simp only [Act.put, lSa, lSz, lSs, i64_w, i32_w]
             rfl
           refine pure_ (i := 18) (N := some 88) (v := undef) (a' := ?_) #[true, true, true, true, true, true, true, true, true, true, true, true, true, true, true, true, true, true, true, false, false, false, false, false, false, false, false, false, false, false, false, false, false, false, false, false, false, false, false, false] rfl rfl (by kernel_rfl) (fun _ _ _ h => h) (Or.inr ⟨by rfl, rfl⟩) ?_ ?_
           rotate_left
           · simp only [Act.put, lSa, lSz, lSs, i64_w, i32_w]
             rfl
           refine pure_ (i := 19) (N := some 89) (v := undef) (a' := ?_) #[true, true, true, true, true, true, true, true, true, true, true, true, true, true, true, true, true, true, true, true, false, false, false, false, false, false, false, false, false, false, false, false, false, false, false, false, false, false, false, false] rfl rfl (by kernel_rfl) (fun _ _ _ h => h) (Or.inr ⟨by rfl, rfl⟩) ?_ ?_
           rotate_left
           · simp only [Act.put, lSa, lSz, lSs, i64_w, i32_w]
             rfl
           refine pure_ (i := 20) (N := some 90) (v := ?_) (a' := ?_) #[true, true, true, true, true, true, true, true, true, true, true, true, true, true, true, true, true, true, true, true, true, false, false, false, false, false, false, false, false, false, false, false, false, false, false, false, false, false, false, false] rfl rfl (by kernel_rfl) (fun _ _ _ h => h) (Or.inl ⟨by rfl, ?_⟩) ?_ ?_
           rotate_left
           · intro w'
             go_simp
             with_reducible rfl
           rotate_left
           · simp only [Act.put, lSa, lSz, lSs, i64_w, i32_w]
             rfl
           refine pure_ (i := 21) (N := some 91) (v := ?_) (a' := ?_) #[true, true, true, true, true, true, true, true, true, true, true, true, true, true, true, true, true, true, true, true, true, true, false, false, false, false, false, false, false, false, false, false, false, false, false, false, false, false, false, false] rfl rfl (by kernel_rfl) (fun _ _ _ h => h) (Or.inl ⟨by rfl, ?_⟩) ?_ ?_
           rotate_left
           · intro w'
             go_simp
             with_reducible rfl
           rotate_left
           · simp only [Act.put, lSa, lSz, lSs, i64_w, i32_w]
             rfl
           refine pure_ (i := 22) (N := some 92) (v := undef) (a' := ?_) #[true, true, true, true, true, true, true, true, true, true, true, true, true, true, true, true, true, true, true, true, true, true, true, false, false, false, false, false, false, false, false, false, false, false, false, false, false, false, false, false] rfl rfl (by kernel_rfl) (fun _ _ _ h => h) (Or.inr ⟨by rfl, rfl⟩) ?_ ?_
           rotate_left
           · simp only [Act.put, lSa, lSz, lSs, i64_w, i32_w]
             rfl
           refine pure_ (i := 23) (N := some 93) (v := undef) (a' := ?_) #[true, true, true, true, true, true, true, true, true, true, true, true, true, true, true, true, true, true, true, true, true, true, true, true, false, false, false, false, false, false, false, false, false, false, false, false, false, false, false, false] rfl rfl (by kernel_rfl) (fun _ _ _ h => h) (Or.inr ⟨by rfl, rfl⟩) ?_ ?_
           rotate_left
           · simp only [Act.put, lSa, lSz, lSs, i64_w, i32_w]
             rfl
           refine pure_ (i := 24) (N := some 94) (v := undef) (a' := ?_) #[true, true, true, true, true, true, true, true, true, true, true, true, true, true, true, true, true, true, true, true, true, true, true, true, true, false, false, false, false, false, false, false, false, false, false, false, false, false, false, false] rfl rfl (by kernel_rfl) (fun _ _ _ h => h) (Or.inr ⟨by rfl, rfl⟩) ?_ ?_
           rotate_left
           · simp only [Act.put, lSa, lSz, lSs, i64_w, i32_w]
             rfl
           refine pure_ (i := 25) (N := some 95) (v := undef) (a' := ?_) #[true, true, true, true, true, true, true, true, true, true, true, true, true, true, true, true, true, true, true, true, true, true, true, true, true, true, false, false, false, false, false, false, false, false, false, false, false, false, false, false] rfl rfl (by kernel_rfl) (fun _ _ _ h => h) (Or.inr ⟨by rfl, rfl⟩) ?_ ?_
           rotate_left
           · simp only [Act.put, lSa, lSz, lSs, i64_w, i32_w]
             rfl
           refine pure_ (i := 26) (N := some 96) (v := undef) (a' := ?_) #[true, true, true, true, true, true, true, true, true, true, true, true, true, true, true, true, true, true, true, true, true, true, true, true, true, true, true, false, false, false, false, false, false, false, false, false, false, false, false, false] rfl rfl (by kernel_rfl) (fun _ _ _ h => h) (Or.inr ⟨by rfl, rfl⟩) ?_ ?_
           rotate_left
           · simp only [Act.put, lSa, lSz, lSs, i64_w, i32_w]
             rfl
           refine pure_ (i := 27) (N := some 97) (v := undef) (a' := ?_) #[true, true, true, true, true, true, true, true, true, true, true, true, true, true, true, true, true, true, true, true, true, true, true, true, true, true, true, true, false, false, false, false, false, false, false, false, false, false, false, false] rfl rfl (by kernel_rfl) (fun _ _ _ h => h) (Or.inr ⟨by rfl, rfl⟩) ?_ ?_
           rotate_left
           · simp only [Act.put, lSa, lSz, lSs, i64_w, i32_w]
             rfl
           refine pure_ (i := 28) (N := some 98) (v := undef) (a' := ?_) #[true, true, true, true, true, true, true, true, true, true, true, true, true, true, true, true, true, true, true, true, true, true, true, true, true, true, true, true, true, false, false, false, false, false, false, false, false, false, false, false] rfl rfl (by kernel_rfl) (fun _ _ _ h => h) (Or.inr ⟨by rfl, rfl⟩) ?_ ?_
           rotate_left
           · simp only [Act.put, lSa, lSz, lSs, i64_w, i32_w]
             rfl
           refine pure_ (i := 29) (N := some 99) (v := undef) (a' := ?_) #[true, true, true, true, true, true, true, true, true, true, true, true, true, true, true, true, true, true, true, true, true, true, true, true, true, true, true, true, true, true, false, false, false, false, false, false, false, false, false, false] rfl rfl (by kernel_rfl) (fun _ _ _ h => h) (Or.inr ⟨by rfl, rfl⟩) ?_ ?_
           rotate_left
           · simp only [Act.put, lSa, lSz, lSs, i64_w, i32_w]
             rfl
           refine pure_ (i := 30) (N := some 100) (v := undef) (a' := ?_) #[true, true, true, true, true, true, true, true, true, true, true, true, true, true, true, true, true, true, true, true, true, true, true, true, true, true, true, true, true, true, true, false, false, false, false, false, false, false, false, false] rfl rfl (by kernel_rfl) (fun _ _ _ h => h) (Or.inr ⟨by rfl, rfl⟩) ?_ ?_
           rotate_left
           · simp only [Act.put, lSa, lSz, lSs, i64_w, i32_w]
             rfl
           refine pure_ (i := 31) (N := some 101) (v := undef) (a' := ?_) #[true, true, true, true, true, true, true, true, true, true, true, true, true, true, true, true, true, true, true, true, true, true, true, true, true, true, true, true, true, true, true, true, false, false, false, false, false, false, false, false] rfl rfl (by kernel_rfl) (fun _ _ _ h => h) (Or.inr ⟨by rfl, rfl⟩) ?_ ?_
           rotate_left
           · simp only [Act.put, lSa, lSz, lSs, i64_w, i32_w]
             rfl
           refine pure_ (i := 32) (N := some 102) (v := undef) (a' := ?_) #[true, true, true, true, true, true, true, true, true, true, true, true, true, true, true, true, true, true, true, true, true, true, true, true, true, true, true, true, true, true, true, true, true, false, false, false, false, false, false, false] rfl rfl (by kernel_rfl) (fun _ _ _ h => h) (Or.inr ⟨by rfl, rfl⟩) ?_ ?_
           rotate_left
           · simp only [Act.put, lSa, lSz, lSs, i64_w, i32_w]
             rfl
           refine pure_ (i := 33) (N := some 103) (v := undef) (a' := ?_) #[true, true, true, true, true, true, true, true, true, true, true, true, true, true, true, true, true, true, true, true, true, true, true, true, true, true, true, true, true, true, true, true, true, true, false, false, false, false, false, false] rfl rfl (by kernel_rfl) (fun _ _ _ h => h) (Or.inr ⟨by rfl, rfl⟩) ?_ ?_
           rotate_left
           · simp only [Act.put, lSa, lSz, lSs, i64_w, i32_w]
             rfl
           refine pure_ (i := 34) (N := some 104) (v := undef) (a' := ?_) #[true, true, true, true, true, true, true, true, true, true, true, true, true, true, true, true, true, true, true, true, true, true, true, true, true, true, true, true, true, true, true, true, true, true, true, false, false, false, false, false] rfl rfl (by kernel_rfl) (fun _ _ _ h => h) (Or.inr ⟨by rfl, rfl⟩) ?_ ?_
           rotate_left
           · simp only [Act.put, lSa, lSz, lSs, i64_w, i32_w]
             rfl
           refine pure_ (i := 35) (N := some 105) (v := undef) (a' := ?_) #[true, true, true, true, true, true, true, true, true, true, true, true, true, true, true, true, true, true, true, true, true, true, true, true, true, true, true, true, true, true, true, true, true, true, true, true, false, false, false, false] rfl rfl (by kernel_rfl) (fun _ _ _ h => h) (Or.inr ⟨by rfl, rfl⟩) ?_ ?_
           rotate_left
           · simp only [Act.put, lSa, lSz, lSs, i64_w, i32_w]
             rfl
           refine pure_ (i := 36) (N := some 106) (v := ?_) (a' := ?_) #[true, true, true, true, true, true, true, true, true, true, true, true, true, true, true, true, true, true, true, true, true, true, true, true, true, true, true, true, true, true, true, true, true, true, true, true, true, false, false, false] rfl rfl (by kernel_rfl) (fun _ _ _ h => h) (Or.inl ⟨by rfl, ?_⟩) ?_ ?_
           rotate_left
           · intro w'
             go_simp
             with_reducible rfl
           rotate_left
           · simp only [Act.put, lSa, lSz, lSs, i64_w, i32_w]
             rfl
           refine pure_ (i := 37) (N := some 107) (v := ?_) (a' := ?_) #[true, true, true, true, true, true, true, true, true, true, true, true, true, true, true, true, true, true, true, true, true, true, true, true, true, true, true, true, true, true, true, true, true, true, true, true, true, true, false, false] rfl rfl (by kernel_rfl) (fun _ _ _ h => h) (Or.inl ⟨by rfl, ?_⟩) ?_ ?_
           rotate_left
           · intro w'
             go_simp
             with_reducible rfl
           rotate_left
           · simp only [Act.put, lSa, lSz, lSs, i64_w, i32_w]
             rfl
           refine pure_ (i := 38) (N := some 108) (v := ?_) (a' := ?_) #[true, true, true, true, true, true, true, true, true, true, true, true, true, true, true, true, true, true, true, true, true, true, true, true, true, true, true, true, true, true, true, true, true, true, true, true, true, true, true, false] rfl rfl (by kernel_rfl) (fun _ _ _ h => h) (Or.inl ⟨by rfl, ?_⟩) ?_ ?_
           rotate_left
           · intro w'
             go_simp
             with_reducible rfl
           rotate_left
           · simp only [Act.put, lSa, lSz, lSs, i64_w, i32_w]
             rfl
           refine last_ (i := 39) (N := none) #[true, true, true, true, true, true, true, true, true, true, true, true, true, true, true, true, true, true, true, true, true, true, true, true, true, true, true, true, true, true, true, true, true, true, true, true, true, true, true, true] rfl rfl (by kernel_rfl) (by decide) (fun K hK => ?_)
           have hsc := (bCe HTW.out.blk 7 : wq.cell? ⟨g, 7, none⟩ = some (.bool x.fx))
           have hsf := (bFr HTW.out.blk 7 : wq.frozen? ⟨g, 7, none⟩ = false)
           refine skip_ (w1 := ?_) (by rfl) rfl ?_ ?_
           rotate_left
           · go_simp
             rfl
           refine hK.out _ _ ?_
           clear hK K
           refine done_ (by kernel_rfl) ?_
           go_wp2
           go_roundg k1
           case measure => omega
           case rel =>
            have ht := (HTW.out.below (below_drew (Below.refl _ _))).set 7 (.bool true) ⟨x.i, x.t, c2, true, x.s⟩ rfl HGG.out
            refine ⟨m + 1, by first | rw [hw] | rfl | go_num, ⟨by have := HN.out; omega⟩, ⟨ht.row HBK.out HO.out (by decide)⟩, ⟨?_⟩, ⟨ht.b⟩⟩
            have hfl := ht.list HF.out m (by assumption) HGE.out.symm
            rw [show (⟨x.i, x.t, c2, true, x.s⟩ : Fx) = beg2 false x by unfold beg2; rw [if_neg (by decide), ← HC2.out, decide_eq_true E0.out]; rfl, HST.out] at hfl
            exact hfl
         · as_aux_lemma =>
           have b0 : (c2 == 0) = false := beq_eq_false_iff_ne.2 e0
           have E0 := aMk e0
           clear r6 r1 s6 v0 v5 v6 v7 z7 e0
           refine start_ (n := 40) (S := fun w' => w'.cell? ⟨g, 0, none⟩ = some (.int .i64 x.i.f0) ∧ w'.cell? ⟨g, 5, none⟩ = some (.int .i64 x.t) ∧ w'.cell? ⟨g, 6, none⟩ = some (.int .i64 c2)) (ds := [39]) #[false, false, false, false, false, false, false, false, false, false, false, false, false, false, false, false, false, false, false, false, false, false, false, false, false, false, false, false, false, false, false, false, false, false, false, false, false, false, false, false] (by kernel_rfl) rfl rfl ⟨(bCe HTW.out.blk 0).trans rfl, (bCe HTW.out.blk 5).trans rfl, (bCe HTW.out.blk 6).trans rfl⟩ (fun hHeld => ?_)
           refine pure_ (i := 0) (N := some 70) (v := ?_) (a' := ?_) #[true, false, false, false, false, false, false, false, false, false, false, false, false, false, false, false, false, false, false, false, false, false, false, false, false, false, false, false, false, false, false, false, false, false, false, false, false, false, false, false] rfl rfl (by kernel_rfl) (fun _ _ _ h => h) (Or.inl ⟨by rfl, ?_⟩) ?_ ?_
           rotate_left
           · intro w'
             go_simp
             with_reducible rfl
           rotate_left
           · simp only [Act.put, lSa, lSz, lSs, i64_w, i32_w]
             rfl
           refine pure_ (i := 1) (N := some 71) (v := ?_) (a' := ?_) #[true, true, false, false, false, false, false, false, false, false, false, false, false, false, false, false, false, false, false, false, false, false, false, false, false, false, false, false, false, false, false, false, false, false, false, false, false, false, false, false] rfl rfl (by kernel_rfl) (fun _ _ _ h => h) (Or.inl ⟨by rfl, ?_⟩) ?_ ?_
           rotate_left
           · intro w'
             go_simp
             with_reducible rfl
           rotate_left
           · simp only [Act.put, lSa, lSz, lSs, i64_w, i32_w]
             rfl
           refine pure_ (i := 2) (N := some 72) (v := ?_) (a' := ?_) #[true, true, true, false, false, false, false, false, false, false, false, false, false, false, false, false, false, false, false, false, false, false, false, false, false, false, false, false, false, false, false, false, false, false, false, false, false, false, false, false] rfl rfl (by kernel_rfl) (fun _ _ _ h => h) (Or.inl ⟨by rfl, ?_⟩) ?_ ?_
           rotate_left
           · intro w'
             go_simp
             with_reducible rfl
           rotate_left
           · simp only [Act.put, lSa, lSz, lSs, i64_w, i32_w]
             rfl
           refine pure_ (i := 3) (N := some 73) (v := ?_) (a' := ?_) #[true, true, true, true, false, false, false, false, false, false, false, false, false, false, false, false, false, false, false, false, false, false, false, false, false, false, false, false, false, false, false, false, false, false, false, false, false, false, false, false] rfl rfl (by kernel_rfl) (fun _ _ _ h => h) (Or.inl ⟨by rfl, ?_⟩) ?_ ?_
           rotate_left
           · intro w'
             go_simp
             with_reducible rfl
           rotate_left
           · simp only [Act.put, lSa, lSz, lSs, i64_w, i32_w]
             rfl
           refine take_ (i := 4) (N := some 74) (v := ?_) (a' := ?_) #[true, true, true, true, true, false, false, false, false, false, false, false, false, false, false, false, false, false, false, false, false, false, false, false, false, false, false, false, false, false, false, false, false, false, false, false, false, false, false, false] rfl rfl (by kernel_rfl) (fun _ _ _ h => h) (Or.inl ⟨by rfl, ?_⟩) hHeld ?_ ?_
           rotate_left
           · rintro w' ⟨s0, s1, s2⟩
             go_simp
             with_reducible rfl
           rotate_left
           · simp only [Act.put, lSa, lSz, lSs, i64_w, i32_w]
             rfl
           refine pure_ (i := 5) (N := some 75) (v := ?_) (a' := ?_) #[true, true, true, true, true, true, false, false, false, false, false, false, false, false, false, false, false, false, false, false, false, false, false, false, false, false, false, false, false, false, false, false, false, false, false, false, false, false, false, false] rfl rfl (by kernel_rfl) (fun _ _ _ h => h) (Or.inl ⟨by rfl, ?_⟩) ?_ ?_
           rotate_left
           · intro w'
             go_simp
             with_reducible rfl
           rotate_left
           · simp only [Act.put, lSa, lSz, lSs, i64_w, i32_w]
             rfl
           refine pure_ (i := 6) (N := some 76) (v := ?_) (a' := ?_) #[true, true, true, true, true, true, true, false, false, false, false, false, false, false, false, false, false, false, false, false, false, false, false, false, false, false, false, false, false, false, false, false, false, false, false, false, false, false, false, false] rfl rfl (by kernel_rfl) (fun _ _ _ h => h) (Or.inl ⟨by rfl, ?_⟩) ?_ ?_
           rotate_left
           · intro w'
             go_simp
             with_reducible rfl
           rotate_left
           · simp only [Act.put, lSa, lSz, lSs, i64_w, i32_w]
             rfl
           refine pure_ (i := 7) (N := some 77) (v := ?_) (a' := ?_) #[true, true, true, true, true, true, true, true, false, false, false, false, false, false, false, false, false, false, false, false, false, false, false, false, false, false, false, false, false, false, false, false, false, false, false, false, false, false, false, false] rfl rfl (by kernel_rfl) (fun _ _ _ h => h) (Or.inl ⟨by rfl, ?_⟩) ?_ ?_
           rotate_left
           · intro w'
             go_simp
             with_reducible rfl
           rotate_left
           · simp only [Act.put, lSa, lSz, lSs, i64_w, i32_w]
             rfl
           refine pure_ (i := 8) (N := some 78) (v := ?_) (a' := ?_) #[true, true, true, true, true, true, true, true, true, false, false, false, false, false, false, false, false, false, false, false, false, false, false, false, false, false, false, false, false, false, false, false, false, false, false, false, false, false, false, false] rfl rfl (by kernel_rfl) (fun _ _ _ h => h) (Or.inl ⟨by rfl, ?_⟩) ?_ ?_
           rotate_left
           · intro w'
             go_simp
             with_reducible rfl
           rotate_left
           · simp only [Act.put, lSa, lSz, lSs, i64_w, i32_w]
             rfl
           refine pure_ (i := 9) (N := some 79) (v := undef) (a' := ?_) #[true, true, true, true, true, true, true, true, true, true, false, false, false, false, false, false, false, false, false, false, false, false, false, false, false, false, false, false, false, false, false, false, false, false, false, false, false, false, false, false] rfl rfl (by kernel_rfl) (fun _ _ _ h => h) (Or.inr ⟨by rfl, rfl⟩) ?_ ?_
           rotate_left
           · simp only [Act.put, lSa, lSz, lSs, i64_w, i32_w]
             rfl
           refine pure_ (i := 10) (N := some 80) (v := undef) (a' := ?_) #[true, true, true, true, true, true, true, true, true, true, true, false, false, false, false, false, false, false, false, false, false, false, false, false, false, false, false, false, false, false, false, false, false, false, false, false, false, false, false, false] rfl rfl (by kernel_rfl) (fun _ _ _ h => h) (Or.inr ⟨by rfl, rfl⟩) ?_ ?_
           rotate_left
           · simp only [Act.put, lSa, lSz, lSs, i64_w, i32_w]
             rfl
           refine pure_ (i := 11) (N := some 81) (v := undef) (a' := ?_) #[true, true, true, true, true, true, true, true, true, true, true, true, false, false, false, false, false, false, false, false, false, false, false, false, false, false, false, false, false, false, false, false, false, false, false, false, false, false, false, false] rfl rfl (by kernel_rfl) (fun _ _ _ h => h) (Or.inr ⟨by rfl, rfl⟩) ?_ ?_
           rotate_left
           · simp only [Act.put, lSa, lSz, lSs, i64_w, i32_w]
             rfl
           refine pure_ (i := 12) (N := some 82) (v := undef) (a' := ?_) #[true, true, true, true, true, true, true, true, true, true, true, true, true, false, false, false, false, false, false, false, false, false, false, false, false, false, false, false, false, false, false, false, false, false, false, false, false, false, false, false] rfl rfl (by kernel_rfl) (fun _ _ _ h => h) (Or.inr ⟨by rfl, rfl⟩) ?_ ?_
           rotate_left
           · simp only [Act.put, lSa, lSz, lSs, i64_w, i32_w]
             rfl
           refine pure_ (i := 13) (N := some 83) (v := undef) (a' := ?_) #[true, true, true, true, true, true, true, true, true, true, true, true, true, true, false, false, false, false, false, false, false, false, false, false, false, false, false, false, false, false, false, false, false, false, false, false, false, false, false, false] rfl rfl (by kernel_rfl) (fun _ _ _ h => h) (Or.inr ⟨by rfl, rfl⟩) ?_ ?_
           rotate_left
           · simp only [Act.put, lSa, lSz, lSs, i64_w, i32_w]
             rfl
           refine pure_ (i := 14) (N := some 84) (v := undef) (a' := ?_) #[true, true, true, true, true, true, true, true, true, true, true, true, true, true, true, false, false, false, false, false, false, false, false, false, false, false, false, false, false, false, false, false, false, false, false, false, false, false, false, false] rfl rfl (by kernel_rfl) (fun _ _ _ h => h) (Or.inr ⟨by rfl, rfl⟩) ?_ ?_
           rotate_left
           · simp only [Act.put, lSa, lSz, lSs, i64_w, i32_w]
             rfl
           refine pure_ (i := 15) (N := some 85) (v := undef) (a' := ?_) #[true, true, true, true, true, true, true, true, true, true, true, true, true, true, true, true, false, false, false, false, false, false, false, false, false, false, false, false, false, false, false, false, false, false, false, false, false, false, false, false] rfl rfl (by kernel_rfl) (fun _ _ _ h => h) (Or.inr ⟨by rfl, rfl⟩) ?_ ?_
           rotate_left
           · simp only [Act.put, lSa, lSz, lSs, i64_w, i32_w]
             rfl
           refine pure_ (i := 16) (N := some 86) (v := undef) (a' := ?_) #[true, true, true, true, true, true, true, true, true, true, true, true, true, true, true, true, true, false, false, false, false, false, false, false, false, false, false, false, false, false, false, false, false, false, false, false, false, false, false, false] rfl rfl (by kernel_rfl) (fun _ _ _ h => h) (Or.inr ⟨by rfl, rfl⟩) ?_ ?_
           rotate_left
           · simp only [Act.put, lSa, lSz, lSs, i64_w, i32_w]
             rfl
           refine pure_ (i := 17) (N := some 87) (v := undef) (a' := ?_) #[true, true, true, true, true, true, true, true, true, true, true, true, true, true, true, true, true, true, false, false, false, false, false, false, false, false, false, false, false, false, false, false, false, false, false, false, false, false, false, false] rfl rfl (by kernel_rfl) (fun _ _ _ h => h) (Or.inr ⟨by rfl, rfl⟩) ?_ ?_
           rotate_left
           · simp only [Act.put, lSa, lSz, lSs, i64_w, i32_w]
             rfl
           refine pure_ (i := 18) (N := some 88) (v := undef) (a' := ?_) #[true, true, true, true, true, true, true, true, true, true, true, true, true, true, true, true, true, true, true, false, false, false, false, false, false, false, false, false, false, false, false, false, false, false, false, false, false, false, false, false] rfl rfl (by kernel_rfl) (fun _ _ _ h => h) (Or.inr ⟨by rfl, rfl⟩) ?_ ?_
           rotate_left
           · simp only [Act.put, lSa, lSz, lSs, i64_w, i32_w]
             rfl
           refine pure_ (i := 19) (N := some 89) (v := ?_) (a' := ?_) #[true, true, true, true, true, true, true, true, true, true, true, true, true, true, true, true, true, true, true, true, false, false, false, false, false, false, false, false, false, false, false, false, false, false, false, false, false, false, false, false] rfl rfl (by kernel_rfl) (fun _ _ _ h => h) (Or.inl ⟨by rfl, ?_⟩) ?_ ?_
           rotate_left
           · intro w'
             go_simp
             with_reducible rfl
           rotate_left
           · simp only [Act.put, lSa, lSz, lSs, i64_w, i32_w]
             rfl
           refine pure_ (i := 20) (N := some 90) (v := ?_) (a' := ?_) #[true, true, true, true, true, true, true, true, true, true, true, true, true, true, true, true, true, true, true, true, true, false, false, false, false, false, false, false, false, false, false, false, false, false, false, false, false, false, false, false] rfl rfl (by kernel_rfl) (fun _ _ _ h => h) (Or.inl ⟨by rfl, ?_⟩) ?_ ?_
           rotate_left
           · intro w'
             go_simp
             with_reducible rfl
           rotate_left
           · simp only [Act.put, lSa, lSz, lSs, i64_w, i32_w]
             rfl
           refine pure_ (i := 21) (N := some 91) (v := ?_) (a' := ?_) #[true, true, true, true, true, true, true, true, true, true, true, true, true, true, true, true, true, true, true, true, true, true, false, false, false, false, false, false, false, false, false, false, false, false, false, false, false, false, false, false] rfl rfl (by kernel_rfl) (fun _ _ _ h => h) (Or.inl ⟨by rfl, ?_⟩) ?_ ?_
           rotate_left
           · intro w'
             go_simp
             with_reducible rfl
           rotate_left
           · simp only [Act.put, lSa, lSz, lSs, i64_w, i32_w]
             rfl
           refine pure_ (i := 22) (N := some 92) (v := ?_) (a' := ?_) #[true, true, true, true, true, true, true, true, true, true, true, true, true, true, true, true, true, true, true, true, true, true, true, false, false, false, false, false, false, false, false, false, false, false, false, false, false, false, false, false] rfl rfl (by kernel_rfl) (fun _ _ _ h => h) (Or.inl ⟨by rfl, ?_⟩) ?_ ?_
           rotate_left
           · intro w'
             go_simp
             with_reducible rfl
           rotate_left
           · simp only [Act.put, lSa, lSz, lSs, i64_w, i32_w]
             rfl
           refine pure_ (i := 23) (N := some 93) (v := ?_) (a' := ?_) #[true, true, true, true, true, true, true, true, true, true, true, true, true, true, true, true, true, true, true, true, true, true, true, true, false, false, false, false, false, false, false, false, false, false, false, false, false, false, false, false] rfl rfl (by kernel_rfl) (fun _ _ _ h => h) (Or.inl ⟨by rfl, ?_⟩) ?_ ?_
           rotate_left
           · intro w'
             go_simp
             with_reducible rfl
           rotate_left
           · simp only [Act.put, lSa, lSz, lSs, i64_w, i32_w]
             rfl
           refine pure_ (i := 24) (N := some 94) (v := ?_) (a' := ?_) #[true, true, true, true, true, true, true, true, true, true, true, true, true, true, true, true, true, true, true, true, true, true, true, true, true, false, false, false, false, false, false, false, false, false, false, false, false, false, false, false] rfl rfl (by kernel_rfl) (fun _ _ _ h => h) (Or.inl ⟨by rfl, ?_⟩) ?_ ?_
           rotate_left
           · intro w'
             go_simp
             with_reducible rfl
           rotate_left
           · simp only [Act.put, lSa, lSz, lSs, i64_w, i32_w]
             rfl
           refine pure_ (i := 25) (N := some 95) (v := ?_) (a' := ?_) #[true, true, true, true, true, true, true, true, true, true, true, true, true, true, true, true, true, true, true, true, true, true, true, true, true, true, false, false, false, false, false, false, false, false, false, false, false, false, false, false] rfl rfl (by kernel_rfl) (fun _ _ _ h => h) (Or.inl ⟨by rfl, ?_⟩) ?_ ?_
           rotate_left
           · intro w'
             go_simp
             with_reducible rfl
           rotate_left
           · simp only [Act.put, lSa, lSz, lSs, i64_w, i32_w]
             rfl
           refine pure_ (i := 26) (N := some 96) (v := ?_) (a' := ?_) #[true, true, true, true, true, true, true, true, true, true, true, true, true, true, true, true, true, true, true, true, true, true, true, true, true, true, true, false, false, false, false, false, false, false, false, false, false, false, false, false] rfl rfl (by kernel_rfl) (fun _ _ _ h => h) (Or.inl ⟨by rfl, ?_⟩) ?_ ?_
           rotate_left
           · intro w'
             go_simp
             with_reducible rfl
           rotate_left
           · simp only [Act.put, lSa, lSz, lSs, i64_w, i32_w]
             rfl
           refine pure_ (i := 27) (N := some 97) (v := ?_) (a' := ?_) #[true, true, true, true, true, true, true, true, true, true, true, true, true, true, true, true, true, true, true, true, true, true, true, true, true, true, true, true, false, false, false, false, false, false, false, false, false, false, false, false] rfl rfl (by kernel_rfl) (fun _ _ _ h => h) (Or.inl ⟨by rfl, ?_⟩) ?_ ?_
           rotate_left
           · intro w'
             go_simp
             with_reducible rfl
           rotate_left
           · simp only [Act.put, lSa, lSz, lSs, i64_w, i32_w]
             rfl
           refine pure_ (i := 28) (N := some 98) (v := ?_) (a' := ?_) #[true, true, true, true, true, true, true, true, true, true, true, true, true, true, true, true, true, true, true, true, true, true, true, true, true, true, true, true, true, false, false, false, false, false, false, false, false, false, false, false] rfl rfl (by kernel_rfl) (fun _ _ _ h => h) (Or.inl ⟨by rfl, ?_⟩) ?_ ?_
           rotate_left
           · intro w'
             go_simp
             with_reducible rfl
           rotate_left
           · simp only [Act.put, lSa, lSz, lSs, i64_w, i32_w]
             rfl
           refine pure_ (i := 30) (N := some 100) (v := ?_) (a' := ?_) #[true, true, true, true, true, true, true, true, true, true, true, true, true, true, true, true, true, true, true, true, true, true, true, true, true, true, true, true, true, false, true, false, false, false, false, false, false, false, false, false] rfl rfl (by kernel_rfl) (fun _ _ _ h => h) (Or.inl ⟨by rfl, ?_⟩) ?_ ?_
           rotate_left
           · intro w'
             go_simp
             with_reducible rfl
           rotate_left
           · simp only [Act.put, lSa, lSz, lSs, i64_w, i32_w]
             rfl
           refine pure_ (i := 31) (N := some 101) (v := ?_) (a' := ?_) #[true, true, true, true, true, true, true, true, true, true, true, true, true, true, true, true, true, true, true, true, true, true, true, true, true, true, true, true, true, false, true, true, false, false, false, false, false, false, false, false] rfl rfl (by kernel_rfl) (fun _ _ _ h => h) (Or.inl ⟨by rfl, ?_⟩) ?_ ?_
           rotate_left
           · intro w'
             go_simp
             with_reducible rfl
           rotate_left
           · simp only [Act.put, lSa, lSz, lSs, i64_w, i32_w]
             rfl
           refine pure_ (i := 32) (N := some 102) (v := ?_) (a' := ?_) #[true, true, true, true, true, true, true, true, true, true, true, true, true, true, true, true, true, true, true, true, true, true, true, true, true, true, true, true, true, false, true, true, true, false, false, false, false, false, false, false] rfl rfl (by kernel_rfl) (fun _ _ _ h => h) (Or.inl ⟨by rfl, ?_⟩) ?_ ?_
           rotate_left
           · intro w'
             go_simp
             with_reducible rfl
           rotate_left
           · simp only [Act.put, lSa, lSz, lSs, i64_w, i32_w]
             rfl
           refine take_ (i := 29) (N := some 99) (v := ?_) (a' := ?_) #[true, true, true, true, true, true, true, true, true, true, true, true, true, true, true, true, true, true, true, true, true, true, true, true, true, true, true, true, true, true, true, true, true, false, false, false, false, false, false, false] rfl rfl (by kernel_rfl) (fun _ _ _ h => h) (Or.inl ⟨by rfl, ?_⟩) hHeld ?_ ?_
           rotate_left
           · rintro w' ⟨s0, s1, s2⟩
             go_simp
             with_reducible rfl
           rotate_left
           · simp only [Act.put, lSa, lSz, lSs, i64_w, i32_w]
             rfl
           refine take_ (i := 33) (N := some 103) (v := ?_) (a' := ?_) #[true, true, true, true, true, true, true, true, true, true, true, true, true, true, true, true, true, true, true, true, true, true, true, true, true, true, true, true, true, true, true, true, true, true, false, false, false, false, false, false] rfl rfl (by kernel_rfl) (fun _ _ _ h => h) (Or.inl ⟨by rfl, ?_⟩) hHeld ?_ ?_
           rotate_left
           · rintro w' ⟨s0, s1, s2⟩
             go_simp
             with_reducible rfl
           rotate_left
           · simp only [Act.put, lSa, lSz, lSs, i64_w, i32_w]
             rfl
           refine pure_ (i := 34) (N := some 104) (v := ?_) (a' := ?_) #[true, true, true, true, true, true, true, true, true, true, true, true, true, true, true, true, true, true, true, true, true, true, true, true, true, true, true, true, true, true, true, true, true, true, true, false, false, false, false, false] rfl rfl (by kernel_rfl) (fun _ _ _ h => h) (Or.inl ⟨by rfl, ?_⟩) ?_ ?_
           rotate_left
           · intro w'
             go_simp
             with_reducible rfl
           rotate_left
           · simp only [Act.put, lSa, lSz, lSs, i64_w, i32_w]
             rfl
           refine pure_ (i := 35) (N := some 105) (v := ?_) (a' := ?_) #[true, true, true, true, true, true, true, true, true, true, true, true, true, true, true, true, true, true, true, true, true, true, true, true, true, true, true, true, true, true, true, true, true, true, true, true, false, false, false, false] rfl rfl (by kernel_rfl) (fun _ _ _ h => h) (Or.inl ⟨by rfl, ?_⟩) ?_ ?_
           rotate_left
           · intro w'
             go_simp
             with_reducible rfl
           rotate_left
           · simp only [Act.put, lSa, lSz, lSs, i64_w, i32_w]
             rfl
           refine pure_ (i := 36) (N := some 106) (v := ?_) (a' := ?_) #[true, true, true, true, true, true, true, true, true, true, true, true, true, true, true, true, true, true, true, true, true, true, true, true, true, true, true, true, true, true, true, true, true, true, true, true, true, false, false, false] rfl rfl (by kernel_rfl) (fun _ _ _ h => h) (Or.inl ⟨by rfl, ?_⟩) ?_ ?_
           rotate_left
           · intro w'
             go_simp
             with_reducible rfl
           rotate_left
           · simp only [Act.put, lSa, lSz, lSs, i64_w, i32_w]
             rfl
           refine pure_ (i := 37) (N := some 107) (v := ?_) (a' := ?_) #[true, true, true, true, true, true, true, true, true, true, true, true, true, true, true, true, true, true, true, true, true, true, true, true, true, true, true, true, true, true, true, true, true, true, true, true, true, true, false, false] rfl rfl (by kernel_rfl) (fun _ _ _ h => h) (Or.inl ⟨by rfl, ?_⟩) ?_ ?_
           rotate_left
           · intro w'
             go_simp
             with_reducible rfl
           rotate_left
           · simp only [Act.put, lSa, lSz, lSs, i64_w, i32_w]
             rfl
           refine pure_ (i := 38) (N := some 108) (v := ?_) (a' := ?_) #[true, true, true, true, true, true, true, true, true, true, true, true, true, true, true, true, true, true, true, true, true, true, true, true, true, true, true, true, true, true, true, true, true, true, true, true, true, true, true, false] rfl rfl (by kernel_rfl) (fun _ _ _ h => h) (Or.inl ⟨by rfl, ?_⟩) ?_ ?_
           rotate_left
           · intro w'
             go_simp
             with_reducible rfl
           rotate_left
           · simp only [Act.put, lSa, lSz, lSs, i64_w, i32_w]
             rfl
           refine last_ (i := 39) (N := none) #[true, true, true, true, true, true, true, true, true, true, true, true, true, true, true, true, true, true, true, true, true, true, true, true, true, true, true, true, true, true, true, true, true, true, true, true, true, true, true, true] rfl rfl (by kernel_rfl) (by decide) (fun K hK => ?_)
           have hsc := (bCe HTW.out.blk 7 : wq.cell? ⟨g, 7, none⟩ = some (.bool x.fx))
           have hsf := (bFr HTW.out.blk 7 : wq.frozen? ⟨g, 7, none⟩ = false)
           refine skip_ (w1 := ?_) (by rfl) rfl ?_ ?_
           rotate_left
           · go_simp
             rfl
           refine hK.out _ _ ?_
           clear hK K
           refine done_ (by kernel_rfl) ?_
           go_wp2
           go_roundg k1
           case measure => omega
           case rel =>
            have ht := (HTW.out.below (below_drew (Below.refl _ _))).set 7 (.bool (decide (x.i.f0 < x.t))) ⟨x.i, x.t, c2, (decide (x.i.f0 < x.t)), x.s⟩ rfl HGG.out
            refine ⟨m + 1, by first | rw [hw] | rfl | go_num, ⟨by have := HN.out; omega⟩, ⟨ht.row HBK.out HO.out (by decide)⟩, ⟨?_⟩, ⟨ht.b⟩⟩
            have hfl := ht.list HF.out m (by assumption) HGE.out.symm
            rw [show (⟨x.i, x.t, c2, (decide (x.i.f0 < x.t)), x.s⟩ : Fx) = beg2 false x by unfold beg2; rw [if_neg (by decide), ← HC2.out, decide_eq_false E0.out]; rfl, HST.out] at hfl
            exact hfl
       · have HTW := aMk (HT8.out.set 6 (.int .i64 c1') ⟨x.i, x.t, c1', x.fx, x.s⟩ rfl HGG.out)
         generalize (w8.setCell ⟨g, 6, none⟩ (.int .i64 c1')) = wq at HTW ⊢
         clear r6 r1 s6 t6 u6
         by_cases e0 : c1' = 0
         · as_aux_lemma =>
           have b0 : (c1' == 0) = true := beq_iff_eq.2 e0
           have E0 := aMk e0
           clear e0
           refine start_ (n := 40) (S := fun w' => w'.cell? ⟨g, 0, none⟩ = some (.int .i64 x.i.f0) ∧ w'.cell? ⟨g, 5, none⟩ = some (.int .i64 x.t) ∧ w'.cell? ⟨g, 6, none⟩ = some (.int .i64 c1')) (ds := [39]) #[false, false, false, false, false, false, false, false, false, false, false, false, false, false, false, false, false, false, false, false, false, false, false, false, false, false, false, false, false, false, false, false, false, false, false, false, false, false, false, false] (by kernel_rfl) rfl rfl ⟨(bCe HTW.out.blk 0).trans rfl, (bCe HTW.out.blk 5).trans rfl, (bCe HTW.out.blk 6).trans rfl⟩ (fun hHeld => ?_)
           refine pure_ (i := 0) (N := some 70) (v := ?_) (a' := ?_) #[true, false, false, false, false, false, false, false, false, false, false, false, false, false, false, false, false, false, false, false, false, false, false, false, false, false, false, false, false, false, false, false, false, false, false, false, false, false, false, false] rfl rfl (by kernel_rfl) (fun _ _ _ h => h) (Or.inl ⟨by rfl, ?_⟩) ?_ ?_
           rotate_left
           · intro w'
             go_simp
             with_reducible rfl
           rotate_left
           · simp only [Act.put, lSa, lSz, lSs, i64_w, i32_w]
             rfl
           refine pure_ (i := 1) (N := some 71) (v := ?_) (a' := ?_) #[true, true, false, false, false, false, false, false, false, false, false, false, false, false, false, false, false, false, false, false, false, false, false, false, false, false, false, false, false, false, false, false, false, false, false, false, false, false, false, false] rfl rfl (by kernel_rfl) (fun _ _ _ h => h) (Or.inl ⟨by rfl, ?_⟩) ?_ ?_
           rotate_left
           · intro w'
             go_simp
             with_reducible rfl
           rotate_left
           · simp only [Act.put, lSa, lSz, lSs, i64_w, i32_w]
             rfl
           refine pure_ (i := 2) (N := some 72) (v := ?_) (a' := ?_) #[true, true, true, false, false, false, false, false, false, false, false, false, false, false, false, false, false, false, false, false, false, false, false, false, false, false, false, false, false, false, false, false, false, false, false, false, false, false, false, false] rfl rfl (by kernel_rfl) (fun _ _ _ h => h) (Or.inl ⟨by rfl, ?_⟩) ?_ ?_
           rotate_left
           · intro w'
             go_simp
             with_reducible rfl
           rotate_left
           · simp only [Act.put, lSa, lSz, lSs, i64_w, i32_w]
             rfl
           refine pure_ (i := 3) (N := some 73) (v := ?_) (a' := ?_) #[true, true, true, true, false, false, false, false, false, false, false, false, false, false, false, false, false, false, false, false, false, false, false, false, false, false, false, false, false, false, false, false, false, false, false, false, false, false, false, false] rfl rfl (by kernel_rfl) (fun _ _ _ h => h) (Or.inl ⟨by rfl, ?_⟩) ?_ ?_
           rotate_left
           · intro w'
             go_simp
             with_reducible rfl
           rotate_left
           · simp only [Act.put, lSa, lSz, lSs, i64_w, i32_w]
             rfl
           refine take_ (i := 4) (N := some 74) (v := ?_) (a' := ?_) #[true, true, true, true, true, false, false, false, false, false, false, false, false, false, false, false, false, false, false, false, false, false, false, false, false, false, false, false, false, false, false, false, false, false, false, false, false, false, false, false] rfl rfl (by kernel_rfl) (fun _ _ _ h => h) (Or.inl ⟨by rfl, ?_⟩) hHeld ?_ ?_
           rotate_left
           · rintro w' ⟨s0, s1, s2⟩
             go_simp
             with_reducible rfl
           rotate_left
           · simp only [Act.put, lSa, lSz, lSs, i64_w, i32_w]
             rfl
           refine pure_ (i := 5) (N := some 75) (v := ?_) (a' := ?_) #[true, true, true, true, true, true, false, false, false, false, false, false, false, false, false, false, false, false, false, false, false, false, false, false, false, false, false, false, false, false, false, false, false, false, false, false, false, false, false, false] rfl rfl (by kernel_rfl) (fun _ _ _ h => h) (Or.inl ⟨by rfl, ?_⟩) ?_ ?_
           rotate_left
           · intro w'
             go_simp
             with_reducible rfl
           rotate_left
           · simp only [Act.put, lSa, lSz, lSs, i64_w, i32_w]
             rfl
           refine pure_ (i := 6) (N := some 76) (v := ?_) (a' := ?_) #[true, true, true, true, true, true, true, false, false, false, false, false, false, false, false, false, false, false, false, false, false, false, false, false, false, false, false, false, false, false, false, false, false, false, false, false, false, false, false, false] rfl rfl (by kernel_rfl) (fun _ _ _ h => h) (Or.inl ⟨by rfl, ?_⟩) ?_ ?_
           rotate_left
           · intro w'
             go_simp
             with_reducible rfl
           rotate_left
           · simp only [Act.put, lSa, lSz, lSs, i64_w, i32_w]
             rfl
           refine pure_ (i := 7) (N := some 77) (v := undef) (a' := ?_) #[true, true, true, true, true, true, true, true, false, false, false, false, false, false, false, false, false, false, false, false, false, false, false, false, false, false, false, false, false, false, false, false, false, false, false, false, false, false, false, false] rfl rfl (by kernel_rfl) (fun _ _ _ h => h) (Or.inr ⟨by rfl, rfl⟩) ?_ ?_
           rotate_left
           · simp only [Act.put, lSa, lSz, lSs, i64_w, i32_w]
             rfl
           refine pure_ (i := 8) (N := some 78) (v := undef) (a' := ?_) #[true, true, true, true, true, true, true, true, true, false, false, false, false, false, false, false, false, false, false, false, false, false, false, false, false, false, false, false, false, false, false, false, false, false, false, false, false, false, false, false] rfl rfl (by kernel_rfl) (fun _ _ _ h => h) (Or.inr ⟨by rfl, rfl⟩) ?_ ?_
           rotate_left
           · simp only [Act.put, lSa, lSz, lSs, i64_w, i32_w]
             rfl
           refine pure_ (i := 9) (N := some 79) (v := undef) (a' := ?_) #[true, true, true, true, true, true, true, true, true, true, false, false, false, false, false, false, false, false, false, false, false, false, false, false, false, false, false, false, false, false, false, false, false, false, false, false, false, false, false, false] rfl rfl (by kernel_rfl) (fun _ _ _ h => h) (Or.inr ⟨by rfl, rfl⟩) ?_ ?_
           rotate_left
           · simp only [Act.put, lSa, lSz, lSs, i64_w, i32_w]
             rfl
           refine pure_ (i := 10) (N := some 80) (v := undef) (a' := ?_) #[true, true, true, true, true, true, true, true, true, true, true, false, false, false, false, false, false, false, false, false, false, false, false, false, false, false, false, false, false, false, false, false, false, false, false, false, false, false, false, false] rfl rfl (by kernel_rfl) (fun _ _ _ h => h) (Or.inr ⟨by rfl, rfl⟩) ?_ ?_
           rotate_left
           · simp only [Act.put, lSa, lSz, lSs, i64_w, i32_w]
             rfl
           refine pure_ (i := 11) (N := some 81) (v := undef) (a' := ?_) #[true, true, true, true, true, true, true, true, true, true, true, true, false, false, false, false, false, false, false, false, false, false, false, false, false, false, false, false, false, false, false, false, false, false, false, false, false, false, false, false] rfl rfl (by kernel_rfl) (fun _ _ _ h => h) (Or.inr ⟨by rfl, rfl⟩) ?_ ?_
           rotate_left
           · simp only [Act.put, lSa, lSz, lSs, i64_w, i32_w]
             rfl
           refine pure_ (i := 12) (N := some 82) (v := undef) (a' := ?_) #[true, true, true, true, true, true, true, true, true, true, true, true, true, false, false, false, false, false, false, false, false, false, false, false, false, false, false, false, false, false, false, false, false, false, false, false, false, false, false, false] rfl rfl (by kernel_rfl) (fun _ _ _ h => h) (Or.inr ⟨by rfl, rfl⟩) ?_ ?_
           rotate_left
           · simp only [Act.put, lSa, lSz, lSs, i64_w, i32_w]
             rfl
           refine pure_ (i := 13) (N := some 83) (v := undef) (a' := ?_) #[true, true, true, true, true, true, true, true, true, true, true, true, true, true, false, false, false, false, false, false, false, false, false, false, false, false, false, false, false, false, false, false, false, false, false, false, false, false, false, false] rfl rfl (by kernel_rfl) (fun _ _ _ h => h) (Or.inr ⟨by rfl, rfl⟩) ?_ ?_
           rotate_left
           · simp only [Act.put, lSa, lSz, lSs, i64_w, i32_w]
             rfl
           refine pure_ (i := 14) (N := some 84) (v := undef) (a' := ?_) #[true, true, true, true, true, true, true, true, true, true, true, true, true, true, true, false, false, false, false, false, false, false, false, false, false, false, false, false, false, false, false, false, false, false, false, false, false, false, false, false] rfl rfl (by kernel_rfl) (fun _ _ _ h => h) (Or.inr ⟨by rfl, rfl⟩) ?_ ?_
           rotate_left
           · simp only [Act.put, lSa, lSz, lSs, i64_w, i32_w]
             rfl
           refine pure_ (i := 15) (N := some 85) (v := undef) (a' := ?_) #[true, true, true, true, true, true, true, true, true, true, true, true, true, true, true, true, false, false, false, false, false, false, false, false, false, false, false, false, false, false, false, false, false, false, false, false, false, false, false, false] rfl rfl (by kernel_rfl) (fun _ _ _ h => h) (Or.inr ⟨by rfl, rfl⟩) ?_ ?_
           rotate_left
           · simp only [Act.put, lSa, lSz, lSs, i64_w, i32_w]
             rfl
           refine pure_ (i := 16) (N := some 86) (v := undef) (a' := ?_) #[true, true, true, true, true, true, true, true, true, true, true, true, true, true, true, true, true, false, false, false, false, false, false, false, false, false, false, false, false, false, false, false, false, false, false, false, false, false, false, false] rfl rfl (by kernel_rfl) (fun _ _ _ h => h) (Or.inr ⟨by rfl, rfl⟩) ?_ ?_
           rotate_left
           · simp only [Act.put, lSa, lSz, lSs, i64_w, i32_w]
             rfl
           refine pure_ (i := 17) (N := some 87) (v := undef) (a' := ?_) #[true, true, true, true, true, true, true, true, true, true, true, true, true, true, true, true, true, true, false, false, false, false, false, false, false, false, false, false, false, false, false, false, false, false, false, false, false, false, false, false] rfl rfl (by kernel_rfl) (fun _ _ _ h => h) (Or.inr ⟨by rfl, rfl⟩) ?_ ?_
           rotate_left
           · simp only [Act.put, lSa, lSz, lSs, i64_w, i32_w]
             rfl
           refine pure_ (i := 18) (N := some 88) (v := undef) (a' := ?_) #[true, true, true, true, true, true, true, true, true, true, true, true, true, true, true, true, true, true, true, false, false, false, false, false, false, false, false, false, false, false, false, false, false, false, false, false, false, false, false, false] rfl rfl (by kernel_rfl) (fun _ _ _ h => h) (Or.inr ⟨by rfl, rfl⟩) ?_ ?_
           rotate_left
           · simp only [Act.put, lSa, lSz, lSs, i64_w, i32_w]
             rfl
           refine pure_ (i := 19) (N := some 89) (v := undef) (a' := ?_) #[true, true, true, true, true, true, true, true, true, true, true, true, true, true, true, true, true, true, true, true, false, false, false, false, false, false, false, false, false, false, false, false, false, false, false, false, false, false, false, false] rfl rfl (by kernel_rfl) (fun _ _ _ h => h) (Or.inr ⟨by rfl, rfl⟩) ?_ ?_
           rotate_left
           · simp only [Act.put, lSa, lSz, lSs, i64_w, i32_w]
             rfl
           refine pure_ (i := 20) (N := some 90) (v := ?_) (a' := ?_) #[true, true, true, true, true, true, true, true, true, true, true, true, true, true, true, true, true, true, true, true, true, false, false, false, false, false, false, false, false, false, false, false, false, false, false, false, false, false, false, false] rfl rfl (by kernel_rfl) (fun _ _ _ h => h) (Or.inl ⟨by rfl, ?_⟩) ?_ ?_
           rotate_left
           · intro w'
             go_simp
             with_reducible rfl
           rotate_left
           · simp only [Act.put, lSa, lSz, lSs, i64_w, i32_w]
             rfl
           refine pure_ (i := 21) (N := some 91) (v := ?_) (a' := ?_) #[true, true, true, true, true, true, true, true, true, true, true, true, true, true, true, true, true, true, true, true, true, true, false, false, false, false, false, false, false, false, false, false, false, false, false, false, false, false, false, false] rfl rfl (by kernel_rfl) (fun _ _ _ h => h) (Or.inl ⟨by rfl, ?_⟩) ?_ ?_
           rotate_left
           · intro w'
             go_simp
             with_reducible rfl
           rotate_left
           · simp only [Act.put, lSa, lSz, lSs, i64_w, i32_w]
             rfl
           refine pure_ (i := 22) (N := some 92) (v := undef) (a' := ?_) #[true, true, true, true, true, true, true, true, true, true, true, true, true, true, true, true, true, true, true, true, true, true, true, false, false, false, false, false, false, false, false, false, false, false, false, false, false, false, false, false] rfl rfl (by kernel_rfl) (fun _ _ _ h => h) (Or.inr ⟨by rfl, rfl⟩) ?_ ?_
           rotate_left
           · simp only [Act.put, lSa, lSz, lSs, i64_w, i32_w]
             rfl
           refine pure_ (i := 23) (N := some 93) (v := undef) (a' := ?_) #[true, true, true, true, true, true, true, true, true, true, true, true, true, true, true, true, true, true, true, true, true, true, true, true, false, false, false, false, false, false, false, false, false, false, false, false, false, false, false, false] rfl rfl (by kernel_rfl) (fun _ _ _ h => h) (Or.inr ⟨by rfl, rfl⟩) ?_ ?_
           rotate_left
           · simp only [Act.put, lSa, lSz, lSs, i64_w, i32_w]
             rfl
           refine pure_ (i := 24) (N := some 94) (v := undef) (a' := ?_) #[true, true, true, true, true, true, true, true, true, true, true, true, true, true, true, true, true, true, true, true, true, true, true, true, true, false, false, false, false, false, false, false, false, false, false, false, false, false, false, false] rfl rfl (by kernel_rfl) (fun _ _ _ h => h) (Or.inr ⟨by rfl, rfl⟩) ?_ ?_
           rotate_left
           · simp only [Act.put, lSa, lSz, lSs, i64_w, i32_w]
             rfl
           refine pure_ (i := 25) (N := some 95) (v := undef) (a' := ?_) #[true, true, true, true, true, true, true, true, true, true, true, true, true, true, true, true, true, true, true, true, true, true, true, true, true, true, false, false, false, false, false, false, false, false, false, false, false, false, false, false] rfl rfl (by kernel_rfl) (fun _ _ _ h => h) (Or.inr ⟨by rfl, rfl⟩) ?_ ?_
           rotate_left
           · simp only [Act.put, lSa, lSz, lSs, i64_w, i32_w]
             rfl
           refine pure_ (i := 26) (N := some 96) (v := undef) (a' := ?_) #[true, true, true, true, true, true, true, true, true, true, true, true, true, true, true, true, true, true, true, true, true, true, true, true, true, true, true, false, false, false, false, false, false, false, false, false, false, false, false, false] rfl rfl (by kernel_rfl) (fun _ _ _ h => h) (Or.inr ⟨by rfl, rfl⟩) ?_ ?_
           rotate_left
           · simp only [Act.put, lSa, lSz, lSs, i64_w, i32_w]
             rfl
           refine pure_ (i := 27) (N := some 97) (v := undef) (a' := ?_) #[true, true, true, true, true, true, true, true, true, true, true, true, true, true, true, true, true, true, true, true, true, true, true, true, true, true, true, true, false, false, false, false, false, false, false, false, false, false, false, false] rfl rfl (by kernel_rfl) (fun _ _ _ h => h) (Or.inr ⟨by rfl, rfl⟩) ?_ ?_
           rotate_left
           · simp only [Act.put, lSa, lSz, lSs, i64_w, i32_w]
             rfl
           refine pure_ (i := 28) (N := some 98) (v := undef) (a' := ?_) #[true, true, true, true, true, true, true, true, true, true, true, true, true, true, true, true, true, true, true, true, true, true, true, true, true, true, true, true, true, false, false, false, false, false, false, false, false, false, false, false] rfl rfl (by kernel_rfl) (fun _ _ _ h => h) (Or.inr ⟨by rfl, rfl⟩) ?_ ?_
           rotate_left
           · simp only [Act.put, lSa, lSz, lSs, i64_w, i32_w]
             rfl
           refine pure_ (i := 29) (N := some 99) (v := undef) (a' := ?_) #[true, true, true, true, true, true, true, true, true, true, true, true, true, true, true, true, true, true, true, true, true, true, true, true, true, true, true, true, true, true, false, false, false, false, false, false, false, false, false, false] rfl rfl (by kernel_rfl) (fun _ _ _ h => h) (Or.inr ⟨by rfl, rfl⟩) ?_ ?_
           rotate_left
           · simp only [Act.put, lSa, lSz, lSs, i64_w, i32_w]
             rfl
           refine pure_ (i := 30) (N := some 100) (v := undef) (a' := ?_) #[true, true, true, true, true, true, true, true, true, true, true, true, true, true, true, true, true, true, true, true, true, true, true, true, true, true, true, true, true, true, true, false, false, false, false, false, false, false, false, false] rfl rfl (by kernel_rfl) (fun _ _ _ h => h) (Or.inr ⟨by rfl, rfl⟩) ?_ ?_
           rotate_left
           · simp only [Act.put, lSa, lSz, lSs, i64_w, i32_w]
             rfl
           refine pure_ (i := 31) (N := some 101) (v := undef) (a' := ?_) #[true, true, true, true, true, true, true, true, true, true, true, true, true, true, true, true, true, true, true, true, true, true, true, true, true, true, true, true, true, true, true, true, false, false, false, false, false, false, false, false] rfl rfl (by kernel_rfl) (fun _ _ _ h => h) (Or.inr ⟨by rfl, rfl⟩) ?_ ?_
           rotate_left
           · simp only [Act.put, lSa, lSz, lSs, i64_w, i32_w]
             rfl
           refine pure_ (i := 32) (N := some 102) (v := undef) (a' := ?_) #[true, true, true, true, true, true, true, true, true, true, true, true, true, true, true, true, true, true, true, true, true, true, true, true, true, true, true, true, true, true, true, true, true, false, false, false, false, false, false, false] rfl rfl (by kernel_rfl) (fun _ _ _ h => h) (Or.inr ⟨by rfl, rfl⟩) ?_ ?_
           rotate_left
           · simp only [Act.put, lSa, lSz, lSs, i64_w, i32_w]
             rfl
           refine pure_ (i := 33) (N := some 103) (v := undef) (a' := ?_) #[true, true, true, true, true, true, true, true, true, true, true, true, true, true, true, true, true, true, true, true, true, true, true, true, true, true, true, true, true, true, true, true, true, true, false, false, false, false, false, false] rfl rfl (by kernel_rfl) (fun _ _ _ h => h) (Or.inr ⟨by rfl, rfl⟩) ?_ ?_
           rotate_left
           · simp only [Act.put, lSa, lSz, lSs, i64_w, i32_w]
             rfl
           refine pure_ (i := 34) (N := some 104) (v := undef) (a' := ?_) #[true, true, true, true, true, true, true, true, true, true, true, true, true, true, true, true, true, true, true, true, true, true, true, true, true, true, true, true, true, true, true, true, true, true, true, false, false, false, false, false] rfl rfl (by kernel_rfl) (fun _ _ _ h => h) (Or.inr ⟨by rfl, rfl⟩) ?_ ?_
           rotate_left
           · simp only [Act.put, lSa, lSz, lSs, i64_w, i32_w]
             rfl
           refine pure_ (i := 35) (N := some 105) (v := undef) (a' := ?_) #[true, true, true, true, true, true, true, true, true, true, true, true, true, true, true, true, true, true, true, true, true, true, true, true, true, true, true, true, true, true, true, true, true, true, true, true, false, false, false, false] rfl rfl (by kernel_rfl) (fun _ _ _ h => h) (Or.inr ⟨by rfl, rfl⟩) ?_ ?_
           rotate_left
           · simp only [Act.put, lSa, lSz, lSs, i64_w, i32_w]
             rfl
           refine pure_ (i := 36) (N := some 106) (v := ?_) (a' := ?_) #[true, true, true, true, true, true, true, true, true, true, true, true, true, true, true, true, true, true, true, true, true, true, true, true, true, true, true, true, true, true, true, true, true, true, true, true, true, false, false, false] rfl rfl (by kernel_rfl) (fun _ _ _ h => h) (Or.inl ⟨by rfl, ?_⟩) ?_ ?_
           rotate_left
           · intro w'
             go_simp
             with_reducible rfl
           rotate_left
           · simp only [Act.put, lSa, lSz, lSs, i64_w, i32_w]
             rfl
           refine pure_ (i := 37) (N := some 107) (v := ?_) (a' := ?_) #[true, true, true, true, true, true, true, true, true, true, true, true, true, true, true, true, true, true, true, true, true, true, true, true, true, true, true, true, true, true, true, true, true, true, true, true, true, true, false, false] rfl rfl (by kernel_rfl) (fun _ _ _ h => h) (Or.inl ⟨by rfl, ?_⟩) ?_ ?_
           rotate_left
           · intro w'
             go_simp
             with_reducible rfl
           rotate_left
           · simp only [Act.put, lSa, lSz, lSs, i64_w, i32_w]
             rfl
           refine pure_ (i := 38) (N := some 108) (v := ?_) (a' := ?_) #[true, true, true, true, true, true, true, true, true, true, true, true, true, true, true, true, true, true, true, true, true, true, true, true, true, true, true, true, true, true, true, true, true, true, true, true, true, true, true, false] rfl rfl (by kernel_rfl) (fun _ _ _ h => h) (Or.inl ⟨by rfl, ?_⟩) ?_ ?_
           rotate_left
           · intro w'
             go_simp
             with_reducible rfl
           rotate_left
           · simp only [Act.put, lSa, lSz, lSs, i64_w, i32_w]
             rfl
           refine last_ (i := 39) (N := none) #[true, true, true, true, true, true, true, true, true, true, true, true, true, true, true, true, true, true, true, true, true, true, true, true, true, true, true, true, true, true, true, true, true, true, true, true, true, true, true, true] rfl rfl (by kernel_rfl) (by decide) (fun K hK => ?_)
           have hsc := (bCe HTW.out.blk 7 : wq.cell? ⟨g, 7, none⟩ = some (.bool x.fx))
           have hsf := (bFr HTW.out.blk 7 : wq.frozen? ⟨g, 7, none⟩ = false)
           refine skip_ (w1 := ?_) (by rfl) rfl ?_ ?_
           rotate_left
           · go_simp
             rfl
           refine hK.out _ _ ?_
           clear hK K
           refine done_ (by kernel_rfl) ?_
           go_wp2
           go_roundg k1
           case measure => omega
           case rel =>
            have ht := (HTW.out.below (below_drew (Below.refl _ _))).set 7 (.bool true) ⟨x.i, x.t, c1', true, x.s⟩ rfl HGG.out
            refine ⟨m + 1, by first | rw [hw] | rfl | go_num, ⟨by have := HN.out; omega⟩, ⟨ht.row HBK.out HO.out (by decide)⟩, ⟨?_⟩, ⟨ht.b⟩⟩
            have hfl := ht.list HF.out m (by assumption) HGE.out.symm
            rw [show (⟨x.i, x.t, c1', true, x.s⟩ : Fx) = beg2 true x by unfold beg2; rw [if_pos rfl, ← HC1.out, decide_eq_true E0.out]; rfl, HST.out] at hfl
            exact hfl
         · have b0 : (c1' == 0) = false := beq_eq_false_iff_ne.2 e0
           have E0 := aMk e0
           clear e0
           by_cases e1 : x.i.f0 > x.t
           · as_aux_lemma =>
             have b1 : decide (x.t < x.i.f0) = true := decide_eq_true e1
             have b2 : decide (x.i.f0 > x.t) = true := decide_eq_true e1
             have E1 := aMk e1
             clear e1
             refine start_ (n := 40) (S := fun w' => w'.cell? ⟨g, 0, none⟩ = some (.int .i64 x.i.f0) ∧ w'.cell? ⟨g, 5, none⟩ = some (.int .i64 x.t) ∧ w'.cell? ⟨g, 6, none⟩ = some (.int .i64 c1')) (ds := [39]) #[false, false, false, false, false, false, false, false, false, false, false, false, false, false, false, false, false, false, false, false, false, false, false, false, false, false, false, false, false, false, false, false, false, false, false, false, false, false, false, false] (by kernel_rfl) rfl rfl ⟨(bCe HTW.out.blk 0).trans rfl, (bCe HTW.out.blk 5).trans rfl, (bCe HTW.out.blk 6).trans rfl⟩ (fun hHeld => ?_)
             refine pure_ (i := 0) (N := some 70) (v := ?_) (a' := ?_) #[true, false, false, false, false, false, false, false, false, false, false, false, false, false, false, false, false, false, false, false, false, false, false, false, false, false, false, false, false, false, false, false, false, false, false, false, false, false, false, false] rfl rfl (by kernel_rfl) (fun _ _ _ h => h) (Or.inl ⟨by rfl, ?_⟩) ?_ ?_
             rotate_left
             · intro w'
               go_simp
               with_reducible rfl
             rotate_left
             · simp only [Act.put, lSa, lSz, lSs, i64_w, i32_w]
               rfl
             refine pure_ (i := 1) (N := some 71) (v := ?_) (a' := ?_) #[true, true, false, false, false, false, false, false, false, false, false, false, false, false, false, false, false, false, false, false, false, false, false, false, false, false, false, false, false, false, false, false, false, false, false, false, false, false, false, false] rfl rfl (by kernel_rfl) (fun _ _ _ h => h) (Or.inl ⟨by rfl, ?_⟩) ?_ ?_
             rotate_left
             · intro w'
               go_simp
               with_reducible rfl
             rotate_left
             · simp only [Act.put, lSa, lSz, lSs, i64_w, i32_w]
               rfl
             refine pure_ (i := 2) (N := some 72) (v := ?_) (a' := ?_) #[true, true, true, false, false, false, false, false, false, false, false, false, false, false, false, false, false, false, false, false, false, false, false, false, false, false, false, false, false, false, false, false, false, false, false, false, false, false, false, false] rfl rfl (by kernel_rfl) (fun _ _ _ h => h) (Or.inl ⟨by rfl, ?_⟩) ?_ ?_
             rotate_left
             · intro w'
               go_simp
               with_reducible rfl
             rotate_left
             · simp only [Act.put, lSa, lSz, lSs, i64_w, i32_w]
               rfl
             refine pure_ (i := 3) (N := some 73) (v := ?_) (a' := ?_) #[true, true, true, true, false, false, false, false, false, false, false, false, false, false, false, false, false, false, false, false, false, false, false, false, false, false, false, false, false, false, false, false, false, false, false, false, false, false, false, false] rfl rfl (by kernel_rfl) (fun _ _ _ h => h) (Or.inl ⟨by rfl, ?_⟩) ?_ ?_
             rotate_left
             · intro w'
               go_simp
               with_reducible rfl
             rotate_left
             · simp only [Act.put, lSa, lSz, lSs, i64_w, i32_w]
               rfl
             refine take_ (i := 4) (N := some 74) (v := ?_) (a' := ?_) #[true, true, true, true, true, false, false, false, false, false, false, false, false, false, false, false, false, false, false, false, false, false, false, false, false, false, false, false, false, false, false, false, false, false, false, false, false, false, false, false] rfl rfl (by kernel_rfl) (fun _ _ _ h => h) (Or.inl ⟨by rfl, ?_⟩) hHeld ?_ ?_
             rotate_left
             · rintro w' ⟨s0, s1, s2⟩
               go_simp
               with_reducible rfl
             rotate_left
             · simp only [Act.put, lSa, lSz, lSs, i64_w, i32_w]
               rfl
             refine pure_ (i := 5) (N := some 75) (v := ?_) (a' := ?_) #[true, true, true, true, true, true, false, false, false, false, false, false, false, false, false, false, false, false, false, false, false, false, false, false, false, false, false, false, false, false, false, false, false, false, false, false, false, false, false, false] rfl rfl (by kernel_rfl) (fun _ _ _ h => h) (Or.inl ⟨by rfl, ?_⟩) ?_ ?_
             rotate_left
             · intro w'
               go_simp
               with_reducible rfl
             rotate_left
             · simp only [Act.put, lSa, lSz, lSs, i64_w, i32_w]
               rfl
             refine pure_ (i := 6) (N := some 76) (v := ?_) (a' := ?_) #[true, true, true, true, true, true, true, false, false, false, false, false, false, false, false, false, false, false, false, false, false, false, false, false, false, false, false, false, false, false, false, false, false, false, false, false, false, false, false, false] rfl rfl (by kernel_rfl) (fun _ _ _ h => h) (Or.inl ⟨by rfl, ?_⟩) ?_ ?_
             rotate_left
             · intro w'
               go_simp
               with_reducible rfl
             rotate_left
             · simp only [Act.put, lSa, lSz, lSs, i64_w, i32_w]
               rfl
             refine pure_ (i := 7) (N := some 77) (v := ?_) (a' := ?_) #[true, true, true, true, true, true, true, true, false, false, false, false, false, false, false, false, false, false, false, false, false, false, false, false, false, false, false, false, false, false, false, false, false, false, false, false, false, false, false, false] rfl rfl (by kernel_rfl) (fun _ _ _ h => h) (Or.inl ⟨by rfl, ?_⟩) ?_ ?_
             rotate_left
             · intro w'
               go_simp
               with_reducible rfl
             rotate_left
             · simp only [Act.put, lSa, lSz, lSs, i64_w, i32_w]
               rfl
             refine pure_ (i := 8) (N := some 78) (v := ?_) (a' := ?_) #[true, true, true, true, true, true, true, true, true, false, false, false, false, false, false, false, false, false, false, false, false, false, false, false, false, false, false, false, false, false, false, false, false, false, false, false, false, false, false, false] rfl rfl (by kernel_rfl) (fun _ _ _ h => h) (Or.inl ⟨by rfl, ?_⟩) ?_ ?_
             rotate_left
             · intro w'
               go_simp
               with_reducible rfl
             rotate_left
             · simp only [Act.put, lSa, lSz, lSs, i64_w, i32_w]
               rfl
             refine pure_ (i := 9) (N := some 79) (v := ?_) (a' := ?_) #[true, true, true, true, true, true, true, true, true, true, false, false, false, false, false, false, false, false, false, false, false, false, false, false, false, false, false, false, false, false, false, false, false, false, false, false, false, false, false, false] rfl rfl (by kernel_rfl) (fun _ _ _ h => h) (Or.inl ⟨by rfl, ?_⟩) ?_ ?_
             rotate_left
             · intro w'
               go_simp
               with_reducible rfl
             rotate_left
             · simp only [Act.put, lSa, lSz, lSs, i64_w, i32_w]
               rfl
             refine pure_ (i := 10) (N := some 80) (v := ?_) (a' := ?_) #[true, true, true, true, true, true, true, true, true, true, true, false, false, false, false, false, false, false, false, false, false, false, false, false, false, false, false, false, false, false, false, false, false, false, false, false, false, false, false, false] rfl rfl (by kernel_rfl) (fun _ _ _ h => h) (Or.inl ⟨by rfl, ?_⟩) ?_ ?_
             rotate_left
             · intro w'
               go_simp
               with_reducible rfl
             rotate_left
             · simp only [Act.put, lSa, lSz, lSs, i64_w, i32_w]
               rfl
             refine pure_ (i := 11) (N := some 81) (v := ?_) (a' := ?_) #[true, true, true, true, true, true, true, true, true, true, true, true, false, false, false, false, false, false, false, false, false, false, false, false, false, false, false, false, false, false, false, false, false, false, false, false, false, false, false, false] rfl rfl (by kernel_rfl) (fun _ _ _ h => h) (Or.inl ⟨by rfl, ?_⟩) ?_ ?_
             rotate_left
             · intro w'
               go_simp
               with_reducible rfl
             rotate_left
             · simp only [Act.put, lSa, lSz, lSs, i64_w, i32_w]
               rfl
             refine pure_ (i := 12) (N := some 82) (v := ?_) (a' := ?_) #[true, true, true, true, true, true, true, true, true, true, true, true, true, false, false, false, false, false, false, false, false, false, false, false, false, false, false, false, false, false, false, false, false, false, false, false, false, false, false, false] rfl rfl (by kernel_rfl) (fun _ _ _ h => h) (Or.inl ⟨by rfl, ?_⟩) ?_ ?_
             rotate_left
             · intro w'
               go_simp
               with_reducible rfl
             rotate_left
             · simp only [Act.put, lSa, lSz, lSs, i64_w, i32_w]
               rfl
             refine pure_ (i := 14) (N := some 84) (v := ?_) (a' := ?_) #[true, true, true, true, true, true, true, true, true, true, true, true, true, false, true, false, false, false, false, false, false, false, false, false, false, false, false, false, false, false, false, false, false, false, false, false, false, false, false, false] rfl rfl (by kernel_rfl) (fun _ _ _ h => h) (Or.inl ⟨by rfl, ?_⟩) ?_ ?_
             rotate_left
             · intro w'
               go_simp
               with_reducible rfl
             rotate_left
             · simp only [Act.put, lSa, lSz, lSs, i64_w, i32_w]
               rfl
             refine pure_ (i := 15) (N := some 85) (v := ?_) (a' := ?_) #[true, true, true, true, true, true, true, true, true, true, true, true, true, false, true, true, false, false, false, false, false, false, false, false, false, false, false, false, false, false, false, false, false, false, false, false, false, false, false, false] rfl rfl (by kernel_rfl) (fun _ _ _ h => h) (Or.inl ⟨by rfl, ?_⟩) ?_ ?_
             rotate_left
             · intro w'
               go_simp
               with_reducible rfl
             rotate_left
             · simp only [Act.put, lSa, lSz, lSs, i64_w, i32_w]
               rfl
             refine pure_ (i := 16) (N := some 86) (v := ?_) (a' := ?_) #[true, true, true, true, true, true, true, true, true, true, true, true, true, false, true, true, true, false, false, false, false, false, false, false, false, false, false, false, false, false, false, false, false, false, false, false, false, false, false, false] rfl rfl (by kernel_rfl) (fun _ _ _ h => h) (Or.inl ⟨by rfl, ?_⟩) ?_ ?_
             rotate_left
             · intro w'
               go_simp
               with_reducible rfl
             rotate_left
             · simp only [Act.put, lSa, lSz, lSs, i64_w, i32_w]
               rfl
             refine take_ (i := 13) (N := some 83) (v := ?_) (a' := ?_) #[true, true, true, true, true, true, true, true, true, true, true, true, true, true, true, true, true, false, false, false, false, false, false, false, false, false, false, false, false, false, false, false, false, false, false, false, false, false, false, false] rfl rfl (by kernel_rfl) (fun _ _ _ h => h) (Or.inl ⟨by rfl, ?_⟩) hHeld ?_ ?_
             rotate_left
             · rintro w' ⟨s0, s1, s2⟩
               go_simp
               with_reducible rfl
             rotate_left
             · simp only [Act.put, lSa, lSz, lSs, i64_w, i32_w]
               rfl
             refine take_ (i := 17) (N := some 87) (v := ?_) (a' := ?_) #[true, true, true, true, true, true, true, true, true, true, true, true, true, true, true, true, true, true, false, false, false, false, false, false, false, false, false, false, false, false, false, false, false, false, false, false, false, false, false, false] rfl rfl (by kernel_rfl) (fun _ _ _ h => h) (Or.inl ⟨by rfl, ?_⟩) hHeld ?_ ?_
             rotate_left
             · rintro w' ⟨s0, s1, s2⟩
               go_simp
               with_reducible rfl
             rotate_left
             · simp only [Act.put, lSa, lSz, lSs, i64_w, i32_w]
               rfl
             refine pure_ (i := 18) (N := some 88) (v := ?_) (a' := ?_) #[true, true, true, true, true, true, true, true, true, true, true, true, true, true, true, true, true, true, true, false, false, false, false, false, false, false, false, false, false, false, false, false, false, false, false, false, false, false, false, false] rfl rfl (by kernel_rfl) (fun _ _ _ h => h) (Or.inl ⟨by rfl, ?_⟩) ?_ ?_
             rotate_left
             · intro w'
               go_simp
               with_reducible rfl
             rotate_left
             · simp only [Act.put, lSa, lSz, lSs, i64_w, i32_w]
               rfl
             refine pure_ (i := 19) (N := some 89) (v := ?_) (a' := ?_) #[true, true, true, true, true, true, true, true, true, true, true, true, true, true, true, true, true, true, true, true, false, false, false, false, false, false, false, false, false, false, false, false, false, false, false, false, false, false, false, false] rfl rfl (by kernel_rfl) (fun _ _ _ h => h) (Or.inl ⟨by rfl, ?_⟩) ?_ ?_
             rotate_left
             · intro w'
               go_simp
               with_reducible rfl
             rotate_left
             · simp only [Act.put, lSa, lSz, lSs, i64_w, i32_w]
               rfl
             refine pure_ (i := 20) (N := some 90) (v := ?_) (a' := ?_) #[true, true, true, true, true, true, true, true, true, true, true, true, true, true, true, true, true, true, true, true, true, false, false, false, false, false, false, false, false, false, false, false, false, false, false, false, false, false, false, false] rfl rfl (by kernel_rfl) (fun _ _ _ h => h) (Or.inl ⟨by rfl, ?_⟩) ?_ ?_
             rotate_left
             · intro w'
               go_simp
               with_reducible rfl
             rotate_left
             · simp only [Act.put, lSa, lSz, lSs, i64_w, i32_w]
               rfl
             refine pure_ (i := 21) (N := some 91) (v := ?_) (a' := ?_) #[true, true, true, true, true, true, true, true, true, true, true, true, true, true, true, true, true, true, true, true, true, true, false, false, false, false, false, false, false, false, false, false, false, false, false, false, false, false, false, false] rfl rfl (by kernel_rfl) (fun _ _ _ h => h) (Or.inl ⟨by rfl, ?_⟩) ?_ ?_
             rotate_left
             · intro w'
               go_simp
               with_reducible rfl
             rotate_left
             · simp only [Act.put, lSa, lSz, lSs, i64_w, i32_w]
               rfl
             refine pure_ (i := 22) (N := some 92) (v := undef) (a' := ?_) #[true, true, true, true, true, true, true, true, true, true, true, true, true, true, true, true, true, true, true, true, true, true, true, false, false, false, false, false, false, false, false, false, false, false, false, false, false, false, false, false] rfl rfl (by kernel_rfl) (fun _ _ _ h => h) (Or.inr ⟨by rfl, rfl⟩) ?_ ?_
             rotate_left
             · simp only [Act.put, lSa, lSz, lSs, i64_w, i32_w]
               rfl
             refine pure_ (i := 23) (N := some 93) (v := undef) (a' := ?_) #[true, true, true, true, true, true, true, true, true, true, true, true, true, true, true, true, true, true, true, true, true, true, true, true, false, false, false, false, false, false, false, false, false, false, false, false, false, false, false, false] rfl rfl (by kernel_rfl) (fun _ _ _ h => h) (Or.inr ⟨by rfl, rfl⟩) ?_ ?_
             rotate_left
             · simp only [Act.put, lSa, lSz, lSs, i64_w, i32_w]
               rfl
             refine pure_ (i := 24) (N := some 94) (v := undef) (a' := ?_) #[true, true, true, true, true, true, true, true, true, true, true, true, true, true, true, true, true, true, true, true, true, true, true, true, true, false, false, false, false, false, false, false, false, false, false, false, false, false, false, false] rfl rfl (by kernel_rfl) (fun _ _ _ h => h) (Or.inr ⟨by rfl, rfl⟩) ?_ ?_
             rotate_left
             · simp only [Act.put, lSa, lSz, lSs, i64_w, i32_w]
               rfl
             refine pure_ (i := 25) (N := some 95) (v := undef) (a' := ?_) #[true, true, true, true, true, true, true, true, true, true, true, true, true, true, true, true, true, true, true, true, true, true, true, true, true, true, false, false, false, false, false, false, false, false, false, false, false, false, false, false] rfl rfl (by kernel_rfl) (fun _ _ _ h => h) (Or.inr ⟨by rfl, rfl⟩) ?_ ?_
             rotate_left
             · simp only [Act.put, lSa, lSz, lSs, i64_w, i32_w]
               rfl
             refine pure_ (i := 26) (N := some 96) (v := undef) (a' := ?_) #[true, true, true, true, true, true, true, true, true, true, true, true, true, true, true, true, true, true, true, true, true, true, true, true, true, true, true, false, false, false, false, false, false, false, false, false, false, false, false, false] rfl rfl (by kernel_rfl) (fun _ _ _ h => h) (Or.inr ⟨by rfl, rfl⟩) ?_ ?_
             rotate_left
             · simp only [Act.put, lSa, lSz, lSs, i64_w, i32_w]
               rfl
             refine pure_ (i := 27) (N := some 97) (v := undef) (a' := ?_) #[true, true, true, true, true, true, true, true, true, true, true, true, true, true, true, true, true, true, true, true, true, true, true, true, true, true, true, true, false, false, false, false, false, false, false, false, false, false, false, false] rfl rfl (by kernel_rfl) (fun _ _ _ h => h) (Or.inr ⟨by rfl, rfl⟩) ?_ ?_
             rotate_left
             · simp only [Act.put, lSa, lSz, lSs, i64_w, i32_w]
               rfl
             refine pure_ (i := 28) (N := some 98) (v := undef) (a' := ?_) #[true, true, true, true, true, true, true, true, true, true, true, true, true, true, true, true, true, true, true, true, true, true, true, true, true, true, true, true, true, false, false, false, false, false, false, false, false, false, false, false] rfl rfl (by kernel_rfl) (fun _ _ _ h => h) (Or.inr ⟨by rfl, rfl⟩) ?_ ?_
             rotate_left
             · simp only [Act.put, lSa, lSz, lSs, i64_w, i32_w]
               rfl
             refine pure_ (i := 29) (N := some 99) (v := undef) (a' := ?_) #[true, true, true, true, true, true, true, true, true, true, true, true, true, true, true, true, true, true, true, true, true, true, true, true, true, true, true, true, true, true, false, false, false, false, false, false, false, false, false, false] rfl rfl (by kernel_rfl) (fun _ _ _ h => h) (Or.inr ⟨by rfl, rfl⟩) ?_ ?_
             rotate_left
             · simp only [Act.put, lSa, lSz, lSs, i64_w, i32_w]
               rfl
             refine pure_ (i := 30) (N := some 100) (v := undef) (a' := ?_) #[true, true, true, true, true, true, true, true, true, true, true, true, true, true, true, true, true, true, true, true, true, true, true, true, true, true, true, true, true, true, true, false, false, false, false, false, false, false, false, false] rfl rfl (by kernel_rfl) (fun _ _ _ h => h) (Or.inr ⟨by rfl, rfl⟩) ?_ ?_
             rotate_left
             · simp only [Act.put, lSa, lSz, lSs, i64_w, i32_w]
               rfl
             refine pure_ (i := 31) (N := some 101) (v := undef) (a' := ?_) #[true, true, true, true, true, true, true, true, true, true, true, true, true, true, true, true, true, true, true, true, true, true, true, true, true, true, true, true, true, true, true, true, false, false, false, false, false, false, false, false] rfl rfl (by kernel_rfl) (fun _ _ _ h => h) (Or.inr ⟨by rfl, rfl⟩) ?_ ?_
             rotate_left
             · simp only [Act.put, lSa, lSz, lSs, i64_w, i32_w]
               rfl
             refine pure_ (i := 32) (N := some 102) (v := undef) (a' := ?_) #[true, true, true, true, true, true, true, true, true, true, true, true, true, true, true, true, true, true, true, true, true, true, true, true, true, true, true, true, true, true, true, true, true, false, false, false, false, false, false, false] rfl rfl (by kernel_rfl) (fun _ _ _ h => h) (Or.inr ⟨by rfl, rfl⟩) ?_ ?_
             rotate_left
             · simp only [Act.put, lSa, lSz, lSs, i64_w, i32_w]
               rfl
             refine pure_ (i := 33) (N := some 103) (v := undef) (a' := ?_) #[true, true, true, true, true, true, true, true, true, true, true, true, true, true, true, true, true, true, true, true, true, true, true, true, true, true, true, true, true, true, true, true, true, true, false, false, false, false, false, false] rfl rfl (by kernel_rfl) (fun _ _ _ h => h) (Or.inr ⟨by rfl, rfl⟩) ?_ ?_
             rotate_left
             · simp only [Act.put, lSa, lSz, lSs, i64_w, i32_w]
               rfl
             refine pure_ (i := 34) (N := some 104) (v := undef) (a' := ?_) #[true, true, true, true, true, true, true, true, true, true, true, true, true, true, true, true, true, true, true, true, true, true, true, true, true, true, true, true, true, true, true, true, true, true, true, false, false, false, false, false] rfl rfl (by kernel_rfl) (fun _ _ _ h => h) (Or.inr ⟨by rfl, rfl⟩) ?_ ?_
             rotate_left
             · simp only [Act.put, lSa, lSz, lSs, i64_w, i32_w]
               rfl
             refine pure_ (i := 35) (N := some 105) (v := undef) (a' := ?_) #[true, true, true, true, true, true, true, true, true, true, true, true, true, true, true, true, true, true, true, true, true, true, true, true, true, true, true, true, true, true, true, true, true, true, true, true, false, false, false, false] rfl rfl (by kernel_rfl) (fun _ _ _ h => h) (Or.inr ⟨by rfl, rfl⟩) ?_ ?_
             rotate_left
             · simp only [Act.put, lSa, lSz, lSs, i64_w, i32_w]
               rfl
             refine pure_ (i := 36) (N := some 106) (v := ?_) (a' := ?_) #[true, true, true, true, true, true, true, true, true, true, true, true, true, true, true, true, true, true, true, true, true, true, true, true, true, true, true, true, true, true, true, true, true, true, true, true, true, false, false, false] rfl rfl (by kernel_rfl) (fun _ _ _ h => h) (Or.inl ⟨by rfl, ?_⟩) ?_ ?_
             rotate_left
             · intro w'
               go_simp
               with_reducible rfl
             rotate_left
             · simp only [Act.put, lSa, lSz, lSs, i64_w, i32_w]
               rfl
             refine pure_ (i := 37) (N := some 107) (v := ?_) (a' := ?_) #[true, true, true, true, true, true, true, true, true, true, true, true, true, true, true, true, true, true, true, true, true, true, true, true, true, true, true, true, true, true, true, true, true, true, true, true, true, true, false, false] rfl rfl (by kernel_rfl) (fun _ _ _ h => h) (Or.inl ⟨by rfl, ?_⟩) ?_ ?_
             rotate_left
             · intro w'
               go_simp
               with_reducible rfl
             rotate_left
             · simp only [Act.put, lSa, lSz, lSs, i64_w, i32_w]
               rfl
             refine pure_ (i := 38) (N := some 108) (v := ?_) (a' := ?_) #[true, true, true, true, true, true, true, true, true, true, true, true, true, true, true, true, true, true, true, true, true, true, true, true, true, true, true, true, true, true, true, true, true, true, true, true, true, true, true, false] rfl rfl (by kernel_rfl) (fun _ _ _ h => h) (Or.inl ⟨by rfl, ?_⟩) ?_ ?_
             rotate_left
             · intro w'
               go_simp
               with_reducible rfl
             rotate_left
             · simp only [Act.put, lSa, lSz, lSs, i64_w, i32_w]
               rfl
             refine last_ (i := 39) (N := none) #[true, true, true, true, true, true, true, true, true, true, true, true, true, true, true, true, true, true, true, true, true, true, true, true, true, true, true, true, true, true, true, true, true, true, true, true, true, true, true, true] rfl rfl (by kernel_rfl) (by decide) (fun K hK => ?_)
             have hsc := (bCe HTW.out.blk 7 : wq.cell? ⟨g, 7, none⟩ = some (.bool x.fx))
             have hsf := (bFr HTW.out.blk 7 : wq.frozen? ⟨g, 7, none⟩ = false)
             refine skip_ (w1 := ?_) (by rfl) rfl ?_ ?_
             rotate_left
             · go_simp
               rfl
             refine hK.out _ _ ?_
             clear hK K
             refine done_ (by kernel_rfl) ?_
             go_wp2
             go_roundg k1
             case measure => omega
             case rel =>
              have ht := (HTW.out.below (below_drew (Below.refl _ _))).set 7 (.bool true) ⟨x.i, x.t, c1', true, x.s⟩ rfl HGG.out
              refine ⟨m + 1, by first | rw [hw] | rfl | go_num, ⟨by have := HN.out; omega⟩, ⟨ht.row HBK.out HO.out (by decide)⟩, ⟨?_⟩, ⟨ht.b⟩⟩
              have hfl := ht.list HF.out m (by assumption) HGE.out.symm
              rw [show (⟨x.i, x.t, c1', true, x.s⟩ : Fx) = beg2 true x by unfold beg2; rw [if_pos rfl, ← HC1.out, decide_eq_false E0.out, decide_eq_true E1.out]; rfl, HST.out] at hfl
              exact hfl
           · as_aux_lemma =>
             have b1 : decide (x.t < x.i.f0) = false := decide_eq_false e1
             have b2 : decide (x.i.f0 > x.t) = false := decide_eq_false e1
             have E1 := aMk e1
             clear e1
             refine start_ (n := 40) (S := fun w' => w'.cell? ⟨g, 0, none⟩ = some (.int .i64 x.i.f0) ∧ w'.cell? ⟨g, 5, none⟩ = some (.int .i64 x.t) ∧ w'.cell? ⟨g, 6, none⟩ = some (.int .i64 c1')) (ds := [39]) #[false, false, false, false, false, false, false, false, false, false, false, false, false, false, false, false, false, false, false, false, false, false, false, false, false, false, false, false, false, false, false, false, false, false, false, false, false, false, false, false] (by kernel_rfl) rfl rfl ⟨(bCe HTW.out.blk 0).trans rfl, (bCe HTW.out.blk 5).trans rfl, (bCe HTW.out.blk 6).trans rfl⟩ (fun hHeld => ?_)
             refine pure_ (i := 0) (N := some 70) (v := ?_) (a' := ?_) #[true, false, false, false, false, false, false, false, false, false, false, false, false, false, false, false, false, false, false, false, false, false, false, false, false, false, false, false, false, false, false, false, false, false, false, false, false, false, false, false] rfl rfl (by kernel_rfl) (fun _ _ _ h => h) (Or.inl ⟨by rfl, ?_⟩) ?_ ?_
             rotate_left
             · intro w'
               go_simp
               with_reducible rfl
             rotate_left
             · simp only [Act.put, lSa, lSz, lSs, i64_w, i32_w]
               rfl
             refine pure_ (i := 1) (N := some 71) (v := ?_) (a' := ?_) #[true, true, false, false, false, false, false, false, false, false, false, false, false, false, false, false, false, false, false, false, false, false, false, false, false, false, false, false, false, false, false, false, false, false, false, false, false, false, false, false] rfl rfl (by kernel_rfl) (fun _ _ _ h => h) (Or.inl ⟨by rfl, ?_⟩) ?_ ?_
             rotate_left
             · intro w'
               go_simp
               with_reducible rfl
             rotate_left
             · simp only [Act.put, lSa, lSz, lSs, i64_w, i32_w]
               rfl
             refine pure_ (i := 2) (N := some 72) (v := ?_) (a' := ?_) #[true, true, true, false, false, false, false, false, false, false, false, false, false, false, false, false, false, false, false, false, false, false, false, false, false, false, false, false, false, false, false, false, false, false, false, false, false, false, false, false] rfl rfl (by kernel_rfl) (fun _ _ _ h => h) (Or.inl ⟨by rfl, ?_⟩) ?_ ?_
             rotate_left
             · intro w'
               go_simp
               with_reducible rfl
             rotate_left
             · simp only [Act.put, lSa, lSz, lSs, i64_w, i32_w]
               rfl
             refine pure_ (i := 3) (N := some 73) (v := ?_) (a' := ?_) #[true, true, true, true, false, false, false, false, false, false, false, false, false, false, false, false, false, false, false, false, false, false, false, false, false, false, false, false, false, false, false, false, false, false, false, false, false, false, false, false] rfl rfl (by kernel_rfl) (fun _ _ _ h => h) (Or.inl ⟨by rfl, ?_⟩) ?_ ?_
             rotate_left
             · intro w'
               go_simp
               with_reducible rfl
             rotate_left
             · simp only [Act.put, lSa, lSz, lSs, i64_w, i32_w]
               rfl
             refine take_ (i := 4) (N := some 74) (v := ?_) (a' := ?_) #[true, true, true, true, true, false, false, false, false, false, false, false, false, false, false, false, false, false, false, false, false, false, false, false, false, false, false, false, false, false, false, false, false, false, false, false, false, false, false, false] rfl rfl (by kernel_rfl) (fun _ _ _ h => h) (Or.inl ⟨by rfl, ?_⟩) hHeld ?_ ?_
             rotate_left
             · rintro w' ⟨s0, s1, s2⟩
               go_simp
               with_reducible rfl
             rotate_left
             · simp only [Act.put, lSa, lSz, lSs, i64_w, i32_w]
               rfl
             refine pure_ (i := 5) (N := some 75) (v := ?_) (a' := ?_) #[true, true, true, true, true, true, false, false, false, false, false, false, false, false, false, false, false, false, false, false, false, false, false, false, false, false, false, false, false, false, false, false, false, false, false, false, false, false, false, false] rfl rfl (by kernel_rfl) (fun _ _ _ h => h) (Or.inl ⟨by rfl, ?_⟩) ?_ ?_
             rotate_left
             · intro w'
               go_simp
               with_reducible rfl
             rotate_left
             · simp only [Act.put, lSa, lSz, lSs, i64_w, i32_w]
               rfl
             refine pure_ (i := 6) (N := some 76) (v := ?_) (a' := ?_) #[true, true, true, true, true, true, true, false, false, false, false, false, false, false, false, false, false, false, false, false, false, false, false, false, false, false, false, false, false, false, false, false, false, false, false, false, false, false, false, false] rfl rfl (by kernel_rfl) (fun _ _ _ h => h) (Or.inl ⟨by rfl, ?_⟩) ?_ ?_
             rotate_left
             · intro w'
               go_simp
               with_reducible rfl
             rotate_left
             · simp only [Act.put, lSa, lSz, lSs, i64_w, i32_w]
               rfl
             refine pure_ (i := 7) (N := some 77) (v := ?_) (a' := ?_) #[true, true, true, true, true, true, true, true, false, false, false, false, false, false, false, false, false, false, false, false, false, false, false, false, false, false, false, false, false, false, false, false, false, false, false, false, false, false, false, false] rfl rfl (by kernel_rfl) (fun _ _ _ h => h) (Or.inl ⟨by rfl, ?_⟩) ?_ ?_
             rotate_left
             · intro w'
               go_simp
               with_reducible rfl
             rotate_left
             · simp only [Act.put, lSa, lSz, lSs, i64_w, i32_w]
               rfl
             refine pure_ (i := 8) (N := some 78) (v := ?_) (a' := ?_) #[true, true, true, true, true, true, true, true, true, false, false, false, false, false, false, false, false, false, false, false, false, false, false, false, false, false, false, false, false, false, false, false, false, false, false, false, false, false, false, false] rfl rfl (by kernel_rfl) (fun _ _ _ h => h) (Or.inl ⟨by rfl, ?_⟩) ?_ ?_
             rotate_left
             · intro w'
               go_simp
               with_reducible rfl
             rotate_left
             · simp only [Act.put, lSa, lSz, lSs, i64_w, i32_w]
               rfl
             refine pure_ (i := 9) (N := some 79) (v := ?_) (a' := ?_) #[true, true, true, true, true, true, true, true, true, true, false, false, false, false, false, false, false, false, false, false, false, false, false, false, false, false, false, false, false, false, false, false, false, false, false, false, false, false, false, false] rfl rfl (by kernel_rfl) (fun _ _ _ h => h) (Or.inl ⟨by rfl, ?_⟩) ?_ ?_
             rotate_left
             · intro w'
               go_simp
               with_reducible rfl
             rotate_left
             · simp only [Act.put, lSa, lSz, lSs, i64_w, i32_w]
               rfl
             refine pure_ (i := 10) (N := some 80) (v := ?_) (a' := ?_) #[true, true, true, true, true, true, true, true, true, true, true, false, false, false, false, false, false, false, false, false, false, false, false, false, false, false, false, false, false, false, false, false, false, false, false, false, false, false, false, false] rfl rfl (by kernel_rfl) (fun _ _ _ h => h) (Or.inl ⟨by rfl, ?_⟩) ?_ ?_
             rotate_left
             · intro w'
               go_simp
               with_reducible rfl
             rotate_left
             · simp only [Act.put, lSa, lSz, lSs, i64_w, i32_w]
               rfl
             refine pure_ (i := 11) (N := some 81) (v := ?_) (a' := ?_) #[true, true, true, true, true, true, true, true, true, true, true, true, false, false, false, false, false, false, false, false, false, false, false, false, false, false, false, false, false, false, false, false, false, false, false, false, false, false, false, false] rfl rfl (by kernel_rfl) (fun _ _ _ h => h) (Or.inl ⟨by rfl, ?_⟩) ?_ ?_
             rotate_left
             · intro w'
               go_simp
               with_reducible rfl
             rotate_left
             · simp only [Act.put, lSa, lSz, lSs, i64_w, i32_w]
               rfl
             refine pure_ (i := 12) (N := some 82) (v := ?_) (a' := ?_) #[true, true, true, true, true, true, true, true, true, true, true, true, true, false, false, false, false, false, false, false, false, false, false, false, false, false, false, false, false, false, false, false, false, false, false, false, false, false, false, false] rfl rfl (by kernel_rfl) (fun _ _ _ h => h) (Or.inl ⟨by rfl, ?_⟩) ?_ ?_
             rotate_left
             · intro w'
               go_simp
               with_reducible rfl
             rotate_left
             · simp only [Act.put, lSa, lSz, lSs, i64_w, i32_w]
               rfl
             refine pure_ (i := 14) (N := some 84) (v := ?_) (a' := ?_) #[true, true, true, true, true, true, true, true, true, true, true, true, true, false, true, false, false, false, false, false, false, false, false, false, false, false, false, false, false, false, false, false, false, false, false, false, false, false, false, false] rfl rfl (by kernel_rfl) (fun _ _ _ h => h) (Or.inl ⟨by rfl, ?_⟩) ?_ ?_
             rotate_left
             · intro w'
               go_simp
               with_reducible rfl
             rotate_left
             · simp only [Act.put, lSa, lSz, lSs, i64_w, i32_w]
               rfl
             refine pure_ (i := 15) (N := some 85) (v := ?_) (a' := ?_) #[true, true, true, true, true, true, true, true, true, true, true, true, true, false, true, true, false, false, false, false, false, false, false, false, false, false, false, false, false, false, false, false, false, false, false, false, false, false, false, false] rfl rfl (by kernel_rfl) (fun _ _ _ h => h) (Or.inl ⟨by rfl, ?_⟩) ?_ ?_
             rotate_left
             · intro w'
               go_simp
               with_reducible rfl
             rotate_left
             · simp only [Act.put, lSa, lSz, lSs, i64_w, i32_w]
               rfl
             refine pure_ (i := 16) (N := some 86) (v := ?_) (a' := ?_) #[true, true, true, true, true, true, true, true, true, true, true, true, true, false, true, true, true, false, false, false, false, false, false, false, false, false, false, false, false, false, false, false, false, false, false, false, false, false, false, false] rfl rfl (by kernel_rfl) (fun _ _ _ h => h) (Or.inl ⟨by rfl, ?_⟩) ?_ ?_
             rotate_left
             · intro w'
               go_simp
               with_reducible rfl
             rotate_left
             · simp only [Act.put, lSa, lSz, lSs, i64_w, i32_w]
               rfl
             refine take_ (i := 13) (N := some 83) (v := ?_) (a' := ?_) #[true, true, true, true, true, true, true, true, true, true, true, true, true, true, true, true, true, false, false, false, false, false, false, false, false, false, false, false, false, false, false, false, false, false, false, false, false, false, false, false] rfl rfl (by kernel_rfl) (fun _ _ _ h => h) (Or.inl ⟨by rfl, ?_⟩) hHeld ?_ ?_
             rotate_left
             · rintro w' ⟨s0, s1, s2⟩
               go_simp
               with_reducible rfl
             rotate_left
             · simp only [Act.put, lSa, lSz, lSs, i64_w, i32_w]
               rfl
             refine take_ (i := 17) (N := some 87) (v := ?_) (a' := ?_) #[true, true, true, true, true, true, true, true, true, true, true, true, true, true, true, true, true, true, false, false, false, false, false, false, false, false, false, false, false, false, false, false, false, false, false, false, false, false, false, false] rfl rfl (by kernel_rfl) (fun _ _ _ h => h) (Or.inl ⟨by rfl, ?_⟩) hHeld ?_ ?_
             rotate_left
             · rintro w' ⟨s0, s1, s2⟩
               go_simp
               with_reducible rfl
             rotate_left
             · simp only [Act.put, lSa, lSz, lSs, i64_w, i32_w]
               rfl
             refine pure_ (i := 18) (N := some 88) (v := ?_) (a' := ?_) #[true, true, true, true, true, true, true, true, true, true, true, true, true, true, true, true, true, true, true, false, false, false, false, false, false, false, false, false, false, false, false, false, false, false, false, false, false, false, false, false] rfl rfl (by kernel_rfl) (fun _ _ _ h => h) (Or.inl ⟨by rfl, ?_⟩) ?_ ?_
             rotate_left
             · intro w'
               go_simp
               with_reducible rfl
             rotate_left
             · simp only [Act.put, lSa, lSz, lSs, i64_w, i32_w]
               rfl
             refine pure_ (i := 19) (N := some 89) (v := ?_) (a' := ?_) #[true, true, true, true, true, true, true, true, true, true, true, true, true, true, true, true, true, true, true, true, false, false, false, false, false, false, false, false, false, false, false, false, false, false, false, false, false, false, false, false] rfl rfl (by kernel_rfl) (fun _ _ _ h => h) (Or.inl ⟨by rfl, ?_⟩) ?_ ?_
             rotate_left
             · intro w'
               go_simp
               with_reducible rfl
             rotate_left
             · simp only [Act.put, lSa, lSz, lSs, i64_w, i32_w]
               rfl
             refine pure_ (i := 20) (N := some 90) (v := ?_) (a' := ?_) #[true, true, true, true, true, true, true, true, true, true, true, true, true, true, true, true, true, true, true, true, true, false, false, false, false, false, false, false, false, false, false, false, false, false, false, false, false, false, false, false] rfl rfl (by kernel_rfl) (fun _ _ _ h => h) (Or.inl ⟨by rfl, ?_⟩) ?_ ?_
             rotate_left
             · intro w'
               go_simp
               with_reducible rfl
             rotate_left
             · simp only [Act.put, lSa, lSz, lSs, i64_w, i32_w]
               rfl
             refine pure_ (i := 21) (N := some 91) (v := ?_) (a' := ?_) #[true, true, true, true, true, true, true, true, true, true, true, true, true, true, true, true, true, true, true, true, true, true, false, false, false, false, false, false, false, false, false, false, false, false, false, false, false, false, false, false] rfl rfl (by kernel_rfl) (fun _ _ _ h => h) (Or.inl ⟨by rfl, ?_⟩) ?_ ?_
             rotate_left
             · intro w'
               go_simp
               with_reducible rfl
             rotate_left
             · simp only [Act.put, lSa, lSz, lSs, i64_w, i32_w]
               rfl
             refine pure_ (i := 22) (N := some 92) (v := ?_) (a' := ?_) #[true, true, true, true, true, true, true, true, true, true, true, true, true, true, true, true, true, true, true, true, true, true, true, false, false, false, false, false, false, false, false, false, false, false, false, false, false, false, false, false] rfl rfl (by kernel_rfl) (fun _ _ _ h => h) (Or.inl ⟨by rfl, ?_⟩) ?_ ?_
             rotate_left
             · intro w'
               go_simp
               with_reducible rfl
             rotate_left
             · simp only [Act.put, lSa, lSz, lSs, i64_w, i32_w]
               rfl
             refine pure_ (i := 23) (N := some 93) (v := ?_) (a' := ?_) #[true, true, true, true, true, true, true, true, true, true, true, true, true, true, true, true, true, true, true, true, true, true, true, true, false, false, false, false, false, false, false, false, false, false, false, false, false, false, false, false] rfl rfl (by kernel_rfl) (fun _ _ _ h => h) (Or.inl ⟨by rfl, ?_⟩) ?_ ?_
             rotate_left
             · intro w'
               go_simp
               with_reducible rfl
             rotate_left
             · simp only [Act.put, lSa, lSz, lSs, i64_w, i32_w]
               rfl
             refine pure_ (i := 24) (N := some 94) (v := ?_) (a' := ?_) #[true, true, true, true, true, true, true, true, true, true, true, true, true, true, true, true, true, true, true, true, true, true, true, true, true, false, false, false, false, false, false, false, false, false, false, false, false, false, false, false] rfl rfl (by kernel_rfl) (fun _ _ _ h => h) (Or.inl ⟨by rfl, ?_⟩) ?_ ?_
             rotate_left
             · intro w'
               go_simp
               with_reducible rfl
             rotate_left
             · simp only [Act.put, lSa, lSz, lSs, i64_w, i32_w]
               rfl
             refine pure_ (i := 25) (N := some 95) (v := undef) (a' := ?_) #[true, true, true, true, true, true, true, true, true, true, true, true, true, true, true, true, true, true, true, true, true, true, true, true, true, true, false, false, false, false, false, false, false, false, false, false, false, false, false, false] rfl rfl (by kernel_rfl) (fun _ _ _ h => h) (Or.inr ⟨by rfl, rfl⟩) ?_ ?_
             rotate_left
             · simp only [Act.put, lSa, lSz, lSs, i64_w, i32_w]
               rfl
             refine pure_ (i := 26) (N := some 96) (v := undef) (a' := ?_) #[true, true, true, true, true, true, true, true, true, true, true, true, true, true, true, true, true, true, true, true, true, true, true, true, true, true, true, false, false, false, false, false, false, false, false, false, false, false, false, false] rfl rfl (by kernel_rfl) (fun _ _ _ h => h) (Or.inr ⟨by rfl, rfl⟩) ?_ ?_
             rotate_left
             · simp only [Act.put, lSa, lSz, lSs, i64_w, i32_w]
               rfl
             refine pure_ (i := 27) (N := some 97) (v := undef) (a' := ?_) #[true, true, true, true, true, true, true, true, true, true, true, true, true, true, true, true, true, true, true, true, true, true, true, true, true, true, true, true, false, false, false, false, false, false, false, false, false, false, false, false] rfl rfl (by kernel_rfl) (fun _ _ _ h => h) (Or.inr ⟨by rfl, rfl⟩) ?_ ?_
             rotate_left
             · simp only [Act.put, lSa, lSz, lSs, i64_w, i32_w]
               rfl
             refine pure_ (i := 28) (N := some 98) (v := undef) (a' := ?_) #[true, true, true, true, true, true, true, true, true, true, true, true, true, true, true, true, true, true, true, true, true, true, true, true, true, true, true, true, true, false, false, false, false, false, false, false, false, false, false, false] rfl rfl (by kernel_rfl) (fun _ _ _ h => h) (Or.inr ⟨by rfl, rfl⟩) ?_ ?_
             rotate_left
             · simp only [Act.put, lSa, lSz, lSs, i64_w, i32_w]
               rfl
             refine pure_ (i := 29) (N := some 99) (v := undef) (a' := ?_) #[true, true, true, true, true, true, true, true, true, true, true, true, true, true, true, true, true, true, true, true, true, true, true, true, true, true, true, true, true, true, false, false, false, false, false, false, false, false, false, false] rfl rfl (by kernel_rfl) (fun _ _ _ h => h) (Or.inr ⟨by rfl, rfl⟩) ?_ ?_
             rotate_left
             · simp only [Act.put, lSa, lSz, lSs, i64_w, i32_w]
               rfl
             refine pure_ (i := 30) (N := some 100) (v := undef) (a' := ?_) #[true, true, true, true, true, true, true, true, true, true, true, true, true, true, true, true, true, true, true, true, true, true, true, true, true, true, true, true, true, true, true, false, false, false, false, false, false, false, false, false] rfl rfl (by kernel_rfl) (fun _ _ _ h => h) (Or.inr ⟨by rfl, rfl⟩) ?_ ?_
             rotate_left
             · simp only [Act.put, lSa, lSz, lSs, i64_w, i32_w]
               rfl
             refine pure_ (i := 31) (N := some 101) (v := undef) (a' := ?_) #[true, true, true, true, true, true, true, true, true, true, true, true, true, true, true, true, true, true, true, true, true, true, true, true, true, true, true, true, true, true, true, true, false, false, false, false, false, false, false, false] rfl rfl (by kernel_rfl) (fun _ _ _ h => h) (Or.inr ⟨by rfl, rfl⟩) ?_ ?_
             rotate_left
             · simp only [Act.put, lSa, lSz, lSs, i64_w, i32_w]
               rfl
             refine pure_ (i := 32) (N := some 102) (v := undef) (a' := ?_) #[true, true, true, true, true, true, true, true, true, true, true, true, true, true, true, true, true, true, true, true, true, true, true, true, true, true, true, true, true, true, true, true, true, false, false, false, false, false, false, false] rfl rfl (by kernel_rfl) (fun _ _ _ h => h) (Or.inr ⟨by rfl, rfl⟩) ?_ ?_
             rotate_left
             · simp only [Act.put, lSa, lSz, lSs, i64_w, i32_w]
               rfl
             refine pure_ (i := 33) (N := some 103) (v := undef) (a' := ?_) #[true, true, true, true, true, true, true, true, true, true, true, true, true, true, true, true, true, true, true, true, true, true, true, true, true, true, true, true, true, true, true, true, true, true, false, false, false, false, false, false] rfl rfl (by kernel_rfl) (fun _ _ _ h => h) (Or.inr ⟨by rfl, rfl⟩) ?_ ?_
             rotate_left
             · simp only [Act.put, lSa, lSz, lSs, i64_w, i32_w]
               rfl
             refine pure_ (i := 34) (N := some 104) (v := undef) (a' := ?_) #[true, true, true, true, true, true, true, true, true, true, true, true, true, true, true, true, true, true, true, true, true, true, true, true, true, true, true, true, true, true, true, true, true, true, true, false, false, false, false, false] rfl rfl (by kernel_rfl) (fun _ _ _ h => h) (Or.inr ⟨by rfl, rfl⟩) ?_ ?_
             rotate_left
             · simp only [Act.put, lSa, lSz, lSs, i64_w, i32_w]
               rfl
             refine pure_ (i := 35) (N := some 105) (v := ?_) (a' := ?_) #[true, true, true, true, true, true, true, true, true, true, true, true, true, true, true, true, true, true, true, true, true, true, true, true, true, true, true, true, true, true, true, true, true, true, true, true, false, false, false, false] rfl rfl (by kernel_rfl) (fun _ _ _ h => h) (Or.inl ⟨by rfl, ?_⟩) ?_ ?_
             rotate_left
             · intro w'
               go_simp
               with_reducible rfl
             rotate_left
             · simp only [Act.put, lSa, lSz, lSs, i64_w, i32_w]
               rfl
             refine pure_ (i := 36) (N := some 106) (v := ?_) (a' := ?_) #[true, true, true, true, true, true, true, true, true, true, true, true, true, true, true, true, true, true, true, true, true, true, true, true, true, true, true, true, true, true, true, true, true, true, true, true, true, false, false, false] rfl rfl (by kernel_rfl) (fun _ _ _ h => h) (Or.inl ⟨by rfl, ?_⟩) ?_ ?_
             rotate_left
             · intro w'
               go_simp
               with_reducible rfl
             rotate_left
             · simp only [Act.put, lSa, lSz, lSs, i64_w, i32_w]
               rfl
             refine pure_ (i := 37) (N := some 107) (v := ?_) (a' := ?_) #[true, true, true, true, true, true, true, true, true, true, true, true, true, true, true, true, true, true, true, true, true, true, true, true, true, true, true, true, true, true, true, true, true, true, true, true, true, true, false, false] rfl rfl (by kernel_rfl) (fun _ _ _ h => h) (Or.inl ⟨by rfl, ?_⟩) ?_ ?_
             rotate_left
             · intro w'
               go_simp
               with_reducible rfl
             rotate_left
             · simp only [Act.put, lSa, lSz, lSs, i64_w, i32_w]
               rfl
             refine pure_ (i := 38) (N := some 108) (v := ?_) (a' := ?_) #[true, true, true, true, true, true, true, true, true, true, true, true, true, true, true, true, true, true, true, true, true, true, true, true, true, true, true, true, true, true, true, true, true, true, true, true, true, true, true, false] rfl rfl (by kernel_rfl) (fun _ _ _ h => h) (Or.inl ⟨by rfl, ?_⟩) ?_ ?_
             rotate_left
             · intro w'
               go_simp
               with_reducible rfl
             rotate_left
             · simp only [Act.put, lSa, lSz, lSs, i64_w, i32_w]
               rfl
             refine last_ (i := 39) (N := none) #[true, true, true, true, true, true, true, true, true, true, true, true, true, true, true, true, true, true, true, true, true, true, true, true, true, true, true, true, true, true, true, true, true, true, true, true, true, true, true, true] rfl rfl (by kernel_rfl) (by decide) (fun K hK => ?_)
             have hsc := (bCe HTW.out.blk 7 : wq.cell? ⟨g, 7, none⟩ = some (.bool x.fx))
             have hsf := (bFr HTW.out.blk 7 : wq.frozen? ⟨g, 7, none⟩ = false)
             refine skip_ (w1 := ?_) (by rfl) rfl ?_ ?_
             rotate_left
             · go_simp
               rfl
             refine hK.out _ _ ?_
             clear hK K
             refine done_ (by kernel_rfl) ?_
             go_wp2
             go_roundg k1
             case measure => omega
             case rel =>
              have ht := (HTW.out.below (below_drew (Below.refl _ _))).set 7 (.bool false) ⟨x.i, x.t, c1', false, x.s⟩ rfl HGG.out
              refine ⟨m + 1, by first | rw [hw] | rfl | go_num, ⟨by have := HN.out; omega⟩, ⟨ht.row HBK.out HO.out (by decide)⟩, ⟨?_⟩, ⟨ht.b⟩⟩
              have hfl := ht.list HF.out m (by assumption) HGE.out.symm
              rw [show (⟨x.i, x.t, c1', false, x.s⟩ : Fx) = beg2 true x by unfold beg2; rw [if_pos rfl, ← HC1.out, decide_eq_false E0.out, decide_eq_false (show ¬ x.i.f0 > x.t by have := E1.out; omega)]; rfl, HST.out] at hfl
              exact hfl
     · have d3 : decide ((m : Int) < (gs.length : Int)) = false := decide_eq_false (by omega)
       have d4 : decide (m < gs.length) = false := decide_eq_false c1
       have HFE := aMk HF.out
       go_wp2
       go_ret2
       refine ⟨_, gs, by rw [← HGR.out]; rfl, HO.out, ?_, HB.out⟩
       have hfe := HFE.out
       rw [mapS_end _ _ _ (by rw [List.length_map]; have := HNN.out; omega)] at hfe
       unfold begL
       rw [← HGR.out]
       exact hfe
def opZ (gs : List Nat) (xs : List Fx) : List (Nat × Fx) := (gs.zip xs).filter (fun p => !p.2.fx)
def opN (gs : List Nat) (xs : List Fx) (n : Nat) : List (Nat × Fx) := ((gs.zip xs).take n).filter (fun p => !p.2.fx)
theorem opN_zero (gs : List Nat) (xs : List Fx) : opN gs xs 0 = [] := by simp [opN]
theorem zip_at (gs : List Nat) (xs : List Fx) (hl : gs.length = xs.length) (n : Nat) (h : n < gs.length) : (gs.zip xs).take (n + 1) = (gs.zip xs).take n ++ [(gs[n], xs.getD n zFx)] := by
 rw [List.take_succ_eq_append_getElem (by rw [List.length_zip, ← hl]; omega), List.getElem_zip, List.getD_eq_getElem?_getD, List.getElem?_eq_getElem (by omega)]
 rfl
theorem opN_fix (gs : List Nat) (xs : List Fx) (hl : gs.length = xs.length) (n : Nat) (h : n < gs.length) (hf : (xs.getD n zFx).fx = true) : opN gs xs (n + 1) = opN gs xs n := by
 unfold opN
 rw [zip_at gs xs hl n h, List.filter_append, List.filter_cons_of_neg (by rw [hf]; decide), List.filter_nil, List.append_nil]
theorem opN_open (gs : List Nat) (xs : List Fx) (hl : gs.length = xs.length) (n : Nat) (h : n < gs.length) (hf : (xs.getD n zFx).fx = false) : opN gs xs (n + 1) = opN gs xs n ++ [(gs[n], xs.getD n zFx)] := by
 unfold opN
 rw [zip_at gs xs hl n h, List.filter_append, List.filter_cons_of_pos (by rw [hf]; rfl), List.filter_nil]
theorem opN_end (gs : List Nat) (xs : List Fx) (hl : gs.length = xs.length) (n : Nat) (h : gs.length ≤ n) : opN gs xs n = opZ gs xs := by
 unfold opN opZ
 rw [List.take_of_length_le (by rw [List.length_zip]; omega)]
theorem opN_len (gs : List Nat) (xs : List Fx) (n : Nat) : (opN gs xs n).length ≤ n := by
 unfold opN
 exact Nat.le_trans (List.length_filter_le _ _) (by rw [List.length_take]; omega)
def mW (k : Nat) (gr : Bool) (x : Fx) : Int := if gr = true then x.f else (impl_MulDiv.f k x.i.f0 x.f 1000).getD 0
def mOk (k : Nat) (gr : Bool) (xs : List Fx) : Prop := gr = false → ∀ x ∈ xs, (impl_MulDiv.f k x.i.f0 x.f 1000).isSome = true
theorem FL.sub {W : World} {base : Nat} {gs : List Nat} {xs : List Fx} (h : FL W base gs xs) : FL W base ((opZ gs xs).map (·.1)) ((opZ gs xs).map (·.2)) := by
 have hz : (gs.zip xs).map (·.1) = gs := List.map_fst_zip (by rw [h.len]; exact Nat.le_refl _)
 have hs : List.Sublist ((opZ gs xs).map (·.1)) gs := by
  have := (List.filter_sublist (p := fun p : Nat × Fx => !p.2.fx) (l := gs.zip xs)).map (·.1)
  rwa [hz] at this
 refine ⟨by rw [List.length_map, List.length_map], hs.nodup h.nd, fun g hg => h.ge g (hs.subset hg), fun i hi => ?_⟩
 rw [List.length_map] at hi
 have hm : (opZ gs xs)[i] ∈ gs.zip xs := (List.mem_filter.1 (List.getElem_mem hi)).1
 obtain ⟨j, hj, e⟩ := List.mem_iff_getElem.1 hm
 rw [List.length_zip] at hj
 rw [List.getElem_zip] at e
 have hb := h.get j (by omega)
 rw [List.getElem_map, List.getD_eq_getElem?_getD, List.getElem?_map, List.getElem?_eq_getElem hi, ← e]
 rw [List.getD_eq_getElem?_getD, List.getElem?_eq_getElem (by omega)] at hb
 exact hb
def mergeF : List Fx → List Fx → List Fx
 | [], _ => []
 | x :: r, n => if x.fx = true then x :: mergeF r n else match n with
  | [] => x :: mergeF r []
  | y :: m => y :: mergeF r m
theorem opZ_cons (g : Nat) (gs : List Nat) (x : Fx) (xs : List Fx) : opZ (g :: gs) (x :: xs) = if x.fx = true then opZ gs xs else (g, x) :: opZ gs xs := by
 unfold opZ
 rw [List.zip_cons_cons]
 cases h : x.fx
 · rw [List.filter_cons_of_pos (by rw [h]; rfl), if_neg (by decide)]
 · rw [List.filter_cons_of_neg (by rw [h]; decide), if_pos rfl]
def AllP (W : World) : List Nat → List Fx → Prop
 | [], [] => True
 | g :: gs, x :: xs => W.heap[g]? = some (.cells (fcells x) 145 (0, 0)) ∧ AllP W gs xs
 | _, _ => False
theorem AllP.len {W : World} : ∀ {gs : List Nat} {xs : List Fx}, AllP W gs xs → gs.length = xs.length
 | [], [], _ => rfl
 | _ :: _, _ :: _, h => congrArg (· + 1) (AllP.len h.2)
 | [], _ :: _, h => h.elim
 | _ :: _, [], h => h.elim
theorem AllP.get {W : World} : ∀ {gs : List Nat} {xs : List Fx}, AllP W gs xs → ∀ i (h : i < gs.length), W.heap[gs[i]]? = some (.cells (fcells (xs.getD i zFx)) 145 (0, 0))
 | [], [], _, _, h => absurd h (Nat.not_lt_zero _)
 | _ :: _, _ :: _, h, 0, _ => h.1
 | _ :: gs, _ :: xs, h, i + 1, hi => AllP.get h.2 i (Nat.lt_of_succ_lt_succ hi)
 | [], _ :: _, h, _, _ => h.elim
 | _ :: _, [], h, _, _ => h.elim
theorem AllP.of {W : World} : ∀ {gs : List Nat} {xs : List Fx}, gs.length = xs.length → (∀ i (h : i < gs.length), W.heap[gs[i]]? = some (.cells (fcells (xs.getD i zFx)) 145 (0, 0))) → AllP W gs xs
 | [], [], _, _ => trivial
 | _ :: _, _ :: _, h, f => ⟨f 0 (Nat.succ_pos _), AllP.of (Nat.succ.inj h) (fun i hi => f (i + 1) (Nat.succ_lt_succ hi))⟩
 | [], _ :: _, h, _ => absurd h (by simp)
 | _ :: _, [], h, _ => absurd h (by simp)
theorem merge_all {w W : World} : ∀ (gs : List Nat) (xs zs : List Fx), gs.Nodup → AllP w gs xs → AllP W ((opZ gs xs).map (·.1)) zs → (∀ g ∈ gs, g ∉ (opZ gs xs).map (·.1) → W.heap[g]? = w.heap[g]?) → AllP W gs (mergeF xs zs)
 | [], [], _, _, _, _, _ => trivial
 | [], _ :: _, _, _, h, _, _ => h.elim
 | _ :: _, [], _, _, h, _, _ => h.elim
 | g :: gs, x :: xs, zs, hn, h, hz, hk => by
  have hn2 := List.nodup_cons.1 hn
  have hsub : ∀ a, a ∈ (opZ gs xs).map (·.1) → a ∈ gs := by
   intro a ha
   obtain ⟨p, hp, rfl⟩ := List.mem_map.1 ha
   exact (List.of_mem_zip (List.mem_filter.1 hp).1).1
  rw [opZ_cons] at hz hk
  unfold mergeF
  cases hx : x.fx
  · rw [hx, if_neg (by decide)] at hz hk
    rw [if_neg (by decide)]
    cases zs with
    | nil => exact hz.elim
    | cons z zs =>
     refine ⟨hz.1, merge_all gs xs zs hn2.2 h.2 hz.2 fun a ha hna => hk a (List.mem_cons_of_mem _ ha) fun hm => ?_⟩
     rw [List.map_cons] at hm
     rcases List.mem_cons.1 hm with e | e
     · exact hn2.1 (by rw [show g = a from e.symm]; exact ha)
     · exact hna e
  · rw [hx, if_pos rfl] at hz hk
    rw [if_pos rfl]
    refine ⟨?_, merge_all gs xs zs hn2.2 h.2 hz fun a ha hna => hk a (List.mem_cons_of_mem _ ha) hna⟩
    rw [hk g List.mem_cons_self (fun hm => hn2.1 (hsub g hm))]
    exact h.1
theorem merge_FL {w W : World} {base : Nat} {gs og : List Nat} {xs zs : List Fx} {os : List (Nat × Fx)} (hF : FL w base gs xs) (hos : os = opZ gs xs) (hog : og = os.map (·.1)) (hZ : FL W base og zs) (hk : ∀ k, k < w.heap.size → k ∉ og → W.heap[k]? = w.heap[k]?) : FL W base gs (mergeF xs zs) := by
 subst hos hog
 have h := merge_all gs xs zs hF.nd (AllP.of hF.len hF.at_) (AllP.of hZ.len hZ.at_) (fun g hg hn => hk g (hF.lt g hg) hn)
 exact ⟨h.len, hF.nd, hF.ge, h.get⟩
theorem merge_none (gs : List Nat) : ∀ (xs zs : List Fx), gs.length = xs.length → opZ gs xs = [] → mergeF xs zs = xs := by
 induction gs with
 | nil => intro xs zs hl _; cases xs with
  | nil => rfl
  | cons _ _ => exact absurd hl (by simp)
 | cons g gs ih => intro xs zs hl ho; cases xs with
  | nil => exact absurd hl (by simp)
  | cons x xs =>
   rw [opZ_cons] at ho
   cases hx : x.fx
   · rw [hx, if_neg (by decide)] at ho; exact absurd ho (by simp)
   · rw [hx, if_pos rfl] at ho
     unfold mergeF
     rw [hx, if_pos rfl, ih xs zs (Nat.succ.inj hl) ho]
def absI (v : Int) : Int := if v < 0 then wrap64 (-v) else v
theorem abs_calls (v : Int) (W : World) : Calls Try.prog 149 #[.int .i64 v] W fun e w' => e = .returned (.int .i64 (absI v)) ∧ Drawn0 W w' := impl_absolute.calls v _ W (by unfold impl_absolute.f absI; split <;> rfl)
def partF (first fc : Int) : Int := wrap64 (Int.tdiv (wrap64 (first * fc)) 1000)
def restF (first fc rest : Int) : Int := if (decide (fc < 1000) && decide (absI (partF first fc) < absI rest)) = true then partF first fc else rest
def goF (gr : Bool) (rest : Int) : Bool := if gr = true then decide (rest > 0) else decide (rest < 0)
def facF (ps : List (Nat × Fx)) : Int := ps.foldl (fun r p => wrap64 (r + p.2.f)) 0
theorem facF_snoc (ps : List (Nat × Fx)) (p : Nat × Fx) : facF (ps ++ [p]) = wrap64 (facF ps + p.2.f) := by unfold facF; rw [List.foldl_append]; rfl
def s2 (gr : Bool) (x : Fx) (sh : Int) : Fx := ⟨x.i, x.t, x.f, x.fx, if gr = true then wrap64 (x.i.f0 + sh) else mx 0 (wrap64 (x.i.f0 - sh))⟩
def ysF (gr : Bool) (os : List (Nat × Fx)) (shs : List Int) : List Fx := (os.zip shs).map (fun p => s2 gr p.1.2 p.2)
def totF (ys : List Fx) : Int := ys.foldl (fun r x => wrap64 (r + wrap64 (fitI x.i x.s - x.s))) 0
theorem totF_snoc (ys : List Fx) (x : Fx) : totF (ys ++ [x]) = wrap64 (totF ys + wrap64 (fitI x.i x.s - x.s)) := by unfold totF; rw [List.foldl_append]; rfl
def hitF (tot : Int) (x : Fx) : Bool := (decide (tot = 0) || (decide (tot > 0) && decide (fitI x.i x.s > x.s))) || (decide (tot < 0) && decide (fitI x.i x.s < x.s))
def s3 (tot : Int) (x : Fx) : Fx := if hitF tot x = true then ⟨x.i, fitI x.i x.s, x.f, true, x.s⟩ else x
def mixS {α : Type} (ys l : List α) (n : Nat) : List α := ys.take n ++ l.drop n
theorem mixS_zero {α : Type} (ys l : List α) : mixS ys l 0 = l := by simp [mixS]
theorem mixS_end {α : Type} (ys l : List α) (n : Nat) (h : ys.length = l.length) (hn : l.length ≤ n) : mixS ys l n = ys := by
 unfold mixS
 rw [List.drop_of_length_le hn, List.take_of_length_le (by omega), List.append_nil]
theorem mixS_get {α : Type} (ys l : List α) (n : Nat) (hl : ys.length = l.length) (h : n < l.length) (d : α) : (mixS ys l n).getD n d = l.getD n d := by
 unfold mixS
 rw [List.getD_eq_getElem?_getD, List.getElem?_append_right (by rw [List.length_take]; omega), List.length_take, List.getElem?_drop, show n + (n - min n ys.length) = n by omega, List.getD_eq_getElem?_getD]
theorem mixS_set {α : Type} (ys l : List α) (n : Nat) (hl : ys.length = l.length) (h : n < l.length) (d : α) : (mixS ys l n).set n (ys.getD n d) = mixS ys l (n + 1) := by
 unfold mixS
 rw [List.set_append_right _ _ (by rw [List.length_take]; omega), List.length_take, show n - min n ys.length = 0 by omega, List.drop_eq_getElem_cons h, lSz, List.take_succ_eq_append_getElem (by omega), List.append_assoc, List.getD_eq_getElem?_getD, List.getElem?_eq_getElem (by omega)]
 rfl
theorem take_snoc {α : Type} (l : List α) (n : Nat) (h : n < l.length) (d : α) : l.take (n + 1) = l.take n ++ [l.getD n d] := by
 rw [List.take_succ_eq_append_getElem h, List.getD_eq_getElem?_getD, List.getElem?_eq_getElem h]
 rfl
def roundL (k : Nat) (gr : Bool) (first room : Int) (gs : List Nat) (xs : List Fx) (shs : List Int) : List Fx :=
 mergeF xs ((ysF gr (opZ gs xs) shs).map (s3 (totF (ysF gr (opZ gs xs) shs))))
def wsF (k : Nat) (gr : Bool) (gs : List Nat) (xs : List Fx) : List Int := (opZ gs xs).map (fun p => mW k gr p.2)
def rest2 (first room : Int) (gs : List Nat) (xs : List Fx) : Int := restF first (facF (opZ gs xs)) (leftF xs room)
def shOk (k : Nat) (gr : Bool) (first room : Int) (gs : List Nat) (xs : List Fx) (shs : List Int) : Prop := if goF gr (rest2 first room gs xs) = true then impl_spread.f k (absI (rest2 first room gs xs)) (wsF k gr gs xs) = some shs else shs = List.replicate (opZ gs xs).length 0
set_option maxHeartbeats 8000000 in
set_option maxRecDepth 100000 in
theorem round1 (k : Nat) (A : Option Addr) (c : Nat) (gs : List Nat) (xs : List Fx) (room first : Int) (gr : Bool) (w0 w : World) (hB : Below w0.heap.size w0 w) (hF : FL w w0.heap.size gs xs) (hO : Kd.R kPtr 143 w w0.heap.size (fun _ => True) (.slice A gs.length c) gs) (hl : gs.length ≤ 1000000) (hm : mOk k gr xs) (shs : List Int) (hsl : shs.length = (opZ gs xs).length) (hsh : shOk k gr first room gs xs shs) :
 Calls Try.prog 123 #[.slice A gs.length c, .int .i64 room, .bool gr, .int .i64 first] w fun e w' => e = .returned (.bool (decide ((opZ gs xs).length = 0))) ∧ FL w' w0.heap.size gs (roundL k gr first room gs xs shs) ∧ Kd.R kPtr 143 w' w0.heap.size (fun _ => True) (.slice A gs.length c) gs ∧ Below w0.heap.size w0 w' := by
 have hu66 := Try.underlying66
 have hu145 := Try.underlying145
 have HF := aMk hF
 have HO := aMk hO
 have HB0 := aMk hB
 have HL := aMk hl
 have HM := aMk hm
 have HSL := aMk hsl
 have HSH := aMk hsh
 have HR := aMk (Kd.R_reads' hO).2.2
 have HB := aMk (Below.refl w.heap.size w)
 clear hB hF hO hl hm hsl hsh
 go_enter Try.func123, Try.ntmps123
 go_wp2_with (first | ((with_reducible refine gate_dst (N := 24) rfl ?_); refine Kd.R_lit kPtr _ 143 ?hg (N := 24) ?hd (xs := ([] : List Nat)) (inner := []) (ok := fun _ => True) (okp := fun _ => True) ?hr ?hp (fun _ hk => hk) trivial (Below.refl _ _) (Nat.le_refl _) (by simp) ?_; (case hd => rfl); (case hg => rfl); (case hr => first | (go_simp; done) | (go_simp; rfl)); (case hp => exact (Reps.none _ _)); intro v3 w3 ho hb hg_ hnew_; have HOP := aMk ho; have HB3 := aMk hb; clear hg_ hnew_ hb ho HB) | ((with_reducible refine gate_dst (N := 25) rfl ?_); refine Kd.R_lit (Kd.int .i64) _ 3 ?hg (N := 25) ?hd (xs := ([] : List Int)) (inner := []) (ok := fun _ => True) (okp := fun _ => True) ?hr ?hp (fun _ hk => hk) trivial (Below.refl _ _) (Nat.le_refl _) (by simp) ?_; (case hd => rfl); (case hg => rfl); (case hr => first | (go_simp; done) | (go_simp; rfl)); (case hp => exact (Reps.none _ _)); intro v4 w4 ho hb hg_ hnew_; have HOW := aMk (Kd.R_lower ho HB3.out.size); have HB4 := aMk (below_step HB3.out hb); have HOP4 := aMk (Kd.R_below HOP.out hb); clear hg_ hnew_ hb ho HB3 HOP))
 go_loopg [9, 10, 11, 13, 28] gs.length (fun kq v9 v10 v11 v13 v28 w' => ∃ n : Nat, v28 = .int .i64 (n : Int) ∧ v11 = .int .i64 (facF (opN gs xs n)) ∧ Aside0 (n + kq = gs.length) ∧ Aside0 (Kd.R kPtr 143 w' w.heap.size (fun _ => True) v9 ((opN gs xs n).map (·.1))) ∧ Aside0 (Kd.R (Kd.int .i64) 3 w' w.heap.size (fun _ => True) v10 ((opN gs xs n).map (fun p => mW k gr p.2))) ∧ Aside0 (Below w.heap.size w w'))
 case atStart => exact ⟨0, rfl, by rw [opN_zero]; rfl, ⟨by simp⟩, ⟨by rw [opN_zero]; exact HOP4.out⟩, ⟨by rw [opN_zero]; exact HOW.out⟩, HB4⟩
 case round =>
  clear HOP4 HOW HB4
  obtain ⟨n, rfl, rfl, HN, HOP, HOW, HB⟩ := hrel
  by_cases c1 : n < gs.length
  · have hk : gk ≠ 0 := by have := HN.out; omega
    obtain ⟨k1, rfl⟩ := Nat.exists_eq_succ_of_ne_zero hk
    clear hk
    have d1 : decide ((n : Int) < (gs.length : Int)) = true := decide_eq_true (by omega)
    have d2 : decide (n < gs.length) = true := decide_eq_true c1
    obtain ⟨ad, eA, hcell⟩ := ptr_at (Kd.C_below HR.out HB.out) n c1
    have hb := (HF.out.below HB.out).get n c1
    have hfixed := opN_fix gs xs HF.out.len n c1
    have hopen := opN_open gs xs HF.out.len n c1
    have hxm : xs.getD n zFx ∈ xs := by have := HF.out.len; rw [List.getD_eq_getElem?_getD, List.getElem?_eq_getElem (by omega)]; exact List.getElem_mem _
    have HOL := aMk (opN_len gs xs n)
    obtain ⟨x, hx⟩ : ∃ x, x = xs.getD n zFx := ⟨_, rfl⟩
    rw [← hx] at hb hfixed hopen hxm
    have HMX : Aside0 (gr = false → (impl_MulDiv.f k x.i.f0 x.f 1000).isSome = true) := ⟨fun h => HM.out h x hxm⟩
    obtain ⟨g, hg⟩ : ∃ g, g = gs[n] := ⟨_, rfl⟩
    rw [← hg] at hb hcell hopen
    obtain ⟨ps, hps⟩ : ∃ ps, ps = opN gs xs n := ⟨_, rfl⟩
    rw [← hps] at HOP HOW HOL hfixed hopen ⊢
    obtain ⟨fc, hfc⟩ : ∃ fc, fc = facF ps := ⟨_, rfl⟩
    have HBK := aMk hb
    have q7 : wr.cell? ⟨g, 7, none⟩ = some (.bool x.fx) := bCe hb 7
    have q6 : wr.cell? ⟨g, 6, none⟩ = some (.int .i64 x.f) := bCe hb 6
    have p0 : 0 ≤ (n : Int) := by omega
    have p1 : (n : Int) < (gs.length : Int) := by omega
    have hw : wrap64 ((n : Int) + 1) = ((n + 1 : Nat) : Int) := by have := HL.out; unfold wrap64; omega
    rw [← hfc]
    have HFC := aMk hfc
    have HWL : Aside0 ((ps.map (fun p => mW k gr p.2)).length ≤ n) := ⟨by rw [List.length_map]; exact HOL.out⟩
    have HPL : Aside0 ((ps.map (·.1)).length ≤ n) := ⟨by rw [List.length_map]; exact HOL.out⟩
    clear hx hg hb hxm hps hfc
    cases eA
    cases hfx : x.fx
    · have HOPN := aMk (hopen hfx)
      rw [hfx] at q7
      clear hfixed hopen hfx
      cases gr
      · as_aux_lemma =>
        obtain ⟨mv, hmv⟩ := Option.isSome_iff_exists.1 (HMX.out rfl)
        have HMV := aMk hmv
        clear hmv
        go_upto_region 12 with (((with_reducible refine gate_builtin (b := .append) (xs := #[.tmp 36, .tmp 38]) rfl ?_); at_builtin; refine Kd.R_append kPtr (w0 := w) w.heap.size rfl (.tmp 36) (.tmp 38) 138 143 (.pointer none) 8 rfl Try.underlying138 infoFP rfl (by decide) (by omega) _ (ps.map (·.1)) g [.pointer (some ⟨g, 0, none⟩)] (fun _ => True) (fun _ => False) rfl ?q1 rfl (fun _ hk => hk.elim) (fun _ _ => trivial) ?q2 ?q3 ?q4 ?hl ?_; (case q1 => first | (go_simp; done) | (go_simp; rfl)); (case q2 => exact HOP.out); (case q3 => exact HB.out); (case q4 => have h1 := HB.out.size; omega); (case hl => have h1 := HPL.out; have h2 := HL.out; omega); intro v5 w5 ho5 hb5 hg5 _; have HOP5 := aMk ho5; have HB5 := aMk hb5; have HOW5 := aMk (Kd.R_over' HOW.out (Kd.R_typed HOP.out) (by decide) hg5); have hx5 := blk_grown HBK.out hg5 (Kd.R_ne HOP.out HBK.out (by decide)); have HX5 := aMk hx5; have t6 : w5.cell? ⟨g, 6, none⟩ = some (.int .i64 x.f) := bCe hx5 6; have t0 : w5.cell? ⟨g, 0, none⟩ = some (.int .i64 x.i.f0) := bCe hx5 0; clear hx5 ho5 hb5 hg5))
        refine start_ (n := 14) (S := fun w' => w'.cell? ⟨g, 0, none⟩ = some (.int .i64 x.i.f0) ∧ w'.cell? ⟨g, 6, none⟩ = some (.int .i64 x.f)) (ds := []) #[false, false, false, false, false, false, false, false, false, false, false, false, false, false] (by kernel_rfl) rfl rfl ⟨(bCe HX5.out 0).trans rfl, (bCe HX5.out 6).trans rfl⟩ (fun hHeld => ?_)
        refine pure_ (i := 0) (N := some 54) (v := ?_) (a' := ?_) #[true, false, false, false, false, false, false, false, false, false, false, false, false, false] rfl rfl (by kernel_rfl) (fun _ _ _ h => h) (Or.inl ⟨by rfl, ?_⟩) ?_ ?_
        rotate_left
        · intro w'
          go_simp
          with_reducible rfl
        rotate_left
        · simp only [Act.put, lSa, lSz, lSs, i64_w, i32_w]
          rfl
        refine pure_ (i := 1) (N := some 55) (v := ?_) (a' := ?_) #[true, true, false, false, false, false, false, false, false, false, false, false, false, false] rfl rfl (by kernel_rfl) (fun _ _ _ h => h) (Or.inl ⟨by rfl, ?_⟩) ?_ ?_
        rotate_left
        · intro w'
          go_simp
          with_reducible rfl
        rotate_left
        · simp only [Act.put, lSa, lSz, lSs, i64_w, i32_w]
          rfl
        refine pure_ (i := 2) (N := some 56) (v := ?_) (a' := ?_) #[true, true, true, false, false, false, false, false, false, false, false, false, false, false] rfl rfl (by kernel_rfl) (fun _ _ _ h => h) (Or.inl ⟨by rfl, ?_⟩) ?_ ?_
        rotate_left
        · intro w'
          go_simp
          with_reducible rfl
        rotate_left
        · simp only [Act.put, lSa, lSz, lSs, i64_w, i32_w]
          rfl
        refine pure_ (i := 3) (N := some 57) (v := ?_) (a' := ?_) #[true, true, true, true, false, false, false, false, false, false, false, false, false, false] rfl rfl (by kernel_rfl) (fun _ _ _ h => h) (Or.inl ⟨by rfl, ?_⟩) ?_ ?_
        rotate_left
        · intro w'
          go_simp
          with_reducible rfl
        rotate_left
        · simp only [Act.put, lSa, lSz, lSs, i64_w, i32_w]
          rfl
        refine pure_ (i := 4) (N := some 58) (v := ?_) (a' := ?_) #[true, true, true, true, true, false, false, false, false, false, false, false, false, false] rfl rfl (by kernel_rfl) (fun _ _ _ h => h) (Or.inl ⟨by rfl, ?_⟩) ?_ ?_
        rotate_left
        · intro w'
          go_simp
          with_reducible rfl
        rotate_left
        · simp only [Act.put, lSa, lSz, lSs, i64_w, i32_w]
          rfl
        refine pure_ (i := 6) (N := some 60) (v := ?_) (a' := ?_) #[true, true, true, true, true, false, true, false, false, false, false, false, false, false] rfl rfl (by kernel_rfl) (fun _ _ _ h => h) (Or.inl ⟨by rfl, ?_⟩) ?_ ?_
        rotate_left
        · intro w'
          go_simp
          with_reducible rfl
        rotate_left
        · simp only [Act.put, lSa, lSz, lSs, i64_w, i32_w]
          rfl
        refine pure_ (i := 7) (N := some 61) (v := ?_) (a' := ?_) #[true, true, true, true, true, false, true, true, false, false, false, false, false, false] rfl rfl (by kernel_rfl) (fun _ _ _ h => h) (Or.inl ⟨by rfl, ?_⟩) ?_ ?_
        rotate_left
        · intro w'
          go_simp
          with_reducible rfl
        rotate_left
        · simp only [Act.put, lSa, lSz, lSs, i64_w, i32_w]
          rfl
        refine pure_ (i := 8) (N := some 62) (v := ?_) (a' := ?_) #[true, true, true, true, true, false, true, true, true, false, false, false, false, false] rfl rfl (by kernel_rfl) (fun _ _ _ h => h) (Or.inl ⟨by rfl, ?_⟩) ?_ ?_
        rotate_left
        · intro w'
          go_simp
          with_reducible rfl
        rotate_left
        · simp only [Act.put, lSa, lSz, lSs, i64_w, i32_w]
          rfl
        refine take_ (i := 5) (N := some 59) (v := ?_) (a' := ?_) #[true, true, true, true, true, true, true, true, true, false, false, false, false, false] rfl rfl (by kernel_rfl) (fun _ _ _ h => h) (Or.inl ⟨by rfl, ?_⟩) hHeld ?_ ?_
        rotate_left
        · rintro w' ⟨s0, s1⟩
          go_simp
          with_reducible rfl
        rotate_left
        · simp only [Act.put, lSa, lSz, lSs, i64_w, i32_w]
          rfl
        refine take_ (i := 9) (N := some 63) (v := ?_) (a' := ?_) #[true, true, true, true, true, true, true, true, true, true, false, false, false, false] rfl rfl (by kernel_rfl) (fun _ _ _ h => h) (Or.inl ⟨by rfl, ?_⟩) hHeld ?_ ?_
        rotate_left
        · rintro w' ⟨s0, s1⟩
          go_simp
          with_reducible rfl
        rotate_left
        · simp only [Act.put, lSa, lSz, lSs, i64_w, i32_w]
          rfl
        refine one_ (i := 10) (N := some 64) #[true, true, true, true, true, true, true, true, true, true, true, false, false, false] rfl rfl (by kernel_rfl) (by decide) (fun K hK => ?_)
        refine goes_ Try.func45 (by kernel_rfl) rfl #[.int .i64 x.i.f0, .int .i64 x.f, .int .i64 1000] (by rfl) rfl rfl (by simp only [List.map_toArray, List.map_cons, List.map_nil]; rfl) ?_
        with_reducible refine (impl_MulDiv.calls k x.i.f0 x.f 1000 mv _ HMV.out).mono ?_
        rintro e wm ⟨rfl, hdm⟩
        refine ⟨_, rfl, ?_⟩
        have HBM := aMk (below_then (below_drew (Below.refl w5.heap.size w5)) (Nat.le_refl _) hdm.below)
        clear hdm
        refine hK.out _ _ ⟨(bCe (blk_below HX5.out HBM.out) 0).trans rfl, (bCe (blk_below HX5.out HBM.out) 6).trans rfl⟩ (fun hHeld => ?_)
        clear hK K
        refine norm_ (a' := ?_) ?_ ?_
        rotate_left
        · show Act.put _ (some 64) _ = _
          simp only [Act.put, lSa, lSz, lSs, i64_w, i32_w]
          rfl
        refine one_ (i := 11) (N := some 65) #[true, true, true, true, true, true, true, true, true, true, true, true, false, false] rfl rfl (by kernel_rfl) (by decide) (fun K hK => ?_)
        refine value_ (w1 := ?_) (v := ?_) (by rfl) rfl ?_ ?_
        rotate_left 2
        · go_simp
          constructor
          · rfl
          · rfl
        have HBV := aMk (bAl HBM.out (.cells #[.int .i64 mv] 3))
        refine hK.out _ _ ⟨(bCe (blk_below HX5.out HBV.out) 0).trans rfl, (bCe (blk_below HX5.out HBV.out) 6).trans rfl⟩ (fun hHeld => ?_)
        clear hK K
        refine norm_ (a' := ?_) ?_ ?_
        rotate_left
        · show Act.put _ (some 65) _ = _
          simp only [Act.put, lSa, lSz, lSs, i64_w, i32_w]
          rfl
        refine one_ (i := 12) (N := some 66) #[true, true, true, true, true, true, true, true, true, true, true, true, true, false] rfl rfl (by kernel_rfl) (by decide) (fun K hK => ?_)
        refine Kd.R_append_step (Kd.int .i64) (w0 := w) w.heap.size (by rfl) (.tmp 54) (.tmp 65) 22 3 (.int .i64 0) 8 rfl Try.underlying22 info3 rfl (by decide) (by decide) _ (ps.map (fun p => mW k false p.2)) mv [.int .i64 mv] (fun _ => True) (fun _ => False) rfl ?hx rfl (fun _ hk => hk.elim) (fun _ _ => trivial) ?hO ?hB ?hS ?hl ?_
        case hx => first | (go_simp; done) | (go_simp; rfl)
        case hO => exact (Kd.R_below HOW5.out HBM.out)
        case hB => exact (below_step HB5.out HBM.out)
        case hS => have h1 := HB5.out.size; have h2 := HBM.out.size; omega
        case hl => have h1 := HWL.out; have h2 := HL.out; omega
        intro v8 w8 ho8 hb8 hg8 _
        have HOW8 := aMk ho8
        have HB8 := aMk hb8
        have HOP8 := aMk (Kd.R_over' (Kd.R_below HOP5.out HBM.out) (Kd.R_typed (Kd.R_below HOW5.out HBM.out)) (by decide) hg8)
        have HX8 := aMk (blk_grown (blk_below HX5.out HBM.out) hg8 (Kd.R_ne (Kd.R_below HOW5.out HBM.out) (blk_below HX5.out HBM.out) (by decide)))
        clear ho8 hb8 hg8
        refine hK.out _ _ ⟨(bCe HX8.out 0).trans rfl, (bCe HX8.out 6).trans rfl⟩ (fun hHeld => ?_)
        clear hK K
        refine norm_ (a' := ?_) ?_ ?_
        rotate_left
        · show Act.put _ (some 66) _ = _
          simp only [Act.put, lSa, lSz, lSs, i64_w, i32_w]
          rfl
        refine pure_ (i := 13) (N := some 10) (v := ?_) (a' := ?_) #[true, true, true, true, true, true, true, true, true, true, true, true, true, true] rfl rfl (by kernel_rfl) (fun _ _ _ h => h) (Or.inl ⟨by rfl, ?_⟩) ?_ ?_
        rotate_left
        · intro w'
          go_simp
          with_reducible rfl
        rotate_left
        · simp only [Act.put, lSa, lSz, lSs, i64_w, i32_w]
          rfl
        refine done_ (by kernel_rfl) ?_
        go_wp2
        go_roundg k1
        case measure => omega
        case rel => exact ⟨n + 1, by first | rw [hw] | rfl | go_num, by rw [HOPN.out, facF_snoc, ← HFC.out], ⟨by have := HN.out; omega⟩, ⟨by rw [HOPN.out, List.map_append]; exact HOP8.out⟩, ⟨by rw [HOPN.out, List.map_append]; have h8 := HOW8.out; rw [show mv = mW k false x by unfold mW; rw [if_neg (by decide), HMV.out]; rfl] at h8; exact h8⟩, HB8⟩
      · as_aux_lemma =>
        go_wp2_with (first | ((with_reducible refine gate_builtin (b := .append) (xs := #[.tmp 36, .tmp 38]) rfl ?_); at_builtin; refine Kd.R_append kPtr (w0 := w) w.heap.size rfl (.tmp 36) (.tmp 38) 138 143 (.pointer none) 8 rfl Try.underlying138 infoFP rfl (by decide) (by omega) _ (ps.map (·.1)) g [.pointer (some ⟨g, 0, none⟩)] (fun _ => True) (fun _ => False) rfl ?q1 rfl (fun _ hk => hk.elim) (fun _ _ => trivial) ?q2 ?q3 ?q4 ?hl ?_; (case q1 => first | (go_simp; done) | (go_simp; rfl)); (case q2 => exact HOP.out); (case q3 => exact HB.out); (case q4 => have h1 := HB.out.size; omega); (case hl => have h1 := HPL.out; have h2 := HL.out; omega); intro v5 w5 ho5 hb5 hg5 _; have HOP5 := aMk ho5; have HB5 := aMk hb5; have HOW5 := aMk (Kd.R_over' HOW.out (Kd.R_typed HOP.out) (by decide) hg5); have hx5 := blk_grown HBK.out hg5 (Kd.R_ne HOP.out HBK.out (by decide)); have HX5 := aMk hx5; have t6 : w5.cell? ⟨g, 6, none⟩ = some (.int .i64 x.f) := bCe hx5 6; have t0 : w5.cell? ⟨g, 0, none⟩ = some (.int .i64 x.i.f0) := bCe hx5 0; clear hx5 ho5 hb5 hg5) | ((with_reducible refine gate_builtin (b := .append) (xs := #[.tmp 47, .tmp 52]) rfl ?_); at_builtin; refine Kd.R_append (Kd.int .i64) (w0 := w) w.heap.size rfl (.tmp 47) (.tmp 52) 22 3 (.int .i64 0) 8 rfl Try.underlying22 info3 rfl (by decide) (by omega) _ (ps.map (fun p => mW k true p.2)) x.f [.int .i64 x.f] (fun _ => True) (fun _ => False) rfl ?q1 rfl (fun _ hk => hk.elim) (fun _ _ => trivial) ?q2 ?q3 ?q4 ?hl ?_; (case q1 => first | (go_simp; done) | (go_simp; rfl)); (case q2 => exact HOW5.out); (case q3 => exact HB5.out); (case q4 => have h1 := HB5.out.size; omega); (case hl => have h1 := HWL.out; have h2 := HL.out; omega); intro v8 w8 ho8 hb8 hg8 _; have HOW8 := aMk ho8; have HB8 := aMk hb8; have HOP8 := aMk (Kd.R_over' HOP5.out (Kd.R_typed HOW5.out) (by decide) hg8); clear ho8 hb8 hg8))
        go_roundg k1
        case measure => omega
        case rel => exact ⟨n + 1, by first | rw [hw] | rfl | go_num, by rw [HOPN.out, facF_snoc, ← HFC.out], ⟨by have := HN.out; omega⟩, ⟨by rw [HOPN.out, List.map_append]; exact HOP8.out⟩, ⟨by rw [HOPN.out, List.map_append]; exact HOW8.out⟩, HB8⟩
    · have HFIX := aMk (hfixed hfx)
      rw [hfx] at q7
      clear hfixed hopen hfx
      go_wp2
      go_roundg k1
      case measure => omega
      case rel => exact ⟨n + 1, by first | rw [hw] | rfl | go_num, by rw [HFIX.out, ← HFC.out], ⟨by have := HN.out; omega⟩, ⟨by rw [HFIX.out]; exact HOP.out⟩, ⟨by rw [HFIX.out]; exact HOW.out⟩, HB⟩
  · have d1 : decide ((n : Int) < (gs.length : Int)) = false := decide_eq_false (by omega)
    have d2 : decide (n < gs.length) = false := decide_eq_false c1
    have hend := opN_end gs xs HF.out.len n (by omega)
    rw [hend] at HOP HOW ⊢
    have HSH2 := HSH.out
    unfold shOk rest2 wsF at HSH2
    obtain ⟨os, hos⟩ : ∃ os, os = opZ gs xs := ⟨_, rfl⟩
    rw [← hos] at HOP HOW HSH2 ⊢
    have HSL2 := HSL.out
    rw [← hos] at HSL2
    have HSH3 := aMk HSH2
    have HSL3 := aMk HSL2
    have HOS := aMk hos
    obtain ⟨fc, hfc⟩ : ∃ fc, fc = facF os := ⟨_, rfl⟩
    rw [← hfc] at HSH3 ⊢
    obtain ⟨A6, c6, e6, hc6, hr6⟩ := Kd.R_reads HOP.out
    subst e6
    obtain ⟨ws, hws⟩ : ∃ ws, ws = os.map (fun p => mW k gr p.2) := ⟨_, rfl⟩
    rw [← hws] at HOW HSH3
    have HWS := aMk hws
    clear hws
    obtain ⟨A7, c7, e7, hc7, hr7⟩ := Kd.R_reads HOW.out
    subst e7
    obtain ⟨og, hog⟩ : ∃ og, og = os.map (·.1) := ⟨_, rfl⟩
    have HOL : Aside0 (og.length = os.length) := ⟨by rw [hog, List.length_map]⟩
    rw [← hog] at HOP hr6 hc6
    rw [← hog]
    have HOG := aMk hog
    have HOGL : Aside0 (og.length ≤ 1000000) := ⟨by rw [HOL.out, HOS.out, ← opN_end gs xs HF.out.len n (by have := HN.out; omega)]; exact Nat.le_trans (opN_len gs xs n) (by have := HN.out; have := HL.out; omega)⟩
    clear HSH2 HSL2 hos hfc HSH HSL c1 hog hend HN
    by_cases hz : og.length = 0
    · as_aux_lemma =>
      have z1 : ((og.length : Int) == 0) = true := beq_iff_eq.2 (by omega)
      have z2 : (og.length == 0) = true := beq_iff_eq.2 hz
      have hoe : os = [] := List.length_eq_zero_iff.1 (by rw [← HOL.out]; exact hz)
      have HOE := aMk hoe
      clear hoe
      go_wp2
      go_ret
      refine ⟨by rw [← HOS.out, HOE.out]; rfl, ?_, Kd.R_below HO.out HB.out, below_step HB0.out HB.out⟩
      unfold roundL
      rw [merge_none gs xs _ HF.out.len (by rw [← HOS.out]; exact HOE.out)]
      exact HF.out.below HB.out
    · have z1 : ((og.length : Int) == 0) = false := beq_eq_false_iff_ne.2 (by omega)
      have z2 : (og.length == 0) = false := beq_eq_false_iff_ne.2 hz
      have z3 : decide (og.length = 0) = false := decide_eq_false hz
      clear hz
      obtain ⟨rst, hrst⟩ : ∃ r, r = restF first fc (leftF xs room) := ⟨_, rfl⟩
      rw [← hrst] at HSH3
      have HRST := aMk hrst
      clear hrst
      go_upto_region 18 with (go_at_call 122; (with_reducible refine (left_calls A c w0.heap.size gs xs room wr (Kd.C_below HR.out HB.out) (Kd.R_reads' HO.out).2.1 (HF.out.below HB.out) HL.out).mono ?_); rintro e w7 ⟨rfl, rfl⟩)
      go_cut [86] (fun v86 wc => v86 = .bool (decide (fc < 1000) && decide (absI (partF first fc) < absI (leftF xs room))) ∧ Aside0 (Below wr.heap.size wr wc))
      case first =>
       by_cases hf : fc < 1000
       · have f1 := decide_eq_true hf
         go_wp2_with (first | (go_at_call 149; (with_reducible refine (abs_calls (wrap64 ((wrap64 (first * fc)).tdiv 1000)) wr).mono ?_); rintro e w8 ⟨rfl, hd8⟩; have HB8 := aMk hd8.below; clear hd8) | (go_at_call 149; (with_reducible refine (abs_calls (leftF xs room) w8).mono ?_); rintro e w9 ⟨rfl, hd9⟩; have HB9 := aMk (below_step HB8.out hd9.below); clear hd9))
         go_meet
         case rel => exact ⟨by unfold partF; rw [f1]; rfl, HB9⟩
       · have f1 := decide_eq_false hf
         go_wp2
         go_meet
         case rel => exact ⟨by rw [f1]; rfl, ⟨Below.refl _ _⟩⟩
      case rest =>
       obtain ⟨rfl, HB9⟩ := hcut
       go_upto_if 86 with (fail)
       go_cut [14] (fun v14 wd => v14 = .int .i64 rst ∧ wd = wc)
       case first =>
        have hr0 := HRST.out
        unfold restF at hr0
        cases hb : (decide (fc < 1000) && decide (absI (partF first fc) < absI (leftF xs room)))
        all_goals
         rw [hb] at hr0
         first | rw [if_pos rfl] at hr0 | rw [if_neg (by decide)] at hr0
         have hr1 := aMk hr0
         clear hr0 hb
         go_wp2
         go_meet
         case rel => exact ⟨by rw [hr1.out]; try rfl, rfl⟩
       case rest =>
        obtain ⟨rfl, rfl⟩ := hcut
        have HBc := aMk (below_step HB.out HB9.out)
        have HOPc := aMk (Kd.R_below HOP.out HB9.out)
        have HR7 := aMk (Kd.C_below hr7 HB9.out)
        have HC7 := aMk hc7
        clear HB HOP HOW hr6 hr7 hc6 hc7 HB9
        go_upto_region 21 with ((with_reducible refine gate_dst (N := 90) rfl ?_); refine Kd.R_make (Kd.int .i64) _ 3 rfl (N := 90) rfl 22 _ _ rfl (og.length : Int) rfl rfl Try.underlying22 (.int .i64 0) 8 info3 rfl (by decide) (by decide) (0 : Int) (ok := fun _ => True) (okp := fun _ => True) ?hz (fun _ hk => hk) trivial (by omega) ?hl (Below.refl _ _) (Nat.le_refl _) ?_; (case hz => rfl); (case hl => have h1 := HOGL.out; rw [Int.toNat_natCast]; omega); intro v16 w16 ho16 hb16 hg_ hnew_; rw [Int.toNat_natCast] at ho16; have HO16 := aMk (Kd.R_lower ho16 (HBc.out.size)); have HB16 := aMk (below_step HBc.out hb16); have HOP16 := aMk (Kd.R_below HOPc.out hb16); have HR16 := aMk (Kd.C_below HR7.out hb16); clear hg_ hnew_ ho16 hb16)
        go_cut [103] (fun v103 wc => v103 = .bool (goF gr rst) ∧ wc = w16)
        case first =>
         cases gr
         · by_cases hg : rst < 0
           · have g1 := decide_eq_true hg
             go_wp2
             go_meet
             case rel => exact ⟨by unfold goF; first | (rw [if_neg (by decide), g1]; done) | (rw [if_pos rfl, g1]; done) | (rw [if_neg (by decide), g1]; rfl) | (rw [if_pos rfl, g1]; rfl), rfl⟩
           · have g1 := decide_eq_false hg
             go_wp2
             go_meet
             case rel => exact ⟨by unfold goF; first | (rw [if_neg (by decide), g1]; done) | (rw [if_pos rfl, g1]; done) | (rw [if_neg (by decide), g1]; rfl) | (rw [if_pos rfl, g1]; rfl), rfl⟩
         · by_cases hg : rst > 0
           · have g1 := decide_eq_true hg
             have g2 : decide (0 < rst) = true := decide_eq_true hg
             go_wp2
             go_meet
             case rel => exact ⟨by unfold goF; first | (rw [if_neg (by decide), g1]; done) | (rw [if_pos rfl, g1]; done) | (rw [if_neg (by decide), g1]; rfl) | (rw [if_pos rfl, g1]; rfl), rfl⟩
           · have g1 := decide_eq_false hg
             have g2 : decide (0 < rst) = false := decide_eq_false hg
             go_wp2
             go_meet
             case rel => exact ⟨by unfold goF; first | (rw [if_neg (by decide), g1]; done) | (rw [if_pos rfl, g1]; done) | (rw [if_neg (by decide), g1]; rfl) | (rw [if_pos rfl, g1]; rfl), rfl⟩
        case rest =>
         obtain ⟨rfl, rfl⟩ := hcut
         obtain ⟨gg, hgg⟩ : ∃ g, g = goF gr rst := ⟨_, rfl⟩
         rw [← hgg] at HSH3 ⊢
         clear hgg
         go_upto_if 103 with (fail)
         go_cut [16] (fun v16 wd => Aside0 (Kd.R (Kd.int .i64) 3 wd w.heap.size (fun _ => True) v16 shs) ∧ Aside0 (Kd.R kPtr 143 wd w.heap.size (fun _ => True) (.slice A6 og.length c6) og) ∧ Aside0 (Below w.heap.size w wd))
         case first =>
          cases gg
          · have hs := HSH3.out
            rw [if_neg (by decide)] at hs
            have HS := aMk hs
            clear hs
            go_wp2
            go_meet
            case rel => exact ⟨⟨by rw [HS.out, ← HOL.out]; exact HO16.out⟩, HOP16, HB16⟩
          · have hs := HSH3.out
            rw [if_pos rfl] at hs
            have HS := aMk hs
            clear hs
            go_wp2_with (first | (go_at_call 149; (with_reducible refine (abs_calls rst wc).mono ?_); rintro e w17 ⟨rfl, hd17⟩; have HB17 := aMk hd17.below; clear hd17) | (go_at_call 93; (with_reducible refine (impl_spread.calls k (absI rst) A7 c7 ws shs w17 (Kd.C_below HR16.out HB17.out) HC7.out HS.out).mono ?_); rintro e w18 ⟨v18, rfl, ho18, hb18⟩; have HO18 := aMk (Kd.R_lower (base' := w.heap.size) ho18 (by have h1 := HB16.out.size; have h2 := HB17.out.size; omega)); have HB18 := aMk (below_step HB17.out hb18); clear ho18 hb18))
            go_meet
            case rel => exact ⟨HO18, ⟨Kd.R_below HOP16.out HB18.out⟩, ⟨below_step HB16.out HB18.out⟩⟩
         case rest =>
          as_aux_lemma =>
          obtain ⟨HSR, HOPR, HBR⟩ := hcut
          clear HO16 HB16 HOP16 HR16 HBc HOPc HR7 HSH3 HRST
          obtain ⟨A8, c8, e8, hc8, hr8⟩ := Kd.R_reads HSR.out
          subst e8
          have hfo := (HF.out.below HBR.out).sub
          rw [← HOS.out, ← HOG.out] at hfo
          obtain ⟨oxs, hox⟩ : ∃ oxs, oxs = os.map (·.2) := ⟨_, rfl⟩
          rw [← hox] at hfo
          obtain ⟨ys, hys⟩ : ∃ ys, ys = ysF gr os shs := ⟨_, rfl⟩
          have HYL : Aside0 (ys.length = oxs.length) := ⟨by rw [hys, hox]; unfold ysF; rw [List.length_map, List.length_zip, List.length_map, HSL3.out, Nat.min_self]⟩
          have HYG : Aside0 (∀ n, n < oxs.length → ys.getD n zFx = s2 gr (oxs.getD n zFx) (shs.getD n 0)) := ⟨by
           intro n hn
           rw [hox, List.length_map] at hn
           have h1 : n < (os.zip shs).length := by rw [List.length_zip, HSL3.out, Nat.min_self]; exact hn
           rw [hys, hox]
           unfold ysF
           rw [List.getD_eq_getElem?_getD, List.getElem?_map, List.getElem?_eq_getElem h1, List.getD_eq_getElem?_getD, List.getElem?_map, List.getElem?_eq_getElem hn, List.getD_eq_getElem?_getD, List.getElem?_eq_getElem (by rw [HSL3.out]; exact hn)]
           simp only [Option.map_some, Option.getD_some, List.getElem_zip]⟩
          have HOXL : Aside0 (oxs.length = og.length) := ⟨by rw [hox, List.length_map, HOL.out]⟩
          have HSLO : Aside0 (shs.length = og.length) := ⟨by rw [HSL3.out, HOL.out]⟩
          have HYS := aMk hys
          have HOR := aMk (Kd.R_below HO.out HBR.out)
          have HB2 := aMk (below_step HB0.out HBR.out)
          have HKE : Aside0 (w.heap.size ≤ wc.heap.size ∧ ∀ k, k < w.heap.size → k ∉ og → wc.heap[k]? = w.heap[k]?) := ⟨HBR.out.size, fun k hk _ => HBR.out.block k hk⟩
          have HFO := aMk hfo
          have HSRL : Aside0 (shs.length ≤ c8) := ⟨hc8⟩
          clear hfo hox hys hc8 hr8 HBR
          go_wp2
          go_loopg [17, 18, 19, 20, 110] og.length (fun kq v17 v18 v19 v20 v110 w' => ∃ n : Nat, v110 = .int .i64 (n : Int) ∧ v17 = .int .i64 (totF (ys.take n)) ∧ Aside0 (n + kq = og.length) ∧ Aside0 (FL w' w0.heap.size og (mixS ys oxs n)) ∧ Aside0 (Kd.R kPtr 143 w' w.heap.size (fun _ => True) (.slice A6 og.length c6) og) ∧ Aside0 (Kd.R (Kd.int .i64) 3 w' w.heap.size (fun _ => True) (.slice A8 shs.length c8) shs) ∧ Aside0 (Kd.R kPtr 143 w' w0.heap.size (fun _ => True) (.slice A gs.length c) gs) ∧ Aside0 (Below w0.heap.size w0 w') ∧ Aside0 (w.heap.size ≤ w'.heap.size ∧ ∀ k, k < w.heap.size → k ∉ og → w'.heap[k]? = w.heap[k]?))
          case atStart => exact ⟨0, rfl, rfl, ⟨by simp⟩, ⟨by rw [mixS_zero]; exact HFO.out⟩, HOPR, HSR, HOR, HB2, HKE⟩
          case round =>
           clear HFO HOPR HSR HOR HB2 HKE
           obtain ⟨m, rfl, rfl, HN, HFO, HOPR, HSR, HOR, HB2, HKE⟩ := hrel
           by_cases c1 : m < og.length
           · have hk : gk ≠ 0 := by have := HN.out; omega
             obtain ⟨k1, rfl⟩ := Nat.exists_eq_succ_of_ne_zero hk
             clear hk
             have d3 : decide ((m : Int) < (og.length : Int)) = true := decide_eq_true (by omega)
             have d4 : decide (m < og.length) = true := decide_eq_true c1
             obtain ⟨ad, eA, hcell⟩ := ptr_at (Kd.R_reads' HOPR.out).2.2 m c1
             have hb := HFO.out.get m c1
             rw [mixS_get _ _ _ HYL.out (by have := HOXL.out; omega)] at hb
             have hyg := HYG.out m (by have := HOXL.out; omega)
             have hst := mixS_set ys oxs m HYL.out (by have := HOXL.out; omega) zFx
             have htk := take_snoc ys m (by have := HYL.out; have := HOXL.out; omega) zFx
             have p0 : 0 ≤ (m : Int) := by omega
             have p1 : (m : Int) < (og.length : Int) := by omega
             have p2 : (m : Int) < (shs.length : Int) := by have := HSLO.out; omega
             obtain ⟨ad1, eS, hsc⟩ := Kd.at_int (Kd.R_reads' HSR.out).2.2 (m : Int) p0 p2
             rw [show rd shs (m : Int) = shs.getD m 0 by unfold rd; rw [Int.toNat_natCast], Int.toNat_natCast] at hsc
             obtain ⟨sh, hsh⟩ : ∃ sh, sh = shs.getD m 0 := ⟨_, rfl⟩
             rw [← hsh] at hsc hyg
             obtain ⟨x, hx⟩ : ∃ x, x = oxs.getD m zFx := ⟨_, rfl⟩
             rw [← hx] at hb hyg
             rw [hyg] at hst htk
             obtain ⟨s, hs⟩ : ∃ s, s = if gr = true then wrap64 (x.i.f0 + sh) else mx 0 (wrap64 (x.i.f0 - sh)) := ⟨_, rfl⟩
             have hs2 : s2 gr x sh = ⟨x.i, x.t, x.f, x.fx, s⟩ := by unfold s2; rw [← hs]
             rw [hs2] at hst htk
             have HS := aMk hs
             have hge := HFO.out.ge og[m] (List.getElem_mem _)
             have hgm : og[m] ∈ og := List.getElem_mem _
             obtain ⟨g, hg⟩ : ∃ g, g = og[m] := ⟨_, rfl⟩
             have HGE : Aside0 (og[m] = g) := ⟨hg.symm⟩
             rw [← hg] at hb hcell hge hgm
             have HGM := aMk hgm
             have HGG := aMk hge
             have HBK := aMk hb
             have HST := aMk hst
             have HTK := aMk htk
             have q0 : wr.cell? ⟨g, 0, none⟩ = some (.int .i64 x.i.f0) := bCe hb 0
             have hw : wrap64 ((m : Int) + 1) = ((m + 1 : Nat) : Int) := by have := HOGL.out; unfold wrap64; omega
             have HC1 := aMk c1
             clear hyg hst htk hsh hx hs hs2 hge hgm hg hb
             cases eA
             cases eS
             have HT0 := aMk (Turn.refl HBK.out HB2.out)
             go_upto_region 27 with (fail)
             go_cut [20] (fun v20 wd => v20 = .int .i64 (wrap64 (x.i.f0 + sh)) ∧ Aside0 (Below wr.heap.size wr wd))
             case first =>
              go_quiet (fail)
              go_wp2
              go_meet
              case rel => exact ⟨rfl, ⟨by repeat (first | (with_reducible first | exact Below.refl _ _ | apply bDn | apply bD1) | exact Below.refl _ _)⟩⟩
             case rest =>
              obtain ⟨rfl, HBD⟩ := hcut
              go_upto_if 126 with (fail)
              go_cut [20] (fun v20 wd => v20 = .int .i64 s ∧ Aside0 (Below wr.heap.size wr wd))
              case first =>
               have hs := HS.out
               cases gr
               · rw [if_neg (by decide)] at hs
                 have HS2 := aMk hs
                 have hq0 : wc.cell? ⟨g, 0, none⟩ = some (.int .i64 x.i.f0) := bCe (blk_below HBK.out HBD.out) 0
                 have hsc2 := (HBD.out.cell (wBl wr _ hsc)).trans hsc
                 clear hs
                 go_upto_region 29 with (fail)
                 go_quiet (fail)
                 go_wp2
                 all_goals
                  go_meet
                  case rel => exact ⟨by rw [HS2.out]; unfold mx; first | (split <;> first | rfl | (exfalso; omega)) | (congr 1; omega), ⟨by repeat (first | (with_reducible first | exact HBD.out | apply bDn | apply bD1) | exact HBD.out)⟩⟩
               · rw [if_pos rfl] at hs
                 have HS2 := aMk hs
                 clear hs
                 go_wp2
                 go_meet
                 case rel => exact ⟨by rw [HS2.out], HBD⟩
              case rest =>
               clear HBD hsc q0 hcell
               obtain ⟨rfl, HBD⟩ := hcut
               have HT1 := aMk (HT0.out.below HBD.out)
               have HT2 := aMk (HT1.out.set 8 (.int .i64 s) ⟨x.i, x.t, x.f, x.fx, s⟩ rfl HGG.out)
               have s8 : wc.cell? ⟨g, 8, none⟩ = some (.int .i64 x.s) := bCe HT1.out.blk 8
               have r8 : wc.frozen? ⟨g, 8, none⟩ = false := bFr HT1.out.blk 8
               go_wp2_with (first | (go_at_call 147; refine (fit_calls w0 _ g ⟨x.i, x.t, x.f, x.fx, s⟩ s ?hgf HGG.out ?hbf).mono ?_; (case hgf => exact HT2.out.blk); (case hbf => exact HT2.out.b); rintro e w7 ⟨rfl, hb7⟩; have HT3 := aMk (HT2.out.below hb7); clear hb7))
               go_roundg k1
               case measure => omega
               case rel => exact ⟨m + 1, by first | rw [hw] | rfl | go_num, by rw [HTK.out, totF_snoc], ⟨by have := HN.out; omega⟩, ⟨by have hl := HT3.out.list HFO.out m HC1.out HGE.out; rw [HST.out] at hl; exact hl⟩, ⟨HT3.out.row HBK.out HOPR.out (by decide)⟩, ⟨HT3.out.row HBK.out HSR.out (by decide)⟩, ⟨HT3.out.row HBK.out HOR.out (by decide)⟩, ⟨HT3.out.b⟩, ⟨Nat.le_trans HKE.out.1 HT3.out.sz, fun q hq hn => (HT3.out.ke q (Nat.lt_of_lt_of_le hq HKE.out.1) (fun z => hn (z ▸ HGM.out))).trans (HKE.out.2 q hq hn)⟩⟩
           · as_aux_lemma =>
             have d1 : decide ((m : Int) < (og.length : Int)) = false := decide_eq_false (by omega)
             have d2 : decide (m < og.length) = false := decide_eq_false c1
             have hfe := HFO.out
             rw [mixS_end _ _ _ HYL.out (by have := HOXL.out; omega)] at hfe
             have htot : totF (ys.take m) = totF ys := by rw [List.take_of_length_le (by have := HYL.out; have := HOXL.out; omega)]
             rw [htot]
             obtain ⟨tot, htt⟩ : ∃ tot, tot = totF ys := ⟨_, rfl⟩
             rw [← htt]
             have HTT := aMk htt
             have HFE := aMk hfe
             have HZL : Aside0 ((ys.map (s3 tot)).length = ys.length) := ⟨List.length_map _⟩
             have HYO : Aside0 (ys.length = og.length) := ⟨HYL.out.trans HOXL.out⟩
             obtain ⟨zs, hzs⟩ : ∃ zs, zs = ys.map (s3 tot) := ⟨_, rfl⟩
             rw [← hzs] at HZL
             have HZG : Aside0 (∀ n, n < ys.length → zs.getD n zFx = s3 tot (ys.getD n zFx)) := ⟨by
              intro n hn
              rw [hzs, List.getD_eq_getElem?_getD, List.getElem?_map, List.getElem?_eq_getElem hn, List.getD_eq_getElem?_getD, List.getElem?_eq_getElem hn]
              rfl⟩
             have HZS := aMk hzs
             clear hfe htot htt hzs HFO c1 HN
             go_wp2
             go_loopg [22, 23, 152] og.length (fun kq v22 v23 v152 w' => ∃ n : Nat, v152 = .int .i64 (n : Int) ∧ Aside0 (n + kq = og.length) ∧ Aside0 (FL w' w0.heap.size og (mixS zs ys n)) ∧ Aside0 (Kd.R kPtr 143 w' w.heap.size (fun _ => True) (.slice A6 og.length c6) og) ∧ Aside0 (Kd.R kPtr 143 w' w0.heap.size (fun _ => True) (.slice A gs.length c) gs) ∧ Aside0 (Below w0.heap.size w0 w') ∧ Aside0 (w.heap.size ≤ w'.heap.size ∧ ∀ k, k < w.heap.size → k ∉ og → w'.heap[k]? = w.heap[k]?))
             case atStart => exact ⟨0, rfl, ⟨by simp⟩, ⟨by rw [mixS_zero]; exact HFE.out⟩, HOPR, HOR, HB2, HKE⟩
             case round =>
              clear HFE HOPR HOR HB2 HKE
              obtain ⟨m, rfl, HN, HFO, HOPR, HOR, HB2, HKE⟩ := hrel
              by_cases c1 : m < og.length
              · have hk : gk ≠ 0 := by have := HN.out; omega
                obtain ⟨k1, rfl⟩ := Nat.exists_eq_succ_of_ne_zero hk
                clear hk
                have d3 : decide ((m : Int) < (og.length : Int)) = true := decide_eq_true (by omega)
                have d4 : decide (m < og.length) = true := decide_eq_true c1
                obtain ⟨ad, eA, hcell⟩ := ptr_at (Kd.R_reads' HOPR.out).2.2 m c1
                have hb := HFO.out.get m c1
                rw [mixS_get _ _ _ HZL.out (by have := HYO.out; omega)] at hb
                have hzg := HZG.out m (by have := HYO.out; omega)
                have hst := mixS_set zs ys m HZL.out (by have := HYO.out; omega) zFx
                have p0 : 0 ≤ (m : Int) := by omega
                have p1 : (m : Int) < (og.length : Int) := by omega
                obtain ⟨y, hy⟩ : ∃ y, y = ys.getD m zFx := ⟨_, rfl⟩
                rw [← hy] at hb hzg
                rw [hzg] at hst
                have hge := HFO.out.ge og[m] (List.getElem_mem _)
                have hgm : og[m] ∈ og := List.getElem_mem _
                obtain ⟨g, hg⟩ : ∃ g, g = og[m] := ⟨_, rfl⟩
                have HGE : Aside0 (og[m] = g) := ⟨hg.symm⟩
                rw [← hg] at hb hcell hge hgm
                have HGM := aMk hgm
                have HGG := aMk hge
                have HBK := aMk hb
                have HST := aMk hst
                have q8 : wr.cell? ⟨g, 8, none⟩ = some (.int .i64 y.s) := bCe hb 8
                have hw : wrap64 ((m : Int) + 1) = ((m + 1 : Nat) : Int) := by have := HOGL.out; unfold wrap64; omega
                have HC1 := aMk c1
                clear hzg hst hy hge hgm hg hb
                cases eA
                have HT0 := aMk (Turn.refl HBK.out HB2.out)
                go_upto_region 37 with (go_at_call 147; refine (fit_calls w0 wr g y y.s HBK.out HGG.out HB2.out).mono ?_; rintro e w7 ⟨rfl, hb7⟩; have HT1 := aMk (HT0.out.below hb7); have q8 : w7.cell? ⟨g, 8, none⟩ = some (.int .i64 y.s) := bCe HT1.out.blk 8; have q5 : w7.cell? ⟨g, 5, none⟩ = some (.int .i64 y.t) := bCe HT1.out.blk 5; have q7 : w7.cell? ⟨g, 7, none⟩ = some (.bool y.fx) := bCe HT1.out.blk 7; have r5 : w7.frozen? ⟨g, 5, none⟩ = false := bFr HT1.out.blk 5; clear hb7)
                go_cut [187] (fun v187 wd => v187 = .bool (hitF tot y) ∧ wd = w7)
                case first =>
                 by_cases t0 : tot = 0
                 · have e0 : (tot == 0) = true := beq_iff_eq.2 t0
                   have e9 : decide (tot = 0) = true := decide_eq_true t0
                   go_wp2
                   go_meet
                   case rel => exact ⟨by unfold hitF; rw [e9]; try rfl, rfl⟩
                 · have e0 : (tot == 0) = false := beq_eq_false_iff_ne.2 t0
                   have e9 : decide (tot = 0) = false := decide_eq_false t0
                   by_cases t1 : tot > 0
                   · have e1 : decide (tot > 0) = true := decide_eq_true t1
                     have e2 : decide (0 < tot) = true := decide_eq_true t1
                     have e3 : decide (tot < 0) = false := decide_eq_false (by omega)
                     by_cases t2 : fitI y.i y.s > y.s
                     · have e4 : decide (fitI y.i y.s > y.s) = true := decide_eq_true t2
                       have e5 : decide (y.s < fitI y.i y.s) = true := decide_eq_true t2
                       go_wp2
                       go_meet
                       case rel => exact ⟨by unfold hitF; rw [e9, e1, e4, e3]; try rfl, rfl⟩
                     · have e4 : decide (fitI y.i y.s > y.s) = false := decide_eq_false t2
                       have e5 : decide (y.s < fitI y.i y.s) = false := decide_eq_false t2
                       go_wp2
                       go_meet
                       case rel => exact ⟨by unfold hitF; rw [e9, e1, e4, e3]; try rfl, rfl⟩
                   · have e1 : decide (tot > 0) = false := decide_eq_false t1
                     have e2 : decide (0 < tot) = false := decide_eq_false t1
                     have e3 : decide (tot < 0) = true := decide_eq_true (by omega)
                     by_cases t2 : fitI y.i y.s < y.s
                     · have e4 : decide (fitI y.i y.s < y.s) = true := decide_eq_true t2
                       go_wp2
                       go_meet
                       case rel => exact ⟨by unfold hitF; rw [e9, e1, e3, e4]; try rfl, rfl⟩
                     · have e4 : decide (fitI y.i y.s < y.s) = false := decide_eq_false t2
                       go_wp2
                       go_meet
                       case rel => exact ⟨by unfold hitF; rw [e9, e1, e3, e4]; try rfl, rfl⟩
                case rest =>
                 obtain ⟨rfl, rfl⟩ := hcut
                 cases hh : hitF tot y
                 · have HS3 : Aside0 (s3 tot y = y) := ⟨by unfold s3; rw [hh]; rfl⟩
                   clear hh
                   go_wp2
                   go_roundg k1
                   case measure => omega
                   case rel => exact ⟨m + 1, by first | rw [hw] | rfl | go_num, ⟨by have := HN.out; omega⟩, ⟨by have hl := HT1.out.list HFO.out m HC1.out HGE.out; have hq := HST.out; rw [HS3.out] at hq; rw [hq] at hl; exact hl⟩, ⟨HT1.out.row HBK.out HOPR.out (by decide)⟩, ⟨HT1.out.row HBK.out HOR.out (by decide)⟩, ⟨HT1.out.b⟩, ⟨Nat.le_trans HKE.out.1 HT1.out.sz, fun q hq hn => (HT1.out.ke q (Nat.lt_of_lt_of_le hq HKE.out.1) (fun z => hn (z ▸ HGM.out))).trans (HKE.out.2 q hq hn)⟩⟩
                 · have HS3 : Aside0 (s3 tot y = ⟨y.i, fitI y.i y.s, y.f, true, y.s⟩) := ⟨by unfold s3; rw [hh]; rfl⟩
                   clear hh
                   have HT2 := aMk ((HT1.out.set 5 (.int .i64 (fitI y.i y.s)) ⟨y.i, fitI y.i y.s, y.f, y.fx, y.s⟩ rfl HGG.out).set 7 (.bool true) ⟨y.i, fitI y.i y.s, y.f, true, y.s⟩ rfl HGG.out)
                   have r7 := bFr (HT1.out.set 5 (.int .i64 (fitI y.i y.s)) ⟨y.i, fitI y.i y.s, y.f, y.fx, y.s⟩ rfl HGG.out).blk 7
                   have s7 := bCe (HT1.out.set 5 (.int .i64 (fitI y.i y.s)) ⟨y.i, fitI y.i y.s, y.f, y.fx, y.s⟩ rfl HGG.out).blk 7
                   go_wp2
                   go_roundg k1
                   case measure => omega
                   case rel => exact ⟨m + 1, by first | rw [hw] | rfl | go_num, ⟨by have := HN.out; omega⟩, ⟨by have hl := HT2.out.list HFO.out m HC1.out HGE.out; have hq := HST.out; rw [HS3.out] at hq; rw [hq] at hl; exact hl⟩, ⟨HT2.out.row HBK.out HOPR.out (by decide)⟩, ⟨HT2.out.row HBK.out HOR.out (by decide)⟩, ⟨HT2.out.b⟩, ⟨Nat.le_trans HKE.out.1 HT2.out.sz, fun q hq hn => (HT2.out.ke q (Nat.lt_of_lt_of_le hq HKE.out.1) (fun z => hn (z ▸ HGM.out))).trans (HKE.out.2 q hq hn)⟩⟩
              · have d3 : decide ((m : Int) < (og.length : Int)) = false := decide_eq_false (by omega)
                have d4 : decide (m < og.length) = false := decide_eq_false c1
                have hfe := HFO.out
                rw [mixS_end _ _ _ HZL.out (by have := HYO.out; omega)] at hfe
                have HFE := aMk hfe
                clear hfe c1
                go_wp2
                go_ret
                refine ⟨by rw [← HOS.out]; have hz0 : decide (os = []) = false := decide_eq_false (fun z => of_decide_eq_false z3 (by have h_ := HOL.out; rw [z] at h_; exact h_)); rw [hz0]; rfl, ?_, HOR.out, HB2.out⟩
                unfold roundL
                rw [← HOS.out, ← HYS.out, ← HTT.out, ← HZS.out]
                exact merge_FL HF.out HOS.out HOG.out HFE.out HKE.out.2
def opX (xs : List Fx) : List Fx := xs.filter (fun x => !x.fx)
def facX (xs : List Fx) : Int := xs.foldl (fun r x => wrap64 (r + x.f)) 0
def ysX (gr : Bool) (os : List Fx) (shs : List Int) : List Fx := (os.zip shs).map (fun p => s2 gr p.1 p.2)
def roundX (gr : Bool) (xs : List Fx) (shs : List Int) : List Fx := mergeF xs ((ysX gr (opX xs) shs).map (s3 (totF (ysX gr (opX xs) shs))))
def restX (first room : Int) (xs : List Fx) : Int := restF first (facX (opX xs)) (leftF xs room)
def mOkB (k : Nat) (gr : Bool) (xs : List Fx) : Bool := gr || xs.all (fun x => (impl_MulDiv.f k x.i.f0 x.f 1000).isSome)
def roundO (k : Nat) (gr : Bool) (first room : Int) (xs : List Fx) : Option (List Fx) :=
 if mOkB k gr xs = true then
  if goF gr (restX first room xs) = true then
   match impl_spread.f k (absI (restX first room xs)) ((opX xs).map (mW k gr)) with
   | none => none
   | some shs => if shs.length = (opX xs).length then some (roundX gr xs shs) else none
  else some (roundX gr xs (List.replicate (opX xs).length 0))
 else none
def flexO (k : Nat) (gr : Bool) (first room : Int) : Nat → List Fx → Option (List Int)
 | 0, _ => none
 | n + 1, xs => match roundO k gr first room xs with
  | none => none
  | some ys => if (opX xs).length = 0 then some (ys.map (·.t)) else flexO k gr first room n ys
theorem opZ_snd {gs : List Nat} {xs : List Fx} (h : gs.length = xs.length) : (opZ gs xs).map (·.2) = opX xs := by
 unfold opZ opX
 induction xs generalizing gs with
 | nil => cases gs <;> rfl
 | cons x r ih =>
  cases gs with
  | nil => simp at h
  | cons g t =>
   simp only [List.zip_cons_cons, List.filter_cons]
   have := ih (gs := t) (by simpa using h)
   cases x.fx <;> simp [this]
theorem opZ_len {gs : List Nat} {xs : List Fx} (h : gs.length = xs.length) : (opZ gs xs).length = (opX xs).length := by rw [← opZ_snd h, List.length_map]
theorem ysF_eq {gs : List Nat} {xs : List Fx} (h : gs.length = xs.length) (gr : Bool) (shs : List Int) : ysF gr (opZ gs xs) shs = ysX gr (opX xs) shs := by
 rw [← opZ_snd h]
 unfold ysF ysX
 rw [List.zip_map_left, List.map_map]
 rfl
theorem facF_eq {gs : List Nat} {xs : List Fx} (h : gs.length = xs.length) : facF (opZ gs xs) = facX (opX xs) := by
 rw [← opZ_snd h]
 unfold facF facX
 rw [List.foldl_map]
theorem wsF_eq {gs : List Nat} {xs : List Fx} (h : gs.length = xs.length) (k : Nat) (gr : Bool) : wsF k gr gs xs = (opX xs).map (mW k gr) := by
 rw [← opZ_snd h]
 unfold wsF
 rw [List.map_map]
 rfl
theorem roundL_eq {gs : List Nat} {xs : List Fx} (h : gs.length = xs.length) (k : Nat) (gr : Bool) (first room : Int) (shs : List Int) : roundL k gr first room gs xs shs = roundX gr xs shs := by
 unfold roundL roundX
 rw [ysF_eq h]
theorem rest2_eq {gs : List Nat} {xs : List Fx} (h : gs.length = xs.length) (first room : Int) : rest2 first room gs xs = restX first room xs := by
 unfold rest2 restX
 rw [facF_eq h]
/-- What round1 asks, out of a round's answer. -/
theorem roundO_asks {gs : List Nat} {xs ys : List Fx} (h : gs.length = xs.length) {k : Nat} {gr : Bool} {first room : Int} (hr : roundO k gr first room xs = some ys) : mOk k gr xs ∧ ∃ shs : List Int, shs.length = (opZ gs xs).length ∧ shOk k gr first room gs xs shs ∧ roundL k gr first room gs xs shs = ys := by
 unfold roundO at hr
 by_cases hm : mOkB k gr xs = true
 · rw [if_pos hm] at hr
   refine ⟨fun hg x hx => ?_, ?_⟩
   · subst hg
     unfold mOkB at hm
     rw [Bool.false_or, List.all_eq_true] at hm
     exact hm x hx
   · by_cases hg : goF gr (restX first room xs) = true
     · rw [if_pos hg] at hr
       cases hs : impl_spread.f k (absI (restX first room xs)) ((opX xs).map (mW k gr)) with
       | none => rw [hs] at hr; cases hr
       | some shs =>
        rw [hs] at hr
        dsimp only at hr
        by_cases hl : shs.length = (opX xs).length
        · rw [if_pos hl] at hr
          refine ⟨shs, by rw [opZ_len h, hl], ?_, by rw [roundL_eq h]; exact Option.some.inj hr⟩
          unfold shOk
          rw [rest2_eq h, if_pos hg, wsF_eq h]
          exact hs
        · rw [if_neg hl] at hr; cases hr
     · rw [if_neg hg] at hr
       refine ⟨_, ?_, ?_, by rw [roundL_eq h]; exact Option.some.inj hr⟩
       · rw [List.length_replicate, opZ_len h]
       · unfold shOk
         rw [rest2_eq h, if_neg hg, opZ_len h]
 · rw [if_neg hm] at hr; cases hr
theorem opX_mem {x : Fx} {xs : List Fx} (h : x ∈ opX xs) : x ∈ xs := (List.mem_filter.1 h).1
def impl_flexShares.f (k : Nat) (l0 : List S66) (a1 : Int) : Option (List Int) := if l0.length ≤ 100000 then flexO k (decide (sumT (l0.map beg1) 0 < a1)) (leftF (begL l0 a1) a1) a1 k (begL l0 a1) else none
theorem begL_len (items : List S66) (room : Int) : (begL items room).length = items.length := by unfold begL; rw [List.length_map, List.length_map]
set_option maxHeartbeats 8000000 in
set_option maxRecDepth 100000 in
theorem impl_flexShares.calls (k : Nat) (A0 : Option Addr) (c0 : Nat) (l0 : List S66) (a1 : Int) (r : List Int) (w : World) (hr0 : Kd.C k66 w A0 l0.length l0) (hc0 : l0.length ≤ c0) (h : impl_flexShares.f k l0 a1 = some r) :
 Calls Try.prog 83 #[.slice A0 l0.length c0, .int .i64 a1] w fun e w' => ∃ v0_ : Value, e = .returned (v0_) ∧ Kd.R (Kd.int .i64) 3 w' w.heap.size (fun _ => True) v0_ r ∧ Below w.heap.size w w' := by
 have hu145 := Try.underlying145
 unfold impl_flexShares.f at h
 by_cases hl : l0.length ≤ 100000
 · rw [if_pos hl] at h
   have HL := aMk hl
   obtain ⟨gr, hgr⟩ : ∃ gr, gr = decide (sumT (l0.map beg1) 0 < a1) := ⟨_, rfl⟩
   obtain ⟨xs, hxs⟩ : ∃ xs, xs = begL l0 a1 := ⟨_, rfl⟩
   have HXL : Aside0 (xs.length = l0.length) := ⟨by rw [hxs, begL_len]⟩
   rw [← hgr, ← hxs] at h
   have HBC : Aside0 (∀ W : World, Below w.heap.size w W → Calls Try.prog 121 #[.slice A0 l0.length c0, .int .i64 a1] W fun e w' => ∃ (v : Value) (gs : List Nat), e = .returned (.tuple #[v, .bool gr]) ∧ Kd.R kPtr 143 w' W.heap.size (fun _ => True) v gs ∧ FL w' W.heap.size gs xs ∧ Below W.heap.size W w') := ⟨fun W hb => by
    have h := begin1 A0 c0 l0 a1 W (Kd.C_below hr0 hb) hc0 (by omega)
    rw [← hgr, ← hxs] at h
    exact h⟩
   obtain ⟨fs, hfs⟩ : ∃ fs, fs = leftF xs a1 := ⟨_, rfl⟩
   rw [← hfs] at h
   have HFS := aMk hfs
   have HH := aMk h
   have HKO := aMk (Nat.le_refl k)
   clear h hl hgr hxs hfs hr0 hc0
   go_enter Try.func83, Try.ntmps83
   go_wp2
   go_step3
   go_wp2_with (first | (go_at_call 121; (with_reducible refine (HBC.out w (Below.refl _ _)).mono ?_); rintro e w1 ⟨v, gs, rfl, ho, hf, hb⟩; obtain ⟨A5, c5, rfl, hc5, hr5⟩ := Kd.R_reads ho; have HGL : Aside0 (gs.length = l0.length) := ⟨by rw [hf.len, HXL.out]⟩; have HO := aMk ho; have HF := aMk hf; have HB := aMk hb; have HR5 := aMk hr5; have HC5 := aMk hc5; clear ho hf hb hc5 hr5) | (go_at_call 122; (with_reducible refine (left_calls A5 c5 w.heap.size gs xs a1 w1 HR5.out HC5.out HF.out (by have h1 := HGL.out; have h2 := HL.out; omega)).mono ?_); rintro e w7 ⟨rfl, rfl⟩))
   go_step3
   go_wp2
   rw [← HFS.out]
   go_loopg [] k (fun kq w' => ∃ ys : List Fx, Aside0 (flexO k gr fs a1 kq ys = some r) ∧ Aside0 (FL w' w.heap.size gs ys) ∧ Aside0 (Kd.R kPtr 143 w' w.heap.size (fun _ => True) (.slice A5 gs.length c5) gs) ∧ Aside0 (Below w.heap.size w w'))
   case atStart => exact ⟨xs, HH, HF, HO, HB⟩
   case round =>
    clear HO HF HB HR5 HC5 HH HBC HFS HKO
    obtain ⟨ys, HH, HF, HO, HB⟩ := hrel
    have hh := HH.out
    obtain ⟨k1, rfl⟩ : ∃ k1, gk = k1 + 1 := by
     cases gk with
     | zero => unfold flexO at hh; cases hh
     | succ m => exact ⟨m, rfl⟩
    unfold flexO at hh
    cases hro : roundO k gr fs a1 ys with
    | none => rw [hro] at hh; cases hh
    | some zs =>
     rw [hro] at hh
     dsimp only at hh
     obtain ⟨hm, shs, hsl, hsh, hrl⟩ := roundO_asks HF.out.len hro
     have HRO := aMk (round1 k A5 c5 gs ys a1 fs gr w wr HB.out HF.out HO.out (by have h1 := HGL.out; have h2 := HL.out; omega) hm shs hsl hsh)
     rw [hrl, opZ_len HF.out.len] at HRO
     have HZL : Aside0 (gs.length = ys.length) := ⟨HF.out.len⟩
     clear hro hm hsl hsh hrl HF HO HB HH
     by_cases hz : (opX ys).length = 0
     · rw [if_pos hz] at hh
       rw [decide_eq_true hz] at HRO
       have HR := aMk (Option.some.inj hh)
       clear hh hz
       go_wp2_with (first | (go_at_call 123; (with_reducible refine HRO.out.mono ?_); rintro e w2 ⟨rfl, hf, ho, hb⟩; have HF := aMk hf; have HO := aMk ho; have HB := aMk hb; clear hf ho hb) | ((with_reducible refine gate_dst (N := 25) rfl ?_); refine Kd.R_lit (Kd.int .i64) _ 3 ?hg (N := 25) ?hd (xs := ([] : List Int)) (inner := []) (ok := fun _ => True) (okp := fun _ => True) ?hr ?hp (fun _ hk => hk) trivial (Below.refl _ _) (Nat.le_refl _) (by simp) ?_; (case hd => rfl); (case hg => rfl); (case hr => first | (go_simp; done) | (go_simp; rfl)); (case hp => exact (Reps.none _ _)); intro v8 w8 ho hb hg_ hnew_; have HOT := aMk (Kd.R_lower ho HB.out.size); have HB8 := aMk (below_step HB.out hb); have HF8 := aMk (HF.out.below hb); have HO8 := aMk (Kd.R_below HO.out hb); clear hg_ hnew_ hb ho))
       have HZG : Aside0 (gs.length = zs.length) := ⟨HF8.out.len⟩
       go_loopg [8, 10, 28] gs.length (fun kq v8 v10 v28 w' => ∃ n : Nat, v28 = .int .i64 (n : Int) ∧ Aside0 (n + kq = gs.length) ∧ Aside0 (Kd.R (Kd.int .i64) 3 w' w.heap.size (fun _ => True) v8 ((zs.take n).map (·.t))) ∧ Aside0 (FL w' w.heap.size gs zs) ∧ Aside0 (Kd.R kPtr 143 w' w.heap.size (fun _ => True) (.slice A5 gs.length c5) gs) ∧ Aside0 (Below w.heap.size w w'))
       case atStart => exact ⟨0, rfl, ⟨by simp⟩, ⟨by rw [List.take_zero, List.map_nil]; exact HOT.out⟩, HF8, HO8, HB8⟩
       case round =>
        clear HOT HF8 HO8 HB8 HF HO HB
        obtain ⟨n, rfl, HN, HT, HF, HO, HB⟩ := hrel
        by_cases c1 : n < gs.length
        · have hk : gk ≠ 0 := by have := HN.out; omega
          obtain ⟨k2, rfl⟩ := Nat.exists_eq_succ_of_ne_zero hk
          clear hk
          have d1 : decide ((n : Int) < (gs.length : Int)) = true := decide_eq_true (by omega)
          have d2 : decide (n < gs.length) = true := decide_eq_true c1
          obtain ⟨ad, eA, hcell⟩ := ptr_at (Kd.R_reads' HO.out).2.2 n c1
          have hb := HF.out.get n c1
          have htk : (zs.take (n + 1)).map (·.t) = (zs.take n).map (·.t) ++ [(zs.getD n zFx).t] := by rw [take_snoc zs n (by have := HZG.out; omega) zFx, List.map_append]; rfl
          obtain ⟨x, hx⟩ : ∃ x, x = zs.getD n zFx := ⟨_, rfl⟩
          rw [← hx] at hb htk
          obtain ⟨g, hg⟩ : ∃ g, g = gs[n] := ⟨_, rfl⟩
          rw [← hg] at hb hcell
          have q5 : wr.cell? ⟨g, 5, none⟩ = some (.int .i64 x.t) := bCe hb 5
          have p0 : 0 ≤ (n : Int) := by omega
          have p1 : (n : Int) < (gs.length : Int) := by omega
          have hw : wrap64 ((n : Int) + 1) = ((n + 1 : Nat) : Int) := by have := HL.out; have := HGL.out; unfold wrap64; omega
          have HTK := aMk htk
          have HWL : Aside0 (((zs.take n).map (·.t)).length ≤ n) := ⟨by rw [List.length_map, List.length_take]; omega⟩
          have HC1 := aMk c1
          clear hx hg htk hb
          cases eA
          go_wp2_with (first | ((with_reducible refine gate_builtin (b := .append) (xs := #[.tmp 32, .tmp 37]) rfl ?_); at_builtin; refine Kd.R_append (Kd.int .i64) (w0 := w) w.heap.size rfl (.tmp 32) (.tmp 37) 22 3 (.int .i64 0) 8 rfl Try.underlying22 info3 rfl (by decide) (by omega) _ ((zs.take n).map (·.t)) x.t [.int .i64 x.t] (fun _ => True) (fun _ => False) rfl ?q1 rfl (fun _ hk => hk.elim) (fun _ _ => trivial) ?q2 ?q3 ?q4 ?hl ?_; (case q1 => first | (go_simp; done) | (go_simp; rfl)); (case q2 => exact HT.out); (case q3 => exact HB.out); (case q4 => have h1 := HB.out.size; omega); (case hl => have h1 := HWL.out; have h2 := HL.out; have h3 := HGL.out; have h4 := HC1.out; omega); intro v9 w9 ho9 hb9 hg9 _; have HT9 := aMk ho9; have HB9 := aMk hb9; have HF9 := aMk (HF.out.grown HT.out (by decide) hg9); have HO9 := aMk (Kd.R_over' HO.out (Kd.R_typed HT.out) (by decide) hg9); clear ho9 hb9 hg9))
          go_roundg k2
          case measure => omega
          case rel => exact ⟨n + 1, by first | rw [hw] | rfl | go_num, ⟨by have := HN.out; omega⟩, ⟨by rw [HTK.out]; exact HT9.out⟩, HF9, HO9, HB9⟩
        · have d1 : decide ((n : Int) < (gs.length : Int)) = false := decide_eq_false (by omega)
          have d2 : decide (n < gs.length) = false := decide_eq_false c1
          have HT2 := HT.out
          rw [List.take_of_length_le (by have := HZG.out; omega), HR.out] at HT2
          have HT3 := aMk HT2
          clear HT2
          go_wp2
          go_ret
          exact ⟨_, rfl, HT3.out, HB.out⟩
     · rw [if_neg hz] at hh
       rw [decide_eq_false hz] at HRO
       have HH := aMk hh
       clear hh hz
       go_wp2_with (first | (go_at_call 123; (with_reducible refine HRO.out.mono ?_); rintro e w2 ⟨rfl, hf, ho, hb⟩; have HF := aMk hf; have HO := aMk ho; have HB := aMk hb; clear hf ho hb))
       go_roundg k1
       case measure => omega
       case rel => exact ⟨zs, HH, HF, HO, HB⟩
 · rw [if_neg hl] at h
   cases h
end Go.Proofs.Ytpknhndanbgkmaa.MFnShares
