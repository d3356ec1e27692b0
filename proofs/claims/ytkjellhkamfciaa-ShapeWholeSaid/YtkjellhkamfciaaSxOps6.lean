/- SX: nil slices, new slices, and what is appended. -/
import Derived.Test.YtkjellhkamfciaaSxOps4
import Derived.Laws.AppendOwn
import Derived.Laws.MakeOwn
namespace Go.Proofs.Ytkjellhkamfciaa.Sx
open Go Go.RowKit
set_option linter.unusedVariables false

theorem Rel.newNil {C : Cx} {ρ : Nat → Tk} {H : Hp} {w : World} (h : Rel C ρ H w) (κ : K) (E : TypeId) :
    Rel C (ext ρ H.length ⟨0, .slice none 0 0⟩) (H ++ [.seq κ [] E]) w := by
  refine h.push (.seq κ [] E) ⟨0, .slice none 0 0⟩ (fun b _ => rfl) (Nat.le_refl _) rfl rfl rfl ?_ ?_ trivial ⟨_, _, _, rfl⟩
  · simp only [ObjRel]
    exact ⟨World.ownsRow_nil w 0 E κ.sz, fun b hb => by simp [Value.ownBlock] at hb⟩
  · intro b hb; simp [objBlk, Value.ownBlock] at hb

theorem K.cells_one (κ : K) (x : κ.T) : ∀ v ∈ κ.cells x, v.oneCell' = true := by
  intro v hv
  cases κ with
  | st k ks => exact RT.cells_one k ks x v hv
  | _ => simp only [K.cells, List.mem_cons, List.not_mem_nil, or_false] at hv; (first | (rcases hv with rfl | rfl | rfl <;> rfl) | (subst hv; rfl))
theorem flat_get' (κ : K) : ∀ (xs : List κ.T) (q m : Nat), q < xs.length → m < κ.sz → (xs.flatMap κ.cells)[q * κ.sz + m]? = (κ.cells (xs[q]?.getD κ.dflt))[m]?
  | [], q, m, h, _ => by simp at h
  | x :: xs, 0, m, h, hm => by
    rw [List.flatMap_cons, List.getElem?_append_left (by rw [K.cells_length]; omega)]
    simp
  | x :: xs, q + 1, m, h, hm => by
    rw [List.flatMap_cons, List.getElem?_append_right (by rw [K.cells_length, Nat.add_mul]; omega), K.cells_length]
    rw [show (q + 1) * κ.sz + m - κ.sz = q * κ.sz + m by rw [Nat.add_mul]; omega]
    simpa using flat_get' κ xs q m (by simpa using h) hm
theorem rep_cells (κ : K) (d : κ.T) (z : Array Value) (hz : z.toList = κ.cells d) (n : Nat) : ((List.replicate n d).flatMap κ.cells).toArray = madeCells z (n * κ.sz) := by
  have hzs : z.size = κ.sz := by rw [← Array.length_toList, hz, K.cells_length]
  apply Array.toList_inj.1
  apply List.ext_getElem?
  intro j
  by_cases hj : j < n * κ.sz
  · have hsz := K.sz_pos κ
    have hq : j / κ.sz < n := Nat.div_lt_of_lt_mul (by rwa [Nat.mul_comm])
    have hm : j % κ.sz < κ.sz := Nat.mod_lt _ hsz
    have h1 := flat_get' κ (List.replicate n d) (j / κ.sz) (j % κ.sz) (by simpa using hq) hm
    rw [Nat.div_add_mod' j κ.sz] at h1
    show ((List.replicate n d).flatMap κ.cells)[j]? = _
    rw [h1]
    have h2 : (List.replicate n d)[j / κ.sz]? = some d := by simp [hq]
    rw [h2]
    simp only [Option.getD_some, madeCells, Array.toList_map, List.getElem?_map, Array.toList_range, List.getElem?_range hj, Option.map_some]
    have hm' : j % z.size < z.size := by rw [hzs]; exact hm
    rw [← hzs, ← hz]
    simp [hm']
  · rw [List.getElem?_eq_none (by simp [K.cells_length]; omega), List.getElem?_eq_none (by simp [madeCells]; omega)]

section
variable (E : Env)
theorem nilAt_some {t : TypeId} {x : SV} {r : TypeId × K} (h : nilAt E t x = some r) : x = .raw (.slice none 0 0) := by
  unfold nilAt at h
  split at h
  · rfl
  · cases h
theorem nilz_spec {C : Cx} {w : World} : ∀ (ts : List TypeId) (l : List SV) (ρ : Nat → Tk) (H : Hp), Rel C ρ H w → SV.okL C.R C.w1 ρ H.length l → leavesB l = true →
    (ts = [] ∨ l ≠ [] ∨ True) → ∃ ρ', (∀ t, t < H.length → ρ' t = ρ t) ∧ Rel C ρ' (H ++ (nilz E ts l H.length).2) w ∧ denC ρ' (nilz E ts l H.length).1 = denC ρ l ∧
      SV.okL C.R C.w1 ρ' (H ++ (nilz E ts l H.length).2).length (nilz E ts l H.length).1 ∧ leavesB (nilz E ts l H.length).1 = true
  | [], l, ρ, H, hR, hok, hl, _ => ⟨ρ, fun _ _ => rfl, by simpa [nilz] using hR, by simp [nilz], by simpa [nilz] using hok, by simpa [nilz] using hl⟩
  | t :: ts, [], ρ, H, hR, hok, hl, _ => ⟨ρ, fun _ _ => rfl, by simpa [nilz] using hR, by simp [nilz], by simpa [nilz] using hok, by simpa [nilz] using hl⟩
  | t :: ts, x :: l, ρ, H, hR, hok, hl, _ => by
    simp only [SV.okL] at hok
    simp only [leavesB, Bool.and_eq_true] at hl
    cases hx : nilAt E t x with
    | some r =>
      obtain ⟨e, κ⟩ := r
      have hx' := nilAt_some E hx
      have hR1 := hR.newNil κ e
      have hlen : (H ++ [SObj.seq κ [] e]).length = H.length + 1 := by simp
      obtain ⟨ρ', g1, g2, g3, g4, g5⟩ := nilz_spec ts l _ _ hR1 (okL_mono (by rw [hlen]; omega) l (okL_agree ext_lt l hok.2)) hl.2 (.inr (.inr trivial))
      rw [hlen] at g2 g3 g4 g5
      have e1 : nilz E (t :: ts) (x :: l) H.length = (.sl H.length :: (nilz E ts l (H.length + 1)).1, .seq κ [] e :: (nilz E ts l (H.length + 1)).2) := by
        conv => lhs; unfold nilz
        simp only [hx]
      rw [e1]
      have hself : ρ' H.length = ⟨0, .slice none 0 0⟩ := by rw [g1 _ (by rw [hlen]; omega), ext_self]
      refine ⟨ρ', fun s hs => by rw [g1 s (by rw [hlen]; omega), ext_lt s hs], by simpa using g2, ?_, ?_, ?_⟩
      · simp only
        rw [denC_cons, denC_cons ρ x l, g3, denC_agree ext_lt l hok.2, hx']
        simp [denC, den, cell1, hself]
      · simp only [SV.okL]
        refine ⟨by simp only [SV.ok]; simp, ?_⟩
        have : (H ++ SObj.seq κ [] e :: (nilz E ts l (H.length + 1)).2).length = (H ++ [SObj.seq κ [] e] ++ (nilz E ts l (H.length + 1)).2).length := by simp
        rw [this]; exact g4
      · simp only [leavesB, g5, SV.leafB, Bool.and_self]
    | none =>
      by_cases ha : isArr x = true
      · have e1 : nilz E (t :: ts) (x :: l) H.length = (x :: l, []) := by
          conv => lhs; unfold nilz
          simp only [hx, ha, if_true]
        rw [e1]
        exact ⟨ρ, fun _ _ => rfl, by simpa using hR, rfl, by simp only [SV.okL, List.append_nil]; exact hok, by simp only [leavesB, hl.1, hl.2, Bool.and_self]⟩
      · have e1 : nilz E (t :: ts) (x :: l) H.length = (x :: (nilz E ts l H.length).1, (nilz E ts l H.length).2) := by
          conv => lhs; unfold nilz
          simp only [hx, ha, if_false, Bool.false_eq_true]
        rw [e1]
        obtain ⟨ρ', g1, g2, g3, g4, g5⟩ := nilz_spec ts l ρ H hR hok.2 hl.2 (.inr (.inr trivial))
        refine ⟨ρ', g1, g2, ?_, ?_, by simp only [leavesB, g5, hl.1, Bool.and_self]⟩
        · simp only
          rw [denC_cons, denC_cons ρ x l, g3]
          have := denC_agree (l := [x]) g1 (by simp only [SV.okL]; exact ⟨hok.1, trivial⟩)
          rw [this]
        · simp only [SV.okL]
          exact ⟨ok_mono (by simp) x (ok_agree g1 x hok.1), g4⟩
theorem op_allocN (hE : EnvOk E) {o : Oper} {F : Fr} {H : Hp} {T : TypeId} {l : List SV} (ts : List TypeId) (ho : o.op = .alloc T) (hz : E.zeroOf T = some l) (hl : leavesB l = true) :
    OpGood E.P o F H (.ptr (H ++ (nilz E ts l H.length).2).length 0) (H ++ (nilz E ts l H.length).2 ++ [.cells (nilz E ts l H.length).1 T]) := by
  refine ⟨by simp, fun C ρ a w hF hR next Q hn => ?_⟩
  obtain ⟨i, z, h1, h2, h3, h4⟩ := zeroOf_spec E hE hz
  obtain ⟨ρ', g1, g2, g3, g4, g5⟩ := nilz_spec E ts l ρ H hR (h4 _ _ _ _) hl (.inr (.inr trivial))
  have hn' := hn _ _ (fun t ht => by rw [ext_lt t (by simp; omega), g1 t ht]) (g2.newCells _ T g4 g5) (by simp [SV.ok])
  rw [g3, h3 ρ] at hn'
  simp only [den, ext_self, Array.toArray_toList] at hn'
  unfold Oper.wp
  simp only [execOp, ho, Instr.alloc, zeroValue, typeInfo, newVar, newRow, Sem.run_bind, run_program, Result.andThen_ok, h1, h2, Sem.run_pure, run_newObj]
  exact hn'
theorem op_boxN {o : Oper} {F : Fr} {H : Hp} {T : TypeId} {x : Operand} {v : SV} (ts : List TypeId) (ho : o.op = .box T x) (hx : opd F x = some v) (hl : leavesB v.cells = true) :
    OpGood E.P o F H (.ptr (H ++ (nilz E ts v.cells H.length).2).length 0) (H ++ (nilz E ts v.cells H.length).2 ++ [.cells (nilz E ts v.cells H.length).1 T]) := by
  refine ⟨by simp, fun C ρ a w hF hR next Q hn => ?_⟩
  obtain ⟨h1, h2⟩ := opd_spec hF hx
  obtain ⟨h3, h4⟩ := cells_den ρ _ _ _ v h2 hR.hdr
  obtain ⟨ρ', g1, g2, g3, g4, g5⟩ := nilz_spec E ts v.cells ρ H hR h4 hl (.inr (.inr trivial))
  have hn' := hn _ _ (fun t ht => by rw [ext_lt t (by simp; omega), g1 t ht]) (g2.newCells _ T g4 g5) (by simp [SV.ok])
  rw [g3, ← h3] at hn'
  simp only [den, ext_self, Array.toArray_toList] at hn'
  unfold Oper.wp
  simp only [execOp, ho, Instr.box, h1, newVar, newRow, Sem.run_bind, Result.andThen_ok, Sem.run_pure, run_newObj]
  exact hn'
theorem nilz_len (ts : List TypeId) (l : List SV) (n : Nat) : True := trivial
theorem op_storeN {o : Oper} {F : Fr} {H H' : Hp} {T : TypeId} {p x : Operand} {pv v v' : SV} (ts : List TypeId) (ho : o.op = .store T p x) (hp : opd F p = some pv) (hx : opd F x = some v) (hl : leavesB v.cells = true)
    (hv : asV v (nilz E ts v.cells H.length).1 = some v') (hs : storeAt E (H ++ (nilz E ts v.cells H.length).2) T pv v' = some H') :
    OpGood E.P o F H (.raw undef) H' := by
  refine op_storeG E ho (by simp) (fun C ρ a w hF hR => ?_) hs
  obtain ⟨h1, h2⟩ := opd_spec hF hp
  obtain ⟨h3, h4⟩ := opd_spec hF hx
  obtain ⟨_, h5⟩ := cells_den ρ _ _ _ v h4 hR.hdr
  obtain ⟨ρ', g1, g2, g3, g4, g5⟩ := nilz_spec E ts v.cells ρ H hR h5 hl (.inr (.inr trivial))
  refine ⟨ρ', g1, g2, ⟨by rw [h1, den_agree g1 pv h2], ok_mono (by simp) pv (ok_agree g1 pv h2)⟩, ?_⟩
  unfold asV at hv
  split at hv
  · cases hv
    refine ⟨?_, by simp only [SV.ok]; exact g4⟩
    rw [h3]
    simp only [den]
    exact congrArg (fun l => Value.agg l.toArray) g3.symm
  · split at hv
    · rename_i hna _ t heq
      cases hv
      rw [heq] at g3 g4
      have hc : v.cells = [v] := by
        unfold SV.cells
        split
        · exact absurd rfl (hna _)
        · rfl
      rw [hc] at g3
      simp only [SV.okL] at g4
      refine ⟨?_, g4.1⟩
      rw [h3]
      have g3 : cell1 (.sl t) (den ρ' (.sl t)) ++ [] = cell1 v (den ρ v) ++ [] := g3
      rw [List.append_nil, List.append_nil] at g3
      have hd : cell1 v (den ρ v) = [den ρ v] ∨ ∃ κ xs n, v = .arr κ xs n := by
        cases v <;> first | exact .inl rfl | exact .inr ⟨_, _, _, rfl⟩
      rcases hd with hd | ⟨κ, xs, n, rfl⟩
      · rw [hd] at g3
        exact (List.cons.inj g3).1.symm
      · exfalso
        rw [hc] at heq
        cases ts with
        | nil => simp [nilz] at heq
        | cons t ts => simp [nilz, nilAt, isArr] at heq
    · rename_i hna _ u heq
      cases hv
      rw [heq] at g3 g4
      have hc : v.cells = [v] := by
        unfold SV.cells
        split
        · exact absurd rfl (hna _)
        · rfl
      rw [hc] at g3
      simp only [SV.okL] at g4
      refine ⟨?_, g4.1⟩
      rw [h3]
      have g3 : cell1 (.raw u) (den ρ' (.raw u)) ++ [] = cell1 v (den ρ v) ++ [] := g3
      rw [List.append_nil, List.append_nil] at g3
      have hd : cell1 v (den ρ v) = [den ρ v] ∨ ∃ κ xs n, v = .arr κ xs n := by
        cases v <;> first | exact .inl rfl | exact .inr ⟨_, _, _, rfl⟩
      rcases hd with hd | ⟨κ, xs, n, rfl⟩
      · rw [hd] at g3
        exact (List.cons.inj g3).1.symm
      · exfalso
        rw [hc] at heq
        cases ts with
        | nil => simp [nilz] at heq
        | cons t ts => simp [nilz, nilAt, isArr] at heq
    · cases hv
theorem op_nil {o : Oper} {F : Fr} {H : Hp} {e : TypeId} {κ : K} (ho : o.op = .move (.const (.slice none 0 0)) ∨ o.op = .assign (.const (.slice none 0 0))) : OpGood E.P o F H (.sl H.length) (H ++ [.seq κ [] e]) := by
  refine ⟨by simp, fun C ρ a w hF hR next Q hn => ?_⟩
  have hn' := hn _ _ ext_lt (hR.newNil κ e) (by simp [SV.ok])
  simp only [den, ext_self] at hn'
  unfold Oper.wp
  have h1 : a.eval (.const (.slice none 0 0)) = .slice none 0 0 := rfl
  rcases ho with ho | ho <;> simp only [execOp, ho, h1, Sem.run_pure] <;> exact hn'

theorem op_makeSlice {o : Oper} {F : Fr} {H : Hp} {T e : TypeId} {x y : Operand} {n : Int} {κ : K} {inf : TypeInfo} {z : List SV} {d : κ.T} (hE : EnvOk E) (ho : o.op = .makeSlice T x y) (hx : opd F x = some (.int .i64 n)) (hy : opd F y = some (.int .i64 n))
    (hT : E.P.underlying T = some (.slice e)) (hi : E.P.info? e = some inf) (hz : E.zeroOf e = some z) (hk : κ.sz = inf.size) (hd : κ.dec z = some d) (h0 : 0 ≤ n) (hb : (inf.bytes : Int) * n ≤ 281474976710656) (hm : n ≤ 4611686018427387903) :
    OpGood E.P o F H (.sl H.length) (H ++ [.seq κ (List.replicate n.toNat d) e]) := by
  refine ⟨by simp, fun C ρ a w hF hR next Q hn => ?_⟩
  obtain ⟨h1, _⟩ := opd_spec hF hx
  obtain ⟨h2, _⟩ := opd_spec hF hy
  obtain ⟨i, zv, g1, g2, g3, _⟩ := zeroOf_spec E hE hz
  rw [hi] at g1
  cases g1
  have hc : zv.cells.toList = κ.cells d := by rw [← g3 ρ]; exact dec_cells ρ κ z d hd
  have hn' := hn _ _ ext_lt (hR.newSeq κ (List.replicate n.toNat d) e (by simp [maxLen]; omega)) (by simp [SV.ok])
  simp only [den, ext_self, List.length_replicate] at hn'
  have hrun := run_make (P := E.P) w T e inf zv hT hi g2 .i64 .i64 n n h0 (Int.le_refl _) hb (by omega)
  rw [rep_cells κ d zv.cells hc, hk] at hn'
  unfold Oper.wp
  simp only [execOp, ho, h1, h2, den, Sem.run_bind, hrun, Result.andThen_ok, Sem.run_pure]
  exact hn'
end

/-- What is appended to a slice of one's own, and where it lies. -/
theorem run_append_at {P : Program} (w : World) (t ty e : TypeId) (i : TypeInfo) (z : Value) (ht : P.underlying t = some (.slice e)) (hi : P.info? e = some i) (hz : i.zero = some z)
    (hzs : z.cells.size = i.size) (hsz : 0 < i.size) (v : Value) (n : Nat) (xs : List Value) (hown : w.ownsRow 0 e i.size v n xs)
    (a : Addr) (m c : Nat) (news : List Value) (hl : news.length = m * i.size) (hnews : ∀ j u, news[j]? = some u → w.cell? (a.add j) = some u) (h1 : ∀ u ∈ news, u.oneCell' = true)
    (hm0 : 0 < m) (h63 : n + m ≤ maxLen) (hbytes : (n + m) * i.bytes ≤ 140737488355328) :
    ∃ v' w', (Builtin.append_ #[t, t] ty #[v, .slice (some a) m c]).run P w = .ok v' w' ∧ w'.ownsRow 0 e i.size v' (n + m) (xs ++ news) ∧ w.grownBy w' v.ownBlock ∧
      (∃ a k c, v' = .slice a k c) ∧ ∀ b, v'.ownBlock = some b → v.ownBlock = some b ∨ b = w.heap.size := by
  have hsmall : n + m ≤ 9223372036854775807 := by simp only [maxLen] at h63; omega
  have hlen : (xs ++ news).length = (n + m) * i.size := by rw [List.length_append, hown.1, hl, Nat.add_mul]
  have grown : ∀ (old : Nat), old < n + m → ∀ (row : Option Nat),
      (w.drew.alloc (.cells (xs.toArray ++ news.toArray ++ Builtin.zeroCells z.cells (grownCap w (n + m) old e - (n + m))) e)).ownsRow 0 e i.size
        (.slice (some ⟨w.heap.size, 0, none⟩) (n + m) (grownCap w (n + m) old e)) (n + m) (xs ++ news) ∧
      w.grownBy (w.drew.alloc (.cells (xs.toArray ++ news.toArray ++ Builtin.zeroCells z.cells (grownCap w (n + m) old e - (n + m))) e)) row := by
    intro old ho row
    have hge := grownCap_ge w (n + m) old e
    have hcm : grownCap w (n + m) old e ≤ maxLen := grownCap_le_maxLen w (n + m) old e h63
    refine ⟨⟨hlen, .inr ⟨w.heap.size, _, _, rfl, Nat.zero_le _, heap_alloc_new w.drew _, hge, hcm, ?_, ?_⟩⟩, ⟨rfl, rfl, rfl, by simp, fun k hk _ => heap_alloc_old w.drew _ hk⟩⟩
    · simp only [Array.size_append, List.size_toArray, size_zeroCells, hzs, hown.1, hl, ← Nat.add_mul]
      congr 1
      omega
    · simp only [Array.toList_append, List.append_assoc]
      rw [← List.append_assoc, ← hlen]
      exact List.take_left
  rcases hown.2 with ⟨rfl, rfl⟩ | ⟨g, cap, cur, rfl, hbg, hg, hnc, hcm, hcs, htake⟩
  · have hx : xs = [] := List.eq_nil_of_length_eq_zero (by simpa using hown.1)
    subst hx
    have hr := run_append_nil (P := P) w t ty e i z ht hi hz a m c news hl hnews (by omega) (by omega) (by have hb := hbytes; simp only [Nat.zero_add] at hb; omega)
    have hgr := grown 0 (by omega) (Value.ownBlock (.slice none 0 0))
    simp only [Nat.zero_add, List.nil_append, Array.empty_append] at hgr ⊢
    exact ⟨_, _, hr, hgr.1, hgr.2, ⟨_, _, _, rfl⟩, fun b hb => .inr (by simpa [Value.ownBlock] using hb.symm)⟩
  · by_cases hroom : n + m ≤ cap
    · have hfit : n * i.size + news.length ≤ cur.size := by rw [hl, hcs, ← Nat.add_mul]; exact Nat.mul_le_mul_right _ hroom
      have hr := run_append_room (P := P) w t ty e i ht hi g n cap cur hg a m c news hl hnews h1 hroom hfit
      refine ⟨_, _, hr, ⟨hlen, .inr ⟨g, cap, _, rfl, hbg, setRow_heap w g cur _ e _ hg, hroom, hcm, ?_, ?_⟩⟩, ⟨rfl, rfl, rfl, by simp, fun k _ hk => setRow_other w g k _ (fun e => hk (by simp [Value.ownBlock, e]))⟩, ⟨_, _, _, rfl⟩, fun b hb => .inl hb⟩
      · simp only [List.size_toArray, List.length_append, List.length_take, List.length_drop, Array.length_toList]
        omega
      · rw [htake, ← hlen]
        exact List.take_left
    · have holds : ∀ j u, xs[j]? = some u → w.cell? ((⟨g, 0, none⟩ : Addr).add j) = some u := hown.cells (g := g) rfl
      have hr := run_append_grow (P := P) w t ty e i z ht hi hz ⟨g, 0, none⟩ n cap xs hown.1 holds a m c news hl hnews (by omega) (by omega) (growslice_fits (by omega) hbytes)
      have hgr := grown cap (by omega) (Value.ownBlock (.slice (some ⟨g, 0, none⟩) n cap))
      exact ⟨_, _, hr, hgr.1, hgr.2, ⟨_, _, _, rfl⟩, fun b hb => .inr (by simpa [Value.ownBlock] using hb.symm)⟩

theorem run_append_zero {P : Program} (w : World) (t ty e : TypeId) (i : TypeInfo) (ht : P.underlying t = some (.slice e)) (hi : P.info? e = some i) (b : Option Addr) (n cap : Nat) (hn : n ≤ cap) (ao : Option Addr) (c : Nat) :
    (Builtin.append_ #[t, t] ty #[.slice b n cap, .slice ao 0 c]).run P w = .ok (.slice b n cap) w := by
  cases ao <;> cases b <;> simp [Builtin.append_, run_underlying ht, sizeOf, typeInfo, hi, Builtin.lenOf, Builtin.firstCells, loadCells, loadCellsFrom, hn, storeCells]
/-- A slice has grown: the old one is dead, the new one stands behind all others. -/
theorem Rel.grow {C : Cx} {ρ : Nat → Tk} {H : Hp} {w w' : World} (h : Rel C ρ H w) {t : Nat} {κ : K} {xs ys : List κ.T} {e : TypeId} (ht : H[t]? = some (.seq κ xs e)) {v' : Value}
    (hown : w'.ownsRow 0 e κ.sz v' ys.length (ys.flatMap κ.cells)) (hg : w.grownBy w' (ρ t).hdr.ownBlock) (hv : ∃ a k c, v' = .slice a k c) (hb : ∀ b, v'.ownBlock = some b → (ρ t).hdr.ownBlock = some b ∨ b = w.heap.size) :
    Rel C (ext ρ H.length ⟨(v'.ownBlock).getD 0, v'⟩) (H.set t .dead ++ [.seq κ ys e]) w' := by
  have hlt := (List.getElem?_eq_some_iff.1 ht).1
  have hlen : (H.set t .dead).length = H.length := List.length_set ..
  have hblk0 : ∀ b, (ρ t).hdr.ownBlock = some b → blkOf ρ H t = some b := fun b hb => by rw [blkOf_eq ht]; exact hb
  -- what stood there
  have hold : ∀ s o, s < H.length → (H.set t .dead ++ [.seq κ ys e])[s]? = some o → (s = t ∧ o = .dead) ∨ (s ≠ t ∧ H[s]? = some o) := fun s o hs ho => by
    rw [List.getElem?_append_left (by rw [hlen]; exact hs)] at ho
    by_cases e : t = s
    · subst e
      rw [List.getElem?_set_self hlt] at ho
      cases ho; exact .inl ⟨rfl, rfl⟩
    · rw [List.getElem?_set_ne e] at ho
      exact .inr ⟨Ne.symm e, ho⟩
  have hnew : ∀ s o, ¬ s < H.length → (H.set t .dead ++ [.seq κ ys e])[s]? = some o → s = H.length ∧ o = .seq κ ys e := fun s o hs ho => by
    have hl := (List.getElem?_eq_some_iff.1 ho).1
    simp at hl
    have : s = H.length := by omega
    subst this
    rw [List.getElem?_append_right (by rw [hlen]; exact Nat.le_refl _), hlen] at ho
    simp at ho
    exact ⟨rfl, ho.symm⟩
  have hbk : ∀ s b, blkOf (ext ρ H.length ⟨(v'.ownBlock).getD 0, v'⟩) (H.set t .dead ++ [.seq κ ys e]) s = some b →
      (s < H.length ∧ s ≠ t ∧ blkOf ρ H s = some b) ∨ (s = H.length ∧ v'.ownBlock = some b) := fun s b hb => by
    obtain ⟨o, ho, h2⟩ := blkOf_get hb
    by_cases hs : s < H.length
    · rcases hold s o hs ho with ⟨_, rfl⟩ | ⟨hne, ho'⟩
      · simp [objBlk] at h2
      · refine .inl ⟨hs, hne, ?_⟩
        rw [blkOf_eq ho', ← h2, ext_lt s hs]
    · obtain ⟨rfl, rfl⟩ := hnew s o hs ho
      refine .inr ⟨rfl, ?_⟩
      rw [ext_self] at h2
      exact h2
  refine ⟨?_, ?_, ?_, ?_, ?_, ?_, ?_, ?_, ?_, ?_, h.fit⟩
  · intro s o ho
    by_cases hs : s < H.length
    · rcases hold s o hs ho with ⟨_, rfl⟩ | ⟨hne, ho'⟩
      · trivial
      · rw [ext_lt s hs]
        refine (h.obj s o ho').agree (C := C) (n := H.length) (h.ok s o ho') ext_lt fun b hb' => ?_
        have hb2 : blkOf ρ H s = some b := by rw [blkOf_eq ho']; exact hb'
        refine hg.block b (blk_lt h hb2) fun hc => hne (h.sep s t b hb2 (hblk0 b hc.symm))
    · obtain ⟨rfl, rfl⟩ := hnew s o hs ho
      rw [ext_self]
      exact ⟨hown, fun b hb => by simp [hb]⟩
  · intro s s' b h1 h2
    rcases hbk s b h1 with ⟨g1, g2, g3⟩ | ⟨g1, g2⟩ <;> rcases hbk s' b h2 with ⟨g4, g5, g6⟩ | ⟨g4, g5⟩
    · exact h.sep s s' b g3 g6
    · rcases hb b g5 with hc | hc
      · exact absurd (h.sep s t b g3 (hblk0 b hc)) g2
      · have := blk_lt h g3; omega
    · rcases hb b g2 with hc | hc
      · exact absurd (h.sep s' t b g6 (hblk0 b hc)) g5
      · have := blk_lt h g6; omega
    · omega
  · intro s b h1
    rcases hbk s b h1 with ⟨_, _, g3⟩ | ⟨_, g2⟩
    · exact h.own s b g3
    · rcases hb b g2 with hc | hc
      · exact h.own t b (hblk0 b hc)
      · exact h.fit.new b (by rw [hc]; exact h.size)
  · intro s
    by_cases hs : s = H.length
    · subst hs; rw [ext_self]; exact hv
    · unfold ext; rw [if_neg hs]; exact h.hdr s
  · intro b h1 h2
    rw [hg.block b (Nat.lt_of_lt_of_le h1 h.size) fun hc => h2 (h.own t b (hblk0 b hc.symm))]
    exact h.keep b h1 h2
  · exact Nat.le_trans h.size hg.size
  · rw [hg.os]; exact h.os
  · rw [hg.tape]; exact h.tape
  · rw [hg.output]; exact h.output
  · intro s o ho
    rw [List.length_append, List.length_singleton, hlen]
    by_cases hs : s < H.length
    · rcases hold s o hs ho with ⟨_, rfl⟩ | ⟨_, ho'⟩
      · trivial
      · exact SObj.ok_mono (by omega) (SObj.ok_agree ext_lt (h.ok s o ho'))
    · obtain ⟨rfl, rfl⟩ := hnew s o hs ho
      trivial
end Go.Proofs.Ytkjellhkamfciaa.Sx
