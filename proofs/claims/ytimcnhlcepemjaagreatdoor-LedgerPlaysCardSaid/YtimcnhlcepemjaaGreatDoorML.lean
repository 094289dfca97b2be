
/- A row of stakes that is appended to; map and list say the same. -/
import Derived.Test.YtimcnhlcepemjaaGreatDoorMK
import Derived.Deep.AppendLies

/- A row of stakes that is appended to. -/
namespace Go.Proofs.YtimcnhlcepemjaaGreatDoor
open Go.RowKit

/-- Numbers without leading noughts stay. -/
def LimK (w w' : World) : Prop := ∀ (a : Option Addr) (n c x : Nat), Sl w a n c (lim x) → Sl w' a n c (lim x)
theorem LimK.refl (w : World) : LimK w w := fun _ _ _ _ h => h
theorem LimK.trans {a b c : World} (h : LimK a b) (k : LimK b c) : LimK a c := fun p n d x r => k p n d x (h p n d x r)
theorem Ln.limK {w w' : World} (h : Ln w w') : LimK w w' := fun _ _ _ _ r => r.ln h
theorem St6.limK {w w' : World} {a1 : Option Addr} {m1 c1 : Nat} {b1 : Option Addr} {n1 d1 : Nat} {a2 : Option Addr} {m2 c2 : Nat} {b2 : Option Addr} {n2 d2 : Nat} {s : Stk} (h : St6 w a1 m1 c1 b1 n1 d1 a2 m2 c2 b2 n2 d2 s) (L : LimK w w') : St6 w' a1 m1 c1 b1 n1 d1 a2 m2 c2 b2 n2 d2 s :=
  ⟨L _ _ _ _ h.s1, L _ _ _ _ h.s2, L _ _ _ _ h.s3, L _ _ _ _ h.s4⟩
theorem Led.limK {w w' : World} {b N : Nat} {M : Stakes} (h : Led w b N M) (L : LimK w w') (hb : w'.heap[b]? = w.heap[b]?) : Led w' b N M := by
  obtain ⟨D, h⟩ := h
  obtain ⟨es, c, h1, h2⟩ := h.own
  refine ⟨D, ⟨es, c, by rw [hb]; exact h1, h2⟩, h.has, fun v d s hv hd hs => ?_⟩
  obtain ⟨val, h1, a1, m1, c1, b1, n1, d1, a2, m2, c2, b2, n2, d2, rfl, h6⟩ := h.at_ v d s hv hd hs
  exact ⟨_, h1, a1, m1, c1, b1, n1, d1, a2, m2, c2, b2, n2, d2, rfl, h6.limK L⟩

abbrev zStk8 : Value := .agg #[.int .u64 0, .int .u64 0, .slice none 0 0, .slice none 0 0, .slice none 0 0, .slice none 0 0, .int .i64 0, .int .i64 0]
theorem infoStk : (Tryz.prog.info? 81).map (fun i => (i.zero, i.size, i.bytes)) = some (some zStk8, 8, 128) := by kernel_rfl
/-- Cells that read as these stakes. -/
def Ents (w : World) (look : Nat → Option Value) (es : List Ent) : Prop :=
  ∀ i e, es[i]? = some e → e.v < B64 ∧ e.d < B64 ∧ ∃ a1 m1 c1 b1 n1 d1 a2 m2 c2 b2 n2 d2, (∀ j, j < 8 → look (8 * i + j) = (entCells e.v e.d a1 m1 c1 b1 n1 d1 a2 m2 c2 b2 n2 d2 e.s.p e.s.k)[j]?) ∧ St6 w a1 m1 c1 b1 n1 d1 a2 m2 c2 b2 n2 d2 e.s
theorem Ents.limK {w w' : World} {look : Nat → Option Value} {es : List Ent} (h : Ents w look es) (L : LimK w w') : Ents w' look es := fun i e he => by
  obtain ⟨x, y, a1, m1, c1, b1, n1, d1, a2, m2, c2, b2, n2, d2, u, v⟩ := h i e he
  exact ⟨x, y, a1, m1, c1, b1, n1, d1, a2, m2, c2, b2, n2, d2, u, v.limK L⟩
theorem Ents.look {w : World} {look look' : Nat → Option Value} {es : List Ent} (h : Ents w look es) (e : ∀ j, j < 8 * es.length → look' j = look j) : Ents w look' es := fun i e' he => by
  obtain ⟨x, y, a1, m1, c1, b1, n1, d1, a2, m2, c2, b2, n2, d2, u, v⟩ := h i e' he
  have hi := (List.getElem?_eq_some_iff.1 he).1
  exact ⟨x, y, a1, m1, c1, b1, n1, d1, a2, m2, c2, b2, n2, d2, fun j hj => by rw [e _ (by omega)]; exact u j hj, v⟩
theorem Ents.append {w : World} {look : Nat → Option Value} {es xs : List Ent} (h : Ents w look es) (k : Ents w (fun j => look (8 * es.length + j)) xs) : Ents w look (es ++ xs) := fun i e he => by
  by_cases hi : i < es.length
  · rw [List.getElem?_append_left hi] at he
    exact h i e he
  · rw [List.getElem?_append_right (by omega)] at he
    obtain ⟨x, y, a1, m1, c1, b1, n1, d1, a2, m2, c2, b2, n2, d2, u, v⟩ := k _ e he
    refine ⟨x, y, a1, m1, c1, b1, n1, d1, a2, m2, c2, b2, n2, d2, fun j hj => ?_, v⟩
    have := u j hj
    simp only at this
    rw [show 8 * es.length + (8 * (i - es.length) + j) = 8 * i + j by omega] at this
    exact this
theorem RRow.ents {w : World} {g cap : Nat} {es : List Ent} (h : RRow w g cap es) : ∃ cur : Array Value, w.heap[g]? = some (.cells cur 81 (0, 0)) ∧ cur.size = 8 * cap ∧ es.length ≤ cap ∧ Ents w (fun j => cur[j]?) es ∧ (∀ i, es.length ≤ i → i < cap → At8 cur i zeroCells8) := h.ex
theorem zero8_at (k j : Nat) (hj : j < k * 8) : (Builtin.zeroCells zStk8.cells k)[j]? = zeroCells8[j % 8]? := by
  unfold Builtin.zeroCells
  have hs : zStk8.cells.size = 8 := rfl
  rw [Array.getElem?_map, Array.getElem?_range, if_pos (by rw [hs]; exact hj)]
  simp only [Option.map_some, hs]
  have h8 : j % 8 = 0 ∨ j % 8 = 1 ∨ j % 8 = 2 ∨ j % 8 = 3 ∨ j % 8 = 4 ∨ j % 8 = 5 ∨ j % 8 = 6 ∨ j % 8 = 7 := by omega
  rcases h8 with e | e | e | e | e | e | e | e <;> rw [e] <;> rfl
theorem lim_last {x : Nat} (h : lim x ≠ []) : (lim x).getD ((lim x).length - 1) 0 ≠ 0 := by
  have := nrm_digs B64_two x
  unfold Nrm at this
  intro c
  apply this
  show (lim x).getLast? = some 0
  rw [List.getLast?_eq_getElem?]
  have hl : 0 < (lim x).length := List.length_pos_iff.2 h
  rw [List.getD_eq_getElem?_getD, List.getElem?_eq_getElem (by omega)] at c
  rw [List.getElem?_eq_getElem (by omega)]
  exact congrArg some c
/-- No number without leading noughts lies in a place of noughts. -/
theorem no_zero {w : World} {g N m off x : Nat} {b : Nat} (hl : (lim x).length = m) (hc : ∀ i, i < m → w.cell? ⟨b, off + i, none⟩ = some (.int .u64 ((lim x).getD i 0))) (hb : b = g)
    (hz : ∀ j, j < 8 → w.cell? ⟨g, 8 * N + j, none⟩ = zeroCells8[j]?) {i : Nat} (hi : i < m) (h1 : 8 * N ≤ off + i) (h2 : off + i < 8 * N + 8) : False := by
  subst hb
  have h0 := hc i hi
  have z0 := hz 0 (by decide); have z1 := hz 1 (by decide)
  have z2 := hz 2 (by decide); have z3 := hz 3 (by decide); have z4 := hz 4 (by decide); have z5 := hz 5 (by decide); have z6 := hz 6 (by decide); have z7 := hz 7 (by decide)
  have hcase : off + i = 8 * N + 0 ∨ off + i = 8 * N + 1 ∨ off + i = 8 * N + 2 ∨ off + i = 8 * N + 3 ∨ off + i = 8 * N + 4 ∨ off + i = 8 * N + 5 ∨ off + i = 8 * N + 6 ∨ off + i = 8 * N + 7 := by omega
  have hlast : ∀ i', i' + 1 = m → (lim x).getD i' 0 ≠ 0 := fun i' hi' => by
    have := lim_last (x := x) (fun c => by rw [c] at hl; simp at hl; omega)
    rw [hl] at this
    rw [show i' = m - 1 by omega]
    exact this
  have zero1 : ∀ i', i' < m → off + i' = 8 * N + 1 → False := fun i' hi' e => by
    have h1 := hc i' hi'
    rw [e, z1] at h1
    have h2 : (lim x).getD i' 0 = 0 := by
      have := Option.some.inj h1
      injection this with _ q
      omega
    by_cases hm : i' + 1 = m
    · exact hlast i' hm h2
    · have h3 := hc (i' + 1) (by omega)
      rw [show off + (i' + 1) = 8 * N + 2 by omega, z2] at h3
      cases h3
  rcases hcase with e | e | e | e | e | e | e | e
  · rw [e, z0] at h0
    have h2 : (lim x).getD i 0 = 0 := by
      have := Option.some.inj h0
      injection this with _ q
      omega
    by_cases hm : i + 1 = m
    · exact hlast i hm h2
    · exact zero1 (i + 1) (by omega) (by omega)
  · exact zero1 i hi e
  all_goals first
    | (rw [e, z2] at h0; cases h0)
    | (rw [e, z3] at h0; cases h0)
    | (rw [e, z4] at h0; cases h0)
    | (rw [e, z5] at h0; cases h0)
    | (rw [e, z6] at h0; cases h0)
    | (rw [e, z7] at h0; cases h0)
/-- Of a block that is written over, only noughts are lost, with no number behind them. -/
theorem limK_row {w w' : World} {g n k : Nat} (hg : w.grownBy w' (some g))
    (hz : ∀ t, t < k → ∀ j, j < 8 → w.cell? ⟨g, 8 * (n + t) + j, none⟩ = zeroCells8[j]?) (hs : ∀ i, (i < 8 * n ∨ 8 * n + 8 * k ≤ i) → ∀ v, w.cell? ⟨g, i, none⟩ = some v → w'.cell? ⟨g, i, none⟩ = some v) : LimK w w' := fun a m c x h => by
  refine ⟨h.len, h.cap, h.big, h.bd, ?_⟩
  rcases h.at_ with h1 | ⟨b, off, rfl, hc⟩
  · exact .inl h1
  refine .inr ⟨b, off, rfl, fun i hi => ?_⟩
  have h0 := hc i hi
  by_cases hb : b = g
  · by_cases hr : off + i < 8 * n ∨ 8 * n + 8 * k ≤ off + i
    · subst hb; exact hs _ hr _ h0
    · exact (no_zero (N := n + (off + i - 8 * n) / 8) h.len hc hb (hz ((off + i - 8 * n) / 8) (by omega)) hi (by omega) (by omega)).elim
  · rw [hg.cell_far ⟨b, off + i, none⟩ (World.block_lt_of_cell? w _ h0) (fun e => hb (Option.some.inj e))]
    exact h0

/-- A slice of stakes, nil or in a row. -/
def RSt (w : World) (o : Option Addr) (n c : Nat) (es : List Ent) : Prop :=
  es.length = n ∧ c ≤ 9223372036854775807 ∧ ((o = none ∧ n = 0 ∧ c = 0) ∨ ∃ g, o = some ⟨g, 0, none⟩ ∧ RRow w g c es)

theorem RRow.of {w : World} {g cap : Nat} {es : List Ent} {cur : Array Value} (h1 : w.heap[g]? = some (.cells cur 81 (0, 0))) (h2 : cur.size = 8 * cap) (h3 : es.length ≤ cap) (h4 : Ents w (fun j => cur[j]?) es)
    (h5 : ∀ i, es.length ≤ i → i < cap → At8 cur i zeroCells8) : RRow w g cap es := ⟨⟨cur, h1, h2, h3, h4, h5⟩⟩
/-- A new row: what was there, what is appended, noughts. -/
theorem rowS_new {w W : World} {es xs : List Ent} {olds news : List Value} {K cap : Nat} (ho : olds.length = 8 * es.length) (hn : news.length = 8 * xs.length) (hoe : Ents w (fun j => olds[j]?) es) (hne : Ents w (fun j => news[j]?) xs) (hcap : es.length + xs.length ≤ cap) (hK : K = cap - (es.length + xs.length))
    (E : Ext w W) : RRow (W.alloc (.cells (olds.toArray ++ news.toArray ++ Builtin.zeroCells zStk8.cells K) 81)) W.heap.size cap (es ++ xs) := by
  have hz : (Builtin.zeroCells zStk8.cells K).size = K * 8 := by unfold Builtin.zeroCells; rw [Array.size_map, Array.size_range]; rfl
  have E2 : Ext w (W.alloc (.cells (olds.toArray ++ news.toArray ++ Builtin.zeroCells zStk8.cells K) 81)) := E.alloc _
  have L2 : LimK w (W.alloc (.cells (olds.toArray ++ news.toArray ++ Builtin.zeroCells zStk8.cells K) 81)) := E2.lk.ln.limK
  refine RRow.of (heap_alloc_new W _) ?_ (by rw [List.length_append]; exact hcap) ?_ ?_
  · rw [Array.size_append, Array.size_append, hz, List.size_toArray, List.size_toArray, ho, hn, hK]
    omega
  · refine Ents.append ((hoe.limK L2).look fun j hj => ?_) ((hne.limK L2).look fun j hj => ?_)
    · rw [Array.getElem?_append_left (by simp; omega), Array.getElem?_append_left (by simp; omega)]
      simp
    · rw [Array.getElem?_append_left (by simp; omega), Array.getElem?_append_right (by simp; omega)]
      simp only [List.size_toArray, ho, List.getElem?_toArray]
      congr 1
      omega
  · intro i h1 h2 j hj
    rw [List.length_append] at h1
    rw [Array.getElem?_append_right (by simp; omega)]
    simp only [Array.size_append, List.size_toArray, ho, hn]
    rw [zero8_at _ _ (by rw [hK]; omega)]
    congr 1
    omega
theorem oneCell_ents {w : World} {news : List Value} {xs : List Ent} (h : Ents w (fun j => news[j]?) xs) (hn : news.length = 8 * xs.length) : ∀ u ∈ news, u.oneCell' = true := by
  intro u hu
  obtain ⟨j, hj⟩ := List.mem_iff_getElem?.1 hu
  have hjl := (List.getElem?_eq_some_iff.1 hj).1
  obtain ⟨e, he⟩ : ∃ e, xs[j / 8]? = some e := ⟨_, List.getElem?_eq_getElem (by omega)⟩
  obtain ⟨-, -, a1, m1, c1, b1, n1, d1, a2, m2, c2, b2, n2, d2, hl, -⟩ := h _ e he
  have h1 := hl (j % 8) (by omega)
  simp only at h1
  rw [show 8 * (j / 8) + j % 8 = j by omega, hj] at h1
  have h8 : j % 8 = 0 ∨ j % 8 = 1 ∨ j % 8 = 2 ∨ j % 8 = 3 ∨ j % 8 = 4 ∨ j % 8 = 5 ∨ j % 8 = 6 ∨ j % 8 = 7 := by omega
  rcases h8 with e | e | e | e | e | e | e | e <;> rw [e] at h1 <;> cases h1 <;> rfl
theorem setRowS_by (w : World) (g : Nat) (row : Array Value) : w.grownBy (w.setRow g row) (some g) :=
  ⟨rfl, rfl, rfl, by simp [World.setRow], fun k _ hk => setRow_other w g k row (fun e => hk (by rw [e]))⟩
set_option maxRecDepth 100000 in
theorem app_run {w : World} {o : Option Addr} {n c : Nat} {es : List Ent} (hs : RSt w o n c es) {ad : Addr} {m c2 : Nat} {news : List Value} {xs : List Ent} (hl : news.length = 8 * m) (hxl : xs.length = m)
    (hnews : ∀ j u, news[j]? = some u → w.cell? (ad.add j) = some u) (hx : Ents w (fun j => news[j]?) xs) (h0 : 0 < m) (hsz : n + m ≤ 1000000) (ty : TypeId) :
    ∃ g' c' w', (Builtin.append_ #[28, 28] ty #[.slice o n c, .slice (some ad) m c2]).run Tryz.prog w = .ok (.slice (some ⟨g', 0, none⟩) (n + m) c') w' ∧
      RSt w' (some ⟨g', 0, none⟩) (n + m) c' (es ++ xs) ∧ LimK w w' ∧ g' < w'.heap.size ∧ ((o = some ⟨g', 0, none⟩ ∧ w.grownBy w' (some g')) ∨ (w.heap.size ≤ g' ∧ Ext w w')) := by
  obtain ⟨i, hi, hq⟩ := Option.map_eq_some_iff.1 infoStk
  have hz1 : i.zero = some zStk8 := (Prod.mk.inj hq).1
  have hz2 : i.size = 8 := (Prod.mk.inj (Prod.mk.inj hq).2).1
  have hz3 : i.bytes = 128 := (Prod.mk.inj (Prod.mk.inj hq).2).2
  have hu := Tryz.underlying28
  obtain ⟨hlen, hbig, hat⟩ := hs
  rcases hat with ⟨rfl, rfl, rfl⟩ | ⟨g, rfl, hrow⟩
  · obtain rfl : es = [] := List.eq_nil_of_length_eq_zero hlen
    have hr := run_append_nil (P := Tryz.prog) w _ ty _ i zStk8 hu hi hz1 ad m c2 news (by rw [hz2]; omega) hnews h0 (by omega) (by rw [hz3]; omega)
    have hge := grownCap_ge w m 0 81
    have hle := grownCap_le_maxLen w m 0 81 (by unfold maxLen; omega)
    have hE : Ext w (w.drew.alloc (.cells (news.toArray ++ Builtin.zeroCells zStk8.cells (grownCap w m 0 81 - m)) 81)) := (Ext.refl w).drew.alloc _
    have hrow := rowS_new (w := w) (W := w.drew) (es := []) (xs := xs) (olds := []) (news := news) (K := grownCap w m 0 81 - m) (cap := grownCap w m 0 81) rfl (by omega) (fun i e h => by cases h) hx (by simp; omega) (by simp; omega) (Ext.refl w).drew
    rw [show ([] : List Value).toArray ++ news.toArray = news.toArray by simp] at hrow
    rw [Nat.zero_add]
    exact ⟨_, _, _, hr, ⟨by simp; omega, by unfold maxLen at hle; omega, .inr ⟨_, rfl, hrow⟩⟩, hE.lk.ln.limK, by rw [alloc_size]; exact Nat.lt_succ_self _, .inr ⟨Nat.le_refl _, hE⟩⟩
  · obtain ⟨cur, r1, r2, r3, r4, r5⟩ := hrow.ents
    by_cases hroom : n + m ≤ c
    · have hr := run_append_room (P := Tryz.prog) w _ ty _ i hu hi g n c cur r1 ad m c2 news (by rw [hz2]; omega) hnews (oneCell_ents hx (by omega)) hroom (by rw [hz2]; omega)
      rw [hz2] at hr
      obtain ⟨row, hrow'⟩ : ∃ r, (cur.toList.take (n * 8) ++ news ++ cur.toList.drop (n * 8 + news.length)).toArray = r := ⟨_, rfl⟩
      rw [hrow'] at hr
      have hg : w.grownBy (w.setRow g row) (some g) := setRowS_by w g row
      have hnew : (w.setRow g row).heap[g]? = some (.cells row 81 (0, 0)) := setRow_heap w g cur row _ _ r1
      have hlook : ∀ j, row[j]? = if j < 8 * n then cur[j]? else if j < 8 * n + 8 * m then news[j - 8 * n]? else cur[j]? := fun j => by
        rw [← hrow', List.getElem?_toArray]
        split
        · rw [List.getElem?_append_left (by simp; omega), List.getElem?_append_left (by simp; omega), List.getElem?_take, if_pos (by omega), Array.getElem?_toList]
        · split
          · rw [List.getElem?_append_left (by simp; omega), List.getElem?_append_right (by simp; omega)]
            congr 1
            simp
            omega
          · rw [List.getElem?_append_right (by simp; omega), List.getElem?_drop, Array.getElem?_toList]
            congr 1
            simp
            omega
      have hzero : ∀ t, t < m → ∀ j, j < 8 → w.cell? ⟨g, 8 * (n + t) + j, none⟩ = zeroCells8[j]? := fun t ht j hj => by
        rw [cell_of_row _ _ _ _ _ _ r1]
        exact r5 (n + t) (by omega) (by omega) j hj
      have L : LimK w (w.setRow g row) := limK_row hg hzero fun j hj v hv => by
        rw [cell_of_row _ _ _ _ _ _ r1] at hv
        rw [cell_of_row _ _ _ _ _ _ hnew, hlook]
        split
        · exact hv
        · rw [if_neg (by omega)]; exact hv
      refine ⟨g, c, _, hr, ⟨by simp; omega, hbig, .inr ⟨g, rfl, RRow.of hnew ?_ (by simp; omega) ?_ ?_⟩⟩, L, (Array.getElem?_eq_some_iff.1 hnew).1, .inl ⟨rfl, hg⟩⟩
      · rw [← hrow']
        simp
        omega
      · refine Ents.append ((r4.limK L).look fun j hj => ?_) ((hx.limK L).look fun j hj => ?_)
        · rw [hlook, if_pos (by omega)]
        · rw [hlook, if_neg (by omega), if_pos (by omega)]
          congr 1
          omega
      · intro k h1 h2 j hj
        simp at h1
        rw [hlook, if_neg (by omega), if_neg (by omega)]
        exact r5 k (by omega) h2 j hj
    · have holds : ∀ j u, (cur.toList.take (8 * n))[j]? = some u → w.cell? ((⟨g, 0, none⟩ : Addr).add j) = some u := fun j u hu => by
        rw [Addr.add_lit, cell_of_row _ _ _ _ _ _ r1, Nat.zero_add]
        rw [List.getElem?_take] at hu
        split at hu
        · rw [← Array.getElem?_toList]; exact hu
        · cases hu
      have hol : (cur.toList.take (8 * n)).length = 8 * n := by simp; omega
      have hr := run_append_grow (P := Tryz.prog) w _ ty _ i zStk8 hu hi hz1 ⟨g, 0, none⟩ n c (cur.toList.take (8 * n)) (by rw [hz2, hol]; omega) holds ad m c2 news (by rw [hz2]; omega) hnews (by omega) (by omega) (growslice_fits (by omega) (by rw [hz3]; omega))
      have hge := grownCap_ge w (n + m) c 81
      have hle := grownCap_le_maxLen w (n + m) c 81 (by unfold maxLen; omega)
      have hE : Ext w (w.drew.alloc (.cells ((cur.toList.take (8 * n)).toArray ++ news.toArray ++ Builtin.zeroCells zStk8.cells (grownCap w (n + m) c 81 - (n + m))) 81)) := (Ext.refl w).drew.alloc _
      have hoe : Ents w (fun j => (cur.toList.take (8 * n))[j]?) es := r4.look fun j hj => by
        rw [List.getElem?_take, if_pos (by omega), Array.getElem?_toList]
      have hrow := rowS_new (w := w) (W := w.drew) (es := es) (xs := xs) (olds := cur.toList.take (8 * n)) (news := news) (K := grownCap w (n + m) c 81 - (n + m)) (cap := grownCap w (n + m) c 81) (by rw [hol]; omega) (by omega) hoe hx (by omega) (by omega) (Ext.refl w).drew
      exact ⟨_, _, _, hr, ⟨by simp; omega, by unfold maxLen at hle; omega, .inr ⟨_, rfl, hrow⟩⟩, hE.lk.ln.limK, by rw [alloc_size]; exact Nat.lt_succ_self _, .inr ⟨Nat.le_refl _, hE⟩⟩
end Go.Proofs.YtimcnhlcepemjaaGreatDoor

/- The program's ledger and the document's list say the same: what each step leaves. -/
namespace Go.Proofs.YtimcnhlcepemjaaGreatDoor
open Go.RowKit

/-- The same fraction; on the list's side it is reduced. -/
def Same (q r : Nat × Nat) : Prop := Can r ∧ (q = r ∨ (q = (0, 0) ∧ r = (0, 1)))
theorem Same.tq {q r : Nat × Nat} (h : Same q r) : tQ q = tQ r := by
  rcases h.2 with rfl | ⟨rfl, rfl⟩
  · rfl
  · rw [tQ_nil, tQ_one]
theorem Same.can {q r : Nat × Nat} (h : Same q r) : canQ q = r := Can.eq (can_canQ q) h.1 (by rw [tQ_can, h.tq])
theorem Same.sz {q r : Nat × Nat} (h : Same q r) : sz q = sz r := by
  rcases h.2 with rfl | ⟨rfl, rfl⟩
  · rfl
  · rw [sz_nil, sz_one]
theorem Same.of {q r : Nat × Nat} (h : Can q) (k : Can r) (e : tQ q = tQ r) : Same q r := ⟨k, .inl (Can.eq h k e)⟩
theorem Same.zero : Same (0, 0) (0, 1) := ⟨can_one, .inr ⟨rfl, rfl⟩⟩
structure SameS (s t : Stk) : Prop where
  h : Same s.h t.h
  o : Same s.o t.o
  p : s.p = t.p
  k : s.k = t.k
def ekey (e : Ent) : Nat × Nat := (e.v, e.d)
/-- The map and the list say the same. -/
structure Cpl (M : Stakes) (es : List Ent) : Prop where
  nd : (es.map ekey).Nodup
  bd : ∀ e ∈ es, e.v < B64 ∧ e.d < B64
  of_ : ∀ e ∈ es, ∃ s, M e.v e.d = some s ∧ SameS s e.s
  to_ : ∀ v d s, M v d = some s → ∃ e ∈ es, e.v = v ∧ e.d = d
theorem Cpl.nil : Cpl noStakes [] := ⟨List.nodup_nil, (fun _ h => by cases h), (fun _ h => by cases h), (fun _ _ _ h => by cases h)⟩
theorem isAt_iff {v d : Nat} {e : Ent} : isAt v d e = true ↔ e.v = v ∧ e.d = d := by
  unfold isAt; simp
theorem Cpl.look {M : Stakes} {es : List Ent} (h : Cpl M es) (v d : Nat) : (M v d = none ∧ rgot es v d = none) ∨ ∃ s t, M v d = some s ∧ rgot es v d = some t ∧ SameS s t := by
  unfold rgot
  cases hf : es.find? (isAt v d) with
  | none =>
    left
    refine ⟨?_, rfl⟩
    cases hm : M v d with
    | none => rfl
    | some s =>
      obtain ⟨e, he, e1, e2⟩ := h.to_ v d s hm
      have := List.find?_eq_none.1 hf e he
      exact absurd (isAt_iff.2 ⟨e1, e2⟩) this
  | some e =>
    right
    have h1 := List.mem_of_find?_eq_some hf
    have h2 := isAt_iff.1 (List.find?_some hf)
    obtain ⟨s, h3, h4⟩ := h.of_ e h1
    rw [h2.1, h2.2] at h3
    exact ⟨s, e.s, h3, rfl, h4⟩
theorem Cpl.ix {M : Stakes} {es : List Ent} (h : Cpl M es) (v d : Nat) : (M v d = none ∧ ixOf es v d = none) ∨ ∃ i e s, ixOf es v d = some i ∧ es[i]? = some e ∧ e.v = v ∧ e.d = d ∧ M v d = some s ∧ SameS s e.s := by
  cases hi : ixOf es v d with
  | none =>
    left
    refine ⟨?_, rfl⟩
    rcases h.look v d with ⟨h1, -⟩ | ⟨s, t, -, h2, -⟩
    · exact h1
    · unfold rgot at h2
      rw [find_ix, hi] at h2
      cases h2
  | some i =>
    right
    have hi' := hi
    unfold ixOf at hi
    obtain ⟨h1, h2, h3⟩ := List.findIdx?_eq_some_iff_getElem.1 hi
    have h4 := isAt_iff.1 h2
    obtain ⟨s, h5, h6⟩ := h.of_ _ (List.getElem_mem h1)
    rw [h4.1, h4.2] at h5
    exact ⟨i, es[i], s, rfl, List.getElem?_eq_getElem h1, h4.1, h4.2, h5, h6⟩

/-- All stakes of a validator turned. -/
theorem Cpl.all {M : Stakes} {es : List Ent} (h : Cpl M es) {f g : Stk → Stk} (hf : ∀ s t, SameS s t → SameS (f s) (g t)) (v : Nat) : Cpl (allM M v f) (rmap g v es) := by
  have hk : (rmap g v es).map ekey = es.map ekey := by
    unfold rmap
    rw [List.map_map]
    refine List.map_congr_left fun e _ => ?_
    simp only [Function.comp]
    split <;> rfl
  have hmem : ∀ x ∈ rmap g v es, ∃ e ∈ es, x.v = e.v ∧ x.d = e.d ∧ x.s = if e.v = v then g e.s else e.s := fun x hx => by
    unfold rmap at hx
    obtain ⟨e, he, rfl⟩ := List.mem_map.1 hx
    refine ⟨e, he, ?_⟩
    split <;> exact ⟨rfl, rfl, rfl⟩
  refine ⟨by rw [hk]; exact h.nd, fun x hx => ?_, fun x hx => ?_, fun v' d' s hs => ?_⟩
  · obtain ⟨e, he, h1, h2, -⟩ := hmem x hx
    rw [h1, h2]; exact h.bd e he
  · obtain ⟨e, he, h1, h2, h3⟩ := hmem x hx
    obtain ⟨s, h4, h5⟩ := h.of_ e he
    rw [h1, h2, h3]
    unfold allM
    split
    · exact ⟨f s, by rw [h4]; rfl, hf _ _ h5⟩
    · exact ⟨s, h4, h5⟩
  · have : ∃ s0, M v' d' = some s0 := by
      unfold allM at hs
      split at hs
      · cases hm : M v' d' with
        | none => rw [hm] at hs; cases hs
        | some s0 => exact ⟨s0, rfl⟩
      · exact ⟨s, hs⟩
    obtain ⟨s0, h0⟩ := this
    obtain ⟨e, he, h1, h2⟩ := h.to_ v' d' s0 h0
    refine ⟨if e.v = v then ⟨e.v, e.d, g e.s⟩ else e, List.mem_map.2 ⟨e, he, rfl⟩, ?_, ?_⟩ <;> split <;> assumption
theorem nodup_ix {es : List Ent} (h : (es.map ekey).Nodup) {i j : Nat} {e x : Ent} (hi : es[i]? = some e) (hj : es[j]? = some x) (hv : x.v = e.v) (hd : x.d = e.d) : i = j := by
  refine (List.getElem?_inj (l := es.map ekey) ?_ h).1 ?_
  · rw [List.length_map]; exact (List.getElem?_eq_some_iff.1 hi).1
  · rw [List.getElem?_map, List.getElem?_map, hi, hj]
    unfold ekey
    simp [hv, hd]
/-- One stake turned. -/
theorem Cpl.set {M : Stakes} {es : List Ent} (h : Cpl M es) {i : Nat} {e : Ent} (hi : es[i]? = some e) {s t : Stk} (hs : SameS s t) : Cpl (putM M e.v e.d s) (es.set i ⟨e.v, e.d, t⟩) := by
  have hl := (List.getElem?_eq_some_iff.1 hi).1
  have hk : (es.set i ⟨e.v, e.d, t⟩).map ekey = es.map ekey := by
    refine List.ext_getElem? fun j => ?_
    rw [List.getElem?_map, List.getElem?_map, List.getElem?_set]
    split
    · rename_i q
      subst q
      rw [hi]
      rfl
    · rfl
  have hmem : ∀ x ∈ es.set i ⟨e.v, e.d, t⟩, x = ⟨e.v, e.d, t⟩ ∨ (x ∈ es ∧ ¬ (x.v = e.v ∧ x.d = e.d)) := fun x hx => by
    obtain ⟨j, hj⟩ := List.mem_iff_getElem?.1 hx
    rw [List.getElem?_set] at hj
    split at hj
    · exact .inl (Option.some.inj hj).symm
    · rename_i q
      exact .inr ⟨List.mem_of_getElem? hj, fun c => q (nodup_ix h.nd hi hj c.1 c.2)⟩
  refine ⟨by rw [hk]; exact h.nd, fun x hx => ?_, fun x hx => ?_, fun v' d' s' hs' => ?_⟩
  · rcases hmem x hx with rfl | ⟨h1, -⟩
    · exact h.bd e (List.mem_of_getElem? hi)
    · exact h.bd x h1
  · rcases hmem x hx with rfl | ⟨h1, h2⟩
    · exact ⟨s, by unfold putM; rw [if_pos ⟨rfl, rfl⟩], hs⟩
    · obtain ⟨s0, h3, h4⟩ := h.of_ x h1
      exact ⟨s0, by unfold putM; rw [if_neg h2]; exact h3, h4⟩
  · unfold putM at hs'
    split at hs'
    · rename_i q
      exact ⟨⟨e.v, e.d, t⟩, List.mem_iff_getElem?.2 ⟨i, by rw [List.getElem?_set_self hl]⟩, q.1.symm, q.2.symm⟩
    · rename_i q
      obtain ⟨x, h1, h2, h3⟩ := h.to_ v' d' s' hs'
      obtain ⟨j, hj⟩ := List.mem_iff_getElem?.1 h1
      refine ⟨x, List.mem_iff_getElem?.2 ⟨j, ?_⟩, h2, h3⟩
      rw [List.getElem?_set_ne]
      · exact hj
      · intro c
        subst c
        rw [hi] at hj
        cases hj
        exact q ⟨h2.symm, h3.symm⟩
/-- A new stake. -/
theorem Cpl.snoc {M : Stakes} {es : List Ent} (h : Cpl M es) {v d : Nat} (hv : v < B64) (hd : d < B64) (hn : M v d = none) {s t : Stk} (hs : SameS s t) : Cpl (putM M v d s) (es ++ [⟨v, d, t⟩]) := by
  refine ⟨?_, fun x hx => ?_, fun x hx => ?_, fun v' d' s' hs' => ?_⟩
  · rw [List.map_append, List.nodup_append]
    refine ⟨h.nd, by simp, fun a ha b hb => ?_⟩
    simp only [List.map_cons, List.map_nil, List.mem_singleton] at hb
    subst hb
    obtain ⟨e, he, rfl⟩ := List.mem_map.1 ha
    intro c
    unfold ekey at c
    injection c with c1 c2
    obtain ⟨s0, h1, -⟩ := h.of_ e he
    simp only at c1 c2
    rw [c1, c2, hn] at h1
    cases h1
  · rcases List.mem_append.1 hx with h1 | h1
    · exact h.bd x h1
    · rw [List.mem_singleton] at h1
      subst h1
      exact ⟨hv, hd⟩
  · rcases List.mem_append.1 hx with h1 | h1
    · obtain ⟨s0, h3, h4⟩ := h.of_ x h1
      refine ⟨s0, ?_, h4⟩
      unfold putM
      rw [if_neg]
      · exact h3
      · intro c
        rw [c.1, c.2, hn] at h3
        cases h3
    · rw [List.mem_singleton] at h1
      subst h1
      exact ⟨s, by unfold putM; rw [if_pos ⟨rfl, rfl⟩], hs⟩
  · unfold putM at hs'
    split at hs'
    · rename_i q
      exact ⟨⟨v, d, t⟩, by simp, q.1.symm, q.2.symm⟩
    · obtain ⟨x, h1, h2, h3⟩ := h.to_ v' d' s' hs'
      exact ⟨x, List.mem_append_left _ h1, h2, h3⟩
/-- A stake taken away. -/
theorem Cpl.del {M : Stakes} {es : List Ent} (h : Cpl M es) {i : Nat} {e : Ent} (hi : es[i]? = some e) : Cpl (delM M e.v e.d) (es.take i ++ es.drop (i + 1)) := by
  rw [← List.eraseIdx_eq_take_drop_succ]
  have hmem : ∀ x, x ∈ es.eraseIdx i ↔ (x ∈ es ∧ ¬ (x.v = e.v ∧ x.d = e.d)) := fun x => by
    rw [List.mem_eraseIdx_iff_getElem?]
    constructor
    · rintro ⟨j, hj, hx⟩
      exact ⟨List.mem_of_getElem? hx, fun c => hj (nodup_ix h.nd hi hx c.1 c.2).symm⟩
    · rintro ⟨h1, h2⟩
      obtain ⟨j, hj⟩ := List.mem_iff_getElem?.1 h1
      refine ⟨j, fun c => ?_, hj⟩
      subst c
      rw [hi] at hj
      cases hj
      exact h2 ⟨rfl, rfl⟩
  refine ⟨List.Pairwise.sublist ((List.eraseIdx_sublist es i).map ekey) h.nd, fun x hx => h.bd x ((hmem x).1 hx).1, fun x hx => ?_, fun v' d' s' hs' => ?_⟩
  · obtain ⟨h1, h2⟩ := (hmem x).1 hx
    obtain ⟨s0, h3, h4⟩ := h.of_ x h1
    exact ⟨s0, by unfold delM; rw [if_neg h2]; exact h3, h4⟩
  · unfold delM at hs'
    split at hs'
    · cases hs'
    · rename_i q
      obtain ⟨x, h1, h2, h3⟩ := h.to_ v' d' s' hs'
      exact ⟨x, (hmem x).2 ⟨h1, fun c => q ⟨by rw [← h2, c.1], by rw [← h3, c.2]⟩⟩, h2, h3⟩
theorem Cpl.del_none {M : Stakes} {es : List Ent} (h : Cpl M es) {v d : Nat} (hn : M v d = none) : Cpl (delM M v d) es := by
  have e : ∀ v' d', delM M v d v' d' = M v' d' := fun v' d' => by
    unfold delM
    split
    · rename_i q; rw [q.1, q.2, hn]
    · rfl
  exact ⟨h.nd, h.bd, fun x hx => by rw [e]; exact h.of_ x hx, fun v' d' s hs => by rw [e] at hs; exact h.to_ v' d' s hs⟩

/-! Sums. -/
def sumL : List (Nat × Nat) → Rat
  | [] => 0
  | q :: l => tQ q + sumL l
theorem tQ_foldl (l : List (Nat × Nat)) (a : Nat × Nat) : tQ (l.foldl addR a) = tQ a + sumL l := by
  induction l generalizing a with
  | nil => unfold sumL; simp only [List.foldl_nil]; grind
  | cons q l ih =>
    rw [List.foldl_cons, ih, tQ_add, show sumL (q :: l) = tQ q + sumL l from rfl]
    generalize tQ a = x
    generalize tQ q = y
    generalize sumL l = z
    grind
theorem can_foldl (l : List (Nat × Nat)) (a : Nat × Nat) (h : Can a) : Can (l.foldl addR a) := by
  induction l generalizing a with
  | nil => exact h
  | cons q l ih => exact ih _ (can_add _ _)
theorem sumL_perm {l k : List (Nat × Nat)} (h : l.Perm k) : sumL l = sumL k := by
  induction h with
  | nil => rfl
  | cons x _ ih => unfold sumL; rw [ih]
  | swap x y l =>
    show tQ y + (tQ x + sumL l) = tQ x + (tQ y + sumL l)
    generalize tQ x = a
    generalize tQ y = b
    generalize sumL l = z
    grind
  | trans _ _ h1 h2 => rw [h1, h2]
theorem rsum_filter (f : Stk → Nat × Nat) (v : Nat) (es : List Ent) (a : Nat × Nat) : es.foldl (fun a e => if e.v = v then addR a (f e.s) else a) a = ((es.filter (fun e => e.v == v)).map (fun e => f e.s)).foldl addR a := by
  induction es generalizing a with
  | nil => rfl
  | cons e es ih =>
    rw [List.foldl_cons, ih]
    by_cases q : e.v = v
    · rw [if_pos q, List.filter_cons_of_pos (by simp [q])]; rfl
    · rw [if_neg q, List.filter_cons_of_neg (by simp [q])]
theorem sumL_congr {α : Type} {l : List α} {f g : α → Nat × Nat} (h : ∀ x ∈ l, tQ (f x) = tQ (g x)) : sumL (l.map f) = sumL (l.map g) := by
  induction l with
  | nil => rfl
  | cons x l ih =>
    simp only [List.map_cons, sumL]
    rw [h x List.mem_cons_self, ih fun y hy => h y (List.mem_cons_of_mem _ hy)]
/-- The sum over the map's delegators is the list's. -/
theorem Cpl.sum {M : Stakes} {es : List Ent} (h : Cpl M es) {f : Stk → Nat × Nat} (hf : ∀ s t, SameS s t → tQ (f s) = tQ (f t)) {v : Nat} {ds : List Nat} (hd : Dels M v ds) : ds.foldl (fun a d => addR a (f (got M v d))) (0, 1) = rsum f v es := by
  have hp : ds.Perm ((es.filter (fun e => e.v == v)).map (·.d)) := by
    refine (List.perm_ext_iff_of_nodup ?_ ?_).2 fun d => ?_
    · exact hd.1.imp fun h => Nat.ne_of_lt h
    · have h1 := h.nd
      rw [List.Nodup, List.pairwise_map] at h1
      have h2 := List.Pairwise.filter (fun e : Ent => e.v == v) h1
      rw [List.Nodup, List.pairwise_map]
      refine List.Pairwise.imp_of_mem (fun {a b} ha hb hab c => hab ?_) h2
      have ha := (List.mem_filter.1 ha).2
      have hb := (List.mem_filter.1 hb).2
      simp only [beq_iff_eq] at ha hb
      unfold ekey
      rw [ha, hb, c]
    · rw [hd.2 d, List.mem_map]
      constructor
      · rintro ⟨h1, h2⟩
        cases hm : M v d with
        | none => rw [hm] at h2; cases h2
        | some s =>
          obtain ⟨e, he, e1, e2⟩ := h.to_ v d s hm
          exact ⟨e, List.mem_filter.2 ⟨he, by simp [e1]⟩, e2⟩
      · rintro ⟨e, he, rfl⟩
        obtain ⟨h1, h2⟩ := List.mem_filter.1 he
        simp only [beq_iff_eq] at h2
        obtain ⟨s, h3, -⟩ := h.of_ e h1
        rw [h2] at h3
        exact ⟨(h.bd e h1).2, by rw [h3]; rfl⟩
  have e1 : ds.foldl (fun a d => addR a (f (got M v d))) (0, 1) = (ds.map (fun d => f (got M v d))).foldl addR (0, 1) := by rw [List.foldl_map]
  have e2 : rsum f v es = ((es.filter (fun e => e.v == v)).map (fun e => f e.s)).foldl addR (0, 1) := rsum_filter f v es (0, 1)
  rw [e1, e2]
  refine Can.eq (can_foldl _ _ can_one) (can_foldl _ _ can_one) ?_
  rw [tQ_foldl, tQ_foldl, sumL_perm (hp.map _), List.map_map]
  congr 1
  refine sumL_congr fun e he => ?_
  obtain ⟨h1, h2⟩ := List.mem_filter.1 he
  simp only [beq_iff_eq] at h2
  obtain ⟨s, h3, h4⟩ := h.of_ e h1
  simp only [Function.comp]
  unfold got
  rw [← h2, h3]
  exact hf _ _ h4

end Go.Proofs.YtimcnhlcepemjaaGreatDoor
