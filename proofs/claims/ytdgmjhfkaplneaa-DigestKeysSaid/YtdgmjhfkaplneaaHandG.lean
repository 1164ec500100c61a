/- The contract of the reference's Fresh, by hand. Condition: the text is shorter than memory. -/
import Derived.Test.YtdgmjhfkaplneaaPAllx0
import Derived.Test.YtdgmjhfkaplneaaHandS
import Derived.Test.YtdgmjhfkaplneaaHandF
import Derived.Lib.FrozenHead
namespace Go.Proofs.Ytdgmjhfkaplneaa.PAll
open Go.RowKit Go.Proofs.YtdgmjhfkaplneaaW.PrintWords Go.Proofs.YtdgmjhfkaplneaaW.PrintLast Go.Proofs.YtdgmjhfkaplneaaW.PrintMore
set_option linter.unusedVariables false
set_option linter.unusedSimpArgs false

theorem at_add (g j : Nat) : (⟨g, 0, none⟩ : Addr).add j = ⟨g, j, none⟩ := by
  unfold Addr.add
  by_cases h0 : j = 0
  · subst h0; rfl
  · rw [if_neg h0]; simp

/-- One byte is appended to a row that bears a conversion's mark. -/
theorem app_byte {P : Program} (W : World) (t e g cap n : Nat) (ht : P.underlying t = some (.slice e)) (i : TypeInfo) (hi : P.info? e = some i) (hz : i.zero = some (.int .u8 0)) (hs1 : i.size = 1) (hb1 : i.bytes = 1)
    (cur : Array Value) (hg : W.heap[g]? = some (.cells cur e (cap, cap + 1))) (hcs : cur.size = cap) (s : List Int) (hn : s.length = n) (hcell : ∀ j, j < n → cur[j]? = some (.int .u8 (s.getD j 0))) (hnc : n ≤ cap)
    (b : Nat) (hb : W.cell? ⟨b, 0, none⟩ = some (.int .u8 0)) (hlen : n + 1 ≤ 140737488355328) :
    ∃ A c W1, (Builtin.append_ #[t, t] t #[.slice (some ⟨g, 0, none⟩) n cap, .slice (some ⟨b, 0, none⟩) 1 1]).run P W = .ok (.slice A (n + 1) c) W1 ∧ n + 1 ≤ c ∧ Kd.C (Kd.int .u8) W1 A (n + 1) (s ++ [0]) ∧ (∀ base, base ≤ g → base ≤ W.heap.size → Below base W W1) ∧ (∀ k o, k ≠ g → W.heap[k]? = some o → W1.heap[k]? = some o) := by
  have hl1 : ∀ j, j < n + 1 → ∀ (f : Nat → Option Value), (∀ j, j < n → f j = some (.int .u8 (s.getD j 0))) → f n = some (.int .u8 0) → f j = some (.int .u8 ((s ++ [0]).getD j 0)) := by
    intro j hj f h1 h2
    by_cases hjn : j < n
    · rw [h1 j hjn]
      congr 2
      simp [List.getD_eq_getElem?_getD, List.getElem?_append, hn, hjn]
    · obtain rfl : j = n := by omega
      rw [h2]
      congr 2
      simp [List.getD_eq_getElem?_getD, List.getElem?_append, hn]
  by_cases hroom : n + 1 ≤ cap
  · refine ⟨some ⟨g, 0, none⟩, cap, W.setCell ⟨g, n, none⟩ (.int .u8 0), ?_, hroom, ?_, ?_, ?_⟩
    · have hf := run_firstCells_some (P := P) W 1 1 ⟨b, 0, none⟩ 1 1 [.int .u8 0] rfl (fun j v hj => by
        cases j with
        | zero =>
          have : v = .int .u8 0 := by simpa using hj.symm
          subst this
          exact hb
        | succ j => simp at hj)
      have hc : W.cell? ⟨g, n, none⟩ = some cur[n] := by simp [World.cell?, hg]
      have hfro : W.frozen? ⟨g, n, none⟩ = false := by
        simp only [World.frozen?, hg, Bool.and_eq_false_iff, decide_eq_false_iff_not]
        left
        omega
      have hst : (store ⟨g, n, none⟩ (.int .u8 0)).run P W = .ok () (W.setCell ⟨g, n, none⟩ (.int .u8 0)) := by
        rw [run_store P W _ _ _ rfl, hc]
        simp [hfro]
      have hst2 : (storeCells ⟨g, n, none⟩ [.int .u8 0] 0).run P W = .ok () (W.setCell ⟨g, n, none⟩ (.int .u8 0)) := by
        simp only [storeCells]
        have e0 : (⟨g, n, none⟩ : Addr).add 0 = ⟨g, n, none⟩ := rfl
        rw [e0]
        simp [hst]
      simp [Builtin.append_, run_underlying ht, sizeOf, typeInfo, hi, hs1, Builtin.lenOf, hroom, hf, at_add, hst2]
    · refine Kd.C_of_reads (d := (0 : Int)) (h1 := fun _ => rfl) ⟨by simp [hn], by omega, fun _ => ⟨_, rfl, fun j hj => ?_⟩⟩
      rw [at_add]
      refine hl1 j hj (fun j => (W.setCell ⟨g, n, none⟩ (.int .u8 0)).cell? ⟨g, j, none⟩) (fun j hj => ?_) ?_
      · have hne : ¬ (n = j) := by omega
        simp [World.cell?, World.setCell, Array.getElem?_modify, hg, Array.getElem?_setIfInBounds, hne, hcell j hj]
      · have hlt : n < cur.size := by omega
        simp [World.cell?, World.setCell, Array.getElem?_modify, hg, Array.getElem?_setIfInBounds, hlt]
    · intro base h1 h2
      exact Below.setCell (Below.refl _ _) h1 _
    · intro k o hk h
      exact (Below.heap_setCell W ⟨g, n, none⟩ (.int .u8 0) k hk).trans h
  · have hr := run_append_grow (P := P) W t t e i (.int .u8 0) ht hi hz ⟨g, 0, none⟩ n cap (s.map (Value.int .u8)) (by rw [List.length_map, hn, hs1, Nat.mul_one]) (fun j v hj => by
        have hj' : j < n := by
          have := (List.getElem?_eq_some_iff.1 hj).1
          rwa [List.length_map, hn] at this
        rw [at_add]
        have h1 := hcell j hj'
        have h2 : v = .int .u8 (s.getD j 0) := by
          rw [List.getElem?_map] at hj
          have hl : j < s.length := by omega
          rw [List.getElem?_eq_getElem hl] at hj
          simp only [Option.map_some, Option.some.injEq] at hj
          rw [← hj, List.getD_eq_getElem?_getD, List.getElem?_eq_getElem hl]
          rfl
        rw [h2]
        simpa [World.cell?, hg] using h1) ⟨b, 0, none⟩ 1 1 [.int .u8 0] (by rw [hs1]; rfl) (fun j v hj => by
        cases j with
        | zero =>
          have : v = .int .u8 0 := by simpa using hj.symm
          subst this
          exact hb
        | succ j => simp at hj) (by omega) (by omega) (growslice_fits (by omega) (by rw [hb1]; omega))
    have hge := grownCap_ge W (n + 1) cap e
    generalize grownCap W (n + 1) cap e = c at hr hge
    refine ⟨_, _, _, hr, hge, ?_, ?_, ?_⟩
    · refine Kd.C_of_reads (d := (0 : Int)) (h1 := fun _ => rfl) ⟨by simp [hn], by omega, fun _ => ⟨_, rfl, fun j hj => ?_⟩⟩
      rw [at_add]
      have hnew := heap_alloc_new W.drew (.cells ((s.map (Value.int .u8)).toArray ++ [Value.int .u8 0].toArray ++ Builtin.zeroCells (Value.int .u8 0).cells (c - (n + 1))) e)
      have hnew' : (W.drew.alloc (.cells ((s.map (Value.int .u8)).toArray ++ [Value.int .u8 0].toArray ++ Builtin.zeroCells (Value.int .u8 0).cells (c - (n + 1))) e)).heap[W.heap.size]? = some (.cells ((s.map (Value.int .u8)).toArray ++ [Value.int .u8 0].toArray ++ Builtin.zeroCells (Value.int .u8 0).cells (c - (n + 1))) e) := hnew
      refine hl1 j hj (fun j => (W.drew.alloc (.cells ((s.map (Value.int .u8)).toArray ++ [Value.int .u8 0].toArray ++ Builtin.zeroCells (Value.int .u8 0).cells (c - (n + 1))) e)).cell? ⟨W.heap.size, j, none⟩) (fun j hj => ?_) ?_
      · have hl : j < s.length := by omega
        simp only [World.cell?, hnew']
        simp [Array.getElem?_append, hn, hj, List.getD_eq_getElem?_getD, List.getElem?_eq_getElem hl]
        rw [if_pos (by omega)]
        simp [List.getElem?_append, hl]
      · simp only [World.cell?, hnew']
        simp [Array.getElem?_append, hn]
    · intro base h1 h2
      exact (Below.refl base W).drew.alloc h2 _
    · intro k o hk h
      have hlt := (Array.getElem?_eq_some_iff.1 h).1
      exact (heap_alloc_old W.drew _ hlt).trans h

/-- []byte(s), and a zero byte behind it. -/
theorem app_bytes {P : Program} (W : World) (s : ByteArray) (ht : P.underlying 25 = some (.slice 5)) (i : TypeInfo) (hi : P.info? 5 = some i) (hz : i.zero = some (.int .u8 0)) (hs1 : i.size = 1) (hb1 : i.bytes = 1) (hlen : s.size + 1 ≤ 140737488355328) (g b : Nat) (hg : g = W.heap.size) (hb : b = W.heap.size + 1) :
    ∃ A c W1, (Builtin.append_ #[25, 25] 25 #[.slice (some ⟨g, 0, none⟩) s.size (grownCap W s.size 0 5), .slice (some ⟨b, 0, none⟩) 1 1]).run P ((Lib.bytesWorld W 5 s).alloc (.cells #[.int .u8 0] 5)) = .ok (.slice A (s.size + 1) c) W1 ∧ s.size + 1 ≤ c ∧ Kd.C (Kd.int .u8) W1 A (s.size + 1) (bytesOf s ++ [0]) ∧ Below W.heap.size W W1 ∧ (∀ (k : Nat) (o : Obj), W.heap[k]? = some o → W1.heap[k]? = some o) := by
  subst hg
  subst hb
  have hsz := Lib.bytesWorld_size W 5 s
  have hnew := Lib.bytesWorld_at_new W 5 s
  have hcap : (Lib.bytesCells W 5 s).size = grownCap W s.size 0 5 := by
    have h1 := grownCap_ge W s.size 0 5
    have h2 : s.data.size = s.size := rfl
    simp [Lib.bytesCells, h2]
    omega
  rw [hcap] at hnew
  have hg' : ((Lib.bytesWorld W 5 s).alloc (.cells #[.int .u8 0] 5)).heap[W.heap.size]? = some (.cells (Lib.bytesCells W 5 s) 5 (grownCap W s.size 0 5, grownCap W s.size 0 5 + 1)) :=
    (heap_alloc_old _ _ (by omega)).trans hnew
  have hb' : ((Lib.bytesWorld W 5 s).alloc (.cells #[.int .u8 0] 5)).cell? ⟨W.heap.size + 1, 0, none⟩ = some (.int .u8 0) := by
    have h := heap_alloc_new (Lib.bytesWorld W 5 s) (.cells #[.int .u8 0] 5)
    rw [hsz] at h
    simp [World.cell?, h]
  obtain ⟨A, c, W1, h1, h2, h3, h4, h5⟩ := app_byte (P := P) ((Lib.bytesWorld W 5 s).alloc (.cells #[.int .u8 0] 5)) 25 5 W.heap.size (grownCap W s.size 0 5) s.size ht i hi hz hs1 hb1 (Lib.bytesCells W 5 s) hg' hcap (bytesOf s) (bytesOf_length s) (fun j hj => by
    have h := Lib.bytesWorld_cell W 5 s j hj
    have h' : j < s.data.toList.length := by rw [data_length]; exact hj
    have e : (bytesOf s).getD j 0 = ((s.data.toList.getD j 0).toNat : Int) := by
      simp [bytesOf, List.getD_eq_getElem?_getD, List.getElem?_eq_getElem h']
    rw [e]
    simpa [World.cell?, hnew] using h) (grownCap_ge _ _ _ _) (W.heap.size + 1) hb' hlen
  refine ⟨A, c, W1, h1, h2, h3, ?_, ?_⟩
  · refine Below.trans (below_alloc (bytes_below (Below.refl _ _) (Nat.le_refl _) 5 s) _) (h4 _ (Nat.le_refl _) ?_)
    simp [hsz]
    omega
  · intro k o hk
    have hlt := (Array.getElem?_eq_some_iff.1 hk).1
    refine h5 k o (by omega) ?_
    exact (heap_alloc_old _ _ (by omega)).trans ((Lib.bytesWorld_at_old W 5 s k hlt).trans hk)

/-- An append whose run is known. -/
theorem wpList_app {P : Program} {ops : Array Oper} {rest : List Oper} {o : Oper} {a : Act} {Q : Exit → Act → World → Prop} {w w1 : World} (hgd : o.guard = none) (s x : Operand) (t : TypeId)
    (ho : o.op = .call { callee := .builtin .append, args := #[s, x], argTypes := #[t, t] }) (v u r : Value) (hs : a.eval s = v) (hx : a.eval x = u)
    (hrun : (Builtin.append_ #[t, t] o.type #[v, u]).run P w = .ok r w1) (h : wpList P ops Q rest (a.put o.dst r) w1) : wpList P ops Q (o :: rest) a w :=
  wpList_plain hgd fun _ hK => by
    unfold Oper.wp execOp
    simp only [ho, resolve, invoke, builtin, Sem.run_bind, Sem.run_pure, Result.andThen_ok, List.map_toArray, List.map_cons, List.map_nil, hs, hx, hrun]
    exact hK _ _ h

def kauditref23_Fresh.f (a0 : ByteArray) : Option (Int × Int) := if a0.size < 140737488355327 then (kauditref23_Sum.f (a0.size + 10) 0 0 (bytesOf a0)).bind fun x => (kauditref23_Sum.f (a0.size + 10) 0 0 (bytesOf a0 ++ [0])).bind fun y => some (x, y) else none

set_option maxHeartbeats 800000 in
set_option maxRecDepth 100000 in
theorem kauditref23_Fresh.calls (a0 : ByteArray) (r1 r2 : Int) (w : World) (h : kauditref23_Fresh.f a0 = some (r1, r2)) :
    Calls Try.prog 18 #[.string a0] w fun e w' => e = .returned (.agg #[.int .u64 r1, .int .u64 r2]) ∧ Below w.heap.size w w' := by
  unfold kauditref23_Fresh.f at h
  by_cases hs : a0.size < 140737488355327
  · rw [if_pos hs] at h
    have hu24 := Try.underlying24
    have hu9 := Try.underlying9
    have kb := fun (s : ByteArray) (W : World) => print_bytes (P := Try.prog) 9 25 5 Try.underlying9 Try.underlying25 Try.underlying5 s W
    obtain ⟨x, hx, h⟩ := Option.bind_eq_some_iff.1 h
    obtain ⟨y, hy, h⟩ := Option.bind_eq_some_iff.1 h
    simp only [Option.some.injEq, Prod.mk.injEq] at h
    obtain ⟨rfl, rfl⟩ := h
    have hc1 : Aside0 (∀ (W : World) (b : Nat), b = W.heap.size → Calls Try.prog 10 #[.agg #[.int .u64 0, .int .u64 0], .slice (some ⟨b, 0, none⟩) a0.size (grownCap W a0.size 0 5)] (Lib.bytesWorld W 5 a0) fun e w' => e = .returned (.int .u64 x) ∧ Below (Lib.bytesWorld W 5 a0).heap.size (Lib.bytesWorld W 5 a0) w') := ⟨fun W b hb => by
      subst hb
      have h := kauditref23_Sum.calls (a0.size + 10) 0 0 (some ⟨W.heap.size, 0, none⟩) (grownCap W a0.size 0 5) (bytesOf a0) x (Lib.bytesWorld W 5 a0) (bytes_C W a0 (by omega)) (by rw [bytesOf_length]; exact grownCap_ge _ _ _ _) hx
      rw [bytesOf_length] at h
      exact h⟩
    have hc2 : Aside0 (∀ (W : World) (A : Option Addr) (c : Nat), a0.size + 1 ≤ c → Kd.C (Kd.int .u8) W A (a0.size + 1) (bytesOf a0 ++ [0]) → Calls Try.prog 10 #[.agg #[.int .u64 0, .int .u64 0], .slice A (a0.size + 1) c] W fun e w' => e = .returned (.int .u64 y) ∧ Below W.heap.size W w') := ⟨fun W A c hc hC => by
      have hl : (bytesOf a0 ++ [0]).length = a0.size + 1 := by rw [List.length_append, bytesOf_length]; rfl
      rw [← hl] at hC hc ⊢
      exact kauditref23_Sum.calls (a0.size + 10) 0 0 A c (bytesOf a0 ++ [0]) y W hC hc hy⟩
    obtain ⟨i, hi, hzz⟩ : ∃ i, Try.prog.info? 5 = some i ∧ i.zero = some (.int .u8 0) ∧ i.size = 1 ∧ i.bytes = 1 := ⟨_, rfl, rfl, rfl, rfl⟩
    have happ : Aside0 (∀ (W : World) (g b : Nat), g = W.heap.size → b = W.heap.size + 1 → ∃ A c W1, (Builtin.append_ #[25, 25] 25 #[.slice (some ⟨g, 0, none⟩) a0.size (grownCap W a0.size 0 5), .slice (some ⟨b, 0, none⟩) 1 1]).run Try.prog ((Lib.bytesWorld W 5 a0).alloc (.cells #[.int .u8 0] 5)) = .ok (.slice A (a0.size + 1) c) W1 ∧ a0.size + 1 ≤ c ∧ Kd.C (Kd.int .u8) W1 A (a0.size + 1) (bytesOf a0 ++ [0]) ∧ Below W.heap.size W W1 ∧ (∀ (k : Nat) (o : Obj), W.heap[k]? = some o → W1.heap[k]? = some o)) := ⟨fun W g b hg hb => app_bytes W a0 Try.underlying25 i hi hzz.1 hzz.2.1 hzz.2.2 (by omega) g b hg hb⟩
    clear hx hy hi hzz
    go_enter Try.func18, Try.ntmps18
    go_wp2_with (first | (go_at_call 10; with_reducible refine (hc1.out _ _ ?hb).mono ?_; (case hb => simp); rintro e w1 ⟨rfl, hB1⟩; have E1 := Aside0.mk (blk_bytes a0 (blk_new w _) hB1); have HB1 := Aside0.mk (below_bytes a0 (below_alloc (Below.refl _ _) _) hB1); clear hB1; obtain ⟨A1, c1, W1, hap0, hc', hC', hB', hk'⟩ := happ.out w1 w1.heap.size (Lib.bytesWorld w1 5 a0).heap.size rfl (Lib.bytesWorld_size w1 5 a0); have E2 := Aside0.mk (hk' _ _ E1.out); have HB2 := Aside0.mk (below_step HB1.out hB'); have HC2 := Aside0.mk hc'; have HR2 := Aside0.mk hC'; have hap := Aside0.mk hap0; clear hc' hC' hB' hk' hap0) | ((with_reducible refine gate_dst (N := 11) rfl ?_); refine wpList_app rfl (.tmp 9) (.tmp 10) 25 rfl _ _ _ rfl rfl hap.out ?_) | (go_at_call 10; with_reducible refine (hc2.out _ _ _ HC2.out HR2.out).mono ?_; rintro e w2 ⟨rfl, hB2⟩; have E3 := Aside0.mk (blk_below E2.out hB2); have HB3 := Aside0.mk (below_step HB2.out hB2); clear hB2; have c0 := (blk_cell E3.out 0).trans rfl; have c1 := (blk_cell E3.out 1).trans rfl; have f0 := blk_frozen E3.out 0; have f1 := blk_frozen E3.out 1))
    refine bodyPost_ret (results_cell_row rfl _ _ w.heap.size 24 #[.int .u64 x, .int .u64 y] (0, 0) _ rfl (blk_put (blk_put E3.out 0 _ rfl) 1 _ rfl) Try.underlying24 rfl (by kernel_rfl)) rfl ?_
    exact ⟨rfl, below_set (below_set HB3.out (Nat.le_refl _)) (Nat.le_refl _)⟩
  · rw [if_neg hs] at h
    cases h

end Go.Proofs.Ytdgmjhfkaplneaa.PAll
