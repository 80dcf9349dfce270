-- Written by pack2.py: this session's texts and the printer's, pruned.
import Derived.Test.YtagkhoeidjlahaaDoorCSe2
import Derived.Test.YtagkhoeidjlahaaDoorCSe3
import Derived.LoopIn
import Derived.LoopNIn
import Derived.Outline
import Derived.OwnWalkIn
import Derived.RangeFuncBound
import Derived.RangeFuncCalls
import Derived.RangeFuncLeaves
import Derived.RangeFuncNested
import Derived.Shelf.Abstract
import Derived.TacticsInMore
import Derived.Test.YtagkhoeidjlahaaDoorCSe9
namespace Go.Proofs.YtagkhoeidjlahaaDoor.G
open Go.RowKit Go.Proofs.YtagkhoeidjlahaaDoorW.PrintWords Go.Proofs.YtagkhoeidjlahaaDoorW.PrintLast Go.Proofs.YtagkhoeidjlahaaDoorW.PrintMore
attribute [local go_sem] max2_int min2_int max_two min_two max_three min_three max_four min_four
set_option linter.unusedVariables false
set_option linter.unusedSimpArgs false
section pob
open Go.Shelf
attribute [local go_sem] Oper.semAt_some
set_option maxHeartbeats 4000000 in
set_option maxRecDepth 100000 in
theorem seq_calls {l N : Nat} {w0 : World} {J : List (List Int) → World → Prop} (Y : Yl l N w0 J) (hN : N ≤ 1000000) (kids : List S36) (hcnt : cntL kids ≤ 1000) (k0 : Int) (s0 : ByteArray) (c0 : Int) (A : Option Addr) (c g : Nat) (W : World)
  (hC : Kd.C k36 w0 A kids.length kids) (hc : kids.length ≤ c) (hbox : W.heap[g]? = some (.cells #[.int .i64 k0, .string s0, .int .i64 c0, .slice A kids.length c] 36 (0, 0))) (hJ : J [] W) (hNl : (posKids [] 0 kids).length ≤ N) :
  CallsIn Fence.wide 3 Tryd.prog 102 #[.func (.yield l) #[] #[], .pointer (some ⟨g, 0, none⟩)] W fun e W' => (∃ v, e = .returned v) ∧ J (posKids [] 0 kids) W' := by
 have hu36 := Tryd.underlying36
 have hm := hC.2.1
 have q0 := (blk_cell hbox 0).trans rfl
 have q1 := (blk_cell hbox 1).trans rfl
 have q2 := (blk_cell hbox 2).trans rfl
 have q3 := (blk_cell hbox 3).trans rfl
 have HR := Aside0.mk hC
 have HC := Aside0.mk hc
 have HJ := Aside0.mk hJ
 have HN := Aside0.mk hNl
 clear hbox hC hc hJ hNl
 refine callsIn_of_wp Tryd.func102 rfl trivial ?_ rfl
 simp only [Tryd.ntmps102, List.size_toArray, List.length_cons, List.length_nil, Nat.reduceAdd, Nat.reduceSub, Array.replicate_succ, Array.replicate_zero, List.push_toArray, List.append_toArray, List.nil_append, List.cons_append]
 gi_wp2_with (first | ((refine ⟨trivial, ?_⟩); gi_at_call 103; refine (callsIn_wide.2 (walk_calls Y hN 1000 kids hcnt k0 s0 c0 A c (.slice none 0 0) [] [] W HR.out HC.out (Kd.R_nil _ _ _ _ _) HJ.out (by simpa using HN.out) (by simp))).mono ?_; rintro e w2 ⟨rfl, hj, hk⟩; have HJ2 := Aside0.mk hj; clear hj hk))
 go_end0
 exact ⟨⟨_, rfl⟩, by simpa using HJ2.out⟩
structure Rng (w0 w : World) (N : Nat) (I : List (List Int) → World → Prop) : Prop where
 below : ∀ {pre : List (List Int)} {W : World}, I pre W → Below w0.heap.size w0 W
 step : ∀ {pre : List (List Int)} {W W' : World}, I pre W → Below W.heap.size W W' → I pre W'
 put : ∀ {pre : List (List Int)} {W : World} {l : Nat} {r r' : Loop}, l = w.heap.size + 1 → I pre W → W.heap[l]? = some (.loop r) → I pre (W.putObj l (.loop r'))
def Keep2 (W W' : World) : Prop := Keep W W' ∧ ∀ (k : Nat) (o : Obj), W.heap[k]? = some o → o.isCells = false → W'.heap[k]? = some o
theorem keep_putLoop {W : World} {l : Nat} {r r' : Loop} (h : W.heap[l]? = some (.loop r)) : Keep W (W.putObj l (.loop r')) := by
 refine ⟨by simp [World.putObj], fun k cells t fr hc ht => ?_⟩
 by_cases hk : l = k
 ·
  subst hk; rw [h] at hc; simp at hc
 ·
  rw [World.putObj_heap_other (Ne.symm hk)]; exact hc
theorem wpIn_rangeFunc_rows {n : Nat} {P : Program} {g : Operand} {p : Tmp} {assign body : Code} {Q : Exit → Act → World → Prop} {a : Act} {w w0 : World} {f : FuncId} {lb : Array Value} {N : Nat} {I : List (List Int) → World → Prop} {all : List (List Int)}
  (hg : a.eval g = .func (.func f) #[] lb) (eg : ∀ args w, (callFunc f args).run P w = .ok (.enter f args) w) (R : Rng w0 w N I) (h0 : I [] w) (a₁ : Value → Act)
  (hprog : P = Tryd.prog)
  (hassign : ∀ (l m : Nat) (v : Value) (W : World) (K : Act → World → Prop), K (a₁ v) W → assign.wpIn (Fence.wide.inRound l) m P (Exit.then K (fun _ _ _ => False)) { tmps := a.tmps.setIfInBounds p v, defers := [] } W)
  (hbody : ∀ (l m : Nat) (pre : List (List Int)) (xs : List Int) (v : Value) (W : World), l = w.heap.size + 1 → (∃ r, W.heap[l]? = some (.loop r)) → W.heap[w.heap.size]? = some (.deferred (some [])) → I pre W → pre.length < N → Kd.R (Kd.int .i64) 3 W w0.heap.size (fun _ => True) v xs → body.wpIn (Fence.wide.inRound l) m P (fun e _ W' => e = .normal ∧ I (pre ++ [xs]) W' ∧ Keep2 W W') (a₁ v) W)
  (hseq : ∀ (l : Nat) (J : List (List Int) → World → Prop) (W : World), Yl l N w0 J → Below w.heap.size w W → J [] W → CallsIn Fence.wide (n - 1) P f (#[.func (.yield l) #[] #[]] ++ lb) W fun e W' => (∃ v, e = .returned v) ∧ J all W')
  (hdone : ∀ (D : Nat) (W : World), D = w.heap.size → I all W → W.heap[D]? = some (.deferred (some [])) → Q .normal { a with defers := { target := .collected D, args := #[] } :: a.defers } W) :
  (Code.rangeFunc g #[p] assign body).wpIn Fence.wide n P Q a w := by
 refine wpIn_rangeFunc ?_
 intro fn hfn
 obtain ⟨rec, hrec⟩ : ∃ rec : LoopState → Option Code → Loop, rec = fun st pe => { state := st, pending := pe, fn, tmps := a.tmps, params := #[p], assign, body, defers := w.heap.size } := ⟨_, rfl⟩
 obtain ⟨W1, hW1⟩ : ∃ W1, (w.alloc (.deferred (some []))).alloc (.loop (rec .ready none)) = W1 := ⟨_, rfl⟩
 have hL1 : W1.heap[w.heap.size + 1]? = some (.loop (rec .ready none)) := by
  rw [← hW1]; have := World.alloc_heap_new (w.alloc (.deferred (some []))) (.loop (rec .ready none)); rwa [World.size_alloc] at this
 have hK1 : W1.heap[w.heap.size]? = some (.deferred (some [])) := by
  rw [← hW1]; exact (Below.heap_alloc _ _ _ (by simp)).trans (World.alloc_heap_new w _)
 have hb1 : Below w.heap.size w W1 := by
  rw [← hW1]; exact (((Below.refl _ w).alloc (Nat.le_refl _) _).alloc (by simp) _)
 have hI1 : I [] W1 := R.step h0 hb1
 refine ⟨w.heap.size + 1, [{ target := .collected w.heap.size, args := #[] }], W1, { target := .fn (.func f) lb, args := #[.func (.yield (w.heap.size + 1)) #[] #[]] }, W1, f,
  #[.func (.yield (w.heap.size + 1)) #[] #[]] ++ lb, W1, ?_, ?_, ?_, ?_, ?_, ?_⟩
 ·
  rw [← hW1, hrec]; exact run_enterLoop_outer _ _ _ _ _
 ·
  simp only [resolve, hg]
  simp [go_sem]
 ·
  intro f' hf'; trivial
 ·
  simp [invoke, go_sem, eg]
 ·
  intro h; simp [Fence.wide] at h
 ·
  refine (hseq (w.heap.size + 1) (fun pre W => I pre W ∧ W.heap[w.heap.size + 1]? = some (.loop (rec .ready none)) ∧ W.heap[w.heap.size]? = some (.deferred (some []))) W1 ?_ hb1 ⟨hI1, hL1, hK1⟩).mono ?_
  ·
   refine ⟨fun h => R.below h.1, fun h hb => ⟨R.step h.1 hb, (hb.block _ (Array.getElem?_eq_some_iff.1 h.2.1).1).trans h.2.1, (hb.block _ (Array.getElem?_eq_some_iff.1 h.2.2).1).trans h.2.2⟩, ?_⟩
   rintro m pre xs v W ⟨hi, hl, hk⟩ hlen hR
   have hlt : w.heap.size + 1 < W.heap.size := (Array.getElem?_eq_some_iff.1 hl).1
   have hy : (Instr.yield (w.heap.size + 1) #[v]).run Tryd.prog W = .ok (.round (w.heap.size + 1) fn (a.tmps.setIfInBounds p v) assign body) W := by
    have := run_yield (P := Tryd.prog) (args := #[v]) hl (by rw [hrec]; rfl)
    simpa [hrec] using this
   refine ⟨fn, _, assign, body, hy, roundIn_of_wpIn hfn ?_⟩
   rw [hprog] at hassign hbody
   refine hassign _ m v W _ ?_
   clear hy
   refine ⟨_, run_beginRound hl (by rw [hrec]), ?_⟩
   have hl2 : (W.putObj (w.heap.size + 1) (.loop { rec .ready none with state := .busy })).heap[w.heap.size + 1]? = some (.loop { rec .ready none with state := .busy }) := World.putObj_heap_same hlt
   have hk2 : (W.putObj (w.heap.size + 1) (.loop { rec .ready none with state := .busy })).heap[w.heap.size]? = some (.deferred (some [])) := (World.putObj_heap_other (by omega)).trans hk
   have hp := keep_putLoop (r' := { rec .ready none with state := .busy }) hl
   refine wpIn_mono (hbody _ m pre xs v _ rfl ⟨_, hl2⟩ hk2 (R.put rfl hi hl) hlen (Keep.R hp hR)) ?_
   rintro e a3 W3 ⟨rfl, hi3, hk3⟩
   have hl3 := hk3.2 _ _ hl2 rfl
   have hd3 := hk3.2 _ _ hk2 rfl
   have hr := run_endRound (P := Tryd.prog) none hl3
   refine ⟨_, _, hr, rfl, ⟨R.put rfl hi3 hl3, ?_, (World.putObj_heap_other (by omega)).trans hd3⟩, hp.trans (hk3.1.trans (keep_putLoop hl3))⟩
   have := World.putObj_heap_same (o := .loop (rec .ready none)) (Array.getElem?_eq_some_iff.1 hl3).1
   simpa [hrec] using this
  ·
   rintro e W2 ⟨⟨v, rfl⟩, hi, hl, hk⟩
   refine ⟨none, _, by have := run_endLoop (P := P) hl (by rw [hrec]; simp); rw [hrec] at this; exact this, ?_⟩
   exact hdone _ _ rfl (R.put rfl hi hl) ((World.putObj_heap_other (by omega)).trans hk)
theorem N_appendIn {α : Type} {F : Fence} {n : Nat} {P : Program} {ops : Array Oper} {rest : List Oper} {o : Oper} {a : Act} {Q : Exit → Act → World → Prop} (d : Kd α) {w0 W : World} (base : Nat) (hgd : o.guard = none) (s x : Operand) (t e : TypeId) (z : Value) (bytes : Nat)
  (ho : o.op = .call { callee := .builtin .append, args := #[s, x], argTypes := #[t, t] })
  (ht : P.underlying t = some (.slice e)) (hinfo : (P.info? e).map (fun i => (i.zero, i.size, i.bytes)) = some (some z, d.sz, bytes)) (hz : z.cells.size = d.sz) (hs0 : 0 < d.sz) (hb0 : 0 < bytes)
  (v : Value) (xs : List α) (p : α) (cs : List Value) (ok okp : Nat → Prop) (hs : a.eval s = v) (hx : a.eval x = .slice (some ⟨W.heap.size, 0, none⟩) 1 1) (hp : Kd.FK d W okp p cs) (hokp : ∀ k, okp k → ok k ∧ some k ≠ v.ownBlock) (hfresh : ∀ k, W.heap.size ≤ k → ok k)
  (HO : Kd.N d e W base ok v xs) (HB : Below base w0 W) (hbase : base ≤ W.heap.size) (hl : (xs.length + 1) * bytes ≤ 140737488355328)
  (h : ∀ v1 w1, Kd.N d e w1 base ok v1 (xs ++ [p]) → Below base w0 w1 → W.grownBy w1 v.ownBlock → (v1.ownBlock = v.ownBlock ∨ ∃ b, v1.ownBlock = some b ∧ W.heap.size ≤ b) → wpListIn F n P ops Q rest (a.put o.dst v1) w1) :
  wpListIn F n P ops Q (o :: rest) a (W.alloc (.cells cs.toArray e)) := by
 obtain ⟨h0, rows, hlr, hR, hf⟩ := HO
 obtain ⟨_, inner, hown, hr⟩ := Kd.raw_any hR
 obtain ⟨i0, hi, hzz⟩ := Option.map_eq_some_iff.1 hinfo
 simp only [Prod.mk.injEq] at hzz
 obtain ⟨hz0, hz1, hz2⟩ := hzz
 have hFK := Kd.FK_raw hp
 have hlen : rows.length + 1 ≤ 140737488355328 := Nat.le_trans (Nat.le_mul_of_pos_right _ hb0) (by rw [hlr]; exact hl)
 refine wpListIn_plain hgd fun K hK' => ?_
 obtain ⟨v1, w1, hrun, hown1, hg, _, hat⟩ := run_append_own_at (P := P) (w := W.alloc (.cells cs.toArray e)) base t o.type e i0 z d.sz bytes ht hi hz0 hz1 hz2 hz hs0 v rows.length inner (hown.alloc _) ⟨W.heap.size, 0, none⟩ 1 1 cs (by rw [hFK.2.1]; simp)
  (by simpa using World.news_of_block (cs := cs.toArray) (t := e) (fr := (0, 0)) (heap_alloc_new W (.cells cs.toArray e))) hFK.2.2 (by simp only [maxLen]; omega) (by rw [hlr]; exact hl) (by simp; omega)
 unfold Oper.wpIn
 refine ⟨?_, ?_⟩
 ·
  simp [Oper.about, ho, resolve, Target.leads, Sem.run_pure]
 ·
  rw [Oper.semAt_plain F _ _ (by rw [ho]; intro c hc'; cases hc')]
  simp [execOp, ho, resolve, invoke, builtin, hs, hx, hrun, Result.andThen]
  have hat' : v1.ownBlock = v.ownBlock ∨ ∃ b, v1.ownBlock = some b ∧ W.heap.size ≤ b := by
   rcases hat with hat | hat
   ·
    exact .inl hat
   ·
    exact .inr ⟨_, hat, by simp⟩
  have hg' : W.grownBy w1 v.ownBlock := World.grownBy.trans (World.grownBy_alloc W _ _) hg
  have hRr : (Kd.raw d.sz).R e w1 base (fun _ => True) v1 (rows ++ [cs]) := Kd.R_appended (okp := fun _ => False) (fun _ _ => trivial) (by simpa using hr) hFK (fun _ hk => hk.elim) (fun _ _ => trivial) hown1 hg' hat'
  exact hK' _ _ (h v1 w1 (Kd.N_appended h0 hlr hf (ys := [p]) (news := [cs]) rfl (fun j y c hy hc => by
   rcases j with _ | j
   ·
    simp only [List.getElem?_cons_zero, Option.some.injEq] at hy hc
    rw [← hy, ← hc]; exact hp
   ·
    simp at hy) hokp hfresh hRr hg' hat') ((HB.alloc hbase _).grown hg (by simp; omega) (own_base hown)) hg' hat')
theorem row_FK {W : World} {base : Nat} {v rv : Value} {xs : List Int} {ok ok' : Nat → Prop} {rows : List (List Int)} (h : Kd.R (Kd.int .i64) 3 W base (fun _ => True) v xs) (hN : Kd.N (Kd.slice 3 (Kd.int .i64)) 26 W base ok rv rows)
  (hok : ∀ k cells, W.heap[k]? = some (.cells cells 3 (0, 0)) → base ≤ k → ok' k) : Kd.FK (Kd.slice 3 (Kd.int .i64)) W (fun k => ok' k ∧ some k ≠ rv.ownBlock) xs [v] := by
 have h2 : Kd.R (Kd.int .i64) 3 W base (fun k => ok' k ∧ some k ≠ rv.ownBlock) v xs := by
  refine Kd.R_mono (Kd.R_bound h) fun k hk => ?_
  obtain ⟨_, hb, _, q, hq, cells, hc⟩ := hk
  have : q = 3 := by simpa [Kd.int, Kd.scalar] using hq
  subst this
  refine ⟨hok k cells hc hb, fun e => ?_⟩
  obtain ⟨cells2, hc2⟩ := Kd.N_typed hN k e.symm
  rw [hc] at hc2
  simp at hc2
 obtain ⟨A, c, rfl⟩ := Kd.R_slice h2
 exact Kd.FK_slice_mk (Kd.R_reads' h2).2.1 (Kd.R_F h2)
set_option maxHeartbeats 4000000 in
set_option maxRecDepth 100000 in
theorem append_calls {w0 : World} (kids : List S36) (hcnt : cntL kids ≤ 1000) (k0 : Int) (s0 : ByteArray) (c0 : Int) (A : Option Addr) (c g : Nat) (W : World)
  (hC : Kd.C k36 w0 A kids.length kids) (hc : kids.length ≤ c) (hbox : W.heap[g]? = some (.cells #[.int .i64 k0, .string s0, .int .i64 c0, .slice A kids.length c] 36 (0, 0))) (hb : Below w0.heap.size w0 W) (hNl : (posKids [] 0 kids).length ≤ 1000000) :
  Calls Tryd.prog 101 #[.slice none 0 0, .func (.func 102) #[] #[.pointer (some ⟨g, 0, none⟩)]] W fun e W' => ∃ v, e = .returned v ∧ Kd.N (Kd.slice 3 (Kd.int .i64)) 26 W' w0.heap.size (fun k => w0.heap.size ≤ k) v (posKids [] 0 kids) ∧ Below w0.heap.size w0 W' := by
 refine (callsIn_wide (n := 4)).1 (callsIn_of_wp_marks Tryd.func101 rfl trivial ?_ rfl)
 simp only [Tryd.ntmps101, List.size_toArray, List.length_cons, List.length_nil, Nat.reduceAdd, Nat.reduceSub, Array.replicate_succ, Array.replicate_zero, List.push_toArray, List.append_toArray, List.nil_append, List.cons_append]
 have HBX := Aside0.mk hbox
 clear hbox
 gi_wp2
 have hlg : g < W.heap.size := blk_lt HBX.out
 refine wpIn_rangeFunc_rows (N := 1000000) (all := posKids [] 0 kids) (w0 := w0) rfl (fun args w => by simp [go_sem]) (I := fun pre Wx => ∃ vb, Wx.heap[W.heap.size]? = some (.cells #[vb] 46 (0, 0)) ∧ Kd.N (Kd.slice 3 (Kd.int .i64)) 26 Wx w0.heap.size (fun k => w0.heap.size ≤ k ∧ k ≠ W.heap.size ∧ k ≠ W.heap.size + 1 ∧ k ≠ W.heap.size + 2) vb pre ∧ Below w0.heap.size w0 Wx) ?_ ?_ (fun v => { tmps := #[Value.slice none 0 0, Value.func (Fn.func 102) #[] #[Value.pointer (some { block := g, off := 0 })], Value.pointer (some { block := W.heap.size, off := 0 }), undef, Value.slice none 0 0, v, Value.func (Fn.func 102) #[] #[Value.pointer (some { block := g, off := 0 })], v, undef, undef, undef, undef, undef], defers := [] }) rfl ?_ ?_ ?_ ?_
 ·
  refine ⟨fun h => h.choose_spec.2.2, ?_, ?_⟩
  ·
   rintro pre X X' ⟨vb, h1, h2, h3⟩ hb'
   exact ⟨vb, blk_below h1 hb', Kd.N_below h2 hb', below_step h3 hb'⟩
  ·
   rintro pre X l r r' hl ⟨vb, h1, h2, h3⟩ hr
   have hl' : l = W.heap.size + 2 := by rw [hl]; simp
   refine ⟨vb, (World.putObj_heap_other (by omega)).trans h1, Kd.N_step h2 (fun k hk _ => World.putObj_heap_other (by omega)), ?_⟩
   refine h3.trans ⟨rfl, rfl, rfl, by simp, fun i hi => World.putObj_heap_other (by have := hb.size; omega)⟩
 ·
  exact ⟨_, blk_new _ _, Kd.N_nil _ _ _ _ _, below_alloc hb _⟩
 ·
  intro l m v X K hK
  gi_wp2
  exact hK
 ·
  intro l m pre xs v X hl hlp hdp hI hlen hR
  obtain ⟨vb, h1, h2, h3⟩ := hI
  have hl2 : l = W.heap.size + 2 := by rw [hl]; simp
  subst hl2
  obtain ⟨rl, hrl⟩ := hlp
  have hlW := blk_lt hrl
  simp only [World.size_alloc] at hdp
  have hw0W := hb.size
  have hFK := row_FK (ok' := fun k => w0.heap.size ≤ k ∧ k ≠ W.heap.size ∧ k ≠ W.heap.size + 1 ∧ k ≠ W.heap.size + 2) hR h2 (fun k cells hc hk => ?okk)
  case okk =>
   refine ⟨hk, ?_, ?_, ?_⟩
   ·
    rintro rfl; rw [h1] at hc; simp at hc
   ·
    rintro rfl; rw [hdp] at hc; simp at hc
   ·
    rintro rfl; rw [hrl] at hc; simp at hc
  obtain ⟨Av, cv, rfl⟩ := Kd.R_slice hR
  obtain ⟨Ab, cb, rfl⟩ := Kd.N_slice h2
  have qb := (blk_cell h1 0).trans rfl
  have qz := blk_frozen h1 0
  have HX := Aside0.mk h1
  have HNv := Aside0.mk h2
  have HBv := Aside0.mk h3
  have HFv := Aside0.mk hFK
  clear h1 h2 h3 hFK
  gi_wp2_with (first | (gi_at_builtin; refine N_appendIn (Kd.slice 3 (Kd.int .i64)) (w0 := w0) w0.heap.size rfl (.tmp 8) (.tmp 10) 46 26 (.slice none 0 0) 24 rfl Tryd.underlying46 info26 rfl (by decide) (by omega) (.slice Ab pre.length cb) pre xs [.slice Av xs.length cv] (fun k => w0.heap.size ≤ k ∧ k ≠ W.heap.size ∧ k ≠ W.heap.size + 1 ∧ k ≠ W.heap.size + 2) (fun k => (w0.heap.size ≤ k ∧ k ≠ W.heap.size ∧ k ≠ W.heap.size + 1 ∧ k ≠ W.heap.size + 2) ∧ some k ≠ (Value.slice Ab pre.length cb).ownBlock) rfl rfl HFv.out (fun _ hk => hk) (fun k hk => by omega) HNv.out HBv.out (by omega) (by omega) ?_; intro v1 w1 hN1 hb1 hg1 hat1; obtain ⟨Ac, cc, rfl⟩ := Kd.N_slice hN1; have HX1 := Aside0.mk (blk_grown HX.out hg1 (Kd.N_ne HNv.out HX.out (by decide))); have qb1 := (blk_cell HX1.out 0).trans rfl; have qf1 := blk_frozen HX1.out 0; have HN1 := Aside0.mk hN1; have HB1 := Aside0.mk hb1; have HG1 := Aside0.mk hg1; clear hN1 hb1 hg1 hat1))
  have hN1' : Kd.N (Kd.slice 3 (Kd.int .i64)) 26 w1 w0.heap.size (fun k => w0.heap.size ≤ k ∧ k ≠ W.heap.size ∧ k ≠ W.heap.size + 1 ∧ k ≠ W.heap.size + 2) (.slice Ac (pre.length + 1) cc) (pre ++ [xs]) := by simpa using HN1.out
  refine ⟨⟨_, ?_, Kd.N_mono (Kd.N_far hN1' (fun k hk => hk.2.1) _) (fun k hk => by simpa using hk), below_set HB1.out hw0W⟩, ⟨by have := HG1.out.size; simpa [World.setCell] using this, fun k cells t fr hc ht => ?_⟩, fun k o hc ho => ?_⟩
  ·
   have := blk_set HX1.out 0 (Value.slice Ac (pre.length + 1) cc)
   simpa using this
  ·
   have hkB : k ≠ W.heap.size := by rintro rfl; rw [HX.out] at hc; rcases ht with rfl | rfl <;> simp at hc
   have hkR : some k ≠ (Value.slice Ab pre.length cb).ownBlock := by
    intro he
    obtain ⟨cells2, hc2⟩ := Kd.N_typed HNv.out k he.symm
    rw [hc] at hc2
    rcases ht with rfl | rfl <;> simp at hc2
   rw [Below.heap_setCell _ _ _ _ hkB]
   exact (HG1.out.block k (blk_lt hc) hkR).trans hc
  ·
   have hkB : k ≠ W.heap.size := by rintro rfl; rw [HX.out] at hc; simp at hc; subst hc; simp [Obj.isCells] at ho
   have hkR : some k ≠ (Value.slice Ab pre.length cb).ownBlock := by
    intro he
    obtain ⟨cells2, hc2⟩ := Kd.N_typed HNv.out k he.symm
    rw [hc] at hc2
    simp at hc2
    subst hc2
    simp [Obj.isCells] at ho
   rw [Below.heap_setCell _ _ _ _ hkB]
   exact (HG1.out.block k (blk_lt hc) hkR).trans hc
 ·
  intro l J X Y hbX hJ
  refine (seq_calls Y (by omega) kids hcnt k0 s0 c0 A c g X hC hc ?_ hJ hNl)
  exact blk_below (blk_alloc HBX.out _) hbX
 ·
  intro D X hD hI hX
  obtain ⟨vb, h1, h2, h3⟩ := hI
  have qb := (blk_cell h1 0).trans rfl
  have HNv := Aside0.mk h2
  have HBv := Aside0.mk h3
  clear h1 h2 h3
  gi_wp2
  have hD' : D = W.heap.size + 1 := by rw [hD]; simp
  refine ⟨by simp, .inl ⟨D, _, rfl, run_takeDeferred hX, ?_⟩⟩
  refine ⟨_, results_tmp rfl _ _ _, _, rfl, Kd.N_mono (Kd.N_step HNv.out (fun k hk _ => World.putObj_heap_other (by omega))) (fun _ hk => hk.1), ?_⟩
  exact HBv.out.trans ⟨rfl, rfl, rfl, by simp, fun i hi => World.putObj_heap_other (by have := hb.size; omega)⟩
end pob
def position_All.f (k : Nat) (a0_0 : Int) (a0_1 : ByteArray) (a0_2 : Int) (l0_3 : List (S36)) : Option (List (List Int) × Int) := (node_Valid.f k a0_0 a0_1 a0_2 l0_3).bind fun v => if v = true then some (posKids [] 0 l0_3, 0) else some ([], 1)
set_option maxHeartbeats 4000000 in

theorem position_All.calls (k : Nat) (a0_0 : Int) (a0_1 : ByteArray) (a0_2 : Int) (A0_3 : Option Addr) (c0_3 : Nat) (l0_3 : List (S36)) (r1 : List (List Int)) (r2 : Int) (w : World) (hr0_3 : Kd.C k36 w A0_3 l0_3.length l0_3) (hc0_3 : l0_3.length ≤ c0_3) (h : position_All.f k a0_0 a0_1 a0_2 l0_3 = some (r1, r2)) :
  Calls Tryd.prog 37 #[.agg #[.int .i64 a0_0, .string a0_1, .int .i64 a0_2, .slice A0_3 l0_3.length c0_3]] w fun e w' => ∃ v0_ : Value, e = .returned (.tuple #[v0_, .int .i64 r2]) ∧ Kd.N (Kd.slice 3 (Kd.int .i64)) 26 w' w.heap.size (fun k_ => (w.heap.size ≤ k_)) v0_ r1 ∧ Below w.heap.size w w' := by
 have hu36 := Tryd.underlying36
 obtain ⟨b, hv, h⟩ := Option.bind_eq_some_iff.mp h
 have hm := hr0_3.2.1
 have HV := Aside0.mk hv
 have HR := Aside0.mk hr0_3
 have HC := Aside0.mk hc0_3
 have HX := Aside0.mk (blk_new w (.cells #[.int .i64 a0_0, .string a0_1, .int .i64 a0_2, .slice A0_3 l0_3.length c0_3] 36))
 have HB := Aside0.mk (below_alloc (Below.refl w.heap.size w) (.cells #[.int .i64 a0_0, .string a0_1, .int .i64 a0_2, .slice A0_3 l0_3.length c0_3] 36))
 clear hr0_3 hc0_3 hv
 have HH := Aside0.mk h
 clear h
 go_enter Tryd.func37, Tryd.ntmps37
 go_wp2_with fail
 refine (node_Valid.calls k a0_0 a0_1 a0_2 A0_3 c0_3 l0_3 b _ (Kd.C_alloc HR.out _) HC.out HV.out).mono ?_
 rintro e w2 ⟨rfl, hb⟩
 have HX2 := Aside0.mk (blk_below HX.out hb)
 have HB2 := Aside0.mk (below_step HB.out hb)
 clear hb HX HB
 have q0 := (blk_cell HX2.out 0).trans rfl
 have q1 := (blk_cell HX2.out 1).trans rfl
 have q2 := (blk_cell HX2.out 2).trans rfl
 have q3 := (blk_cell HX2.out 3).trans rfl
 cases b with
 | false =>
  have h := HH.out
  simp at h
  obtain ⟨rfl, rfl⟩ := h
  go_wp2
  go_ret2
  exact ⟨_, rfl, Kd.N_nil _ _ _ _ _, HB2.out⟩
 | true =>
  have h := HH.out
  simp at h
  obtain ⟨rfl, rfl⟩ := h
  have hcn : cntL l0_3 ≤ 1000 := by
   have h1 := HV.out
   unfold node_Valid.f at h1
   split at h1
   ·
    obtain ⟨⟨b, l'⟩, h2, h3⟩ := Option.bind_eq_some_iff.mp h1
    simp at h3
    subst h3
    have := chk_cnt _ _ _ _ _ h2
    rw [cnt_eq] at this
    simp at this
    omega
   ·
    simp at h1
  have HCn := Aside0.mk hcn
  have HLen := Aside0.mk (posKids_len [] 0 l0_3)
  clear hcn
  go_wp2_with fail
  refine (positions_calls w2).mono ?_
  rintro e w3 ⟨rfl, rfl⟩
  have HX3 := Aside0.mk (blk_new w2 (.cells #[.int .i64 a0_0, .string a0_1, .int .i64 a0_2, .slice A0_3 l0_3.length c0_3] 36))
  have HB3 := Aside0.mk (below_alloc HB2.out (.cells #[.int .i64 a0_0, .string a0_1, .int .i64 a0_2, .slice A0_3 l0_3.length c0_3] 36))
  go_wp2_with fail
  refine (collect_calls (append_calls (w0 := w) l0_3 HCn.out a0_0 a0_1 a0_2 A0_3 c0_3 w2.heap.size _ HR.out HC.out HX3.out HB3.out (by have := HCn.out; have := HLen.out; omega))).mono ?_
  rintro e w4 ⟨v, rfl, hN, hB⟩
  have HN := Aside0.mk hN
  have HB4 := Aside0.mk hB
  clear hN hB
  go_wp2
  go_ret2
  exact ⟨_, rfl, HN.out, HB4.out⟩
def cmp_isNaN_int.f (a0 : Int) : Option (Bool) := some (a0 != a0)
set_option maxHeartbeats 8000000 in
set_option maxRecDepth 100000 in
theorem cmp_isNaN_int.calls (a0 : Int) (r : Bool) (w : World) (h : cmp_isNaN_int.f a0 = some r) :
  Calls Tryd.prog 112 #[.int .i64 a0] w fun e w' => e = .returned (.bool r) ∧ Drawn0 w w' := by
 have H : (some (a0 != a0)) = some r := h
 clear h
 obtain rfl := Option.some.inj H
 go_enter Tryd.func112, Tryd.ntmps112
 go_wp2
 go_ret
 exact ⟨by first | rfl | (simp; done) | (simp [*]; done), by repeat (first | exact Drawn0.refl _ | apply Drawn0.step)⟩
end Go.Proofs.YtagkhoeidjlahaaDoor.G
